import Derived.Test.YtbpphaeianpdpaaPzTlP2
import Derived.Test.YtbpphaeianpdpaaPzTlGmA
import Derived.Test.YtbpphaeianpdpaaPzTlGenA
import Derived.Test.YtbpphaeianpdpaaPzTlPwA
import Derived.Test.YtbpphaeianpdpaaProg
import Derived.Test.YtbpphaeianpdpaaPzTlAli
set_option linter.all false
set_option maxRecDepth 20000
namespace TL
open Go Go.Proofs
theorem jJ:Try.prog.follows .mixedOrders=true:=by kernel_rfl
theorem ed:Tp Try.prog 29 false 1 24 (.slice none 0 0):=Tp.of (by kernel_rfl)
theorem kJ:Try.f26.body.isNone=false:=rfl
theorem lN:(Try.f26.name== "runtime.NumGoroutine")=false:=by decide+kernel
theorem pe:Try.f48.body.isNone=false:=rfl
theorem ou:(Try.f48.name== "runtime.NumGoroutine")=false:=by decide+kernel
theorem pC:Try.f69.body.isNone=false:=rfl
theorem oN:(Try.f69.name== "runtime.NumGoroutine")=false:=by decide+kernel
theorem qb:Try.f71.body.isNone=false:=rfl
theorem pr:(Try.f71.name== "runtime.NumGoroutine")=false:=by decide+kernel
theorem pt:Try.f85.body.isNone=false:=rfl
theorem oY:(Try.f85.name== "runtime.NumGoroutine")=false:=by decide+kernel
theorem ot:Try.f86.body.isNone=false:=rfl
theorem pu:(Try.f86.name== "runtime.NumGoroutine")=false:=by decide+kernel
theorem iP(w0:World)(x:Int):
    Calls Try.prog 70 #[vi x] w0 (λee w=>ee= .returned (vb false)/\cl w0.heap.size w0 w):=by
 refine ar Try.func70 rfl nq ?_
 have bH:=aU.start w0
 refine a7 (a6 rfl (ma (vb false) (a8 (a7 (a6 rfl (mi x (mi x (lx (ch (m:=x) (n:=x) rfl rfl) (ma (vb (!(decide (x=x)))) (a8 (au (vs:=[vb (!(decide (x=x)))]) Try.func70 (.tmp rfl .nil) ?_)))))))))))
 have e0:(!(decide (x=x)):Bool)=(false):=by
   simp
 exact⟨(congrArg (a₁:= !(decide (x=x))) (λ(z0:Bool)=>Ending.returned (vb z0)) e0),bH.below⟩
theorem jx(w0:World)(x:Int)(y:Int):
    Calls Try.prog 48 #[vi x,vi y] w0 (λee w=>ee= .returned (vi (if x<y then-1 else if y<x then 1 else 0))/\cl w0.heap.size w0 w):=by
 refine ar Try.func48 rfl nq ?_
 have bH:=aU.start w0
 refine a7 (a6 rfl (ai 0 (a8 (a7 (a6 rfl (mi x (lo (aZ (v:=vb false) (aE (vals:=[vi x]) Try.func70 lq l9 rfl) (iP w0 x) ?_))))))))
 intro w1 hb2
 replace hb2:=av hb2 c0
 refine ma (vb false) (a8 (a7 (a6 rfl (mi y (lo (aZ (v:=vb false) (aE (vals:=[vi y]) Try.func70 lq l9 rfl) (iP w1 y) ?_))))))
 intro w3 hb4
 replace hb4:=av hb4 c0
 refine ma (vb false) (a8 (a7 (a7 (a6 rfl (mv (vb false) (a8 (ag rfl rfl (ak (a7 (a7 (a6 rfl (mv (vb false) (a8 (ag rfl rfl ?_))))))))))))))
 refine ak (a7 (a7 (a6 rfl (mi x (mi y (lx (aW (m:=x) (n:=y) rfl rfl) (a8 ?_)))))))
 by_cases p9:x<y
 ·
  refine af rfl (dt p9) (a7 (a6 rfl (ai (-1) (a8 (au (vs:=[vi (-1)]) Try.func48 (.tmp rfl .nil) ?_)))))
  have e0:(-1:Int)=(if x<y then-1 else if y<x then 1 else 0):=by
    rw[if_pos ‹_›]
  replace bH:=bH.cn hb2
  replace bH:=bH.cn hb4
  exact⟨ri e0,bH.below⟩
 refine ag rfl (df p9) (ak (a7 (a7 (a6 rfl (mi x (mi y (lx (dW (m:=x) (n:=y) rfl rfl) (a8 ?_))))))))
 by_cases p11:y<x
 ·
  refine af rfl (dt p11) (a7 (a6 rfl (ai 1 (a8 (au (vs:=[vi 1]) Try.func48 (.tmp rfl .nil) ?_)))))
  have e0:(1:Int)=(if x<y then-1 else if y<x then 1 else 0):=by
    rw[if_neg ‹_›,if_pos ‹_›]
  replace bH:=bH.cn hb2
  replace bH:=bH.cn hb4
  exact⟨ri e0,bH.below⟩
 refine ag rfl (df p11) (ak (a7 (a6 rfl (ai 0 (a8 (au (vs:=[vi 0]) Try.func48 (.tmp rfl .nil) ?_))))))
 have e0:(0:Int)=(if x<y then-1 else if y<x then 1 else 0):=by
   rw[if_neg ‹_›,if_neg ‹_›]
 replace bH:=bH.cn hb2
 replace bH:=bH.cn hb4
 exact⟨ri e0,bH.below⟩
theorem nY(w0:World):
    Calls Try.prog 50 #[vn] w0 (λee w=>ee= .returned (vt [])/\cl w0.heap.size w0 w):=by
 refine ar Try.func50 rfl nq ?_
 have bH:=aU.start w0
 refine a7 (a6 rfl (mv vn (lx (aV (w1:=w0) bM rfl (Sl.nil:Sl c0 (is 0) _ _ ([]:List Int))) (ai 0 (a8 (a6 rfl (mv vn (mi 0 (mi 0 (lw (Value.int .u64 0) (ki (m:=0) U3 rY rfl (by decide)) (lo ?_)))))))))))
 refine bW (aE (vals:=[Value.int .u64 0]) Try.func69 pC oN rfl) (ar Try.func69 rfl nq (a7 (a6 rfl (ai 0 (a8 (a7 (ag rfl rfl (ak (a7 (a6 rfl (mv (Value.int .u64 0) (lo ?_))))))))))))
 refine bW (aE (vals:=[Value.int .u64 0]) Try.func85 pt oY rfl) (ar Try.func85 rfl nq (a7 (a6 rfl (ai 0 (a8 (a7 (a7 (a6 rfl (mv (Value.int .u64 0) (lx (dm (m:=0) (n:=4294967296) rfl rfl) (a8 (ag rfl rfl (ak ?_)))))))))))))
 refine a7 (a7 (a6 rfl (mv (Value.int .u64 0) (lx (dm (m:=0) (n:=65536) rfl rfl) (a8 (ag rfl rfl (ak (a7 (a7 (a6 rfl (mv (Value.int .u64 0) (lx (dm (m:=0) (n:=256) rfl rfl) (a8 ?_)))))))))))))
 refine ag rfl rfl (ak (a7 (a6 rfl (mi 0 (mv (Value.int .u64 0) (lw (Value.int .u8 0) (ki (m:=0) su U5 rfl (by decide)) (lw (Value.int .u8 0) (jN (i:=0) (r:=0) (b:=0) U9 rfl rfl (by decide) (by decide+kernel) (by decide)) (lw (vi 0) (ki (m:=0) U5 U3 rfl (by decide)) (lx (aY (m:=0) (n:=0) rfl rfl (by omega)) (ai 0 ?_))))))))))
 refine a8 (au (vs:=[vi 0]) Try.func85 (.tmp rfl .nil) ?_)
 refine⟨vi 0,rfl,?_⟩
 refine ai 0 (a8 (au (vs:=[vi 0]) Try.func69 (.tmp rfl .nil) ?_))
 refine⟨vi 0,rfl,?_⟩
 refine lo (bW (aE (vals:=[vn,vi 0,vi 0,vi 0]) Try.func71 qb pr rfl) (ar Try.func71 rfl nq (a7 (a6 rfl (ma (vb true) (a8 (a7 (a6 rfl (ma (vb true) (a8 (al (cS ?_))))))))))))
 refine al (a7 (a6 rfl (mi 0 (mi 0 (lx (dA (m:=0) (n:=0) rfl rfl (by omega)) (ai 0 (a8 (a7 (a7 (a6 rfl (mi 0 (lx (iQ (m:=0) (n:=12) rfl rfl) (a8 ?_)))))))))))))
 refine af rfl rfl (a7 (a6 rfl (mv vn (mi 0 (mi 0 (lo (bW (aE (vals:=[vn,vi 0,vi 0]) Try.func86 ot pu rfl) (ar Try.func86 rfl nq (a7 (a6 rfl (mi 0 ?_)))))))))))
 refine lx (aY (m:=0) (n:=1) rfl rfl (by omega)) (ai 1 (a8 (al (cS (a7 (a7 (a6 rfl (mi 1 (mi 0 (lx (aW (m:=1) (n:=0) rfl rfl) (a8 ?_)))))))))))
 refine ag rfl rfl (aD rfl (cr (vs:=[]) Try.func86 .nil ?_))
 refine⟨vt [],rfl,?_⟩
 refine a8 (au (vs:=[]) Try.func71 .nil ?_)
 refine⟨vt [],rfl,?_⟩
 refine a8 (cr (vs:=[]) Try.func50 .nil ?_)
 exact⟨rfl,bH.below⟩
theorem iu(w0:World)(a:Nat)(b:Nat)(ha:ef a)(hb:ef b):
    Calls Try.prog 26 #[Value.float .f64 a,Value.float .f64 b] w0 (λee w=>ee= .returned (vb (decide (zf a<zf b)))/\cl w0.heap.size w0 w):=by
 refine ar Try.func26 rfl nq ?_
 have bH:=aU.start w0
 have na:=lX ha
 have nb:=lX hb
 refine a7 (a6 rfl (ma (vb false) (a8 (a7 (a7 (a6 rfl (mv (Value.float .f64 a) (mv (Value.float .f64 a) (lw (vb (db a)) (gg (a:=a) rfl rfl) (mv (vb (db a)) ?_))))))))))
 have q8:¬(db a=true):=by(rw[na];decide)
 refine lv (Value.float .f64 b) (wy (Bool.eq_false_iff.2 q8)) (ao rfl) (lv (Value.float .f64 b) (wy (Bool.eq_false_iff.2 q8)) (ao rfl) (lv (vb (db b)) (wy (Bool.eq_false_iff.2 q8)) (gg (a:=b) rfl rfl) (lw (vb (db b)) (aI rfl (Bool.eq_false_iff.2 q8) rfl) (a8 ?_))))
 have p1:¬(db b=true):=by(rw[nb];decide)
 refine ag rfl (Bool.eq_false_iff.2 p1) (ak (a7 (a6 rfl (mv (Value.float .f64 a) (mv (Value.float .f64 b) (lw (vb (decide ((zf a)<(zf b)))) (lK (a:=a) (b:=b) rfl rfl (ft ‹_›) (ft ‹_›)) (ma (vb (decide ((zf a)<(zf b)))) (a8 (au (vs:=[vb (decide ((zf a)<(zf b)))]) Try.func26 (.tmp rfl .nil) ?_)))))))))
 have e0:(decide ((zf a)<(zf b)):Bool)=(decide (zf a<zf b)):=by
   rfl
 exact⟨(congrArg (a₁:=decide ((zf a)<(zf b))) (λ(z0:Bool)=>Ending.returned (vb z0)) e0),bH.below⟩
theorem m8(w0:World)(i:Int)(k:Int)(ws:List Nat)(ws_v:Value)(hws_v:Ro w0 ws_v ws)(ws_b:Nat)(hws_b:Bx c0 (is 0) w0 ws_b [ws_v])(hi:0<=i/\i<(ws.length:Int))(hk:0<=k/\k<(ws.length:Int))(hg:∀x∈ws,ef x):
    Calls Try.prog 47 #[vi i,vi k,vp ws_b 0] w0 (λee w=>ee= .returned (vi (mB ws i k))/\cl w0.heap.size w0 w):=by
 refine ar Try.func47 rfl nq ?_
 have bH:=aU.start w0
 have Rws:=hws_v.sl
 obtain⟨hi0,hi1⟩:=hi
 obtain⟨hk0,hk1⟩:=hk
 have gi:=hg _ (bu hi0 hi1)
 have gk:=hg _ (bu hk0 hk1)
 refine a7 (a6 rfl (ai 0 (a8 (a7 (al (a7 (bL c0 rfl jJ (by kernel_rfl) ?_)))))))
 intro w2 ch1
 replace hws_b:=hws_b.cn ch1
 refine qx (λw' hw'=>ae ed rfl (hws_b.bel hw') rfl) (qm (vi i) ?_)
 replace Rws:=Rws.cn ch1
 refine qx (λw' hw'=>aa (v:=ws_v) (i:=i) cG rfl rfl (Rws.bel hw') rfl (by omega) (by omega)) (qx (λw' hw'=>az (v:=ws_v) (i:=i) aL rfl (Rws.bel hw') (by omega) (by omega) (by decide) rfl) (qx (λw' hw'=>ae ed rfl (hws_b.bel hw') rfl) (qm (vi k) (qx (λw' hw'=>aa (v:=ws_v) (i:=k) cG rfl rfl (Rws.bel hw') rfl (by omega) (by omega)) (qx (λw' hw'=>az (v:=ws_v) (i:=k) aL rfl (Rws.bel hw') (by omega) (by omega) (by decide) rfl) ?_)))))
 refine dJ (v:=vb (decide (zf (gI ws i)<zf (gI ws k)))) rfl (λw' hw'=>aE (vals:=[Value.float .f64 (gI ws i),Value.float .f64 (gI ws k)]) Try.func26 kJ lN rfl) (λw' hw'=>(iu w' (gI ws i) (gI ws k) (by exact gi) (by exact gk)).mono λe w2 h2=>⟨h2.1,hw'.trans (h2.2.mono hw'.size)⟩) (qv (vb (decide (zf (gI ws i)<zf (gI ws k)))) (λw' hw'=>bh rfl) (cm ?_))
 intro w3 hc4
 replace hc4:=av hc4 c0
 by_cases p1:(decide (zf (gI ws i)<zf (gI ws k)))=true
 ·
  refine af rfl p1 (a7 (a6 rfl (ai (-1) (a8 (au (vs:=[vi (-1)]) Try.func47 (.tmp rfl .nil) ?_)))))
  have e0:(-1:Int)=(mB ws i k):=by
    exact(s9 ‹_›).symm
  replace bH:=bH.cn ch1
  replace bH:=bH.cn hc4
  exact⟨ri e0,bH.below⟩
 refine ag rfl (Bool.eq_false_iff.2 p1) (a7 (bL c0 rfl jJ (by kernel_rfl) ?_))
 intro w6 ch5
 replace hws_b:=(hws_b.cn hc4).cn ch5
 refine qx (λw' hw'=>ae ed rfl (hws_b.bel hw') rfl) (qm (vi k) ?_)
 replace Rws:=(Rws.cn hc4).cn ch5
 refine qx (λw' hw'=>aa (v:=ws_v) (i:=k) cG rfl rfl (Rws.bel hw') rfl (by omega) (by omega)) (qx (λw' hw'=>az (v:=ws_v) (i:=k) aL rfl (Rws.bel hw') (by omega) (by omega) (by decide) rfl) (qx (λw' hw'=>ae ed rfl (hws_b.bel hw') rfl) (qm (vi i) (qx (λw' hw'=>aa (v:=ws_v) (i:=i) cG rfl rfl (Rws.bel hw') rfl (by omega) (by omega)) (qx (λw' hw'=>az (v:=ws_v) (i:=i) aL rfl (Rws.bel hw') (by omega) (by omega) (by decide) rfl) ?_)))))
 refine dJ (v:=vb (decide (zf (gI ws k)<zf (gI ws i)))) rfl (λw' hw'=>aE (vals:=[Value.float .f64 (gI ws k),Value.float .f64 (gI ws i)]) Try.func26 kJ lN rfl) (λw' hw'=>(iu w' (gI ws k) (gI ws i) (by exact gk) (by exact gi)).mono λe w2 h2=>⟨h2.1,hw'.trans (h2.2.mono hw'.size)⟩) (qv (vb (decide (zf (gI ws k)<zf (gI ws i)))) (λw' hw'=>bh rfl) (cm ?_))
 intro w7 hc8
 replace hc8:=av hc8 c0
 by_cases p3:(decide (zf (gI ws k)<zf (gI ws i)))=true
 ·
  refine af rfl p3 (a7 (a6 rfl (ai 1 (a8 (au (vs:=[vi 1]) Try.func47 (.tmp rfl .nil) ?_)))))
  have e0:(1:Int)=(mB ws i k):=by
    exact(s6 ‹_› ‹_›).symm
  have C9:=cg [] (ch1.n.seq (hc4.n.seq (ch5.n.seq hc8.n)))
  replace bH:=bH.ca C9
  exact⟨ri e0,bH.below⟩
 refine ag rfl (Bool.eq_false_iff.2 p3) (ak (aq (a7 (a6 rfl (mi i (mi k (lo (aZ (v:=vi (if i<k then-1 else if k<i then 1 else 0)) (aE (vals:=[vi i,vi k]) Try.func48 pe ou rfl) (jx w7 i k) ?_))))))))
 intro w10 hb11
 replace hb11:=av hb11 c0
 refine ai (if i<k then-1 else if k<i then 1 else 0) (a8 (au (vs:=[vi (if i<k then-1 else if k<i then 1 else 0)]) Try.func47 (.tmp rfl .nil) ?_))
 have e0:(if i<k then-1 else if k<i then 1 else 0:Int)=(mB ws i k):=by
   exact(rX ‹_› ‹_›).symm
 have C12:=cg [] (ch1.n.seq (hc4.n.seq (ch5.n.seq (hc8.n.seq hb11.n))))
 replace bH:=bH.ca C12
 exact⟨ri e0,bH.below⟩
end TL
