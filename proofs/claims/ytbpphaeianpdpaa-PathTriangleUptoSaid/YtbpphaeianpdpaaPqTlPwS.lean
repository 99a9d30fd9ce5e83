import Derived.Test.YtbpphaeianpdpaaPqTlP2
import Derived.Test.YtbpphaeianpdpaaPqTlGmA
import Derived.Test.YtbpphaeianpdpaaPqTlGenA
import Derived.Test.YtbpphaeianpdpaaPqTlPwA
import Derived.Test.YtbpphaeianpdpaaProg
import Derived.Test.YtbpphaeianpdpaaPqTlAli
set_option linter.all false
set_option maxRecDepth 20000
namespace TL
open Go Go.Proofs
theorem ik:Try.prog.follows .mixedOrders=true:=by kernel_rfl
theorem dc:Tp Try.prog 29 false 1 24 (.slice none 0 0):=Tp.of (by kernel_rfl)
theorem jC:Try.f26.body.isNone=false:=rfl
theorem jk:(Try.f26.name== "runtime.NumGoroutine")=false:=by decide+kernel
theorem lN:Try.f48.body.isNone=false:=rfl
theorem mS:(Try.f48.name== "runtime.NumGoroutine")=false:=by decide+kernel
theorem mV:Try.f69.body.isNone=false:=rfl
theorem nl:(Try.f69.name== "runtime.NumGoroutine")=false:=by decide+kernel
theorem mK:Try.f71.body.isNone=false:=rfl
theorem mN:(Try.f71.name== "runtime.NumGoroutine")=false:=by decide+kernel
theorem nj:Try.f85.body.isNone=false:=rfl
theorem lV:(Try.f85.name== "runtime.NumGoroutine")=false:=by decide+kernel
theorem lU:Try.f86.body.isNone=false:=rfl
theorem mA:(Try.f86.name== "runtime.NumGoroutine")=false:=by decide+kernel
theorem g5(w0:World)(x:Int):
    Calls Try.prog 70 #[vi x] w0 (λee w=>ee= .returned (vb false)/\bZ w0.heap.size w0 w):=by
 refine am Try.func70 rfl nq ?_
 have bH:=aX.start w0
 refine a8 (a7 rfl (ma (vb false) (ab (a8 (a7 rfl (mi x (mi x (lx (d4 (m:=x) (n:=x) rfl rfl) (ma (vb (!(decide (x=x)))) (ab (ap (vs:=[vb (!(decide (x=x)))]) Try.func70 (.tmp rfl .nil) ?_)))))))))))
 have e0:(!(decide (x=x)):Bool)=(false):=by
   simp
 exact⟨(congrArg (a₁:= !(decide (x=x))) (λ(z0:Bool)=>Ending.returned (vb z0)) e0),bH.below⟩
theorem iI(w0:World)(x:Int)(y:Int):
    Calls Try.prog 48 #[vi x,vi y] w0 (λee w=>ee= .returned (vi (if x<y then-1 else if y<x then 1 else 0))/\bZ w0.heap.size w0 w):=by
 refine am Try.func48 rfl nq ?_
 have bH:=aX.start w0
 refine a8 (a7 rfl (ai 0 (ab (a8 (a7 rfl (mi x (lo (bk (v:=vb false) (aF (vals:=[vi x]) Try.func70 jE jO rfl) (g5 w0 x) ?_))))))))
 intro w1 hb2
 replace hb2:=ay hb2 c0
 refine ma (vb false) (ab (a8 (a7 rfl (mi y (lo (bk (v:=vb false) (aF (vals:=[vi y]) Try.func70 jE jO rfl) (g5 w1 y) ?_))))))
 intro w3 hb4
 replace hb4:=ay hb4 c0
 refine ma (vb false) (ab (a8 (a8 (a7 rfl (mv (vb false) (ab (aj rfl rfl (ao (a8 (a8 (a7 rfl (mv (vb false) (ab (aj rfl rfl ?_))))))))))))))
 refine ao (a8 (a8 (a7 rfl (mi x (mi y (lx (b7 (m:=x) (n:=y) rfl rfl) (ab ?_)))))))
 by_cases p9:x<y
 ·
  refine ae rfl (dt p9) (a8 (a7 rfl (ai (-1) (ab (ap (vs:=[vi (-1)]) Try.func48 (.tmp rfl .nil) ?_)))))
  have e0:(-1:Int)=(if x<y then-1 else if y<x then 1 else 0):=by
    rw[if_pos ‹_›]
  replace bH:=bH.cn hb2
  replace bH:=bH.cn hb4
  exact⟨ri e0,bH.below⟩
 refine aj rfl (df p9) (ao (a8 (a8 (a7 rfl (mi x (mi y (lx (dh (m:=x) (n:=y) rfl rfl) (ab ?_))))))))
 by_cases p11:y<x
 ·
  refine ae rfl (dt p11) (a8 (a7 rfl (ai 1 (ab (ap (vs:=[vi 1]) Try.func48 (.tmp rfl .nil) ?_)))))
  have e0:(1:Int)=(if x<y then-1 else if y<x then 1 else 0):=by
    rw[if_neg ‹_›,if_pos ‹_›]
  replace bH:=bH.cn hb2
  replace bH:=bH.cn hb4
  exact⟨ri e0,bH.below⟩
 refine aj rfl (df p11) (ao (a8 (a7 rfl (ai 0 (ab (ap (vs:=[vi 0]) Try.func48 (.tmp rfl .nil) ?_))))))
 have e0:(0:Int)=(if x<y then-1 else if y<x then 1 else 0):=by
   rw[if_neg ‹_›,if_neg ‹_›]
 replace bH:=bH.cn hb2
 replace bH:=bH.cn hb4
 exact⟨ri e0,bH.below⟩
theorem lB(w0:World):
    Calls Try.prog 50 #[vn] w0 (λee w=>ee= .returned (vt [])/\bZ w0.heap.size w0 w):=by
 refine am Try.func50 rfl nq ?_
 have bH:=aX.start w0
 refine a8 (a7 rfl (mv vn (lx (bn (w1:=w0) cI rfl (Sl.nil:Sl c0 (is 0) _ _ ([]:List Int))) (ai 0 (ab (a7 rfl (mv vn (mi 0 (mi 0 (lw (Value.int .u64 0) (iR (m:=0) U3 px rfl (by decide)) (lo ?_)))))))))))
 refine bu (aF (vals:=[Value.int .u64 0]) Try.func69 mV nl rfl) (am Try.func69 rfl nq (a8 (a7 rfl (ai 0 (ab (a8 (aj rfl rfl (ao (a8 (a7 rfl (mv (Value.int .u64 0) (lo ?_))))))))))))
 refine bu (aF (vals:=[Value.int .u64 0]) Try.func85 nj lV rfl) (am Try.func85 rfl nq (a8 (a7 rfl (ai 0 (ab (a8 (a8 (a7 rfl (mv (Value.int .u64 0) (lx (di (m:=0) (n:=4294967296) rfl rfl) (ab (aj rfl rfl (ao ?_)))))))))))))
 refine a8 (a8 (a7 rfl (mv (Value.int .u64 0) (lx (di (m:=0) (n:=65536) rfl rfl) (ab (aj rfl rfl (ao (a8 (a8 (a7 rfl (mv (Value.int .u64 0) (lx (di (m:=0) (n:=256) rfl rfl) (ab ?_)))))))))))))
 refine aj rfl rfl (ao (a8 (a7 rfl (mi 0 (mv (Value.int .u64 0) (lw (Value.int .u8 0) (iR (m:=0) pX U5 rfl (by decide)) (lw (Value.int .u8 0) (iC (i:=0) (r:=0) (b:=0) U9 rfl rfl (by decide) (by decide+kernel) (by decide)) (lw (vi 0) (iR (m:=0) U5 U3 rfl (by decide)) (lx (bw (m:=0) (n:=0) rfl rfl (by omega)) (ai 0 ?_))))))))))
 refine ab (ap (vs:=[vi 0]) Try.func85 (.tmp rfl .nil) ?_)
 refine⟨vi 0,rfl,?_⟩
 refine ai 0 (ab (ap (vs:=[vi 0]) Try.func69 (.tmp rfl .nil) ?_))
 refine⟨vi 0,rfl,?_⟩
 refine lo (bu (aF (vals:=[vn,vi 0,vi 0,vi 0]) Try.func71 mK mN rfl) (am Try.func71 rfl nq (a8 (a7 rfl (ma (vb true) (ab (a8 (a7 rfl (ma (vb true) (ab (aq (cw ?_))))))))))))
 refine aq (a8 (a7 rfl (mi 0 (mi 0 (lx (eC (m:=0) (n:=0) rfl rfl (by omega)) (ai 0 (ab (a8 (a8 (a7 rfl (mi 0 (lx (pe (m:=0) (n:=12) rfl rfl) (ab ?_)))))))))))))
 refine ae rfl rfl (a8 (a7 rfl (mv vn (mi 0 (mi 0 (lo (bu (aF (vals:=[vn,vi 0,vi 0]) Try.func86 lU mA rfl) (am Try.func86 rfl nq (a8 (a7 rfl (mi 0 ?_)))))))))))
 refine lx (bw (m:=0) (n:=1) rfl rfl (by omega)) (ai 1 (ab (aq (cw (a8 (a8 (a7 rfl (mi 1 (mi 0 (lx (b7 (m:=1) (n:=0) rfl rfl) (ab ?_)))))))))))
 refine aj rfl rfl (aJ rfl (c5 (vs:=[]) Try.func86 .nil ?_))
 refine⟨vt [],rfl,?_⟩
 refine ab (ap (vs:=[]) Try.func71 .nil ?_)
 refine⟨vt [],rfl,?_⟩
 refine ab (c5 (vs:=[]) Try.func50 .nil ?_)
 exact⟨rfl,bH.below⟩
theorem g7(w0:World)(a:Nat)(b:Nat)(ha:eh a)(hb:eh b):
    Calls Try.prog 26 #[Value.float .f64 a,Value.float .f64 b] w0 (λee w=>ee= .returned (vb (decide (zf a<zf b)))/\bZ w0.heap.size w0 w):=by
 refine am Try.func26 rfl nq ?_
 have bH:=aX.start w0
 have na:=nz ha
 have nb:=nz hb
 refine a8 (a7 rfl (ma (vb false) (ab (a8 (a8 (a7 rfl (mv (Value.float .f64 a) (mv (Value.float .f64 a) (lw (vb (dj a)) (j3 (a:=a) rfl rfl) (mv (vb (dj a)) ?_))))))))))
 have q8:¬(dj a=true):=by(rw[na];decide)
 refine lv (Value.float .f64 b) (wy (Bool.eq_false_iff.2 q8)) (al rfl) (lv (Value.float .f64 b) (wy (Bool.eq_false_iff.2 q8)) (al rfl) (lv (vb (dj b)) (wy (Bool.eq_false_iff.2 q8)) (j3 (a:=b) rfl rfl) (lw (vb (dj b)) (aL rfl (Bool.eq_false_iff.2 q8) rfl) (ab ?_))))
 have p1:¬(dj b=true):=by(rw[nb];decide)
 refine aj rfl (Bool.eq_false_iff.2 p1) (ao (a8 (a7 rfl (mv (Value.float .f64 a) (mv (Value.float .f64 b) (lw (vb (decide ((zf a)<(zf b)))) (mr (a:=a) (b:=b) rfl rfl (gJ ‹_›) (gJ ‹_›)) (ma (vb (decide ((zf a)<(zf b)))) (ab (ap (vs:=[vb (decide ((zf a)<(zf b)))]) Try.func26 (.tmp rfl .nil) ?_)))))))))
 have e0:(decide ((zf a)<(zf b)):Bool)=(decide (zf a<zf b)):=by
   rfl
 exact⟨(congrArg (a₁:=decide ((zf a)<(zf b))) (λ(z0:Bool)=>Ending.returned (vb z0)) e0),bH.below⟩
theorem kg(w0:World)(i:Int)(k:Int)(ws:List Nat)(ws_v:Value)(hws_v:Ro w0 ws_v ws)(ws_b:Nat)(hws_b:Bx c0 (is 0) w0 ws_b [ws_v])(hi:0<=i/\i<(ws.length:Int))(hk:0<=k/\k<(ws.length:Int))(hg:∀x∈ws,eh x):
    Calls Try.prog 47 #[vi i,vi k,vp ws_b 0] w0 (λee w=>ee= .returned (vi (kn ws i k))/\bZ w0.heap.size w0 w):=by
 refine am Try.func47 rfl nq ?_
 have bH:=aX.start w0
 have Rws:=hws_v.sl
 obtain⟨hi0,hi1⟩:=hi
 obtain⟨hk0,hk1⟩:=hk
 have gi:=hg _ (bd hi0 hi1)
 have gk:=hg _ (bd hk0 hk1)
 refine a8 (a7 rfl (ai 0 (ab (a8 (aq (a8 (bT c0 rfl ik (by kernel_rfl) ?_)))))))
 intro w2 ch1
 replace hws_b:=hws_b.cn ch1
 refine qx (λw' hw'=>ag dc rfl (hws_b.bel hw') rfl) (qm (vi i) ?_)
 replace Rws:=Rws.cn ch1
 refine qx (λw' hw'=>ad (v:=ws_v) (i:=i) dJ rfl rfl (Rws.bel hw') rfl (by omega) (by omega)) (qx (λw' hw'=>aA (v:=ws_v) (i:=i) aI rfl (Rws.bel hw') (by omega) (by omega) (by decide) rfl) (qx (λw' hw'=>ag dc rfl (hws_b.bel hw') rfl) (qm (vi k) (qx (λw' hw'=>ad (v:=ws_v) (i:=k) dJ rfl rfl (Rws.bel hw') rfl (by omega) (by omega)) (qx (λw' hw'=>aA (v:=ws_v) (i:=k) aI rfl (Rws.bel hw') (by omega) (by omega) (by decide) rfl) ?_)))))
 refine j9 (v:=vb (decide (zf (gI ws i)<zf (gI ws k)))) rfl (λw' hw'=>aF (vals:=[Value.float .f64 (gI ws i),Value.float .f64 (gI ws k)]) Try.func26 jC jk rfl) (λw' hw'=>(g7 w' (gI ws i) (gI ws k) (by exact gi) (by exact gk)).mono λe w2 h2=>⟨h2.1,hw'.trans (h2.2.mono hw'.size)⟩) (qv (vb (decide (zf (gI ws i)<zf (gI ws k)))) (λw' hw'=>bf rfl) (dg ?_))
 intro w3 hc4
 replace hc4:=ay hc4 c0
 by_cases p1:(decide (zf (gI ws i)<zf (gI ws k)))=true
 ·
  refine ae rfl p1 (a8 (a7 rfl (ai (-1) (ab (ap (vs:=[vi (-1)]) Try.func47 (.tmp rfl .nil) ?_)))))
  have e0:(-1:Int)=(kn ws i k):=by
    exact(pK ‹_›).symm
  replace bH:=bH.cn ch1
  replace bH:=bH.cn hc4
  exact⟨ri e0,bH.below⟩
 refine aj rfl (Bool.eq_false_iff.2 p1) (a8 (bT c0 rfl ik (by kernel_rfl) ?_))
 intro w6 ch5
 replace hws_b:=(hws_b.cn hc4).cn ch5
 refine qx (λw' hw'=>ag dc rfl (hws_b.bel hw') rfl) (qm (vi k) ?_)
 replace Rws:=(Rws.cn hc4).cn ch5
 refine qx (λw' hw'=>ad (v:=ws_v) (i:=k) dJ rfl rfl (Rws.bel hw') rfl (by omega) (by omega)) (qx (λw' hw'=>aA (v:=ws_v) (i:=k) aI rfl (Rws.bel hw') (by omega) (by omega) (by decide) rfl) (qx (λw' hw'=>ag dc rfl (hws_b.bel hw') rfl) (qm (vi i) (qx (λw' hw'=>ad (v:=ws_v) (i:=i) dJ rfl rfl (Rws.bel hw') rfl (by omega) (by omega)) (qx (λw' hw'=>aA (v:=ws_v) (i:=i) aI rfl (Rws.bel hw') (by omega) (by omega) (by decide) rfl) ?_)))))
 refine j9 (v:=vb (decide (zf (gI ws k)<zf (gI ws i)))) rfl (λw' hw'=>aF (vals:=[Value.float .f64 (gI ws k),Value.float .f64 (gI ws i)]) Try.func26 jC jk rfl) (λw' hw'=>(g7 w' (gI ws k) (gI ws i) (by exact gk) (by exact gi)).mono λe w2 h2=>⟨h2.1,hw'.trans (h2.2.mono hw'.size)⟩) (qv (vb (decide (zf (gI ws k)<zf (gI ws i)))) (λw' hw'=>bf rfl) (dg ?_))
 intro w7 hc8
 replace hc8:=ay hc8 c0
 by_cases p3:(decide (zf (gI ws k)<zf (gI ws i)))=true
 ·
  refine ae rfl p3 (a8 (a7 rfl (ai 1 (ab (ap (vs:=[vi 1]) Try.func47 (.tmp rfl .nil) ?_)))))
  have e0:(1:Int)=(kn ws i k):=by
    exact(pH ‹_› ‹_›).symm
  have C9:=cg [] (ch1.n.seq (hc4.n.seq (ch5.n.seq hc8.n)))
  replace bH:=bH.ca C9
  exact⟨ri e0,bH.below⟩
 refine aj rfl (Bool.eq_false_iff.2 p3) (ao (av (a8 (a7 rfl (mi i (mi k (lo (bk (v:=vi (if i<k then-1 else if k<i then 1 else 0)) (aF (vals:=[vi i,vi k]) Try.func48 lN mS rfl) (iI w7 i k) ?_))))))))
 intro w10 hb11
 replace hb11:=ay hb11 c0
 refine ai (if i<k then-1 else if k<i then 1 else 0) (ab (ap (vs:=[vi (if i<k then-1 else if k<i then 1 else 0)]) Try.func47 (.tmp rfl .nil) ?_))
 have e0:(if i<k then-1 else if k<i then 1 else 0:Int)=(kn ws i k):=by
   exact(pD ‹_› ‹_›).symm
 have C12:=cg [] (ch1.n.seq (hc4.n.seq (ch5.n.seq (hc8.n.seq hb11.n))))
 replace bH:=bH.ca C12
 exact⟨ri e0,bH.below⟩
end TL
