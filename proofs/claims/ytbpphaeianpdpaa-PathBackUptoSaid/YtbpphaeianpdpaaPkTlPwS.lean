import Derived.Test.YtbpphaeianpdpaaPkTlP2
import Derived.Test.YtbpphaeianpdpaaPkTlGmA
import Derived.Test.YtbpphaeianpdpaaPkTlGenA
import Derived.Test.YtbpphaeianpdpaaPkTlPwA
import Derived.Test.YtbpphaeianpdpaaProg
import Derived.Test.YtbpphaeianpdpaaPkTlAli
set_option linter.all false
set_option maxRecDepth 20000
namespace TL
open Go Go.Proofs
theorem gR:Try.prog.follows .mixedOrders=true:=by kernel_rfl
theorem d9:Tp Try.prog 29 false 1 24 (.slice none 0 0):=Tp.of (by kernel_rfl)
theorem iP:Try.f26.body.isNone=false:=rfl
theorem iS:(Try.f26.name== "runtime.NumGoroutine")=false:=by decide+kernel
theorem lQ:Try.f48.body.isNone=false:=rfl
theorem mr:(Try.f48.name== "runtime.NumGoroutine")=false:=by decide+kernel
theorem lO:Try.f69.body.isNone=false:=rfl
theorem ld:(Try.f69.name== "runtime.NumGoroutine")=false:=by decide+kernel
theorem lA:Try.f71.body.isNone=false:=rfl
theorem mK:(Try.f71.name== "runtime.NumGoroutine")=false:=by decide+kernel
theorem m7:Try.f85.body.isNone=false:=rfl
theorem lk:(Try.f85.name== "runtime.NumGoroutine")=false:=by decide+kernel
theorem lD:Try.f86.body.isNone=false:=rfl
theorem mm:(Try.f86.name== "runtime.NumGoroutine")=false:=by decide+kernel
theorem fI(w0:World)(x:Int):
    Calls Try.prog 70 #[vi x] w0 (λee w=>ee= .returned (vb false)/\bM w0.heap.size w0 w):=by
 refine al Try.func70 rfl nq ?_
 have bH:=aS.start w0
 refine a7 (a6 rfl (ma (vb false) (a8 (a7 (a6 rfl (mi x (mi x (lx (cz (m:=x) (n:=x) rfl rfl) (ma (vb (!(decide (x=x)))) (a8 (ak (vs:=[vb (!(decide (x=x)))]) Try.func70 (.tmp rfl .nil) ?_)))))))))))
 have e0:(!(decide (x=x)):Bool)=(false):=by
   simp
 exact⟨(congrArg (a₁:= !(decide (x=x))) (λ(z0:Bool)=>Ending.returned (vb z0)) e0),bH.below⟩
theorem gF(w0:World)(x:Int)(y:Int):
    Calls Try.prog 48 #[vi x,vi y] w0 (λee w=>ee= .returned (vi (if x<y then-1 else if y<x then 1 else 0))/\bM w0.heap.size w0 w):=by
 refine al Try.func48 rfl nq ?_
 have bH:=aS.start w0
 refine a7 (a6 rfl (ai 0 (a8 (a7 (a6 rfl (mi x (lo (aX (v:=vb false) (az (vals:=[vi x]) Try.func70 j7 iU rfl) (fI w0 x) ?_))))))))
 intro w1 hb2
 replace hb2:=av hb2 c0
 refine ma (vb false) (a8 (a7 (a6 rfl (mi y (lo (aX (v:=vb false) (az (vals:=[vi y]) Try.func70 j7 iU rfl) (fI w1 y) ?_))))))
 intro w3 hb4
 replace hb4:=av hb4 c0
 refine ma (vb false) (a8 (a7 (a7 (a6 rfl (mv (vb false) (a8 (ah rfl rfl (ao (a7 (a7 (a6 rfl (mv (vb false) (a8 (ah rfl rfl ?_))))))))))))))
 refine ao (a7 (a7 (a6 rfl (mi x (mi y (lx (b6 (m:=x) (n:=y) rfl rfl) (a8 ?_)))))))
 by_cases p9:x<y
 ·
  refine ae rfl (dt p9) (a7 (a6 rfl (ai (-1) (a8 (ak (vs:=[vi (-1)]) Try.func48 (.tmp rfl .nil) ?_)))))
  have e0:(-1:Int)=(if x<y then-1 else if y<x then 1 else 0):=by
    rw[if_pos ‹_›]
  replace bH:=bH.cn hb2
  replace bH:=bH.cn hb4
  exact⟨ri e0,bH.below⟩
 refine ah rfl (df p9) (ao (a7 (a7 (a6 rfl (mi x (mi y (lx (dg (m:=x) (n:=y) rfl rfl) (a8 ?_))))))))
 by_cases p11:y<x
 ·
  refine ae rfl (dt p11) (a7 (a6 rfl (ai 1 (a8 (ak (vs:=[vi 1]) Try.func48 (.tmp rfl .nil) ?_)))))
  have e0:(1:Int)=(if x<y then-1 else if y<x then 1 else 0):=by
    rw[if_neg ‹_›,if_pos ‹_›]
  replace bH:=bH.cn hb2
  replace bH:=bH.cn hb4
  exact⟨ri e0,bH.below⟩
 refine ah rfl (df p11) (ao (a7 (a6 rfl (ai 0 (a8 (ak (vs:=[vi 0]) Try.func48 (.tmp rfl .nil) ?_))))))
 have e0:(0:Int)=(if x<y then-1 else if y<x then 1 else 0):=by
   rw[if_neg ‹_›,if_neg ‹_›]
 replace bH:=bH.cn hb2
 replace bH:=bH.cn hb4
 exact⟨ri e0,bH.below⟩
theorem k6(w0:World):
    Calls Try.prog 50 #[vn] w0 (λee w=>ee= .returned (vt [])/\bM w0.heap.size w0 w):=by
 refine al Try.func50 rfl nq ?_
 have bH:=aS.start w0
 refine a7 (a6 rfl (mv vn (lx (bc (w1:=w0) ch rfl (Sl.nil:Sl c0 (is 0) _ _ ([]:List Int))) (ai 0 (a8 (a6 rfl (mv vn (mi 0 (mi 0 (lw (Value.int .u64 0) (i6 (m:=0) U3 oR rfl (by decide)) (lo ?_)))))))))))
 refine bt (az (vals:=[Value.int .u64 0]) Try.func69 lO ld rfl) (al Try.func69 rfl nq (a7 (a6 rfl (ai 0 (a8 (a7 (ah rfl rfl (ao (a7 (a6 rfl (mv (Value.int .u64 0) (lo ?_))))))))))))
 refine bt (az (vals:=[Value.int .u64 0]) Try.func85 m7 lk rfl) (al Try.func85 rfl nq (a7 (a6 rfl (ai 0 (a8 (a7 (a7 (a6 rfl (mv (Value.int .u64 0) (lx (cM (m:=0) (n:=4294967296) rfl rfl) (a8 (ah rfl rfl (ao ?_)))))))))))))
 refine a7 (a7 (a6 rfl (mv (Value.int .u64 0) (lx (cM (m:=0) (n:=65536) rfl rfl) (a8 (ah rfl rfl (ao (a7 (a7 (a6 rfl (mv (Value.int .u64 0) (lx (cM (m:=0) (n:=256) rfl rfl) (a8 ?_)))))))))))))
 refine ah rfl rfl (ao (a7 (a6 rfl (mi 0 (mv (Value.int .u64 0) (lw (Value.int .u8 0) (i6 (m:=0) pm U5 rfl (by decide)) (lw (Value.int .u8 0) (gO (i:=0) (r:=0) (b:=0) U9 rfl rfl (by decide) (by decide+kernel) (by decide)) (lw (vi 0) (i6 (m:=0) U5 U3 rfl (by decide)) (lx (bn (m:=0) (n:=0) rfl rfl (by omega)) (ai 0 ?_))))))))))
 refine a8 (ak (vs:=[vi 0]) Try.func85 (.tmp rfl .nil) ?_)
 refine⟨vi 0,rfl,?_⟩
 refine ai 0 (a8 (ak (vs:=[vi 0]) Try.func69 (.tmp rfl .nil) ?_))
 refine⟨vi 0,rfl,?_⟩
 refine lo (bt (az (vals:=[vn,vi 0,vi 0,vi 0]) Try.func71 lA mK rfl) (al Try.func71 rfl nq (a7 (a6 rfl (ma (vb true) (a8 (a7 (a6 rfl (ma (vb true) (a8 (ap (cv ?_))))))))))))
 refine ap (a7 (a6 rfl (mi 0 (mi 0 (lx (dO (m:=0) (n:=0) rfl rfl (by omega)) (ai 0 (a8 (a7 (a7 (a6 rfl (mi 0 (lx (iB (m:=0) (n:=12) rfl rfl) (a8 ?_)))))))))))))
 refine ae rfl rfl (a7 (a6 rfl (mv vn (mi 0 (mi 0 (lo (bt (az (vals:=[vn,vi 0,vi 0]) Try.func86 lD mm rfl) (al Try.func86 rfl nq (a7 (a6 rfl (mi 0 ?_)))))))))))
 refine lx (bn (m:=0) (n:=1) rfl rfl (by omega)) (ai 1 (a8 (ap (cv (a7 (a7 (a6 rfl (mi 1 (mi 0 (lx (b6 (m:=1) (n:=0) rfl rfl) (a8 ?_)))))))))))
 refine ah rfl rfl (aB rfl (bV (vs:=[]) Try.func86 .nil ?_))
 refine⟨vt [],rfl,?_⟩
 refine a8 (ak (vs:=[]) Try.func71 .nil ?_)
 refine⟨vt [],rfl,?_⟩
 refine a8 (bV (vs:=[]) Try.func50 .nil ?_)
 exact⟨rfl,bH.below⟩
theorem fL(w0:World)(a:Nat)(b:Nat)(ha:eO a)(hb:eO b):
    Calls Try.prog 26 #[Value.float .f64 a,Value.float .f64 b] w0 (λee w=>ee= .returned (vb (decide (zf a<zf b)))/\bM w0.heap.size w0 w):=by
 refine al Try.func26 rfl nq ?_
 have bH:=aS.start w0
 have na:=n4 ha
 have nb:=n4 hb
 refine a7 (a6 rfl (ma (vb false) (a8 (a7 (a7 (a6 rfl (mv (Value.float .f64 a) (mv (Value.float .f64 a) (lw (vb (dj a)) (iz (a:=a) rfl rfl) (mv (vb (dj a)) ?_))))))))))
 have q8:¬(dj a=true):=by(rw[na];decide)
 refine lv (Value.float .f64 b) (wy (Bool.eq_false_iff.2 q8)) (am rfl) (lv (Value.float .f64 b) (wy (Bool.eq_false_iff.2 q8)) (am rfl) (lv (vb (dj b)) (wy (Bool.eq_false_iff.2 q8)) (iz (a:=b) rfl rfl) (lw (vb (dj b)) (aC rfl (Bool.eq_false_iff.2 q8) rfl) (a8 ?_))))
 have p1:¬(dj b=true):=by(rw[nb];decide)
 refine ah rfl (Bool.eq_false_iff.2 p1) (ao (a7 (a6 rfl (mv (Value.float .f64 a) (mv (Value.float .f64 b) (lw (vb (decide ((zf a)<(zf b)))) (mQ (a:=a) (b:=b) rfl rfl (gx ‹_›) (gx ‹_›)) (ma (vb (decide ((zf a)<(zf b)))) (a8 (ak (vs:=[vb (decide ((zf a)<(zf b)))]) Try.func26 (.tmp rfl .nil) ?_)))))))))
 have e0:(decide ((zf a)<(zf b)):Bool)=(decide (zf a<zf b)):=by
   rfl
 exact⟨(congrArg (a₁:=decide ((zf a)<(zf b))) (λ(z0:Bool)=>Ending.returned (vb z0)) e0),bH.below⟩
theorem jE(w0:World)(i:Int)(k:Int)(ws:List Nat)(ws_v:Value)(hws_v:Ro w0 ws_v ws)(ws_b:Nat)(hws_b:Bx c0 (is 0) w0 ws_b [ws_v])(hi:0<=i/\i<(ws.length:Int))(hk:0<=k/\k<(ws.length:Int))(hg:∀x∈ws,eO x):
    Calls Try.prog 47 #[vi i,vi k,vp ws_b 0] w0 (λee w=>ee= .returned (vi (jJ ws i k))/\bM w0.heap.size w0 w):=by
 refine al Try.func47 rfl nq ?_
 have bH:=aS.start w0
 have Rws:=hws_v.sl
 obtain⟨hi0,hi1⟩:=hi
 obtain⟨hk0,hk1⟩:=hk
 have gi:=hg _ (bd hi0 hi1)
 have gk:=hg _ (bd hk0 hk1)
 refine a7 (a6 rfl (ai 0 (a8 (a7 (ap (a7 (c6 c0 rfl gR (by kernel_rfl) ?_)))))))
 intro w2 ch1
 replace hws_b:=hws_b.cn ch1
 refine qx (λw' hw'=>af d9 rfl (hws_b.bel hw') rfl) (qm (vi i) ?_)
 replace Rws:=Rws.cn ch1
 refine qx (λw' hw'=>ad (v:=ws_v) (i:=i) ec rfl rfl (Rws.bel hw') rfl (by omega) (by omega)) (qx (λw' hw'=>ay (v:=ws_v) (i:=i) aN rfl (Rws.bel hw') (by omega) (by omega) (by decide) rfl) (qx (λw' hw'=>af d9 rfl (hws_b.bel hw') rfl) (qm (vi k) (qx (λw' hw'=>ad (v:=ws_v) (i:=k) ec rfl rfl (Rws.bel hw') rfl (by omega) (by omega)) (qx (λw' hw'=>ay (v:=ws_v) (i:=k) aN rfl (Rws.bel hw') (by omega) (by omega) (by decide) rfl) ?_)))))
 refine i7 (v:=vb (decide (zf (gI ws i)<zf (gI ws k)))) rfl (λw' hw'=>az (vals:=[Value.float .f64 (gI ws i),Value.float .f64 (gI ws k)]) Try.func26 iP iS rfl) (λw' hw'=>(fL w' (gI ws i) (gI ws k) (by exact gi) (by exact gk)).mono λe w2 h2=>⟨h2.1,hw'.trans (h2.2.mono hw'.size)⟩) (qv (vb (decide (zf (gI ws i)<zf (gI ws k)))) (λw' hw'=>bk rfl) (dw ?_))
 intro w3 hc4
 replace hc4:=av hc4 c0
 by_cases p1:(decide (zf (gI ws i)<zf (gI ws k)))=true
 ·
  refine ae rfl p1 (a7 (a6 rfl (ai (-1) (a8 (ak (vs:=[vi (-1)]) Try.func47 (.tmp rfl .nil) ?_)))))
  have e0:(-1:Int)=(jJ ws i k):=by
    exact(oK ‹_›).symm
  replace bH:=bH.cn ch1
  replace bH:=bH.cn hc4
  exact⟨ri e0,bH.below⟩
 refine ah rfl (Bool.eq_false_iff.2 p1) (a7 (c6 c0 rfl gR (by kernel_rfl) ?_))
 intro w6 ch5
 replace hws_b:=(hws_b.cn hc4).cn ch5
 refine qx (λw' hw'=>af d9 rfl (hws_b.bel hw') rfl) (qm (vi k) ?_)
 replace Rws:=(Rws.cn hc4).cn ch5
 refine qx (λw' hw'=>ad (v:=ws_v) (i:=k) ec rfl rfl (Rws.bel hw') rfl (by omega) (by omega)) (qx (λw' hw'=>ay (v:=ws_v) (i:=k) aN rfl (Rws.bel hw') (by omega) (by omega) (by decide) rfl) (qx (λw' hw'=>af d9 rfl (hws_b.bel hw') rfl) (qm (vi i) (qx (λw' hw'=>ad (v:=ws_v) (i:=i) ec rfl rfl (Rws.bel hw') rfl (by omega) (by omega)) (qx (λw' hw'=>ay (v:=ws_v) (i:=i) aN rfl (Rws.bel hw') (by omega) (by omega) (by decide) rfl) ?_)))))
 refine i7 (v:=vb (decide (zf (gI ws k)<zf (gI ws i)))) rfl (λw' hw'=>az (vals:=[Value.float .f64 (gI ws k),Value.float .f64 (gI ws i)]) Try.func26 iP iS rfl) (λw' hw'=>(fL w' (gI ws k) (gI ws i) (by exact gk) (by exact gi)).mono λe w2 h2=>⟨h2.1,hw'.trans (h2.2.mono hw'.size)⟩) (qv (vb (decide (zf (gI ws k)<zf (gI ws i)))) (λw' hw'=>bk rfl) (dw ?_))
 intro w7 hc8
 replace hc8:=av hc8 c0
 by_cases p3:(decide (zf (gI ws k)<zf (gI ws i)))=true
 ·
  refine ae rfl p3 (a7 (a6 rfl (ai 1 (a8 (ak (vs:=[vi 1]) Try.func47 (.tmp rfl .nil) ?_)))))
  have e0:(1:Int)=(jJ ws i k):=by
    exact(oY ‹_› ‹_›).symm
  have C9:=cg [] (ch1.n.seq (hc4.n.seq (ch5.n.seq hc8.n)))
  replace bH:=bH.ca C9
  exact⟨ri e0,bH.below⟩
 refine ah rfl (Bool.eq_false_iff.2 p3) (ao (au (a7 (a6 rfl (mi i (mi k (lo (aX (v:=vi (if i<k then-1 else if k<i then 1 else 0)) (az (vals:=[vi i,vi k]) Try.func48 lQ mr rfl) (gF w7 i k) ?_))))))))
 intro w10 hb11
 replace hb11:=av hb11 c0
 refine ai (if i<k then-1 else if k<i then 1 else 0) (a8 (ak (vs:=[vi (if i<k then-1 else if k<i then 1 else 0)]) Try.func47 (.tmp rfl .nil) ?_))
 have e0:(if i<k then-1 else if k<i then 1 else 0:Int)=(jJ ws i k):=by
   exact(oZ ‹_› ‹_›).symm
 have C12:=cg [] (ch1.n.seq (hc4.n.seq (ch5.n.seq (hc8.n.seq hb11.n))))
 replace bH:=bH.ca C12
 exact⟨ri e0,bH.below⟩
end TL
