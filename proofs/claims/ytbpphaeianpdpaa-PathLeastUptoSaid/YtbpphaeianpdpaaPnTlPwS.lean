import Derived.Test.YtbpphaeianpdpaaPnTlP2
import Derived.Test.YtbpphaeianpdpaaPnTlGmA
import Derived.Test.YtbpphaeianpdpaaPnTlGenA
import Derived.Test.YtbpphaeianpdpaaPnTlPwA
import Derived.Test.YtbpphaeianpdpaaProg
import Derived.Test.YtbpphaeianpdpaaPnTlAli
set_option linter.all false
set_option maxRecDepth 20000
namespace TL
open Go Go.Proofs
theorem ir:Try.prog.follows .mixedOrders=true:=by kernel_rfl
theorem dv:Tp Try.prog 29 false 1 24 (.slice none 0 0):=Tp.of (by kernel_rfl)
theorem h8:Try.f26.body.isNone=false:=rfl
theorem gR:(Try.f26.name== "runtime.NumGoroutine")=false:=by decide+kernel
theorem mI:Try.f48.body.isNone=false:=rfl
theorem lV:(Try.f48.name== "runtime.NumGoroutine")=false:=by decide+kernel
theorem mH:Try.f69.body.isNone=false:=rfl
theorem nf:(Try.f69.name== "runtime.NumGoroutine")=false:=by decide+kernel
theorem m9:Try.f71.body.isNone=false:=rfl
theorem ns:(Try.f71.name== "runtime.NumGoroutine")=false:=by decide+kernel
theorem m5:Try.f85.body.isNone=false:=rfl
theorem mJ:(Try.f85.name== "runtime.NumGoroutine")=false:=by decide+kernel
theorem lY:Try.f86.body.isNone=false:=rfl
theorem mK:(Try.f86.name== "runtime.NumGoroutine")=false:=by decide+kernel
theorem gz(w0:World)(x:Int):
    Calls Try.prog 70 #[vi x] w0 (λee w=>ee= .returned (vb false)/\bR w0.heap.size w0 w):=by
 refine ap Try.func70 rfl nq ?_
 have bH:=aX.start w0
 refine a8 (a7 rfl (ma (vb false) (aa (a8 (a7 rfl (mi x (mi x (lx (ct (m:=x) (n:=x) rfl rfl) (ma (vb (!(decide (x=x)))) (aa (aq (vs:=[vb (!(decide (x=x)))]) Try.func70 (.tmp rfl .nil) ?_)))))))))))
 have e0:(!(decide (x=x)):Bool)=(false):=by
   simp
 exact⟨(congrArg (a₁:= !(decide (x=x))) (λ(z0:Bool)=>Ending.returned (vb z0)) e0),bH.below⟩
theorem iB(w0:World)(x:Int)(y:Int):
    Calls Try.prog 48 #[vi x,vi y] w0 (λee w=>ee= .returned (vi (if x<y then-1 else if y<x then 1 else 0))/\bR w0.heap.size w0 w):=by
 refine ap Try.func48 rfl nq ?_
 have bH:=aX.start w0
 refine a8 (a7 rfl (ai 0 (aa (a8 (a7 rfl (mi x (lo (bi (v:=vb false) (aC (vals:=[vi x]) Try.func70 jB jq rfl) (gz w0 x) ?_))))))))
 intro w1 hb2
 replace hb2:=az hb2 c0
 refine ma (vb false) (aa (a8 (a7 rfl (mi y (lo (bi (v:=vb false) (aC (vals:=[vi y]) Try.func70 jB jq rfl) (gz w1 y) ?_))))))
 intro w3 hb4
 replace hb4:=az hb4 c0
 refine ma (vb false) (aa (a8 (a8 (a7 rfl (mv (vb false) (aa (af rfl rfl (ao (a8 (a8 (a7 rfl (mv (vb false) (aa (af rfl rfl ?_))))))))))))))
 refine ao (a8 (a8 (a7 rfl (mi x (mi y (lx (b6 (m:=x) (n:=y) rfl rfl) (aa ?_)))))))
 by_cases p9:x<y
 ·
  refine ae rfl (dt p9) (a8 (a7 rfl (ai (-1) (aa (aq (vs:=[vi (-1)]) Try.func48 (.tmp rfl .nil) ?_)))))
  have e0:(-1:Int)=(if x<y then-1 else if y<x then 1 else 0):=by
    rw[if_pos ‹_›]
  replace bH:=bH.cn hb2
  replace bH:=bH.cn hb4
  exact⟨ri e0,bH.below⟩
 refine af rfl (df p9) (ao (a8 (a8 (a7 rfl (mi x (mi y (lx (dI (m:=x) (n:=y) rfl rfl) (aa ?_))))))))
 by_cases p11:y<x
 ·
  refine ae rfl (dt p11) (a8 (a7 rfl (ai 1 (aa (aq (vs:=[vi 1]) Try.func48 (.tmp rfl .nil) ?_)))))
  have e0:(1:Int)=(if x<y then-1 else if y<x then 1 else 0):=by
    rw[if_neg ‹_›,if_pos ‹_›]
  replace bH:=bH.cn hb2
  replace bH:=bH.cn hb4
  exact⟨ri e0,bH.below⟩
 refine af rfl (df p11) (ao (a8 (a7 rfl (ai 0 (aa (aq (vs:=[vi 0]) Try.func48 (.tmp rfl .nil) ?_))))))
 have e0:(0:Int)=(if x<y then-1 else if y<x then 1 else 0):=by
   rw[if_neg ‹_›,if_neg ‹_›]
 replace bH:=bH.cn hb2
 replace bH:=bH.cn hb4
 exact⟨ri e0,bH.below⟩
theorem ly(w0:World):
    Calls Try.prog 50 #[vn] w0 (λee w=>ee= .returned (vt [])/\bR w0.heap.size w0 w):=by
 refine ap Try.func50 rfl nq ?_
 have bH:=aX.start w0
 refine a8 (a7 rfl (mv vn (lx (bc (w1:=w0) cm rfl (Sl.nil:Sl c0 (is 0) _ _ ([]:List Int))) (ai 0 (aa (a7 rfl (mv vn (mi 0 (mi 0 (lw (Value.int .u64 0) (j4 (m:=0) U3 pE rfl (by decide)) (lo ?_)))))))))))
 refine bz (aC (vals:=[Value.int .u64 0]) Try.func69 mH nf rfl) (ap Try.func69 rfl nq (a8 (a7 rfl (ai 0 (aa (a8 (af rfl rfl (ao (a8 (a7 rfl (mv (Value.int .u64 0) (lo ?_))))))))))))
 refine bz (aC (vals:=[Value.int .u64 0]) Try.func85 m5 mJ rfl) (ap Try.func85 rfl nq (a8 (a7 rfl (ai 0 (aa (a8 (a8 (a7 rfl (mv (Value.int .u64 0) (lx (cZ (m:=0) (n:=4294967296) rfl rfl) (aa (af rfl rfl (ao ?_)))))))))))))
 refine a8 (a8 (a7 rfl (mv (Value.int .u64 0) (lx (cZ (m:=0) (n:=65536) rfl rfl) (aa (af rfl rfl (ao (a8 (a8 (a7 rfl (mv (Value.int .u64 0) (lx (cZ (m:=0) (n:=256) rfl rfl) (aa ?_)))))))))))))
 refine af rfl rfl (ao (a8 (a7 rfl (mi 0 (mv (Value.int .u64 0) (lw (Value.int .u8 0) (j4 (m:=0) pX U5 rfl (by decide)) (lw (Value.int .u8 0) (iQ (i:=0) (r:=0) (b:=0) U9 rfl rfl (by decide) (by decide+kernel) (by decide)) (lw (vi 0) (j4 (m:=0) U5 U3 rfl (by decide)) (lx (bf (m:=0) (n:=0) rfl rfl (by omega)) (ai 0 ?_))))))))))
 refine aa (aq (vs:=[vi 0]) Try.func85 (.tmp rfl .nil) ?_)
 refine⟨vi 0,rfl,?_⟩
 refine ai 0 (aa (aq (vs:=[vi 0]) Try.func69 (.tmp rfl .nil) ?_))
 refine⟨vi 0,rfl,?_⟩
 refine lo (bz (aC (vals:=[vn,vi 0,vi 0,vi 0]) Try.func71 m9 ns rfl) (ap Try.func71 rfl nq (a8 (a7 rfl (ma (vb true) (aa (a8 (a7 rfl (ma (vb true) (aa (ar (cG ?_))))))))))))
 refine ar (a8 (a7 rfl (mi 0 (mi 0 (lx (dH (m:=0) (n:=0) rfl rfl (by omega)) (ai 0 (aa (a8 (a8 (a7 rfl (mi 0 (lx (kK (m:=0) (n:=12) rfl rfl) (aa ?_)))))))))))))
 refine ae rfl rfl (a8 (a7 rfl (mv vn (mi 0 (mi 0 (lo (bz (aC (vals:=[vn,vi 0,vi 0]) Try.func86 lY mK rfl) (ap Try.func86 rfl nq (a8 (a7 rfl (mi 0 ?_)))))))))))
 refine lx (bf (m:=0) (n:=1) rfl rfl (by omega)) (ai 1 (aa (ar (cG (a8 (a8 (a7 rfl (mi 1 (mi 0 (lx (b6 (m:=1) (n:=0) rfl rfl) (aa ?_)))))))))))
 refine af rfl rfl (aI rfl (ch (vs:=[]) Try.func86 .nil ?_))
 refine⟨vt [],rfl,?_⟩
 refine aa (aq (vs:=[]) Try.func71 .nil ?_)
 refine⟨vt [],rfl,?_⟩
 refine aa (ch (vs:=[]) Try.func50 .nil ?_)
 exact⟨rfl,bH.below⟩
theorem eJ(w0:World)(a:Nat)(b:Nat)(ha:dX a)(hb:dX b):
    Calls Try.prog 26 #[Value.float .f64 a,Value.float .f64 b] w0 (λee w=>ee= .returned (vb (decide (zf a<zf b)))/\bR w0.heap.size w0 w):=by
 refine ap Try.func26 rfl nq ?_
 have bH:=aX.start w0
 have na:=nM ha
 have nb:=nM hb
 refine a8 (a7 rfl (ma (vb false) (aa (a8 (a8 (a7 rfl (mv (Value.float .f64 a) (mv (Value.float .f64 a) (lw (vb (dx a)) (iV (a:=a) rfl rfl) (mv (vb (dx a)) ?_))))))))))
 have q8:¬(dx a=true):=by(rw[na];decide)
 refine lv (Value.float .f64 b) (wy (Bool.eq_false_iff.2 q8)) (al rfl) (lv (Value.float .f64 b) (wy (Bool.eq_false_iff.2 q8)) (al rfl) (lv (vb (dx b)) (wy (Bool.eq_false_iff.2 q8)) (iV (a:=b) rfl rfl) (lw (vb (dx b)) (aA rfl (Bool.eq_false_iff.2 q8) rfl) (aa ?_))))
 have p1:¬(dx b=true):=by(rw[nb];decide)
 refine af rfl (Bool.eq_false_iff.2 p1) (ao (a8 (a7 rfl (mv (Value.float .f64 a) (mv (Value.float .f64 b) (lw (vb (decide ((zf a)<(zf b)))) (np (a:=a) (b:=b) rfl rfl (gQ ‹_›) (gQ ‹_›)) (ma (vb (decide ((zf a)<(zf b)))) (aa (aq (vs:=[vb (decide ((zf a)<(zf b)))]) Try.func26 (.tmp rfl .nil) ?_)))))))))
 have e0:(decide ((zf a)<(zf b)):Bool)=(decide (zf a<zf b)):=by
   rfl
 exact⟨(congrArg (a₁:=decide ((zf a)<(zf b))) (λ(z0:Bool)=>Ending.returned (vb z0)) e0),bH.below⟩
theorem k9(w0:World)(i:Int)(k:Int)(ws:List Nat)(ws_v:Value)(hws_v:Ro w0 ws_v ws)(ws_b:Nat)(hws_b:Bx c0 (is 0) w0 ws_b [ws_v])(hi:0<=i/\i<(ws.length:Int))(hk:0<=k/\k<(ws.length:Int))(hg:∀x∈ws,dX x):
    Calls Try.prog 47 #[vi i,vi k,vp ws_b 0] w0 (λee w=>ee= .returned (vi (kz ws i k))/\bR w0.heap.size w0 w):=by
 refine ap Try.func47 rfl nq ?_
 have bH:=aX.start w0
 have Rws:=hws_v.sl
 obtain⟨hi0,hi1⟩:=hi
 obtain⟨hk0,hk1⟩:=hk
 have gi:=hg _ (bm hi0 hi1)
 have gk:=hg _ (bm hk0 hk1)
 refine a8 (a7 rfl (ai 0 (aa (a8 (ar (a8 (bG c0 rfl ir (by kernel_rfl) ?_)))))))
 intro w2 ch1
 replace hws_b:=hws_b.cn ch1
 refine qx (λw' hw'=>ag dv rfl (hws_b.bel hw') rfl) (qm (vi i) ?_)
 replace Rws:=Rws.cn ch1
 refine qx (λw' hw'=>ad (v:=ws_v) (i:=i) dw rfl rfl (Rws.bel hw') rfl (by omega) (by omega)) (qx (λw' hw'=>ax (v:=ws_v) (i:=i) aM rfl (Rws.bel hw') (by omega) (by omega) (by decide) rfl) (qx (λw' hw'=>ag dv rfl (hws_b.bel hw') rfl) (qm (vi k) (qx (λw' hw'=>ad (v:=ws_v) (i:=k) dw rfl rfl (Rws.bel hw') rfl (by omega) (by omega)) (qx (λw' hw'=>ax (v:=ws_v) (i:=k) aM rfl (Rws.bel hw') (by omega) (by omega) (by decide) rfl) ?_)))))
 refine bY (v:=vb (decide (zf (gI ws i)<zf (gI ws k)))) rfl (λw' hw'=>aC (vals:=[Value.float .f64 (gI ws i),Value.float .f64 (gI ws k)]) Try.func26 h8 gR rfl) (λw' hw'=>(eJ w' (gI ws i) (gI ws k) (by exact gi) (by exact gk)).mono λe w2 h2=>⟨h2.1,hw'.trans (h2.2.mono hw'.size)⟩) (qv (vb (decide (zf (gI ws i)<zf (gI ws k)))) (λw' hw'=>bn rfl) (cr ?_))
 intro w3 hc4
 replace hc4:=az hc4 c0
 by_cases p1:(decide (zf (gI ws i)<zf (gI ws k)))=true
 ·
  refine ae rfl p1 (a8 (a7 rfl (ai (-1) (aa (aq (vs:=[vi (-1)]) Try.func47 (.tmp rfl .nil) ?_)))))
  have e0:(-1:Int)=(kz ws i k):=by
    exact(pF ‹_›).symm
  replace bH:=bH.cn ch1
  replace bH:=bH.cn hc4
  exact⟨ri e0,bH.below⟩
 refine af rfl (Bool.eq_false_iff.2 p1) (a8 (bG c0 rfl ir (by kernel_rfl) ?_))
 intro w6 ch5
 replace hws_b:=(hws_b.cn hc4).cn ch5
 refine qx (λw' hw'=>ag dv rfl (hws_b.bel hw') rfl) (qm (vi k) ?_)
 replace Rws:=(Rws.cn hc4).cn ch5
 refine qx (λw' hw'=>ad (v:=ws_v) (i:=k) dw rfl rfl (Rws.bel hw') rfl (by omega) (by omega)) (qx (λw' hw'=>ax (v:=ws_v) (i:=k) aM rfl (Rws.bel hw') (by omega) (by omega) (by decide) rfl) (qx (λw' hw'=>ag dv rfl (hws_b.bel hw') rfl) (qm (vi i) (qx (λw' hw'=>ad (v:=ws_v) (i:=i) dw rfl rfl (Rws.bel hw') rfl (by omega) (by omega)) (qx (λw' hw'=>ax (v:=ws_v) (i:=i) aM rfl (Rws.bel hw') (by omega) (by omega) (by decide) rfl) ?_)))))
 refine bY (v:=vb (decide (zf (gI ws k)<zf (gI ws i)))) rfl (λw' hw'=>aC (vals:=[Value.float .f64 (gI ws k),Value.float .f64 (gI ws i)]) Try.func26 h8 gR rfl) (λw' hw'=>(eJ w' (gI ws k) (gI ws i) (by exact gk) (by exact gi)).mono λe w2 h2=>⟨h2.1,hw'.trans (h2.2.mono hw'.size)⟩) (qv (vb (decide (zf (gI ws k)<zf (gI ws i)))) (λw' hw'=>bn rfl) (cr ?_))
 intro w7 hc8
 replace hc8:=az hc8 c0
 by_cases p3:(decide (zf (gI ws k)<zf (gI ws i)))=true
 ·
  refine ae rfl p3 (a8 (a7 rfl (ai 1 (aa (aq (vs:=[vi 1]) Try.func47 (.tmp rfl .nil) ?_)))))
  have e0:(1:Int)=(kz ws i k):=by
    exact(pP ‹_› ‹_›).symm
  have C9:=cg [] (ch1.n.seq (hc4.n.seq (ch5.n.seq hc8.n)))
  replace bH:=bH.ca C9
  exact⟨ri e0,bH.below⟩
 refine af rfl (Bool.eq_false_iff.2 p3) (ao (aw (a8 (a7 rfl (mi i (mi k (lo (bi (v:=vi (if i<k then-1 else if k<i then 1 else 0)) (aC (vals:=[vi i,vi k]) Try.func48 mI lV rfl) (iB w7 i k) ?_))))))))
 intro w10 hb11
 replace hb11:=az hb11 c0
 refine ai (if i<k then-1 else if k<i then 1 else 0) (aa (aq (vs:=[vi (if i<k then-1 else if k<i then 1 else 0)]) Try.func47 (.tmp rfl .nil) ?_))
 have e0:(if i<k then-1 else if k<i then 1 else 0:Int)=(kz ws i k):=by
   exact(pM ‹_› ‹_›).symm
 have C12:=cg [] (ch1.n.seq (hc4.n.seq (ch5.n.seq (hc8.n.seq hb11.n))))
 replace bH:=bH.ca C12
 exact⟨ri e0,bH.below⟩
end TL
