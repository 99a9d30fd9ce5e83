import Derived.Test.YtbpphaeianpdpaaPmTlP2
import Derived.Test.YtbpphaeianpdpaaPmTlGmA
import Derived.Test.YtbpphaeianpdpaaPmTlGenA
import Derived.Test.YtbpphaeianpdpaaPmTlPwA
import Derived.Test.YtbpphaeianpdpaaProg
import Derived.Test.YtbpphaeianpdpaaPmTlAli
set_option linter.all false
set_option maxRecDepth 20000
namespace TL
open Go Go.Proofs
theorem jl:Try.prog.follows .mixedOrders=true:=by kernel_rfl
theorem dX:Tp Try.prog 29 false 1 24 (.slice none 0 0):=Tp.of (by kernel_rfl)
theorem kV:Try.f26.body.isNone=false:=rfl
theorem lj:(Try.f26.name== "runtime.NumGoroutine")=false:=by decide+kernel
theorem oF:Try.f48.body.isNone=false:=rfl
theorem pp:(Try.f48.name== "runtime.NumGoroutine")=false:=by decide+kernel
theorem ob:Try.f69.body.isNone=false:=rfl
theorem pG:(Try.f69.name== "runtime.NumGoroutine")=false:=by decide+kernel
theorem o8:Try.f71.body.isNone=false:=rfl
theorem ol:(Try.f71.name== "runtime.NumGoroutine")=false:=by decide+kernel
theorem pc:Try.f85.body.isNone=false:=rfl
theorem pB:(Try.f85.name== "runtime.NumGoroutine")=false:=by decide+kernel
theorem nQ:Try.f86.body.isNone=false:=rfl
theorem nA:(Try.f86.name== "runtime.NumGoroutine")=false:=by decide+kernel
theorem ip(w0:World)(x:Int):
    Calls Try.prog 70 #[vi x] w0 (λee w=>ee= .returned (vb false)/\cr w0.heap.size w0 w):=by
 refine am Try.func70 rfl nq ?_
 have bH:=b7.start w0
 refine a8 (a7 rfl (ma (vb false) (aa (a8 (a7 rfl (mi x (mi x (lx (cY (m:=x) (n:=x) rfl rfl) (ma (vb (!(decide (x=x)))) (aa (ar (vs:=[vb (!(decide (x=x)))]) Try.func70 (.tmp rfl .nil) ?_)))))))))))
 have e0:(!(decide (x=x)):Bool)=(false):=by
   simp
 exact⟨(congrArg (a₁:= !(decide (x=x))) (λ(z0:Bool)=>Ending.returned (vb z0)) e0),bH.below⟩
theorem jL(w0:World)(x:Int)(y:Int):
    Calls Try.prog 48 #[vi x,vi y] w0 (λee w=>ee= .returned (vi (if x<y then-1 else if y<x then 1 else 0))/\cr w0.heap.size w0 w):=by
 refine am Try.func48 rfl nq ?_
 have bH:=b7.start w0
 refine a8 (a7 rfl (ai 0 (aa (a8 (a7 rfl (mi x (lo (bB (v:=vb false) (aE (vals:=[vi x]) Try.func70 kL kP rfl) (ip w0 x) ?_))))))))
 intro w1 hb2
 replace hb2:=aA hb2 c0
 refine ma (vb false) (aa (a8 (a7 rfl (mi y (lo (bB (v:=vb false) (aE (vals:=[vi y]) Try.func70 kL kP rfl) (ip w1 y) ?_))))))
 intro w3 hb4
 replace hb4:=aA hb4 c0
 refine ma (vb false) (aa (a8 (a8 (a7 rfl (mv (vb false) (aa (aj rfl rfl (ap (a8 (a8 (a7 rfl (mv (vb false) (aa (aj rfl rfl ?_))))))))))))))
 refine ap (a8 (a8 (a7 rfl (mi x (mi y (lx (aX (m:=x) (n:=y) rfl rfl) (aa ?_)))))))
 by_cases p9:x<y
 ·
  refine ah rfl (dt p9) (a8 (a7 rfl (ai (-1) (aa (ar (vs:=[vi (-1)]) Try.func48 (.tmp rfl .nil) ?_)))))
  have e0:(-1:Int)=(if x<y then-1 else if y<x then 1 else 0):=by
    rw[if_pos ‹_›]
  replace bH:=bH.cn hb2
  replace bH:=bH.cn hb4
  exact⟨ri e0,bH.below⟩
 refine aj rfl (df p9) (ap (a8 (a8 (a7 rfl (mi x (mi y (lx (eS (m:=x) (n:=y) rfl rfl) (aa ?_))))))))
 by_cases p11:y<x
 ·
  refine ah rfl (dt p11) (a8 (a7 rfl (ai 1 (aa (ar (vs:=[vi 1]) Try.func48 (.tmp rfl .nil) ?_)))))
  have e0:(1:Int)=(if x<y then-1 else if y<x then 1 else 0):=by
    rw[if_neg ‹_›,if_pos ‹_›]
  replace bH:=bH.cn hb2
  replace bH:=bH.cn hb4
  exact⟨ri e0,bH.below⟩
 refine aj rfl (df p11) (ap (a8 (a7 rfl (ai 0 (aa (ar (vs:=[vi 0]) Try.func48 (.tmp rfl .nil) ?_))))))
 have e0:(0:Int)=(if x<y then-1 else if y<x then 1 else 0):=by
   rw[if_neg ‹_›,if_neg ‹_›]
 replace bH:=bH.cn hb2
 replace bH:=bH.cn hb4
 exact⟨ri e0,bH.below⟩
theorem mO(w0:World):
    Calls Try.prog 50 #[vn] w0 (λee w=>ee= .returned (vt [])/\cr w0.heap.size w0 w):=by
 refine am Try.func50 rfl nq ?_
 have bH:=b7.start w0
 refine a8 (a7 rfl (mv vn (lx (bA (w1:=w0) bQ rfl (Sl.nil:Sl c0 (is 0) _ _ ([]:List Int))) (ai 0 (aa (a7 rfl (mv vn (mi 0 (mi 0 (lw (Value.int .u64 0) (iS (m:=0) U3 rY rfl (by decide)) (lo ?_)))))))))))
 refine bl (aE (vals:=[Value.int .u64 0]) Try.func69 ob pG rfl) (am Try.func69 rfl nq (a8 (a7 rfl (ai 0 (aa (a8 (aj rfl rfl (ap (a8 (a7 rfl (mv (Value.int .u64 0) (lo ?_))))))))))))
 refine bl (aE (vals:=[Value.int .u64 0]) Try.func85 pc pB rfl) (am Try.func85 rfl nq (a8 (a7 rfl (ai 0 (aa (a8 (a8 (a7 rfl (mv (Value.int .u64 0) (lx (d7 (m:=0) (n:=4294967296) rfl rfl) (aa (aj rfl rfl (ap ?_)))))))))))))
 refine a8 (a8 (a7 rfl (mv (Value.int .u64 0) (lx (d7 (m:=0) (n:=65536) rfl rfl) (aa (aj rfl rfl (ap (a8 (a8 (a7 rfl (mv (Value.int .u64 0) (lx (d7 (m:=0) (n:=256) rfl rfl) (aa ?_)))))))))))))
 refine aj rfl rfl (ap (a8 (a7 rfl (mi 0 (mv (Value.int .u64 0) (lw (Value.int .u8 0) (iS (m:=0) s7 U5 rfl (by decide)) (lw (Value.int .u8 0) (jm (i:=0) (r:=0) (b:=0) U9 rfl rfl (by decide) (by decide+kernel) (by decide)) (lw (vi 0) (iS (m:=0) U5 U3 rfl (by decide)) (lx (bg (m:=0) (n:=0) rfl rfl (by omega)) (ai 0 ?_))))))))))
 refine aa (ar (vs:=[vi 0]) Try.func85 (.tmp rfl .nil) ?_)
 refine⟨vi 0,rfl,?_⟩
 refine ai 0 (aa (ar (vs:=[vi 0]) Try.func69 (.tmp rfl .nil) ?_))
 refine⟨vi 0,rfl,?_⟩
 refine lo (bl (aE (vals:=[vn,vi 0,vi 0,vi 0]) Try.func71 o8 ol rfl) (am Try.func71 rfl nq (a8 (a7 rfl (ma (vb true) (aa (a8 (a7 rfl (ma (vb true) (aa (aq (cQ ?_))))))))))))
 refine aq (a8 (a7 rfl (mi 0 (mi 0 (lx (dZ (m:=0) (n:=0) rfl rfl (by omega)) (ai 0 (aa (a8 (a8 (a7 rfl (mi 0 (lx (ms (m:=0) (n:=12) rfl rfl) (aa ?_)))))))))))))
 refine ah rfl rfl (a8 (a7 rfl (mv vn (mi 0 (mi 0 (lo (bl (aE (vals:=[vn,vi 0,vi 0]) Try.func86 nQ nA rfl) (am Try.func86 rfl nq (a8 (a7 rfl (mi 0 ?_)))))))))))
 refine lx (bg (m:=0) (n:=1) rfl rfl (by omega)) (ai 1 (aa (aq (cQ (a8 (a8 (a7 rfl (mi 1 (mi 0 (lx (aX (m:=1) (n:=0) rfl rfl) (aa ?_)))))))))))
 refine aj rfl rfl (aO rfl (cu (vs:=[]) Try.func86 .nil ?_))
 refine⟨vt [],rfl,?_⟩
 refine aa (ar (vs:=[]) Try.func71 .nil ?_)
 refine⟨vt [],rfl,?_⟩
 refine aa (cu (vs:=[]) Try.func50 .nil ?_)
 exact⟨rfl,bH.below⟩
theorem io(w0:World)(a:Nat)(b:Nat)(ha:dS a)(hb:dS b):
    Calls Try.prog 26 #[Value.float .f64 a,Value.float .f64 b] w0 (λee w=>ee= .returned (vb (decide (zf a<zf b)))/\cr w0.heap.size w0 w):=by
 refine am Try.func26 rfl nq ?_
 have bH:=b7.start w0
 have na:=pO ha
 have nb:=pO hb
 refine a8 (a7 rfl (ma (vb false) (aa (a8 (a8 (a7 rfl (mv (Value.float .f64 a) (mv (Value.float .f64 a) (lw (vb (e8 a)) (k9 (a:=a) rfl rfl) (mv (vb (e8 a)) ?_))))))))))
 have q8:¬(e8 a=true):=by(rw[na];decide)
 refine lv (Value.float .f64 b) (wy (Bool.eq_false_iff.2 q8)) (al rfl) (lv (Value.float .f64 b) (wy (Bool.eq_false_iff.2 q8)) (al rfl) (lv (vb (e8 b)) (wy (Bool.eq_false_iff.2 q8)) (k9 (a:=b) rfl rfl) (lw (vb (e8 b)) (aI rfl (Bool.eq_false_iff.2 q8) rfl) (aa ?_))))
 have p1:¬(e8 b=true):=by(rw[nb];decide)
 refine aj rfl (Bool.eq_false_iff.2 p1) (ap (a8 (a7 rfl (mv (Value.float .f64 a) (mv (Value.float .f64 b) (lw (vb (decide ((zf a)<(zf b)))) (nP (a:=a) (b:=b) rfl rfl (iE ‹_›) (iE ‹_›)) (ma (vb (decide ((zf a)<(zf b)))) (aa (ar (vs:=[vb (decide ((zf a)<(zf b)))]) Try.func26 (.tmp rfl .nil) ?_)))))))))
 have e0:(decide ((zf a)<(zf b)):Bool)=(decide (zf a<zf b)):=by
   rfl
 exact⟨(congrArg (a₁:=decide ((zf a)<(zf b))) (λ(z0:Bool)=>Ending.returned (vb z0)) e0),bH.below⟩
theorem lY(w0:World)(i:Int)(k:Int)(ws:List Nat)(ws_v:Value)(hws_v:Ro w0 ws_v ws)(ws_b:Nat)(hws_b:Bx c0 (is 0) w0 ws_b [ws_v])(hi:0<=i/\i<(ws.length:Int))(hk:0<=k/\k<(ws.length:Int))(hg:∀x∈ws,dS x):
    Calls Try.prog 47 #[vi i,vi k,vp ws_b 0] w0 (λee w=>ee= .returned (vi (m5 ws i k))/\cr w0.heap.size w0 w):=by
 refine am Try.func47 rfl nq ?_
 have bH:=b7.start w0
 have Rws:=hws_v.sl
 obtain⟨hi0,hi1⟩:=hi
 obtain⟨hk0,hk1⟩:=hk
 have gi:=hg _ (bh hi0 hi1)
 have gk:=hg _ (bh hk0 hk1)
 refine a8 (a7 rfl (ai 0 (aa (a8 (aq (a8 (cd c0 rfl jl (by kernel_rfl) ?_)))))))
 intro w2 ch1
 replace hws_b:=hws_b.cn ch1
 refine qx (λw' hw'=>ae dX rfl (hws_b.bel hw') rfl) (qm (vi i) ?_)
 replace Rws:=Rws.cn ch1
 refine qx (λw' hw'=>ab (v:=ws_v) (i:=i) cR rfl rfl (Rws.bel hw') rfl (by omega) (by omega)) (qx (λw' hw'=>aw (v:=ws_v) (i:=i) aF rfl (Rws.bel hw') (by omega) (by omega) (by decide) rfl) (qx (λw' hw'=>ae dX rfl (hws_b.bel hw') rfl) (qm (vi k) (qx (λw' hw'=>ab (v:=ws_v) (i:=k) cR rfl rfl (Rws.bel hw') rfl (by omega) (by omega)) (qx (λw' hw'=>aw (v:=ws_v) (i:=k) aF rfl (Rws.bel hw') (by omega) (by omega) (by decide) rfl) ?_)))))
 refine eX (v:=vb (decide (zf (gI ws i)<zf (gI ws k)))) rfl (λw' hw'=>aE (vals:=[Value.float .f64 (gI ws i),Value.float .f64 (gI ws k)]) Try.func26 kV lj rfl) (λw' hw'=>(io w' (gI ws i) (gI ws k) (by exact gi) (by exact gk)).mono λe w2 h2=>⟨h2.1,hw'.trans (h2.2.mono hw'.size)⟩) (qv (vb (decide (zf (gI ws i)<zf (gI ws k)))) (λw' hw'=>aR rfl) (d4 ?_))
 intro w3 hc4
 replace hc4:=aA hc4 c0
 by_cases p1:(decide (zf (gI ws i)<zf (gI ws k)))=true
 ·
  refine ah rfl p1 (a8 (a7 rfl (ai (-1) (aa (ar (vs:=[vi (-1)]) Try.func47 (.tmp rfl .nil) ?_)))))
  have e0:(-1:Int)=(m5 ws i k):=by
    exact(rT ‹_›).symm
  replace bH:=bH.cn ch1
  replace bH:=bH.cn hc4
  exact⟨ri e0,bH.below⟩
 refine aj rfl (Bool.eq_false_iff.2 p1) (a8 (cd c0 rfl jl (by kernel_rfl) ?_))
 intro w6 ch5
 replace hws_b:=(hws_b.cn hc4).cn ch5
 refine qx (λw' hw'=>ae dX rfl (hws_b.bel hw') rfl) (qm (vi k) ?_)
 replace Rws:=(Rws.cn hc4).cn ch5
 refine qx (λw' hw'=>ab (v:=ws_v) (i:=k) cR rfl rfl (Rws.bel hw') rfl (by omega) (by omega)) (qx (λw' hw'=>aw (v:=ws_v) (i:=k) aF rfl (Rws.bel hw') (by omega) (by omega) (by decide) rfl) (qx (λw' hw'=>ae dX rfl (hws_b.bel hw') rfl) (qm (vi i) (qx (λw' hw'=>ab (v:=ws_v) (i:=i) cR rfl rfl (Rws.bel hw') rfl (by omega) (by omega)) (qx (λw' hw'=>aw (v:=ws_v) (i:=i) aF rfl (Rws.bel hw') (by omega) (by omega) (by decide) rfl) ?_)))))
 refine eX (v:=vb (decide (zf (gI ws k)<zf (gI ws i)))) rfl (λw' hw'=>aE (vals:=[Value.float .f64 (gI ws k),Value.float .f64 (gI ws i)]) Try.func26 kV lj rfl) (λw' hw'=>(io w' (gI ws k) (gI ws i) (by exact gk) (by exact gi)).mono λe w2 h2=>⟨h2.1,hw'.trans (h2.2.mono hw'.size)⟩) (qv (vb (decide (zf (gI ws k)<zf (gI ws i)))) (λw' hw'=>aR rfl) (d4 ?_))
 intro w7 hc8
 replace hc8:=aA hc8 c0
 by_cases p3:(decide (zf (gI ws k)<zf (gI ws i)))=true
 ·
  refine ah rfl p3 (a8 (a7 rfl (ai 1 (aa (ar (vs:=[vi 1]) Try.func47 (.tmp rfl .nil) ?_)))))
  have e0:(1:Int)=(m5 ws i k):=by
    exact(rV ‹_› ‹_›).symm
  have C9:=cg [] (ch1.n.seq (hc4.n.seq (ch5.n.seq hc8.n)))
  replace bH:=bH.ca C9
  exact⟨ri e0,bH.below⟩
 refine aj rfl (Bool.eq_false_iff.2 p3) (ap (au (a8 (a7 rfl (mi i (mi k (lo (bB (v:=vi (if i<k then-1 else if k<i then 1 else 0)) (aE (vals:=[vi i,vi k]) Try.func48 oF pp rfl) (jL w7 i k) ?_))))))))
 intro w10 hb11
 replace hb11:=aA hb11 c0
 refine ai (if i<k then-1 else if k<i then 1 else 0) (aa (ar (vs:=[vi (if i<k then-1 else if k<i then 1 else 0)]) Try.func47 (.tmp rfl .nil) ?_))
 have e0:(if i<k then-1 else if k<i then 1 else 0:Int)=(m5 ws i k):=by
   exact(s4 ‹_› ‹_›).symm
 have C12:=cg [] (ch1.n.seq (hc4.n.seq (ch5.n.seq (hc8.n.seq hb11.n))))
 replace bH:=bH.ca C12
 exact⟨ri e0,bH.below⟩
end TL
