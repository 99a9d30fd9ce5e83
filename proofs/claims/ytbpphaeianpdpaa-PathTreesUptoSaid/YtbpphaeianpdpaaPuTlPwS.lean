import Derived.Test.YtbpphaeianpdpaaPuTlP2
import Derived.Test.YtbpphaeianpdpaaPuTlGmA
import Derived.Test.YtbpphaeianpdpaaPuTlGenA
import Derived.Test.YtbpphaeianpdpaaPuTlPwA
import Derived.Test.YtbpphaeianpdpaaProg
import Derived.Test.YtbpphaeianpdpaaPuTlAli
set_option linter.all false
set_option maxRecDepth 20000
namespace TL
open Go Go.Proofs
theorem jh:Try.prog.follows .mixedOrders=true:=by kernel_rfl
theorem d4:Tp Try.prog 29 false 1 24 (.slice none 0 0):=Tp.of (by kernel_rfl)
theorem kt:Try.f26.body.isNone=false:=rfl
theorem kD:(Try.f26.name== "runtime.NumGoroutine")=false:=by decide+kernel
theorem o6:Try.f48.body.isNone=false:=rfl
theorem nv:(Try.f48.name== "runtime.NumGoroutine")=false:=by decide+kernel
theorem nz:Try.f69.body.isNone=false:=rfl
theorem ow:(Try.f69.name== "runtime.NumGoroutine")=false:=by decide+kernel
theorem nl:Try.f71.body.isNone=false:=rfl
theorem nV:(Try.f71.name== "runtime.NumGoroutine")=false:=by decide+kernel
theorem np:Try.f85.body.isNone=false:=rfl
theorem oy:(Try.f85.name== "runtime.NumGoroutine")=false:=by decide+kernel
theorem nI:Try.f86.body.isNone=false:=rfl
theorem oq:(Try.f86.name== "runtime.NumGoroutine")=false:=by decide+kernel
theorem hF(w0:World)(x:Int):
    Calls Try.prog 70 #[vi x] w0 (λee w=>ee= .returned (vb false)/\ch w0.heap.size w0 w):=by
 refine ap Try.func70 rfl nq ?_
 have bH:=aX.start w0
 refine a7 (a6 rfl (ma (vb false) (a8 (a7 (a6 rfl (mi x (mi x (lx (cM (m:=x) (n:=x) rfl rfl) (ma (vb (!(decide (x=x)))) (a8 (aq (vs:=[vb (!(decide (x=x)))]) Try.func70 (.tmp rfl .nil) ?_)))))))))))
 have e0:(!(decide (x=x)):Bool)=(false):=by
   simp
 exact⟨(congrArg (a₁:= !(decide (x=x))) (λ(z0:Bool)=>Ending.returned (vb z0)) e0),bH.below⟩
theorem jq(w0:World)(x:Int)(y:Int):
    Calls Try.prog 48 #[vi x,vi y] w0 (λee w=>ee= .returned (vi (if x<y then-1 else if y<x then 1 else 0))/\ch w0.heap.size w0 w):=by
 refine ap Try.func48 rfl nq ?_
 have bH:=aX.start w0
 refine a7 (a6 rfl (ai 0 (a8 (a7 (a6 rfl (mi x (lo (bu (v:=vb false) (aG (vals:=[vi x]) Try.func70 kL kZ rfl) (hF w0 x) ?_))))))))
 intro w1 hb2
 replace hb2:=ax hb2 c0
 refine ma (vb false) (a8 (a7 (a6 rfl (mi y (lo (bu (v:=vb false) (aG (vals:=[vi y]) Try.func70 kL kZ rfl) (hF w1 y) ?_))))))
 intro w3 hb4
 replace hb4:=ax hb4 c0
 refine ma (vb false) (a8 (a7 (a7 (a6 rfl (mv (vb false) (a8 (af rfl rfl (al (a7 (a7 (a6 rfl (mv (vb false) (a8 (af rfl rfl ?_))))))))))))))
 refine al (a7 (a7 (a6 rfl (mi x (mi y (lx (b9 (m:=x) (n:=y) rfl rfl) (a8 ?_)))))))
 by_cases p9:x<y
 ·
  refine ae rfl (dt p9) (a7 (a6 rfl (ai (-1) (a8 (aq (vs:=[vi (-1)]) Try.func48 (.tmp rfl .nil) ?_)))))
  have e0:(-1:Int)=(if x<y then-1 else if y<x then 1 else 0):=by
    rw[if_pos ‹_›]
  replace bH:=bH.cn hb2
  replace bH:=bH.cn hb4
  exact⟨ri e0,bH.below⟩
 refine af rfl (df p9) (al (a7 (a7 (a6 rfl (mi x (mi y (lx (dH (m:=x) (n:=y) rfl rfl) (a8 ?_))))))))
 by_cases p11:y<x
 ·
  refine ae rfl (dt p11) (a7 (a6 rfl (ai 1 (a8 (aq (vs:=[vi 1]) Try.func48 (.tmp rfl .nil) ?_)))))
  have e0:(1:Int)=(if x<y then-1 else if y<x then 1 else 0):=by
    rw[if_neg ‹_›,if_pos ‹_›]
  replace bH:=bH.cn hb2
  replace bH:=bH.cn hb4
  exact⟨ri e0,bH.below⟩
 refine af rfl (df p11) (al (a7 (a6 rfl (ai 0 (a8 (aq (vs:=[vi 0]) Try.func48 (.tmp rfl .nil) ?_))))))
 have e0:(0:Int)=(if x<y then-1 else if y<x then 1 else 0):=by
   rw[if_neg ‹_›,if_neg ‹_›]
 replace bH:=bH.cn hb2
 replace bH:=bH.cn hb4
 exact⟨ri e0,bH.below⟩
theorem nf(w0:World):
    Calls Try.prog 50 #[vn] w0 (λee w=>ee= .returned (vt [])/\ch w0.heap.size w0 w):=by
 refine ap Try.func50 rfl nq ?_
 have bH:=aX.start w0
 refine a7 (a6 rfl (mv vn (lx (bl (w1:=w0) bI rfl (Sl.nil:Sl c0 (is 0) _ _ ([]:List Int))) (ai 0 (a8 (a6 rfl (mv vn (mi 0 (mi 0 (lw (Value.int .u64 0) (ka (m:=0) U3 rf rfl (by decide)) (lo ?_)))))))))))
 refine bL (aG (vals:=[Value.int .u64 0]) Try.func69 nz ow rfl) (ap Try.func69 rfl nq (a7 (a6 rfl (ai 0 (a8 (a7 (af rfl rfl (al (a7 (a6 rfl (mv (Value.int .u64 0) (lo ?_))))))))))))
 refine bL (aG (vals:=[Value.int .u64 0]) Try.func85 np oy rfl) (ap Try.func85 rfl nq (a7 (a6 rfl (ai 0 (a8 (a7 (a7 (a6 rfl (mv (Value.int .u64 0) (lx (da (m:=0) (n:=4294967296) rfl rfl) (a8 (af rfl rfl (al ?_)))))))))))))
 refine a7 (a7 (a6 rfl (mv (Value.int .u64 0) (lx (da (m:=0) (n:=65536) rfl rfl) (a8 (af rfl rfl (al (a7 (a7 (a6 rfl (mv (Value.int .u64 0) (lx (da (m:=0) (n:=256) rfl rfl) (a8 ?_)))))))))))))
 refine af rfl rfl (al (a7 (a6 rfl (mi 0 (mv (Value.int .u64 0) (lw (Value.int .u8 0) (ka (m:=0) rG U5 rfl (by decide)) (lw (Value.int .u8 0) (jf (i:=0) (r:=0) (b:=0) U9 rfl rfl (by decide) (by decide+kernel) (by decide)) (lw (vi 0) (ka (m:=0) U5 U3 rfl (by decide)) (lx (bg (m:=0) (n:=0) rfl rfl (by omega)) (ai 0 ?_))))))))))
 refine a8 (aq (vs:=[vi 0]) Try.func85 (.tmp rfl .nil) ?_)
 refine⟨vi 0,rfl,?_⟩
 refine ai 0 (a8 (aq (vs:=[vi 0]) Try.func69 (.tmp rfl .nil) ?_))
 refine⟨vi 0,rfl,?_⟩
 refine lo (bL (aG (vals:=[vn,vi 0,vi 0,vi 0]) Try.func71 nl nV rfl) (ap Try.func71 rfl nq (a7 (a6 rfl (ma (vb true) (a8 (a7 (a6 rfl (ma (vb true) (a8 (ao (d6 ?_))))))))))))
 refine ao (a7 (a6 rfl (mi 0 (mi 0 (lx (dL (m:=0) (n:=0) rfl rfl (by omega)) (ai 0 (a8 (a7 (a7 (a6 rfl (mi 0 (lx (qV (m:=0) (n:=12) rfl rfl) (a8 ?_)))))))))))))
 refine ae rfl rfl (a7 (a6 rfl (mv vn (mi 0 (mi 0 (lo (bL (aG (vals:=[vn,vi 0,vi 0]) Try.func86 nI oq rfl) (ap Try.func86 rfl nq (a7 (a6 rfl (mi 0 ?_)))))))))))
 refine lx (bg (m:=0) (n:=1) rfl rfl (by omega)) (ai 1 (a8 (ao (d6 (a7 (a7 (a6 rfl (mi 1 (mi 0 (lx (b9 (m:=1) (n:=0) rfl rfl) (a8 ?_)))))))))))
 refine af rfl rfl (aF rfl (cq (vs:=[]) Try.func86 .nil ?_))
 refine⟨vt [],rfl,?_⟩
 refine a8 (aq (vs:=[]) Try.func71 .nil ?_)
 refine⟨vt [],rfl,?_⟩
 refine a8 (cq (vs:=[]) Try.func50 .nil ?_)
 exact⟨rfl,bH.below⟩
theorem ib(w0:World)(a:Nat)(b:Nat)(ha:fI a)(hb:fI b):
    Calls Try.prog 26 #[Value.float .f64 a,Value.float .f64 b] w0 (λee w=>ee= .returned (vb (decide (zf a<zf b)))/\ch w0.heap.size w0 w):=by
 refine ap Try.func26 rfl nq ?_
 have bH:=aX.start w0
 have na:=pj ha
 have nb:=pj hb
 refine a7 (a6 rfl (ma (vb false) (a8 (a7 (a7 (a6 rfl (mv (Value.float .f64 a) (mv (Value.float .f64 a) (lw (vb (dZ a)) (k5 (a:=a) rfl rfl) (mv (vb (dZ a)) ?_))))))))))
 have q8:¬(dZ a=true):=by(rw[na];decide)
 refine lv (Value.float .f64 b) (wy (Bool.eq_false_iff.2 q8)) (am rfl) (lv (Value.float .f64 b) (wy (Bool.eq_false_iff.2 q8)) (am rfl) (lv (vb (dZ b)) (wy (Bool.eq_false_iff.2 q8)) (k5 (a:=b) rfl rfl) (lw (vb (dZ b)) (aH rfl (Bool.eq_false_iff.2 q8) rfl) (a8 ?_))))
 have p1:¬(dZ b=true):=by(rw[nb];decide)
 refine af rfl (Bool.eq_false_iff.2 p1) (al (a7 (a6 rfl (mv (Value.float .f64 a) (mv (Value.float .f64 b) (lw (vb (decide ((zf a)<(zf b)))) (nr (a:=a) (b:=b) rfl rfl (iI ‹_›) (iI ‹_›)) (ma (vb (decide ((zf a)<(zf b)))) (a8 (aq (vs:=[vb (decide ((zf a)<(zf b)))]) Try.func26 (.tmp rfl .nil) ?_)))))))))
 have e0:(decide ((zf a)<(zf b)):Bool)=(decide (zf a<zf b)):=by
   rfl
 exact⟨(congrArg (a₁:=decide ((zf a)<(zf b))) (λ(z0:Bool)=>Ending.returned (vb z0)) e0),bH.below⟩
theorem lA(w0:World)(i:Int)(k:Int)(ws:List Nat)(ws_v:Value)(hws_v:Ro w0 ws_v ws)(ws_b:Nat)(hws_b:Bx c0 (is 0) w0 ws_b [ws_v])(hi:0<=i/\i<(ws.length:Int))(hk:0<=k/\k<(ws.length:Int))(hg:∀x∈ws,fI x):
    Calls Try.prog 47 #[vi i,vi k,vp ws_b 0] w0 (λee w=>ee= .returned (vi (lD ws i k))/\ch w0.heap.size w0 w):=by
 refine ap Try.func47 rfl nq ?_
 have bH:=aX.start w0
 have Rws:=hws_v.sl
 obtain⟨hi0,hi1⟩:=hi
 obtain⟨hk0,hk1⟩:=hk
 have gi:=hg _ (aU hi0 hi1)
 have gk:=hg _ (aU hk0 hk1)
 refine a7 (a6 rfl (ai 0 (a8 (a7 (ao (a7 (bS c0 rfl jh (by kernel_rfl) ?_)))))))
 intro w2 ch1
 replace hws_b:=hws_b.cn ch1
 refine qx (λw' hw'=>ah d4 rfl (hws_b.bel hw') rfl) (qm (vi i) ?_)
 replace Rws:=Rws.cn ch1
 refine qx (λw' hw'=>aa (v:=ws_v) (i:=i) eD rfl rfl (Rws.bel hw') rfl (by omega) (by omega)) (qx (λw' hw'=>au (v:=ws_v) (i:=i) aT rfl (Rws.bel hw') (by omega) (by omega) (by decide) rfl) (qx (λw' hw'=>ah d4 rfl (hws_b.bel hw') rfl) (qm (vi k) (qx (λw' hw'=>aa (v:=ws_v) (i:=k) eD rfl rfl (Rws.bel hw') rfl (by omega) (by omega)) (qx (λw' hw'=>au (v:=ws_v) (i:=k) aT rfl (Rws.bel hw') (by omega) (by omega) (by decide) rfl) ?_)))))
 refine iv (v:=vb (decide (zf (gI ws i)<zf (gI ws k)))) rfl (λw' hw'=>aG (vals:=[Value.float .f64 (gI ws i),Value.float .f64 (gI ws k)]) Try.func26 kt kD rfl) (λw' hw'=>(ib w' (gI ws i) (gI ws k) (by exact gi) (by exact gk)).mono λe w2 h2=>⟨h2.1,hw'.trans (h2.2.mono hw'.size)⟩) (qv (vb (decide (zf (gI ws i)<zf (gI ws k)))) (λw' hw'=>bz rfl) (cX ?_))
 intro w3 hc4
 replace hc4:=ax hc4 c0
 by_cases p1:(decide (zf (gI ws i)<zf (gI ws k)))=true
 ·
  refine ae rfl p1 (a7 (a6 rfl (ai (-1) (a8 (aq (vs:=[vi (-1)]) Try.func47 (.tmp rfl .nil) ?_)))))
  have e0:(-1:Int)=(lD ws i k):=by
    exact(rh ‹_›).symm
  replace bH:=bH.cn ch1
  replace bH:=bH.cn hc4
  exact⟨ri e0,bH.below⟩
 refine af rfl (Bool.eq_false_iff.2 p1) (a7 (bS c0 rfl jh (by kernel_rfl) ?_))
 intro w6 ch5
 replace hws_b:=(hws_b.cn hc4).cn ch5
 refine qx (λw' hw'=>ah d4 rfl (hws_b.bel hw') rfl) (qm (vi k) ?_)
 replace Rws:=(Rws.cn hc4).cn ch5
 refine qx (λw' hw'=>aa (v:=ws_v) (i:=k) eD rfl rfl (Rws.bel hw') rfl (by omega) (by omega)) (qx (λw' hw'=>au (v:=ws_v) (i:=k) aT rfl (Rws.bel hw') (by omega) (by omega) (by decide) rfl) (qx (λw' hw'=>ah d4 rfl (hws_b.bel hw') rfl) (qm (vi i) (qx (λw' hw'=>aa (v:=ws_v) (i:=i) eD rfl rfl (Rws.bel hw') rfl (by omega) (by omega)) (qx (λw' hw'=>au (v:=ws_v) (i:=i) aT rfl (Rws.bel hw') (by omega) (by omega) (by decide) rfl) ?_)))))
 refine iv (v:=vb (decide (zf (gI ws k)<zf (gI ws i)))) rfl (λw' hw'=>aG (vals:=[Value.float .f64 (gI ws k),Value.float .f64 (gI ws i)]) Try.func26 kt kD rfl) (λw' hw'=>(ib w' (gI ws k) (gI ws i) (by exact gk) (by exact gi)).mono λe w2 h2=>⟨h2.1,hw'.trans (h2.2.mono hw'.size)⟩) (qv (vb (decide (zf (gI ws k)<zf (gI ws i)))) (λw' hw'=>bz rfl) (cX ?_))
 intro w7 hc8
 replace hc8:=ax hc8 c0
 by_cases p3:(decide (zf (gI ws k)<zf (gI ws i)))=true
 ·
  refine ae rfl p3 (a7 (a6 rfl (ai 1 (a8 (aq (vs:=[vi 1]) Try.func47 (.tmp rfl .nil) ?_)))))
  have e0:(1:Int)=(lD ws i k):=by
    exact(r6 ‹_› ‹_›).symm
  have C9:=cg [] (ch1.n.seq (hc4.n.seq (ch5.n.seq hc8.n)))
  replace bH:=bH.ca C9
  exact⟨ri e0,bH.below⟩
 refine af rfl (Bool.eq_false_iff.2 p3) (al (ar (a7 (a6 rfl (mi i (mi k (lo (bu (v:=vi (if i<k then-1 else if k<i then 1 else 0)) (aG (vals:=[vi i,vi k]) Try.func48 o6 nv rfl) (jq w7 i k) ?_))))))))
 intro w10 hb11
 replace hb11:=ax hb11 c0
 refine ai (if i<k then-1 else if k<i then 1 else 0) (a8 (aq (vs:=[vi (if i<k then-1 else if k<i then 1 else 0)]) Try.func47 (.tmp rfl .nil) ?_))
 have e0:(if i<k then-1 else if k<i then 1 else 0:Int)=(lD ws i k):=by
   exact(rd ‹_› ‹_›).symm
 have C12:=cg [] (ch1.n.seq (hc4.n.seq (ch5.n.seq (hc8.n.seq hb11.n))))
 replace bH:=bH.ca C12
 exact⟨ri e0,bH.below⟩
end TL
