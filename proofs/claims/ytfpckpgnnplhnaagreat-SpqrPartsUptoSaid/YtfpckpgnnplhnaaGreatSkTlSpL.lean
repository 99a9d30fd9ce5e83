import Derived.Test.YtfpckpgnnplhnaaGreatSkTlSpA
import Derived.Test.YtfpckpgnnplhnaaGreatSkTlSpW
import Derived.Test.YtfpckpgnnplhnaaGreatSkTlSpC
import Derived.Test.YtfpckpgnnplhnaaGreatSkTlSpD
import Derived.Test.YtfpckpgnnplhnaaGreatSkTlSpP
import Derived.Test.YtfpckpgnnplhnaaGreatSkTlGenA
import Derived.Test.YtfpckpgnnplhnaaGreatSkTlAli
set_option linter.all false
set_option maxRecDepth 20000
namespace TL
open Go Go.Proofs
theorem wH:Tryz.f87.body.isNone=false:=rfl
theorem xF:(Tryz.f87.name== "runtime.NumGoroutine")=false:=by decide+kernel
theorem wY:Tryz.f88.body.isNone=false:=rfl
theorem uz:(Tryz.f88.name== "runtime.NumGoroutine")=false:=by decide+kernel
theorem wO:Tryz.f89.body.isNone=false:=rfl
theorem x1:(Tryz.f89.name== "runtime.NumGoroutine")=false:=by decide+kernel
theorem qK(w0:World)(g:(Int)×(List Pt))(g_v:Value)(hg_v:Ro w0 g_v g.2):
    Calls Tryz.prog 64 #[vg [vi g.1,g_v]] w0 (λee w=>∃xx:aw×Value,ee= .returned ((λ⟨δ,rv0⟩=>vt [rv0,vi ((aD g).2)]) xx)/\(λ(⟨δ,rv0⟩:aw×Value) (w:World)=>dU w0 δ w/\Ow δ (is 1) (is 1) w rv0 ((aD g).1)) xx w):=by
 refine ap Tryz.func64 rfl nq ?_
 have bH:=b6.start w0
 have Rg:=hg_v.sl
 refine a7 (a6 rfl (cN rfl (cq c0 (is 1) (1,0) rfl rfl ?_)))
 intro g4 w1 b3 ch2 bx5
 refine ma vn (ai 0 (ab (a7 (am (a7 (a6 rfl (lx (ay (ds:=[vi g.1,g_v]) aX rfl bx5 rfl rfl) ?_)))))))
 replace Rg:=Rg.cn ch2
 refine lo (bV (v:=vb (dm g)) (aH (vals:=[vg [vi g.1,g_v]]) Tryz.func32 iH iY rfl) (iP w1 g g_v (Rg).ro) ?_)
 intro w6 hb7
 replace hb7:=aN hb7 g4
 refine lx (eU (b:=(dm g)) rfl) (ma (vb (!(dm g))) (ab ?_))
 by_cases p1:(dm g)=true
 ·
  have hmN:c7 g:=of_decide_eq_true ‹_›
  obtain⟨hmN0,hmN1⟩:=BE hmN
  refine ag rfl (congrArg Bool.not p1) (a7 (a6 rfl ?_))
  replace bx5:=bx5.cn hb7
  refine lx (ay (ds:=[vi g.1,g_v]) aX rfl bx5 rfl rfl) ?_
  replace Rg:=Rg.cn hb7
  refine lo (bV (v:=vb (jW g)) (aH (vals:=[vg [vi g.1,g_v]]) Tryz.func87 wH xF rfl) (qP w6 g g_v (Rg).ro) ?_)
  intro w8 hb9
  replace hb9:=aN hb9 g4
  refine lx (eU (b:=(jW g)) rfl) (ma (vb (!(jW g))) (ab ?_))
  by_cases p3:(jW g)=true
  ·
   refine ag rfl (congrArg Bool.not p3) (ao (ak (a7 (a6 rfl ?_))))
   replace bx5:=bx5.cn hb9
   refine lx (ay (ds:=[vi g.1,g_v]) aX rfl bx5 rfl rfl) (lx (aa ea rfl rfl rfl rfl) (lx (a8 ah rfl bx5 rfl) (lx (aa ea rfl rfl rfl rfl) (lx (a8 ah rfl bx5 rfl) (lx (pv (m:=g.1) (n:=g.1) rfl rfl (by omega)) ?_)))))
   replace Rg:=Rg.cn hb9
   refine lo (bE (aH (vals:=[vg [vi g.1,g_v],vi (g.1*g.1)]) Tryz.func88 wY uz rfl) (tQ w8 g g_v (Rg).ro (g.1*g.1) (by exact of_decide_eq_true ‹_›)) ?_)
   rintro⟨d11,v13⟩ w10 ⟨fr12,o14⟩
   obtain⟨g15,ch16,G15⟩:=i8 g4 fr12 (λn=>if n=1 then 2 else 0)
   replace o14:=o14.gl G15 2
   refine ma v13 (ai 0 (ab (au (vs:=[v13,vi 0]) Tryz.func64 (.tmp rfl (.tmp rfl .nil)) ?_)))
   have C17:=cg [] (ch2.n.seq (hb7.n.seq (hb9.n.seq ch16.n)))
   replace bH:=bH.ca C17
   have e0:(jB g (g.1*g.1):List Pt)=((aD g).1):=by
     rw[xf (of_decide_eq_true ‹_›) ‹_›]
   have e1:(0:Int)=((aD g).2):=by
     rw[xf (of_decide_eq_true ‹_›) ‹_›]
   exact⟨(fin w0 g15 (λn=>if n=2 then 1 else 0),v13),(cV (a:=jB g (g.1*g.1)) (b:=0) (λ(z0:List Pt) (z1:Int)=>Ending.returned (vt [v13,vi z1])) e0 e1),bH.fresh _,(e0▸(o14.glue (γ:=c0) (ren:=(λn=>if n=2 then 1 else 0)) (k:=1) bH.col rfl rfl))⟩
  refine af rfl (congrArg Bool.not (Bool.eq_false_iff.2 p3)) (a7 ?_)
  clear bx5
  refine a6 rfl (ma vn (ai 7 (ab (au (vs:=[vn,vi 7]) Tryz.func64 (.tmp rfl (.tmp rfl .nil)) ?_))))
  have C18:=cg [] (ch2.n.seq (hb7.n.seq hb9.n))
  replace bH:=bH.ca C18
  have e0:([]:List Pt)=((aD g).1):=by
    rw[zX (of_decide_eq_true ‹_›) ‹_›]
  have e1:(7:Int)=((aD g).2):=by
    rw[zX (of_decide_eq_true ‹_›) ‹_›]
  exact⟨(fin w0 g4 (λn=>0),vn),(cV (a:=[]) (b:=7) (λ(z0:List Pt) (z1:Int)=>Ending.returned (vt [vn,vi z1])) e0 e1),bH.fresh _,(e0▸Ow.nil)⟩
 refine af rfl (congrArg Bool.not (Bool.eq_false_iff.2 p1)) (a7 ?_)
 clear bx5
 refine a6 rfl (ma vn (ai 1 (ab (au (vs:=[vn,vi 1]) Tryz.func64 (.tmp rfl (.tmp rfl .nil)) ?_))))
 replace bH:=bH.cn ch2
 replace bH:=bH.cn hb7
 have e0:([]:List Pt)=((aD g).1):=by
   rw[vz (λh=>absurd (dt h) ‹_›)]
 have e1:(1:Int)=((aD g).2):=by
   rw[vz (λh=>absurd (dt h) ‹_›)]
 exact⟨(fin w0 g4 (λn=>0),vn),(cV (a:=[]) (b:=1) (λ(z0:List Pt) (z1:Int)=>Ending.returned (vt [vn,vi z1])) e0 e1),bH.fresh _,(e0▸Ow.nil)⟩
theorem oC(w0:World)(g:(Int)×(List Pt))(g_v:Value)(hg_v:Ro w0 g_v g.2)(u:Int)(v:Int):
    Calls Tryz.prog 65 #[vg [vi g.1,g_v],vi u,vi v] w0 (λee w=>∃xx:aw×Value,ee= .returned ((λ⟨δ,rv0⟩=>vt [rv0,vi ((ba g u v).2)]) xx)/\(λ(⟨δ,rv0⟩:aw×Value) (w:World)=>dU w0 δ w/\dr δ 1 w rv0 ((ba g u v).1)) xx w):=by
 refine ap Tryz.func65 rfl nq ?_
 have bH:=b6.start w0
 have Rg:=hg_v.sl
 refine a7 (a6 rfl (cN rfl (cq c0 (is 1) (1,0) rfl rfl ?_)))
 intro g4 w1 b3 ch2 bx5
 refine ma vn (ai 0 (ab (a7 (am (a7 (a6 rfl (lx (ay (ds:=[vi g.1,g_v]) aX rfl bx5 rfl rfl) ?_)))))))
 replace Rg:=Rg.cn ch2
 refine lo (bV (v:=vb (dm g)) (aH (vals:=[vg [vi g.1,g_v]]) Tryz.func32 iH iY rfl) (iP w1 g g_v (Rg).ro) ?_)
 intro w6 hb7
 replace hb7:=aN hb7 g4
 refine lx (eU (b:=(dm g)) rfl) (ma (vb (!(dm g))) (ab ?_))
 by_cases p1:(dm g)=true
 ·
  refine ag rfl (congrArg Bool.not p1) (a7 (a6 rfl (mi u (lx (bw (m:=u) (n:=0) rfl rfl) (mv (vb (decide (u<0))) ?_)))))
  by_cases q15:u<0
  ·
   refine aA (wn (dt q15)) (aA (wn (dt q15)) (aA (wn (dt q15)) (aA (wn (dt q15)) (lw (vb true) (bj rfl (dt q15) rfl) (mv (vb true) (aA (wn rfl) (aA (wn rfl) (lw (vb true) (bj rfl rfl rfl) (mv (vb true) (aA (wn rfl) (aA (wn rfl) (aA (wn rfl) (aA (wn rfl) ?_)))))))))))))
   refine lw (vb true) (bj rfl rfl rfl) (mv (vb true) (aA (wn rfl) (aA (wn rfl) (aA (wn rfl) (lw (vb true) (bj rfl rfl rfl) (ma (vb true) (ab (af rfl rfl (a7 ?_)))))))))
   clear bx5
   refine a6 rfl (ma vn (ai 2 (ab (au (vs:=[vn,vi 2]) Tryz.func65 (.tmp rfl (.tmp rfl .nil)) ?_))))
   replace bH:=bH.cn ch2
   replace bH:=bH.cn hb7
   have e0:([]:jH)=((ba g u v).1):=by
     rw[ji (of_decide_eq_true ‹_›) (by omega)]
   have e1:(2:Int)=((ba g u v).2):=by
     rw[ji (of_decide_eq_true ‹_›) (by omega)]
   exact⟨(fin w0 g4 (λn=>0),vn),(cV (a:=[]) (b:=2) (λ(z0:jH) (z1:Int)=>Ending.returned (vt [vn,vi z1])) e0 e1),bH.fresh _,(e0▸dr.nil)⟩
  refine lv (vi u) (wy (df q15)) (aq rfl) (lv (vp b3 0) (wy (df q15)) (aa ea rfl rfl rfl rfl) ?_)
  replace bx5:=bx5.cn hb7
  refine lv (vi g.1) (wy (df q15)) (a8 ah rfl bx5 rfl) (lv (vb (decide (g.1<=u))) (wy (df q15)) (eB (m:=u) (n:=g.1) rfl rfl) (lw (vb (decide (g.1<=u))) (bt rfl (df q15) rfl) (mv (vb (decide (g.1<=u))) ?_)))
  by_cases q21:g.1<=u
  ·
   refine aA (wn (dt q21)) (aA (wn (dt q21)) (lw (vb true) (bj rfl (dt q21) rfl) (mv (vb true) (aA (wn rfl) (aA (wn rfl) (aA (wn rfl) (aA (wn rfl) (lw (vb true) (bj rfl rfl rfl) (mv (vb true) (aA (wn rfl) (aA (wn rfl) (aA (wn rfl) (lw (vb true) (bj rfl rfl rfl) (ma (vb true) ?_))))))))))))))
   refine ab (af rfl rfl (a7 ?_))
   clear bx5
   refine a6 rfl (ma vn (ai 2 (ab (au (vs:=[vn,vi 2]) Tryz.func65 (.tmp rfl (.tmp rfl .nil)) ?_))))
   replace bH:=bH.cn ch2
   replace bH:=bH.cn hb7
   have e0:([]:jH)=((ba g u v).1):=by
     rw[ji (of_decide_eq_true ‹_›) (by omega)]
   have e1:(2:Int)=((ba g u v).2):=by
     rw[ji (of_decide_eq_true ‹_›) (by omega)]
   exact⟨(fin w0 g4 (λn=>0),vn),(cV (a:=[]) (b:=2) (λ(z0:jH) (z1:Int)=>Ending.returned (vt [vn,vi z1])) e0 e1),bH.fresh _,(e0▸dr.nil)⟩
  refine lv (vi v) (wy (df q21)) (aq rfl) (lv (vb (decide (v<0))) (wy (df q21)) (bw (m:=v) (n:=0) rfl rfl) (lw (vb (decide (v<0))) (bt rfl (df q21) rfl) (mv (vb (decide (v<0))) ?_)))
  by_cases q25:v<0
  ·
   refine aA (wn (dt q25)) (aA (wn (dt q25)) (aA (wn (dt q25)) (aA (wn (dt q25)) (lw (vb true) (bj rfl (dt q25) rfl) (mv (vb true) (aA (wn rfl) (aA (wn rfl) (aA (wn rfl) (lw (vb true) (bj rfl rfl rfl) (ma (vb true) (ab ?_)))))))))))
   refine af rfl rfl (a7 ?_)
   clear bx5
   refine a6 rfl (ma vn (ai 2 (ab (au (vs:=[vn,vi 2]) Tryz.func65 (.tmp rfl (.tmp rfl .nil)) ?_))))
   replace bH:=bH.cn ch2
   replace bH:=bH.cn hb7
   have e0:([]:jH)=((ba g u v).1):=by
     rw[ji (of_decide_eq_true ‹_›) (by omega)]
   have e1:(2:Int)=((ba g u v).2):=by
     rw[ji (of_decide_eq_true ‹_›) (by omega)]
   exact⟨(fin w0 g4 (λn=>0),vn),(cV (a:=[]) (b:=2) (λ(z0:jH) (z1:Int)=>Ending.returned (vt [vn,vi z1])) e0 e1),bH.fresh _,(e0▸dr.nil)⟩
  refine lv (vi v) (wy (df q25)) (aq rfl) (lv (vp b3 0) (wy (df q25)) (aa ea rfl rfl rfl rfl) (lv (vi g.1) (wy (df q25)) (a8 ah rfl bx5 rfl) (lv (vb (decide (g.1<=v))) (wy (df q25)) (eB (m:=v) (n:=g.1) rfl rfl) (lw (vb (decide (g.1<=v))) (bt rfl (df q25) rfl) (mv (vb (decide (g.1<=v))) ?_)))))
  by_cases q31:g.1<=v
  ·
   refine aA (wn (dt q31)) (aA (wn (dt q31)) (aA (wn (dt q31)) (lw (vb true) (bj rfl (dt q31) rfl) (ma (vb true) (ab (af rfl rfl (a7 ?_)))))))
   clear bx5
   refine a6 rfl (ma vn (ai 2 (ab (au (vs:=[vn,vi 2]) Tryz.func65 (.tmp rfl (.tmp rfl .nil)) ?_))))
   replace bH:=bH.cn ch2
   replace bH:=bH.cn hb7
   have e0:([]:jH)=((ba g u v).1):=by
     rw[ji (of_decide_eq_true ‹_›) (by omega)]
   have e1:(2:Int)=((ba g u v).2):=by
     rw[ji (of_decide_eq_true ‹_›) (by omega)]
   exact⟨(fin w0 g4 (λn=>0),vn),(cV (a:=[]) (b:=2) (λ(z0:jH) (z1:Int)=>Ending.returned (vt [vn,vi z1])) e0 e1),bH.fresh _,(e0▸dr.nil)⟩
  refine lv (vi u) (wy (df q31)) (aq rfl) (lv (vi v) (wy (df q31)) (aq rfl) (lv (vb (decide (u=v))) (wy (df q31)) (dA (m:=u) (n:=v) rfl rfl) (lw (vb (decide (u=v))) (bt rfl (df q31) rfl) (ma (vb (decide (u=v))) (ab ?_)))))
  by_cases p3:u=v
  ·
   refine af rfl (dt p3) (a7 ?_)
   clear bx5
   refine a6 rfl (ma vn (ai 2 (ab (au (vs:=[vn,vi 2]) Tryz.func65 (.tmp rfl (.tmp rfl .nil)) ?_))))
   replace bH:=bH.cn ch2
   replace bH:=bH.cn hb7
   have e0:([]:jH)=((ba g u v).1):=by
     rw[ji (of_decide_eq_true ‹_›) (by omega)]
   have e1:(2:Int)=((ba g u v).2):=by
     rw[ji (of_decide_eq_true ‹_›) (by omega)]
   exact⟨(fin w0 g4 (λn=>0),vn),(cV (a:=[]) (b:=2) (λ(z0:jH) (z1:Int)=>Ending.returned (vt [vn,vi z1])) e0 e1),bH.fresh _,(e0▸dr.nil)⟩
  refine ag rfl (df p3) (ao (ak (a7 (a6 rfl (lx (ay (ds:=[vi g.1,g_v]) aX rfl bx5 rfl rfl) (mi u (mi v ?_)))))))
  replace Rg:=Rg.cn hb7
  refine lo (bE (aH (vals:=[vg [vi g.1,g_v],vi u,vi v]) Tryz.func89 wO x1 rfl) (pz w6 g g_v (Rg).ro u v (by exact of_decide_eq_true ‹_›)) ?_)
  rintro⟨d9,v11⟩ w8 ⟨fr10,o12⟩
  obtain⟨g13,ch14,G13⟩:=i8 g4 fr10 (λn=>if n=1 then 2 else 0)
  replace o12:=o12.gl G13 2
  refine ma v11 (ai 0 (ab (au (vs:=[v11,vi 0]) Tryz.func65 (.tmp rfl (.tmp rfl .nil)) ?_)))
  have C15:=cg [] (ch2.n.seq (hb7.n.seq ch14.n))
  replace bH:=bH.ca C15
  have e0:(rC g u v:jH)=((ba g u v).1):=by
    rw[vC (of_decide_eq_true ‹_›) (by omega)]
  have e1:(0:Int)=((ba g u v).2):=by
    rw[vC (of_decide_eq_true ‹_›) (by omega)]
  exact⟨(fin w0 g13 (λn=>if n=2 then 1 else 0),v11),(cV (a:=rC g u v) (b:=0) (λ(z0:jH) (z1:Int)=>Ending.returned (vt [v11,vi z1])) e0 e1),bH.fresh _,(e0▸(o12.glue (γ:=c0) (ren:=(λn=>if n=2 then 1 else 0)) (k:=1) bH.col rfl rfl))⟩
 refine af rfl (congrArg Bool.not (Bool.eq_false_iff.2 p1)) (a7 ?_)
 clear bx5
 refine a6 rfl (ma vn (ai 1 (ab (au (vs:=[vn,vi 1]) Tryz.func65 (.tmp rfl (.tmp rfl .nil)) ?_))))
 replace bH:=bH.cn ch2
 replace bH:=bH.cn hb7
 have e0:([]:jH)=((ba g u v).1):=by
   rw[vT (λh=>absurd (dt h) ‹_›)]
 have e1:(1:Int)=((ba g u v).2):=by
   rw[vT (λh=>absurd (dt h) ‹_›)]
 exact⟨(fin w0 g4 (λn=>0),vn),(cV (a:=[]) (b:=1) (λ(z0:jH) (z1:Int)=>Ending.returned (vt [vn,vi z1])) e0 e1),bH.fresh _,(e0▸dr.nil)⟩
end TL
