import Derived.Test.YtfpckpgnnplhnaaGreatSwTlSpA
import Derived.Test.YtfpckpgnnplhnaaGreatSwTlSpW
import Derived.Test.YtfpckpgnnplhnaaGreatSwTlSpC
import Derived.Test.YtfpckpgnnplhnaaGreatSwTlSpD
import Derived.Test.YtfpckpgnnplhnaaGreatSwTlSpP
import Derived.Test.YtfpckpgnnplhnaaGreatSwTlGenA
import Derived.Test.YtfpckpgnnplhnaaGreatSwTlAli
set_option linter.all false
set_option maxRecDepth 20000
namespace TL
open Go Go.Proofs
theorem A5:Tryz.f87.body.isNone=false:=rfl
theorem xS:(Tryz.f87.name== "runtime.NumGoroutine")=false:=by decide+kernel
theorem wN:Tryz.f88.body.isNone=false:=rfl
theorem wt:(Tryz.f88.name== "runtime.NumGoroutine")=false:=by decide+kernel
theorem yw:Tryz.f89.body.isNone=false:=rfl
theorem yh:(Tryz.f89.name== "runtime.NumGoroutine")=false:=by decide+kernel
theorem su(w0:World)(g:(Int)×(List Pt))(g_v:Value)(hg_v:Ro w0 g_v g.2):
    Calls Tryz.prog 64 #[vg [vi g.1,g_v]] w0 (λee w=>∃xx:ax×Value,ee= .returned ((λ⟨δ,rv0⟩=>vt [rv0,vi ((aH g).2)]) xx)/\(λ(⟨δ,rv0⟩:ax×Value) (w:World)=>dz w0 δ w/\Ow δ (is 1) (is 1) w rv0 ((aH g).1)) xx w):=by
 refine ah Tryz.func64 rfl nq ?_
 have bH:=aW.start w0
 have Rg:=hg_v.sl
 refine a7 (a6 rfl (cy rfl (bU c0 (is 1) (1,0) rfl rfl ?_)))
 intro g4 w1 b3 ch2 bx5
 refine ma vn (ai 0 (ab (a7 (aj (a7 (a6 rfl (lx (av (ds:=[vi g.1,g_v]) aK rfl bx5 rfl rfl) ?_)))))))
 refine lo (bI (v:=vb (eI g)) (aB (vals:=[vg [vi g.1,g_v]]) Tryz.func32 jc jp rfl) (jA w1 g g_v Rg.t.ro) ?_)
 intro w6 hb7
 replace hb7:=aG hb7 g4
 refine lx (fM (b:=(eI g)) rfl) (ma (vb (!(eI g))) (ab ?_))
 by_cases p1:(eI g)=true
 ·
  have hmN:bO g:=of_decide_eq_true ‹_›
  obtain⟨hmN0,hmN1⟩:=Fc hmN
  refine af rfl (congrArg Bool.not p1) (a7 (a6 rfl ?_))
  refine lx (av (ds:=[vi g.1,g_v]) aK rfl bx5.t rfl rfl) ?_
  refine lo (bI (v:=vb (j8 g)) (aB (vals:=[vg [vi g.1,g_v]]) Tryz.func87 A5 xS rfl) (sP w6 g g_v Rg.t.ro) ?_)
  intro w8 hb9
  replace hb9:=aG hb9 g4
  refine lx (fM (b:=(j8 g)) rfl) (ma (vb (!(j8 g))) (ab ?_))
  by_cases p3:(j8 g)=true
  ·
   refine af rfl (congrArg Bool.not p3) (am (ak (a7 (a6 rfl ?_))))
   refine lx (av (ds:=[vi g.1,g_v]) aK rfl bx5.t rfl rfl) (lx (aa dK rfl rfl rfl rfl) (lx (a8 ap rfl bx5.t rfl) (lx (aa dK rfl rfl rfl rfl) (lx (a8 ap rfl bx5.t rfl) (lx (kb (m:=g.1) (n:=g.1) rfl rfl (by omega)) ?_)))))
   refine lo (bB (aB (vals:=[vg [vi g.1,g_v],vi (g.1*g.1)]) Tryz.func88 wN wt rfl) (ux w8 g g_v Rg.t.ro (g.1*g.1) (by exact of_decide_eq_true ‹_›)) ?_)
   rintro⟨d11,v13⟩ w10 ⟨fr12,o14⟩
   obtain⟨g15,ch16,G15⟩:=hU g4 fr12 (λn=>if n=1 then 2 else 0)
   replace o14:=o14.gl G15 2
   refine ma v13 (ai 0 (ab (az (vs:=[v13,vi 0]) Tryz.func64 (.tmp rfl (.tmp rfl .nil)) ?_)))
   have e0:(jx g (g.1*g.1):List Pt)=((aH g).1):=by
     rw[sG (of_decide_eq_true ‹_›) ‹_›]
   have e1:(0:Int)=((aH g).2):=by
     rw[sG (of_decide_eq_true ‹_›) ‹_›]
   exact⟨(fin w0 g15 (λn=>if n=2 then 1 else 0),v13),(cP (a:=jx g (g.1*g.1)) (b:=0) (λ(z0:List Pt) (z1:Int)=>Ending.returned (vt [v13,vi z1])) e0 e1),bH.t.fresh _,(e0▸(o14.glue (γ:=c0) (ren:=(λn=>if n=2 then 1 else 0)) (k:=1) bH.t.col rfl rfl))⟩
  refine ag rfl (congrArg Bool.not (Bool.eq_false_iff.2 p3)) (a7 ?_)
  refine a6 rfl (ma vn (ai 7 (ab (az (vs:=[vn,vi 7]) Tryz.func64 (.tmp rfl (.tmp rfl .nil)) ?_))))
  have e0:([]:List Pt)=((aH g).1):=by
    rw[AF (of_decide_eq_true ‹_›) ‹_›]
  have e1:(7:Int)=((aH g).2):=by
    rw[AF (of_decide_eq_true ‹_›) ‹_›]
  exact⟨(fin w0 g4 (λn=>0),vn),(cP (a:=[]) (b:=7) (λ(z0:List Pt) (z1:Int)=>Ending.returned (vt [vn,vi z1])) e0 e1),bH.t.fresh _,(e0▸Ow.nil)⟩
 refine ag rfl (congrArg Bool.not (Bool.eq_false_iff.2 p1)) (a7 ?_)
 refine a6 rfl (ma vn (ai 1 (ab (az (vs:=[vn,vi 1]) Tryz.func64 (.tmp rfl (.tmp rfl .nil)) ?_))))
 have e0:([]:List Pt)=((aH g).1):=by
   rw[sx (λh=>absurd (dt h) ‹_›)]
 have e1:(1:Int)=((aH g).2):=by
   rw[sx (λh=>absurd (dt h) ‹_›)]
 exact⟨(fin w0 g4 (λn=>0),vn),(cP (a:=[]) (b:=1) (λ(z0:List Pt) (z1:Int)=>Ending.returned (vt [vn,vi z1])) e0 e1),bH.t.fresh _,(e0▸Ow.nil)⟩
theorem pB(w0:World)(g:(Int)×(List Pt))(g_v:Value)(hg_v:Ro w0 g_v g.2)(u:Int)(v:Int):
    Calls Tryz.prog 65 #[vg [vi g.1,g_v],vi u,vi v] w0 (λee w=>∃xx:ax×Value,ee= .returned ((λ⟨δ,rv0⟩=>vt [rv0,vi ((b6 g u v).2)]) xx)/\(λ(⟨δ,rv0⟩:ax×Value) (w:World)=>dz w0 δ w/\dr δ 1 w rv0 ((b6 g u v).1)) xx w):=by
 refine ah Tryz.func65 rfl nq ?_
 have bH:=aW.start w0
 have Rg:=hg_v.sl
 refine a7 (a6 rfl (cy rfl (bU c0 (is 1) (1,0) rfl rfl ?_)))
 intro g4 w1 b3 ch2 bx5
 refine ma vn (ai 0 (ab (a7 (aj (a7 (a6 rfl (lx (av (ds:=[vi g.1,g_v]) aK rfl bx5 rfl rfl) ?_)))))))
 refine lo (bI (v:=vb (eI g)) (aB (vals:=[vg [vi g.1,g_v]]) Tryz.func32 jc jp rfl) (jA w1 g g_v Rg.t.ro) ?_)
 intro w6 hb7
 replace hb7:=aG hb7 g4
 refine lx (fM (b:=(eI g)) rfl) (ma (vb (!(eI g))) (ab ?_))
 by_cases p1:(eI g)=true
 ·
  refine af rfl (congrArg Bool.not p1) (a7 (a6 rfl (mi u (lx (br (m:=u) (n:=0) rfl rfl) (mv (vb (decide (u<0))) ?_)))))
  by_cases q15:u<0
  ·
   refine au (wn (dt q15)) (au (wn (dt q15)) (au (wn (dt q15)) (au (wn (dt q15)) (lw (vb true) (bh rfl (dt q15) rfl) (mv (vb true) (au (wn rfl) (au (wn rfl) (lw (vb true) (bh rfl rfl rfl) (mv (vb true) (au (wn rfl) (au (wn rfl) (au (wn rfl) (au (wn rfl) ?_)))))))))))))
   refine lw (vb true) (bh rfl rfl rfl) (mv (vb true) (au (wn rfl) (au (wn rfl) (au (wn rfl) (lw (vb true) (bh rfl rfl rfl) (ma (vb true) (ab (ag rfl rfl (a7 ?_)))))))))
   refine a6 rfl (ma vn (ai 2 (ab (az (vs:=[vn,vi 2]) Tryz.func65 (.tmp rfl (.tmp rfl .nil)) ?_))))
   have e0:([]:j7)=((b6 g u v).1):=by
     rw[k8 (of_decide_eq_true ‹_›) (by omega)]
   have e1:(2:Int)=((b6 g u v).2):=by
     rw[k8 (of_decide_eq_true ‹_›) (by omega)]
   exact⟨(fin w0 g4 (λn=>0),vn),(cP (a:=[]) (b:=2) (λ(z0:j7) (z1:Int)=>Ending.returned (vt [vn,vi z1])) e0 e1),bH.t.fresh _,(e0▸dr.nil)⟩
  refine lv (vi u) (wy (df q15)) (ar rfl) (lv (vp b3 0) (wy (df q15)) (aa dK rfl rfl rfl rfl) ?_)
  refine lv (vi g.1) (wy (df q15)) (a8 ap rfl bx5.t rfl) (lv (vb (decide (g.1<=u))) (wy (df q15)) (eL (m:=u) (n:=g.1) rfl rfl) (lw (vb (decide (g.1<=u))) (bo rfl (df q15) rfl) (mv (vb (decide (g.1<=u))) ?_)))
  by_cases q21:g.1<=u
  ·
   refine au (wn (dt q21)) (au (wn (dt q21)) (lw (vb true) (bh rfl (dt q21) rfl) (mv (vb true) (au (wn rfl) (au (wn rfl) (au (wn rfl) (au (wn rfl) (lw (vb true) (bh rfl rfl rfl) (mv (vb true) (au (wn rfl) (au (wn rfl) (au (wn rfl) (lw (vb true) (bh rfl rfl rfl) (ma (vb true) ?_))))))))))))))
   refine ab (ag rfl rfl (a7 ?_))
   refine a6 rfl (ma vn (ai 2 (ab (az (vs:=[vn,vi 2]) Tryz.func65 (.tmp rfl (.tmp rfl .nil)) ?_))))
   have e0:([]:j7)=((b6 g u v).1):=by
     rw[k8 (of_decide_eq_true ‹_›) (by omega)]
   have e1:(2:Int)=((b6 g u v).2):=by
     rw[k8 (of_decide_eq_true ‹_›) (by omega)]
   exact⟨(fin w0 g4 (λn=>0),vn),(cP (a:=[]) (b:=2) (λ(z0:j7) (z1:Int)=>Ending.returned (vt [vn,vi z1])) e0 e1),bH.t.fresh _,(e0▸dr.nil)⟩
  refine lv (vi v) (wy (df q21)) (ar rfl) (lv (vb (decide (v<0))) (wy (df q21)) (br (m:=v) (n:=0) rfl rfl) (lw (vb (decide (v<0))) (bo rfl (df q21) rfl) (mv (vb (decide (v<0))) ?_)))
  by_cases q25:v<0
  ·
   refine au (wn (dt q25)) (au (wn (dt q25)) (au (wn (dt q25)) (au (wn (dt q25)) (lw (vb true) (bh rfl (dt q25) rfl) (mv (vb true) (au (wn rfl) (au (wn rfl) (au (wn rfl) (lw (vb true) (bh rfl rfl rfl) (ma (vb true) (ab ?_)))))))))))
   refine ag rfl rfl (a7 ?_)
   refine a6 rfl (ma vn (ai 2 (ab (az (vs:=[vn,vi 2]) Tryz.func65 (.tmp rfl (.tmp rfl .nil)) ?_))))
   have e0:([]:j7)=((b6 g u v).1):=by
     rw[k8 (of_decide_eq_true ‹_›) (by omega)]
   have e1:(2:Int)=((b6 g u v).2):=by
     rw[k8 (of_decide_eq_true ‹_›) (by omega)]
   exact⟨(fin w0 g4 (λn=>0),vn),(cP (a:=[]) (b:=2) (λ(z0:j7) (z1:Int)=>Ending.returned (vt [vn,vi z1])) e0 e1),bH.t.fresh _,(e0▸dr.nil)⟩
  refine lv (vi v) (wy (df q25)) (ar rfl) (lv (vp b3 0) (wy (df q25)) (aa dK rfl rfl rfl rfl) (lv (vi g.1) (wy (df q25)) (a8 ap rfl bx5.t rfl) (lv (vb (decide (g.1<=v))) (wy (df q25)) (eL (m:=v) (n:=g.1) rfl rfl) (lw (vb (decide (g.1<=v))) (bo rfl (df q25) rfl) (mv (vb (decide (g.1<=v))) ?_)))))
  by_cases q31:g.1<=v
  ·
   refine au (wn (dt q31)) (au (wn (dt q31)) (au (wn (dt q31)) (lw (vb true) (bh rfl (dt q31) rfl) (ma (vb true) (ab (ag rfl rfl (a7 ?_)))))))
   refine a6 rfl (ma vn (ai 2 (ab (az (vs:=[vn,vi 2]) Tryz.func65 (.tmp rfl (.tmp rfl .nil)) ?_))))
   have e0:([]:j7)=((b6 g u v).1):=by
     rw[k8 (of_decide_eq_true ‹_›) (by omega)]
   have e1:(2:Int)=((b6 g u v).2):=by
     rw[k8 (of_decide_eq_true ‹_›) (by omega)]
   exact⟨(fin w0 g4 (λn=>0),vn),(cP (a:=[]) (b:=2) (λ(z0:j7) (z1:Int)=>Ending.returned (vt [vn,vi z1])) e0 e1),bH.t.fresh _,(e0▸dr.nil)⟩
  refine lv (vi u) (wy (df q31)) (ar rfl) (lv (vi v) (wy (df q31)) (ar rfl) (lv (vb (decide (u=v))) (wy (df q31)) (dd (m:=u) (n:=v) rfl rfl) (lw (vb (decide (u=v))) (bo rfl (df q31) rfl) (ma (vb (decide (u=v))) (ab ?_)))))
  by_cases p3:u=v
  ·
   refine ag rfl (dt p3) (a7 ?_)
   refine a6 rfl (ma vn (ai 2 (ab (az (vs:=[vn,vi 2]) Tryz.func65 (.tmp rfl (.tmp rfl .nil)) ?_))))
   have e0:([]:j7)=((b6 g u v).1):=by
     rw[k8 (of_decide_eq_true ‹_›) (by omega)]
   have e1:(2:Int)=((b6 g u v).2):=by
     rw[k8 (of_decide_eq_true ‹_›) (by omega)]
   exact⟨(fin w0 g4 (λn=>0),vn),(cP (a:=[]) (b:=2) (λ(z0:j7) (z1:Int)=>Ending.returned (vt [vn,vi z1])) e0 e1),bH.t.fresh _,(e0▸dr.nil)⟩
  refine af rfl (df p3) (am (ak (a7 (a6 rfl (lx (av (ds:=[vi g.1,g_v]) aK rfl bx5.t rfl rfl) (mi u (mi v ?_)))))))
  refine lo (bB (aB (vals:=[vg [vi g.1,g_v],vi u,vi v]) Tryz.func89 yw yh rfl) (s7 w6 g g_v Rg.t.ro u v (by exact of_decide_eq_true ‹_›)) ?_)
  rintro⟨d9,v11⟩ w8 ⟨fr10,o12⟩
  obtain⟨g13,ch14,G13⟩:=hU g4 fr10 (λn=>if n=1 then 2 else 0)
  replace o12:=o12.gl G13 2
  refine ma v11 (ai 0 (ab (az (vs:=[v11,vi 0]) Tryz.func65 (.tmp rfl (.tmp rfl .nil)) ?_)))
  have e0:(sY g u v:j7)=((b6 g u v).1):=by
    rw[Ar (of_decide_eq_true ‹_›) (by omega)]
  have e1:(0:Int)=((b6 g u v).2):=by
    rw[Ar (of_decide_eq_true ‹_›) (by omega)]
  exact⟨(fin w0 g13 (λn=>if n=2 then 1 else 0),v11),(cP (a:=sY g u v) (b:=0) (λ(z0:j7) (z1:Int)=>Ending.returned (vt [v11,vi z1])) e0 e1),bH.t.fresh _,(e0▸(o12.glue (γ:=c0) (ren:=(λn=>if n=2 then 1 else 0)) (k:=1) bH.t.col rfl rfl))⟩
 refine ag rfl (congrArg Bool.not (Bool.eq_false_iff.2 p1)) (a7 ?_)
 refine a6 rfl (ma vn (ai 1 (ab (az (vs:=[vn,vi 1]) Tryz.func65 (.tmp rfl (.tmp rfl .nil)) ?_))))
 have e0:([]:j7)=((b6 g u v).1):=by
   rw[A3 (λh=>absurd (dt h) ‹_›)]
 have e1:(1:Int)=((b6 g u v).2):=by
   rw[A3 (λh=>absurd (dt h) ‹_›)]
 exact⟨(fin w0 g4 (λn=>0),vn),(cP (a:=[]) (b:=1) (λ(z0:j7) (z1:Int)=>Ending.returned (vt [vn,vi z1])) e0 e1),bH.t.fresh _,(e0▸dr.nil)⟩
end TL
