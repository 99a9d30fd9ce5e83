import Derived.Test.YtcblhagfadineaaJpTlP4
import Derived.Test.YtcblhagfadineaaJpTlGenX
import Derived.Test.YtcblhagfadineaaProg
import Derived.Test.YtcblhagfadineaaJpTlAli
set_option linter.all false
set_option maxRecDepth 20000
namespace TL
open Go Go.Proofs
theorem zg:Try.f41.body.isNone=false:=rfl
theorem yA:(Try.f41.name== "runtime.NumGoroutine")=false:=by decide+kernel
theorem yB:Try.f42.body.isNone=false:=rfl
theorem y5:(Try.f42.name== "runtime.NumGoroutine")=false:=by decide+kernel
theorem sD(w0:World)(g:(Int)×(List Pt))(g_v:Value)(hg_v:Ro w0 g_v g.2)(r:bY)(r_v:Value)(hr_v:Ro w0 r_v r):
    Calls Try.prog 20 #[vg [vi g.1,g_v],r_v] w0 (λee w=>∃xx:aH×Value,ee= .returned ((λ⟨δ,rv0⟩=>vt [rv0,vi ((du g r).2)]) xx)/\(λ(⟨δ,rv0⟩:aH×Value) (w:World)=>fI w0 δ w/\dT δ 1 w rv0 ((du g r).1)) xx w):=by
 refine av Try.func20 rfl nq ?_
 have bH:=aX.start w0
 have Rg:=hg_v.sl
 have Rr:=hr_v.sl
 refine aa (a8 rfl (cj rfl (bj c0 (is 1) (1,0) rfl rfl ?_)))
 intro g4 w1 b3 ch2 bx5
 replace bx5:Bx g4 (is 1) w1 b3 [vi g.1,g_v]:=bx5
 refine ma vn (ai 0 (ab (aa (aa (a8 rfl (lx (ak (ds:=[vi g.1,g_v]) cL rfl bx5 rfl rfl) (mv r_v ?_)))))))
 replace Rg:=Rg.cn ch2
 replace Rr:=Rr.cn ch2
 refine lo (aK (v:=vi (bR g r)) (aA (vals:=[vg [vi g.1,g_v],r_v]) Try.func41 zg yA rfl) (wW w1 g g_v (Rg).ro r r_v (Rr).ro) ?_)
 intro w6 hb7
 replace hb7:=ar hb7 g4
 refine ai (bR g r) (ab (aa ?_))
 clear bx5
 refine a8 rfl (mi (bR g r) (lx (dU (m:=bR g r) (n:=0) rfl rfl) (ab ?_)))
 by_cases p2:(bR g r)=0
 ·
  obtain⟨hm,hrp⟩:=x4 ‹_›
  have hm0:=hm
  obtain⟨hm1,hm2,hm3,hm4⟩:=hm0
  refine aj rfl (congrArg Bool.not (dt p2)) (am (aa (a8 rfl (mv r_v ?_))))
  replace Rr:=Rr.cn hb7
  refine lo (c3 (aA (vals:=[r_v]) Try.func42 yB y5 rfl) (uh w6 r r_v (Rr).ro) ?_)
  rintro⟨d9,v11⟩ w8 ⟨fr10,o12⟩
  obtain⟨g13,ch14,G13⟩:=nH g4 fr10 (λn=>if n=1 then 2 else 0)
  replace o12:=o12.gl G13 2
  refine ma v11 (ai 0 (ab (au (vs:=[v11,vi 0]) Try.func20 (.tmp rfl (.tmp rfl .nil)) ?_)))
  have C15:=cg [] (ch2.n.seq (hb7.n.seq ch14.n))
  replace bH:=bH.ca C15
  have e0:(cG r:bY)=((du g r).1):=by
    simp only[du,if_pos (show bR g r=0 by assumption)]
  have e1:(0:Int)=((du g r).2):=by
    simp only[du,if_pos (show bR g r=0 by assumption)]
  exact⟨(fin w0 g13 (λn=>if n=2 then 1 else 0),v11),(bV (a:=cG r) (b:=0) (λ(z0:bY) (z1:Int)=>Ending.returned (vt [v11,vi z1])) e0 e1),bH.fresh _,(e0▸(o12.glue (γ:=c0) (ren:=(λn=>if n=2 then 1 else 0)) (k:=1) bH.col rfl rfl))⟩
 refine ag rfl (congrArg Bool.not (df p2)) (aa (a8 rfl (mi (bR g r) (ma vn (ai (bR g r) (ab (au (vs:=[vn,vi (bR g r)]) Try.func20 (.tmp rfl (.tmp rfl .nil)) ?_)))))))
 replace bH:=bH.cn ch2
 replace bH:=bH.cn hb7
 have e0:([]:bY)=((du g r).1):=by
   simp only[du,if_neg (show¬bR g r=0 by assumption)]
 have e1:(bR g r:Int)=((du g r).2):=by
   simp only[du,if_neg (show¬bR g r=0 by assumption)]
 exact⟨(fin w0 g4 (λn=>0),vn),(bV (a:=[]) (b:=bR g r) (λ(z0:bY) (z1:Int)=>Ending.returned (vt [vn,vi z1])) e0 e1),bH.fresh _,(e0▸dT.nil)⟩
end TL
