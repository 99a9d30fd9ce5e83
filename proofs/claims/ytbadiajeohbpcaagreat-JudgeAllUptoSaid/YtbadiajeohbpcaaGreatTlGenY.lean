import Derived.Test.YtbadiajeohbpcaaGreatTlP3
import Derived.Test.YtbadiajeohbpcaaGreatTlGenX
import Derived.Test.YtbadiajeohbpcaaGreatProg
import Derived.Test.YtbadiajeohbpcaaGreatTlAli
set_option linter.all false
set_option maxRecDepth 20000
namespace TL
open Go Go.Proofs
theorem tj(w0:World)(g:(Int)×(List Pt))(g_v:Value)(hg_v:Ro w0 g_v g.2)(r:cT)(r_v:Value)(hr_v:Ro w0 r_v r):
    Calls Tryz.prog 33 #[vg [vi g.1,g_v],r_v] w0 (λee w=>∃xx:aK×Value,ee= .returned ((λ⟨δ,rv0⟩=>vt [rv0,vi ((dM g r).2)]) xx)/\(λ(⟨δ,rv0⟩:aK×Value) (w:World)=>em w0 δ w/\dr δ 1 w rv0 ((dM g r).1)) xx w):=by
 refine au Tryz.func33 rfl nq ?_
 have bH:=aT.start w0
 have Rg:=hg_v.sl
 have Rr:=hr_v.sl
 refine a7 (a6 rfl (bW rfl (bh c0 (is 1) (1,0) rfl rfl ?_)))
 intro g4 w1 b3 ch2 bx5
 replace bx5:Bx g4 (is 1) w1 b3 [vi g.1,g_v]:=bx5
 refine ma vn (ai 0 (aa (a7 (a7 (a6 rfl (lx (aj (ds:=[vi g.1,g_v]) db rfl bx5 rfl rfl) (mv r_v ?_)))))))
 replace Rg:=Rg.cn ch2
 replace Rr:=Rr.cn ch2
 refine lo (aO (v:=vi (bg g r)) (aA (vals:=[vg [vi g.1,g_v],r_v]) Tryz.func34 nf nQ rfl) (ld w1 g g_v (Rg).ro r r_v (Rr).ro) ?_)
 intro w6 hb7
 replace hb7:=ao hb7 g4
 refine ai (bg g r) (aa (a7 ?_))
 clear bx5
 refine a6 rfl (mi (bg g r) (lx (c5 (m:=bg g r) (n:=0) rfl rfl) (aa ?_)))
 by_cases p2:(bg g r)=0
 ·
  obtain⟨hm,hrp⟩:=xM ‹_›
  have hm0:=hm
  obtain⟨hm1,hm2,hm3,hm4⟩:=hm0
  refine ag rfl (congrArg Bool.not (dt p2)) (ak (a7 (a6 rfl (mv r_v ?_))))
  replace Rr:=Rr.cn hb7
  refine lo (bi (aA (vals:=[r_v]) Tryz.func70 qr qI rfl) (lk w6 r r_v (Rr).ro) ?_)
  rintro⟨d9,v11⟩ w8 ⟨fr10,o12⟩
  obtain⟨g13,ch14,G13⟩:=fC g4 fr10 (λn=>if n=1 then 2 else 0)
  replace o12:=o12.gl G13 2
  refine ma v11 (ai 0 (aa (ar (vs:=[v11,vi 0]) Tryz.func33 (.tmp rfl (.tmp rfl .nil)) ?_)))
  have C15:=cg [] (ch2.n.seq (hb7.n.seq ch14.n))
  replace bH:=bH.ca C15
  have e0:(aU r:cT)=((dM g r).1):=by
    simp only[dM,if_pos (show bg g r=0 by assumption)]
  have e1:(0:Int)=((dM g r).2):=by
    simp only[dM,if_pos (show bg g r=0 by assumption)]
  exact⟨(fin w0 g13 (λn=>if n=2 then 1 else 0),v11),(bR (a:=aU r) (b:=0) (λ(z0:cT) (z1:Int)=>Ending.returned (vt [v11,vi z1])) e0 e1),bH.fresh _,(e0▸(o12.glue (γ:=c0) (ren:=(λn=>if n=2 then 1 else 0)) (k:=1) bH.col rfl rfl))⟩
 refine af rfl (congrArg Bool.not (df p2)) (a7 (a6 rfl (mi (bg g r) (ma vn (ai (bg g r) (aa (ar (vs:=[vn,vi (bg g r)]) Tryz.func33 (.tmp rfl (.tmp rfl .nil)) ?_)))))))
 replace bH:=bH.cn ch2
 replace bH:=bH.cn hb7
 have e0:([]:cT)=((dM g r).1):=by
   simp only[dM,if_neg (show¬bg g r=0 by assumption)]
 have e1:(bg g r:Int)=((dM g r).2):=by
   simp only[dM,if_neg (show¬bg g r=0 by assumption)]
 exact⟨(fin w0 g4 (λn=>0),vn),(bR (a:=[]) (b:=bg g r) (λ(z0:cT) (z1:Int)=>Ending.returned (vt [vn,vi z1])) e0 e1),bH.fresh _,(e0▸dr.nil)⟩
end TL
