import Derived.Test.YtbadiajeohbpcaaGreatTlP3
import Derived.Test.YtbadiajeohbpcaaGreatTlGenA
import Derived.Test.YtbadiajeohbpcaaGreatTlGenC
import Derived.Test.YtbadiajeohbpcaaGreatTlGenX
import Derived.Test.YtbadiajeohbpcaaGreatTlGenY
import Derived.Test.YtbadiajeohbpcaaGreatProg
import Derived.Test.YtbadiajeohbpcaaGreatTlAli
set_option linter.all false
set_option maxRecDepth 20000
namespace TL
open Go Go.Proofs
theorem t8(w0:World)(g:(Int)×(List Pt))(g_v:Value)(hg_v:Ro w0 g_v g.2):
    Calls Tryz.prog 29 #[vg [vi g.1,g_v]] w0 (λee w=>∃xx:aK×Value,ee= .returned ((λ⟨δ,rv0⟩=>vt [rv0,vi ((cm g).2)]) xx)/\(λ(⟨δ,rv0⟩:aK×Value) (w:World)=>em w0 δ w/\dr δ 1 w rv0 ((cm g).1)) xx w):=by
 refine au Tryz.func29 rfl nq ?_
 have bH:=aT.start w0
 have Rg:=hg_v.sl
 refine a7 (a6 rfl (bW rfl (bh c0 (is 1) (1,0) rfl rfl ?_)))
 intro g4 w1 b3 ch2 bx5
 replace bx5:Bx g4 (is 1) w1 b3 [vi g.1,g_v]:=bx5
 refine ma vn (ai 0 (aa (a7 (a7 (a6 rfl (lx (aj (ds:=[vi g.1,g_v]) db rfl bx5 rfl rfl) ?_))))))
 replace Rg:=Rg.cn ch2
 refine lo (aO (v:=vb (dq g)) (aA (vals:=[vg [vi g.1,g_v]]) Tryz.func27 nA n7 rfl) (n9 w1 g g_v (Rg).ro) ?_)
 intro w6 hb7
 replace hb7:=ao hb7 g4
 refine lx (bZ (b:=(dq g)) rfl) (aa ?_)
 by_cases p1:(dq g)=true
 ·
  have hm:=of_decide_eq_true p1
  have hm0:=hm
  obtain⟨hm1,hm2,hm3,hm4⟩:=hm0
  refine ag rfl (congrArg Bool.not p1) (ak (a7 (a6 rfl (lx (a8 dY rfl rfl rfl rfl) ?_))))
  replace bx5:=bx5.cn hb7
  refine lx (ab bY rfl bx5 rfl) (lo (gi (α:=Int) (n:=g.1) (cp:=g.1) g4 2 ik c4 rfl rfl rfl (by omega) (by omega) (by omega) (by omega) ?_))
  intro g8 w9 v10 ch11 o12
  refine ma v10 (aa (a7 (a7 (a6 rfl (lx (a8 dY rfl rfl rfl rfl) ?_)))))
  replace bx5:=bx5.cn ch11
  refine lx (ab bO rfl bx5 rfl) ?_
  replace Rg:=(Rg.cn hb7).cn ch11
  have len13:=(Rg).small
  refine lx (aQ fm rfl Rg) (mi 0 (aa (am ?_)))
  clear bx5
  refine aN (σ:=Nat×cT×aK) (λ⟨e,O,gq⟩ f w=>aT w0 gq w/\f 4=v10/\f 16=g_v/\f 17=vi (g.2.length:Int)/\f 18=vi ↑e/\Sl gq (is 0) w g_v g.2/\dr gq 2 w v10 O/\(e:Int)<=((g.2.length:Int):Int)/\(eF O g e)) (λ⟨e,O,gq⟩=>Int.toNat (((g.2.length:Int):Int)-(e:Int))) (0,(List.replicate (Int.toNat g.1) []),g8) ?_ ?_
  have C14:=cg [] (ch2.n.seq (hb7.n.seq ch11.n))
  · exact⟨bH.ca C14,rfl,rfl,rfl,rfl,Rg,o12,by omega,by exact eF.start hm1⟩
  clear Rg o12 bH
  rintro⟨e,O,g17⟩ f15 w16 ⟨bH,zs4,zs16,zs17,zs18,Rg,o12,hle_e,hov⟩ back5
  have hol:=hov.len
  refine a7 (a6 rfl (lx (aZ (m:=↑e) (n:=(g.2.length:Int)) zs18 zs17) (aa (a7 ?_))))
  by_cases p5:(e:Int)<(g.2.length:Int)
  ·
   refine af rfl (dt p5) ?_
   obtain⟨⟨he1,he2⟩,he3,he4⟩:=hm4 _ (bk (xs:=g.2) (i:=↑e) (by omega) (by omega))
   have hq1:=hov.rl he1 he2
   have hq2:=hov.rl2 he1 he2 he3 he4 (2*(e:Int))
   refine ak (a7 (am (a7 (a6 rfl (mz zs18 (lx (ad (v:=g_v) (i:=↑e) fm rfl zs16 Rg zs18 (by omega) (by omega)) (lw (vg [vi ((gI g.2 ↑e).1),vi ((gI g.2 ↑e).2)]) (aF (v:=g_v) (i:=↑e) dc rfl Rg (by omega) (by omega) rfl) (lo (aS g17 (is 3) (3,0) rfl dc ?_)))))))))
   intro g21 w18 b20 ch19 bx22
   replace bx22:Bx g21 (is 3) w18 b20 [vi 0,vi 0]:=bx22
   refine ai (e:Int) (lo (aw (cs':=[vi ((gI g.2 ↑e).1),vi ((gI g.2 ↑e).2)]) dc rfl rfl bx22 rfl nq (AllOne.all (.cons rfl (.cons rfl .nil))) rfl ?_))
   intro w23 ch24 bx25
   clear bx22
   refine aa (a7 (a6 rfl (lx (aj (ds:=[vi ((gI g.2 ↑e).1),vi ((gI g.2 ↑e).2)]) dc rfl bx25 rfl rfl) (mi 0 (aa (am (fX (a7 ?_))))))))
   clear bx25
   refine a6 rfl (lx (aZ (m:=0) (n:=2) rfl rfl) (aa (a7 (af rfl rfl (ak (a7 (am (a7 (a6 rfl (mi 0 (lw (vi ((gI g.2 ↑e).1)) (eb jC bY rfl rfl (by decide) (by decide) rfl) ?_)))))))))))
   refine ai 0 (ai ((gI g.2 ↑e).1) (aa (a6 rfl (mz zs4 (mi ((gI g.2 ↑e).1) (mz zs4 (mi ((gI g.2 ↑e).1) ?_)))))))
   replace o12:=(o12.cn ch19).ce ch24
   refine lx (ad (v:=v10) (i:=(gI g.2 ↑e).1) ik rfl rfl o12.sl rfl (by omega) (by omega)) ?_
   obtain⟨v26,cel27,r28⟩:=cD (r:=(gI g.2 ↑e).1) o12 (by omega) (by omega)
   refine lx (ba c4 rfl cel27) (mi ↑e (lx (dI (m:=2) (n:=↑e) rfl rfl (by omega)) (mi 0 (lx (aM (m:=2*(e:Int)) (n:=0) rfl rfl (by omega)) (lo (aG (α:=Int) g21 (is 4) (is 4) (4,0) rfl [(2*(e:Int))+0] cS bY (by decide) (by decide) (vs:=[(0,vi ((2*(e:Int))+0))]) rfl rfl (.cons rfl .nil) ?_))))))
   intro g29 w30 v31 ch32 o33
   refine lo ?_
   replace o12:=o12.cn ch32
   replace r28:=r28.cn ch32
   refine aV (α:=Int) (xs:=(gI O ((gI g.2 ↑e).1))) (ys:=([(2*(e:Int))+0])) g29 (J:=row 2 (Int.toNat ((gI g.2 ↑e).1)+1)) (S:=row 2 (Int.toNat ((gI g.2 ↑e).1)+1)) (2,Int.toNat ((gI g.2 ↑e).1)+1) rfl cS bY (by decide) rfl rfl rfl r28 o33.flat (by decide) (by(simp;omega)) ?_
   intro g34 w35 v36 ch37 o38
   have o39:=o12.rowchg ch37
   clear o12 cel27 r28
   obtain⟨us40,hl41,r42⟩:=o39.vc
   try simp only[List.length_set,List.length_append,List.length_cons,List.length_nil] at hl41
   refine lx (ad (v:=v10) (i:=(gI g.2 ↑e).1) ik rfl rfl r42 rfl (by omega) (by omega)) (lo (cQ (r:=(gI g.2 ↑e).1) c4 rfl rfl o39 o38 (by omega) (by omega) ?_))
   intro w46 ch47 o48
   clear o39 o38
   refine aa (al ?_)
   clear o33
   refine a6 rfl (lx (aM (m:=0) (n:=1) rfl rfl (by omega)) (mi 1 (aa (cM (a7 (a6 rfl (lx (aZ (m:=1) (n:=2) rfl rfl) (aa (a7 (af rfl rfl (ak ?_)))))))))))
   refine a7 (am (a7 (a6 rfl (mi 1 (lw (vi ((gI g.2 ↑e).2)) (eb jC bY rfl rfl (by decide) (by decide) rfl) (ai 1 (ai ((gI g.2 ↑e).2) (aa (a6 rfl (mz zs4 (mi ((gI g.2 ↑e).2) ?_)))))))))))
   refine mz zs4 (mi ((gI g.2 ↑e).2) (lx (ad (v:=v10) (i:=(gI g.2 ↑e).2) ik rfl rfl o48.sl rfl (by omega) (by(simp only[List.length_set,List.length_append,List.length_cons,List.length_nil,List.length_replicate,List.length_map,List.length_take,List.length_drop];omega))) ?_))
   obtain⟨v49,cel50,r51⟩:=cD (r:=(gI g.2 ↑e).2) o48 (by omega) (by(simp only[List.length_set,List.length_append,List.length_cons,List.length_nil,List.length_replicate,List.length_map,List.length_take,List.length_drop];omega))
   refine lx (ba c4 rfl cel50) (mi ↑e (lx (dI (m:=2) (n:=↑e) rfl rfl (by omega)) (mi 1 (lx (aM (m:=2*(e:Int)) (n:=1) rfl rfl (by omega)) (lo (aG (α:=Int) g34 (is 4) (is 4) (4,0) rfl [(2*(e:Int))+1] cS bY (by decide) (by decide) (vs:=[(0,vi ((2*(e:Int))+1))]) rfl rfl (.cons rfl .nil) ?_))))))
   intro g52 w53 v54 ch55 o56
   refine lo ?_
   replace o48:=o48.cn ch55
   replace r51:=r51.cn ch55
   refine aV (α:=Int) (xs:=(gI (List.set O (Int.toNat ((gI g.2 ↑e).1)) (gI O ((gI g.2 ↑e).1)++[(2*(e:Int))+0])) ((gI g.2 ↑e).2))) (ys:=([(2*(e:Int))+1])) g52 (J:=row 2 (Int.toNat ((gI g.2 ↑e).2)+1)) (S:=row 2 (Int.toNat ((gI g.2 ↑e).2)+1)) (2,Int.toNat ((gI g.2 ↑e).2)+1) rfl cS bY (by decide) rfl rfl rfl r51 o56.flat (by decide) (by(simp;omega)) ?_
   intro g57 w58 v59 ch60 o61
   have o62:=o48.rowchg ch60
   clear o48 cel50 r51
   obtain⟨us63,hl64,r65⟩:=o62.vc
   try simp only[List.length_set,List.length_append,List.length_cons,List.length_nil] at hl64
   refine lx (ad (v:=v10) (i:=(gI g.2 ↑e).2) ik rfl rfl r65 rfl (by omega) (by omega)) (lo (cQ (r:=(gI g.2 ↑e).2) c4 rfl rfl o62 o61 (by omega) (by(simp only[List.length_set,List.length_append,List.length_cons,List.length_nil,List.length_replicate,List.length_map,List.length_take,List.length_drop];omega)) ?_))
   intro w69 ch70 o71
   clear o62 o61
   refine aa (al ?_)
   clear o56
   refine a6 rfl (lx (aM (m:=1) (n:=1) rfl rfl (by omega)) (mi 2 (aa (cM (a7 (a6 rfl (lx (aZ (m:=2) (n:=2) rfl rfl) (aa (a7 (ag rfl rfl (aJ rfl ?_)))))))))))
   refine al (a6 rfl (lx (aM (m:=↑e) (n:=1) zs18 rfl (by omega)) (mi ((e:Int)+1) (aa ?_))))
   have C72:=cg [2,3] (ch19.n.seq ((ch24.l rfl).seq (ch32.n.seq ((ch37.lr rfl).seq ((ch47.l rfl).seq (ch55.n.seq ((ch60.lr rfl).seq (ch70.l rfl))))))))
   refine back5 (e+1,(List.set (List.set O (Int.toNat ((gI g.2 ↑e).1)) (gI O ((gI g.2 ↑e).1)++[(2*(e:Int))+0])) (Int.toNat ((gI g.2 ↑e).2)) (gI (List.set O (Int.toNat ((gI g.2 ↑e).1)) (gI O ((gI g.2 ↑e).1)++[(2*(e:Int))+0])) ((gI g.2 ↑e).2)++[(2*(e:Int))+1])),g57) _ _ ⟨bH.ca C72,zs4,zs16,zs17,rfl,Rg.ca C72,o71,by omega,?_⟩ ?_
   · show eF (List.set (List.set O (Int.toNat ((gI g.2 ↑e).1)) (gI O ((gI g.2 ↑e).1)++[(2*(e:Int))+0])) (Int.toNat ((gI g.2 ↑e).2)) (gI (List.set O (Int.toNat ((gI g.2 ↑e).1)) (gI O ((gI g.2 ↑e).1)++[(2*(e:Int))+0])) ((gI g.2 ↑e).2)++[(2*(e:Int))+1])) g (e+1)
     exact hov.next he1 he2 he3 he4 (by omega) (by omega)
   · show Int.toNat (((g.2.length:Int):Int)-((e+1):Int))<Int.toNat (((g.2.length:Int):Int)-(e:Int))
     omega
  refine ag rfl (df p5) (aJ rfl (a7 (a6 rfl (mz zs4 (ma v10 (ai 0 (aa (ar (vs:=[v10,vi 0]) Tryz.func29 (.tmp rfl (.tmp rfl .nil)) ?_))))))))
  have e0:(O:cT)=((cm g).1):=by
    (simp only[cm,if_pos hm];exact hov.first (by omega))
  have e1:(0:Int)=((cm g).2):=by
    simp only[cm,if_pos hm]
  exact⟨(fin w0 g17 (λn=>if n=2 then 1 else 0),v10),(bR (a:=O) (b:=0) (λ(z0:cT) (z1:Int)=>Ending.returned (vt [v10,vi z1])) e0 e1),bH.fresh _,(e0▸(o12.glue (γ:=c0) (ren:=(λn=>if n=2 then 1 else 0)) (k:=1) bH.col rfl rfl))⟩
 refine af rfl (congrArg Bool.not (Bool.eq_false_iff.2 p1)) (a7 ?_)
 clear bx5
 refine a6 rfl (ma vn (ai 1 (aa (ar (vs:=[vn,vi 1]) Tryz.func29 (.tmp rfl (.tmp rfl .nil)) ?_))))
 replace bH:=bH.cn ch2
 replace bH:=bH.cn hb7
 have e0:([]:cT)=((cm g).1):=by
   (have hn:¬c8 g:=λh=>p1 (dt h)
    simp only[cm,if_neg hn];done)
 have e1:(1:Int)=((cm g).2):=by
   (have hn:¬c8 g:=λh=>p1 (dt h)
    simp only[cm,if_neg hn];done)
 exact⟨(fin w0 g4 (λn=>0),vn),(bR (a:=[]) (b:=1) (λ(z0:cT) (z1:Int)=>Ending.returned (vt [vn,vi z1])) e0 e1),bH.fresh _,(e0▸dr.nil)⟩
end TL
