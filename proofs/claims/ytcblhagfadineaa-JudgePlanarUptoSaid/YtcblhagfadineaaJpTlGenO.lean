import Derived.Test.YtcblhagfadineaaJpTlP4
import Derived.Test.YtcblhagfadineaaJpTlGenA
import Derived.Test.YtcblhagfadineaaJpTlGenC
import Derived.Test.YtcblhagfadineaaJpTlGenX
import Derived.Test.YtcblhagfadineaaJpTlGenY
import Derived.Test.YtcblhagfadineaaProg
import Derived.Test.YtcblhagfadineaaJpTlAli
set_option linter.all false
set_option maxRecDepth 20000
namespace TL
open Go Go.Proofs
theorem se(w0:World)(g:(Int)×(List Pt))(g_v:Value)(hg_v:Ro w0 g_v g.2):
    Calls Try.prog 15 #[vg [vi g.1,g_v]] w0 (λee w=>∃xx:aH×Value,ee= .returned ((λ⟨δ,rv0⟩=>vt [rv0,vi ((bM g).2)]) xx)/\(λ(⟨δ,rv0⟩:aH×Value) (w:World)=>fI w0 δ w/\dT δ 1 w rv0 ((bM g).1)) xx w):=by
 refine av Try.func15 rfl nq ?_
 have bH:=aX.start w0
 have Rg:=hg_v.sl
 refine aa (a8 rfl (cj rfl (bj c0 (is 1) (1,0) rfl rfl ?_)))
 intro g4 w1 b3 ch2 bx5
 replace bx5:Bx g4 (is 1) w1 b3 [vi g.1,g_v]:=bx5
 refine ma vn (ai 0 (ab (aa (aa (a8 rfl (lx (ak (ds:=[vi g.1,g_v]) cL rfl bx5 rfl rfl) ?_))))))
 replace Rg:=Rg.cn ch2
 refine lo (aK (v:=vb (d6 g)) (aA (vals:=[vg [vi g.1,g_v]]) Try.func21 mZ nA rfl) (nv w1 g g_v (Rg).ro) ?_)
 intro w6 hb7
 replace hb7:=ar hb7 g4
 refine lx (dj (b:=(d6 g)) rfl) (ab ?_)
 by_cases p1:(d6 g)=true
 ·
  have hm:=of_decide_eq_true p1
  have hm0:=hm
  obtain⟨hm1,hm2,hm3,hm4⟩:=hm0
  refine aj rfl (congrArg Bool.not p1) (am (aa (a8 rfl (lx (ad fV rfl rfl rfl rfl) ?_))))
  replace bx5:=bx5.cn hb7
  refine lx (af aI rfl bx5 rfl) (lo (j0 (α:=Int) (n:=g.1) (cp:=g.1) g4 2 kr el rfl rfl rfl (by omega) (by omega) (by omega) (by omega) ?_))
  intro g8 w9 v10 ch11 o12
  refine ma v10 (ab (aa (aa (a8 rfl (lx (ad fV rfl rfl rfl rfl) ?_)))))
  replace bx5:=bx5.cn ch11
  refine lx (af cw rfl bx5 rfl) ?_
  replace Rg:=(Rg.cn hb7).cn ch11
  have len13:=(Rg).small
  refine lx (aT jQ rfl Rg) (mi 0 (ab (aq ?_)))
  clear bx5
  refine aQ (σ:=Nat×bY×aH) (λ⟨e,O,gq⟩ f w=>aX w0 gq w/\f 4=v10/\f 16=g_v/\f 17=vi (g.2.length:Int)/\f 18=vi ↑e/\Sl gq (is 0) w g_v g.2/\dT gq 2 w v10 O/\(e:Int)<=((g.2.length:Int):Int)/\(dZ O g e)) (λ⟨e,O,gq⟩=>Int.toNat (((g.2.length:Int):Int)-(e:Int))) (0,(List.replicate (Int.toNat g.1) []),g8) ?_ ?_
  have C14:=cg [] (ch2.n.seq (hb7.n.seq ch11.n))
  · exact⟨bH.ca C14,rfl,rfl,rfl,rfl,Rg,o12,by omega,by exact dZ.start hm1⟩
  clear Rg o12 bH
  rintro⟨e,O,g17⟩ f15 w16 ⟨bH,zs4,zs16,zs17,zs18,Rg,o12,hle_e,hov⟩ back5
  have hol:=hov.len
  refine aa (a8 rfl (lx (b6 (m:=↑e) (n:=(g.2.length:Int)) zs18 zs17) (ab (aa ?_))))
  by_cases p5:(e:Int)<(g.2.length:Int)
  ·
   refine ag rfl (dt p5) ?_
   obtain⟨⟨he1,he2⟩,he3,he4⟩:=hm4 _ (aR (xs:=g.2) (i:=↑e) (by omega) (by omega))
   have hq1:=hov.rl he1 he2
   have hq2:=hov.rl2 he1 he2 he3 he4 (2*(e:Int))
   refine am (aa (aq (aa (a8 rfl (mz zs18 (lx (al (v:=g_v) (i:=↑e) jQ rfl zs16 Rg zs18 (by omega) (by omega)) (lw (vg [vi ((gI g.2 ↑e).1),vi ((gI g.2 ↑e).2)]) (aJ (v:=g_v) (i:=↑e) dY rfl Rg (by omega) (by omega) rfl) (lo (aY g17 (is 3) (3,0) rfl dY ?_)))))))))
   intro g21 w18 b20 ch19 bx22
   replace bx22:Bx g21 (is 3) w18 b20 [vi 0,vi 0]:=bx22
   refine ai (e:Int) (lo (aw (cs':=[vi ((gI g.2 ↑e).1),vi ((gI g.2 ↑e).2)]) dY rfl rfl bx22 rfl nq (AllOne.all (.cons rfl (.cons rfl .nil))) rfl ?_))
   intro w23 ch24 bx25
   clear bx22
   refine ab (aa (a8 rfl (lx (ak (ds:=[vi ((gI g.2 ↑e).1),vi ((gI g.2 ↑e).2)]) dY rfl bx25 rfl rfl) (mi 0 (ab (aq (gy (aa ?_))))))))
   clear bx25
   refine a8 rfl (lx (b6 (m:=0) (n:=2) rfl rfl) (ab (aa (ag rfl rfl (am (aa (aq (aa (a8 rfl (mi 0 (lw (vi ((gI g.2 ↑e).1)) (dM m9 aI rfl rfl (by decide) (by decide) rfl) ?_)))))))))))
   refine ai 0 (ai ((gI g.2 ↑e).1) (ab (a8 rfl (mz zs4 (mi ((gI g.2 ↑e).1) (mz zs4 (mi ((gI g.2 ↑e).1) ?_)))))))
   replace o12:=(o12.cn ch19).ce ch24
   refine lx (al (v:=v10) (i:=(gI g.2 ↑e).1) kr rfl rfl o12.sl rfl (by omega) (by omega)) ?_
   obtain⟨v26,cel27,r28⟩:=ff (r:=(gI g.2 ↑e).1) o12 (by omega) (by omega)
   refine lx (bD el rfl cel27) (mi ↑e (lx (eK (m:=2) (n:=↑e) rfl rfl (by omega)) (mi 0 (lx (aP (m:=2*(e:Int)) (n:=0) rfl rfl (by omega)) (lo (aF (α:=Int) g21 (is 4) (is 4) (4,0) rfl [(2*(e:Int))+0] dl aI (by decide) (by decide) (vs:=[(0,vi ((2*(e:Int))+0))]) rfl rfl (.cons rfl .nil) ?_))))))
   intro g29 w30 v31 ch32 o33
   refine lo ?_
   replace o12:=o12.cn ch32
   replace r28:=r28.cn ch32
   refine b9 (α:=Int) (xs:=(gI O ((gI g.2 ↑e).1))) (ys:=([(2*(e:Int))+0])) g29 (J:=row 2 (Int.toNat ((gI g.2 ↑e).1)+1)) (S:=row 2 (Int.toNat ((gI g.2 ↑e).1)+1)) (2,Int.toNat ((gI g.2 ↑e).1)+1) rfl dl aI (by decide) rfl rfl rfl r28 o33.flat (by decide) (by(simp;omega)) ?_
   intro g34 w35 v36 ch37 o38
   have o39:=o12.rowchg ch37
   clear o12 cel27 r28
   obtain⟨us40,hl41,r42⟩:=o39.vc
   try simp only[List.length_set,List.length_append,List.length_cons,List.length_nil] at hl41
   refine lx (al (v:=v10) (i:=(gI g.2 ↑e).1) kr rfl rfl r42 rfl (by omega) (by omega)) (lo (dK (r:=(gI g.2 ↑e).1) el rfl rfl o39 o38 (by omega) (by omega) ?_))
   intro w46 ch47 o48
   clear o39 o38
   refine ab (ao ?_)
   clear o33
   refine a8 rfl (lx (aP (m:=0) (n:=1) rfl rfl (by omega)) (mi 1 (ab (cm (aa (a8 rfl (lx (b6 (m:=1) (n:=2) rfl rfl) (ab (aa (ag rfl rfl (am ?_)))))))))))
   refine aa (aq (aa (a8 rfl (mi 1 (lw (vi ((gI g.2 ↑e).2)) (dM m9 aI rfl rfl (by decide) (by decide) rfl) (ai 1 (ai ((gI g.2 ↑e).2) (ab (a8 rfl (mz zs4 (mi ((gI g.2 ↑e).2) ?_)))))))))))
   refine mz zs4 (mi ((gI g.2 ↑e).2) (lx (al (v:=v10) (i:=(gI g.2 ↑e).2) kr rfl rfl o48.sl rfl (by omega) (by(simp only[List.length_set,List.length_append,List.length_cons,List.length_nil,List.length_replicate,List.length_map,List.length_take,List.length_drop];omega))) ?_))
   obtain⟨v49,cel50,r51⟩:=ff (r:=(gI g.2 ↑e).2) o48 (by omega) (by(simp only[List.length_set,List.length_append,List.length_cons,List.length_nil,List.length_replicate,List.length_map,List.length_take,List.length_drop];omega))
   refine lx (bD el rfl cel50) (mi ↑e (lx (eK (m:=2) (n:=↑e) rfl rfl (by omega)) (mi 1 (lx (aP (m:=2*(e:Int)) (n:=1) rfl rfl (by omega)) (lo (aF (α:=Int) g34 (is 4) (is 4) (4,0) rfl [(2*(e:Int))+1] dl aI (by decide) (by decide) (vs:=[(0,vi ((2*(e:Int))+1))]) rfl rfl (.cons rfl .nil) ?_))))))
   intro g52 w53 v54 ch55 o56
   refine lo ?_
   replace o48:=o48.cn ch55
   replace r51:=r51.cn ch55
   refine b9 (α:=Int) (xs:=(gI (List.set O (Int.toNat ((gI g.2 ↑e).1)) (gI O ((gI g.2 ↑e).1)++[(2*(e:Int))+0])) ((gI g.2 ↑e).2))) (ys:=([(2*(e:Int))+1])) g52 (J:=row 2 (Int.toNat ((gI g.2 ↑e).2)+1)) (S:=row 2 (Int.toNat ((gI g.2 ↑e).2)+1)) (2,Int.toNat ((gI g.2 ↑e).2)+1) rfl dl aI (by decide) rfl rfl rfl r51 o56.flat (by decide) (by(simp;omega)) ?_
   intro g57 w58 v59 ch60 o61
   have o62:=o48.rowchg ch60
   clear o48 cel50 r51
   obtain⟨us63,hl64,r65⟩:=o62.vc
   try simp only[List.length_set,List.length_append,List.length_cons,List.length_nil] at hl64
   refine lx (al (v:=v10) (i:=(gI g.2 ↑e).2) kr rfl rfl r65 rfl (by omega) (by omega)) (lo (dK (r:=(gI g.2 ↑e).2) el rfl rfl o62 o61 (by omega) (by(simp only[List.length_set,List.length_append,List.length_cons,List.length_nil,List.length_replicate,List.length_map,List.length_take,List.length_drop];omega)) ?_))
   intro w69 ch70 o71
   clear o62 o61
   refine ab (ao ?_)
   clear o56
   refine a8 rfl (lx (aP (m:=1) (n:=1) rfl rfl (by omega)) (mi 2 (ab (cm (aa (a8 rfl (lx (b6 (m:=2) (n:=2) rfl rfl) (ab (aa (aj rfl rfl (aM rfl ?_)))))))))))
   refine ao (a8 rfl (lx (aP (m:=↑e) (n:=1) zs18 rfl (by omega)) (mi ((e:Int)+1) (ab ?_))))
   have C72:=cg [2,3] (ch19.n.seq ((ch24.l rfl).seq (ch32.n.seq ((ch37.lr rfl).seq ((ch47.l rfl).seq (ch55.n.seq ((ch60.lr rfl).seq (ch70.l rfl))))))))
   refine back5 (e+1,(List.set (List.set O (Int.toNat ((gI g.2 ↑e).1)) (gI O ((gI g.2 ↑e).1)++[(2*(e:Int))+0])) (Int.toNat ((gI g.2 ↑e).2)) (gI (List.set O (Int.toNat ((gI g.2 ↑e).1)) (gI O ((gI g.2 ↑e).1)++[(2*(e:Int))+0])) ((gI g.2 ↑e).2)++[(2*(e:Int))+1])),g57) _ _ ⟨bH.ca C72,zs4,zs16,zs17,rfl,Rg.ca C72,o71,by omega,?_⟩ ?_
   · show dZ (List.set (List.set O (Int.toNat ((gI g.2 ↑e).1)) (gI O ((gI g.2 ↑e).1)++[(2*(e:Int))+0])) (Int.toNat ((gI g.2 ↑e).2)) (gI (List.set O (Int.toNat ((gI g.2 ↑e).1)) (gI O ((gI g.2 ↑e).1)++[(2*(e:Int))+0])) ((gI g.2 ↑e).2)++[(2*(e:Int))+1])) g (e+1)
     exact hov.next he1 he2 he3 he4 (by omega) (by omega)
   · show Int.toNat (((g.2.length:Int):Int)-((e+1):Int))<Int.toNat (((g.2.length:Int):Int)-(e:Int))
     omega
  refine aj rfl (df p5) (aM rfl (aa (a8 rfl (mz zs4 (ma v10 (ai 0 (ab (au (vs:=[v10,vi 0]) Try.func15 (.tmp rfl (.tmp rfl .nil)) ?_))))))))
  have e0:(O:bY)=((bM g).1):=by
    (simp only[bM,if_pos hm];exact hov.first (by omega))
  have e1:(0:Int)=((bM g).2):=by
    simp only[bM,if_pos hm]
  exact⟨(fin w0 g17 (λn=>if n=2 then 1 else 0),v10),(bV (a:=O) (b:=0) (λ(z0:bY) (z1:Int)=>Ending.returned (vt [v10,vi z1])) e0 e1),bH.fresh _,(e0▸(o12.glue (γ:=c0) (ren:=(λn=>if n=2 then 1 else 0)) (k:=1) bH.col rfl rfl))⟩
 refine ag rfl (congrArg Bool.not (Bool.eq_false_iff.2 p1)) (aa ?_)
 clear bx5
 refine a8 rfl (ma vn (ai 1 (ab (au (vs:=[vn,vi 1]) Try.func15 (.tmp rfl (.tmp rfl .nil)) ?_))))
 replace bH:=bH.cn ch2
 replace bH:=bH.cn hb7
 have e0:([]:bY)=((bM g).1):=by
   (have hn:¬bF g:=λh=>p1 (dt h)
    simp only[bM,if_neg hn];done)
 have e1:(1:Int)=((bM g).2):=by
   (have hn:¬bF g:=λh=>p1 (dt h)
    simp only[bM,if_neg hn];done)
 exact⟨(fin w0 g4 (λn=>0),vn),(bV (a:=[]) (b:=1) (λ(z0:bY) (z1:Int)=>Ending.returned (vt [vn,vi z1])) e0 e1),bH.fresh _,(e0▸dT.nil)⟩
end TL
