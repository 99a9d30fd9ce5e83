import Derived.Test.YtmakonaaojadbaaBaTlP4
import Derived.Test.YtmakonaaojadbaaBaTlGmA
import Derived.Test.YtmakonaaojadbaaBaTlGenA
import Derived.Test.YtmakonaaojadbaaBaTlErB
import Derived.Test.YtmakonaaojadbaaProg
import Derived.Test.YtmakonaaojadbaaBaTlAli
set_option linter.all false
set_option maxRecDepth 20000
namespace TL
open Go Go.Proofs
theorem r9:Try.prog.follows .mixedOrders=true:=by kernel_rfl
theorem pa:Try.f16.body.isNone=false:=rfl
theorem pA:(Try.f16.name== "runtime.NumGoroutine")=false:=by decide+kernel
theorem sV:Try.f17.body.isNone=false:=rfl
theorem sJ:(Try.f17.name== "runtime.NumGoroutine")=false:=by decide+kernel
set_option maxHeartbeats 4000000 in
theorem sG(w0:World)(g:(Int)×(List Pt))(g_v:Value)(hg_v:Ro w0 g_v g.2)(hm:bg g):
    Calls Try.prog 20 #[vg [vi g.1,g_v]] w0 (λee w=>∃xx:aJ×Value,ee= .returned ((λ⟨δ,rv0⟩=>rv0) xx)/\(λ(⟨δ,rv0⟩:aJ×Value) (w:World)=>fv w0 δ w/\Ow δ (is 1) (is 1) w rv0 (bN g g.2.length)) xx w):=by
 refine aC Try.func20 rfl nq ?_
 have bH:=bv.start w0
 have Rg:=hg_v.sl
 have hm0:=hm
 obtain⟨hm1,hm2,hm3,hm4⟩:=hm0
 refine ab (a8 rfl (db rfl (d4 c0 (is 1) (1,0) rfl rfl ?_)))
 intro g4 w1 b3 ch2 bx5
 replace bx5:Bx g4 (is 1) w1 b3 [vi g.1,g_v]:=bx5
 refine ma vn (ag (ab (a8 rfl (ma vn (ag (ab (a8 rfl (lx (aB (ds:=[vi g.1,g_v]) cO rfl bx5 rfl rfl) ?_))))))))
 replace Rg:=Rg.cn ch2
 refine lo (ck (b9 (vals:=[vg [vi g.1,g_v],vn,vn]) Try.func31 kj km rfl) (gF w1 g g_v (Rg).ro ([]) vn (Sl.nil (γ:=c0) (S:=any)) ([]) vn (Sl.nil (γ:=c0) (S:=any)) (by exact hm) (by exact λh=>absurd h (by decide)) (by exact λh=>absurd h (by decide))) ?_)
 rintro⟨d7,v9⟩ w6 ⟨fr8,o10⟩
 obtain⟨g11,ch12,G11⟩:=jh g4 fr8 (λn=>if n=1 then 2 else 0)
 replace o10:=o10.gl G11 2
 refine mv (vt [v9,vi ((b7 g ([]) ([])).2)]) (lx (aR rfl rfl) (lx (aR rfl rfl) (ma v9 (ai ((b7 g ([]) ([])).2) (ag (ab (ab ?_)))))))
 clear o10
 refine a8 rfl (ai 0 (ag (ar ?_)))
 refine bc (σ:=Value×(List Int)×Nat×aJ) (λ⟨l_v,l,e,gq⟩ f w=>bv w0 gq w/\f 1=vp b3 0/\f 3=l_v/\f 5=vi ((b7 g ([]) ([])).2)/\f 6=vi ↑e/\Sl gq (is 0) w g_v g.2/\Bx gq (is 1) w b3 [vi g.1,g_v]/\Ow gq (is 6) (is 6) w l_v l/\(e:Int)<=((g.2.length:Int):Int)/\(l=bN g e)) (λ⟨l_v,l,e,gq⟩=>Int.toNat (((g.2.length:Int):Int)-(e:Int))) (vn,[],0,g11) ?_ ?_
 replace bH:=bH.cn ch2
 · exact⟨bH.cn ch12,rfl,rfl,rfl,rfl,Rg.cn ch12,bx5.cn ch12,Ow.nil,by omega,by rfl⟩
 clear Rg bx5 bH
 rintro⟨l_v,l,e,g15⟩ f13 w14 ⟨bH,zs1,zs3,zs5,zs6,Rg,bx5,o_l,hle_e,hl⟩ back4
 have hll:=gS hl
 refine ab (ab (a8 rfl (mz zs6 (lx (ad cZ rfl rfl zs1 rfl) (lx (af bC rfl bx5 rfl) ?_)))))
 have len16:=(Rg).small
 refine lx (bu dD rfl Rg) (lx (bn (m:=↑e) (n:=(g.2.length:Int)) rfl rfl) (ag ?_))
 by_cases p4:(e:Int)<(g.2.length:Int)
 ·
  refine al rfl (dt p4) (av (ab (ar (ab (a8 rfl (lx (ad cZ rfl rfl zs1 rfl) (lx (af bC rfl bx5 rfl) (lx (bu dD rfl Rg) (lo (cW (α:=Bool) (l:=(g.2.length:Int)) (cp:=(g.2.length:Int)) g15 (is 3) (is 3) (3,0) rfl false fk gZ rfl rfl rfl (by omega) (by omega) (by omega) (by omega) ?_))))))))))
  intro g17 w18 v19 ch20 o21 hcap_
  clear hcap_
  refine ma v19 (ag (ab (a8 rfl (mv v19 (mz zs6 (lx (ae (v:=v19) (i:=↑e) fk rfl rfl o21.flat rfl (by omega) (by(simp only[List.length_set,List.length_append,List.length_cons,List.length_nil,List.length_replicate,List.length_map,List.length_take,List.length_drop];omega))) (lo (aD (i:=↑e) true gZ rfl rfl o21 (by omega) (by(simp only[List.length_set,List.length_append,List.length_cons,List.length_nil,List.length_replicate,List.length_map,List.length_take,List.length_drop];omega)) rfl ?_))))))))
  intro w22 ch23 bx24
  clear o21
  refine ag (ab (a8 rfl ?_))
  replace bx5:=(bx5.cn ch20).ce ch23
  refine lx (aB (ds:=[vi g.1,g_v]) cO zs1 bx5 rfl rfl) (mv v19 ?_)
  replace Rg:=(Rg.cn ch20).ce ch23
  refine lo (ck (b9 (vals:=[vg [vi g.1,g_v],vn,v19]) Try.func31 kj km rfl) (gF w22 g g_v (Rg).ro ([]) vn (Sl.nil (γ:=c0) (S:=any)) (List.set (List.replicate (Int.toNat (g.2.length:Int)) false) (Int.toNat ↑e) true) v19 (bx24.flat).ro (by exact hm) (by exact λh=>absurd h (by decide)) (by exact λ_=>by rw[List.length_set,List.length_replicate];omega)) ?_)
  rintro⟨d26,v28⟩ w25 ⟨fr27,o29⟩
  obtain⟨g30,ch31,G30⟩:=jh g17 fr27 (λn=>if n=1 then 4 else 0)
  replace o29:=o29.gl G30 4
  refine mv (vt [v28,vi ((b7 g ([]) (List.set (List.replicate (Int.toNat (g.2.length:Int)) false) (Int.toNat ↑e) true)).2)]) (lx (aR rfl rfl) (lx (aR rfl rfl) (ma v28 (ai ((b7 g ([]) (List.set (List.replicate (Int.toNat (g.2.length:Int)) false) (Int.toNat ↑e) true)).2) (ag (ab ?_))))))
  clear bx24 o29
  refine a8 rfl (mi ((b7 g ([]) (List.set (List.replicate (Int.toNat (g.2.length:Int)) false) (Int.toNat ↑e) true)).2) (mz zs5 (lx (e7 (m:=(b7 g ([]) (List.set (List.replicate (Int.toNat (g.2.length:Int)) false) (Int.toNat ↑e) true)).2) (n:=(b7 g ([]) ([])).2) rfl rfl) (ag ?_))))
  by_cases p9:((b7 g ([]) ([])).2)<((b7 g ([]) (List.set (List.replicate (Int.toNat (g.2.length:Int)) false) (Int.toNat ↑e) true)).2)
  ·
   refine al rfl (dt p9) (a8 rfl (mz zs3 (mz zs6 (lo (aM (α:=Int) g30 (is 5) (is 5) (5,0) rfl [(e:Int)] bf ah (by decide) (by decide) (vs:=[(0,vi ↑e)]) rfl rfl (.cons rfl .nil) ?_)))))
   intro g32 w33 v34 ch35 o36
   refine lo ?_
   have C37:=cg [3] (ch20.n.seq ((ch23.l rfl).seq (ch31.n.seq ch35.n)))
   replace o_l:=o_l.ca C37
   refine bD (α:=Int) (xs:=l) (ys:=([(e:Int)])) g32 (J:=is 6) (S:=is 6) (6,0) rfl bf ah (by decide) rfl rfl rfl o_l o36.flat (by decide) (by(simp;omega)) ?_
   intro g38 w39 v40 ch41 o42
   clear o_l
   refine ma v40 (ag (ak ?_))
   clear o36
   refine a8 rfl (mz zs6 (lx (aG (m:=↑e) (n:=1) rfl rfl (by omega)) (ai ((e:Int)+1) (ag ?_))))
   have C43:=cg [3,6] (ch20.n.seq ((ch23.l rfl).seq (ch31.n.seq (ch35.n.seq (ch41.l rfl)))))
   have C44:=cg [6] (ch31.n.seq (ch35.n.seq (ch41.l rfl)))
   refine back4 (v40,(l++[(e:Int)]),e+1,g38) _ _ ⟨bH.ca C43,zs1,rfl,zs5,rfl,Rg.ca C44,bx5.ca C44,o42,by omega,?_⟩ ?_
   · show(l++[(e:Int)])=bN g (e+1)
     exact t7 hm hl ‹_› ‹_›
   · show Int.toNat (((g.2.length:Int):Int)-((e+1):Int))<Int.toNat (((g.2.length:Int):Int)-(e:Int))
     omega
  refine aj rfl (df p9) (av (ak (a8 rfl (mz zs6 (lx (aG (m:=↑e) (n:=1) rfl rfl (by omega)) (ai ((e:Int)+1) (ag ?_)))))))
  have C45:=cg [3] (ch20.n.seq ((ch23.l rfl).seq ch31.n))
  refine back4 (l_v,l,e+1,g30) _ _ ⟨bH.ca C45,zs1,zs3,zs5,rfl,Rg.cn ch31,bx5.cn ch31,o_l.ca C45,by omega,?_⟩ ?_
  · show l=bN g (e+1)
    exact tS hm hl ‹_› ‹_›
  · show Int.toNat (((g.2.length:Int):Int)-((e+1):Int))<Int.toNat (((g.2.length:Int):Int)-(e:Int))
    omega
 refine aj rfl (df p4) (aF rfl (ab ?_))
 clear bx5
 refine a8 rfl (mz zs3 (ma l_v (ag (aQ (vs:=[l_v]) Try.func20 (.tmp rfl .nil) ?_))))
 have e0:(l:List Int)=(bN g g.2.length):=by
   exact qA hl (by omega)
 exact⟨(fin w0 g15 (λn=>if n=6 then 1 else 0),l_v),(congrArg (a₁:=l) (λ(z0:List Int)=>Ending.returned (l_v)) e0),bH.fresh _,(e0▸(o_l.glue (γ:=c0) (ren:=(λn=>if n=6 then 1 else 0)) (k:=1) bH.col rfl rfl))⟩
set_option maxHeartbeats 8000000 in
theorem rS(w0:World)(g:(Int)×(List Pt))(g_v:Value)(hg_v:Ro w0 g_v g.2)(hm:bg g):
    Calls Try.prog 18 #[vg [vi g.1,g_v]] w0 (λee w=>∃xx:aJ×Value,ee= .returned ((λ⟨δ,rv0⟩=>vt [vg [vi (((aO g).1).1),rv0],vi ((aO g).2)]) xx)/\(λ(⟨δ,rv0⟩:aJ×Value) (w:World)=>fv w0 δ w/\Ow δ (is 1) (is 1) w rv0 (((aO g).1).2)) xx w):=by
 refine aC Try.func18 rfl nq ?_
 have bH:=bv.start w0
 have Rg:=hg_v.sl
 have hm0:=hm
 obtain⟨hm1,hm2,hm3,hm4⟩:=hm0
 have hcb:0<=(aa g).2.2/\(aa g).2.2<=(g.2.length:Int):=iK g
 obtain⟨hcb0,hcb1⟩:=hcb
 have hofl:((aa g).1.length:Int)=g.2.length:=by have:=fT g;show((dq g).length:Int)=_;omega
 have hcul:=jo hm1
 refine ab (a8 rfl (db rfl (d4 c0 (is 1) (1,0) rfl rfl ?_)))
 intro g4 w1 b3 ch2 bx5
 replace bx5:Bx g4 (is 1) w1 b3 [vi g.1,g_v]:=bx5
 refine lo (bI g4 (is 2) (2,0) rfl cO ?_)
 intro g9 w6 b8 ch7 bx10
 replace bx10:Bx g9 (is 2) w6 b8 [vi 0,vn]:=bx10
 refine ai 0 (ag (ab (a8 rfl ?_)))
 replace bx5:=bx5.cn ch7
 refine lx (aB (ds:=[vi g.1,g_v]) cO rfl bx5 rfl rfl) ?_
 replace Rg:=(Rg.cn ch2).cn ch7
 refine lo (ck (b9 (vals:=[vg [vi g.1,g_v]]) Try.func17 sV sJ rfl) (ip w6 g g_v (Rg).ro (by exact hm)) ?_)
 rintro⟨d12,v14,v16⟩ w11 ⟨fr13,o15,o17⟩
 obtain⟨g18,ch19,G18⟩:=jh g9 fr13 (λn=>if n=1 then 3 else if n=2 then 4 else 0)
 replace o15:=o15.gl G18 3
 replace o17:=o17.gl G18 4
 refine lo (bI g18 (is 5) (5,0) rfl eA ?_)
 intro g23 w20 b22 ch21 bx24
 replace bx24:Bx g23 (is 5) w20 b22 [vn,vn,vi 0]:=bx24
 refine lo ?_
 replace o17:=o17.cn ch21
 replace o15:=o15.cn ch21
 refine aI (cs':=[v14,v16,vi (((aa g).2).2)]) eA rfl rfl bx24 rfl nq (AllOne.all (.cons (bQ o15.flat) (.cons (bQ o17.flat) (.cons rfl .nil)))) rfl ?_
 intro w25 ch26 bx27
 clear bx24
 refine ag (ab (a8 rfl (lx (ad eD rfl rfl rfl rfl) (lx (af ah rfl bx27 rfl) (lx (ad eD rfl rfl rfl rfl) (lx (af bh rfl bx27 rfl) ?_))))))
 replace o17:=o17.ce ch26
 have len28:=(o17.flat).small
 refine lx (bu bf rfl o17.flat) (lx (aG (m:=((aa g).2).2) (n:=(List.length (((aa g).2).1):Int)) rfl rfl (by omega)) (lw (vg [vi ((((aa g).2).2)+(List.length (((aa g).2).1):Int)),vn]) (bE (vs:=[(0,vi ((((aa g).2).2)+(List.length (((aa g).2).1):Int)))]) rfl (by kernel_rfl)) (lo (bI g23 (is 6) (6,0) rfl cO ?_))))
 intro g32 w29 b31 ch30 bx33
 replace bx33:Bx g32 (is 6) w29 b31 [vi 0,vn]:=bx33
 refine lo (aI (cs':=[vi ((((aa g).2).2)+(List.length (((aa g).2).1):Int)),vn]) cO rfl rfl bx33 rfl nq (AllOne.all (.cons rfl (.cons rfl .nil))) rfl ?_)
 intro w34 ch35 bx36
 clear bx33
 refine ag (ab (ab (a8 rfl (ai 0 (ag (ar ?_))))))
 refine bc (σ:=Value×(List Pt)×Nat×aJ) (λ⟨ed0_v,ed0,i,gq⟩ f w=>bv w0 gq w/\f 1=vp b3 0/\f 2=vp b8 0/\f 4=vp b22 0/\f 5=vp b31 0/\f 6=vi ↑i/\Sl gq (is 0) w g_v g.2/\Bx gq (is 1) w b3 [vi g.1,g_v]/\Bx gq (is 2) w b8 [vi 0,vn]/\Ow gq (is 3) (is 3) w v14 ((aa g).1)/\Ow gq (is 4) (is 4) w v16 (((aa g).2).1)/\Bx gq (is 5) w b22 [v14,v16,vi (((aa g).2).2)]/\Bx gq (is 6) w b31 [vi ((((aa g).2).2)+(List.length (((aa g).2).1):Int)),ed0_v]/\Ow gq (is 8) (is 8) w ed0_v ed0/\(i:Int)<=(((aa g).2).2:Int)/\(eH g ed0 i 0)) (λ⟨ed0_v,ed0,i,gq⟩=>Int.toNat ((((aa g).2).2:Int)-(i:Int))) (vn,[],0,g32) ?_ ?_
 have C39:=cg [5,6] ((ch26.l rfl).seq (ch30.n.seq (ch35.l rfl)))
 have C38:=ch19.n.seq (ch21.n.seq C39)
 have C37:=ch2.n.seq (ch7.n.seq C38)
 · exact⟨bH.ca C37,rfl,rfl,rfl,rfl,rfl,Rg.ca C38,bx5.ca C38,bx10.ca C38,o15.ca C39,(o17.cn ch30).ce ch35,(bx27.cn ch30).ce ch35,bx36,Ow.nil,by omega,by exact eH.start⟩
 clear Rg bx5 bx10 o15 o17 bx27 bx36 bH
 rintro⟨ed0_v,ed0,i,g42⟩ f40 w41 ⟨bH,zs1,zs2,zs4,zs5,zs6,Rg,bx5,bx10,o15,o17,bx27,bx36,o_ed0,hle_i,hr0⟩ back4
 have hfe0:=hr0.few hm
 refine ab (ab (a8 rfl (mz zs6 (lx (ad eD rfl rfl zs4 rfl) (lx (af ah rfl bx27 rfl) (lx (bn (m:=↑i) (n:=((aa g).2).2) rfl rfl) (ag ?_)))))))
 by_cases p4:(i:Int)<(((aa g).2).2)
 ·
  refine al rfl (dt p4) (av (ab (ar (ab (a8 rfl (ai 0 (ag (ar ?_))))))))
  refine bc (σ:=Value×(List Pt)×Nat×aJ) (λ⟨ed1_v,ed1,k,gq⟩ f w=>bv w0 gq w/\f 1=vp b3 0/\f 2=vp b8 0/\f 4=vp b22 0/\f 5=vp b31 0/\f 6=vi ↑i/\f 7=vi ↑k/\Sl gq (is 0) w g_v g.2/\Bx gq (is 1) w b3 [vi g.1,g_v]/\Bx gq (is 2) w b8 [vi 0,vn]/\Ow gq (is 3) (is 3) w v14 ((aa g).1)/\Ow gq (is 4) (is 4) w v16 (((aa g).2).1)/\Bx gq (is 5) w b22 [v14,v16,vi (((aa g).2).2)]/\Bx gq (is 6) w b31 [vi ((((aa g).2).2)+(List.length (((aa g).2).1):Int)),ed1_v]/\Ow gq (is 8) (is 8) w ed1_v ed1/\(k:Int)<=((List.length (((aa g).2).1):Int):Int)/\(eH g ed1 i k)) (λ⟨ed1_v,ed1,k,gq⟩=>Int.toNat (((List.length (((aa g).2).1):Int):Int)-(k:Int))) (ed0_v,ed0,0,g42) ?_ ?_
  · exact⟨bH,zs1,zs2,zs4,zs5,zs6,rfl,Rg,bx5,bx10,o15,o17,bx27,bx36,o_ed0,by omega,by exact hr0⟩
  clear Rg bx5 bx10 o15 o17 bx27 bx36 o_ed0 bH
  rintro⟨ed1_v,ed1,k,g45⟩ f43 w44 ⟨bH,zs1,zs2,zs4,zs5,zs6,zs7,Rg,bx5,bx10,o15,o17,bx27,bx36,o_ed1,hle_k,hr1⟩ back7
  have hfe1:=hr1.few hm
  refine ab (ab (a8 rfl (mz zs7 (lx (ad eD rfl rfl zs4 rfl) (lx (af bh rfl bx27 rfl) (lx (bu bf rfl o17.flat) (lx (bn (m:=↑k) (n:=(List.length (((aa g).2).1):Int)) rfl rfl) (ag ?_))))))))
  by_cases p7:(k:Int)<(List.length (((aa g).2).1):Int)
  ·
   refine al rfl (dt p7) (av (ab (ar (ab (a8 rfl (ma (vb false) (ag (ab (ab (a8 rfl (ai 0 (ag (ar ?_)))))))))))))
   refine bc (σ:=Bool×Nat×aJ) (λ⟨th,e,gq⟩ f w=>bv w0 gq w/\f 1=vp b3 0/\f 2=vp b8 0/\f 4=vp b22 0/\f 5=vp b31 0/\f 6=vi ↑i/\f 7=vi ↑k/\f 8=vb th/\f 9=vi ↑e/\Sl gq (is 0) w g_v g.2/\Bx gq (is 1) w b3 [vi g.1,g_v]/\Bx gq (is 2) w b8 [vi 0,vn]/\Ow gq (is 3) (is 3) w v14 ((aa g).1)/\Ow gq (is 4) (is 4) w v16 (((aa g).2).1)/\Bx gq (is 5) w b22 [v14,v16,vi (((aa g).2).2)]/\Bx gq (is 6) w b31 [vi ((((aa g).2).2)+(List.length (((aa g).2).1):Int)),ed1_v]/\Ow gq (is 8) (is 8) w ed1_v ed1/\(e:Int)<=((g.2.length:Int):Int)/\(jg g (i:Int) (gI (aa g).2.1 (k:Int)) th e)) (λ⟨th,e,gq⟩=>Int.toNat (((g.2.length:Int):Int)-(e:Int))) (false,0,g45) ?_ ?_
   · exact⟨bH,zs1,zs2,zs4,zs5,zs6,zs7,rfl,rfl,Rg,bx5,bx10,o15,o17,bx27,bx36,o_ed1,by omega,by exact jg.start⟩
   clear Rg bx5 bx10 o15 o17 bx27 bx36 o_ed1 bH
   rintro⟨th,e,g48⟩ f46 w47 ⟨bH,zs1,zs2,zs4,zs5,zs6,zs7,zs8,zs9,Rg,bx5,bx10,o15,o17,bx27,bx36,o_ed1,hle_e,hth⟩ back11
   refine ab (ab (a8 rfl (mz zs9 (lx (ad cZ rfl rfl zs1 rfl) (lx (af bC rfl bx5 rfl) ?_)))))
   have len49:=(Rg).small
   refine lx (bu dD rfl Rg) (lx (bn (m:=↑e) (n:=(g.2.length:Int)) rfl rfl) (ag ?_))
   by_cases p11:(e:Int)<(g.2.length:Int)
   ·
    refine al rfl (dt p11) (av (ab (ar (cq g48 rfl r9 (by kernel_rfl) ?_))))
    intro w51 ch50
    refine qz zs8 (qm (vb th) ?_)
    by_cases q40:th=true
    ·
     refine aL (wn q40) (aL (wn q40) (aL (wn q40) (aL (wn q40) (aL (wn q40) (aL (wn q40) (aL (wn q40) (aL (wn q40) (aL (aN rfl rfl rfl) (aL (aN rfl rfl rfl) ?_)))))))))
     refine aL (aN rfl rfl rfl) (aL (aN rfl rfl rfl) (aL (aN rfl rfl rfl) (aL (aN rfl rfl rfl) (aL (aN rfl rfl rfl) (aL (aN rfl rfl rfl) (aL (aN rfl rfl rfl) (aL (aN rfl rfl rfl) (aL (aN rfl rfl rfl) (aL (aN rfl rfl rfl) ?_)))))))))
     refine aL (aN rfl rfl rfl) (aL (aN rfl rfl rfl) (aL (aN rfl rfl rfl) (aL (aN rfl rfl rfl) (aL (aN rfl rfl rfl) (aL (aN rfl rfl rfl) (aL (aN rfl rfl rfl) (aL (aN rfl rfl rfl) (aL (aN rfl rfl rfl) (aL (aN rfl rfl rfl) ?_)))))))))
     refine aL (aN rfl rfl rfl) (aL (aN rfl rfl rfl) (aL (aN rfl rfl rfl) (aL (aN rfl rfl rfl) (aL (wn q40) (qv (vb true) (λw' hw'=>b5 rfl q40 rfl) (qv (vb true) (λw' hw'=>c7 rfl) (d8 ?_)))))))
     intro w52 hc53
     replace hc53:=aS hc53 g48
     refine ak (a8 rfl (mz zs9 (lx (aG (m:=↑e) (n:=1) rfl rfl (by omega)) (ai ((e:Int)+1) (ag ?_)))))
     replace bH:=bH.cn ch50
     refine back11 (true,e+1,g48) _ _ ⟨bH.cn hc53,zs1,zs2,zs4,zs5,zs6,zs7,rfl,rfl,(Rg.cn ch50).cn hc53,(bx5.cn ch50).cn hc53,(bx10.cn ch50).cn hc53,(o15.cn ch50).cn hc53,(o17.cn ch50).cn hc53,(bx27.cn ch50).cn hc53,(bx36.cn ch50).cn hc53,(o_ed1.cn ch50).cn hc53,by omega,?_⟩ ?_
     · show jg g (i:Int) (gI (aa g).2.1 (k:Int)) true (e+1)
       exact hth.keep' ‹_›
     · show Int.toNat (((g.2.length:Int):Int)-((e+1):Int))<Int.toNat (((g.2.length:Int):Int)-(e:Int))
       omega
    refine bt (v:=vp b22 0) (wy (Bool.eq_false_iff.2 q40)) (λw' hw'=>ad eD rfl rfl zs4 rfl) ?_
    replace bx27:=bx27.cn ch50
    refine bt (v:=v14) (wy (Bool.eq_false_iff.2 q40)) (λw' hw'=>af bh rfl (bx27.bel hw') rfl) (bt (v:=vi ↑e) (wy (Bool.eq_false_iff.2 q40)) (λw' hw'=>au zs9) ?_)
    replace o15:=o15.cn ch50
    refine bt (v:=Value.pointer (some (aZ v14 1 (Int.toNat ↑e)))) (wy (Bool.eq_false_iff.2 q40)) (λw' hw'=>ae (α:=Int) (xs:=(aa g).1) (v:=v14) (i:=↑e) bf rfl rfl (o15.flat.bel hw') rfl (by omega) (by omega)) (bt (v:=vi (gI ((aa g).1) (e:Int))) (wy (Bool.eq_false_iff.2 q40)) (λw' hw'=>aq (α:=Int) (xs:=(aa g).1) (v:=v14) (i:=↑e) ah rfl (o15.flat.bel hw') (by omega) (by omega) (by decide) rfl) (bt (v:=vi ↑i) (wy (Bool.eq_false_iff.2 q40)) (λw' hw'=>au zs6) (bt (v:=vb (decide ((gI ((aa g).1) (e:Int))=(i:Int)))) (wy (Bool.eq_false_iff.2 q40)) (λw' hw'=>cH (m:=(gI ((aa g).1) (e:Int))) (n:=↑i) rfl rfl) ?_)))
    refine bt (v:=vb (decide ((gI ((aa g).1) (e:Int))=(i:Int)))) (wy (Bool.eq_false_iff.2 q40)) (λw' hw'=>au rfl) ?_
    by_cases q48:(gI ((aa g).1) (e:Int))=(i:Int)
    ·
     refine bt (v:=vp b3 1) (wy (dt q48)) (λw' hw'=>ad cZ rfl rfl zs1 rfl) ?_
     replace bx5:=bx5.cn ch50
     refine bt (v:=g_v) (wy (dt q48)) (λw' hw'=>af bC rfl (bx5.bel hw') rfl) (bt (v:=vi ↑e) (wy (dt q48)) (λw' hw'=>au zs9) ?_)
     replace Rg:=Rg.cn ch50
     refine bt (v:=Value.pointer (some (aZ g_v 2 (Int.toNat ↑e)))) (wy (dt q48)) (λw' hw'=>ae (α:=Pt) (xs:=g.2) (v:=g_v) (i:=↑e) dD rfl rfl (Rg.bel hw') rfl (by omega) (by omega)) (bt (v:=Value.pointer (some ⟨(aZ g_v 2 (Int.toNat ↑e)).block,(aZ g_v 2 (Int.toNat ↑e)).off+0,none⟩)) (wy (dt q48)) (λw' hw'=>bM dg rfl rfl rfl (by decide) (by decide) rfl) (bt (v:=vi ((gI g.2 ↑e).1)) (wy (dt q48)) (λw' hw'=>cw (α:=Pt) (xs:=g.2) (v:=g_v) (i:=↑e) ah rfl (Rg.bel hw') (by omega) (by omega) (by decide) rfl) ?_))
     refine bt (v:=vp b22 1) (wy (dt q48)) (λw' hw'=>ad eD rfl rfl zs4 rfl) (bt (v:=v16) (wy (dt q48)) (λw' hw'=>af bh rfl (bx27.bel hw') rfl) (bt (v:=vi ↑k) (wy (dt q48)) (λw' hw'=>au zs7) ?_))
     replace o17:=o17.cn ch50
     refine bt (v:=Value.pointer (some (aZ v16 1 (Int.toNat ↑k)))) (wy (dt q48)) (λw' hw'=>ae (α:=Int) (xs:=((aa g).2).1) (v:=v16) (i:=↑k) bf rfl rfl (o17.flat.bel hw') rfl (by omega) (by omega)) (bt (v:=vi (gI (((aa g).2).1) (k:Int))) (wy (dt q48)) (λw' hw'=>aq (α:=Int) (xs:=((aa g).2).1) (v:=v16) (i:=↑k) ah rfl (o17.flat.bel hw') (by omega) (by omega) (by decide) rfl) (bt (v:=vb (decide (((gI g.2 ↑e).1)=(gI (((aa g).2).1) (k:Int))))) (wy (dt q48)) (λw' hw'=>cH (m:=(gI g.2 ↑e).1) (n:=(gI (((aa g).2).1) (k:Int))) rfl rfl) ?_))
     refine bt (v:=vb (decide (((gI g.2 ↑e).1)=(gI (((aa g).2).1) (k:Int))))) (wy (dt q48)) (λw' hw'=>au rfl) ?_
     by_cases q61:((gI g.2 ↑e).1)=(gI (((aa g).2).1) (k:Int))
     ·
      refine aL (wn (dt q61)) (aL (wn (dt q61)) (aL (wn (dt q61)) (aL (wn (dt q61)) (aL (wn (dt q61)) (aL (wn (dt q61)) (aL (wn (dt q61)) (aL (wn (dt q61)) (aL (wn (dt q61)) (aL (wn (dt q61)) ?_)))))))))
      refine aL (wn (dt q61)) (aL (wn (dt q61)) (bt (v:=vb true) (wy (dt q48)) (λw' hw'=>b5 rfl (dt q61) rfl) (bt (v:=vb true) (wy (Bool.eq_false_iff.2 q40)) (λw' hw'=>b5 rfl (dt q48) rfl) (qv (vb true) (λw' hw'=>aY rfl (Bool.eq_false_iff.2 q40) rfl) (qv (vb true) (λw' hw'=>c7 rfl) (d8 ?_))))))
      intro w54 hc55
      replace hc55:=aS hc55 g48
      refine ak (a8 rfl (mz zs9 (lx (aG (m:=↑e) (n:=1) rfl rfl (by omega)) (ai ((e:Int)+1) (ag ?_)))))
      replace bH:=bH.cn ch50
      refine back11 (true,e+1,g48) _ _ ⟨bH.cn hc55,zs1,zs2,zs4,zs5,zs6,zs7,rfl,rfl,Rg.cn hc55,bx5.cn hc55,(bx10.cn ch50).cn hc55,o15.cn hc55,o17.cn hc55,bx27.cn hc55,(bx36.cn ch50).cn hc55,(o_ed1.cn ch50).cn hc55,by omega,?_⟩ ?_
      · show jg g (i:Int) (gI (aa g).2.1 (k:Int)) true (e+1)
        exact hth.yes ‹_› (.inl ‹_›)
      · show Int.toNat (((g.2.length:Int):Int)-((e+1):Int))<Int.toNat (((g.2.length:Int):Int)-(e:Int))
        omega
     refine bt (v:=vp b3 1) (wy (df q61)) (λw' hw'=>ad cZ rfl rfl zs1 rfl) (bt (v:=g_v) (wy (df q61)) (λw' hw'=>af bC rfl (bx5.bel hw') rfl) (bt (v:=vi ↑e) (wy (df q61)) (λw' hw'=>au zs9) (bt (v:=Value.pointer (some (aZ g_v 2 (Int.toNat ↑e)))) (wy (df q61)) (λw' hw'=>ae (α:=Pt) (xs:=g.2) (v:=g_v) (i:=↑e) dD rfl rfl (Rg.bel hw') rfl (by omega) (by omega)) ?_)))
     refine bt (v:=Value.pointer (some ⟨(aZ g_v 2 (Int.toNat ↑e)).block,(aZ g_v 2 (Int.toNat ↑e)).off+1,none⟩)) (wy (df q61)) (λw' hw'=>bM dg rfl rfl rfl (by decide) (by decide) rfl) (bt (v:=vi ((gI g.2 ↑e).2)) (wy (df q61)) (λw' hw'=>cw (α:=Pt) (xs:=g.2) (v:=g_v) (i:=↑e) ah rfl (Rg.bel hw') (by omega) (by omega) (by decide) rfl) (bt (v:=vp b22 1) (wy (df q61)) (λw' hw'=>ad eD rfl rfl zs4 rfl) (bt (v:=v16) (wy (df q61)) (λw' hw'=>af bh rfl (bx27.bel hw') rfl) ?_)))
     refine bt (v:=vi ↑k) (wy (df q61)) (λw' hw'=>au zs7) (bt (v:=Value.pointer (some (aZ v16 1 (Int.toNat ↑k)))) (wy (df q61)) (λw' hw'=>ae (α:=Int) (xs:=((aa g).2).1) (v:=v16) (i:=↑k) bf rfl rfl (o17.flat.bel hw') rfl (by omega) (by omega)) (bt (v:=vi (gI (((aa g).2).1) (k:Int))) (wy (df q61)) (λw' hw'=>aq (α:=Int) (xs:=((aa g).2).1) (v:=v16) (i:=↑k) ah rfl (o17.flat.bel hw') (by omega) (by omega) (by decide) rfl) ?_))
     refine bt (v:=vb (decide (((gI g.2 ↑e).2)=(gI (((aa g).2).1) (k:Int))))) (wy (df q61)) (λw' hw'=>cH (m:=(gI g.2 ↑e).2) (n:=(gI (((aa g).2).1) (k:Int))) rfl rfl) (bt (v:=vb (decide (((gI g.2 ↑e).2)=(gI (((aa g).2).1) (k:Int))))) (wy (dt q48)) (λw' hw'=>aY rfl (df q61) rfl) (bt (v:=vb (decide (((gI g.2 ↑e).2)=(gI (((aa g).2).1) (k:Int))))) (wy (Bool.eq_false_iff.2 q40)) (λw' hw'=>b5 rfl (dt q48) rfl) (qv (vb (decide (((gI g.2 ↑e).2)=(gI (((aa g).2).1) (k:Int))))) (λw' hw'=>aY rfl (Bool.eq_false_iff.2 q40) rfl) (qv (vb (decide (((gI g.2 ↑e).2)=(gI (((aa g).2).1) (k:Int))))) (λw' hw'=>c7 rfl) ?_))))
     refine d8 ?_
     intro w56 hc57
     replace hc57:=aS hc57 g48
     refine ak (a8 rfl (mz zs9 (lx (aG (m:=↑e) (n:=1) rfl rfl (by omega)) (ai ((e:Int)+1) (ag ?_)))))
     replace bH:=bH.cn ch50
     refine back11 (decide (((gI g.2 ↑e).2)=(gI (((aa g).2).1) (k:Int))),e+1,g48) _ _ ⟨bH.cn hc57,zs1,zs2,zs4,zs5,zs6,zs7,rfl,rfl,Rg.cn hc57,bx5.cn hc57,(bx10.cn ch50).cn hc57,o15.cn hc57,o17.cn hc57,bx27.cn hc57,(bx36.cn ch50).cn hc57,(o_ed1.cn ch50).cn hc57,by omega,?_⟩ ?_
     · show jg g (i:Int) (gI (aa g).2.1 (k:Int)) (decide (((gI g.2 ↑e).2)=(gI (((aa g).2).1) (k:Int)))) (e+1)
       exact hth.dec ‹_› ‹_› ‹_›
     · show Int.toNat (((g.2.length:Int):Int)-((e+1):Int))<Int.toNat (((g.2.length:Int):Int)-(e:Int))
       omega
    refine aL (wn (df q48)) (aL (wn (df q48)) (aL (wn (df q48)) (aL (wn (df q48)) (aL (wn (df q48)) (aL (wn (df q48)) (aL (wn (df q48)) (aL (wn (df q48)) (aL (wn (df q48)) (aL (wn (df q48)) ?_)))))))))
    refine aL (wn (df q48)) (aL (wn (df q48)) (aL (wn (df q48)) (aL (aN rfl rfl rfl) (aL (aN rfl rfl rfl) (aL (aN rfl rfl rfl) (aL (aN rfl rfl rfl) (aL (aN rfl rfl rfl) (aL (aN rfl rfl rfl) (aL (aN rfl rfl rfl) ?_)))))))))
    refine aL (aN rfl rfl rfl) (aL (aN rfl rfl rfl) (aL (aN rfl rfl rfl) (aL (aN rfl rfl rfl) (aL (aN rfl rfl rfl) (aL (wn (df q48)) (bt (v:=vb false) (wy (Bool.eq_false_iff.2 q40)) (λw' hw'=>aY rfl (df q48) rfl) (qv (vb false) (λw' hw'=>aY rfl (Bool.eq_false_iff.2 q40) rfl) (qv (vb false) (λw' hw'=>c7 rfl) (d8 ?_)))))))))
    intro w58 hc59
    replace hc59:=aS hc59 g48
    refine ak (a8 rfl (mz zs9 (lx (aG (m:=↑e) (n:=1) rfl rfl (by omega)) (ai ((e:Int)+1) (ag ?_)))))
    replace bH:=bH.cn ch50
    refine back11 (false,e+1,g48) _ _ ⟨bH.cn hc59,zs1,zs2,zs4,zs5,zs6,zs7,rfl,rfl,(Rg.cn ch50).cn hc59,(bx5.cn ch50).cn hc59,(bx10.cn ch50).cn hc59,o15.cn hc59,(o17.cn ch50).cn hc59,bx27.cn hc59,(bx36.cn ch50).cn hc59,(o_ed1.cn ch50).cn hc59,by omega,?_⟩ ?_
    · show jg g (i:Int) (gI (aa g).2.1 (k:Int)) false (e+1)
      exact hth.no' ‹_› ‹_›
    · show Int.toNat (((g.2.length:Int):Int)-((e+1):Int))<Int.toNat (((g.2.length:Int):Int)-(e:Int))
      omega
   refine aj rfl (df p11) (aF rfl (ab (a8 rfl (mz zs8 (ag ?_)))))
   by_cases p14:th=true
   ·
    refine al rfl p14 (a8 rfl (lx (ad cZ rfl rfl zs5 rfl) (lx (af bC rfl bx36 rfl) (mz zs6 (lx (ad eD rfl rfl zs4 rfl) (lx (af ah rfl bx27 rfl) (mz zs7 (lx (aG (m:=((aa g).2).2) (n:=↑k) rfl rfl (by omega)) (lw (vg [vi ↑i,vi ((((aa g).2).2)+(k:Int))]) (bE (vs:=[(0,vi ↑i),(1,vi ((((aa g).2).2)+(k:Int)))]) rfl (by kernel_rfl)) ?_)))))))))
    refine lo (aM (α:=Pt) g48 (is 7) (is 7) (7,0) rfl [((i:Int),(((aa g).2).2)+(k:Int))] dD aU (by decide) (by decide) (vs:=[(0,vg [vi ↑i,vi ((((aa g).2).2)+(k:Int))])]) rfl rfl (.cons rfl .nil) ?_)
    intro g60 w61 v62 ch63 o64
    refine lo ?_
    replace o_ed1:=o_ed1.cn ch63
    refine bD (α:=Pt) (xs:=ed1) (ys:=([((i:Int),(((aa g).2).2)+(k:Int))])) g60 (J:=is 8) (S:=is 8) (8,0) rfl dD aU (by decide) rfl rfl rfl o_ed1 o64.flat (by decide) (by(simp;omega)) ?_
    intro g65 w66 v67 ch68 o69
    clear o_ed1
    refine lx (ad cZ rfl rfl zs5 rfl) (lo ?_)
    replace bx36:=(bx36.cn ch63).ce ch68
    refine cj (cs':=[vi ((((aa g).2).2)+(List.length (((aa g).2).1):Int)),v67]) bC rfl rfl bx36 (cd o69.flat) nq (bQ o69.flat) rfl ?_
    intro w70 ch71 bx72
    clear bx36
    refine ag (ak ?_)
    clear o64
    refine a8 rfl (mz zs7 (lx (aG (m:=↑k) (n:=1) rfl rfl (by omega)) (ai ((k:Int)+1) (ag ?_))))
    have C73:=cg [6,8] (ch63.n.seq ((ch68.l rfl).seq (ch71.l rfl)))
    refine back7 (v67,(ed1++[((i:Int),(((aa g).2).2)+(k:Int))]),k+1,g65) _ _ ⟨bH.ca C73,zs1,zs2,zs4,zs5,zs6,rfl,Rg.ca C73,bx5.ca C73,bx10.ca C73,o15.ca C73,o17.ca C73,bx27.ca C73,bx72,o69.ce ch71,by omega,?_⟩ ?_
    · show eH g (ed1++[((i:Int),(((aa g).2).2)+(k:Int))]) i (k+1)
      exact hr1.yes' hm ‹_› (by omega) hth ‹_›
    · show Int.toNat (((List.length (((aa g).2).1):Int):Int)-((k+1):Int))<Int.toNat (((List.length (((aa g).2).1):Int):Int)-(k:Int))
      omega
   refine aj rfl (Bool.eq_false_iff.2 p14) (av (ak (a8 rfl (mz zs7 (lx (aG (m:=↑k) (n:=1) rfl rfl (by omega)) (ai ((k:Int)+1) (ag ?_)))))))
   refine back7 (ed1_v,ed1,k+1,g48) _ _ ⟨bH,zs1,zs2,zs4,zs5,zs6,rfl,Rg,bx5,bx10,o15,o17,bx27,bx36,o_ed1,by omega,?_⟩ ?_
   · show eH g ed1 i (k+1)
     exact hr1.no' hm ‹_› (by omega) hth ‹_›
   · show Int.toNat (((List.length (((aa g).2).1):Int):Int)-((k+1):Int))<Int.toNat (((List.length (((aa g).2).1):Int):Int)-(k:Int))
     omega
  refine aj rfl (df p7) (aF rfl (ak (a8 rfl (mz zs6 (lx (aG (m:=↑i) (n:=1) rfl rfl (by omega)) (ai ((i:Int)+1) (ag ?_)))))))
  refine back4 (ed1_v,ed1,i+1,g45) _ _ ⟨bH,zs1,zs2,zs4,zs5,rfl,Rg,bx5,bx10,o15,o17,bx27,bx36,o_ed1,by omega,?_⟩ ?_
  · show eH g ed1 (i+1) 0
    exact hr1.next ‹_›
  · show Int.toNat ((((aa g).2).2:Int)-((i+1):Int))<Int.toNat ((((aa g).2).2:Int)-(i:Int))
    omega
 refine aj rfl (df p4) (aF rfl (ab (ab ?_)))
 clear bx5 o15 o17 bx27
 have htt:=hr0.done' hm ‹_›
 refine a8 rfl (lx (aB (ds:=[vi ((((aa g).2).2)+(List.length (((aa g).2).1):Int)),ed0_v]) cO zs5 bx36 rfl rfl) (lo (cC (v:=vb (d5 ((((aa g).2).2)+(List.length (((aa g).2).1):Int),ed0))) (b9 (vals:=[vg [vi ((((aa g).2).2)+(List.length (((aa g).2).1):Int)),ed0_v]]) Try.func16 pa pA rfl) (lQ w41 ((((aa g).2).2)+(List.length (((aa g).2).1):Int),ed0) ed0_v (o_ed0.flat).ro) ?_)))
 intro w74 hb75
 replace hb75:=aS hb75 g42
 refine lx (ek (b:=(d5 ((((aa g).2).2)+(List.length (((aa g).2).1):Int),ed0))) rfl) (ag ?_)
 by_cases p16:(d5 ((((aa g).2).2)+(List.length (((aa g).2).1):Int),ed0))=true
 ·
  refine aj rfl (congrArg Bool.not p16) (av (ab (a8 rfl ?_)))
  replace bx36:=bx36.cn hb75
  refine lx (aB (ds:=[vi ((((aa g).2).2)+(List.length (((aa g).2).1):Int)),ed0_v]) cO zs5 bx36 rfl rfl) (lo ?_)
  replace bx10:=bx10.cn hb75
  replace o_ed0:=o_ed0.cn hb75
  refine aI (cs':=[vi ((((aa g).2).2)+(List.length (((aa g).2).1):Int)),ed0_v]) cO zs2 rfl bx10 rfl nq (AllOne.all (.cons rfl (.cons (bQ o_ed0.flat) .nil))) rfl ?_
  intro w76 ch77 bx78
  clear bx10
  refine ai 0 (ag (aQ (vs:=[vg [vi ((((aa g).2).2)+(List.length (((aa g).2).1):Int)),ed0_v],vi 0]) Try.func18 (.cell zs2 (dR (ds:=[vi ((((aa g).2).2)+(List.length (((aa g).2).1):Int)),ed0_v]) cO bx78 rfl rfl) (.tmp rfl .nil)) ?_))
  replace bH:=bH.cn hb75
  replace bH:=bH.ce ch77
  replace o_ed0:=o_ed0.ce ch77
  have e0:(((((aa g).2).2)+(List.length (((aa g).2).1):Int),ed0):(Int)×(List Pt))=((aO g).1):=by
    (have hmt:bg (ie g):=by rw[<-htt];exact of_decide_eq_true p16
     unfold aO;rw[if_pos hm,if_pos hmt];exact htt)
  have e1:(0:Int)=((aO g).2):=by
    (have hmt:bg (ie g):=by rw[<-htt];exact of_decide_eq_true p16
     unfold aO;rw[if_pos hm,if_pos hmt];done)
  exact⟨(fin w0 g42 (λn=>if n=8 then 1 else 0),ed0_v),(dP (a:=((((aa g).2).2)+(List.length (((aa g).2).1):Int),ed0)) (b:=0) (λ(z0:(Int)×(List Pt)) (z1:Int)=>Ending.returned (vt [vg [vi z0.1,ed0_v],vi z1])) e0 e1),bH.fresh _,((congrArg (λ(z:(Int)×(List Pt))=>z.2) e0)▸(o_ed0.glue (γ:=c0) (ren:=(λn=>if n=8 then 1 else 0)) (k:=1) bH.col rfl rfl))⟩
 refine al rfl (congrArg Bool.not (Bool.eq_false_iff.2 p16)) (ab ?_)
 clear bx36 o_ed0
 refine a8 rfl (lw (vg [vi 0,vn]) (bE (vs:=[]) rfl (by kernel_rfl)) (lo ?_))
 replace bx10:=bx10.cn hb75
 refine aI (cs':=[vi 0,vn]) cO zs2 rfl bx10 rfl nq (AllOne.all (.cons rfl (.cons rfl .nil))) rfl ?_
 intro w79 ch80 bx81
 clear bx10
 refine ai 3 (ag (aQ (vs:=[vg [vi 0,vn],vi 3]) Try.func18 (.cell zs2 (dR (ds:=[vi 0,vn]) cO bx81 rfl rfl) (.tmp rfl .nil)) ?_))
 replace bH:=bH.cn hb75
 replace bH:=bH.ce ch80
 have e0:((0,[]):(Int)×(List Pt))=((aO g).1):=by
   (have hmt:¬bg (ie g):=by rw[<-htt];exact λh=>p16 (dt h)
    unfold aO;rw[if_pos hm,if_neg hmt];done)
 have e1:(3:Int)=((aO g).2):=by
   (have hmt:¬bg (ie g):=by rw[<-htt];exact λh=>p16 (dt h)
    unfold aO;rw[if_pos hm,if_neg hmt];done)
 exact⟨(fin w0 g42 (λn=>0),vn),(dP (a:=(0,[])) (b:=3) (λ(z0:(Int)×(List Pt)) (z1:Int)=>Ending.returned (vt [vg [vi z0.1,vn],vi z1])) e0 e1),bH.fresh _,((congrArg (λ(z:(Int)×(List Pt))=>z.2) e0)▸Ow.nil)⟩
end TL
