import Derived.Test.YtkhfimgjcdeejaaTlP3
import Derived.Test.YtkhfimgjcdeejaaTlGmA
import Derived.Test.YtkhfimgjcdeejaaTlGmN
import Derived.Test.YtkhfimgjcdeejaaTlGmD
import Derived.Test.YtkhfimgjcdeejaaTlGmV
import Derived.Test.YtkhfimgjcdeejaaTlGmW
import Derived.Test.YtkhfimgjcdeejaaTlGenA
import Derived.Test.YtkhfimgjcdeejaaProg
import Derived.Test.YtkhfimgjcdeejaaTlAli
set_option linter.all false
set_option maxRecDepth 20000
namespace TL
open Go Go.Proofs
theorem j6:Try.prog.follows .mixedOrders=true:=by kernel_rfl
theorem cl:Tp Try.prog 22 false 1 24 (.slice none 0 0):=Tp.of (by kernel_rfl)
theorem m6:Tp Try.prog 29 true 2 32 (.agg #[.int .i64 0,.slice none 0 0]):=Tp.of (by kernel_rfl)
theorem eB:Tp Try.prog 36 false 1 24 (.slice none 0 0):=Tp.of (by kernel_rfl)
theorem mb:Tp Try.prog 38 true 2 48 (.agg #[.slice none 0 0,.slice none 0 0]):=Tp.of (by kernel_rfl)
theorem cL:Tp Try.prog 72 true 3 24 (.agg #[.int .i64 0,.int .i64 0,.int .i64 0]):=Tp.of (by kernel_rfl)
theorem mD:Try.f7.body.isNone=false:=rfl
theorem lN:(Try.f7.name== "runtime.NumGoroutine")=false:=by decide+kernel
theorem gY:Try.f44.body.isNone=false:=rfl
theorem i7:(Try.f44.name== "runtime.NumGoroutine")=false:=by decide+kernel
theorem j0:Try.f45.body.isNone=false:=rfl
theorem jd:(Try.f45.name== "runtime.NumGoroutine")=false:=by decide+kernel
theorem k8(w0:World)(p:(List Pt)×(List (List Pt)))(p_v p_v1:Value)(hp_v:Ro w0 p_v p.1)(hp_v1:Ro w0 p_v1 p.2)(hp1:(p.1.length:Int)<=1024)(hp2:(p.2.length:Int)<=3072)(hp3:∀e:Int,0<=e->e<p.2.length->(gI p.2 e).length<=4096):
    Calls Try.prog 16 #[vg [p_v,p_v1]] w0 (λee w=>∃xx:aW×Value,ee= .returned ((λ⟨δ,rv0⟩=>rv0) xx)/\(λ(⟨δ,rv0⟩:aW×Value) (w:World)=>gw w0 δ w/\Ow δ (is 1) (is 1) w rv0 (bx p)) xx w):=by
 refine aI Try.func16 rfl nq ?_
 have bH:=bo.start w0
 have Rp:=hp_v.sl
 have r_p_v1:=hp_v1.sl
 refine a6 (a5 rfl (cj rfl (bA c0 (is 1) (1,0) rfl rfl ?_)))
 intro g4 w1 b3 ch2 bx5
 replace bx5:Bx g4 (is 1) w1 b3 [p_v,p_v1]:=bx5
 refine ma vn (a8 (a6 (a5 rfl (lx (a7 dn rfl rfl rfl rfl) (lx (a9 cl rfl bx5 rfl) (lo ?_))))))
 replace Rp:=Rp.cn ch2
 refine b9 (α:=Pt) (xs:=([])) (ys:=p.1) g4 (J:=is 2) (S:=is 2) (2,0) rfl bZ ah (by decide) rfl rfl rfl Ow.nil Rp (by decide) (by(simp;omega)) ?_
 intro g6 w7 v8 ch9 o10
 replace o10:Ow g6 (is 2) (is 2) w7 v8 p.1:=o10
 refine ma v8 (a8 (a6 (a6 (a5 rfl (ai 0 (a8 (ao ?_)))))))
 refine bf (σ:=Value×(List Pt)×Nat×aW) (λ⟨l_v,l,k,gq⟩ f w=>bo w0 gq w/\f 1=vp b3 0/\f 3=l_v/\f 4=vi ↑k/\Sl gq (is 0) w p_v p.1/\Sl gq (is 0) w p_v1 p.2/\Bx gq (is 1) w b3 [p_v,p_v1]/\Ow gq (is 2) (is 2) w l_v l/\(k:Int)<=((p.2.length:Int):Int)/\(l=p.1++(p.2.take k).flatten/\(l.length:Int)<=1024+4096*(k:Int))) (λ⟨l_v,l,k,gq⟩=>Int.toNat (((p.2.length:Int):Int)-(k:Int))) (v8,p.1,0,g6) ?_ ?_
 replace bH:=bH.cn ch2
 · exact⟨bH.ce ch9,rfl,rfl,rfl,Rp.ce ch9,(r_p_v1.cn ch2).ce ch9,bx5.ce ch9,o10,by omega,by exact⟨by simp,by omega⟩⟩
 clear Rp r_p_v1 bx5 o10 bH
 rintro⟨l_v,l,k,g13⟩ f11 w12 ⟨bH,zs1,zs3,zs4,Rp,r_p_v1,bx5,o_l,hle_k,hinv⟩ back3
 obtain⟨hi1,hi2⟩:=hinv
 refine a6 (a6 (a5 rfl (mz zs4 (lx (a7 dn rfl rfl zs1 rfl) (lx (a9 eB rfl bx5 rfl) ?_)))))
 have len14:=(r_p_v1).small
 refine lx (bE eP rfl r_p_v1) (lx (b6 (m:=↑k) (n:=(p.2.length:Int)) rfl rfl) (a8 ?_))
 by_cases p3:(k:Int)<(p.2.length:Int)
 ·
  refine ae rfl (dt p3) ?_
  have hll:=hp3 (k:Int) (by omega) (by omega)
  refine am (a6 (ao (a5 rfl (mz zs3 (lx (a7 dn rfl rfl zs1 rfl) (lx (a9 eB rfl bx5 rfl) (mz zs4 (lx (ab (v:=p_v1) (i:=↑k) eP rfl rfl r_p_v1 rfl (by omega) (by omega)) ?_))))))))
  obtain⟨v15,cel16,r17⟩:=cN (r:=(k:Int)) r_p_v1 (by omega) (by omega)
  refine lx (aZ cl rfl cel16) (lo (b9 (α:=Pt) (xs:=l) (ys:=(gI p.2 ↑k)) g13 (J:=is 2) (S:=is 2) (2,0) rfl bZ ah (by decide) rfl rfl rfl o_l r17 (by decide) (by omega) ?_))
  intro g18 w19 v20 ch21 o22
  clear o_l
  refine ma v20 (a8 (ak ?_))
  clear r17
  refine a5 rfl (mz zs4 (lx (aQ (m:=↑k) (n:=1) rfl rfl (by omega)) (ai ((k:Int)+1) (a8 ?_))))
  refine back3 (v20,(l++gI p.2 ↑k),k+1,g18) _ _ ⟨bH.ce ch21,zs1,rfl,rfl,Rp.ce ch21,r_p_v1.ce ch21,bx5.ce ch21,o22,by omega,?_⟩ ?_
  · show(l++gI p.2 ↑k)=p.1++(p.2.take (k+1)).flatten/\((l++gI p.2 ↑k).length:Int)<=1024+4096*((k+1):Int)
    exact nM ⟨hi1,hi2⟩ ‹_› hll
  · show Int.toNat (((p.2.length:Int):Int)-((k+1):Int))<Int.toNat (((p.2.length:Int):Int)-(k:Int))
    omega
 refine af rfl (df p3) (aO rfl (a6 ?_))
 clear bx5
 refine a5 rfl (mz zs3 (ma l_v (a8 (av (vs:=[l_v]) Try.func16 (.tmp rfl .nil) ?_))))
 have e0:(l:List Pt)=(bx p):=by
   exact ph hi1 ‹_›
 exact⟨(kQ w0 g13 (λn=>if n=2 then 1 else 0),l_v),(congrArg (a₁:=l) (λ(z0:List Pt)=>Ending.returned (l_v)) e0),bH.fresh _,(e0▸(o_l.glue (γ:=c0) (ren:=(λn=>if n=2 then 1 else 0)) (k:=1) bH.col rfl rfl))⟩
theorem ou(w0:World)(g:(Int)×(List Pt))(g_v:Value)(hg_v:Ro w0 g_v g.2)(p:(List Pt)×(List (List Pt)))(p_v p_v1:Value)(hp_v:Ro w0 p_v p.1)(hp_v1:Ro w0 p_v1 p.2)(hmay:dp g):
    Calls Try.prog 29 #[vg [vi g.1,g_v],vg [p_v,p_v1]] w0 (λee w=>∃xx:aW×Value,ee= .returned ((λ⟨δ,rv0⟩=>rv0) xx)/\(λ(⟨δ,rv0⟩:aW×Value) (w:World)=>gw w0 δ w/\Ow δ (is 1) (is 1) w rv0 (c9 g p)) xx w):=by
 refine aI Try.func29 rfl nq ?_
 have bH:=bo.start w0
 have Rg:=hg_v.sl
 have Rp:=hp_v.sl
 have r_p_v1:=hp_v1.sl
 have hm0:=hmay
 obtain⟨hm1,hm2,hm3,hm4⟩:=hm0
 refine a6 (a5 rfl (cj rfl (bA c0 (is 1) (1,0) rfl rfl ?_)))
 intro g4 w1 b3 ch2 bx5
 replace bx5:Bx g4 (is 1) w1 b3 [vi g.1,g_v]:=bx5
 refine lo (bA g4 (is 2) (2,0) rfl rfl ?_)
 intro g9 w6 b8 ch7 bx10
 replace bx10:Bx g9 (is 2) w6 b8 [p_v,p_v1]:=bx10
 refine ma vn (a8 (a6 (a6 (a5 rfl (lx (a7 dn rfl rfl rfl rfl) (lx (a9 cl rfl bx10 rfl) ?_))))))
 replace Rp:=(Rp.cn ch2).cn ch7
 have len11:=(Rp).small
 refine lx (bE bZ rfl Rp) (lx (a7 eR rfl rfl rfl rfl) ?_)
 replace bx5:=bx5.cn ch7
 refine lx (a9 aG rfl bx5 rfl) (lx (dz (m:=(p.1.length:Int)) (n:=g.1) rfl rfl) (mv (vb (!(decide ((p.1.length:Int)=g.1)))) ?_))
 by_cases q14:(p.1.length:Int)=g.1
 ·
  refine lv (vp b8 1) (wy (congrArg Bool.not (dt q14))) (a7 dn rfl rfl rfl rfl) (lv (p_v1) (wy (congrArg Bool.not (dt q14))) (a9 eB rfl bx10 rfl) ?_)
  replace r_p_v1:=(r_p_v1.cn ch2).cn ch7
  have len12:=(r_p_v1).small
  refine lv (vi (p.2.length:Int)) (wy (congrArg Bool.not (dt q14))) (bE eP rfl r_p_v1) (lv (vp b3 1) (wy (congrArg Bool.not (dt q14))) (a7 eR rfl rfl rfl rfl) (lv (g_v) (wy (congrArg Bool.not (dt q14))) (a9 ch rfl bx5 rfl) ?_))
  replace Rg:=(Rg.cn ch2).cn ch7
  have len13:=(Rg).small
  refine lv (vi (g.2.length:Int)) (wy (congrArg Bool.not (dt q14))) (bE gv rfl Rg) (lv (vb (!(decide ((p.2.length:Int)=(g.2.length:Int))))) (wy (congrArg Bool.not (dt q14))) (dz (m:=(p.2.length:Int)) (n:=(g.2.length:Int)) rfl rfl) (lw (vb (!(decide ((p.2.length:Int)=(g.2.length:Int))))) (aB rfl (congrArg Bool.not (dt q14)) rfl) (a8 ?_)))
  by_cases p1:(p.2.length:Int)=(g.2.length:Int)
  ·
   refine af rfl (congrArg Bool.not (dt p1)) (am (a6 (a5 rfl (ma vn (a8 (a6 (a6 (a5 rfl (ai 0 (a8 (ao ?_)))))))))))
   refine bf (σ:=Nat×Value×(List cr)×aW) (λ⟨v,F_v,F,gq⟩ f w=>bo w0 gq w/\f 2=vp b3 0/\f 3=vp b8 0/\f 5=F_v/\f 6=vi ↑v/\Sl gq (is 0) w g_v g.2/\Sl gq (is 0) w p_v p.1/\Sl gq (is 0) w p_v1 p.2/\Bx gq (is 1) w b3 [vi g.1,g_v]/\Bx gq (is 2) w b8 [p_v,p_v1]/\Ow gq (is 4) (is 4) w F_v F/\(v:Int)<=(g.1:Int)/\(F=bI (jD p) v)) (λ⟨v,F_v,F,gq⟩=>Int.toNat ((g.1:Int)-(v:Int))) (0,vn,[],g9) ?_ ?_
   replace bH:=bH.cn ch2
   · exact⟨bH.cn ch7,rfl,rfl,rfl,rfl,Rg,Rp,r_p_v1,bx5,bx10,Ow.nil,by omega,by rfl⟩
   clear Rg Rp r_p_v1 bx5 bx10 bH
   rintro⟨v,F_v,F,g16⟩ f14 w15 ⟨bH,zs2,zs3,zs5,zs6,Rg,Rp,r_p_v1,bx5,bx10,o_F,hle_v,ha⟩ back5
   have hal:=pz ha
   refine a6 (a6 (a5 rfl (mz zs6 (lx (a7 eR rfl rfl zs2 rfl) (lx (a9 aG rfl bx5 rfl) (lx (b6 (m:=↑v) (n:=g.1) rfl rfl) (a8 ?_)))))))
   by_cases p5:(v:Int)<g.1
   ·
    refine ae rfl (dt p5) (am (a6 (ao (a6 (a5 rfl (lx (a7 dn rfl rfl zs3 rfl) (lx (a9 cl rfl bx10 rfl) (mz zs6 (lx (ab (v:=p_v) (i:=↑v) bZ rfl rfl Rp rfl (by omega) (by omega)) (lw (vg [vi ((gI p.1 ↑v).1),vi ((gI p.1 ↑v).2)]) (aM (v:=p_v) (i:=↑v) ah rfl Rp (by omega) (by omega) rfl) ?_))))))))))
    refine lo (aN (v:=vb (decide (ck (gI p.1 ↑v)))) (az (vals:=[vg [vi ((gI p.1 ↑v).1),vi ((gI p.1 ↑v).2)]]) Try.func20 pK oN rfl) (rp w15 (gI p.1 ↑v)) ?_)
    intro w17 hb18
    replace hb18:=aj hb18 g16
    refine lx (cm (b:=(decide (ck (gI p.1 ↑v)))) rfl) (a8 ?_)
    by_cases p7:(decide (ck (gI p.1 ↑v)))=true
    ·
     refine af rfl (congrArg Bool.not p7) (am (ak (a5 rfl (mz zs6 (lx (aQ (m:=↑v) (n:=1) rfl rfl (by omega)) (ai ((v:Int)+1) (a8 ?_)))))))
     refine back5 (v+1,F_v,F,g16) _ _ ⟨bH.cn hb18,zs2,zs3,zs5,rfl,Rg.cn hb18,Rp.cn hb18,r_p_v1.cn hb18,bx5.cn hb18,bx10.cn hb18,o_F.cn hb18,by omega,?_⟩ ?_
     · show F=bI (jD p) (v+1)
       exact pG ha (tS ‹_›)
     · show Int.toNat ((g.1:Int)-((v+1):Int))<Int.toNat ((g.1:Int)-(v:Int))
       omega
    refine ae rfl (congrArg Bool.not (Bool.eq_false_iff.2 p7)) (a5 rfl (mz zs5 (mz zs6 (lw (vg [vi 2,vi ↑v,vi 0]) (bz (vs:=[(0,vi 2),(1,vi ↑v)]) rfl (by kernel_rfl)) (lo (aC (α:=cr) g16 (is 3) (is 3) (3,0) rfl [(2,(v:Int),0)] i9 cL (by decide) (by decide) (vs:=[(0,vg [vi 2,vi ↑v,vi 0])]) rfl rfl (.cons rfl .nil) ?_))))))
    intro g19 w20 v21 ch22 o23
    refine lo ?_
    replace o_F:=(o_F.cn hb18).cn ch22
    refine b9 (α:=cr) (xs:=F) (ys:=([(2,(v:Int),0)])) g19 (J:=is 4) (S:=is 4) (4,0) rfl i9 cL (by decide) rfl rfl rfl o_F o23.flat (by decide) (by(simp;omega)) ?_
    intro g24 w25 v26 ch27 o28
    clear o_F
    refine ma v26 (a8 (ak ?_))
    clear o23
    refine a5 rfl (mz zs6 (lx (aQ (m:=↑v) (n:=1) rfl rfl (by omega)) (ai ((v:Int)+1) (a8 ?_))))
    have C29:=cg [4] (hb18.n.seq (ch22.n.seq (ch27.l rfl)))
    refine back5 (v+1,v26,(F++[(2,(v:Int),0)]),g24) _ _ ⟨bH.ca C29,zs2,zs3,rfl,rfl,Rg.ca C29,Rp.ca C29,r_p_v1.ca C29,bx5.ca C29,bx10.ca C29,o28,by omega,?_⟩ ?_
    · show(F++[(2,(v:Int),0)])=bI (jD p) (v+1)
      exact mO ha (sK ‹_›)
    · show Int.toNat ((g.1:Int)-((v+1):Int))<Int.toNat ((g.1:Int)-(v:Int))
      omega
   refine af rfl (df p5) (aO rfl (a6 (a6 (a5 rfl (ai 0 (a8 (ao ?_)))))))
   refine bf (σ:=Value×(List cr)×Nat×aW) (λ⟨G_v,G,e,gq⟩ f w=>bo w0 gq w/\f 2=vp b3 0/\f 3=vp b8 0/\f 5=G_v/\f 7=vi ↑e/\Sl gq (is 0) w g_v g.2/\Sl gq (is 0) w p_v p.1/\Sl gq (is 0) w p_v1 p.2/\Bx gq (is 1) w b3 [vi g.1,g_v]/\Bx gq (is 2) w b8 [p_v,p_v1]/\Ow gq (is 4) (is 4) w G_v G/\(e:Int)<=((g.2.length:Int):Int)/\(G=bI (jD p) p.1.length++bI (mE p) e)) (λ⟨G_v,G,e,gq⟩=>Int.toNat (((g.2.length:Int):Int)-(e:Int))) (F_v,F,0,g16) ?_ ?_
   · exact⟨bH,zs2,zs3,zs5,rfl,Rg,Rp,r_p_v1,bx5,bx10,o_F,by omega,by exact n8 ha (by omega)⟩
   clear Rg Rp r_p_v1 bx5 bx10 o_F bH
   rintro⟨G_v,G,e,g32⟩ f30 w31 ⟨bH,zs2,zs3,zs5,zs7,Rg,Rp,r_p_v1,bx5,bx10,o_G,hle_e,hb⟩ back10
   have hbl:=pE hb
   refine a6 (a6 (a5 rfl (mz zs7 (lx (a7 eR rfl rfl zs2 rfl) (lx (a9 ch rfl bx5 rfl) (lx (bE gv rfl Rg) (lx (b6 (m:=↑e) (n:=(g.2.length:Int)) rfl rfl) (a8 ?_))))))))
   by_cases p10:(e:Int)<(g.2.length:Int)
   ·
    refine ae rfl (dt p10) (am (a6 (ao (a6 (a5 rfl (lx (a7 dn rfl rfl zs3 rfl) (lx (a9 eB rfl bx10 rfl) (mz zs7 (lx (ab (v:=p_v1) (i:=↑e) eP rfl rfl r_p_v1 rfl (by omega) (by omega)) ?_)))))))))
    obtain⟨v33,cel34,r35⟩:=cN (r:=(e:Int)) r_p_v1 (by omega) (by omega)
    refine lx (aZ cl rfl cel34) ?_
    have len36:=(r35).small
    refine lx (bE bZ rfl r35) (lx (b6 (m:=(List.length (gI p.2 ↑e):Int)) (n:=2) rfl rfl) (mv (vb (decide ((List.length (gI p.2 ↑e):Int)<2))) ?_))
    by_cases q57:(List.length (gI p.2 ↑e):Int)<2
    ·
     refine aa (wn (dt q57)) (aa (wn (dt q57)) (aa (wn (dt q57)) (aa (wn (dt q57)) (aa (wn (dt q57)) (aa (wn (dt q57)) (aa (wn (dt q57)) (lw (vb true) (aD rfl (dt q57) rfl) (a8 (ae rfl rfl ?_)))))))))
     clear r35
     refine a5 rfl (mz zs5 (mz zs7 (lw (vg [vi 3,vi ↑e,vi 0]) (bz (vs:=[(0,vi 3),(1,vi ↑e)]) rfl (by kernel_rfl)) (lo (aC (α:=cr) g32 (is 5) (is 5) (5,0) rfl [(3,(e:Int),0)] i9 cL (by decide) (by decide) (vs:=[(0,vg [vi 3,vi ↑e,vi 0])]) rfl rfl (.cons rfl .nil) ?_)))))
     intro g37 w38 v39 ch40 o41
     refine lo ?_
     replace o_G:=o_G.cn ch40
     refine b9 (α:=cr) (xs:=G) (ys:=([(3,(e:Int),0)])) g37 (J:=is 4) (S:=is 4) (4,0) rfl i9 cL (by decide) rfl rfl rfl o_G o41.flat (by decide) (by(simp;omega)) ?_
     intro g42 w43 v44 ch45 o46
     clear o_G
     refine ma v44 (a8 (ak ?_))
     clear o41
     refine a5 rfl (mz zs7 (lx (aQ (m:=↑e) (n:=1) rfl rfl (by omega)) (ai ((e:Int)+1) (a8 ?_))))
     replace bH:=bH.cn ch40
     refine back10 (v44,(G++[(3,(e:Int),0)]),e+1,g42) _ _ ⟨bH.ce ch45,zs2,zs3,rfl,rfl,(Rg.cn ch40).ce ch45,(Rp.cn ch40).ce ch45,(r_p_v1.cn ch40).ce ch45,(bx5.cn ch40).ce ch45,(bx10.cn ch40).ce ch45,o46,by omega,?_⟩ ?_
     · show(G++[(3,(e:Int),0)])=bI (jD p) p.1.length++bI (mE p) (e+1)
       exact eZ hb (uW ‹_›)
     · show Int.toNat (((g.2.length:Int):Int)-((e+1):Int))<Int.toNat (((g.2.length:Int):Int)-(e:Int))
       omega
    refine lv (vp b8 1) (wy (df q57)) (a7 dn rfl rfl zs3 rfl) (lv (p_v1) (wy (df q57)) (a9 eB rfl bx10 rfl) (lv (vi ↑e) (wy (df q57)) (aw zs7) (lv (Value.pointer (some (aU p_v1 1 (Int.toNat ↑e)))) (wy (df q57)) (ab (α:=List Pt) (xs:=p.2) (v:=p_v1) (i:=↑e) eP rfl rfl r_p_v1 rfl (by omega) (by omega)) ?_)))
    obtain⟨v47,cel48,r49⟩:=cN (r:=(e:Int)) r_p_v1 (by omega) (by omega)
    refine lv (v47) (wy (df q57)) (aZ cl rfl cel48) (cj (wy (df q57)) (aN (v:=vb (decide (dy (gI p.2 ↑e)))) (az (vals:=[v47]) Try.func7 mD lN rfl) (iM w31 (gI p.2 ↑e) v47 (r49).ro) ?_))
    intro w50 hb51
    replace hb51:=aj hb51 g32
    refine lv (vb (!(decide (dy (gI p.2 ↑e))))) (wy (df q57)) (cm (b:=(decide (dy (gI p.2 ↑e)))) rfl) (lw (vb (!(decide (dy (gI p.2 ↑e))))) (aB rfl (df q57) rfl) (a8 ?_))
    by_cases p12:(decide (dy (gI p.2 ↑e)))=true
    ·
     refine af rfl (congrArg Bool.not p12) (am (ak ?_))
     clear r35 r49
     refine a5 rfl (mz zs7 (lx (aQ (m:=↑e) (n:=1) rfl rfl (by omega)) (ai ((e:Int)+1) (a8 ?_))))
     refine back10 (G_v,G,e+1,g32) _ _ ⟨bH.cn hb51,zs2,zs3,zs5,rfl,Rg.cn hb51,Rp.cn hb51,r_p_v1.cn hb51,bx5.cn hb51,bx10.cn hb51,o_G.cn hb51,by omega,?_⟩ ?_
     · show G=bI (jD p) p.1.length++bI (mE p) (e+1)
       exact gh hb (uZ ‹_› ‹_›)
     · show Int.toNat (((g.2.length:Int):Int)-((e+1):Int))<Int.toNat (((g.2.length:Int):Int)-(e:Int))
       omega
    refine ae rfl (congrArg Bool.not (Bool.eq_false_iff.2 p12)) ?_
    clear r35 r49
    refine a5 rfl (mz zs5 (mz zs7 (lw (vg [vi 3,vi ↑e,vi 0]) (bz (vs:=[(0,vi 3),(1,vi ↑e)]) rfl (by kernel_rfl)) (lo (aC (α:=cr) g32 (is 5) (is 5) (5,0) rfl [(3,(e:Int),0)] i9 cL (by decide) (by decide) (vs:=[(0,vg [vi 3,vi ↑e,vi 0])]) rfl rfl (.cons rfl .nil) ?_)))))
    intro g52 w53 v54 ch55 o56
    refine lo ?_
    replace o_G:=(o_G.cn hb51).cn ch55
    refine b9 (α:=cr) (xs:=G) (ys:=([(3,(e:Int),0)])) g52 (J:=is 4) (S:=is 4) (4,0) rfl i9 cL (by decide) rfl rfl rfl o_G o56.flat (by decide) (by(simp;omega)) ?_
    intro g57 w58 v59 ch60 o61
    clear o_G
    refine ma v59 (a8 (ak ?_))
    clear o56
    refine a5 rfl (mz zs7 (lx (aQ (m:=↑e) (n:=1) rfl rfl (by omega)) (ai ((e:Int)+1) (a8 ?_))))
    have C62:=cg [4] (hb51.n.seq (ch55.n.seq (ch60.l rfl)))
    refine back10 (v59,(G++[(3,(e:Int),0)]),e+1,g57) _ _ ⟨bH.ca C62,zs2,zs3,rfl,rfl,Rg.ca C62,Rp.ca C62,r_p_v1.ca C62,bx5.ca C62,bx10.ca C62,o61,by omega,?_⟩ ?_
    · show(G++[(3,(e:Int),0)])=bI (jD p) p.1.length++bI (mE p) (e+1)
      exact eZ hb (uX ‹_›)
    · show Int.toNat (((g.2.length:Int):Int)-((e+1):Int))<Int.toNat (((g.2.length:Int):Int)-(e:Int))
      omega
   refine af rfl (df p10) (aO rfl (a6 ?_))
   clear bx5 bx10
   refine a5 rfl (mz zs5 (ma G_v (a8 (av (vs:=[G_v]) Try.func29 (.tmp rfl .nil) ?_))))
   have e0:(G:List cr)=(c9 g p):=by
     exact vf (by omega) (by omega) hb (by omega)
   exact⟨(kQ w0 g32 (λn=>if n=4 then 1 else 0),G_v),(congrArg (a₁:=G) (λ(z0:List cr)=>Ending.returned (G_v)) e0),bH.fresh _,(e0▸(o_G.glue (γ:=c0) (ren:=(λn=>if n=4 then 1 else 0)) (k:=1) bH.col rfl rfl))⟩
  refine ae rfl (congrArg Bool.not (df p1)) (a6 ?_)
  clear bx5 bx10
  refine a5 rfl (lw (vg [vi 1,vi 0,vi 0]) (bz (vs:=[(0,vi 1)]) rfl (by kernel_rfl)) (lo (aC (α:=cr) g9 (is 6) (is 6) (6,0) rfl [(1,0,0)] i9 cL (by decide) (by decide) (vs:=[(0,vg [vi 1,vi 0,vi 0])]) rfl rfl (.cons rfl .nil) ?_)))
  intro g63 w64 v65 ch66 o67
  refine ma v65 (a8 (av (vs:=[v65]) Try.func29 (.tmp rfl .nil) ?_))
  have C68:=cg [] (ch2.n.seq (ch7.n.seq ch66.n))
  replace bH:=bH.ca C68
  have e0:([(1,0,0)]:List cr)=(c9 g p):=by
    exact uY ‹_›
  exact⟨(kQ w0 g63 (λn=>if n=6 then 1 else 0),v65),(congrArg (a₁:=[(1,0,0)]) (λ(z0:List cr)=>Ending.returned (v65)) e0),bH.fresh _,(e0▸(o67.glue (γ:=c0) (ren:=(λn=>if n=6 then 1 else 0)) (k:=1) bH.col rfl rfl))⟩
 refine aa (wn (congrArg Bool.not (df q14))) (aa (wn (congrArg Bool.not (df q14))) (aa (wn (congrArg Bool.not (df q14))) (aa (wn (congrArg Bool.not (df q14))) (aa (wn (congrArg Bool.not (df q14))) (aa (wn (congrArg Bool.not (df q14))) (aa (wn (congrArg Bool.not (df q14))) (lw (vb true) (aD rfl (congrArg Bool.not (df q14)) rfl) (a8 (ae rfl rfl ?_)))))))))
 refine a6 ?_
 clear bx5 bx10
 refine a5 rfl (lw (vg [vi 1,vi 0,vi 0]) (bz (vs:=[(0,vi 1)]) rfl (by kernel_rfl)) (lo (aC (α:=cr) g9 (is 6) (is 6) (6,0) rfl [(1,0,0)] i9 cL (by decide) (by decide) (vs:=[(0,vg [vi 1,vi 0,vi 0])]) rfl rfl (.cons rfl .nil) ?_)))
 intro g69 w70 v71 ch72 o73
 refine ma v71 (a8 (av (vs:=[v71]) Try.func29 (.tmp rfl .nil) ?_))
 have C74:=cg [] (ch2.n.seq (ch7.n.seq ch72.n))
 replace bH:=bH.ca C74
 have e0:([(1,0,0)]:List cr)=(c9 g p):=by
   exact uS ‹_›
 exact⟨(kQ w0 g69 (λn=>if n=6 then 1 else 0),v71),(congrArg (a₁:=[(1,0,0)]) (λ(z0:List cr)=>Ending.returned (v71)) e0),bH.fresh _,(e0▸(o73.glue (γ:=c0) (ren:=(λn=>if n=6 then 1 else 0)) (k:=1) bH.col rfl rfl))⟩
theorem fX(w0:World)(g:(Int)×(List Pt))(g_v:Value)(hg_v:Ro w0 g_v g.2)(p:(List Pt)×(List (List Pt)))(p_v p_v1:Value)(hp_v:Ro w0 p_v p.1)(hp_v1:Ro w0 p_v1 p.2)(ea:Int)(fa:Int)(hm:dp g)(hs:kP g p)(he:0<=ea/\ea<g.2.length)(hf:0<=fa/\fa<g.2.length):
    Calls Try.prog 45 #[vg [vi g.1,g_v],vg [p_v,p_v1],vi ea,vi fa] w0 (λee w=>∃xx:aW×Value,ee= .returned ((λ⟨δ,rv0⟩=>rv0) xx)/\(λ(⟨δ,rv0⟩:aW×Value) (w:World)=>gw w0 δ w/\Ow δ (is 1) (is 1) w rv0 (dB g p ea fa)) xx w):=by
 refine aI Try.func45 rfl nq ?_
 have bH:=bo.start w0
 have Rg:=hg_v.sl
 have Rp:=hp_v.sl
 have r_p_v1:=hp_v1.sl
 obtain⟨he0,he1⟩:=he
 obtain⟨hf0,hf1⟩:=hf
 have hs1:=hs.n
 have hs2:=hs.m
 refine a6 (a5 rfl (cj rfl (bA c0 (is 1) (1,0) rfl rfl ?_)))
 intro g4 w1 b3 ch2 bx5
 replace bx5:Bx g4 (is 1) w1 b3 [vi g.1,g_v]:=bx5
 refine lo (bA g4 (is 2) (2,0) rfl rfl ?_)
 intro g9 w6 b8 ch7 bx10
 replace bx10:Bx g9 (is 2) w6 b8 [p_v,p_v1]:=bx10
 refine ma vn (a8 (a6 (a5 rfl (ma vn (a8 (a6 (a6 (a5 rfl (ai 0 (a8 (ao ?_)))))))))))
 refine bf (σ:=Value×(List Pt)×Nat×aW) (λ⟨F_v,F,i,gq⟩ f w=>bo w0 gq w/\f 2=vi ea/\f 3=vi fa/\f 4=vp b3 0/\f 5=vp b8 0/\f 9=F_v/\f 10=vi ↑i/\Sl gq (is 0) w g_v g.2/\Sl gq (is 0) w p_v p.1/\Sl gq (is 0) w p_v1 p.2/\Bx gq (is 1) w b3 [vi g.1,g_v]/\Bx gq (is 2) w b8 [p_v,p_v1]/\Ow gq (is 4) (is 4) w F_v F/\(i:Int)<=(2:Int)/\(F=bI (io g p ea fa) i/\i<=2)) (λ⟨F_v,F,i,gq⟩=>2-i) (vn,[],0,g9) ?_ ?_
 replace bH:=bH.cn ch2
 · exact⟨bH.cn ch7,rfl,rfl,rfl,rfl,rfl,rfl,(Rg.cn ch2).cn ch7,(Rp.cn ch2).cn ch7,(r_p_v1.cn ch2).cn ch7,bx5.cn ch7,bx10,Ow.nil,by omega,by exact⟨rfl,by omega⟩⟩
 clear Rg Rp r_p_v1 bx5 bx10 bH
 rintro⟨F_v,F,i,g13⟩ f11 w12 ⟨bH,zs2,zs3,zs4,zs5,zs9,zs10,Rg,Rp,r_p_v1,bx5,bx10,o_F,hle_i,ha⟩ back3
 obtain⟨ha1,ha2⟩:=ha
 refine a6 (a6 (a5 rfl (mz zs10 (lx (b6 (m:=↑i) (n:=2) rfl rfl) (a8 ?_)))))
 by_cases p3:(i:Int)<2
 ·
  refine ae rfl (dt p3) ?_
  have hpi:=wK hm he0 he1 (i:Int)
  refine am (a6 (ao (a6 (a5 rfl (ai 0 (a8 (ao ?_)))))))
  refine bf (σ:=Value×(List Pt)×Nat×aW) (λ⟨G_v,G,k,gq⟩ f w=>bo w0 gq w/\f 2=vi ea/\f 3=vi fa/\f 4=vp b3 0/\f 5=vp b8 0/\f 9=G_v/\f 10=vi ↑i/\f 11=vi ↑k/\Sl gq (is 0) w g_v g.2/\Sl gq (is 0) w p_v p.1/\Sl gq (is 0) w p_v1 p.2/\Bx gq (is 1) w b3 [vi g.1,g_v]/\Bx gq (is 2) w b8 [p_v,p_v1]/\Ow gq (is 4) (is 4) w G_v G/\(k:Int)<=(2:Int)/\(G=bI (io g p ea fa) i++bI (ml g p ea fa i) k/\k<=2)) (λ⟨G_v,G,k,gq⟩=>2-k) (F_v,F,0,g13) ?_ ?_
  · exact⟨bH,zs2,zs3,zs4,zs5,zs9,zs10,rfl,Rg,Rp,r_p_v1,bx5,bx10,o_F,by omega,by exact⟨re ha1,by omega⟩⟩
  clear Rg Rp r_p_v1 bx5 bx10 o_F bH
  rintro⟨G_v,G,k,g16⟩ f14 w15 ⟨bH,zs2,zs3,zs4,zs5,zs9,zs10,zs11,Rg,Rp,r_p_v1,bx5,bx10,o_G,hle_k,hb⟩ back6
  obtain⟨hb1,hb2⟩:=hb
  have hbl:=t4 hb1 (by omega) hb2
  refine a6 (a6 (a5 rfl (mz zs11 (lx (b6 (m:=↑k) (n:=2) rfl rfl) (a8 ?_)))))
  by_cases p6:(k:Int)<2
  ·
   refine ae rfl (dt p6) (am (a6 (ao (a6 (bv g16 rfl j6 (by kernel_rfl) ?_)))))
   intro w18 ch17
   refine qx (λw' hw'=>a7 eR rfl rfl zs4 rfl) ?_
   replace bx5:=bx5.cn ch17
   refine qx (λw' hw'=>a9 ch rfl (bx5.bel hw') rfl) (qz zs2 (qz zs10 ?_))
   replace Rg:=Rg.cn ch17
   refine qx (λw' hw'=>ab (v:=g_v) (i:=ea) gv rfl rfl (Rg.bel hw') rfl (by omega) (by omega)) (qx (λw' hw'=>bj (i:=↑i) jZ rfl rfl rfl (by omega) (by omega) (Nat.mul_one _)) (qx (λw' hw'=>bN (v:=g_v) (i:=ea) aG rfl (Rg.bel hw') (by omega) (by omega) (show Int.toNat ↑i<2 by omega) (kA _ (by omega) (by omega))) (qx (λw' hw'=>a7 eR rfl rfl zs4 rfl) (qx (λw' hw'=>a9 ch rfl (bx5.bel hw') rfl) (qz zs3 (qz zs11 (qx (λw' hw'=>ab (v:=g_v) (i:=fa) gv rfl rfl (Rg.bel hw') rfl (by omega) (by omega)) (qx (λw' hw'=>bj (i:=↑k) jZ rfl rfl rfl (by omega) (by omega) (Nat.mul_one _)) ?_))))))))
   refine qx (λw' hw'=>bN (v:=g_v) (i:=fa) aG rfl (Rg.bel hw') (by omega) (by omega) (show Int.toNat ↑k<2 by omega) (kA _ (by omega) (by omega))) (qx (λw' hw'=>cu (m:=pI (gI g.2 ea) (i:Int)) (n:=pI (gI g.2 fa) (k:Int)) rfl rfl) (bM ?_))
   intro w19 hc20
   replace hc20:=aj hc20 g16
   by_cases p8:(pI (gI g.2 ea) (i:Int))=(pI (gI g.2 fa) (k:Int))
   ·
    refine ae rfl (dt p8) (dc g16 [0,1,2,3,4,5,6,7,8,9,10,11,14] j6 ?_)
    intro w22 ch21
    refine xp (v:=G_v) 0 rfl (λw=>aw zs9) (xp 1 rfl (λw=>a7 dn rfl rfl zs5 rfl) ?_)
    have C23:=cg [] (ch17.n.seq (hc20.n.seq ch21.n))
    replace bx10:=bx10.ca C23
    refine xv 2 [1,0,3,5,6,4,7,8,9] rfl (a9 cl rfl bx10 rfl) (xp 3 rfl (λw=>a7 eR rfl rfl zs4 rfl) ?_)
    replace bx5:=(bx5.cn hc20).cn ch21
    refine xv 4 [3,2,1,0,5,6] rfl (a9 ch rfl bx5 rfl) (xp (v:=vi ea) 5 rfl (λw=>aw zs2) (xp (v:=vi ↑i) 6 rfl (λw=>aw zs10) ?_))
    replace Rg:=(Rg.cn hc20).cn ch21
    refine xv 7 [6,5,4,3,2,1,0] rfl (ab (v:=g_v) (i:=ea) gv rfl rfl Rg rfl (by omega) (by omega)) (xv 8 [7,6,5,4,3,2,1,0] rfl (bj (i:=↑i) jZ rfl rfl rfl (by omega) (by omega) (Nat.mul_one _)) (xv 9 [8,7,6,5,4,3,2,1,0] rfl (bN (v:=g_v) (i:=ea) aG rfl Rg (by omega) (by omega) (show Int.toNat ↑i<2 by omega) (kA _ (by omega) (by omega))) ?_))
    replace Rp:=Rp.ca C23
    refine xv 10 [9,8,7,6,5,4,3,2,1,0] rfl (ab (v:=p_v) (i:=pI (gI g.2 ea) (i:Int)) bZ rfl rfl Rp rfl (by omega) (by omega)) (xv (v:=vg [vi ((gI p.1 (pI (gI g.2 ea) (i:Int))).1),vi ((gI p.1 (pI (gI g.2 ea) (i:Int))).2)]) 11 [10,9,8,7,6,5,4,3,2,1,0] rfl (aM (v:=p_v) (i:=pI (gI g.2 ea) (i:Int)) ah rfl Rp (by omega) (by omega) rfl) (cf 12 rfl (by kernel_rfl) rfl (aC (α:=Pt) g16 (is 3) (is 3) (3,0) rfl ([(gI p.1 (pI (gI g.2 ea) (i:Int)))]:List Pt) bZ ah (by decide) (by decide) (vs:=[(0,vg [vi ((gI p.1 (pI (gI g.2 ea) (i:Int))).1),vi ((gI p.1 (pI (gI g.2 ea) (i:Int))).2)])]) rfl rfl (.cons rfl .nil) ?_)))
    intro g24 w25 v26 ch27 o28
    refine cf 13 rfl (by kernel_rfl) rfl ?_
    have C29:=cg [] (ch17.n.seq (hc20.n.seq (ch21.n.seq ch27.n)))
    replace o_G:=o_G.ca C29
    refine b9 (α:=Pt) (xs:=G) (ys:=([(gI p.1 (pI (gI g.2 ea) (i:Int)))]:List Pt)) g24 (J:=is 4) (S:=is 4) (4,0) rfl bZ ah (by decide) rfl rfl rfl o_G o28.flat (by decide) (by(simp;omega)) ?_
    intro g30 w31 v32 ch33 o34
    clear o_G
    refine xp (v:=v32) 14 rfl (λw=>bi rfl) (eQ (by kernel_rfl) (ak ?_))
    clear o28
    refine a5 rfl (mz zs11 (lx (aQ (m:=↑k) (n:=1) rfl rfl (by omega)) (ai ((k:Int)+1) (a8 ?_))))
    have C35:=cg [4] (ch17.n.seq (hc20.n.seq (ch21.n.seq (ch27.n.seq (ch33.l rfl)))))
    refine back6 (v32,(G++([(gI p.1 (pI (gI g.2 ea) (i:Int)))]:List Pt)),k+1,g30) _ _ ⟨bH.ca C35,zs2,zs3,zs4,zs5,rfl,zs10,rfl,(Rg.cn ch27).ce ch33,(Rp.cn ch27).ce ch33,r_p_v1.ca C35,(bx5.cn ch27).ce ch33,(bx10.cn ch27).ce ch33,o34,by omega,?_⟩ ?_
    · show(G++([(gI p.1 (pI (gI g.2 ea) (i:Int)))]:List Pt))=bI (io g p ea fa) i++bI (ml g p ea fa i) (k+1)/\(k+1)<=2
      exact⟨eZ hb1 (fJ ‹_›),by omega⟩
    · show 2-(k+1)<2-k
      omega
   refine af rfl (df p8) (am (ak (a5 rfl (mz zs11 (lx (aQ (m:=↑k) (n:=1) rfl rfl (by omega)) (ai ((k:Int)+1) (a8 ?_)))))))
   replace bH:=bH.cn ch17
   refine back6 (G_v,G,k+1,g16) _ _ ⟨bH.cn hc20,zs2,zs3,zs4,zs5,zs9,zs10,rfl,Rg.cn hc20,(Rp.cn ch17).cn hc20,(r_p_v1.cn ch17).cn hc20,bx5.cn hc20,(bx10.cn ch17).cn hc20,(o_G.cn ch17).cn hc20,by omega,?_⟩ ?_
   · show G=bI (io g p ea fa) i++bI (ml g p ea fa i) (k+1)/\(k+1)<=2
     exact⟨gh hb1 (ei ‹_›),by omega⟩
   · show 2-(k+1)<2-k
     omega
  refine af rfl (df p6) (aO rfl (ak (a5 rfl (mz zs10 (lx (aQ (m:=↑i) (n:=1) rfl rfl (by omega)) (ai ((i:Int)+1) (a8 ?_)))))))
  refine back3 (G_v,G,i+1,g16) _ _ ⟨bH,zs2,zs3,zs4,zs5,zs9,rfl,Rg,Rp,r_p_v1,bx5,bx10,o_G,by omega,?_⟩ ?_
  · show G=bI (io g p ea fa) (i+1)/\(i+1)<=2
    exact⟨tk hb1 (by omega),by omega⟩
  · show 2-(i+1)<2-i
    omega
 refine af rfl (df p3) (aO rfl (a6 ?_))
 clear bx5 bx10
 refine a5 rfl (mz zs9 (ma F_v (a8 (av (vs:=[F_v]) Try.func45 (.tmp rfl .nil) ?_))))
 have e0:(F:List Pt)=(dB g p ea fa):=by
   exact tt ha1 (by omega)
 exact⟨(kQ w0 g13 (λn=>if n=4 then 1 else 0),F_v),(congrArg (a₁:=F) (λ(z0:List Pt)=>Ending.returned (F_v)) e0),bH.fresh _,(e0▸(o_F.glue (γ:=c0) (ren:=(λn=>if n=4 then 1 else 0)) (k:=1) bH.col rfl rfl))⟩
theorem lS(w0:World)(g:(Int)×(List Pt))(g_v:Value)(hg_v:Ro w0 g_v g.2)(p:(List Pt)×(List (List Pt)))(p_v p_v1:Value)(hp_v:Ro w0 p_v p.1)(hp_v1:Ro w0 p_v1 p.2)(ea:Int)(fa:Int)(hm:dp g)(hs:kP g p)(he:0<=ea/\ea<g.2.length)(hf:0<=fa/\fa<g.2.length):
    Calls Try.prog 32 #[vg [vi g.1,g_v],vg [p_v,p_v1],vi ea,vi fa] w0 (λee w=>ee= .returned (vb (decide (dH (gI p.2 ea) (gI p.2 fa) (dB g p ea fa))))/\cW w0.heap.size w0 w):=by
 refine aI Try.func32 rfl nq ?_
 have bH:=bo.start w0
 have Rg:=hg_v.sl
 have Rp:=hp_v.sl
 have r_p_v1:=hp_v1.sl
 obtain⟨he0,he1⟩:=he
 obtain⟨hf0,hf1⟩:=hf
 have hs1:=hs.n
 have hs2:=hs.m
 obtain⟨hx1,hx2,hx3⟩:=hs.ln ea (by omega) (by omega)
 obtain⟨hy1,hy2,hy3⟩:=hs.ln fa (by omega) (by omega)
 have hel:=rA (g:=g) (p:=p) (e:=ea) (f:=fa)
 refine a6 (a5 rfl (cj rfl (bA c0 (is 1) (1,0) rfl rfl ?_)))
 intro g4 w1 b3 ch2 bx5
 replace bx5:Bx g4 (is 1) w1 b3 [vi g.1,g_v]:=bx5
 refine lo (bA g4 (is 2) (2,0) rfl rfl ?_)
 intro g9 w6 b8 ch7 bx10
 replace bx10:Bx g9 (is 2) w6 b8 [p_v,p_v1]:=bx10
 refine ma (vb false) (a8 (a6 ?_))
 refine cG (σ:=aW) (λgq f w=>bo w0 gq w/\f 8=vb (decide (dH (gI p.2 ea) (gI p.2 fa) (dB g p ea fa)))/\Sl gq (is 0) w g_v g.2/\Sl gq (is 0) w p_v p.1/\Sl gq (is 0) w p_v1 p.2) g9 (bY []) j6 ?_ ?_
 ·
  intro mid
  intro w12 ch11
  refine ht 0 rfl (bu.refl _ _ _) (λw' hw'=>a7 dn rfl rfl rfl rfl) ?_
  replace bx10:=bx10.cn ch11
  refine ht 1 rfl (bu.refl _ _ _) (λw' hw'=>a9 eB rfl (bx10.chg hw' (bD rfl)) rfl) (ht (v:=vi ea) 2 rfl (bu.refl _ _ _) (λw' hw'=>aw rfl) (ht 5 rfl (bu.refl _ _ _) (λw' hw'=>a7 dn rfl rfl rfl rfl) (ht 6 rfl (bu.refl _ _ _) (λw' hw'=>a9 eB rfl (bx10.chg hw' (bD rfl)) rfl) (ht (v:=vi fa) 7 rfl (bu.refl _ _ _) (λw' hw'=>aw rfl) ?_))))
  replace bx5:=(bx5.cn ch7).cn ch11
  refine ht 10 rfl (bu.refl _ _ _) (λw' hw'=>ad (ds:=[vi g.1,g_v]) m6 rfl (bx5.chg hw' (bD rfl)) rfl rfl) (ht 11 rfl (bu.refl _ _ _) (λw' hw'=>ad (ds:=[p_v,p_v1]) mb rfl (bx10.chg hw' (bD rfl)) rfl rfl) (ht (v:=vi ea) 12 rfl (bu.refl _ _ _) (λw' hw'=>aw rfl) (ht (v:=vi fa) 13 rfl (bu.refl _ _ _) (λw' hw'=>aw rfl) ?_)))
  refine bS 3 [8,14] (by kernel_rfl) ⟨bT 3 rfl (by kernel_rfl) rfl ?_,bT 8 rfl (by kernel_rfl) rfl ?_,bT 14 rfl (by kernel_rfl) rfl ?_,trivial⟩
  ·
   have C13:=cg [] (ch2.n.seq (ch7.n.seq ch11.n))
   replace r_p_v1:=r_p_v1.ca C13
   refine aP (v:=Value.pointer (some (aU p_v1 1 (Int.toNat ea)))) (ab (α:=List Pt) (xs:=p.2) (v:=p_v1) (i:=ea) eP rfl rfl r_p_v1 rfl (by omega) (by omega)) ?_
   refine⟨(bu.refl _ _ _),?_⟩
   obtain⟨v14,cel15,r16⟩:=eD (r:=ea) r_p_v1 (by omega) (by omega)
   refine ht 4 rfl (bu.refl _ _ _) (λw' hw'=>aZ cl rfl (cel15 _ w' (bD rfl) hw')) ?_
   refine bS 8 [14] (by kernel_rfl) ⟨bT 8 rfl (by kernel_rfl) rfl ?_,bT 14 rfl (by kernel_rfl) rfl ?_,trivial⟩
   ·
    refine aP (v:=Value.pointer (some (aU p_v1 1 (Int.toNat fa)))) (ab (α:=List Pt) (xs:=p.2) (v:=p_v1) (i:=fa) eP rfl rfl r_p_v1 rfl (by omega) (by omega)) ?_
    refine⟨(bu.refl _ _ _),?_⟩
    obtain⟨v17,cel18,r19⟩:=eD (r:=fa) r_p_v1 (by omega) (by omega)
    refine ht 9 rfl (bu.refl _ _ _) (λw' hw'=>aZ cl rfl (cel18 _ w' (bD rfl) hw')) (aL 14 rfl (by kernel_rfl) rfl ?_)
    replace Rg:=Rg.ca C13
    replace Rp:=Rp.ca C13
    refine d5 (az (vals:=[vg [vi g.1,g_v],vg [p_v,p_v1],vi ea,vi fa]) Try.func45 j0 jd rfl) (fX w12 g g_v (Rg).ro p p_v p_v1 (Rp).ro (r_p_v1).ro ea fa ‹_› ‹_› (by omega) (by omega)) ?_
    rintro⟨d21,v23⟩ w20 ⟨fr22,o24⟩
    obtain⟨g25,ch26,G25⟩:=ny g9 fr22 (λn=>if n=1 then 3 else 0)
    replace o24:=o24.gl G25 3
    have hs27:bu (bY []) _ _ _ _:=ch26.n
    refine⟨hs27.same,?_⟩
    refine aL 15 rfl (by kernel_rfl) rfl (aN (v:=vb (decide (dH (gI p.2 ea) (gI p.2 fa) (dB g p ea fa)))) (az (vals:=[v14,v17,v23]) Try.func44 gY i7 rfl) (fi w20 (gI p.2 ea) v14 ((r16.ca hs27)).ro (gI p.2 fa) v17 ((r19.ca hs27)).ro (dB g p ea fa) v23 (o24.flat).ro (by exact⟨hx2,hx3⟩) (by exact⟨hy2,hy3⟩) (by omega) (by omega) (by exact λx hx=>(i6 hm hs he0 he1 x hx).bd) (by omega)) ?_)
    intro w28 hb29
    replace hb29:=aj hb29 g25
    have hs30:=hs27.seq (hb29.n)
    refine⟨hs30.same,?_⟩
    refine ht (v:=vb (decide (dH (gI p.2 ea) (gI p.2 fa) (dB g p ea fa)))) 16 rfl hs30.same (λw' hw'=>bi rfl) (bQ (by kernel_rfl) ?_)
    have C31:=cg [] (ch2.n.seq (ch7.n.seq (ch11.n.seq (ch26.n.seq hb29.n))))
    exact mid (g25) _ _ ⟨bH.ca C31,rfl,(Rg.ca hs30),(Rp.ca hs30),(r_p_v1.ca hs30)⟩
   ·
    replace Rg:=Rg.ca C13
    replace Rp:=Rp.ca C13
    refine d5 (az (vals:=[vg [vi g.1,g_v],vg [p_v,p_v1],vi ea,vi fa]) Try.func45 j0 jd rfl) (fX w12 g g_v (Rg).ro p p_v p_v1 (Rp).ro (r_p_v1).ro ea fa ‹_› ‹_› (by omega) (by omega)) ?_
    rintro⟨d33,v35⟩ w32 ⟨fr34,o36⟩
    obtain⟨g37,ch38,G37⟩:=ny g9 fr34 (λn=>if n=1 then 3 else 0)
    replace o36:=o36.gl G37 3
    have hs39:bu (bY []) _ _ _ _:=ch38.n
    refine⟨hs39.same,?_⟩
    refine aL 8 rfl (by kernel_rfl) rfl (aP (v:=Value.pointer (some (aU p_v1 1 (Int.toNat fa)))) (ab (α:=List Pt) (xs:=p.2) (v:=p_v1) (i:=fa) eP rfl rfl (r_p_v1.ca hs39) rfl (by omega) (by omega)) ?_)
    refine⟨hs39.same,?_⟩
    obtain⟨v40,cel41,r42⟩:=eD (r:=fa) r_p_v1 (by omega) (by omega)
    refine ht 9 rfl hs39.same (λw' hw'=>aZ cl rfl (cel41 _ w' (bD rfl) hw')) (aL 15 rfl (by kernel_rfl) rfl (aN (v:=vb (decide (dH (gI p.2 ea) (gI p.2 fa) (dB g p ea fa)))) (az (vals:=[v14,v40,v35]) Try.func44 gY i7 rfl) (fi w32 (gI p.2 ea) v14 ((r16.ca hs39)).ro (gI p.2 fa) v40 ((r42.ca hs39)).ro (dB g p ea fa) v35 (o36.flat).ro (by exact⟨hx2,hx3⟩) (by exact⟨hy2,hy3⟩) (by omega) (by omega) (by exact λx hx=>(i6 hm hs he0 he1 x hx).bd) (by omega)) ?_))
    intro w43 hb44
    replace hb44:=aj hb44 g37
    have hs45:=hs39.seq (hb44.n)
    refine⟨hs45.same,?_⟩
    refine ht (v:=vb (decide (dH (gI p.2 ea) (gI p.2 fa) (dB g p ea fa)))) 16 rfl hs45.same (λw' hw'=>bi rfl) (bQ (by kernel_rfl) ?_)
    have C46:=cg [] (ch2.n.seq (ch7.n.seq (ch11.n.seq (ch38.n.seq hb44.n))))
    exact mid (g37) _ _ ⟨bH.ca C46,rfl,(Rg.ca hs45),(Rp.ca hs45),(r_p_v1.ca hs45)⟩
  ·
   have C47:=cg [] (ch2.n.seq (ch7.n.seq ch11.n))
   replace r_p_v1:=r_p_v1.ca C47
   refine aP (v:=Value.pointer (some (aU p_v1 1 (Int.toNat fa)))) (ab (α:=List Pt) (xs:=p.2) (v:=p_v1) (i:=fa) eP rfl rfl r_p_v1 rfl (by omega) (by omega)) ?_
   refine⟨(bu.refl _ _ _),?_⟩
   obtain⟨v48,cel49,r50⟩:=eD (r:=fa) r_p_v1 (by omega) (by omega)
   refine ht 9 rfl (bu.refl _ _ _) (λw' hw'=>aZ cl rfl (cel49 _ w' (bD rfl) hw')) ?_
   refine bS 3 [14] (by kernel_rfl) ⟨bT 3 rfl (by kernel_rfl) rfl ?_,bT 14 rfl (by kernel_rfl) rfl ?_,trivial⟩
   ·
    refine aP (v:=Value.pointer (some (aU p_v1 1 (Int.toNat ea)))) (ab (α:=List Pt) (xs:=p.2) (v:=p_v1) (i:=ea) eP rfl rfl r_p_v1 rfl (by omega) (by omega)) ?_
    refine⟨(bu.refl _ _ _),?_⟩
    obtain⟨v51,cel52,r53⟩:=eD (r:=ea) r_p_v1 (by omega) (by omega)
    refine ht 4 rfl (bu.refl _ _ _) (λw' hw'=>aZ cl rfl (cel52 _ w' (bD rfl) hw')) (aL 14 rfl (by kernel_rfl) rfl ?_)
    replace Rg:=Rg.ca C47
    replace Rp:=Rp.ca C47
    refine d5 (az (vals:=[vg [vi g.1,g_v],vg [p_v,p_v1],vi ea,vi fa]) Try.func45 j0 jd rfl) (fX w12 g g_v (Rg).ro p p_v p_v1 (Rp).ro (r_p_v1).ro ea fa ‹_› ‹_› (by omega) (by omega)) ?_
    rintro⟨d55,v57⟩ w54 ⟨fr56,o58⟩
    obtain⟨g59,ch60,G59⟩:=ny g9 fr56 (λn=>if n=1 then 3 else 0)
    replace o58:=o58.gl G59 3
    have hs61:bu (bY []) _ _ _ _:=ch60.n
    refine⟨hs61.same,?_⟩
    refine aL 15 rfl (by kernel_rfl) rfl (aN (v:=vb (decide (dH (gI p.2 ea) (gI p.2 fa) (dB g p ea fa)))) (az (vals:=[v51,v48,v57]) Try.func44 gY i7 rfl) (fi w54 (gI p.2 ea) v51 ((r53.ca hs61)).ro (gI p.2 fa) v48 ((r50.ca hs61)).ro (dB g p ea fa) v57 (o58.flat).ro (by exact⟨hx2,hx3⟩) (by exact⟨hy2,hy3⟩) (by omega) (by omega) (by exact λx hx=>(i6 hm hs he0 he1 x hx).bd) (by omega)) ?_)
    intro w62 hb63
    replace hb63:=aj hb63 g59
    have hs64:=hs61.seq (hb63.n)
    refine⟨hs64.same,?_⟩
    refine ht (v:=vb (decide (dH (gI p.2 ea) (gI p.2 fa) (dB g p ea fa)))) 16 rfl hs64.same (λw' hw'=>bi rfl) (bQ (by kernel_rfl) ?_)
    have C65:=cg [] (ch2.n.seq (ch7.n.seq (ch11.n.seq (ch60.n.seq hb63.n))))
    exact mid (g59) _ _ ⟨bH.ca C65,rfl,(Rg.ca hs64),(Rp.ca hs64),(r_p_v1.ca hs64)⟩
   ·
    replace Rg:=Rg.ca C47
    replace Rp:=Rp.ca C47
    refine d5 (az (vals:=[vg [vi g.1,g_v],vg [p_v,p_v1],vi ea,vi fa]) Try.func45 j0 jd rfl) (fX w12 g g_v (Rg).ro p p_v p_v1 (Rp).ro (r_p_v1).ro ea fa ‹_› ‹_› (by omega) (by omega)) ?_
    rintro⟨d67,v69⟩ w66 ⟨fr68,o70⟩
    obtain⟨g71,ch72,G71⟩:=ny g9 fr68 (λn=>if n=1 then 3 else 0)
    replace o70:=o70.gl G71 3
    have hs73:bu (bY []) _ _ _ _:=ch72.n
    refine⟨hs73.same,?_⟩
    refine aL 3 rfl (by kernel_rfl) rfl (aP (v:=Value.pointer (some (aU p_v1 1 (Int.toNat ea)))) (ab (α:=List Pt) (xs:=p.2) (v:=p_v1) (i:=ea) eP rfl rfl (r_p_v1.ca hs73) rfl (by omega) (by omega)) ?_)
    refine⟨hs73.same,?_⟩
    obtain⟨v74,cel75,r76⟩:=eD (r:=ea) r_p_v1 (by omega) (by omega)
    refine ht 4 rfl hs73.same (λw' hw'=>aZ cl rfl (cel75 _ w' (bD rfl) hw')) (aL 15 rfl (by kernel_rfl) rfl (aN (v:=vb (decide (dH (gI p.2 ea) (gI p.2 fa) (dB g p ea fa)))) (az (vals:=[v74,v48,v69]) Try.func44 gY i7 rfl) (fi w66 (gI p.2 ea) v74 ((r76.ca hs73)).ro (gI p.2 fa) v48 ((r50.ca hs73)).ro (dB g p ea fa) v69 (o70.flat).ro (by exact⟨hx2,hx3⟩) (by exact⟨hy2,hy3⟩) (by omega) (by omega) (by exact λx hx=>(i6 hm hs he0 he1 x hx).bd) (by omega)) ?_))
    intro w77 hb78
    replace hb78:=aj hb78 g71
    have hs79:=hs73.seq (hb78.n)
    refine⟨hs79.same,?_⟩
    refine ht (v:=vb (decide (dH (gI p.2 ea) (gI p.2 fa) (dB g p ea fa)))) 16 rfl hs79.same (λw' hw'=>bi rfl) (bQ (by kernel_rfl) ?_)
    have C80:=cg [] (ch2.n.seq (ch7.n.seq (ch11.n.seq (ch72.n.seq hb78.n))))
    exact mid (g71) _ _ ⟨bH.ca C80,rfl,(Rg.ca hs79),(Rp.ca hs79),(r_p_v1.ca hs79)⟩
  ·
   have C81:=cg [] (ch2.n.seq (ch7.n.seq ch11.n))
   replace Rg:=Rg.ca C81
   replace Rp:=Rp.ca C81
   replace r_p_v1:=r_p_v1.ca C81
   refine d5 (az (vals:=[vg [vi g.1,g_v],vg [p_v,p_v1],vi ea,vi fa]) Try.func45 j0 jd rfl) (fX w12 g g_v (Rg).ro p p_v p_v1 (Rp).ro (r_p_v1).ro ea fa ‹_› ‹_› (by omega) (by omega)) ?_
   rintro⟨d83,v85⟩ w82 ⟨fr84,o86⟩
   obtain⟨g87,ch88,G87⟩:=ny g9 fr84 (λn=>if n=1 then 3 else 0)
   replace o86:=o86.gl G87 3
   have hs89:bu (bY []) _ _ _ _:=ch88.n
   refine⟨hs89.same,?_⟩
   refine bS 3 [8] (by kernel_rfl) ⟨bT 3 rfl (by kernel_rfl) rfl ?_,bT 8 rfl (by kernel_rfl) rfl ?_,trivial⟩
   ·
    refine aP (v:=Value.pointer (some (aU p_v1 1 (Int.toNat ea)))) (ab (α:=List Pt) (xs:=p.2) (v:=p_v1) (i:=ea) eP rfl rfl (r_p_v1.ca hs89) rfl (by omega) (by omega)) ?_
    refine⟨hs89.same,?_⟩
    obtain⟨v90,cel91,r92⟩:=eD (r:=ea) r_p_v1 (by omega) (by omega)
    refine ht 4 rfl hs89.same (λw' hw'=>aZ cl rfl (cel91 _ w' (bD rfl) hw')) (aL 8 rfl (by kernel_rfl) rfl (aP (v:=Value.pointer (some (aU p_v1 1 (Int.toNat fa)))) (ab (α:=List Pt) (xs:=p.2) (v:=p_v1) (i:=fa) eP rfl rfl (r_p_v1.ca hs89) rfl (by omega) (by omega)) ?_))
    refine⟨hs89.same,?_⟩
    obtain⟨v93,cel94,r95⟩:=eD (r:=fa) r_p_v1 (by omega) (by omega)
    refine ht 9 rfl hs89.same (λw' hw'=>aZ cl rfl (cel94 _ w' (bD rfl) hw')) (aL 15 rfl (by kernel_rfl) rfl (aN (v:=vb (decide (dH (gI p.2 ea) (gI p.2 fa) (dB g p ea fa)))) (az (vals:=[v90,v93,v85]) Try.func44 gY i7 rfl) (fi w82 (gI p.2 ea) v90 ((r92.ca hs89)).ro (gI p.2 fa) v93 ((r95.ca hs89)).ro (dB g p ea fa) v85 (o86.flat).ro (by exact⟨hx2,hx3⟩) (by exact⟨hy2,hy3⟩) (by omega) (by omega) (by exact λx hx=>(i6 hm hs he0 he1 x hx).bd) (by omega)) ?_))
    intro w96 hb97
    replace hb97:=aj hb97 g87
    have hs98:=hs89.seq (hb97.n)
    refine⟨hs98.same,?_⟩
    refine ht (v:=vb (decide (dH (gI p.2 ea) (gI p.2 fa) (dB g p ea fa)))) 16 rfl hs98.same (λw' hw'=>bi rfl) (bQ (by kernel_rfl) ?_)
    have C99:=cg [] (ch2.n.seq (ch7.n.seq (ch11.n.seq (ch88.n.seq hb97.n))))
    exact mid (g87) _ _ ⟨bH.ca C99,rfl,(Rg.ca hs98),(Rp.ca hs98),(r_p_v1.ca hs98)⟩
   ·
    refine aP (v:=Value.pointer (some (aU p_v1 1 (Int.toNat fa)))) (ab (α:=List Pt) (xs:=p.2) (v:=p_v1) (i:=fa) eP rfl rfl (r_p_v1.ca hs89) rfl (by omega) (by omega)) ?_
    refine⟨hs89.same,?_⟩
    obtain⟨v100,cel101,r102⟩:=eD (r:=fa) r_p_v1 (by omega) (by omega)
    refine ht 9 rfl hs89.same (λw' hw'=>aZ cl rfl (cel101 _ w' (bD rfl) hw')) (aL 3 rfl (by kernel_rfl) rfl (aP (v:=Value.pointer (some (aU p_v1 1 (Int.toNat ea)))) (ab (α:=List Pt) (xs:=p.2) (v:=p_v1) (i:=ea) eP rfl rfl (r_p_v1.ca hs89) rfl (by omega) (by omega)) ?_))
    refine⟨hs89.same,?_⟩
    obtain⟨v103,cel104,r105⟩:=eD (r:=ea) r_p_v1 (by omega) (by omega)
    refine ht 4 rfl hs89.same (λw' hw'=>aZ cl rfl (cel104 _ w' (bD rfl) hw')) (aL 15 rfl (by kernel_rfl) rfl (aN (v:=vb (decide (dH (gI p.2 ea) (gI p.2 fa) (dB g p ea fa)))) (az (vals:=[v103,v100,v85]) Try.func44 gY i7 rfl) (fi w82 (gI p.2 ea) v103 ((r105.ca hs89)).ro (gI p.2 fa) v100 ((r102.ca hs89)).ro (dB g p ea fa) v85 (o86.flat).ro (by exact⟨hx2,hx3⟩) (by exact⟨hy2,hy3⟩) (by omega) (by omega) (by exact λx hx=>(i6 hm hs he0 he1 x hx).bd) (by omega)) ?_))
    intro w106 hb107
    replace hb107:=aj hb107 g87
    have hs108:=hs89.seq (hb107.n)
    refine⟨hs108.same,?_⟩
    refine ht (v:=vb (decide (dH (gI p.2 ea) (gI p.2 fa) (dB g p ea fa)))) 16 rfl hs108.same (λw' hw'=>bi rfl) (bQ (by kernel_rfl) ?_)
    have C109:=cg [] (ch2.n.seq (ch7.n.seq (ch11.n.seq (ch88.n.seq hb107.n))))
    exact mid (g87) _ _ ⟨bH.ca C109,rfl,(Rg.ca hs108),(Rp.ca hs108),(r_p_v1.ca hs108)⟩
 clear Rg Rp r_p_v1 bx5 bx10 bH
 rintro g112 f110 w111 ⟨bH,zs8,Rg,Rp,r_p_v1⟩
 refine av (vs:=[vb (decide (dH (gI p.2 ea) (gI p.2 fa) (dB g p ea fa)))]) Try.func32 (.tmp zs8 .nil) ?_
 have e0:((decide (dH (gI p.2 ea) (gI p.2 fa) (dB g p ea fa))):Bool)=(decide (dH (gI p.2 ea) (gI p.2 fa) (dB g p ea fa))):=by
   rfl
 exact⟨(congrArg (a₁:=(decide (dH (gI p.2 ea) (gI p.2 fa) (dB g p ea fa)))) (λ(z0:Bool)=>Ending.returned (vb z0)) e0),bH.below⟩
theorem tU(w0:World)(l:List Pt)(l_v:Value)(hl_v:Ro w0 l_v l)(q:Pt)(hl:dy l)(hq:ck q):
    Calls Try.prog 31 #[l_v,vg [vi q.1,vi q.2]] w0 (λee w=>ee= .returned (vb (decide (eV l q)))/\cW w0.heap.size w0 w):=by
 refine aI Try.func31 rfl nq ?_
 have bH:=bo.start w0
 have Rl:=hl_v.sl
 obtain⟨hl1,hl2⟩:=hl
 have hqb:=hq.bd
 refine a6 (a5 rfl (cj rfl (bA c0 (is 1) (1,0) rfl rfl ?_)))
 intro g4 w1 b3 ch2 bx5
 replace bx5:Bx g4 (is 1) w1 b3 [vi q.1,vi q.2]:=bx5
 refine ma (vb false) (a8 (a6 (a6 (a5 rfl (ai 0 (a8 (ao ?_)))))))
 refine bf (σ:=Nat×aW) (λ⟨i,gq⟩ f w=>bo w0 gq w/\f 0=l_v/\f 3=vp b3 0/\f 5=vi ↑i/\Sl gq (is 0) w l_v l/\Bx gq (is 1) w b3 [vi q.1,vi q.2]/\(i<=l.length/\∀j:Nat,j<i->¬cA (gI l ↑j) (gI l ((j:Int)+1)) q)) (λ⟨i,gq⟩=>List.length l-i) (0,g4) ?_ ?_
 · exact⟨bH.cn ch2,rfl,rfl,rfl,Rl.cn ch2,bx5,by exact⟨by omega,λj hj=>by omega⟩⟩
 clear Rl bx5 bH
 rintro⟨i,g8⟩ f6 w7 ⟨bH,zs0,zs3,zs5,Rl,bx5,hinv0⟩ back2
 obtain⟨hil,hinv⟩:=hinv0
 refine a6 (a6 (a5 rfl (mz zs5 (lx (aQ (m:=↑i) (n:=1) rfl rfl (by omega)) (mz zs0 ?_)))))
 have len9:=(Rl).small
 refine lx (bE bZ rfl Rl) (lx (b6 (m:=(i:Int)+1) (n:=(l.length:Int)) rfl rfl) (a8 ?_))
 by_cases p2:((i:Int)+1)<(l.length:Int)
 ·
  refine ae rfl (dt p2) (am (a6 (ao (a6 (bv g8 rfl j6 (by kernel_rfl) ?_)))))
  intro w11 ch10
  refine qz zs0 (qz zs5 ?_)
  replace Rl:=Rl.cn ch10
  refine qx (λw' hw'=>ab (v:=l_v) (i:=↑i) bZ rfl rfl (Rl.bel hw') rfl (by omega) (by omega)) (qv (vg [vi ((gI l ↑i).1),vi ((gI l ↑i).2)]) (λw' hw'=>aM (v:=l_v) (i:=↑i) ah rfl (Rl.bel hw') (by omega) (by omega) rfl) (qz zs0 (qz zs5 (qx (λw' hw'=>aQ (m:=↑i) (n:=1) rfl rfl (by omega)) (qx (λw' hw'=>ab (v:=l_v) (i:=(i:Int)+1) bZ rfl rfl (Rl.bel hw') rfl (by omega) (by omega)) (qv (vg [vi ((gI l ((i:Int)+1)).1),vi ((gI l ((i:Int)+1)).2)]) (λw' hw'=>aM (v:=l_v) (i:=(i:Int)+1) ah rfl (Rl.bel hw') (by omega) (by omega) rfl) ?_))))))
  replace bx5:=bx5.cn ch10
  refine qx (λw' hw'=>ad (ds:=[vi q.1,vi q.2]) ah zs3 (bx5.bel hw') rfl rfl) (cb (v:=vb (decide (cA (gI l ↑i) (gI l ((i:Int)+1)) q))) rfl (λw' hw'=>az (vals:=[vg [vi ((gI l ↑i).1),vi ((gI l ↑i).2)],vg [vi ((gI l ((i:Int)+1)).1),vi ((gI l ((i:Int)+1)).2)],vg [vi q.1,vi q.2]]) Try.func43 gj gp rfl) (λw' hw'=>(gc w' (gI l ↑i) (gI l ((i:Int)+1)) q (by exact(hl2 _ (ba (by omega) (by omega))).bd) (by exact(hl2 _ (ba (by omega) (by omega))).bd) ‹_›).mono λe w2 h2=>⟨h2.1,hw'.trans (h2.2.mono hw'.size)⟩) (bM ?_))
  intro w12 hc13
  replace hc13:=aj hc13 g8
  by_cases p4:(decide (cA (gI l ↑i) (gI l ((i:Int)+1)) q))=true
  ·
   refine ae rfl p4 (a6 ?_)
   clear bx5
   refine a5 rfl (ma (vb true) (a8 (av (vs:=[vb true]) Try.func31 (.tmp rfl .nil) ?_)))
   have e0:(true:Bool)=(decide (eV l q)):=by
     exact sM (by omega) ‹_›
   replace bH:=bH.cn ch10
   replace bH:=bH.cn hc13
   exact⟨rb e0,bH.below⟩
  refine af rfl (Bool.eq_false_iff.2 p4) (am (ak (a5 rfl (mz zs5 (lx (aQ (m:=↑i) (n:=1) rfl rfl (by omega)) (ai ((i:Int)+1) (a8 ?_)))))))
  replace bH:=bH.cn ch10
  refine back2 (i+1,g8) _ _ ⟨bH.cn hc13,zs0,zs3,rfl,Rl.cn hc13,bx5.cn hc13,?_⟩ ?_
  · show(i+1)<=l.length/\∀j:Nat,j<(i+1)->¬cA (gI l ↑j) (gI l ((j:Int)+1)) q
    refine⟨by omega,?_⟩
    intro j hj
    by_cases e0:j=i
    · subst e0;exact λc=>(by assumption:¬decide _=true) (dt c)
    · exact hinv j (by omega)
  · show List.length l-(i+1)<List.length l-i
    omega
 refine af rfl (df p2) (aO rfl (a6 ?_))
 clear bx5
 refine a5 rfl (ma (vb false) (a8 (av (vs:=[vb false]) Try.func31 (.tmp rfl .nil) ?_)))
 have e0:(false:Bool)=(decide (eV l q)):=by
   exact wv hinv (by omega)
 exact⟨rb e0,bH.below⟩
end TL
