import Derived.Test.YtmakonaaojadbaaBeTlP4
import Derived.Test.YtmakonaaojadbaaBeTlGmA
import Derived.Test.YtmakonaaojadbaaBeTlGenA
import Derived.Test.YtmakonaaojadbaaBeTlBkB
import Derived.Test.YtmakonaaojadbaaProg
import Derived.Test.YtmakonaaojadbaaBeTlAli
set_option linter.all false
set_option maxRecDepth 20000
namespace TL
open Go Go.Proofs
theorem mb:Try.prog.follows .mixedOrders=true:=by kernel_rfl
theorem ia:Try.f36.body.isNone=false:=rfl
theorem i9:(Try.f36.name== "runtime.NumGoroutine")=false:=by decide+kernel
theorem jK:Try.f37.body.isNone=false:=rfl
theorem jR:(Try.f37.name== "runtime.NumGoroutine")=false:=by decide+kernel
theorem oJ:Try.f41.body.isNone=false:=rfl
theorem o9:(Try.f41.name== "runtime.NumGoroutine")=false:=by decide+kernel
theorem sb:Try.f59.body.isNone=false:=rfl
theorem sq:(Try.f59.name== "runtime.NumGoroutine")=false:=by decide+kernel
theorem rV:Try.f76.body.isNone=false:=rfl
theorem sP:(Try.f76.name== "runtime.NumGoroutine")=false:=by decide+kernel
theorem nJ(w0:World)(g:(Int)×(List Pt))(g_v:Value)(hg_v:Ro w0 g_v g.2):
    Calls Try.prog 11 #[vg [vi g.1,g_v]] w0 (λee w=>∃xx:aF×Value×Value,ee= .returned ((λ⟨δ,rv0,rv1⟩=>vt [vg [rv0,rv1,vi ((((cf g).1).2).2)],vi ((cf g).2)]) xx)/\(λ(⟨δ,rv0,rv1⟩:aF×Value×Value) (w:World)=>gn w0 δ w/\Ow δ (is 1) (is 1) w rv0 (((cf g).1).1)/\Ow δ (is 2) (is 2) w rv1 ((((cf g).1).2).1)) xx w):=by
 refine aB Try.func11 rfl nq ?_
 have bH:=bp.start w0
 have Rg:=hg_v.sl
 refine aa (a8 rfl (du rfl (dk c0 (is 1) (1,0) rfl rfl ?_)))
 intro g4 w1 b3 ch2 bx5
 replace bx5:Bx g4 (is 1) w1 b3 [vi g.1,g_v]:=bx5
 refine lo (bO g4 (is 2) (2,0) rfl dG ?_)
 intro g9 w6 b8 ch7 bx10
 replace bx10:Bx g9 (is 2) w6 b8 [vn,vn,vi 0]:=bx10
 refine ai 0 (ag (aa (aa (a8 rfl ?_))))
 replace bx5:=bx5.cn ch7
 refine lx (aD (ds:=[vi g.1,g_v]) c5 rfl bx5 rfl rfl) ?_
 replace Rg:=(Rg.cn ch2).cn ch7
 refine lo (cA (v:=vb (da g)) (aX (vals:=[vg [vi g.1,g_v]]) Try.func36 ia i9 rfl) (jh w6 g g_v (Rg).ro) ?_)
 intro w11 hb12
 replace hb12:=aN hb12 g9
 refine lx (dV (b:=(da g)) rfl) (ag ?_)
 by_cases p1:(da g)=true
 ·
  refine aj rfl (congrArg Bool.not p1) (aw (aa (a8 rfl ?_)))
  replace bx5:=bx5.cn hb12
  refine lx (aD (ds:=[vi g.1,g_v]) c5 rfl bx5 rfl rfl) ?_
  replace Rg:=Rg.cn hb12
  refine lo (cI (aX (vals:=[vg [vi g.1,g_v]]) Try.func37 jK jR rfl) (i5 w11 g g_v (Rg).ro (by exact of_decide_eq_true p1)) ?_)
  rintro⟨d14,v16,v18⟩ w13 ⟨fr15,o17,o19⟩
  obtain⟨g20,ch21,G20⟩:=kR g9 fr15 (λn=>if n=1 then 3 else if n=2 then 4 else 0)
  replace o17:=o17.gl G20 3
  replace o19:=o19.gl G20 4
  refine lo ?_
  replace bx10:=(bx10.cn hb12).cn ch21
  refine aK (cs':=[v16,v18,vi (((a9 g).2).2)]) dG rfl rfl bx10 rfl nq (AllOne.all (.cons (cJ o17.flat) (.cons (cJ o19.flat) (.cons rfl .nil)))) rfl ?_
  intro w22 ch23 bx24
  clear bx10
  refine ai 0 (ag (aH (vs:=[vg [v16,v18,vi (((a9 g).2).2)],vi 0]) Try.func11 (.cell rfl (fq (ds:=[v16,v18,vi (((a9 g).2).2)]) dG bx24 rfl rfl) (.tmp rfl .nil)) ?_))
  have C25:=cg [2] (ch2.n.seq (ch7.n.seq (hb12.n.seq (ch21.n.seq (ch23.l rfl)))))
  replace bH:=bH.ca C25
  replace o17:=o17.ce ch23
  replace o19:=o19.ce ch23
  have e0:(((a9 g).1,((a9 g).2).1,((a9 g).2).2):(List Int)×(List Int)×(Int))=((cf g).1):=by
    have hm:=of_decide_eq_true p1
    (unfold cf;rw[if_pos hm];rfl)
  have e1:(0:Int)=((cf g).2):=by
    have hm:=of_decide_eq_true p1
    (unfold cf;rw[if_pos hm];done)
  exact⟨(fin w0 g20 (λn=>if n=3 then 1 else if n=4 then 2 else 0),v16,v18),(eN (a:=((a9 g).1,((a9 g).2).1,((a9 g).2).2)) (b:=0) (λ(z0:(List Int)×(List Int)×(Int)) (z1:Int)=>Ending.returned (vt [vg [v16,v18,vi z0.2.2],vi z1])) e0 e1),bH.fresh _,((congrArg (λ(z:(List Int)×(List Int)×(Int))=>z.1) e0)▸(o17.glue (γ:=c0) (ren:=(λn=>if n=3 then 1 else if n=4 then 2 else 0)) (k:=1) bH.col rfl rfl)),((congrArg (λ(z:(List Int)×(List Int)×(Int))=>z.2.1) e0)▸(o19.glue (γ:=c0) (ren:=(λn=>if n=3 then 1 else if n=4 then 2 else 0)) (k:=2) bH.col rfl rfl))⟩
 refine ao rfl (congrArg Bool.not (Bool.eq_false_iff.2 p1)) (aa ?_)
 clear bx5
 refine a8 rfl (lw (vg [vn,vn,vi 0]) (bG (vs:=[]) rfl (by kernel_rfl)) (lo ?_))
 replace bx10:=bx10.cn hb12
 refine aK (cs':=[vn,vn,vi 0]) dG rfl rfl bx10 rfl nq (AllOne.all (.cons rfl (.cons rfl (.cons rfl .nil)))) rfl ?_
 intro w26 ch27 bx28
 clear bx10
 refine ai 1 (ag (aH (vs:=[vg [vn,vn,vi 0],vi 1]) Try.func11 (.cell rfl (fq (ds:=[vn,vn,vi 0]) dG bx28 rfl rfl) (.tmp rfl .nil)) ?_))
 have C29:=cg [2] (ch2.n.seq (ch7.n.seq (hb12.n.seq (ch27.l rfl))))
 replace bH:=bH.ca C29
 have e0:(([],[],0):(List Int)×(List Int)×(Int))=((cf g).1):=by
   have hn:¬bf g:=λh=>p1 (dt h)
   unfold cf;rw[if_neg hn]
 have e1:(1:Int)=((cf g).2):=by
   have hn:¬bf g:=λh=>p1 (dt h)
   unfold cf;rw[if_neg hn]
 exact⟨(fin w0 g9 (λn=>0),vn,vn),(eN (a:=([],[],0)) (b:=1) (λ(z0:(List Int)×(List Int)×(Int)) (z1:Int)=>Ending.returned (vt [vg [vn,vn,vi z0.2.2],vi z1])) e0 e1),bH.fresh _,((congrArg (λ(z:(List Int)×(List Int)×(Int))=>z.1) e0)▸Ow.nil),((congrArg (λ(z:(List Int)×(List Int)×(Int))=>z.2.1) e0)▸Ow.nil)⟩
theorem nz(w0:World)(g:(Int)×(List Pt))(g_v:Value)(hg_v:Ro w0 g_v g.2):
    Calls Try.prog 12 #[vg [vi g.1,g_v]] w0 (λee w=>∃xx:aF×Value,ee= .returned ((λ⟨δ,rv0⟩=>vt [rv0,vi ((bS g).2)]) xx)/\(λ(⟨δ,rv0⟩:aF×Value) (w:World)=>gn w0 δ w/\Ow δ (is 1) (is 1) w rv0 ((bS g).1)) xx w):=by
 refine aB Try.func12 rfl nq ?_
 have bH:=bp.start w0
 have Rg:=hg_v.sl
 refine aa (a8 rfl (du rfl (dk c0 (is 1) (1,0) rfl rfl ?_)))
 intro g4 w1 b3 ch2 bx5
 replace bx5:Bx g4 (is 1) w1 b3 [vi g.1,g_v]:=bx5
 refine ma vn (ai 0 (ag (aa (aa (a8 rfl (lx (aD (ds:=[vi g.1,g_v]) c5 rfl bx5 rfl rfl) ?_))))))
 replace Rg:=Rg.cn ch2
 refine lo (cA (v:=vb (da g)) (aX (vals:=[vg [vi g.1,g_v]]) Try.func36 ia i9 rfl) (jh w1 g g_v (Rg).ro) ?_)
 intro w6 hb7
 replace hb7:=aN hb7 g4
 refine lx (dV (b:=(da g)) rfl) (ag ?_)
 by_cases p1:(da g)=true
 ·
  refine aj rfl (congrArg Bool.not p1) (aw (aa ?_))
  have hm:=of_decide_eq_true p1
  obtain⟨hm1,hm2,hm3,hm4⟩:=of_decide_eq_true p1
  have hcb:0<=(a9 g).2.2/\(a9 g).2.2<=(g.2.length:Int):=km g
  obtain⟨hcb0,hcb1⟩:=hcb
  have hofl:((a9 g).1.length:Int)=g.2.length:=by have:=iU g;show((eF g).length:Int)=_;omega
  refine a8 rfl ?_
  replace bx5:=bx5.cn hb7
  refine lx (aD (ds:=[vi g.1,g_v]) c5 rfl bx5 rfl rfl) ?_
  replace Rg:=Rg.cn hb7
  refine lo (cI (aX (vals:=[vg [vi g.1,g_v]]) Try.func37 jK jR rfl) (i5 w6 g g_v (Rg).ro (by exact of_decide_eq_true p1)) ?_)
  rintro⟨d9,v11,v13⟩ w8 ⟨fr10,o12,o14⟩
  obtain⟨g15,ch16,G15⟩:=kR g4 fr10 (λn=>if n=1 then 2 else if n=2 then 3 else 0)
  replace o12:=o12.gl G15 2
  replace o14:=o14.gl G15 3
  refine lo (bO g15 (is 4) (4,0) rfl dG ?_)
  intro g20 w17 b19 ch18 bx21
  replace bx21:Bx g20 (is 4) w17 b19 [vn,vn,vi 0]:=bx21
  refine lo ?_
  replace o14:=o14.cn ch18
  replace o12:=o12.cn ch18
  refine aK (cs':=[v11,v13,vi (((a9 g).2).2)]) dG rfl rfl bx21 rfl nq (AllOne.all (.cons (cJ o12.flat) (.cons (cJ o14.flat) (.cons rfl .nil)))) rfl ?_
  intro w22 ch23 bx24
  clear bx21
  refine ag (aa (a8 rfl (lx (ae gc rfl rfl rfl rfl) (lx (af ah rfl bx24 rfl) (lo (cS (α:=Int) (l:=((a9 g).2).2) (cp:=((a9 g).2).2) g20 (is 5) (is 5) (5,0) rfl (0:Int) aY ah rfl rfl rfl (by omega) (by omega) (by omega) (by omega) ?_))))))
  intro g25 w26 v27 ch28 o29 hcap_
  clear hcap_
  refine ma v27 (ag (aa (aa (a8 rfl (lx (ae gc rfl rfl rfl rfl) ?_)))))
  replace bx24:=bx24.cn ch28
  refine lx (af ay rfl bx24 rfl) ?_
  replace o12:=(o12.ce ch23).cn ch28
  have len30:=(o12.flat).small
  refine lx (bh aY rfl o12.flat) (mi 0 (ag (av ?_)))
  refine aW (σ:=Nat×(List Int)×aF) (λ⟨k,size,gq⟩ f w=>bp w0 gq w/\f 1=vp b3 0/\f 4=vp b19 0/\f 5=v27/\f 20=v11/\f 21=vi (List.length ((a9 g).1):Int)/\f 22=vi ↑k/\Sl gq (is 0) w g_v g.2/\Bx gq (is 1) w b3 [vi g.1,g_v]/\Ow gq (is 2) (is 2) w v11 ((a9 g).1)/\Ow gq (is 3) (is 3) w v13 (((a9 g).2).1)/\Bx gq (is 4) w b19 [v11,v13,vi (((a9 g).2).2)]/\Ow gq (is 5) (is 5) w v27 size/\(k:Int)<=((List.length ((a9 g).1):Int):Int)/\(size=eY (a9 g).1 (Int.toNat (a9 g).2.2) k)) (λ⟨k,size,gq⟩=>Int.toNat (((List.length ((a9 g).1):Int):Int)-(k:Int))) (0,(List.replicate (Int.toNat (((a9 g).2).2)) (0:Int)),g25) ?_ ?_
  have C32:=cg [4] (ch16.n.seq (ch18.n.seq ((ch23.l rfl).seq ch28.n)))
  have C31:=ch2.n.seq (hb7.n.seq C32)
  · exact⟨bH.ca C31,rfl,rfl,rfl,rfl,rfl,rfl,Rg.ca C32,bx5.ca C32,o12,(o14.ce ch23).cn ch28,bx24,o29,by omega,by rfl⟩
  clear Rg bx5 o12 o14 bx24 o29 bH
  rintro⟨k,size,g35⟩ f33 w34 ⟨bH,zs1,zs4,zs5,zs20,zs21,zs22,Rg,bx5,o12,o14,bx24,o29,hle_k,hs⟩ back6
  have hsl:(size.length:Int)=(a9 g).2.2:=by rw[hs,rj];omega
  refine aa (a8 rfl (lx (b7 (m:=↑k) (n:=(List.length ((a9 g).1):Int)) zs22 zs21) (ag (aa ?_))))
  by_cases p6:(k:Int)<(List.length ((a9 g).1):Int)
  ·
   refine ao rfl (dt p6) ?_
   have hob:0<=gI (a9 g).1 (k:Int)/\gI (a9 g).1 (k:Int)<(a9 g).2.2:=fa g (by omega) (by omega)
   obtain⟨hob0,hob1⟩:=hob
   have hsb:0<=gI size (gI (a9 g).1 (k:Int))/\gI size (gI (a9 g).1 (k:Int))<=k:=by rw[hs];exact nZ _ _ _ (by omega) _
   obtain⟨hsb0,hsb1⟩:=hsb
   refine aw (aa (av (aa (a8 rfl (lx (ad (v:=v11) (i:=↑k) aY rfl zs20 o12.flat zs22 (by omega) (by omega)) (lx (al (v:=v11) (i:=↑k) ah rfl o12.flat (by omega) (by omega) (by decide) rfl) (ai (gI ((a9 g).1) (k:Int)) (ag (a8 rfl (mz zs5 (mi (gI ((a9 g).1) (k:Int)) ?_)))))))))))
   refine lx (ad (v:=v27) (i:=(gI ((a9 g).1) (k:Int))) aY rfl rfl o29.flat rfl (by omega) (by omega)) (lx (al (v:=v27) (i:=(gI ((a9 g).1) (k:Int))) ah rfl o29.flat (by omega) (by omega) (by decide) rfl) (lx (aE (m:=(gI size (gI ((a9 g).1) (k:Int)))) (n:=1) rfl rfl (by omega)) (lx (ad (v:=v27) (i:=(gI ((a9 g).1) (k:Int))) aY rfl rfl o29.flat rfl (by omega) (by omega)) (lo (aA (i:=(gI ((a9 g).1) (k:Int))) ((gI size (gI ((a9 g).1) (k:Int)))+1) ah rfl rfl o29 (by omega) (by omega) rfl ?_)))))
   intro w36 ch37 bx38
   clear o29
   refine ag (am (a8 rfl (lx (aE (m:=↑k) (n:=1) zs22 rfl (by omega)) (mi ((k:Int)+1) (ag ?_)))))
   refine back6 (k+1,(List.set size (Int.toNat (gI ((a9 g).1) (k:Int))) ((gI size (gI ((a9 g).1) (k:Int)))+1)),g35) _ _ ⟨bH.ce ch37,zs1,zs4,zs5,zs20,zs21,rfl,Rg.ce ch37,bx5.ce ch37,o12.ce ch37,o14.ce ch37,bx24.ce ch37,bx38,by omega,?_⟩ ?_
   · show(List.set size (Int.toNat (gI ((a9 g).1) (k:Int))) ((gI size (gI ((a9 g).1) (k:Int)))+1))=eY (a9 g).1 (Int.toNat (a9 g).2.2) (k+1)
     rw[kS (by omega),<-hs]
   · show Int.toNat (((List.length ((a9 g).1):Int):Int)-((k+1):Int))<Int.toNat (((List.length ((a9 g).1):Int):Int)-(k:Int))
     omega
  refine aj rfl (df p6) (aC rfl (aa (a8 rfl (ma vn (ag (aa (aa (a8 rfl (lx (ae gc rfl rfl zs4 rfl) (lx (af ay rfl bx24 rfl) (lx (bh aY rfl o12.flat) (mi 0 (ag ?_)))))))))))))
  refine av ?_
  clear o14 bx24
  refine aW (σ:=Nat×Value×(List Int)×aF) (λ⟨j,l_v,l,gq⟩ f w=>bp w0 gq w/\f 1=vp b3 0/\f 5=v27/\f 8=l_v/\f 34=v11/\f 35=vi (List.length ((a9 g).1):Int)/\f 36=vi ↑j/\Sl gq (is 0) w g_v g.2/\Bx gq (is 1) w b3 [vi g.1,g_v]/\Ow gq (is 2) (is 2) w v11 ((a9 g).1)/\Ow gq (is 5) (is 5) w v27 size/\Ow gq (is 7) (is 7) w l_v l/\(j:Int)<=((List.length ((a9 g).1):Int):Int)/\(l=d6 g j)) (λ⟨j,l_v,l,gq⟩=>Int.toNat (((List.length ((a9 g).1):Int):Int)-(j:Int))) (0,vn,[],g35) ?_ ?_
  · exact⟨bH,zs1,zs5,rfl,rfl,rfl,rfl,Rg,bx5,o12,o29,Ow.nil,by omega,by rfl⟩
  clear Rg bx5 o12 o29 bH
  rintro⟨j,l_v,l,g41⟩ f39 w40 ⟨bH,zs1,zs5,zs8,zs34,zs35,zs36,Rg,bx5,o12,o29,o_l,hle_j,hl⟩ back12
  have hll:=mG hl
  refine aa (a8 rfl (lx (b7 (m:=↑j) (n:=(List.length ((a9 g).1):Int)) zs36 zs35) (ag (aa ?_))))
  by_cases p12:(j:Int)<(List.length ((a9 g).1):Int)
  ·
   refine ao rfl (dt p12) ?_
   have hob:0<=gI (a9 g).1 (j:Int)/\gI (a9 g).1 (j:Int)<(a9 g).2.2:=fa g (by omega) (by omega)
   obtain⟨hob0,hob1⟩:=hob
   refine aw (aa (av (aa (a8 rfl (mz zs36 (lx (ad (v:=v11) (i:=↑j) aY rfl zs34 o12.flat zs36 (by omega) (by omega)) (lx (al (v:=v11) (i:=↑j) ah rfl o12.flat (by omega) (by omega) (by decide) rfl) (ai (j:Int) (ai (gI ((a9 g).1) (j:Int)) (ag (aa ?_)))))))))))
   refine c6 g41 rfl mb (by kernel_rfl) ?_
   intro w43 ch42
   refine qz zs5 (qm (vi (gI ((a9 g).1) (j:Int))) ?_)
   replace o29:=o29.cn ch42
   refine qx (λw' hw'=>ad (v:=v27) (i:=(gI ((a9 g).1) (j:Int))) aY rfl rfl (o29.flat.bel hw') rfl (by omega) (by omega)) (qx (λw' hw'=>al (v:=v27) (i:=(gI ((a9 g).1) (j:Int))) ah rfl (o29.flat.bel hw') (by omega) (by omega) (by decide) rfl) (qx (λw' hw'=>cq (m:=(gI size (gI ((a9 g).1) (j:Int)))) (n:=1) rfl rfl) (qm (vb (decide ((gI size (gI ((a9 g).1) (j:Int)))=1))) ?_)))
   by_cases q46:(gI size (gI ((a9 g).1) (j:Int)))=1
   ·
    refine b6 (v:=vp b3 1) (wy (dt q46)) (λw' hw'=>ae dD rfl rfl zs1 rfl) ?_
    replace bx5:=bx5.cn ch42
    refine b6 (v:=g_v) (wy (dt q46)) (λw' hw'=>af bT rfl (bx5.bel hw') rfl) (b6 (v:=vi ↑j) (wy (dt q46)) (λw' hw'=>au rfl) ?_)
    replace Rg:=Rg.cn ch42
    refine b6 (v:=Value.pointer (some (aT g_v 2 (Int.toNat ↑j)))) (wy (dt q46)) (λw' hw'=>ad (α:=Pt) (xs:=g.2) (v:=g_v) (i:=↑j) eM rfl rfl (Rg.bel hw') rfl (by omega) (by omega)) (b6 (v:=Value.pointer (some ⟨(aT g_v 2 (Int.toNat ↑j)).block,(aT g_v 2 (Int.toNat ↑j)).off+0,none⟩)) (wy (dt q46)) (λw' hw'=>bP dj rfl rfl rfl (by decide) (by decide) rfl) (b6 (v:=vi ((gI g.2 ↑j).1)) (wy (dt q46)) (λw' hw'=>cB (α:=Pt) (xs:=g.2) (v:=g_v) (i:=↑j) ah rfl (Rg.bel hw') (by omega) (by omega) (by decide) rfl) ?_))
    refine b6 (v:=vp b3 1) (wy (dt q46)) (λw' hw'=>ae dD rfl rfl zs1 rfl) (b6 (v:=g_v) (wy (dt q46)) (λw' hw'=>af bT rfl (bx5.bel hw') rfl) (b6 (v:=vi ↑j) (wy (dt q46)) (λw' hw'=>au rfl) (b6 (v:=Value.pointer (some (aT g_v 2 (Int.toNat ↑j)))) (wy (dt q46)) (λw' hw'=>ad (α:=Pt) (xs:=g.2) (v:=g_v) (i:=↑j) eM rfl rfl (Rg.bel hw') rfl (by omega) (by omega)) ?_)))
    refine b6 (v:=Value.pointer (some ⟨(aT g_v 2 (Int.toNat ↑j)).block,(aT g_v 2 (Int.toNat ↑j)).off+1,none⟩)) (wy (dt q46)) (λw' hw'=>bP dj rfl rfl rfl (by decide) (by decide) rfl) (b6 (v:=vi ((gI g.2 ↑j).2)) (wy (dt q46)) (λw' hw'=>cB (α:=Pt) (xs:=g.2) (v:=g_v) (i:=↑j) ah rfl (Rg.bel hw') (by omega) (by omega) (by decide) rfl) (b6 (v:=vb (!(decide (((gI g.2 ↑j).1)=((gI g.2 ↑j).2))))) (wy (dt q46)) (λw' hw'=>eQ (m:=(gI g.2 ↑j).1) (n:=(gI g.2 ↑j).2) rfl rfl) (qv (vb (!(decide (((gI g.2 ↑j).1)=((gI g.2 ↑j).2))))) (λw' hw'=>aZ rfl (dt q46) rfl) (db ?_))))
    intro w44 hc45
    replace hc45:=aN hc45 g41
    by_cases p14:((gI g.2 ↑j).1)=((gI g.2 ↑j).2)
    ·
     refine aj rfl (congrArg Bool.not (dt p14)) (aw (am (a8 rfl (lx (aE (m:=↑j) (n:=1) zs36 rfl (by omega)) (mi ((j:Int)+1) (ag ?_))))))
     replace bH:=bH.cn ch42
     refine back12 (j+1,l_v,l,g41) _ _ ⟨bH.cn hc45,zs1,zs5,zs8,zs34,zs35,rfl,Rg.cn hc45,bx5.cn hc45,(o12.cn ch42).cn hc45,o29.cn hc45,(o_l.cn ch42).cn hc45,by omega,?_⟩ ?_
     · show l=d6 g (j+1)
       exact oK hs (by omega) hl (.inr ‹_›)
     · show Int.toNat (((List.length ((a9 g).1):Int):Int)-((j+1):Int))<Int.toNat (((List.length ((a9 g).1):Int):Int)-(j:Int))
       omega
    refine ao rfl (congrArg Bool.not (df p14)) (a8 rfl (mz zs8 (mi ↑j (lo (aM (α:=Int) g41 (is 6) (is 6) (6,0) rfl [(j:Int)] aY ah (by decide) (by decide) (vs:=[(0,vi ↑j)]) rfl rfl (.cons rfl .nil) ?_)))))
    intro g46 w47 v48 ch49 o50
    refine lo ?_
    have C51:=cg [] (ch42.n.seq (hc45.n.seq ch49.n))
    replace o_l:=o_l.ca C51
    refine bC (α:=Int) (xs:=l) (ys:=([(j:Int)])) g46 (J:=is 7) (S:=is 7) (7,0) rfl aY ah (by decide) rfl rfl rfl o_l o50.flat (by decide) (by(simp;omega)) ?_
    intro g52 w53 v54 ch55 o56
    clear o_l
    refine ma v54 (ag (am ?_))
    clear o50
    refine a8 rfl (lx (aE (m:=↑j) (n:=1) zs36 rfl (by omega)) (mi ((j:Int)+1) (ag ?_)))
    have C58:=cg [7] (hc45.n.seq (ch49.n.seq (ch55.l rfl)))
    have C57:=ch42.n.seq C58
    refine back12 (j+1,v54,(l++[(j:Int)]),g52) _ _ ⟨bH.ca C57,zs1,zs5,rfl,zs34,zs35,rfl,Rg.ca C58,bx5.ca C58,o12.ca C57,o29.ca C58,o56,by omega,?_⟩ ?_
    · show(l++[(j:Int)])=d6 g (j+1)
      exact qV hs (by omega) hl ‹_› ‹_›
    · show Int.toNat (((List.length ((a9 g).1):Int):Int)-((j+1):Int))<Int.toNat (((List.length ((a9 g).1):Int):Int)-(j:Int))
      omega
   refine bx (wn (df q46)) (bx (wn (df q46)) (bx (wn (df q46)) (bx (wn (df q46)) (bx (wn (df q46)) (bx (wn (df q46)) (bx (wn (df q46)) (bx (wn (df q46)) (bx (wn (df q46)) (bx (wn (df q46)) ?_)))))))))
   refine bx (wn (df q46)) (bx (wn (df q46)) (bx (wn (df q46)) (qv (vb false) (λw' hw'=>aV rfl (df q46) rfl) (db ?_))))
   intro w59 hc60
   replace hc60:=aN hc60 g41
   refine aj rfl rfl (aw (am (a8 rfl (lx (aE (m:=↑j) (n:=1) zs36 rfl (by omega)) (mi ((j:Int)+1) (ag ?_))))))
   replace bH:=bH.cn ch42
   refine back12 (j+1,l_v,l,g41) _ _ ⟨bH.cn hc60,zs1,zs5,zs8,zs34,zs35,rfl,(Rg.cn ch42).cn hc60,(bx5.cn ch42).cn hc60,(o12.cn ch42).cn hc60,o29.cn hc60,(o_l.cn ch42).cn hc60,by omega,?_⟩ ?_
   · show l=d6 g (j+1)
     exact oK hs (by omega) hl (.inl ‹_›)
   · show Int.toNat (((List.length ((a9 g).1):Int):Int)-((j+1):Int))<Int.toNat (((List.length ((a9 g).1):Int):Int)-(j:Int))
     omega
  refine aj rfl (df p12) (aC rfl (aa ?_))
  clear bx5 o12 o29
  refine a8 rfl (mz zs8 (ma l_v (ai 0 (ag (aH (vs:=[l_v,vi 0]) Try.func12 (.tmp rfl (.tmp rfl .nil)) ?_)))))
  have e0:(l:List Int)=((bS g).1):=by
    have hj:j=g.2.length:=by omega
    subst hj
    (unfold bS;rw[if_pos hm];exact hl)
  have e1:(0:Int)=((bS g).2):=by
    have hj:j=g.2.length:=by omega
    subst hj
    (unfold bS;rw[if_pos hm];done)
  exact⟨(fin w0 g41 (λn=>if n=7 then 1 else 0),l_v),(eN (a:=l) (b:=0) (λ(z0:List Int) (z1:Int)=>Ending.returned (vt [l_v,vi z1])) e0 e1),bH.fresh _,(e0▸(o_l.glue (γ:=c0) (ren:=(λn=>if n=7 then 1 else 0)) (k:=1) bH.col rfl rfl))⟩
 refine ao rfl (congrArg Bool.not (Bool.eq_false_iff.2 p1)) (aa ?_)
 clear bx5
 refine a8 rfl (ma vn (ai 1 (ag (aH (vs:=[vn,vi 1]) Try.func12 (.tmp rfl (.tmp rfl .nil)) ?_))))
 replace bH:=bH.cn ch2
 replace bH:=bH.cn hb7
 have e0:([]:List Int)=((bS g).1):=by
   have hn:¬bf g:=λh=>p1 (dt h)
   unfold bS;rw[if_neg hn]
 have e1:(1:Int)=((bS g).2):=by
   have hn:¬bf g:=λh=>p1 (dt h)
   unfold bS;rw[if_neg hn]
 exact⟨(fin w0 g4 (λn=>0),vn),(eN (a:=[]) (b:=1) (λ(z0:List Int) (z1:Int)=>Ending.returned (vt [vn,vi z1])) e0 e1),bH.fresh _,(e0▸Ow.nil)⟩
theorem pv(w0:World)(s:List Bool)(s_v:Value)(hs_v:Ro w0 s_v s)(v:Bool):
    Calls Try.prog 76 #[s_v,vb v] w0 (λee w=>ee= .returned (vi (iq s v))/\eB w0.heap.size w0 w):=by
 refine aB Try.func76 rfl nq ?_
 have bH:=bp.start w0
 have Rs:=hs_v.sl
 refine aa (a8 rfl (ai 0 (ag (aa (aa (a8 rfl (mv s_v ?_)))))))
 have len1:=(Rs).small
 refine lx (bh eG rfl Rs) (mi 0 (ag (av ?_)))
 refine aW (σ:=Nat×aF) (λ⟨k,gq⟩ f w=>bp w0 gq w/\f 0=s_v/\f 1=vb v/\f 7=vi (s.length:Int)/\f 8=vi ↑k/\Sl gq (is 0) w s_v s/\(k:Int)<=((s.length:Int):Int)/\(∀j:Nat,j<k->¬v=gI s ↑j)) (λ⟨k,gq⟩=>Int.toNat (((s.length:Int):Int)-(k:Int))) (0,c0) ?_ ?_
 · exact⟨bH,rfl,rfl,rfl,rfl,Rs,by omega,by intro j hj;omega⟩
 clear Rs bH
 rintro⟨k,g4⟩ f2 w3 ⟨bH,zs0,zs1,zs7,zs8,Rs,hle_k,hinv⟩ back2
 refine aa (a8 rfl (lx (b7 (m:=↑k) (n:=(s.length:Int)) zs8 zs7) (ag (aa ?_))))
 by_cases p2:(k:Int)<(s.length:Int)
 ·
  refine ao rfl (dt p2) (aw (aa (av (aa (a8 rfl (mz zs8 (ai (k:Int) (ag (aa (a8 rfl (mz zs1 (mz zs0 ?_))))))))))))
  refine mi ↑k (lx (ad (v:=s_v) (i:=↑k) eG rfl rfl Rs rfl (by omega) (by omega)) (lx (al (v:=s_v) (i:=↑k) bU rfl Rs (by omega) (by omega) (by decide) rfl) (lw (vb (decide (v=(gI s ↑k)))) (nI U4 rfl rfl) (ag ?_))))
  by_cases p4:v=(gI s ↑k)
  ·
   refine ao rfl (dt p4) (aa (a8 rfl (mi ↑k (ai (k:Int) (ag (aH (vs:=[vi ↑k]) Try.func76 (.tmp rfl .nil) ?_))))))
   have e0:((k:Int):Int)=(iq s v):=by
     exact qp hinv ‹_› ‹_›
   exact⟨ri e0,bH.below⟩
  refine aj rfl (df p4) (aw (am (a8 rfl (lx (aE (m:=↑k) (n:=1) zs8 rfl (by omega)) (mi ((k:Int)+1) (ag ?_))))))
  refine back2 (k+1,g4) _ _ ⟨bH,zs0,zs1,zs7,rfl,Rs,by omega,?_⟩ ?_
  · show∀j:Nat,j<(k+1)->¬v=gI s ↑j
    intro j hj
    by_cases e0:j=k
    · subst e0;assumption
    · exact hinv j (by omega)
  · show Int.toNat (((s.length:Int):Int)-((k+1):Int))<Int.toNat (((s.length:Int):Int)-(k:Int))
    omega
 refine aj rfl (df p2) (aC rfl (aa (a8 rfl (ai (-1) (ag (aH (vs:=[vi (-1)]) Try.func76 (.tmp rfl .nil) ?_))))))
 have e0:(-1:Int)=(iq s v):=by
   exact sX hinv ‹_›
 exact⟨ri e0,bH.below⟩
theorem lW(w0:World)(s:List Bool)(s_v:Value)(hs_v:Ro w0 s_v s)(v:Bool):
    Calls Try.prog 59 #[s_v,vb v] w0 (λee w=>ee= .returned (vb (decide (v∈s)))/\eB w0.heap.size w0 w):=by
 refine aB Try.func59 rfl nq ?_
 have bH:=bp.start w0
 have Rs:=hs_v.sl
 refine aa (a8 rfl (ma (vb false) (ag (aa (a8 rfl (mv s_v (mv (vb v) (lo (cA (v:=vi (iq s v)) (aX (vals:=[s_v,vb v]) Try.func76 rV sP rfl) (pv w0 s s_v (Rs).ro v) ?_)))))))))
 intro w1 hb2
 replace hb2:=aN hb2 c0
 refine lx (eX (m:=iq s v) (n:=0) rfl rfl) (ma (vb (decide (0<=(iq s v)))) (ag (aH (vs:=[vb (decide (0<=(iq s v)))]) Try.func59 (.tmp rfl .nil) ?_)))
 have e0:(decide (0<=(iq s v)):Bool)=(decide (v∈s)):=by
   exact pw
 replace bH:=bH.cn hb2
 exact⟨(congrArg (a₁:=decide (0<=(iq s v))) (λ(z0:Bool)=>Ending.returned (vb z0)) e0),bH.below⟩
theorem mL(w0:World)(g:(Int)×(List Pt))(g_v:Value)(hg_v:Ro w0 g_v g.2)(hm:bf g):
    Calls Try.prog 41 #[vg [vi g.1,g_v]] w0 (λee w=>ee= .returned (vb (bL g))/\eB w0.heap.size w0 w):=by
 refine aB Try.func41 rfl nq ?_
 have bH:=bp.start w0
 have Rg:=hg_v.sl
 have hm0:=hm
 obtain⟨hm1,hm2,hm3,hm4⟩:=hm0
 refine aa (a8 rfl (du rfl (dk c0 (is 1) (1,0) rfl rfl ?_)))
 intro g4 w1 b3 ch2 bx5
 replace bx5:Bx g4 (is 1) w1 b3 [vi g.1,g_v]:=bx5
 refine ma (vb false) (ag (aa (aa (a8 rfl (lx (ae dD rfl rfl rfl rfl) (lx (af ah rfl bx5 rfl) (lx (b7 (m:=g.1) (n:=2) rfl rfl) (ag ?_))))))))
 by_cases p1:g.1<2
 ·
  refine ao rfl (dt p1) (aa ?_)
  clear bx5
  refine a8 rfl (ma (vb false) (ag (aH (vs:=[vb false]) Try.func41 (.tmp rfl .nil) ?_)))
  have e0:(false:Bool)=(bL g):=by
    exact mq ‹_›
  replace bH:=bH.cn ch2
  exact⟨rb e0,bH.below⟩
 refine aj rfl (df p1) (aw (aa (a8 rfl (lx (ae dD rfl rfl rfl rfl) (lx (af ah rfl bx5 rfl) (lo (cS (α:=Bool) (l:=g.1) (cp:=g.1) g4 (is 2) (is 2) (2,0) rfl false eG bU rfl rfl rfl (by omega) (by omega) (by omega) (by omega) ?_)))))))
 intro g6 w7 v8 ch9 o10 hcap_
 clear hcap_
 refine ma v8 (ag (aa (aa (a8 rfl (lx (ae dD rfl rfl rfl rfl) ?_)))))
 replace bx5:=bx5.cn ch9
 refine lx (af bT rfl bx5 rfl) ?_
 replace Rg:=(Rg.cn ch2).cn ch9
 have len11:=(Rg).small
 refine lx (bh eM rfl Rg) (mi 0 (ag (av ?_)))
 refine aW (σ:=Nat×(List Bool)×aF) (λ⟨k,at_,gq⟩ f w=>bp w0 gq w/\f 1=vp b3 0/\f 3=v8/\f 13=g_v/\f 14=vi (g.2.length:Int)/\f 15=vi ↑k/\Sl gq (is 0) w g_v g.2/\Bx gq (is 1) w b3 [vi g.1,g_v]/\Ow gq (is 2) (is 2) w v8 at_/\(k:Int)<=((g.2.length:Int):Int)/\(kE g at_ k)) (λ⟨k,at_,gq⟩=>Int.toNat (((g.2.length:Int):Int)-(k:Int))) (0,(List.replicate (Int.toNat g.1) false),g6) ?_ ?_
 replace bH:=bH.cn ch2
 · exact⟨bH.cn ch9,rfl,rfl,rfl,rfl,rfl,Rg,bx5,o10,by omega,by exact kE.start hm1⟩
 clear Rg bx5 o10 bH
 rintro⟨k,at_,g14⟩ f12 w13 ⟨bH,zs1,zs3,zs13,zs14,zs15,Rg,bx5,o10,hle_k,hut⟩ back5
 have htl:=hut.lo
 refine aa (a8 rfl (lx (b7 (m:=↑k) (n:=(g.2.length:Int)) zs15 zs14) (ag (aa ?_))))
 by_cases p5:(k:Int)<(g.2.length:Int)
 ·
  refine ao rfl (dt p5) ?_
  obtain⟨⟨he1,he2⟩,he3,he4⟩:=hm4 _ (bD (xs:=g.2) (i:=↑k) (by omega) (by omega))
  refine aw (aa (av (aa (a8 rfl (lx (ad (v:=g_v) (i:=↑k) eM rfl zs13 Rg zs15 (by omega) (by omega)) (lw (vg [vi ((gI g.2 ↑k).1),vi ((gI g.2 ↑k).2)]) (dw (v:=g_v) (i:=↑k) aS rfl Rg (by omega) (by omega) rfl) (lo (bO g14 (is 3) (3,0) rfl aS ?_))))))))
  intro g18 w15 b17 ch16 bx19
  replace bx19:Bx g18 (is 3) w15 b17 [vi 0,vi 0]:=bx19
  refine lo (aK (cs':=[vi ((gI g.2 ↑k).1),vi ((gI g.2 ↑k).2)]) aS rfl rfl bx19 rfl nq (AllOne.all (.cons rfl (.cons rfl .nil))) rfl ?_)
  intro w20 ch21 bx22
  clear bx19
  refine ag (aa (aa (a8 rfl (lx (cH dj rfl rfl rfl (by decide) (by decide) rfl) (lx (af ah rfl bx22 rfl) (lx (cH dj rfl rfl rfl (by decide) (by decide) rfl) (lx (af ah rfl bx22 rfl) (lx (cq (m:=(gI g.2 ↑k).1) (n:=(gI g.2 ↑k).2) rfl rfl) (ag ?_)))))))))
  by_cases p7:((gI g.2 ↑k).1)=((gI g.2 ↑k).2)
  ·
   refine ao rfl (dt p7) (aa ?_)
   clear bx5 o10 bx22
   refine a8 rfl (ma (vb false) (ag (aH (vs:=[vb false]) Try.func41 (.tmp rfl .nil) ?_)))
   have e0:(false:Bool)=(bL g):=by
     exact np ‹_› ‹_›
   replace bH:=bH.cn ch16
   replace bH:=bH.ce ch21
   exact⟨rb e0,bH.below⟩
  refine aj rfl (df p7) (aw ?_)
  refine dd (σ:=aF) (λgq f w=>bp w0 gq w/\f 1=vp b3 0/\f 3=v8/\f 13=g_v/\f 14=vi (g.2.length:Int)/\f 15=vi ↑k/\Sl gq (is 0) w g_v g.2/\Bx gq (is 1) w b3 [vi g.1,g_v]/\Ow gq (is 2) (is 2) w v8 (List.set (List.set at_ (Int.toNat ((gI g.2 ↑k).1)) true) (Int.toNat ((gI g.2 ↑k).2)) true)) g18 (inl [2]) mb ?_ ?_
  ·
   intro mid
   intro w24 ch23
   refine ht (v:=v8) 0 rfl (bg.refl _ _ _) (λw' hw'=>au zs3) (ht (v:=v8) 3 rfl (bg.refl _ _ _) (λw' hw'=>au zs3) ?_)
   refine cG 1 [4] (by kernel_rfl) ⟨cy 1 rfl (by kernel_rfl) rfl ?_,cy 4 rfl (by kernel_rfl) rfl ?_,trivial⟩
   ·
    refine az (v:=vp b17 0) (cH dj rfl rfl rfl (by decide) (by decide) rfl) ?_
    refine⟨(bg.refl _ _ _),?_⟩
    replace bx22:=bx22.cn ch23
    refine ht 2 rfl (bg.refl _ _ _) (λw' hw'=>af ah rfl (bx22.chg hw' (bZ rfl)) rfl) ?_
    refine cG 4 [6] (by kernel_rfl) ⟨cy 4 rfl (by kernel_rfl) rfl ?_,cy 6 rfl (by kernel_rfl) rfl ?_,trivial⟩
    ·
     refine az (v:=vp b17 1) (cH dj rfl rfl rfl (by decide) (by decide) rfl) ?_
     refine⟨(bg.refl _ _ _),?_⟩
     refine ht 5 rfl (bg.refl _ _ _) (λw' hw'=>af ah rfl (bx22.chg hw' (bZ rfl)) rfl) (aQ 6 rfl (by kernel_rfl) rfl ?_)
     have C25:=cg [3] (ch16.n.seq ((ch21.l rfl).seq ch23.n))
     replace o10:=o10.ca C25
     refine az (v:=Value.pointer (some (aT v8 1 (Int.toNat ((gI g.2 ↑k).1))))) (ad (α:=Bool) (xs:=at_) (v:=v8) (i:=(gI g.2 ↑k).1) eG rfl rfl o10.flat rfl (by omega) (by omega)) ?_
     refine⟨(bg.refl _ _ _),?_⟩
     refine aQ 7 rfl (by kernel_rfl) rfl (aA (i:=(gI g.2 ↑k).1) true bU rfl rfl o10 (by omega) (by omega) rfl ?_)
     intro w26 ch27 bx28
     clear o10
     have hs29:bg (inl [2]) _ _ _ _:=ch27.l rfl
     refine⟨hs29.same,?_⟩
     refine aQ 8 rfl (by kernel_rfl) rfl (az (v:=Value.pointer (some (aT v8 1 (Int.toNat ((gI g.2 ↑k).2))))) (ad (α:=Bool) (xs:=(List.set at_ (Int.toNat ((gI g.2 ↑k).1)) true)) (v:=v8) (i:=(gI g.2 ↑k).2) eG rfl rfl bx28.flat rfl (by omega) (by(simp only[List.length_set,List.length_append,List.length_cons,List.length_nil,List.length_replicate,List.length_map,List.length_take,List.length_drop];omega))) ?_)
     refine⟨hs29.same,?_⟩
     refine aQ 9 rfl (by kernel_rfl) rfl (aA (i:=(gI g.2 ↑k).2) true bU rfl rfl bx28 (by omega) (by(simp only[List.length_set,List.length_append,List.length_cons,List.length_nil,List.length_replicate,List.length_map,List.length_take,List.length_drop];omega)) rfl ?_)
     intro w30 ch31 bx32
     clear bx28
     have hs33:=hs29.seq (ch31.l rfl)
     refine⟨hs33.same,?_⟩
     refine cw (by kernel_rfl) ?_
     have C34:=cg [2,3] (ch16.n.seq ((ch21.l rfl).seq (ch23.n.seq ((ch27.l rfl).seq (ch31.l rfl)))))
     replace Rg:=Rg.ca C25
     replace bx5:=bx5.ca C25
     exact mid (g18) _ _ ⟨bH.ca C34,zs1,zs3,zs13,zs14,zs15,(Rg.ca hs33),(bx5.ca hs33),bx32⟩
    ·
     have C35:=cg [3] (ch16.n.seq ((ch21.l rfl).seq ch23.n))
     replace o10:=o10.ca C35
     refine az (v:=Value.pointer (some (aT v8 1 (Int.toNat ((gI g.2 ↑k).1))))) (ad (α:=Bool) (xs:=at_) (v:=v8) (i:=(gI g.2 ↑k).1) eG rfl rfl o10.flat rfl (by omega) (by omega)) ?_
     refine⟨(bg.refl _ _ _),?_⟩
     refine cG 4 [7] (by kernel_rfl) ⟨cy 4 rfl (by kernel_rfl) rfl ?_,cy 7 rfl (by kernel_rfl) rfl ?_,trivial⟩
     ·
      refine az (v:=vp b17 1) (cH dj rfl rfl rfl (by decide) (by decide) rfl) ?_
      refine⟨(bg.refl _ _ _),?_⟩
      refine ht 5 rfl (bg.refl _ _ _) (λw' hw'=>af ah rfl (bx22.chg hw' (bZ rfl)) rfl) (aQ 7 rfl (by kernel_rfl) rfl (aA (i:=(gI g.2 ↑k).1) true bU rfl rfl o10 (by omega) (by omega) rfl ?_))
      intro w36 ch37 bx38
      clear o10
      have hs39:bg (inl [2]) _ _ _ _:=ch37.l rfl
      refine⟨hs39.same,?_⟩
      refine aQ 8 rfl (by kernel_rfl) rfl (az (v:=Value.pointer (some (aT v8 1 (Int.toNat ((gI g.2 ↑k).2))))) (ad (α:=Bool) (xs:=(List.set at_ (Int.toNat ((gI g.2 ↑k).1)) true)) (v:=v8) (i:=(gI g.2 ↑k).2) eG rfl rfl bx38.flat rfl (by omega) (by(simp only[List.length_set,List.length_append,List.length_cons,List.length_nil,List.length_replicate,List.length_map,List.length_take,List.length_drop];omega))) ?_)
      refine⟨hs39.same,?_⟩
      refine aQ 9 rfl (by kernel_rfl) rfl (aA (i:=(gI g.2 ↑k).2) true bU rfl rfl bx38 (by omega) (by(simp only[List.length_set,List.length_append,List.length_cons,List.length_nil,List.length_replicate,List.length_map,List.length_take,List.length_drop];omega)) rfl ?_)
      intro w40 ch41 bx42
      clear bx38
      have hs43:=hs39.seq (ch41.l rfl)
      refine⟨hs43.same,?_⟩
      refine cw (by kernel_rfl) ?_
      have C44:=cg [2,3] (ch16.n.seq ((ch21.l rfl).seq (ch23.n.seq ((ch37.l rfl).seq (ch41.l rfl)))))
      replace Rg:=Rg.ca C35
      replace bx5:=bx5.ca C35
      exact mid (g18) _ _ ⟨bH.ca C44,zs1,zs3,zs13,zs14,zs15,(Rg.ca hs43),(bx5.ca hs43),bx42⟩
     ·
      refine aA (i:=(gI g.2 ↑k).1) true bU rfl rfl o10 (by omega) (by omega) rfl ?_
      intro w45 ch46 bx47
      clear o10
      have hs48:bg (inl [2]) _ _ _ _:=ch46.l rfl
      refine⟨hs48.same,?_⟩
      refine aQ 4 rfl (by kernel_rfl) rfl (az (v:=vp b17 1) (cH dj rfl rfl rfl (by decide) (by decide) rfl) ?_)
      refine⟨hs48.same,?_⟩
      refine ht 5 rfl hs48.same (λw' hw'=>af ah rfl (bx22.chg hw' (bZ rfl)) rfl) (aQ 8 rfl (by kernel_rfl) rfl (az (v:=Value.pointer (some (aT v8 1 (Int.toNat ((gI g.2 ↑k).2))))) (ad (α:=Bool) (xs:=(List.set at_ (Int.toNat ((gI g.2 ↑k).1)) true)) (v:=v8) (i:=(gI g.2 ↑k).2) eG rfl rfl bx47.flat rfl (by omega) (by(simp only[List.length_set,List.length_append,List.length_cons,List.length_nil,List.length_replicate,List.length_map,List.length_take,List.length_drop];omega))) ?_))
      refine⟨hs48.same,?_⟩
      refine aQ 9 rfl (by kernel_rfl) rfl (aA (i:=(gI g.2 ↑k).2) true bU rfl rfl bx47 (by omega) (by(simp only[List.length_set,List.length_append,List.length_cons,List.length_nil,List.length_replicate,List.length_map,List.length_take,List.length_drop];omega)) rfl ?_)
      intro w49 ch50 bx51
      clear bx47
      have hs52:=hs48.seq (ch50.l rfl)
      refine⟨hs52.same,?_⟩
      refine cw (by kernel_rfl) ?_
      have C53:=cg [2,3] (ch16.n.seq ((ch21.l rfl).seq (ch23.n.seq ((ch46.l rfl).seq (ch50.l rfl)))))
      replace Rg:=Rg.ca C35
      replace bx5:=bx5.ca C35
      exact mid (g18) _ _ ⟨bH.ca C53,zs1,zs3,zs13,zs14,zs15,(Rg.ca hs52),(bx5.ca hs52),bx51⟩
   ·
    refine az (v:=vp b17 1) (cH dj rfl rfl rfl (by decide) (by decide) rfl) ?_
    refine⟨(bg.refl _ _ _),?_⟩
    replace bx22:=bx22.cn ch23
    refine ht 5 rfl (bg.refl _ _ _) (λw' hw'=>af ah rfl (bx22.chg hw' (bZ rfl)) rfl) (aQ 1 rfl (by kernel_rfl) rfl (az (v:=vp b17 0) (cH dj rfl rfl rfl (by decide) (by decide) rfl) ?_))
    refine⟨(bg.refl _ _ _),?_⟩
    refine ht 2 rfl (bg.refl _ _ _) (λw' hw'=>af ah rfl (bx22.chg hw' (bZ rfl)) rfl) (aQ 6 rfl (by kernel_rfl) rfl ?_)
    have C54:=cg [3] (ch16.n.seq ((ch21.l rfl).seq ch23.n))
    replace o10:=o10.ca C54
    refine az (v:=Value.pointer (some (aT v8 1 (Int.toNat ((gI g.2 ↑k).1))))) (ad (α:=Bool) (xs:=at_) (v:=v8) (i:=(gI g.2 ↑k).1) eG rfl rfl o10.flat rfl (by omega) (by omega)) ?_
    refine⟨(bg.refl _ _ _),?_⟩
    refine aQ 7 rfl (by kernel_rfl) rfl (aA (i:=(gI g.2 ↑k).1) true bU rfl rfl o10 (by omega) (by omega) rfl ?_)
    intro w55 ch56 bx57
    clear o10
    have hs58:bg (inl [2]) _ _ _ _:=ch56.l rfl
    refine⟨hs58.same,?_⟩
    refine aQ 8 rfl (by kernel_rfl) rfl (az (v:=Value.pointer (some (aT v8 1 (Int.toNat ((gI g.2 ↑k).2))))) (ad (α:=Bool) (xs:=(List.set at_ (Int.toNat ((gI g.2 ↑k).1)) true)) (v:=v8) (i:=(gI g.2 ↑k).2) eG rfl rfl bx57.flat rfl (by omega) (by(simp only[List.length_set,List.length_append,List.length_cons,List.length_nil,List.length_replicate,List.length_map,List.length_take,List.length_drop];omega))) ?_)
    refine⟨hs58.same,?_⟩
    refine aQ 9 rfl (by kernel_rfl) rfl (aA (i:=(gI g.2 ↑k).2) true bU rfl rfl bx57 (by omega) (by(simp only[List.length_set,List.length_append,List.length_cons,List.length_nil,List.length_replicate,List.length_map,List.length_take,List.length_drop];omega)) rfl ?_)
    intro w59 ch60 bx61
    clear bx57
    have hs62:=hs58.seq (ch60.l rfl)
    refine⟨hs62.same,?_⟩
    refine cw (by kernel_rfl) ?_
    have C63:=cg [2,3] (ch16.n.seq ((ch21.l rfl).seq (ch23.n.seq ((ch56.l rfl).seq (ch60.l rfl)))))
    replace Rg:=Rg.ca C54
    replace bx5:=bx5.ca C54
    exact mid (g18) _ _ ⟨bH.ca C63,zs1,zs3,zs13,zs14,zs15,(Rg.ca hs62),(bx5.ca hs62),bx61⟩
  clear Rg bx5 o10 bx22 bH
  rintro g66 f64 w65 ⟨bH,zs1,zs3,zs13,zs14,zs15,Rg,bx5,bx32⟩
  refine am (a8 rfl (lx (aE (m:=↑k) (n:=1) zs15 rfl (by omega)) (mi ((k:Int)+1) (ag ?_))))
  refine back5 (k+1,(List.set (List.set at_ (Int.toNat ((gI g.2 ↑k).1)) true) (Int.toNat ((gI g.2 ↑k).2)) true),g66) _ _ ⟨bH,zs1,zs3,zs13,zs14,rfl,Rg,bx5,bx32,by omega,?_⟩ ?_
  · show kE g (List.set (List.set at_ (Int.toNat ((gI g.2 ↑k).1)) true) (Int.toNat ((gI g.2 ↑k).2)) true) (k+1)
    exact hut.next (by omega) ‹_›
  · show Int.toNat (((g.2.length:Int):Int)-((k+1):Int))<Int.toNat (((g.2.length:Int):Int)-(k:Int))
    omega
 refine aj rfl (df p5) (aC rfl (aa (a8 rfl (mz zs3 (lo (cA (v:=vb (decide (false∈at_))) (aX (vals:=[v8,vb false]) Try.func59 sb sq rfl) (lW w13 at_ v8 (o10.flat).ro false) ?_))))))
 intro w67 hb68
 replace hb68:=aN hb68 g14
 refine lx (dV (b:=(decide (false∈at_))) rfl) (mv (vb (!(decide (false∈at_)))) ?_)
 by_cases q36:(decide (false∈at_))=true
 ·
  refine ax (wn (congrArg Bool.not q36)) (ax (wn (congrArg Bool.not q36)) (ax (wn (congrArg Bool.not q36)) (ax (wn (congrArg Bool.not q36)) (lw (vb false) (aV rfl (congrArg Bool.not q36) rfl) (ma (vb false) (ag (aH (vs:=[vb false]) Try.func41 (.tmp rfl .nil) ?_)))))))
  have e0:(false:Bool)=(bL g):=by
    exact pS hut (by omega) (of_decide_eq_true ‹_›)
  replace bH:=bH.cn hb68
  exact⟨rb e0,bH.below⟩
 replace bx5:=bx5.cn hb68
 refine lv (vg [vi g.1,g_v]) (wy (congrArg Bool.not (Bool.eq_false_iff.2 q36))) (aD (ds:=[vi g.1,g_v]) c5 zs1 bx5 rfl rfl) ?_
 replace Rg:=Rg.cn hb68
 refine du (wy (congrArg Bool.not (Bool.eq_false_iff.2 q36))) (cI (aX (vals:=[vg [vi g.1,g_v]]) Try.func37 jK jR rfl) (i5 w67 g g_v (Rg).ro (by exact hm)) ?_)
 rintro⟨d70,v72,v74⟩ w69 ⟨fr71,o73,o75⟩
 obtain⟨g76,ch77,G76⟩:=kR g14 fr71 (λn=>if n=1 then 4 else if n=2 then 5 else 0)
 replace o73:=o73.gl G76 4
 replace o75:=o75.gl G76 5
 refine lv (vi (((a9 g).2).2)) (wy (congrArg Bool.not (Bool.eq_false_iff.2 q36))) (mA gc rfl ah rfl rfl) (lv (vb (decide ((((a9 g).2).2)=1))) (wy (congrArg Bool.not (Bool.eq_false_iff.2 q36))) (cq (m:=((a9 g).2).2) (n:=1) rfl rfl) (lw (vb (decide ((((a9 g).2).2)=1))) (aZ rfl (congrArg Bool.not (Bool.eq_false_iff.2 q36)) rfl) (ma (vb (decide ((((a9 g).2).2)=1))) (ag (aH (vs:=[vb (decide ((((a9 g).2).2)=1))]) Try.func41 (.tmp rfl .nil) ?_)))))
 have e0:(decide ((((a9 g).2).2)=1):Bool)=(bL g):=by
   exact qa hut (by omega) ‹_› (λhf=>absurd (dt hf) ‹_›)
 replace bH:=bH.cn hb68
 replace bH:=bH.cn ch77
 exact⟨(congrArg (a₁:=decide ((((a9 g).2).2)=1)) (λ(z0:Bool)=>Ending.returned (vb z0)) e0),bH.below⟩
theorem qb(w0:World)(g:(Int)×(List Pt))(g_v:Value)(hg_v:Ro w0 g_v g.2):
    Calls Try.prog 14 #[vg [vi g.1,g_v]] w0 (λee w=>ee= .returned (vt [vb ((cX g).1),vi ((cX g).2)])/\eB w0.heap.size w0 w):=by
 refine aB Try.func14 rfl nq ?_
 have bH:=bp.start w0
 have Rg:=hg_v.sl
 refine aa (a8 rfl (du rfl (dk c0 (is 1) (1,0) rfl rfl ?_)))
 intro g4 w1 b3 ch2 bx5
 replace bx5:Bx g4 (is 1) w1 b3 [vi g.1,g_v]:=bx5
 refine ma (vb false) (ai 0 (ag (aa (aa (a8 rfl (lx (aD (ds:=[vi g.1,g_v]) c5 rfl bx5 rfl rfl) ?_))))))
 replace Rg:=Rg.cn ch2
 refine lo (cA (v:=vb (da g)) (aX (vals:=[vg [vi g.1,g_v]]) Try.func36 ia i9 rfl) (jh w1 g g_v (Rg).ro) ?_)
 intro w6 hb7
 replace hb7:=aN hb7 g4
 refine lx (dV (b:=(da g)) rfl) (ag ?_)
 by_cases p1:(da g)=true
 ·
  refine aj rfl (congrArg Bool.not p1) (aw (aa (a8 rfl ?_)))
  replace bx5:=bx5.cn hb7
  refine lx (aD (ds:=[vi g.1,g_v]) c5 rfl bx5 rfl rfl) ?_
  replace Rg:=Rg.cn hb7
  refine lo (cA (v:=vb (bL g)) (aX (vals:=[vg [vi g.1,g_v]]) Try.func41 oJ o9 rfl) (mL w6 g g_v (Rg).ro (by exact of_decide_eq_true p1)) ?_)
  intro w8 hb9
  replace hb9:=aN hb9 g4
  refine ma (vb (bL g)) (ai 0 (ag (aH (vs:=[vb (bL g),vi 0]) Try.func14 (.tmp rfl (.tmp rfl .nil)) ?_)))
  have e0:((bL g):Bool)=((cX g).1):=by
    have hm:=of_decide_eq_true p1
    unfold cX;rw[if_pos hm]
  have e1:(0:Int)=((cX g).2):=by
    have hm:=of_decide_eq_true p1
    unfold cX;rw[if_pos hm]
  have C10:=cg [] (ch2.n.seq (hb7.n.seq hb9.n))
  replace bH:=bH.ca C10
  exact⟨(eN (a:=(bL g)) (b:=0) (λ(z0:Bool) (z1:Int)=>Ending.returned (vt [vb z0,vi z1])) e0 e1),bH.below⟩
 refine ao rfl (congrArg Bool.not (Bool.eq_false_iff.2 p1)) (aa ?_)
 clear bx5
 refine a8 rfl (ma (vb false) (ai 1 (ag (aH (vs:=[vb false,vi 1]) Try.func14 (.tmp rfl (.tmp rfl .nil)) ?_))))
 have e0:(false:Bool)=((cX g).1):=by
   have hn:¬bf g:=λh=>p1 (dt h)
   unfold cX;rw[if_neg hn]
 have e1:(1:Int)=((cX g).2):=by
   have hn:¬bf g:=λh=>p1 (dt h)
   unfold cX;rw[if_neg hn]
 replace bH:=bH.cn ch2
 replace bH:=bH.cn hb7
 exact⟨(eN (a:=false) (b:=1) (λ(z0:Bool) (z1:Int)=>Ending.returned (vt [vb z0,vi z1])) e0 e1),bH.below⟩
end TL
