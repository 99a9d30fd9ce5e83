import Derived.Test.YtmakonaaojadbaaBaTlP4
import Derived.Test.YtmakonaaojadbaaBaTlGmA
import Derived.Test.YtmakonaaojadbaaBaTlGenA
import Derived.Test.YtmakonaaojadbaaBaTlBkB
import Derived.Test.YtmakonaaojadbaaProg
import Derived.Test.YtmakonaaojadbaaBaTlAli
set_option linter.all false
set_option maxRecDepth 20000
namespace TL
open Go Go.Proofs
theorem nc:Try.prog.follows .mixedOrders=true:=by kernel_rfl
theorem ia:Try.f36.body.isNone=false:=rfl
theorem i7:(Try.f36.name== "runtime.NumGoroutine")=false:=by decide+kernel
theorem kk:Try.f37.body.isNone=false:=rfl
theorem kh:(Try.f37.name== "runtime.NumGoroutine")=false:=by decide+kernel
theorem oY:Try.f41.body.isNone=false:=rfl
theorem pi:(Try.f41.name== "runtime.NumGoroutine")=false:=by decide+kernel
theorem sK:Try.f59.body.isNone=false:=rfl
theorem te:(Try.f59.name== "runtime.NumGoroutine")=false:=by decide+kernel
theorem rW:Try.f76.body.isNone=false:=rfl
theorem sq:(Try.f76.name== "runtime.NumGoroutine")=false:=by decide+kernel
theorem kI(w0:World)(g:(Int)×(List Pt))(g_v:Value)(hg_v:Ro w0 g_v g.2):
    Calls Try.prog 11 #[vg [vi g.1,g_v]] w0 (λee w=>∃xx:aJ×Value×Value,ee= .returned ((λ⟨δ,rv0,rv1⟩=>vt [vg [rv0,rv1,vi ((((aA g).1).2).2)],vi ((aA g).2)]) xx)/\(λ(⟨δ,rv0,rv1⟩:aJ×Value×Value) (w:World)=>fv w0 δ w/\Ow δ (is 1) (is 1) w rv0 (((aA g).1).1)/\Ow δ (is 2) (is 2) w rv1 ((((aA g).1).2).1)) xx w):=by
 refine aC Try.func11 rfl nq ?_
 have bH:=bv.start w0
 have Rg:=hg_v.sl
 refine ab (a8 rfl (db rfl (d4 c0 (is 1) (1,0) rfl rfl ?_)))
 intro g4 w1 b3 ch2 bx5
 replace bx5:Bx g4 (is 1) w1 b3 [vi g.1,g_v]:=bx5
 refine lo (bI g4 (is 2) (2,0) rfl dC ?_)
 intro g9 w6 b8 ch7 bx10
 replace bx10:Bx g9 (is 2) w6 b8 [vn,vn,vi 0]:=bx10
 refine ai 0 (ag (ab (ab (a8 rfl ?_))))
 replace bx5:=bx5.cn ch7
 refine lx (aB (ds:=[vi g.1,g_v]) ch rfl bx5 rfl rfl) ?_
 replace Rg:=(Rg.cn ch2).cn ch7
 refine lo (cC (v:=vb (d5 g)) (b9 (vals:=[vg [vi g.1,g_v]]) Try.func36 ia i7 rfl) (ji w6 g g_v (Rg).ro) ?_)
 intro w11 hb12
 replace hb12:=aS hb12 g9
 refine lx (ek (b:=(d5 g)) rfl) (ag ?_)
 by_cases p1:(d5 g)=true
 ·
  refine aj rfl (congrArg Bool.not p1) (av (ab (a8 rfl ?_)))
  replace bx5:=bx5.cn hb12
  refine lx (aB (ds:=[vi g.1,g_v]) ch rfl bx5 rfl rfl) ?_
  replace Rg:=Rg.cn hb12
  refine lo (ck (b9 (vals:=[vg [vi g.1,g_v]]) Try.func37 kk kh rfl) (ib w11 g g_v (Rg).ro (by exact of_decide_eq_true p1)) ?_)
  rintro⟨d14,v16,v18⟩ w13 ⟨fr15,o17,o19⟩
  obtain⟨g20,ch21,G20⟩:=jh g9 fr15 (λn=>if n=1 then 3 else if n=2 then 4 else 0)
  replace o17:=o17.gl G20 3
  replace o19:=o19.gl G20 4
  refine lo ?_
  replace bx10:=(bx10.cn hb12).cn ch21
  refine aI (cs':=[v16,v18,vi (((aa g).2).2)]) dC rfl rfl bx10 rfl nq (AllOne.all (.cons (bQ o17.flat) (.cons (bQ o19.flat) (.cons rfl .nil)))) rfl ?_
  intro w22 ch23 bx24
  clear bx10
  refine ai 0 (ag (aQ (vs:=[vg [v16,v18,vi (((aa g).2).2)],vi 0]) Try.func11 (.cell rfl (dR (ds:=[v16,v18,vi (((aa g).2).2)]) dC bx24 rfl rfl) (.tmp rfl .nil)) ?_))
  have C25:=cg [2] (ch2.n.seq (ch7.n.seq (hb12.n.seq (ch21.n.seq (ch23.l rfl)))))
  replace bH:=bH.ca C25
  replace o17:=o17.ce ch23
  replace o19:=o19.ce ch23
  have e0:(((aa g).1,((aa g).2).1,((aa g).2).2):(List Int)×(List Int)×(Int))=((aA g).1):=by
    have hm:=of_decide_eq_true p1
    (unfold aA;rw[if_pos hm];rfl)
  have e1:(0:Int)=((aA g).2):=by
    have hm:=of_decide_eq_true p1
    (unfold aA;rw[if_pos hm];done)
  exact⟨(fin w0 g20 (λn=>if n=3 then 1 else if n=4 then 2 else 0),v16,v18),(dP (a:=((aa g).1,((aa g).2).1,((aa g).2).2)) (b:=0) (λ(z0:(List Int)×(List Int)×(Int)) (z1:Int)=>Ending.returned (vt [vg [v16,v18,vi z0.2.2],vi z1])) e0 e1),bH.fresh _,((congrArg (λ(z:(List Int)×(List Int)×(Int))=>z.1) e0)▸(o17.glue (γ:=c0) (ren:=(λn=>if n=3 then 1 else if n=4 then 2 else 0)) (k:=1) bH.col rfl rfl)),((congrArg (λ(z:(List Int)×(List Int)×(Int))=>z.2.1) e0)▸(o19.glue (γ:=c0) (ren:=(λn=>if n=3 then 1 else if n=4 then 2 else 0)) (k:=2) bH.col rfl rfl))⟩
 refine al rfl (congrArg Bool.not (Bool.eq_false_iff.2 p1)) (ab ?_)
 clear bx5
 refine a8 rfl (lw (vg [vn,vn,vi 0]) (bE (vs:=[]) rfl (by kernel_rfl)) (lo ?_))
 replace bx10:=bx10.cn hb12
 refine aI (cs':=[vn,vn,vi 0]) dC rfl rfl bx10 rfl nq (AllOne.all (.cons rfl (.cons rfl (.cons rfl .nil)))) rfl ?_
 intro w26 ch27 bx28
 clear bx10
 refine ai 1 (ag (aQ (vs:=[vg [vn,vn,vi 0],vi 1]) Try.func11 (.cell rfl (dR (ds:=[vn,vn,vi 0]) dC bx28 rfl rfl) (.tmp rfl .nil)) ?_))
 have C29:=cg [2] (ch2.n.seq (ch7.n.seq (hb12.n.seq (ch27.l rfl))))
 replace bH:=bH.ca C29
 have e0:(([],[],0):(List Int)×(List Int)×(Int))=((aA g).1):=by
   have hn:¬bg g:=λh=>p1 (dt h)
   unfold aA;rw[if_neg hn]
 have e1:(1:Int)=((aA g).2):=by
   have hn:¬bg g:=λh=>p1 (dt h)
   unfold aA;rw[if_neg hn]
 exact⟨(fin w0 g9 (λn=>0),vn,vn),(dP (a:=([],[],0)) (b:=1) (λ(z0:(List Int)×(List Int)×(Int)) (z1:Int)=>Ending.returned (vt [vg [vn,vn,vi z0.2.2],vi z1])) e0 e1),bH.fresh _,((congrArg (λ(z:(List Int)×(List Int)×(Int))=>z.1) e0)▸Ow.nil),((congrArg (λ(z:(List Int)×(List Int)×(Int))=>z.2.1) e0)▸Ow.nil)⟩
theorem kq(w0:World)(g:(Int)×(List Pt))(g_v:Value)(hg_v:Ro w0 g_v g.2):
    Calls Try.prog 12 #[vg [vi g.1,g_v]] w0 (λee w=>∃xx:aJ×Value,ee= .returned ((λ⟨δ,rv0⟩=>vt [rv0,vi ((aH g).2)]) xx)/\(λ(⟨δ,rv0⟩:aJ×Value) (w:World)=>fv w0 δ w/\Ow δ (is 1) (is 1) w rv0 ((aH g).1)) xx w):=by
 refine aC Try.func12 rfl nq ?_
 have bH:=bv.start w0
 have Rg:=hg_v.sl
 refine ab (a8 rfl (db rfl (d4 c0 (is 1) (1,0) rfl rfl ?_)))
 intro g4 w1 b3 ch2 bx5
 replace bx5:Bx g4 (is 1) w1 b3 [vi g.1,g_v]:=bx5
 refine ma vn (ai 0 (ag (ab (ab (a8 rfl (lx (aB (ds:=[vi g.1,g_v]) ch rfl bx5 rfl rfl) ?_))))))
 replace Rg:=Rg.cn ch2
 refine lo (cC (v:=vb (d5 g)) (b9 (vals:=[vg [vi g.1,g_v]]) Try.func36 ia i7 rfl) (ji w1 g g_v (Rg).ro) ?_)
 intro w6 hb7
 replace hb7:=aS hb7 g4
 refine lx (ek (b:=(d5 g)) rfl) (ag ?_)
 by_cases p1:(d5 g)=true
 ·
  refine aj rfl (congrArg Bool.not p1) (av (ab ?_))
  have hm:=of_decide_eq_true p1
  obtain⟨hm1,hm2,hm3,hm4⟩:=of_decide_eq_true p1
  have hcb:0<=(aa g).2.2/\(aa g).2.2<=(g.2.length:Int):=iK g
  obtain⟨hcb0,hcb1⟩:=hcb
  have hofl:((aa g).1.length:Int)=g.2.length:=by have:=fT g;show((dq g).length:Int)=_;omega
  refine a8 rfl ?_
  replace bx5:=bx5.cn hb7
  refine lx (aB (ds:=[vi g.1,g_v]) ch rfl bx5 rfl rfl) ?_
  replace Rg:=Rg.cn hb7
  refine lo (ck (b9 (vals:=[vg [vi g.1,g_v]]) Try.func37 kk kh rfl) (ib w6 g g_v (Rg).ro (by exact of_decide_eq_true p1)) ?_)
  rintro⟨d9,v11,v13⟩ w8 ⟨fr10,o12,o14⟩
  obtain⟨g15,ch16,G15⟩:=jh g4 fr10 (λn=>if n=1 then 2 else if n=2 then 3 else 0)
  replace o12:=o12.gl G15 2
  replace o14:=o14.gl G15 3
  refine lo (bI g15 (is 4) (4,0) rfl dC ?_)
  intro g20 w17 b19 ch18 bx21
  replace bx21:Bx g20 (is 4) w17 b19 [vn,vn,vi 0]:=bx21
  refine lo ?_
  replace o14:=o14.cn ch18
  replace o12:=o12.cn ch18
  refine aI (cs':=[v11,v13,vi (((aa g).2).2)]) dC rfl rfl bx21 rfl nq (AllOne.all (.cons (bQ o12.flat) (.cons (bQ o14.flat) (.cons rfl .nil)))) rfl ?_
  intro w22 ch23 bx24
  clear bx21
  refine ag (ab (a8 rfl (lx (ad eD rfl rfl rfl rfl) (lx (af ah rfl bx24 rfl) (lo (cW (α:=Int) (l:=((aa g).2).2) (cp:=((aa g).2).2) g20 (is 5) (is 5) (5,0) rfl (0:Int) bf ah rfl rfl rfl (by omega) (by omega) (by omega) (by omega) ?_))))))
  intro g25 w26 v27 ch28 o29 hcap_
  clear hcap_
  refine ma v27 (ag (ab (ab (a8 rfl (lx (ad eD rfl rfl rfl rfl) ?_)))))
  replace bx24:=bx24.cn ch28
  refine lx (af ay rfl bx24 rfl) ?_
  replace o12:=(o12.ce ch23).cn ch28
  have len30:=(o12.flat).small
  refine lx (bu bf rfl o12.flat) (mi 0 (ag (ar ?_)))
  refine bc (σ:=Nat×(List Int)×aJ) (λ⟨k,size,gq⟩ f w=>bv w0 gq w/\f 1=vp b3 0/\f 4=vp b19 0/\f 5=v27/\f 20=v11/\f 21=vi (List.length ((aa g).1):Int)/\f 22=vi ↑k/\Sl gq (is 0) w g_v g.2/\Bx gq (is 1) w b3 [vi g.1,g_v]/\Ow gq (is 2) (is 2) w v11 ((aa g).1)/\Ow gq (is 3) (is 3) w v13 (((aa g).2).1)/\Bx gq (is 4) w b19 [v11,v13,vi (((aa g).2).2)]/\Ow gq (is 5) (is 5) w v27 size/\(k:Int)<=((List.length ((aa g).1):Int):Int)/\(size=e9 (aa g).1 (Int.toNat (aa g).2.2) k)) (λ⟨k,size,gq⟩=>Int.toNat (((List.length ((aa g).1):Int):Int)-(k:Int))) (0,(List.replicate (Int.toNat (((aa g).2).2)) (0:Int)),g25) ?_ ?_
  have C32:=cg [4] (ch16.n.seq (ch18.n.seq ((ch23.l rfl).seq ch28.n)))
  have C31:=ch2.n.seq (hb7.n.seq C32)
  · exact⟨bH.ca C31,rfl,rfl,rfl,rfl,rfl,rfl,Rg.ca C32,bx5.ca C32,o12,(o14.ce ch23).cn ch28,bx24,o29,by omega,by rfl⟩
  clear Rg bx5 o12 o14 bx24 o29 bH
  rintro⟨k,size,g35⟩ f33 w34 ⟨bH,zs1,zs4,zs5,zs20,zs21,zs22,Rg,bx5,o12,o14,bx24,o29,hle_k,hs⟩ back6
  have hsl:(size.length:Int)=(aa g).2.2:=by rw[hs,mD];omega
  refine ab (a8 rfl (lx (bn (m:=↑k) (n:=(List.length ((aa g).1):Int)) zs22 zs21) (ag (ab ?_))))
  by_cases p6:(k:Int)<(List.length ((aa g).1):Int)
  ·
   refine al rfl (dt p6) ?_
   have hob:0<=gI (aa g).1 (k:Int)/\gI (aa g).1 (k:Int)<(aa g).2.2:=eR g (by omega) (by omega)
   obtain⟨hob0,hob1⟩:=hob
   have hsb:0<=gI size (gI (aa g).1 (k:Int))/\gI size (gI (aa g).1 (k:Int))<=k:=by rw[hs];exact ow _ _ _ (by omega) _
   obtain⟨hsb0,hsb1⟩:=hsb
   refine av (ab (ar (ab (a8 rfl (lx (ae (v:=v11) (i:=↑k) bf rfl zs20 o12.flat zs22 (by omega) (by omega)) (lx (aq (v:=v11) (i:=↑k) ah rfl o12.flat (by omega) (by omega) (by decide) rfl) (ai (gI ((aa g).1) (k:Int)) (ag (a8 rfl (mz zs5 (mi (gI ((aa g).1) (k:Int)) ?_)))))))))))
   refine lx (ae (v:=v27) (i:=(gI ((aa g).1) (k:Int))) bf rfl rfl o29.flat rfl (by omega) (by omega)) (lx (aq (v:=v27) (i:=(gI ((aa g).1) (k:Int))) ah rfl o29.flat (by omega) (by omega) (by decide) rfl) (lx (aG (m:=(gI size (gI ((aa g).1) (k:Int)))) (n:=1) rfl rfl (by omega)) (lx (ae (v:=v27) (i:=(gI ((aa g).1) (k:Int))) bf rfl rfl o29.flat rfl (by omega) (by omega)) (lo (aD (i:=(gI ((aa g).1) (k:Int))) ((gI size (gI ((aa g).1) (k:Int)))+1) ah rfl rfl o29 (by omega) (by omega) rfl ?_)))))
   intro w36 ch37 bx38
   clear o29
   refine ag (ak (a8 rfl (lx (aG (m:=↑k) (n:=1) zs22 rfl (by omega)) (mi ((k:Int)+1) (ag ?_)))))
   refine back6 (k+1,(List.set size (Int.toNat (gI ((aa g).1) (k:Int))) ((gI size (gI ((aa g).1) (k:Int)))+1)),g35) _ _ ⟨bH.ce ch37,zs1,zs4,zs5,zs20,zs21,rfl,Rg.ce ch37,bx5.ce ch37,o12.ce ch37,o14.ce ch37,bx24.ce ch37,bx38,by omega,?_⟩ ?_
   · show(List.set size (Int.toNat (gI ((aa g).1) (k:Int))) ((gI size (gI ((aa g).1) (k:Int)))+1))=e9 (aa g).1 (Int.toNat (aa g).2.2) (k+1)
     rw[ju (by omega),<-hs]
   · show Int.toNat (((List.length ((aa g).1):Int):Int)-((k+1):Int))<Int.toNat (((List.length ((aa g).1):Int):Int)-(k:Int))
     omega
  refine aj rfl (df p6) (aF rfl (ab (a8 rfl (ma vn (ag (ab (ab (a8 rfl (lx (ad eD rfl rfl zs4 rfl) (lx (af ay rfl bx24 rfl) (lx (bu bf rfl o12.flat) (mi 0 (ag ?_)))))))))))))
  refine ar ?_
  clear o14 bx24
  refine bc (σ:=Nat×Value×(List Int)×aJ) (λ⟨j,l_v,l,gq⟩ f w=>bv w0 gq w/\f 1=vp b3 0/\f 5=v27/\f 8=l_v/\f 34=v11/\f 35=vi (List.length ((aa g).1):Int)/\f 36=vi ↑j/\Sl gq (is 0) w g_v g.2/\Bx gq (is 1) w b3 [vi g.1,g_v]/\Ow gq (is 2) (is 2) w v11 ((aa g).1)/\Ow gq (is 5) (is 5) w v27 size/\Ow gq (is 7) (is 7) w l_v l/\(j:Int)<=((List.length ((aa g).1):Int):Int)/\(l=bN g j)) (λ⟨j,l_v,l,gq⟩=>Int.toNat (((List.length ((aa g).1):Int):Int)-(j:Int))) (0,vn,[],g35) ?_ ?_
  · exact⟨bH,zs1,zs5,rfl,rfl,rfl,rfl,Rg,bx5,o12,o29,Ow.nil,by omega,by rfl⟩
  clear Rg bx5 o12 o29 bH
  rintro⟨j,l_v,l,g41⟩ f39 w40 ⟨bH,zs1,zs5,zs8,zs34,zs35,zs36,Rg,bx5,o12,o29,o_l,hle_j,hl⟩ back12
  have hll:=gS hl
  refine ab (a8 rfl (lx (bn (m:=↑j) (n:=(List.length ((aa g).1):Int)) zs36 zs35) (ag (ab ?_))))
  by_cases p12:(j:Int)<(List.length ((aa g).1):Int)
  ·
   refine al rfl (dt p12) ?_
   have hob:0<=gI (aa g).1 (j:Int)/\gI (aa g).1 (j:Int)<(aa g).2.2:=eR g (by omega) (by omega)
   obtain⟨hob0,hob1⟩:=hob
   refine av (ab (ar (ab (a8 rfl (mz zs36 (lx (ae (v:=v11) (i:=↑j) bf rfl zs34 o12.flat zs36 (by omega) (by omega)) (lx (aq (v:=v11) (i:=↑j) ah rfl o12.flat (by omega) (by omega) (by decide) rfl) (ai (j:Int) (ai (gI ((aa g).1) (j:Int)) (ag (ab ?_)))))))))))
   refine cq g41 rfl nc (by kernel_rfl) ?_
   intro w43 ch42
   refine qz zs5 (qm (vi (gI ((aa g).1) (j:Int))) ?_)
   replace o29:=o29.cn ch42
   refine qx (λw' hw'=>ae (v:=v27) (i:=(gI ((aa g).1) (j:Int))) bf rfl rfl (o29.flat.bel hw') rfl (by omega) (by omega)) (qx (λw' hw'=>aq (v:=v27) (i:=(gI ((aa g).1) (j:Int))) ah rfl (o29.flat.bel hw') (by omega) (by omega) (by decide) rfl) (qx (λw' hw'=>cH (m:=(gI size (gI ((aa g).1) (j:Int)))) (n:=1) rfl rfl) (qm (vb (decide ((gI size (gI ((aa g).1) (j:Int)))=1))) ?_)))
   by_cases q46:(gI size (gI ((aa g).1) (j:Int)))=1
   ·
    refine bt (v:=vp b3 1) (wy (dt q46)) (λw' hw'=>ad cZ rfl rfl zs1 rfl) ?_
    replace bx5:=bx5.cn ch42
    refine bt (v:=g_v) (wy (dt q46)) (λw' hw'=>af bC rfl (bx5.bel hw') rfl) (bt (v:=vi ↑j) (wy (dt q46)) (λw' hw'=>au rfl) ?_)
    replace Rg:=Rg.cn ch42
    refine bt (v:=Value.pointer (some (aZ g_v 2 (Int.toNat ↑j)))) (wy (dt q46)) (λw' hw'=>ae (α:=Pt) (xs:=g.2) (v:=g_v) (i:=↑j) dD rfl rfl (Rg.bel hw') rfl (by omega) (by omega)) (bt (v:=Value.pointer (some ⟨(aZ g_v 2 (Int.toNat ↑j)).block,(aZ g_v 2 (Int.toNat ↑j)).off+0,none⟩)) (wy (dt q46)) (λw' hw'=>bM dg rfl rfl rfl (by decide) (by decide) rfl) (bt (v:=vi ((gI g.2 ↑j).1)) (wy (dt q46)) (λw' hw'=>cw (α:=Pt) (xs:=g.2) (v:=g_v) (i:=↑j) ah rfl (Rg.bel hw') (by omega) (by omega) (by decide) rfl) ?_))
    refine bt (v:=vp b3 1) (wy (dt q46)) (λw' hw'=>ad cZ rfl rfl zs1 rfl) (bt (v:=g_v) (wy (dt q46)) (λw' hw'=>af bC rfl (bx5.bel hw') rfl) (bt (v:=vi ↑j) (wy (dt q46)) (λw' hw'=>au rfl) (bt (v:=Value.pointer (some (aZ g_v 2 (Int.toNat ↑j)))) (wy (dt q46)) (λw' hw'=>ae (α:=Pt) (xs:=g.2) (v:=g_v) (i:=↑j) dD rfl rfl (Rg.bel hw') rfl (by omega) (by omega)) ?_)))
    refine bt (v:=Value.pointer (some ⟨(aZ g_v 2 (Int.toNat ↑j)).block,(aZ g_v 2 (Int.toNat ↑j)).off+1,none⟩)) (wy (dt q46)) (λw' hw'=>bM dg rfl rfl rfl (by decide) (by decide) rfl) (bt (v:=vi ((gI g.2 ↑j).2)) (wy (dt q46)) (λw' hw'=>cw (α:=Pt) (xs:=g.2) (v:=g_v) (i:=↑j) ah rfl (Rg.bel hw') (by omega) (by omega) (by decide) rfl) (bt (v:=vb (!(decide (((gI g.2 ↑j).1)=((gI g.2 ↑j).2))))) (wy (dt q46)) (λw' hw'=>dW (m:=(gI g.2 ↑j).1) (n:=(gI g.2 ↑j).2) rfl rfl) (qv (vb (!(decide (((gI g.2 ↑j).1)=((gI g.2 ↑j).2))))) (λw' hw'=>b5 rfl (dt q46) rfl) (d8 ?_))))
    intro w44 hc45
    replace hc45:=aS hc45 g41
    by_cases p14:((gI g.2 ↑j).1)=((gI g.2 ↑j).2)
    ·
     refine aj rfl (congrArg Bool.not (dt p14)) (av (ak (a8 rfl (lx (aG (m:=↑j) (n:=1) zs36 rfl (by omega)) (mi ((j:Int)+1) (ag ?_))))))
     replace bH:=bH.cn ch42
     refine back12 (j+1,l_v,l,g41) _ _ ⟨bH.cn hc45,zs1,zs5,zs8,zs34,zs35,rfl,Rg.cn hc45,bx5.cn hc45,(o12.cn ch42).cn hc45,o29.cn hc45,(o_l.cn ch42).cn hc45,by omega,?_⟩ ?_
     · show l=bN g (j+1)
       exact po hs (by omega) hl (.inr ‹_›)
     · show Int.toNat (((List.length ((aa g).1):Int):Int)-((j+1):Int))<Int.toNat (((List.length ((aa g).1):Int):Int)-(j:Int))
       omega
    refine al rfl (congrArg Bool.not (df p14)) (a8 rfl (mz zs8 (mi ↑j (lo (aM (α:=Int) g41 (is 6) (is 6) (6,0) rfl [(j:Int)] bf ah (by decide) (by decide) (vs:=[(0,vi ↑j)]) rfl rfl (.cons rfl .nil) ?_)))))
    intro g46 w47 v48 ch49 o50
    refine lo ?_
    have C51:=cg [] (ch42.n.seq (hc45.n.seq ch49.n))
    replace o_l:=o_l.ca C51
    refine bD (α:=Int) (xs:=l) (ys:=([(j:Int)])) g46 (J:=is 7) (S:=is 7) (7,0) rfl bf ah (by decide) rfl rfl rfl o_l o50.flat (by decide) (by(simp;omega)) ?_
    intro g52 w53 v54 ch55 o56
    clear o_l
    refine ma v54 (ag (ak ?_))
    clear o50
    refine a8 rfl (lx (aG (m:=↑j) (n:=1) zs36 rfl (by omega)) (mi ((j:Int)+1) (ag ?_)))
    have C58:=cg [7] (hc45.n.seq (ch49.n.seq (ch55.l rfl)))
    have C57:=ch42.n.seq C58
    refine back12 (j+1,v54,(l++[(j:Int)]),g52) _ _ ⟨bH.ca C57,zs1,zs5,rfl,zs34,zs35,rfl,Rg.ca C58,bx5.ca C58,o12.ca C57,o29.ca C58,o56,by omega,?_⟩ ?_
    · show(l++[(j:Int)])=bN g (j+1)
      exact ry hs (by omega) hl ‹_› ‹_›
    · show Int.toNat (((List.length ((aa g).1):Int):Int)-((j+1):Int))<Int.toNat (((List.length ((aa g).1):Int):Int)-(j:Int))
      omega
   refine aL (wn (df q46)) (aL (wn (df q46)) (aL (wn (df q46)) (aL (wn (df q46)) (aL (wn (df q46)) (aL (wn (df q46)) (aL (wn (df q46)) (aL (wn (df q46)) (aL (wn (df q46)) (aL (wn (df q46)) ?_)))))))))
   refine aL (wn (df q46)) (aL (wn (df q46)) (aL (wn (df q46)) (qv (vb false) (λw' hw'=>aY rfl (df q46) rfl) (d8 ?_))))
   intro w59 hc60
   replace hc60:=aS hc60 g41
   refine aj rfl rfl (av (ak (a8 rfl (lx (aG (m:=↑j) (n:=1) zs36 rfl (by omega)) (mi ((j:Int)+1) (ag ?_))))))
   replace bH:=bH.cn ch42
   refine back12 (j+1,l_v,l,g41) _ _ ⟨bH.cn hc60,zs1,zs5,zs8,zs34,zs35,rfl,(Rg.cn ch42).cn hc60,(bx5.cn ch42).cn hc60,(o12.cn ch42).cn hc60,o29.cn hc60,(o_l.cn ch42).cn hc60,by omega,?_⟩ ?_
   · show l=bN g (j+1)
     exact po hs (by omega) hl (.inl ‹_›)
   · show Int.toNat (((List.length ((aa g).1):Int):Int)-((j+1):Int))<Int.toNat (((List.length ((aa g).1):Int):Int)-(j:Int))
     omega
  refine aj rfl (df p12) (aF rfl (ab ?_))
  clear bx5 o12 o29
  refine a8 rfl (mz zs8 (ma l_v (ai 0 (ag (aQ (vs:=[l_v,vi 0]) Try.func12 (.tmp rfl (.tmp rfl .nil)) ?_)))))
  have e0:(l:List Int)=((aH g).1):=by
    have hj:j=g.2.length:=by omega
    subst hj
    (unfold aH;rw[if_pos hm];exact hl)
  have e1:(0:Int)=((aH g).2):=by
    have hj:j=g.2.length:=by omega
    subst hj
    (unfold aH;rw[if_pos hm];done)
  exact⟨(fin w0 g41 (λn=>if n=7 then 1 else 0),l_v),(dP (a:=l) (b:=0) (λ(z0:List Int) (z1:Int)=>Ending.returned (vt [l_v,vi z1])) e0 e1),bH.fresh _,(e0▸(o_l.glue (γ:=c0) (ren:=(λn=>if n=7 then 1 else 0)) (k:=1) bH.col rfl rfl))⟩
 refine al rfl (congrArg Bool.not (Bool.eq_false_iff.2 p1)) (ab ?_)
 clear bx5
 refine a8 rfl (ma vn (ai 1 (ag (aQ (vs:=[vn,vi 1]) Try.func12 (.tmp rfl (.tmp rfl .nil)) ?_))))
 replace bH:=bH.cn ch2
 replace bH:=bH.cn hb7
 have e0:([]:List Int)=((aH g).1):=by
   have hn:¬bg g:=λh=>p1 (dt h)
   unfold aH;rw[if_neg hn]
 have e1:(1:Int)=((aH g).2):=by
   have hn:¬bg g:=λh=>p1 (dt h)
   unfold aH;rw[if_neg hn]
 exact⟨(fin w0 g4 (λn=>0),vn),(dP (a:=[]) (b:=1) (λ(z0:List Int) (z1:Int)=>Ending.returned (vt [vn,vi z1])) e0 e1),bH.fresh _,(e0▸Ow.nil)⟩
theorem pS(w0:World)(s:List Bool)(s_v:Value)(hs_v:Ro w0 s_v s)(v:Bool):
    Calls Try.prog 76 #[s_v,vb v] w0 (λee w=>ee= .returned (vi (iD s v))/\dT w0.heap.size w0 w):=by
 refine aC Try.func76 rfl nq ?_
 have bH:=bv.start w0
 have Rs:=hs_v.sl
 refine ab (a8 rfl (ai 0 (ag (ab (ab (a8 rfl (mv s_v ?_)))))))
 have len1:=(Rs).small
 refine lx (bu fk rfl Rs) (mi 0 (ag (ar ?_)))
 refine bc (σ:=Nat×aJ) (λ⟨k,gq⟩ f w=>bv w0 gq w/\f 0=s_v/\f 1=vb v/\f 7=vi (s.length:Int)/\f 8=vi ↑k/\Sl gq (is 0) w s_v s/\(k:Int)<=((s.length:Int):Int)/\(∀j:Nat,j<k->¬v=gI s ↑j)) (λ⟨k,gq⟩=>Int.toNat (((s.length:Int):Int)-(k:Int))) (0,c0) ?_ ?_
 · exact⟨bH,rfl,rfl,rfl,rfl,Rs,by omega,by intro j hj;omega⟩
 clear Rs bH
 rintro⟨k,g4⟩ f2 w3 ⟨bH,zs0,zs1,zs7,zs8,Rs,hle_k,hinv⟩ back2
 refine ab (a8 rfl (lx (bn (m:=↑k) (n:=(s.length:Int)) zs8 zs7) (ag (ab ?_))))
 by_cases p2:(k:Int)<(s.length:Int)
 ·
  refine al rfl (dt p2) (av (ab (ar (ab (a8 rfl (mz zs8 (ai (k:Int) (ag (ab (a8 rfl (mz zs1 (mz zs0 ?_))))))))))))
  refine mi ↑k (lx (ae (v:=s_v) (i:=↑k) fk rfl rfl Rs rfl (by omega) (by omega)) (lx (aq (v:=s_v) (i:=↑k) bX rfl Rs (by omega) (by omega) (by decide) rfl) (lw (vb (decide (v=(gI s ↑k)))) (o8 U4 rfl rfl) (ag ?_))))
  by_cases p4:v=(gI s ↑k)
  ·
   refine al rfl (dt p4) (ab (a8 rfl (mi ↑k (ai (k:Int) (ag (aQ (vs:=[vi ↑k]) Try.func76 (.tmp rfl .nil) ?_))))))
   have e0:((k:Int):Int)=(iD s v):=by
     exact qG hinv ‹_› ‹_›
   exact⟨ri e0,bH.below⟩
  refine aj rfl (df p4) (av (ak (a8 rfl (lx (aG (m:=↑k) (n:=1) zs8 rfl (by omega)) (mi ((k:Int)+1) (ag ?_))))))
  refine back2 (k+1,g4) _ _ ⟨bH,zs0,zs1,zs7,rfl,Rs,by omega,?_⟩ ?_
  · show∀j:Nat,j<(k+1)->¬v=gI s ↑j
    intro j hj
    by_cases e0:j=k
    · subst e0;assumption
    · exact hinv j (by omega)
  · show Int.toNat (((s.length:Int):Int)-((k+1):Int))<Int.toNat (((s.length:Int):Int)-(k:Int))
    omega
 refine aj rfl (df p2) (aF rfl (ab (a8 rfl (ai (-1) (ag (aQ (vs:=[vi (-1)]) Try.func76 (.tmp rfl .nil) ?_))))))
 have e0:(-1:Int)=(iD s v):=by
   exact sI hinv ‹_›
 exact⟨ri e0,bH.below⟩
theorem lR(w0:World)(s:List Bool)(s_v:Value)(hs_v:Ro w0 s_v s)(v:Bool):
    Calls Try.prog 59 #[s_v,vb v] w0 (λee w=>ee= .returned (vb (decide (v∈s)))/\dT w0.heap.size w0 w):=by
 refine aC Try.func59 rfl nq ?_
 have bH:=bv.start w0
 have Rs:=hs_v.sl
 refine ab (a8 rfl (ma (vb false) (ag (ab (a8 rfl (mv s_v (mv (vb v) (lo (cC (v:=vi (iD s v)) (b9 (vals:=[s_v,vb v]) Try.func76 rW sq rfl) (pS w0 s s_v (Rs).ro v) ?_)))))))))
 intro w1 hb2
 replace hb2:=aS hb2 c0
 refine lx (gJ (m:=iD s v) (n:=0) rfl rfl) (ma (vb (decide (0<=(iD s v)))) (ag (aQ (vs:=[vb (decide (0<=(iD s v)))]) Try.func59 (.tmp rfl .nil) ?_)))
 have e0:(decide (0<=(iD s v)):Bool)=(decide (v∈s)):=by
   exact qc
 replace bH:=bH.cn hb2
 exact⟨(congrArg (a₁:=decide (0<=(iD s v))) (λ(z0:Bool)=>Ending.returned (vb z0)) e0),bH.below⟩
theorem mM(w0:World)(g:(Int)×(List Pt))(g_v:Value)(hg_v:Ro w0 g_v g.2)(hm:bg g):
    Calls Try.prog 41 #[vg [vi g.1,g_v]] w0 (λee w=>ee= .returned (vb (c9 g))/\dT w0.heap.size w0 w):=by
 refine aC Try.func41 rfl nq ?_
 have bH:=bv.start w0
 have Rg:=hg_v.sl
 have hm0:=hm
 obtain⟨hm1,hm2,hm3,hm4⟩:=hm0
 refine ab (a8 rfl (db rfl (d4 c0 (is 1) (1,0) rfl rfl ?_)))
 intro g4 w1 b3 ch2 bx5
 replace bx5:Bx g4 (is 1) w1 b3 [vi g.1,g_v]:=bx5
 refine ma (vb false) (ag (ab (ab (a8 rfl (lx (ad cZ rfl rfl rfl rfl) (lx (af ah rfl bx5 rfl) (lx (bn (m:=g.1) (n:=2) rfl rfl) (ag ?_))))))))
 by_cases p1:g.1<2
 ·
  refine al rfl (dt p1) (ab ?_)
  clear bx5
  refine a8 rfl (ma (vb false) (ag (aQ (vs:=[vb false]) Try.func41 (.tmp rfl .nil) ?_)))
  have e0:(false:Bool)=(c9 g):=by
    exact nz ‹_›
  replace bH:=bH.cn ch2
  exact⟨rb e0,bH.below⟩
 refine aj rfl (df p1) (av (ab (a8 rfl (lx (ad cZ rfl rfl rfl rfl) (lx (af ah rfl bx5 rfl) (lo (cW (α:=Bool) (l:=g.1) (cp:=g.1) g4 (is 2) (is 2) (2,0) rfl false fk bX rfl rfl rfl (by omega) (by omega) (by omega) (by omega) ?_)))))))
 intro g6 w7 v8 ch9 o10 hcap_
 clear hcap_
 refine ma v8 (ag (ab (ab (a8 rfl (lx (ad cZ rfl rfl rfl rfl) ?_)))))
 replace bx5:=bx5.cn ch9
 refine lx (af bC rfl bx5 rfl) ?_
 replace Rg:=(Rg.cn ch2).cn ch9
 have len11:=(Rg).small
 refine lx (bu dD rfl Rg) (mi 0 (ag (ar ?_)))
 refine bc (σ:=Nat×(List Bool)×aJ) (λ⟨k,at_,gq⟩ f w=>bv w0 gq w/\f 1=vp b3 0/\f 3=v8/\f 13=g_v/\f 14=vi (g.2.length:Int)/\f 15=vi ↑k/\Sl gq (is 0) w g_v g.2/\Bx gq (is 1) w b3 [vi g.1,g_v]/\Ow gq (is 2) (is 2) w v8 at_/\(k:Int)<=((g.2.length:Int):Int)/\(ld g at_ k)) (λ⟨k,at_,gq⟩=>Int.toNat (((g.2.length:Int):Int)-(k:Int))) (0,(List.replicate (Int.toNat g.1) false),g6) ?_ ?_
 replace bH:=bH.cn ch2
 · exact⟨bH.cn ch9,rfl,rfl,rfl,rfl,rfl,Rg,bx5,o10,by omega,by exact ld.start hm1⟩
 clear Rg bx5 o10 bH
 rintro⟨k,at_,g14⟩ f12 w13 ⟨bH,zs1,zs3,zs13,zs14,zs15,Rg,bx5,o10,hle_k,hut⟩ back5
 have htl:=hut.lo
 refine ab (a8 rfl (lx (bn (m:=↑k) (n:=(g.2.length:Int)) zs15 zs14) (ag (ab ?_))))
 by_cases p5:(k:Int)<(g.2.length:Int)
 ·
  refine al rfl (dt p5) ?_
  obtain⟨⟨he1,he2⟩,he3,he4⟩:=hm4 _ (bP (xs:=g.2) (i:=↑k) (by omega) (by omega))
  refine av (ab (ar (ab (a8 rfl (lx (ae (v:=g_v) (i:=↑k) dD rfl zs13 Rg zs15 (by omega) (by omega)) (lw (vg [vi ((gI g.2 ↑k).1),vi ((gI g.2 ↑k).2)]) (dJ (v:=g_v) (i:=↑k) aU rfl Rg (by omega) (by omega) rfl) (lo (bI g14 (is 3) (3,0) rfl aU ?_))))))))
  intro g18 w15 b17 ch16 bx19
  replace bx19:Bx g18 (is 3) w15 b17 [vi 0,vi 0]:=bx19
  refine lo (aI (cs':=[vi ((gI g.2 ↑k).1),vi ((gI g.2 ↑k).2)]) aU rfl rfl bx19 rfl nq (AllOne.all (.cons rfl (.cons rfl .nil))) rfl ?_)
  intro w20 ch21 bx22
  clear bx19
  refine ag (ab (ab (a8 rfl (lx (cK dg rfl rfl rfl (by decide) (by decide) rfl) (lx (af ah rfl bx22 rfl) (lx (cK dg rfl rfl rfl (by decide) (by decide) rfl) (lx (af ah rfl bx22 rfl) (lx (cH (m:=(gI g.2 ↑k).1) (n:=(gI g.2 ↑k).2) rfl rfl) (ag ?_)))))))))
  by_cases p7:((gI g.2 ↑k).1)=((gI g.2 ↑k).2)
  ·
   refine al rfl (dt p7) (ab ?_)
   clear bx5 o10 bx22
   refine a8 rfl (ma (vb false) (ag (aQ (vs:=[vb false]) Try.func41 (.tmp rfl .nil) ?_)))
   have e0:(false:Bool)=(c9 g):=by
     exact o3 ‹_› ‹_›
   replace bH:=bH.cn ch16
   replace bH:=bH.ce ch21
   exact⟨rb e0,bH.below⟩
  refine aj rfl (df p7) (av ?_)
  refine d3 (σ:=aJ) (λgq f w=>bv w0 gq w/\f 1=vp b3 0/\f 3=v8/\f 13=g_v/\f 14=vi (g.2.length:Int)/\f 15=vi ↑k/\Sl gq (is 0) w g_v g.2/\Bx gq (is 1) w b3 [vi g.1,g_v]/\Ow gq (is 2) (is 2) w v8 (List.set (List.set at_ (Int.toNat ((gI g.2 ↑k).1)) true) (Int.toNat ((gI g.2 ↑k).2)) true)) g18 (inl [2]) nc ?_ ?_
  ·
   intro mid
   intro w24 ch23
   refine ht (v:=v8) 0 rfl (bp.refl _ _ _) (λw' hw'=>au zs3) (ht (v:=v8) 3 rfl (bp.refl _ _ _) (λw' hw'=>au zs3) ?_)
   refine cD 1 [4] (by kernel_rfl) ⟨cA 1 rfl (by kernel_rfl) rfl ?_,cA 4 rfl (by kernel_rfl) rfl ?_,trivial⟩
   ·
    refine az (v:=vp b17 0) (cK dg rfl rfl rfl (by decide) (by decide) rfl) ?_
    refine⟨(bp.refl _ _ _),?_⟩
    replace bx22:=bx22.cn ch23
    refine ht 2 rfl (bp.refl _ _ _) (λw' hw'=>af ah rfl (bx22.chg hw' (bZ rfl)) rfl) ?_
    refine cD 4 [6] (by kernel_rfl) ⟨cA 4 rfl (by kernel_rfl) rfl ?_,cA 6 rfl (by kernel_rfl) rfl ?_,trivial⟩
    ·
     refine az (v:=vp b17 1) (cK dg rfl rfl rfl (by decide) (by decide) rfl) ?_
     refine⟨(bp.refl _ _ _),?_⟩
     refine ht 5 rfl (bp.refl _ _ _) (λw' hw'=>af ah rfl (bx22.chg hw' (bZ rfl)) rfl) (aV 6 rfl (by kernel_rfl) rfl ?_)
     have C25:=cg [3] (ch16.n.seq ((ch21.l rfl).seq ch23.n))
     replace o10:=o10.ca C25
     refine az (v:=Value.pointer (some (aZ v8 1 (Int.toNat ((gI g.2 ↑k).1))))) (ae (α:=Bool) (xs:=at_) (v:=v8) (i:=(gI g.2 ↑k).1) fk rfl rfl o10.flat rfl (by omega) (by omega)) ?_
     refine⟨(bp.refl _ _ _),?_⟩
     refine aV 7 rfl (by kernel_rfl) rfl (aD (i:=(gI g.2 ↑k).1) true bX rfl rfl o10 (by omega) (by omega) rfl ?_)
     intro w26 ch27 bx28
     clear o10
     have hs29:bp (inl [2]) _ _ _ _:=ch27.l rfl
     refine⟨hs29.same,?_⟩
     refine aV 8 rfl (by kernel_rfl) rfl (az (v:=Value.pointer (some (aZ v8 1 (Int.toNat ((gI g.2 ↑k).2))))) (ae (α:=Bool) (xs:=(List.set at_ (Int.toNat ((gI g.2 ↑k).1)) true)) (v:=v8) (i:=(gI g.2 ↑k).2) fk rfl rfl bx28.flat rfl (by omega) (by(simp only[List.length_set,List.length_append,List.length_cons,List.length_nil,List.length_replicate,List.length_map,List.length_take,List.length_drop];omega))) ?_)
     refine⟨hs29.same,?_⟩
     refine aV 9 rfl (by kernel_rfl) rfl (aD (i:=(gI g.2 ↑k).2) true bX rfl rfl bx28 (by omega) (by(simp only[List.length_set,List.length_append,List.length_cons,List.length_nil,List.length_replicate,List.length_map,List.length_take,List.length_drop];omega)) rfl ?_)
     intro w30 ch31 bx32
     clear bx28
     have hs33:=hs29.seq (ch31.l rfl)
     refine⟨hs33.same,?_⟩
     refine cy (by kernel_rfl) ?_
     have C34:=cg [2,3] (ch16.n.seq ((ch21.l rfl).seq (ch23.n.seq ((ch27.l rfl).seq (ch31.l rfl)))))
     replace Rg:=Rg.ca C25
     replace bx5:=bx5.ca C25
     exact mid (g18) _ _ ⟨bH.ca C34,zs1,zs3,zs13,zs14,zs15,(Rg.ca hs33),(bx5.ca hs33),bx32⟩
    ·
     have C35:=cg [3] (ch16.n.seq ((ch21.l rfl).seq ch23.n))
     replace o10:=o10.ca C35
     refine az (v:=Value.pointer (some (aZ v8 1 (Int.toNat ((gI g.2 ↑k).1))))) (ae (α:=Bool) (xs:=at_) (v:=v8) (i:=(gI g.2 ↑k).1) fk rfl rfl o10.flat rfl (by omega) (by omega)) ?_
     refine⟨(bp.refl _ _ _),?_⟩
     refine cD 4 [7] (by kernel_rfl) ⟨cA 4 rfl (by kernel_rfl) rfl ?_,cA 7 rfl (by kernel_rfl) rfl ?_,trivial⟩
     ·
      refine az (v:=vp b17 1) (cK dg rfl rfl rfl (by decide) (by decide) rfl) ?_
      refine⟨(bp.refl _ _ _),?_⟩
      refine ht 5 rfl (bp.refl _ _ _) (λw' hw'=>af ah rfl (bx22.chg hw' (bZ rfl)) rfl) (aV 7 rfl (by kernel_rfl) rfl (aD (i:=(gI g.2 ↑k).1) true bX rfl rfl o10 (by omega) (by omega) rfl ?_))
      intro w36 ch37 bx38
      clear o10
      have hs39:bp (inl [2]) _ _ _ _:=ch37.l rfl
      refine⟨hs39.same,?_⟩
      refine aV 8 rfl (by kernel_rfl) rfl (az (v:=Value.pointer (some (aZ v8 1 (Int.toNat ((gI g.2 ↑k).2))))) (ae (α:=Bool) (xs:=(List.set at_ (Int.toNat ((gI g.2 ↑k).1)) true)) (v:=v8) (i:=(gI g.2 ↑k).2) fk rfl rfl bx38.flat rfl (by omega) (by(simp only[List.length_set,List.length_append,List.length_cons,List.length_nil,List.length_replicate,List.length_map,List.length_take,List.length_drop];omega))) ?_)
      refine⟨hs39.same,?_⟩
      refine aV 9 rfl (by kernel_rfl) rfl (aD (i:=(gI g.2 ↑k).2) true bX rfl rfl bx38 (by omega) (by(simp only[List.length_set,List.length_append,List.length_cons,List.length_nil,List.length_replicate,List.length_map,List.length_take,List.length_drop];omega)) rfl ?_)
      intro w40 ch41 bx42
      clear bx38
      have hs43:=hs39.seq (ch41.l rfl)
      refine⟨hs43.same,?_⟩
      refine cy (by kernel_rfl) ?_
      have C44:=cg [2,3] (ch16.n.seq ((ch21.l rfl).seq (ch23.n.seq ((ch37.l rfl).seq (ch41.l rfl)))))
      replace Rg:=Rg.ca C35
      replace bx5:=bx5.ca C35
      exact mid (g18) _ _ ⟨bH.ca C44,zs1,zs3,zs13,zs14,zs15,(Rg.ca hs43),(bx5.ca hs43),bx42⟩
     ·
      refine aD (i:=(gI g.2 ↑k).1) true bX rfl rfl o10 (by omega) (by omega) rfl ?_
      intro w45 ch46 bx47
      clear o10
      have hs48:bp (inl [2]) _ _ _ _:=ch46.l rfl
      refine⟨hs48.same,?_⟩
      refine aV 4 rfl (by kernel_rfl) rfl (az (v:=vp b17 1) (cK dg rfl rfl rfl (by decide) (by decide) rfl) ?_)
      refine⟨hs48.same,?_⟩
      refine ht 5 rfl hs48.same (λw' hw'=>af ah rfl (bx22.chg hw' (bZ rfl)) rfl) (aV 8 rfl (by kernel_rfl) rfl (az (v:=Value.pointer (some (aZ v8 1 (Int.toNat ((gI g.2 ↑k).2))))) (ae (α:=Bool) (xs:=(List.set at_ (Int.toNat ((gI g.2 ↑k).1)) true)) (v:=v8) (i:=(gI g.2 ↑k).2) fk rfl rfl bx47.flat rfl (by omega) (by(simp only[List.length_set,List.length_append,List.length_cons,List.length_nil,List.length_replicate,List.length_map,List.length_take,List.length_drop];omega))) ?_))
      refine⟨hs48.same,?_⟩
      refine aV 9 rfl (by kernel_rfl) rfl (aD (i:=(gI g.2 ↑k).2) true bX rfl rfl bx47 (by omega) (by(simp only[List.length_set,List.length_append,List.length_cons,List.length_nil,List.length_replicate,List.length_map,List.length_take,List.length_drop];omega)) rfl ?_)
      intro w49 ch50 bx51
      clear bx47
      have hs52:=hs48.seq (ch50.l rfl)
      refine⟨hs52.same,?_⟩
      refine cy (by kernel_rfl) ?_
      have C53:=cg [2,3] (ch16.n.seq ((ch21.l rfl).seq (ch23.n.seq ((ch46.l rfl).seq (ch50.l rfl)))))
      replace Rg:=Rg.ca C35
      replace bx5:=bx5.ca C35
      exact mid (g18) _ _ ⟨bH.ca C53,zs1,zs3,zs13,zs14,zs15,(Rg.ca hs52),(bx5.ca hs52),bx51⟩
   ·
    refine az (v:=vp b17 1) (cK dg rfl rfl rfl (by decide) (by decide) rfl) ?_
    refine⟨(bp.refl _ _ _),?_⟩
    replace bx22:=bx22.cn ch23
    refine ht 5 rfl (bp.refl _ _ _) (λw' hw'=>af ah rfl (bx22.chg hw' (bZ rfl)) rfl) (aV 1 rfl (by kernel_rfl) rfl (az (v:=vp b17 0) (cK dg rfl rfl rfl (by decide) (by decide) rfl) ?_))
    refine⟨(bp.refl _ _ _),?_⟩
    refine ht 2 rfl (bp.refl _ _ _) (λw' hw'=>af ah rfl (bx22.chg hw' (bZ rfl)) rfl) (aV 6 rfl (by kernel_rfl) rfl ?_)
    have C54:=cg [3] (ch16.n.seq ((ch21.l rfl).seq ch23.n))
    replace o10:=o10.ca C54
    refine az (v:=Value.pointer (some (aZ v8 1 (Int.toNat ((gI g.2 ↑k).1))))) (ae (α:=Bool) (xs:=at_) (v:=v8) (i:=(gI g.2 ↑k).1) fk rfl rfl o10.flat rfl (by omega) (by omega)) ?_
    refine⟨(bp.refl _ _ _),?_⟩
    refine aV 7 rfl (by kernel_rfl) rfl (aD (i:=(gI g.2 ↑k).1) true bX rfl rfl o10 (by omega) (by omega) rfl ?_)
    intro w55 ch56 bx57
    clear o10
    have hs58:bp (inl [2]) _ _ _ _:=ch56.l rfl
    refine⟨hs58.same,?_⟩
    refine aV 8 rfl (by kernel_rfl) rfl (az (v:=Value.pointer (some (aZ v8 1 (Int.toNat ((gI g.2 ↑k).2))))) (ae (α:=Bool) (xs:=(List.set at_ (Int.toNat ((gI g.2 ↑k).1)) true)) (v:=v8) (i:=(gI g.2 ↑k).2) fk rfl rfl bx57.flat rfl (by omega) (by(simp only[List.length_set,List.length_append,List.length_cons,List.length_nil,List.length_replicate,List.length_map,List.length_take,List.length_drop];omega))) ?_)
    refine⟨hs58.same,?_⟩
    refine aV 9 rfl (by kernel_rfl) rfl (aD (i:=(gI g.2 ↑k).2) true bX rfl rfl bx57 (by omega) (by(simp only[List.length_set,List.length_append,List.length_cons,List.length_nil,List.length_replicate,List.length_map,List.length_take,List.length_drop];omega)) rfl ?_)
    intro w59 ch60 bx61
    clear bx57
    have hs62:=hs58.seq (ch60.l rfl)
    refine⟨hs62.same,?_⟩
    refine cy (by kernel_rfl) ?_
    have C63:=cg [2,3] (ch16.n.seq ((ch21.l rfl).seq (ch23.n.seq ((ch56.l rfl).seq (ch60.l rfl)))))
    replace Rg:=Rg.ca C54
    replace bx5:=bx5.ca C54
    exact mid (g18) _ _ ⟨bH.ca C63,zs1,zs3,zs13,zs14,zs15,(Rg.ca hs62),(bx5.ca hs62),bx61⟩
  clear Rg bx5 o10 bx22 bH
  rintro g66 f64 w65 ⟨bH,zs1,zs3,zs13,zs14,zs15,Rg,bx5,bx32⟩
  refine ak (a8 rfl (lx (aG (m:=↑k) (n:=1) zs15 rfl (by omega)) (mi ((k:Int)+1) (ag ?_))))
  refine back5 (k+1,(List.set (List.set at_ (Int.toNat ((gI g.2 ↑k).1)) true) (Int.toNat ((gI g.2 ↑k).2)) true),g66) _ _ ⟨bH,zs1,zs3,zs13,zs14,rfl,Rg,bx5,bx32,by omega,?_⟩ ?_
  · show ld g (List.set (List.set at_ (Int.toNat ((gI g.2 ↑k).1)) true) (Int.toNat ((gI g.2 ↑k).2)) true) (k+1)
    exact hut.next (by omega) ‹_›
  · show Int.toNat (((g.2.length:Int):Int)-((k+1):Int))<Int.toNat (((g.2.length:Int):Int)-(k:Int))
    omega
 refine aj rfl (df p5) (aF rfl (ab (a8 rfl (mz zs3 (lo (cC (v:=vb (decide (false∈at_))) (b9 (vals:=[v8,vb false]) Try.func59 sK te rfl) (lR w13 at_ v8 (o10.flat).ro false) ?_))))))
 intro w67 hb68
 replace hb68:=aS hb68 g14
 refine lx (ek (b:=(decide (false∈at_))) rfl) (mv (vb (!(decide (false∈at_)))) ?_)
 by_cases q36:(decide (false∈at_))=true
 ·
  refine ax (wn (congrArg Bool.not q36)) (ax (wn (congrArg Bool.not q36)) (ax (wn (congrArg Bool.not q36)) (ax (wn (congrArg Bool.not q36)) (lw (vb false) (aY rfl (congrArg Bool.not q36) rfl) (ma (vb false) (ag (aQ (vs:=[vb false]) Try.func41 (.tmp rfl .nil) ?_)))))))
  have e0:(false:Bool)=(c9 g):=by
    exact pL hut (by omega) (of_decide_eq_true ‹_›)
  replace bH:=bH.cn hb68
  exact⟨rb e0,bH.below⟩
 replace bx5:=bx5.cn hb68
 refine lv (vg [vi g.1,g_v]) (wy (congrArg Bool.not (Bool.eq_false_iff.2 q36))) (aB (ds:=[vi g.1,g_v]) ch zs1 bx5 rfl rfl) ?_
 replace Rg:=Rg.cn hb68
 refine db (wy (congrArg Bool.not (Bool.eq_false_iff.2 q36))) (ck (b9 (vals:=[vg [vi g.1,g_v]]) Try.func37 kk kh rfl) (ib w67 g g_v (Rg).ro (by exact hm)) ?_)
 rintro⟨d70,v72,v74⟩ w69 ⟨fr71,o73,o75⟩
 obtain⟨g76,ch77,G76⟩:=jh g14 fr71 (λn=>if n=1 then 4 else if n=2 then 5 else 0)
 replace o73:=o73.gl G76 4
 replace o75:=o75.gl G76 5
 refine lv (vi (((aa g).2).2)) (wy (congrArg Bool.not (Bool.eq_false_iff.2 q36))) (my eD rfl ah rfl rfl) (lv (vb (decide ((((aa g).2).2)=1))) (wy (congrArg Bool.not (Bool.eq_false_iff.2 q36))) (cH (m:=((aa g).2).2) (n:=1) rfl rfl) (lw (vb (decide ((((aa g).2).2)=1))) (b5 rfl (congrArg Bool.not (Bool.eq_false_iff.2 q36)) rfl) (ma (vb (decide ((((aa g).2).2)=1))) (ag (aQ (vs:=[vb (decide ((((aa g).2).2)=1))]) Try.func41 (.tmp rfl .nil) ?_)))))
 have e0:(decide ((((aa g).2).2)=1):Bool)=(c9 g):=by
   exact qT hut (by omega) ‹_› (λhf=>absurd (dt hf) ‹_›)
 replace bH:=bH.cn hb68
 replace bH:=bH.cn ch77
 exact⟨(congrArg (a₁:=decide ((((aa g).2).2)=1)) (λ(z0:Bool)=>Ending.returned (vb z0)) e0),bH.below⟩
theorem mV(w0:World)(g:(Int)×(List Pt))(g_v:Value)(hg_v:Ro w0 g_v g.2):
    Calls Try.prog 14 #[vg [vi g.1,g_v]] w0 (λee w=>ee= .returned (vt [vb ((bF g).1),vi ((bF g).2)])/\dT w0.heap.size w0 w):=by
 refine aC Try.func14 rfl nq ?_
 have bH:=bv.start w0
 have Rg:=hg_v.sl
 refine ab (a8 rfl (db rfl (d4 c0 (is 1) (1,0) rfl rfl ?_)))
 intro g4 w1 b3 ch2 bx5
 replace bx5:Bx g4 (is 1) w1 b3 [vi g.1,g_v]:=bx5
 refine ma (vb false) (ai 0 (ag (ab (ab (a8 rfl (lx (aB (ds:=[vi g.1,g_v]) ch rfl bx5 rfl rfl) ?_))))))
 replace Rg:=Rg.cn ch2
 refine lo (cC (v:=vb (d5 g)) (b9 (vals:=[vg [vi g.1,g_v]]) Try.func36 ia i7 rfl) (ji w1 g g_v (Rg).ro) ?_)
 intro w6 hb7
 replace hb7:=aS hb7 g4
 refine lx (ek (b:=(d5 g)) rfl) (ag ?_)
 by_cases p1:(d5 g)=true
 ·
  refine aj rfl (congrArg Bool.not p1) (av (ab (a8 rfl ?_)))
  replace bx5:=bx5.cn hb7
  refine lx (aB (ds:=[vi g.1,g_v]) ch rfl bx5 rfl rfl) ?_
  replace Rg:=Rg.cn hb7
  refine lo (cC (v:=vb (c9 g)) (b9 (vals:=[vg [vi g.1,g_v]]) Try.func41 oY pi rfl) (mM w6 g g_v (Rg).ro (by exact of_decide_eq_true p1)) ?_)
  intro w8 hb9
  replace hb9:=aS hb9 g4
  refine ma (vb (c9 g)) (ai 0 (ag (aQ (vs:=[vb (c9 g),vi 0]) Try.func14 (.tmp rfl (.tmp rfl .nil)) ?_)))
  have e0:((c9 g):Bool)=((bF g).1):=by
    have hm:=of_decide_eq_true p1
    unfold bF;rw[if_pos hm]
  have e1:(0:Int)=((bF g).2):=by
    have hm:=of_decide_eq_true p1
    unfold bF;rw[if_pos hm]
  have C10:=cg [] (ch2.n.seq (hb7.n.seq hb9.n))
  replace bH:=bH.ca C10
  exact⟨(dP (a:=(c9 g)) (b:=0) (λ(z0:Bool) (z1:Int)=>Ending.returned (vt [vb z0,vi z1])) e0 e1),bH.below⟩
 refine al rfl (congrArg Bool.not (Bool.eq_false_iff.2 p1)) (ab ?_)
 clear bx5
 refine a8 rfl (ma (vb false) (ai 1 (ag (aQ (vs:=[vb false,vi 1]) Try.func14 (.tmp rfl (.tmp rfl .nil)) ?_))))
 have e0:(false:Bool)=((bF g).1):=by
   have hn:¬bg g:=λh=>p1 (dt h)
   unfold bF;rw[if_neg hn]
 have e1:(1:Int)=((bF g).2):=by
   have hn:¬bg g:=λh=>p1 (dt h)
   unfold bF;rw[if_neg hn]
 replace bH:=bH.cn ch2
 replace bH:=bH.cn hb7
 exact⟨(dP (a:=false) (b:=1) (λ(z0:Bool) (z1:Int)=>Ending.returned (vt [vb z0,vi z1])) e0 e1),bH.below⟩
end TL
