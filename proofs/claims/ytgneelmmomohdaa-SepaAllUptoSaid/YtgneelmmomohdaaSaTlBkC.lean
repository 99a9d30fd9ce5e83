import Derived.Test.YtgneelmmomohdaaSaTlP5
import Derived.Test.YtgneelmmomohdaaSaTlGmA
import Derived.Test.YtgneelmmomohdaaSaTlGenA
import Derived.Test.YtgneelmmomohdaaSaTlBkB
import Derived.Test.YtgneelmmomohdaaProg
import Derived.Test.YtgneelmmomohdaaSaTlAli
set_option linter.all false
set_option maxRecDepth 20000
namespace TL
open Go Go.Proofs
theorem xu:Try.prog.follows .mixedOrders=true:=by kernel_rfl
theorem A3:Try.f59.body.isNone=false:=rfl
theorem Av:(Try.f59.name== "runtime.NumGoroutine")=false:=by decide+kernel
theorem zu:Try.f75.body.isNone=false:=rfl
theorem zM:(Try.f75.name== "runtime.NumGoroutine")=false:=by decide+kernel
theorem uH:Try.f76.body.isNone=false:=rfl
theorem ud:(Try.f76.name== "runtime.NumGoroutine")=false:=by decide+kernel
theorem AX:Try.f92.body.isNone=false:=rfl
theorem zo:(Try.f92.name== "runtime.NumGoroutine")=false:=by decide+kernel
theorem td(w0:World)(g:(Int)×(List Pt))(g_v:Value)(hg_v:Ro w0 g_v g.2):
    Calls Try.prog 73 #[vg [vi g.1,g_v]] w0 (λee w=>∃xx:aG×Value×Value,ee= .returned ((λ⟨δ,rv0,rv1⟩=>vt [vg [rv0,rv1,vi ((((da g).1).2).2)],vi ((da g).2)]) xx)/\(λ(⟨δ,rv0,rv1⟩:aG×Value×Value) (w:World)=>eB w0 δ w/\Ow δ (is 1) (is 1) w rv0 (((da g).1).1)/\Ow δ (is 2) (is 2) w rv1 ((((da g).1).2).1)) xx w):=by
 refine av Try.func73 rfl nq ?_
 have bH:=bn.start w0
 have Rg:=hg_v.sl
 refine aa (a8 rfl (cB rfl (cr c0 (is 1) (1,0) rfl rfl ?_)))
 intro g4 w1 b3 ch2 bx5
 replace bx5:Bx g4 (is 1) w1 b3 [vi g.1,g_v]:=bx5
 refine lo (bP g4 (is 2) (2,0) rfl fg ?_)
 intro g9 w6 b8 ch7 bx10
 replace bx10:Bx g9 (is 2) w6 b8 [vn,vn,vi 0]:=bx10
 refine ai 0 (ab (aa (aa (a8 rfl ?_))))
 replace bx5:=bx5.cn ch7
 refine lx (aB (ds:=[vi g.1,g_v]) aK rfl bx5 rfl rfl) ?_
 replace Rg:=(Rg.cn ch2).cn ch7
 refine lo (bW (v:=vb (dw g)) (aN (vals:=[vg [vi g.1,g_v]]) Try.func28 j9 js rfl) (ju w6 g g_v (Rg).ro) ?_)
 intro w11 hb12
 replace hb12:=aS hb12 g9
 refine lx (dZ (b:=(dw g)) rfl) (ab ?_)
 by_cases p1:(dw g)=true
 ·
  refine ag rfl (congrArg Bool.not p1) (aq (aa (a8 rfl ?_)))
  replace bx5:=bx5.cn hb12
  refine lx (aB (ds:=[vi g.1,g_v]) aK rfl bx5 rfl rfl) ?_
  replace Rg:=Rg.cn hb12
  refine lo (bQ (aN (vals:=[vg [vi g.1,g_v]]) Try.func76 uH ud rfl) (oL w11 g g_v (Rg).ro (by exact of_decide_eq_true p1)) ?_)
  rintro⟨d14,v16,v18⟩ w13 ⟨fr15,o17,o19⟩
  obtain⟨g20,ch21,G20⟩:=ia g9 fr15 (λn=>if n=1 then 3 else if n=2 then 4 else 0)
  replace o17:=o17.gl G20 3
  replace o19:=o19.gl G20 4
  refine lo ?_
  replace bx10:=(bx10.cn hb12).cn ch21
  refine aT (cs':=[v16,v18,vi (((c7 g).2).2)]) fg rfl rfl bx10 rfl nq (AllOne.all (.cons (bK o17.flat) (.cons (bK o19.flat) (.cons rfl .nil)))) rfl ?_
  intro w22 ch23 bx24
  clear bx10
  refine ai 0 (ab (aD (vs:=[vg [v16,v18,vi (((c7 g).2).2)],vi 0]) Try.func73 (.cell rfl (cF (ds:=[v16,v18,vi (((c7 g).2).2)]) fg bx24 rfl rfl) (.tmp rfl .nil)) ?_))
  have C25:=cg [2] (ch2.n.seq (ch7.n.seq (hb12.n.seq (ch21.n.seq (ch23.l rfl)))))
  replace bH:=bH.ca C25
  replace o17:=o17.ce ch23
  replace o19:=o19.ce ch23
  have e0:(((c7 g).1,((c7 g).2).1,((c7 g).2).2):(List Int)×(List Int)×(Int))=((da g).1):=by
    have hm:=of_decide_eq_true p1
    (unfold da;rw[if_pos hm];rfl)
  have e1:(0:Int)=((da g).2):=by
    have hm:=of_decide_eq_true p1
    (unfold da;rw[if_pos hm];done)
  exact⟨(fin w0 g20 (λn=>if n=3 then 1 else if n=4 then 2 else 0),v16,v18),(cT (a:=((c7 g).1,((c7 g).2).1,((c7 g).2).2)) (b:=0) (λ(z0:(List Int)×(List Int)×(Int)) (z1:Int)=>Ending.returned (vt [vg [v16,v18,vi z0.2.2],vi z1])) e0 e1),bH.fresh _,((congrArg (λ(z:(List Int)×(List Int)×(Int))=>z.1) e0)▸(o17.glue (γ:=c0) (ren:=(λn=>if n=3 then 1 else if n=4 then 2 else 0)) (k:=1) bH.col rfl rfl)),((congrArg (λ(z:(List Int)×(List Int)×(Int))=>z.2.1) e0)▸(o19.glue (γ:=c0) (ren:=(λn=>if n=3 then 1 else if n=4 then 2 else 0)) (k:=2) bH.col rfl rfl))⟩
 refine ah rfl (congrArg Bool.not (Bool.eq_false_iff.2 p1)) (aa ?_)
 clear bx5
 refine a8 rfl (lw (vg [vn,vn,vi 0]) (bS (vs:=[]) rfl (by kernel_rfl)) (lo ?_))
 replace bx10:=bx10.cn hb12
 refine aT (cs':=[vn,vn,vi 0]) fg rfl rfl bx10 rfl nq (AllOne.all (.cons rfl (.cons rfl (.cons rfl .nil)))) rfl ?_
 intro w26 ch27 bx28
 clear bx10
 refine ai 1 (ab (aD (vs:=[vg [vn,vn,vi 0],vi 1]) Try.func73 (.cell rfl (cF (ds:=[vn,vn,vi 0]) fg bx28 rfl rfl) (.tmp rfl .nil)) ?_))
 have C29:=cg [2] (ch2.n.seq (ch7.n.seq (hb12.n.seq (ch27.l rfl))))
 replace bH:=bH.ca C29
 have e0:(([],[],0):(List Int)×(List Int)×(Int))=((da g).1):=by
   have hn:¬aX g:=λh=>p1 (dt h)
   unfold da;rw[if_neg hn]
 have e1:(1:Int)=((da g).2):=by
   have hn:¬aX g:=λh=>p1 (dt h)
   unfold da;rw[if_neg hn]
 exact⟨(fin w0 g9 (λn=>0),vn,vn),(cT (a:=([],[],0)) (b:=1) (λ(z0:(List Int)×(List Int)×(Int)) (z1:Int)=>Ending.returned (vt [vg [vn,vn,vi z0.2.2],vi z1])) e0 e1),bH.fresh _,((congrArg (λ(z:(List Int)×(List Int)×(Int))=>z.1) e0)▸Ow.nil),((congrArg (λ(z:(List Int)×(List Int)×(Int))=>z.2.1) e0)▸Ow.nil)⟩
theorem vq(w0:World)(s:List Bool)(s_v:Value)(hs_v:Ro w0 s_v s)(v:Bool):
    Calls Try.prog 92 #[s_v,vb v] w0 (λee w=>ee= .returned (vi (kf s v))/\ep w0.heap.size w0 w):=by
 refine av Try.func92 rfl nq ?_
 have bH:=bn.start w0
 have Rs:=hs_v.sl
 refine aa (a8 rfl (ai 0 (ab (aa (aa (a8 rfl (mv s_v ?_)))))))
 have len1:=(Rs).small
 refine lx (bq gj rfl Rs) (mi 0 (ab (ao ?_)))
 refine aY (σ:=Nat×aG) (λ⟨k,gq⟩ f w=>bn w0 gq w/\f 0=s_v/\f 1=vb v/\f 7=vi (s.length:Int)/\f 8=vi ↑k/\Sl gq (is 0) w s_v s/\(k:Int)<=((s.length:Int):Int)/\(∀j:Nat,j<k->¬v=gI s ↑j)) (λ⟨k,gq⟩=>Int.toNat (((s.length:Int):Int)-(k:Int))) (0,c0) ?_ ?_
 · exact⟨bH,rfl,rfl,rfl,rfl,Rs,by omega,by intro j hj;omega⟩
 clear Rs bH
 rintro⟨k,g4⟩ f2 w3 ⟨bH,zs0,zs1,zs7,zs8,Rs,hle_k,hinv⟩ back2
 refine aa (a8 rfl (lx (bm (m:=↑k) (n:=(s.length:Int)) zs8 zs7) (ab (aa ?_))))
 by_cases p2:(k:Int)<(s.length:Int)
 ·
  refine ah rfl (dt p2) (aq (aa (ao (aa (a8 rfl (mz zs8 (ai (k:Int) (ab (aa (a8 rfl (mz zs1 (mz zs0 ?_))))))))))))
  refine mi ↑k (lx (ad (v:=s_v) (i:=↑k) gj rfl rfl Rs rfl (by omega) (by omega)) (lx (az (v:=s_v) (i:=↑k) cO rfl Rs (by omega) (by omega) (by decide) rfl) (lw (vb (decide (v=(gI s ↑k)))) (sT U4 rfl rfl) (ab ?_))))
  by_cases p4:v=(gI s ↑k)
  ·
   refine ah rfl (dt p4) (aa (a8 rfl (mi ↑k (ai (k:Int) (ab (aD (vs:=[vi ↑k]) Try.func92 (.tmp rfl .nil) ?_))))))
   have e0:((k:Int):Int)=(kf s v):=by
     exact wK hinv ‹_› ‹_›
   exact⟨ri e0,bH.below⟩
  refine ag rfl (df p4) (aq (am (a8 rfl (lx (aI (m:=↑k) (n:=1) zs8 rfl (by omega)) (mi ((k:Int)+1) (ab ?_))))))
  refine back2 (k+1,g4) _ _ ⟨bH,zs0,zs1,zs7,rfl,Rs,by omega,?_⟩ ?_
  · show∀j:Nat,j<(k+1)->¬v=gI s ↑j
    intro j hj
    by_cases e0:j=k
    · subst e0;assumption
    · exact hinv j (by omega)
  · show Int.toNat (((s.length:Int):Int)-((k+1):Int))<Int.toNat (((s.length:Int):Int)-(k:Int))
    omega
 refine ag rfl (df p2) (aH rfl (aa (a8 rfl (ai (-1) (ab (aD (vs:=[vi (-1)]) Try.func92 (.tmp rfl .nil) ?_))))))
 have e0:(-1:Int)=(kf s v):=by
   exact AY hinv ‹_›
 exact⟨ri e0,bH.below⟩
theorem pH(w0:World)(s:List Bool)(s_v:Value)(hs_v:Ro w0 s_v s)(v:Bool):
    Calls Try.prog 75 #[s_v,vb v] w0 (λee w=>ee= .returned (vb (decide (v∈s)))/\ep w0.heap.size w0 w):=by
 refine av Try.func75 rfl nq ?_
 have bH:=bn.start w0
 have Rs:=hs_v.sl
 refine aa (a8 rfl (ma (vb false) (ab (aa (a8 rfl (mv s_v (mv (vb v) (lo (bW (v:=vi (kf s v)) (aN (vals:=[s_v,vb v]) Try.func92 AX zo rfl) (vq w0 s s_v (Rs).ro v) ?_)))))))))
 intro w1 hb2
 replace hb2:=aS hb2 c0
 refine lx (eO (m:=kf s v) (n:=0) rfl rfl) (ma (vb (decide (0<=(kf s v)))) (ab (aD (vs:=[vb (decide (0<=(kf s v)))]) Try.func75 (.tmp rfl .nil) ?_)))
 have e0:(decide (0<=(kf s v)):Bool)=(decide (v∈s)):=by
   exact uR
 replace bH:=bH.cn hb2
 exact⟨(congrArg (a₁:=decide (0<=(kf s v))) (λ(z0:Bool)=>Ending.returned (vb z0)) e0),bH.below⟩
theorem wl(w0:World)(g:(Int)×(List Pt))(g_v:Value)(hg_v:Ro w0 g_v g.2)(hm:aX g):
    Calls Try.prog 59 #[vg [vi g.1,g_v]] w0 (λee w=>ee= .returned (vb (bY g))/\ep w0.heap.size w0 w):=by
 refine av Try.func59 rfl nq ?_
 have bH:=bn.start w0
 have Rg:=hg_v.sl
 have hm0:=hm
 obtain⟨hm1,hm2,hm3,hm4⟩:=hm0
 refine aa (a8 rfl (cB rfl (cr c0 (is 1) (1,0) rfl rfl ?_)))
 intro g4 w1 b3 ch2 bx5
 replace bx5:Bx g4 (is 1) w1 b3 [vi g.1,g_v]:=bx5
 refine ma (vb false) (ab (aa (aa (a8 rfl (lx (af cW rfl rfl rfl rfl) (lx (ae aj rfl bx5 rfl) (lx (bm (m:=g.1) (n:=2) rfl rfl) (ab ?_))))))))
 by_cases p1:g.1<2
 ·
  refine ah rfl (dt p1) (aa ?_)
  clear bx5
  refine a8 rfl (ma (vb false) (ab (aD (vs:=[vb false]) Try.func59 (.tmp rfl .nil) ?_)))
  have e0:(false:Bool)=(bY g):=by
    exact rO ‹_›
  replace bH:=bH.cn ch2
  exact⟨rb e0,bH.below⟩
 refine ag rfl (df p1) (aq (aa (a8 rfl (lx (af cW rfl rfl rfl rfl) (lx (ae aj rfl bx5 rfl) (lo (dL (α:=Bool) (l:=g.1) (cp:=g.1) g4 (is 2) (is 2) (2,0) rfl false gj cO rfl rfl rfl (by omega) (by omega) (by omega) (by omega) ?_)))))))
 intro g6 w7 v8 ch9 o10 hcap_
 clear hcap_
 refine ma v8 (ab (aa (aa (a8 rfl (lx (af cW rfl rfl rfl rfl) ?_)))))
 replace bx5:=bx5.cn ch9
 refine lx (ae bG rfl bx5 rfl) ?_
 replace Rg:=(Rg.cn ch2).cn ch9
 have len11:=(Rg).small
 refine lx (bq dc rfl Rg) (mi 0 (ab (ao ?_)))
 refine aY (σ:=Nat×(List Bool)×aG) (λ⟨k,at_,gq⟩ f w=>bn w0 gq w/\f 1=vp b3 0/\f 3=v8/\f 13=g_v/\f 14=vi (g.2.length:Int)/\f 15=vi ↑k/\Sl gq (is 0) w g_v g.2/\Bx gq (is 1) w b3 [vi g.1,g_v]/\Ow gq (is 2) (is 2) w v8 at_/\(k:Int)<=((g.2.length:Int):Int)/\(ov g at_ k)) (λ⟨k,at_,gq⟩=>Int.toNat (((g.2.length:Int):Int)-(k:Int))) (0,(List.replicate (Int.toNat g.1) false),g6) ?_ ?_
 replace bH:=bH.cn ch2
 · exact⟨bH.cn ch9,rfl,rfl,rfl,rfl,rfl,Rg,bx5,o10,by omega,by exact ov.start hm1⟩
 clear Rg bx5 o10 bH
 rintro⟨k,at_,g14⟩ f12 w13 ⟨bH,zs1,zs3,zs13,zs14,zs15,Rg,bx5,o10,hle_k,hut⟩ back5
 have htl:=hut.lo
 refine aa (a8 rfl (lx (bm (m:=↑k) (n:=(g.2.length:Int)) zs15 zs14) (ab (aa ?_))))
 by_cases p5:(k:Int)<(g.2.length:Int)
 ·
  refine ah rfl (dt p5) ?_
  obtain⟨⟨he1,he2⟩,he3,he4⟩:=hm4 _ (br (xs:=g.2) (i:=↑k) (by omega) (by omega))
  refine aq (aa (ao (aa (a8 rfl (lx (ad (v:=g_v) (i:=↑k) dc rfl zs13 Rg zs15 (by omega) (by omega)) (lw (vg [vi ((gI g.2 ↑k).1),vi ((gI g.2 ↑k).2)]) (cL (v:=g_v) (i:=↑k) b7 rfl Rg (by omega) (by omega) rfl) (lo (bP g14 (is 3) (3,0) rfl b7 ?_))))))))
  intro g18 w15 b17 ch16 bx19
  replace bx19:Bx g18 (is 3) w15 b17 [vi 0,vi 0]:=bx19
  refine lo (aT (cs':=[vi ((gI g.2 ↑k).1),vi ((gI g.2 ↑k).2)]) b7 rfl rfl bx19 rfl nq (AllOne.all (.cons rfl (.cons rfl .nil))) rfl ?_)
  intro w20 ch21 bx22
  clear bx19
  refine ab (aa (aa (a8 rfl (lx (aM dI rfl rfl rfl (by decide) (by decide) rfl) (lx (ae aj rfl bx22 rfl) (lx (aM dI rfl rfl rfl (by decide) (by decide) rfl) (lx (ae aj rfl bx22 rfl) (lx (cZ (m:=(gI g.2 ↑k).1) (n:=(gI g.2 ↑k).2) rfl rfl) (ab ?_)))))))))
  by_cases p7:((gI g.2 ↑k).1)=((gI g.2 ↑k).2)
  ·
   refine ah rfl (dt p7) (aa ?_)
   clear bx5 o10 bx22
   refine a8 rfl (ma (vb false) (ab (aD (vs:=[vb false]) Try.func59 (.tmp rfl .nil) ?_)))
   have e0:(false:Bool)=(bY g):=by
     exact tn ‹_› ‹_›
   replace bH:=bH.cn ch16
   replace bH:=bH.ce ch21
   exact⟨rb e0,bH.below⟩
  refine ag rfl (df p7) (aq ?_)
  refine eN (σ:=aG) (λgq f w=>bn w0 gq w/\f 1=vp b3 0/\f 3=v8/\f 13=g_v/\f 14=vi (g.2.length:Int)/\f 15=vi ↑k/\Sl gq (is 0) w g_v g.2/\Bx gq (is 1) w b3 [vi g.1,g_v]/\Ow gq (is 2) (is 2) w v8 (List.set (List.set at_ (Int.toNat ((gI g.2 ↑k).1)) true) (Int.toNat ((gI g.2 ↑k).2)) true)) g18 (inl [2]) xu ?_ ?_
  ·
   intro mid
   intro w24 ch23
   refine ht (v:=v8) 0 rfl (bD.refl _ _ _) (λw' hw'=>au zs3) (ht (v:=v8) 3 rfl (bD.refl _ _ _) (λw' hw'=>au zs3) ?_)
   refine eP 1 [4] (by kernel_rfl) ⟨eW 1 rfl (by kernel_rfl) rfl ?_,eW 4 rfl (by kernel_rfl) rfl ?_,trivial⟩
   ·
    refine aL (v:=vp b17 0) (aM dI rfl rfl rfl (by decide) (by decide) rfl) ?_
    refine⟨(bD.refl _ _ _),?_⟩
    replace bx22:=bx22.cn ch23
    refine ht 2 rfl (bD.refl _ _ _) (λw' hw'=>ae aj rfl (bx22.chg hw' (cN rfl)) rfl) ?_
    refine eP 4 [6] (by kernel_rfl) ⟨eW 4 rfl (by kernel_rfl) rfl ?_,eW 6 rfl (by kernel_rfl) rfl ?_,trivial⟩
    ·
     refine aL (v:=vp b17 1) (aM dI rfl rfl rfl (by decide) (by decide) rfl) ?_
     refine⟨(bD.refl _ _ _),?_⟩
     refine ht 5 rfl (bD.refl _ _ _) (λw' hw'=>ae aj rfl (bx22.chg hw' (cN rfl)) rfl) (bu 6 rfl (by kernel_rfl) rfl ?_)
     have C25:=cg [3] (ch16.n.seq ((ch21.l rfl).seq ch23.n))
     replace o10:=o10.ca C25
     refine aL (v:=Value.pointer (some (bA v8 1 (Int.toNat ((gI g.2 ↑k).1))))) (ad (α:=Bool) (xs:=at_) (v:=v8) (i:=(gI g.2 ↑k).1) gj rfl rfl o10.flat rfl (by omega) (by omega)) ?_
     refine⟨(bD.refl _ _ _),?_⟩
     refine bu 7 rfl (by kernel_rfl) rfl (aQ (i:=(gI g.2 ↑k).1) true cO rfl rfl o10 (by omega) (by omega) rfl ?_)
     intro w26 ch27 bx28
     clear o10
     have hs29:bD (inl [2]) _ _ _ _:=ch27.l rfl
     refine⟨hs29.same,?_⟩
     refine bu 8 rfl (by kernel_rfl) rfl (aL (v:=Value.pointer (some (bA v8 1 (Int.toNat ((gI g.2 ↑k).2))))) (ad (α:=Bool) (xs:=(List.set at_ (Int.toNat ((gI g.2 ↑k).1)) true)) (v:=v8) (i:=(gI g.2 ↑k).2) gj rfl rfl bx28.flat rfl (by omega) (by(simp only[List.length_set,List.length_append,List.length_cons,List.length_nil,List.length_replicate,List.length_map,List.length_take,List.length_drop];omega))) ?_)
     refine⟨hs29.same,?_⟩
     refine bu 9 rfl (by kernel_rfl) rfl (aQ (i:=(gI g.2 ↑k).2) true cO rfl rfl bx28 (by omega) (by(simp only[List.length_set,List.length_append,List.length_cons,List.length_nil,List.length_replicate,List.length_map,List.length_take,List.length_drop];omega)) rfl ?_)
     intro w30 ch31 bx32
     clear bx28
     have hs33:=hs29.seq (ch31.l rfl)
     refine⟨hs33.same,?_⟩
     refine eE (by kernel_rfl) ?_
     have C34:=cg [2,3] (ch16.n.seq ((ch21.l rfl).seq (ch23.n.seq ((ch27.l rfl).seq (ch31.l rfl)))))
     replace Rg:=Rg.ca C25
     replace bx5:=bx5.ca C25
     exact mid (g18) _ _ ⟨bH.ca C34,zs1,zs3,zs13,zs14,zs15,(Rg.ca hs33),(bx5.ca hs33),bx32⟩
    ·
     have C35:=cg [3] (ch16.n.seq ((ch21.l rfl).seq ch23.n))
     replace o10:=o10.ca C35
     refine aL (v:=Value.pointer (some (bA v8 1 (Int.toNat ((gI g.2 ↑k).1))))) (ad (α:=Bool) (xs:=at_) (v:=v8) (i:=(gI g.2 ↑k).1) gj rfl rfl o10.flat rfl (by omega) (by omega)) ?_
     refine⟨(bD.refl _ _ _),?_⟩
     refine eP 4 [7] (by kernel_rfl) ⟨eW 4 rfl (by kernel_rfl) rfl ?_,eW 7 rfl (by kernel_rfl) rfl ?_,trivial⟩
     ·
      refine aL (v:=vp b17 1) (aM dI rfl rfl rfl (by decide) (by decide) rfl) ?_
      refine⟨(bD.refl _ _ _),?_⟩
      refine ht 5 rfl (bD.refl _ _ _) (λw' hw'=>ae aj rfl (bx22.chg hw' (cN rfl)) rfl) (bu 7 rfl (by kernel_rfl) rfl (aQ (i:=(gI g.2 ↑k).1) true cO rfl rfl o10 (by omega) (by omega) rfl ?_))
      intro w36 ch37 bx38
      clear o10
      have hs39:bD (inl [2]) _ _ _ _:=ch37.l rfl
      refine⟨hs39.same,?_⟩
      refine bu 8 rfl (by kernel_rfl) rfl (aL (v:=Value.pointer (some (bA v8 1 (Int.toNat ((gI g.2 ↑k).2))))) (ad (α:=Bool) (xs:=(List.set at_ (Int.toNat ((gI g.2 ↑k).1)) true)) (v:=v8) (i:=(gI g.2 ↑k).2) gj rfl rfl bx38.flat rfl (by omega) (by(simp only[List.length_set,List.length_append,List.length_cons,List.length_nil,List.length_replicate,List.length_map,List.length_take,List.length_drop];omega))) ?_)
      refine⟨hs39.same,?_⟩
      refine bu 9 rfl (by kernel_rfl) rfl (aQ (i:=(gI g.2 ↑k).2) true cO rfl rfl bx38 (by omega) (by(simp only[List.length_set,List.length_append,List.length_cons,List.length_nil,List.length_replicate,List.length_map,List.length_take,List.length_drop];omega)) rfl ?_)
      intro w40 ch41 bx42
      clear bx38
      have hs43:=hs39.seq (ch41.l rfl)
      refine⟨hs43.same,?_⟩
      refine eE (by kernel_rfl) ?_
      have C44:=cg [2,3] (ch16.n.seq ((ch21.l rfl).seq (ch23.n.seq ((ch37.l rfl).seq (ch41.l rfl)))))
      replace Rg:=Rg.ca C35
      replace bx5:=bx5.ca C35
      exact mid (g18) _ _ ⟨bH.ca C44,zs1,zs3,zs13,zs14,zs15,(Rg.ca hs43),(bx5.ca hs43),bx42⟩
     ·
      refine aQ (i:=(gI g.2 ↑k).1) true cO rfl rfl o10 (by omega) (by omega) rfl ?_
      intro w45 ch46 bx47
      clear o10
      have hs48:bD (inl [2]) _ _ _ _:=ch46.l rfl
      refine⟨hs48.same,?_⟩
      refine bu 4 rfl (by kernel_rfl) rfl (aL (v:=vp b17 1) (aM dI rfl rfl rfl (by decide) (by decide) rfl) ?_)
      refine⟨hs48.same,?_⟩
      refine ht 5 rfl hs48.same (λw' hw'=>ae aj rfl (bx22.chg hw' (cN rfl)) rfl) (bu 8 rfl (by kernel_rfl) rfl (aL (v:=Value.pointer (some (bA v8 1 (Int.toNat ((gI g.2 ↑k).2))))) (ad (α:=Bool) (xs:=(List.set at_ (Int.toNat ((gI g.2 ↑k).1)) true)) (v:=v8) (i:=(gI g.2 ↑k).2) gj rfl rfl bx47.flat rfl (by omega) (by(simp only[List.length_set,List.length_append,List.length_cons,List.length_nil,List.length_replicate,List.length_map,List.length_take,List.length_drop];omega))) ?_))
      refine⟨hs48.same,?_⟩
      refine bu 9 rfl (by kernel_rfl) rfl (aQ (i:=(gI g.2 ↑k).2) true cO rfl rfl bx47 (by omega) (by(simp only[List.length_set,List.length_append,List.length_cons,List.length_nil,List.length_replicate,List.length_map,List.length_take,List.length_drop];omega)) rfl ?_)
      intro w49 ch50 bx51
      clear bx47
      have hs52:=hs48.seq (ch50.l rfl)
      refine⟨hs52.same,?_⟩
      refine eE (by kernel_rfl) ?_
      have C53:=cg [2,3] (ch16.n.seq ((ch21.l rfl).seq (ch23.n.seq ((ch46.l rfl).seq (ch50.l rfl)))))
      replace Rg:=Rg.ca C35
      replace bx5:=bx5.ca C35
      exact mid (g18) _ _ ⟨bH.ca C53,zs1,zs3,zs13,zs14,zs15,(Rg.ca hs52),(bx5.ca hs52),bx51⟩
   ·
    refine aL (v:=vp b17 1) (aM dI rfl rfl rfl (by decide) (by decide) rfl) ?_
    refine⟨(bD.refl _ _ _),?_⟩
    replace bx22:=bx22.cn ch23
    refine ht 5 rfl (bD.refl _ _ _) (λw' hw'=>ae aj rfl (bx22.chg hw' (cN rfl)) rfl) (bu 1 rfl (by kernel_rfl) rfl (aL (v:=vp b17 0) (aM dI rfl rfl rfl (by decide) (by decide) rfl) ?_))
    refine⟨(bD.refl _ _ _),?_⟩
    refine ht 2 rfl (bD.refl _ _ _) (λw' hw'=>ae aj rfl (bx22.chg hw' (cN rfl)) rfl) (bu 6 rfl (by kernel_rfl) rfl ?_)
    have C54:=cg [3] (ch16.n.seq ((ch21.l rfl).seq ch23.n))
    replace o10:=o10.ca C54
    refine aL (v:=Value.pointer (some (bA v8 1 (Int.toNat ((gI g.2 ↑k).1))))) (ad (α:=Bool) (xs:=at_) (v:=v8) (i:=(gI g.2 ↑k).1) gj rfl rfl o10.flat rfl (by omega) (by omega)) ?_
    refine⟨(bD.refl _ _ _),?_⟩
    refine bu 7 rfl (by kernel_rfl) rfl (aQ (i:=(gI g.2 ↑k).1) true cO rfl rfl o10 (by omega) (by omega) rfl ?_)
    intro w55 ch56 bx57
    clear o10
    have hs58:bD (inl [2]) _ _ _ _:=ch56.l rfl
    refine⟨hs58.same,?_⟩
    refine bu 8 rfl (by kernel_rfl) rfl (aL (v:=Value.pointer (some (bA v8 1 (Int.toNat ((gI g.2 ↑k).2))))) (ad (α:=Bool) (xs:=(List.set at_ (Int.toNat ((gI g.2 ↑k).1)) true)) (v:=v8) (i:=(gI g.2 ↑k).2) gj rfl rfl bx57.flat rfl (by omega) (by(simp only[List.length_set,List.length_append,List.length_cons,List.length_nil,List.length_replicate,List.length_map,List.length_take,List.length_drop];omega))) ?_)
    refine⟨hs58.same,?_⟩
    refine bu 9 rfl (by kernel_rfl) rfl (aQ (i:=(gI g.2 ↑k).2) true cO rfl rfl bx57 (by omega) (by(simp only[List.length_set,List.length_append,List.length_cons,List.length_nil,List.length_replicate,List.length_map,List.length_take,List.length_drop];omega)) rfl ?_)
    intro w59 ch60 bx61
    clear bx57
    have hs62:=hs58.seq (ch60.l rfl)
    refine⟨hs62.same,?_⟩
    refine eE (by kernel_rfl) ?_
    have C63:=cg [2,3] (ch16.n.seq ((ch21.l rfl).seq (ch23.n.seq ((ch56.l rfl).seq (ch60.l rfl)))))
    replace Rg:=Rg.ca C54
    replace bx5:=bx5.ca C54
    exact mid (g18) _ _ ⟨bH.ca C63,zs1,zs3,zs13,zs14,zs15,(Rg.ca hs62),(bx5.ca hs62),bx61⟩
  clear Rg bx5 o10 bx22 bH
  rintro g66 f64 w65 ⟨bH,zs1,zs3,zs13,zs14,zs15,Rg,bx5,bx32⟩
  refine am (a8 rfl (lx (aI (m:=↑k) (n:=1) zs15 rfl (by omega)) (mi ((k:Int)+1) (ab ?_))))
  refine back5 (k+1,(List.set (List.set at_ (Int.toNat ((gI g.2 ↑k).1)) true) (Int.toNat ((gI g.2 ↑k).2)) true),g66) _ _ ⟨bH,zs1,zs3,zs13,zs14,rfl,Rg,bx5,bx32,by omega,?_⟩ ?_
  · show ov g (List.set (List.set at_ (Int.toNat ((gI g.2 ↑k).1)) true) (Int.toNat ((gI g.2 ↑k).2)) true) (k+1)
    exact hut.next (by omega) ‹_›
  · show Int.toNat (((g.2.length:Int):Int)-((k+1):Int))<Int.toNat (((g.2.length:Int):Int)-(k:Int))
    omega
 refine ag rfl (df p5) (aH rfl (aa (a8 rfl (mz zs3 (lo (bW (v:=vb (decide (false∈at_))) (aN (vals:=[v8,vb false]) Try.func75 zu zM rfl) (pH w13 at_ v8 (o10.flat).ro false) ?_))))))
 intro w67 hb68
 replace hb68:=aS hb68 g14
 refine lx (dZ (b:=(decide (false∈at_))) rfl) (mv (vb (!(decide (false∈at_)))) ?_)
 by_cases q36:(decide (false∈at_))=true
 ·
  refine ak (wn (congrArg Bool.not q36)) (ak (wn (congrArg Bool.not q36)) (ak (wn (congrArg Bool.not q36)) (ak (wn (congrArg Bool.not q36)) (lw (vb false) (aP rfl (congrArg Bool.not q36) rfl) (ma (vb false) (ab (aD (vs:=[vb false]) Try.func59 (.tmp rfl .nil) ?_)))))))
  have e0:(false:Bool)=(bY g):=by
    exact vk hut (by omega) (of_decide_eq_true ‹_›)
  replace bH:=bH.cn hb68
  exact⟨rb e0,bH.below⟩
 replace bx5:=bx5.cn hb68
 refine lv (vg [vi g.1,g_v]) (wy (congrArg Bool.not (Bool.eq_false_iff.2 q36))) (aB (ds:=[vi g.1,g_v]) aK zs1 bx5 rfl rfl) ?_
 replace Rg:=Rg.cn hb68
 refine cB (wy (congrArg Bool.not (Bool.eq_false_iff.2 q36))) (bQ (aN (vals:=[vg [vi g.1,g_v]]) Try.func76 uH ud rfl) (oL w67 g g_v (Rg).ro (by exact hm)) ?_)
 rintro⟨d70,v72,v74⟩ w69 ⟨fr71,o73,o75⟩
 obtain⟨g76,ch77,G76⟩:=ia g14 fr71 (λn=>if n=1 then 4 else if n=2 then 5 else 0)
 replace o73:=o73.gl G76 4
 replace o75:=o75.gl G76 5
 refine lv (vi (((c7 g).2).2)) (wy (congrArg Bool.not (Bool.eq_false_iff.2 q36))) (nK jV rfl aj rfl rfl) (lv (vb (decide ((((c7 g).2).2)=1))) (wy (congrArg Bool.not (Bool.eq_false_iff.2 q36))) (cZ (m:=((c7 g).2).2) (n:=1) rfl rfl) (lw (vb (decide ((((c7 g).2).2)=1))) (aO rfl (congrArg Bool.not (Bool.eq_false_iff.2 q36)) rfl) (ma (vb (decide ((((c7 g).2).2)=1))) (ab (aD (vs:=[vb (decide ((((c7 g).2).2)=1))]) Try.func59 (.tmp rfl .nil) ?_)))))
 have e0:(decide ((((c7 g).2).2)=1):Bool)=(bY g):=by
   exact xQ hut (by omega) ‹_› (λhf=>absurd (dt hf) ‹_›)
 replace bH:=bH.cn hb68
 replace bH:=bH.cn ch77
 exact⟨(congrArg (a₁:=decide ((((c7 g).2).2)=1)) (λ(z0:Bool)=>Ending.returned (vb z0)) e0),bH.below⟩
theorem wt(w0:World)(g:(Int)×(List Pt))(g_v:Value)(hg_v:Ro w0 g_v g.2):
    Calls Try.prog 33 #[vg [vi g.1,g_v]] w0 (λee w=>ee= .returned (vt [vb ((cC g).1),vi ((cC g).2)])/\ep w0.heap.size w0 w):=by
 refine av Try.func33 rfl nq ?_
 have bH:=bn.start w0
 have Rg:=hg_v.sl
 refine aa (a8 rfl (cB rfl (cr c0 (is 1) (1,0) rfl rfl ?_)))
 intro g4 w1 b3 ch2 bx5
 replace bx5:Bx g4 (is 1) w1 b3 [vi g.1,g_v]:=bx5
 refine ma (vb false) (ai 0 (ab (aa (aa (a8 rfl (lx (aB (ds:=[vi g.1,g_v]) aK rfl bx5 rfl rfl) ?_))))))
 replace Rg:=Rg.cn ch2
 refine lo (bW (v:=vb (dw g)) (aN (vals:=[vg [vi g.1,g_v]]) Try.func28 j9 js rfl) (ju w1 g g_v (Rg).ro) ?_)
 intro w6 hb7
 replace hb7:=aS hb7 g4
 refine lx (dZ (b:=(dw g)) rfl) (ab ?_)
 by_cases p1:(dw g)=true
 ·
  refine ag rfl (congrArg Bool.not p1) (aq (aa (a8 rfl ?_)))
  replace bx5:=bx5.cn hb7
  refine lx (aB (ds:=[vi g.1,g_v]) aK rfl bx5 rfl rfl) ?_
  replace Rg:=Rg.cn hb7
  refine lo (bW (v:=vb (bY g)) (aN (vals:=[vg [vi g.1,g_v]]) Try.func59 A3 Av rfl) (wl w6 g g_v (Rg).ro (by exact of_decide_eq_true p1)) ?_)
  intro w8 hb9
  replace hb9:=aS hb9 g4
  refine ma (vb (bY g)) (ai 0 (ab (aD (vs:=[vb (bY g),vi 0]) Try.func33 (.tmp rfl (.tmp rfl .nil)) ?_)))
  have e0:((bY g):Bool)=((cC g).1):=by
    have hm:=of_decide_eq_true p1
    unfold cC;rw[if_pos hm]
  have e1:(0:Int)=((cC g).2):=by
    have hm:=of_decide_eq_true p1
    unfold cC;rw[if_pos hm]
  have C10:=cg [] (ch2.n.seq (hb7.n.seq hb9.n))
  replace bH:=bH.ca C10
  exact⟨(cT (a:=(bY g)) (b:=0) (λ(z0:Bool) (z1:Int)=>Ending.returned (vt [vb z0,vi z1])) e0 e1),bH.below⟩
 refine ah rfl (congrArg Bool.not (Bool.eq_false_iff.2 p1)) (aa ?_)
 clear bx5
 refine a8 rfl (ma (vb false) (ai 1 (ab (aD (vs:=[vb false,vi 1]) Try.func33 (.tmp rfl (.tmp rfl .nil)) ?_))))
 have e0:(false:Bool)=((cC g).1):=by
   have hn:¬aX g:=λh=>p1 (dt h)
   unfold cC;rw[if_neg hn]
 have e1:(1:Int)=((cC g).2):=by
   have hn:¬aX g:=λh=>p1 (dt h)
   unfold cC;rw[if_neg hn]
 replace bH:=bH.cn ch2
 replace bH:=bH.cn hb7
 exact⟨(cT (a:=false) (b:=1) (λ(z0:Bool) (z1:Int)=>Ending.returned (vt [vb z0,vi z1])) e0 e1),bH.below⟩
end TL
