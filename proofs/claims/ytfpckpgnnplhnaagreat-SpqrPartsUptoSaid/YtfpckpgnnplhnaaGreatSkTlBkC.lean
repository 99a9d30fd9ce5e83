import Derived.Test.YtfpckpgnnplhnaaGreatSkTlGmA
import Derived.Test.YtfpckpgnnplhnaaGreatSkTlGenA
import Derived.Test.YtfpckpgnnplhnaaGreatSkTlBkB
import Derived.Test.YtfpckpgnnplhnaaGreatSkTlAli
set_option linter.all false
set_option maxRecDepth 20000
namespace TL
open Go Go.Proofs
theorem vR:Tryz.prog.follows .mixedOrders=true:=by kernel_rfl
theorem yR:Tryz.f41.body.isNone=false:=rfl
theorem zI:(Tryz.f41.name== "runtime.NumGoroutine")=false:=by decide+kernel
theorem zo:Tryz.f55.body.isNone=false:=rfl
theorem zr:(Tryz.f55.name== "runtime.NumGoroutine")=false:=by decide+kernel
theorem rE:Tryz.f56.body.isNone=false:=rfl
theorem sg:(Tryz.f56.name== "runtime.NumGoroutine")=false:=by decide+kernel
theorem yN:Tryz.f81.body.isNone=false:=rfl
theorem zV:(Tryz.f81.name== "runtime.NumGoroutine")=false:=by decide+kernel
theorem rf(w0:World)(g:(Int)×(List Pt))(g_v:Value)(hg_v:Ro w0 g_v g.2):
    Calls Tryz.prog 134 #[vg [vi g.1,g_v]] w0 (λee w=>∃xx:aw×Value×Value,ee= .returned ((λ⟨δ,rv0,rv1⟩=>vt [vg [rv0,rv1,vi ((((dd g).1).2).2)],vi ((dd g).2)]) xx)/\(λ(⟨δ,rv0,rv1⟩:aw×Value×Value) (w:World)=>dU w0 δ w/\Ow δ (is 1) (is 1) w rv0 (((dd g).1).1)/\Ow δ (is 2) (is 2) w rv1 ((((dd g).1).2).1)) xx w):=by
 refine ap Tryz.func134 rfl nq ?_
 have bH:=b6.start w0
 have Rg:=hg_v.sl
 refine a7 (a6 rfl (cN rfl (cq c0 (is 1) (1,0) rfl rfl ?_)))
 intro g4 w1 b3 ch2 bx5
 refine lo (bi g4 (is 2) (2,0) rfl eC ?_)
 intro g9 w6 b8 ch7 bx10
 refine ai 0 (ab (a7 (a7 (a6 rfl ?_))))
 replace bx5:=bx5.cn ch7
 refine lx (ay (ds:=[vi g.1,g_v]) aX rfl bx5 rfl rfl) ?_
 replace Rg:=(Rg.cn ch2).cn ch7
 refine lo (bV (v:=vb (dm g)) (aH (vals:=[vg [vi g.1,g_v]]) Tryz.func32 iH iY rfl) (iP w6 g g_v (Rg).ro) ?_)
 intro w11 hb12
 replace hb12:=aN hb12 g9
 refine lx (eU (b:=(dm g)) rfl) (ab ?_)
 by_cases p1:(dm g)=true
 ·
  refine ag rfl (congrArg Bool.not p1) (ao (a7 (a6 rfl ?_)))
  replace bx5:=bx5.cn hb12
  refine lx (ay (ds:=[vi g.1,g_v]) aX rfl bx5 rfl rfl) ?_
  replace Rg:=Rg.cn hb12
  refine lo (bE (aH (vals:=[vg [vi g.1,g_v]]) Tryz.func56 rE sg rfl) (nc w11 g g_v (Rg).ro (by exact of_decide_eq_true p1)) ?_)
  rintro⟨d14,v16,v18⟩ w13 ⟨fr15,o17,o19⟩
  obtain⟨g20,ch21,G20⟩:=i8 g9 fr15 (λn=>if n=1 then 3 else if n=2 then 4 else 0)
  replace o17:=o17.gl G20 3
  replace o19:=o19.gl G20 4
  refine lo ?_
  replace bx10:=(bx10.cn hb12).cn ch21
  refine ax (cs':=[v16,v18,vi (((cU g).2).2)]) eC rfl rfl bx10 rfl nq (AllOne.all (.cons (aG o17.flat) (.cons (aG o19.flat) (.cons rfl .nil)))) rfl ?_
  intro w22 ch23 bx24
  clear bx10
  refine ai 0 (ab (au (vs:=[vg [v16,v18,vi (((cU g).2).2)],vi 0]) Tryz.func134 (.cell rfl (cy (ds:=[v16,v18,vi (((cU g).2).2)]) eC bx24 rfl rfl) (.tmp rfl .nil)) ?_))
  have C25:=cg [2] (ch2.n.seq (ch7.n.seq (hb12.n.seq (ch21.n.seq (ch23.l rfl)))))
  replace bH:=bH.ca C25
  replace o17:=o17.ce ch23
  replace o19:=o19.ce ch23
  have e0:(((cU g).1,((cU g).2).1,((cU g).2).2):(List Int)×(List Int)×(Int))=((dd g).1):=by
    have hm:=of_decide_eq_true p1
    (unfold dd;rw[if_pos hm];rfl)
  have e1:(0:Int)=((dd g).2):=by
    have hm:=of_decide_eq_true p1
    (unfold dd;rw[if_pos hm];done)
  exact⟨(fin w0 g20 (λn=>if n=3 then 1 else if n=4 then 2 else 0),v16,v18),(cV (a:=((cU g).1,((cU g).2).1,((cU g).2).2)) (b:=0) (λ(z0:(List Int)×(List Int)×(Int)) (z1:Int)=>Ending.returned (vt [vg [v16,v18,vi z0.2.2],vi z1])) e0 e1),bH.fresh _,((congrArg (λ(z:(List Int)×(List Int)×(Int))=>z.1) e0)▸(o17.glue (γ:=c0) (ren:=(λn=>if n=3 then 1 else if n=4 then 2 else 0)) (k:=1) bH.col rfl rfl)),((congrArg (λ(z:(List Int)×(List Int)×(Int))=>z.2.1) e0)▸(o19.glue (γ:=c0) (ren:=(λn=>if n=3 then 1 else if n=4 then 2 else 0)) (k:=2) bH.col rfl rfl))⟩
 refine af rfl (congrArg Bool.not (Bool.eq_false_iff.2 p1)) (a7 ?_)
 clear bx5
 refine a6 rfl (lw (vg [vn,vn,vi 0]) (bh (vs:=[]) rfl (by kernel_rfl)) (lo ?_))
 replace bx10:=bx10.cn hb12
 refine ax (cs':=[vn,vn,vi 0]) eC rfl rfl bx10 rfl nq (AllOne.all (.cons rfl (.cons rfl (.cons rfl .nil)))) rfl ?_
 intro w26 ch27 bx28
 clear bx10
 refine ai 1 (ab (au (vs:=[vg [vn,vn,vi 0],vi 1]) Tryz.func134 (.cell rfl (cy (ds:=[vn,vn,vi 0]) eC bx28 rfl rfl) (.tmp rfl .nil)) ?_))
 have C29:=cg [2] (ch2.n.seq (ch7.n.seq (hb12.n.seq (ch27.l rfl))))
 replace bH:=bH.ca C29
 have e0:(([],[],0):(List Int)×(List Int)×(Int))=((dd g).1):=by
   have hn:¬c7 g:=λh=>p1 (dt h)
   unfold dd;rw[if_neg hn]
 have e1:(1:Int)=((dd g).2):=by
   have hn:¬c7 g:=λh=>p1 (dt h)
   unfold dd;rw[if_neg hn]
 exact⟨(fin w0 g9 (λn=>0),vn,vn),(cV (a:=([],[],0)) (b:=1) (λ(z0:(List Int)×(List Int)×(Int)) (z1:Int)=>Ending.returned (vt [vg [vn,vn,vi z0.2.2],vi z1])) e0 e1),bH.fresh _,((congrArg (λ(z:(List Int)×(List Int)×(Int))=>z.1) e0)▸Ow.nil),((congrArg (λ(z:(List Int)×(List Int)×(Int))=>z.2.1) e0)▸Ow.nil)⟩
theorem tm(w0:World)(s:List Bool)(s_v:Value)(hs_v:Ro w0 s_v s)(v:Bool):
    Calls Tryz.prog 81 #[s_v,vb v] w0 (λee w=>ee= .returned (vi (jt s v))/\eJ w0.heap.size w0 w):=by
 refine ap Tryz.func81 rfl nq ?_
 have bH:=b6.start w0
 have Rs:=hs_v.sl
 refine a7 (a6 rfl (ai 0 (ab (a7 (a7 (a6 rfl (mv s_v ?_)))))))
 have len1:=(Rs).small
 refine lx (bp jG rfl Rs) (mi 0 (ab (am ?_)))
 refine aV (σ:=Nat×aw) (λ⟨k,gq⟩ f w=>b6 w0 gq w/\f 0=s_v/\f 1=vb v/\f 7=vi (s.length:Int)/\f 8=vi ↑k/\Sl gq (is 0) w s_v s/\(k:Int)<=((s.length:Int):Int)/\(∀j:Nat,j<k->¬v=gI s ↑j)) (λ⟨k,gq⟩=>Int.toNat (((s.length:Int):Int)-(k:Int))) (0,c0) ?_ ?_
 · exact⟨bH,rfl,rfl,rfl,rfl,Rs,by omega,by intro j hj;omega⟩
 clear Rs bH
 rintro⟨k,g4⟩ f2 w3 ⟨bH,zs0,zs1,zs7,zs8,Rs,hle_k,hinv⟩ back2
 refine a7 (a6 rfl (lx (bw (m:=↑k) (n:=(s.length:Int)) zs8 zs7) (ab (a7 ?_))))
 by_cases p2:(k:Int)<(s.length:Int)
 ·
  refine af rfl (dt p2) (ao (a7 (am (a7 (a6 rfl (mz zs8 (ai (k:Int) (ab (a7 (a6 rfl (mz zs1 (mz zs0 ?_))))))))))))
  refine mi ↑k (lx (ad (v:=s_v) (i:=↑k) jG rfl rfl Rs rfl (by omega) (by omega)) (lx (av (v:=s_v) (i:=↑k) dL rfl Rs (by omega) (by omega) (by decide) rfl) (lw (vb (decide (v=(gI s ↑k)))) (r8 U4 rfl rfl) (ab ?_))))
  by_cases p4:v=(gI s ↑k)
  ·
   refine af rfl (dt p4) (a7 (a6 rfl (mi ↑k (ai (k:Int) (ab (au (vs:=[vi ↑k]) Tryz.func81 (.tmp rfl .nil) ?_))))))
   have e0:((k:Int):Int)=(jt s v):=by
     exact xZ hinv ‹_› ‹_›
   exact⟨ri e0,bH.below⟩
  refine ag rfl (df p4) (ao (ak (a6 rfl (lx (aS (m:=↑k) (n:=1) zs8 rfl (by omega)) (mi ((k:Int)+1) (ab ?_))))))
  refine back2 (k+1,g4) _ _ ⟨bH,zs0,zs1,zs7,rfl,Rs,by omega,?_⟩ ?_
  · show∀j:Nat,j<(k+1)->¬v=gI s ↑j
    intro j hj
    by_cases e0:j=k
    · subst e0;assumption
    · exact hinv j (by omega)
  · show Int.toNat (_-_)<Int.toNat (_-_)
    omega
 refine ag rfl (df p2) (aO rfl (a7 (a6 rfl (ai (-1) (ab (au (vs:=[vi (-1)]) Tryz.func81 (.tmp rfl .nil) ?_))))))
 have e0:(-1:Int)=(jt s v):=by
   exact zb hinv ‹_›
 exact⟨ri e0,bH.below⟩
theorem nX(w0:World)(s:List Bool)(s_v:Value)(hs_v:Ro w0 s_v s)(v:Bool):
    Calls Tryz.prog 55 #[s_v,vb v] w0 (λee w=>ee= .returned (vb (decide (v∈s)))/\eJ w0.heap.size w0 w):=by
 refine ap Tryz.func55 rfl nq ?_
 have bH:=b6.start w0
 have Rs:=hs_v.sl
 refine a7 (a6 rfl (ma (vb false) (ab (a7 (a6 rfl (mv s_v (mv (vb v) (lo (bV (v:=vi (jt s v)) (aH (vals:=[s_v,vb v]) Tryz.func81 yN zV rfl) (tm w0 s s_v (Rs).ro v) ?_)))))))))
 intro w1 hb2
 replace hb2:=aN hb2 c0
 refine lx (eB (m:=jt s v) (n:=0) rfl rfl) (ma (vb (decide (0<=(jt s v)))) (ab (au (vs:=[vb (decide (0<=(jt s v)))]) Tryz.func55 (.tmp rfl .nil) ?_)))
 have e0:(decide (0<=(jt s v)):Bool)=(decide (v∈s)):=by
   exact sx
 replace bH:=bH.cn hb2
 exact⟨(congrArg (a₁:=decide (0<=(jt s v))) (λ(z0:Bool)=>Ending.returned (vb z0)) e0),bH.below⟩
theorem uD(w0:World)(g:(Int)×(List Pt))(g_v:Value)(hg_v:Ro w0 g_v g.2)(hm:c7 g):
    Calls Tryz.prog 41 #[vg [vi g.1,g_v]] w0 (λee w=>ee= .returned (vb (ez g))/\eJ w0.heap.size w0 w):=by
 refine ap Tryz.func41 rfl nq ?_
 have bH:=b6.start w0
 have Rg:=hg_v.sl
 have hm0:=hm
 obtain⟨hm1,hm2,hm3,hm4⟩:=hm0
 refine a7 (a6 rfl (cN rfl (cq c0 (is 1) (1,0) rfl rfl ?_)))
 intro g4 w1 b3 ch2 bx5
 refine ma (vb false) (ab (a7 (a7 (a6 rfl (lx (aa ea rfl rfl rfl rfl) (lx (a8 ah rfl bx5 rfl) (lx (bw (m:=g.1) (n:=2) rfl rfl) (ab ?_))))))))
 by_cases p1:g.1<2
 ·
  refine af rfl (dt p1) (a7 ?_)
  clear bx5
  refine a6 rfl (ma (vb false) (ab (au (vs:=[vb false]) Tryz.func41 (.tmp rfl .nil) ?_)))
  have e0:(false:Bool)=(ez g):=by
    exact qg ‹_›
  replace bH:=bH.cn ch2
  exact⟨rb e0,bH.below⟩
 refine ag rfl (df p1) (ao (a7 (a6 rfl (lx (aa ea rfl rfl rfl rfl) (lx (a8 ah rfl bx5 rfl) (lo (dN (α:=Bool) (l:=g.1) (cp:=g.1) g4 (is 2) (is 2) (2,0) rfl false jG dL rfl rfl rfl (by omega) (by omega) (by omega) (by omega) ?_)))))))
 intro g6 w7 v8 ch9 o10 hcap_
 clear hcap_
 refine ma v8 (ab (a7 (a7 (a6 rfl (lx (aa ea rfl rfl rfl rfl) ?_)))))
 replace bx5:=bx5.cn ch9
 refine lx (a8 bR rfl bx5 rfl) ?_
 replace Rg:=(Rg.cn ch2).cn ch9
 have len11:=(Rg).small
 refine lx (bp eR rfl Rg) (mi 0 (ab (am ?_)))
 refine aV (σ:=Nat×(List Bool)×aw) (λ⟨k,at_,gq⟩ f w=>b6 w0 gq w/\f 1=vp b3 0/\f 3=v8/\f 13=g_v/\f 14=vi (g.2.length:Int)/\f 15=vi ↑k/\Sl gq (is 0) w g_v g.2/\Bx gq (is 1) w b3 [vi g.1,g_v]/\Ow gq (is 2) (is 2) w v8 at_/\(k:Int)<=((g.2.length:Int):Int)/\(mZ g at_ k)) (λ⟨k,at_,gq⟩=>Int.toNat (((g.2.length:Int):Int)-(k:Int))) (0,(List.replicate (Int.toNat g.1) false),g6) ?_ ?_
 replace bH:=bH.cn ch2
 · exact⟨bH.cn ch9,rfl,rfl,rfl,rfl,rfl,Rg,bx5,o10,by omega,by exact mZ.start hm1⟩
 clear Rg bx5 o10 bH
 rintro⟨k,at_,g14⟩ f12 w13 ⟨bH,zs1,zs3,zs13,zs14,zs15,Rg,bx5,o10,hle_k,hut⟩ back5
 have htl:=hut.lo
 refine a7 (a6 rfl (lx (bw (m:=↑k) (n:=(g.2.length:Int)) zs15 zs14) (ab (a7 ?_))))
 by_cases p5:(k:Int)<(g.2.length:Int)
 ·
  refine af rfl (dt p5) ?_
  obtain⟨⟨he1,he2⟩,he3,he4⟩:=hm4 _ (bC (xs:=g.2) (i:=↑k) (by omega) (by omega))
  refine ao (a7 (am (a7 (a6 rfl (lx (ad (v:=g_v) (i:=↑k) eR rfl zs13 Rg zs15 (by omega) (by omega)) (lw (vg [vi ((gI g.2 ↑k).1),vi ((gI g.2 ↑k).2)]) (bJ (v:=g_v) (i:=↑k) bx rfl Rg (by omega) (by omega) rfl) (lo (bi g14 (is 3) (3,0) rfl bx ?_))))))))
  intro g18 w15 b17 ch16 bx19
  refine lo (ax (cs':=[vi ((gI g.2 ↑k).1),vi ((gI g.2 ↑k).2)]) bx rfl rfl bx19 rfl nq (AllOne.all (.cons rfl (.cons rfl .nil))) rfl ?_)
  intro w20 ch21 bx22
  clear bx19
  refine ab (a7 (a7 (a6 rfl (lx (aQ eO rfl rfl rfl (by decide) (by decide) rfl) (lx (a8 ah rfl bx22 rfl) (lx (aQ eO rfl rfl rfl (by decide) (by decide) rfl) (lx (a8 ah rfl bx22 rfl) (lx (dA (m:=(gI g.2 ↑k).1) (n:=(gI g.2 ↑k).2) rfl rfl) (ab ?_)))))))))
  by_cases p7:((gI g.2 ↑k).1)=((gI g.2 ↑k).2)
  ·
   refine af rfl (dt p7) (a7 ?_)
   clear bx5 o10 bx22
   refine a6 rfl (ma (vb false) (ab (au (vs:=[vb false]) Tryz.func41 (.tmp rfl .nil) ?_)))
   have e0:(false:Bool)=(ez g):=by
     exact re ‹_› ‹_›
   replace bH:=bH.cn ch16
   replace bH:=bH.ce ch21
   exact⟨rb e0,bH.below⟩
  refine ag rfl (df p7) (ao ?_)
  refine dy (σ:=aw) (λgq f w=>b6 w0 gq w/\f 1=vp b3 0/\f 3=v8/\f 13=g_v/\f 14=vi (g.2.length:Int)/\f 15=vi ↑k/\Sl gq (is 0) w g_v g.2/\Bx gq (is 1) w b3 [vi g.1,g_v]/\Ow gq (is 2) (is 2) w v8 (List.set (List.set at_ (Int.toNat ((gI g.2 ↑k).1)) true) (Int.toNat ((gI g.2 ↑k).2)) true)) g18 (inl [2]) vR ?_ ?_
  ·
   intro mid
   intro w24 ch23
   refine ht (v:=v8) 0 rfl (aU.refl _ _ _) (λw' hw'=>aq zs3) (ht (v:=v8) 3 rfl (aU.refl _ _ _) (λw' hw'=>aq zs3) ?_)
   refine bO 1 [4] (by kernel_rfl) ⟨bL 1 rfl (by kernel_rfl) rfl ?_,bL 4 rfl (by kernel_rfl) rfl ?_,trivial⟩
   ·
    refine aj (v:=vp b17 0) (aQ eO rfl rfl rfl (by decide) (by decide) rfl) ?_
    refine⟨(aU.refl _ _ _),?_⟩
    replace bx22:=bx22.cn ch23
    refine ht 2 rfl (aU.refl _ _ _) (λw' hw'=>a8 ah rfl (bx22.chg hw' (bI rfl)) rfl) ?_
    refine bO 4 [6] (by kernel_rfl) ⟨bL 4 rfl (by kernel_rfl) rfl ?_,bL 6 rfl (by kernel_rfl) rfl ?_,trivial⟩
    ·
     refine aj (v:=vp b17 1) (aQ eO rfl rfl rfl (by decide) (by decide) rfl) ?_
     refine⟨(aU.refl _ _ _),?_⟩
     refine ht 5 rfl (aU.refl _ _ _) (λw' hw'=>a8 ah rfl (bx22.chg hw' (bI rfl)) rfl) (az 6 rfl (by kernel_rfl) rfl ?_)
     have C25:=cg [3] (ch16.n.seq ((ch21.l rfl).seq ch23.n))
     replace o10:=o10.ca C25
     refine aj (v:=Value.pointer (some (aB v8 1 (Int.toNat ((gI g.2 ↑k).1))))) (ad (α:=Bool) (xs:=at_) (v:=v8) (i:=(gI g.2 ↑k).1) jG rfl rfl o10.flat rfl (by omega) (by omega)) ?_
     refine⟨(aU.refl _ _ _),?_⟩
     refine az 7 rfl (by kernel_rfl) rfl (aZ (i:=(gI g.2 ↑k).1) true dL rfl rfl o10 (by omega) (by omega) rfl ?_)
     intro w26 ch27 bx28
     clear o10
     have hs29:aU (inl [2]) _ _ _ _:=ch27.l rfl
     refine⟨hs29.same,?_⟩
     refine az 8 rfl (by kernel_rfl) rfl (aj (v:=Value.pointer (some (aB v8 1 (Int.toNat ((gI g.2 ↑k).2))))) (ad (α:=Bool) (xs:=(List.set at_ (Int.toNat ((gI g.2 ↑k).1)) true)) (v:=v8) (i:=(gI g.2 ↑k).2) jG rfl rfl bx28.flat rfl (by omega) (by(simp only[List.length_set,List.length_append,List.length_cons,List.length_nil,List.length_replicate,List.length_map,List.length_take,List.length_drop];omega))) ?_)
     refine⟨hs29.same,?_⟩
     refine az 9 rfl (by kernel_rfl) rfl (aZ (i:=(gI g.2 ↑k).2) true dL rfl rfl bx28 (by omega) (by(simp only[List.length_set,List.length_append,List.length_cons,List.length_nil,List.length_replicate,List.length_map,List.length_take,List.length_drop];omega)) rfl ?_)
     intro w30 ch31 bx32
     clear bx28
     have hs33:=hs29.seq (ch31.l rfl)
     refine⟨hs33.same,?_⟩
     refine bP (by kernel_rfl) ?_
     have C34:=cg [2,3] (ch16.n.seq ((ch21.l rfl).seq (ch23.n.seq ((ch27.l rfl).seq (ch31.l rfl)))))
     replace Rg:=Rg.ca C25
     replace bx5:=bx5.ca C25
     exact mid (g18) _ _ ⟨bH.ca C34,zs1,zs3,zs13,zs14,zs15,(Rg.ca hs33),(bx5.ca hs33),bx32⟩
    ·
     have C35:=cg [3] (ch16.n.seq ((ch21.l rfl).seq ch23.n))
     replace o10:=o10.ca C35
     refine aj (v:=Value.pointer (some (aB v8 1 (Int.toNat ((gI g.2 ↑k).1))))) (ad (α:=Bool) (xs:=at_) (v:=v8) (i:=(gI g.2 ↑k).1) jG rfl rfl o10.flat rfl (by omega) (by omega)) ?_
     refine⟨(aU.refl _ _ _),?_⟩
     refine bO 4 [7] (by kernel_rfl) ⟨bL 4 rfl (by kernel_rfl) rfl ?_,bL 7 rfl (by kernel_rfl) rfl ?_,trivial⟩
     ·
      refine aj (v:=vp b17 1) (aQ eO rfl rfl rfl (by decide) (by decide) rfl) ?_
      refine⟨(aU.refl _ _ _),?_⟩
      refine ht 5 rfl (aU.refl _ _ _) (λw' hw'=>a8 ah rfl (bx22.chg hw' (bI rfl)) rfl) (az 7 rfl (by kernel_rfl) rfl (aZ (i:=(gI g.2 ↑k).1) true dL rfl rfl o10 (by omega) (by omega) rfl ?_))
      intro w36 ch37 bx38
      clear o10
      have hs39:aU (inl [2]) _ _ _ _:=ch37.l rfl
      refine⟨hs39.same,?_⟩
      refine az 8 rfl (by kernel_rfl) rfl (aj (v:=Value.pointer (some (aB v8 1 (Int.toNat ((gI g.2 ↑k).2))))) (ad (α:=Bool) (xs:=(List.set at_ (Int.toNat ((gI g.2 ↑k).1)) true)) (v:=v8) (i:=(gI g.2 ↑k).2) jG rfl rfl bx38.flat rfl (by omega) (by(simp only[List.length_set,List.length_append,List.length_cons,List.length_nil,List.length_replicate,List.length_map,List.length_take,List.length_drop];omega))) ?_)
      refine⟨hs39.same,?_⟩
      refine az 9 rfl (by kernel_rfl) rfl (aZ (i:=(gI g.2 ↑k).2) true dL rfl rfl bx38 (by omega) (by(simp only[List.length_set,List.length_append,List.length_cons,List.length_nil,List.length_replicate,List.length_map,List.length_take,List.length_drop];omega)) rfl ?_)
      intro w40 ch41 bx42
      clear bx38
      have hs43:=hs39.seq (ch41.l rfl)
      refine⟨hs43.same,?_⟩
      refine bP (by kernel_rfl) ?_
      have C44:=cg [2,3] (ch16.n.seq ((ch21.l rfl).seq (ch23.n.seq ((ch37.l rfl).seq (ch41.l rfl)))))
      replace Rg:=Rg.ca C35
      replace bx5:=bx5.ca C35
      exact mid (g18) _ _ ⟨bH.ca C44,zs1,zs3,zs13,zs14,zs15,(Rg.ca hs43),(bx5.ca hs43),bx42⟩
     ·
      refine aZ (i:=(gI g.2 ↑k).1) true dL rfl rfl o10 (by omega) (by omega) rfl ?_
      intro w45 ch46 bx47
      clear o10
      have hs48:aU (inl [2]) _ _ _ _:=ch46.l rfl
      refine⟨hs48.same,?_⟩
      refine az 4 rfl (by kernel_rfl) rfl (aj (v:=vp b17 1) (aQ eO rfl rfl rfl (by decide) (by decide) rfl) ?_)
      refine⟨hs48.same,?_⟩
      refine ht 5 rfl hs48.same (λw' hw'=>a8 ah rfl (bx22.chg hw' (bI rfl)) rfl) (az 8 rfl (by kernel_rfl) rfl (aj (v:=Value.pointer (some (aB v8 1 (Int.toNat ((gI g.2 ↑k).2))))) (ad (α:=Bool) (xs:=(List.set at_ (Int.toNat ((gI g.2 ↑k).1)) true)) (v:=v8) (i:=(gI g.2 ↑k).2) jG rfl rfl bx47.flat rfl (by omega) (by(simp only[List.length_set,List.length_append,List.length_cons,List.length_nil,List.length_replicate,List.length_map,List.length_take,List.length_drop];omega))) ?_))
      refine⟨hs48.same,?_⟩
      refine az 9 rfl (by kernel_rfl) rfl (aZ (i:=(gI g.2 ↑k).2) true dL rfl rfl bx47 (by omega) (by(simp only[List.length_set,List.length_append,List.length_cons,List.length_nil,List.length_replicate,List.length_map,List.length_take,List.length_drop];omega)) rfl ?_)
      intro w49 ch50 bx51
      clear bx47
      have hs52:=hs48.seq (ch50.l rfl)
      refine⟨hs52.same,?_⟩
      refine bP (by kernel_rfl) ?_
      have C53:=cg [2,3] (ch16.n.seq ((ch21.l rfl).seq (ch23.n.seq ((ch46.l rfl).seq (ch50.l rfl)))))
      replace Rg:=Rg.ca C35
      replace bx5:=bx5.ca C35
      exact mid (g18) _ _ ⟨bH.ca C53,zs1,zs3,zs13,zs14,zs15,(Rg.ca hs52),(bx5.ca hs52),bx51⟩
   ·
    refine aj (v:=vp b17 1) (aQ eO rfl rfl rfl (by decide) (by decide) rfl) ?_
    refine⟨(aU.refl _ _ _),?_⟩
    replace bx22:=bx22.cn ch23
    refine ht 5 rfl (aU.refl _ _ _) (λw' hw'=>a8 ah rfl (bx22.chg hw' (bI rfl)) rfl) (az 1 rfl (by kernel_rfl) rfl (aj (v:=vp b17 0) (aQ eO rfl rfl rfl (by decide) (by decide) rfl) ?_))
    refine⟨(aU.refl _ _ _),?_⟩
    refine ht 2 rfl (aU.refl _ _ _) (λw' hw'=>a8 ah rfl (bx22.chg hw' (bI rfl)) rfl) (az 6 rfl (by kernel_rfl) rfl ?_)
    have C54:=cg [3] (ch16.n.seq ((ch21.l rfl).seq ch23.n))
    replace o10:=o10.ca C54
    refine aj (v:=Value.pointer (some (aB v8 1 (Int.toNat ((gI g.2 ↑k).1))))) (ad (α:=Bool) (xs:=at_) (v:=v8) (i:=(gI g.2 ↑k).1) jG rfl rfl o10.flat rfl (by omega) (by omega)) ?_
    refine⟨(aU.refl _ _ _),?_⟩
    refine az 7 rfl (by kernel_rfl) rfl (aZ (i:=(gI g.2 ↑k).1) true dL rfl rfl o10 (by omega) (by omega) rfl ?_)
    intro w55 ch56 bx57
    clear o10
    have hs58:aU (inl [2]) _ _ _ _:=ch56.l rfl
    refine⟨hs58.same,?_⟩
    refine az 8 rfl (by kernel_rfl) rfl (aj (v:=Value.pointer (some (aB v8 1 (Int.toNat ((gI g.2 ↑k).2))))) (ad (α:=Bool) (xs:=(List.set at_ (Int.toNat ((gI g.2 ↑k).1)) true)) (v:=v8) (i:=(gI g.2 ↑k).2) jG rfl rfl bx57.flat rfl (by omega) (by(simp only[List.length_set,List.length_append,List.length_cons,List.length_nil,List.length_replicate,List.length_map,List.length_take,List.length_drop];omega))) ?_)
    refine⟨hs58.same,?_⟩
    refine az 9 rfl (by kernel_rfl) rfl (aZ (i:=(gI g.2 ↑k).2) true dL rfl rfl bx57 (by omega) (by(simp only[List.length_set,List.length_append,List.length_cons,List.length_nil,List.length_replicate,List.length_map,List.length_take,List.length_drop];omega)) rfl ?_)
    intro w59 ch60 bx61
    clear bx57
    have hs62:=hs58.seq (ch60.l rfl)
    refine⟨hs62.same,?_⟩
    refine bP (by kernel_rfl) ?_
    have C63:=cg [2,3] (ch16.n.seq ((ch21.l rfl).seq (ch23.n.seq ((ch56.l rfl).seq (ch60.l rfl)))))
    replace Rg:=Rg.ca C54
    replace bx5:=bx5.ca C54
    exact mid (g18) _ _ ⟨bH.ca C63,zs1,zs3,zs13,zs14,zs15,(Rg.ca hs62),(bx5.ca hs62),bx61⟩
  clear Rg bx5 o10 bx22 bH
  rintro g66 f64 w65 ⟨bH,zs1,zs3,zs13,zs14,zs15,Rg,bx5,bx32⟩
  refine ak (a6 rfl (lx (aS (m:=↑k) (n:=1) zs15 rfl (by omega)) (mi ((k:Int)+1) (ab ?_))))
  refine back5 (k+1,(List.set (List.set at_ (Int.toNat ((gI g.2 ↑k).1)) true) (Int.toNat ((gI g.2 ↑k).2)) true),g66) _ _ ⟨bH,zs1,zs3,zs13,zs14,rfl,Rg,bx5,bx32,by omega,?_⟩ ?_
  · show mZ g (List.set (List.set at_ (Int.toNat ((gI g.2 ↑k).1)) true) (Int.toNat ((gI g.2 ↑k).2)) true) (k+1)
    exact hut.next (by omega) ‹_›
  · show Int.toNat (_-_)<Int.toNat (_-_)
    omega
 refine ag rfl (df p5) (aO rfl (a7 (a6 rfl (mz zs3 (lo (bV (v:=vb (decide (false∈at_))) (aH (vals:=[v8,vb false]) Tryz.func55 zo zr rfl) (nX w13 at_ v8 (o10.flat).ro false) ?_))))))
 intro w67 hb68
 replace hb68:=aN hb68 g14
 refine lx (eU (b:=(decide (false∈at_))) rfl) (mv (vb (!(decide (false∈at_)))) ?_)
 by_cases q36:(decide (false∈at_))=true
 ·
  refine aA (wn (congrArg Bool.not q36)) (aA (wn (congrArg Bool.not q36)) (aA (wn (congrArg Bool.not q36)) (aA (wn (congrArg Bool.not q36)) (lw (vb false) (bt rfl (congrArg Bool.not q36) rfl) (ma (vb false) (ab (au (vs:=[vb false]) Tryz.func41 (.tmp rfl .nil) ?_)))))))
  have e0:(false:Bool)=(ez g):=by
    exact sW hut (by omega) (of_decide_eq_true ‹_›)
  replace bH:=bH.cn hb68
  exact⟨rb e0,bH.below⟩
 replace bx5:=bx5.cn hb68
 refine lv (vg [vi g.1,g_v]) (wy (congrArg Bool.not (Bool.eq_false_iff.2 q36))) (ay (ds:=[vi g.1,g_v]) aX zs1 bx5 rfl rfl) ?_
 replace Rg:=Rg.cn hb68
 refine cN (wy (congrArg Bool.not (Bool.eq_false_iff.2 q36))) (bE (aH (vals:=[vg [vi g.1,g_v]]) Tryz.func56 rE sg rfl) (nc w67 g g_v (Rg).ro (by exact hm)) ?_)
 rintro⟨d70,v72,v74⟩ w69 ⟨fr71,o73,o75⟩
 obtain⟨g76,ch77,G76⟩:=i8 g14 fr71 (λn=>if n=1 then 4 else if n=2 then 5 else 0)
 replace o73:=o73.gl G76 4
 replace o75:=o75.gl G76 5
 refine lv (vi (((cU g).2).2)) (wy (congrArg Bool.not (Bool.eq_false_iff.2 q36))) (qh jV rfl ah rfl rfl) (lv (vb (decide ((((cU g).2).2)=1))) (wy (congrArg Bool.not (Bool.eq_false_iff.2 q36))) (dA (m:=((cU g).2).2) (n:=1) rfl rfl) (lw (vb (decide ((((cU g).2).2)=1))) (bj rfl (congrArg Bool.not (Bool.eq_false_iff.2 q36)) rfl) (ma (vb (decide ((((cU g).2).2)=1))) (ab (au (vs:=[vb (decide ((((cU g).2).2)=1))]) Tryz.func41 (.tmp rfl .nil) ?_)))))
 have e0:(decide ((((cU g).2).2)=1):Bool)=(ez g):=by
   exact vJ hut (by omega) ‹_› (λhf=>absurd (dt hf) ‹_›)
 replace bH:=bH.cn hb68
 replace bH:=bH.cn ch77
 exact⟨(congrArg (a₁:=decide ((((cU g).2).2)=1)) (λ(z0:Bool)=>Ending.returned (vb z0)) e0),bH.below⟩
theorem wQ(w0:World)(g:(Int)×(List Pt))(g_v:Value)(hg_v:Ro w0 g_v g.2):
    Calls Tryz.prog 36 #[vg [vi g.1,g_v]] w0 (λee w=>ee= .returned (vt [vb ((bW g).1),vi ((bW g).2)])/\eJ w0.heap.size w0 w):=by
 refine ap Tryz.func36 rfl nq ?_
 have bH:=b6.start w0
 have Rg:=hg_v.sl
 refine a7 (a6 rfl (cN rfl (cq c0 (is 1) (1,0) rfl rfl ?_)))
 intro g4 w1 b3 ch2 bx5
 refine ma (vb false) (ai 0 (ab (a7 (a7 (a6 rfl (lx (ay (ds:=[vi g.1,g_v]) aX rfl bx5 rfl rfl) ?_))))))
 replace Rg:=Rg.cn ch2
 refine lo (bV (v:=vb (dm g)) (aH (vals:=[vg [vi g.1,g_v]]) Tryz.func32 iH iY rfl) (iP w1 g g_v (Rg).ro) ?_)
 intro w6 hb7
 replace hb7:=aN hb7 g4
 refine lx (eU (b:=(dm g)) rfl) (ab ?_)
 by_cases p1:(dm g)=true
 ·
  refine ag rfl (congrArg Bool.not p1) (ao (a7 (a6 rfl ?_)))
  replace bx5:=bx5.cn hb7
  refine lx (ay (ds:=[vi g.1,g_v]) aX rfl bx5 rfl rfl) ?_
  replace Rg:=Rg.cn hb7
  refine lo (bV (v:=vb (ez g)) (aH (vals:=[vg [vi g.1,g_v]]) Tryz.func41 yR zI rfl) (uD w6 g g_v (Rg).ro (by exact of_decide_eq_true p1)) ?_)
  intro w8 hb9
  replace hb9:=aN hb9 g4
  refine ma (vb (ez g)) (ai 0 (ab (au (vs:=[vb (ez g),vi 0]) Tryz.func36 (.tmp rfl (.tmp rfl .nil)) ?_)))
  have e0:((ez g):Bool)=((bW g).1):=by
    have hm:=of_decide_eq_true p1
    unfold bW;rw[if_pos hm]
  have e1:(0:Int)=((bW g).2):=by
    have hm:=of_decide_eq_true p1
    unfold bW;rw[if_pos hm]
  have C10:=cg [] (ch2.n.seq (hb7.n.seq hb9.n))
  replace bH:=bH.ca C10
  exact⟨(cV (a:=(ez g)) (b:=0) (λ(z0:Bool) (z1:Int)=>Ending.returned (vt [vb z0,vi z1])) e0 e1),bH.below⟩
 refine af rfl (congrArg Bool.not (Bool.eq_false_iff.2 p1)) (a7 ?_)
 clear bx5
 refine a6 rfl (ma (vb false) (ai 1 (ab (au (vs:=[vb false,vi 1]) Tryz.func36 (.tmp rfl (.tmp rfl .nil)) ?_))))
 have e0:(false:Bool)=((bW g).1):=by
   have hn:¬c7 g:=λh=>p1 (dt h)
   unfold bW;rw[if_neg hn]
 have e1:(1:Int)=((bW g).2):=by
   have hn:¬c7 g:=λh=>p1 (dt h)
   unfold bW;rw[if_neg hn]
 replace bH:=bH.cn ch2
 replace bH:=bH.cn hb7
 exact⟨(cV (a:=false) (b:=1) (λ(z0:Bool) (z1:Int)=>Ending.returned (vt [vb z0,vi z1])) e0 e1),bH.below⟩
end TL
