import Derived.Test.YtfpckpgnnplhnaaGreatSwTlGmA
import Derived.Test.YtfpckpgnnplhnaaGreatSwTlGenA
import Derived.Test.YtfpckpgnnplhnaaGreatSwTlBkB
import Derived.Test.YtfpckpgnnplhnaaGreatSwTlAli
set_option linter.all false
set_option maxRecDepth 20000
namespace TL
open Go Go.Proofs
theorem B3:Tryz.prog.follows .mixedOrders=true:=by kernel_rfl
theorem BS:Tryz.f41.body.isNone=false:=rfl
theorem CC:(Tryz.f41.name== "runtime.NumGoroutine")=false:=by decide+kernel
theorem Ch:Tryz.f55.body.isNone=false:=rfl
theorem BZ:(Tryz.f55.name== "runtime.NumGoroutine")=false:=by decide+kernel
theorem tB:Tryz.f56.body.isNone=false:=rfl
theorem tJ:(Tryz.f56.name== "runtime.NumGoroutine")=false:=by decide+kernel
theorem C9:Tryz.f81.body.isNone=false:=rfl
theorem Bz:(Tryz.f81.name== "runtime.NumGoroutine")=false:=by decide+kernel
theorem sy(w0:World)(g:(Int)×(List Pt))(g_v:Value)(hg_v:Ro w0 g_v g.2):
    Calls Tryz.prog 134 #[vg [vi g.1,g_v]] w0 (λee w=>∃xx:ax×Value×Value,ee= .returned ((λ⟨δ,rv0,rv1⟩=>vt [vg [rv0,rv1,vi ((((di g).1).2).2)],vi ((di g).2)]) xx)/\(λ(⟨δ,rv0,rv1⟩:ax×Value×Value) (w:World)=>dz w0 δ w/\Ow δ (is 1) (is 1) w rv0 (((di g).1).1)/\Ow δ (is 2) (is 2) w rv1 ((((di g).1).2).1)) xx w):=by
 refine ah Tryz.func134 rfl nq ?_
 have bH:=aW.start w0
 have Rg:=hg_v.sl
 refine a7 (a6 rfl (cy rfl (bU c0 (is 1) (1,0) rfl rfl ?_)))
 intro g4 w1 b3 ch2 bx5
 refine lo (aZ g4 (is 2) (2,0) rfl eC ?_)
 intro g9 w6 b8 ch7 bx10
 refine ai 0 (ab (a7 (a7 (a6 rfl ?_))))
 refine lx (av (ds:=[vi g.1,g_v]) aK rfl bx5.t rfl rfl) ?_
 refine lo (bI (v:=vb (eI g)) (aB (vals:=[vg [vi g.1,g_v]]) Tryz.func32 jc jp rfl) (jA w6 g g_v Rg.t.ro) ?_)
 intro w11 hb12
 replace hb12:=aG hb12 g9
 refine lx (fM (b:=(eI g)) rfl) (ab ?_)
 by_cases p1:(eI g)=true
 ·
  refine af rfl (congrArg Bool.not p1) (am (a7 (a6 rfl ?_)))
  refine lx (av (ds:=[vi g.1,g_v]) aK rfl bx5.t rfl rfl) ?_
  refine lo (bB (aB (vals:=[vg [vi g.1,g_v]]) Tryz.func56 tB tJ rfl) (pp w11 g g_v Rg.t.ro (by exact of_decide_eq_true p1)) ?_)
  rintro⟨d14,v16,v18⟩ w13 ⟨fr15,o17,o19⟩
  obtain⟨g20,ch21,G20⟩:=hU g9 fr15 (λn=>if n=1 then 3 else if n=2 then 4 else 0)
  replace o17:=o17.gl G20 3
  replace o19:=o19.gl G20 4
  refine lo ?_
  refine aA (cs':=[v16,v18,vi (((cY g).2).2)]) eC rfl rfl bx10.t rfl nq (AllOne.all (.cons (aM o17.flat) (.cons (aM o19.flat) (.cons rfl .nil)))) rfl ?_
  intro w22 ch23 bx24
  refine ai 0 (ab (az (vs:=[vg [v16,v18,vi (((cY g).2).2)],vi 0]) Tryz.func134 (.cell rfl (cd (ds:=[v16,v18,vi (((cY g).2).2)]) eC bx24 rfl rfl) (.tmp rfl .nil)) ?_))
  have e0:(((cY g).1,((cY g).2).1,((cY g).2).2):(List Int)×(List Int)×(Int))=((di g).1):=by
    have hm:=of_decide_eq_true p1
    (unfold di;rw[if_pos hm];rfl)
  have e1:(0:Int)=((di g).2):=by
    have hm:=of_decide_eq_true p1
    (unfold di;rw[if_pos hm];done)
  exact⟨(fin w0 g20 (λn=>if n=3 then 1 else if n=4 then 2 else 0),v16,v18),(cP (a:=((cY g).1,((cY g).2).1,((cY g).2).2)) (b:=0) (λ(z0:(List Int)×(List Int)×(Int)) (z1:Int)=>Ending.returned (vt [vg [v16,v18,vi z0.2.2],vi z1])) e0 e1),bH.t.fresh _,((congrArg (λ(z:(List Int)×(List Int)×(Int))=>z.1) e0)▸(o17.t.glue (γ:=c0) (ren:=(λn=>if n=3 then 1 else if n=4 then 2 else 0)) (k:=1) bH.t.col rfl rfl)),((congrArg (λ(z:(List Int)×(List Int)×(Int))=>z.2.1) e0)▸(o19.t.glue (γ:=c0) (ren:=(λn=>if n=3 then 1 else if n=4 then 2 else 0)) (k:=2) bH.t.col rfl rfl))⟩
 refine ag rfl (congrArg Bool.not (Bool.eq_false_iff.2 p1)) (a7 ?_)
 refine a6 rfl (lw (vg [vn,vn,vi 0]) (bn (vs:=[]) rfl (by kernel_rfl)) (lo ?_))
 refine aA (cs':=[vn,vn,vi 0]) eC rfl rfl bx10.t rfl nq (AllOne.all (.cons rfl (.cons rfl (.cons rfl .nil)))) rfl ?_
 intro w26 ch27 bx28
 refine ai 1 (ab (az (vs:=[vg [vn,vn,vi 0],vi 1]) Tryz.func134 (.cell rfl (cd (ds:=[vn,vn,vi 0]) eC bx28 rfl rfl) (.tmp rfl .nil)) ?_))
 have e0:(([],[],0):(List Int)×(List Int)×(Int))=((di g).1):=by
   have hn:¬bO g:=λh=>p1 (dt h)
   unfold di;rw[if_neg hn]
 have e1:(1:Int)=((di g).2):=by
   have hn:¬bO g:=λh=>p1 (dt h)
   unfold di;rw[if_neg hn]
 exact⟨(fin w0 g9 (λn=>0),vn,vn),(cP (a:=([],[],0)) (b:=1) (λ(z0:(List Int)×(List Int)×(Int)) (z1:Int)=>Ending.returned (vt [vg [vn,vn,vi z0.2.2],vi z1])) e0 e1),bH.t.fresh _,((congrArg (λ(z:(List Int)×(List Int)×(Int))=>z.1) e0)▸Ow.nil),((congrArg (λ(z:(List Int)×(List Int)×(Int))=>z.2.1) e0)▸Ow.nil)⟩
theorem uy(w0:World)(s:List Bool)(s_v:Value)(hs_v:Ro w0 s_v s)(v:Bool):
    Calls Tryz.prog 81 #[s_v,vb v] w0 (λee w=>ee= .returned (vi (kp s v))/\eK w0.heap.size w0 w):=by
 refine ah Tryz.func81 rfl nq ?_
 have bH:=aW.start w0
 have Rs:=hs_v.sl
 refine a7 (a6 rfl (ai 0 (ab (a7 (a7 (a6 rfl (mv s_v ?_)))))))
 have len1:=(Rs).small
 refine lx (bG j6 rfl Rs) (mi 0 (ab (aj ?_)))
 refine aR (σ:=Nat×ax) (λ⟨k,gq⟩ f w=>aW w0 gq w/\f 0=s_v/\f 1=vb v/\f 7=vi (s.length:Int)/\f 8=vi ↑k/\Sl gq (is 0) w s_v s/\(k:Int)<=((s.length:Int):Int)/\(∀j:Nat,j<k->¬v=gI s ↑j)) (λ⟨k,gq⟩=>Int.toNat (((s.length:Int):Int)-(k:Int))) (0,c0) ?_ ?_
 · exact⟨bH,rfl,rfl,rfl,rfl,Rs,by omega,by intro j hj;omega⟩
 rintro⟨k,g4⟩ f2 w3 ⟨bH,zs0,zs1,zs7,zs8,Rs,hle_k,hinv⟩ back2
 refine a7 (a6 rfl (lx (br (m:=↑k) (n:=(s.length:Int)) zs8 zs7) (ab (a7 ?_))))
 by_cases p2:(k:Int)<(s.length:Int)
 ·
  refine ag rfl (dt p2) (am (a7 (aj (a7 (a6 rfl (mz zs8 (ai (k:Int) (ab (a7 (a6 rfl (mz zs1 (mz zs0 ?_))))))))))))
  refine mi ↑k (lx (ad (v:=s_v) (i:=↑k) j6 rfl rfl Rs rfl (by omega) (by omega)) (lx (aw (v:=s_v) (i:=↑k) dA rfl Rs (by omega) (by omega) (by decide) rfl) (lw (vb (decide (v=(gI s ↑k)))) (th U4 rfl rfl) (ab ?_))))
  by_cases p4:v=(gI s ↑k)
  ·
   refine ag rfl (dt p4) (a7 (a6 rfl (mi ↑k (ai (k:Int) (ab (az (vs:=[vi ↑k]) Tryz.func81 (.tmp rfl .nil) ?_))))))
   have e0:((k:Int):Int)=(kp s v):=by
     exact zh hinv ‹_› ‹_›
   exact⟨ri e0,bH.below⟩
  refine af rfl (df p4) (am (ak (a6 rfl (lx (aJ (m:=↑k) (n:=1) zs8 rfl (by omega)) (mi ((k:Int)+1) (ab ?_))))))
  refine back2 (k+1,g4) _ _ ⟨bH,zs0,zs1,zs7,rfl,Rs,by omega,?_⟩ ?_
  · show∀j:Nat,j<(k+1)->¬v=gI s ↑j
    intro j hj
    by_cases e0:j=k
    · subst e0;assumption
    · exact hinv j (by omega)
  · show Int.toNat (_-_)<Int.toNat (_-_)
    omega
 refine af rfl (df p2) (aF rfl (a7 (a6 rfl (ai (-1) (ab (az (vs:=[vi (-1)]) Tryz.func81 (.tmp rfl .nil) ?_))))))
 have e0:(-1:Int)=(kp s v):=by
   exact Bv hinv ‹_›
 exact⟨ri e0,bH.below⟩
theorem pN(w0:World)(s:List Bool)(s_v:Value)(hs_v:Ro w0 s_v s)(v:Bool):
    Calls Tryz.prog 55 #[s_v,vb v] w0 (λee w=>ee= .returned (vb (decide (v∈s)))/\eK w0.heap.size w0 w):=by
 refine ah Tryz.func55 rfl nq ?_
 have bH:=aW.start w0
 have Rs:=hs_v.sl
 refine a7 (a6 rfl (ma (vb false) (ab (a7 (a6 rfl (mv s_v (mv (vb v) (lo (bI (v:=vi (kp s v)) (aB (vals:=[s_v,vb v]) Tryz.func81 C9 Bz rfl) (uy w0 s s_v (Rs).ro v) ?_)))))))))
 intro w1 hb2
 replace hb2:=aG hb2 c0
 refine lx (eL (m:=kp s v) (n:=0) rfl rfl) (ma (vb (decide (0<=(kp s v)))) (ab (az (vs:=[vb (decide (0<=(kp s v)))]) Tryz.func55 (.tmp rfl .nil) ?_)))
 have e0:(decide (0<=(kp s v)):Bool)=(decide (v∈s)):=by
   exact vx
 exact⟨(congrArg (a₁:=decide (0<=(kp s v))) (λ(z0:Bool)=>Ending.returned (vb z0)) e0),bH.t.below⟩
theorem wj(w0:World)(g:(Int)×(List Pt))(g_v:Value)(hg_v:Ro w0 g_v g.2)(hm:bO g):
    Calls Tryz.prog 41 #[vg [vi g.1,g_v]] w0 (λee w=>ee= .returned (vb (eB g))/\eK w0.heap.size w0 w):=by
 refine ah Tryz.func41 rfl nq ?_
 have bH:=aW.start w0
 have Rg:=hg_v.sl
 have hm0:=hm
 obtain⟨hm1,hm2,hm3,hm4⟩:=hm0
 refine a7 (a6 rfl (cy rfl (bU c0 (is 1) (1,0) rfl rfl ?_)))
 intro g4 w1 b3 ch2 bx5
 refine ma (vb false) (ab (a7 (a7 (a6 rfl (lx (aa dK rfl rfl rfl rfl) (lx (a8 ap rfl bx5 rfl) (lx (br (m:=g.1) (n:=2) rfl rfl) (ab ?_))))))))
 by_cases p1:g.1<2
 ·
  refine ag rfl (dt p1) (a7 ?_)
  refine a6 rfl (ma (vb false) (ab (az (vs:=[vb false]) Tryz.func41 (.tmp rfl .nil) ?_)))
  have e0:(false:Bool)=(eB g):=by
    exact re ‹_›
  exact⟨rb e0,bH.t.below⟩
 refine af rfl (df p1) (am (a7 (a6 rfl (lx (aa dK rfl rfl rfl rfl) (lx (a8 ap rfl bx5 rfl) (lo (dF (α:=Bool) (l:=g.1) (cp:=g.1) g4 (is 2) (is 2) (2,0) rfl false j6 dA rfl rfl rfl (by omega) (by omega) (by omega) (by omega) ?_)))))))
 intro g6 w7 v8 ch9 o10 hcap_
 refine ma v8 (ab (a7 (a7 (a6 rfl (lx (aa dK rfl rfl rfl rfl) ?_)))))
 refine lx (a8 bM rfl bx5.t rfl) ?_
 have len11:=(Rg).small
 refine lx (bG eG rfl Rg.t) (mi 0 (ab (aj ?_)))
 refine aR (σ:=Nat×(List Bool)×ax) (λ⟨k,at_,gq⟩ f w=>aW w0 gq w/\f 1=vp b3 0/\f 3=v8/\f 13=g_v/\f 14=vi (g.2.length:Int)/\f 15=vi ↑k/\Sl gq (is 0) w g_v g.2/\Bx gq (is 1) w b3 [vi g.1,g_v]/\Ow gq (is 2) (is 2) w v8 at_/\(k:Int)<=((g.2.length:Int):Int)/\(o4 g at_ k)) (λ⟨k,at_,gq⟩=>Int.toNat (((g.2.length:Int):Int)-(k:Int))) (0,(List.replicate (Int.toNat g.1) false),g6) ?_ ?_
 · exact⟨bH.t,rfl,rfl,rfl,rfl,rfl,Rg.t,bx5.t,o10,by omega,by exact o4.start hm1⟩
 rintro⟨k,at_,g14⟩ f12 w13 ⟨bH,zs1,zs3,zs13,zs14,zs15,Rg,bx5,o10,hle_k,hut⟩ back5
 have htl:=hut.lo
 refine a7 (a6 rfl (lx (br (m:=↑k) (n:=(g.2.length:Int)) zs15 zs14) (ab (a7 ?_))))
 by_cases p5:(k:Int)<(g.2.length:Int)
 ·
  refine ag rfl (dt p5) ?_
  obtain⟨⟨he1,he2⟩,he3,he4⟩:=hm4 _ (bz (xs:=g.2) (i:=↑k) (by omega) (by omega))
  refine am (a7 (aj (a7 (a6 rfl (lx (ad (v:=g_v) (i:=↑k) eG rfl zs13 Rg zs15 (by omega) (by omega)) (lw (vg [vi ((gI g.2 ↑k).1),vi ((gI g.2 ↑k).2)]) (bW (v:=g_v) (i:=↑k) bm rfl Rg (by omega) (by omega) rfl) (lo (aZ g14 (is 3) (3,0) rfl bm ?_))))))))
  intro g18 w15 b17 ch16 bx19
  refine lo (aA (cs':=[vi ((gI g.2 ↑k).1),vi ((gI g.2 ↑k).2)]) bm rfl rfl bx19 rfl nq (AllOne.all (.cons rfl (.cons rfl .nil))) rfl ?_)
  intro w20 ch21 bx22
  refine ab (a7 (a7 (a6 rfl (lx (aP eS rfl rfl rfl (by decide) (by decide) rfl) (lx (a8 ap rfl bx22 rfl) (lx (aP eS rfl rfl rfl (by decide) (by decide) rfl) (lx (a8 ap rfl bx22 rfl) (lx (dd (m:=(gI g.2 ↑k).1) (n:=(gI g.2 ↑k).2) rfl rfl) (ab ?_)))))))))
  by_cases p7:((gI g.2 ↑k).1)=((gI g.2 ↑k).2)
  ·
   refine ag rfl (dt p7) (a7 ?_)
   refine a6 rfl (ma (vb false) (ab (az (vs:=[vb false]) Tryz.func41 (.tmp rfl .nil) ?_)))
   have e0:(false:Bool)=(eB g):=by
     exact sb ‹_› ‹_›
   exact⟨rb e0,bH.t.below⟩
  refine af rfl (df p7) (am ?_)
  refine dD (σ:=ax) (λgq f w=>aW w0 gq w/\f 1=vp b3 0/\f 3=v8/\f 13=g_v/\f 14=vi (g.2.length:Int)/\f 15=vi ↑k/\Sl gq (is 0) w g_v g.2/\Bx gq (is 1) w b3 [vi g.1,g_v]/\Ow gq (is 2) (is 2) w v8 (List.set (List.set at_ (Int.toNat ((gI g.2 ↑k).1)) true) (Int.toNat ((gI g.2 ↑k).2)) true)) g18 (inl [2]) B3 ?_ ?_
  ·
   intro mid
   intro w24 ch23
   refine ht (v:=v8) 0 rfl (bg.refl _ _ _) (λw' hw'=>ar zs3) (ht (v:=v8) 3 rfl (bg.refl _ _ _) (λw' hw'=>ar zs3) ?_)
   refine cj 1 [4] (by kernel_rfl) ⟨ca 1 rfl (by kernel_rfl) rfl ?_,ca 4 rfl (by kernel_rfl) rfl ?_,trivial⟩
   ·
    refine ao (v:=vp b17 0) (aP eS rfl rfl rfl (by decide) (by decide) rfl) ?_
    refine⟨(bg.refl _ _ _),?_⟩
    refine ht 2 rfl (bg.refl _ _ _) (λw' hw'=>a8 ap rfl bx22.t rfl) ?_
    refine cj 4 [6] (by kernel_rfl) ⟨ca 4 rfl (by kernel_rfl) rfl ?_,ca 6 rfl (by kernel_rfl) rfl ?_,trivial⟩
    ·
     refine ao (v:=vp b17 1) (aP eS rfl rfl rfl (by decide) (by decide) rfl) ?_
     refine⟨(bg.refl _ _ _),?_⟩
     refine ht 5 rfl (bg.refl _ _ _) (λw' hw'=>a8 ap rfl bx22.t rfl) (bY 6 rfl ?_)
     refine ao (v:=Value.pointer (some (bu v8 1 (Int.toNat ((gI g.2 ↑k).1))))) (ad (α:=Bool) (xs:=at_) (v:=v8) (i:=(gI g.2 ↑k).1) j6 rfl rfl o10.t.flat rfl (by omega) (by omega)) ?_
     refine⟨(bg.refl _ _ _),?_⟩
     refine bY 7 rfl (aU (i:=(gI g.2 ↑k).1) true dA rfl rfl o10.t (by omega) (by omega) rfl ?_)
     intro w26 ch27 bx28
     have hs29:bg (inl [2]) _ _ _ _:=ch27.l rfl
     refine⟨hs29.same,?_⟩
     refine bY 8 rfl (ao (v:=Value.pointer (some (bu v8 1 (Int.toNat ((gI g.2 ↑k).2))))) (ad (α:=Bool) (xs:=(List.set at_ (Int.toNat ((gI g.2 ↑k).1)) true)) (v:=v8) (i:=(gI g.2 ↑k).2) j6 rfl rfl bx28.flat rfl (by omega) (by(simp only[List.length_set,List.length_append,List.length_cons,List.length_nil,List.length_replicate,List.length_map,List.length_take,List.length_drop];omega))) ?_)
     refine⟨hs29.same,?_⟩
     refine bY 9 rfl (aU (i:=(gI g.2 ↑k).2) true dA rfl rfl bx28 (by omega) (by(simp only[List.length_set,List.length_append,List.length_cons,List.length_nil,List.length_replicate,List.length_map,List.length_take,List.length_drop];omega)) rfl ?_)
     intro w30 ch31 bx32
     have hs33:=hs29.seq (ch31.l rfl)
     refine⟨hs33.same,?_⟩
     refine ce (by kernel_rfl) ?_
     exact mid (g18) _ _ ⟨bH.t,zs1,zs3,zs13,zs14,zs15,Rg.t,bx5.t,bx32⟩
    ·
     refine ao (v:=Value.pointer (some (bu v8 1 (Int.toNat ((gI g.2 ↑k).1))))) (ad (α:=Bool) (xs:=at_) (v:=v8) (i:=(gI g.2 ↑k).1) j6 rfl rfl o10.t.flat rfl (by omega) (by omega)) ?_
     refine⟨(bg.refl _ _ _),?_⟩
     refine cj 4 [7] (by kernel_rfl) ⟨ca 4 rfl (by kernel_rfl) rfl ?_,ca 7 rfl (by kernel_rfl) rfl ?_,trivial⟩
     ·
      refine ao (v:=vp b17 1) (aP eS rfl rfl rfl (by decide) (by decide) rfl) ?_
      refine⟨(bg.refl _ _ _),?_⟩
      refine ht 5 rfl (bg.refl _ _ _) (λw' hw'=>a8 ap rfl bx22.t rfl) (bY 7 rfl (aU (i:=(gI g.2 ↑k).1) true dA rfl rfl o10.t (by omega) (by omega) rfl ?_))
      intro w36 ch37 bx38
      have hs39:bg (inl [2]) _ _ _ _:=ch37.l rfl
      refine⟨hs39.same,?_⟩
      refine bY 8 rfl (ao (v:=Value.pointer (some (bu v8 1 (Int.toNat ((gI g.2 ↑k).2))))) (ad (α:=Bool) (xs:=(List.set at_ (Int.toNat ((gI g.2 ↑k).1)) true)) (v:=v8) (i:=(gI g.2 ↑k).2) j6 rfl rfl bx38.flat rfl (by omega) (by(simp only[List.length_set,List.length_append,List.length_cons,List.length_nil,List.length_replicate,List.length_map,List.length_take,List.length_drop];omega))) ?_)
      refine⟨hs39.same,?_⟩
      refine bY 9 rfl (aU (i:=(gI g.2 ↑k).2) true dA rfl rfl bx38 (by omega) (by(simp only[List.length_set,List.length_append,List.length_cons,List.length_nil,List.length_replicate,List.length_map,List.length_take,List.length_drop];omega)) rfl ?_)
      intro w40 ch41 bx42
      have hs43:=hs39.seq (ch41.l rfl)
      refine⟨hs43.same,?_⟩
      refine ce (by kernel_rfl) ?_
      exact mid (g18) _ _ ⟨bH.t,zs1,zs3,zs13,zs14,zs15,Rg.t,bx5.t,bx42⟩
     ·
      refine aU (i:=(gI g.2 ↑k).1) true dA rfl rfl o10.t (by omega) (by omega) rfl ?_
      intro w45 ch46 bx47
      have hs48:bg (inl [2]) _ _ _ _:=ch46.l rfl
      refine⟨hs48.same,?_⟩
      refine bY 4 rfl (ao (v:=vp b17 1) (aP eS rfl rfl rfl (by decide) (by decide) rfl) ?_)
      refine⟨hs48.same,?_⟩
      refine ht 5 rfl hs48.same (λw' hw'=>a8 ap rfl bx22.t rfl) (bY 8 rfl (ao (v:=Value.pointer (some (bu v8 1 (Int.toNat ((gI g.2 ↑k).2))))) (ad (α:=Bool) (xs:=(List.set at_ (Int.toNat ((gI g.2 ↑k).1)) true)) (v:=v8) (i:=(gI g.2 ↑k).2) j6 rfl rfl bx47.flat rfl (by omega) (by(simp only[List.length_set,List.length_append,List.length_cons,List.length_nil,List.length_replicate,List.length_map,List.length_take,List.length_drop];omega))) ?_))
      refine⟨hs48.same,?_⟩
      refine bY 9 rfl (aU (i:=(gI g.2 ↑k).2) true dA rfl rfl bx47 (by omega) (by(simp only[List.length_set,List.length_append,List.length_cons,List.length_nil,List.length_replicate,List.length_map,List.length_take,List.length_drop];omega)) rfl ?_)
      intro w49 ch50 bx51
      have hs52:=hs48.seq (ch50.l rfl)
      refine⟨hs52.same,?_⟩
      refine ce (by kernel_rfl) ?_
      exact mid (g18) _ _ ⟨bH.t,zs1,zs3,zs13,zs14,zs15,Rg.t,bx5.t,bx51⟩
   ·
    refine ao (v:=vp b17 1) (aP eS rfl rfl rfl (by decide) (by decide) rfl) ?_
    refine⟨(bg.refl _ _ _),?_⟩
    refine ht 5 rfl (bg.refl _ _ _) (λw' hw'=>a8 ap rfl bx22.t rfl) (bY 1 rfl (ao (v:=vp b17 0) (aP eS rfl rfl rfl (by decide) (by decide) rfl) ?_))
    refine⟨(bg.refl _ _ _),?_⟩
    refine ht 2 rfl (bg.refl _ _ _) (λw' hw'=>a8 ap rfl bx22.t rfl) (bY 6 rfl ?_)
    refine ao (v:=Value.pointer (some (bu v8 1 (Int.toNat ((gI g.2 ↑k).1))))) (ad (α:=Bool) (xs:=at_) (v:=v8) (i:=(gI g.2 ↑k).1) j6 rfl rfl o10.t.flat rfl (by omega) (by omega)) ?_
    refine⟨(bg.refl _ _ _),?_⟩
    refine bY 7 rfl (aU (i:=(gI g.2 ↑k).1) true dA rfl rfl o10.t (by omega) (by omega) rfl ?_)
    intro w55 ch56 bx57
    have hs58:bg (inl [2]) _ _ _ _:=ch56.l rfl
    refine⟨hs58.same,?_⟩
    refine bY 8 rfl (ao (v:=Value.pointer (some (bu v8 1 (Int.toNat ((gI g.2 ↑k).2))))) (ad (α:=Bool) (xs:=(List.set at_ (Int.toNat ((gI g.2 ↑k).1)) true)) (v:=v8) (i:=(gI g.2 ↑k).2) j6 rfl rfl bx57.flat rfl (by omega) (by(simp only[List.length_set,List.length_append,List.length_cons,List.length_nil,List.length_replicate,List.length_map,List.length_take,List.length_drop];omega))) ?_)
    refine⟨hs58.same,?_⟩
    refine bY 9 rfl (aU (i:=(gI g.2 ↑k).2) true dA rfl rfl bx57 (by omega) (by(simp only[List.length_set,List.length_append,List.length_cons,List.length_nil,List.length_replicate,List.length_map,List.length_take,List.length_drop];omega)) rfl ?_)
    intro w59 ch60 bx61
    have hs62:=hs58.seq (ch60.l rfl)
    refine⟨hs62.same,?_⟩
    refine ce (by kernel_rfl) ?_
    exact mid (g18) _ _ ⟨bH.t,zs1,zs3,zs13,zs14,zs15,Rg.t,bx5.t,bx61⟩
  rintro g66 f64 w65 ⟨bH,zs1,zs3,zs13,zs14,zs15,Rg,bx5,bx32⟩
  refine ak (a6 rfl (lx (aJ (m:=↑k) (n:=1) zs15 rfl (by omega)) (mi ((k:Int)+1) (ab ?_))))
  refine back5 (k+1,(List.set (List.set at_ (Int.toNat ((gI g.2 ↑k).1)) true) (Int.toNat ((gI g.2 ↑k).2)) true),g66) _ _ ⟨bH,zs1,zs3,zs13,zs14,rfl,Rg,bx5,bx32,by omega,?_⟩ ?_
  · show o4 g (List.set (List.set at_ (Int.toNat ((gI g.2 ↑k).1)) true) (Int.toNat ((gI g.2 ↑k).2)) true) (k+1)
    exact hut.next (by omega) ‹_›
  · show Int.toNat (_-_)<Int.toNat (_-_)
    omega
 refine af rfl (df p5) (aF rfl (a7 (a6 rfl (mz zs3 (lo (bI (v:=vb (decide (false∈at_))) (aB (vals:=[v8,vb false]) Tryz.func55 Ch BZ rfl) (pN w13 at_ v8 (o10.t.flat).ro false) ?_))))))
 intro w67 hb68
 replace hb68:=aG hb68 g14
 refine lx (fM (b:=(decide (false∈at_))) rfl) (mv (vb (!(decide (false∈at_)))) ?_)
 by_cases q36:(decide (false∈at_))=true
 ·
  refine au (wn (congrArg Bool.not q36)) (au (wn (congrArg Bool.not q36)) (au (wn (congrArg Bool.not q36)) (au (wn (congrArg Bool.not q36)) (lw (vb false) (bo rfl (congrArg Bool.not q36) rfl) (ma (vb false) (ab (az (vs:=[vb false]) Tryz.func41 (.tmp rfl .nil) ?_)))))))
  have e0:(false:Bool)=(eB g):=by
    exact uk hut (by omega) (of_decide_eq_true ‹_›)
  exact⟨rb e0,bH.t.below⟩
 refine lv (vg [vi g.1,g_v]) (wy (congrArg Bool.not (Bool.eq_false_iff.2 q36))) (av (ds:=[vi g.1,g_v]) aK zs1 bx5.t rfl rfl) ?_
 refine cy (wy (congrArg Bool.not (Bool.eq_false_iff.2 q36))) (bB (aB (vals:=[vg [vi g.1,g_v]]) Tryz.func56 tB tJ rfl) (pp w67 g g_v Rg.t.ro (by exact hm)) ?_)
 rintro⟨d70,v72,v74⟩ w69 ⟨fr71,o73,o75⟩
 obtain⟨g76,ch77,G76⟩:=hU g14 fr71 (λn=>if n=1 then 4 else if n=2 then 5 else 0)
 replace o73:=o73.gl G76 4
 replace o75:=o75.gl G76 5
 refine lv (vi (((cY g).2).2)) (wy (congrArg Bool.not (Bool.eq_false_iff.2 q36))) (rK l8 rfl ap rfl rfl) (lv (vb (decide ((((cY g).2).2)=1))) (wy (congrArg Bool.not (Bool.eq_false_iff.2 q36))) (dd (m:=((cY g).2).2) (n:=1) rfl rfl) (lw (vb (decide ((((cY g).2).2)=1))) (bh rfl (congrArg Bool.not (Bool.eq_false_iff.2 q36)) rfl) (ma (vb (decide ((((cY g).2).2)=1))) (ab (az (vs:=[vb (decide ((((cY g).2).2)=1))]) Tryz.func41 (.tmp rfl .nil) ?_)))))
 have e0:(decide ((((cY g).2).2)=1):Bool)=(eB g):=by
   exact AP hut (by omega) ‹_› (λhf=>absurd (dt hf) ‹_›)
 exact⟨(congrArg (a₁:=decide ((((cY g).2).2)=1)) (λ(z0:Bool)=>Ending.returned (vb z0)) e0),bH.t.below⟩
theorem AE(w0:World)(g:(Int)×(List Pt))(g_v:Value)(hg_v:Ro w0 g_v g.2):
    Calls Tryz.prog 36 #[vg [vi g.1,g_v]] w0 (λee w=>ee= .returned (vt [vb ((bX g).1),vi ((bX g).2)])/\eK w0.heap.size w0 w):=by
 refine ah Tryz.func36 rfl nq ?_
 have bH:=aW.start w0
 have Rg:=hg_v.sl
 refine a7 (a6 rfl (cy rfl (bU c0 (is 1) (1,0) rfl rfl ?_)))
 intro g4 w1 b3 ch2 bx5
 refine ma (vb false) (ai 0 (ab (a7 (a7 (a6 rfl (lx (av (ds:=[vi g.1,g_v]) aK rfl bx5 rfl rfl) ?_))))))
 refine lo (bI (v:=vb (eI g)) (aB (vals:=[vg [vi g.1,g_v]]) Tryz.func32 jc jp rfl) (jA w1 g g_v Rg.t.ro) ?_)
 intro w6 hb7
 replace hb7:=aG hb7 g4
 refine lx (fM (b:=(eI g)) rfl) (ab ?_)
 by_cases p1:(eI g)=true
 ·
  refine af rfl (congrArg Bool.not p1) (am (a7 (a6 rfl ?_)))
  refine lx (av (ds:=[vi g.1,g_v]) aK rfl bx5.t rfl rfl) ?_
  refine lo (bI (v:=vb (eB g)) (aB (vals:=[vg [vi g.1,g_v]]) Tryz.func41 BS CC rfl) (wj w6 g g_v Rg.t.ro (by exact of_decide_eq_true p1)) ?_)
  intro w8 hb9
  replace hb9:=aG hb9 g4
  refine ma (vb (eB g)) (ai 0 (ab (az (vs:=[vb (eB g),vi 0]) Tryz.func36 (.tmp rfl (.tmp rfl .nil)) ?_)))
  have e0:((eB g):Bool)=((bX g).1):=by
    have hm:=of_decide_eq_true p1
    unfold bX;rw[if_pos hm]
  have e1:(0:Int)=((bX g).2):=by
    have hm:=of_decide_eq_true p1
    unfold bX;rw[if_pos hm]
  exact⟨(cP (a:=(eB g)) (b:=0) (λ(z0:Bool) (z1:Int)=>Ending.returned (vt [vb z0,vi z1])) e0 e1),bH.t.below⟩
 refine ag rfl (congrArg Bool.not (Bool.eq_false_iff.2 p1)) (a7 ?_)
 refine a6 rfl (ma (vb false) (ai 1 (ab (az (vs:=[vb false,vi 1]) Tryz.func36 (.tmp rfl (.tmp rfl .nil)) ?_))))
 have e0:(false:Bool)=((bX g).1):=by
   have hn:¬bO g:=λh=>p1 (dt h)
   unfold bX;rw[if_neg hn]
 have e1:(1:Int)=((bX g).2):=by
   have hn:¬bO g:=λh=>p1 (dt h)
   unfold bX;rw[if_neg hn]
 exact⟨(cP (a:=false) (b:=1) (λ(z0:Bool) (z1:Int)=>Ending.returned (vt [vb z0,vi z1])) e0 e1),bH.t.below⟩
end TL
