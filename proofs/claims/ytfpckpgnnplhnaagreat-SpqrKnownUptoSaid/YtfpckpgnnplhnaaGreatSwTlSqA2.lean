import Derived.Test.YtfpckpgnnplhnaaGreatSwTlSqC
import Derived.Test.YtfpckpgnnplhnaaGreatSwTlGenA
import Derived.Test.YtfpckpgnnplhnaaGreatSwTlAli
set_option linter.all false
set_option maxRecDepth 20000
namespace TL
open Go Go.Proofs
theorem sW:Tryz.prog.follows .mixedOrders=true:=by kernel_rfl
theorem lH:Tp Tryz.prog 38 false 1 24 (.slice none 0 0):=Tp.of (by kernel_rfl)
theorem uo:Tp Tryz.prog 39 false 1 24 (.slice none 0 0):=Tp.of (by kernel_rfl)
theorem lM:Tp Tryz.prog 41 true 3 56 (.agg #[.int .i64 0,.slice none 0 0,.slice none 0 0]):=Tp.of (by kernel_rfl)
theorem mb:Tp Tryz.prog 57 true 4 32 (.agg #[.int .i64 0,.int .i64 0,.int .i64 0,.int .i64 0]):=Tp.of (by kernel_rfl)
theorem CN(w0:World)(ps:List ((Int)×(List Int)×(List Bd)))(ps_v:Value)(hps_v:Ro w0 ps_v ps)(i:Int)(hpl:(ps.length:Int)<=1048576)(hpe:∀p∈ps,(p.2.1.length:Int)<=1048576/\(p.2.2.length:Int)<=1048576):
    Calls Tryz.prog 14 #[ps_v,vi i] w0 (λee w=>∃xx:ax×Value,ee= .returned ((λ⟨δ,rv0⟩=>vt [vg [vi (((i5 ps i).1).1),rv0],vi ((i5 ps i).2)]) xx)/\(λ(⟨δ,rv0⟩:ax×Value) (w:World)=>dz w0 δ w/\Ow δ (is 1) (is 1) w rv0 (((i5 ps i).1).2)) xx w):=by
 refine ah Tryz.func14 rfl nq ?_
 have bH:=aW.start w0
 have Rps:=hps_v.sl
 refine a7 (a6 rfl (cy rfl (aZ c0 (is 1) (1,0) rfl aK ?_)))
 intro g4 w1 b3 ch2 bx5
 refine ai 0 (ab (a7 (a7 (a6 rfl (mi i (lx (br (m:=i) (n:=0) rfl rfl) (mv (vb (decide (i<0))) ?_)))))))
 by_cases q12:i<0
 ·
  refine au (wn (dt q12)) (au (wn (dt q12)) (au (wn (dt q12)) (au (wn (dt q12)) (lw (vb true) (bh rfl (dt q12) rfl) (ab (ag rfl rfl (a7 (a6 rfl (lw (vg [vi 0,vn]) (bn (vs:=[]) rfl (by kernel_rfl)) (lo ?_))))))))))
  refine aA (cs':=[vi 0,vn]) aK rfl rfl bx5 rfl nq (AllOne.all (.cons rfl (.cons rfl .nil))) rfl ?_
  intro w6 ch7 bx8
  refine ai 2 (ab (az (vs:=[vg [vi 0,vn],vi 2]) Tryz.func14 (.cell rfl (cd (ds:=[vi 0,vn]) aK bx8 rfl rfl) (.tmp rfl .nil)) ?_))
  have e0:((0,[]):(Int)×(List Pt))=((i5 ps i).1):=by
    rw[pT (by omega)]
  have e1:(2:Int)=((i5 ps i).2):=by
    rw[pT (by omega)]
  exact⟨(fin w0 g4 (λn=>0),vn),(cP (a:=(0,[])) (b:=2) (λ(z0:(Int)×(List Pt)) (z1:Int)=>Ending.returned (vt [vg [vi z0.1,vn],vi z1])) e0 e1),bH.t.fresh _,((congrArg (λ(z:(Int)×(List Pt))=>z.2) e0)▸Ow.nil)⟩
 refine lv (vi i) (wy (df q12)) (ar rfl) (lv (ps_v) (wy (df q12)) (ar rfl) ?_)
 have len9:=(Rps).small
 refine lv (vi (ps.length:Int)) (wy (df q12)) (bG CT rfl Rps.t) (lv (vb (decide ((ps.length:Int)<=i))) (wy (df q12)) (eL (m:=i) (n:=(ps.length:Int)) rfl rfl) (lw (vb (decide ((ps.length:Int)<=i))) (bo rfl (df q12) rfl) (ab ?_)))
 by_cases p1:(ps.length:Int)<=i
 ·
  refine ag rfl (dt p1) (a7 (a6 rfl (lw (vg [vi 0,vn]) (bn (vs:=[]) rfl (by kernel_rfl)) (lo (aA (cs':=[vi 0,vn]) aK rfl rfl bx5 rfl nq (AllOne.all (.cons rfl (.cons rfl .nil))) rfl ?_)))))
  intro w10 ch11 bx12
  refine ai 2 (ab (az (vs:=[vg [vi 0,vn],vi 2]) Tryz.func14 (.cell rfl (cd (ds:=[vi 0,vn]) aK bx12 rfl rfl) (.tmp rfl .nil)) ?_))
  have e0:((0,[]):(Int)×(List Pt))=((i5 ps i).1):=by
    rw[pT (by omega)]
  have e1:(2:Int)=((i5 ps i).2):=by
    rw[pT (by omega)]
  exact⟨(fin w0 g4 (λn=>0),vn),(cP (a:=(0,[])) (b:=2) (λ(z0:(Int)×(List Pt)) (z1:Int)=>Ending.returned (vt [vg [vi z0.1,vn],vi z1])) e0 e1),bH.t.fresh _,((congrArg (λ(z:(Int)×(List Pt))=>z.2) e0)▸Ow.nil)⟩
 refine af rfl (df p1) (am (a7 ?_))
 obtain⟨hpe1,hpe2⟩:=hpe (gI ps i) (bz (by omega) (by omega))
 refine a6 rfl (mv ps_v (mi i (lx (ad (v:=ps_v) (i:=i) CT rfl rfl Rps.t rfl (by omega) (by omega)) ?_)))
 obtain⟨v13,v14,ce15,⟨r16,r17⟩,bl18⟩:=se (r:=i) (Rps.a ch2) (by omega) (by omega)
 refine lw (vg [vi ((gI ps i).1),v13,v14]) (mP (cs:=[vi ((gI ps i).1),v13,v14]) lM rfl rfl ce15) (lo (aZ g4 (is 2) (2,0) rfl lM ?_))
 intro g22 w19 b21 ch20 bx23
 refine lo ?_
 refine aA (cs':=[vi ((gI ps i).1),v13,v14]) lM rfl rfl bx23 rfl nq (AllOne.all (.cons rfl (.cons (aM r16.t) (.cons (aM r17.t) .nil)))) rfl ?_
 intro w24 ch25 bx26
 refine ab (a7 (a6 rfl (lx (aa xC rfl rfl rfl rfl) (lx (a8 lH rfl bx26 rfl) ?_))))
 have len27:=(r16).small
 refine lx (bG bF rfl r16.t) (lw (vg [vi (List.length ((gI ps i).2.1):Int),vn]) (bn (vs:=[(0,vi (List.length ((gI ps i).2.1):Int))]) rfl (by kernel_rfl)) (lo (aZ g22 (is 3) (3,0) rfl aK ?_)))
 intro g31 w28 b30 ch29 bx32
 refine lo (aA (cs':=[vi (List.length ((gI ps i).2.1):Int),vn]) aK rfl rfl bx32 rfl nq (AllOne.all (.cons rfl (.cons rfl .nil))) rfl ?_)
 intro w33 ch34 bx35
 refine ab (a7 (a7 (a6 rfl (lx (aa xC rfl rfl rfl rfl) ?_))))
 refine lx (a8 uo rfl bx26.t rfl) ?_
 have len37:=(r17).small
 refine lx (bG DI rfl r17.t) (mi 0 (ab (aj ?_)))
 refine aR (σ:=Value×(List Pt)×Nat×ax) (λ⟨ie_v,ie,k,gq⟩ f w=>aW w0 gq w/\f 4=vp b3 0/\f 6=vp b21 0/\f 7=vp b30 0/\f 28=v14/\f 29=vi (List.length ((gI ps i).2.2):Int)/\f 30=vi ↑k/\Sl gq (is 0) w ps_v ps/\Bx gq (is 1) w b3 [vi 0,vn]/\Sl gq (is 0) w v13 ((gI ps i).2.1)/\Sl gq (is 0) w v14 ((gI ps i).2.2)/\Bx gq (is 2) w b21 [vi ((gI ps i).1),v13,v14]/\Bx gq (is 3) w b30 [vi (List.length ((gI ps i).2.1):Int),ie_v]/\Ow gq (is 6) (is 6) w ie_v ie/\(k:Int)<=((List.length ((gI ps i).2.2):Int):Int)/\(ie=B7 (gI ps i) k)) (λ⟨ie_v,ie,k,gq⟩=>Int.toNat (((List.length ((gI ps i).2.2):Int):Int)-(k:Int))) (vn,[],0,g31) ?_ ?_
 have C39:=cg [2,3] (ch20.o (ch25.s (ch29.o ch34.e)))
 have C38:=ch2.n.seq C39
 · exact⟨bH.t,rfl,rfl,rfl,rfl,rfl,rfl,Rps.t,bx5.t,r16.t,r17.t,bx26.t,bx35,Ow.nil,by omega,by rfl⟩
 rintro⟨ie_v,ie,k,g42⟩ f40 w41 ⟨bH,zs4,zs6,zs7,zs28,zs29,zs30,Rps,bx5,r16,r17,bx26,bx35,o_ie,hle_k,hie⟩ back6
 have hiel:ie.length<=k:=by rw[hie];exact BO
 refine a7 (a6 rfl (lx (br (m:=↑k) (n:=(List.length ((gI ps i).2.2):Int)) zs30 zs29) (ab (a7 ?_))))
 by_cases p6:(k:Int)<(List.length ((gI ps i).2.2):Int)
 ·
  refine ag rfl (dt p6) (am (a7 (aj (a7 (a6 rfl (lx (ad (v:=v14) (i:=↑k) DI rfl zs28 r17 zs30 (by omega) (by omega)) (lw (vg [vi ((gI ((gI ps i).2.2) (k:Int)).1),vi (((gI ((gI ps i).2.2) (k:Int)).2).1),vi ((((gI ((gI ps i).2.2) (k:Int)).2).2).1),vi ((((gI ((gI ps i).2.2) (k:Int)).2).2).2)]) (bW (v:=v14) (i:=↑k) mb rfl r17 (by omega) (by omega) rfl) (lo (aZ g42 (is 4) (4,0) rfl mb ?_)))))))))
  intro g46 w43 b45 ch44 bx47
  refine lo (aA (cs':=[vi ((gI ((gI ps i).2.2) (k:Int)).1),vi (((gI ((gI ps i).2.2) (k:Int)).2).1),vi ((((gI ((gI ps i).2.2) (k:Int)).2).2).1),vi ((((gI ((gI ps i).2.2) (k:Int)).2).2).2)]) mb rfl rfl bx47 rfl nq (AllOne.all (.cons rfl (.cons rfl (.cons rfl (.cons rfl .nil))))) rfl ?_)
  intro w48 ch49 bx50
  refine ab ?_
  refine dD (σ:=Value×ax) (λ⟨v69,gq⟩ f w=>aW w0 gq w/\f 4=vp b3 0/\f 6=vp b21 0/\f 7=vp b30 0/\f 28=v14/\f 29=vi (List.length ((gI ps i).2.2):Int)/\f 30=vi ↑k/\Sl gq (is 0) w ps_v ps/\Bx gq (is 1) w b3 [vi 0,vn]/\Sl gq (is 0) w v13 ((gI ps i).2.1)/\Sl gq (is 0) w v14 ((gI ps i).2.2)/\Bx gq (is 2) w b21 [vi ((gI ps i).1),v13,v14]/\Ow gq (is 6) (is 6) w v69 (ie++[(cH ((gI ps i).2.1) ((gI ((gI ps i).2.2) (k:Int)).1),cH ((gI ps i).2.1) (((gI ((gI ps i).2.2) (k:Int)).2).1))])/\Bx gq (is 3) w b30 [vi (List.length ((gI ps i).2.1):Int),v69]) g46 (inl [3,6]) sW ?_ ?_
  ·
   intro mid
   intro w52 ch51
   refine ht 0 rfl (bg.refl _ _ _) (λw' hw'=>aa dK rfl rfl zs7 rfl) (ht 2 rfl (bg.refl _ _ _) (λw' hw'=>aa xC rfl rfl zs6 rfl) ?_)
   refine ht 3 rfl (bg.refl _ _ _) (λw' hw'=>a8 lH rfl bx26.t rfl) (ht 4 rfl (bg.refl _ _ _) (λw' hw'=>aa B8 rfl rfl rfl rfl) ?_)
   refine ht 5 rfl (bg.refl _ _ _) (λw' hw'=>a8 aD rfl bx50.t rfl) (ht 7 rfl (bg.refl _ _ _) (λw' hw'=>aa xC rfl rfl zs6 rfl) (ht 8 rfl (bg.refl _ _ _) (λw' hw'=>a8 lH rfl bx26.t rfl) (ht 9 rfl (bg.refl _ _ _) (λw' hw'=>aa B8 rfl rfl rfl rfl) (ht 10 rfl (bg.refl _ _ _) (λw' hw'=>a8 aD rfl bx50.t rfl) ?_))))
   refine cj 1 [6] (by kernel_rfl) ⟨ca 1 rfl (by kernel_rfl) rfl ?_,ca 6 rfl (by kernel_rfl) rfl ?_,trivial⟩
   ·
    refine ao (v:=ie_v) (a8 bM rfl bx35.t rfl) ?_
    refine⟨(bg.refl _ _ _),?_⟩
    refine bY 6 rfl ?_
    refine bI (v:=vi (cH ((gI ps i).2.1) ((gI ((gI ps i).2.2) (k:Int)).1))) (aB (vals:=[v13,vi ((gI ((gI ps i).2.2) (k:Int)).1)]) Tryz.func31 iu iB rfl) (iC w52 ((gI ps i).2.1) v13 r16.t.ro ((gI ((gI ps i).2.2) (k:Int)).1)) ?_
    intro w54 hb55
    replace hb55:=aG hb55 g46
    have hs56:bg (inl [3,6]) _ _ _ _:=hb55.n
    refine⟨hs56.same,?_⟩
    refine bY 11 rfl (bI (v:=vi (cH ((gI ps i).2.1) (((gI ((gI ps i).2.2) (k:Int)).2).1))) (aB (vals:=[v13,vi (((gI ((gI ps i).2.2) (k:Int)).2).1)]) Tryz.func31 iu iB rfl) (iC w54 ((gI ps i).2.1) v13 r16.t.ro (((gI ((gI ps i).2.2) (k:Int)).2).1)) ?_)
    intro w57 hb58
    replace hb58:=aG hb58 g46
    have hs59:=hs56.seq (hb58.n)
    refine⟨hs59.same,?_⟩
    refine ht (v:=vg [vi (cH ((gI ps i).2.1) ((gI ((gI ps i).2.2) (k:Int)).1)),vi (cH ((gI ps i).2.1) (((gI ((gI ps i).2.2) (k:Int)).2).1))]) 12 rfl hs59.same (λw' hw'=>bn (vs:=[(0,vi (cH ((gI ps i).2.1) ((gI ((gI ps i).2.2) (k:Int)).1))),(1,vi (cH ((gI ps i).2.1) (((gI ((gI ps i).2.2) (k:Int)).2).1)))]) rfl (by kernel_rfl)) (bY 13 rfl ?_)
    refine aq (α:=Pt) g46 (is 5) (is 5) (5,0) rfl [(cH ((gI ps i).2.1) ((gI ((gI ps i).2.2) (k:Int)).1),cH ((gI ps i).2.1) (((gI ((gI ps i).2.2) (k:Int)).2).1))] eG bm (by decide) (by decide) (vs:=[(0,vg [vi (cH ((gI ps i).2.1) ((gI ((gI ps i).2.2) (k:Int)).1)),vi (cH ((gI ps i).2.1) (((gI ((gI ps i).2.2) (k:Int)).2).1))])]) rfl rfl (.cons rfl .nil) ?_
    intro g60 w61 v62 ch63 o64
    have hs65:=hs59.seq (ch63.n)
    refine⟨hs65.same,?_⟩
    refine bY 14 rfl ?_
    refine aS (α:=Pt) (xs:=ie) (ys:=([(cH ((gI ps i).2.1) ((gI ((gI ps i).2.2) (k:Int)).1),cH ((gI ps i).2.1) (((gI ((gI ps i).2.2) (k:Int)).2).1))])) g60 (J:=is 6) (S:=is 6) (6,0) rfl eG bm (by decide) rfl rfl rfl o_ie.t o64.flat (by decide) (by(simp;omega)) ?_
    intro g67 w68 v69 ch70 o71
    have hs72:=hs65.seq (ch70.l rfl)
    refine⟨hs72.same,?_⟩
    refine ht 15 rfl hs72.same (λw' hw'=>aa dK rfl rfl zs7 rfl) (bY 16 rfl ?_)
    refine aC (cs':=[vi (List.length ((gI ps i).2.1):Int),v69]) bM rfl rfl bx35.t (aL o71.flat) nq (aM o71.flat) rfl ?_
    intro w73 ch74 bx75
    have hs77:=hs72.seq (ch74.l rfl)
    refine⟨hs77.same,?_⟩
    refine ce (by kernel_rfl) ?_
    exact mid (v69,g67) _ _ ⟨bH.t,zs4,zs6,zs7,zs28,zs29,zs30,Rps.t,bx5.t,r16.t,r17.t,bx26.t,o71.t,bx75⟩
   ·
    refine bI (v:=vi (cH ((gI ps i).2.1) ((gI ((gI ps i).2.2) (k:Int)).1))) (aB (vals:=[v13,vi ((gI ((gI ps i).2.2) (k:Int)).1)]) Tryz.func31 iu iB rfl) (iC w52 ((gI ps i).2.1) v13 r16.t.ro ((gI ((gI ps i).2.2) (k:Int)).1)) ?_
    intro w79 hb80
    replace hb80:=aG hb80 g46
    have hs81:bg (inl [3,6]) _ _ _ _:=hb80.n
    refine⟨hs81.same,?_⟩
    refine cj 1 [11] (by kernel_rfl) ⟨ca 1 rfl (by kernel_rfl) rfl ?_,ca 11 rfl (by kernel_rfl) rfl ?_,trivial⟩
    ·
     refine ao (v:=ie_v) (a8 bM rfl bx35.t rfl) ?_
     refine⟨hs81.same,?_⟩
     refine bY 11 rfl (bI (v:=vi (cH ((gI ps i).2.1) (((gI ((gI ps i).2.2) (k:Int)).2).1))) (aB (vals:=[v13,vi (((gI ((gI ps i).2.2) (k:Int)).2).1)]) Tryz.func31 iu iB rfl) (iC w79 ((gI ps i).2.1) v13 r16.t.ro (((gI ((gI ps i).2.2) (k:Int)).2).1)) ?_)
     intro w83 hb84
     replace hb84:=aG hb84 g46
     have hs85:=hs81.seq (hb84.n)
     refine⟨hs85.same,?_⟩
     refine ht (v:=vg [vi (cH ((gI ps i).2.1) ((gI ((gI ps i).2.2) (k:Int)).1)),vi (cH ((gI ps i).2.1) (((gI ((gI ps i).2.2) (k:Int)).2).1))]) 12 rfl hs85.same (λw' hw'=>bn (vs:=[(0,vi (cH ((gI ps i).2.1) ((gI ((gI ps i).2.2) (k:Int)).1))),(1,vi (cH ((gI ps i).2.1) (((gI ((gI ps i).2.2) (k:Int)).2).1)))]) rfl (by kernel_rfl)) (bY 13 rfl ?_)
     refine aq (α:=Pt) g46 (is 5) (is 5) (5,0) rfl [(cH ((gI ps i).2.1) ((gI ((gI ps i).2.2) (k:Int)).1),cH ((gI ps i).2.1) (((gI ((gI ps i).2.2) (k:Int)).2).1))] eG bm (by decide) (by decide) (vs:=[(0,vg [vi (cH ((gI ps i).2.1) ((gI ((gI ps i).2.2) (k:Int)).1)),vi (cH ((gI ps i).2.1) (((gI ((gI ps i).2.2) (k:Int)).2).1))])]) rfl rfl (.cons rfl .nil) ?_
     intro g86 w87 v88 ch89 o90
     have hs91:=hs85.seq (ch89.n)
     refine⟨hs91.same,?_⟩
     refine bY 14 rfl ?_
     refine aS (α:=Pt) (xs:=ie) (ys:=([(cH ((gI ps i).2.1) ((gI ((gI ps i).2.2) (k:Int)).1),cH ((gI ps i).2.1) (((gI ((gI ps i).2.2) (k:Int)).2).1))])) g86 (J:=is 6) (S:=is 6) (6,0) rfl eG bm (by decide) rfl rfl rfl o_ie.t o90.flat (by decide) (by(simp;omega)) ?_
     intro g93 w94 v95 ch96 o97
     have hs98:=hs91.seq (ch96.l rfl)
     refine⟨hs98.same,?_⟩
     refine ht 15 rfl hs98.same (λw' hw'=>aa dK rfl rfl zs7 rfl) (bY 16 rfl ?_)
     refine aC (cs':=[vi (List.length ((gI ps i).2.1):Int),v95]) bM rfl rfl bx35.t (aL o97.flat) nq (aM o97.flat) rfl ?_
     intro w99 ch100 bx101
     have hs103:=hs98.seq (ch100.l rfl)
     refine⟨hs103.same,?_⟩
     refine ce (by kernel_rfl) ?_
     exact mid (v95,g93) _ _ ⟨bH.t,zs4,zs6,zs7,zs28,zs29,zs30,Rps.t,bx5.t,r16.t,r17.t,bx26.t,o97.t,bx101⟩
    ·
     refine bI (v:=vi (cH ((gI ps i).2.1) (((gI ((gI ps i).2.2) (k:Int)).2).1))) (aB (vals:=[v13,vi (((gI ((gI ps i).2.2) (k:Int)).2).1)]) Tryz.func31 iu iB rfl) (iC w79 ((gI ps i).2.1) v13 r16.t.ro (((gI ((gI ps i).2.2) (k:Int)).2).1)) ?_
     intro w105 hb106
     replace hb106:=aG hb106 g46
     have hs107:=hs81.seq (hb106.n)
     refine⟨hs107.same,?_⟩
     refine ht (v:=vg [vi (cH ((gI ps i).2.1) ((gI ((gI ps i).2.2) (k:Int)).1)),vi (cH ((gI ps i).2.1) (((gI ((gI ps i).2.2) (k:Int)).2).1))]) 12 rfl hs107.same (λw' hw'=>bn (vs:=[(0,vi (cH ((gI ps i).2.1) ((gI ((gI ps i).2.2) (k:Int)).1))),(1,vi (cH ((gI ps i).2.1) (((gI ((gI ps i).2.2) (k:Int)).2).1)))]) rfl (by kernel_rfl)) ?_
     refine cj 1 [13] (by kernel_rfl) ⟨ca 1 rfl (by kernel_rfl) rfl ?_,ca 13 rfl (by kernel_rfl) rfl ?_,trivial⟩
     ·
      refine ao (v:=ie_v) (a8 bM rfl bx35.t rfl) ?_
      refine⟨hs107.same,?_⟩
      refine bY 13 rfl (aq (α:=Pt) g46 (is 5) (is 5) (5,0) rfl [(cH ((gI ps i).2.1) ((gI ((gI ps i).2.2) (k:Int)).1),cH ((gI ps i).2.1) (((gI ((gI ps i).2.2) (k:Int)).2).1))] eG bm (by decide) (by decide) (vs:=[(0,vg [vi (cH ((gI ps i).2.1) ((gI ((gI ps i).2.2) (k:Int)).1)),vi (cH ((gI ps i).2.1) (((gI ((gI ps i).2.2) (k:Int)).2).1))])]) rfl rfl (.cons rfl .nil) ?_)
      intro g109 w110 v111 ch112 o113
      have hs114:=hs107.seq (ch112.n)
      refine⟨hs114.same,?_⟩
      refine bY 14 rfl ?_
      refine aS (α:=Pt) (xs:=ie) (ys:=([(cH ((gI ps i).2.1) ((gI ((gI ps i).2.2) (k:Int)).1),cH ((gI ps i).2.1) (((gI ((gI ps i).2.2) (k:Int)).2).1))])) g109 (J:=is 6) (S:=is 6) (6,0) rfl eG bm (by decide) rfl rfl rfl o_ie.t o113.flat (by decide) (by(simp;omega)) ?_
      intro g116 w117 v118 ch119 o120
      have hs121:=hs114.seq (ch119.l rfl)
      refine⟨hs121.same,?_⟩
      refine ht 15 rfl hs121.same (λw' hw'=>aa dK rfl rfl zs7 rfl) (bY 16 rfl ?_)
      refine aC (cs':=[vi (List.length ((gI ps i).2.1):Int),v118]) bM rfl rfl bx35.t (aL o120.flat) nq (aM o120.flat) rfl ?_
      intro w122 ch123 bx124
      have hs125:=hs121.seq (ch123.l rfl)
      refine⟨hs125.same,?_⟩
      refine ce (by kernel_rfl) ?_
      exact mid (v118,g116) _ _ ⟨bH.t,zs4,zs6,zs7,zs28,zs29,zs30,Rps.t,bx5.t,r16.t,r17.t,bx26.t,o120.t,bx124⟩
     ·
      refine aq (α:=Pt) g46 (is 5) (is 5) (5,0) rfl [(cH ((gI ps i).2.1) ((gI ((gI ps i).2.2) (k:Int)).1),cH ((gI ps i).2.1) (((gI ((gI ps i).2.2) (k:Int)).2).1))] eG bm (by decide) (by decide) (vs:=[(0,vg [vi (cH ((gI ps i).2.1) ((gI ((gI ps i).2.2) (k:Int)).1)),vi (cH ((gI ps i).2.1) (((gI ((gI ps i).2.2) (k:Int)).2).1))])]) rfl rfl (.cons rfl .nil) ?_
      intro g127 w128 v129 ch130 o131
      have hs132:=hs107.seq (ch130.n)
      refine⟨hs132.same,?_⟩
      refine bY 1 rfl ?_
      refine ao (v:=ie_v) (a8 bM rfl bx35.t rfl) ?_
      refine⟨hs132.same,?_⟩
      refine bY 14 rfl ?_
      refine aS (α:=Pt) (xs:=ie) (ys:=([(cH ((gI ps i).2.1) ((gI ((gI ps i).2.2) (k:Int)).1),cH ((gI ps i).2.1) (((gI ((gI ps i).2.2) (k:Int)).2).1))])) g127 (J:=is 6) (S:=is 6) (6,0) rfl eG bm (by decide) rfl rfl rfl o_ie.t o131.flat (by decide) (by(simp;omega)) ?_
      intro g134 w135 v136 ch137 o138
      have hs139:=hs132.seq (ch137.l rfl)
      refine⟨hs139.same,?_⟩
      refine ht 15 rfl hs139.same (λw' hw'=>aa dK rfl rfl zs7 rfl) (bY 16 rfl ?_)
      refine aC (cs':=[vi (List.length ((gI ps i).2.1):Int),v136]) bM rfl rfl bx35.t (aL o138.flat) nq (aM o138.flat) rfl ?_
      intro w140 ch141 bx142
      have hs143:=hs139.seq (ch141.l rfl)
      refine⟨hs143.same,?_⟩
      refine ce (by kernel_rfl) ?_
      exact mid (v136,g134) _ _ ⟨bH.t,zs4,zs6,zs7,zs28,zs29,zs30,Rps.t,bx5.t,r16.t,r17.t,bx26.t,o138.t,bx142⟩
  rintro⟨v69,g147⟩ f145 w146 ⟨bH,zs4,zs6,zs7,zs28,zs29,zs30,Rps,bx5,r16,r17,bx26,o71,bx75⟩
  refine ak (a6 rfl (lx (aJ (m:=↑k) (n:=1) zs30 rfl (by omega)) (mi ((k:Int)+1) (ab ?_))))
  refine back6 (v69,(ie++[(cH ((gI ps i).2.1) ((gI ((gI ps i).2.2) (k:Int)).1),cH ((gI ps i).2.1) (((gI ((gI ps i).2.2) (k:Int)).2).1))]),k+1,g147) _ _ ⟨bH,zs4,zs6,zs7,zs28,zs29,rfl,Rps,bx5,r16,r17,bx26,bx75,o71,by omega,?_⟩ ?_
  · show(ie++[(cH ((gI ps i).2.1) ((gI ((gI ps i).2.2) (k:Int)).1),cH ((gI ps i).2.1) (((gI ((gI ps i).2.2) (k:Int)).2).1))])=B7 (gI ps i) (k+1)
    (rw[hie];exact yb ‹_›)
  · show Int.toNat (_-_)<Int.toNat (_-_)
    omega
 refine af rfl (df p6) (aF rfl (a7 (a7 ?_)))
 refine a6 rfl (lx (av (ds:=[vi (List.length ((gI ps i).2.1):Int),ie_v]) aK zs7 bx35.t rfl rfl) (lo (bI (v:=vb (eI ((List.length ((gI ps i).2.1):Int),ie))) (aB (vals:=[vg [vi (List.length ((gI ps i).2.1):Int),ie_v]]) Tryz.func32 jc jp rfl) (jA w41 ((List.length ((gI ps i).2.1):Int),ie) ie_v (o_ie.t.flat).ro) ?_)))
 intro w148 hb149
 replace hb149:=aG hb149 g42
 refine lx (fM (b:=(eI ((List.length ((gI ps i).2.1):Int),ie))) rfl) (ab ?_)
 by_cases p10:(eI ((List.length ((gI ps i).2.1):Int),ie))=true
 ·
  refine af rfl (congrArg Bool.not p10) (am (a7 (a6 rfl ?_)))
  refine lx (av (ds:=[vi (List.length ((gI ps i).2.1):Int),ie_v]) aK zs7 bx35.t rfl rfl) (lo ?_)
  refine aA (cs':=[vi (List.length ((gI ps i).2.1):Int),ie_v]) aK zs4 rfl bx5.t rfl nq (AllOne.all (.cons rfl (.cons (aM o_ie.t.flat) .nil))) rfl ?_
  intro w150 ch151 bx152
  refine ai 0 (ab (az (vs:=[vg [vi (List.length ((gI ps i).2.1):Int),ie_v],vi 0]) Tryz.func14 (.cell zs4 (cd (ds:=[vi (List.length ((gI ps i).2.1):Int),ie_v]) aK bx152 rfl rfl) (.tmp rfl .nil)) ?_))
  have e0:(((List.length ((gI ps i).2.1):Int),ie):(Int)×(List Pt))=((i5 ps i).1):=by
    (rw[CR (by omega) (by rw[<-kX hie ‹_›];assumption)];exact kX hie ‹_›)
  have e1:(0:Int)=((i5 ps i).2):=by
    rw[CR (by omega) (by rw[<-kX hie ‹_›];assumption)]
  exact⟨(fin w0 g42 (λn=>if n=6 then 1 else 0),ie_v),(cP (a:=((List.length ((gI ps i).2.1):Int),ie)) (b:=0) (λ(z0:(Int)×(List Pt)) (z1:Int)=>Ending.returned (vt [vg [vi z0.1,ie_v],vi z1])) e0 e1),bH.t.fresh _,((congrArg (λ(z:(Int)×(List Pt))=>z.2) e0)▸(o_ie.t.glue (γ:=c0) (ren:=(λn=>if n=6 then 1 else 0)) (k:=1) bH.t.col rfl rfl))⟩
 refine ag rfl (congrArg Bool.not (Bool.eq_false_iff.2 p10)) (a7 ?_)
 refine a6 rfl (lw (vg [vi 0,vn]) (bn (vs:=[]) rfl (by kernel_rfl)) (lo ?_))
 refine aA (cs':=[vi 0,vn]) aK zs4 rfl bx5.t rfl nq (AllOne.all (.cons rfl (.cons rfl .nil))) rfl ?_
 intro w153 ch154 bx155
 refine ai 1 (ab (az (vs:=[vg [vi 0,vn],vi 1]) Tryz.func14 (.cell zs4 (cd (ds:=[vi 0,vn]) aK bx155 rfl rfl) (.tmp rfl .nil)) ?_))
 have e0:((0,[]):(Int)×(List Pt))=((i5 ps i).1):=by
   rw[AU (by omega) (by rw[<-kX hie ‹_›];assumption)]
 have e1:(1:Int)=((i5 ps i).2):=by
   rw[AU (by omega) (by rw[<-kX hie ‹_›];assumption)]
 exact⟨(fin w0 g42 (λn=>0),vn),(cP (a:=(0,[])) (b:=1) (λ(z0:(Int)×(List Pt)) (z1:Int)=>Ending.returned (vt [vg [vi z0.1,vn],vi z1])) e0 e1),bH.t.fresh _,((congrArg (λ(z:(Int)×(List Pt))=>z.2) e0)▸Ow.nil)⟩
end TL
