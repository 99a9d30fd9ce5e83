import Derived.Test.YtfpckpgnnplhnaaGreatSkTlSqC
import Derived.Test.YtfpckpgnnplhnaaGreatSkTlGenA
import Derived.Test.YtfpckpgnnplhnaaGreatSkTlAli
set_option linter.all false
set_option maxRecDepth 20000
namespace TL
open Go Go.Proofs
theorem ru:Tryz.prog.follows .mixedOrders=true:=by kernel_rfl
theorem kP:Tp Tryz.prog 38 false 1 24 (.slice none 0 0):=Tp.of (by kernel_rfl)
theorem sA:Tp Tryz.prog 39 false 1 24 (.slice none 0 0):=Tp.of (by kernel_rfl)
theorem l7:Tp Tryz.prog 41 true 3 56 (.agg #[.int .i64 0,.slice none 0 0,.slice none 0 0]):=Tp.of (by kernel_rfl)
theorem kJ:Tp Tryz.prog 57 true 4 32 (.agg #[.int .i64 0,.int .i64 0,.int .i64 0,.int .i64 0]):=Tp.of (by kernel_rfl)
theorem rL(w0:World)(ps:List ((Int)×(List Int)×(List Bd)))(ps_v:Value)(hps_v:Ro w0 ps_v ps)(i:Int)(hpl:(ps.length:Int)<=1048576)(hpe:∀p∈ps,(p.2.1.length:Int)<=1048576/\(p.2.2.length:Int)<=1048576):
    Calls Tryz.prog 14 #[ps_v,vi i] w0 (λee w=>∃xx:aw×Value,ee= .returned ((λ⟨δ,rv0⟩=>vt [vg [vi (((dF ps i).1).1),rv0],vi ((dF ps i).2)]) xx)/\(λ(⟨δ,rv0⟩:aw×Value) (w:World)=>dU w0 δ w/\Ow δ (is 1) (is 1) w rv0 (((dF ps i).1).2)) xx w):=by
 refine ap Tryz.func14 rfl nq ?_
 have bH:=b6.start w0
 have Rps:=hps_v.sl
 refine a7 (a6 rfl (cN rfl (bi c0 (is 1) (1,0) rfl aX ?_)))
 intro g4 w1 b3 ch2 bx5
 refine ai 0 (ab (a7 (a7 (a6 rfl (mi i (lx (bw (m:=i) (n:=0) rfl rfl) (mv (vb (decide (i<0))) ?_)))))))
 by_cases q12:i<0
 ·
  refine aA (wn (dt q12)) (aA (wn (dt q12)) (aA (wn (dt q12)) (aA (wn (dt q12)) (lw (vb true) (bj rfl (dt q12) rfl) (ab (af rfl rfl (a7 (a6 rfl (lw (vg [vi 0,vn]) (bh (vs:=[]) rfl (by kernel_rfl)) (lo ?_))))))))))
  refine ax (cs':=[vi 0,vn]) aX rfl rfl bx5 rfl nq (AllOne.all (.cons rfl (.cons rfl .nil))) rfl ?_
  intro w6 ch7 bx8
  clear bx5
  refine ai 2 (ab (au (vs:=[vg [vi 0,vn],vi 2]) Tryz.func14 (.cell rfl (cy (ds:=[vi 0,vn]) aX bx8 rfl rfl) (.tmp rfl .nil)) ?_))
  replace bH:=bH.cn ch2
  replace bH:=bH.ce ch7
  have e0:((0,[]):(Int)×(List Pt))=((dF ps i).1):=by
    rw[kB (by omega)]
  have e1:(2:Int)=((dF ps i).2):=by
    rw[kB (by omega)]
  exact⟨(fin w0 g4 (λn=>0),vn),(cV (a:=(0,[])) (b:=2) (λ(z0:(Int)×(List Pt)) (z1:Int)=>Ending.returned (vt [vg [vi z0.1,vn],vi z1])) e0 e1),bH.fresh _,((congrArg (λ(z:(Int)×(List Pt))=>z.2) e0)▸Ow.nil)⟩
 refine lv (vi i) (wy (df q12)) (aq rfl) (lv (ps_v) (wy (df q12)) (aq rfl) ?_)
 replace Rps:=Rps.cn ch2
 have len9:=(Rps).small
 refine lv (vi (ps.length:Int)) (wy (df q12)) (bp eb rfl Rps) (lv (vb (decide ((ps.length:Int)<=i))) (wy (df q12)) (eB (m:=i) (n:=(ps.length:Int)) rfl rfl) (lw (vb (decide ((ps.length:Int)<=i))) (bt rfl (df q12) rfl) (ab ?_)))
 by_cases p1:(ps.length:Int)<=i
 ·
  refine af rfl (dt p1) (a7 (a6 rfl (lw (vg [vi 0,vn]) (bh (vs:=[]) rfl (by kernel_rfl)) (lo (ax (cs':=[vi 0,vn]) aX rfl rfl bx5 rfl nq (AllOne.all (.cons rfl (.cons rfl .nil))) rfl ?_)))))
  intro w10 ch11 bx12
  clear bx5
  refine ai 2 (ab (au (vs:=[vg [vi 0,vn],vi 2]) Tryz.func14 (.cell rfl (cy (ds:=[vi 0,vn]) aX bx12 rfl rfl) (.tmp rfl .nil)) ?_))
  replace bH:=bH.cn ch2
  replace bH:=bH.ce ch11
  have e0:((0,[]):(Int)×(List Pt))=((dF ps i).1):=by
    rw[kB (by omega)]
  have e1:(2:Int)=((dF ps i).2):=by
    rw[kB (by omega)]
  exact⟨(fin w0 g4 (λn=>0),vn),(cV (a:=(0,[])) (b:=2) (λ(z0:(Int)×(List Pt)) (z1:Int)=>Ending.returned (vt [vg [vi z0.1,vn],vi z1])) e0 e1),bH.fresh _,((congrArg (λ(z:(Int)×(List Pt))=>z.2) e0)▸Ow.nil)⟩
 refine ag rfl (df p1) (ao (a7 ?_))
 obtain⟨hpe1,hpe2⟩:=hpe (gI ps i) (bC (by omega) (by omega))
 refine a6 rfl (mv ps_v (mi i (lx (ad (v:=ps_v) (i:=i) eb rfl rfl Rps rfl (by omega) (by omega)) ?_)))
 obtain⟨v13,v14,ce15,⟨r16,r17⟩,bl18⟩:=eQ (r:=i) Rps (by omega) (by omega)
 refine lw (vg [vi ((gI ps i).1),v13,v14]) (jN (cs:=[vi ((gI ps i).1),v13,v14]) l7 rfl rfl ce15) (lo (bi g4 (is 2) (2,0) rfl l7 ?_))
 intro g22 w19 b21 ch20 bx23
 refine lo ?_
 replace r17:=r17.cn ch20
 replace r16:=r16.cn ch20
 refine ax (cs':=[vi ((gI ps i).1),v13,v14]) l7 rfl rfl bx23 rfl nq (AllOne.all (.cons rfl (.cons (aG r16) (.cons (aG r17) .nil)))) rfl ?_
 intro w24 ch25 bx26
 clear bx23
 refine ab (a7 (a6 rfl (lx (aa fK rfl rfl rfl rfl) (lx (a8 kP rfl bx26 rfl) ?_))))
 replace r16:=r16.ce ch25
 have len27:=(r16).small
 refine lx (bp bF rfl r16) (lw (vg [vi (List.length ((gI ps i).2.1):Int),vn]) (bh (vs:=[(0,vi (List.length ((gI ps i).2.1):Int))]) rfl (by kernel_rfl)) (lo (bi g22 (is 3) (3,0) rfl aX ?_)))
 intro g31 w28 b30 ch29 bx32
 refine lo (ax (cs':=[vi (List.length ((gI ps i).2.1):Int),vn]) aX rfl rfl bx32 rfl nq (AllOne.all (.cons rfl (.cons rfl .nil))) rfl ?_)
 intro w33 ch34 bx35
 clear bx32
 refine ab (a7 (a7 (a6 rfl (lx (aa fK rfl rfl rfl rfl) ?_))))
 replace bx26:=(bx26.cn ch29).ce ch34
 refine lx (a8 sA rfl bx26 rfl) ?_
 have C36:=cg [2,3] ((ch25.l rfl).seq (ch29.n.seq (ch34.l rfl)))
 replace r17:=r17.ca C36
 have len37:=(r17).small
 refine lx (bp jr rfl r17) (mi 0 (ab (am ?_)))
 refine aV (σ:=Value×(List Pt)×Nat×aw) (λ⟨ie_v,ie,k,gq⟩ f w=>b6 w0 gq w/\f 4=vp b3 0/\f 6=vp b21 0/\f 7=vp b30 0/\f 28=v14/\f 29=vi (List.length ((gI ps i).2.2):Int)/\f 30=vi ↑k/\Sl gq (is 0) w ps_v ps/\Bx gq (is 1) w b3 [vi 0,vn]/\Sl gq (is 0) w v13 ((gI ps i).2.1)/\Sl gq (is 0) w v14 ((gI ps i).2.2)/\Bx gq (is 2) w b21 [vi ((gI ps i).1),v13,v14]/\Bx gq (is 3) w b30 [vi (List.length ((gI ps i).2.1):Int),ie_v]/\Ow gq (is 6) (is 6) w ie_v ie/\(k:Int)<=((List.length ((gI ps i).2.2):Int):Int)/\(ie=qE (gI ps i) k)) (λ⟨ie_v,ie,k,gq⟩=>Int.toNat (((List.length ((gI ps i).2.2):Int):Int)-(k:Int))) (vn,[],0,g31) ?_ ?_
 have C39:=cg [2,3] (ch20.n.seq ((ch25.l rfl).seq (ch29.n.seq (ch34.l rfl))))
 have C38:=ch2.n.seq C39
 · exact⟨bH.ca C38,rfl,rfl,rfl,rfl,rfl,rfl,Rps.ca C39,bx5.ca C39,(r16.cn ch29).ce ch34,r17,bx26,bx35,Ow.nil,by omega,by rfl⟩
 clear Rps bx5 r16 r17 bx26 bx35 bH
 rintro⟨ie_v,ie,k,g42⟩ f40 w41 ⟨bH,zs4,zs6,zs7,zs28,zs29,zs30,Rps,bx5,r16,r17,bx26,bx35,o_ie,hle_k,hie⟩ back6
 have hiel:ie.length<=k:=by rw[hie];exact sr
 refine a7 (a6 rfl (lx (bw (m:=↑k) (n:=(List.length ((gI ps i).2.2):Int)) zs30 zs29) (ab (a7 ?_))))
 by_cases p6:(k:Int)<(List.length ((gI ps i).2.2):Int)
 ·
  refine af rfl (dt p6) (ao (a7 (am (a7 (a6 rfl (lx (ad (v:=v14) (i:=↑k) jr rfl zs28 r17 zs30 (by omega) (by omega)) (lw (vg [vi ((gI ((gI ps i).2.2) (k:Int)).1),vi (((gI ((gI ps i).2.2) (k:Int)).2).1),vi ((((gI ((gI ps i).2.2) (k:Int)).2).2).1),vi ((((gI ((gI ps i).2.2) (k:Int)).2).2).2)]) (bJ (v:=v14) (i:=↑k) kJ rfl r17 (by omega) (by omega) rfl) (lo (bi g42 (is 4) (4,0) rfl kJ ?_)))))))))
  intro g46 w43 b45 ch44 bx47
  refine lo (ax (cs':=[vi ((gI ((gI ps i).2.2) (k:Int)).1),vi (((gI ((gI ps i).2.2) (k:Int)).2).1),vi ((((gI ((gI ps i).2.2) (k:Int)).2).2).1),vi ((((gI ((gI ps i).2.2) (k:Int)).2).2).2)]) kJ rfl rfl bx47 rfl nq (AllOne.all (.cons rfl (.cons rfl (.cons rfl (.cons rfl .nil))))) rfl ?_)
  intro w48 ch49 bx50
  clear bx47
  refine ab ?_
  refine dy (σ:=Value×aw) (λ⟨v69,gq⟩ f w=>b6 w0 gq w/\f 4=vp b3 0/\f 6=vp b21 0/\f 7=vp b30 0/\f 28=v14/\f 29=vi (List.length ((gI ps i).2.2):Int)/\f 30=vi ↑k/\Sl gq (is 0) w ps_v ps/\Bx gq (is 1) w b3 [vi 0,vn]/\Sl gq (is 0) w v13 ((gI ps i).2.1)/\Sl gq (is 0) w v14 ((gI ps i).2.2)/\Bx gq (is 2) w b21 [vi ((gI ps i).1),v13,v14]/\Ow gq (is 6) (is 6) w v69 (ie++[(bQ ((gI ps i).2.1) ((gI ((gI ps i).2.2) (k:Int)).1),bQ ((gI ps i).2.1) (((gI ((gI ps i).2.2) (k:Int)).2).1))])/\Bx gq (is 3) w b30 [vi (List.length ((gI ps i).2.1):Int),v69]) g46 (inl [3,6]) ru ?_ ?_
  ·
   intro mid
   intro w52 ch51
   refine ht 0 rfl (aU.refl _ _ _) (λw' hw'=>aa ea rfl rfl zs7 rfl) (ht 2 rfl (aU.refl _ _ _) (λw' hw'=>aa fK rfl rfl zs6 rfl) ?_)
   have C53:=cg [4] (ch44.n.seq ((ch49.l rfl).seq ch51.n))
   replace bx26:=bx26.ca C53
   refine ht 3 rfl (aU.refl _ _ _) (λw' hw'=>a8 kP rfl (bx26.chg hw' (bI rfl)) rfl) (ht 4 rfl (aU.refl _ _ _) (λw' hw'=>aa tM rfl rfl rfl rfl) ?_)
   replace bx50:=bx50.cn ch51
   refine ht 5 rfl (aU.refl _ _ _) (λw' hw'=>a8 ah rfl (bx50.chg hw' (bI rfl)) rfl) (ht 7 rfl (aU.refl _ _ _) (λw' hw'=>aa fK rfl rfl zs6 rfl) (ht 8 rfl (aU.refl _ _ _) (λw' hw'=>a8 kP rfl (bx26.chg hw' (bI rfl)) rfl) (ht 9 rfl (aU.refl _ _ _) (λw' hw'=>aa tM rfl rfl rfl rfl) (ht 10 rfl (aU.refl _ _ _) (λw' hw'=>a8 ah rfl (bx50.chg hw' (bI rfl)) rfl) ?_))))
   refine bO 1 [6] (by kernel_rfl) ⟨bL 1 rfl (by kernel_rfl) rfl ?_,bL 6 rfl (by kernel_rfl) rfl ?_,trivial⟩
   ·
    replace bx35:=bx35.ca C53
    refine aj (v:=ie_v) (a8 bR rfl bx35 rfl) ?_
    refine⟨(aU.refl _ _ _),?_⟩
    refine az 6 rfl (by kernel_rfl) rfl ?_
    replace r16:=r16.ca C53
    refine bV (v:=vi (bQ ((gI ps i).2.1) ((gI ((gI ps i).2.2) (k:Int)).1))) (aH (vals:=[v13,vi ((gI ((gI ps i).2.2) (k:Int)).1)]) Tryz.func31 gY gR rfl) (hZ w52 ((gI ps i).2.1) v13 (r16).ro ((gI ((gI ps i).2.2) (k:Int)).1)) ?_
    intro w54 hb55
    replace hb55:=aN hb55 g46
    have hs56:aU (inl [3,6]) _ _ _ _:=hb55.n
    refine⟨hs56.same,?_⟩
    refine az 11 rfl (by kernel_rfl) rfl (bV (v:=vi (bQ ((gI ps i).2.1) (((gI ((gI ps i).2.2) (k:Int)).2).1))) (aH (vals:=[v13,vi (((gI ((gI ps i).2.2) (k:Int)).2).1)]) Tryz.func31 gY gR rfl) (hZ w54 ((gI ps i).2.1) v13 ((r16.ca hs56)).ro (((gI ((gI ps i).2.2) (k:Int)).2).1)) ?_)
    intro w57 hb58
    replace hb58:=aN hb58 g46
    have hs59:=hs56.seq (hb58.n)
    refine⟨hs59.same,?_⟩
    refine ht (v:=vg [vi (bQ ((gI ps i).2.1) ((gI ((gI ps i).2.2) (k:Int)).1)),vi (bQ ((gI ps i).2.1) (((gI ((gI ps i).2.2) (k:Int)).2).1))]) 12 rfl hs59.same (λw' hw'=>bh (vs:=[(0,vi (bQ ((gI ps i).2.1) ((gI ((gI ps i).2.2) (k:Int)).1))),(1,vi (bQ ((gI ps i).2.1) (((gI ((gI ps i).2.2) (k:Int)).2).1)))]) rfl (by kernel_rfl)) (az 13 rfl (by kernel_rfl) rfl ?_)
    refine ar (α:=Pt) g46 (is 5) (is 5) (5,0) rfl [(bQ ((gI ps i).2.1) ((gI ((gI ps i).2.2) (k:Int)).1),bQ ((gI ps i).2.1) (((gI ((gI ps i).2.2) (k:Int)).2).1))] eR bx (by decide) (by decide) (vs:=[(0,vg [vi (bQ ((gI ps i).2.1) ((gI ((gI ps i).2.2) (k:Int)).1)),vi (bQ ((gI ps i).2.1) (((gI ((gI ps i).2.2) (k:Int)).2).1))])]) rfl rfl (.cons rfl .nil) ?_
    intro g60 w61 v62 ch63 o64
    have hs65:=hs59.seq (ch63.n)
    refine⟨hs65.same,?_⟩
    refine az 14 rfl (by kernel_rfl) rfl ?_
    have C66:=cg [4] (ch44.n.seq ((ch49.l rfl).seq (ch51.n.seq (hb55.n.seq (hb58.n.seq ch63.n)))))
    replace o_ie:=o_ie.ca C66
    refine aK (α:=Pt) (xs:=ie) (ys:=([(bQ ((gI ps i).2.1) ((gI ((gI ps i).2.2) (k:Int)).1),bQ ((gI ps i).2.1) (((gI ((gI ps i).2.2) (k:Int)).2).1))])) g60 (J:=is 6) (S:=is 6) (6,0) rfl eR bx (by decide) rfl rfl rfl o_ie o64.flat (by decide) (by(simp;omega)) ?_
    intro g67 w68 v69 ch70 o71
    clear o_ie
    have hs72:=hs65.seq (ch70.l rfl)
    refine⟨hs72.same,?_⟩
    refine ht 15 rfl hs72.same (λw' hw'=>aa ea rfl rfl zs7 rfl) (az 16 rfl (by kernel_rfl) rfl ?_)
    have C76:=cg [6] (hb55.n.seq (hb58.n.seq (ch63.n.seq (ch70.l rfl))))
    replace bx35:=bx35.ca C76
    refine aC (cs':=[vi (List.length ((gI ps i).2.1):Int),v69]) bR rfl rfl bx35 (aP o71.flat) nq (aG o71.flat) rfl ?_
    intro w73 ch74 bx75
    clear bx35
    have hs77:=hs72.seq (ch74.l rfl)
    refine⟨hs77.same,?_⟩
    refine bP (by kernel_rfl) ?_
    have C78:=cg [3,4,6] (ch44.n.seq ((ch49.l rfl).seq (ch51.n.seq (hb55.n.seq (hb58.n.seq (ch63.n.seq ((ch70.l rfl).seq (ch74.l rfl))))))))
    replace Rps:=Rps.ca C53
    replace bx5:=bx5.ca C53
    replace r17:=r17.ca C53
    exact mid (v69,g67) _ _ ⟨bH.ca C78,zs4,zs6,zs7,zs28,zs29,zs30,(Rps.ca hs77),(bx5.ca hs77),(r16.ca hs77),(r17.ca hs77),(bx26.ca hs77),o71.ce ch74,bx75⟩
   ·
    replace r16:=r16.ca C53
    refine bV (v:=vi (bQ ((gI ps i).2.1) ((gI ((gI ps i).2.2) (k:Int)).1))) (aH (vals:=[v13,vi ((gI ((gI ps i).2.2) (k:Int)).1)]) Tryz.func31 gY gR rfl) (hZ w52 ((gI ps i).2.1) v13 (r16).ro ((gI ((gI ps i).2.2) (k:Int)).1)) ?_
    intro w79 hb80
    replace hb80:=aN hb80 g46
    have hs81:aU (inl [3,6]) _ _ _ _:=hb80.n
    refine⟨hs81.same,?_⟩
    refine bO 1 [11] (by kernel_rfl) ⟨bL 1 rfl (by kernel_rfl) rfl ?_,bL 11 rfl (by kernel_rfl) rfl ?_,trivial⟩
    ·
     have C82:=cg [4] (ch44.n.seq ((ch49.l rfl).seq (ch51.n.seq hb80.n)))
     replace bx35:=bx35.ca C82
     refine aj (v:=ie_v) (a8 bR rfl bx35 rfl) ?_
     refine⟨hs81.same,?_⟩
     refine az 11 rfl (by kernel_rfl) rfl (bV (v:=vi (bQ ((gI ps i).2.1) (((gI ((gI ps i).2.2) (k:Int)).2).1))) (aH (vals:=[v13,vi (((gI ((gI ps i).2.2) (k:Int)).2).1)]) Tryz.func31 gY gR rfl) (hZ w79 ((gI ps i).2.1) v13 ((r16.ca hs81)).ro (((gI ((gI ps i).2.2) (k:Int)).2).1)) ?_)
     intro w83 hb84
     replace hb84:=aN hb84 g46
     have hs85:=hs81.seq (hb84.n)
     refine⟨hs85.same,?_⟩
     refine ht (v:=vg [vi (bQ ((gI ps i).2.1) ((gI ((gI ps i).2.2) (k:Int)).1)),vi (bQ ((gI ps i).2.1) (((gI ((gI ps i).2.2) (k:Int)).2).1))]) 12 rfl hs85.same (λw' hw'=>bh (vs:=[(0,vi (bQ ((gI ps i).2.1) ((gI ((gI ps i).2.2) (k:Int)).1))),(1,vi (bQ ((gI ps i).2.1) (((gI ((gI ps i).2.2) (k:Int)).2).1)))]) rfl (by kernel_rfl)) (az 13 rfl (by kernel_rfl) rfl ?_)
     refine ar (α:=Pt) g46 (is 5) (is 5) (5,0) rfl [(bQ ((gI ps i).2.1) ((gI ((gI ps i).2.2) (k:Int)).1),bQ ((gI ps i).2.1) (((gI ((gI ps i).2.2) (k:Int)).2).1))] eR bx (by decide) (by decide) (vs:=[(0,vg [vi (bQ ((gI ps i).2.1) ((gI ((gI ps i).2.2) (k:Int)).1)),vi (bQ ((gI ps i).2.1) (((gI ((gI ps i).2.2) (k:Int)).2).1))])]) rfl rfl (.cons rfl .nil) ?_
     intro g86 w87 v88 ch89 o90
     have hs91:=hs85.seq (ch89.n)
     refine⟨hs91.same,?_⟩
     refine az 14 rfl (by kernel_rfl) rfl ?_
     have C92:=cg [4] (ch44.n.seq ((ch49.l rfl).seq (ch51.n.seq (hb80.n.seq (hb84.n.seq ch89.n)))))
     replace o_ie:=o_ie.ca C92
     refine aK (α:=Pt) (xs:=ie) (ys:=([(bQ ((gI ps i).2.1) ((gI ((gI ps i).2.2) (k:Int)).1),bQ ((gI ps i).2.1) (((gI ((gI ps i).2.2) (k:Int)).2).1))])) g86 (J:=is 6) (S:=is 6) (6,0) rfl eR bx (by decide) rfl rfl rfl o_ie o90.flat (by decide) (by(simp;omega)) ?_
     intro g93 w94 v95 ch96 o97
     clear o_ie
     have hs98:=hs91.seq (ch96.l rfl)
     refine⟨hs98.same,?_⟩
     refine ht 15 rfl hs98.same (λw' hw'=>aa ea rfl rfl zs7 rfl) (az 16 rfl (by kernel_rfl) rfl ?_)
     have C102:=cg [6] (hb84.n.seq (ch89.n.seq (ch96.l rfl)))
     replace bx35:=bx35.ca C102
     refine aC (cs':=[vi (List.length ((gI ps i).2.1):Int),v95]) bR rfl rfl bx35 (aP o97.flat) nq (aG o97.flat) rfl ?_
     intro w99 ch100 bx101
     clear bx35
     have hs103:=hs98.seq (ch100.l rfl)
     refine⟨hs103.same,?_⟩
     refine bP (by kernel_rfl) ?_
     have C104:=cg [3,4,6] (ch44.n.seq ((ch49.l rfl).seq (ch51.n.seq (hb80.n.seq (hb84.n.seq (ch89.n.seq ((ch96.l rfl).seq (ch100.l rfl))))))))
     replace Rps:=Rps.ca C53
     replace bx5:=bx5.ca C53
     replace r17:=r17.ca C53
     exact mid (v95,g93) _ _ ⟨bH.ca C104,zs4,zs6,zs7,zs28,zs29,zs30,(Rps.ca hs103),(bx5.ca hs103),(r16.ca hs103),(r17.ca hs103),(bx26.ca hs103),o97.ce ch100,bx101⟩
    ·
     refine bV (v:=vi (bQ ((gI ps i).2.1) (((gI ((gI ps i).2.2) (k:Int)).2).1))) (aH (vals:=[v13,vi (((gI ((gI ps i).2.2) (k:Int)).2).1)]) Tryz.func31 gY gR rfl) (hZ w79 ((gI ps i).2.1) v13 ((r16.ca hs81)).ro (((gI ((gI ps i).2.2) (k:Int)).2).1)) ?_
     intro w105 hb106
     replace hb106:=aN hb106 g46
     have hs107:=hs81.seq (hb106.n)
     refine⟨hs107.same,?_⟩
     refine ht (v:=vg [vi (bQ ((gI ps i).2.1) ((gI ((gI ps i).2.2) (k:Int)).1)),vi (bQ ((gI ps i).2.1) (((gI ((gI ps i).2.2) (k:Int)).2).1))]) 12 rfl hs107.same (λw' hw'=>bh (vs:=[(0,vi (bQ ((gI ps i).2.1) ((gI ((gI ps i).2.2) (k:Int)).1))),(1,vi (bQ ((gI ps i).2.1) (((gI ((gI ps i).2.2) (k:Int)).2).1)))]) rfl (by kernel_rfl)) ?_
     refine bO 1 [13] (by kernel_rfl) ⟨bL 1 rfl (by kernel_rfl) rfl ?_,bL 13 rfl (by kernel_rfl) rfl ?_,trivial⟩
     ·
      have C108:=cg [4] (ch44.n.seq ((ch49.l rfl).seq (ch51.n.seq (hb80.n.seq hb106.n))))
      replace bx35:=bx35.ca C108
      refine aj (v:=ie_v) (a8 bR rfl bx35 rfl) ?_
      refine⟨hs107.same,?_⟩
      refine az 13 rfl (by kernel_rfl) rfl (ar (α:=Pt) g46 (is 5) (is 5) (5,0) rfl [(bQ ((gI ps i).2.1) ((gI ((gI ps i).2.2) (k:Int)).1),bQ ((gI ps i).2.1) (((gI ((gI ps i).2.2) (k:Int)).2).1))] eR bx (by decide) (by decide) (vs:=[(0,vg [vi (bQ ((gI ps i).2.1) ((gI ((gI ps i).2.2) (k:Int)).1)),vi (bQ ((gI ps i).2.1) (((gI ((gI ps i).2.2) (k:Int)).2).1))])]) rfl rfl (.cons rfl .nil) ?_)
      intro g109 w110 v111 ch112 o113
      have hs114:=hs107.seq (ch112.n)
      refine⟨hs114.same,?_⟩
      refine az 14 rfl (by kernel_rfl) rfl ?_
      have C115:=cg [4] (ch44.n.seq ((ch49.l rfl).seq (ch51.n.seq (hb80.n.seq (hb106.n.seq ch112.n)))))
      replace o_ie:=o_ie.ca C115
      refine aK (α:=Pt) (xs:=ie) (ys:=([(bQ ((gI ps i).2.1) ((gI ((gI ps i).2.2) (k:Int)).1),bQ ((gI ps i).2.1) (((gI ((gI ps i).2.2) (k:Int)).2).1))])) g109 (J:=is 6) (S:=is 6) (6,0) rfl eR bx (by decide) rfl rfl rfl o_ie o113.flat (by decide) (by(simp;omega)) ?_
      intro g116 w117 v118 ch119 o120
      clear o_ie
      have hs121:=hs114.seq (ch119.l rfl)
      refine⟨hs121.same,?_⟩
      refine ht 15 rfl hs121.same (λw' hw'=>aa ea rfl rfl zs7 rfl) (az 16 rfl (by kernel_rfl) rfl ?_)
      replace bx35:=(bx35.cn ch112).ce ch119
      refine aC (cs':=[vi (List.length ((gI ps i).2.1):Int),v118]) bR rfl rfl bx35 (aP o120.flat) nq (aG o120.flat) rfl ?_
      intro w122 ch123 bx124
      clear bx35
      have hs125:=hs121.seq (ch123.l rfl)
      refine⟨hs125.same,?_⟩
      refine bP (by kernel_rfl) ?_
      have C126:=cg [3,4,6] (ch44.n.seq ((ch49.l rfl).seq (ch51.n.seq (hb80.n.seq (hb106.n.seq (ch112.n.seq ((ch119.l rfl).seq (ch123.l rfl))))))))
      replace Rps:=Rps.ca C53
      replace bx5:=bx5.ca C53
      replace r17:=r17.ca C53
      exact mid (v118,g116) _ _ ⟨bH.ca C126,zs4,zs6,zs7,zs28,zs29,zs30,(Rps.ca hs125),(bx5.ca hs125),(r16.ca hs125),(r17.ca hs125),(bx26.ca hs125),o120.ce ch123,bx124⟩
     ·
      refine ar (α:=Pt) g46 (is 5) (is 5) (5,0) rfl [(bQ ((gI ps i).2.1) ((gI ((gI ps i).2.2) (k:Int)).1),bQ ((gI ps i).2.1) (((gI ((gI ps i).2.2) (k:Int)).2).1))] eR bx (by decide) (by decide) (vs:=[(0,vg [vi (bQ ((gI ps i).2.1) ((gI ((gI ps i).2.2) (k:Int)).1)),vi (bQ ((gI ps i).2.1) (((gI ((gI ps i).2.2) (k:Int)).2).1))])]) rfl rfl (.cons rfl .nil) ?_
      intro g127 w128 v129 ch130 o131
      have hs132:=hs107.seq (ch130.n)
      refine⟨hs132.same,?_⟩
      refine az 1 rfl (by kernel_rfl) rfl ?_
      have C133:=cg [4] (ch44.n.seq ((ch49.l rfl).seq (ch51.n.seq (hb80.n.seq (hb106.n.seq ch130.n)))))
      replace bx35:=bx35.ca C133
      refine aj (v:=ie_v) (a8 bR rfl bx35 rfl) ?_
      refine⟨hs132.same,?_⟩
      refine az 14 rfl (by kernel_rfl) rfl ?_
      replace o_ie:=o_ie.ca C133
      refine aK (α:=Pt) (xs:=ie) (ys:=([(bQ ((gI ps i).2.1) ((gI ((gI ps i).2.2) (k:Int)).1),bQ ((gI ps i).2.1) (((gI ((gI ps i).2.2) (k:Int)).2).1))])) g127 (J:=is 6) (S:=is 6) (6,0) rfl eR bx (by decide) rfl rfl rfl o_ie o131.flat (by decide) (by(simp;omega)) ?_
      intro g134 w135 v136 ch137 o138
      clear o_ie
      have hs139:=hs132.seq (ch137.l rfl)
      refine⟨hs139.same,?_⟩
      refine ht 15 rfl hs139.same (λw' hw'=>aa ea rfl rfl zs7 rfl) (az 16 rfl (by kernel_rfl) rfl ?_)
      replace bx35:=bx35.ce ch137
      refine aC (cs':=[vi (List.length ((gI ps i).2.1):Int),v136]) bR rfl rfl bx35 (aP o138.flat) nq (aG o138.flat) rfl ?_
      intro w140 ch141 bx142
      clear bx35
      have hs143:=hs139.seq (ch141.l rfl)
      refine⟨hs143.same,?_⟩
      refine bP (by kernel_rfl) ?_
      have C144:=cg [3,4,6] (ch44.n.seq ((ch49.l rfl).seq (ch51.n.seq (hb80.n.seq (hb106.n.seq (ch130.n.seq ((ch137.l rfl).seq (ch141.l rfl))))))))
      replace Rps:=Rps.ca C53
      replace bx5:=bx5.ca C53
      replace r17:=r17.ca C53
      exact mid (v136,g134) _ _ ⟨bH.ca C144,zs4,zs6,zs7,zs28,zs29,zs30,(Rps.ca hs143),(bx5.ca hs143),(r16.ca hs143),(r17.ca hs143),(bx26.ca hs143),o138.ce ch141,bx142⟩
  clear Rps bx5 r16 r17 bx26 bx35 o_ie bx50 bH
  rintro⟨v69,g147⟩ f145 w146 ⟨bH,zs4,zs6,zs7,zs28,zs29,zs30,Rps,bx5,r16,r17,bx26,o71,bx75⟩
  refine ak (a6 rfl (lx (aS (m:=↑k) (n:=1) zs30 rfl (by omega)) (mi ((k:Int)+1) (ab ?_))))
  refine back6 (v69,(ie++[(bQ ((gI ps i).2.1) ((gI ((gI ps i).2.2) (k:Int)).1),bQ ((gI ps i).2.1) (((gI ((gI ps i).2.2) (k:Int)).2).1))]),k+1,g147) _ _ ⟨bH,zs4,zs6,zs7,zs28,zs29,rfl,Rps,bx5,r16,r17,bx26,bx75,o71,by omega,?_⟩ ?_
  · show(ie++[(bQ ((gI ps i).2.1) ((gI ((gI ps i).2.2) (k:Int)).1),bQ ((gI ps i).2.1) (((gI ((gI ps i).2.2) (k:Int)).2).1))])=qE (gI ps i) (k+1)
    (rw[hie];exact pV ‹_›)
  · show Int.toNat (_-_)<Int.toNat (_-_)
    omega
 refine ag rfl (df p6) (aO rfl (a7 (a7 ?_)))
 clear r16 r17 bx26
 refine a6 rfl (lx (ay (ds:=[vi (List.length ((gI ps i).2.1):Int),ie_v]) aX zs7 bx35 rfl rfl) (lo (bV (v:=vb (dm ((List.length ((gI ps i).2.1):Int),ie))) (aH (vals:=[vg [vi (List.length ((gI ps i).2.1):Int),ie_v]]) Tryz.func32 iH iY rfl) (iP w41 ((List.length ((gI ps i).2.1):Int),ie) ie_v (o_ie.flat).ro) ?_)))
 intro w148 hb149
 replace hb149:=aN hb149 g42
 refine lx (eU (b:=(dm ((List.length ((gI ps i).2.1):Int),ie))) rfl) (ab ?_)
 by_cases p10:(dm ((List.length ((gI ps i).2.1):Int),ie))=true
 ·
  refine ag rfl (congrArg Bool.not p10) (ao (a7 (a6 rfl ?_)))
  replace bx35:=bx35.cn hb149
  refine lx (ay (ds:=[vi (List.length ((gI ps i).2.1):Int),ie_v]) aX zs7 bx35 rfl rfl) (lo ?_)
  replace bx5:=bx5.cn hb149
  replace o_ie:=o_ie.cn hb149
  refine ax (cs':=[vi (List.length ((gI ps i).2.1):Int),ie_v]) aX zs4 rfl bx5 rfl nq (AllOne.all (.cons rfl (.cons (aG o_ie.flat) .nil))) rfl ?_
  intro w150 ch151 bx152
  clear bx5
  refine ai 0 (ab (au (vs:=[vg [vi (List.length ((gI ps i).2.1):Int),ie_v],vi 0]) Tryz.func14 (.cell zs4 (cy (ds:=[vi (List.length ((gI ps i).2.1):Int),ie_v]) aX bx152 rfl rfl) (.tmp rfl .nil)) ?_))
  replace bH:=bH.cn hb149
  replace bH:=bH.ce ch151
  replace o_ie:=o_ie.ce ch151
  have e0:(((List.length ((gI ps i).2.1):Int),ie):(Int)×(List Pt))=((dF ps i).1):=by
    (rw[A4 (by omega) (by rw[<-iu hie ‹_›];assumption)];exact iu hie ‹_›)
  have e1:(0:Int)=((dF ps i).2):=by
    rw[A4 (by omega) (by rw[<-iu hie ‹_›];assumption)]
  exact⟨(fin w0 g42 (λn=>if n=6 then 1 else 0),ie_v),(cV (a:=((List.length ((gI ps i).2.1):Int),ie)) (b:=0) (λ(z0:(Int)×(List Pt)) (z1:Int)=>Ending.returned (vt [vg [vi z0.1,ie_v],vi z1])) e0 e1),bH.fresh _,((congrArg (λ(z:(Int)×(List Pt))=>z.2) e0)▸(o_ie.glue (γ:=c0) (ren:=(λn=>if n=6 then 1 else 0)) (k:=1) bH.col rfl rfl))⟩
 refine af rfl (congrArg Bool.not (Bool.eq_false_iff.2 p10)) (a7 ?_)
 clear bx35 o_ie
 refine a6 rfl (lw (vg [vi 0,vn]) (bh (vs:=[]) rfl (by kernel_rfl)) (lo ?_))
 replace bx5:=bx5.cn hb149
 refine ax (cs':=[vi 0,vn]) aX zs4 rfl bx5 rfl nq (AllOne.all (.cons rfl (.cons rfl .nil))) rfl ?_
 intro w153 ch154 bx155
 clear bx5
 refine ai 1 (ab (au (vs:=[vg [vi 0,vn],vi 1]) Tryz.func14 (.cell zs4 (cy (ds:=[vi 0,vn]) aX bx155 rfl rfl) (.tmp rfl .nil)) ?_))
 replace bH:=bH.cn hb149
 replace bH:=bH.ce ch154
 have e0:((0,[]):(Int)×(List Pt))=((dF ps i).1):=by
   rw[wZ (by omega) (by rw[<-iu hie ‹_›];assumption)]
 have e1:(1:Int)=((dF ps i).2):=by
   rw[wZ (by omega) (by rw[<-iu hie ‹_›];assumption)]
 exact⟨(fin w0 g42 (λn=>0),vn),(cV (a:=(0,[])) (b:=1) (λ(z0:(Int)×(List Pt)) (z1:Int)=>Ending.returned (vt [vg [vi z0.1,vn],vi z1])) e0 e1),bH.fresh _,((congrArg (λ(z:(Int)×(List Pt))=>z.2) e0)▸Ow.nil)⟩
end TL
