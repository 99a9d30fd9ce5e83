import Derived.Test.YtgneelmmomohdaaSaTlP5
import Derived.Test.YtgneelmmomohdaaSaTlGenA
import Derived.Test.YtgneelmmomohdaaProg
import Derived.Test.YtgneelmmomohdaaSaTlAli
set_option linter.all false
set_option maxRecDepth 20000
namespace TL
open Go Go.Proofs
theorem oc:Try.prog.follows .mixedOrders=true:=by kernel_rfl
theorem zA:Try.f39.body.isNone=false:=rfl
theorem zG:(Try.f39.name== "runtime.NumGoroutine")=false:=by decide+kernel
theorem Ai(w0:World)(g:(Int)×(List Pt))(g_v:Value)(hg_v:Ro w0 g_v g.2)(hlen:g.2.length<=1048576):
    Calls Try.prog 8 #[vg [vi g.1,g_v]] w0 (λee w=>∃xx:aG×Value,ee= .returned ((λ⟨δ,rv0⟩=>vg [vi g.1,rv0]) xx)/\(λ(⟨δ,rv0⟩:aG×Value) (w:World)=>eB w0 δ w/\Ow δ (is 1) (is 1) w (lS rv0) (g.2++[((-7:Int),(7:Int))])) xx w):=by
 refine av Try.func8 rfl nq ?_
 have bH:=bn.start w0
 have Rg:=hg_v.sl
 refine aa (a8 rfl (cB rfl (cr c0 (is 1) (1,0) rfl rfl ?_)))
 intro g4 w1 b3 ch2 bx5
 replace bx5:Bx g4 (is 1) w1 b3 [vi g.1,g_v]:=bx5
 refine lo (bP g4 (is 2) (2,0) rfl aK ?_)
 intro g9 w6 b8 ch7 bx10
 replace bx10:Bx g9 (is 2) w6 b8 [vi 0,vn]:=bx10
 refine ab (aa ?_)
 refine eN (σ:=Value×aG) (λ⟨v29,gq⟩ f w=>bn w0 gq w/\f 2=vp b8 0/\Sl gq (is 0) w g_v g.2/\Ow gq (is 3) (is 3) w v29 (g.2++[(-7,7)])/\Sl gq (is 3) w (dq v29 2 (Int.toNat 0) (Int.toNat (g.2.length:Int))) (List.drop (Int.toNat 0) (List.take (Int.toNat (g.2.length:Int)) (g.2++[(-7,7)])))/\Bx gq (is 2) w b8 [vi g.1,(dq v29 2 (Int.toNat 0) (Int.toNat (g.2.length:Int)))]) g9 (inl [2,3]) oc ?_ ?_
 ·
  intro mid
  intro w12 ch11
  refine ht 0 rfl (bD.refl _ _ _) (λw' hw'=>af cW rfl rfl rfl rfl) ?_
  replace bx5:=(bx5.cn ch7).cn ch11
  refine ht 1 rfl (bD.refl _ _ _) (λw' hw'=>ae aj rfl (bx5.chg hw' (cN rfl)) rfl) (ht 2 rfl (bD.refl _ _ _) (λw' hw'=>af cW rfl rfl rfl rfl) (ht 3 rfl (bD.refl _ _ _) (λw' hw'=>ae bG rfl (bx5.chg hw' (cN rfl)) rfl) (ht (v:=vg [vi (-7),vi 7]) 5 rfl (bD.refl _ _ _) (λw' hw'=>bS (vs:=[(0,vi (-7)),(1,vi 7)]) rfl (by kernel_rfl)) (ht 8 rfl (bD.refl _ _ _) (λw' hw'=>af cW rfl rfl rfl rfl) (ht 9 rfl (bD.refl _ _ _) (λw' hw'=>ae bG rfl (bx5.chg hw' (cN rfl)) rfl) ?_)))))
  have C13:=cg [] (ch2.n.seq (ch7.n.seq ch11.n))
  replace Rg:=Rg.ca C13
  have len14:=(Rg).small
  refine ht 10 rfl (bD.refl _ _ _) (λw' hw'=>bq dc rfl Rg) ?_
  refine eP 4 [6] (by kernel_rfl) ⟨eW 4 rfl (by kernel_rfl) rfl ?_,eW 6 rfl (by kernel_rfl) rfl ?_,trivial⟩
  ·
   refine bf (α:=Pt) (xs:=([])) (ys:=g.2) g9 (J:=is 3) (S:=is 3) (3,0) rfl dc b7 (by decide) rfl rfl rfl Ow.nil Rg (by decide) (by(simp;omega)) ?_
   intro g15 w16 v17 ch18 o19
   replace o19:Ow g15 (is 3) (is 3) w16 v17 g.2:=o19
   have hs20:bD (inl [2,3]) _ _ _ _:=ch18.l rfl
   refine⟨hs20.same,?_⟩
   refine bu 6 rfl (by kernel_rfl) rfl (aC (α:=Pt) g15 (is 4) (is 4) (4,0) rfl [(-7,7)] dc b7 (by decide) (by decide) (vs:=[(0,vg [vi (-7),vi 7])]) rfl rfl (.cons rfl .nil) ?_)
   intro g21 w22 v23 ch24 o25
   have hs26:=hs20.seq (ch24.n)
   refine⟨hs26.same,?_⟩
   refine bu 7 rfl (by kernel_rfl) rfl ?_
   replace o19:=o19.cn ch24
   refine bf (α:=Pt) (xs:=g.2) (ys:=([(-7,7)])) g21 (J:=is 3) (S:=is 3) (3,0) rfl dc b7 (by decide) rfl rfl rfl o19 o25.flat (by decide) (by(simp;omega)) ?_
   intro g27 w28 v29 ch30 o31
   clear o19
   have hs32:=hs26.seq (ch30.l rfl)
   refine⟨hs32.same,?_⟩
   refine ht (v:=(dq v29 2 (Int.toNat 0) (Int.toNat (g.2.length:Int)))) 11 rfl hs32.same (λw' hw'=>fX (v:=v29) (l:=0) (h:=(g.2.length:Int)) dc rfl rfl o31.flat (.inr ⟨rfl,rfl⟩) (.inl (congrArg some rfl)) (by omega) (by omega) (by(simp only[List.length_append,List.length_cons,List.length_nil];omega))) ?_
   have r34:=qf o31.flat (show Int.toNat 0<=Int.toNat (g.2.length:Int) by omega) (show Int.toNat (g.2.length:Int)<=List.length _ by(simp only[List.length_append,List.length_cons,List.length_nil];omega))
   refine ht (v:=vg [vi g.1,(dq v29 2 (Int.toNat 0) (Int.toNat (g.2.length:Int)))]) 12 rfl hs32.same (λw' hw'=>bS (vs:=[(0,vi g.1),(1,(dq v29 2 (Int.toNat 0) (Int.toNat (g.2.length:Int))))]) rfl (by erw [Sl.form r34];kernel_rfl)) (bu 13 rfl (by kernel_rfl) rfl ?_)
   have C38:=cg [3] (ch11.n.seq ((ch18.l rfl).seq (ch24.n.seq (ch30.l rfl))))
   replace bx10:=bx10.ca C38
   refine aT (cs':=[vi g.1,(dq v29 2 (Int.toNat 0) (Int.toNat (g.2.length:Int)))]) aK rfl rfl bx10 rfl nq (AllOne.all (.cons rfl (.cons (bK r34) .nil))) rfl ?_
   intro w35 ch36 bx37
   clear bx10
   have hs39:=hs32.seq (ch36.l rfl)
   refine⟨hs39.same,?_⟩
   refine eE (by kernel_rfl) ?_
   have C40:=cg [2,3] (ch2.n.seq (ch7.n.seq (ch11.n.seq ((ch18.l rfl).seq (ch24.n.seq ((ch30.l rfl).seq (ch36.l rfl)))))))
   exact mid (v29,g27) _ _ ⟨bH.ca C40,rfl,(Rg.ca hs39),o31.ce ch36,r34.ce ch36,bx37⟩
  ·
   refine aC (α:=Pt) g9 (is 4) (is 4) (4,0) rfl [(-7,7)] dc b7 (by decide) (by decide) (vs:=[(0,vg [vi (-7),vi 7])]) rfl rfl (.cons rfl .nil) ?_
   intro g41 w42 v43 ch44 o45
   have hs46:bD (inl [2,3]) _ _ _ _:=ch44.n
   refine⟨hs46.same,?_⟩
   refine bu 4 rfl (by kernel_rfl) rfl (bf (α:=Pt) (xs:=([])) (ys:=g.2) g41 (J:=is 3) (S:=is 3) (3,0) rfl dc b7 (by decide) rfl rfl rfl Ow.nil (Rg.ca hs46) (by decide) (by(simp;omega)) ?_)
   intro g47 w48 v49 ch50 o51
   replace o51:Ow g47 (is 3) (is 3) w48 v49 g.2:=o51
   have hs52:=hs46.seq (ch50.l rfl)
   refine⟨hs52.same,?_⟩
   refine bu 7 rfl (by kernel_rfl) rfl ?_
   replace o45:=o45.ce ch50
   refine bf (α:=Pt) (xs:=g.2) (ys:=([(-7,7)])) g47 (J:=is 3) (S:=is 3) (3,0) rfl dc b7 (by decide) rfl rfl rfl o51 o45.flat (by decide) (by(simp;omega)) ?_
   intro g53 w54 v55 ch56 o57
   clear o51
   have hs58:=hs52.seq (ch56.l rfl)
   refine⟨hs58.same,?_⟩
   refine ht (v:=(dq v55 2 (Int.toNat 0) (Int.toNat (g.2.length:Int)))) 11 rfl hs58.same (λw' hw'=>fX (v:=v55) (l:=0) (h:=(g.2.length:Int)) dc rfl rfl o57.flat (.inr ⟨rfl,rfl⟩) (.inl (congrArg some rfl)) (by omega) (by omega) (by(simp only[List.length_append,List.length_cons,List.length_nil];omega))) ?_
   have r60:=qf o57.flat (show Int.toNat 0<=Int.toNat (g.2.length:Int) by omega) (show Int.toNat (g.2.length:Int)<=List.length _ by(simp only[List.length_append,List.length_cons,List.length_nil];omega))
   refine ht (v:=vg [vi g.1,(dq v55 2 (Int.toNat 0) (Int.toNat (g.2.length:Int)))]) 12 rfl hs58.same (λw' hw'=>bS (vs:=[(0,vi g.1),(1,(dq v55 2 (Int.toNat 0) (Int.toNat (g.2.length:Int))))]) rfl (by erw [Sl.form r60];kernel_rfl)) (bu 13 rfl (by kernel_rfl) rfl ?_)
   have C64:=cg [3] (ch11.n.seq (ch44.n.seq ((ch50.l rfl).seq (ch56.l rfl))))
   replace bx10:=bx10.ca C64
   refine aT (cs':=[vi g.1,(dq v55 2 (Int.toNat 0) (Int.toNat (g.2.length:Int)))]) aK rfl rfl bx10 rfl nq (AllOne.all (.cons rfl (.cons (bK r60) .nil))) rfl ?_
   intro w61 ch62 bx63
   clear bx10
   have hs65:=hs58.seq (ch62.l rfl)
   refine⟨hs65.same,?_⟩
   refine eE (by kernel_rfl) ?_
   have C66:=cg [2,3] (ch2.n.seq (ch7.n.seq (ch11.n.seq (ch44.n.seq ((ch50.l rfl).seq ((ch56.l rfl).seq (ch62.l rfl)))))))
   exact mid (v55,g53) _ _ ⟨bH.ca C66,rfl,(Rg.ca hs65),o57.ce ch62,r60.ce ch62,bx63⟩
 clear Rg bx5 bx10 bH
 rintro⟨v29,g69⟩ f67 w68 ⟨bH,zs2,Rg,o31,r34,bx37⟩
 refine aD (vs:=[vg [vi g.1,(dq v29 2 (Int.toNat 0) (Int.toNat (g.2.length:Int)))]]) Try.func8 (.cell zs2 (cF (ds:=[vi g.1,(dq v29 2 (Int.toNat 0) (Int.toNat (g.2.length:Int)))]) aK bx37 rfl rfl) .nil) ?_
 have e0:((g.1,(List.drop (Int.toNat 0) (List.take (Int.toNat (g.2.length:Int)) (g.2++[(-7,7)])))):(Int)×(List Pt))=(g):=by
   simp
 exact⟨(fin w0 g69 (λn=>if n=3 then 1 else 0),(dq v29 2 (Int.toNat 0) (Int.toNat (g.2.length:Int)))),(congrArg (a₁:=(g.1,(List.drop (Int.toNat 0) (List.take (Int.toNat (g.2.length:Int)) (g.2++[(-7,7)]))))) (λ(z0:(Int)×(List Pt))=>Ending.returned (vg [vi z0.1,(dq v29 2 (Int.toNat 0) (Int.toNat (g.2.length:Int)))])) e0),bH.fresh _,(Ah (o31.glue (γ:=c0) (ren:=(λn=>if n=3 then 1 else 0)) (k:=1) bH.col rfl rfl) (by simp))⟩
theorem wU(w0:World)(a:(Int)×(List Pt))(a_v:Value)(ha_v:Ro w0 a_v a.2)(b:(Int)×(List Pt))(b_v:Value)(hb_v:Ro w0 b_v b.2):
    Calls Try.prog 39 #[vg [vi a.1,a_v],vg [vi b.1,b_v]] w0 (λee w=>ee= .returned (vb (decide (a=b)))/\ep w0.heap.size w0 w):=by
 refine av Try.func39 rfl nq ?_
 have bH:=bn.start w0
 have Ra:=ha_v.sl
 have Rb:=hb_v.sl
 refine aa (a8 rfl (cB rfl (cr c0 (is 1) (1,0) rfl rfl ?_)))
 intro g4 w1 b3 ch2 bx5
 replace bx5:Bx g4 (is 1) w1 b3 [vi a.1,a_v]:=bx5
 refine lo (cr g4 (is 2) (2,0) rfl rfl ?_)
 intro g9 w6 b8 ch7 bx10
 replace bx10:Bx g9 (is 2) w6 b8 [vi b.1,b_v]:=bx10
 refine ma (vb false) (ab (aa (aa (a8 rfl (lx (af cW rfl rfl rfl rfl) ?_)))))
 replace bx5:=bx5.cn ch7
 refine lx (ae aj rfl bx5 rfl) (lx (af cW rfl rfl rfl rfl) (lx (ae aj rfl bx10 rfl) (lx (cK (m:=a.1) (n:=b.1) rfl rfl) (mv (vb (!(decide (a.1=b.1)))) ?_))))
 by_cases q11:a.1=b.1
 ·
  refine lv (vp b3 1) (wy (congrArg Bool.not (dt q11))) (af cW rfl rfl rfl rfl) (lv (a_v) (wy (congrArg Bool.not (dt q11))) (ae bG rfl bx5 rfl) ?_)
  replace Ra:=(Ra.cn ch2).cn ch7
  have len11:=(Ra).small
  refine lv (vi (a.2.length:Int)) (wy (congrArg Bool.not (dt q11))) (bq dc rfl Ra) (lv (vp b8 1) (wy (congrArg Bool.not (dt q11))) (af cW rfl rfl rfl rfl) (lv (b_v) (wy (congrArg Bool.not (dt q11))) (ae bG rfl bx10 rfl) ?_))
  replace Rb:=(Rb.cn ch2).cn ch7
  have len12:=(Rb).small
  refine lv (vi (b.2.length:Int)) (wy (congrArg Bool.not (dt q11))) (bq dc rfl Rb) (lv (vb (!(decide ((a.2.length:Int)=(b.2.length:Int))))) (wy (congrArg Bool.not (dt q11))) (cK (m:=(a.2.length:Int)) (n:=(b.2.length:Int)) rfl rfl) (lw (vb (!(decide ((a.2.length:Int)=(b.2.length:Int))))) (aP rfl (congrArg Bool.not (dt q11)) rfl) (ab ?_)))
  by_cases p1:(a.2.length:Int)=(b.2.length:Int)
  ·
   refine ag rfl (congrArg Bool.not (dt p1)) (aq (aa (aa (a8 rfl (ai 0 (ab (ao ?_)))))))
   refine aY (σ:=Nat×aG) (λ⟨k,gq⟩ f w=>bn w0 gq w/\f 2=vp b3 0/\f 3=vp b8 0/\f 5=vi ↑k/\Sl gq (is 0) w a_v a.2/\Sl gq (is 0) w b_v b.2/\Bx gq (is 1) w b3 [vi a.1,a_v]/\Bx gq (is 2) w b8 [vi b.1,b_v]/\(k:Int)<=((a.2.length:Int):Int)/\(List.take k a.2=List.take k b.2)) (λ⟨k,gq⟩=>Int.toNat (((a.2.length:Int):Int)-(k:Int))) (0,g9) ?_ ?_
   replace bH:=bH.cn ch2
   · exact⟨bH.cn ch7,rfl,rfl,rfl,Ra,Rb,bx5,bx10,by omega,by simp⟩
   clear Ra Rb bx5 bx10 bH
   rintro⟨k,g15⟩ f13 w14 ⟨bH,zs2,zs3,zs5,Ra,Rb,bx5,bx10,hle_k,hinv⟩ back4
   refine aa (aa (a8 rfl (mz zs5 (lx (af cW rfl rfl zs2 rfl) (lx (ae bG rfl bx5 rfl) (lx (bq dc rfl Ra) (lx (bm (m:=↑k) (n:=(a.2.length:Int)) rfl rfl) (ab ?_))))))))
   by_cases p4:(k:Int)<(a.2.length:Int)
   ·
    refine ah rfl (dt p4) (aq (aa (ao (aa (dl g15 rfl oc (by kernel_rfl) ?_)))))
    intro w17 ch16
    refine qx (λw' hw'=>af cW rfl rfl zs2 rfl) ?_
    replace bx5:=bx5.cn ch16
    refine qx (λw' hw'=>ae bG rfl (bx5.bel hw') rfl) (qz zs5 ?_)
    replace Ra:=Ra.cn ch16
    refine qx (λw' hw'=>ad (v:=a_v) (i:=↑k) dc rfl rfl (Ra.bel hw') rfl (by omega) (by omega)) (qv (vg [vi ((gI a.2 ↑k).1),vi ((gI a.2 ↑k).2)]) (λw' hw'=>cL (v:=a_v) (i:=↑k) b7 rfl (Ra.bel hw') (by omega) (by omega) rfl) (qx (λw' hw'=>af cW rfl rfl zs3 rfl) ?_))
    replace bx10:=bx10.cn ch16
    refine qx (λw' hw'=>ae bG rfl (bx10.bel hw') rfl) (qz zs5 ?_)
    replace Rb:=Rb.cn ch16
    refine qx (λw' hw'=>ad (v:=b_v) (i:=↑k) dc rfl rfl (Rb.bel hw') rfl (by omega) (by omega)) (qv (vg [vi ((gI b.2 ↑k).1),vi ((gI b.2 ↑k).2)]) (λw' hw'=>cL (v:=b_v) (i:=↑k) b7 rfl (Rb.bel hw') (by omega) (by omega) rfl) (qv (vb (!(decide ((gI a.2 ↑k)=(gI b.2 ↑k))))) (λw' hw'=>ol (a:=(gI a.2 ↑k)) (b:=(gI b.2 ↑k)) dI U3 aj (by kernel_rfl) rfl rfl) (f4 ?_)))
    intro w18 hc19
    replace hc19:=aS hc19 g15
    by_cases p6:(gI a.2 ↑k)=(gI b.2 ↑k)
    ·
     refine ag rfl (congrArg Bool.not (dt p6)) (aq (am (a8 rfl (mz zs5 (lx (aI (m:=↑k) (n:=1) rfl rfl (by omega)) (ai ((k:Int)+1) (ab ?_)))))))
     replace bH:=bH.cn ch16
     refine back4 (k+1,g15) _ _ ⟨bH.cn hc19,zs2,zs3,rfl,Ra.cn hc19,Rb.cn hc19,bx5.cn hc19,bx10.cn hc19,by omega,?_⟩ ?_
     · show List.take (k+1) a.2=List.take (k+1) b.2
       rw[bC ‹_›,bC (by omega),hinv];simp_all
     · show Int.toNat (((a.2.length:Int):Int)-((k+1):Int))<Int.toNat (((a.2.length:Int):Int)-(k:Int))
       omega
    refine ah rfl (congrArg Bool.not (df p6)) (aa ?_)
    clear bx5 bx10
    refine a8 rfl (ma (vb false) (ab (aD (vs:=[vb false]) Try.func39 (.tmp rfl .nil) ?_)))
    have e0:(false:Bool)=(decide (a=b)):=by
      (refine(df λh=>?_).symm;subst h;simp_all;done)
    replace bH:=bH.cn ch16
    replace bH:=bH.cn hc19
    exact⟨rb e0,bH.below⟩
   refine ag rfl (df p4) (aH rfl (aa ?_))
   clear bx5 bx10
   refine a8 rfl (ma (vb true) (ab (aD (vs:=[vb true]) Try.func39 (.tmp rfl .nil) ?_)))
   have e0:(true:Bool)=(decide (a=b)):=by
     (have e:=hinv;rw[List.take_of_length_le (by omega),List.take_of_length_le (by omega)] at e;exact(dt (Prod.ext ‹_› e)).symm)
   exact⟨rb e0,bH.below⟩
  refine ah rfl (congrArg Bool.not (df p1)) (aa ?_)
  clear bx5 bx10
  refine a8 rfl (ma (vb false) (ab (aD (vs:=[vb false]) Try.func39 (.tmp rfl .nil) ?_)))
  have e0:(false:Bool)=(decide (a=b)):=by
    (refine(df λh=>?_).symm;subst h;simp_all;done)
  replace bH:=bH.cn ch2
  replace bH:=bH.cn ch7
  exact⟨rb e0,bH.below⟩
 refine ak (wn (congrArg Bool.not (df q11))) (ak (wn (congrArg Bool.not (df q11))) (ak (wn (congrArg Bool.not (df q11))) (ak (wn (congrArg Bool.not (df q11))) (ak (wn (congrArg Bool.not (df q11))) (ak (wn (congrArg Bool.not (df q11))) (ak (wn (congrArg Bool.not (df q11))) (lw (vb true) (aO rfl (congrArg Bool.not (df q11)) rfl) (ab (ah rfl rfl ?_)))))))))
 refine aa ?_
 clear bx5 bx10
 refine a8 rfl (ma (vb false) (ab (aD (vs:=[vb false]) Try.func39 (.tmp rfl .nil) ?_)))
 have e0:(false:Bool)=(decide (a=b)):=by
   (refine(df λh=>?_).symm;subst h;simp_all;done)
 replace bH:=bH.cn ch2
 replace bH:=bH.cn ch7
 exact⟨rb e0,bH.below⟩
theorem zt(w0:World)(t:(Int)×(List Pt))(t_v:Value)(ht_v:Ro w0 t_v t.2)(g:(Int)×(List Pt))(g_v:Value)(hg_v:Ro w0 g_v g.2)(hmark:Ro w0 (lS t_v) (t.2++[((-7:Int),(7:Int))])):
    Calls Try.prog 13 #[vg [vi t.1,t_v],vg [vi g.1,g_v]] w0 (λee w=>ee= .returned (vb (decide (t=g)))/\ep w0.heap.size w0 w):=by
 refine av Try.func13 rfl nq ?_
 have bH:=bn.start w0
 have Rt:=ht_v.sl
 have Rg:=hg_v.sl
 have r_up:=hmark.sl
 refine aa (a8 rfl (cB rfl (cr c0 (is 1) (1,0) rfl rfl ?_)))
 intro g4 w1 b3 ch2 bx5
 replace bx5:Bx g4 (is 1) w1 b3 [vi t.1,t_v]:=bx5
 refine lo (cr g4 (is 2) (2,0) rfl rfl ?_)
 intro g9 w6 b8 ch7 bx10
 replace bx10:Bx g9 (is 2) w6 b8 [vi g.1,g_v]:=bx10
 refine ma (vb false) (ab (aa (dl g9 rfl oc (by kernel_rfl) ?_)))
 intro w12 ch11
 replace bx5:=(bx5.cn ch7).cn ch11
 refine qx (λw' hw'=>aB (ds:=[vi t.1,t_v]) aK rfl (bx5.bel hw') rfl rfl) ?_
 replace bx10:=bx10.cn ch11
 refine qx (λw' hw'=>aB (ds:=[vi g.1,g_v]) aK rfl (bx10.bel hw') rfl rfl) ?_
 have C13:=cg [] (ch2.n.seq (ch7.n.seq ch11.n))
 replace Rt:=Rt.ca C13
 replace Rg:=Rg.ca C13
 refine kW (v:=vb (decide (t=g))) rfl (λw' hw'=>aN (vals:=[vg [vi t.1,t_v],vg [vi g.1,g_v]]) Try.func39 zA zG rfl) (λw' hw'=>(wU w' t t_v ((Rt.bel hw')).ro g g_v ((Rg.bel hw')).ro).mono λe w2 h2=>⟨h2.1,hw'.trans (h2.2.mono hw'.size)⟩) (qm (vb (decide (t=g))) ?_)
 by_cases q8:(decide (t=g))=true
 ·
  refine di (v:=vp b3 1) (wy q8) (λw' hw'=>af cW rfl rfl rfl rfl) (di (v:=t_v) (wy q8) (λw' hw'=>ae bG rfl (bx5.bel hw') rfl) (di (v:=vp b8 1) (wy q8) (λw' hw'=>af cW rfl rfl rfl rfl) (di (v:=g_v) (wy q8) (λw' hw'=>ae bG rfl (bx10.bel hw') rfl) ?_)))
  have len14:=(Rg).small
  refine di (v:=vi (g.2.length:Int)) (wy q8) (λw' hw'=>bq dc rfl (Rg.bel hw')) (di (v:=vi ((g.2.length:Int)+1)) (wy q8) (λw' hw'=>aI (m:=(g.2.length:Int)) (n:=1) rfl rfl (by omega)) ?_)
  replace r_up:=r_up.ca C13
  refine di (v:=(lS t_v)) (wy q8) (λw' hw'=>ti (α:=Int×Int) dc rfl rfl (r_up.bel hw') rfl (by rw[show t.2.length=g.2.length from congrArg (λz=>z.2.length) (of_decide_eq_true q8)])) (di (v:=vp b8 1) (wy q8) (λw' hw'=>af cW rfl rfl rfl rfl) (di (v:=g_v) (wy q8) (λw' hw'=>ae bG rfl (bx10.bel hw') rfl) (di (v:=vi (g.2.length:Int)) (wy q8) (λw' hw'=>bq dc rfl (Rg.bel hw')) ?_)))
  refine di (v:=Value.pointer (some (bA (lS t_v) 2 (Int.toNat (g.2.length:Int))))) (wy q8) (λw' hw'=>ad (α:=Pt) (xs:=t.2++[((-7:Int),(7:Int))]) (v:=(lS t_v)) (i:=(g.2.length:Int)) dc rfl rfl (r_up.bel hw') rfl (by(have hl:t.2.length=g.2.length:=congrArg (λz=>z.2.length) (of_decide_eq_true q8));(omega)) (by(have hl:t.2.length=g.2.length:=congrArg (λz=>z.2.length) (of_decide_eq_true q8));((simp only[List.length_append,List.length_cons,List.length_nil];omega)))) ?_
  refine di (v:=vg [vi ((gI (t.2++[((-7:Int),(7:Int))]) (g.2.length:Int)).1),vi ((gI (t.2++[((-7:Int),(7:Int))]) (g.2.length:Int)).2)]) (wy q8) (λw' hw'=>cL (α:=Pt) (xs:=t.2++[((-7:Int),(7:Int))]) (v:=(lS t_v)) (i:=(g.2.length:Int)) b7 rfl (r_up.bel hw') (by(have hl:t.2.length=g.2.length:=congrArg (λz=>z.2.length) (of_decide_eq_true q8));(omega)) (by(have hl:t.2.length=g.2.length:=congrArg (λz=>z.2.length) (of_decide_eq_true q8));((simp only[List.length_append,List.length_cons,List.length_nil];omega))) rfl) (di (v:=vg [vi (-7),vi 7]) (wy q8) (λw' hw'=>bS (vs:=[(0,vi (-7)),(1,vi 7)]) rfl (by kernel_rfl)) ?_)
  refine di (v:=vb (decide ((gI (t.2++[((-7:Int),(7:Int))]) (g.2.length:Int))=(-7,7)))) (wy q8) (λw' hw'=>o7 (a:=(gI (t.2++[((-7:Int),(7:Int))]) (g.2.length:Int))) (b:=(-7,7)) dI U3 aj (by kernel_rfl) rfl rfl) (qv (vb (decide ((gI (t.2++[((-7:Int),(7:Int))]) (g.2.length:Int))=(-7,7)))) (λw' hw'=>aO rfl q8 rfl) (qv (vb (decide ((gI (t.2++[((-7:Int),(7:Int))]) (g.2.length:Int))=(-7,7)))) (λw' hw'=>cE rfl) (f4 ?_)))
  intro w15 hc16
  replace hc16:=aS hc16 g9
  refine aD (vs:=[vb (decide ((gI (t.2++[((-7:Int),(7:Int))]) (g.2.length:Int))=(-7,7)))]) Try.func13 (.tmp rfl .nil) ?_
  have e0:(decide ((gI (t.2++[((-7:Int),(7:Int))]) (g.2.length:Int))=(-7,7)):Bool)=(decide (t=g)):=by
    (have hh:=of_decide_eq_true q8
     subst hh
     simp[gI];done)
  have C17:=cg [] (ch2.n.seq (ch7.n.seq (ch11.n.seq hc16.n)))
  replace bH:=bH.ca C17
  exact⟨(congrArg (a₁:=decide ((gI (t.2++[((-7:Int),(7:Int))]) (g.2.length:Int))=(-7,7))) (λ(z0:Bool)=>Ending.returned (vb z0)) e0),bH.below⟩
 refine cR (wn (Bool.eq_false_iff.2 q8)) (cR (wn (Bool.eq_false_iff.2 q8)) (cR (wn (Bool.eq_false_iff.2 q8)) (cR (wn (Bool.eq_false_iff.2 q8)) (cR (wn (Bool.eq_false_iff.2 q8)) (cR (wn (Bool.eq_false_iff.2 q8)) (cR (wn (Bool.eq_false_iff.2 q8)) (cR (wn (Bool.eq_false_iff.2 q8)) (cR (wn (Bool.eq_false_iff.2 q8)) (cR (wn (Bool.eq_false_iff.2 q8)) ?_)))))))))
 refine cR (wn (Bool.eq_false_iff.2 q8)) (cR (wn (Bool.eq_false_iff.2 q8)) (cR (wn (Bool.eq_false_iff.2 q8)) (cR (wn (Bool.eq_false_iff.2 q8)) (qv (vb false) (λw' hw'=>aP rfl (Bool.eq_false_iff.2 q8) rfl) (qv (vb false) (λw' hw'=>cE rfl) (f4 ?_))))))
 intro w18 hc19
 replace hc19:=aS hc19 g9
 refine aD (vs:=[vb false]) Try.func13 (.tmp rfl .nil) ?_
 have e0:(false:Bool)=(decide (t=g)):=by
   simp_all
 have C20:=cg [] (ch2.n.seq (ch7.n.seq (ch11.n.seq hc19.n)))
 replace bH:=bH.ca C20
 exact⟨rb e0,bH.below⟩
end TL
