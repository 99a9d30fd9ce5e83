import Derived.Test.YtmakonaaojadbaaBaTlP4
import Derived.Test.YtmakonaaojadbaaBaTlGenA
import Derived.Test.YtmakonaaojadbaaProg
import Derived.Test.YtmakonaaojadbaaBaTlAli
set_option linter.all false
set_option maxRecDepth 20000
namespace TL
open Go Go.Proofs
theorem lT:Try.prog.follows .mixedOrders=true:=by kernel_rfl
theorem cR:Tp Try.prog 24 true 2 32 (.agg #[.int .i64 0,.slice none 0 0]):=Tp.of (by kernel_rfl)
theorem rH:Try.f21.body.isNone=false:=rfl
theorem qy:(Try.f21.name== "runtime.NumGoroutine")=false:=by decide+kernel
theorem tf(w0:World)(g:(Int)×(List Pt))(g_v:Value)(hg_v:Ro w0 g_v g.2)(hlen:g.2.length<=1048576):
    Calls Try.prog 10 #[vg [vi g.1,g_v]] w0 (λee w=>∃xx:aJ×Value,ee= .returned ((λ⟨δ,rv0⟩=>vg [vi g.1,rv0]) xx)/\(λ(⟨δ,rv0⟩:aJ×Value) (w:World)=>fv w0 δ w/\Ow δ (is 1) (is 1) w (io rv0) (g.2++[((-7:Int),(7:Int))])) xx w):=by
 refine aC Try.func10 rfl nq ?_
 have bH:=bv.start w0
 have Rg:=hg_v.sl
 refine ab (a8 rfl (db rfl (d4 c0 (is 1) (1,0) rfl rfl ?_)))
 intro g4 w1 b3 ch2 bx5
 replace bx5:Bx g4 (is 1) w1 b3 [vi g.1,g_v]:=bx5
 refine lo (bI g4 (is 2) (2,0) rfl cR ?_)
 intro g9 w6 b8 ch7 bx10
 replace bx10:Bx g9 (is 2) w6 b8 [vi 0,vn]:=bx10
 refine ag (ab ?_)
 refine d3 (σ:=Value×aJ) (λ⟨v29,gq⟩ f w=>bv w0 gq w/\f 2=vp b8 0/\Sl gq (is 0) w g_v g.2/\Ow gq (is 3) (is 3) w v29 (g.2++[(-7,7)])/\Sl gq (is 3) w (ci v29 2 (Int.toNat 0) (Int.toNat (g.2.length:Int))) (List.drop (Int.toNat 0) (List.take (Int.toNat (g.2.length:Int)) (g.2++[(-7,7)])))/\Bx gq (is 2) w b8 [vi g.1,(ci v29 2 (Int.toNat 0) (Int.toNat (g.2.length:Int)))]) g9 (inl [2,3]) lT ?_ ?_
 ·
  intro mid
  intro w12 ch11
  refine ht 0 rfl (bp.refl _ _ _) (λw' hw'=>ad cZ rfl rfl rfl rfl) ?_
  replace bx5:=(bx5.cn ch7).cn ch11
  refine ht 1 rfl (bp.refl _ _ _) (λw' hw'=>af ah rfl (bx5.chg hw' (bZ rfl)) rfl) (ht 2 rfl (bp.refl _ _ _) (λw' hw'=>ad cZ rfl rfl rfl rfl) (ht 3 rfl (bp.refl _ _ _) (λw' hw'=>af bC rfl (bx5.chg hw' (bZ rfl)) rfl) (ht (v:=vg [vi (-7),vi 7]) 5 rfl (bp.refl _ _ _) (λw' hw'=>bE (vs:=[(0,vi (-7)),(1,vi 7)]) rfl (by kernel_rfl)) (ht 8 rfl (bp.refl _ _ _) (λw' hw'=>ad cZ rfl rfl rfl rfl) (ht 9 rfl (bp.refl _ _ _) (λw' hw'=>af bC rfl (bx5.chg hw' (bZ rfl)) rfl) ?_)))))
  have C13:=cg [] (ch2.n.seq (ch7.n.seq ch11.n))
  replace Rg:=Rg.ca C13
  have len14:=(Rg).small
  refine ht 10 rfl (bp.refl _ _ _) (λw' hw'=>bu dD rfl Rg) ?_
  refine cD 4 [6] (by kernel_rfl) ⟨cA 4 rfl (by kernel_rfl) rfl ?_,cA 6 rfl (by kernel_rfl) rfl ?_,trivial⟩
  ·
   refine bD (α:=Pt) (xs:=([])) (ys:=g.2) g9 (J:=is 3) (S:=is 3) (3,0) rfl dD aU (by decide) rfl rfl rfl Ow.nil Rg (by decide) (by(simp;omega)) ?_
   intro g15 w16 v17 ch18 o19
   replace o19:Ow g15 (is 3) (is 3) w16 v17 g.2:=o19
   have hs20:bp (inl [2,3]) _ _ _ _:=ch18.l rfl
   refine⟨hs20.same,?_⟩
   refine aV 6 rfl (by kernel_rfl) rfl (aM (α:=Pt) g15 (is 4) (is 4) (4,0) rfl [(-7,7)] dD aU (by decide) (by decide) (vs:=[(0,vg [vi (-7),vi 7])]) rfl rfl (.cons rfl .nil) ?_)
   intro g21 w22 v23 ch24 o25
   have hs26:=hs20.seq (ch24.n)
   refine⟨hs26.same,?_⟩
   refine aV 7 rfl (by kernel_rfl) rfl ?_
   replace o19:=o19.cn ch24
   refine bD (α:=Pt) (xs:=g.2) (ys:=([(-7,7)])) g21 (J:=is 3) (S:=is 3) (3,0) rfl dD aU (by decide) rfl rfl rfl o19 o25.flat (by decide) (by(simp;omega)) ?_
   intro g27 w28 v29 ch30 o31
   clear o19
   have hs32:=hs26.seq (ch30.l rfl)
   refine⟨hs32.same,?_⟩
   refine ht (v:=(ci v29 2 (Int.toNat 0) (Int.toNat (g.2.length:Int)))) 11 rfl hs32.same (λw' hw'=>dp (v:=v29) (l:=0) (h:=(g.2.length:Int)) dD rfl rfl o31.flat (.inr ⟨rfl,rfl⟩) (.inl (congrArg some rfl)) (by omega) (by omega) (by(simp only[List.length_append,List.length_cons,List.length_nil];omega))) ?_
   have r34:=jp o31.flat (show Int.toNat 0<=Int.toNat (g.2.length:Int) by omega) (show Int.toNat (g.2.length:Int)<=List.length _ by(simp only[List.length_append,List.length_cons,List.length_nil];omega))
   refine ht (v:=vg [vi g.1,(ci v29 2 (Int.toNat 0) (Int.toNat (g.2.length:Int)))]) 12 rfl hs32.same (λw' hw'=>bE (vs:=[(0,vi g.1),(1,(ci v29 2 (Int.toNat 0) (Int.toNat (g.2.length:Int))))]) rfl (by erw [Sl.form r34];kernel_rfl)) (aV 13 rfl (by kernel_rfl) rfl ?_)
   have C38:=cg [3] (ch11.n.seq ((ch18.l rfl).seq (ch24.n.seq (ch30.l rfl))))
   replace bx10:=bx10.ca C38
   refine aI (cs':=[vi g.1,(ci v29 2 (Int.toNat 0) (Int.toNat (g.2.length:Int)))]) cR rfl rfl bx10 rfl nq (AllOne.all (.cons rfl (.cons (bQ r34) .nil))) rfl ?_
   intro w35 ch36 bx37
   clear bx10
   have hs39:=hs32.seq (ch36.l rfl)
   refine⟨hs39.same,?_⟩
   refine cy (by kernel_rfl) ?_
   have C40:=cg [2,3] (ch2.n.seq (ch7.n.seq (ch11.n.seq ((ch18.l rfl).seq (ch24.n.seq ((ch30.l rfl).seq (ch36.l rfl)))))))
   exact mid (v29,g27) _ _ ⟨bH.ca C40,rfl,(Rg.ca hs39),o31.ce ch36,r34.ce ch36,bx37⟩
  ·
   refine aM (α:=Pt) g9 (is 4) (is 4) (4,0) rfl [(-7,7)] dD aU (by decide) (by decide) (vs:=[(0,vg [vi (-7),vi 7])]) rfl rfl (.cons rfl .nil) ?_
   intro g41 w42 v43 ch44 o45
   have hs46:bp (inl [2,3]) _ _ _ _:=ch44.n
   refine⟨hs46.same,?_⟩
   refine aV 4 rfl (by kernel_rfl) rfl (bD (α:=Pt) (xs:=([])) (ys:=g.2) g41 (J:=is 3) (S:=is 3) (3,0) rfl dD aU (by decide) rfl rfl rfl Ow.nil (Rg.ca hs46) (by decide) (by(simp;omega)) ?_)
   intro g47 w48 v49 ch50 o51
   replace o51:Ow g47 (is 3) (is 3) w48 v49 g.2:=o51
   have hs52:=hs46.seq (ch50.l rfl)
   refine⟨hs52.same,?_⟩
   refine aV 7 rfl (by kernel_rfl) rfl ?_
   replace o45:=o45.ce ch50
   refine bD (α:=Pt) (xs:=g.2) (ys:=([(-7,7)])) g47 (J:=is 3) (S:=is 3) (3,0) rfl dD aU (by decide) rfl rfl rfl o51 o45.flat (by decide) (by(simp;omega)) ?_
   intro g53 w54 v55 ch56 o57
   clear o51
   have hs58:=hs52.seq (ch56.l rfl)
   refine⟨hs58.same,?_⟩
   refine ht (v:=(ci v55 2 (Int.toNat 0) (Int.toNat (g.2.length:Int)))) 11 rfl hs58.same (λw' hw'=>dp (v:=v55) (l:=0) (h:=(g.2.length:Int)) dD rfl rfl o57.flat (.inr ⟨rfl,rfl⟩) (.inl (congrArg some rfl)) (by omega) (by omega) (by(simp only[List.length_append,List.length_cons,List.length_nil];omega))) ?_
   have r60:=jp o57.flat (show Int.toNat 0<=Int.toNat (g.2.length:Int) by omega) (show Int.toNat (g.2.length:Int)<=List.length _ by(simp only[List.length_append,List.length_cons,List.length_nil];omega))
   refine ht (v:=vg [vi g.1,(ci v55 2 (Int.toNat 0) (Int.toNat (g.2.length:Int)))]) 12 rfl hs58.same (λw' hw'=>bE (vs:=[(0,vi g.1),(1,(ci v55 2 (Int.toNat 0) (Int.toNat (g.2.length:Int))))]) rfl (by erw [Sl.form r60];kernel_rfl)) (aV 13 rfl (by kernel_rfl) rfl ?_)
   have C64:=cg [3] (ch11.n.seq (ch44.n.seq ((ch50.l rfl).seq (ch56.l rfl))))
   replace bx10:=bx10.ca C64
   refine aI (cs':=[vi g.1,(ci v55 2 (Int.toNat 0) (Int.toNat (g.2.length:Int)))]) cR rfl rfl bx10 rfl nq (AllOne.all (.cons rfl (.cons (bQ r60) .nil))) rfl ?_
   intro w61 ch62 bx63
   clear bx10
   have hs65:=hs58.seq (ch62.l rfl)
   refine⟨hs65.same,?_⟩
   refine cy (by kernel_rfl) ?_
   have C66:=cg [2,3] (ch2.n.seq (ch7.n.seq (ch11.n.seq (ch44.n.seq ((ch50.l rfl).seq ((ch56.l rfl).seq (ch62.l rfl)))))))
   exact mid (v55,g53) _ _ ⟨bH.ca C66,rfl,(Rg.ca hs65),o57.ce ch62,r60.ce ch62,bx63⟩
 clear Rg bx5 bx10 bH
 rintro⟨v29,g69⟩ f67 w68 ⟨bH,zs2,Rg,o31,r34,bx37⟩
 refine aQ (vs:=[vg [vi g.1,(ci v29 2 (Int.toNat 0) (Int.toNat (g.2.length:Int)))]]) Try.func10 (.cell zs2 (dR (ds:=[vi g.1,(ci v29 2 (Int.toNat 0) (Int.toNat (g.2.length:Int)))]) cR bx37 rfl rfl) .nil) ?_
 have e0:((g.1,(List.drop (Int.toNat 0) (List.take (Int.toNat (g.2.length:Int)) (g.2++[(-7,7)])))):(Int)×(List Pt))=(g):=by
   simp
 exact⟨(fin w0 g69 (λn=>if n=3 then 1 else 0),(ci v29 2 (Int.toNat 0) (Int.toNat (g.2.length:Int)))),(congrArg (a₁:=(g.1,(List.drop (Int.toNat 0) (List.take (Int.toNat (g.2.length:Int)) (g.2++[(-7,7)]))))) (λ(z0:(Int)×(List Pt))=>Ending.returned (vg [vi z0.1,(ci v29 2 (Int.toNat 0) (Int.toNat (g.2.length:Int)))])) e0),bH.fresh _,(tB (o31.glue (γ:=c0) (ren:=(λn=>if n=3 then 1 else 0)) (k:=1) bH.col rfl rfl) (by simp))⟩
theorem nf(w0:World)(a:(Int)×(List Pt))(a_v:Value)(ha_v:Ro w0 a_v a.2)(b:(Int)×(List Pt))(b_v:Value)(hb_v:Ro w0 b_v b.2):
    Calls Try.prog 21 #[vg [vi a.1,a_v],vg [vi b.1,b_v]] w0 (λee w=>ee= .returned (vb (decide (a=b)))/\dT w0.heap.size w0 w):=by
 refine aC Try.func21 rfl nq ?_
 have bH:=bv.start w0
 have Ra:=ha_v.sl
 have Rb:=hb_v.sl
 refine ab (a8 rfl (db rfl (d4 c0 (is 1) (1,0) rfl rfl ?_)))
 intro g4 w1 b3 ch2 bx5
 replace bx5:Bx g4 (is 1) w1 b3 [vi a.1,a_v]:=bx5
 refine lo (d4 g4 (is 2) (2,0) rfl rfl ?_)
 intro g9 w6 b8 ch7 bx10
 replace bx10:Bx g9 (is 2) w6 b8 [vi b.1,b_v]:=bx10
 refine ma (vb false) (ag (ab (ab (a8 rfl (lx (ad cZ rfl rfl rfl rfl) ?_)))))
 replace bx5:=bx5.cn ch7
 refine lx (af ah rfl bx5 rfl) (lx (ad cZ rfl rfl rfl rfl) (lx (af ah rfl bx10 rfl) (lx (dW (m:=a.1) (n:=b.1) rfl rfl) (mv (vb (!(decide (a.1=b.1)))) ?_))))
 by_cases q11:a.1=b.1
 ·
  refine lv (vp b3 1) (wy (congrArg Bool.not (dt q11))) (ad cZ rfl rfl rfl rfl) (lv (a_v) (wy (congrArg Bool.not (dt q11))) (af bC rfl bx5 rfl) ?_)
  replace Ra:=(Ra.cn ch2).cn ch7
  have len11:=(Ra).small
  refine lv (vi (a.2.length:Int)) (wy (congrArg Bool.not (dt q11))) (bu dD rfl Ra) (lv (vp b8 1) (wy (congrArg Bool.not (dt q11))) (ad cZ rfl rfl rfl rfl) (lv (b_v) (wy (congrArg Bool.not (dt q11))) (af bC rfl bx10 rfl) ?_))
  replace Rb:=(Rb.cn ch2).cn ch7
  have len12:=(Rb).small
  refine lv (vi (b.2.length:Int)) (wy (congrArg Bool.not (dt q11))) (bu dD rfl Rb) (lv (vb (!(decide ((a.2.length:Int)=(b.2.length:Int))))) (wy (congrArg Bool.not (dt q11))) (dW (m:=(a.2.length:Int)) (n:=(b.2.length:Int)) rfl rfl) (lw (vb (!(decide ((a.2.length:Int)=(b.2.length:Int))))) (aY rfl (congrArg Bool.not (dt q11)) rfl) (ag ?_)))
  by_cases p1:(a.2.length:Int)=(b.2.length:Int)
  ·
   refine aj rfl (congrArg Bool.not (dt p1)) (av (ab (ab (a8 rfl (ai 0 (ag (ar ?_)))))))
   refine bc (σ:=Nat×aJ) (λ⟨k,gq⟩ f w=>bv w0 gq w/\f 2=vp b3 0/\f 3=vp b8 0/\f 5=vi ↑k/\Sl gq (is 0) w a_v a.2/\Sl gq (is 0) w b_v b.2/\Bx gq (is 1) w b3 [vi a.1,a_v]/\Bx gq (is 2) w b8 [vi b.1,b_v]/\(k:Int)<=((a.2.length:Int):Int)/\(List.take k a.2=List.take k b.2)) (λ⟨k,gq⟩=>Int.toNat (((a.2.length:Int):Int)-(k:Int))) (0,g9) ?_ ?_
   replace bH:=bH.cn ch2
   · exact⟨bH.cn ch7,rfl,rfl,rfl,Ra,Rb,bx5,bx10,by omega,by simp⟩
   clear Ra Rb bx5 bx10 bH
   rintro⟨k,g15⟩ f13 w14 ⟨bH,zs2,zs3,zs5,Ra,Rb,bx5,bx10,hle_k,hinv⟩ back4
   refine ab (ab (a8 rfl (mz zs5 (lx (ad cZ rfl rfl zs2 rfl) (lx (af bC rfl bx5 rfl) (lx (bu dD rfl Ra) (lx (bn (m:=↑k) (n:=(a.2.length:Int)) rfl rfl) (ag ?_))))))))
   by_cases p4:(k:Int)<(a.2.length:Int)
   ·
    refine al rfl (dt p4) (av (ab (ar (ab (cq g15 rfl lT (by kernel_rfl) ?_)))))
    intro w17 ch16
    refine qx (λw' hw'=>ad cZ rfl rfl zs2 rfl) ?_
    replace bx5:=bx5.cn ch16
    refine qx (λw' hw'=>af bC rfl (bx5.bel hw') rfl) (qz zs5 ?_)
    replace Ra:=Ra.cn ch16
    refine qx (λw' hw'=>ae (v:=a_v) (i:=↑k) dD rfl rfl (Ra.bel hw') rfl (by omega) (by omega)) (qv (vg [vi ((gI a.2 ↑k).1),vi ((gI a.2 ↑k).2)]) (λw' hw'=>dJ (v:=a_v) (i:=↑k) aU rfl (Ra.bel hw') (by omega) (by omega) rfl) (qx (λw' hw'=>ad cZ rfl rfl zs3 rfl) ?_))
    replace bx10:=bx10.cn ch16
    refine qx (λw' hw'=>af bC rfl (bx10.bel hw') rfl) (qz zs5 ?_)
    replace Rb:=Rb.cn ch16
    refine qx (λw' hw'=>ae (v:=b_v) (i:=↑k) dD rfl rfl (Rb.bel hw') rfl (by omega) (by omega)) (qv (vg [vi ((gI b.2 ↑k).1),vi ((gI b.2 ↑k).2)]) (λw' hw'=>dJ (v:=b_v) (i:=↑k) aU rfl (Rb.bel hw') (by omega) (by omega) rfl) (qv (vb (!(decide ((gI a.2 ↑k)=(gI b.2 ↑k))))) (λw' hw'=>nJ (a:=(gI a.2 ↑k)) (b:=(gI b.2 ↑k)) dg U3 ah (by kernel_rfl) rfl rfl) (d8 ?_)))
    intro w18 hc19
    replace hc19:=aS hc19 g15
    by_cases p6:(gI a.2 ↑k)=(gI b.2 ↑k)
    ·
     refine aj rfl (congrArg Bool.not (dt p6)) (av (ak (a8 rfl (mz zs5 (lx (aG (m:=↑k) (n:=1) rfl rfl (by omega)) (ai ((k:Int)+1) (ag ?_)))))))
     replace bH:=bH.cn ch16
     refine back4 (k+1,g15) _ _ ⟨bH.cn hc19,zs2,zs3,rfl,Ra.cn hc19,Rb.cn hc19,bx5.cn hc19,bx10.cn hc19,by omega,?_⟩ ?_
     · show List.take (k+1) a.2=List.take (k+1) b.2
       rw[cY ‹_›,cY (by omega),hinv];simp_all
     · show Int.toNat (((a.2.length:Int):Int)-((k+1):Int))<Int.toNat (((a.2.length:Int):Int)-(k:Int))
       omega
    refine al rfl (congrArg Bool.not (df p6)) (ab ?_)
    clear bx5 bx10
    refine a8 rfl (ma (vb false) (ag (aQ (vs:=[vb false]) Try.func21 (.tmp rfl .nil) ?_)))
    have e0:(false:Bool)=(decide (a=b)):=by
      (refine(df λh=>?_).symm;subst h;simp_all;done)
    replace bH:=bH.cn ch16
    replace bH:=bH.cn hc19
    exact⟨rb e0,bH.below⟩
   refine aj rfl (df p4) (aF rfl (ab ?_))
   clear bx5 bx10
   refine a8 rfl (ma (vb true) (ag (aQ (vs:=[vb true]) Try.func21 (.tmp rfl .nil) ?_)))
   have e0:(true:Bool)=(decide (a=b)):=by
     (have e:=hinv;rw[List.take_of_length_le (by omega),List.take_of_length_le (by omega)] at e;exact(dt (Prod.ext ‹_› e)).symm)
   exact⟨rb e0,bH.below⟩
  refine al rfl (congrArg Bool.not (df p1)) (ab ?_)
  clear bx5 bx10
  refine a8 rfl (ma (vb false) (ag (aQ (vs:=[vb false]) Try.func21 (.tmp rfl .nil) ?_)))
  have e0:(false:Bool)=(decide (a=b)):=by
    (refine(df λh=>?_).symm;subst h;simp_all;done)
  replace bH:=bH.cn ch2
  replace bH:=bH.cn ch7
  exact⟨rb e0,bH.below⟩
 refine ax (wn (congrArg Bool.not (df q11))) (ax (wn (congrArg Bool.not (df q11))) (ax (wn (congrArg Bool.not (df q11))) (ax (wn (congrArg Bool.not (df q11))) (ax (wn (congrArg Bool.not (df q11))) (ax (wn (congrArg Bool.not (df q11))) (ax (wn (congrArg Bool.not (df q11))) (lw (vb true) (b5 rfl (congrArg Bool.not (df q11)) rfl) (ag (al rfl rfl ?_)))))))))
 refine ab ?_
 clear bx5 bx10
 refine a8 rfl (ma (vb false) (ag (aQ (vs:=[vb false]) Try.func21 (.tmp rfl .nil) ?_)))
 have e0:(false:Bool)=(decide (a=b)):=by
   (refine(df λh=>?_).symm;subst h;simp_all;done)
 replace bH:=bH.cn ch2
 replace bH:=bH.cn ch7
 exact⟨rb e0,bH.below⟩
theorem t6(w0:World)(t:(Int)×(List Pt))(t_v:Value)(ht_v:Ro w0 t_v t.2)(g:(Int)×(List Pt))(g_v:Value)(hg_v:Ro w0 g_v g.2)(hmark:Ro w0 (io t_v) (t.2++[((-7:Int),(7:Int))])):
    Calls Try.prog 15 #[vg [vi t.1,t_v],vg [vi g.1,g_v]] w0 (λee w=>ee= .returned (vb (decide (t=g)))/\dT w0.heap.size w0 w):=by
 refine aC Try.func15 rfl nq ?_
 have bH:=bv.start w0
 have Rt:=ht_v.sl
 have Rg:=hg_v.sl
 have r_up:=hmark.sl
 refine ab (a8 rfl (db rfl (d4 c0 (is 1) (1,0) rfl rfl ?_)))
 intro g4 w1 b3 ch2 bx5
 replace bx5:Bx g4 (is 1) w1 b3 [vi t.1,t_v]:=bx5
 refine lo (d4 g4 (is 2) (2,0) rfl rfl ?_)
 intro g9 w6 b8 ch7 bx10
 replace bx10:Bx g9 (is 2) w6 b8 [vi g.1,g_v]:=bx10
 refine ma (vb false) (ag (ab (cq g9 rfl lT (by kernel_rfl) ?_)))
 intro w12 ch11
 replace bx5:=(bx5.cn ch7).cn ch11
 refine qx (λw' hw'=>aB (ds:=[vi t.1,t_v]) cR rfl (bx5.bel hw') rfl rfl) ?_
 replace bx10:=bx10.cn ch11
 refine qx (λw' hw'=>aB (ds:=[vi g.1,g_v]) cR rfl (bx10.bel hw') rfl rfl) ?_
 have C13:=cg [] (ch2.n.seq (ch7.n.seq ch11.n))
 replace Rt:=Rt.ca C13
 replace Rg:=Rg.ca C13
 refine gE (v:=vb (decide (t=g))) rfl (λw' hw'=>b9 (vals:=[vg [vi t.1,t_v],vg [vi g.1,g_v]]) Try.func21 rH qy rfl) (λw' hw'=>(nf w' t t_v ((Rt.bel hw')).ro g g_v ((Rg.bel hw')).ro).mono λe w2 h2=>⟨h2.1,hw'.trans (h2.2.mono hw'.size)⟩) (qm (vb (decide (t=g))) ?_)
 by_cases q8:(decide (t=g))=true
 ·
  refine bt (v:=vp b3 1) (wy q8) (λw' hw'=>ad cZ rfl rfl rfl rfl) (bt (v:=t_v) (wy q8) (λw' hw'=>af bC rfl (bx5.bel hw') rfl) (bt (v:=vp b8 1) (wy q8) (λw' hw'=>ad cZ rfl rfl rfl rfl) (bt (v:=g_v) (wy q8) (λw' hw'=>af bC rfl (bx10.bel hw') rfl) ?_)))
  have len14:=(Rg).small
  refine bt (v:=vi (g.2.length:Int)) (wy q8) (λw' hw'=>bu dD rfl (Rg.bel hw')) (bt (v:=vi ((g.2.length:Int)+1)) (wy q8) (λw' hw'=>aG (m:=(g.2.length:Int)) (n:=1) rfl rfl (by omega)) ?_)
  replace r_up:=r_up.ca C13
  refine bt (v:=(io t_v)) (wy q8) (λw' hw'=>oc (α:=Int×Int) dD rfl rfl (r_up.bel hw') rfl (by rw[show t.2.length=g.2.length from congrArg (λz=>z.2.length) (of_decide_eq_true q8)])) (bt (v:=vp b8 1) (wy q8) (λw' hw'=>ad cZ rfl rfl rfl rfl) (bt (v:=g_v) (wy q8) (λw' hw'=>af bC rfl (bx10.bel hw') rfl) (bt (v:=vi (g.2.length:Int)) (wy q8) (λw' hw'=>bu dD rfl (Rg.bel hw')) ?_)))
  refine bt (v:=Value.pointer (some (aZ (io t_v) 2 (Int.toNat (g.2.length:Int))))) (wy q8) (λw' hw'=>ae (α:=Pt) (xs:=t.2++[((-7:Int),(7:Int))]) (v:=(io t_v)) (i:=(g.2.length:Int)) dD rfl rfl (r_up.bel hw') rfl (by(have hl:t.2.length=g.2.length:=congrArg (λz=>z.2.length) (of_decide_eq_true q8));(omega)) (by(have hl:t.2.length=g.2.length:=congrArg (λz=>z.2.length) (of_decide_eq_true q8));((simp only[List.length_append,List.length_cons,List.length_nil];omega)))) ?_
  refine bt (v:=vg [vi ((gI (t.2++[((-7:Int),(7:Int))]) (g.2.length:Int)).1),vi ((gI (t.2++[((-7:Int),(7:Int))]) (g.2.length:Int)).2)]) (wy q8) (λw' hw'=>dJ (α:=Pt) (xs:=t.2++[((-7:Int),(7:Int))]) (v:=(io t_v)) (i:=(g.2.length:Int)) aU rfl (r_up.bel hw') (by(have hl:t.2.length=g.2.length:=congrArg (λz=>z.2.length) (of_decide_eq_true q8));(omega)) (by(have hl:t.2.length=g.2.length:=congrArg (λz=>z.2.length) (of_decide_eq_true q8));((simp only[List.length_append,List.length_cons,List.length_nil];omega))) rfl) (bt (v:=vg [vi (-7),vi 7]) (wy q8) (λw' hw'=>bE (vs:=[(0,vi (-7)),(1,vi 7)]) rfl (by kernel_rfl)) ?_)
  refine bt (v:=vb (decide ((gI (t.2++[((-7:Int),(7:Int))]) (g.2.length:Int))=(-7,7)))) (wy q8) (λw' hw'=>nZ (a:=(gI (t.2++[((-7:Int),(7:Int))]) (g.2.length:Int))) (b:=(-7,7)) dg U3 ah (by kernel_rfl) rfl rfl) (qv (vb (decide ((gI (t.2++[((-7:Int),(7:Int))]) (g.2.length:Int))=(-7,7)))) (λw' hw'=>b5 rfl q8 rfl) (qv (vb (decide ((gI (t.2++[((-7:Int),(7:Int))]) (g.2.length:Int))=(-7,7)))) (λw' hw'=>c7 rfl) (d8 ?_)))
  intro w15 hc16
  replace hc16:=aS hc16 g9
  refine aQ (vs:=[vb (decide ((gI (t.2++[((-7:Int),(7:Int))]) (g.2.length:Int))=(-7,7)))]) Try.func15 (.tmp rfl .nil) ?_
  have e0:(decide ((gI (t.2++[((-7:Int),(7:Int))]) (g.2.length:Int))=(-7,7)):Bool)=(decide (t=g)):=by
    (have hh:=of_decide_eq_true q8
     subst hh
     simp[gI];done)
  have C17:=cg [] (ch2.n.seq (ch7.n.seq (ch11.n.seq hc16.n)))
  replace bH:=bH.ca C17
  exact⟨(congrArg (a₁:=decide ((gI (t.2++[((-7:Int),(7:Int))]) (g.2.length:Int))=(-7,7))) (λ(z0:Bool)=>Ending.returned (vb z0)) e0),bH.below⟩
 refine aL (wn (Bool.eq_false_iff.2 q8)) (aL (wn (Bool.eq_false_iff.2 q8)) (aL (wn (Bool.eq_false_iff.2 q8)) (aL (wn (Bool.eq_false_iff.2 q8)) (aL (wn (Bool.eq_false_iff.2 q8)) (aL (wn (Bool.eq_false_iff.2 q8)) (aL (wn (Bool.eq_false_iff.2 q8)) (aL (wn (Bool.eq_false_iff.2 q8)) (aL (wn (Bool.eq_false_iff.2 q8)) (aL (wn (Bool.eq_false_iff.2 q8)) ?_)))))))))
 refine aL (wn (Bool.eq_false_iff.2 q8)) (aL (wn (Bool.eq_false_iff.2 q8)) (aL (wn (Bool.eq_false_iff.2 q8)) (aL (wn (Bool.eq_false_iff.2 q8)) (qv (vb false) (λw' hw'=>aY rfl (Bool.eq_false_iff.2 q8) rfl) (qv (vb false) (λw' hw'=>c7 rfl) (d8 ?_))))))
 intro w18 hc19
 replace hc19:=aS hc19 g9
 refine aQ (vs:=[vb false]) Try.func15 (.tmp rfl .nil) ?_
 have e0:(false:Bool)=(decide (t=g)):=by
   simp_all
 have C20:=cg [] (ch2.n.seq (ch7.n.seq (ch11.n.seq hc19.n)))
 replace bH:=bH.ca C20
 exact⟨rb e0,bH.below⟩
end TL
