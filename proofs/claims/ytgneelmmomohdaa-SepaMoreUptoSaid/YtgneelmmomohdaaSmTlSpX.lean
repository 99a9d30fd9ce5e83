import Derived.Test.YtgneelmmomohdaaSmTlP4
import Derived.Test.YtgneelmmomohdaaSmTlSpG
import Derived.Test.YtgneelmmomohdaaSmTlGenA
import Derived.Test.YtgneelmmomohdaaProg
import Derived.Test.YtgneelmmomohdaaSmTlAli
set_option linter.all false
set_option maxRecDepth 20000
namespace TL
open Go Go.Proofs
theorem qP:Try.prog.follows .mixedOrders=true:=by kernel_rfl
theorem uz:Try.f6.body.isNone=false:=rfl
theorem uZ:(Try.f6.name== "runtime.NumGoroutine")=false:=by decide+kernel
theorem uN:Try.f7.body.isNone=false:=rfl
theorem v7:(Try.f7.name== "runtime.NumGoroutine")=false:=by decide+kernel
theorem tE:Try.f25.body.isNone=false:=rfl
theorem tn:(Try.f25.name== "runtime.NumGoroutine")=false:=by decide+kernel
theorem su(w0:World)(g:(Int)×(List Pt))(g_v:Value)(hg_v:Ro w0 g_v g.2)(hlen:g.2.length<=1048576):
    Calls Try.prog 25 #[vg [vi g.1,g_v]] w0 (λee w=>∃xx:aG×Value,ee= .returned ((λ⟨δ,rv0⟩=>vg [vi g.1,rv0]) xx)/\(λ(⟨δ,rv0⟩:aG×Value) (w:World)=>eQ w0 δ w/\Ow δ (is 1) (is 1) w rv0 g.2) xx w):=by
 refine ap Try.func25 rfl nq ?_
 have bH:=bm.start w0
 have Rg:=hg_v.sl
 refine aa (a8 rfl (cA rfl (cq c0 (is 1) (1,0) rfl rfl ?_)))
 intro g4 w1 b3 ch2 bx5
 replace bx5:Bx g4 (is 1) w1 b3 [vi g.1,g_v]:=bx5
 refine lo (bn g4 (is 2) (2,0) rfl aF ?_)
 intro g9 w6 b8 ch7 bx10
 replace bx10:Bx g9 (is 2) w6 b8 [vi 0,vn]:=bx10
 refine ad (aa (gJ g9 (inl [2,3]) qP ?_))
 intro w12 ch11
 refine ht 0 rfl (bv.refl _ _ _) (λw' hw'=>af cR rfl rfl rfl rfl) ?_
 replace bx5:=(bx5.cn ch7).cn ch11
 refine ht 1 rfl (bv.refl _ _ _) (λw' hw'=>ae ak rfl (bx5.chg hw' (cS rfl)) rfl) (ht 2 rfl (bv.refl _ _ _) (λw' hw'=>af cR rfl rfl rfl rfl) (ht 3 rfl (bv.refl _ _ _) (λw' hw'=>ae bp rfl (bx5.chg hw' (cS rfl)) rfl) (cd 4 rfl (by kernel_rfl) rfl ?_)))
 have C13:=cg [] (ch2.n.seq (ch7.n.seq ch11.n))
 replace Rg:=Rg.ca C13
 refine bc (α:=Pt) (xs:=([])) (ys:=g.2) g9 (J:=is 3) (S:=is 3) (3,0) rfl de aU (by decide) rfl rfl rfl Ow.nil Rg (by decide) (by(simp;omega)) ?_
 intro g14 w15 v16 ch17 o18
 replace o18:Ow g14 (is 3) (is 3) w15 v16 g.2:=o18
 have hs19:bv (inl [2,3]) _ _ _ _:=ch17.l rfl
 refine⟨hs19.same,?_⟩
 refine ht (v:=vg [vi g.1,v16]) 5 rfl hs19.same (λw' hw'=>br (vs:=[(0,vi g.1),(1,v16)]) rfl (by rw[Sl.form o18.flat];kernel_rfl)) (cd 6 rfl (by kernel_rfl) rfl ?_)
 replace bx10:=(bx10.cn ch11).ce ch17
 refine aH (cs':=[vi g.1,v16]) aF rfl rfl bx10 rfl nq (AllOne.all (.cons rfl (.cons (b9 o18.flat) .nil))) rfl ?_
 intro w20 ch21 bx22
 clear bx10
 have hs23:=hs19.seq (ch21.l rfl)
 refine⟨hs23.same,?_⟩
 refine gN (by kernel_rfl) (aw (vs:=[vg [vi g.1,v16]]) Try.func25 (.cell rfl (bK (ds:=[vi g.1,v16]) aF bx22 rfl rfl) .nil) ?_)
 have C24:=cg [2,3] (ch2.n.seq (ch7.n.seq (ch11.n.seq ((ch17.l rfl).seq (ch21.l rfl)))))
 replace bH:=bH.ca C24
 replace o18:=o18.ce ch21
 have e0:(g:(Int)×(List Pt))=(g):=by
   rfl
 exact⟨(fin w0 g14 (λn=>if n=3 then 1 else 0),v16),(congrArg (a₁:=g) (λ(z0:(Int)×(List Pt))=>Ending.returned (vg [vi z0.1,v16])) e0),bH.fresh _,((congrArg (λ(z:(Int)×(List Pt))=>z.2) e0)▸(o18.glue (γ:=c0) (ren:=(λn=>if n=3 then 1 else 0)) (k:=1) bH.col rfl rfl))⟩
set_option maxHeartbeats 8000000 in
theorem o6(w0:World)(g:(Int)×(List Pt))(g_v:Value)(hg_v:Ro w0 g_v g.2)(u:Int)(v:Int):
    Calls Try.prog 5 #[vg [vi g.1,g_v],vi u,vi v] w0 (λee w=>ee= .returned (vb true)/\dU w0.heap.size w0 w):=by
 refine ap Try.func5 rfl nq ?_
 have bH:=bm.start w0
 have Rg:=hg_v.sl
 refine aa (a8 rfl (cA rfl (cq c0 (is 1) (1,0) rfl rfl ?_)))
 intro g4 w1 b3 ch2 bx5
 replace bx5:Bx g4 (is 1) w1 b3 [vi g.1,g_v]:=bx5
 refine ma (vb false) (ad (aa (aa (a8 rfl (cA rfl (bT (v:=vb true) (aP (vals:=[]) Try.func6 uz uZ rfl) (qF w1) ?_))))))
 intro w6 hb7
 replace hb7:=aY hb7 g4
 refine lx (e8 (b:=true) rfl) (ad (aj rfl rfl (ar (aa (aa (a8 rfl ?_))))))
 replace bx5:=bx5.cn hb7
 refine lx (aA (ds:=[vi g.1,g_v]) aF rfl bx5 rfl rfl) ?_
 replace Rg:=(Rg.cn ch2).cn hb7
 refine lo (bT (v:=vb (decide (¬aV g\/(g.1<=16/\g.2.length<=40)))) (aP (vals:=[vg [vi g.1,g_v]]) Try.func7 uN v7 rfl) (qq w6 g g_v (Rg).ro) ?_)
 intro w8 hb9
 replace hb9:=aY hb9 g4
 refine lx (e8 (b:=(decide (¬aV g\/(g.1<=16/\g.2.length<=40)))) rfl) (mv (vb (!(decide (¬aV g\/(g.1<=16/\g.2.length<=40))))) ?_)
 by_cases q19:(decide (¬aV g\/(g.1<=16/\g.2.length<=40)))=true
 ·
  replace bx5:=bx5.cn hb9
  refine lv (vg [vi g.1,g_v]) (wy (congrArg Bool.not q19)) (aA (ds:=[vi g.1,g_v]) aF rfl bx5 rfl rfl) ?_
  replace Rg:=Rg.cn hb9
  refine cA (wy (congrArg Bool.not q19)) (bT (v:=vb (cE g)) (aP (vals:=[vg [vi g.1,g_v]]) Try.func14 nE og rfl) (pT w8 g g_v (Rg).ro) ?_)
  intro w10 hb11
  replace hb11:=aY hb11 g4
  refine lv (vb (!(cE g))) (wy (congrArg Bool.not q19)) (e8 (b:=(cE g)) rfl) (lw (vb (!(cE g))) (aW rfl (congrArg Bool.not q19) rfl) (mv (vb (!(cE g))) ?_))
  by_cases q24:(cE g)=true
  ·
   refine lv (vi u) (wy (congrArg Bool.not q24)) (au rfl) (lv (vb (decide (u<0))) (wy (congrArg Bool.not q24)) (bf (m:=u) (n:=0) rfl rfl) (lw (vb (decide (u<0))) (aW rfl (congrArg Bool.not q24) rfl) (mv (vb (decide (u<0))) ?_)))
   by_cases q28:u<0
   ·
    refine am (wn (dt q28)) (am (wn (dt q28)) (lw (vb true) (aN rfl (dt q28) rfl) (mv (vb true) (am (wn rfl) (am (wn rfl) (am (wn rfl) (am (wn rfl) (lw (vb true) (aN rfl rfl rfl) (mv (vb true) (am (wn rfl) (am (wn rfl) (am (wn rfl) (am (wn rfl) (lw (vb true) (aN rfl rfl rfl) (ad ?_)))))))))))))))
    refine ah rfl rfl (aa ?_)
    clear bx5
    refine a8 rfl (ma (vb true) (ad (aw (vs:=[vb true]) Try.func5 (.tmp rfl .nil) ?_)))
    have e0:(true:Bool)=(true):=by
      rfl
    have C12:=cg [] (ch2.n.seq (hb7.n.seq (hb9.n.seq hb11.n)))
    replace bH:=bH.ca C12
    exact⟨rb e0,bH.below⟩
   refine lv (vi v) (wy (df q28)) (au rfl) (lv (vb (decide (v<0))) (wy (df q28)) (bf (m:=v) (n:=0) rfl rfl) (lw (vb (decide (v<0))) (aW rfl (df q28) rfl) (mv (vb (decide (v<0))) ?_)))
   by_cases q32:v<0
   ·
    refine am (wn (dt q32)) (am (wn (dt q32)) (am (wn (dt q32)) (am (wn (dt q32)) (lw (vb true) (aN rfl (dt q32) rfl) (mv (vb true) (am (wn rfl) (am (wn rfl) (am (wn rfl) (am (wn rfl) (lw (vb true) (aN rfl rfl rfl) (ad (ah rfl rfl ?_))))))))))))
    refine aa ?_
    clear bx5
    refine a8 rfl (ma (vb true) (ad (aw (vs:=[vb true]) Try.func5 (.tmp rfl .nil) ?_)))
    have e0:(true:Bool)=(true):=by
      rfl
    have C13:=cg [] (ch2.n.seq (hb7.n.seq (hb9.n.seq hb11.n)))
    replace bH:=bH.ca C13
    exact⟨rb e0,bH.below⟩
   refine lv (vi u) (wy (df q32)) (au rfl) (lv (vp b3 0) (wy (df q32)) (af cR rfl rfl rfl rfl) ?_)
   replace bx5:=bx5.cn hb11
   refine lv (vi g.1) (wy (df q32)) (ae ak rfl bx5 rfl) (lv (vb (decide (g.1<=u))) (wy (df q32)) (fL (m:=u) (n:=g.1) rfl rfl) (lw (vb (decide (g.1<=u))) (aW rfl (df q32) rfl) (mv (vb (decide (g.1<=u))) ?_)))
   by_cases q38:g.1<=u
   ·
    refine am (wn (dt q38)) (am (wn (dt q38)) (am (wn (dt q38)) (am (wn (dt q38)) (lw (vb true) (aN rfl (dt q38) rfl) (ad (ah rfl rfl (aa ?_)))))))
    clear bx5
    refine a8 rfl (ma (vb true) (ad (aw (vs:=[vb true]) Try.func5 (.tmp rfl .nil) ?_)))
    have e0:(true:Bool)=(true):=by
      rfl
    have C14:=cg [] (ch2.n.seq (hb7.n.seq (hb9.n.seq hb11.n)))
    replace bH:=bH.ca C14
    exact⟨rb e0,bH.below⟩
   refine lv (vi v) (wy (df q38)) (au rfl) (lv (vp b3 0) (wy (df q38)) (af cR rfl rfl rfl rfl) (lv (vi g.1) (wy (df q38)) (ae ak rfl bx5 rfl) (lv (vb (decide (g.1<=v))) (wy (df q38)) (fL (m:=v) (n:=g.1) rfl rfl) (lw (vb (decide (g.1<=v))) (aW rfl (df q38) rfl) (ad ?_)))))
   by_cases p3:g.1<=v
   ·
    refine ah rfl (dt p3) (aa ?_)
    clear bx5
    refine a8 rfl (ma (vb true) (ad (aw (vs:=[vb true]) Try.func5 (.tmp rfl .nil) ?_)))
    have e0:(true:Bool)=(true):=by
      rfl
    have C15:=cg [] (ch2.n.seq (hb7.n.seq (hb9.n.seq hb11.n)))
    replace bH:=bH.ca C15
    exact⟨rb e0,bH.below⟩
   refine aj rfl (df p3) (ar (aa ?_))
   have hm:aV g:=of_decide_eq_true ‹_›
   have hm0:=hm
   obtain⟨hm1,hm2,hm3,hm4⟩:=hm0
   have hli:g.1<=16/\g.2.length<=40:=(of_decide_eq_true (p:=¬aV g\/(g.1<=16/\g.2.length<=40)) ‹_›).resolve_left λq=>q hm
   obtain⟨hli1,hli2⟩:=hli
   refine a8 rfl (lx (aA (ds:=[vi g.1,g_v]) aF rfl bx5 rfl rfl) ?_)
   replace Rg:=Rg.cn hb11
   refine lo (c6 (aP (vals:=[vg [vi g.1,g_v]]) Try.func25 tE tn rfl) (su w10 g g_v (Rg).ro (by omega)) ?_)
   rintro⟨d17,v19⟩ w16 ⟨fr18,o20⟩
   obtain⟨g21,ch22,G21⟩:=jL g4 fr18 (λn=>if n=1 then 2 else 0)
   replace o20:=o20.gl G21 2
   refine lo (bn g21 (is 3) (3,0) rfl aF ?_)
   intro g26 w23 b25 ch24 bx27
   replace bx27:Bx g26 (is 3) w23 b25 [vi 0,vn]:=bx27
   refine lo ?_
   replace o20:=o20.cn ch24
   refine aH (cs':=[vi g.1,v19]) aF rfl rfl bx27 rfl nq (AllOne.all (.cons rfl (.cons (b9 o20.flat) .nil))) rfl ?_
   intro w28 ch29 bx30
   clear bx27
   refine ad (aa (a8 rfl (lx (af cR rfl rfl rfl rfl) (lx (ae bp rfl bx30 rfl) (mi u (mi v (lw (vg [vi u,vi v]) (br (vs:=[(0,vi u),(1,vi v)]) rfl (by kernel_rfl)) (lo (av (α:=Pt) g26 (is 4) (is 4) (4,0) rfl ([(u,v)]:List Pt) de aU (by decide) (by decide) (vs:=[(0,vg [vi u,vi v])]) rfl rfl (.cons rfl .nil) ?_)))))))))
   intro g31 w32 v33 ch34 o35
   refine lo ?_
   replace o20:=(o20.ce ch29).cn ch34
   refine bc (α:=Pt) (xs:=g.2) (ys:=([(u,v)]:List Pt)) g31 (J:=is 2) (S:=is 2) (2,0) rfl de aU (by decide) rfl rfl rfl o20 o35.flat (by decide) (by(simp;omega)) ?_
   intro g36 w37 v38 ch39 o40
   clear o20
   refine lx (af cR rfl rfl rfl rfl) (lo ?_)
   replace bx30:=(bx30.cn ch34).ce ch39
   refine bD (cs':=[vi g.1,v38]) bp rfl rfl bx30 (bz o40.flat) nq (b9 o40.flat) rfl ?_
   intro w41 ch42 bx43
   clear bx30
   refine ad (aa ?_)
   clear o35
   refine a8 rfl ?_
   have C44:=cg [2,3] (ch22.n.seq (ch24.n.seq ((ch29.l rfl).seq (ch34.n.seq ((ch39.l rfl).seq (ch42.l rfl))))))
   replace bx5:=bx5.ca C44
   refine lx (aA (ds:=[vi g.1,g_v]) aF rfl bx5 rfl rfl) ?_
   replace Rg:=Rg.ca C44
   refine lo (bT (v:=vt [vi ((aX g).1),vi ((aX g).2)]) (aP (vals:=[vg [vi g.1,g_v]]) Try.func9 mQ mH rfl) (jo w41 g g_v (Rg).ro) ?_)
   intro w45 hb46
   replace hb46:=aY hb46 g36
   refine mv (vt [vi ((aX g).1),vi ((aX g).2)]) (lx (aB rfl rfl) (lx (aB rfl rfl) (ai ((aX g).1) (ai ((aX g).2) (ad (aa (a8 rfl ?_)))))))
   replace bx43:=bx43.cn hb46
   refine lx (aA (ds:=[vi g.1,v38]) aF rfl bx43 rfl rfl) ?_
   replace o40:=(o40.ce ch42).cn hb46
   refine lo (bT (v:=vt [vi ((aX (g.1,(g.2++([(u,v)]:List Pt)))).1),vi ((aX (g.1,(g.2++([(u,v)]:List Pt)))).2)]) (aP (vals:=[vg [vi g.1,v38]]) Try.func9 mQ mH rfl) (jo w45 (g.1,(g.2++([(u,v)]:List Pt))) v38 (o40.flat).ro) ?_)
   intro w47 hb48
   replace hb48:=aY hb48 g36
   refine mv (vt [vi ((aX (g.1,(g.2++([(u,v)]:List Pt)))).1),vi ((aX (g.1,(g.2++([(u,v)]:List Pt)))).2)]) (lx (aB rfl rfl) (lx (aB rfl rfl) (ai ((aX (g.1,(g.2++([(u,v)]:List Pt)))).1) (ai ((aX (g.1,(g.2++([(u,v)]:List Pt)))).2) (ad (aa (aa ?_)))))))
   obtain⟨⟨hs1,hs2,hs3⟩,hs4⟩:=wC (u:=u) (v:=v) hm hli2 ⟨by omega,by omega⟩ ⟨by omega,by omega⟩
   refine a8 rfl (mi ((aX g).2) (lx (dj (m:=(aX g).2) (n:=0) rfl rfl) (mv (vb (!(decide (((aX g).2)=0)))) ?_)))
   have q66:((aX g).2)=0:=by assumption
   refine lv (vi ((aX (g.1,(g.2++([(u,v)]:List Pt)))).2)) (wy (congrArg Bool.not (dt q66))) (au rfl) (lv (vb (!(decide (((aX (g.1,(g.2++([(u,v)]:List Pt)))).2)=0)))) (wy (congrArg Bool.not (dt q66))) (dj (m:=(aX (g.1,(g.2++([(u,v)]:List Pt)))).2) (n:=0) rfl rfl) (lw (vb (!(decide (((aX (g.1,(g.2++([(u,v)]:List Pt)))).2)=0)))) (aW rfl (congrArg Bool.not (dt q66)) rfl) (mv (vb (!(decide (((aX (g.1,(g.2++([(u,v)]:List Pt)))).2)=0)))) ?_)))
   have q70:((aX (g.1,(g.2++([(u,v)]:List Pt)))).2)=0:=by assumption
   refine lv (vi ((aX (g.1,(g.2++([(u,v)]:List Pt)))).1)) (wy (congrArg Bool.not (dt q70))) (au rfl) (lv (vi ((aX g).1)) (wy (congrArg Bool.not (dt q70))) (au rfl) (lv (vb (decide (((aX (g.1,(g.2++([(u,v)]:List Pt)))).1)<((aX g).1)))) (wy (congrArg Bool.not (dt q70))) (bf (m:=(aX (g.1,(g.2++([(u,v)]:List Pt)))).1) (n:=(aX g).1) rfl rfl) (lw (vb (decide (((aX (g.1,(g.2++([(u,v)]:List Pt)))).1)<((aX g).1)))) (aW rfl (congrArg Bool.not (dt q70)) rfl) (ad ?_))))
   have p9:¬(((aX (g.1,(g.2++([(u,v)]:List Pt)))).1)<((aX g).1)):=by exact Int.not_lt.2 hs3
   refine aj rfl (df p9) (ar (aa (a8 rfl ?_)))
   replace bx5:=(bx5.cn hb46).cn hb48
   refine lx (aA (ds:=[vi g.1,g_v]) aF rfl bx5 rfl rfl) ?_
   replace Rg:=(Rg.cn hb46).cn hb48
   refine lo (c6 (aP (vals:=[vg [vi g.1,g_v]]) Try.func10 lm kV rfl) (iM w47 g g_v (Rg).ro) ?_)
   rintro⟨d50,v52⟩ w49 ⟨fr51,o53⟩
   obtain⟨g54,ch55,G54⟩:=jL g36 fr51 (λn=>if n=1 then 5 else 0)
   replace o53:=o53.gl G54 5
   refine mv (vt [v52,vi ((b6 g).2)]) (lx (aB rfl rfl) (lx (aB rfl rfl) (ma v52 (ai ((b6 g).2) (ad (aa ?_))))))
   clear bx5
   refine a8 rfl ?_
   replace bx43:=(bx43.cn hb48).cn ch55
   refine lx (aA (ds:=[vi g.1,v38]) aF rfl bx43 rfl rfl) ?_
   replace o40:=(o40.cn hb48).cn ch55
   refine lo (c6 (aP (vals:=[vg [vi g.1,v38]]) Try.func10 lm kV rfl) (iM w49 (g.1,(g.2++([(u,v)]:List Pt))) v38 (o40.flat).ro) ?_)
   rintro⟨d57,v59⟩ w56 ⟨fr58,o60⟩
   obtain⟨g61,ch62,G61⟩:=jL g54 fr58 (λn=>if n=1 then 6 else 0)
   replace o60:=o60.gl G61 6
   refine mv (vt [v59,vi ((b6 (g.1,(g.2++([(u,v)]:List Pt)))).2)]) (lx (aB rfl rfl) (lx (aB rfl rfl) (ma v59 (ai ((b6 (g.1,(g.2++([(u,v)]:List Pt)))).2) (ad (aa ?_))))))
   clear o40 bx43
   refine a8 rfl (mi ((b6 g).2) (lx (dj (m:=(b6 g).2) (n:=0) rfl rfl) (mv (vb (!(decide (((b6 g).2)=0)))) ?_)))
   by_cases q87:((b6 g).2)=0
   ·
    refine lv (vi ((b6 (g.1,(g.2++([(u,v)]:List Pt)))).2)) (wy (congrArg Bool.not (dt q87))) (au rfl) (lv (vb (decide (((b6 (g.1,(g.2++([(u,v)]:List Pt)))).2)=0))) (wy (congrArg Bool.not (dt q87))) (d8 (m:=(b6 (g.1,(g.2++([(u,v)]:List Pt)))).2) (n:=0) rfl rfl) (lv (vb (decide (((b6 (g.1,(g.2++([(u,v)]:List Pt)))).2)=0))) (wy (congrArg Bool.not (dt q87))) (au rfl) ?_))
    have q90:((b6 (g.1,(g.2++([(u,v)]:List Pt)))).2)=0:=by exact(hs4 ‹_›).1
    refine lv (v59) (wy (dt q90)) (au rfl) ?_
    have len63:=(o60.flat).small
    refine lv (vi (List.length ((b6 (g.1,(g.2++([(u,v)]:List Pt)))).1):Int)) (wy (dt q90)) (bO de rfl o60.flat) (lv (v52) (wy (dt q90)) (au rfl) ?_)
    replace o53:=o53.cn ch62
    have len64:=(o53.flat).small
    refine lv (vi (List.length ((b6 g).1):Int)) (wy (dt q90)) (bO de rfl o53.flat) (lv (vb (decide ((List.length ((b6 (g.1,(g.2++([(u,v)]:List Pt)))).1):Int)<=(List.length ((b6 g).1):Int)))) (wy (dt q90)) (nV (m:=(List.length ((b6 (g.1,(g.2++([(u,v)]:List Pt)))).1):Int)) (n:=(List.length ((b6 g).1):Int)) rfl rfl) (lv (vb (decide ((List.length ((b6 (g.1,(g.2++([(u,v)]:List Pt)))).1):Int)<=(List.length ((b6 g).1):Int)))) (wy (congrArg Bool.not (dt q87))) (aN rfl (dt q90) rfl) ?_))
    refine lw (vb (decide ((List.length ((b6 (g.1,(g.2++([(u,v)]:List Pt)))).1):Int)<=(List.length ((b6 g).1):Int)))) (aW rfl (congrArg Bool.not (dt q87)) rfl) (ma (vb (decide ((List.length ((b6 (g.1,(g.2++([(u,v)]:List Pt)))).1):Int)<=(List.length ((b6 g).1):Int)))) (ad (aw (vs:=[vb (decide ((List.length ((b6 (g.1,(g.2++([(u,v)]:List Pt)))).1):Int)<=(List.length ((b6 g).1):Int)))]) Try.func5 (.tmp rfl .nil) ?_)))
    have e0:(decide ((List.length ((b6 (g.1,(g.2++([(u,v)]:List Pt)))).1):Int)<=(List.length ((b6 g).1):Int)):Bool)=(true):=by
      exact dt (hs4 ‹_›).2
    have C65:=cg [2,3] (ch2.n.seq (hb7.n.seq (hb9.n.seq (hb11.n.seq (ch22.n.seq (ch24.n.seq ((ch29.l rfl).seq (ch34.n.seq ((ch39.l rfl).seq ((ch42.l rfl).seq (hb46.n.seq (hb48.n.seq (ch55.n.seq ch62.n)))))))))))))
    replace bH:=bH.ca C65
    exact⟨(congrArg (a₁:=decide ((List.length ((b6 (g.1,(g.2++([(u,v)]:List Pt)))).1):Int)<=(List.length ((b6 g).1):Int))) (λ(z0:Bool)=>Ending.returned (vb z0)) e0),bH.below⟩
   refine am (wn (congrArg Bool.not (df q87))) (am (wn (congrArg Bool.not (df q87))) (am (wn (congrArg Bool.not (df q87))) (am (bt rfl rfl rfl) (am (bt rfl rfl rfl) (am (bt rfl rfl rfl) (am (bt rfl rfl rfl) (am (bt rfl rfl rfl) (am (wn (congrArg Bool.not (df q87))) (lw (vb true) (aN rfl (congrArg Bool.not (df q87)) rfl) ?_)))))))))
   refine ma (vb true) (ad (aw (vs:=[vb true]) Try.func5 (.tmp rfl .nil) ?_))
   have e0:(true:Bool)=(true):=by
     rfl
   have C66:=cg [2,3] (ch2.n.seq (hb7.n.seq (hb9.n.seq (hb11.n.seq (ch22.n.seq (ch24.n.seq ((ch29.l rfl).seq (ch34.n.seq ((ch39.l rfl).seq ((ch42.l rfl).seq (hb46.n.seq (hb48.n.seq (ch55.n.seq ch62.n)))))))))))))
   replace bH:=bH.ca C66
   exact⟨rb e0,bH.below⟩
  refine am (wn (congrArg Bool.not (Bool.eq_false_iff.2 q24))) (am (wn (congrArg Bool.not (Bool.eq_false_iff.2 q24))) (lw (vb true) (aN rfl (congrArg Bool.not (Bool.eq_false_iff.2 q24)) rfl) (mv (vb true) (am (wn rfl) (am (wn rfl) (lw (vb true) (aN rfl rfl rfl) (mv (vb true) (am (wn rfl) (am (wn rfl) (am (wn rfl) (am (wn rfl) (lw (vb true) (aN rfl rfl rfl) (mv (vb true) ?_)))))))))))))
  refine am (wn rfl) (am (wn rfl) (am (wn rfl) (am (wn rfl) (lw (vb true) (aN rfl rfl rfl) (ad (ah rfl rfl (aa ?_)))))))
  clear bx5
  refine a8 rfl (ma (vb true) (ad (aw (vs:=[vb true]) Try.func5 (.tmp rfl .nil) ?_)))
  have e0:(true:Bool)=(true):=by
    rfl
  have C67:=cg [] (ch2.n.seq (hb7.n.seq (hb9.n.seq hb11.n)))
  replace bH:=bH.ca C67
  exact⟨rb e0,bH.below⟩
 refine am (wn (congrArg Bool.not (Bool.eq_false_iff.2 q19))) (am (wn (congrArg Bool.not (Bool.eq_false_iff.2 q19))) (am (wn (congrArg Bool.not (Bool.eq_false_iff.2 q19))) (lw (vb true) (aN rfl (congrArg Bool.not (Bool.eq_false_iff.2 q19)) rfl) (mv (vb true) (am (wn rfl) (am (wn rfl) (lw (vb true) (aN rfl rfl rfl) (mv (vb true) (am (wn rfl) (am (wn rfl) (lw (vb true) (aN rfl rfl rfl) ?_)))))))))))
 refine mv (vb true) (am (wn rfl) (am (wn rfl) (am (wn rfl) (am (wn rfl) (lw (vb true) (aN rfl rfl rfl) (mv (vb true) (am (wn rfl) (am (wn rfl) (am (wn rfl) (am (wn rfl) (lw (vb true) (aN rfl rfl rfl) (ad (ah rfl rfl (aa ?_))))))))))))))
 clear bx5
 refine a8 rfl (ma (vb true) (ad (aw (vs:=[vb true]) Try.func5 (.tmp rfl .nil) ?_)))
 have e0:(true:Bool)=(true):=by
   rfl
 have C68:=cg [] (ch2.n.seq (hb7.n.seq hb9.n))
 replace bH:=bH.ca C68
 exact⟨rb e0,bH.below⟩
end TL
