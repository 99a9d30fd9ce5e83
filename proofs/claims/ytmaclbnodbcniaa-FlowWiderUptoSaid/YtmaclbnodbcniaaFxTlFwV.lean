import Derived.Test.YtmaclbnodbcniaaFxTlP3
import Derived.Test.YtmaclbnodbcniaaFxTlFwG
import Derived.Test.YtmaclbnodbcniaaFxTlFwQ
import Derived.Test.YtmaclbnodbcniaaProg
import Derived.Test.YtmaclbnodbcniaaFxTlAli
set_option linter.all false
set_option maxRecDepth 20000
namespace TL
open Go Go.Proofs
theorem kf:Try.prog.follows .mixedOrders=true:=by kernel_rfl
theorem qG:Try.f8.body.isNone=false:=rfl
theorem qy:(Try.f8.name== "runtime.NumGoroutine")=false:=by decide+kernel
theorem qI:Try.f9.body.isNone=false:=rfl
theorem qd:(Try.f9.name== "runtime.NumGoroutine")=false:=by decide+kernel
set_option maxHeartbeats 8000000 in
theorem jS(w0:World)(t:(Int)×(List ((Int)×(Int)×(Int)×(Int)))×(List Int))(t_v t_v1:Value)(ht_v:Ro w0 t_v t.2.1)(ht_v1:Ro w0 t_v1 t.2.2)(iq:Int)(bq:Int)(hbq:0<=bq/\bq<=255):
    Calls Try.prog 7 #[vg [vi t.1,t_v,t_v1],vi iq,Value.int .u8 bq] w0 (λee w=>ee= .returned (vb true)/\dk w0.heap.size w0 w):=by
 refine ay Try.func7 rfl nq ?_
 have bH:=aT.start w0
 have Rt:=ht_v.sl
 have r_t_v1:=ht_v1.sl
 obtain⟨hbq0,hbq1⟩:=hbq
 refine a9 (a6 rfl (dh rfl (dM c0 (is 1) (1,0) rfl rfl ?_)))
 intro g4 w1 b3 ch2 bx5
 replace bx5:Bx g4 (is 1) w1 b3 [vi t.1,t_v,t_v1]:=bx5
 refine ma (vb false) (af (a9 (a9 (a6 rfl (dh rfl (bC (v:=vb true) (aS (vals:=[]) Try.func8 qG qy rfl) (mb w1) ?_))))))
 intro w6 hb7
 replace hb7:=aE hb7 g4
 refine lx (cF (b:=true) rfl) (af (am rfl rfl (av (a9 (a9 (a6 rfl ?_))))))
 replace bx5:=bx5.cn hb7
 refine lx (bG (ds:=[vi t.1,t_v,t_v1]) cw rfl bx5 rfl rfl) ?_
 replace Rt:=(Rt.cn ch2).cn hb7
 replace r_t_v1:=(r_t_v1.cn ch2).cn hb7
 refine lo (bC (v:=vb (decide (t.2.1.length<=200/\t.2.2.length<=1000/\(t.1<=60\/¬cD t)))) (aS (vals:=[vg [vi t.1,t_v,t_v1]]) Try.func9 qI qd rfl) (mo w6 t t_v t_v1 (Rt).ro (r_t_v1).ro) ?_)
 intro w8 hb9
 replace hb9:=aE hb9 g4
 refine lx (cF (b:=(decide (t.2.1.length<=200/\t.2.2.length<=1000/\(t.1<=60\/¬cD t)))) rfl) (mv (vb (!(decide (t.2.1.length<=200/\t.2.2.length<=1000/\(t.1<=60\/¬cD t))))) ?_)
 by_cases q18:(decide (t.2.1.length<=200/\t.2.2.length<=1000/\(t.1<=60\/¬cD t)))=true
 ·
  replace bx5:=bx5.cn hb9
  refine lv (vg [vi t.1,t_v,t_v1]) (wy (congrArg Bool.not q18)) (bG (ds:=[vi t.1,t_v,t_v1]) cw rfl bx5 rfl rfl) ?_
  replace Rt:=Rt.cn hb9
  replace r_t_v1:=r_t_v1.cn hb9
  refine dh (wy (congrArg Bool.not q18)) (bC (v:=vb (bQ t)) (aS (vals:=[vg [vi t.1,t_v,t_v1]]) Try.func10 lK lC rfl) (ko w8 t t_v t_v1 (Rt).ro (r_t_v1).ro) ?_)
  intro w10 hb11
  replace hb11:=aE hb11 g4
  refine lv (vb (!(bQ t))) (wy (congrArg Bool.not q18)) (cF (b:=(bQ t)) rfl) (lw (vb (!(bQ t))) (aK rfl (congrArg Bool.not q18) rfl) (mv (vb (!(bQ t))) ?_))
  by_cases q23:(bQ t)=true
  ·
   refine lv (vp b3 1) (wy (congrArg Bool.not q23)) (a7 dy rfl rfl rfl rfl) ?_
   replace bx5:=bx5.cn hb11
   refine lv (t_v) (wy (congrArg Bool.not q23)) (a8 cm rfl bx5 rfl) ?_
   replace Rt:=Rt.cn hb11
   have len12:=(Rt).small
   refine lv (vi (t.2.1.length:Int)) (wy (congrArg Bool.not q23)) (br gR rfl Rt) (lv (vb (decide ((t.2.1.length:Int)=0))) (wy (congrArg Bool.not q23)) (cM (m:=(t.2.1.length:Int)) (n:=0) rfl rfl) (lw (vb (decide ((t.2.1.length:Int)=0))) (aK rfl (congrArg Bool.not q23) rfl) (mv (vb (decide ((t.2.1.length:Int)=0))) ?_)))
   by_cases q29:(t.2.1.length:Int)=0
   ·
    refine ae (wn (dt q29)) (ae (wn (dt q29)) (lw (vb true) (aw rfl (dt q29) rfl) (af (aj rfl rfl (a9 ?_)))))
    clear bx5
    refine a6 rfl (ma (vb true) (af (aF (vs:=[vb true]) Try.func7 (.tmp rfl .nil) ?_)))
    have e0:(true:Bool)=(true):=by
      rfl
    have C13:=cg [] (ch2.n.seq (hb7.n.seq (hb9.n.seq hb11.n)))
    replace bH:=bH.ca C13
    exact⟨rb e0,bH.below⟩
   refine lv (vi iq) (wy (df q29)) (ah rfl) (lv (vb (decide (iq<0))) (wy (df q29)) (bz (m:=iq) (n:=0) rfl rfl) (lw (vb (decide (iq<0))) (aK rfl (df q29) rfl) (af ?_)))
   by_cases p3:iq<0
   ·
    refine aj rfl (dt p3) (a9 ?_)
    clear bx5
    refine a6 rfl (ma (vb true) (af (aF (vs:=[vb true]) Try.func7 (.tmp rfl .nil) ?_)))
    have e0:(true:Bool)=(true):=by
      rfl
    have C14:=cg [] (ch2.n.seq (hb7.n.seq (hb9.n.seq hb11.n)))
    replace bH:=bH.ca C14
    exact⟨rb e0,bH.below⟩
   refine am rfl (df p3) (av (a9 ?_))
   have hm:cD t:=of_decide_eq_true ‹_›
   have hli:t.2.1.length<=200/\t.2.2.length<=1000/\(t.1<=60\/¬cD t):=of_decide_eq_true ‹_›
   have hN60:t.1<=60:=hli.2.2.resolve_right (λh=>h hm)
   have hl200:t.2.1.length<=200:=hli.1
   have hm0:=hm
   obtain⟨⟨hm1,hm2⟩,hm3,hm4,hm5,hm6⟩:=hm0
   refine a6 rfl (mi iq (lx (a7 dy rfl rfl rfl rfl) (lx (a8 cm rfl bx5 rfl) (lx (br gR rfl Rt) (lx (qY (m:=iq) (n:=(t.2.1.length:Int)) rfl rfl (by omega) (by omega)) (ai (iq%(t.2.1.length:Int)) (af (a9 ?_))))))))
   have hat0:0<=iq%(t.2.1.length:Int):=Int.emod_nonneg _ (by omega)
   have hat1:iq%(t.2.1.length:Int)<(t.2.1.length:Int):=Int.emod_lt_of_pos _ (by omega)
   obtain⟨_,_,⟨hc1,hc2⟩,_⟩:=hm5 _ (bk (xs:=t.2.1) (i:=iq%(t.2.1.length:Int)) hat0 hat1)
   refine gp (σ:=Nat×Value×aC) (λ⟨b25,v19,gq⟩ f w=>aT w0 gq w/\f 2=Value.int .u8 bq/\f 3=vp b3 0/\f 7=vi (iq%(t.2.1.length:Int))/\f 8=vp b25 0/\Sl gq (is 0) w t_v t.2.1/\Sl gq (is 0) w t_v1 t.2.2/\Bx gq (is 1) w b3 [vi t.1,t_v,t_v1]/\Ow gq (is 2) (is 2) w v19 t.2.1/\Bx gq (is 3) w b25 [vi t.1,v19,t_v1]) g4 (inl [2,3]) kf ?_ ?_
   ·
    intro mid
    intro w16 ch15
    refine ht 0 rfl (bR.refl _ _ _) (λw' hw'=>a7 dy rfl rfl rfl rfl) ?_
    replace bx5:=bx5.cn ch15
    refine ht 1 rfl (bR.refl _ _ _) (λw' hw'=>a8 ag rfl (bx5.chg hw' (dq rfl)) rfl) (ht 2 rfl (bR.refl _ _ _) (λw' hw'=>a7 dy rfl rfl rfl rfl) (ht 3 rfl (bR.refl _ _ _) (λw' hw'=>a8 ao rfl (bx5.chg hw' (dq rfl)) rfl) (ht 4 rfl (bR.refl _ _ _) (λw' hw'=>a7 dy rfl rfl rfl rfl) (ht 5 rfl (bR.refl _ _ _) (λw' hw'=>a8 cm rfl (bx5.chg hw' (dq rfl)) rfl) ?_))))
    refine gf 6 [8] (by kernel_rfl) ⟨gE 6 rfl (by kernel_rfl) rfl ?_,gE 8 rfl (by kernel_rfl) rfl ?_,trivial⟩
    ·
     replace Rt:=Rt.cn ch15
     refine aD (α:=(Int)×(Int)×(Int)×(Int)) (xs:=([])) (ys:=t.2.1) g4 (J:=is 2) (S:=is 2) (2,0) rfl gR c9 (by decide) rfl rfl rfl Ow.nil Rt (by decide) (by(simp;omega)) ?_
     intro g17 w18 v19 ch20 o21
     replace o21:Ow g17 (is 2) (is 2) w18 v19 (t.2.1:List ((Int)×(Int)×(Int)×(Int))):=o21
     have hs22:bR (inl [2,3]) _ _ _ _:=ch20.l rfl
     refine⟨hs22.same,?_⟩
     replace r_t_v1:=(r_t_v1.cn hb11).cn ch15
     refine ht (v:=vg [vi t.1,v19,t_v1]) 7 rfl hs22.same (λw' hw'=>bm (vs:=[(0,vi t.1),(2,t_v1),(1,v19)]) rfl (by rw[Sl.form r_t_v1,Sl.form o21.flat];kernel_rfl)) (d4 8 rfl (by kernel_rfl) rfl (bW g17 (is 3) (3,0) rfl cw ?_))
     intro g26 w23 b25 ch24 bx27
     replace bx27:Bx g26 (is 3) w23 b25 [vi 0,vn,vn]:=bx27
     have hs28:=hs22.seq (ch24.n)
     refine⟨hs28.same,?_⟩
     refine d4 9 rfl (by kernel_rfl) rfl ?_
     replace o21:=o21.cn ch24
     refine aR (cs':=[vi t.1,v19,t_v1]) cw rfl rfl bx27 rfl nq (AllOne.all (.cons rfl (.cons (bi o21.flat) (.cons (bi (r_t_v1.ca hs28)) .nil)))) rfl ?_
     intro w29 ch30 bx31
     clear bx27
     have hs32:=hs28.seq (ch30.l rfl)
     refine⟨hs32.same,?_⟩
     refine fJ (by kernel_rfl) ?_
     have C33:=cg [2,3] (ch2.n.seq (hb7.n.seq (hb9.n.seq (hb11.n.seq (ch15.n.seq ((ch20.l rfl).seq (ch24.n.seq (ch30.l rfl))))))))
     exact mid (b25,v19,g26) _ _ ⟨bH.ca C33,rfl,rfl,rfl,rfl,(Rt.ca hs32),(r_t_v1.ca hs32),(bx5.ca hs32),o21.ce ch30,bx31⟩
    ·
     refine bW g4 (is 3) (3,0) rfl cw ?_
     intro g37 w34 b36 ch35 bx38
     replace bx38:Bx g37 (is 3) w34 b36 [vi 0,vn,vn]:=bx38
     have hs39:bR (inl [2,3]) _ _ _ _:=ch35.n
     refine⟨hs39.same,?_⟩
     refine d4 6 rfl (by kernel_rfl) rfl ?_
     replace Rt:=Rt.cn ch15
     refine aD (α:=(Int)×(Int)×(Int)×(Int)) (xs:=([])) (ys:=t.2.1) g37 (J:=is 2) (S:=is 2) (2,0) rfl gR c9 (by decide) rfl rfl rfl Ow.nil (Rt.ca hs39) (by decide) (by(simp;omega)) ?_
     intro g40 w41 v42 ch43 o44
     replace o44:Ow g40 (is 2) (is 2) w41 v42 (t.2.1:List ((Int)×(Int)×(Int)×(Int))):=o44
     have hs45:=hs39.seq (ch43.l rfl)
     refine⟨hs45.same,?_⟩
     replace r_t_v1:=(r_t_v1.cn hb11).cn ch15
     refine ht (v:=vg [vi t.1,v42,t_v1]) 7 rfl hs45.same (λw' hw'=>bm (vs:=[(0,vi t.1),(2,t_v1),(1,v42)]) rfl (by rw[Sl.form r_t_v1,Sl.form o44.flat];kernel_rfl)) (d4 9 rfl (by kernel_rfl) rfl ?_)
     replace bx38:=bx38.ce ch43
     refine aR (cs':=[vi t.1,v42,t_v1]) cw rfl rfl bx38 rfl nq (AllOne.all (.cons rfl (.cons (bi o44.flat) (.cons (bi (r_t_v1.ca hs45)) .nil)))) rfl ?_
     intro w46 ch47 bx48
     clear bx38
     have hs49:=hs45.seq (ch47.l rfl)
     refine⟨hs49.same,?_⟩
     refine fJ (by kernel_rfl) ?_
     have C50:=cg [2,3] (ch2.n.seq (hb7.n.seq (hb9.n.seq (hb11.n.seq (ch15.n.seq (ch35.n.seq ((ch43.l rfl).seq (ch47.l rfl))))))))
     exact mid (b36,v42,g40) _ _ ⟨bH.ca C50,rfl,rfl,rfl,rfl,(Rt.ca hs49),(r_t_v1.ca hs49),(bx5.ca hs49),o44.ce ch47,bx48⟩
   clear Rt r_t_v1 bx5 bH
   rintro⟨b25,v19,g53⟩ f51 w52 ⟨bH,zs2,zs3,zs7,zs8,Rt,r_t_v1,bx5,o21,bx31⟩
   refine a9 (aO g53 [0,1,2,3,4,5,6,7,8,9,10,11,12,13,14] kf ?_)
   intro w55 ch54
   refine xp 0 rfl (λw=>a7 dy rfl rfl zs8 rfl) ?_
   replace bx31:=bx31.cn ch54
   refine xv 1 [0,2,3,5,9,4,10,6,7,8,11,12] rfl (a8 cm rfl bx31 rfl) (xp (v:=vi (iq%(t.2.1.length:Int))) 2 rfl (λw=>ah zs7) (xp 3 rfl (λw=>a7 dy rfl rfl zs8 rfl) (xv 4 [3,2,1,0,5,9,10] rfl (a8 cm rfl bx31 rfl) (xp (v:=vi (iq%(t.2.1.length:Int))) 5 rfl (λw=>ah zs7) ?_))))
   replace o21:=o21.cn ch54
   refine xv 6 [5,4,3,2,1,0,9,10] rfl (aa (v:=v19) (i:=iq%(t.2.1.length:Int)) gR rfl rfl o21.flat rfl (by omega) (by omega)) (xp (v:=Value.pointer (some ⟨(aN v19 4 (Int.toNat (iq%(t.2.1.length:Int)))).block,(aN v19 4 (Int.toNat (iq%(t.2.1.length:Int)))).off+2,none⟩)) 7 rfl (λw=>aH fp rfl rfl rfl rfl) (xv 8 [7,6,5,4,3,2,1,0,9,10] rfl (ba (v:=v19) (i:=iq%(t.2.1.length:Int)) ag rfl o21.flat (by omega) (by omega) (by decide) rfl) (xp (v:=Value.int .u8 bq) 9 rfl (λw=>ah zs2) (xp (v:=vi bq) 10 rfl (λw=>q8 (m:=bq) U5 U3 rfl (ec (by omega))) (xp 11 rfl (λw=>aV (m:=(((gI t.2.1 (iq%(t.2.1.length:Int))).2).2).1) (n:=bq) rfl rfl (by omega)) ?_)))))
   refine xp (v:=vi (min (((((gI t.2.1 (iq%(t.2.1.length:Int))).2).2).1)+bq) 1048576)) 12 rfl (λw=>kB rfl rfl) (xv 13 [12,11,10,9,8,7,6,5,4,3,2,1,0] rfl (aa (v:=v19) (i:=iq%(t.2.1.length:Int)) gR rfl rfl o21.flat rfl (by omega) (by omega)) (xp (v:=Value.pointer (some ⟨(aN v19 4 (Int.toNat (iq%(t.2.1.length:Int)))).block,(aN v19 4 (Int.toNat (iq%(t.2.1.length:Int)))).off+2,none⟩)) 14 rfl (λw=>aH fp rfl rfl rfl rfl) (aB 15 rfl (by kernel_rfl) rfl ?_)))
   refine dw (i:=iq%(t.2.1.length:Int)) (q:=2) ((gI t.2.1 (iq%(t.2.1.length:Int))).1,((gI t.2.1 (iq%(t.2.1.length:Int))).2).1,min (((((gI t.2.1 (iq%(t.2.1.length:Int))).2).2).1)+bq) 1048576,(((gI t.2.1 (iq%(t.2.1.length:Int))).2).2).2) ag rfl rfl o21 (by omega) (by omega) (by decide) rfl rfl rfl ?_
   intro w56 ch57 bx58
   clear o21
   refine aY (by kernel_rfl) (a9 (a6 rfl ?_))
   replace bx5:=(bx5.cn ch54).ce ch57
   refine lx (bG (ds:=[vi t.1,t_v,t_v1]) cw zs3 bx5 rfl rfl) ?_
   replace Rt:=(Rt.cn ch54).ce ch57
   replace r_t_v1:=(r_t_v1.cn ch54).ce ch57
   refine lo (bx (aS (vals:=[vg [vi t.1,t_v,t_v1]]) Try.func12 jt jq rfl) (jk w56 t t_v t_v1 (Rt).ro (r_t_v1).ro (by exact .inl hN60)) ?_)
   rintro⟨d60,v62,v64⟩ w59 ⟨fr61,o63,o65⟩
   obtain⟨g66,ch67,G66⟩:=pC g53 fr61 (λn=>if n=1 then 4 else if n=2 then 5 else 0)
   replace o63:=o63.gl G66 4
   replace o65:=o65.gl G66 5
   refine mv (vt [vg [v62,v64,vi ((((aQ t).1).2).2)],vi ((aQ t).2)]) (lx (d6 rfl rfl) (lx (d6 rfl rfl) (lo (bW g66 (is 6) (6,0) rfl bE ?_))))
   intro g71 w68 b70 ch69 bx72
   replace bx72:Bx g71 (is 6) w68 b70 [vn,vn,vi 0]:=bx72
   refine lo ?_
   replace o65:=o65.cn ch69
   replace o63:=o63.cn ch69
   refine aR (cs':=[v62,v64,vi ((((aQ t).1).2).2)]) bE rfl rfl bx72 rfl nq (AllOne.all (.cons (bi o63.flat) (.cons (bi o65.flat) (.cons rfl .nil)))) rfl ?_
   intro w73 ch74 bx75
   clear bx72
   refine ai ((aQ t).2) (af (a9 ?_))
   clear bx5
   obtain⟨hwd1,hwd2⟩:=mW (T:=t) (t9:=iq%(t.2.1.length:Int)) (q:=min ((gI t.2.1 (iq%(t.2.1.length:Int))).2.2.1+bq) 1048576) hm hat0 hat1 (by omega) (by omega) rfl
   refine a6 rfl ?_
   have C76:=cg [2,6] ((ch57.l rfl).seq (ch67.n.seq (ch69.n.seq (ch74.l rfl))))
   replace bx31:=bx31.ca C76
   refine lx (bG (ds:=[vi t.1,v19,t_v1]) cw zs8 bx31 rfl rfl) ?_
   have C77:=cg [6] (ch67.n.seq (ch69.n.seq (ch74.l rfl)))
   replace bx58:=bx58.ca C77
   replace r_t_v1:=r_t_v1.ca C77
   refine lo (bx (aS (vals:=[vg [vi t.1,v19,t_v1]]) Try.func12 jt jq rfl) (jk w73 (t.1,(List.set t.2.1 (Int.toNat (iq%(t.2.1.length:Int))) ((gI t.2.1 (iq%(t.2.1.length:Int))).1,((gI t.2.1 (iq%(t.2.1.length:Int))).2).1,min (((((gI t.2.1 (iq%(t.2.1.length:Int))).2).2).1)+bq) 1048576,(((gI t.2.1 (iq%(t.2.1.length:Int))).2).2).2)),t.2.2) v19 t_v1 (bx58.flat).ro (r_t_v1).ro (by exact .inl hN60)) ?_)
   rintro⟨d79,v81,v83⟩ w78 ⟨fr80,o82,o84⟩
   obtain⟨g85,ch86,G85⟩:=pC g71 fr80 (λn=>if n=1 then 7 else if n=2 then 8 else 0)
   replace o82:=o82.gl G85 7
   replace o84:=o84.gl G85 8
   refine mv (vt [vg [v81,v83,vi ((((aQ (t.1,(List.set t.2.1 (Int.toNat (iq%(t.2.1.length:Int))) ((gI t.2.1 (iq%(t.2.1.length:Int))).1,((gI t.2.1 (iq%(t.2.1.length:Int))).2).1,min (((((gI t.2.1 (iq%(t.2.1.length:Int))).2).2).1)+bq) 1048576,(((gI t.2.1 (iq%(t.2.1.length:Int))).2).2).2)),t.2.2)).1).2).2)],vi ((aQ (t.1,(List.set t.2.1 (Int.toNat (iq%(t.2.1.length:Int))) ((gI t.2.1 (iq%(t.2.1.length:Int))).1,((gI t.2.1 (iq%(t.2.1.length:Int))).2).1,min (((((gI t.2.1 (iq%(t.2.1.length:Int))).2).2).1)+bq) 1048576,(((gI t.2.1 (iq%(t.2.1.length:Int))).2).2).2)),t.2.2)).2)]) (lx (d6 rfl rfl) (lx (d6 rfl rfl) (lo (bW g85 (is 9) (9,0) rfl bE ?_))))
   intro g90 w87 b89 ch88 bx91
   replace bx91:Bx g90 (is 9) w87 b89 [vn,vn,vi 0]:=bx91
   refine lo ?_
   replace o84:=o84.cn ch88
   replace o82:=o82.cn ch88
   refine aR (cs':=[v81,v83,vi ((((aQ (t.1,(List.set t.2.1 (Int.toNat (iq%(t.2.1.length:Int))) ((gI t.2.1 (iq%(t.2.1.length:Int))).1,((gI t.2.1 (iq%(t.2.1.length:Int))).2).1,min (((((gI t.2.1 (iq%(t.2.1.length:Int))).2).2).1)+bq) 1048576,(((gI t.2.1 (iq%(t.2.1.length:Int))).2).2).2)),t.2.2)).1).2).2)]) bE rfl rfl bx91 rfl nq (AllOne.all (.cons (bi o82.flat) (.cons (bi o84.flat) (.cons rfl .nil)))) rfl ?_
   intro w92 ch93 bx94
   clear bx91
   refine ai ((aQ (t.1,(List.set t.2.1 (Int.toNat (iq%(t.2.1.length:Int))) ((gI t.2.1 (iq%(t.2.1.length:Int))).1,((gI t.2.1 (iq%(t.2.1.length:Int))).2).1,min (((((gI t.2.1 (iq%(t.2.1.length:Int))).2).2).1)+bq) 1048576,(((gI t.2.1 (iq%(t.2.1.length:Int))).2).2).2)),t.2.2)).2) (af (a9 ?_))
   clear bx31 bx58
   refine a6 rfl (mi ((aQ t).2) (lx (eI (m:=(aQ t).2) (n:=0) rfl rfl) (mv (vb (!(decide (((aQ t).2)=0)))) ?_)))
   by_cases q73:((aQ t).2)=0
   ·
    refine ae (wn (congrArg Bool.not (dt q73))) (ae (wn (congrArg Bool.not (dt q73))) (ae (wn (congrArg Bool.not (dt q73))) (ae (bB rfl rfl rfl) (ae (bB rfl rfl rfl) (ae (bB rfl rfl rfl) (ae (wn (congrArg Bool.not (dt q73))) (lw (vb false) (aK rfl (congrArg Bool.not (dt q73)) rfl) (mv (vb false) (lv (vi ((aQ t).2)) (wy rfl) (ah rfl) ?_)))))))))
    refine lv (vb (decide (((aQ t).2)=0))) (wy rfl) (cM (m:=(aQ t).2) (n:=0) rfl rfl) (lv (vb (decide (((aQ t).2)=0))) (wy rfl) (ah rfl) (lv (vi ((aQ (t.1,(List.set t.2.1 (Int.toNat (iq%(t.2.1.length:Int))) ((gI t.2.1 (iq%(t.2.1.length:Int))).1,((gI t.2.1 (iq%(t.2.1.length:Int))).2).1,min (((((gI t.2.1 (iq%(t.2.1.length:Int))).2).2).1)+bq) 1048576,(((gI t.2.1 (iq%(t.2.1.length:Int))).2).2).2)),t.2.2)).2)) (wy (dt q73)) (ah rfl) ?_))
    refine lv (vb (decide (((aQ (t.1,(List.set t.2.1 (Int.toNat (iq%(t.2.1.length:Int))) ((gI t.2.1 (iq%(t.2.1.length:Int))).1,((gI t.2.1 (iq%(t.2.1.length:Int))).2).1,min (((((gI t.2.1 (iq%(t.2.1.length:Int))).2).2).1)+bq) 1048576,(((gI t.2.1 (iq%(t.2.1.length:Int))).2).2).2)),t.2.2)).2)=0))) (wy (dt q73)) (cM (m:=(aQ (t.1,(List.set t.2.1 (Int.toNat (iq%(t.2.1.length:Int))) ((gI t.2.1 (iq%(t.2.1.length:Int))).1,((gI t.2.1 (iq%(t.2.1.length:Int))).2).1,min (((((gI t.2.1 (iq%(t.2.1.length:Int))).2).2).1)+bq) 1048576,(((gI t.2.1 (iq%(t.2.1.length:Int))).2).2).2)),t.2.2)).2) (n:=0) rfl rfl) ?_
    refine lv (vb (decide (((aQ (t.1,(List.set t.2.1 (Int.toNat (iq%(t.2.1.length:Int))) ((gI t.2.1 (iq%(t.2.1.length:Int))).1,((gI t.2.1 (iq%(t.2.1.length:Int))).2).1,min (((((gI t.2.1 (iq%(t.2.1.length:Int))).2).2).1)+bq) 1048576,(((gI t.2.1 (iq%(t.2.1.length:Int))).2).2).2)),t.2.2)).2)=0))) (wy rfl) (aw rfl (dt q73) rfl) (lv (vb (decide (((aQ (t.1,(List.set t.2.1 (Int.toNat (iq%(t.2.1.length:Int))) ((gI t.2.1 (iq%(t.2.1.length:Int))).1,((gI t.2.1 (iq%(t.2.1.length:Int))).2).1,min (((((gI t.2.1 (iq%(t.2.1.length:Int))).2).2).1)+bq) 1048576,(((gI t.2.1 (iq%(t.2.1.length:Int))).2).2).2)),t.2.2)).2)=0))) (wy rfl) (ah rfl) ?_)
    have q89:((aQ (t.1,(List.set t.2.1 (Int.toNat (iq%(t.2.1.length:Int))) ((gI t.2.1 (iq%(t.2.1.length:Int))).1,((gI t.2.1 (iq%(t.2.1.length:Int))).2).1,min (((((gI t.2.1 (iq%(t.2.1.length:Int))).2).2).1)+bq) 1048576,(((gI t.2.1 (iq%(t.2.1.length:Int))).2).2).2)),t.2.2)).2)=0:=by exact(hwd1 ‹_›).1
    refine lv (vp b89 2) (wy (dt q89)) (a7 kN rfl rfl rfl rfl) (lv (vi ((((aQ (t.1,(List.set t.2.1 (Int.toNat (iq%(t.2.1.length:Int))) ((gI t.2.1 (iq%(t.2.1.length:Int))).1,((gI t.2.1 (iq%(t.2.1.length:Int))).2).1,min (((((gI t.2.1 (iq%(t.2.1.length:Int))).2).2).1)+bq) 1048576,(((gI t.2.1 (iq%(t.2.1.length:Int))).2).2).2)),t.2.2)).1).2).2)) (wy (dt q89)) (a8 iz rfl bx94 rfl) (lv (vp b70 2) (wy (dt q89)) (a7 kN rfl rfl rfl rfl) ?_))
    have C95:=cg [9] (ch86.n.seq (ch88.n.seq (ch93.l rfl)))
    replace bx75:=bx75.ca C95
    refine lv (vi ((((aQ t).1).2).2)) (wy (dt q89)) (a8 iz rfl bx75 rfl) ?_
    refine lv (vb (decide (((((aQ (t.1,(List.set t.2.1 (Int.toNat (iq%(t.2.1.length:Int))) ((gI t.2.1 (iq%(t.2.1.length:Int))).1,((gI t.2.1 (iq%(t.2.1.length:Int))).2).1,min (((((gI t.2.1 (iq%(t.2.1.length:Int))).2).2).1)+bq) 1048576,(((gI t.2.1 (iq%(t.2.1.length:Int))).2).2).2)),t.2.2)).1).2).2)<=((((aQ t).1).2).2)))) (wy (dt q89)) (j5 (m:=(((aQ (t.1,(List.set t.2.1 (Int.toNat (iq%(t.2.1.length:Int))) ((gI t.2.1 (iq%(t.2.1.length:Int))).1,((gI t.2.1 (iq%(t.2.1.length:Int))).2).1,min (((((gI t.2.1 (iq%(t.2.1.length:Int))).2).2).1)+bq) 1048576,(((gI t.2.1 (iq%(t.2.1.length:Int))).2).2).2)),t.2.2)).1).2).2) (n:=(((aQ t).1).2).2) rfl rfl) ?_
    refine lv (vb (decide (((((aQ (t.1,(List.set t.2.1 (Int.toNat (iq%(t.2.1.length:Int))) ((gI t.2.1 (iq%(t.2.1.length:Int))).1,((gI t.2.1 (iq%(t.2.1.length:Int))).2).1,min (((((gI t.2.1 (iq%(t.2.1.length:Int))).2).2).1)+bq) 1048576,(((gI t.2.1 (iq%(t.2.1.length:Int))).2).2).2)),t.2.2)).1).2).2)<=((((aQ t).1).2).2)))) (wy rfl) (aw rfl (dt q89) rfl) (lw (vb (decide (((((aQ (t.1,(List.set t.2.1 (Int.toNat (iq%(t.2.1.length:Int))) ((gI t.2.1 (iq%(t.2.1.length:Int))).1,((gI t.2.1 (iq%(t.2.1.length:Int))).2).1,min (((((gI t.2.1 (iq%(t.2.1.length:Int))).2).2).1)+bq) 1048576,(((gI t.2.1 (iq%(t.2.1.length:Int))).2).2).2)),t.2.2)).1).2).2)<=((((aQ t).1).2).2)))) (aK rfl rfl rfl) ?_)
    refine ma (vb (decide (((((aQ (t.1,(List.set t.2.1 (Int.toNat (iq%(t.2.1.length:Int))) ((gI t.2.1 (iq%(t.2.1.length:Int))).1,((gI t.2.1 (iq%(t.2.1.length:Int))).2).1,min (((((gI t.2.1 (iq%(t.2.1.length:Int))).2).2).1)+bq) 1048576,(((gI t.2.1 (iq%(t.2.1.length:Int))).2).2).2)),t.2.2)).1).2).2)<=((((aQ t).1).2).2)))) (af (aF (vs:=[vb (decide (((((aQ (t.1,(List.set t.2.1 (Int.toNat (iq%(t.2.1.length:Int))) ((gI t.2.1 (iq%(t.2.1.length:Int))).1,((gI t.2.1 (iq%(t.2.1.length:Int))).2).1,min (((((gI t.2.1 (iq%(t.2.1.length:Int))).2).2).1)+bq) 1048576,(((gI t.2.1 (iq%(t.2.1.length:Int))).2).2).2)),t.2.2)).1).2).2)<=((((aQ t).1).2).2)))]) Try.func7 (.tmp rfl .nil) ?_))
    have e0:(decide (((((aQ (t.1,(List.set t.2.1 (Int.toNat (iq%(t.2.1.length:Int))) ((gI t.2.1 (iq%(t.2.1.length:Int))).1,((gI t.2.1 (iq%(t.2.1.length:Int))).2).1,min (((((gI t.2.1 (iq%(t.2.1.length:Int))).2).2).1)+bq) 1048576,(((gI t.2.1 (iq%(t.2.1.length:Int))).2).2).2)),t.2.2)).1).2).2)<=((((aQ t).1).2).2)):Bool)=(true):=by
      exact dt (hwd1 ‹_›).2
    have C96:=cg [2,6,9] (ch54.n.seq ((ch57.l rfl).seq (ch67.n.seq (ch69.n.seq ((ch74.l rfl).seq (ch86.n.seq (ch88.n.seq (ch93.l rfl))))))))
    replace bH:=bH.ca C96
    exact⟨(congrArg (a₁:=decide (((((aQ (t.1,(List.set t.2.1 (Int.toNat (iq%(t.2.1.length:Int))) ((gI t.2.1 (iq%(t.2.1.length:Int))).1,((gI t.2.1 (iq%(t.2.1.length:Int))).2).1,min (((((gI t.2.1 (iq%(t.2.1.length:Int))).2).2).1)+bq) 1048576,(((gI t.2.1 (iq%(t.2.1.length:Int))).2).2).2)),t.2.2)).1).2).2)<=((((aQ t).1).2).2))) (λ(z0:Bool)=>Ending.returned (vb z0)) e0),bH.below⟩
   refine lv (vi ((aQ (t.1,(List.set t.2.1 (Int.toNat (iq%(t.2.1.length:Int))) ((gI t.2.1 (iq%(t.2.1.length:Int))).1,((gI t.2.1 (iq%(t.2.1.length:Int))).2).1,min (((((gI t.2.1 (iq%(t.2.1.length:Int))).2).2).1)+bq) 1048576,(((gI t.2.1 (iq%(t.2.1.length:Int))).2).2).2)),t.2.2)).2)) (wy (congrArg Bool.not (df q73))) (ah rfl) ?_
   refine lv (vb (decide (((aQ (t.1,(List.set t.2.1 (Int.toNat (iq%(t.2.1.length:Int))) ((gI t.2.1 (iq%(t.2.1.length:Int))).1,((gI t.2.1 (iq%(t.2.1.length:Int))).2).1,min (((((gI t.2.1 (iq%(t.2.1.length:Int))).2).2).1)+bq) 1048576,(((gI t.2.1 (iq%(t.2.1.length:Int))).2).2).2)),t.2.2)).2)=0))) (wy (congrArg Bool.not (df q73))) (cM (m:=(aQ (t.1,(List.set t.2.1 (Int.toNat (iq%(t.2.1.length:Int))) ((gI t.2.1 (iq%(t.2.1.length:Int))).1,((gI t.2.1 (iq%(t.2.1.length:Int))).2).1,min (((((gI t.2.1 (iq%(t.2.1.length:Int))).2).2).1)+bq) 1048576,(((gI t.2.1 (iq%(t.2.1.length:Int))).2).2).2)),t.2.2)).2) (n:=0) rfl rfl) ?_
   refine lv (vb (decide (((aQ (t.1,(List.set t.2.1 (Int.toNat (iq%(t.2.1.length:Int))) ((gI t.2.1 (iq%(t.2.1.length:Int))).1,((gI t.2.1 (iq%(t.2.1.length:Int))).2).1,min (((((gI t.2.1 (iq%(t.2.1.length:Int))).2).2).1)+bq) 1048576,(((gI t.2.1 (iq%(t.2.1.length:Int))).2).2).2)),t.2.2)).2)=0))) (wy (congrArg Bool.not (df q73))) (ah rfl) ?_
   by_cases q76:((aQ (t.1,(List.set t.2.1 (Int.toNat (iq%(t.2.1.length:Int))) ((gI t.2.1 (iq%(t.2.1.length:Int))).1,((gI t.2.1 (iq%(t.2.1.length:Int))).2).1,min (((((gI t.2.1 (iq%(t.2.1.length:Int))).2).2).1)+bq) 1048576,(((gI t.2.1 (iq%(t.2.1.length:Int))).2).2).2)),t.2.2)).2)=0
   ·
    refine ae (wn (dt q76)) (ae (wn (dt q76)) (ae (wn (dt q76)) (lv (vb true) (wy (congrArg Bool.not (df q73))) (aw rfl (dt q76) rfl) (lw (vb true) (aw rfl (congrArg Bool.not (df q73)) rfl) (mv (vb true) (ae (wn rfl) (ae (wn rfl) (ae (wn rfl) (ae (bB rfl rfl rfl) (ae (bB rfl rfl rfl) (ae (wn rfl) (ae (wn rfl) ?_))))))))))))
    refine ae (bB rfl rfl rfl) (ae (bB rfl rfl rfl) (ae (bB rfl rfl rfl) (ae (bB rfl rfl rfl) (ae (bB rfl rfl rfl) (ae (wn rfl) (lw (vb true) (aw rfl rfl rfl) (ma (vb true) (af (aF (vs:=[vb true]) Try.func7 (.tmp rfl .nil) ?_)))))))))
    have e0:(true:Bool)=(true):=by
      rfl
    have C97:=cg [2,6,9] (ch54.n.seq ((ch57.l rfl).seq (ch67.n.seq (ch69.n.seq ((ch74.l rfl).seq (ch86.n.seq (ch88.n.seq (ch93.l rfl))))))))
    replace bH:=bH.ca C97
    exact⟨rb e0,bH.below⟩
   refine lv (vi ((aQ (t.1,(List.set t.2.1 (Int.toNat (iq%(t.2.1.length:Int))) ((gI t.2.1 (iq%(t.2.1.length:Int))).1,((gI t.2.1 (iq%(t.2.1.length:Int))).2).1,min (((((gI t.2.1 (iq%(t.2.1.length:Int))).2).2).1)+bq) 1048576,(((gI t.2.1 (iq%(t.2.1.length:Int))).2).2).2)),t.2.2)).2)) (wy (df q76)) (ah rfl) (lv (vi ((aQ t).2)) (wy (df q76)) (ah rfl) ?_)
   refine lv (vb (decide (((aQ (t.1,(List.set t.2.1 (Int.toNat (iq%(t.2.1.length:Int))) ((gI t.2.1 (iq%(t.2.1.length:Int))).1,((gI t.2.1 (iq%(t.2.1.length:Int))).2).1,min (((((gI t.2.1 (iq%(t.2.1.length:Int))).2).2).1)+bq) 1048576,(((gI t.2.1 (iq%(t.2.1.length:Int))).2).2).2)),t.2.2)).2)=((aQ t).2)))) (wy (df q76)) (cM (m:=(aQ (t.1,(List.set t.2.1 (Int.toNat (iq%(t.2.1.length:Int))) ((gI t.2.1 (iq%(t.2.1.length:Int))).1,((gI t.2.1 (iq%(t.2.1.length:Int))).2).1,min (((((gI t.2.1 (iq%(t.2.1.length:Int))).2).2).1)+bq) 1048576,(((gI t.2.1 (iq%(t.2.1.length:Int))).2).2).2)),t.2.2)).2) (n:=(aQ t).2) rfl rfl) ?_
   refine lv (vb (decide (((aQ (t.1,(List.set t.2.1 (Int.toNat (iq%(t.2.1.length:Int))) ((gI t.2.1 (iq%(t.2.1.length:Int))).1,((gI t.2.1 (iq%(t.2.1.length:Int))).2).1,min (((((gI t.2.1 (iq%(t.2.1.length:Int))).2).2).1)+bq) 1048576,(((gI t.2.1 (iq%(t.2.1.length:Int))).2).2).2)),t.2.2)).2)=((aQ t).2)))) (wy (congrArg Bool.not (df q73))) (aK rfl (df q76) rfl) (lw (vb (decide (((aQ (t.1,(List.set t.2.1 (Int.toNat (iq%(t.2.1.length:Int))) ((gI t.2.1 (iq%(t.2.1.length:Int))).1,((gI t.2.1 (iq%(t.2.1.length:Int))).2).1,min (((((gI t.2.1 (iq%(t.2.1.length:Int))).2).2).1)+bq) 1048576,(((gI t.2.1 (iq%(t.2.1.length:Int))).2).2).2)),t.2.2)).2)=((aQ t).2)))) (aw rfl (congrArg Bool.not (df q73)) rfl) ?_)
   refine mv (vb (decide (((aQ (t.1,(List.set t.2.1 (Int.toNat (iq%(t.2.1.length:Int))) ((gI t.2.1 (iq%(t.2.1.length:Int))).1,((gI t.2.1 (iq%(t.2.1.length:Int))).2).1,min (((((gI t.2.1 (iq%(t.2.1.length:Int))).2).2).1)+bq) 1048576,(((gI t.2.1 (iq%(t.2.1.length:Int))).2).2).2)),t.2.2)).2)=((aQ t).2)))) ?_
   have q82:((aQ (t.1,(List.set t.2.1 (Int.toNat (iq%(t.2.1.length:Int))) ((gI t.2.1 (iq%(t.2.1.length:Int))).1,((gI t.2.1 (iq%(t.2.1.length:Int))).2).1,min (((((gI t.2.1 (iq%(t.2.1.length:Int))).2).2).1)+bq) 1048576,(((gI t.2.1 (iq%(t.2.1.length:Int))).2).2).2)),t.2.2)).2)=((aQ t).2):=by exact(hwd2 ‹_›).resolve_left ‹_›
   refine ae (wn (dt q82)) (ae (wn (dt q82)) (ae (wn (dt q82)) (ae (bB rfl rfl rfl) (ae (bB rfl rfl rfl) (ae (wn (dt q82)) (ae (wn (dt q82)) (ae (bB rfl rfl rfl) (ae (bB rfl rfl rfl) (ae (bB rfl rfl rfl) ?_)))))))))
   refine ae (bB rfl rfl rfl) (ae (bB rfl rfl rfl) (ae (wn (dt q82)) (lw (vb true) (aw rfl (dt q82) rfl) (ma (vb true) (af (aF (vs:=[vb true]) Try.func7 (.tmp rfl .nil) ?_))))))
   have e0:(true:Bool)=(true):=by
     rfl
   have C98:=cg [2,6,9] (ch54.n.seq ((ch57.l rfl).seq (ch67.n.seq (ch69.n.seq ((ch74.l rfl).seq (ch86.n.seq (ch88.n.seq (ch93.l rfl))))))))
   replace bH:=bH.ca C98
   exact⟨rb e0,bH.below⟩
  refine ae (wn (congrArg Bool.not (Bool.eq_false_iff.2 q23))) (ae (wn (congrArg Bool.not (Bool.eq_false_iff.2 q23))) (ae (wn (congrArg Bool.not (Bool.eq_false_iff.2 q23))) (ae (wn (congrArg Bool.not (Bool.eq_false_iff.2 q23))) (lw (vb true) (aw rfl (congrArg Bool.not (Bool.eq_false_iff.2 q23)) rfl) (mv (vb true) (ae (wn rfl) (ae (wn rfl) (lw (vb true) (aw rfl rfl rfl) (af (aj rfl rfl ?_))))))))))
  refine a9 ?_
  clear bx5
  refine a6 rfl (ma (vb true) (af (aF (vs:=[vb true]) Try.func7 (.tmp rfl .nil) ?_)))
  have e0:(true:Bool)=(true):=by
    rfl
  have C99:=cg [] (ch2.n.seq (hb7.n.seq (hb9.n.seq hb11.n)))
  replace bH:=bH.ca C99
  exact⟨rb e0,bH.below⟩
 refine ae (wn (congrArg Bool.not (Bool.eq_false_iff.2 q18))) (ae (wn (congrArg Bool.not (Bool.eq_false_iff.2 q18))) (ae (wn (congrArg Bool.not (Bool.eq_false_iff.2 q18))) (lw (vb true) (aw rfl (congrArg Bool.not (Bool.eq_false_iff.2 q18)) rfl) (mv (vb true) (ae (wn rfl) (ae (wn rfl) (ae (wn rfl) (ae (wn rfl) (lw (vb true) (aw rfl rfl rfl) (mv (vb true) (ae (wn rfl) (ae (wn rfl) (lw (vb true) (aw rfl rfl rfl) ?_)))))))))))))
 refine af (aj rfl rfl (a9 ?_))
 clear bx5
 refine a6 rfl (ma (vb true) (af (aF (vs:=[vb true]) Try.func7 (.tmp rfl .nil) ?_)))
 have e0:(true:Bool)=(true):=by
   rfl
 have C100:=cg [] (ch2.n.seq (hb7.n.seq hb9.n))
 replace bH:=bH.ca C100
 exact⟨rb e0,bH.below⟩
end TL
