import Derived.Test.YtmaclbnodbcniaaFsTlP3
import Derived.Test.YtmaclbnodbcniaaFsTlFwG
import Derived.Test.YtmaclbnodbcniaaFsTlFwQ
import Derived.Test.YtmaclbnodbcniaaProg
import Derived.Test.YtmaclbnodbcniaaFsTlAli
set_option linter.all false
set_option maxRecDepth 20000
namespace TL
open Go Go.Proofs
theorem nW:Try.prog.follows .mixedOrders=true:=by kernel_rfl
theorem qF:Try.f8.body.isNone=false:=rfl
theorem qU:(Try.f8.name== "runtime.NumGoroutine")=false:=by decide+kernel
theorem qR:Try.f9.body.isNone=false:=rfl
theorem rj:(Try.f9.name== "runtime.NumGoroutine")=false:=by decide+kernel
theorem lB:Try.f17.body.isNone=false:=rfl
theorem lO:(Try.f17.name== "runtime.NumGoroutine")=false:=by decide+kernel
set_option maxHeartbeats 8000000 in
theorem je(w0:World)(t:(Int)×(List ((Int)×(Int)×(Int)×(Int)))×(List Int))(t_v t_v1:Value)(ht_v:Ro w0 t_v t.2.1)(ht_v1:Ro w0 t_v1 t.2.2)(kq:Int)(turn:Int)(hkq:0<=kq/\kq<=255):
    Calls Try.prog 6 #[vg [vi t.1,t_v,t_v1],Value.int .u8 kq,vi turn] w0 (λee w=>ee= .returned (vb true)/\dq w0.heap.size w0 w):=by
 refine az Try.func6 rfl nq ?_
 have bH:=aU.start w0
 have Rt:=ht_v.sl
 have r_t_v1:=ht_v1.sl
 obtain⟨hkq0,hkq1⟩:=hkq
 refine a9 (a6 rfl (d7 rfl (dw c0 (is 1) (1,0) rfl rfl ?_)))
 intro g4 w1 b3 ch2 bx5
 replace bx5:Bx g4 (is 1) w1 b3 [vi t.1,t_v,t_v1]:=bx5
 refine ma (vb false) (ag (a9 (a9 (a6 rfl (d7 rfl (bC (v:=vb true) (aT (vals:=[]) Try.func8 qF qU rfl) (mC w1) ?_))))))
 intro w6 hb7
 replace hb7:=aD hb7 g4
 refine lx (cE (b:=true) rfl) (ag (am rfl rfl (aq (a9 (a9 (a6 rfl ?_))))))
 replace bx5:=bx5.cn hb7
 refine lx (bm (ds:=[vi t.1,t_v,t_v1]) cf rfl bx5 rfl rfl) ?_
 replace Rt:=(Rt.cn ch2).cn hb7
 replace r_t_v1:=(r_t_v1.cn ch2).cn hb7
 refine lo (bC (v:=vb (decide (t.2.1.length<=200/\t.2.2.length<=1000/\(t.1<=60\/¬cu t)))) (aT (vals:=[vg [vi t.1,t_v,t_v1]]) Try.func9 qR rj rfl) (mt w6 t t_v t_v1 (Rt).ro (r_t_v1).ro) ?_)
 intro w8 hb9
 replace hb9:=aD hb9 g4
 refine lx (cE (b:=(decide (t.2.1.length<=200/\t.2.2.length<=1000/\(t.1<=60\/¬cu t)))) rfl) (mv (vb (!(decide (t.2.1.length<=200/\t.2.2.length<=1000/\(t.1<=60\/¬cu t))))) ?_)
 by_cases q23:(decide (t.2.1.length<=200/\t.2.2.length<=1000/\(t.1<=60\/¬cu t)))=true
 ·
  replace bx5:=bx5.cn hb9
  refine lv (vg [vi t.1,t_v,t_v1]) (wy (congrArg Bool.not q23)) (bm (ds:=[vi t.1,t_v,t_v1]) cf rfl bx5 rfl rfl) ?_
  replace Rt:=Rt.cn hb9
  replace r_t_v1:=r_t_v1.cn hb9
  refine d7 (wy (congrArg Bool.not q23)) (bC (v:=vb (bK t)) (aT (vals:=[vg [vi t.1,t_v,t_v1]]) Try.func10 jR jF rfl) (iS w8 t t_v t_v1 (Rt).ro (r_t_v1).ro) ?_)
  intro w10 hb11
  replace hb11:=aD hb11 g4
  refine lv (vb (!(bK t))) (wy (congrArg Bool.not q23)) (cE (b:=(bK t)) rfl) (lw (vb (!(bK t))) (aJ rfl (congrArg Bool.not q23) rfl) (mv (vb (!(bK t))) ?_))
  by_cases q28:(bK t)=true
  ·
   refine lv (vp b3 1) (wy (congrArg Bool.not q28)) (a7 cU rfl rfl rfl rfl) ?_
   replace bx5:=bx5.cn hb11
   refine lv (t_v) (wy (congrArg Bool.not q28)) (a8 bR rfl bx5 rfl) ?_
   replace Rt:=Rt.cn hb11
   have len12:=(Rt).small
   refine lv (vi (t.2.1.length:Int)) (wy (congrArg Bool.not q28)) (bn fz rfl Rt) (lv (vb (decide ((t.2.1.length:Int)=0))) (wy (congrArg Bool.not q28)) (cD (m:=(t.2.1.length:Int)) (n:=0) rfl rfl) (lw (vb (decide ((t.2.1.length:Int)=0))) (aJ rfl (congrArg Bool.not q28) rfl) (mv (vb (decide ((t.2.1.length:Int)=0))) ?_)))
   by_cases q34:(t.2.1.length:Int)=0
   ·
    refine ae (wn (dt q34)) (ae (wn (dt q34)) (lw (vb true) (av rfl (dt q34) rfl) (ag (aj rfl rfl (a9 ?_)))))
    clear bx5
    refine a6 rfl (ma (vb true) (ag (aB (vs:=[vb true]) Try.func6 (.tmp rfl .nil) ?_)))
    have e0:(true:Bool)=(true):=by
      rfl
    have C13:=cg [] (ch2.n.seq (hb7.n.seq (hb9.n.seq hb11.n)))
    replace bH:=bH.ca C13
    exact⟨rb e0,bH.below⟩
   refine lv (vi turn) (wy (df q34)) (ah rfl) (lv (vb (decide (turn<0))) (wy (df q34)) (bq (m:=turn) (n:=0) rfl rfl) (lw (vb (decide (turn<0))) (aJ rfl (df q34) rfl) (ag ?_)))
   by_cases p3:turn<0
   ·
    refine aj rfl (dt p3) (a9 ?_)
    clear bx5
    refine a6 rfl (ma (vb true) (ag (aB (vs:=[vb true]) Try.func6 (.tmp rfl .nil) ?_)))
    have e0:(true:Bool)=(true):=by
      rfl
    have C14:=cg [] (ch2.n.seq (hb7.n.seq (hb9.n.seq hb11.n)))
    replace bH:=bH.ca C14
    exact⟨rb e0,bH.below⟩
   refine am rfl (df p3) (aq (a9 ?_))
   have hm:cu t:=of_decide_eq_true ‹_›
   have hli:t.2.1.length<=200/\t.2.2.length<=1000/\(t.1<=60\/¬cu t):=of_decide_eq_true ‹_›
   have hN60:t.1<=60:=hli.2.2.resolve_right (λh=>h hm)
   have hl200:t.2.1.length<=200:=hli.1
   have hm0:=hm
   obtain⟨⟨hm1,hm2⟩,hm3,hm4,hm5,hm6⟩:=hm0
   refine a6 rfl (lx (a7 cU rfl rfl rfl rfl) (lx (a8 af rfl bx5 rfl) (lx (a7 cU rfl rfl rfl rfl) (lx (a8 ao rfl bx5 rfl) ?_))))
   replace r_t_v1:=r_t_v1.cn hb11
   refine lw (vg [vi t.1,vn,t_v1]) (bo (vs:=[(0,vi t.1),(2,t_v1)]) rfl (by rw[Sl.form r_t_v1];kernel_rfl)) (lo (bO g4 (is 2) (2,0) rfl cf ?_))
   intro g18 w15 b17 ch16 bx19
   replace bx19:Bx g18 (is 2) w15 b17 [vi 0,vn,vn]:=bx19
   refine lo ?_
   replace r_t_v1:=r_t_v1.cn ch16
   refine aR (cs':=[vi t.1,vn,t_v1]) cf rfl rfl bx19 rfl nq (AllOne.all (.cons rfl (.cons rfl (.cons (bi r_t_v1) .nil)))) rfl ?_
   intro w20 ch21 bx22
   clear bx19
   refine ag (a9 (a6 rfl (lx (a7 cU rfl rfl rfl rfl) ?_)))
   replace bx5:=(bx5.cn ch16).ce ch21
   refine lx (a8 af rfl bx5 rfl) (lx (a7 cU rfl rfl rfl rfl) (lx (a8 ao rfl bx5 rfl) ?_))
   replace r_t_v1:=r_t_v1.ce ch21
   refine lw (vg [vi t.1,vn,t_v1]) (bo (vs:=[(0,vi t.1),(2,t_v1)]) rfl (by rw[Sl.form r_t_v1];kernel_rfl)) (lo (bO g18 (is 3) (3,0) rfl cf ?_))
   intro g26 w23 b25 ch24 bx27
   replace bx27:Bx g26 (is 3) w23 b25 [vi 0,vn,vn]:=bx27
   refine lo ?_
   replace r_t_v1:=r_t_v1.cn ch24
   refine aR (cs':=[vi t.1,vn,t_v1]) cf rfl rfl bx27 rfl nq (AllOne.all (.cons rfl (.cons rfl (.cons (bi r_t_v1) .nil)))) rfl ?_
   intro w28 ch29 bx30
   clear bx27
   refine ag (a9 (a6 rfl (mi turn (lx (a7 cU rfl rfl rfl rfl) ?_))))
   replace bx5:=(bx5.cn ch24).ce ch29
   refine lx (a8 bR rfl bx5 rfl) ?_
   have C31:=cg [2,3] (ch16.n.seq ((ch21.l rfl).seq (ch24.n.seq (ch29.l rfl))))
   replace Rt:=Rt.ca C31
   refine lx (bn fz rfl Rt) (lx (qg (m:=turn) (n:=(t.2.1.length:Int)) rfl rfl (by omega) (by omega)) (ai (turn%(t.2.1.length:Int)) (ag (a9 (a9 ?_)))))
   have hat0:0<=turn%(t.2.1.length:Int):=Int.emod_nonneg _ (by omega)
   have hat1:turn%(t.2.1.length:Int)<(t.2.1.length:Int):=Int.emod_lt_of_pos _ (by omega)
   refine a6 rfl (ai 0 (ag (ax ?_)))
   refine aV (σ:=Value×(List ((Int)×(Int)×(Int)×(Int)))×Value×(List ((Int)×(Int)×(Int)×(Int)))×Nat×aE) (λ⟨ua_v,ua,va_v,va,i,gq⟩ f w=>aU w0 gq w/\f 1=Value.int .u8 kq/\f 3=vp b3 0/\f 7=vp b17 0/\f 8=vp b25 0/\f 9=vi (turn%(t.2.1.length:Int))/\f 10=vi ↑i/\Sl gq (is 0) w t_v t.2.1/\Sl gq (is 0) w t_v1 t.2.2/\Bx gq (is 1) w b3 [vi t.1,t_v,t_v1]/\Bx gq (is 2) w b17 [vi t.1,ua_v,t_v1]/\Bx gq (is 3) w b25 [vi t.1,va_v,t_v1]/\Ow gq (is 6) (is 6) w ua_v ua/\Ow gq (is 8) (is 8) w va_v va/\(i:Int)<=((t.2.1.length:Int):Int)/\((ua=oO kq t.2.1 i/\va=oS t.2.1 (turn%(t.2.1.length:Int)) i)/\∀j:Nat,j<i->(gI t.2.1 ↑j).2.2.2<=4096)) (λ⟨ua_v,ua,va_v,va,i,gq⟩=>Int.toNat (((t.2.1.length:Int):Int)-(i:Int))) (vn,[],vn,[],0,g26) ?_ ?_
   have C32:=cg [2,3] (ch2.n.seq (hb7.n.seq (hb9.n.seq (hb11.n.seq (ch16.n.seq ((ch21.l rfl).seq (ch24.n.seq (ch29.l rfl))))))))
   · exact⟨bH.ca C32,rfl,rfl,rfl,rfl,rfl,rfl,Rt,r_t_v1.ce ch29,bx5,(bx22.cn ch24).ce ch29,bx30,Ow.nil,Ow.nil,by omega,by exact⟨⟨rfl,rfl⟩,λj hj=>by omega⟩⟩
   clear Rt r_t_v1 bx5 bx22 bx30 bH
   rintro⟨ua_v,ua,va_v,va,i,g35⟩ f33 w34 ⟨bH,zs1,zs3,zs7,zs8,zs9,zs10,Rt,r_t_v1,bx5,bx22,bx30,o_ua,o_va,hle_i,hsc⟩ back9
   obtain⟨⟨hua,hva⟩,hcs⟩:=hsc
   have hual:ua.length=i:=by rw[hua];exact pF (by omega)
   have hval:va.length=i:=by rw[hva];exact oX
   refine a9 (a9 (a6 rfl (mz zs10 (lx (a7 cU rfl rfl zs3 rfl) (lx (a8 bR rfl bx5 rfl) (lx (bn fz rfl Rt) (lx (bq (m:=↑i) (n:=(t.2.1.length:Int)) rfl rfl) (ag ?_))))))))
   by_cases p9:(i:Int)<(t.2.1.length:Int)
   ·
    refine aj rfl (dt p9) ?_
    have hwr0:0<=((i:Int)+turn%(t.2.1.length:Int))%(t.2.1.length:Int):=Int.emod_nonneg _ (by omega)
    have hwr1:((i:Int)+turn%(t.2.1.length:Int))%(t.2.1.length:Int)<(t.2.1.length:Int):=Int.emod_lt_of_pos _ (by omega)
    refine aq (a9 (ax (a9 (a6 rfl (lx (a7 cU rfl rfl zs3 rfl) (lx (a8 bR rfl bx5 rfl) (mz zs10 (lx (aa (v:=t_v) (i:=↑i) fz rfl rfl Rt rfl (by omega) (by omega)) (lw (vg [vi ((gI t.2.1 ↑i).1),vi (((gI t.2.1 ↑i).2).1),vi ((((gI t.2.1 ↑i).2).2).1),vi ((((gI t.2.1 ↑i).2).2).2)]) (aY (v:=t_v) (i:=↑i) bB rfl Rt (by omega) (by omega) rfl) (lo ?_))))))))))
    refine bO g35 (is 4) (4,0) rfl bB ?_
    intro g39 w36 b38 ch37 bx40
    replace bx40:Bx g39 (is 4) w36 b38 [vi 0,vi 0,vi 0,vi 0]:=bx40
    refine lo (aR (cs':=[vi ((gI t.2.1 ↑i).1),vi (((gI t.2.1 ↑i).2).1),vi ((((gI t.2.1 ↑i).2).2).1),vi ((((gI t.2.1 ↑i).2).2).2)]) bB rfl rfl bx40 rfl nq (AllOne.all (.cons rfl (.cons rfl (.cons rfl (.cons rfl .nil))))) rfl ?_)
    intro w41 ch42 bx43
    clear bx40
    refine ag (a9 (a9 (a6 rfl (lx (a7 dk rfl rfl rfl rfl) (lx (a8 af rfl bx43 rfl) (lx (bV (m:=(((gI t.2.1 ↑i).2).2).2) (n:=4096) rfl rfl) (ag ?_)))))))
    by_cases p12:4096<((((gI t.2.1 ↑i).2).2).2)
    ·
     refine aj rfl (dt p12) (a9 ?_)
     clear bx5 bx22 bx30 o_ua o_va bx43
     refine a6 rfl (ma (vb true) (ag (aB (vs:=[vb true]) Try.func6 (.tmp rfl .nil) ?_)))
     have e0:(true:Bool)=(true):=by
       rfl
     replace bH:=bH.cn ch37
     replace bH:=bH.ce ch42
     exact⟨rb e0,bH.below⟩
    refine am rfl (df p12) (aq (a9 ?_))
    obtain⟨hsx0,hsx1⟩:=sv (q:=kq) hm ‹_› (by omega) ⟨hkq0,hkq1⟩
    refine a6 rfl (lx (a7 dk rfl rfl rfl rfl) (lx (a8 af rfl bx43 rfl) (mz zs1 (lw (vi kq) (oF (m:=kq) U5 U3 rfl (dY (by omega))) (lx (eH (m:=(((gI t.2.1 ↑i).2).2).2) (n:=kq) rfl rfl (by omega)) (lx (a7 dk rfl rfl rfl rfl) (lo (aR (cs':=[vi ((gI t.2.1 ↑i).1),vi (((gI t.2.1 ↑i).2).1),vi ((((gI t.2.1 ↑i).2).2).1),vi (((((gI t.2.1 ↑i).2).2).2)*kq)]) af rfl rfl bx43 rfl nq (AllOne.all (.cons rfl .nil)) rfl ?_))))))))
    intro w44 ch45 bx46
    clear bx43
    refine ag (a9 (a6 rfl (lx (a7 cU rfl rfl zs7 rfl) ?_)))
    have C47:=cg [4] (ch37.n.seq ((ch42.l rfl).seq (ch45.l rfl)))
    replace bx22:=bx22.ca C47
    refine lx (a8 bR rfl bx22 rfl) (lx (bm (ds:=[vi ((gI t.2.1 ↑i).1),vi (((gI t.2.1 ↑i).2).1),vi ((((gI t.2.1 ↑i).2).2).1),vi (((((gI t.2.1 ↑i).2).2).2)*kq)]) bB rfl bx46 rfl rfl) (lo (aw (α:=(Int)×(Int)×(Int)×(Int)) g39 (is 5) (is 5) (5,0) rfl [((gI t.2.1 ↑i).1,((gI t.2.1 ↑i).2).1,(((gI t.2.1 ↑i).2).2).1,((((gI t.2.1 ↑i).2).2).2)*kq)] fz bB (by decide) (by decide) (vs:=[(0,vg [vi ((gI t.2.1 ↑i).1),vi (((gI t.2.1 ↑i).2).1),vi ((((gI t.2.1 ↑i).2).2).1),vi (((((gI t.2.1 ↑i).2).2).2)*kq)])]) rfl rfl (.cons rfl .nil) ?_)))
    intro g48 w49 v50 ch51 o52
    refine lo ?_
    have C53:=cg [4] (ch37.n.seq ((ch42.l rfl).seq ((ch45.l rfl).seq ch51.n)))
    replace o_ua:=o_ua.ca C53
    refine aF (α:=(Int)×(Int)×(Int)×(Int)) (xs:=ua) (ys:=([((gI t.2.1 ↑i).1,((gI t.2.1 ↑i).2).1,(((gI t.2.1 ↑i).2).2).1,((((gI t.2.1 ↑i).2).2).2)*kq)])) g48 (J:=is 6) (S:=is 6) (6,0) rfl fz bB (by decide) rfl rfl rfl o_ua o52.flat (by decide) (by(simp;omega)) ?_
    intro g54 w55 v56 ch57 o58
    clear o_ua
    refine lx (a7 cU rfl rfl zs7 rfl) (lo ?_)
    replace bx22:=(bx22.cn ch51).ce ch57
    refine bg (cs':=[vi t.1,v56,t_v1]) bR rfl rfl bx22 (br o58.flat) nq (bi o58.flat) rfl ?_
    intro w59 ch60 bx61
    clear bx22
    refine ag ?_
    clear bx46 o52
    refine aK g54 [0,1,2,3,4,5,6,7,8,9,10,11,12,15] nW ?_
    intro w63 ch62
    refine xp 0 rfl (λw=>a7 cU rfl rfl zs8 rfl) ?_
    have C64:=cg [2,4,6] (ch37.n.seq ((ch42.l rfl).seq ((ch45.l rfl).seq (ch51.n.seq ((ch57.l rfl).seq ((ch60.l rfl).seq ch62.n))))))
    replace bx30:=bx30.ca C64
    refine xh 1 [0,2,4,5,7,3,6,8,9,10,11,12,13] rfl (λw' hw'=>a8 bR rfl (bx30.bel hw') rfl) (xp 2 rfl (λw=>a7 cU rfl rfl zs3 rfl) ?_)
    replace bx5:=bx5.ca C64
    refine xv 3 [2,1,0,4,5,7,6,8,9,10] rfl (a8 bR rfl bx5 rfl) (xp (v:=vi ↑i) 4 rfl (λw=>ah zs10) (xp (v:=vi (turn%(t.2.1.length:Int))) 5 rfl (λw=>ah zs9) (xp 6 rfl (λw=>aS (m:=↑i) (n:=turn%(t.2.1.length:Int)) rfl rfl (by omega)) (xp 7 rfl (λw=>a7 cU rfl rfl zs3 rfl) (xv 8 [7,6,5,4,3,2,1,0] rfl (a8 bR rfl bx5 rfl) ?_)))))
    replace Rt:=Rt.ca C64
    refine xp 9 rfl (λw=>bn fz rfl Rt) (xp 10 rfl (λw=>qg (m:=(i:Int)+(turn%(t.2.1.length:Int))) (n:=(t.2.1.length:Int)) rfl rfl (by omega) (by omega)) (xv 11 [10,9,8,7,6,5,4,3,2,1,0] rfl (aa (v:=t_v) (i:=((i:Int)+(turn%(t.2.1.length:Int)))%(t.2.1.length:Int)) fz rfl rfl Rt rfl (by omega) (by omega)) ?_))
    refine xv (v:=vg [vi ((gI t.2.1 (((i:Int)+(turn%(t.2.1.length:Int)))%(t.2.1.length:Int))).1),vi (((gI t.2.1 (((i:Int)+(turn%(t.2.1.length:Int)))%(t.2.1.length:Int))).2).1),vi ((((gI t.2.1 (((i:Int)+(turn%(t.2.1.length:Int)))%(t.2.1.length:Int))).2).2).1),vi ((((gI t.2.1 (((i:Int)+(turn%(t.2.1.length:Int)))%(t.2.1.length:Int))).2).2).2)]) 12 [11,10,9,8,7,6,5,4,3,2,1,0] rfl (aY (v:=t_v) (i:=((i:Int)+(turn%(t.2.1.length:Int)))%(t.2.1.length:Int)) bB rfl Rt (by omega) (by omega) rfl) (aC 13 rfl (by kernel_rfl) rfl ?_)
    refine aw (α:=(Int)×(Int)×(Int)×(Int)) g54 (is 7) (is 7) (7,0) rfl [((gI t.2.1 (((i:Int)+(turn%(t.2.1.length:Int)))%(t.2.1.length:Int))).1,((gI t.2.1 (((i:Int)+(turn%(t.2.1.length:Int)))%(t.2.1.length:Int))).2).1,(((gI t.2.1 (((i:Int)+(turn%(t.2.1.length:Int)))%(t.2.1.length:Int))).2).2).1,(((gI t.2.1 (((i:Int)+(turn%(t.2.1.length:Int)))%(t.2.1.length:Int))).2).2).2)] fz bB (by decide) (by decide) (vs:=[(0,vg [vi ((gI t.2.1 (((i:Int)+(turn%(t.2.1.length:Int)))%(t.2.1.length:Int))).1),vi (((gI t.2.1 (((i:Int)+(turn%(t.2.1.length:Int)))%(t.2.1.length:Int))).2).1),vi ((((gI t.2.1 (((i:Int)+(turn%(t.2.1.length:Int)))%(t.2.1.length:Int))).2).2).1),vi ((((gI t.2.1 (((i:Int)+(turn%(t.2.1.length:Int)))%(t.2.1.length:Int))).2).2).2)])]) rfl rfl (.cons rfl .nil) ?_
    intro g65 w66 v67 ch68 o69
    refine aC 14 rfl (by kernel_rfl) rfl ?_
    have C70:=cg [2,4,6] (ch37.n.seq ((ch42.l rfl).seq ((ch45.l rfl).seq (ch51.n.seq ((ch57.l rfl).seq ((ch60.l rfl).seq (ch62.n.seq ch68.n)))))))
    replace o_va:=o_va.ca C70
    refine aF (α:=(Int)×(Int)×(Int)×(Int)) (xs:=va) (ys:=([((gI t.2.1 (((i:Int)+(turn%(t.2.1.length:Int)))%(t.2.1.length:Int))).1,((gI t.2.1 (((i:Int)+(turn%(t.2.1.length:Int)))%(t.2.1.length:Int))).2).1,(((gI t.2.1 (((i:Int)+(turn%(t.2.1.length:Int)))%(t.2.1.length:Int))).2).2).1,(((gI t.2.1 (((i:Int)+(turn%(t.2.1.length:Int)))%(t.2.1.length:Int))).2).2).2)])) g65 (J:=is 8) (S:=is 8) (8,0) rfl fz bB (by decide) rfl rfl rfl o_va o69.flat (by decide) (by(simp;omega)) ?_
    intro g71 w72 v73 ch74 o75
    clear o_va
    refine xp 15 rfl (λw=>a7 cU rfl rfl zs8 rfl) (aC 16 rfl (by kernel_rfl) rfl ?_)
    replace bx30:=(bx30.cn ch68).ce ch74
    refine bg (cs':=[vi t.1,v73,t_v1]) bR rfl rfl bx30 (br o75.flat) nq (bi o75.flat) rfl ?_
    intro w76 ch77 bx78
    clear bx30
    refine aW (by kernel_rfl) (au ?_)
    clear o69
    refine a6 rfl (mz zs10 (lx (aS (m:=↑i) (n:=1) rfl rfl (by omega)) (ai ((i:Int)+1) (ag ?_))))
    have C79:=cg [2,3,4,6,8] (ch37.n.seq ((ch42.l rfl).seq ((ch45.l rfl).seq (ch51.n.seq ((ch57.l rfl).seq ((ch60.l rfl).seq (ch62.n.seq (ch68.n.seq ((ch74.l rfl).seq (ch77.l rfl))))))))))
    have C80:=cg [3,8] (ch68.n.seq ((ch74.l rfl).seq (ch77.l rfl)))
    have C81:=ch62.n.seq C80
    have C82:=cg [2,3,8] ((ch60.l rfl).seq (ch62.n.seq (ch68.n.seq ((ch74.l rfl).seq (ch77.l rfl)))))
    refine back9 (v56,(ua++[((gI t.2.1 ↑i).1,((gI t.2.1 ↑i).2).1,(((gI t.2.1 ↑i).2).2).1,((((gI t.2.1 ↑i).2).2).2)*kq)]),v73,(va++[((gI t.2.1 (((i:Int)+(turn%(t.2.1.length:Int)))%(t.2.1.length:Int))).1,((gI t.2.1 (((i:Int)+(turn%(t.2.1.length:Int)))%(t.2.1.length:Int))).2).1,(((gI t.2.1 (((i:Int)+(turn%(t.2.1.length:Int)))%(t.2.1.length:Int))).2).2).1,(((gI t.2.1 (((i:Int)+(turn%(t.2.1.length:Int)))%(t.2.1.length:Int))).2).2).2)]),i+1,g71) _ _ ⟨bH.ca C79,zs1,zs3,zs7,zs8,zs9,rfl,Rt.ca C80,r_t_v1.ca C79,bx5.ca C80,bx61.ca C81,bx78,o58.ca C82,o75.ce ch77,by omega,?_⟩ ?_
    · show((ua++[((gI t.2.1 ↑i).1,((gI t.2.1 ↑i).2).1,(((gI t.2.1 ↑i).2).2).1,((((gI t.2.1 ↑i).2).2).2)*kq)])=oO kq t.2.1 (i+1)/\(va++[((gI t.2.1 (((i:Int)+(turn%(t.2.1.length:Int)))%(t.2.1.length:Int))).1,((gI t.2.1 (((i:Int)+(turn%(t.2.1.length:Int)))%(t.2.1.length:Int))).2).1,(((gI t.2.1 (((i:Int)+(turn%(t.2.1.length:Int)))%(t.2.1.length:Int))).2).2).1,(((gI t.2.1 (((i:Int)+(turn%(t.2.1.length:Int)))%(t.2.1.length:Int))).2).2).2)])=oS t.2.1 (turn%(t.2.1.length:Int)) (i+1))/\∀j:Nat,j<(i+1)->(gI t.2.1 ↑j).2.2.2<=4096
      refine⟨⟨?_,?_⟩,λj hj=>?_⟩
      · rw[hua,oe ‹_›];rfl
      · rw[hva,ot]
      · by_cases q:j=i;(rw[q];omega);exact hcs j (by omega)
    · show Int.toNat (((t.2.1.length:Int):Int)-((i+1):Int))<Int.toNat (((t.2.1.length:Int):Int)-(i:Int))
      omega
   refine am rfl (df p9) (aN rfl (a9 ?_))
   obtain⟨hsz0,hsz1⟩:=mJ (q:=kq) (t9:=turn%(t.2.1.length:Int)) hm ⟨hkq0,hkq1⟩ (by omega) ‹_› hua hva hcs hat0 hat1
   obtain⟨hcb0,hcb1⟩:=r8 (q:=kq) hm hl200 ⟨hkq0,hkq1⟩
   refine a6 rfl (lx (bm (ds:=[vi t.1,t_v,t_v1]) cf zs3 bx5 rfl rfl) (lo (bx (aT (vals:=[vg [vi t.1,t_v,t_v1]]) Try.func12 gZ i7 rfl) (gW w34 t t_v t_v1 (Rt).ro (r_t_v1).ro (by exact .inl hN60)) ?_)))
   rintro⟨d84,v86,v88⟩ w83 ⟨fr85,o87,o89⟩
   obtain⟨g90,ch91,G90⟩:=pB g35 fr85 (λn=>if n=1 then 9 else if n=2 then 10 else 0)
   replace o87:=o87.gl G90 9
   replace o89:=o89.gl G90 10
   refine mv (vt [vg [v86,v88,vi ((((aG t).1).2).2)],vi ((aG t).2)]) (lx (cJ rfl rfl) (lx (cJ rfl rfl) (lo (bO g90 (is 11) (11,0) rfl bA ?_))))
   intro g95 w92 b94 ch93 bx96
   replace bx96:Bx g95 (is 11) w92 b94 [vn,vn,vi 0]:=bx96
   refine lo ?_
   replace o89:=o89.cn ch93
   replace o87:=o87.cn ch93
   refine aR (cs':=[v86,v88,vi ((((aG t).1).2).2)]) bA rfl rfl bx96 rfl nq (AllOne.all (.cons (bi o87.flat) (.cons (bi o89.flat) (.cons rfl .nil)))) rfl ?_
   intro w97 ch98 bx99
   clear bx96
   refine ai ((aG t).2) (ag (a9 ?_))
   clear bx5
   refine a6 rfl ?_
   have C100:=cg [11] (ch91.n.seq (ch93.n.seq (ch98.l rfl)))
   replace bx22:=bx22.ca C100
   refine lx (bm (ds:=[vi t.1,ua_v,t_v1]) cf zs7 bx22 rfl rfl) ?_
   replace o_ua:=o_ua.ca C100
   replace r_t_v1:=r_t_v1.ca C100
   refine lo (bx (aT (vals:=[vg [vi t.1,ua_v,t_v1]]) Try.func12 gZ i7 rfl) (gW w97 (t.1,ua,t.2.2) ua_v t_v1 (o_ua.flat).ro (r_t_v1).ro (by exact .inl hN60)) ?_)
   rintro⟨d102,v104,v106⟩ w101 ⟨fr103,o105,o107⟩
   obtain⟨g108,ch109,G108⟩:=pB g95 fr103 (λn=>if n=1 then 12 else if n=2 then 13 else 0)
   replace o105:=o105.gl G108 12
   replace o107:=o107.gl G108 13
   refine mv (vt [vg [v104,v106,vi ((((aG (t.1,ua,t.2.2)).1).2).2)],vi ((aG (t.1,ua,t.2.2)).2)]) (lx (cJ rfl rfl) (lx (cJ rfl rfl) (lo (bO g108 (is 14) (14,0) rfl bA ?_))))
   intro g113 w110 b112 ch111 bx114
   replace bx114:Bx g113 (is 14) w110 b112 [vn,vn,vi 0]:=bx114
   refine lo ?_
   replace o107:=o107.cn ch111
   replace o105:=o105.cn ch111
   refine aR (cs':=[v104,v106,vi ((((aG (t.1,ua,t.2.2)).1).2).2)]) bA rfl rfl bx114 rfl nq (AllOne.all (.cons (bi o105.flat) (.cons (bi o107.flat) (.cons rfl .nil)))) rfl ?_
   intro w115 ch116 bx117
   clear bx114
   refine ai ((aG (t.1,ua,t.2.2)).2) (ag (a9 (a6 rfl ?_)))
   have C118:=cg [11,14] (ch91.n.seq (ch93.n.seq ((ch98.l rfl).seq (ch109.n.seq (ch111.n.seq (ch116.l rfl))))))
   replace bx30:=bx30.ca C118
   refine lx (bm (ds:=[vi t.1,va_v,t_v1]) cf zs8 bx30 rfl rfl) ?_
   replace o_va:=o_va.ca C118
   have C119:=cg [14] (ch109.n.seq (ch111.n.seq (ch116.l rfl)))
   replace r_t_v1:=r_t_v1.ca C119
   refine lo (bx (aT (vals:=[vg [vi t.1,va_v,t_v1]]) Try.func12 gZ i7 rfl) (gW w115 (t.1,va,t.2.2) va_v t_v1 (o_va.flat).ro (r_t_v1).ro (by exact .inl hN60)) ?_)
   rintro⟨d121,v123,v125⟩ w120 ⟨fr122,o124,o126⟩
   obtain⟨g127,ch128,G127⟩:=pB g113 fr122 (λn=>if n=1 then 15 else if n=2 then 16 else 0)
   replace o124:=o124.gl G127 15
   replace o126:=o126.gl G127 16
   refine mv (vt [vg [v123,v125,vi ((((aG (t.1,va,t.2.2)).1).2).2)],vi ((aG (t.1,va,t.2.2)).2)]) (lx (cJ rfl rfl) (lx (cJ rfl rfl) (lo (bO g127 (is 17) (17,0) rfl bA ?_))))
   intro g132 w129 b131 ch130 bx133
   replace bx133:Bx g132 (is 17) w129 b131 [vn,vn,vi 0]:=bx133
   refine lo ?_
   replace o126:=o126.cn ch130
   replace o124:=o124.cn ch130
   refine aR (cs':=[v123,v125,vi ((((aG (t.1,va,t.2.2)).1).2).2)]) bA rfl rfl bx133 rfl nq (AllOne.all (.cons (bi o124.flat) (.cons (bi o126.flat) (.cons rfl .nil)))) rfl ?_
   intro w134 ch135 bx136
   clear bx133
   refine ai ((aG (t.1,va,t.2.2)).2) (ag (a9 (a9 (a6 rfl (mi ((aG t).2) (lx (dU (m:=(aG t).2) (n:=0) rfl rfl) (ag ?_)))))))
   by_cases p20:((aG t).2)=0
   ·
    refine am rfl (congrArg Bool.not (dt p20)) (aq (a9 (a6 rfl (mi ((aG (t.1,ua,t.2.2)).2) (lx (cD (m:=(aG (t.1,ua,t.2.2)).2) (n:=0) rfl rfl) (mv (vb (decide (((aG (t.1,ua,t.2.2)).2)=0))) ?_))))))
    have q123:((aG (t.1,ua,t.2.2)).2)=0:=by exact hsz0.1.trans ‹_›
    refine lv (vi ((aG (t.1,va,t.2.2)).2)) (wy (dt q123)) (ah rfl) (lv (vb (decide (((aG (t.1,va,t.2.2)).2)=0))) (wy (dt q123)) (cD (m:=(aG (t.1,va,t.2.2)).2) (n:=0) rfl rfl) (lw (vb (decide (((aG (t.1,va,t.2.2)).2)=0))) (av rfl (dt q123) rfl) (mv (vb (decide (((aG (t.1,va,t.2.2)).2)=0))) ?_)))
    have q127:((aG (t.1,va,t.2.2)).2)=0:=by exact hsz0.2.trans ‹_›
    refine lv (vp b112 2) (wy (dt q127)) (a7 gL rfl rfl rfl rfl) ?_
    have C137:=cg [17] (ch128.n.seq (ch130.n.seq (ch135.l rfl)))
    replace bx117:=bx117.ca C137
    refine lv (vi ((((aG (t.1,ua,t.2.2)).1).2).2)) (wy (dt q127)) (a8 fF rfl bx117 rfl) (lv (vp b94 2) (wy (dt q127)) (a7 gL rfl rfl rfl rfl) ?_)
    have C138:=cg [14,17] (ch109.n.seq (ch111.n.seq ((ch116.l rfl).seq (ch128.n.seq (ch130.n.seq (ch135.l rfl))))))
    replace bx99:=bx99.ca C138
    refine lv (vi ((((aG t).1).2).2)) (wy (dt q127)) (a8 fF rfl bx99 rfl) (lv (Value.int .u8 kq) (wy (dt q127)) (ah zs1) (lv (vi kq) (wy (dt q127)) (oF (m:=kq) U5 U2 rfl (dY (by omega))) (lv (vi (((((aG t).1).2).2)*kq)) (wy (dt q127)) (eH (m:=(((aG t).1).2).2) (n:=kq) rfl rfl (by omega)) (lv (vb (decide (((((aG (t.1,ua,t.2.2)).1).2).2)=(((((aG t).1).2).2)*kq)))) (wy (dt q127)) (cD (m:=(((aG (t.1,ua,t.2.2)).1).2).2) (n:=((((aG t).1).2).2)*kq) rfl rfl) (lw (vb (decide (((((aG (t.1,ua,t.2.2)).1).2).2)=(((((aG t).1).2).2)*kq)))) (av rfl (dt q127) rfl) ?_)))))
    refine mv (vb (decide (((((aG (t.1,ua,t.2.2)).1).2).2)=(((((aG t).1).2).2)*kq)))) ?_
    have q137:((((aG (t.1,ua,t.2.2)).1).2).2)=(((((aG t).1).2).2)*kq):=by exact(hsz1 ‹_›).1
    refine lv (vp b131 2) (wy (dt q137)) (a7 gL rfl rfl rfl rfl) (lv (vi ((((aG (t.1,va,t.2.2)).1).2).2)) (wy (dt q137)) (a8 fF rfl bx136 rfl) (lv (vp b94 2) (wy (dt q137)) (a7 gL rfl rfl rfl rfl) (lv (vi ((((aG t).1).2).2)) (wy (dt q137)) (a8 fF rfl bx99 rfl) (lv (vb (decide (((((aG (t.1,va,t.2.2)).1).2).2)=((((aG t).1).2).2)))) (wy (dt q137)) (cD (m:=(((aG (t.1,va,t.2.2)).1).2).2) (n:=(((aG t).1).2).2) rfl rfl) (lw (vb (decide (((((aG (t.1,va,t.2.2)).1).2).2)=((((aG t).1).2).2)))) (av rfl (dt q137) rfl) ?_)))))
    refine mv (vb (decide (((((aG (t.1,va,t.2.2)).1).2).2)=((((aG t).1).2).2)))) ?_
    have q144:((((aG (t.1,va,t.2.2)).1).2).2)=((((aG t).1).2).2):=by exact(hsz1 ‹_›).2.1
    replace bx22:=bx22.ca C138
    refine lv (vg [vi t.1,ua_v,t_v1]) (wy (dt q144)) (bm (ds:=[vi t.1,ua_v,t_v1]) cf zs7 bx22 rfl rfl) (lv (vg [v104,v106,vi ((((aG (t.1,ua,t.2.2)).1).2).2)]) (wy (dt q144)) (bm (ds:=[v104,v106,vi ((((aG (t.1,ua,t.2.2)).1).2).2)]) bA rfl bx117 rfl rfl) ?_)
    replace o_ua:=o_ua.ca C138
    replace r_t_v1:=r_t_v1.ca C137
    have C139:=cg [14,17] ((ch116.l rfl).seq (ch128.n.seq (ch130.n.seq (ch135.l rfl))))
    replace o105:=o105.ca C139
    replace o107:=o107.ca C139
    refine d7 (wy (dt q144)) (bC (v:=vb (dy (t.1,ua,t.2.2) (((aG (t.1,ua,t.2.2)).1).1,(((aG (t.1,ua,t.2.2)).1).2).1,(((aG (t.1,ua,t.2.2)).1).2).2))) (aT (vals:=[vg [vi t.1,ua_v,t_v1],vg [v104,v106,vi ((((aG (t.1,ua,t.2.2)).1).2).2)]]) Try.func17 lB lO rfl) (kG w134 (t.1,ua,t.2.2) ua_v t_v1 (o_ua.flat).ro (r_t_v1).ro (((aG (t.1,ua,t.2.2)).1).1,(((aG (t.1,ua,t.2.2)).1).2).1,(((aG (t.1,ua,t.2.2)).1).2).2) v104 v106 (o105.flat).ro (o107.flat).ro) ?_)
    intro w140 hb141
    replace hb141:=aD hb141 g132
    refine lw (vb (dy (t.1,ua,t.2.2) (((aG (t.1,ua,t.2.2)).1).1,(((aG (t.1,ua,t.2.2)).1).2).1,(((aG (t.1,ua,t.2.2)).1).2).2))) (av rfl (dt q144) rfl) (mv (vb (dy (t.1,ua,t.2.2) (((aG (t.1,ua,t.2.2)).1).1,(((aG (t.1,ua,t.2.2)).1).2).1,(((aG (t.1,ua,t.2.2)).1).2).2))) ?_)
    have q149:(dy (t.1,ua,t.2.2) (((aG (t.1,ua,t.2.2)).1).1,(((aG (t.1,ua,t.2.2)).1).2).1,(((aG (t.1,ua,t.2.2)).1).2).2))=true:=by exact(hsz1 ‹_›).2.2.1
    have C142:=cg [17] (ch128.n.seq (ch130.n.seq ((ch135.l rfl).seq hb141.n)))
    replace bx30:=bx30.ca C142
    refine lv (vg [vi t.1,va_v,t_v1]) (wy q149) (bm (ds:=[vi t.1,va_v,t_v1]) cf zs8 bx30 rfl rfl) ?_
    replace bx136:=bx136.cn hb141
    refine lv (vg [v123,v125,vi ((((aG (t.1,va,t.2.2)).1).2).2)]) (wy q149) (bm (ds:=[v123,v125,vi ((((aG (t.1,va,t.2.2)).1).2).2)]) bA rfl bx136 rfl rfl) ?_
    replace o_va:=o_va.ca C142
    replace r_t_v1:=r_t_v1.cn hb141
    replace o124:=(o124.ce ch135).cn hb141
    replace o126:=(o126.ce ch135).cn hb141
    refine d7 (wy q149) (bC (v:=vb (dy (t.1,va,t.2.2) (((aG (t.1,va,t.2.2)).1).1,(((aG (t.1,va,t.2.2)).1).2).1,(((aG (t.1,va,t.2.2)).1).2).2))) (aT (vals:=[vg [vi t.1,va_v,t_v1],vg [v123,v125,vi ((((aG (t.1,va,t.2.2)).1).2).2)]]) Try.func17 lB lO rfl) (kG w140 (t.1,va,t.2.2) va_v t_v1 (o_va.flat).ro (r_t_v1).ro (((aG (t.1,va,t.2.2)).1).1,(((aG (t.1,va,t.2.2)).1).2).1,(((aG (t.1,va,t.2.2)).1).2).2) v123 v125 (o124.flat).ro (o126.flat).ro) ?_)
    intro w143 hb144
    replace hb144:=aD hb144 g132
    refine lw (vb (dy (t.1,va,t.2.2) (((aG (t.1,va,t.2.2)).1).1,(((aG (t.1,va,t.2.2)).1).2).1,(((aG (t.1,va,t.2.2)).1).2).2))) (av rfl q149 rfl) (ma (vb (dy (t.1,va,t.2.2) (((aG (t.1,va,t.2.2)).1).1,(((aG (t.1,va,t.2.2)).1).2).1,(((aG (t.1,va,t.2.2)).1).2).2))) (ag (aB (vs:=[vb (dy (t.1,va,t.2.2) (((aG (t.1,va,t.2.2)).1).1,(((aG (t.1,va,t.2.2)).1).2).1,(((aG (t.1,va,t.2.2)).1).2).2))]) Try.func6 (.tmp rfl .nil) ?_)))
    have e0:((dy (t.1,va,t.2.2) (((aG (t.1,va,t.2.2)).1).1,(((aG (t.1,va,t.2.2)).1).2).1,(((aG (t.1,va,t.2.2)).1).2).2)):Bool)=(true):=by
      exact(hsz1 ‹_›).2.2.2
    have C145:=cg [11,14,17] (ch91.n.seq (ch93.n.seq ((ch98.l rfl).seq (ch109.n.seq (ch111.n.seq ((ch116.l rfl).seq (ch128.n.seq (ch130.n.seq ((ch135.l rfl).seq (hb141.n.seq hb144.n))))))))))
    replace bH:=bH.ca C145
    exact⟨(congrArg (a₁:=(dy (t.1,va,t.2.2) (((aG (t.1,va,t.2.2)).1).1,(((aG (t.1,va,t.2.2)).1).2).1,(((aG (t.1,va,t.2.2)).1).2).2))) (λ(z0:Bool)=>Ending.returned (vb z0)) e0),bH.below⟩
   refine aj rfl (congrArg Bool.not (df p20)) (a9 ?_)
   clear bx22 bx30 o_ua o_va o87 o89 bx99 o105 o107 bx117 o124 o126 bx136
   refine a6 rfl (mi ((aG (t.1,ua,t.2.2)).2) (mi ((aG t).2) (lx (cD (m:=(aG (t.1,ua,t.2.2)).2) (n:=(aG t).2) rfl rfl) (mv (vb (decide (((aG (t.1,ua,t.2.2)).2)=((aG t).2)))) ?_))))
   have q116:((aG (t.1,ua,t.2.2)).2)=((aG t).2):=by exact hsz0.1
   refine lv (vi ((aG (t.1,va,t.2.2)).2)) (wy (dt q116)) (ah rfl) (lv (vi ((aG t).2)) (wy (dt q116)) (ah rfl) (lv (vb (decide (((aG (t.1,va,t.2.2)).2)=((aG t).2)))) (wy (dt q116)) (cD (m:=(aG (t.1,va,t.2.2)).2) (n:=(aG t).2) rfl rfl) (lw (vb (decide (((aG (t.1,va,t.2.2)).2)=((aG t).2)))) (av rfl (dt q116) rfl) (ma (vb (decide (((aG (t.1,va,t.2.2)).2)=((aG t).2)))) (ag (aB (vs:=[vb (decide (((aG (t.1,va,t.2.2)).2)=((aG t).2)))]) Try.func6 (.tmp rfl .nil) ?_))))))
   have e0:(decide (((aG (t.1,va,t.2.2)).2)=((aG t).2)):Bool)=(true):=by
     exact dt hsz0.2
   have C146:=cg [11,14,17] (ch91.n.seq (ch93.n.seq ((ch98.l rfl).seq (ch109.n.seq (ch111.n.seq ((ch116.l rfl).seq (ch128.n.seq (ch130.n.seq (ch135.l rfl)))))))))
   replace bH:=bH.ca C146
   exact⟨(congrArg (a₁:=decide (((aG (t.1,va,t.2.2)).2)=((aG t).2))) (λ(z0:Bool)=>Ending.returned (vb z0)) e0),bH.below⟩
  refine ae (wn (congrArg Bool.not (Bool.eq_false_iff.2 q28))) (ae (wn (congrArg Bool.not (Bool.eq_false_iff.2 q28))) (ae (wn (congrArg Bool.not (Bool.eq_false_iff.2 q28))) (ae (wn (congrArg Bool.not (Bool.eq_false_iff.2 q28))) (lw (vb true) (av rfl (congrArg Bool.not (Bool.eq_false_iff.2 q28)) rfl) (mv (vb true) (ae (wn rfl) (ae (wn rfl) (lw (vb true) (av rfl rfl rfl) (ag (aj rfl rfl ?_))))))))))
  refine a9 ?_
  clear bx5
  refine a6 rfl (ma (vb true) (ag (aB (vs:=[vb true]) Try.func6 (.tmp rfl .nil) ?_)))
  have e0:(true:Bool)=(true):=by
    rfl
  have C147:=cg [] (ch2.n.seq (hb7.n.seq (hb9.n.seq hb11.n)))
  replace bH:=bH.ca C147
  exact⟨rb e0,bH.below⟩
 refine ae (wn (congrArg Bool.not (Bool.eq_false_iff.2 q23))) (ae (wn (congrArg Bool.not (Bool.eq_false_iff.2 q23))) (ae (wn (congrArg Bool.not (Bool.eq_false_iff.2 q23))) (lw (vb true) (av rfl (congrArg Bool.not (Bool.eq_false_iff.2 q23)) rfl) (mv (vb true) (ae (wn rfl) (ae (wn rfl) (ae (wn rfl) (ae (wn rfl) (lw (vb true) (av rfl rfl rfl) (mv (vb true) (ae (wn rfl) (ae (wn rfl) (lw (vb true) (av rfl rfl rfl) ?_)))))))))))))
 refine ag (aj rfl rfl (a9 ?_))
 clear bx5
 refine a6 rfl (ma (vb true) (ag (aB (vs:=[vb true]) Try.func6 (.tmp rfl .nil) ?_)))
 have e0:(true:Bool)=(true):=by
   rfl
 have C148:=cg [] (ch2.n.seq (hb7.n.seq hb9.n))
 replace bH:=bH.ca C148
 exact⟨rb e0,bH.below⟩
end TL
