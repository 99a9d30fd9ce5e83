import Derived.Test.YtbadiajeohbpcaaGreatTlP3
import Derived.Test.YtbadiajeohbpcaaGreatTlGmA
import Derived.Test.YtbadiajeohbpcaaGreatTlGmN
import Derived.Test.YtbadiajeohbpcaaGreatProg
import Derived.Test.YtbadiajeohbpcaaGreatTlAli
set_option linter.all false
set_option maxRecDepth 20000
namespace TL
open Go Go.Proofs
theorem dV:Tryz.prog.follows .mixedOrders=true:=by kernel_rfl
theorem lO:Tp Tryz.prog 123 true 4 32 (.agg #[.int .i64 0,.int .i64 0,.int .i64 0,.int .i64 0]):=Tp.of (by kernel_rfl)
theorem ru:Tryz.f57.body.isNone=false:=rfl
theorem rS:(Tryz.f57.name== "runtime.NumGoroutine")=false:=by decide+kernel
theorem qV:Tryz.f79.body.isNone=false:=rfl
theorem rf:(Tryz.f79.name== "runtime.NumGoroutine")=false:=by decide+kernel
theorem lR(w0:World)(ps:List Pt)(ps_v:Value)(hps_v:Ro w0 ps_v ps)(hlen:ps.length<=1000000):
    Calls Tryz.prog 26 #[ps_v] w0 (λee w=>∃xx:aK×Value,ee= .returned ((λ⟨δ,rv0⟩=>rv0) xx)/\(λ(⟨δ,rv0⟩:aK×Value) (w:World)=>em w0 δ w/\Ow δ (is 1) (is 1) w (fS rv0) (ps++[((-7:Int),(7:Int))])) xx w):=by
 refine au Tryz.func26 rfl nq ?_
 have bH:=aT.start w0
 have Rps:=hps_v.sl
 refine a7 (a6 rfl (ma vn (aa (a7 (a6 rfl (mv ps_v (lo (aV (α:=Pt) (xs:=([])) (ys:=ps) c0 (J:=is 1) (S:=is 1) (1,0) rfl bS ah (by decide) rfl rfl rfl Ow.nil Rps (by decide) (by(simp;omega)) ?_))))))))
 intro g1 w2 v3 ch4 o5
 replace o5:Ow g1 (is 1) (is 1) w2 v3 ps:=o5
 refine lo (aO (v:=vg [vi (-7),vi 7]) (aA (vals:=[vi (-7),vi 7]) Tryz.func57 ru rS rfl) (yN w2 (-7) 7) ?_)
 intro w6 hb7
 replace hb7:=ao hb7 g1
 refine lo (aG (α:=Pt) g1 (is 2) (is 2) (2,0) rfl [((-7),7)] bS ah (by decide) (by decide) (vs:=[(0,vg [vi (-7),vi 7])]) rfl rfl (.cons rfl .nil) ?_)
 intro g8 w9 v10 ch11 o12
 refine lo ?_
 replace o5:=(o5.cn hb7).cn ch11
 refine aV (α:=Pt) (xs:=ps) (ys:=([((-7),7)])) g8 (J:=is 1) (S:=is 1) (1,0) rfl bS ah (by decide) rfl rfl rfl o5 o12.flat (by decide) (by(simp;omega)) ?_
 intro g13 w14 v15 ch16 o17
 clear o5
 refine mv ps_v ?_
 have C18:=cg [1] ((ch4.l rfl).seq (hb7.n.seq (ch11.n.seq (ch16.l rfl))))
 replace Rps:=Rps.ca C18
 have len19:=(Rps).small
 refine lx (aQ bS rfl Rps) (lw ((eE v15 2 (Int.toNat 0) (Int.toNat (ps.length:Int)))) (hU (v:=v15) (l:=0) (h:=(ps.length:Int)) bS rfl rfl o17.flat (.inr ⟨rfl,rfl⟩) (.inl (congrArg some rfl)) (by omega) (by omega) (by(simp only[List.length_append,List.length_cons,List.length_nil];omega))) ?_)
 have r21:=jp o17.flat (show Int.toNat 0<=Int.toNat (ps.length:Int) by omega) (show Int.toNat (ps.length:Int)<=List.length _ by(simp only[List.length_append,List.length_cons,List.length_nil];omega))
 refine ma ((eE v15 2 (Int.toNat 0) (Int.toNat (ps.length:Int)))) (aa (ar (vs:=[(eE v15 2 (Int.toNat 0) (Int.toNat (ps.length:Int)))]) Tryz.func26 (.tmp rfl .nil) ?_))
 replace bH:=bH.ca C18
 have e0:((List.drop (Int.toNat 0) (List.take (Int.toNat (ps.length:Int)) (ps++[((-7),7)]))):List Pt)=(ps):=by
   simp
 exact⟨(fin w0 g13 (λn=>if n=1 then 1 else 0),(eE v15 2 (Int.toNat 0) (Int.toNat (ps.length:Int)))),(congrArg (a₁:=(List.drop (Int.toNat 0) (List.take (Int.toNat (ps.length:Int)) (ps++[((-7),7)])))) (λ(z0:List Pt)=>Ending.returned ((eE v15 2 (Int.toNat 0) (Int.toNat (ps.length:Int))))) e0),bH.fresh _,(s8 (o17.glue (γ:=c0) (ren:=(λn=>if n=1 then 1 else 0)) (k:=1) bH.col rfl rfl) (by simp))⟩
theorem py(w0:World)(t:List Pt)(t_v:Value)(ht_v:Ro w0 t_v t)(ps:List Pt)(ps_v:Value)(hps_v:Ro w0 ps_v ps)(hmark:Ro w0 (fS t_v) (t++[((-7:Int),(7:Int))]))(he:t=ps):
    Calls Tryz.prog 40 #[t_v,ps_v] w0 (λee w=>ee= .returned (vb true)/\cE w0.heap.size w0 w):=by
 refine au Tryz.func40 rfl nq ?_
 have bH:=aT.start w0
 have Rt:=ht_v.sl
 have Rps:=hps_v.sl
 have r_up:=hmark.sl
 have htl:t.length=ps.length:=by rw[he]
 refine a7 (a6 rfl (ma (vb false) (aa (a7 (a7 (a6 rfl (ai 0 (aa (am ?_)))))))))
 refine aN (σ:=Nat×aK) (λ⟨i,gq⟩ f w=>aT w0 gq w/\f 0=t_v/\f 1=ps_v/\f 5=vi ↑i/\Sl gq (is 0) w t_v t/\Sl gq (is 0) w ps_v ps/\Sl gq (is 0) w (fS t_v) (t++[((-7:Int),(7:Int))])/\(i:Int)<=((ps.length:Int):Int)/\(True)) (λ⟨i,gq⟩=>Int.toNat (((ps.length:Int):Int)-(i:Int))) (0,c0) ?_ ?_
 · exact⟨bH,rfl,rfl,rfl,Rt,Rps,r_up,by omega,by trivial⟩
 clear Rt Rps r_up bH
 rintro⟨i,g3⟩ f1 w2 ⟨bH,zs0,zs1,zs5,Rt,Rps,r_up,hle_i,hinv2⟩ back2
 refine a7 (a7 (a6 rfl (mz zs5 (mz zs1 ?_))))
 have len4:=(Rps).small
 refine lx (aQ bS rfl Rps) (lx (aZ (m:=↑i) (n:=(ps.length:Int)) rfl rfl) (aa ?_))
 by_cases p2:(i:Int)<(ps.length:Int)
 ·
  refine af rfl (dt p2) (ak (a7 (am (a7 (bz g3 rfl dV (by kernel_rfl) ?_)))))
  intro w6 ch5
  refine qz zs0 (qz zs5 ?_)
  replace Rt:=Rt.cn ch5
  refine qx (λw' hw'=>ad (v:=t_v) (i:=↑i) bS rfl rfl (Rt.bel hw') rfl (by omega) (by omega)) (qv (vg [vi ((gI t ↑i).1),vi ((gI t ↑i).2)]) (λw' hw'=>aF (v:=t_v) (i:=↑i) ah rfl (Rt.bel hw') (by omega) (by omega) rfl) (qz zs1 (qz zs5 ?_)))
  replace Rps:=Rps.cn ch5
  refine qx (λw' hw'=>ad (v:=ps_v) (i:=↑i) bS rfl rfl (Rps.bel hw') rfl (by omega) (by omega)) (qv (vg [vi ((gI ps ↑i).1),vi ((gI ps ↑i).2)]) (λw' hw'=>aF (v:=ps_v) (i:=↑i) ah rfl (Rps.bel hw') (by omega) (by omega) rfl) (qv (vb (!(decide ((gI t ↑i)=(gI ps ↑i))))) (λw' hw'=>de (bs:=[decide (((gI t ↑i).1)=((gI ps ↑i).1)),decide (((gI t ↑i).2)=((gI ps ↑i).2))]) cj (by kernel_rfl) (by kernel_rfl) rfl rfl (.cons (by decide+kernel) az rfl rfl (.int U3) (.cons (by decide+kernel) az rfl rfl (.int U3) .nil)) (by simp[Prod.ext_iff,Bool.decide_and,Bool.and_assoc])) (bN ?_)))
  intro w7 hc8
  replace hc8:=ao hc8 g3
  have p4:(gI t ↑i)=(gI ps ↑i):=by(rw[he];done)
  refine ag rfl (congrArg Bool.not (dt p4)) (ak (al (a6 rfl (mz zs5 (lx (aM (m:=↑i) (n:=1) rfl rfl (by omega)) (ai ((i:Int)+1) (aa ?_)))))))
  replace bH:=bH.cn ch5
  refine back2 (i+1,g3) _ _ ⟨bH.cn hc8,zs0,zs1,rfl,Rt.cn hc8,Rps.cn hc8,(r_up.cn ch5).cn hc8,by omega,?_⟩ ?_
  · show True
    trivial
  · show Int.toNat (((ps.length:Int):Int)-((i+1):Int))<Int.toNat (((ps.length:Int):Int)-(i:Int))
    omega
 refine ag rfl (df p2) (aJ rfl (a7 (bz g3 rfl dV (by kernel_rfl) ?_)))
 intro w10 ch9
 refine qz zs0 ?_
 replace Rt:=Rt.cn ch9
 have len11:=(Rt).small
 refine qx (λw' hw'=>aQ bS rfl (Rt.bel hw')) (qz zs1 ?_)
 replace Rps:=Rps.cn ch9
 refine qx (λw' hw'=>aQ bS rfl (Rps.bel hw')) (qx (λw' hw'=>c7 (m:=(t.length:Int)) (n:=(ps.length:Int)) rfl rfl) (qm (vb (decide ((t.length:Int)=(ps.length:Int)))) ?_))
 have q26:(t.length:Int)=(ps.length:Int):=by(rw[he];done)
 refine aH (v:=t_v) (wy (dt q26)) (λw' hw'=>aq zs0) (aH (v:=ps_v) (wy (dt q26)) (λw' hw'=>aq zs1) (aH (v:=vi (ps.length:Int)) (wy (dt q26)) (λw' hw'=>aQ bS rfl (Rps.bel hw')) (aH (v:=vi ((ps.length:Int)+1)) (wy (dt q26)) (λw' hw'=>aM (m:=(ps.length:Int)) (n:=1) rfl rfl (by omega)) ?_)))
 replace r_up:=r_up.cn ch9
 refine aH (v:=(fS t_v)) (wy (dt q26)) (λw' hw'=>lS (α:=Int×Int) bS rfl rfl (r_up.bel hw') rfl (by omega)) (aH (v:=ps_v) (wy (dt q26)) (λw' hw'=>aq zs1) (aH (v:=vi (ps.length:Int)) (wy (dt q26)) (λw' hw'=>aQ bS rfl (Rps.bel hw')) (aH (v:=Value.pointer (some (aR (fS t_v) 2 (Int.toNat (ps.length:Int))))) (wy (dt q26)) (λw' hw'=>ad (α:=Pt) (xs:=t++[((-7:Int),(7:Int))]) (v:=(fS t_v)) (i:=(ps.length:Int)) bS rfl rfl (r_up.bel hw') rfl (by(omega)) (by((simp only[List.length_append,List.length_cons,List.length_nil];omega)))) ?_)))
 refine aH (v:=vg [vi ((gI (t++[((-7:Int),(7:Int))]) (ps.length:Int)).1),vi ((gI (t++[((-7:Int),(7:Int))]) (ps.length:Int)).2)]) (wy (dt q26)) (λw' hw'=>aF (α:=Pt) (xs:=t++[((-7:Int),(7:Int))]) (v:=(fS t_v)) (i:=(ps.length:Int)) ah rfl (r_up.bel hw') (by(omega)) (by((simp only[List.length_append,List.length_cons,List.length_nil];omega))) rfl) (cl (v:=vg [vi (-7),vi 7]) (wy (dt q26)) (λw' hw'=>aA (vals:=[vi (-7),vi 7]) Tryz.func57 ru rS rfl) (λw' hw'=>(yN w' (-7) 7).mono λe w2 h2=>⟨h2.1,hw'.trans (h2.2.mono hw'.size)⟩) ?_)
 refine aH (v:=vb (decide ((gI (t++[((-7:Int),(7:Int))]) (ps.length:Int))=((-7),7)))) (wy (dt q26)) (λw' hw'=>dh (bs:=[decide (((gI (t++[((-7:Int),(7:Int))]) (ps.length:Int)).1)=(-7)),decide (((gI (t++[((-7:Int),(7:Int))]) (ps.length:Int)).2)=7)]) cj (by kernel_rfl) (by kernel_rfl) rfl rfl (.cons (by decide+kernel) az rfl rfl (.int U3) (.cons (by decide+kernel) az rfl rfl (.int U3) .nil)) (by simp[Prod.ext_iff,Bool.decide_and,Bool.and_assoc])) (qv (vb (decide ((gI (t++[((-7:Int),(7:Int))]) (ps.length:Int))=((-7),7)))) (λw' hw'=>aD rfl (dt q26) rfl) (qv (vb (decide ((gI (t++[((-7:Int),(7:Int))]) (ps.length:Int))=((-7),7)))) (λw' hw'=>br rfl) ?_))
 refine bN ?_
 intro w12 hc13
 replace hc13:=ao hc13 g3
 refine ar (vs:=[vb (decide ((gI (t++[((-7:Int),(7:Int))]) (ps.length:Int))=((-7),7)))]) Tryz.func40 (.tmp rfl .nil) ?_
 have e0:(decide ((gI (t++[((-7:Int),(7:Int))]) (ps.length:Int))=((-7),7)):Bool)=(true):=by
   (rw[<-htl,xR];rfl)
 replace bH:=bH.cn ch9
 replace bH:=bH.cn hc13
 exact⟨(congrArg (a₁:=decide ((gI (t++[((-7:Int),(7:Int))]) (ps.length:Int))=((-7),7))) (λ(z0:Bool)=>Ending.returned (vb z0)) e0),bH.below⟩
theorem vQ(w0:World)(ps:List Pt)(ps_v:Value)(hps_v:Ro w0 ps_v ps)(h0:0<ps.length):
    Calls Tryz.prog 48 #[ps_v] w0 (λee w=>ee= .returned (vt [vg [vi ((gL ps ps.length).1),vi ((gL ps ps.length).2)],vg [vi ((gO ps ps.length).1),vi ((gO ps ps.length).2)]])/\cE w0.heap.size w0 w):=by
 refine au Tryz.func48 rfl nq ?_
 have bH:=aT.start w0
 have Rps:=hps_v.sl
 refine a7 (a6 rfl (bW rfl (aS c0 (is 1) (1,0) rfl ah ?_)))
 intro g4 w1 b3 ch2 bx5
 replace bx5:Bx g4 (is 1) w1 b3 [vi 0,vi 0]:=bx5
 refine lo (aS g4 (is 2) (2,0) rfl ah ?_)
 intro g9 w6 b8 ch7 bx10
 replace bx10:Bx g9 (is 2) w6 b8 [vi 0,vi 0]:=bx10
 refine aa (a7 ?_)
 refine dj (σ:=Nat×Nat×aK) (λ⟨b16,b22,gq⟩ f w=>aT w0 gq w/\f 0=ps_v/\f 2=vp b3 0/\f 3=vp b8 0/\f 4=vp b16 0/\f 5=vp b22 0/\Sl gq (is 0) w ps_v ps/\Bx gq (is 1) w b3 [vi 0,vi 0]/\Bx gq (is 2) w b8 [vi 0,vi 0]/\Bx gq (is 3) w b16 [vi ((gI ps 0).1),vi ((gI ps 0).2)]/\Bx gq (is 4) w b22 [vi ((gI ps 0).1),vi ((gI ps 0).2)]) g9 (bV [3,4]) dV ?_ ?_
 ·
  intro mid
  intro w12 ch11
  refine ht (v:=ps_v) 0 rfl (bj.refl _ _ _) (λw' hw'=>aq rfl) ?_
  have C13:=cg [] (ch2.n.seq (ch7.n.seq ch11.n))
  replace Rps:=Rps.ca C13
  refine ht 1 rfl (bj.refl _ _ _) (λw' hw'=>ad (v:=ps_v) (i:=0) bS rfl rfl (Rps.chg hw' (bD rfl)) rfl (by omega) (by omega)) (ht (v:=vg [vi ((gI ps 0).1),vi ((gI ps 0).2)]) 2 rfl (bj.refl _ _ _) (λw' hw'=>aF (v:=ps_v) (i:=0) ah rfl (Rps.chg hw' (bD rfl)) (by omega) (by omega) rfl) (ht (v:=ps_v) 3 rfl (bj.refl _ _ _) (λw' hw'=>aq rfl) (ht 4 rfl (bj.refl _ _ _) (λw' hw'=>ad (v:=ps_v) (i:=0) bS rfl rfl (Rps.chg hw' (bD rfl)) rfl (by omega) (by omega)) (ht (v:=vg [vi ((gI ps 0).1),vi ((gI ps 0).2)]) 5 rfl (bj.refl _ _ _) (λw' hw'=>aF (v:=ps_v) (i:=0) ah rfl (Rps.chg hw' (bD rfl)) (by omega) (by omega) rfl) ?_))))
  refine cy 6 [7] (by kernel_rfl) ⟨cv 6 rfl (by kernel_rfl) rfl ?_,cv 7 rfl (by kernel_rfl) rfl ?_,trivial⟩
  ·
   refine aS g9 (is 3) (3,0) rfl ah ?_
   intro g17 w14 b16 ch15 bx18
   replace bx18:Bx g17 (is 3) w14 b16 [vi 0,vi 0]:=bx18
   have hs19:bj (bV [3,4]) _ _ _ _:=ch15.n
   refine⟨hs19.same,?_⟩
   refine aP 7 rfl (by kernel_rfl) rfl (aS g17 (is 4) (4,0) rfl ah ?_)
   intro g23 w20 b22 ch21 bx24
   replace bx24:Bx g23 (is 4) w20 b22 [vi 0,vi 0]:=bx24
   have hs25:=hs19.seq (ch21.n)
   refine⟨hs25.same,?_⟩
   refine aP 8 rfl (by kernel_rfl) rfl ?_
   replace bx18:=bx18.cn ch21
   refine aw (cs':=[vi ((gI ps 0).1),vi ((gI ps 0).2)]) ah rfl rfl bx18 rfl nq (AllOne.all (.cons rfl (.cons rfl .nil))) rfl ?_
   intro w26 ch27 bx28
   clear bx18
   have hs29:=hs25.seq (ch27.l rfl)
   refine⟨hs29.same,?_⟩
   refine aP 9 rfl (by kernel_rfl) rfl ?_
   replace bx24:=bx24.ce ch27
   refine aw (cs':=[vi ((gI ps 0).1),vi ((gI ps 0).2)]) ah rfl rfl bx24 rfl nq (AllOne.all (.cons rfl (.cons rfl .nil))) rfl ?_
   intro w30 ch31 bx32
   clear bx24
   have hs33:=hs29.seq (ch31.l rfl)
   refine⟨hs33.same,?_⟩
   refine c9 (by kernel_rfl) ?_
   have C34:=cg [3,4] (ch2.n.seq (ch7.n.seq (ch11.n.seq (ch15.n.seq (ch21.n.seq ((ch27.l rfl).seq (ch31.l rfl)))))))
   replace bx5:=(bx5.cn ch7).cn ch11
   replace bx10:=bx10.cn ch11
   exact mid (b16,b22,g23) _ _ ⟨bH.ca C34,rfl,rfl,rfl,rfl,rfl,(Rps.ca hs33),(bx5.ca hs33),(bx10.ca hs33),bx28.ce ch31,bx32⟩
  ·
   refine aS g9 (is 4) (4,0) rfl ah ?_
   intro g38 w35 b37 ch36 bx39
   replace bx39:Bx g38 (is 4) w35 b37 [vi 0,vi 0]:=bx39
   have hs40:bj (bV [3,4]) _ _ _ _:=ch36.n
   refine⟨hs40.same,?_⟩
   refine aP 6 rfl (by kernel_rfl) rfl (aS g38 (is 3) (3,0) rfl ah ?_)
   intro g44 w41 b43 ch42 bx45
   replace bx45:Bx g44 (is 3) w41 b43 [vi 0,vi 0]:=bx45
   have hs46:=hs40.seq (ch42.n)
   refine⟨hs46.same,?_⟩
   refine aP 8 rfl (by kernel_rfl) rfl (aw (cs':=[vi ((gI ps 0).1),vi ((gI ps 0).2)]) ah rfl rfl bx45 rfl nq (AllOne.all (.cons rfl (.cons rfl .nil))) rfl ?_)
   intro w47 ch48 bx49
   clear bx45
   have hs50:=hs46.seq (ch48.l rfl)
   refine⟨hs50.same,?_⟩
   refine aP 9 rfl (by kernel_rfl) rfl ?_
   replace bx39:=(bx39.cn ch42).ce ch48
   refine aw (cs':=[vi ((gI ps 0).1),vi ((gI ps 0).2)]) ah rfl rfl bx39 rfl nq (AllOne.all (.cons rfl (.cons rfl .nil))) rfl ?_
   intro w51 ch52 bx53
   clear bx39
   have hs54:=hs50.seq (ch52.l rfl)
   refine⟨hs54.same,?_⟩
   refine c9 (by kernel_rfl) ?_
   have C55:=cg [3,4] (ch2.n.seq (ch7.n.seq (ch11.n.seq (ch36.n.seq (ch42.n.seq ((ch48.l rfl).seq (ch52.l rfl)))))))
   replace bx5:=(bx5.cn ch7).cn ch11
   replace bx10:=bx10.cn ch11
   exact mid (b43,b37,g44) _ _ ⟨bH.ca C55,rfl,rfl,rfl,rfl,rfl,(Rps.ca hs54),(bx5.ca hs54),(bx10.ca hs54),bx49.ce ch52,bx53⟩
 clear Rps bx5 bx10 bH
 rintro⟨b16,b22,g58⟩ f56 w57 ⟨bH,zs0,zs2,zs3,zs4,zs5,Rps,bx5,bx10,bx28,bx32⟩
 refine a7 (a7 (a6 rfl (ai 0 (aa (am ?_)))))
 refine aN (σ:=Int×Int×Int×Int×Nat×aK) (λ⟨t4_0,t4_1,t5_0,t5_1,k,gq⟩ f w=>aT w0 gq w/\f 0=ps_v/\f 2=vp b3 0/\f 3=vp b8 0/\f 4=vp b16 0/\f 5=vp b22 0/\f 6=vi ↑k/\Sl gq (is 0) w ps_v ps/\Bx gq (is 1) w b3 [vi 0,vi 0]/\Bx gq (is 2) w b8 [vi 0,vi 0]/\Bx gq (is 3) w b16 [vi t4_0,vi t4_1]/\Bx gq (is 4) w b22 [vi t5_0,vi t5_1]/\(k:Int)<=((ps.length:Int):Int)/\((t4_0=(gL ps k).1/\t4_1=(gL ps k).2)/\t5_0=(gO ps k).1/\t5_1=(gO ps k).2)) (λ⟨t4_0,t4_1,t5_0,t5_1,k,gq⟩=>Int.toNat (((ps.length:Int):Int)-(k:Int))) ((gI ps 0).1,(gI ps 0).2,(gI ps 0).1,(gI ps 0).2,0,g58) ?_ ?_
 · exact⟨bH,zs0,zs2,zs3,zs4,zs5,rfl,Rps,bx5,bx10,bx28,bx32,by omega,by exact⟨⟨rfl,rfl⟩,rfl,rfl⟩⟩
 clear Rps bx5 bx10 bx28 bx32 bH
 rintro⟨t4_0,t4_1,t5_0,t5_1,k,g61⟩ f59 w60 ⟨bH,zs0,zs2,zs3,zs4,zs5,zs6,Rps,bx5,bx10,bx28,bx32,hle_k,hinv⟩ back3
 refine a7 (a7 (a6 rfl (mz zs6 (mz zs0 ?_))))
 have len62:=(Rps).small
 refine lx (aQ bS rfl Rps) (lx (aZ (m:=↑k) (n:=(ps.length:Int)) rfl rfl) (aa ?_))
 by_cases p3:(k:Int)<(ps.length:Int)
 ·
  refine af rfl (dt p3) (ak (a7 (am (a7 (c6 g61 [0,1,2,3,4,5,6,7,8,9,10,11,12,13,14,15,16] dV ?_)))))
  intro w64 ch63
  refine xp 0 rfl (λw=>a8 cj rfl rfl zs4 rfl) ?_
  replace bx28:=bx28.cn ch63
  refine xv 1 [0,2,3,8,10,11,4,9,12,5,13,6,14,15] rfl (ab az rfl bx28 rfl) (xp (v:=ps_v) 2 rfl (λw=>aq zs0) (xp (v:=vi ↑k) 3 rfl (λw=>aq zs6) ?_))
  replace Rps:=Rps.cn ch63
  refine xv 4 [3,2,1,0,8,10,11,9,12,13,14,15] rfl (ad (v:=ps_v) (i:=↑k) bS rfl rfl Rps rfl (by omega) (by omega)) (xp (v:=Value.pointer (some ⟨(aR ps_v 2 (Int.toNat ↑k)).block,(aR ps_v 2 (Int.toNat ↑k)).off+0,none⟩)) 5 rfl (λw=>ch cj rfl rfl rfl rfl) (xv 6 [5,4,3,2,1,0,8,10,11,9,12,13,14,15] rfl (bJ (v:=ps_v) (i:=↑k) az rfl Rps (by omega) (by omega) (by decide) rfl) (xp (v:=vi (min t4_0 ((gI ps ↑k).1))) 7 rfl (λw=>kj rfl rfl) (xp 8 rfl (λw=>a8 cj rfl rfl zs4 rfl) (xv 9 [8,7,6,5,4,3,2,1,0,10,11,12,13,14] rfl (ab az rfl bx28 rfl) (xp (v:=ps_v) 10 rfl (λw=>aq zs0) ?_))))))
  refine xp (v:=vi ↑k) 11 rfl (λw=>aq zs6) (xv 12 [11,10,9,8,7,6,5,4,3,2,1,0] rfl (ad (v:=ps_v) (i:=↑k) bS rfl rfl Rps rfl (by omega) (by omega)) (xp (v:=Value.pointer (some ⟨(aR ps_v 2 (Int.toNat ↑k)).block,(aR ps_v 2 (Int.toNat ↑k)).off+1,none⟩)) 13 rfl (λw=>ch cj rfl rfl rfl rfl) (xv 14 [13,12,11,10,9,8,7,6,5,4,3,2,1,0] rfl (bJ (v:=ps_v) (i:=↑k) az rfl Rps (by omega) (by omega) (by decide) rfl) (xp (v:=vi (min t4_1 ((gI ps ↑k).2))) 15 rfl (λw=>kj rfl rfl) ?_))))
  refine xp (v:=vg [vi (min t4_0 ((gI ps ↑k).1)),vi (min t4_1 ((gI ps ↑k).2))]) 16 rfl (λw=>bw (vs:=[(0,vi (min t4_0 ((gI ps ↑k).1))),(1,vi (min t4_1 ((gI ps ↑k).2)))]) rfl (by kernel_rfl)) (ct 17 rfl (by kernel_rfl) rfl (aw (cs':=[vi (min t4_0 ((gI ps ↑k).1)),vi (min t4_1 ((gI ps ↑k).2))]) ah zs4 rfl bx28 rfl nq (AllOne.all (.cons rfl (.cons rfl .nil))) rfl ?_))
  intro w65 ch66 bx67
  clear bx28
  refine ec (by kernel_rfl) (c6 g61 [0,1,2,3,4,5,6,7,8,9,10,11,12,13,14,15,16] dV ?_)
  intro w69 ch68
  refine xp 0 rfl (λw=>a8 cj rfl rfl zs5 rfl) ?_
  have C70:=cg [3] (ch63.n.seq ((ch66.l rfl).seq ch68.n))
  replace bx32:=bx32.ca C70
  refine xv 1 [0,2,3,8,10,11,4,9,12,5,13,6,14,15] rfl (ab az rfl bx32 rfl) (xp (v:=ps_v) 2 rfl (λw=>aq zs0) (xp (v:=vi ↑k) 3 rfl (λw=>aq zs6) ?_))
  replace Rps:=(Rps.ce ch66).cn ch68
  refine xv 4 [3,2,1,0,8,10,11,9,12,13,14,15] rfl (ad (v:=ps_v) (i:=↑k) bS rfl rfl Rps rfl (by omega) (by omega)) (xp (v:=Value.pointer (some ⟨(aR ps_v 2 (Int.toNat ↑k)).block,(aR ps_v 2 (Int.toNat ↑k)).off+0,none⟩)) 5 rfl (λw=>ch cj rfl rfl rfl rfl) (xv 6 [5,4,3,2,1,0,8,10,11,9,12,13,14,15] rfl (bJ (v:=ps_v) (i:=↑k) az rfl Rps (by omega) (by omega) (by decide) rfl) (xp (v:=vi (max t5_0 ((gI ps ↑k).1))) 7 rfl (λw=>jM rfl rfl) (xp 8 rfl (λw=>a8 cj rfl rfl zs5 rfl) (xv 9 [8,7,6,5,4,3,2,1,0,10,11,12,13,14] rfl (ab az rfl bx32 rfl) (xp (v:=ps_v) 10 rfl (λw=>aq zs0) ?_))))))
  refine xp (v:=vi ↑k) 11 rfl (λw=>aq zs6) (xv 12 [11,10,9,8,7,6,5,4,3,2,1,0] rfl (ad (v:=ps_v) (i:=↑k) bS rfl rfl Rps rfl (by omega) (by omega)) (xp (v:=Value.pointer (some ⟨(aR ps_v 2 (Int.toNat ↑k)).block,(aR ps_v 2 (Int.toNat ↑k)).off+1,none⟩)) 13 rfl (λw=>ch cj rfl rfl rfl rfl) (xv 14 [13,12,11,10,9,8,7,6,5,4,3,2,1,0] rfl (bJ (v:=ps_v) (i:=↑k) az rfl Rps (by omega) (by omega) (by decide) rfl) (xp (v:=vi (max t5_1 ((gI ps ↑k).2))) 15 rfl (λw=>jM rfl rfl) ?_))))
  refine xp (v:=vg [vi (max t5_0 ((gI ps ↑k).1)),vi (max t5_1 ((gI ps ↑k).2))]) 16 rfl (λw=>bw (vs:=[(0,vi (max t5_0 ((gI ps ↑k).1))),(1,vi (max t5_1 ((gI ps ↑k).2)))]) rfl (by kernel_rfl)) (ct 17 rfl (by kernel_rfl) rfl (aw (cs':=[vi (max t5_0 ((gI ps ↑k).1)),vi (max t5_1 ((gI ps ↑k).2))]) ah zs5 rfl bx32 rfl nq (AllOne.all (.cons rfl (.cons rfl .nil))) rfl ?_))
  intro w71 ch72 bx73
  clear bx32
  refine ec (by kernel_rfl) (al (a6 rfl (mz zs6 (lx (aM (m:=↑k) (n:=1) rfl rfl (by omega)) (ai ((k:Int)+1) (aa ?_))))))
  have C74:=cg [3,4] (ch63.n.seq ((ch66.l rfl).seq (ch68.n.seq (ch72.l rfl))))
  refine back3 (min t4_0 ((gI ps ↑k).1),min t4_1 ((gI ps ↑k).2),max t5_0 ((gI ps ↑k).1),max t5_1 ((gI ps ↑k).2),k+1,g61) _ _ ⟨bH.ca C74,zs0,zs2,zs3,zs4,zs5,rfl,Rps.ce ch72,bx5.ca C74,bx10.ca C74,(bx67.cn ch68).ce ch72,bx73,by omega,?_⟩ ?_
  · show((min t4_0 ((gI ps ↑k).1))=(gL ps (k+1)).1/\(min t4_1 ((gI ps ↑k).2))=(gL ps (k+1)).2)/\(max t5_0 ((gI ps ↑k).1))=(gO ps (k+1)).1/\(max t5_1 ((gI ps ↑k).2))=(gO ps (k+1)).2
    (obtain⟨⟨e1,e2⟩,e3,e4⟩:=hinv;rw[e1,e2,e3,e4];exact⟨⟨rfl,rfl⟩,rfl,rfl⟩)
  · show Int.toNat (((ps.length:Int):Int)-((k+1):Int))<Int.toNat (((ps.length:Int):Int)-(k:Int))
    omega
 refine ag rfl (df p3) (aJ rfl (a7 (eu g61 (bV [1,2]) dV ?_)))
 intro w76 ch75
 replace bx28:=bx28.cn ch75
 refine ht 0 rfl (bj.refl _ _ _) (λw' hw'=>aj (ds:=[vi t4_0,vi t4_1]) ah zs4 (bx28.chg hw' (bD rfl)) rfl rfl) ?_
 replace bx32:=bx32.cn ch75
 refine ht 1 rfl (bj.refl _ _ _) (λw' hw'=>aj (ds:=[vi t5_0,vi t5_1]) ah zs5 (bx32.chg hw' (bD rfl)) rfl rfl) (aP 2 rfl (by kernel_rfl) rfl ?_)
 replace bx5:=bx5.cn ch75
 refine aw (cs':=[vi t4_0,vi t4_1]) ah zs2 rfl bx5 rfl nq (AllOne.all (.cons rfl (.cons rfl .nil))) rfl ?_
 intro w77 ch78 bx79
 clear bx5
 have hs80:bj (bV [1,2]) _ _ _ _:=ch78.l rfl
 refine⟨hs80.same,?_⟩
 refine aP 3 rfl (by kernel_rfl) rfl ?_
 replace bx10:=(bx10.cn ch75).ce ch78
 refine aw (cs':=[vi t5_0,vi t5_1]) ah zs3 rfl bx10 rfl nq (AllOne.all (.cons rfl (.cons rfl .nil))) rfl ?_
 intro w81 ch82 bx83
 clear bx10
 have hs84:=hs80.seq (ch82.l rfl)
 refine⟨hs84.same,?_⟩
 refine c9 (by kernel_rfl) ?_
 replace bx79:=bx79.ce ch82
 refine ar (vs:=[vg [vi t4_0,vi t4_1],vg [vi t5_0,vi t5_1]]) Tryz.func48 (.cell zs2 (cB (ds:=[vi t4_0,vi t4_1]) ah bx79 rfl rfl) (.cell zs3 (cB (ds:=[vi t5_0,vi t5_1]) ah bx83 rfl rfl) .nil)) ?_
 have e0:((t4_0,t4_1):Pt)=(gL ps ps.length):=by
   have hk:k=ps.length:=by omega
   obtain⟨⟨e1,e2⟩,e3,e4⟩:=hinv
   rw[<-hk,e1,e2]
 have e1:((t5_0,t5_1):Pt)=(gO ps ps.length):=by
   have hk:k=ps.length:=by omega
   obtain⟨⟨e1,e2⟩,e3,e4⟩:=hinv
   rw[<-hk,e3,e4]
 have C85:=cg [1,2] (ch75.n.seq ((ch78.l rfl).seq (ch82.l rfl)))
 replace bH:=bH.ca C85
 exact⟨(bR (a:=(t4_0,t4_1)) (b:=(t5_0,t5_1)) (λ(z0:Pt) (z1:Pt)=>Ending.returned (vt [vg [vi z0.1,vi z0.2],vg [vi z1.1,vi z1.2]])) e0 e1),bH.below⟩
set_option maxHeartbeats 4000000 in
theorem oh(w0:World)(ps:List Pt)(ps_v:Value)(hps_v:Ro w0 ps_v ps)(hok:dy ps)(h0:0<ps.length):
    Calls Tryz.prog 50 #[ps_v] w0 (λee w=>ee= .returned (vb (decide (fp ps)))/\cE w0.heap.size w0 w):=by
 refine au Tryz.func50 rfl nq ?_
 have bH:=aT.start w0
 have Rps:=hps_v.sl
 have hok2:=hok
 obtain⟨hl1,hl2⟩:=hok
 refine a7 (a6 rfl (ma (vb false) (aa (a7 (a6 rfl (mv ps_v ?_))))))
 have len1:=(Rps).small
 refine lx (aQ bS rfl Rps) (lx (c3 (m:=(ps.length:Int)) (n:=1) rfl rfl (by omega)) (ai ((ps.length:Int)-1) (aa (a7 (a7 (a6 rfl (ai 0 (aa (am ?_)))))))))
 refine aN (σ:=Nat×aK) (λ⟨i,gq⟩ f w=>aT w0 gq w/\f 0=ps_v/\f 3=vi ((ps.length:Int)-1)/\f 4=vi ↑i/\Sl gq (is 0) w ps_v ps/\(i:Int)<=((ps.length:Int)-1:Int)/\(∀j:Nat,j<i->gI ps ↑j≠gI ps ((j:Int)+1))) (λ⟨i,gq⟩=>List.length ps-i) (0,c0) ?_ ?_
 · exact⟨bH,rfl,rfl,rfl,Rps,by omega,by intro j hj;omega⟩
 clear Rps bH
 rintro⟨i,g4⟩ f2 w3 ⟨bH,zs0,zs3,zs4,Rps,hle_i,hinv0⟩ back3
 refine a7 (a7 (a6 rfl (mz zs4 (mz zs3 (lx (aZ (m:=↑i) (n:=(ps.length:Int)-1) rfl rfl) (aa ?_))))))
 by_cases p3:(i:Int)<((ps.length:Int)-1)
 ·
  refine af rfl (dt p3) (ak (a7 (am (a7 (bz g4 rfl dV (by kernel_rfl) ?_)))))
  intro w6 ch5
  refine qz zs0 (qz zs4 ?_)
  replace Rps:=Rps.cn ch5
  refine qx (λw' hw'=>ad (v:=ps_v) (i:=↑i) bS rfl rfl (Rps.bel hw') rfl (by omega) (by omega)) (qv (vg [vi ((gI ps ↑i).1),vi ((gI ps ↑i).2)]) (λw' hw'=>aF (v:=ps_v) (i:=↑i) ah rfl (Rps.bel hw') (by omega) (by omega) rfl) (qz zs0 (qz zs4 (qx (λw' hw'=>aM (m:=↑i) (n:=1) rfl rfl (by omega)) (qx (λw' hw'=>ad (v:=ps_v) (i:=(i:Int)+1) bS rfl rfl (Rps.bel hw') rfl (by omega) (by omega)) (qv (vg [vi ((gI ps ((i:Int)+1)).1),vi ((gI ps ((i:Int)+1)).2)]) (λw' hw'=>aF (v:=ps_v) (i:=(i:Int)+1) ah rfl (Rps.bel hw') (by omega) (by omega) rfl) ?_))))))
  refine qv (vb (decide ((gI ps ↑i)=(gI ps ((i:Int)+1))))) (λw' hw'=>dh (bs:=[decide (((gI ps ↑i).1)=((gI ps ((i:Int)+1)).1)),decide (((gI ps ↑i).2)=((gI ps ((i:Int)+1)).2))]) cj (by kernel_rfl) (by kernel_rfl) rfl rfl (.cons (by decide+kernel) az rfl rfl (.int U3) (.cons (by decide+kernel) az rfl rfl (.int U3) .nil)) (by simp[Prod.ext_iff,Bool.decide_and,Bool.and_assoc])) (bN ?_)
  intro w7 hc8
  replace hc8:=ao hc8 g4
  by_cases p5:(gI ps ↑i)=(gI ps ((i:Int)+1))
  ·
   refine af rfl (dt p5) (a7 (a6 rfl (ma (vb false) (aa (ar (vs:=[vb false]) Tryz.func50 (.tmp rfl .nil) ?_)))))
   have e0:(false:Bool)=(decide (fp ps)):=by
     exact vD (i:=i) (by omega) ‹_›
   replace bH:=bH.cn ch5
   replace bH:=bH.cn hc8
   exact⟨rb e0,bH.below⟩
  refine ag rfl (df p5) (ak (al (a6 rfl (mz zs4 (lx (aM (m:=↑i) (n:=1) rfl rfl (by omega)) (ai ((i:Int)+1) (aa ?_)))))))
  replace bH:=bH.cn ch5
  refine back3 (i+1,g4) _ _ ⟨bH.cn hc8,zs0,zs3,rfl,Rps.cn hc8,by omega,?_⟩ ?_
  · show∀j:Nat,j<(i+1)->gI ps ↑j≠gI ps ((j:Int)+1)
    intro j hj
    by_cases e0:j=i
    · subst e0;assumption
    · exact hinv0 j (by omega)
  · show List.length ps-(i+1)<List.length ps-i
    omega
 refine ag rfl (df p3) (aJ rfl (a7 (a7 ?_)))
 have hd0:∀j:Nat,(j:Int)<(ps.length:Int)-1->gI ps ↑j≠gI ps ((j:Int)+1):=λj hj=>hinv0 j (by omega)
 refine a6 rfl (ai 0 (aa (am ?_)))
 refine aN (σ:=Nat×aK) (λ⟨v,gq⟩ f w=>aT w0 gq w/\f 0=ps_v/\f 3=vi ((ps.length:Int)-1)/\f 5=vi ↑v/\Sl gq (is 0) w ps_v ps/\(v:Int)<=((ps.length:Int)-1:Int)/\(∀j_:Nat,j_<v->∀k_:Nat,j_<k_->(k_:Int)<(ps.length:Int)-1->¬fh ps j_ k_)) (λ⟨v,gq⟩=>List.length ps-v) (0,g4) ?_ ?_
 · exact⟨bH,zs0,zs3,rfl,Rps,by omega,by intro j hj;omega⟩
 clear Rps bH
 rintro⟨v,g11⟩ f9 w10 ⟨bH,zs0,zs3,zs5,Rps,hle_v,hinv⟩ back8
 refine a7 (a7 (a6 rfl (mz zs5 (mz zs3 (lx (aZ (m:=↑v) (n:=(ps.length:Int)-1) rfl rfl) (aa ?_))))))
 by_cases p8:(v:Int)<((ps.length:Int)-1)
 ·
  refine af rfl (dt p8) (ak (a7 (am (a7 (a6 rfl (mz zs5 (lx (aM (m:=↑v) (n:=1) rfl rfl (by omega)) (ai ((v:Int)+1) (aa (am ?_))))))))))
  refine aN (σ:=Nat×aK) (λ⟨k,gq⟩ f w=>aT w0 gq w/\f 0=ps_v/\f 3=vi ((ps.length:Int)-1)/\f 5=vi ↑v/\f 6=vi ↑k/\Sl gq (is 0) w ps_v ps/\(k:Int)<=((ps.length:Int)-1:Int)/\((∀j_:Nat,v<j_->j_<k->¬fh ps v j_)/\v<k)) (λ⟨k,gq⟩=>List.length ps-k) (v+1,g11) ?_ ?_
  · exact⟨bH,zs0,zs3,zs5,rfl,Rps,by omega,by exact⟨λj h1 h2=>by omega,by omega⟩⟩
  clear Rps bH
  rintro⟨k,g14⟩ f12 w13 ⟨bH,zs0,zs3,zs5,zs6,Rps,hle_k,hk⟩ back11
  refine a7 (a7 (a6 rfl (mz zs6 (mz zs3 (lx (aZ (m:=↑k) (n:=(ps.length:Int)-1) rfl rfl) (aa ?_))))))
  by_cases p11:(k:Int)<((ps.length:Int)-1)
  ·
   refine af rfl (dt p11) ?_
   have hb1:=(hl2 _ (bk (xs:=ps) (i:=↑v) (by omega) (by omega))).bd
   have hb2:=(hl2 _ (bk (xs:=ps) (i:=(v:Int)+1) (by omega) (by omega))).bd
   have hb3:=(hl2 _ (bk (xs:=ps) (i:=↑k) (by omega) (by omega))).bd
   have hb4:=(hl2 _ (bk (xs:=ps) (i:=(k:Int)+1) (by omega) (by omega))).bd
   have hrm:=pD hb1 hb2 hb3 hb4
   refine ak (a7 (am (a7 (bz g14 rfl dV (by kernel_rfl) ?_))))
   intro w16 ch15
   refine qz zs0 (qz zs5 ?_)
   replace Rps:=Rps.cn ch15
   refine qx (λw' hw'=>ad (v:=ps_v) (i:=↑v) bS rfl rfl (Rps.bel hw') rfl (by omega) (by omega)) (qv (vg [vi ((gI ps ↑v).1),vi ((gI ps ↑v).2)]) (λw' hw'=>aF (v:=ps_v) (i:=↑v) ah rfl (Rps.bel hw') (by omega) (by omega) rfl) (qz zs0 (qz zs5 (qx (λw' hw'=>aM (m:=↑v) (n:=1) rfl rfl (by omega)) (qx (λw' hw'=>ad (v:=ps_v) (i:=(v:Int)+1) bS rfl rfl (Rps.bel hw') rfl (by omega) (by omega)) (qv (vg [vi ((gI ps ((v:Int)+1)).1),vi ((gI ps ((v:Int)+1)).2)]) (λw' hw'=>aF (v:=ps_v) (i:=(v:Int)+1) ah rfl (Rps.bel hw') (by omega) (by omega) rfl) (qz zs0 (qz zs6 ?_))))))))
   refine qx (λw' hw'=>ad (v:=ps_v) (i:=↑k) bS rfl rfl (Rps.bel hw') rfl (by omega) (by omega)) (qv (vg [vi ((gI ps ↑k).1),vi ((gI ps ↑k).2)]) (λw' hw'=>aF (v:=ps_v) (i:=↑k) ah rfl (Rps.bel hw') (by omega) (by omega) rfl) (qz zs0 (qz zs6 (qx (λw' hw'=>aM (m:=↑k) (n:=1) rfl rfl (by omega)) (qx (λw' hw'=>ad (v:=ps_v) (i:=(k:Int)+1) bS rfl rfl (Rps.bel hw') rfl (by omega) (by omega)) (qv (vg [vi ((gI ps ((k:Int)+1)).1),vi ((gI ps ((k:Int)+1)).2)]) (λw' hw'=>aF (v:=ps_v) (i:=(k:Int)+1) ah rfl (Rps.bel hw') (by omega) (by omega) rfl) ?_))))))
   refine cl (v:=vi (cd (gI ps ↑v) (gI ps ((v:Int)+1)) (gI ps ↑k) (gI ps ((k:Int)+1)))) rfl (λw' hw'=>aA (vals:=[vg [vi ((gI ps ↑v).1),vi ((gI ps ↑v).2)],vg [vi ((gI ps ((v:Int)+1)).1),vi ((gI ps ((v:Int)+1)).2)],vg [vi ((gI ps ↑k).1),vi ((gI ps ↑k).2)],vg [vi ((gI ps ((k:Int)+1)).1),vi ((gI ps ((k:Int)+1)).2)]]) Tryz.func79 qV rf rfl) (λw' hw'=>(mG w' (gI ps ↑v) (gI ps ((v:Int)+1)) (gI ps ↑k) (gI ps ((k:Int)+1)) ‹_› ‹_› ‹_› ‹_›).mono λe w2 h2=>⟨h2.1,hw'.trans (h2.2.mono hw'.size)⟩) ?_
   refine qv (vi (cd (gI ps ↑v) (gI ps ((v:Int)+1)) (gI ps ↑k) (gI ps ((k:Int)+1)))) (λw' hw'=>br rfl) (bN ?_)
   intro w17 hc18
   replace hc18:=ao hc18 g14
   refine a7 (a6 rfl (mz zs6 (mz zs5 (lx (aM (m:=↑v) (n:=1) rfl rfl (by omega)) (lx (c7 (m:=↑k) (n:=(v:Int)+1) rfl rfl) (ma (vb (decide ((k:Int)=((v:Int)+1)))) (aa (a7 (bz g14 rfl dV (by kernel_rfl) ?_)))))))))
   intro w20 ch19
   refine qz zs5 (qx (λw' hw'=>c7 (m:=↑v) (n:=0) rfl rfl) (qm (vb (decide ((v:Int)=0))) ?_))
   by_cases q65:(v:Int)=0
   ·
    refine aH (v:=vi ↑k) (wy (dt q65)) (λw' hw'=>aq zs6) (aH (v:=vi ((ps.length:Int)-1)) (wy (dt q65)) (λw' hw'=>aq zs3) (aH (v:=vi (((ps.length:Int)-1)-1)) (wy (dt q65)) (λw' hw'=>c3 (m:=(ps.length:Int)-1) (n:=1) rfl rfl (by omega)) (aH (v:=vb (decide ((k:Int)=(((ps.length:Int)-1)-1)))) (wy (dt q65)) (λw' hw'=>c7 (m:=↑k) (n:=((ps.length:Int)-1)-1) rfl rfl) (qv (vb (decide ((k:Int)=(((ps.length:Int)-1)-1)))) (λw' hw'=>aD rfl (dt q65) rfl) (qm (vb (decide ((k:Int)=(((ps.length:Int)-1)-1)))) ?_)))))
    by_cases q71:(k:Int)=(((ps.length:Int)-1)-1)
    ·
     refine aH (v:=vi ((ps.length:Int)-1)) (wy (dt q71)) (λw' hw'=>aq zs3) (aH (v:=vb (decide (3<=((ps.length:Int)-1)))) (wy (dt q71)) (λw' hw'=>fN (m:=(ps.length:Int)-1) (n:=3) rfl rfl) (qv (vb (decide (3<=((ps.length:Int)-1)))) (λw' hw'=>aD rfl (dt q71) rfl) (qm (vb (decide (3<=((ps.length:Int)-1)))) ?_)))
     by_cases q75:3<=((ps.length:Int)-1)
     ·
      refine aH (v:=ps_v) (wy (dt q75)) (λw' hw'=>aq zs0) ?_
      replace Rps:=(Rps.cn hc18).cn ch19
      refine aH (v:=Value.pointer (some (aR ps_v 2 (Int.toNat 0)))) (wy (dt q75)) (λw' hw'=>ad (α:=Pt) (xs:=ps) (v:=ps_v) (i:=0) bS rfl rfl (Rps.bel hw') rfl (by omega) (by omega)) (aH (v:=vg [vi ((gI ps 0).1),vi ((gI ps 0).2)]) (wy (dt q75)) (λw' hw'=>aF (α:=Pt) (xs:=ps) (v:=ps_v) (i:=0) ah rfl (Rps.bel hw') (by omega) (by omega) rfl) (aH (v:=ps_v) (wy (dt q75)) (λw' hw'=>aq zs0) (aH (v:=vi ((ps.length:Int)-1)) (wy (dt q75)) (λw' hw'=>aq zs3) ?_)))
      refine aH (v:=Value.pointer (some (aR ps_v 2 (Int.toNat ((ps.length:Int)-1))))) (wy (dt q75)) (λw' hw'=>ad (α:=Pt) (xs:=ps) (v:=ps_v) (i:=(ps.length:Int)-1) bS rfl rfl (Rps.bel hw') rfl (by omega) (by omega)) (aH (v:=vg [vi ((gI ps ((ps.length:Int)-1)).1),vi ((gI ps ((ps.length:Int)-1)).2)]) (wy (dt q75)) (λw' hw'=>aF (α:=Pt) (xs:=ps) (v:=ps_v) (i:=(ps.length:Int)-1) ah rfl (Rps.bel hw') (by omega) (by omega) rfl) ?_)
      refine aH (v:=vb (decide ((gI ps 0)=(gI ps ((ps.length:Int)-1))))) (wy (dt q75)) (λw' hw'=>dh (bs:=[decide (((gI ps 0).1)=((gI ps ((ps.length:Int)-1)).1)),decide (((gI ps 0).2)=((gI ps ((ps.length:Int)-1)).2))]) cj (by kernel_rfl) (by kernel_rfl) rfl rfl (.cons (by decide+kernel) az rfl rfl (.int U3) (.cons (by decide+kernel) az rfl rfl (.int U3) .nil)) (by simp[Prod.ext_iff,Bool.decide_and,Bool.and_assoc])) (qv (vb (decide ((gI ps 0)=(gI ps ((ps.length:Int)-1))))) (λw' hw'=>aD rfl (dt q75) rfl) (qv (vb (decide ((gI ps 0)=(gI ps ((ps.length:Int)-1))))) (λw' hw'=>br rfl) (bN ?_)))
      intro w21 hc22
      replace hc22:=ao hc22 g14
      refine a7 (a6 rfl (mv (vb (decide ((k:Int)=((v:Int)+1)))) (mv (vb (decide ((k:Int)=((v:Int)+1)))) ?_)))
      by_cases q86:(k:Int)=((v:Int)+1)
      ·
       refine ae (wn (dt q86)) (lw (vb true) (aD rfl (dt q86) rfl) (mv (vb true) (lv (vi (cd (gI ps ↑v) (gI ps ((v:Int)+1)) (gI ps ↑k) (gI ps ((k:Int)+1)))) (wy rfl) (aq rfl) (lv (vb (!(decide ((cd (gI ps ↑v) (gI ps ((v:Int)+1)) (gI ps ↑k) (gI ps ((k:Int)+1)))=2)))) (wy rfl) (c5 (m:=cd (gI ps ↑v) (gI ps ((v:Int)+1)) (gI ps ↑k) (gI ps ((k:Int)+1))) (n:=2) rfl rfl) (lw (vb (!(decide ((cd (gI ps ↑v) (gI ps ((v:Int)+1)) (gI ps ↑k) (gI ps ((k:Int)+1)))=2)))) (aD rfl rfl rfl) (mv (vb (!(decide ((cd (gI ps ↑v) (gI ps ((v:Int)+1)) (gI ps ↑k) (gI ps ((k:Int)+1)))=2)))) ?_))))))
       by_cases q93:(cd (gI ps ↑v) (gI ps ((v:Int)+1)) (gI ps ↑k) (gI ps ((k:Int)+1)))=2
       ·
        refine lv (vb (decide ((k:Int)=((v:Int)+1)))) (wy (congrArg Bool.not (dt q93))) (aq rfl) (lv (vb (!(decide ((k:Int)=((v:Int)+1))))) (wy (congrArg Bool.not (dt q93))) (bZ (b:=decide ((k:Int)=((v:Int)+1))) rfl) (lv (vb (!(decide ((k:Int)=((v:Int)+1))))) (wy (congrArg Bool.not (dt q93))) (aq rfl) (ae (wn (congrArg Bool.not (dt q86))) (ae (wn (congrArg Bool.not (dt q86))) (lv (vb false) (wy (congrArg Bool.not (dt q93))) (aB rfl (congrArg Bool.not (dt q86)) rfl) (lv (vb false) (wy (congrArg Bool.not (dt q93))) (aq rfl) (ae (wn rfl) (ae (wn rfl) ?_))))))))
        refine lv (vb false) (wy (congrArg Bool.not (dt q93))) (aB rfl rfl rfl) (lw (vb false) (aB rfl (congrArg Bool.not (dt q93)) rfl) (aa (ag rfl rfl (ak (al (a6 rfl (mz zs6 (lx (aM (m:=↑k) (n:=1) rfl rfl (by omega)) (ai ((k:Int)+1) ?_)))))))))
        refine aa ?_
        have C23:=cg [] (ch15.n.seq (hc18.n.seq (ch19.n.seq hc22.n)))
        refine back11 (k+1,g14) _ _ ⟨bH.ca C23,zs0,zs3,zs5,rfl,Rps.cn hc22,by omega,?_⟩ ?_
        · show(∀j_:Nat,v<j_->j_<(k+1)->¬fh ps v j_)/\v<(k+1)
          refine⟨λj h1 h2=>?_,by omega⟩
          by_cases e0:j=k
          · subst e0
            exact oG (by exact jm ‹_›) (by rw[<-hrm];assumption)
          · exact hk.1 j h1 (by omega)
        · show List.length ps-(k+1)<List.length ps-k
          omega
       refine ae (wn (congrArg Bool.not (df q93))) (ae (wn (congrArg Bool.not (df q93))) (ae (wn (congrArg Bool.not (df q93))) (ae (aW rfl rfl rfl) (ae (aW rfl rfl rfl) (ae (wn (congrArg Bool.not (df q93))) (ae (wn (congrArg Bool.not (df q93))) (ae (aW rfl rfl rfl) (ae (aW rfl rfl rfl) (ae (wn (congrArg Bool.not (df q93))) ?_)))))))))
       refine lw (vb true) (aD rfl (congrArg Bool.not (df q93)) rfl) (aa (af rfl rfl (a7 (a6 rfl (ma (vb false) (aa (ar (vs:=[vb false]) Tryz.func50 (.tmp rfl .nil) ?_)))))))
       have e0:(false:Bool)=(decide (fp ps)):=by
         exact dZ (i:=v) (k:=k) (by omega) (by omega) hk.2 (by exact uH hok2 (by omega) (by omega) (by exact jm ‹_›) (by rw[<-hrm];assumption))
       have C24:=cg [] (ch15.n.seq (hc18.n.seq (ch19.n.seq hc22.n)))
       replace bH:=bH.ca C24
       exact⟨rb e0,bH.below⟩
      refine lv (vb (decide ((gI ps 0)=(gI ps ((ps.length:Int)-1))))) (wy (df q86)) (aq rfl) (lw (vb (decide ((gI ps 0)=(gI ps ((ps.length:Int)-1))))) (aB rfl (df q86) rfl) (mv (vb (decide ((gI ps 0)=(gI ps ((ps.length:Int)-1))))) ?_))
      by_cases q89:(gI ps 0)=(gI ps ((ps.length:Int)-1))
      ·
       refine lv (vi (cd (gI ps ↑v) (gI ps ((v:Int)+1)) (gI ps ↑k) (gI ps ((k:Int)+1)))) (wy (dt q89)) (aq rfl) (lv (vb (!(decide ((cd (gI ps ↑v) (gI ps ((v:Int)+1)) (gI ps ↑k) (gI ps ((k:Int)+1)))=2)))) (wy (dt q89)) (c5 (m:=cd (gI ps ↑v) (gI ps ((v:Int)+1)) (gI ps ↑k) (gI ps ((k:Int)+1))) (n:=2) rfl rfl) (lw (vb (!(decide ((cd (gI ps ↑v) (gI ps ((v:Int)+1)) (gI ps ↑k) (gI ps ((k:Int)+1)))=2)))) (aD rfl (dt q89) rfl) (mv (vb (!(decide ((cd (gI ps ↑v) (gI ps ((v:Int)+1)) (gI ps ↑k) (gI ps ((k:Int)+1)))=2)))) ?_)))
       by_cases q93:(cd (gI ps ↑v) (gI ps ((v:Int)+1)) (gI ps ↑k) (gI ps ((k:Int)+1)))=2
       ·
        refine lv (vb (decide ((k:Int)=((v:Int)+1)))) (wy (congrArg Bool.not (dt q93))) (aq rfl) (lv (vb (!(decide ((k:Int)=((v:Int)+1))))) (wy (congrArg Bool.not (dt q93))) (bZ (b:=decide ((k:Int)=((v:Int)+1))) rfl) (lv (vb (!(decide ((k:Int)=((v:Int)+1))))) (wy (congrArg Bool.not (dt q93))) (aq rfl) (lv (vb (decide ((gI ps 0)=(gI ps ((ps.length:Int)-1))))) (wy (congrArg Bool.not (df q86))) (aq rfl) (lv (vb (!(decide ((gI ps 0)=(gI ps ((ps.length:Int)-1)))))) (wy (congrArg Bool.not (df q86))) (bZ (b:=decide ((gI ps 0)=(gI ps ((ps.length:Int)-1)))) rfl) ?_))))
        refine lv (vb (!(decide ((gI ps 0)=(gI ps ((ps.length:Int)-1)))))) (wy (congrArg Bool.not (dt q93))) (aD rfl (congrArg Bool.not (df q86)) rfl) (lv (vb (!(decide ((gI ps 0)=(gI ps ((ps.length:Int)-1)))))) (wy (congrArg Bool.not (dt q93))) (aq rfl) (ae (wn (congrArg Bool.not (dt q89))) (ae (wn (congrArg Bool.not (dt q89))) (lv (vb false) (wy (congrArg Bool.not (dt q93))) (aB rfl (congrArg Bool.not (dt q89)) rfl) (lw (vb false) (aB rfl (congrArg Bool.not (dt q93)) rfl) (aa (ag rfl rfl (ak (al ?_)))))))))
        refine a6 rfl (mz zs6 (lx (aM (m:=↑k) (n:=1) rfl rfl (by omega)) (ai ((k:Int)+1) (aa ?_))))
        have C25:=cg [] (ch15.n.seq (hc18.n.seq (ch19.n.seq hc22.n)))
        refine back11 (k+1,g14) _ _ ⟨bH.ca C25,zs0,zs3,zs5,rfl,Rps.cn hc22,by omega,?_⟩ ?_
        · show(∀j_:Nat,v<j_->j_<(k+1)->¬fh ps v j_)/\v<(k+1)
          refine⟨λj h1 h2=>?_,by omega⟩
          by_cases e0:j=k
          · subst e0
            exact oG (by exact vT ‹_› ‹_› ‹_› ‹_›) (by rw[<-hrm];assumption)
          · exact hk.1 j h1 (by omega)
        · show List.length ps-(k+1)<List.length ps-k
          omega
       refine ae (wn (congrArg Bool.not (df q93))) (ae (wn (congrArg Bool.not (df q93))) (ae (wn (congrArg Bool.not (df q93))) (ae (aW rfl rfl rfl) (ae (aW rfl rfl rfl) (ae (wn (congrArg Bool.not (df q93))) (ae (wn (congrArg Bool.not (df q93))) (ae (aW rfl rfl rfl) (ae (aW rfl rfl rfl) (ae (wn (congrArg Bool.not (df q93))) ?_)))))))))
       refine lw (vb true) (aD rfl (congrArg Bool.not (df q93)) rfl) (aa (af rfl rfl (a7 (a6 rfl (ma (vb false) (aa (ar (vs:=[vb false]) Tryz.func50 (.tmp rfl .nil) ?_)))))))
       have e0:(false:Bool)=(decide (fp ps)):=by
         exact dZ (i:=v) (k:=k) (by omega) (by omega) hk.2 (by exact uH hok2 (by omega) (by omega) (by exact vT ‹_› ‹_› ‹_› ‹_›) (by rw[<-hrm];assumption))
       have C26:=cg [] (ch15.n.seq (hc18.n.seq (ch19.n.seq hc22.n)))
       replace bH:=bH.ca C26
       exact⟨rb e0,bH.below⟩
      refine ae (wn (df q89)) (ae (wn (df q89)) (lw (vb false) (aB rfl (df q89) rfl) (mv (vb false) (lv (vb (decide ((k:Int)=((v:Int)+1)))) (wy rfl) (aq rfl) (lv (vb (!(decide ((k:Int)=((v:Int)+1))))) (wy rfl) (bZ (b:=decide ((k:Int)=((v:Int)+1))) rfl) (lv (vb (!(decide ((k:Int)=((v:Int)+1))))) (wy rfl) (aq rfl) (lv (vb (decide ((gI ps 0)=(gI ps ((ps.length:Int)-1))))) (wy (congrArg Bool.not (df q86))) (aq rfl) ?_)))))))
      refine lv (vb (!(decide ((gI ps 0)=(gI ps ((ps.length:Int)-1)))))) (wy (congrArg Bool.not (df q86))) (bZ (b:=decide ((gI ps 0)=(gI ps ((ps.length:Int)-1)))) rfl) (lv (vb (!(decide ((gI ps 0)=(gI ps ((ps.length:Int)-1)))))) (wy rfl) (aD rfl (congrArg Bool.not (df q86)) rfl) (lv (vb (!(decide ((gI ps 0)=(gI ps ((ps.length:Int)-1)))))) (wy rfl) (aq rfl) (lv (vi (cd (gI ps ↑v) (gI ps ((v:Int)+1)) (gI ps ↑k) (gI ps ((k:Int)+1)))) (wy (congrArg Bool.not (df q89))) (aq rfl) ?_)))
      refine lv (vb (!(decide ((cd (gI ps ↑v) (gI ps ((v:Int)+1)) (gI ps ↑k) (gI ps ((k:Int)+1)))=0)))) (wy (congrArg Bool.not (df q89))) (c5 (m:=cd (gI ps ↑v) (gI ps ((v:Int)+1)) (gI ps ↑k) (gI ps ((k:Int)+1))) (n:=0) rfl rfl) (lv (vb (!(decide ((cd (gI ps ↑v) (gI ps ((v:Int)+1)) (gI ps ↑k) (gI ps ((k:Int)+1)))=0)))) (wy rfl) (aD rfl (congrArg Bool.not (df q89)) rfl) (lw (vb (!(decide ((cd (gI ps ↑v) (gI ps ((v:Int)+1)) (gI ps ↑k) (gI ps ((k:Int)+1)))=0)))) (aB rfl rfl rfl) (aa ?_)))
      by_cases p16:(cd (gI ps ↑v) (gI ps ((v:Int)+1)) (gI ps ↑k) (gI ps ((k:Int)+1)))=0
      ·
       refine ag rfl (congrArg Bool.not (dt p16)) (ak (al (a6 rfl (mz zs6 (lx (aM (m:=↑k) (n:=1) rfl rfl (by omega)) (ai ((k:Int)+1) (aa ?_)))))))
       have C27:=cg [] (ch15.n.seq (hc18.n.seq (ch19.n.seq hc22.n)))
       refine back11 (k+1,g14) _ _ ⟨bH.ca C27,zs0,zs3,zs5,rfl,Rps.cn hc22,by omega,?_⟩ ?_
       · show(∀j_:Nat,v<j_->j_<(k+1)->¬fh ps v j_)/\v<(k+1)
         refine⟨λj h1 h2=>?_,by omega⟩
         by_cases e0:j=k
         · subst e0
           exact lM (by exact qM ‹_› ‹_›) (by rw[<-hrm];assumption)
         · exact hk.1 j h1 (by omega)
       · show List.length ps-(k+1)<List.length ps-k
         omega
      refine af rfl (congrArg Bool.not (df p16)) (a7 (a6 rfl (ma (vb false) (aa (ar (vs:=[vb false]) Tryz.func50 (.tmp rfl .nil) ?_)))))
      have e0:(false:Bool)=(decide (fp ps)):=by
        exact dZ (i:=v) (k:=k) (by omega) (by omega) hk.2 (by exact pQ (by exact qM ‹_› ‹_›) (by rw[<-hrm];assumption))
      have C28:=cg [] (ch15.n.seq (hc18.n.seq (ch19.n.seq hc22.n)))
      replace bH:=bH.ca C28
      exact⟨rb e0,bH.below⟩
     refine av (wn (df q75)) (av (wn (df q75)) (av (wn (df q75)) (av (wn (df q75)) (av (wn (df q75)) (av (wn (df q75)) (av (wn (df q75)) (av (wn (df q75)) (qv (vb false) (λw' hw'=>aB rfl (df q75) rfl) (qv (vb false) (λw' hw'=>br rfl) ?_)))))))))
     refine bN ?_
     intro w29 hc30
     replace hc30:=ao hc30 g14
     refine a7 (a6 rfl (mv (vb (decide ((k:Int)=((v:Int)+1)))) (mv (vb (decide ((k:Int)=((v:Int)+1)))) ?_)))
     by_cases q86:(k:Int)=((v:Int)+1)
     ·
      refine ae (wn (dt q86)) (lw (vb true) (aD rfl (dt q86) rfl) (mv (vb true) (lv (vi (cd (gI ps ↑v) (gI ps ((v:Int)+1)) (gI ps ↑k) (gI ps ((k:Int)+1)))) (wy rfl) (aq rfl) (lv (vb (!(decide ((cd (gI ps ↑v) (gI ps ((v:Int)+1)) (gI ps ↑k) (gI ps ((k:Int)+1)))=2)))) (wy rfl) (c5 (m:=cd (gI ps ↑v) (gI ps ((v:Int)+1)) (gI ps ↑k) (gI ps ((k:Int)+1))) (n:=2) rfl rfl) (lw (vb (!(decide ((cd (gI ps ↑v) (gI ps ((v:Int)+1)) (gI ps ↑k) (gI ps ((k:Int)+1)))=2)))) (aD rfl rfl rfl) (mv (vb (!(decide ((cd (gI ps ↑v) (gI ps ((v:Int)+1)) (gI ps ↑k) (gI ps ((k:Int)+1)))=2)))) ?_))))))
      by_cases q93:(cd (gI ps ↑v) (gI ps ((v:Int)+1)) (gI ps ↑k) (gI ps ((k:Int)+1)))=2
      ·
       refine lv (vb (decide ((k:Int)=((v:Int)+1)))) (wy (congrArg Bool.not (dt q93))) (aq rfl) (lv (vb (!(decide ((k:Int)=((v:Int)+1))))) (wy (congrArg Bool.not (dt q93))) (bZ (b:=decide ((k:Int)=((v:Int)+1))) rfl) (lv (vb (!(decide ((k:Int)=((v:Int)+1))))) (wy (congrArg Bool.not (dt q93))) (aq rfl) (ae (wn (congrArg Bool.not (dt q86))) (ae (wn (congrArg Bool.not (dt q86))) (lv (vb false) (wy (congrArg Bool.not (dt q93))) (aB rfl (congrArg Bool.not (dt q86)) rfl) (lv (vb false) (wy (congrArg Bool.not (dt q93))) (aq rfl) (ae (wn rfl) (ae (wn rfl) ?_))))))))
       refine lv (vb false) (wy (congrArg Bool.not (dt q93))) (aB rfl rfl rfl) (lw (vb false) (aB rfl (congrArg Bool.not (dt q93)) rfl) (aa (ag rfl rfl (ak (al (a6 rfl (mz zs6 (lx (aM (m:=↑k) (n:=1) rfl rfl (by omega)) (ai ((k:Int)+1) ?_)))))))))
       refine aa ?_
       have C32:=cg [] (hc18.n.seq (ch19.n.seq hc30.n))
       have C31:=ch15.n.seq C32
       refine back11 (k+1,g14) _ _ ⟨bH.ca C31,zs0,zs3,zs5,rfl,Rps.ca C32,by omega,?_⟩ ?_
       · show(∀j_:Nat,v<j_->j_<(k+1)->¬fh ps v j_)/\v<(k+1)
         refine⟨λj h1 h2=>?_,by omega⟩
         by_cases e0:j=k
         · subst e0
           exact oG (by exact jm ‹_›) (by rw[<-hrm];assumption)
         · exact hk.1 j h1 (by omega)
       · show List.length ps-(k+1)<List.length ps-k
         omega
      refine ae (wn (congrArg Bool.not (df q93))) (ae (wn (congrArg Bool.not (df q93))) (ae (wn (congrArg Bool.not (df q93))) (ae (aW rfl rfl rfl) (ae (aW rfl rfl rfl) (ae (wn (congrArg Bool.not (df q93))) (ae (wn (congrArg Bool.not (df q93))) (ae (aW rfl rfl rfl) (ae (aW rfl rfl rfl) (ae (wn (congrArg Bool.not (df q93))) ?_)))))))))
      refine lw (vb true) (aD rfl (congrArg Bool.not (df q93)) rfl) (aa (af rfl rfl (a7 (a6 rfl (ma (vb false) (aa (ar (vs:=[vb false]) Tryz.func50 (.tmp rfl .nil) ?_)))))))
      have e0:(false:Bool)=(decide (fp ps)):=by
        exact dZ (i:=v) (k:=k) (by omega) (by omega) hk.2 (by exact uH hok2 (by omega) (by omega) (by exact jm ‹_›) (by rw[<-hrm];assumption))
      have C33:=cg [] (ch15.n.seq (hc18.n.seq (ch19.n.seq hc30.n)))
      replace bH:=bH.ca C33
      exact⟨rb e0,bH.below⟩
     refine lv (vb false) (wy (df q86)) (aq rfl) (lw (vb false) (aB rfl (df q86) rfl) (mv (vb false) (ae (wn rfl) (ae (wn rfl) (lw (vb false) (aB rfl rfl rfl) (mv (vb false) (lv (vb (decide ((k:Int)=((v:Int)+1)))) (wy rfl) (aq rfl) (lv (vb (!(decide ((k:Int)=((v:Int)+1))))) (wy rfl) (bZ (b:=decide ((k:Int)=((v:Int)+1))) rfl) (lv (vb (!(decide ((k:Int)=((v:Int)+1))))) (wy rfl) (aq rfl) (lv (vb false) (wy (congrArg Bool.not (df q86))) (aq rfl) ?_))))))))))
     refine lv (vb true) (wy (congrArg Bool.not (df q86))) (bZ (b:=false) rfl) (lv (vb true) (wy rfl) (aD rfl (congrArg Bool.not (df q86)) rfl) (lv (vb true) (wy rfl) (aq rfl) (lv (vi (cd (gI ps ↑v) (gI ps ((v:Int)+1)) (gI ps ↑k) (gI ps ((k:Int)+1)))) (wy rfl) (aq rfl) (lv (vb (!(decide ((cd (gI ps ↑v) (gI ps ((v:Int)+1)) (gI ps ↑k) (gI ps ((k:Int)+1)))=0)))) (wy rfl) (c5 (m:=cd (gI ps ↑v) (gI ps ((v:Int)+1)) (gI ps ↑k) (gI ps ((k:Int)+1))) (n:=0) rfl rfl) (lv (vb (!(decide ((cd (gI ps ↑v) (gI ps ((v:Int)+1)) (gI ps ↑k) (gI ps ((k:Int)+1)))=0)))) (wy rfl) (aD rfl rfl rfl) ?_)))))
     refine lw (vb (!(decide ((cd (gI ps ↑v) (gI ps ((v:Int)+1)) (gI ps ↑k) (gI ps ((k:Int)+1)))=0)))) (aB rfl rfl rfl) (aa ?_)
     by_cases p16:(cd (gI ps ↑v) (gI ps ((v:Int)+1)) (gI ps ↑k) (gI ps ((k:Int)+1)))=0
     ·
      refine ag rfl (congrArg Bool.not (dt p16)) (ak (al (a6 rfl (mz zs6 (lx (aM (m:=↑k) (n:=1) rfl rfl (by omega)) (ai ((k:Int)+1) (aa ?_)))))))
      have C35:=cg [] (hc18.n.seq (ch19.n.seq hc30.n))
      have C34:=ch15.n.seq C35
      refine back11 (k+1,g14) _ _ ⟨bH.ca C34,zs0,zs3,zs5,rfl,Rps.ca C35,by omega,?_⟩ ?_
      · show(∀j_:Nat,v<j_->j_<(k+1)->¬fh ps v j_)/\v<(k+1)
        refine⟨λj h1 h2=>?_,by omega⟩
        by_cases e0:j=k
        · subst e0
          exact lM (by exact rd ‹_› ‹_›) (by rw[<-hrm];assumption)
        · exact hk.1 j h1 (by omega)
      · show List.length ps-(k+1)<List.length ps-k
        omega
     refine af rfl (congrArg Bool.not (df p16)) (a7 (a6 rfl (ma (vb false) (aa (ar (vs:=[vb false]) Tryz.func50 (.tmp rfl .nil) ?_)))))
     have e0:(false:Bool)=(decide (fp ps)):=by
       exact dZ (i:=v) (k:=k) (by omega) (by omega) hk.2 (by exact pQ (by exact rd ‹_› ‹_›) (by rw[<-hrm];assumption))
     have C36:=cg [] (ch15.n.seq (hc18.n.seq (ch19.n.seq hc30.n)))
     replace bH:=bH.ca C36
     exact⟨rb e0,bH.below⟩
    refine av (wn (df q71)) (av (wn (df q71)) (qv (vb false) (λw' hw'=>aB rfl (df q71) rfl) (qm (vb false) (av (wn rfl) (av (wn rfl) (av (wn rfl) (av (wn rfl) (av (wn rfl) (av (wn rfl) ?_)))))))))
    refine av (wn rfl) (av (wn rfl) (qv (vb false) (λw' hw'=>aB rfl rfl rfl) (qv (vb false) (λw' hw'=>br rfl) (bN ?_))))
    intro w37 hc38
    replace hc38:=ao hc38 g14
    refine a7 (a6 rfl (mv (vb (decide ((k:Int)=((v:Int)+1)))) (mv (vb (decide ((k:Int)=((v:Int)+1)))) ?_)))
    by_cases q86:(k:Int)=((v:Int)+1)
    ·
     refine ae (wn (dt q86)) (lw (vb true) (aD rfl (dt q86) rfl) (mv (vb true) (lv (vi (cd (gI ps ↑v) (gI ps ((v:Int)+1)) (gI ps ↑k) (gI ps ((k:Int)+1)))) (wy rfl) (aq rfl) (lv (vb (!(decide ((cd (gI ps ↑v) (gI ps ((v:Int)+1)) (gI ps ↑k) (gI ps ((k:Int)+1)))=2)))) (wy rfl) (c5 (m:=cd (gI ps ↑v) (gI ps ((v:Int)+1)) (gI ps ↑k) (gI ps ((k:Int)+1))) (n:=2) rfl rfl) (lw (vb (!(decide ((cd (gI ps ↑v) (gI ps ((v:Int)+1)) (gI ps ↑k) (gI ps ((k:Int)+1)))=2)))) (aD rfl rfl rfl) (mv (vb (!(decide ((cd (gI ps ↑v) (gI ps ((v:Int)+1)) (gI ps ↑k) (gI ps ((k:Int)+1)))=2)))) ?_))))))
     by_cases q93:(cd (gI ps ↑v) (gI ps ((v:Int)+1)) (gI ps ↑k) (gI ps ((k:Int)+1)))=2
     ·
      refine lv (vb (decide ((k:Int)=((v:Int)+1)))) (wy (congrArg Bool.not (dt q93))) (aq rfl) (lv (vb (!(decide ((k:Int)=((v:Int)+1))))) (wy (congrArg Bool.not (dt q93))) (bZ (b:=decide ((k:Int)=((v:Int)+1))) rfl) (lv (vb (!(decide ((k:Int)=((v:Int)+1))))) (wy (congrArg Bool.not (dt q93))) (aq rfl) (ae (wn (congrArg Bool.not (dt q86))) (ae (wn (congrArg Bool.not (dt q86))) (lv (vb false) (wy (congrArg Bool.not (dt q93))) (aB rfl (congrArg Bool.not (dt q86)) rfl) (lv (vb false) (wy (congrArg Bool.not (dt q93))) (aq rfl) (ae (wn rfl) (ae (wn rfl) ?_))))))))
      refine lv (vb false) (wy (congrArg Bool.not (dt q93))) (aB rfl rfl rfl) (lw (vb false) (aB rfl (congrArg Bool.not (dt q93)) rfl) (aa (ag rfl rfl (ak (al (a6 rfl (mz zs6 (lx (aM (m:=↑k) (n:=1) rfl rfl (by omega)) (ai ((k:Int)+1) ?_)))))))))
      refine aa ?_
      have C40:=cg [] (hc18.n.seq (ch19.n.seq hc38.n))
      have C39:=ch15.n.seq C40
      refine back11 (k+1,g14) _ _ ⟨bH.ca C39,zs0,zs3,zs5,rfl,Rps.ca C40,by omega,?_⟩ ?_
      · show(∀j_:Nat,v<j_->j_<(k+1)->¬fh ps v j_)/\v<(k+1)
        refine⟨λj h1 h2=>?_,by omega⟩
        by_cases e0:j=k
        · subst e0
          exact oG (by exact jm ‹_›) (by rw[<-hrm];assumption)
        · exact hk.1 j h1 (by omega)
      · show List.length ps-(k+1)<List.length ps-k
        omega
     refine ae (wn (congrArg Bool.not (df q93))) (ae (wn (congrArg Bool.not (df q93))) (ae (wn (congrArg Bool.not (df q93))) (ae (aW rfl rfl rfl) (ae (aW rfl rfl rfl) (ae (wn (congrArg Bool.not (df q93))) (ae (wn (congrArg Bool.not (df q93))) (ae (aW rfl rfl rfl) (ae (aW rfl rfl rfl) (ae (wn (congrArg Bool.not (df q93))) ?_)))))))))
     refine lw (vb true) (aD rfl (congrArg Bool.not (df q93)) rfl) (aa (af rfl rfl (a7 (a6 rfl (ma (vb false) (aa (ar (vs:=[vb false]) Tryz.func50 (.tmp rfl .nil) ?_)))))))
     have e0:(false:Bool)=(decide (fp ps)):=by
       exact dZ (i:=v) (k:=k) (by omega) (by omega) hk.2 (by exact uH hok2 (by omega) (by omega) (by exact jm ‹_›) (by rw[<-hrm];assumption))
     have C41:=cg [] (ch15.n.seq (hc18.n.seq (ch19.n.seq hc38.n)))
     replace bH:=bH.ca C41
     exact⟨rb e0,bH.below⟩
    refine lv (vb false) (wy (df q86)) (aq rfl) (lw (vb false) (aB rfl (df q86) rfl) (mv (vb false) (ae (wn rfl) (ae (wn rfl) (lw (vb false) (aB rfl rfl rfl) (mv (vb false) (lv (vb (decide ((k:Int)=((v:Int)+1)))) (wy rfl) (aq rfl) (lv (vb (!(decide ((k:Int)=((v:Int)+1))))) (wy rfl) (bZ (b:=decide ((k:Int)=((v:Int)+1))) rfl) (lv (vb (!(decide ((k:Int)=((v:Int)+1))))) (wy rfl) (aq rfl) (lv (vb false) (wy (congrArg Bool.not (df q86))) (aq rfl) ?_))))))))))
    refine lv (vb true) (wy (congrArg Bool.not (df q86))) (bZ (b:=false) rfl) (lv (vb true) (wy rfl) (aD rfl (congrArg Bool.not (df q86)) rfl) (lv (vb true) (wy rfl) (aq rfl) (lv (vi (cd (gI ps ↑v) (gI ps ((v:Int)+1)) (gI ps ↑k) (gI ps ((k:Int)+1)))) (wy rfl) (aq rfl) (lv (vb (!(decide ((cd (gI ps ↑v) (gI ps ((v:Int)+1)) (gI ps ↑k) (gI ps ((k:Int)+1)))=0)))) (wy rfl) (c5 (m:=cd (gI ps ↑v) (gI ps ((v:Int)+1)) (gI ps ↑k) (gI ps ((k:Int)+1))) (n:=0) rfl rfl) (lv (vb (!(decide ((cd (gI ps ↑v) (gI ps ((v:Int)+1)) (gI ps ↑k) (gI ps ((k:Int)+1)))=0)))) (wy rfl) (aD rfl rfl rfl) ?_)))))
    refine lw (vb (!(decide ((cd (gI ps ↑v) (gI ps ((v:Int)+1)) (gI ps ↑k) (gI ps ((k:Int)+1)))=0)))) (aB rfl rfl rfl) (aa ?_)
    by_cases p16:(cd (gI ps ↑v) (gI ps ((v:Int)+1)) (gI ps ↑k) (gI ps ((k:Int)+1)))=0
    ·
     refine ag rfl (congrArg Bool.not (dt p16)) (ak (al (a6 rfl (mz zs6 (lx (aM (m:=↑k) (n:=1) rfl rfl (by omega)) (ai ((k:Int)+1) (aa ?_)))))))
     have C43:=cg [] (hc18.n.seq (ch19.n.seq hc38.n))
     have C42:=ch15.n.seq C43
     refine back11 (k+1,g14) _ _ ⟨bH.ca C42,zs0,zs3,zs5,rfl,Rps.ca C43,by omega,?_⟩ ?_
     · show(∀j_:Nat,v<j_->j_<(k+1)->¬fh ps v j_)/\v<(k+1)
       refine⟨λj h1 h2=>?_,by omega⟩
       by_cases e0:j=k
       · subst e0
         exact lM (by exact oK ‹_› ‹_›) (by rw[<-hrm];assumption)
       · exact hk.1 j h1 (by omega)
     · show List.length ps-(k+1)<List.length ps-k
       omega
    refine af rfl (congrArg Bool.not (df p16)) (a7 (a6 rfl (ma (vb false) (aa (ar (vs:=[vb false]) Tryz.func50 (.tmp rfl .nil) ?_)))))
    have e0:(false:Bool)=(decide (fp ps)):=by
      exact dZ (i:=v) (k:=k) (by omega) (by omega) hk.2 (by exact pQ (by exact oK ‹_› ‹_›) (by rw[<-hrm];assumption))
    have C44:=cg [] (ch15.n.seq (hc18.n.seq (ch19.n.seq hc38.n)))
    replace bH:=bH.ca C44
    exact⟨rb e0,bH.below⟩
   refine av (wn (df q65)) (av (wn (df q65)) (av (wn (df q65)) (av (wn (df q65)) (qv (vb false) (λw' hw'=>aB rfl (df q65) rfl) (qm (vb false) (av (wn rfl) (av (wn rfl) (qv (vb false) (λw' hw'=>aB rfl rfl rfl) (qm (vb false) ?_)))))))))
   refine av (wn rfl) (av (wn rfl) (av (wn rfl) (av (wn rfl) (av (wn rfl) (av (wn rfl) (av (wn rfl) (av (wn rfl) (qv (vb false) (λw' hw'=>aB rfl rfl rfl) (qv (vb false) (λw' hw'=>br rfl) ?_)))))))))
   refine bN ?_
   intro w45 hc46
   replace hc46:=ao hc46 g14
   refine a7 (a6 rfl (mv (vb (decide ((k:Int)=((v:Int)+1)))) (mv (vb (decide ((k:Int)=((v:Int)+1)))) ?_)))
   by_cases q86:(k:Int)=((v:Int)+1)
   ·
    refine ae (wn (dt q86)) (lw (vb true) (aD rfl (dt q86) rfl) (mv (vb true) (lv (vi (cd (gI ps ↑v) (gI ps ((v:Int)+1)) (gI ps ↑k) (gI ps ((k:Int)+1)))) (wy rfl) (aq rfl) (lv (vb (!(decide ((cd (gI ps ↑v) (gI ps ((v:Int)+1)) (gI ps ↑k) (gI ps ((k:Int)+1)))=2)))) (wy rfl) (c5 (m:=cd (gI ps ↑v) (gI ps ((v:Int)+1)) (gI ps ↑k) (gI ps ((k:Int)+1))) (n:=2) rfl rfl) (lw (vb (!(decide ((cd (gI ps ↑v) (gI ps ((v:Int)+1)) (gI ps ↑k) (gI ps ((k:Int)+1)))=2)))) (aD rfl rfl rfl) (mv (vb (!(decide ((cd (gI ps ↑v) (gI ps ((v:Int)+1)) (gI ps ↑k) (gI ps ((k:Int)+1)))=2)))) ?_))))))
    by_cases q93:(cd (gI ps ↑v) (gI ps ((v:Int)+1)) (gI ps ↑k) (gI ps ((k:Int)+1)))=2
    ·
     refine lv (vb (decide ((k:Int)=((v:Int)+1)))) (wy (congrArg Bool.not (dt q93))) (aq rfl) (lv (vb (!(decide ((k:Int)=((v:Int)+1))))) (wy (congrArg Bool.not (dt q93))) (bZ (b:=decide ((k:Int)=((v:Int)+1))) rfl) (lv (vb (!(decide ((k:Int)=((v:Int)+1))))) (wy (congrArg Bool.not (dt q93))) (aq rfl) (ae (wn (congrArg Bool.not (dt q86))) (ae (wn (congrArg Bool.not (dt q86))) (lv (vb false) (wy (congrArg Bool.not (dt q93))) (aB rfl (congrArg Bool.not (dt q86)) rfl) (lv (vb false) (wy (congrArg Bool.not (dt q93))) (aq rfl) (ae (wn rfl) (ae (wn rfl) ?_))))))))
     refine lv (vb false) (wy (congrArg Bool.not (dt q93))) (aB rfl rfl rfl) (lw (vb false) (aB rfl (congrArg Bool.not (dt q93)) rfl) (aa (ag rfl rfl (ak (al (a6 rfl (mz zs6 (lx (aM (m:=↑k) (n:=1) rfl rfl (by omega)) (ai ((k:Int)+1) ?_)))))))))
     refine aa ?_
     have C48:=cg [] (hc18.n.seq (ch19.n.seq hc46.n))
     have C47:=ch15.n.seq C48
     refine back11 (k+1,g14) _ _ ⟨bH.ca C47,zs0,zs3,zs5,rfl,Rps.ca C48,by omega,?_⟩ ?_
     · show(∀j_:Nat,v<j_->j_<(k+1)->¬fh ps v j_)/\v<(k+1)
       refine⟨λj h1 h2=>?_,by omega⟩
       by_cases e0:j=k
       · subst e0
         exact oG (by exact jm ‹_›) (by rw[<-hrm];assumption)
       · exact hk.1 j h1 (by omega)
     · show List.length ps-(k+1)<List.length ps-k
       omega
    refine ae (wn (congrArg Bool.not (df q93))) (ae (wn (congrArg Bool.not (df q93))) (ae (wn (congrArg Bool.not (df q93))) (ae (aW rfl rfl rfl) (ae (aW rfl rfl rfl) (ae (wn (congrArg Bool.not (df q93))) (ae (wn (congrArg Bool.not (df q93))) (ae (aW rfl rfl rfl) (ae (aW rfl rfl rfl) (ae (wn (congrArg Bool.not (df q93))) ?_)))))))))
    refine lw (vb true) (aD rfl (congrArg Bool.not (df q93)) rfl) (aa (af rfl rfl (a7 (a6 rfl (ma (vb false) (aa (ar (vs:=[vb false]) Tryz.func50 (.tmp rfl .nil) ?_)))))))
    have e0:(false:Bool)=(decide (fp ps)):=by
      exact dZ (i:=v) (k:=k) (by omega) (by omega) hk.2 (by exact uH hok2 (by omega) (by omega) (by exact jm ‹_›) (by rw[<-hrm];assumption))
    have C49:=cg [] (ch15.n.seq (hc18.n.seq (ch19.n.seq hc46.n)))
    replace bH:=bH.ca C49
    exact⟨rb e0,bH.below⟩
   refine lv (vb false) (wy (df q86)) (aq rfl) (lw (vb false) (aB rfl (df q86) rfl) (mv (vb false) (ae (wn rfl) (ae (wn rfl) (lw (vb false) (aB rfl rfl rfl) (mv (vb false) (lv (vb (decide ((k:Int)=((v:Int)+1)))) (wy rfl) (aq rfl) (lv (vb (!(decide ((k:Int)=((v:Int)+1))))) (wy rfl) (bZ (b:=decide ((k:Int)=((v:Int)+1))) rfl) (lv (vb (!(decide ((k:Int)=((v:Int)+1))))) (wy rfl) (aq rfl) (lv (vb false) (wy (congrArg Bool.not (df q86))) (aq rfl) ?_))))))))))
   refine lv (vb true) (wy (congrArg Bool.not (df q86))) (bZ (b:=false) rfl) (lv (vb true) (wy rfl) (aD rfl (congrArg Bool.not (df q86)) rfl) (lv (vb true) (wy rfl) (aq rfl) (lv (vi (cd (gI ps ↑v) (gI ps ((v:Int)+1)) (gI ps ↑k) (gI ps ((k:Int)+1)))) (wy rfl) (aq rfl) (lv (vb (!(decide ((cd (gI ps ↑v) (gI ps ((v:Int)+1)) (gI ps ↑k) (gI ps ((k:Int)+1)))=0)))) (wy rfl) (c5 (m:=cd (gI ps ↑v) (gI ps ((v:Int)+1)) (gI ps ↑k) (gI ps ((k:Int)+1))) (n:=0) rfl rfl) (lv (vb (!(decide ((cd (gI ps ↑v) (gI ps ((v:Int)+1)) (gI ps ↑k) (gI ps ((k:Int)+1)))=0)))) (wy rfl) (aD rfl rfl rfl) ?_)))))
   refine lw (vb (!(decide ((cd (gI ps ↑v) (gI ps ((v:Int)+1)) (gI ps ↑k) (gI ps ((k:Int)+1)))=0)))) (aB rfl rfl rfl) (aa ?_)
   by_cases p16:(cd (gI ps ↑v) (gI ps ((v:Int)+1)) (gI ps ↑k) (gI ps ((k:Int)+1)))=0
   ·
    refine ag rfl (congrArg Bool.not (dt p16)) (ak (al (a6 rfl (mz zs6 (lx (aM (m:=↑k) (n:=1) rfl rfl (by omega)) (ai ((k:Int)+1) (aa ?_)))))))
    have C51:=cg [] (hc18.n.seq (ch19.n.seq hc46.n))
    have C50:=ch15.n.seq C51
    refine back11 (k+1,g14) _ _ ⟨bH.ca C50,zs0,zs3,zs5,rfl,Rps.ca C51,by omega,?_⟩ ?_
    · show(∀j_:Nat,v<j_->j_<(k+1)->¬fh ps v j_)/\v<(k+1)
      refine⟨λj h1 h2=>?_,by omega⟩
      by_cases e0:j=k
      · subst e0
        exact lM (by exact kY ‹_› ‹_›) (by rw[<-hrm];assumption)
      · exact hk.1 j h1 (by omega)
    · show List.length ps-(k+1)<List.length ps-k
      omega
   refine af rfl (congrArg Bool.not (df p16)) (a7 (a6 rfl (ma (vb false) (aa (ar (vs:=[vb false]) Tryz.func50 (.tmp rfl .nil) ?_)))))
   have e0:(false:Bool)=(decide (fp ps)):=by
     exact dZ (i:=v) (k:=k) (by omega) (by omega) hk.2 (by exact pQ (by exact kY ‹_› ‹_›) (by rw[<-hrm];assumption))
   have C52:=cg [] (ch15.n.seq (hc18.n.seq (ch19.n.seq hc46.n)))
   replace bH:=bH.ca C52
   exact⟨rb e0,bH.below⟩
  refine ag rfl (df p11) (aJ rfl (al (a6 rfl (mz zs5 (lx (aM (m:=↑v) (n:=1) rfl rfl (by omega)) (ai ((v:Int)+1) (aa ?_)))))))
  refine back8 (v+1,g14) _ _ ⟨bH,zs0,zs3,rfl,Rps,by omega,?_⟩ ?_
  · show∀j_:Nat,j_<(v+1)->∀k_:Nat,j_<k_->(k_:Int)<(ps.length:Int)-1->¬fh ps j_ k_
    intro j hj
    by_cases e0:j=v
    · subst e0;exact λk' h1 h2=>hk.1 k' h1 (by omega)
    · exact hinv j (by omega)
  · show List.length ps-(v+1)<List.length ps-v
    omega
 refine ag rfl (df p8) (aJ rfl (a7 (a6 rfl (ma (vb true) (aa (ar (vs:=[vb true]) Tryz.func50 (.tmp rfl .nil) ?_))))))
 have e0:(true:Bool)=(decide (fp ps)):=by
   exact x5 hd0 hinv ‹_›
 exact⟨rb e0,bH.below⟩
theorem ji(w0:World)(ps:List Pt)(ps_v:Value)(hps_v:Ro w0 ps_v ps)(h0:0<ps.length)(hlen:ps.length<=4096):
    Calls Tryz.prog 96 #[ps_v] w0 (λee w=>∃xx:aK×Value,ee= .returned ((λ⟨δ,rv0⟩=>rv0) xx)/\(λ(⟨δ,rv0⟩:aK×Value) (w:World)=>em w0 δ w/\Ow δ (is 1) (is 1) w rv0 (aE ps)) xx w):=by
 refine au Tryz.func96 rfl nq ?_
 have bH:=aT.start w0
 have Rps:=hps_v.sl
 refine a7 (a6 rfl (ma vn (aa (a7 (a7 (a6 rfl (mv ps_v ?_)))))))
 have len1:=(Rps).small
 refine lx (aQ bS rfl Rps) (lx (c7 (m:=(ps.length:Int)) (n:=1) rfl rfl) (aa ?_))
 by_cases p1:(ps.length:Int)=1
 ·
  refine af rfl (dt p1) (a7 (c6 c0 [0,1,2,3,4,5,6,8] dV ?_))
  intro w3 ch2
  refine xp (v:=ps_v) 0 rfl (λw=>aq rfl) ?_
  replace Rps:=Rps.cn ch2
  refine xv 1 [0,3,4,5] rfl (ad (v:=ps_v) (i:=0) bS rfl rfl Rps rfl (by omega) (by omega)) (xv (v:=vg [vi ((gI ps 0).1),vi ((gI ps 0).2)]) 2 [1,0,3,4,5] rfl (aF (v:=ps_v) (i:=0) ah rfl Rps (by omega) (by omega) rfl) (xp (v:=ps_v) 3 rfl (λw=>aq rfl) (xv 4 [3,2,1,0] rfl (ad (v:=ps_v) (i:=0) bS rfl rfl Rps rfl (by omega) (by omega)) (xv (v:=vg [vi ((gI ps 0).1),vi ((gI ps 0).2)]) 5 [4,3,2,1,0] rfl (aF (v:=ps_v) (i:=0) ah rfl Rps (by omega) (by omega) rfl) ?_))))
  refine xp (v:=vg [vi ((gI ps 0).1),vi ((gI ps 0).2),vi ((gI ps 0).1),vi ((gI ps 0).2)]) 6 rfl (λw=>bw (vs:=[(0,vg [vi ((gI ps 0).1),vi ((gI ps 0).2)]),(1,vg [vi ((gI ps 0).1),vi ((gI ps 0).2)])]) rfl (by kernel_rfl)) (ct 7 rfl (by kernel_rfl) rfl (aG (α:=Pt×Pt) c0 (is 1) (is 1) (1,0) rfl ([((gI ps 0),(gI ps 0))]:List (Pt×Pt)) gK lO (by decide) (by decide) (vs:=[(0,vg [vi ((gI ps 0).1),vi ((gI ps 0).2),vi ((gI ps 0).1),vi ((gI ps 0).2)])]) rfl rfl (.cons rfl .nil) ?_))
  intro g4 w5 v6 ch7 o8
  refine xp (v:=v6) 8 rfl (λw=>br rfl) (ec (by kernel_rfl) (ar (vs:=[v6]) Tryz.func96 (.tmp rfl .nil) ?_))
  replace bH:=bH.cn ch2
  replace bH:=bH.cn ch7
  have e0:(([((gI ps 0),(gI ps 0))]:List (Pt×Pt)):List (Pt×Pt))=(aE ps):=by
    exact vO ‹_›
  exact⟨(fin w0 g4 (λn=>if n=1 then 1 else 0),v6),(congrArg (a₁:=([((gI ps 0),(gI ps 0))]:List (Pt×Pt))) (λ(z0:List (Pt×Pt))=>Ending.returned (v6)) e0),bH.fresh _,(e0▸(o8.glue (γ:=c0) (ren:=(λn=>if n=1 then 1 else 0)) (k:=1) bH.col rfl rfl))⟩
 refine ag rfl (df p1) (ak (a7 (a6 rfl (ma vn (aa (a7 (a7 (a6 rfl (ai 0 (aa (am ?_)))))))))))
 refine aN (σ:=Value×(List (Pt×Pt))×Nat×aK) (λ⟨l_v,l,i,gq⟩ f w=>aT w0 gq w/\f 0=ps_v/\f 3=l_v/\f 4=vi ↑i/\Sl gq (is 0) w ps_v ps/\Ow gq (is 3) (is 3) w l_v l/\(l=jP ps i/\(i=0\/i+1<=ps.length))) (λ⟨l_v,l,i,gq⟩=>List.length ps-i) (vn,[],0,c0) ?_ ?_
 · exact⟨bH,rfl,rfl,rfl,Rps,Ow.nil,by exact⟨rfl,by omega⟩⟩
 clear Rps bH
 rintro⟨l_v,l,i,g11⟩ f9 w10 ⟨bH,zs0,zs3,zs4,Rps,o_l,hinv⟩ back5
 have hll:l.length=i:=by rw[hinv.1];exact lQ ps _
 have hi1:=hinv.2
 refine a7 (a7 (a6 rfl (mz zs4 (lx (aM (m:=↑i) (n:=1) rfl rfl (by omega)) (mz zs0 (lx (aQ bS rfl Rps) (lx (aZ (m:=(i:Int)+1) (n:=(ps.length:Int)) rfl rfl) (aa ?_))))))))
 by_cases p5:((i:Int)+1)<(ps.length:Int)
 ·
  refine af rfl (dt p5) (ak (a7 (am (c6 g11 [0,1,2,3,4,5,6,7,8,9,10,13] dV ?_))))
  intro w13 ch12
  refine xp (v:=l_v) 0 rfl (λw=>aq zs3) (xp (v:=ps_v) 1 rfl (λw=>aq zs0) (xp (v:=vi ↑i) 2 rfl (λw=>aq zs4) ?_))
  replace Rps:=Rps.cn ch12
  refine xv 3 [2,1,0,5,6,7,8,9] rfl (ad (v:=ps_v) (i:=↑i) bS rfl rfl Rps rfl (by omega) (by omega)) (xv (v:=vg [vi ((gI ps ↑i).1),vi ((gI ps ↑i).2)]) 4 [3,2,1,0,5,6,7,8,9] rfl (aF (v:=ps_v) (i:=↑i) ah rfl Rps (by omega) (by omega) rfl) (xp (v:=ps_v) 5 rfl (λw=>aq zs0) (xp (v:=vi ↑i) 6 rfl (λw=>aq zs4) (xp 7 rfl (λw=>aM (m:=↑i) (n:=1) rfl rfl (by omega)) (xv 8 [7,6,5,4,3,2,1,0] rfl (ad (v:=ps_v) (i:=(i:Int)+1) bS rfl rfl Rps rfl (by omega) (by omega)) ?_)))))
  refine xv (v:=vg [vi ((gI ps ((i:Int)+1)).1),vi ((gI ps ((i:Int)+1)).2)]) 9 [8,7,6,5,4,3,2,1,0] rfl (aF (v:=ps_v) (i:=(i:Int)+1) ah rfl Rps (by omega) (by omega) rfl) (xp (v:=vg [vi ((gI ps ↑i).1),vi ((gI ps ↑i).2),vi ((gI ps ((i:Int)+1)).1),vi ((gI ps ((i:Int)+1)).2)]) 10 rfl (λw=>bw (vs:=[(0,vg [vi ((gI ps ↑i).1),vi ((gI ps ↑i).2)]),(1,vg [vi ((gI ps ((i:Int)+1)).1),vi ((gI ps ((i:Int)+1)).2)])]) rfl (by kernel_rfl)) (ct 11 rfl (by kernel_rfl) rfl ?_))
  refine aG (α:=Pt×Pt) g11 (is 2) (is 2) (2,0) rfl ([((gI ps ↑i),(gI ps ((i:Int)+1)))]:List (Pt×Pt)) gK lO (by decide) (by decide) (vs:=[(0,vg [vi ((gI ps ↑i).1),vi ((gI ps ↑i).2),vi ((gI ps ((i:Int)+1)).1),vi ((gI ps ((i:Int)+1)).2)])]) rfl rfl (.cons rfl .nil) ?_
  intro g14 w15 v16 ch17 o18
  refine ct 12 rfl (by kernel_rfl) rfl ?_
  replace o_l:=(o_l.cn ch12).cn ch17
  refine aV (α:=Pt×Pt) (xs:=l) (ys:=([((gI ps ↑i),(gI ps ((i:Int)+1)))]:List (Pt×Pt))) g14 (J:=is 3) (S:=is 3) (3,0) rfl gK lO (by decide) rfl rfl rfl o_l o18.flat (by decide) (by(simp;omega)) ?_
  intro g19 w20 v21 ch22 o23
  clear o_l
  refine xp (v:=v21) 13 rfl (λw=>br rfl) (ec (by kernel_rfl) (al ?_))
  clear o18
  refine a6 rfl (mz zs4 (lx (aM (m:=↑i) (n:=1) rfl rfl (by omega)) (ai ((i:Int)+1) (aa ?_))))
  have C24:=cg [3] (ch12.n.seq (ch17.n.seq (ch22.l rfl)))
  refine back5 (v21,(l++([((gI ps ↑i),(gI ps ((i:Int)+1)))]:List (Pt×Pt))),i+1,g19) _ _ ⟨bH.ca C24,zs0,rfl,rfl,(Rps.cn ch17).ce ch22,o23,?_⟩ ?_
  · show(l++([((gI ps ↑i),(gI ps ((i:Int)+1)))]:List (Pt×Pt)))=jP ps (i+1)/\((i+1)=0\/(i+1)+1<=ps.length)
    exact⟨by rw[jP,hinv.1],by omega⟩
  · show List.length ps-(i+1)<List.length ps-i
    omega
 refine ag rfl (df p5) (aJ rfl (a7 (a6 rfl (mz zs3 (ma l_v (aa (ar (vs:=[l_v]) Tryz.func96 (.tmp rfl .nil) ?_)))))))
 have e0:(l:List (Pt×Pt))=(aE ps):=by
   (unfold aE;rw[if_neg (by omega),hinv.1];congr 1;omega)
 exact⟨(fin w0 g11 (λn=>if n=3 then 1 else 0),l_v),(congrArg (a₁:=l) (λ(z0:List (Pt×Pt))=>Ending.returned (l_v)) e0),bH.fresh _,(e0▸(o_l.glue (γ:=c0) (ren:=(λn=>if n=3 then 1 else 0)) (k:=1) bH.col rfl rfl))⟩
theorem zV(w0:World)(l:List Pt)(l_v:Value)(hl_v:Ro w0 l_v l)(p:Pt):
    Calls Tryz.prog 97 #[l_v,vg [vi p.1,vi p.2]] w0 (λee w=>ee= .returned (vb (decide (p∈l)))/\cE w0.heap.size w0 w):=by
 refine au Tryz.func97 rfl nq ?_
 have bH:=aT.start w0
 have Rl:=hl_v.sl
 refine a7 (a6 rfl (bW rfl (bh c0 (is 1) (1,0) rfl rfl ?_)))
 intro g4 w1 b3 ch2 bx5
 replace bx5:Bx g4 (is 1) w1 b3 [vi p.1,vi p.2]:=bx5
 refine ma (vb false) (aa (a7 (a7 (a6 rfl (ai 0 (aa (am ?_)))))))
 refine aN (σ:=Nat×aK) (λ⟨i,gq⟩ f w=>aT w0 gq w/\f 0=l_v/\f 3=vp b3 0/\f 5=vi ↑i/\Sl gq (is 0) w l_v l/\Bx gq (is 1) w b3 [vi p.1,vi p.2]/\(i:Int)<=((l.length:Int):Int)/\(∀j:Nat,j<i->gI l ↑j≠p)) (λ⟨i,gq⟩=>Int.toNat (((l.length:Int):Int)-(i:Int))) (0,g4) ?_ ?_
 · exact⟨bH.cn ch2,rfl,rfl,rfl,Rl.cn ch2,bx5,by omega,by intro j hj;omega⟩
 clear Rl bx5 bH
 rintro⟨i,g8⟩ f6 w7 ⟨bH,zs0,zs3,zs5,Rl,bx5,hle_i,hinv⟩ back2
 refine a7 (a7 (a6 rfl (mz zs5 (mz zs0 ?_))))
 have len9:=(Rl).small
 refine lx (aQ bS rfl Rl) (lx (aZ (m:=↑i) (n:=(l.length:Int)) rfl rfl) (aa ?_))
 by_cases p2:(i:Int)<(l.length:Int)
 ·
  refine af rfl (dt p2) (ak (a7 (am (a7 (bz g8 rfl dV (by kernel_rfl) ?_)))))
  intro w11 ch10
  refine qz zs0 (qz zs5 ?_)
  replace Rl:=Rl.cn ch10
  refine qx (λw' hw'=>ad (v:=l_v) (i:=↑i) bS rfl rfl (Rl.bel hw') rfl (by omega) (by omega)) (qv (vg [vi ((gI l ↑i).1),vi ((gI l ↑i).2)]) (λw' hw'=>aF (v:=l_v) (i:=↑i) ah rfl (Rl.bel hw') (by omega) (by omega) rfl) ?_)
  replace bx5:=bx5.cn ch10
  refine qx (λw' hw'=>aj (ds:=[vi p.1,vi p.2]) ah zs3 (bx5.bel hw') rfl rfl) (qv (vb (decide ((gI l ↑i)=p))) (λw' hw'=>dh (bs:=[decide (((gI l ↑i).1)=p.1),decide (((gI l ↑i).2)=p.2)]) cj (by kernel_rfl) (by kernel_rfl) rfl rfl (.cons (by decide+kernel) az rfl rfl (.int U3) (.cons (by decide+kernel) az rfl rfl (.int U3) .nil)) (by simp[Prod.ext_iff,Bool.decide_and,Bool.and_assoc])) (bN ?_))
  intro w12 hc13
  replace hc13:=ao hc13 g8
  by_cases p4:(gI l ↑i)=p
  ·
   refine af rfl (dt p4) (a7 ?_)
   clear bx5
   refine a6 rfl (ma (vb true) (aa (ar (vs:=[vb true]) Tryz.func97 (.tmp rfl .nil) ?_)))
   have e0:(true:Bool)=(decide (p∈l)):=by
     exact(dt (by rw[<-(show gI l ↑i=p by assumption)];exact bk (by omega) ‹_›)).symm
   replace bH:=bH.cn ch10
   replace bH:=bH.cn hc13
   exact⟨rb e0,bH.below⟩
  refine ag rfl (df p4) (ak (al (a6 rfl (mz zs5 (lx (aM (m:=↑i) (n:=1) rfl rfl (by omega)) (ai ((i:Int)+1) (aa ?_)))))))
  replace bH:=bH.cn ch10
  refine back2 (i+1,g8) _ _ ⟨bH.cn hc13,zs0,zs3,rfl,Rl.cn hc13,bx5.cn hc13,by omega,?_⟩ ?_
  · show∀j:Nat,j<(i+1)->gI l ↑j≠p
    intro j hj
    by_cases e0:j=i
    · subst e0;assumption
    · exact hinv j (by omega)
  · show Int.toNat (((l.length:Int):Int)-((i+1):Int))<Int.toNat (((l.length:Int):Int)-(i:Int))
    omega
 refine ag rfl (df p2) (aJ rfl (a7 ?_))
 clear bx5
 refine a6 rfl (ma (vb false) (aa (ar (vs:=[vb false]) Tryz.func97 (.tmp rfl .nil) ?_)))
 have e0:(false:Bool)=(decide (p∈l)):=by
   exact(df (λhm=>by obtain⟨j,hj,e⟩:=List.mem_iff_getElem.1 hm;exact hinv j (by omega) (by simp[gI,hj,e]))).symm
 exact⟨rb e0,bH.below⟩
end TL
