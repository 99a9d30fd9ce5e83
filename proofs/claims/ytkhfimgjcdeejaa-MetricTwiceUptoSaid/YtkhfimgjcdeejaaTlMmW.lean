import Derived.Test.YtkhfimgjcdeejaaTlP2
import Derived.Test.YtkhfimgjcdeejaaTlGmA
import Derived.Test.YtkhfimgjcdeejaaTlGenA
import Derived.Test.YtkhfimgjcdeejaaTlGjC
import Derived.Test.YtkhfimgjcdeejaaTlMmA
import Derived.Test.YtkhfimgjcdeejaaTlMmB
import Derived.Test.YtkhfimgjcdeejaaProg
import Derived.Test.YtkhfimgjcdeejaaTlAli
set_option linter.all false
set_option maxRecDepth 20000
namespace TL
open Go Go.Proofs
theorem dC:Try.prog.follows .mixedOrders=true:=by kernel_rfl
theorem aX:Tp Try.prog 76 false 1 24 (.slice none 0 0):=Tp.of (by kernel_rfl)
theorem aW:Tp Try.prog 78 true 3 24 (.agg #[.int .i64 0,.int .i64 0,.float .f64 0]):=Tp.of (by kernel_rfl)
set_option maxHeartbeats 4000000 in
theorem pQ(w0:World)(g:(Int)×(List Pt))(g_v:Value)(hg_v:Ro w0 g_v g.2)(p:(List Pt)×(List (List Pt)))(p_v p_v1:Value)(hp_v:Ro w0 p_v p.1)(hp_v1:Ro w0 p_v1 p.2)(hm:dd g)(hs:ni g p):
    Calls Try.prog 33 #[vg [vi g.1,g_v],vg [p_v,p_v1]] w0 (λee w=>∃xx:aV×Value,ee= .returned ((λ⟨δ,rv0⟩=>rv0) xx)/\(λ(⟨δ,rv0⟩:aV×Value) (w:World)=>iX w0 δ w/\dH δ 1 w rv0 (ar g p g.2.length)) xx w):=by
 refine aK Try.func33 rfl nq ?_
 have bH:=bu.start w0
 have Rg:=hg_v.sl
 have Rp:=hp_v.sl
 have r_p_v1:=hp_v1.sl
 have hm0:=hm
 obtain⟨hm1,hm2,hm3,hm4⟩:=hm0
 have hs2:=hs.m
 refine a8 (a7 rfl (cN rfl (bC c0 (is 1) (1,0) rfl rfl ?_)))
 intro g4 w1 b3 ch2 bx5
 replace bx5:Bx g4 (is 1) w1 b3 [vi g.1,g_v]:=bx5
 refine lo (bC g4 (is 2) (2,0) rfl rfl ?_)
 intro g9 w6 b8 ch7 bx10
 replace bx10:Bx g9 (is 2) w6 b8 [p_v,p_v1]:=bx10
 refine ma vn (ab (a8 (a7 rfl (lx (a9 fO rfl rfl rfl rfl) ?_))))
 replace bx5:=bx5.cn ch7
 refine lx (aa aL rfl bx5 rfl) (lo (l5 (α:=(Int)×(Int)×(Nat)) (n:=g.1) (cp:=g.1) g9 3 e8 aX rfl rfl rfl (by omega) (by omega) (by omega) (by omega) ?_))
 intro g11 w12 v13 ch14 o15
 refine ma v13 (ab (a8 (a8 (a7 rfl (lx (a9 fO rfl rfl rfl rfl) ?_)))))
 replace bx5:=bx5.cn ch14
 refine lx (aa cO rfl bx5 rfl) ?_
 have C16:=cg [] (ch2.n.seq (ch7.n.seq ch14.n))
 replace Rg:=Rg.ca C16
 have len17:=(Rg).small
 refine lx (bO iJ rfl Rg) (mi 0 (ab (aC ?_)))
 clear bx5
 refine bF (σ:=Nat×(List (List ((Int)×(Int)×(Nat))))×aV) (λ⟨e,L,gq⟩ f w=>bu w0 gq w/\f 3=vp b8 0/\f 5=v13/\f 18=g_v/\f 19=vi (g.2.length:Int)/\f 20=vi ↑e/\Sl gq (is 0) w g_v g.2/\Sl gq (is 0) w p_v p.1/\Sl gq (is 0) w p_v1 p.2/\Bx gq (is 2) w b8 [p_v,p_v1]/\dH gq 3 w v13 L/\(e:Int)<=((g.2.length:Int):Int)/\(L=ar g p e)) (λ⟨e,L,gq⟩=>Int.toNat (((g.2.length:Int):Int)-(e:Int))) (0,(List.replicate (Int.toNat g.1) []),g11) ?_ ?_
 · exact⟨bH.ca C16,rfl,rfl,rfl,rfl,rfl,Rg,Rp.ca C16,r_p_v1.ca C16,bx10.cn ch14,o15,by omega,by rfl⟩
 clear Rg Rp r_p_v1 bx10 o15 bH
 rintro⟨e,L,g20⟩ f18 w19 ⟨bH,zs3,zs5,zs18,zs19,zs20,Rg,Rp,r_p_v1,bx10,o15,hle_e,hL⟩ back3
 have hLl:L.length=g.1.toNat:=by rw[hL];exact iU _ _ _
 have hrw:∀v,(gI L v).length<=2*e:=by rw[hL];exact iO g p e
 refine a8 (a7 rfl (lx (bc (m:=↑e) (n:=(g.2.length:Int)) zs20 zs19) (ab (a8 ?_))))
 by_cases p3:(e:Int)<(g.2.length:Int)
 ·
  refine ag rfl (dt p3) ?_
  obtain⟨hl1,hl3⟩:=hs.ln (e:Int) (by omega) (by omega)
  have hl2:=hl3.1
  have hee:=hm4 _ (bl (xs:=g.2) (i:=↑e) (by omega) (by omega))
  obtain⟨⟨he1,he2⟩,he3,he4⟩:=hee
  obtain⟨⟨x01,x02⟩,x03,x04⟩:=hl3.2 _ (bl (xs:=gI p.2 ↑e) (i:=0) (by omega) (by omega))
  obtain⟨⟨x11,x12⟩,x13,x14⟩:=hl3.2 _ (bl (xs:=gI p.2 ↑e) (i:=1) (by omega) (by omega))
  obtain⟨⟨x21,x22⟩,x23,x24⟩:=hl3.2 _ (bl (xs:=gI p.2 ↑e) (i:=((gI p.2 ↑e).length:Int)-1) (by omega) (by omega))
  obtain⟨⟨x31,x32⟩,x33,x34⟩:=hl3.2 _ (bl (xs:=gI p.2 ↑e) (i:=((gI p.2 ↑e).length:Int)-2) (by omega) (by omega))
  refine au (a8 (aC (a8 (a7 rfl (mz zs20 (lx (af (v:=g_v) (i:=↑e) iJ rfl zs18 Rg zs20 (by omega) (by omega)) (lw (vg [vi ((gI g.2 ↑e).1),vi ((gI g.2 ↑e).2)]) (aT (v:=g_v) (i:=↑e) ep rfl Rg (by omega) (by omega) rfl) (lo (bo g20 (is 4) (4,0) rfl ep ?_)))))))))
  intro g24 w21 b23 ch22 bx25
  replace bx25:Bx g24 (is 4) w21 b23 [vi 0,vi 0]:=bx25
  refine ai (e:Int) (lo (ao (cs':=[vi ((gI g.2 ↑e).1),vi ((gI g.2 ↑e).2)]) ep rfl rfl bx25 rfl nq (AllOne.all (.cons rfl (.cons rfl .nil))) rfl ?_))
  intro w26 ch27 bx28
  clear bx25
  refine ab (a8 (a7 rfl (lx (a9 eQ rfl rfl zs3 rfl) ?_)))
  replace bx10:=(bx10.cn ch22).ce ch27
  refine lx (aa cP rfl bx10 rfl) (mi ↑e ?_)
  replace r_p_v1:=(r_p_v1.cn ch22).ce ch27
  refine lx (af (v:=p_v1) (i:=↑e) iL rfl rfl r_p_v1 rfl (by omega) (by omega)) ?_
  obtain⟨v29,cel30,r31⟩:=dK (r:=(e:Int)) r_p_v1 (by omega) (by omega)
  refine lx (aZ bD rfl cel30) (ma v29 (ab (a8 (a7 rfl (mv v29 ?_)))))
  have len32:=(r31).small
  refine lx (bO cT rfl r31) (ai (List.length (gI p.2 ↑e):Int) (ab (a8 (a7 rfl (lx (ae (ds:=[vi ((gI g.2 ↑e).1),vi ((gI g.2 ↑e).2)]) ep rfl bx28 rfl rfl) (mi 0 (ab (aC (dQ (a8 ?_))))))))))
  clear bx28
  refine a7 rfl (lx (bc (m:=0) (n:=2) rfl rfl) (ab (a8 (ag rfl rfl (au (a8 (aC (a8 (a7 rfl (mi 0 (lw (vi ((gI g.2 ↑e).1)) (cD kr aL rfl rfl (by decide) (by decide) rfl) ?_)))))))))))
  refine ai 0 (ai ((gI g.2 ↑e).1) (ab (a8 ?_)))
  refine cj (σ:=Nat×Nat×aV) (λ⟨b37,b43,gq⟩ f w=>bu w0 gq w/\f 3=vp b8 0/\f 5=v13/\f 8=v29/\f 9=vi (List.length (gI p.2 ↑e):Int)/\f 10=vi 0/\f 11=vi ((gI g.2 ↑e).1)/\f 12=vp b37 0/\f 13=vp b43 0/\f 18=g_v/\f 19=vi (g.2.length:Int)/\f 20=vi ↑e/\f 32=vg [vi ((gI g.2 ↑e).1),vi ((gI g.2 ↑e).2)]/\f 33=vi 0/\Sl gq (is 0) w g_v g.2/\Sl gq (is 0) w p_v p.1/\Sl gq (is 0) w p_v1 p.2/\Bx gq (is 2) w b8 [p_v,p_v1]/\dH gq 3 w v13 L/\Sl gq (is 0) w v29 (gI p.2 ↑e)/\Bx gq (is 5) w b37 [vi ((gI (gI p.2 ↑e) 0).1),vi ((gI (gI p.2 ↑e) 0).2)]/\Bx gq (is 6) w b43 [vi ((gI (gI p.2 ↑e) 1).1),vi ((gI (gI p.2 ↑e) 1).2)]) g24 (inl [5,6]) dC ?_ ?_
  ·
   intro mid
   intro w34 ch33
   refine ht (v:=v29) 0 rfl (bh.refl _ _ _) (λw' hw'=>aR rfl) ?_
   replace r31:=r31.cn ch33
   refine ht 1 rfl (bh.refl _ _ _) (λw' hw'=>af (v:=v29) (i:=0) cT rfl rfl (r31.chg hw' (bt rfl)) rfl (by omega) (by omega)) (ht (v:=vg [vi ((gI (gI p.2 ↑e) 0).1),vi ((gI (gI p.2 ↑e) 0).2)]) 2 rfl (bh.refl _ _ _) (λw' hw'=>aT (v:=v29) (i:=0) aj rfl (r31.chg hw' (bt rfl)) (by omega) (by omega) rfl) (ht (v:=v29) 3 rfl (bh.refl _ _ _) (λw' hw'=>aR rfl) (ht 4 rfl (bh.refl _ _ _) (λw' hw'=>af (v:=v29) (i:=1) cT rfl rfl (r31.chg hw' (bt rfl)) rfl (by omega) (by omega)) (ht (v:=vg [vi ((gI (gI p.2 ↑e) 1).1),vi ((gI (gI p.2 ↑e) 1).2)]) 5 rfl (bh.refl _ _ _) (λw' hw'=>aT (v:=v29) (i:=1) aj rfl (r31.chg hw' (bt rfl)) (by omega) (by omega) rfl) ?_))))
   refine bJ 6 [7] (by kernel_rfl) ⟨bL 6 rfl (by kernel_rfl) rfl ?_,bL 7 rfl (by kernel_rfl) rfl ?_,trivial⟩
   ·
    refine bo g24 (is 5) (5,0) rfl aj ?_
    intro g38 w35 b37 ch36 bx39
    replace bx39:Bx g38 (is 5) w35 b37 [vi 0,vi 0]:=bx39
    have hs40:bh (inl [5,6]) _ _ _ _:=ch36.n
    refine⟨hs40.same,?_⟩
    refine aE 7 rfl (by kernel_rfl) rfl (bo g38 (is 6) (6,0) rfl aj ?_)
    intro g44 w41 b43 ch42 bx45
    replace bx45:Bx g44 (is 6) w41 b43 [vi 0,vi 0]:=bx45
    have hs46:=hs40.seq (ch42.n)
    refine⟨hs46.same,?_⟩
    refine aE 8 rfl (by kernel_rfl) rfl ?_
    replace bx39:=bx39.cn ch42
    refine ao (cs':=[vi ((gI (gI p.2 ↑e) 0).1),vi ((gI (gI p.2 ↑e) 0).2)]) aj rfl rfl bx39 rfl nq (AllOne.all (.cons rfl (.cons rfl .nil))) rfl ?_
    intro w47 ch48 bx49
    clear bx39
    have hs50:=hs46.seq (ch48.l rfl)
    refine⟨hs50.same,?_⟩
    refine aE 9 rfl (by kernel_rfl) rfl ?_
    replace bx45:=bx45.ce ch48
    refine ao (cs':=[vi ((gI (gI p.2 ↑e) 1).1),vi ((gI (gI p.2 ↑e) 1).2)]) aj rfl rfl bx45 rfl nq (AllOne.all (.cons rfl (.cons rfl .nil))) rfl ?_
    intro w51 ch52 bx53
    clear bx45
    have hs54:=hs50.seq (ch52.l rfl)
    refine⟨hs54.same,?_⟩
    refine bI (by kernel_rfl) ?_
    have C55:=cg [4,5,6] (ch22.n.seq ((ch27.l rfl).seq (ch33.n.seq (ch36.n.seq (ch42.n.seq ((ch48.l rfl).seq (ch52.l rfl)))))))
    have C56:=cg [4] (ch22.n.seq ((ch27.l rfl).seq ch33.n))
    replace Rg:=Rg.ca C56
    replace Rp:=Rp.ca C56
    replace r_p_v1:=r_p_v1.cn ch33
    replace bx10:=bx10.cn ch33
    replace o15:=o15.ca C56
    exact mid (b37,b43,g44) _ _ ⟨bH.ca C55,zs3,zs5,rfl,rfl,rfl,rfl,rfl,rfl,zs18,zs19,zs20,rfl,rfl,(Rg.ca hs54),(Rp.ca hs54),(r_p_v1.ca hs54),(bx10.ca hs54),(o15.ca hs54),(r31.ca hs54),bx49.ce ch52,bx53⟩
   ·
    refine bo g24 (is 6) (6,0) rfl aj ?_
    intro g60 w57 b59 ch58 bx61
    replace bx61:Bx g60 (is 6) w57 b59 [vi 0,vi 0]:=bx61
    have hs62:bh (inl [5,6]) _ _ _ _:=ch58.n
    refine⟨hs62.same,?_⟩
    refine aE 6 rfl (by kernel_rfl) rfl (bo g60 (is 5) (5,0) rfl aj ?_)
    intro g66 w63 b65 ch64 bx67
    replace bx67:Bx g66 (is 5) w63 b65 [vi 0,vi 0]:=bx67
    have hs68:=hs62.seq (ch64.n)
    refine⟨hs68.same,?_⟩
    refine aE 8 rfl (by kernel_rfl) rfl (ao (cs':=[vi ((gI (gI p.2 ↑e) 0).1),vi ((gI (gI p.2 ↑e) 0).2)]) aj rfl rfl bx67 rfl nq (AllOne.all (.cons rfl (.cons rfl .nil))) rfl ?_)
    intro w69 ch70 bx71
    clear bx67
    have hs72:=hs68.seq (ch70.l rfl)
    refine⟨hs72.same,?_⟩
    refine aE 9 rfl (by kernel_rfl) rfl ?_
    replace bx61:=(bx61.cn ch64).ce ch70
    refine ao (cs':=[vi ((gI (gI p.2 ↑e) 1).1),vi ((gI (gI p.2 ↑e) 1).2)]) aj rfl rfl bx61 rfl nq (AllOne.all (.cons rfl (.cons rfl .nil))) rfl ?_
    intro w73 ch74 bx75
    clear bx61
    have hs76:=hs72.seq (ch74.l rfl)
    refine⟨hs76.same,?_⟩
    refine bI (by kernel_rfl) ?_
    have C77:=cg [4,5,6] (ch22.n.seq ((ch27.l rfl).seq (ch33.n.seq (ch58.n.seq (ch64.n.seq ((ch70.l rfl).seq (ch74.l rfl)))))))
    have C78:=cg [4] (ch22.n.seq ((ch27.l rfl).seq ch33.n))
    replace Rg:=Rg.ca C78
    replace Rp:=Rp.ca C78
    replace r_p_v1:=r_p_v1.cn ch33
    replace bx10:=bx10.cn ch33
    replace o15:=o15.ca C78
    exact mid (b65,b59,g66) _ _ ⟨bH.ca C77,zs3,zs5,rfl,rfl,rfl,rfl,rfl,rfl,zs18,zs19,zs20,rfl,rfl,(Rg.ca hs76),(Rp.ca hs76),(r_p_v1.ca hs76),(bx10.ca hs76),(o15.ca hs76),(r31.ca hs76),bx71.ce ch74,bx75⟩
  clear Rg Rp r_p_v1 bx10 o15 r31 bH
  rintro⟨b37,b43,g81⟩ f79 w80 ⟨bH,zs3,zs5,zs8,zs9,zs10,zs11,zs12,zs13,zs18,zs19,zs20,zs32,zs33,Rg,Rp,r_p_v1,bx10,o15,r31,bx49,bx53⟩
  refine a8 (a8 (a7 rfl (mz zs10 (lx (d7 (m:=0) (n:=1) rfl rfl) (ab (ah rfl rfl (au (a8 (a7 rfl (lx (ae (ds:=[vi ((gI (gI p.2 ↑e) 0).1),vi ((gI (gI p.2 ↑e) 0).2)]) aj zs12 bx49 rfl rfl) (lx (ae (ds:=[vi ((gI (gI p.2 ↑e) 1).1),vi ((gI (gI p.2 ↑e) 1).2)]) aj zs13 bx53 rfl rfl) ?_)))))))))))
  refine lw (vb (!(decide ((gI (gI p.2 ↑e) 0)=(gI (gI p.2 ↑e) 1))))) (eF (bs:=[decide (((gI (gI p.2 ↑e) 0).1)=((gI (gI p.2 ↑e) 1).1)),decide (((gI (gI p.2 ↑e) 0).2)=((gI (gI p.2 ↑e) 1).2))]) cL (by kernel_rfl) (by kernel_rfl) rfl rfl (.cons (by decide+kernel) aL rfl rfl (.int U3) (.cons (by decide+kernel) aL rfl rfl (.int U3) .nil)) (by simp[Prod.ext_iff,Bool.decide_and,Bool.and_assoc])) (ab ?_)
  by_cases p13:(gI (gI p.2 ↑e) 0)=(gI (gI p.2 ↑e) 1)
  ·
   refine ah rfl (congrArg Bool.not (dt p13)) (au (ap ?_))
   clear bx49 bx53
   refine a7 rfl (lx (ba (m:=0) (n:=1) zs33 rfl (by omega)) (mi 1 (ab (aN (a8 (a7 rfl (lx (bc (m:=1) (n:=2) rfl rfl) (ab (a8 (ag rfl rfl (au ?_)))))))))))
   refine a8 (aC (a8 (a7 rfl (mi 1 (lw (vi ((gI g.2 ↑e).2)) (cD kr aL zs32 rfl (by decide) (by decide) rfl) (ai 1 (ai ((gI g.2 ↑e).2) (ab (a8 ?_)))))))))
   refine cj (σ:=Nat×Nat×aV) (λ⟨b86,b92,gq⟩ f w=>bu w0 gq w/\f 3=vp b8 0/\f 5=v13/\f 8=v29/\f 9=vi (List.length (gI p.2 ↑e):Int)/\f 10=vi 1/\f 11=vi ((gI g.2 ↑e).2)/\f 12=vp b86 0/\f 13=vp b92 0/\f 18=g_v/\f 19=vi (g.2.length:Int)/\f 20=vi ↑e/\f 32=vg [vi ((gI g.2 ↑e).1),vi ((gI g.2 ↑e).2)]/\f 33=vi 1/\Sl gq (is 0) w g_v g.2/\Sl gq (is 0) w p_v p.1/\Sl gq (is 0) w p_v1 p.2/\Bx gq (is 2) w b8 [p_v,p_v1]/\dH gq 3 w v13 L/\Sl gq (is 0) w v29 (gI p.2 ↑e)/\Bx gq (is 5) w b86 [vi ((gI (gI p.2 ↑e) 0).1),vi ((gI (gI p.2 ↑e) 0).2)]/\Bx gq (is 6) w b92 [vi ((gI (gI p.2 ↑e) 1).1),vi ((gI (gI p.2 ↑e) 1).2)]) g81 (inl [5,6]) dC ?_ ?_
   ·
    intro mid
    intro w83 ch82
    refine ht (v:=v29) 0 rfl (bh.refl _ _ _) (λw' hw'=>aR zs8) ?_
    replace r31:=r31.cn ch82
    refine ht 1 rfl (bh.refl _ _ _) (λw' hw'=>af (v:=v29) (i:=0) cT rfl rfl (r31.chg hw' (bt rfl)) rfl (by omega) (by omega)) (ht (v:=vg [vi ((gI (gI p.2 ↑e) 0).1),vi ((gI (gI p.2 ↑e) 0).2)]) 2 rfl (bh.refl _ _ _) (λw' hw'=>aT (v:=v29) (i:=0) aj rfl (r31.chg hw' (bt rfl)) (by omega) (by omega) rfl) (ht (v:=v29) 3 rfl (bh.refl _ _ _) (λw' hw'=>aR zs8) (ht 4 rfl (bh.refl _ _ _) (λw' hw'=>af (v:=v29) (i:=1) cT rfl rfl (r31.chg hw' (bt rfl)) rfl (by omega) (by omega)) ?_)))
    refine ht (v:=vg [vi ((gI (gI p.2 ↑e) 1).1),vi ((gI (gI p.2 ↑e) 1).2)]) 5 rfl (bh.refl _ _ _) (λw' hw'=>aT (v:=v29) (i:=1) aj rfl (r31.chg hw' (bt rfl)) (by omega) (by omega) rfl) ?_
    refine bJ 6 [7] (by kernel_rfl) ⟨bL 6 rfl (by kernel_rfl) rfl ?_,bL 7 rfl (by kernel_rfl) rfl ?_,trivial⟩
    ·
     refine bo g81 (is 5) (5,0) rfl aj ?_
     intro g87 w84 b86 ch85 bx88
     replace bx88:Bx g87 (is 5) w84 b86 [vi 0,vi 0]:=bx88
     have hs89:bh (inl [5,6]) _ _ _ _:=ch85.n
     refine⟨hs89.same,?_⟩
     refine aE 7 rfl (by kernel_rfl) rfl (bo g87 (is 6) (6,0) rfl aj ?_)
     intro g93 w90 b92 ch91 bx94
     replace bx94:Bx g93 (is 6) w90 b92 [vi 0,vi 0]:=bx94
     have hs95:=hs89.seq (ch91.n)
     refine⟨hs95.same,?_⟩
     refine aE 8 rfl (by kernel_rfl) rfl ?_
     replace bx88:=bx88.cn ch91
     refine ao (cs':=[vi ((gI (gI p.2 ↑e) 0).1),vi ((gI (gI p.2 ↑e) 0).2)]) aj rfl rfl bx88 rfl nq (AllOne.all (.cons rfl (.cons rfl .nil))) rfl ?_
     intro w96 ch97 bx98
     clear bx88
     have hs99:=hs95.seq (ch97.l rfl)
     refine⟨hs99.same,?_⟩
     refine aE 9 rfl (by kernel_rfl) rfl ?_
     replace bx94:=bx94.ce ch97
     refine ao (cs':=[vi ((gI (gI p.2 ↑e) 1).1),vi ((gI (gI p.2 ↑e) 1).2)]) aj rfl rfl bx94 rfl nq (AllOne.all (.cons rfl (.cons rfl .nil))) rfl ?_
     intro w100 ch101 bx102
     clear bx94
     have hs103:=hs99.seq (ch101.l rfl)
     refine⟨hs103.same,?_⟩
     refine bI (by kernel_rfl) ?_
     have C104:=cg [5,6] (ch82.n.seq (ch85.n.seq (ch91.n.seq ((ch97.l rfl).seq (ch101.l rfl)))))
     replace Rg:=Rg.cn ch82
     replace Rp:=Rp.cn ch82
     replace r_p_v1:=r_p_v1.cn ch82
     replace bx10:=bx10.cn ch82
     replace o15:=o15.cn ch82
     exact mid (b86,b92,g93) _ _ ⟨bH.ca C104,zs3,zs5,zs8,zs9,rfl,rfl,rfl,rfl,zs18,zs19,zs20,zs32,rfl,(Rg.ca hs103),(Rp.ca hs103),(r_p_v1.ca hs103),(bx10.ca hs103),(o15.ca hs103),(r31.ca hs103),bx98.ce ch101,bx102⟩
    ·
     refine bo g81 (is 6) (6,0) rfl aj ?_
     intro g108 w105 b107 ch106 bx109
     replace bx109:Bx g108 (is 6) w105 b107 [vi 0,vi 0]:=bx109
     have hs110:bh (inl [5,6]) _ _ _ _:=ch106.n
     refine⟨hs110.same,?_⟩
     refine aE 6 rfl (by kernel_rfl) rfl (bo g108 (is 5) (5,0) rfl aj ?_)
     intro g114 w111 b113 ch112 bx115
     replace bx115:Bx g114 (is 5) w111 b113 [vi 0,vi 0]:=bx115
     have hs116:=hs110.seq (ch112.n)
     refine⟨hs116.same,?_⟩
     refine aE 8 rfl (by kernel_rfl) rfl (ao (cs':=[vi ((gI (gI p.2 ↑e) 0).1),vi ((gI (gI p.2 ↑e) 0).2)]) aj rfl rfl bx115 rfl nq (AllOne.all (.cons rfl (.cons rfl .nil))) rfl ?_)
     intro w117 ch118 bx119
     clear bx115
     have hs120:=hs116.seq (ch118.l rfl)
     refine⟨hs120.same,?_⟩
     refine aE 9 rfl (by kernel_rfl) rfl ?_
     replace bx109:=(bx109.cn ch112).ce ch118
     refine ao (cs':=[vi ((gI (gI p.2 ↑e) 1).1),vi ((gI (gI p.2 ↑e) 1).2)]) aj rfl rfl bx109 rfl nq (AllOne.all (.cons rfl (.cons rfl .nil))) rfl ?_
     intro w121 ch122 bx123
     clear bx109
     have hs124:=hs120.seq (ch122.l rfl)
     refine⟨hs124.same,?_⟩
     refine bI (by kernel_rfl) ?_
     have C125:=cg [5,6] (ch82.n.seq (ch106.n.seq (ch112.n.seq ((ch118.l rfl).seq (ch122.l rfl)))))
     replace Rg:=Rg.cn ch82
     replace Rp:=Rp.cn ch82
     replace r_p_v1:=r_p_v1.cn ch82
     replace bx10:=bx10.cn ch82
     replace o15:=o15.cn ch82
     exact mid (b113,b107,g114) _ _ ⟨bH.ca C125,zs3,zs5,zs8,zs9,rfl,rfl,rfl,rfl,zs18,zs19,zs20,zs32,rfl,(Rg.ca hs124),(Rp.ca hs124),(r_p_v1.ca hs124),(bx10.ca hs124),(o15.ca hs124),(r31.ca hs124),bx119.ce ch122,bx123⟩
   clear Rg Rp r_p_v1 bx10 o15 r31 bH
   rintro⟨b86,b92,g128⟩ f126 w127 ⟨bH,zs3,zs5,zs8,zs9,zs10,zs11,zs12,zs13,zs18,zs19,zs20,zs32,zs33,Rg,Rp,r_p_v1,bx10,o15,r31,bx98,bx102⟩
   refine a8 (a8 (a7 rfl (mz zs10 (lx (d7 (m:=1) (n:=1) rfl rfl) (ab (ag rfl rfl (dl g128 (inl [5,6]) dC ?_)))))))
   intro w130 ch129
   refine ht (v:=v29) 0 rfl (bh.refl _ _ _) (λw' hw'=>aR zs8) (ht (v:=vi (List.length (gI p.2 ↑e):Int)) 1 rfl (bh.refl _ _ _) (λw' hw'=>aR zs9) (ht 2 rfl (bh.refl _ _ _) (λw' hw'=>cW (m:=(List.length (gI p.2 ↑e):Int)) (n:=1) rfl rfl (by omega)) ?_))
   replace r31:=r31.cn ch129
   refine ht 3 rfl (bh.refl _ _ _) (λw' hw'=>af (v:=v29) (i:=(List.length (gI p.2 ↑e):Int)-1) cT rfl rfl (r31.chg hw' (bt rfl)) rfl (by omega) (by omega)) (ht (v:=vg [vi ((gI (gI p.2 ↑e) ((List.length (gI p.2 ↑e):Int)-1)).1),vi ((gI (gI p.2 ↑e) ((List.length (gI p.2 ↑e):Int)-1)).2)]) 4 rfl (bh.refl _ _ _) (λw' hw'=>aT (v:=v29) (i:=(List.length (gI p.2 ↑e):Int)-1) aj rfl (r31.chg hw' (bt rfl)) (by omega) (by omega) rfl) (ht (v:=v29) 5 rfl (bh.refl _ _ _) (λw' hw'=>aR zs8) (ht (v:=vi (List.length (gI p.2 ↑e):Int)) 6 rfl (bh.refl _ _ _) (λw' hw'=>aR zs9) ?_)))
   refine ht 7 rfl (bh.refl _ _ _) (λw' hw'=>cW (m:=(List.length (gI p.2 ↑e):Int)) (n:=2) rfl rfl (by omega)) (ht 8 rfl (bh.refl _ _ _) (λw' hw'=>af (v:=v29) (i:=(List.length (gI p.2 ↑e):Int)-2) cT rfl rfl (r31.chg hw' (bt rfl)) rfl (by omega) (by omega)) (ht (v:=vg [vi ((gI (gI p.2 ↑e) ((List.length (gI p.2 ↑e):Int)-2)).1),vi ((gI (gI p.2 ↑e) ((List.length (gI p.2 ↑e):Int)-2)).2)]) 9 rfl (bh.refl _ _ _) (λw' hw'=>aT (v:=v29) (i:=(List.length (gI p.2 ↑e):Int)-2) aj rfl (r31.chg hw' (bt rfl)) (by omega) (by omega) rfl) (aE 10 rfl (by kernel_rfl) rfl ?_)))
   replace bx98:=bx98.cn ch129
   refine ao (cs':=[vi ((gI (gI p.2 ↑e) ((List.length (gI p.2 ↑e):Int)-1)).1),vi ((gI (gI p.2 ↑e) ((List.length (gI p.2 ↑e):Int)-1)).2)]) aj zs12 rfl bx98 rfl nq (AllOne.all (.cons rfl (.cons rfl .nil))) rfl ?_
   intro w131 ch132 bx133
   clear bx98
   have hs134:bh (inl [5,6]) _ _ _ _:=ch132.l rfl
   refine⟨hs134.same,?_⟩
   refine aE 11 rfl (by kernel_rfl) rfl ?_
   replace bx102:=(bx102.cn ch129).ce ch132
   refine ao (cs':=[vi ((gI (gI p.2 ↑e) ((List.length (gI p.2 ↑e):Int)-2)).1),vi ((gI (gI p.2 ↑e) ((List.length (gI p.2 ↑e):Int)-2)).2)]) aj zs13 rfl bx102 rfl nq (AllOne.all (.cons rfl (.cons rfl .nil))) rfl ?_
   intro w135 ch136 bx137
   clear bx102
   have hs138:=hs134.seq (ch136.l rfl)
   refine⟨hs138.same,?_⟩
   refine bI (by kernel_rfl) (a8 (a7 rfl ?_))
   replace bx133:=bx133.ce ch136
   refine lx (ae (ds:=[vi ((gI (gI p.2 ↑e) ((List.length (gI p.2 ↑e):Int)-1)).1),vi ((gI (gI p.2 ↑e) ((List.length (gI p.2 ↑e):Int)-1)).2)]) aj zs12 bx133 rfl rfl) (lx (ae (ds:=[vi ((gI (gI p.2 ↑e) ((List.length (gI p.2 ↑e):Int)-2)).1),vi ((gI (gI p.2 ↑e) ((List.length (gI p.2 ↑e):Int)-2)).2)]) aj zs13 bx137 rfl rfl) ?_)
   refine lw (vb (!(decide ((gI (gI p.2 ↑e) ((List.length (gI p.2 ↑e):Int)-1))=(gI (gI p.2 ↑e) ((List.length (gI p.2 ↑e):Int)-2)))))) (eF (bs:=[decide (((gI (gI p.2 ↑e) ((List.length (gI p.2 ↑e):Int)-1)).1)=((gI (gI p.2 ↑e) ((List.length (gI p.2 ↑e):Int)-2)).1)),decide (((gI (gI p.2 ↑e) ((List.length (gI p.2 ↑e):Int)-1)).2)=((gI (gI p.2 ↑e) ((List.length (gI p.2 ↑e):Int)-2)).2))]) cL (by kernel_rfl) (by kernel_rfl) rfl rfl (.cons (by decide+kernel) aL rfl rfl (.int U3) (.cons (by decide+kernel) aL rfl rfl (.int U3) .nil)) (by simp[Prod.ext_iff,Bool.decide_and,Bool.and_assoc])) (ab ?_)
   by_cases p13_139:(gI (gI p.2 ↑e) ((List.length (gI p.2 ↑e):Int)-1))=(gI (gI p.2 ↑e) ((List.length (gI p.2 ↑e):Int)-2))
   ·
    refine ah rfl (congrArg Bool.not (dt p13_139)) (au (ap ?_))
    clear bx133 bx137
    refine a7 rfl (lx (ba (m:=1) (n:=1) zs33 rfl (by omega)) (mi 2 (ab (aN (a8 (a7 rfl (lx (bc (m:=2) (n:=2) rfl rfl) (ab (a8 (ah rfl rfl (aQ rfl ?_)))))))))))
    refine ap ?_
    clear r31
    refine a7 rfl (lx (ba (m:=↑e) (n:=1) zs20 rfl (by omega)) (mi ((e:Int)+1) (ab ?_)))
    have C140:=cg [5,6] (ch129.n.seq ((ch132.l rfl).seq (ch136.l rfl)))
    refine back3 (e+1,L,g128) _ _ ⟨bH.ca C140,zs3,zs5,zs18,zs19,rfl,Rg.ca C140,Rp.ca C140,r_p_v1.ca C140,bx10.ca C140,o15.ca C140,by omega,?_⟩ ?_
    · show L=ar g p (e+1)
      (rw[hL] at*;exact jl (by exact .inl ⟨‹_›,rfl⟩) (by exact .inl ⟨‹_›,rfl⟩))
    · show Int.toNat (((g.2.length:Int):Int)-((e+1):Int))<Int.toNat (((g.2.length:Int):Int)-(e:Int))
      omega
   refine ag rfl (congrArg Bool.not (df p13_139)) ?_
   refine cj (σ:=aV) (λgq f w=>bu w0 gq w/\f 3=vp b8 0/\f 5=v13/\f 8=v29/\f 9=vi (List.length (gI p.2 ↑e):Int)/\f 18=g_v/\f 19=vi (g.2.length:Int)/\f 20=vi ↑e/\f 32=vg [vi ((gI g.2 ↑e).1),vi ((gI g.2 ↑e).2)]/\f 33=vi 1/\Sl gq (is 0) w g_v g.2/\Sl gq (is 0) w p_v p.1/\Sl gq (is 0) w p_v1 p.2/\Bx gq (is 2) w b8 [p_v,p_v1]/\Sl gq (is 0) w v29 (gI p.2 ↑e)/\dH gq 3 w v13 (List.set L (Int.toNat ((gI g.2 ↑e).2)) (gI L ((gI g.2 ↑e).2)++([(((gI (gI p.2 ↑e) ((List.length (gI p.2 ↑e):Int)-2)).1)-((gI (gI p.2 ↑e) ((List.length (gI p.2 ↑e):Int)-1)).1),((gI (gI p.2 ↑e) ((List.length (gI p.2 ↑e):Int)-2)).2)-((gI (gI p.2 ↑e) ((List.length (gI p.2 ↑e):Int)-1)).2),az (bk (gI (gI p.2 ↑e) ((List.length (gI p.2 ↑e):Int)-1)) (gI (gI p.2 ↑e) ((List.length (gI p.2 ↑e):Int)-2))))]:List ((Int)×(Int)×(Nat)))))) g128 (inl [3]) dC ?_ ?_
   ·
    intro mid
    intro w142 ch141
    refine ht (v:=v13) 0 rfl (bh.refl _ _ _) (λw' hw'=>aR zs5) (ht (v:=vi ((gI g.2 ↑e).2)) 1 rfl (bh.refl _ _ _) (λw' hw'=>aR zs11) (ht (v:=v13) 2 rfl (bh.refl _ _ _) (λw' hw'=>aR zs5) (ht (v:=vi ((gI g.2 ↑e).2)) 3 rfl (bh.refl _ _ _) (λw' hw'=>aR zs11) (ht 6 rfl (bh.refl _ _ _) (λw' hw'=>a9 cL rfl rfl zs13 rfl) ?_))))
    replace bx137:=bx137.cn ch141
    refine ht 7 rfl (bh.refl _ _ _) (λw' hw'=>aa aL rfl (bx137.chg hw' (bt rfl)) rfl) (ht 8 rfl (bh.refl _ _ _) (λw' hw'=>a9 cL rfl rfl zs12 rfl) ?_)
    replace bx133:=bx133.cn ch141
    refine ht 9 rfl (bh.refl _ _ _) (λw' hw'=>aa aL rfl (bx133.chg hw' (bt rfl)) rfl) (ht 10 rfl (bh.refl _ _ _) (λw' hw'=>cW (m:=(gI (gI p.2 ↑e) ((List.length (gI p.2 ↑e):Int)-2)).1) (n:=(gI (gI p.2 ↑e) ((List.length (gI p.2 ↑e):Int)-1)).1) rfl rfl (by omega)) (ht 11 rfl (bh.refl _ _ _) (λw' hw'=>a9 cL rfl rfl zs13 rfl) (ht 12 rfl (bh.refl _ _ _) (λw' hw'=>aa aL rfl (bx137.chg hw' (bt rfl)) rfl) (ht 13 rfl (bh.refl _ _ _) (λw' hw'=>a9 cL rfl rfl zs12 rfl) (ht 14 rfl (bh.refl _ _ _) (λw' hw'=>aa aL rfl (bx133.chg hw' (bt rfl)) rfl) ?_)))))
    refine ht 15 rfl (bh.refl _ _ _) (λw' hw'=>cW (m:=(gI (gI p.2 ↑e) ((List.length (gI p.2 ↑e):Int)-2)).2) (n:=(gI (gI p.2 ↑e) ((List.length (gI p.2 ↑e):Int)-1)).2) rfl rfl (by omega)) (ht 16 rfl (bh.refl _ _ _) (λw' hw'=>ae (ds:=[vi ((gI (gI p.2 ↑e) ((List.length (gI p.2 ↑e):Int)-1)).1),vi ((gI (gI p.2 ↑e) ((List.length (gI p.2 ↑e):Int)-1)).2)]) aj zs12 (bx133.chg hw' (bt rfl)) rfl rfl) (ht 17 rfl (bh.refl _ _ _) (λw' hw'=>ae (ds:=[vi ((gI (gI p.2 ↑e) ((List.length (gI p.2 ↑e):Int)-2)).1),vi ((gI (gI p.2 ↑e) ((List.length (gI p.2 ↑e):Int)-2)).2)]) aj zs13 (bx137.chg hw' (bt rfl)) rfl rfl) ?_))
    refine bJ 4 [18] (by kernel_rfl) ⟨bL 4 rfl (by kernel_rfl) rfl ?_,bL 18 rfl (by kernel_rfl) rfl ?_,trivial⟩
    ·
     have C143:=cg [5,6] (ch129.n.seq ((ch132.l rfl).seq ((ch136.l rfl).seq ch141.n)))
     replace o15:=o15.ca C143
     refine aI (v:=Value.pointer (some (bb v13 1 (Int.toNat ((gI g.2 ↑e).2))))) (af (α:=List ((Int)×(Int)×(Nat))) (xs:=L) (v:=v13) (i:=(gI g.2 ↑e).2) e8 rfl rfl o15.sl rfl (by omega) (by omega)) ?_
     refine⟨(bh.refl _ _ _),?_⟩
     refine bJ 5 [18] (by kernel_rfl) ⟨bL 5 rfl (by kernel_rfl) rfl ?_,bL 18 rfl (by kernel_rfl) rfl ?_,trivial⟩
     ·
      obtain⟨v144,cel145,r146⟩:=bG (r:=(gI g.2 ↑e).2) o15 (by omega) (by omega)
      refine aI (v:=v144) (aZ aX rfl cel145) ?_
      refine⟨(bh.refl _ _ _),?_⟩
      refine aE 18 rfl (by kernel_rfl) rfl ?_
      refine aP (v:=Value.float .f64 (bk (gI (gI p.2 ↑e) ((List.length (gI p.2 ↑e):Int)-1)) (gI (gI p.2 ↑e) ((List.length (gI p.2 ↑e):Int)-2)))) (aG (vals:=[vg [vi ((gI (gI p.2 ↑e) ((List.length (gI p.2 ↑e):Int)-1)).1),vi ((gI (gI p.2 ↑e) ((List.length (gI p.2 ↑e):Int)-1)).2)],vg [vi ((gI (gI p.2 ↑e) ((List.length (gI p.2 ↑e):Int)-2)).1),vi ((gI (gI p.2 ↑e) ((List.length (gI p.2 ↑e):Int)-2)).2)]]) Try.func47 dp dj rfl) (cm w142 (gI (gI p.2 ↑e) ((List.length (gI p.2 ↑e):Int)-1)) (gI (gI p.2 ↑e) ((List.length (gI p.2 ↑e):Int)-2)) (by exact hl3.2 _ (bl (by omega) (by omega))) (by exact hl3.2 _ (bl (by omega) (by omega)))) ?_
      intro w147 hb148
      replace hb148:=am hb148 g128
      have hs149:bh (inl [3]) _ _ _ _:=hb148.n
      refine⟨hs149.same,?_⟩
      refine aE 19 rfl (by kernel_rfl) rfl (aP (v:=Value.float .f64 (az (bk (gI (gI p.2 ↑e) ((List.length (gI p.2 ↑e):Int)-1)) (gI (gI p.2 ↑e) ((List.length (gI p.2 ↑e):Int)-2))))) (aG (vals:=[Value.float .f64 (bk (gI (gI p.2 ↑e) ((List.length (gI p.2 ↑e):Int)-1)) (gI (gI p.2 ↑e) ((List.length (gI p.2 ↑e):Int)-2)))]) Try.func46 c9 c8 rfl) (c7 w147 (bk (gI (gI p.2 ↑e) ((List.length (gI p.2 ↑e):Int)-1)) (gI (gI p.2 ↑e) ((List.length (gI p.2 ↑e):Int)-2))) (by exact cq _ _)) ?_)
      intro w150 hb151
      replace hb151:=am hb151 g128
      have hs152:=hs149.seq (hb151.n)
      refine⟨hs152.same,?_⟩
      refine ht (v:=vg [vi (((gI (gI p.2 ↑e) ((List.length (gI p.2 ↑e):Int)-2)).1)-((gI (gI p.2 ↑e) ((List.length (gI p.2 ↑e):Int)-1)).1)),vi (((gI (gI p.2 ↑e) ((List.length (gI p.2 ↑e):Int)-2)).2)-((gI (gI p.2 ↑e) ((List.length (gI p.2 ↑e):Int)-1)).2)),Value.float .f64 (az (bk (gI (gI p.2 ↑e) ((List.length (gI p.2 ↑e):Int)-1)) (gI (gI p.2 ↑e) ((List.length (gI p.2 ↑e):Int)-2))))]) 20 rfl hs152.same (λw' hw'=>bB (vs:=[(0,vi (((gI (gI p.2 ↑e) ((List.length (gI p.2 ↑e):Int)-2)).1)-((gI (gI p.2 ↑e) ((List.length (gI p.2 ↑e):Int)-1)).1))),(1,vi (((gI (gI p.2 ↑e) ((List.length (gI p.2 ↑e):Int)-2)).2)-((gI (gI p.2 ↑e) ((List.length (gI p.2 ↑e):Int)-1)).2))),(2,Value.float .f64 (az (bk (gI (gI p.2 ↑e) ((List.length (gI p.2 ↑e):Int)-1)) (gI (gI p.2 ↑e) ((List.length (gI p.2 ↑e):Int)-2)))))]) rfl (by kernel_rfl)) ?_
      refine aE 21 rfl (by kernel_rfl) rfl ?_
      refine aH (α:=(Int)×(Int)×(Nat)) g128 (is 7) (is 7) (7,0) rfl ([(((gI (gI p.2 ↑e) ((List.length (gI p.2 ↑e):Int)-2)).1)-((gI (gI p.2 ↑e) ((List.length (gI p.2 ↑e):Int)-1)).1),((gI (gI p.2 ↑e) ((List.length (gI p.2 ↑e):Int)-2)).2)-((gI (gI p.2 ↑e) ((List.length (gI p.2 ↑e):Int)-1)).2),az (bk (gI (gI p.2 ↑e) ((List.length (gI p.2 ↑e):Int)-1)) (gI (gI p.2 ↑e) ((List.length (gI p.2 ↑e):Int)-2))))]:List ((Int)×(Int)×(Nat))) d4 aW (by decide) (by decide) (vs:=[(0,vg [vi (((gI (gI p.2 ↑e) ((List.length (gI p.2 ↑e):Int)-2)).1)-((gI (gI p.2 ↑e) ((List.length (gI p.2 ↑e):Int)-1)).1)),vi (((gI (gI p.2 ↑e) ((List.length (gI p.2 ↑e):Int)-2)).2)-((gI (gI p.2 ↑e) ((List.length (gI p.2 ↑e):Int)-1)).2)),Value.float .f64 (az (bk (gI (gI p.2 ↑e) ((List.length (gI p.2 ↑e):Int)-1)) (gI (gI p.2 ↑e) ((List.length (gI p.2 ↑e):Int)-2))))])]) rfl rfl (.cons rfl .nil) ?_
      intro g153 w154 v155 ch156 o157
      have hs158:=hs152.seq (ch156.n)
      refine⟨hs158.same,?_⟩
      refine aE 22 rfl (by kernel_rfl) rfl ?_
      have C165:=cg [] (hb148.n.seq (hb151.n.seq ch156.n))
      replace o15:=o15.ca C165
      replace r146:=r146.chg C165 (gO rfl) (gO rfl)
      refine bj (α:=(Int)×(Int)×(Nat)) (xs:=(gI L ((gI g.2 ↑e).2))) (ys:=([(((gI (gI p.2 ↑e) ((List.length (gI p.2 ↑e):Int)-2)).1)-((gI (gI p.2 ↑e) ((List.length (gI p.2 ↑e):Int)-1)).1),((gI (gI p.2 ↑e) ((List.length (gI p.2 ↑e):Int)-2)).2)-((gI (gI p.2 ↑e) ((List.length (gI p.2 ↑e):Int)-1)).2),az (bk (gI (gI p.2 ↑e) ((List.length (gI p.2 ↑e):Int)-1)) (gI (gI p.2 ↑e) ((List.length (gI p.2 ↑e):Int)-2))))]:List ((Int)×(Int)×(Nat)))) g153 (J:=bW 3 (Int.toNat ((gI g.2 ↑e).2)+1)) (S:=bW 3 (Int.toNat ((gI g.2 ↑e).2)+1)) (3,Int.toNat ((gI g.2 ↑e).2)+1) rfl d4 aW (by decide) rfl rfl rfl r146 o157.flat (by decide) (by exact ct (hrw _) (by omega)) ?_
      intro g159 w160 v161 ch162 o163
      have o164:=o15.rowchg ch162
      clear o15 cel145 r146
      have hs166:=hs158.seq (ch162.lr rfl)
      refine⟨hs166.same,?_⟩
      refine aE 23 rfl (by kernel_rfl) rfl ?_
      obtain⟨us167,hl168,r169⟩:=o164.vc
      try simp only[List.length_set,List.length_append,List.length_cons,List.length_nil] at hl168
      refine aI (v:=Value.pointer (some (bb v13 1 (Int.toNat ((gI g.2 ↑e).2))))) (af (α:=Vc) (xs:=us167) (v:=v13) (i:=(gI g.2 ↑e).2) e8 rfl rfl r169 rfl (by omega) (by omega)) ?_
      refine⟨hs166.same,?_⟩
      refine aE 24 rfl (by kernel_rfl) rfl (bf (r:=(gI g.2 ↑e).2) aX rfl rfl o164 o163 (by omega) (by omega) ?_)
      intro w173 ch174 o175
      clear o164 o163
      have hs176:=hs166.seq (ch174.l rfl)
      refine⟨hs176.same,?_⟩
      refine bI (by kernel_rfl) ?_
      have C177:=cg [3,5,6] (ch129.n.seq ((ch132.l rfl).seq ((ch136.l rfl).seq (ch141.n.seq (hb148.n.seq (hb151.n.seq (ch156.n.seq ((ch162.lr rfl).seq (ch174.l rfl)))))))))
      have C178:=cg [5,6] ((ch132.l rfl).seq ((ch136.l rfl).seq ch141.n))
      replace Rg:=Rg.ca C143
      replace Rp:=Rp.ca C143
      replace r_p_v1:=r_p_v1.ca C143
      replace bx10:=bx10.ca C143
      replace r31:=r31.ca C178
      exact mid (g159) _ _ ⟨bH.ca C177,zs3,zs5,zs8,zs9,zs18,zs19,zs20,zs32,zs33,(Rg.ca hs176),(Rp.ca hs176),(r_p_v1.ca hs176),(bx10.ca hs176),(r31.ca hs176),o175⟩
     ·
      refine aP (v:=Value.float .f64 (bk (gI (gI p.2 ↑e) ((List.length (gI p.2 ↑e):Int)-1)) (gI (gI p.2 ↑e) ((List.length (gI p.2 ↑e):Int)-2)))) (aG (vals:=[vg [vi ((gI (gI p.2 ↑e) ((List.length (gI p.2 ↑e):Int)-1)).1),vi ((gI (gI p.2 ↑e) ((List.length (gI p.2 ↑e):Int)-1)).2)],vg [vi ((gI (gI p.2 ↑e) ((List.length (gI p.2 ↑e):Int)-2)).1),vi ((gI (gI p.2 ↑e) ((List.length (gI p.2 ↑e):Int)-2)).2)]]) Try.func47 dp dj rfl) (cm w142 (gI (gI p.2 ↑e) ((List.length (gI p.2 ↑e):Int)-1)) (gI (gI p.2 ↑e) ((List.length (gI p.2 ↑e):Int)-2)) (by exact hl3.2 _ (bl (by omega) (by omega))) (by exact hl3.2 _ (bl (by omega) (by omega)))) ?_
      intro w179 hb180
      replace hb180:=am hb180 g128
      have hs181:bh (inl [3]) _ _ _ _:=hb180.n
      refine⟨hs181.same,?_⟩
      refine bJ 5 [19] (by kernel_rfl) ⟨bL 5 rfl (by kernel_rfl) rfl ?_,bL 19 rfl (by kernel_rfl) rfl ?_,trivial⟩
      ·
       replace o15:=o15.cn hb180
       obtain⟨v182,cel183,r184⟩:=bG (r:=(gI g.2 ↑e).2) o15 (by omega) (by omega)
       refine aI (v:=v182) (aZ aX rfl cel183) ?_
       refine⟨hs181.same,?_⟩
       refine aE 19 rfl (by kernel_rfl) rfl (aP (v:=Value.float .f64 (az (bk (gI (gI p.2 ↑e) ((List.length (gI p.2 ↑e):Int)-1)) (gI (gI p.2 ↑e) ((List.length (gI p.2 ↑e):Int)-2))))) (aG (vals:=[Value.float .f64 (bk (gI (gI p.2 ↑e) ((List.length (gI p.2 ↑e):Int)-1)) (gI (gI p.2 ↑e) ((List.length (gI p.2 ↑e):Int)-2)))]) Try.func46 c9 c8 rfl) (c7 w179 (bk (gI (gI p.2 ↑e) ((List.length (gI p.2 ↑e):Int)-1)) (gI (gI p.2 ↑e) ((List.length (gI p.2 ↑e):Int)-2))) (by exact cq _ _)) ?_)
       intro w185 hb186
       replace hb186:=am hb186 g128
       have hs187:=hs181.seq (hb186.n)
       refine⟨hs187.same,?_⟩
       refine ht (v:=vg [vi (((gI (gI p.2 ↑e) ((List.length (gI p.2 ↑e):Int)-2)).1)-((gI (gI p.2 ↑e) ((List.length (gI p.2 ↑e):Int)-1)).1)),vi (((gI (gI p.2 ↑e) ((List.length (gI p.2 ↑e):Int)-2)).2)-((gI (gI p.2 ↑e) ((List.length (gI p.2 ↑e):Int)-1)).2)),Value.float .f64 (az (bk (gI (gI p.2 ↑e) ((List.length (gI p.2 ↑e):Int)-1)) (gI (gI p.2 ↑e) ((List.length (gI p.2 ↑e):Int)-2))))]) 20 rfl hs187.same (λw' hw'=>bB (vs:=[(0,vi (((gI (gI p.2 ↑e) ((List.length (gI p.2 ↑e):Int)-2)).1)-((gI (gI p.2 ↑e) ((List.length (gI p.2 ↑e):Int)-1)).1))),(1,vi (((gI (gI p.2 ↑e) ((List.length (gI p.2 ↑e):Int)-2)).2)-((gI (gI p.2 ↑e) ((List.length (gI p.2 ↑e):Int)-1)).2))),(2,Value.float .f64 (az (bk (gI (gI p.2 ↑e) ((List.length (gI p.2 ↑e):Int)-1)) (gI (gI p.2 ↑e) ((List.length (gI p.2 ↑e):Int)-2)))))]) rfl (by kernel_rfl)) ?_
       refine aE 21 rfl (by kernel_rfl) rfl ?_
       refine aH (α:=(Int)×(Int)×(Nat)) g128 (is 7) (is 7) (7,0) rfl ([(((gI (gI p.2 ↑e) ((List.length (gI p.2 ↑e):Int)-2)).1)-((gI (gI p.2 ↑e) ((List.length (gI p.2 ↑e):Int)-1)).1),((gI (gI p.2 ↑e) ((List.length (gI p.2 ↑e):Int)-2)).2)-((gI (gI p.2 ↑e) ((List.length (gI p.2 ↑e):Int)-1)).2),az (bk (gI (gI p.2 ↑e) ((List.length (gI p.2 ↑e):Int)-1)) (gI (gI p.2 ↑e) ((List.length (gI p.2 ↑e):Int)-2))))]:List ((Int)×(Int)×(Nat))) d4 aW (by decide) (by decide) (vs:=[(0,vg [vi (((gI (gI p.2 ↑e) ((List.length (gI p.2 ↑e):Int)-2)).1)-((gI (gI p.2 ↑e) ((List.length (gI p.2 ↑e):Int)-1)).1)),vi (((gI (gI p.2 ↑e) ((List.length (gI p.2 ↑e):Int)-2)).2)-((gI (gI p.2 ↑e) ((List.length (gI p.2 ↑e):Int)-1)).2)),Value.float .f64 (az (bk (gI (gI p.2 ↑e) ((List.length (gI p.2 ↑e):Int)-1)) (gI (gI p.2 ↑e) ((List.length (gI p.2 ↑e):Int)-2))))])]) rfl rfl (.cons rfl .nil) ?_
       intro g188 w189 v190 ch191 o192
       have hs193:=hs187.seq (ch191.n)
       refine⟨hs193.same,?_⟩
       refine aE 22 rfl (by kernel_rfl) rfl ?_
       replace o15:=(o15.cn hb186).cn ch191
       replace r184:=(r184.cn hb186).cn ch191
       refine bj (α:=(Int)×(Int)×(Nat)) (xs:=(gI L ((gI g.2 ↑e).2))) (ys:=([(((gI (gI p.2 ↑e) ((List.length (gI p.2 ↑e):Int)-2)).1)-((gI (gI p.2 ↑e) ((List.length (gI p.2 ↑e):Int)-1)).1),((gI (gI p.2 ↑e) ((List.length (gI p.2 ↑e):Int)-2)).2)-((gI (gI p.2 ↑e) ((List.length (gI p.2 ↑e):Int)-1)).2),az (bk (gI (gI p.2 ↑e) ((List.length (gI p.2 ↑e):Int)-1)) (gI (gI p.2 ↑e) ((List.length (gI p.2 ↑e):Int)-2))))]:List ((Int)×(Int)×(Nat)))) g188 (J:=bW 3 (Int.toNat ((gI g.2 ↑e).2)+1)) (S:=bW 3 (Int.toNat ((gI g.2 ↑e).2)+1)) (3,Int.toNat ((gI g.2 ↑e).2)+1) rfl d4 aW (by decide) rfl rfl rfl r184 o192.flat (by decide) (by exact ct (hrw _) (by omega)) ?_
       intro g194 w195 v196 ch197 o198
       have o199:=o15.rowchg ch197
       clear o15 cel183 r184
       have hs200:=hs193.seq (ch197.lr rfl)
       refine⟨hs200.same,?_⟩
       refine aE 23 rfl (by kernel_rfl) rfl ?_
       obtain⟨us201,hl202,r203⟩:=o199.vc
       try simp only[List.length_set,List.length_append,List.length_cons,List.length_nil] at hl202
       refine aI (v:=Value.pointer (some (bb v13 1 (Int.toNat ((gI g.2 ↑e).2))))) (af (α:=Vc) (xs:=us201) (v:=v13) (i:=(gI g.2 ↑e).2) e8 rfl rfl r203 rfl (by omega) (by omega)) ?_
       refine⟨hs200.same,?_⟩
       refine aE 24 rfl (by kernel_rfl) rfl (bf (r:=(gI g.2 ↑e).2) aX rfl rfl o199 o198 (by omega) (by omega) ?_)
       intro w207 ch208 o209
       clear o199 o198
       have hs210:=hs200.seq (ch208.l rfl)
       refine⟨hs210.same,?_⟩
       refine bI (by kernel_rfl) ?_
       have C211:=cg [3,5,6] (ch129.n.seq ((ch132.l rfl).seq ((ch136.l rfl).seq (ch141.n.seq (hb180.n.seq (hb186.n.seq (ch191.n.seq ((ch197.lr rfl).seq (ch208.l rfl)))))))))
       have C212:=cg [5,6] ((ch132.l rfl).seq ((ch136.l rfl).seq ch141.n))
       replace Rg:=Rg.ca C143
       replace Rp:=Rp.ca C143
       replace r_p_v1:=r_p_v1.ca C143
       replace bx10:=bx10.ca C143
       replace r31:=r31.ca C212
       exact mid (g194) _ _ ⟨bH.ca C211,zs3,zs5,zs8,zs9,zs18,zs19,zs20,zs32,zs33,(Rg.ca hs210),(Rp.ca hs210),(r_p_v1.ca hs210),(bx10.ca hs210),(r31.ca hs210),o209⟩
      ·
       refine aP (v:=Value.float .f64 (az (bk (gI (gI p.2 ↑e) ((List.length (gI p.2 ↑e):Int)-1)) (gI (gI p.2 ↑e) ((List.length (gI p.2 ↑e):Int)-2))))) (aG (vals:=[Value.float .f64 (bk (gI (gI p.2 ↑e) ((List.length (gI p.2 ↑e):Int)-1)) (gI (gI p.2 ↑e) ((List.length (gI p.2 ↑e):Int)-2)))]) Try.func46 c9 c8 rfl) (c7 w179 (bk (gI (gI p.2 ↑e) ((List.length (gI p.2 ↑e):Int)-1)) (gI (gI p.2 ↑e) ((List.length (gI p.2 ↑e):Int)-2))) (by exact cq _ _)) ?_
       intro w213 hb214
       replace hb214:=am hb214 g128
       have hs215:=hs181.seq (hb214.n)
       refine⟨hs215.same,?_⟩
       refine ht (v:=vg [vi (((gI (gI p.2 ↑e) ((List.length (gI p.2 ↑e):Int)-2)).1)-((gI (gI p.2 ↑e) ((List.length (gI p.2 ↑e):Int)-1)).1)),vi (((gI (gI p.2 ↑e) ((List.length (gI p.2 ↑e):Int)-2)).2)-((gI (gI p.2 ↑e) ((List.length (gI p.2 ↑e):Int)-1)).2)),Value.float .f64 (az (bk (gI (gI p.2 ↑e) ((List.length (gI p.2 ↑e):Int)-1)) (gI (gI p.2 ↑e) ((List.length (gI p.2 ↑e):Int)-2))))]) 20 rfl hs215.same (λw' hw'=>bB (vs:=[(0,vi (((gI (gI p.2 ↑e) ((List.length (gI p.2 ↑e):Int)-2)).1)-((gI (gI p.2 ↑e) ((List.length (gI p.2 ↑e):Int)-1)).1))),(1,vi (((gI (gI p.2 ↑e) ((List.length (gI p.2 ↑e):Int)-2)).2)-((gI (gI p.2 ↑e) ((List.length (gI p.2 ↑e):Int)-1)).2))),(2,Value.float .f64 (az (bk (gI (gI p.2 ↑e) ((List.length (gI p.2 ↑e):Int)-1)) (gI (gI p.2 ↑e) ((List.length (gI p.2 ↑e):Int)-2)))))]) rfl (by kernel_rfl)) ?_
       refine bJ 5 [21] (by kernel_rfl) ⟨bL 5 rfl (by kernel_rfl) rfl ?_,bL 21 rfl (by kernel_rfl) rfl ?_,trivial⟩
       ·
        replace o15:=(o15.cn hb180).cn hb214
        obtain⟨v216,cel217,r218⟩:=bG (r:=(gI g.2 ↑e).2) o15 (by omega) (by omega)
        refine aI (v:=v216) (aZ aX rfl cel217) ?_
        refine⟨hs215.same,?_⟩
        refine aE 21 rfl (by kernel_rfl) rfl ?_
        refine aH (α:=(Int)×(Int)×(Nat)) g128 (is 7) (is 7) (7,0) rfl ([(((gI (gI p.2 ↑e) ((List.length (gI p.2 ↑e):Int)-2)).1)-((gI (gI p.2 ↑e) ((List.length (gI p.2 ↑e):Int)-1)).1),((gI (gI p.2 ↑e) ((List.length (gI p.2 ↑e):Int)-2)).2)-((gI (gI p.2 ↑e) ((List.length (gI p.2 ↑e):Int)-1)).2),az (bk (gI (gI p.2 ↑e) ((List.length (gI p.2 ↑e):Int)-1)) (gI (gI p.2 ↑e) ((List.length (gI p.2 ↑e):Int)-2))))]:List ((Int)×(Int)×(Nat))) d4 aW (by decide) (by decide) (vs:=[(0,vg [vi (((gI (gI p.2 ↑e) ((List.length (gI p.2 ↑e):Int)-2)).1)-((gI (gI p.2 ↑e) ((List.length (gI p.2 ↑e):Int)-1)).1)),vi (((gI (gI p.2 ↑e) ((List.length (gI p.2 ↑e):Int)-2)).2)-((gI (gI p.2 ↑e) ((List.length (gI p.2 ↑e):Int)-1)).2)),Value.float .f64 (az (bk (gI (gI p.2 ↑e) ((List.length (gI p.2 ↑e):Int)-1)) (gI (gI p.2 ↑e) ((List.length (gI p.2 ↑e):Int)-2))))])]) rfl rfl (.cons rfl .nil) ?_
        intro g219 w220 v221 ch222 o223
        have hs224:=hs215.seq (ch222.n)
        refine⟨hs224.same,?_⟩
        refine aE 22 rfl (by kernel_rfl) rfl ?_
        replace o15:=o15.cn ch222
        replace r218:=r218.cn ch222
        refine bj (α:=(Int)×(Int)×(Nat)) (xs:=(gI L ((gI g.2 ↑e).2))) (ys:=([(((gI (gI p.2 ↑e) ((List.length (gI p.2 ↑e):Int)-2)).1)-((gI (gI p.2 ↑e) ((List.length (gI p.2 ↑e):Int)-1)).1),((gI (gI p.2 ↑e) ((List.length (gI p.2 ↑e):Int)-2)).2)-((gI (gI p.2 ↑e) ((List.length (gI p.2 ↑e):Int)-1)).2),az (bk (gI (gI p.2 ↑e) ((List.length (gI p.2 ↑e):Int)-1)) (gI (gI p.2 ↑e) ((List.length (gI p.2 ↑e):Int)-2))))]:List ((Int)×(Int)×(Nat)))) g219 (J:=bW 3 (Int.toNat ((gI g.2 ↑e).2)+1)) (S:=bW 3 (Int.toNat ((gI g.2 ↑e).2)+1)) (3,Int.toNat ((gI g.2 ↑e).2)+1) rfl d4 aW (by decide) rfl rfl rfl r218 o223.flat (by decide) (by exact ct (hrw _) (by omega)) ?_
        intro g225 w226 v227 ch228 o229
        have o230:=o15.rowchg ch228
        clear o15 cel217 r218
        have hs231:=hs224.seq (ch228.lr rfl)
        refine⟨hs231.same,?_⟩
        refine aE 23 rfl (by kernel_rfl) rfl ?_
        obtain⟨us232,hl233,r234⟩:=o230.vc
        try simp only[List.length_set,List.length_append,List.length_cons,List.length_nil] at hl233
        refine aI (v:=Value.pointer (some (bb v13 1 (Int.toNat ((gI g.2 ↑e).2))))) (af (α:=Vc) (xs:=us232) (v:=v13) (i:=(gI g.2 ↑e).2) e8 rfl rfl r234 rfl (by omega) (by omega)) ?_
        refine⟨hs231.same,?_⟩
        refine aE 24 rfl (by kernel_rfl) rfl (bf (r:=(gI g.2 ↑e).2) aX rfl rfl o230 o229 (by omega) (by omega) ?_)
        intro w238 ch239 o240
        clear o230 o229
        have hs241:=hs231.seq (ch239.l rfl)
        refine⟨hs241.same,?_⟩
        refine bI (by kernel_rfl) ?_
        have C242:=cg [3,5,6] (ch129.n.seq ((ch132.l rfl).seq ((ch136.l rfl).seq (ch141.n.seq (hb180.n.seq (hb214.n.seq (ch222.n.seq ((ch228.lr rfl).seq (ch239.l rfl)))))))))
        have C243:=cg [5,6] ((ch132.l rfl).seq ((ch136.l rfl).seq ch141.n))
        replace Rg:=Rg.ca C143
        replace Rp:=Rp.ca C143
        replace r_p_v1:=r_p_v1.ca C143
        replace bx10:=bx10.ca C143
        replace r31:=r31.ca C243
        exact mid (g225) _ _ ⟨bH.ca C242,zs3,zs5,zs8,zs9,zs18,zs19,zs20,zs32,zs33,(Rg.ca hs241),(Rp.ca hs241),(r_p_v1.ca hs241),(bx10.ca hs241),(r31.ca hs241),o240⟩
       ·
        refine aH (α:=(Int)×(Int)×(Nat)) g128 (is 7) (is 7) (7,0) rfl ([(((gI (gI p.2 ↑e) ((List.length (gI p.2 ↑e):Int)-2)).1)-((gI (gI p.2 ↑e) ((List.length (gI p.2 ↑e):Int)-1)).1),((gI (gI p.2 ↑e) ((List.length (gI p.2 ↑e):Int)-2)).2)-((gI (gI p.2 ↑e) ((List.length (gI p.2 ↑e):Int)-1)).2),az (bk (gI (gI p.2 ↑e) ((List.length (gI p.2 ↑e):Int)-1)) (gI (gI p.2 ↑e) ((List.length (gI p.2 ↑e):Int)-2))))]:List ((Int)×(Int)×(Nat))) d4 aW (by decide) (by decide) (vs:=[(0,vg [vi (((gI (gI p.2 ↑e) ((List.length (gI p.2 ↑e):Int)-2)).1)-((gI (gI p.2 ↑e) ((List.length (gI p.2 ↑e):Int)-1)).1)),vi (((gI (gI p.2 ↑e) ((List.length (gI p.2 ↑e):Int)-2)).2)-((gI (gI p.2 ↑e) ((List.length (gI p.2 ↑e):Int)-1)).2)),Value.float .f64 (az (bk (gI (gI p.2 ↑e) ((List.length (gI p.2 ↑e):Int)-1)) (gI (gI p.2 ↑e) ((List.length (gI p.2 ↑e):Int)-2))))])]) rfl rfl (.cons rfl .nil) ?_
        intro g244 w245 v246 ch247 o248
        have hs249:=hs215.seq (ch247.n)
        refine⟨hs249.same,?_⟩
        refine aE 5 rfl (by kernel_rfl) rfl ?_
        have C250:=cg [] (hb180.n.seq (hb214.n.seq ch247.n))
        replace o15:=o15.ca C250
        obtain⟨v251,cel252,r253⟩:=bG (r:=(gI g.2 ↑e).2) o15 (by omega) (by omega)
        refine aI (v:=v251) (aZ aX rfl cel252) ?_
        refine⟨hs249.same,?_⟩
        refine aE 22 rfl (by kernel_rfl) rfl (bj (α:=(Int)×(Int)×(Nat)) (xs:=(gI L ((gI g.2 ↑e).2))) (ys:=([(((gI (gI p.2 ↑e) ((List.length (gI p.2 ↑e):Int)-2)).1)-((gI (gI p.2 ↑e) ((List.length (gI p.2 ↑e):Int)-1)).1),((gI (gI p.2 ↑e) ((List.length (gI p.2 ↑e):Int)-2)).2)-((gI (gI p.2 ↑e) ((List.length (gI p.2 ↑e):Int)-1)).2),az (bk (gI (gI p.2 ↑e) ((List.length (gI p.2 ↑e):Int)-1)) (gI (gI p.2 ↑e) ((List.length (gI p.2 ↑e):Int)-2))))]:List ((Int)×(Int)×(Nat)))) g244 (J:=bW 3 (Int.toNat ((gI g.2 ↑e).2)+1)) (S:=bW 3 (Int.toNat ((gI g.2 ↑e).2)+1)) (3,Int.toNat ((gI g.2 ↑e).2)+1) rfl d4 aW (by decide) rfl rfl rfl r253 o248.flat (by decide) (by exact ct (hrw _) (by omega)) ?_)
        intro g254 w255 v256 ch257 o258
        have o259:=o15.rowchg ch257
        clear o15 cel252 r253
        have hs260:=hs249.seq (ch257.lr rfl)
        refine⟨hs260.same,?_⟩
        refine aE 23 rfl (by kernel_rfl) rfl ?_
        obtain⟨us261,hl262,r263⟩:=o259.vc
        try simp only[List.length_set,List.length_append,List.length_cons,List.length_nil] at hl262
        refine aI (v:=Value.pointer (some (bb v13 1 (Int.toNat ((gI g.2 ↑e).2))))) (af (α:=Vc) (xs:=us261) (v:=v13) (i:=(gI g.2 ↑e).2) e8 rfl rfl r263 rfl (by omega) (by omega)) ?_
        refine⟨hs260.same,?_⟩
        refine aE 24 rfl (by kernel_rfl) rfl (bf (r:=(gI g.2 ↑e).2) aX rfl rfl o259 o258 (by omega) (by omega) ?_)
        intro w267 ch268 o269
        clear o259 o258
        have hs270:=hs260.seq (ch268.l rfl)
        refine⟨hs270.same,?_⟩
        refine bI (by kernel_rfl) ?_
        have C271:=cg [3,5,6] (ch129.n.seq ((ch132.l rfl).seq ((ch136.l rfl).seq (ch141.n.seq (hb180.n.seq (hb214.n.seq (ch247.n.seq ((ch257.lr rfl).seq (ch268.l rfl)))))))))
        have C272:=cg [5,6] ((ch132.l rfl).seq ((ch136.l rfl).seq ch141.n))
        replace Rg:=Rg.ca C143
        replace Rp:=Rp.ca C143
        replace r_p_v1:=r_p_v1.ca C143
        replace bx10:=bx10.ca C143
        replace r31:=r31.ca C272
        exact mid (g254) _ _ ⟨bH.ca C271,zs3,zs5,zs8,zs9,zs18,zs19,zs20,zs32,zs33,(Rg.ca hs270),(Rp.ca hs270),(r_p_v1.ca hs270),(bx10.ca hs270),(r31.ca hs270),o269⟩
    ·
     refine aP (v:=Value.float .f64 (bk (gI (gI p.2 ↑e) ((List.length (gI p.2 ↑e):Int)-1)) (gI (gI p.2 ↑e) ((List.length (gI p.2 ↑e):Int)-2)))) (aG (vals:=[vg [vi ((gI (gI p.2 ↑e) ((List.length (gI p.2 ↑e):Int)-1)).1),vi ((gI (gI p.2 ↑e) ((List.length (gI p.2 ↑e):Int)-1)).2)],vg [vi ((gI (gI p.2 ↑e) ((List.length (gI p.2 ↑e):Int)-2)).1),vi ((gI (gI p.2 ↑e) ((List.length (gI p.2 ↑e):Int)-2)).2)]]) Try.func47 dp dj rfl) (cm w142 (gI (gI p.2 ↑e) ((List.length (gI p.2 ↑e):Int)-1)) (gI (gI p.2 ↑e) ((List.length (gI p.2 ↑e):Int)-2)) (by exact hl3.2 _ (bl (by omega) (by omega))) (by exact hl3.2 _ (bl (by omega) (by omega)))) ?_
     intro w273 hb274
     replace hb274:=am hb274 g128
     have hs275:bh (inl [3]) _ _ _ _:=hb274.n
     refine⟨hs275.same,?_⟩
     refine bJ 4 [19] (by kernel_rfl) ⟨bL 4 rfl (by kernel_rfl) rfl ?_,bL 19 rfl (by kernel_rfl) rfl ?_,trivial⟩
     ·
      have C276:=cg [5,6] (ch129.n.seq ((ch132.l rfl).seq ((ch136.l rfl).seq (ch141.n.seq hb274.n))))
      replace o15:=o15.ca C276
      refine aI (v:=Value.pointer (some (bb v13 1 (Int.toNat ((gI g.2 ↑e).2))))) (af (α:=List ((Int)×(Int)×(Nat))) (xs:=L) (v:=v13) (i:=(gI g.2 ↑e).2) e8 rfl rfl o15.sl rfl (by omega) (by omega)) ?_
      refine⟨hs275.same,?_⟩
      refine bJ 5 [19] (by kernel_rfl) ⟨bL 5 rfl (by kernel_rfl) rfl ?_,bL 19 rfl (by kernel_rfl) rfl ?_,trivial⟩
      ·
       obtain⟨v277,cel278,r279⟩:=bG (r:=(gI g.2 ↑e).2) o15 (by omega) (by omega)
       refine aI (v:=v277) (aZ aX rfl cel278) ?_
       refine⟨hs275.same,?_⟩
       refine aE 19 rfl (by kernel_rfl) rfl (aP (v:=Value.float .f64 (az (bk (gI (gI p.2 ↑e) ((List.length (gI p.2 ↑e):Int)-1)) (gI (gI p.2 ↑e) ((List.length (gI p.2 ↑e):Int)-2))))) (aG (vals:=[Value.float .f64 (bk (gI (gI p.2 ↑e) ((List.length (gI p.2 ↑e):Int)-1)) (gI (gI p.2 ↑e) ((List.length (gI p.2 ↑e):Int)-2)))]) Try.func46 c9 c8 rfl) (c7 w273 (bk (gI (gI p.2 ↑e) ((List.length (gI p.2 ↑e):Int)-1)) (gI (gI p.2 ↑e) ((List.length (gI p.2 ↑e):Int)-2))) (by exact cq _ _)) ?_)
       intro w280 hb281
       replace hb281:=am hb281 g128
       have hs282:=hs275.seq (hb281.n)
       refine⟨hs282.same,?_⟩
       refine ht (v:=vg [vi (((gI (gI p.2 ↑e) ((List.length (gI p.2 ↑e):Int)-2)).1)-((gI (gI p.2 ↑e) ((List.length (gI p.2 ↑e):Int)-1)).1)),vi (((gI (gI p.2 ↑e) ((List.length (gI p.2 ↑e):Int)-2)).2)-((gI (gI p.2 ↑e) ((List.length (gI p.2 ↑e):Int)-1)).2)),Value.float .f64 (az (bk (gI (gI p.2 ↑e) ((List.length (gI p.2 ↑e):Int)-1)) (gI (gI p.2 ↑e) ((List.length (gI p.2 ↑e):Int)-2))))]) 20 rfl hs282.same (λw' hw'=>bB (vs:=[(0,vi (((gI (gI p.2 ↑e) ((List.length (gI p.2 ↑e):Int)-2)).1)-((gI (gI p.2 ↑e) ((List.length (gI p.2 ↑e):Int)-1)).1))),(1,vi (((gI (gI p.2 ↑e) ((List.length (gI p.2 ↑e):Int)-2)).2)-((gI (gI p.2 ↑e) ((List.length (gI p.2 ↑e):Int)-1)).2))),(2,Value.float .f64 (az (bk (gI (gI p.2 ↑e) ((List.length (gI p.2 ↑e):Int)-1)) (gI (gI p.2 ↑e) ((List.length (gI p.2 ↑e):Int)-2)))))]) rfl (by kernel_rfl)) ?_
       refine aE 21 rfl (by kernel_rfl) rfl ?_
       refine aH (α:=(Int)×(Int)×(Nat)) g128 (is 7) (is 7) (7,0) rfl ([(((gI (gI p.2 ↑e) ((List.length (gI p.2 ↑e):Int)-2)).1)-((gI (gI p.2 ↑e) ((List.length (gI p.2 ↑e):Int)-1)).1),((gI (gI p.2 ↑e) ((List.length (gI p.2 ↑e):Int)-2)).2)-((gI (gI p.2 ↑e) ((List.length (gI p.2 ↑e):Int)-1)).2),az (bk (gI (gI p.2 ↑e) ((List.length (gI p.2 ↑e):Int)-1)) (gI (gI p.2 ↑e) ((List.length (gI p.2 ↑e):Int)-2))))]:List ((Int)×(Int)×(Nat))) d4 aW (by decide) (by decide) (vs:=[(0,vg [vi (((gI (gI p.2 ↑e) ((List.length (gI p.2 ↑e):Int)-2)).1)-((gI (gI p.2 ↑e) ((List.length (gI p.2 ↑e):Int)-1)).1)),vi (((gI (gI p.2 ↑e) ((List.length (gI p.2 ↑e):Int)-2)).2)-((gI (gI p.2 ↑e) ((List.length (gI p.2 ↑e):Int)-1)).2)),Value.float .f64 (az (bk (gI (gI p.2 ↑e) ((List.length (gI p.2 ↑e):Int)-1)) (gI (gI p.2 ↑e) ((List.length (gI p.2 ↑e):Int)-2))))])]) rfl rfl (.cons rfl .nil) ?_
       intro g283 w284 v285 ch286 o287
       have hs288:=hs282.seq (ch286.n)
       refine⟨hs288.same,?_⟩
       refine aE 22 rfl (by kernel_rfl) rfl ?_
       replace o15:=(o15.cn hb281).cn ch286
       replace r279:=(r279.cn hb281).cn ch286
       refine bj (α:=(Int)×(Int)×(Nat)) (xs:=(gI L ((gI g.2 ↑e).2))) (ys:=([(((gI (gI p.2 ↑e) ((List.length (gI p.2 ↑e):Int)-2)).1)-((gI (gI p.2 ↑e) ((List.length (gI p.2 ↑e):Int)-1)).1),((gI (gI p.2 ↑e) ((List.length (gI p.2 ↑e):Int)-2)).2)-((gI (gI p.2 ↑e) ((List.length (gI p.2 ↑e):Int)-1)).2),az (bk (gI (gI p.2 ↑e) ((List.length (gI p.2 ↑e):Int)-1)) (gI (gI p.2 ↑e) ((List.length (gI p.2 ↑e):Int)-2))))]:List ((Int)×(Int)×(Nat)))) g283 (J:=bW 3 (Int.toNat ((gI g.2 ↑e).2)+1)) (S:=bW 3 (Int.toNat ((gI g.2 ↑e).2)+1)) (3,Int.toNat ((gI g.2 ↑e).2)+1) rfl d4 aW (by decide) rfl rfl rfl r279 o287.flat (by decide) (by exact ct (hrw _) (by omega)) ?_
       intro g289 w290 v291 ch292 o293
       have o294:=o15.rowchg ch292
       clear o15 cel278 r279
       have hs295:=hs288.seq (ch292.lr rfl)
       refine⟨hs295.same,?_⟩
       refine aE 23 rfl (by kernel_rfl) rfl ?_
       obtain⟨us296,hl297,r298⟩:=o294.vc
       try simp only[List.length_set,List.length_append,List.length_cons,List.length_nil] at hl297
       refine aI (v:=Value.pointer (some (bb v13 1 (Int.toNat ((gI g.2 ↑e).2))))) (af (α:=Vc) (xs:=us296) (v:=v13) (i:=(gI g.2 ↑e).2) e8 rfl rfl r298 rfl (by omega) (by omega)) ?_
       refine⟨hs295.same,?_⟩
       refine aE 24 rfl (by kernel_rfl) rfl (bf (r:=(gI g.2 ↑e).2) aX rfl rfl o294 o293 (by omega) (by omega) ?_)
       intro w302 ch303 o304
       clear o294 o293
       have hs305:=hs295.seq (ch303.l rfl)
       refine⟨hs305.same,?_⟩
       refine bI (by kernel_rfl) ?_
       have C306:=cg [3,5,6] (ch129.n.seq ((ch132.l rfl).seq ((ch136.l rfl).seq (ch141.n.seq (hb274.n.seq (hb281.n.seq (ch286.n.seq ((ch292.lr rfl).seq (ch303.l rfl)))))))))
       have C308:=cg [5,6] ((ch132.l rfl).seq ((ch136.l rfl).seq ch141.n))
       have C307:=ch129.n.seq C308
       replace Rg:=Rg.ca C307
       replace Rp:=Rp.ca C307
       replace r_p_v1:=r_p_v1.ca C307
       replace bx10:=bx10.ca C307
       replace r31:=r31.ca C308
       exact mid (g289) _ _ ⟨bH.ca C306,zs3,zs5,zs8,zs9,zs18,zs19,zs20,zs32,zs33,(Rg.ca hs305),(Rp.ca hs305),(r_p_v1.ca hs305),(bx10.ca hs305),(r31.ca hs305),o304⟩
      ·
       refine aP (v:=Value.float .f64 (az (bk (gI (gI p.2 ↑e) ((List.length (gI p.2 ↑e):Int)-1)) (gI (gI p.2 ↑e) ((List.length (gI p.2 ↑e):Int)-2))))) (aG (vals:=[Value.float .f64 (bk (gI (gI p.2 ↑e) ((List.length (gI p.2 ↑e):Int)-1)) (gI (gI p.2 ↑e) ((List.length (gI p.2 ↑e):Int)-2)))]) Try.func46 c9 c8 rfl) (c7 w273 (bk (gI (gI p.2 ↑e) ((List.length (gI p.2 ↑e):Int)-1)) (gI (gI p.2 ↑e) ((List.length (gI p.2 ↑e):Int)-2))) (by exact cq _ _)) ?_
       intro w309 hb310
       replace hb310:=am hb310 g128
       have hs311:=hs275.seq (hb310.n)
       refine⟨hs311.same,?_⟩
       refine ht (v:=vg [vi (((gI (gI p.2 ↑e) ((List.length (gI p.2 ↑e):Int)-2)).1)-((gI (gI p.2 ↑e) ((List.length (gI p.2 ↑e):Int)-1)).1)),vi (((gI (gI p.2 ↑e) ((List.length (gI p.2 ↑e):Int)-2)).2)-((gI (gI p.2 ↑e) ((List.length (gI p.2 ↑e):Int)-1)).2)),Value.float .f64 (az (bk (gI (gI p.2 ↑e) ((List.length (gI p.2 ↑e):Int)-1)) (gI (gI p.2 ↑e) ((List.length (gI p.2 ↑e):Int)-2))))]) 20 rfl hs311.same (λw' hw'=>bB (vs:=[(0,vi (((gI (gI p.2 ↑e) ((List.length (gI p.2 ↑e):Int)-2)).1)-((gI (gI p.2 ↑e) ((List.length (gI p.2 ↑e):Int)-1)).1))),(1,vi (((gI (gI p.2 ↑e) ((List.length (gI p.2 ↑e):Int)-2)).2)-((gI (gI p.2 ↑e) ((List.length (gI p.2 ↑e):Int)-1)).2))),(2,Value.float .f64 (az (bk (gI (gI p.2 ↑e) ((List.length (gI p.2 ↑e):Int)-1)) (gI (gI p.2 ↑e) ((List.length (gI p.2 ↑e):Int)-2)))))]) rfl (by kernel_rfl)) ?_
       refine bJ 5 [21] (by kernel_rfl) ⟨bL 5 rfl (by kernel_rfl) rfl ?_,bL 21 rfl (by kernel_rfl) rfl ?_,trivial⟩
       ·
        replace o15:=o15.cn hb310
        obtain⟨v312,cel313,r314⟩:=bG (r:=(gI g.2 ↑e).2) o15 (by omega) (by omega)
        refine aI (v:=v312) (aZ aX rfl cel313) ?_
        refine⟨hs311.same,?_⟩
        refine aE 21 rfl (by kernel_rfl) rfl ?_
        refine aH (α:=(Int)×(Int)×(Nat)) g128 (is 7) (is 7) (7,0) rfl ([(((gI (gI p.2 ↑e) ((List.length (gI p.2 ↑e):Int)-2)).1)-((gI (gI p.2 ↑e) ((List.length (gI p.2 ↑e):Int)-1)).1),((gI (gI p.2 ↑e) ((List.length (gI p.2 ↑e):Int)-2)).2)-((gI (gI p.2 ↑e) ((List.length (gI p.2 ↑e):Int)-1)).2),az (bk (gI (gI p.2 ↑e) ((List.length (gI p.2 ↑e):Int)-1)) (gI (gI p.2 ↑e) ((List.length (gI p.2 ↑e):Int)-2))))]:List ((Int)×(Int)×(Nat))) d4 aW (by decide) (by decide) (vs:=[(0,vg [vi (((gI (gI p.2 ↑e) ((List.length (gI p.2 ↑e):Int)-2)).1)-((gI (gI p.2 ↑e) ((List.length (gI p.2 ↑e):Int)-1)).1)),vi (((gI (gI p.2 ↑e) ((List.length (gI p.2 ↑e):Int)-2)).2)-((gI (gI p.2 ↑e) ((List.length (gI p.2 ↑e):Int)-1)).2)),Value.float .f64 (az (bk (gI (gI p.2 ↑e) ((List.length (gI p.2 ↑e):Int)-1)) (gI (gI p.2 ↑e) ((List.length (gI p.2 ↑e):Int)-2))))])]) rfl rfl (.cons rfl .nil) ?_
        intro g315 w316 v317 ch318 o319
        have hs320:=hs311.seq (ch318.n)
        refine⟨hs320.same,?_⟩
        refine aE 22 rfl (by kernel_rfl) rfl ?_
        replace o15:=o15.cn ch318
        replace r314:=r314.cn ch318
        refine bj (α:=(Int)×(Int)×(Nat)) (xs:=(gI L ((gI g.2 ↑e).2))) (ys:=([(((gI (gI p.2 ↑e) ((List.length (gI p.2 ↑e):Int)-2)).1)-((gI (gI p.2 ↑e) ((List.length (gI p.2 ↑e):Int)-1)).1),((gI (gI p.2 ↑e) ((List.length (gI p.2 ↑e):Int)-2)).2)-((gI (gI p.2 ↑e) ((List.length (gI p.2 ↑e):Int)-1)).2),az (bk (gI (gI p.2 ↑e) ((List.length (gI p.2 ↑e):Int)-1)) (gI (gI p.2 ↑e) ((List.length (gI p.2 ↑e):Int)-2))))]:List ((Int)×(Int)×(Nat)))) g315 (J:=bW 3 (Int.toNat ((gI g.2 ↑e).2)+1)) (S:=bW 3 (Int.toNat ((gI g.2 ↑e).2)+1)) (3,Int.toNat ((gI g.2 ↑e).2)+1) rfl d4 aW (by decide) rfl rfl rfl r314 o319.flat (by decide) (by exact ct (hrw _) (by omega)) ?_
        intro g321 w322 v323 ch324 o325
        have o326:=o15.rowchg ch324
        clear o15 cel313 r314
        have hs327:=hs320.seq (ch324.lr rfl)
        refine⟨hs327.same,?_⟩
        refine aE 23 rfl (by kernel_rfl) rfl ?_
        obtain⟨us328,hl329,r330⟩:=o326.vc
        try simp only[List.length_set,List.length_append,List.length_cons,List.length_nil] at hl329
        refine aI (v:=Value.pointer (some (bb v13 1 (Int.toNat ((gI g.2 ↑e).2))))) (af (α:=Vc) (xs:=us328) (v:=v13) (i:=(gI g.2 ↑e).2) e8 rfl rfl r330 rfl (by omega) (by omega)) ?_
        refine⟨hs327.same,?_⟩
        refine aE 24 rfl (by kernel_rfl) rfl (bf (r:=(gI g.2 ↑e).2) aX rfl rfl o326 o325 (by omega) (by omega) ?_)
        intro w334 ch335 o336
        clear o326 o325
        have hs337:=hs327.seq (ch335.l rfl)
        refine⟨hs337.same,?_⟩
        refine bI (by kernel_rfl) ?_
        have C338:=cg [3,5,6] (ch129.n.seq ((ch132.l rfl).seq ((ch136.l rfl).seq (ch141.n.seq (hb274.n.seq (hb310.n.seq (ch318.n.seq ((ch324.lr rfl).seq (ch335.l rfl)))))))))
        have C340:=cg [5,6] ((ch132.l rfl).seq ((ch136.l rfl).seq ch141.n))
        have C339:=ch129.n.seq C340
        replace Rg:=Rg.ca C339
        replace Rp:=Rp.ca C339
        replace r_p_v1:=r_p_v1.ca C339
        replace bx10:=bx10.ca C339
        replace r31:=r31.ca C340
        exact mid (g321) _ _ ⟨bH.ca C338,zs3,zs5,zs8,zs9,zs18,zs19,zs20,zs32,zs33,(Rg.ca hs337),(Rp.ca hs337),(r_p_v1.ca hs337),(bx10.ca hs337),(r31.ca hs337),o336⟩
       ·
        refine aH (α:=(Int)×(Int)×(Nat)) g128 (is 7) (is 7) (7,0) rfl ([(((gI (gI p.2 ↑e) ((List.length (gI p.2 ↑e):Int)-2)).1)-((gI (gI p.2 ↑e) ((List.length (gI p.2 ↑e):Int)-1)).1),((gI (gI p.2 ↑e) ((List.length (gI p.2 ↑e):Int)-2)).2)-((gI (gI p.2 ↑e) ((List.length (gI p.2 ↑e):Int)-1)).2),az (bk (gI (gI p.2 ↑e) ((List.length (gI p.2 ↑e):Int)-1)) (gI (gI p.2 ↑e) ((List.length (gI p.2 ↑e):Int)-2))))]:List ((Int)×(Int)×(Nat))) d4 aW (by decide) (by decide) (vs:=[(0,vg [vi (((gI (gI p.2 ↑e) ((List.length (gI p.2 ↑e):Int)-2)).1)-((gI (gI p.2 ↑e) ((List.length (gI p.2 ↑e):Int)-1)).1)),vi (((gI (gI p.2 ↑e) ((List.length (gI p.2 ↑e):Int)-2)).2)-((gI (gI p.2 ↑e) ((List.length (gI p.2 ↑e):Int)-1)).2)),Value.float .f64 (az (bk (gI (gI p.2 ↑e) ((List.length (gI p.2 ↑e):Int)-1)) (gI (gI p.2 ↑e) ((List.length (gI p.2 ↑e):Int)-2))))])]) rfl rfl (.cons rfl .nil) ?_
        intro g341 w342 v343 ch344 o345
        have hs346:=hs311.seq (ch344.n)
        refine⟨hs346.same,?_⟩
        refine aE 5 rfl (by kernel_rfl) rfl ?_
        replace o15:=(o15.cn hb310).cn ch344
        obtain⟨v347,cel348,r349⟩:=bG (r:=(gI g.2 ↑e).2) o15 (by omega) (by omega)
        refine aI (v:=v347) (aZ aX rfl cel348) ?_
        refine⟨hs346.same,?_⟩
        refine aE 22 rfl (by kernel_rfl) rfl (bj (α:=(Int)×(Int)×(Nat)) (xs:=(gI L ((gI g.2 ↑e).2))) (ys:=([(((gI (gI p.2 ↑e) ((List.length (gI p.2 ↑e):Int)-2)).1)-((gI (gI p.2 ↑e) ((List.length (gI p.2 ↑e):Int)-1)).1),((gI (gI p.2 ↑e) ((List.length (gI p.2 ↑e):Int)-2)).2)-((gI (gI p.2 ↑e) ((List.length (gI p.2 ↑e):Int)-1)).2),az (bk (gI (gI p.2 ↑e) ((List.length (gI p.2 ↑e):Int)-1)) (gI (gI p.2 ↑e) ((List.length (gI p.2 ↑e):Int)-2))))]:List ((Int)×(Int)×(Nat)))) g341 (J:=bW 3 (Int.toNat ((gI g.2 ↑e).2)+1)) (S:=bW 3 (Int.toNat ((gI g.2 ↑e).2)+1)) (3,Int.toNat ((gI g.2 ↑e).2)+1) rfl d4 aW (by decide) rfl rfl rfl r349 o345.flat (by decide) (by exact ct (hrw _) (by omega)) ?_)
        intro g350 w351 v352 ch353 o354
        have o355:=o15.rowchg ch353
        clear o15 cel348 r349
        have hs356:=hs346.seq (ch353.lr rfl)
        refine⟨hs356.same,?_⟩
        refine aE 23 rfl (by kernel_rfl) rfl ?_
        obtain⟨us357,hl358,r359⟩:=o355.vc
        try simp only[List.length_set,List.length_append,List.length_cons,List.length_nil] at hl358
        refine aI (v:=Value.pointer (some (bb v13 1 (Int.toNat ((gI g.2 ↑e).2))))) (af (α:=Vc) (xs:=us357) (v:=v13) (i:=(gI g.2 ↑e).2) e8 rfl rfl r359 rfl (by omega) (by omega)) ?_
        refine⟨hs356.same,?_⟩
        refine aE 24 rfl (by kernel_rfl) rfl (bf (r:=(gI g.2 ↑e).2) aX rfl rfl o355 o354 (by omega) (by omega) ?_)
        intro w363 ch364 o365
        clear o355 o354
        have hs366:=hs356.seq (ch364.l rfl)
        refine⟨hs366.same,?_⟩
        refine bI (by kernel_rfl) ?_
        have C367:=cg [3,5,6] (ch129.n.seq ((ch132.l rfl).seq ((ch136.l rfl).seq (ch141.n.seq (hb274.n.seq (hb310.n.seq (ch344.n.seq ((ch353.lr rfl).seq (ch364.l rfl)))))))))
        have C369:=cg [5,6] ((ch132.l rfl).seq ((ch136.l rfl).seq ch141.n))
        have C368:=ch129.n.seq C369
        replace Rg:=Rg.ca C368
        replace Rp:=Rp.ca C368
        replace r_p_v1:=r_p_v1.ca C368
        replace bx10:=bx10.ca C368
        replace r31:=r31.ca C369
        exact mid (g350) _ _ ⟨bH.ca C367,zs3,zs5,zs8,zs9,zs18,zs19,zs20,zs32,zs33,(Rg.ca hs366),(Rp.ca hs366),(r_p_v1.ca hs366),(bx10.ca hs366),(r31.ca hs366),o365⟩
     ·
      refine aP (v:=Value.float .f64 (az (bk (gI (gI p.2 ↑e) ((List.length (gI p.2 ↑e):Int)-1)) (gI (gI p.2 ↑e) ((List.length (gI p.2 ↑e):Int)-2))))) (aG (vals:=[Value.float .f64 (bk (gI (gI p.2 ↑e) ((List.length (gI p.2 ↑e):Int)-1)) (gI (gI p.2 ↑e) ((List.length (gI p.2 ↑e):Int)-2)))]) Try.func46 c9 c8 rfl) (c7 w273 (bk (gI (gI p.2 ↑e) ((List.length (gI p.2 ↑e):Int)-1)) (gI (gI p.2 ↑e) ((List.length (gI p.2 ↑e):Int)-2))) (by exact cq _ _)) ?_
      intro w370 hb371
      replace hb371:=am hb371 g128
      have hs372:=hs275.seq (hb371.n)
      refine⟨hs372.same,?_⟩
      refine ht (v:=vg [vi (((gI (gI p.2 ↑e) ((List.length (gI p.2 ↑e):Int)-2)).1)-((gI (gI p.2 ↑e) ((List.length (gI p.2 ↑e):Int)-1)).1)),vi (((gI (gI p.2 ↑e) ((List.length (gI p.2 ↑e):Int)-2)).2)-((gI (gI p.2 ↑e) ((List.length (gI p.2 ↑e):Int)-1)).2)),Value.float .f64 (az (bk (gI (gI p.2 ↑e) ((List.length (gI p.2 ↑e):Int)-1)) (gI (gI p.2 ↑e) ((List.length (gI p.2 ↑e):Int)-2))))]) 20 rfl hs372.same (λw' hw'=>bB (vs:=[(0,vi (((gI (gI p.2 ↑e) ((List.length (gI p.2 ↑e):Int)-2)).1)-((gI (gI p.2 ↑e) ((List.length (gI p.2 ↑e):Int)-1)).1))),(1,vi (((gI (gI p.2 ↑e) ((List.length (gI p.2 ↑e):Int)-2)).2)-((gI (gI p.2 ↑e) ((List.length (gI p.2 ↑e):Int)-1)).2))),(2,Value.float .f64 (az (bk (gI (gI p.2 ↑e) ((List.length (gI p.2 ↑e):Int)-1)) (gI (gI p.2 ↑e) ((List.length (gI p.2 ↑e):Int)-2)))))]) rfl (by kernel_rfl)) ?_
      refine bJ 4 [21] (by kernel_rfl) ⟨bL 4 rfl (by kernel_rfl) rfl ?_,bL 21 rfl (by kernel_rfl) rfl ?_,trivial⟩
      ·
       have C373:=cg [5,6] (ch129.n.seq ((ch132.l rfl).seq ((ch136.l rfl).seq (ch141.n.seq (hb274.n.seq hb371.n)))))
       replace o15:=o15.ca C373
       refine aI (v:=Value.pointer (some (bb v13 1 (Int.toNat ((gI g.2 ↑e).2))))) (af (α:=List ((Int)×(Int)×(Nat))) (xs:=L) (v:=v13) (i:=(gI g.2 ↑e).2) e8 rfl rfl o15.sl rfl (by omega) (by omega)) ?_
       refine⟨hs372.same,?_⟩
       refine bJ 5 [21] (by kernel_rfl) ⟨bL 5 rfl (by kernel_rfl) rfl ?_,bL 21 rfl (by kernel_rfl) rfl ?_,trivial⟩
       ·
        obtain⟨v374,cel375,r376⟩:=bG (r:=(gI g.2 ↑e).2) o15 (by omega) (by omega)
        refine aI (v:=v374) (aZ aX rfl cel375) ?_
        refine⟨hs372.same,?_⟩
        refine aE 21 rfl (by kernel_rfl) rfl ?_
        refine aH (α:=(Int)×(Int)×(Nat)) g128 (is 7) (is 7) (7,0) rfl ([(((gI (gI p.2 ↑e) ((List.length (gI p.2 ↑e):Int)-2)).1)-((gI (gI p.2 ↑e) ((List.length (gI p.2 ↑e):Int)-1)).1),((gI (gI p.2 ↑e) ((List.length (gI p.2 ↑e):Int)-2)).2)-((gI (gI p.2 ↑e) ((List.length (gI p.2 ↑e):Int)-1)).2),az (bk (gI (gI p.2 ↑e) ((List.length (gI p.2 ↑e):Int)-1)) (gI (gI p.2 ↑e) ((List.length (gI p.2 ↑e):Int)-2))))]:List ((Int)×(Int)×(Nat))) d4 aW (by decide) (by decide) (vs:=[(0,vg [vi (((gI (gI p.2 ↑e) ((List.length (gI p.2 ↑e):Int)-2)).1)-((gI (gI p.2 ↑e) ((List.length (gI p.2 ↑e):Int)-1)).1)),vi (((gI (gI p.2 ↑e) ((List.length (gI p.2 ↑e):Int)-2)).2)-((gI (gI p.2 ↑e) ((List.length (gI p.2 ↑e):Int)-1)).2)),Value.float .f64 (az (bk (gI (gI p.2 ↑e) ((List.length (gI p.2 ↑e):Int)-1)) (gI (gI p.2 ↑e) ((List.length (gI p.2 ↑e):Int)-2))))])]) rfl rfl (.cons rfl .nil) ?_
        intro g377 w378 v379 ch380 o381
        have hs382:=hs372.seq (ch380.n)
        refine⟨hs382.same,?_⟩
        refine aE 22 rfl (by kernel_rfl) rfl ?_
        replace o15:=o15.cn ch380
        replace r376:=r376.cn ch380
        refine bj (α:=(Int)×(Int)×(Nat)) (xs:=(gI L ((gI g.2 ↑e).2))) (ys:=([(((gI (gI p.2 ↑e) ((List.length (gI p.2 ↑e):Int)-2)).1)-((gI (gI p.2 ↑e) ((List.length (gI p.2 ↑e):Int)-1)).1),((gI (gI p.2 ↑e) ((List.length (gI p.2 ↑e):Int)-2)).2)-((gI (gI p.2 ↑e) ((List.length (gI p.2 ↑e):Int)-1)).2),az (bk (gI (gI p.2 ↑e) ((List.length (gI p.2 ↑e):Int)-1)) (gI (gI p.2 ↑e) ((List.length (gI p.2 ↑e):Int)-2))))]:List ((Int)×(Int)×(Nat)))) g377 (J:=bW 3 (Int.toNat ((gI g.2 ↑e).2)+1)) (S:=bW 3 (Int.toNat ((gI g.2 ↑e).2)+1)) (3,Int.toNat ((gI g.2 ↑e).2)+1) rfl d4 aW (by decide) rfl rfl rfl r376 o381.flat (by decide) (by exact ct (hrw _) (by omega)) ?_
        intro g383 w384 v385 ch386 o387
        have o388:=o15.rowchg ch386
        clear o15 cel375 r376
        have hs389:=hs382.seq (ch386.lr rfl)
        refine⟨hs389.same,?_⟩
        refine aE 23 rfl (by kernel_rfl) rfl ?_
        obtain⟨us390,hl391,r392⟩:=o388.vc
        try simp only[List.length_set,List.length_append,List.length_cons,List.length_nil] at hl391
        refine aI (v:=Value.pointer (some (bb v13 1 (Int.toNat ((gI g.2 ↑e).2))))) (af (α:=Vc) (xs:=us390) (v:=v13) (i:=(gI g.2 ↑e).2) e8 rfl rfl r392 rfl (by omega) (by omega)) ?_
        refine⟨hs389.same,?_⟩
        refine aE 24 rfl (by kernel_rfl) rfl (bf (r:=(gI g.2 ↑e).2) aX rfl rfl o388 o387 (by omega) (by omega) ?_)
        intro w396 ch397 o398
        clear o388 o387
        have hs399:=hs389.seq (ch397.l rfl)
        refine⟨hs399.same,?_⟩
        refine bI (by kernel_rfl) ?_
        have C400:=cg [3,5,6] (ch129.n.seq ((ch132.l rfl).seq ((ch136.l rfl).seq (ch141.n.seq (hb274.n.seq (hb371.n.seq (ch380.n.seq ((ch386.lr rfl).seq (ch397.l rfl)))))))))
        have C402:=cg [5,6] ((ch132.l rfl).seq ((ch136.l rfl).seq ch141.n))
        have C401:=ch129.n.seq C402
        replace Rg:=Rg.ca C401
        replace Rp:=Rp.ca C401
        replace r_p_v1:=r_p_v1.ca C401
        replace bx10:=bx10.ca C401
        replace r31:=r31.ca C402
        exact mid (g383) _ _ ⟨bH.ca C400,zs3,zs5,zs8,zs9,zs18,zs19,zs20,zs32,zs33,(Rg.ca hs399),(Rp.ca hs399),(r_p_v1.ca hs399),(bx10.ca hs399),(r31.ca hs399),o398⟩
       ·
        refine aH (α:=(Int)×(Int)×(Nat)) g128 (is 7) (is 7) (7,0) rfl ([(((gI (gI p.2 ↑e) ((List.length (gI p.2 ↑e):Int)-2)).1)-((gI (gI p.2 ↑e) ((List.length (gI p.2 ↑e):Int)-1)).1),((gI (gI p.2 ↑e) ((List.length (gI p.2 ↑e):Int)-2)).2)-((gI (gI p.2 ↑e) ((List.length (gI p.2 ↑e):Int)-1)).2),az (bk (gI (gI p.2 ↑e) ((List.length (gI p.2 ↑e):Int)-1)) (gI (gI p.2 ↑e) ((List.length (gI p.2 ↑e):Int)-2))))]:List ((Int)×(Int)×(Nat))) d4 aW (by decide) (by decide) (vs:=[(0,vg [vi (((gI (gI p.2 ↑e) ((List.length (gI p.2 ↑e):Int)-2)).1)-((gI (gI p.2 ↑e) ((List.length (gI p.2 ↑e):Int)-1)).1)),vi (((gI (gI p.2 ↑e) ((List.length (gI p.2 ↑e):Int)-2)).2)-((gI (gI p.2 ↑e) ((List.length (gI p.2 ↑e):Int)-1)).2)),Value.float .f64 (az (bk (gI (gI p.2 ↑e) ((List.length (gI p.2 ↑e):Int)-1)) (gI (gI p.2 ↑e) ((List.length (gI p.2 ↑e):Int)-2))))])]) rfl rfl (.cons rfl .nil) ?_
        intro g403 w404 v405 ch406 o407
        have hs408:=hs372.seq (ch406.n)
        refine⟨hs408.same,?_⟩
        refine aE 5 rfl (by kernel_rfl) rfl ?_
        replace o15:=o15.cn ch406
        obtain⟨v409,cel410,r411⟩:=bG (r:=(gI g.2 ↑e).2) o15 (by omega) (by omega)
        refine aI (v:=v409) (aZ aX rfl cel410) ?_
        refine⟨hs408.same,?_⟩
        refine aE 22 rfl (by kernel_rfl) rfl (bj (α:=(Int)×(Int)×(Nat)) (xs:=(gI L ((gI g.2 ↑e).2))) (ys:=([(((gI (gI p.2 ↑e) ((List.length (gI p.2 ↑e):Int)-2)).1)-((gI (gI p.2 ↑e) ((List.length (gI p.2 ↑e):Int)-1)).1),((gI (gI p.2 ↑e) ((List.length (gI p.2 ↑e):Int)-2)).2)-((gI (gI p.2 ↑e) ((List.length (gI p.2 ↑e):Int)-1)).2),az (bk (gI (gI p.2 ↑e) ((List.length (gI p.2 ↑e):Int)-1)) (gI (gI p.2 ↑e) ((List.length (gI p.2 ↑e):Int)-2))))]:List ((Int)×(Int)×(Nat)))) g403 (J:=bW 3 (Int.toNat ((gI g.2 ↑e).2)+1)) (S:=bW 3 (Int.toNat ((gI g.2 ↑e).2)+1)) (3,Int.toNat ((gI g.2 ↑e).2)+1) rfl d4 aW (by decide) rfl rfl rfl r411 o407.flat (by decide) (by exact ct (hrw _) (by omega)) ?_)
        intro g412 w413 v414 ch415 o416
        have o417:=o15.rowchg ch415
        clear o15 cel410 r411
        have hs418:=hs408.seq (ch415.lr rfl)
        refine⟨hs418.same,?_⟩
        refine aE 23 rfl (by kernel_rfl) rfl ?_
        obtain⟨us419,hl420,r421⟩:=o417.vc
        try simp only[List.length_set,List.length_append,List.length_cons,List.length_nil] at hl420
        refine aI (v:=Value.pointer (some (bb v13 1 (Int.toNat ((gI g.2 ↑e).2))))) (af (α:=Vc) (xs:=us419) (v:=v13) (i:=(gI g.2 ↑e).2) e8 rfl rfl r421 rfl (by omega) (by omega)) ?_
        refine⟨hs418.same,?_⟩
        refine aE 24 rfl (by kernel_rfl) rfl (bf (r:=(gI g.2 ↑e).2) aX rfl rfl o417 o416 (by omega) (by omega) ?_)
        intro w425 ch426 o427
        clear o417 o416
        have hs428:=hs418.seq (ch426.l rfl)
        refine⟨hs428.same,?_⟩
        refine bI (by kernel_rfl) ?_
        have C429:=cg [3,5,6] (ch129.n.seq ((ch132.l rfl).seq ((ch136.l rfl).seq (ch141.n.seq (hb274.n.seq (hb371.n.seq (ch406.n.seq ((ch415.lr rfl).seq (ch426.l rfl)))))))))
        have C431:=cg [5,6] ((ch132.l rfl).seq ((ch136.l rfl).seq ch141.n))
        have C430:=ch129.n.seq C431
        replace Rg:=Rg.ca C430
        replace Rp:=Rp.ca C430
        replace r_p_v1:=r_p_v1.ca C430
        replace bx10:=bx10.ca C430
        replace r31:=r31.ca C431
        exact mid (g412) _ _ ⟨bH.ca C429,zs3,zs5,zs8,zs9,zs18,zs19,zs20,zs32,zs33,(Rg.ca hs428),(Rp.ca hs428),(r_p_v1.ca hs428),(bx10.ca hs428),(r31.ca hs428),o427⟩
      ·
       refine aH (α:=(Int)×(Int)×(Nat)) g128 (is 7) (is 7) (7,0) rfl ([(((gI (gI p.2 ↑e) ((List.length (gI p.2 ↑e):Int)-2)).1)-((gI (gI p.2 ↑e) ((List.length (gI p.2 ↑e):Int)-1)).1),((gI (gI p.2 ↑e) ((List.length (gI p.2 ↑e):Int)-2)).2)-((gI (gI p.2 ↑e) ((List.length (gI p.2 ↑e):Int)-1)).2),az (bk (gI (gI p.2 ↑e) ((List.length (gI p.2 ↑e):Int)-1)) (gI (gI p.2 ↑e) ((List.length (gI p.2 ↑e):Int)-2))))]:List ((Int)×(Int)×(Nat))) d4 aW (by decide) (by decide) (vs:=[(0,vg [vi (((gI (gI p.2 ↑e) ((List.length (gI p.2 ↑e):Int)-2)).1)-((gI (gI p.2 ↑e) ((List.length (gI p.2 ↑e):Int)-1)).1)),vi (((gI (gI p.2 ↑e) ((List.length (gI p.2 ↑e):Int)-2)).2)-((gI (gI p.2 ↑e) ((List.length (gI p.2 ↑e):Int)-1)).2)),Value.float .f64 (az (bk (gI (gI p.2 ↑e) ((List.length (gI p.2 ↑e):Int)-1)) (gI (gI p.2 ↑e) ((List.length (gI p.2 ↑e):Int)-2))))])]) rfl rfl (.cons rfl .nil) ?_
       intro g432 w433 v434 ch435 o436
       have hs437:=hs372.seq (ch435.n)
       refine⟨hs437.same,?_⟩
       refine aE 4 rfl (by kernel_rfl) rfl ?_
       have C438:=cg [5,6] (ch129.n.seq ((ch132.l rfl).seq ((ch136.l rfl).seq (ch141.n.seq (hb274.n.seq (hb371.n.seq ch435.n))))))
       replace o15:=o15.ca C438
       refine aI (v:=Value.pointer (some (bb v13 1 (Int.toNat ((gI g.2 ↑e).2))))) (af (α:=List ((Int)×(Int)×(Nat))) (xs:=L) (v:=v13) (i:=(gI g.2 ↑e).2) e8 rfl rfl o15.sl rfl (by omega) (by omega)) ?_
       refine⟨hs437.same,?_⟩
       refine aE 5 rfl (by kernel_rfl) rfl ?_
       obtain⟨v439,cel440,r441⟩:=bG (r:=(gI g.2 ↑e).2) o15 (by omega) (by omega)
       refine aI (v:=v439) (aZ aX rfl cel440) ?_
       refine⟨hs437.same,?_⟩
       refine aE 22 rfl (by kernel_rfl) rfl (bj (α:=(Int)×(Int)×(Nat)) (xs:=(gI L ((gI g.2 ↑e).2))) (ys:=([(((gI (gI p.2 ↑e) ((List.length (gI p.2 ↑e):Int)-2)).1)-((gI (gI p.2 ↑e) ((List.length (gI p.2 ↑e):Int)-1)).1),((gI (gI p.2 ↑e) ((List.length (gI p.2 ↑e):Int)-2)).2)-((gI (gI p.2 ↑e) ((List.length (gI p.2 ↑e):Int)-1)).2),az (bk (gI (gI p.2 ↑e) ((List.length (gI p.2 ↑e):Int)-1)) (gI (gI p.2 ↑e) ((List.length (gI p.2 ↑e):Int)-2))))]:List ((Int)×(Int)×(Nat)))) g432 (J:=bW 3 (Int.toNat ((gI g.2 ↑e).2)+1)) (S:=bW 3 (Int.toNat ((gI g.2 ↑e).2)+1)) (3,Int.toNat ((gI g.2 ↑e).2)+1) rfl d4 aW (by decide) rfl rfl rfl r441 o436.flat (by decide) (by exact ct (hrw _) (by omega)) ?_)
       intro g442 w443 v444 ch445 o446
       have o447:=o15.rowchg ch445
       clear o15 cel440 r441
       have hs448:=hs437.seq (ch445.lr rfl)
       refine⟨hs448.same,?_⟩
       refine aE 23 rfl (by kernel_rfl) rfl ?_
       obtain⟨us449,hl450,r451⟩:=o447.vc
       try simp only[List.length_set,List.length_append,List.length_cons,List.length_nil] at hl450
       refine aI (v:=Value.pointer (some (bb v13 1 (Int.toNat ((gI g.2 ↑e).2))))) (af (α:=Vc) (xs:=us449) (v:=v13) (i:=(gI g.2 ↑e).2) e8 rfl rfl r451 rfl (by omega) (by omega)) ?_
       refine⟨hs448.same,?_⟩
       refine aE 24 rfl (by kernel_rfl) rfl (bf (r:=(gI g.2 ↑e).2) aX rfl rfl o447 o446 (by omega) (by omega) ?_)
       intro w455 ch456 o457
       clear o447 o446
       have hs458:=hs448.seq (ch456.l rfl)
       refine⟨hs458.same,?_⟩
       refine bI (by kernel_rfl) ?_
       have C459:=cg [3,5,6] (ch129.n.seq ((ch132.l rfl).seq ((ch136.l rfl).seq (ch141.n.seq (hb274.n.seq (hb371.n.seq (ch435.n.seq ((ch445.lr rfl).seq (ch456.l rfl)))))))))
       have C461:=cg [5,6] ((ch132.l rfl).seq ((ch136.l rfl).seq ch141.n))
       have C460:=ch129.n.seq C461
       replace Rg:=Rg.ca C460
       replace Rp:=Rp.ca C460
       replace r_p_v1:=r_p_v1.ca C460
       replace bx10:=bx10.ca C460
       replace r31:=r31.ca C461
       exact mid (g442) _ _ ⟨bH.ca C459,zs3,zs5,zs8,zs9,zs18,zs19,zs20,zs32,zs33,(Rg.ca hs458),(Rp.ca hs458),(r_p_v1.ca hs458),(bx10.ca hs458),(r31.ca hs458),o457⟩
   clear Rg Rp r_p_v1 bx10 o15 r31 bx133 bx137 bH
   rintro g464 f462 w463 ⟨bH,zs3,zs5,zs8,zs9,zs18,zs19,zs20,zs32,zs33,Rg,Rp,r_p_v1,bx10,r31,o175⟩
   refine ap (a7 rfl (lx (ba (m:=1) (n:=1) zs33 rfl (by omega)) (mi 2 (ab (aN (a8 (a7 rfl (lx (bc (m:=2) (n:=2) rfl rfl) (ab (a8 (ah rfl rfl ?_)))))))))))
   refine aQ rfl (ap ?_)
   clear r31
   refine a7 rfl (lx (ba (m:=↑e) (n:=1) zs20 rfl (by omega)) (mi ((e:Int)+1) (ab ?_)))
   refine back3 (e+1,(List.set L (Int.toNat ((gI g.2 ↑e).2)) (gI L ((gI g.2 ↑e).2)++([(((gI (gI p.2 ↑e) ((List.length (gI p.2 ↑e):Int)-2)).1)-((gI (gI p.2 ↑e) ((List.length (gI p.2 ↑e):Int)-1)).1),((gI (gI p.2 ↑e) ((List.length (gI p.2 ↑e):Int)-2)).2)-((gI (gI p.2 ↑e) ((List.length (gI p.2 ↑e):Int)-1)).2),az (bk (gI (gI p.2 ↑e) ((List.length (gI p.2 ↑e):Int)-1)) (gI (gI p.2 ↑e) ((List.length (gI p.2 ↑e):Int)-2))))]:List ((Int)×(Int)×(Nat))))),g464) _ _ ⟨bH,zs3,zs5,zs18,zs19,rfl,Rg,Rp,r_p_v1,bx10,o175,by omega,?_⟩ ?_
   · show(List.set L (Int.toNat ((gI g.2 ↑e).2)) (gI L ((gI g.2 ↑e).2)++([(((gI (gI p.2 ↑e) ((List.length (gI p.2 ↑e):Int)-2)).1)-((gI (gI p.2 ↑e) ((List.length (gI p.2 ↑e):Int)-1)).1),((gI (gI p.2 ↑e) ((List.length (gI p.2 ↑e):Int)-2)).2)-((gI (gI p.2 ↑e) ((List.length (gI p.2 ↑e):Int)-1)).2),az (bk (gI (gI p.2 ↑e) ((List.length (gI p.2 ↑e):Int)-1)) (gI (gI p.2 ↑e) ((List.length (gI p.2 ↑e):Int)-2))))]:List ((Int)×(Int)×(Nat)))))=ar g p (e+1)
     (rw[hL] at*;exact jl (by exact .inl ⟨‹_›,rfl⟩) (by exact .inr ⟨‹_›,rfl⟩))
   · show Int.toNat (((g.2.length:Int):Int)-((e+1):Int))<Int.toNat (((g.2.length:Int):Int)-(e:Int))
     omega
  refine ag rfl (congrArg Bool.not (df p13)) ?_
  refine cj (σ:=aV) (λgq f w=>bu w0 gq w/\f 3=vp b8 0/\f 5=v13/\f 8=v29/\f 9=vi (List.length (gI p.2 ↑e):Int)/\f 18=g_v/\f 19=vi (g.2.length:Int)/\f 20=vi ↑e/\f 32=vg [vi ((gI g.2 ↑e).1),vi ((gI g.2 ↑e).2)]/\f 33=vi 0/\Sl gq (is 0) w g_v g.2/\Sl gq (is 0) w p_v p.1/\Sl gq (is 0) w p_v1 p.2/\Bx gq (is 2) w b8 [p_v,p_v1]/\Sl gq (is 0) w v29 (gI p.2 ↑e)/\dH gq 3 w v13 (List.set L (Int.toNat ((gI g.2 ↑e).1)) (gI L ((gI g.2 ↑e).1)++([(((gI (gI p.2 ↑e) 1).1)-((gI (gI p.2 ↑e) 0).1),((gI (gI p.2 ↑e) 1).2)-((gI (gI p.2 ↑e) 0).2),az (bk (gI (gI p.2 ↑e) 0) (gI (gI p.2 ↑e) 1)))]:List ((Int)×(Int)×(Nat)))))) g81 (inl [3]) dC ?_ ?_
  ·
   intro mid
   intro w466 ch465
   refine ht (v:=v13) 0 rfl (bh.refl _ _ _) (λw' hw'=>aR zs5) (ht (v:=vi ((gI g.2 ↑e).1)) 1 rfl (bh.refl _ _ _) (λw' hw'=>aR zs11) (ht (v:=v13) 2 rfl (bh.refl _ _ _) (λw' hw'=>aR zs5) (ht (v:=vi ((gI g.2 ↑e).1)) 3 rfl (bh.refl _ _ _) (λw' hw'=>aR zs11) (ht 6 rfl (bh.refl _ _ _) (λw' hw'=>a9 cL rfl rfl zs13 rfl) ?_))))
   replace bx53:=bx53.cn ch465
   refine ht 7 rfl (bh.refl _ _ _) (λw' hw'=>aa aL rfl (bx53.chg hw' (bt rfl)) rfl) (ht 8 rfl (bh.refl _ _ _) (λw' hw'=>a9 cL rfl rfl zs12 rfl) ?_)
   replace bx49:=bx49.cn ch465
   refine ht 9 rfl (bh.refl _ _ _) (λw' hw'=>aa aL rfl (bx49.chg hw' (bt rfl)) rfl) (ht 10 rfl (bh.refl _ _ _) (λw' hw'=>cW (m:=(gI (gI p.2 ↑e) 1).1) (n:=(gI (gI p.2 ↑e) 0).1) rfl rfl (by omega)) (ht 11 rfl (bh.refl _ _ _) (λw' hw'=>a9 cL rfl rfl zs13 rfl) (ht 12 rfl (bh.refl _ _ _) (λw' hw'=>aa aL rfl (bx53.chg hw' (bt rfl)) rfl) (ht 13 rfl (bh.refl _ _ _) (λw' hw'=>a9 cL rfl rfl zs12 rfl) (ht 14 rfl (bh.refl _ _ _) (λw' hw'=>aa aL rfl (bx49.chg hw' (bt rfl)) rfl) (ht 15 rfl (bh.refl _ _ _) (λw' hw'=>cW (m:=(gI (gI p.2 ↑e) 1).2) (n:=(gI (gI p.2 ↑e) 0).2) rfl rfl (by omega)) ?_))))))
   refine ht 16 rfl (bh.refl _ _ _) (λw' hw'=>ae (ds:=[vi ((gI (gI p.2 ↑e) 0).1),vi ((gI (gI p.2 ↑e) 0).2)]) aj zs12 (bx49.chg hw' (bt rfl)) rfl rfl) (ht 17 rfl (bh.refl _ _ _) (λw' hw'=>ae (ds:=[vi ((gI (gI p.2 ↑e) 1).1),vi ((gI (gI p.2 ↑e) 1).2)]) aj zs13 (bx53.chg hw' (bt rfl)) rfl rfl) ?_)
   refine bJ 4 [18] (by kernel_rfl) ⟨bL 4 rfl (by kernel_rfl) rfl ?_,bL 18 rfl (by kernel_rfl) rfl ?_,trivial⟩
   ·
    replace o15:=o15.cn ch465
    refine aI (v:=Value.pointer (some (bb v13 1 (Int.toNat ((gI g.2 ↑e).1))))) (af (α:=List ((Int)×(Int)×(Nat))) (xs:=L) (v:=v13) (i:=(gI g.2 ↑e).1) e8 rfl rfl o15.sl rfl (by omega) (by omega)) ?_
    refine⟨(bh.refl _ _ _),?_⟩
    refine bJ 5 [18] (by kernel_rfl) ⟨bL 5 rfl (by kernel_rfl) rfl ?_,bL 18 rfl (by kernel_rfl) rfl ?_,trivial⟩
    ·
     obtain⟨v467,cel468,r469⟩:=bG (r:=(gI g.2 ↑e).1) o15 (by omega) (by omega)
     refine aI (v:=v467) (aZ aX rfl cel468) ?_
     refine⟨(bh.refl _ _ _),?_⟩
     refine aE 18 rfl (by kernel_rfl) rfl (aP (v:=Value.float .f64 (bk (gI (gI p.2 ↑e) 0) (gI (gI p.2 ↑e) 1))) (aG (vals:=[vg [vi ((gI (gI p.2 ↑e) 0).1),vi ((gI (gI p.2 ↑e) 0).2)],vg [vi ((gI (gI p.2 ↑e) 1).1),vi ((gI (gI p.2 ↑e) 1).2)]]) Try.func47 dp dj rfl) (cm w466 (gI (gI p.2 ↑e) 0) (gI (gI p.2 ↑e) 1) (by exact hl3.2 _ (bl (by omega) (by omega))) (by exact hl3.2 _ (bl (by omega) (by omega)))) ?_)
     intro w470 hb471
     replace hb471:=am hb471 g81
     have hs472:bh (inl [3]) _ _ _ _:=hb471.n
     refine⟨hs472.same,?_⟩
     refine aE 19 rfl (by kernel_rfl) rfl (aP (v:=Value.float .f64 (az (bk (gI (gI p.2 ↑e) 0) (gI (gI p.2 ↑e) 1)))) (aG (vals:=[Value.float .f64 (bk (gI (gI p.2 ↑e) 0) (gI (gI p.2 ↑e) 1))]) Try.func46 c9 c8 rfl) (c7 w470 (bk (gI (gI p.2 ↑e) 0) (gI (gI p.2 ↑e) 1)) (by exact cq _ _)) ?_)
     intro w473 hb474
     replace hb474:=am hb474 g81
     have hs475:=hs472.seq (hb474.n)
     refine⟨hs475.same,?_⟩
     refine ht (v:=vg [vi (((gI (gI p.2 ↑e) 1).1)-((gI (gI p.2 ↑e) 0).1)),vi (((gI (gI p.2 ↑e) 1).2)-((gI (gI p.2 ↑e) 0).2)),Value.float .f64 (az (bk (gI (gI p.2 ↑e) 0) (gI (gI p.2 ↑e) 1)))]) 20 rfl hs475.same (λw' hw'=>bB (vs:=[(0,vi (((gI (gI p.2 ↑e) 1).1)-((gI (gI p.2 ↑e) 0).1))),(1,vi (((gI (gI p.2 ↑e) 1).2)-((gI (gI p.2 ↑e) 0).2))),(2,Value.float .f64 (az (bk (gI (gI p.2 ↑e) 0) (gI (gI p.2 ↑e) 1))))]) rfl (by kernel_rfl)) (aE 21 rfl (by kernel_rfl) rfl ?_)
     refine aH (α:=(Int)×(Int)×(Nat)) g81 (is 7) (is 7) (7,0) rfl ([(((gI (gI p.2 ↑e) 1).1)-((gI (gI p.2 ↑e) 0).1),((gI (gI p.2 ↑e) 1).2)-((gI (gI p.2 ↑e) 0).2),az (bk (gI (gI p.2 ↑e) 0) (gI (gI p.2 ↑e) 1)))]:List ((Int)×(Int)×(Nat))) d4 aW (by decide) (by decide) (vs:=[(0,vg [vi (((gI (gI p.2 ↑e) 1).1)-((gI (gI p.2 ↑e) 0).1)),vi (((gI (gI p.2 ↑e) 1).2)-((gI (gI p.2 ↑e) 0).2)),Value.float .f64 (az (bk (gI (gI p.2 ↑e) 0) (gI (gI p.2 ↑e) 1)))])]) rfl rfl (.cons rfl .nil) ?_
     intro g476 w477 v478 ch479 o480
     have hs481:=hs475.seq (ch479.n)
     refine⟨hs481.same,?_⟩
     refine aE 22 rfl (by kernel_rfl) rfl ?_
     have C488:=cg [] (hb471.n.seq (hb474.n.seq ch479.n))
     replace o15:=o15.ca C488
     replace r469:=r469.chg C488 (gO rfl) (gO rfl)
     refine bj (α:=(Int)×(Int)×(Nat)) (xs:=(gI L ((gI g.2 ↑e).1))) (ys:=([(((gI (gI p.2 ↑e) 1).1)-((gI (gI p.2 ↑e) 0).1),((gI (gI p.2 ↑e) 1).2)-((gI (gI p.2 ↑e) 0).2),az (bk (gI (gI p.2 ↑e) 0) (gI (gI p.2 ↑e) 1)))]:List ((Int)×(Int)×(Nat)))) g476 (J:=bW 3 (Int.toNat ((gI g.2 ↑e).1)+1)) (S:=bW 3 (Int.toNat ((gI g.2 ↑e).1)+1)) (3,Int.toNat ((gI g.2 ↑e).1)+1) rfl d4 aW (by decide) rfl rfl rfl r469 o480.flat (by decide) (by exact ct (hrw _) (by omega)) ?_
     intro g482 w483 v484 ch485 o486
     have o487:=o15.rowchg ch485
     clear o15 cel468 r469
     have hs489:=hs481.seq (ch485.lr rfl)
     refine⟨hs489.same,?_⟩
     refine aE 23 rfl (by kernel_rfl) rfl ?_
     obtain⟨us490,hl491,r492⟩:=o487.vc
     try simp only[List.length_set,List.length_append,List.length_cons,List.length_nil] at hl491
     refine aI (v:=Value.pointer (some (bb v13 1 (Int.toNat ((gI g.2 ↑e).1))))) (af (α:=Vc) (xs:=us490) (v:=v13) (i:=(gI g.2 ↑e).1) e8 rfl rfl r492 rfl (by omega) (by omega)) ?_
     refine⟨hs489.same,?_⟩
     refine aE 24 rfl (by kernel_rfl) rfl (bf (r:=(gI g.2 ↑e).1) aX rfl rfl o487 o486 (by omega) (by omega) ?_)
     intro w496 ch497 o498
     clear o487 o486
     have hs499:=hs489.seq (ch497.l rfl)
     refine⟨hs499.same,?_⟩
     refine bI (by kernel_rfl) ?_
     have C500:=cg [3] (ch465.n.seq (hb471.n.seq (hb474.n.seq (ch479.n.seq ((ch485.lr rfl).seq (ch497.l rfl))))))
     replace Rg:=Rg.cn ch465
     replace Rp:=Rp.cn ch465
     replace r_p_v1:=r_p_v1.cn ch465
     replace bx10:=bx10.cn ch465
     replace r31:=r31.cn ch465
     exact mid (g482) _ _ ⟨bH.ca C500,zs3,zs5,zs8,zs9,zs18,zs19,zs20,zs32,zs33,(Rg.ca hs499),(Rp.ca hs499),(r_p_v1.ca hs499),(bx10.ca hs499),(r31.ca hs499),o498⟩
    ·
     refine aP (v:=Value.float .f64 (bk (gI (gI p.2 ↑e) 0) (gI (gI p.2 ↑e) 1))) (aG (vals:=[vg [vi ((gI (gI p.2 ↑e) 0).1),vi ((gI (gI p.2 ↑e) 0).2)],vg [vi ((gI (gI p.2 ↑e) 1).1),vi ((gI (gI p.2 ↑e) 1).2)]]) Try.func47 dp dj rfl) (cm w466 (gI (gI p.2 ↑e) 0) (gI (gI p.2 ↑e) 1) (by exact hl3.2 _ (bl (by omega) (by omega))) (by exact hl3.2 _ (bl (by omega) (by omega)))) ?_
     intro w501 hb502
     replace hb502:=am hb502 g81
     have hs503:bh (inl [3]) _ _ _ _:=hb502.n
     refine⟨hs503.same,?_⟩
     refine bJ 5 [19] (by kernel_rfl) ⟨bL 5 rfl (by kernel_rfl) rfl ?_,bL 19 rfl (by kernel_rfl) rfl ?_,trivial⟩
     ·
      replace o15:=o15.cn hb502
      obtain⟨v504,cel505,r506⟩:=bG (r:=(gI g.2 ↑e).1) o15 (by omega) (by omega)
      refine aI (v:=v504) (aZ aX rfl cel505) ?_
      refine⟨hs503.same,?_⟩
      refine aE 19 rfl (by kernel_rfl) rfl (aP (v:=Value.float .f64 (az (bk (gI (gI p.2 ↑e) 0) (gI (gI p.2 ↑e) 1)))) (aG (vals:=[Value.float .f64 (bk (gI (gI p.2 ↑e) 0) (gI (gI p.2 ↑e) 1))]) Try.func46 c9 c8 rfl) (c7 w501 (bk (gI (gI p.2 ↑e) 0) (gI (gI p.2 ↑e) 1)) (by exact cq _ _)) ?_)
      intro w507 hb508
      replace hb508:=am hb508 g81
      have hs509:=hs503.seq (hb508.n)
      refine⟨hs509.same,?_⟩
      refine ht (v:=vg [vi (((gI (gI p.2 ↑e) 1).1)-((gI (gI p.2 ↑e) 0).1)),vi (((gI (gI p.2 ↑e) 1).2)-((gI (gI p.2 ↑e) 0).2)),Value.float .f64 (az (bk (gI (gI p.2 ↑e) 0) (gI (gI p.2 ↑e) 1)))]) 20 rfl hs509.same (λw' hw'=>bB (vs:=[(0,vi (((gI (gI p.2 ↑e) 1).1)-((gI (gI p.2 ↑e) 0).1))),(1,vi (((gI (gI p.2 ↑e) 1).2)-((gI (gI p.2 ↑e) 0).2))),(2,Value.float .f64 (az (bk (gI (gI p.2 ↑e) 0) (gI (gI p.2 ↑e) 1))))]) rfl (by kernel_rfl)) (aE 21 rfl (by kernel_rfl) rfl ?_)
      refine aH (α:=(Int)×(Int)×(Nat)) g81 (is 7) (is 7) (7,0) rfl ([(((gI (gI p.2 ↑e) 1).1)-((gI (gI p.2 ↑e) 0).1),((gI (gI p.2 ↑e) 1).2)-((gI (gI p.2 ↑e) 0).2),az (bk (gI (gI p.2 ↑e) 0) (gI (gI p.2 ↑e) 1)))]:List ((Int)×(Int)×(Nat))) d4 aW (by decide) (by decide) (vs:=[(0,vg [vi (((gI (gI p.2 ↑e) 1).1)-((gI (gI p.2 ↑e) 0).1)),vi (((gI (gI p.2 ↑e) 1).2)-((gI (gI p.2 ↑e) 0).2)),Value.float .f64 (az (bk (gI (gI p.2 ↑e) 0) (gI (gI p.2 ↑e) 1)))])]) rfl rfl (.cons rfl .nil) ?_
      intro g510 w511 v512 ch513 o514
      have hs515:=hs509.seq (ch513.n)
      refine⟨hs515.same,?_⟩
      refine aE 22 rfl (by kernel_rfl) rfl ?_
      replace o15:=(o15.cn hb508).cn ch513
      replace r506:=(r506.cn hb508).cn ch513
      refine bj (α:=(Int)×(Int)×(Nat)) (xs:=(gI L ((gI g.2 ↑e).1))) (ys:=([(((gI (gI p.2 ↑e) 1).1)-((gI (gI p.2 ↑e) 0).1),((gI (gI p.2 ↑e) 1).2)-((gI (gI p.2 ↑e) 0).2),az (bk (gI (gI p.2 ↑e) 0) (gI (gI p.2 ↑e) 1)))]:List ((Int)×(Int)×(Nat)))) g510 (J:=bW 3 (Int.toNat ((gI g.2 ↑e).1)+1)) (S:=bW 3 (Int.toNat ((gI g.2 ↑e).1)+1)) (3,Int.toNat ((gI g.2 ↑e).1)+1) rfl d4 aW (by decide) rfl rfl rfl r506 o514.flat (by decide) (by exact ct (hrw _) (by omega)) ?_
      intro g516 w517 v518 ch519 o520
      have o521:=o15.rowchg ch519
      clear o15 cel505 r506
      have hs522:=hs515.seq (ch519.lr rfl)
      refine⟨hs522.same,?_⟩
      refine aE 23 rfl (by kernel_rfl) rfl ?_
      obtain⟨us523,hl524,r525⟩:=o521.vc
      try simp only[List.length_set,List.length_append,List.length_cons,List.length_nil] at hl524
      refine aI (v:=Value.pointer (some (bb v13 1 (Int.toNat ((gI g.2 ↑e).1))))) (af (α:=Vc) (xs:=us523) (v:=v13) (i:=(gI g.2 ↑e).1) e8 rfl rfl r525 rfl (by omega) (by omega)) ?_
      refine⟨hs522.same,?_⟩
      refine aE 24 rfl (by kernel_rfl) rfl (bf (r:=(gI g.2 ↑e).1) aX rfl rfl o521 o520 (by omega) (by omega) ?_)
      intro w529 ch530 o531
      clear o521 o520
      have hs532:=hs522.seq (ch530.l rfl)
      refine⟨hs532.same,?_⟩
      refine bI (by kernel_rfl) ?_
      have C533:=cg [3] (ch465.n.seq (hb502.n.seq (hb508.n.seq (ch513.n.seq ((ch519.lr rfl).seq (ch530.l rfl))))))
      replace Rg:=Rg.cn ch465
      replace Rp:=Rp.cn ch465
      replace r_p_v1:=r_p_v1.cn ch465
      replace bx10:=bx10.cn ch465
      replace r31:=r31.cn ch465
      exact mid (g516) _ _ ⟨bH.ca C533,zs3,zs5,zs8,zs9,zs18,zs19,zs20,zs32,zs33,(Rg.ca hs532),(Rp.ca hs532),(r_p_v1.ca hs532),(bx10.ca hs532),(r31.ca hs532),o531⟩
     ·
      refine aP (v:=Value.float .f64 (az (bk (gI (gI p.2 ↑e) 0) (gI (gI p.2 ↑e) 1)))) (aG (vals:=[Value.float .f64 (bk (gI (gI p.2 ↑e) 0) (gI (gI p.2 ↑e) 1))]) Try.func46 c9 c8 rfl) (c7 w501 (bk (gI (gI p.2 ↑e) 0) (gI (gI p.2 ↑e) 1)) (by exact cq _ _)) ?_
      intro w534 hb535
      replace hb535:=am hb535 g81
      have hs536:=hs503.seq (hb535.n)
      refine⟨hs536.same,?_⟩
      refine ht (v:=vg [vi (((gI (gI p.2 ↑e) 1).1)-((gI (gI p.2 ↑e) 0).1)),vi (((gI (gI p.2 ↑e) 1).2)-((gI (gI p.2 ↑e) 0).2)),Value.float .f64 (az (bk (gI (gI p.2 ↑e) 0) (gI (gI p.2 ↑e) 1)))]) 20 rfl hs536.same (λw' hw'=>bB (vs:=[(0,vi (((gI (gI p.2 ↑e) 1).1)-((gI (gI p.2 ↑e) 0).1))),(1,vi (((gI (gI p.2 ↑e) 1).2)-((gI (gI p.2 ↑e) 0).2))),(2,Value.float .f64 (az (bk (gI (gI p.2 ↑e) 0) (gI (gI p.2 ↑e) 1))))]) rfl (by kernel_rfl)) ?_
      refine bJ 5 [21] (by kernel_rfl) ⟨bL 5 rfl (by kernel_rfl) rfl ?_,bL 21 rfl (by kernel_rfl) rfl ?_,trivial⟩
      ·
       replace o15:=(o15.cn hb502).cn hb535
       obtain⟨v537,cel538,r539⟩:=bG (r:=(gI g.2 ↑e).1) o15 (by omega) (by omega)
       refine aI (v:=v537) (aZ aX rfl cel538) ?_
       refine⟨hs536.same,?_⟩
       refine aE 21 rfl (by kernel_rfl) rfl (aH (α:=(Int)×(Int)×(Nat)) g81 (is 7) (is 7) (7,0) rfl ([(((gI (gI p.2 ↑e) 1).1)-((gI (gI p.2 ↑e) 0).1),((gI (gI p.2 ↑e) 1).2)-((gI (gI p.2 ↑e) 0).2),az (bk (gI (gI p.2 ↑e) 0) (gI (gI p.2 ↑e) 1)))]:List ((Int)×(Int)×(Nat))) d4 aW (by decide) (by decide) (vs:=[(0,vg [vi (((gI (gI p.2 ↑e) 1).1)-((gI (gI p.2 ↑e) 0).1)),vi (((gI (gI p.2 ↑e) 1).2)-((gI (gI p.2 ↑e) 0).2)),Value.float .f64 (az (bk (gI (gI p.2 ↑e) 0) (gI (gI p.2 ↑e) 1)))])]) rfl rfl (.cons rfl .nil) ?_)
       intro g540 w541 v542 ch543 o544
       have hs545:=hs536.seq (ch543.n)
       refine⟨hs545.same,?_⟩
       refine aE 22 rfl (by kernel_rfl) rfl ?_
       replace o15:=o15.cn ch543
       replace r539:=r539.cn ch543
       refine bj (α:=(Int)×(Int)×(Nat)) (xs:=(gI L ((gI g.2 ↑e).1))) (ys:=([(((gI (gI p.2 ↑e) 1).1)-((gI (gI p.2 ↑e) 0).1),((gI (gI p.2 ↑e) 1).2)-((gI (gI p.2 ↑e) 0).2),az (bk (gI (gI p.2 ↑e) 0) (gI (gI p.2 ↑e) 1)))]:List ((Int)×(Int)×(Nat)))) g540 (J:=bW 3 (Int.toNat ((gI g.2 ↑e).1)+1)) (S:=bW 3 (Int.toNat ((gI g.2 ↑e).1)+1)) (3,Int.toNat ((gI g.2 ↑e).1)+1) rfl d4 aW (by decide) rfl rfl rfl r539 o544.flat (by decide) (by exact ct (hrw _) (by omega)) ?_
       intro g546 w547 v548 ch549 o550
       have o551:=o15.rowchg ch549
       clear o15 cel538 r539
       have hs552:=hs545.seq (ch549.lr rfl)
       refine⟨hs552.same,?_⟩
       refine aE 23 rfl (by kernel_rfl) rfl ?_
       obtain⟨us553,hl554,r555⟩:=o551.vc
       try simp only[List.length_set,List.length_append,List.length_cons,List.length_nil] at hl554
       refine aI (v:=Value.pointer (some (bb v13 1 (Int.toNat ((gI g.2 ↑e).1))))) (af (α:=Vc) (xs:=us553) (v:=v13) (i:=(gI g.2 ↑e).1) e8 rfl rfl r555 rfl (by omega) (by omega)) ?_
       refine⟨hs552.same,?_⟩
       refine aE 24 rfl (by kernel_rfl) rfl (bf (r:=(gI g.2 ↑e).1) aX rfl rfl o551 o550 (by omega) (by omega) ?_)
       intro w559 ch560 o561
       clear o551 o550
       have hs562:=hs552.seq (ch560.l rfl)
       refine⟨hs562.same,?_⟩
       refine bI (by kernel_rfl) ?_
       have C563:=cg [3] (ch465.n.seq (hb502.n.seq (hb535.n.seq (ch543.n.seq ((ch549.lr rfl).seq (ch560.l rfl))))))
       replace Rg:=Rg.cn ch465
       replace Rp:=Rp.cn ch465
       replace r_p_v1:=r_p_v1.cn ch465
       replace bx10:=bx10.cn ch465
       replace r31:=r31.cn ch465
       exact mid (g546) _ _ ⟨bH.ca C563,zs3,zs5,zs8,zs9,zs18,zs19,zs20,zs32,zs33,(Rg.ca hs562),(Rp.ca hs562),(r_p_v1.ca hs562),(bx10.ca hs562),(r31.ca hs562),o561⟩
      ·
       refine aH (α:=(Int)×(Int)×(Nat)) g81 (is 7) (is 7) (7,0) rfl ([(((gI (gI p.2 ↑e) 1).1)-((gI (gI p.2 ↑e) 0).1),((gI (gI p.2 ↑e) 1).2)-((gI (gI p.2 ↑e) 0).2),az (bk (gI (gI p.2 ↑e) 0) (gI (gI p.2 ↑e) 1)))]:List ((Int)×(Int)×(Nat))) d4 aW (by decide) (by decide) (vs:=[(0,vg [vi (((gI (gI p.2 ↑e) 1).1)-((gI (gI p.2 ↑e) 0).1)),vi (((gI (gI p.2 ↑e) 1).2)-((gI (gI p.2 ↑e) 0).2)),Value.float .f64 (az (bk (gI (gI p.2 ↑e) 0) (gI (gI p.2 ↑e) 1)))])]) rfl rfl (.cons rfl .nil) ?_
       intro g564 w565 v566 ch567 o568
       have hs569:=hs536.seq (ch567.n)
       refine⟨hs569.same,?_⟩
       refine aE 5 rfl (by kernel_rfl) rfl ?_
       have C570:=cg [] (hb502.n.seq (hb535.n.seq ch567.n))
       replace o15:=o15.ca C570
       obtain⟨v571,cel572,r573⟩:=bG (r:=(gI g.2 ↑e).1) o15 (by omega) (by omega)
       refine aI (v:=v571) (aZ aX rfl cel572) ?_
       refine⟨hs569.same,?_⟩
       refine aE 22 rfl (by kernel_rfl) rfl (bj (α:=(Int)×(Int)×(Nat)) (xs:=(gI L ((gI g.2 ↑e).1))) (ys:=([(((gI (gI p.2 ↑e) 1).1)-((gI (gI p.2 ↑e) 0).1),((gI (gI p.2 ↑e) 1).2)-((gI (gI p.2 ↑e) 0).2),az (bk (gI (gI p.2 ↑e) 0) (gI (gI p.2 ↑e) 1)))]:List ((Int)×(Int)×(Nat)))) g564 (J:=bW 3 (Int.toNat ((gI g.2 ↑e).1)+1)) (S:=bW 3 (Int.toNat ((gI g.2 ↑e).1)+1)) (3,Int.toNat ((gI g.2 ↑e).1)+1) rfl d4 aW (by decide) rfl rfl rfl r573 o568.flat (by decide) (by exact ct (hrw _) (by omega)) ?_)
       intro g574 w575 v576 ch577 o578
       have o579:=o15.rowchg ch577
       clear o15 cel572 r573
       have hs580:=hs569.seq (ch577.lr rfl)
       refine⟨hs580.same,?_⟩
       refine aE 23 rfl (by kernel_rfl) rfl ?_
       obtain⟨us581,hl582,r583⟩:=o579.vc
       try simp only[List.length_set,List.length_append,List.length_cons,List.length_nil] at hl582
       refine aI (v:=Value.pointer (some (bb v13 1 (Int.toNat ((gI g.2 ↑e).1))))) (af (α:=Vc) (xs:=us581) (v:=v13) (i:=(gI g.2 ↑e).1) e8 rfl rfl r583 rfl (by omega) (by omega)) ?_
       refine⟨hs580.same,?_⟩
       refine aE 24 rfl (by kernel_rfl) rfl (bf (r:=(gI g.2 ↑e).1) aX rfl rfl o579 o578 (by omega) (by omega) ?_)
       intro w587 ch588 o589
       clear o579 o578
       have hs590:=hs580.seq (ch588.l rfl)
       refine⟨hs590.same,?_⟩
       refine bI (by kernel_rfl) ?_
       have C591:=cg [3] (ch465.n.seq (hb502.n.seq (hb535.n.seq (ch567.n.seq ((ch577.lr rfl).seq (ch588.l rfl))))))
       replace Rg:=Rg.cn ch465
       replace Rp:=Rp.cn ch465
       replace r_p_v1:=r_p_v1.cn ch465
       replace bx10:=bx10.cn ch465
       replace r31:=r31.cn ch465
       exact mid (g574) _ _ ⟨bH.ca C591,zs3,zs5,zs8,zs9,zs18,zs19,zs20,zs32,zs33,(Rg.ca hs590),(Rp.ca hs590),(r_p_v1.ca hs590),(bx10.ca hs590),(r31.ca hs590),o589⟩
   ·
    refine aP (v:=Value.float .f64 (bk (gI (gI p.2 ↑e) 0) (gI (gI p.2 ↑e) 1))) (aG (vals:=[vg [vi ((gI (gI p.2 ↑e) 0).1),vi ((gI (gI p.2 ↑e) 0).2)],vg [vi ((gI (gI p.2 ↑e) 1).1),vi ((gI (gI p.2 ↑e) 1).2)]]) Try.func47 dp dj rfl) (cm w466 (gI (gI p.2 ↑e) 0) (gI (gI p.2 ↑e) 1) (by exact hl3.2 _ (bl (by omega) (by omega))) (by exact hl3.2 _ (bl (by omega) (by omega)))) ?_
    intro w592 hb593
    replace hb593:=am hb593 g81
    have hs594:bh (inl [3]) _ _ _ _:=hb593.n
    refine⟨hs594.same,?_⟩
    refine bJ 4 [19] (by kernel_rfl) ⟨bL 4 rfl (by kernel_rfl) rfl ?_,bL 19 rfl (by kernel_rfl) rfl ?_,trivial⟩
    ·
     replace o15:=(o15.cn ch465).cn hb593
     refine aI (v:=Value.pointer (some (bb v13 1 (Int.toNat ((gI g.2 ↑e).1))))) (af (α:=List ((Int)×(Int)×(Nat))) (xs:=L) (v:=v13) (i:=(gI g.2 ↑e).1) e8 rfl rfl o15.sl rfl (by omega) (by omega)) ?_
     refine⟨hs594.same,?_⟩
     refine bJ 5 [19] (by kernel_rfl) ⟨bL 5 rfl (by kernel_rfl) rfl ?_,bL 19 rfl (by kernel_rfl) rfl ?_,trivial⟩
     ·
      obtain⟨v595,cel596,r597⟩:=bG (r:=(gI g.2 ↑e).1) o15 (by omega) (by omega)
      refine aI (v:=v595) (aZ aX rfl cel596) ?_
      refine⟨hs594.same,?_⟩
      refine aE 19 rfl (by kernel_rfl) rfl (aP (v:=Value.float .f64 (az (bk (gI (gI p.2 ↑e) 0) (gI (gI p.2 ↑e) 1)))) (aG (vals:=[Value.float .f64 (bk (gI (gI p.2 ↑e) 0) (gI (gI p.2 ↑e) 1))]) Try.func46 c9 c8 rfl) (c7 w592 (bk (gI (gI p.2 ↑e) 0) (gI (gI p.2 ↑e) 1)) (by exact cq _ _)) ?_)
      intro w598 hb599
      replace hb599:=am hb599 g81
      have hs600:=hs594.seq (hb599.n)
      refine⟨hs600.same,?_⟩
      refine ht (v:=vg [vi (((gI (gI p.2 ↑e) 1).1)-((gI (gI p.2 ↑e) 0).1)),vi (((gI (gI p.2 ↑e) 1).2)-((gI (gI p.2 ↑e) 0).2)),Value.float .f64 (az (bk (gI (gI p.2 ↑e) 0) (gI (gI p.2 ↑e) 1)))]) 20 rfl hs600.same (λw' hw'=>bB (vs:=[(0,vi (((gI (gI p.2 ↑e) 1).1)-((gI (gI p.2 ↑e) 0).1))),(1,vi (((gI (gI p.2 ↑e) 1).2)-((gI (gI p.2 ↑e) 0).2))),(2,Value.float .f64 (az (bk (gI (gI p.2 ↑e) 0) (gI (gI p.2 ↑e) 1))))]) rfl (by kernel_rfl)) (aE 21 rfl (by kernel_rfl) rfl ?_)
      refine aH (α:=(Int)×(Int)×(Nat)) g81 (is 7) (is 7) (7,0) rfl ([(((gI (gI p.2 ↑e) 1).1)-((gI (gI p.2 ↑e) 0).1),((gI (gI p.2 ↑e) 1).2)-((gI (gI p.2 ↑e) 0).2),az (bk (gI (gI p.2 ↑e) 0) (gI (gI p.2 ↑e) 1)))]:List ((Int)×(Int)×(Nat))) d4 aW (by decide) (by decide) (vs:=[(0,vg [vi (((gI (gI p.2 ↑e) 1).1)-((gI (gI p.2 ↑e) 0).1)),vi (((gI (gI p.2 ↑e) 1).2)-((gI (gI p.2 ↑e) 0).2)),Value.float .f64 (az (bk (gI (gI p.2 ↑e) 0) (gI (gI p.2 ↑e) 1)))])]) rfl rfl (.cons rfl .nil) ?_
      intro g601 w602 v603 ch604 o605
      have hs606:=hs600.seq (ch604.n)
      refine⟨hs606.same,?_⟩
      refine aE 22 rfl (by kernel_rfl) rfl ?_
      replace o15:=(o15.cn hb599).cn ch604
      replace r597:=(r597.cn hb599).cn ch604
      refine bj (α:=(Int)×(Int)×(Nat)) (xs:=(gI L ((gI g.2 ↑e).1))) (ys:=([(((gI (gI p.2 ↑e) 1).1)-((gI (gI p.2 ↑e) 0).1),((gI (gI p.2 ↑e) 1).2)-((gI (gI p.2 ↑e) 0).2),az (bk (gI (gI p.2 ↑e) 0) (gI (gI p.2 ↑e) 1)))]:List ((Int)×(Int)×(Nat)))) g601 (J:=bW 3 (Int.toNat ((gI g.2 ↑e).1)+1)) (S:=bW 3 (Int.toNat ((gI g.2 ↑e).1)+1)) (3,Int.toNat ((gI g.2 ↑e).1)+1) rfl d4 aW (by decide) rfl rfl rfl r597 o605.flat (by decide) (by exact ct (hrw _) (by omega)) ?_
      intro g607 w608 v609 ch610 o611
      have o612:=o15.rowchg ch610
      clear o15 cel596 r597
      have hs613:=hs606.seq (ch610.lr rfl)
      refine⟨hs613.same,?_⟩
      refine aE 23 rfl (by kernel_rfl) rfl ?_
      obtain⟨us614,hl615,r616⟩:=o612.vc
      try simp only[List.length_set,List.length_append,List.length_cons,List.length_nil] at hl615
      refine aI (v:=Value.pointer (some (bb v13 1 (Int.toNat ((gI g.2 ↑e).1))))) (af (α:=Vc) (xs:=us614) (v:=v13) (i:=(gI g.2 ↑e).1) e8 rfl rfl r616 rfl (by omega) (by omega)) ?_
      refine⟨hs613.same,?_⟩
      refine aE 24 rfl (by kernel_rfl) rfl (bf (r:=(gI g.2 ↑e).1) aX rfl rfl o612 o611 (by omega) (by omega) ?_)
      intro w620 ch621 o622
      clear o612 o611
      have hs623:=hs613.seq (ch621.l rfl)
      refine⟨hs623.same,?_⟩
      refine bI (by kernel_rfl) ?_
      have C624:=cg [3] (ch465.n.seq (hb593.n.seq (hb599.n.seq (ch604.n.seq ((ch610.lr rfl).seq (ch621.l rfl))))))
      replace Rg:=Rg.cn ch465
      replace Rp:=Rp.cn ch465
      replace r_p_v1:=r_p_v1.cn ch465
      replace bx10:=bx10.cn ch465
      replace r31:=r31.cn ch465
      exact mid (g607) _ _ ⟨bH.ca C624,zs3,zs5,zs8,zs9,zs18,zs19,zs20,zs32,zs33,(Rg.ca hs623),(Rp.ca hs623),(r_p_v1.ca hs623),(bx10.ca hs623),(r31.ca hs623),o622⟩
     ·
      refine aP (v:=Value.float .f64 (az (bk (gI (gI p.2 ↑e) 0) (gI (gI p.2 ↑e) 1)))) (aG (vals:=[Value.float .f64 (bk (gI (gI p.2 ↑e) 0) (gI (gI p.2 ↑e) 1))]) Try.func46 c9 c8 rfl) (c7 w592 (bk (gI (gI p.2 ↑e) 0) (gI (gI p.2 ↑e) 1)) (by exact cq _ _)) ?_
      intro w625 hb626
      replace hb626:=am hb626 g81
      have hs627:=hs594.seq (hb626.n)
      refine⟨hs627.same,?_⟩
      refine ht (v:=vg [vi (((gI (gI p.2 ↑e) 1).1)-((gI (gI p.2 ↑e) 0).1)),vi (((gI (gI p.2 ↑e) 1).2)-((gI (gI p.2 ↑e) 0).2)),Value.float .f64 (az (bk (gI (gI p.2 ↑e) 0) (gI (gI p.2 ↑e) 1)))]) 20 rfl hs627.same (λw' hw'=>bB (vs:=[(0,vi (((gI (gI p.2 ↑e) 1).1)-((gI (gI p.2 ↑e) 0).1))),(1,vi (((gI (gI p.2 ↑e) 1).2)-((gI (gI p.2 ↑e) 0).2))),(2,Value.float .f64 (az (bk (gI (gI p.2 ↑e) 0) (gI (gI p.2 ↑e) 1))))]) rfl (by kernel_rfl)) ?_
      refine bJ 5 [21] (by kernel_rfl) ⟨bL 5 rfl (by kernel_rfl) rfl ?_,bL 21 rfl (by kernel_rfl) rfl ?_,trivial⟩
      ·
       replace o15:=o15.cn hb626
       obtain⟨v628,cel629,r630⟩:=bG (r:=(gI g.2 ↑e).1) o15 (by omega) (by omega)
       refine aI (v:=v628) (aZ aX rfl cel629) ?_
       refine⟨hs627.same,?_⟩
       refine aE 21 rfl (by kernel_rfl) rfl (aH (α:=(Int)×(Int)×(Nat)) g81 (is 7) (is 7) (7,0) rfl ([(((gI (gI p.2 ↑e) 1).1)-((gI (gI p.2 ↑e) 0).1),((gI (gI p.2 ↑e) 1).2)-((gI (gI p.2 ↑e) 0).2),az (bk (gI (gI p.2 ↑e) 0) (gI (gI p.2 ↑e) 1)))]:List ((Int)×(Int)×(Nat))) d4 aW (by decide) (by decide) (vs:=[(0,vg [vi (((gI (gI p.2 ↑e) 1).1)-((gI (gI p.2 ↑e) 0).1)),vi (((gI (gI p.2 ↑e) 1).2)-((gI (gI p.2 ↑e) 0).2)),Value.float .f64 (az (bk (gI (gI p.2 ↑e) 0) (gI (gI p.2 ↑e) 1)))])]) rfl rfl (.cons rfl .nil) ?_)
       intro g631 w632 v633 ch634 o635
       have hs636:=hs627.seq (ch634.n)
       refine⟨hs636.same,?_⟩
       refine aE 22 rfl (by kernel_rfl) rfl ?_
       replace o15:=o15.cn ch634
       replace r630:=r630.cn ch634
       refine bj (α:=(Int)×(Int)×(Nat)) (xs:=(gI L ((gI g.2 ↑e).1))) (ys:=([(((gI (gI p.2 ↑e) 1).1)-((gI (gI p.2 ↑e) 0).1),((gI (gI p.2 ↑e) 1).2)-((gI (gI p.2 ↑e) 0).2),az (bk (gI (gI p.2 ↑e) 0) (gI (gI p.2 ↑e) 1)))]:List ((Int)×(Int)×(Nat)))) g631 (J:=bW 3 (Int.toNat ((gI g.2 ↑e).1)+1)) (S:=bW 3 (Int.toNat ((gI g.2 ↑e).1)+1)) (3,Int.toNat ((gI g.2 ↑e).1)+1) rfl d4 aW (by decide) rfl rfl rfl r630 o635.flat (by decide) (by exact ct (hrw _) (by omega)) ?_
       intro g637 w638 v639 ch640 o641
       have o642:=o15.rowchg ch640
       clear o15 cel629 r630
       have hs643:=hs636.seq (ch640.lr rfl)
       refine⟨hs643.same,?_⟩
       refine aE 23 rfl (by kernel_rfl) rfl ?_
       obtain⟨us644,hl645,r646⟩:=o642.vc
       try simp only[List.length_set,List.length_append,List.length_cons,List.length_nil] at hl645
       refine aI (v:=Value.pointer (some (bb v13 1 (Int.toNat ((gI g.2 ↑e).1))))) (af (α:=Vc) (xs:=us644) (v:=v13) (i:=(gI g.2 ↑e).1) e8 rfl rfl r646 rfl (by omega) (by omega)) ?_
       refine⟨hs643.same,?_⟩
       refine aE 24 rfl (by kernel_rfl) rfl (bf (r:=(gI g.2 ↑e).1) aX rfl rfl o642 o641 (by omega) (by omega) ?_)
       intro w650 ch651 o652
       clear o642 o641
       have hs653:=hs643.seq (ch651.l rfl)
       refine⟨hs653.same,?_⟩
       refine bI (by kernel_rfl) ?_
       have C654:=cg [3] (ch465.n.seq (hb593.n.seq (hb626.n.seq (ch634.n.seq ((ch640.lr rfl).seq (ch651.l rfl))))))
       replace Rg:=Rg.cn ch465
       replace Rp:=Rp.cn ch465
       replace r_p_v1:=r_p_v1.cn ch465
       replace bx10:=bx10.cn ch465
       replace r31:=r31.cn ch465
       exact mid (g637) _ _ ⟨bH.ca C654,zs3,zs5,zs8,zs9,zs18,zs19,zs20,zs32,zs33,(Rg.ca hs653),(Rp.ca hs653),(r_p_v1.ca hs653),(bx10.ca hs653),(r31.ca hs653),o652⟩
      ·
       refine aH (α:=(Int)×(Int)×(Nat)) g81 (is 7) (is 7) (7,0) rfl ([(((gI (gI p.2 ↑e) 1).1)-((gI (gI p.2 ↑e) 0).1),((gI (gI p.2 ↑e) 1).2)-((gI (gI p.2 ↑e) 0).2),az (bk (gI (gI p.2 ↑e) 0) (gI (gI p.2 ↑e) 1)))]:List ((Int)×(Int)×(Nat))) d4 aW (by decide) (by decide) (vs:=[(0,vg [vi (((gI (gI p.2 ↑e) 1).1)-((gI (gI p.2 ↑e) 0).1)),vi (((gI (gI p.2 ↑e) 1).2)-((gI (gI p.2 ↑e) 0).2)),Value.float .f64 (az (bk (gI (gI p.2 ↑e) 0) (gI (gI p.2 ↑e) 1)))])]) rfl rfl (.cons rfl .nil) ?_
       intro g655 w656 v657 ch658 o659
       have hs660:=hs627.seq (ch658.n)
       refine⟨hs660.same,?_⟩
       refine aE 5 rfl (by kernel_rfl) rfl ?_
       replace o15:=(o15.cn hb626).cn ch658
       obtain⟨v661,cel662,r663⟩:=bG (r:=(gI g.2 ↑e).1) o15 (by omega) (by omega)
       refine aI (v:=v661) (aZ aX rfl cel662) ?_
       refine⟨hs660.same,?_⟩
       refine aE 22 rfl (by kernel_rfl) rfl (bj (α:=(Int)×(Int)×(Nat)) (xs:=(gI L ((gI g.2 ↑e).1))) (ys:=([(((gI (gI p.2 ↑e) 1).1)-((gI (gI p.2 ↑e) 0).1),((gI (gI p.2 ↑e) 1).2)-((gI (gI p.2 ↑e) 0).2),az (bk (gI (gI p.2 ↑e) 0) (gI (gI p.2 ↑e) 1)))]:List ((Int)×(Int)×(Nat)))) g655 (J:=bW 3 (Int.toNat ((gI g.2 ↑e).1)+1)) (S:=bW 3 (Int.toNat ((gI g.2 ↑e).1)+1)) (3,Int.toNat ((gI g.2 ↑e).1)+1) rfl d4 aW (by decide) rfl rfl rfl r663 o659.flat (by decide) (by exact ct (hrw _) (by omega)) ?_)
       intro g664 w665 v666 ch667 o668
       have o669:=o15.rowchg ch667
       clear o15 cel662 r663
       have hs670:=hs660.seq (ch667.lr rfl)
       refine⟨hs670.same,?_⟩
       refine aE 23 rfl (by kernel_rfl) rfl ?_
       obtain⟨us671,hl672,r673⟩:=o669.vc
       try simp only[List.length_set,List.length_append,List.length_cons,List.length_nil] at hl672
       refine aI (v:=Value.pointer (some (bb v13 1 (Int.toNat ((gI g.2 ↑e).1))))) (af (α:=Vc) (xs:=us671) (v:=v13) (i:=(gI g.2 ↑e).1) e8 rfl rfl r673 rfl (by omega) (by omega)) ?_
       refine⟨hs670.same,?_⟩
       refine aE 24 rfl (by kernel_rfl) rfl (bf (r:=(gI g.2 ↑e).1) aX rfl rfl o669 o668 (by omega) (by omega) ?_)
       intro w677 ch678 o679
       clear o669 o668
       have hs680:=hs670.seq (ch678.l rfl)
       refine⟨hs680.same,?_⟩
       refine bI (by kernel_rfl) ?_
       have C681:=cg [3] (ch465.n.seq (hb593.n.seq (hb626.n.seq (ch658.n.seq ((ch667.lr rfl).seq (ch678.l rfl))))))
       replace Rg:=Rg.cn ch465
       replace Rp:=Rp.cn ch465
       replace r_p_v1:=r_p_v1.cn ch465
       replace bx10:=bx10.cn ch465
       replace r31:=r31.cn ch465
       exact mid (g664) _ _ ⟨bH.ca C681,zs3,zs5,zs8,zs9,zs18,zs19,zs20,zs32,zs33,(Rg.ca hs680),(Rp.ca hs680),(r_p_v1.ca hs680),(bx10.ca hs680),(r31.ca hs680),o679⟩
    ·
     refine aP (v:=Value.float .f64 (az (bk (gI (gI p.2 ↑e) 0) (gI (gI p.2 ↑e) 1)))) (aG (vals:=[Value.float .f64 (bk (gI (gI p.2 ↑e) 0) (gI (gI p.2 ↑e) 1))]) Try.func46 c9 c8 rfl) (c7 w592 (bk (gI (gI p.2 ↑e) 0) (gI (gI p.2 ↑e) 1)) (by exact cq _ _)) ?_
     intro w682 hb683
     replace hb683:=am hb683 g81
     have hs684:=hs594.seq (hb683.n)
     refine⟨hs684.same,?_⟩
     refine ht (v:=vg [vi (((gI (gI p.2 ↑e) 1).1)-((gI (gI p.2 ↑e) 0).1)),vi (((gI (gI p.2 ↑e) 1).2)-((gI (gI p.2 ↑e) 0).2)),Value.float .f64 (az (bk (gI (gI p.2 ↑e) 0) (gI (gI p.2 ↑e) 1)))]) 20 rfl hs684.same (λw' hw'=>bB (vs:=[(0,vi (((gI (gI p.2 ↑e) 1).1)-((gI (gI p.2 ↑e) 0).1))),(1,vi (((gI (gI p.2 ↑e) 1).2)-((gI (gI p.2 ↑e) 0).2))),(2,Value.float .f64 (az (bk (gI (gI p.2 ↑e) 0) (gI (gI p.2 ↑e) 1))))]) rfl (by kernel_rfl)) ?_
     refine bJ 4 [21] (by kernel_rfl) ⟨bL 4 rfl (by kernel_rfl) rfl ?_,bL 21 rfl (by kernel_rfl) rfl ?_,trivial⟩
     ·
      have C685:=cg [] (ch465.n.seq (hb593.n.seq hb683.n))
      replace o15:=o15.ca C685
      refine aI (v:=Value.pointer (some (bb v13 1 (Int.toNat ((gI g.2 ↑e).1))))) (af (α:=List ((Int)×(Int)×(Nat))) (xs:=L) (v:=v13) (i:=(gI g.2 ↑e).1) e8 rfl rfl o15.sl rfl (by omega) (by omega)) ?_
      refine⟨hs684.same,?_⟩
      refine bJ 5 [21] (by kernel_rfl) ⟨bL 5 rfl (by kernel_rfl) rfl ?_,bL 21 rfl (by kernel_rfl) rfl ?_,trivial⟩
      ·
       obtain⟨v686,cel687,r688⟩:=bG (r:=(gI g.2 ↑e).1) o15 (by omega) (by omega)
       refine aI (v:=v686) (aZ aX rfl cel687) ?_
       refine⟨hs684.same,?_⟩
       refine aE 21 rfl (by kernel_rfl) rfl (aH (α:=(Int)×(Int)×(Nat)) g81 (is 7) (is 7) (7,0) rfl ([(((gI (gI p.2 ↑e) 1).1)-((gI (gI p.2 ↑e) 0).1),((gI (gI p.2 ↑e) 1).2)-((gI (gI p.2 ↑e) 0).2),az (bk (gI (gI p.2 ↑e) 0) (gI (gI p.2 ↑e) 1)))]:List ((Int)×(Int)×(Nat))) d4 aW (by decide) (by decide) (vs:=[(0,vg [vi (((gI (gI p.2 ↑e) 1).1)-((gI (gI p.2 ↑e) 0).1)),vi (((gI (gI p.2 ↑e) 1).2)-((gI (gI p.2 ↑e) 0).2)),Value.float .f64 (az (bk (gI (gI p.2 ↑e) 0) (gI (gI p.2 ↑e) 1)))])]) rfl rfl (.cons rfl .nil) ?_)
       intro g689 w690 v691 ch692 o693
       have hs694:=hs684.seq (ch692.n)
       refine⟨hs694.same,?_⟩
       refine aE 22 rfl (by kernel_rfl) rfl ?_
       replace o15:=o15.cn ch692
       replace r688:=r688.cn ch692
       refine bj (α:=(Int)×(Int)×(Nat)) (xs:=(gI L ((gI g.2 ↑e).1))) (ys:=([(((gI (gI p.2 ↑e) 1).1)-((gI (gI p.2 ↑e) 0).1),((gI (gI p.2 ↑e) 1).2)-((gI (gI p.2 ↑e) 0).2),az (bk (gI (gI p.2 ↑e) 0) (gI (gI p.2 ↑e) 1)))]:List ((Int)×(Int)×(Nat)))) g689 (J:=bW 3 (Int.toNat ((gI g.2 ↑e).1)+1)) (S:=bW 3 (Int.toNat ((gI g.2 ↑e).1)+1)) (3,Int.toNat ((gI g.2 ↑e).1)+1) rfl d4 aW (by decide) rfl rfl rfl r688 o693.flat (by decide) (by exact ct (hrw _) (by omega)) ?_
       intro g695 w696 v697 ch698 o699
       have o700:=o15.rowchg ch698
       clear o15 cel687 r688
       have hs701:=hs694.seq (ch698.lr rfl)
       refine⟨hs701.same,?_⟩
       refine aE 23 rfl (by kernel_rfl) rfl ?_
       obtain⟨us702,hl703,r704⟩:=o700.vc
       try simp only[List.length_set,List.length_append,List.length_cons,List.length_nil] at hl703
       refine aI (v:=Value.pointer (some (bb v13 1 (Int.toNat ((gI g.2 ↑e).1))))) (af (α:=Vc) (xs:=us702) (v:=v13) (i:=(gI g.2 ↑e).1) e8 rfl rfl r704 rfl (by omega) (by omega)) ?_
       refine⟨hs701.same,?_⟩
       refine aE 24 rfl (by kernel_rfl) rfl (bf (r:=(gI g.2 ↑e).1) aX rfl rfl o700 o699 (by omega) (by omega) ?_)
       intro w708 ch709 o710
       clear o700 o699
       have hs711:=hs701.seq (ch709.l rfl)
       refine⟨hs711.same,?_⟩
       refine bI (by kernel_rfl) ?_
       have C712:=cg [3] (ch465.n.seq (hb593.n.seq (hb683.n.seq (ch692.n.seq ((ch698.lr rfl).seq (ch709.l rfl))))))
       replace Rg:=Rg.cn ch465
       replace Rp:=Rp.cn ch465
       replace r_p_v1:=r_p_v1.cn ch465
       replace bx10:=bx10.cn ch465
       replace r31:=r31.cn ch465
       exact mid (g695) _ _ ⟨bH.ca C712,zs3,zs5,zs8,zs9,zs18,zs19,zs20,zs32,zs33,(Rg.ca hs711),(Rp.ca hs711),(r_p_v1.ca hs711),(bx10.ca hs711),(r31.ca hs711),o710⟩
      ·
       refine aH (α:=(Int)×(Int)×(Nat)) g81 (is 7) (is 7) (7,0) rfl ([(((gI (gI p.2 ↑e) 1).1)-((gI (gI p.2 ↑e) 0).1),((gI (gI p.2 ↑e) 1).2)-((gI (gI p.2 ↑e) 0).2),az (bk (gI (gI p.2 ↑e) 0) (gI (gI p.2 ↑e) 1)))]:List ((Int)×(Int)×(Nat))) d4 aW (by decide) (by decide) (vs:=[(0,vg [vi (((gI (gI p.2 ↑e) 1).1)-((gI (gI p.2 ↑e) 0).1)),vi (((gI (gI p.2 ↑e) 1).2)-((gI (gI p.2 ↑e) 0).2)),Value.float .f64 (az (bk (gI (gI p.2 ↑e) 0) (gI (gI p.2 ↑e) 1)))])]) rfl rfl (.cons rfl .nil) ?_
       intro g713 w714 v715 ch716 o717
       have hs718:=hs684.seq (ch716.n)
       refine⟨hs718.same,?_⟩
       refine aE 5 rfl (by kernel_rfl) rfl ?_
       replace o15:=o15.cn ch716
       obtain⟨v719,cel720,r721⟩:=bG (r:=(gI g.2 ↑e).1) o15 (by omega) (by omega)
       refine aI (v:=v719) (aZ aX rfl cel720) ?_
       refine⟨hs718.same,?_⟩
       refine aE 22 rfl (by kernel_rfl) rfl (bj (α:=(Int)×(Int)×(Nat)) (xs:=(gI L ((gI g.2 ↑e).1))) (ys:=([(((gI (gI p.2 ↑e) 1).1)-((gI (gI p.2 ↑e) 0).1),((gI (gI p.2 ↑e) 1).2)-((gI (gI p.2 ↑e) 0).2),az (bk (gI (gI p.2 ↑e) 0) (gI (gI p.2 ↑e) 1)))]:List ((Int)×(Int)×(Nat)))) g713 (J:=bW 3 (Int.toNat ((gI g.2 ↑e).1)+1)) (S:=bW 3 (Int.toNat ((gI g.2 ↑e).1)+1)) (3,Int.toNat ((gI g.2 ↑e).1)+1) rfl d4 aW (by decide) rfl rfl rfl r721 o717.flat (by decide) (by exact ct (hrw _) (by omega)) ?_)
       intro g722 w723 v724 ch725 o726
       have o727:=o15.rowchg ch725
       clear o15 cel720 r721
       have hs728:=hs718.seq (ch725.lr rfl)
       refine⟨hs728.same,?_⟩
       refine aE 23 rfl (by kernel_rfl) rfl ?_
       obtain⟨us729,hl730,r731⟩:=o727.vc
       try simp only[List.length_set,List.length_append,List.length_cons,List.length_nil] at hl730
       refine aI (v:=Value.pointer (some (bb v13 1 (Int.toNat ((gI g.2 ↑e).1))))) (af (α:=Vc) (xs:=us729) (v:=v13) (i:=(gI g.2 ↑e).1) e8 rfl rfl r731 rfl (by omega) (by omega)) ?_
       refine⟨hs728.same,?_⟩
       refine aE 24 rfl (by kernel_rfl) rfl (bf (r:=(gI g.2 ↑e).1) aX rfl rfl o727 o726 (by omega) (by omega) ?_)
       intro w735 ch736 o737
       clear o727 o726
       have hs738:=hs728.seq (ch736.l rfl)
       refine⟨hs738.same,?_⟩
       refine bI (by kernel_rfl) ?_
       have C739:=cg [3] (ch465.n.seq (hb593.n.seq (hb683.n.seq (ch716.n.seq ((ch725.lr rfl).seq (ch736.l rfl))))))
       replace Rg:=Rg.cn ch465
       replace Rp:=Rp.cn ch465
       replace r_p_v1:=r_p_v1.cn ch465
       replace bx10:=bx10.cn ch465
       replace r31:=r31.cn ch465
       exact mid (g722) _ _ ⟨bH.ca C739,zs3,zs5,zs8,zs9,zs18,zs19,zs20,zs32,zs33,(Rg.ca hs738),(Rp.ca hs738),(r_p_v1.ca hs738),(bx10.ca hs738),(r31.ca hs738),o737⟩
     ·
      refine aH (α:=(Int)×(Int)×(Nat)) g81 (is 7) (is 7) (7,0) rfl ([(((gI (gI p.2 ↑e) 1).1)-((gI (gI p.2 ↑e) 0).1),((gI (gI p.2 ↑e) 1).2)-((gI (gI p.2 ↑e) 0).2),az (bk (gI (gI p.2 ↑e) 0) (gI (gI p.2 ↑e) 1)))]:List ((Int)×(Int)×(Nat))) d4 aW (by decide) (by decide) (vs:=[(0,vg [vi (((gI (gI p.2 ↑e) 1).1)-((gI (gI p.2 ↑e) 0).1)),vi (((gI (gI p.2 ↑e) 1).2)-((gI (gI p.2 ↑e) 0).2)),Value.float .f64 (az (bk (gI (gI p.2 ↑e) 0) (gI (gI p.2 ↑e) 1)))])]) rfl rfl (.cons rfl .nil) ?_
      intro g740 w741 v742 ch743 o744
      have hs745:=hs684.seq (ch743.n)
      refine⟨hs745.same,?_⟩
      refine aE 4 rfl (by kernel_rfl) rfl ?_
      have C746:=cg [] (ch465.n.seq (hb593.n.seq (hb683.n.seq ch743.n)))
      replace o15:=o15.ca C746
      refine aI (v:=Value.pointer (some (bb v13 1 (Int.toNat ((gI g.2 ↑e).1))))) (af (α:=List ((Int)×(Int)×(Nat))) (xs:=L) (v:=v13) (i:=(gI g.2 ↑e).1) e8 rfl rfl o15.sl rfl (by omega) (by omega)) ?_
      refine⟨hs745.same,?_⟩
      refine aE 5 rfl (by kernel_rfl) rfl ?_
      obtain⟨v747,cel748,r749⟩:=bG (r:=(gI g.2 ↑e).1) o15 (by omega) (by omega)
      refine aI (v:=v747) (aZ aX rfl cel748) ?_
      refine⟨hs745.same,?_⟩
      refine aE 22 rfl (by kernel_rfl) rfl (bj (α:=(Int)×(Int)×(Nat)) (xs:=(gI L ((gI g.2 ↑e).1))) (ys:=([(((gI (gI p.2 ↑e) 1).1)-((gI (gI p.2 ↑e) 0).1),((gI (gI p.2 ↑e) 1).2)-((gI (gI p.2 ↑e) 0).2),az (bk (gI (gI p.2 ↑e) 0) (gI (gI p.2 ↑e) 1)))]:List ((Int)×(Int)×(Nat)))) g740 (J:=bW 3 (Int.toNat ((gI g.2 ↑e).1)+1)) (S:=bW 3 (Int.toNat ((gI g.2 ↑e).1)+1)) (3,Int.toNat ((gI g.2 ↑e).1)+1) rfl d4 aW (by decide) rfl rfl rfl r749 o744.flat (by decide) (by exact ct (hrw _) (by omega)) ?_)
      intro g750 w751 v752 ch753 o754
      have o755:=o15.rowchg ch753
      clear o15 cel748 r749
      have hs756:=hs745.seq (ch753.lr rfl)
      refine⟨hs756.same,?_⟩
      refine aE 23 rfl (by kernel_rfl) rfl ?_
      obtain⟨us757,hl758,r759⟩:=o755.vc
      try simp only[List.length_set,List.length_append,List.length_cons,List.length_nil] at hl758
      refine aI (v:=Value.pointer (some (bb v13 1 (Int.toNat ((gI g.2 ↑e).1))))) (af (α:=Vc) (xs:=us757) (v:=v13) (i:=(gI g.2 ↑e).1) e8 rfl rfl r759 rfl (by omega) (by omega)) ?_
      refine⟨hs756.same,?_⟩
      refine aE 24 rfl (by kernel_rfl) rfl (bf (r:=(gI g.2 ↑e).1) aX rfl rfl o755 o754 (by omega) (by omega) ?_)
      intro w763 ch764 o765
      clear o755 o754
      have hs766:=hs756.seq (ch764.l rfl)
      refine⟨hs766.same,?_⟩
      refine bI (by kernel_rfl) ?_
      have C767:=cg [3] (ch465.n.seq (hb593.n.seq (hb683.n.seq (ch743.n.seq ((ch753.lr rfl).seq (ch764.l rfl))))))
      replace Rg:=Rg.cn ch465
      replace Rp:=Rp.cn ch465
      replace r_p_v1:=r_p_v1.cn ch465
      replace bx10:=bx10.cn ch465
      replace r31:=r31.cn ch465
      exact mid (g750) _ _ ⟨bH.ca C767,zs3,zs5,zs8,zs9,zs18,zs19,zs20,zs32,zs33,(Rg.ca hs766),(Rp.ca hs766),(r_p_v1.ca hs766),(bx10.ca hs766),(r31.ca hs766),o765⟩
  clear Rg Rp r_p_v1 bx10 o15 r31 bx49 bx53 bH
  rintro g770 f768 w769 ⟨bH,zs3,zs5,zs8,zs9,zs18,zs19,zs20,zs32,zs33,Rg,Rp,r_p_v1,bx10,r31,o498⟩
  refine ap (a7 rfl (lx (ba (m:=0) (n:=1) zs33 rfl (by omega)) (mi 1 (ab (aN (a8 (a7 rfl (lx (bc (m:=1) (n:=2) rfl rfl) (ab (a8 (ag rfl rfl ?_)))))))))))
  refine au (a8 (aC (a8 (a7 rfl (mi 1 (lw (vi ((gI g.2 ↑e).2)) (cD kr aL zs32 rfl (by decide) (by decide) rfl) (ai 1 (ai ((gI g.2 ↑e).2) (ab (a8 ?_))))))))))
  refine cj (σ:=Nat×Nat×aV) (λ⟨b775,b781,gq⟩ f w=>bu w0 gq w/\f 3=vp b8 0/\f 5=v13/\f 8=v29/\f 9=vi (List.length (gI p.2 ↑e):Int)/\f 10=vi 1/\f 11=vi ((gI g.2 ↑e).2)/\f 12=vp b775 0/\f 13=vp b781 0/\f 18=g_v/\f 19=vi (g.2.length:Int)/\f 20=vi ↑e/\f 32=vg [vi ((gI g.2 ↑e).1),vi ((gI g.2 ↑e).2)]/\f 33=vi 1/\Sl gq (is 0) w g_v g.2/\Sl gq (is 0) w p_v p.1/\Sl gq (is 0) w p_v1 p.2/\Bx gq (is 2) w b8 [p_v,p_v1]/\Sl gq (is 0) w v29 (gI p.2 ↑e)/\dH gq 3 w v13 (List.set L (Int.toNat ((gI g.2 ↑e).1)) (gI L ((gI g.2 ↑e).1)++([(((gI (gI p.2 ↑e) 1).1)-((gI (gI p.2 ↑e) 0).1),((gI (gI p.2 ↑e) 1).2)-((gI (gI p.2 ↑e) 0).2),az (bk (gI (gI p.2 ↑e) 0) (gI (gI p.2 ↑e) 1)))]:List ((Int)×(Int)×(Nat)))))/\Bx gq (is 5) w b775 [vi ((gI (gI p.2 ↑e) 0).1),vi ((gI (gI p.2 ↑e) 0).2)]/\Bx gq (is 6) w b781 [vi ((gI (gI p.2 ↑e) 1).1),vi ((gI (gI p.2 ↑e) 1).2)]) g770 (inl [5,6]) dC ?_ ?_
  ·
   intro mid
   intro w772 ch771
   refine ht (v:=v29) 0 rfl (bh.refl _ _ _) (λw' hw'=>aR zs8) ?_
   replace r31:=r31.cn ch771
   refine ht 1 rfl (bh.refl _ _ _) (λw' hw'=>af (v:=v29) (i:=0) cT rfl rfl (r31.chg hw' (bt rfl)) rfl (by omega) (by omega)) (ht (v:=vg [vi ((gI (gI p.2 ↑e) 0).1),vi ((gI (gI p.2 ↑e) 0).2)]) 2 rfl (bh.refl _ _ _) (λw' hw'=>aT (v:=v29) (i:=0) aj rfl (r31.chg hw' (bt rfl)) (by omega) (by omega) rfl) (ht (v:=v29) 3 rfl (bh.refl _ _ _) (λw' hw'=>aR zs8) (ht 4 rfl (bh.refl _ _ _) (λw' hw'=>af (v:=v29) (i:=1) cT rfl rfl (r31.chg hw' (bt rfl)) rfl (by omega) (by omega)) ?_)))
   refine ht (v:=vg [vi ((gI (gI p.2 ↑e) 1).1),vi ((gI (gI p.2 ↑e) 1).2)]) 5 rfl (bh.refl _ _ _) (λw' hw'=>aT (v:=v29) (i:=1) aj rfl (r31.chg hw' (bt rfl)) (by omega) (by omega) rfl) ?_
   refine bJ 6 [7] (by kernel_rfl) ⟨bL 6 rfl (by kernel_rfl) rfl ?_,bL 7 rfl (by kernel_rfl) rfl ?_,trivial⟩
   ·
    refine bo g770 (is 5) (5,0) rfl aj ?_
    intro g776 w773 b775 ch774 bx777
    replace bx777:Bx g776 (is 5) w773 b775 [vi 0,vi 0]:=bx777
    have hs778:bh (inl [5,6]) _ _ _ _:=ch774.n
    refine⟨hs778.same,?_⟩
    refine aE 7 rfl (by kernel_rfl) rfl (bo g776 (is 6) (6,0) rfl aj ?_)
    intro g782 w779 b781 ch780 bx783
    replace bx783:Bx g782 (is 6) w779 b781 [vi 0,vi 0]:=bx783
    have hs784:=hs778.seq (ch780.n)
    refine⟨hs784.same,?_⟩
    refine aE 8 rfl (by kernel_rfl) rfl ?_
    replace bx777:=bx777.cn ch780
    refine ao (cs':=[vi ((gI (gI p.2 ↑e) 0).1),vi ((gI (gI p.2 ↑e) 0).2)]) aj rfl rfl bx777 rfl nq (AllOne.all (.cons rfl (.cons rfl .nil))) rfl ?_
    intro w785 ch786 bx787
    clear bx777
    have hs788:=hs784.seq (ch786.l rfl)
    refine⟨hs788.same,?_⟩
    refine aE 9 rfl (by kernel_rfl) rfl ?_
    replace bx783:=bx783.ce ch786
    refine ao (cs':=[vi ((gI (gI p.2 ↑e) 1).1),vi ((gI (gI p.2 ↑e) 1).2)]) aj rfl rfl bx783 rfl nq (AllOne.all (.cons rfl (.cons rfl .nil))) rfl ?_
    intro w789 ch790 bx791
    clear bx783
    have hs792:=hs788.seq (ch790.l rfl)
    refine⟨hs792.same,?_⟩
    refine bI (by kernel_rfl) ?_
    have C793:=cg [5,6] (ch771.n.seq (ch774.n.seq (ch780.n.seq ((ch786.l rfl).seq (ch790.l rfl)))))
    replace Rg:=Rg.cn ch771
    replace Rp:=Rp.cn ch771
    replace r_p_v1:=r_p_v1.cn ch771
    replace bx10:=bx10.cn ch771
    replace o498:=o498.cn ch771
    exact mid (b775,b781,g782) _ _ ⟨bH.ca C793,zs3,zs5,zs8,zs9,rfl,rfl,rfl,rfl,zs18,zs19,zs20,zs32,rfl,(Rg.ca hs792),(Rp.ca hs792),(r_p_v1.ca hs792),(bx10.ca hs792),(r31.ca hs792),(o498.ca hs792),bx787.ce ch790,bx791⟩
   ·
    refine bo g770 (is 6) (6,0) rfl aj ?_
    intro g797 w794 b796 ch795 bx798
    replace bx798:Bx g797 (is 6) w794 b796 [vi 0,vi 0]:=bx798
    have hs799:bh (inl [5,6]) _ _ _ _:=ch795.n
    refine⟨hs799.same,?_⟩
    refine aE 6 rfl (by kernel_rfl) rfl (bo g797 (is 5) (5,0) rfl aj ?_)
    intro g803 w800 b802 ch801 bx804
    replace bx804:Bx g803 (is 5) w800 b802 [vi 0,vi 0]:=bx804
    have hs805:=hs799.seq (ch801.n)
    refine⟨hs805.same,?_⟩
    refine aE 8 rfl (by kernel_rfl) rfl (ao (cs':=[vi ((gI (gI p.2 ↑e) 0).1),vi ((gI (gI p.2 ↑e) 0).2)]) aj rfl rfl bx804 rfl nq (AllOne.all (.cons rfl (.cons rfl .nil))) rfl ?_)
    intro w806 ch807 bx808
    clear bx804
    have hs809:=hs805.seq (ch807.l rfl)
    refine⟨hs809.same,?_⟩
    refine aE 9 rfl (by kernel_rfl) rfl ?_
    replace bx798:=(bx798.cn ch801).ce ch807
    refine ao (cs':=[vi ((gI (gI p.2 ↑e) 1).1),vi ((gI (gI p.2 ↑e) 1).2)]) aj rfl rfl bx798 rfl nq (AllOne.all (.cons rfl (.cons rfl .nil))) rfl ?_
    intro w810 ch811 bx812
    clear bx798
    have hs813:=hs809.seq (ch811.l rfl)
    refine⟨hs813.same,?_⟩
    refine bI (by kernel_rfl) ?_
    have C814:=cg [5,6] (ch771.n.seq (ch795.n.seq (ch801.n.seq ((ch807.l rfl).seq (ch811.l rfl)))))
    replace Rg:=Rg.cn ch771
    replace Rp:=Rp.cn ch771
    replace r_p_v1:=r_p_v1.cn ch771
    replace bx10:=bx10.cn ch771
    replace o498:=o498.cn ch771
    exact mid (b802,b796,g803) _ _ ⟨bH.ca C814,zs3,zs5,zs8,zs9,rfl,rfl,rfl,rfl,zs18,zs19,zs20,zs32,rfl,(Rg.ca hs813),(Rp.ca hs813),(r_p_v1.ca hs813),(bx10.ca hs813),(r31.ca hs813),(o498.ca hs813),bx808.ce ch811,bx812⟩
  clear Rg Rp r_p_v1 bx10 r31 o498 bH
  rintro⟨b775,b781,g817⟩ f815 w816 ⟨bH,zs3,zs5,zs8,zs9,zs10,zs11,zs12,zs13,zs18,zs19,zs20,zs32,zs33,Rg,Rp,r_p_v1,bx10,r31,o498,bx787,bx791⟩
  refine a8 (a8 (a7 rfl (mz zs10 (lx (d7 (m:=1) (n:=1) rfl rfl) (ab (ag rfl rfl (dl g817 (inl [5,6]) dC ?_)))))))
  intro w819 ch818
  refine ht (v:=v29) 0 rfl (bh.refl _ _ _) (λw' hw'=>aR zs8) (ht (v:=vi (List.length (gI p.2 ↑e):Int)) 1 rfl (bh.refl _ _ _) (λw' hw'=>aR zs9) (ht 2 rfl (bh.refl _ _ _) (λw' hw'=>cW (m:=(List.length (gI p.2 ↑e):Int)) (n:=1) rfl rfl (by omega)) ?_))
  replace r31:=r31.cn ch818
  refine ht 3 rfl (bh.refl _ _ _) (λw' hw'=>af (v:=v29) (i:=(List.length (gI p.2 ↑e):Int)-1) cT rfl rfl (r31.chg hw' (bt rfl)) rfl (by omega) (by omega)) (ht (v:=vg [vi ((gI (gI p.2 ↑e) ((List.length (gI p.2 ↑e):Int)-1)).1),vi ((gI (gI p.2 ↑e) ((List.length (gI p.2 ↑e):Int)-1)).2)]) 4 rfl (bh.refl _ _ _) (λw' hw'=>aT (v:=v29) (i:=(List.length (gI p.2 ↑e):Int)-1) aj rfl (r31.chg hw' (bt rfl)) (by omega) (by omega) rfl) (ht (v:=v29) 5 rfl (bh.refl _ _ _) (λw' hw'=>aR zs8) (ht (v:=vi (List.length (gI p.2 ↑e):Int)) 6 rfl (bh.refl _ _ _) (λw' hw'=>aR zs9) ?_)))
  refine ht 7 rfl (bh.refl _ _ _) (λw' hw'=>cW (m:=(List.length (gI p.2 ↑e):Int)) (n:=2) rfl rfl (by omega)) (ht 8 rfl (bh.refl _ _ _) (λw' hw'=>af (v:=v29) (i:=(List.length (gI p.2 ↑e):Int)-2) cT rfl rfl (r31.chg hw' (bt rfl)) rfl (by omega) (by omega)) (ht (v:=vg [vi ((gI (gI p.2 ↑e) ((List.length (gI p.2 ↑e):Int)-2)).1),vi ((gI (gI p.2 ↑e) ((List.length (gI p.2 ↑e):Int)-2)).2)]) 9 rfl (bh.refl _ _ _) (λw' hw'=>aT (v:=v29) (i:=(List.length (gI p.2 ↑e):Int)-2) aj rfl (r31.chg hw' (bt rfl)) (by omega) (by omega) rfl) (aE 10 rfl (by kernel_rfl) rfl ?_)))
  replace bx787:=bx787.cn ch818
  refine ao (cs':=[vi ((gI (gI p.2 ↑e) ((List.length (gI p.2 ↑e):Int)-1)).1),vi ((gI (gI p.2 ↑e) ((List.length (gI p.2 ↑e):Int)-1)).2)]) aj zs12 rfl bx787 rfl nq (AllOne.all (.cons rfl (.cons rfl .nil))) rfl ?_
  intro w820 ch821 bx822
  clear bx787
  have hs823:bh (inl [5,6]) _ _ _ _:=ch821.l rfl
  refine⟨hs823.same,?_⟩
  refine aE 11 rfl (by kernel_rfl) rfl ?_
  replace bx791:=(bx791.cn ch818).ce ch821
  refine ao (cs':=[vi ((gI (gI p.2 ↑e) ((List.length (gI p.2 ↑e):Int)-2)).1),vi ((gI (gI p.2 ↑e) ((List.length (gI p.2 ↑e):Int)-2)).2)]) aj zs13 rfl bx791 rfl nq (AllOne.all (.cons rfl (.cons rfl .nil))) rfl ?_
  intro w824 ch825 bx826
  clear bx791
  have hs827:=hs823.seq (ch825.l rfl)
  refine⟨hs827.same,?_⟩
  refine bI (by kernel_rfl) (a8 (a7 rfl ?_))
  replace bx822:=bx822.ce ch825
  refine lx (ae (ds:=[vi ((gI (gI p.2 ↑e) ((List.length (gI p.2 ↑e):Int)-1)).1),vi ((gI (gI p.2 ↑e) ((List.length (gI p.2 ↑e):Int)-1)).2)]) aj zs12 bx822 rfl rfl) (lx (ae (ds:=[vi ((gI (gI p.2 ↑e) ((List.length (gI p.2 ↑e):Int)-2)).1),vi ((gI (gI p.2 ↑e) ((List.length (gI p.2 ↑e):Int)-2)).2)]) aj zs13 bx826 rfl rfl) ?_)
  refine lw (vb (!(decide ((gI (gI p.2 ↑e) ((List.length (gI p.2 ↑e):Int)-1))=(gI (gI p.2 ↑e) ((List.length (gI p.2 ↑e):Int)-2)))))) (eF (bs:=[decide (((gI (gI p.2 ↑e) ((List.length (gI p.2 ↑e):Int)-1)).1)=((gI (gI p.2 ↑e) ((List.length (gI p.2 ↑e):Int)-2)).1)),decide (((gI (gI p.2 ↑e) ((List.length (gI p.2 ↑e):Int)-1)).2)=((gI (gI p.2 ↑e) ((List.length (gI p.2 ↑e):Int)-2)).2))]) cL (by kernel_rfl) (by kernel_rfl) rfl rfl (.cons (by decide+kernel) aL rfl rfl (.int U3) (.cons (by decide+kernel) aL rfl rfl (.int U3) .nil)) (by simp[Prod.ext_iff,Bool.decide_and,Bool.and_assoc])) (ab ?_)
  by_cases p13_828:(gI (gI p.2 ↑e) ((List.length (gI p.2 ↑e):Int)-1))=(gI (gI p.2 ↑e) ((List.length (gI p.2 ↑e):Int)-2))
  ·
   refine ah rfl (congrArg Bool.not (dt p13_828)) (au (ap ?_))
   clear bx822 bx826
   refine a7 rfl (lx (ba (m:=1) (n:=1) zs33 rfl (by omega)) (mi 2 (ab (aN (a8 (a7 rfl (lx (bc (m:=2) (n:=2) rfl rfl) (ab (a8 (ah rfl rfl (aQ rfl ?_)))))))))))
   refine ap ?_
   clear r31
   refine a7 rfl (lx (ba (m:=↑e) (n:=1) zs20 rfl (by omega)) (mi ((e:Int)+1) (ab ?_)))
   have C829:=cg [5,6] (ch818.n.seq ((ch821.l rfl).seq (ch825.l rfl)))
   refine back3 (e+1,(List.set L (Int.toNat ((gI g.2 ↑e).1)) (gI L ((gI g.2 ↑e).1)++([(((gI (gI p.2 ↑e) 1).1)-((gI (gI p.2 ↑e) 0).1),((gI (gI p.2 ↑e) 1).2)-((gI (gI p.2 ↑e) 0).2),az (bk (gI (gI p.2 ↑e) 0) (gI (gI p.2 ↑e) 1)))]:List ((Int)×(Int)×(Nat))))),g817) _ _ ⟨bH.ca C829,zs3,zs5,zs18,zs19,rfl,Rg.ca C829,Rp.ca C829,r_p_v1.ca C829,bx10.ca C829,o498.ca C829,by omega,?_⟩ ?_
   · show(List.set L (Int.toNat ((gI g.2 ↑e).1)) (gI L ((gI g.2 ↑e).1)++([(((gI (gI p.2 ↑e) 1).1)-((gI (gI p.2 ↑e) 0).1),((gI (gI p.2 ↑e) 1).2)-((gI (gI p.2 ↑e) 0).2),az (bk (gI (gI p.2 ↑e) 0) (gI (gI p.2 ↑e) 1)))]:List ((Int)×(Int)×(Nat)))))=ar g p (e+1)
     (rw[hL] at*;exact jl (by exact .inr ⟨‹_›,rfl⟩) (by exact .inl ⟨‹_›,rfl⟩))
   · show Int.toNat (((g.2.length:Int):Int)-((e+1):Int))<Int.toNat (((g.2.length:Int):Int)-(e:Int))
     omega
  refine ag rfl (congrArg Bool.not (df p13_828)) ?_
  refine cj (σ:=aV) (λgq f w=>bu w0 gq w/\f 3=vp b8 0/\f 5=v13/\f 8=v29/\f 9=vi (List.length (gI p.2 ↑e):Int)/\f 18=g_v/\f 19=vi (g.2.length:Int)/\f 20=vi ↑e/\f 32=vg [vi ((gI g.2 ↑e).1),vi ((gI g.2 ↑e).2)]/\f 33=vi 1/\Sl gq (is 0) w g_v g.2/\Sl gq (is 0) w p_v p.1/\Sl gq (is 0) w p_v1 p.2/\Bx gq (is 2) w b8 [p_v,p_v1]/\Sl gq (is 0) w v29 (gI p.2 ↑e)/\dH gq 3 w v13 (List.set (List.set L (Int.toNat ((gI g.2 ↑e).1)) (gI L ((gI g.2 ↑e).1)++([(((gI (gI p.2 ↑e) 1).1)-((gI (gI p.2 ↑e) 0).1),((gI (gI p.2 ↑e) 1).2)-((gI (gI p.2 ↑e) 0).2),az (bk (gI (gI p.2 ↑e) 0) (gI (gI p.2 ↑e) 1)))]:List ((Int)×(Int)×(Nat))))) (Int.toNat ((gI g.2 ↑e).2)) (gI (List.set L (Int.toNat ((gI g.2 ↑e).1)) (gI L ((gI g.2 ↑e).1)++([(((gI (gI p.2 ↑e) 1).1)-((gI (gI p.2 ↑e) 0).1),((gI (gI p.2 ↑e) 1).2)-((gI (gI p.2 ↑e) 0).2),az (bk (gI (gI p.2 ↑e) 0) (gI (gI p.2 ↑e) 1)))]:List ((Int)×(Int)×(Nat))))) ((gI g.2 ↑e).2)++([(((gI (gI p.2 ↑e) ((List.length (gI p.2 ↑e):Int)-2)).1)-((gI (gI p.2 ↑e) ((List.length (gI p.2 ↑e):Int)-1)).1),((gI (gI p.2 ↑e) ((List.length (gI p.2 ↑e):Int)-2)).2)-((gI (gI p.2 ↑e) ((List.length (gI p.2 ↑e):Int)-1)).2),az (bk (gI (gI p.2 ↑e) ((List.length (gI p.2 ↑e):Int)-1)) (gI (gI p.2 ↑e) ((List.length (gI p.2 ↑e):Int)-2))))]:List ((Int)×(Int)×(Nat)))))) g817 (inl [3]) dC ?_ ?_
  ·
   intro mid
   intro w831 ch830
   refine ht (v:=v13) 0 rfl (bh.refl _ _ _) (λw' hw'=>aR zs5) (ht (v:=vi ((gI g.2 ↑e).2)) 1 rfl (bh.refl _ _ _) (λw' hw'=>aR zs11) (ht (v:=v13) 2 rfl (bh.refl _ _ _) (λw' hw'=>aR zs5) (ht (v:=vi ((gI g.2 ↑e).2)) 3 rfl (bh.refl _ _ _) (λw' hw'=>aR zs11) (ht 6 rfl (bh.refl _ _ _) (λw' hw'=>a9 cL rfl rfl zs13 rfl) ?_))))
   replace bx826:=bx826.cn ch830
   refine ht 7 rfl (bh.refl _ _ _) (λw' hw'=>aa aL rfl (bx826.chg hw' (bt rfl)) rfl) (ht 8 rfl (bh.refl _ _ _) (λw' hw'=>a9 cL rfl rfl zs12 rfl) ?_)
   replace bx822:=bx822.cn ch830
   refine ht 9 rfl (bh.refl _ _ _) (λw' hw'=>aa aL rfl (bx822.chg hw' (bt rfl)) rfl) (ht 10 rfl (bh.refl _ _ _) (λw' hw'=>cW (m:=(gI (gI p.2 ↑e) ((List.length (gI p.2 ↑e):Int)-2)).1) (n:=(gI (gI p.2 ↑e) ((List.length (gI p.2 ↑e):Int)-1)).1) rfl rfl (by omega)) (ht 11 rfl (bh.refl _ _ _) (λw' hw'=>a9 cL rfl rfl zs13 rfl) (ht 12 rfl (bh.refl _ _ _) (λw' hw'=>aa aL rfl (bx826.chg hw' (bt rfl)) rfl) (ht 13 rfl (bh.refl _ _ _) (λw' hw'=>a9 cL rfl rfl zs12 rfl) (ht 14 rfl (bh.refl _ _ _) (λw' hw'=>aa aL rfl (bx822.chg hw' (bt rfl)) rfl) ?_)))))
   refine ht 15 rfl (bh.refl _ _ _) (λw' hw'=>cW (m:=(gI (gI p.2 ↑e) ((List.length (gI p.2 ↑e):Int)-2)).2) (n:=(gI (gI p.2 ↑e) ((List.length (gI p.2 ↑e):Int)-1)).2) rfl rfl (by omega)) (ht 16 rfl (bh.refl _ _ _) (λw' hw'=>ae (ds:=[vi ((gI (gI p.2 ↑e) ((List.length (gI p.2 ↑e):Int)-1)).1),vi ((gI (gI p.2 ↑e) ((List.length (gI p.2 ↑e):Int)-1)).2)]) aj zs12 (bx822.chg hw' (bt rfl)) rfl rfl) (ht 17 rfl (bh.refl _ _ _) (λw' hw'=>ae (ds:=[vi ((gI (gI p.2 ↑e) ((List.length (gI p.2 ↑e):Int)-2)).1),vi ((gI (gI p.2 ↑e) ((List.length (gI p.2 ↑e):Int)-2)).2)]) aj zs13 (bx826.chg hw' (bt rfl)) rfl rfl) ?_))
   refine bJ 4 [18] (by kernel_rfl) ⟨bL 4 rfl (by kernel_rfl) rfl ?_,bL 18 rfl (by kernel_rfl) rfl ?_,trivial⟩
   ·
    have C832:=cg [5,6] (ch818.n.seq ((ch821.l rfl).seq ((ch825.l rfl).seq ch830.n)))
    replace o498:=o498.ca C832
    refine aI (v:=Value.pointer (some (bb v13 1 (Int.toNat ((gI g.2 ↑e).2))))) (af (α:=List ((Int)×(Int)×(Nat))) (xs:=(List.set L (Int.toNat ((gI g.2 ↑e).1)) (gI L ((gI g.2 ↑e).1)++([(((gI (gI p.2 ↑e) 1).1)-((gI (gI p.2 ↑e) 0).1),((gI (gI p.2 ↑e) 1).2)-((gI (gI p.2 ↑e) 0).2),az (bk (gI (gI p.2 ↑e) 0) (gI (gI p.2 ↑e) 1)))]:List ((Int)×(Int)×(Nat)))))) (v:=v13) (i:=(gI g.2 ↑e).2) e8 rfl rfl o498.sl rfl (by omega) (by(simp only[List.length_set,List.length_append,List.length_cons,List.length_nil,List.length_replicate,List.length_map,List.length_take,List.length_drop];omega))) ?_
    refine⟨(bh.refl _ _ _),?_⟩
    refine bJ 5 [18] (by kernel_rfl) ⟨bL 5 rfl (by kernel_rfl) rfl ?_,bL 18 rfl (by kernel_rfl) rfl ?_,trivial⟩
    ·
     obtain⟨v833,cel834,r835⟩:=bG (r:=(gI g.2 ↑e).2) o498 (by omega) (by(simp only[List.length_set,List.length_append,List.length_cons,List.length_nil,List.length_replicate,List.length_map,List.length_take,List.length_drop];omega))
     refine aI (v:=v833) (aZ aX rfl cel834) ?_
     refine⟨(bh.refl _ _ _),?_⟩
     refine aE 18 rfl (by kernel_rfl) rfl ?_
     refine aP (v:=Value.float .f64 (bk (gI (gI p.2 ↑e) ((List.length (gI p.2 ↑e):Int)-1)) (gI (gI p.2 ↑e) ((List.length (gI p.2 ↑e):Int)-2)))) (aG (vals:=[vg [vi ((gI (gI p.2 ↑e) ((List.length (gI p.2 ↑e):Int)-1)).1),vi ((gI (gI p.2 ↑e) ((List.length (gI p.2 ↑e):Int)-1)).2)],vg [vi ((gI (gI p.2 ↑e) ((List.length (gI p.2 ↑e):Int)-2)).1),vi ((gI (gI p.2 ↑e) ((List.length (gI p.2 ↑e):Int)-2)).2)]]) Try.func47 dp dj rfl) (cm w831 (gI (gI p.2 ↑e) ((List.length (gI p.2 ↑e):Int)-1)) (gI (gI p.2 ↑e) ((List.length (gI p.2 ↑e):Int)-2)) (by exact hl3.2 _ (bl (by omega) (by omega))) (by exact hl3.2 _ (bl (by omega) (by omega)))) ?_
     intro w836 hb837
     replace hb837:=am hb837 g817
     have hs838:bh (inl [3]) _ _ _ _:=hb837.n
     refine⟨hs838.same,?_⟩
     refine aE 19 rfl (by kernel_rfl) rfl (aP (v:=Value.float .f64 (az (bk (gI (gI p.2 ↑e) ((List.length (gI p.2 ↑e):Int)-1)) (gI (gI p.2 ↑e) ((List.length (gI p.2 ↑e):Int)-2))))) (aG (vals:=[Value.float .f64 (bk (gI (gI p.2 ↑e) ((List.length (gI p.2 ↑e):Int)-1)) (gI (gI p.2 ↑e) ((List.length (gI p.2 ↑e):Int)-2)))]) Try.func46 c9 c8 rfl) (c7 w836 (bk (gI (gI p.2 ↑e) ((List.length (gI p.2 ↑e):Int)-1)) (gI (gI p.2 ↑e) ((List.length (gI p.2 ↑e):Int)-2))) (by exact cq _ _)) ?_)
     intro w839 hb840
     replace hb840:=am hb840 g817
     have hs841:=hs838.seq (hb840.n)
     refine⟨hs841.same,?_⟩
     refine ht (v:=vg [vi (((gI (gI p.2 ↑e) ((List.length (gI p.2 ↑e):Int)-2)).1)-((gI (gI p.2 ↑e) ((List.length (gI p.2 ↑e):Int)-1)).1)),vi (((gI (gI p.2 ↑e) ((List.length (gI p.2 ↑e):Int)-2)).2)-((gI (gI p.2 ↑e) ((List.length (gI p.2 ↑e):Int)-1)).2)),Value.float .f64 (az (bk (gI (gI p.2 ↑e) ((List.length (gI p.2 ↑e):Int)-1)) (gI (gI p.2 ↑e) ((List.length (gI p.2 ↑e):Int)-2))))]) 20 rfl hs841.same (λw' hw'=>bB (vs:=[(0,vi (((gI (gI p.2 ↑e) ((List.length (gI p.2 ↑e):Int)-2)).1)-((gI (gI p.2 ↑e) ((List.length (gI p.2 ↑e):Int)-1)).1))),(1,vi (((gI (gI p.2 ↑e) ((List.length (gI p.2 ↑e):Int)-2)).2)-((gI (gI p.2 ↑e) ((List.length (gI p.2 ↑e):Int)-1)).2))),(2,Value.float .f64 (az (bk (gI (gI p.2 ↑e) ((List.length (gI p.2 ↑e):Int)-1)) (gI (gI p.2 ↑e) ((List.length (gI p.2 ↑e):Int)-2)))))]) rfl (by kernel_rfl)) ?_
     refine aE 21 rfl (by kernel_rfl) rfl ?_
     refine aH (α:=(Int)×(Int)×(Nat)) g817 (is 7) (is 7) (7,0) rfl ([(((gI (gI p.2 ↑e) ((List.length (gI p.2 ↑e):Int)-2)).1)-((gI (gI p.2 ↑e) ((List.length (gI p.2 ↑e):Int)-1)).1),((gI (gI p.2 ↑e) ((List.length (gI p.2 ↑e):Int)-2)).2)-((gI (gI p.2 ↑e) ((List.length (gI p.2 ↑e):Int)-1)).2),az (bk (gI (gI p.2 ↑e) ((List.length (gI p.2 ↑e):Int)-1)) (gI (gI p.2 ↑e) ((List.length (gI p.2 ↑e):Int)-2))))]:List ((Int)×(Int)×(Nat))) d4 aW (by decide) (by decide) (vs:=[(0,vg [vi (((gI (gI p.2 ↑e) ((List.length (gI p.2 ↑e):Int)-2)).1)-((gI (gI p.2 ↑e) ((List.length (gI p.2 ↑e):Int)-1)).1)),vi (((gI (gI p.2 ↑e) ((List.length (gI p.2 ↑e):Int)-2)).2)-((gI (gI p.2 ↑e) ((List.length (gI p.2 ↑e):Int)-1)).2)),Value.float .f64 (az (bk (gI (gI p.2 ↑e) ((List.length (gI p.2 ↑e):Int)-1)) (gI (gI p.2 ↑e) ((List.length (gI p.2 ↑e):Int)-2))))])]) rfl rfl (.cons rfl .nil) ?_
     intro g842 w843 v844 ch845 o846
     have hs847:=hs841.seq (ch845.n)
     refine⟨hs847.same,?_⟩
     refine aE 22 rfl (by kernel_rfl) rfl ?_
     have C854:=cg [] (hb837.n.seq (hb840.n.seq ch845.n))
     replace o498:=o498.ca C854
     replace r835:=r835.chg C854 (gO rfl) (gO rfl)
     refine bj (α:=(Int)×(Int)×(Nat)) (xs:=(gI (List.set L (Int.toNat ((gI g.2 ↑e).1)) (gI L ((gI g.2 ↑e).1)++([(((gI (gI p.2 ↑e) 1).1)-((gI (gI p.2 ↑e) 0).1),((gI (gI p.2 ↑e) 1).2)-((gI (gI p.2 ↑e) 0).2),az (bk (gI (gI p.2 ↑e) 0) (gI (gI p.2 ↑e) 1)))]:List ((Int)×(Int)×(Nat))))) ((gI g.2 ↑e).2))) (ys:=([(((gI (gI p.2 ↑e) ((List.length (gI p.2 ↑e):Int)-2)).1)-((gI (gI p.2 ↑e) ((List.length (gI p.2 ↑e):Int)-1)).1),((gI (gI p.2 ↑e) ((List.length (gI p.2 ↑e):Int)-2)).2)-((gI (gI p.2 ↑e) ((List.length (gI p.2 ↑e):Int)-1)).2),az (bk (gI (gI p.2 ↑e) ((List.length (gI p.2 ↑e):Int)-1)) (gI (gI p.2 ↑e) ((List.length (gI p.2 ↑e):Int)-2))))]:List ((Int)×(Int)×(Nat)))) g842 (J:=bW 3 (Int.toNat ((gI g.2 ↑e).2)+1)) (S:=bW 3 (Int.toNat ((gI g.2 ↑e).2)+1)) (3,Int.toNat ((gI g.2 ↑e).2)+1) rfl d4 aW (by decide) rfl rfl rfl r835 o846.flat (by decide) (by exact ct (dk hrw) (by omega)) ?_
     intro g848 w849 v850 ch851 o852
     have o853:=o498.rowchg ch851
     clear o498 cel834 r835
     have hs855:=hs847.seq (ch851.lr rfl)
     refine⟨hs855.same,?_⟩
     refine aE 23 rfl (by kernel_rfl) rfl ?_
     obtain⟨us856,hl857,r858⟩:=o853.vc
     try simp only[List.length_set,List.length_append,List.length_cons,List.length_nil] at hl857
     refine aI (v:=Value.pointer (some (bb v13 1 (Int.toNat ((gI g.2 ↑e).2))))) (af (α:=Vc) (xs:=us856) (v:=v13) (i:=(gI g.2 ↑e).2) e8 rfl rfl r858 rfl (by omega) (by omega)) ?_
     refine⟨hs855.same,?_⟩
     refine aE 24 rfl (by kernel_rfl) rfl (bf (r:=(gI g.2 ↑e).2) aX rfl rfl o853 o852 (by omega) (by(simp only[List.length_set,List.length_append,List.length_cons,List.length_nil,List.length_replicate,List.length_map,List.length_take,List.length_drop];omega)) ?_)
     intro w862 ch863 o864
     clear o853 o852
     have hs865:=hs855.seq (ch863.l rfl)
     refine⟨hs865.same,?_⟩
     refine bI (by kernel_rfl) ?_
     have C866:=cg [3,5,6] (ch818.n.seq ((ch821.l rfl).seq ((ch825.l rfl).seq (ch830.n.seq (hb837.n.seq (hb840.n.seq (ch845.n.seq ((ch851.lr rfl).seq (ch863.l rfl)))))))))
     have C867:=cg [5,6] ((ch821.l rfl).seq ((ch825.l rfl).seq ch830.n))
     replace Rg:=Rg.ca C832
     replace Rp:=Rp.ca C832
     replace r_p_v1:=r_p_v1.ca C832
     replace bx10:=bx10.ca C832
     replace r31:=r31.ca C867
     exact mid (g848) _ _ ⟨bH.ca C866,zs3,zs5,zs8,zs9,zs18,zs19,zs20,zs32,zs33,(Rg.ca hs865),(Rp.ca hs865),(r_p_v1.ca hs865),(bx10.ca hs865),(r31.ca hs865),o864⟩
    ·
     refine aP (v:=Value.float .f64 (bk (gI (gI p.2 ↑e) ((List.length (gI p.2 ↑e):Int)-1)) (gI (gI p.2 ↑e) ((List.length (gI p.2 ↑e):Int)-2)))) (aG (vals:=[vg [vi ((gI (gI p.2 ↑e) ((List.length (gI p.2 ↑e):Int)-1)).1),vi ((gI (gI p.2 ↑e) ((List.length (gI p.2 ↑e):Int)-1)).2)],vg [vi ((gI (gI p.2 ↑e) ((List.length (gI p.2 ↑e):Int)-2)).1),vi ((gI (gI p.2 ↑e) ((List.length (gI p.2 ↑e):Int)-2)).2)]]) Try.func47 dp dj rfl) (cm w831 (gI (gI p.2 ↑e) ((List.length (gI p.2 ↑e):Int)-1)) (gI (gI p.2 ↑e) ((List.length (gI p.2 ↑e):Int)-2)) (by exact hl3.2 _ (bl (by omega) (by omega))) (by exact hl3.2 _ (bl (by omega) (by omega)))) ?_
     intro w868 hb869
     replace hb869:=am hb869 g817
     have hs870:bh (inl [3]) _ _ _ _:=hb869.n
     refine⟨hs870.same,?_⟩
     refine bJ 5 [19] (by kernel_rfl) ⟨bL 5 rfl (by kernel_rfl) rfl ?_,bL 19 rfl (by kernel_rfl) rfl ?_,trivial⟩
     ·
      replace o498:=o498.cn hb869
      obtain⟨v871,cel872,r873⟩:=bG (r:=(gI g.2 ↑e).2) o498 (by omega) (by(simp only[List.length_set,List.length_append,List.length_cons,List.length_nil,List.length_replicate,List.length_map,List.length_take,List.length_drop];omega))
      refine aI (v:=v871) (aZ aX rfl cel872) ?_
      refine⟨hs870.same,?_⟩
      refine aE 19 rfl (by kernel_rfl) rfl (aP (v:=Value.float .f64 (az (bk (gI (gI p.2 ↑e) ((List.length (gI p.2 ↑e):Int)-1)) (gI (gI p.2 ↑e) ((List.length (gI p.2 ↑e):Int)-2))))) (aG (vals:=[Value.float .f64 (bk (gI (gI p.2 ↑e) ((List.length (gI p.2 ↑e):Int)-1)) (gI (gI p.2 ↑e) ((List.length (gI p.2 ↑e):Int)-2)))]) Try.func46 c9 c8 rfl) (c7 w868 (bk (gI (gI p.2 ↑e) ((List.length (gI p.2 ↑e):Int)-1)) (gI (gI p.2 ↑e) ((List.length (gI p.2 ↑e):Int)-2))) (by exact cq _ _)) ?_)
      intro w874 hb875
      replace hb875:=am hb875 g817
      have hs876:=hs870.seq (hb875.n)
      refine⟨hs876.same,?_⟩
      refine ht (v:=vg [vi (((gI (gI p.2 ↑e) ((List.length (gI p.2 ↑e):Int)-2)).1)-((gI (gI p.2 ↑e) ((List.length (gI p.2 ↑e):Int)-1)).1)),vi (((gI (gI p.2 ↑e) ((List.length (gI p.2 ↑e):Int)-2)).2)-((gI (gI p.2 ↑e) ((List.length (gI p.2 ↑e):Int)-1)).2)),Value.float .f64 (az (bk (gI (gI p.2 ↑e) ((List.length (gI p.2 ↑e):Int)-1)) (gI (gI p.2 ↑e) ((List.length (gI p.2 ↑e):Int)-2))))]) 20 rfl hs876.same (λw' hw'=>bB (vs:=[(0,vi (((gI (gI p.2 ↑e) ((List.length (gI p.2 ↑e):Int)-2)).1)-((gI (gI p.2 ↑e) ((List.length (gI p.2 ↑e):Int)-1)).1))),(1,vi (((gI (gI p.2 ↑e) ((List.length (gI p.2 ↑e):Int)-2)).2)-((gI (gI p.2 ↑e) ((List.length (gI p.2 ↑e):Int)-1)).2))),(2,Value.float .f64 (az (bk (gI (gI p.2 ↑e) ((List.length (gI p.2 ↑e):Int)-1)) (gI (gI p.2 ↑e) ((List.length (gI p.2 ↑e):Int)-2)))))]) rfl (by kernel_rfl)) ?_
      refine aE 21 rfl (by kernel_rfl) rfl ?_
      refine aH (α:=(Int)×(Int)×(Nat)) g817 (is 7) (is 7) (7,0) rfl ([(((gI (gI p.2 ↑e) ((List.length (gI p.2 ↑e):Int)-2)).1)-((gI (gI p.2 ↑e) ((List.length (gI p.2 ↑e):Int)-1)).1),((gI (gI p.2 ↑e) ((List.length (gI p.2 ↑e):Int)-2)).2)-((gI (gI p.2 ↑e) ((List.length (gI p.2 ↑e):Int)-1)).2),az (bk (gI (gI p.2 ↑e) ((List.length (gI p.2 ↑e):Int)-1)) (gI (gI p.2 ↑e) ((List.length (gI p.2 ↑e):Int)-2))))]:List ((Int)×(Int)×(Nat))) d4 aW (by decide) (by decide) (vs:=[(0,vg [vi (((gI (gI p.2 ↑e) ((List.length (gI p.2 ↑e):Int)-2)).1)-((gI (gI p.2 ↑e) ((List.length (gI p.2 ↑e):Int)-1)).1)),vi (((gI (gI p.2 ↑e) ((List.length (gI p.2 ↑e):Int)-2)).2)-((gI (gI p.2 ↑e) ((List.length (gI p.2 ↑e):Int)-1)).2)),Value.float .f64 (az (bk (gI (gI p.2 ↑e) ((List.length (gI p.2 ↑e):Int)-1)) (gI (gI p.2 ↑e) ((List.length (gI p.2 ↑e):Int)-2))))])]) rfl rfl (.cons rfl .nil) ?_
      intro g877 w878 v879 ch880 o881
      have hs882:=hs876.seq (ch880.n)
      refine⟨hs882.same,?_⟩
      refine aE 22 rfl (by kernel_rfl) rfl ?_
      replace o498:=(o498.cn hb875).cn ch880
      replace r873:=(r873.cn hb875).cn ch880
      refine bj (α:=(Int)×(Int)×(Nat)) (xs:=(gI (List.set L (Int.toNat ((gI g.2 ↑e).1)) (gI L ((gI g.2 ↑e).1)++([(((gI (gI p.2 ↑e) 1).1)-((gI (gI p.2 ↑e) 0).1),((gI (gI p.2 ↑e) 1).2)-((gI (gI p.2 ↑e) 0).2),az (bk (gI (gI p.2 ↑e) 0) (gI (gI p.2 ↑e) 1)))]:List ((Int)×(Int)×(Nat))))) ((gI g.2 ↑e).2))) (ys:=([(((gI (gI p.2 ↑e) ((List.length (gI p.2 ↑e):Int)-2)).1)-((gI (gI p.2 ↑e) ((List.length (gI p.2 ↑e):Int)-1)).1),((gI (gI p.2 ↑e) ((List.length (gI p.2 ↑e):Int)-2)).2)-((gI (gI p.2 ↑e) ((List.length (gI p.2 ↑e):Int)-1)).2),az (bk (gI (gI p.2 ↑e) ((List.length (gI p.2 ↑e):Int)-1)) (gI (gI p.2 ↑e) ((List.length (gI p.2 ↑e):Int)-2))))]:List ((Int)×(Int)×(Nat)))) g877 (J:=bW 3 (Int.toNat ((gI g.2 ↑e).2)+1)) (S:=bW 3 (Int.toNat ((gI g.2 ↑e).2)+1)) (3,Int.toNat ((gI g.2 ↑e).2)+1) rfl d4 aW (by decide) rfl rfl rfl r873 o881.flat (by decide) (by exact ct (dk hrw) (by omega)) ?_
      intro g883 w884 v885 ch886 o887
      have o888:=o498.rowchg ch886
      clear o498 cel872 r873
      have hs889:=hs882.seq (ch886.lr rfl)
      refine⟨hs889.same,?_⟩
      refine aE 23 rfl (by kernel_rfl) rfl ?_
      obtain⟨us890,hl891,r892⟩:=o888.vc
      try simp only[List.length_set,List.length_append,List.length_cons,List.length_nil] at hl891
      refine aI (v:=Value.pointer (some (bb v13 1 (Int.toNat ((gI g.2 ↑e).2))))) (af (α:=Vc) (xs:=us890) (v:=v13) (i:=(gI g.2 ↑e).2) e8 rfl rfl r892 rfl (by omega) (by omega)) ?_
      refine⟨hs889.same,?_⟩
      refine aE 24 rfl (by kernel_rfl) rfl (bf (r:=(gI g.2 ↑e).2) aX rfl rfl o888 o887 (by omega) (by(simp only[List.length_set,List.length_append,List.length_cons,List.length_nil,List.length_replicate,List.length_map,List.length_take,List.length_drop];omega)) ?_)
      intro w896 ch897 o898
      clear o888 o887
      have hs899:=hs889.seq (ch897.l rfl)
      refine⟨hs899.same,?_⟩
      refine bI (by kernel_rfl) ?_
      have C900:=cg [3,5,6] (ch818.n.seq ((ch821.l rfl).seq ((ch825.l rfl).seq (ch830.n.seq (hb869.n.seq (hb875.n.seq (ch880.n.seq ((ch886.lr rfl).seq (ch897.l rfl)))))))))
      have C901:=cg [5,6] ((ch821.l rfl).seq ((ch825.l rfl).seq ch830.n))
      replace Rg:=Rg.ca C832
      replace Rp:=Rp.ca C832
      replace r_p_v1:=r_p_v1.ca C832
      replace bx10:=bx10.ca C832
      replace r31:=r31.ca C901
      exact mid (g883) _ _ ⟨bH.ca C900,zs3,zs5,zs8,zs9,zs18,zs19,zs20,zs32,zs33,(Rg.ca hs899),(Rp.ca hs899),(r_p_v1.ca hs899),(bx10.ca hs899),(r31.ca hs899),o898⟩
     ·
      refine aP (v:=Value.float .f64 (az (bk (gI (gI p.2 ↑e) ((List.length (gI p.2 ↑e):Int)-1)) (gI (gI p.2 ↑e) ((List.length (gI p.2 ↑e):Int)-2))))) (aG (vals:=[Value.float .f64 (bk (gI (gI p.2 ↑e) ((List.length (gI p.2 ↑e):Int)-1)) (gI (gI p.2 ↑e) ((List.length (gI p.2 ↑e):Int)-2)))]) Try.func46 c9 c8 rfl) (c7 w868 (bk (gI (gI p.2 ↑e) ((List.length (gI p.2 ↑e):Int)-1)) (gI (gI p.2 ↑e) ((List.length (gI p.2 ↑e):Int)-2))) (by exact cq _ _)) ?_
      intro w902 hb903
      replace hb903:=am hb903 g817
      have hs904:=hs870.seq (hb903.n)
      refine⟨hs904.same,?_⟩
      refine ht (v:=vg [vi (((gI (gI p.2 ↑e) ((List.length (gI p.2 ↑e):Int)-2)).1)-((gI (gI p.2 ↑e) ((List.length (gI p.2 ↑e):Int)-1)).1)),vi (((gI (gI p.2 ↑e) ((List.length (gI p.2 ↑e):Int)-2)).2)-((gI (gI p.2 ↑e) ((List.length (gI p.2 ↑e):Int)-1)).2)),Value.float .f64 (az (bk (gI (gI p.2 ↑e) ((List.length (gI p.2 ↑e):Int)-1)) (gI (gI p.2 ↑e) ((List.length (gI p.2 ↑e):Int)-2))))]) 20 rfl hs904.same (λw' hw'=>bB (vs:=[(0,vi (((gI (gI p.2 ↑e) ((List.length (gI p.2 ↑e):Int)-2)).1)-((gI (gI p.2 ↑e) ((List.length (gI p.2 ↑e):Int)-1)).1))),(1,vi (((gI (gI p.2 ↑e) ((List.length (gI p.2 ↑e):Int)-2)).2)-((gI (gI p.2 ↑e) ((List.length (gI p.2 ↑e):Int)-1)).2))),(2,Value.float .f64 (az (bk (gI (gI p.2 ↑e) ((List.length (gI p.2 ↑e):Int)-1)) (gI (gI p.2 ↑e) ((List.length (gI p.2 ↑e):Int)-2)))))]) rfl (by kernel_rfl)) ?_
      refine bJ 5 [21] (by kernel_rfl) ⟨bL 5 rfl (by kernel_rfl) rfl ?_,bL 21 rfl (by kernel_rfl) rfl ?_,trivial⟩
      ·
       replace o498:=(o498.cn hb869).cn hb903
       obtain⟨v905,cel906,r907⟩:=bG (r:=(gI g.2 ↑e).2) o498 (by omega) (by(simp only[List.length_set,List.length_append,List.length_cons,List.length_nil,List.length_replicate,List.length_map,List.length_take,List.length_drop];omega))
       refine aI (v:=v905) (aZ aX rfl cel906) ?_
       refine⟨hs904.same,?_⟩
       refine aE 21 rfl (by kernel_rfl) rfl ?_
       refine aH (α:=(Int)×(Int)×(Nat)) g817 (is 7) (is 7) (7,0) rfl ([(((gI (gI p.2 ↑e) ((List.length (gI p.2 ↑e):Int)-2)).1)-((gI (gI p.2 ↑e) ((List.length (gI p.2 ↑e):Int)-1)).1),((gI (gI p.2 ↑e) ((List.length (gI p.2 ↑e):Int)-2)).2)-((gI (gI p.2 ↑e) ((List.length (gI p.2 ↑e):Int)-1)).2),az (bk (gI (gI p.2 ↑e) ((List.length (gI p.2 ↑e):Int)-1)) (gI (gI p.2 ↑e) ((List.length (gI p.2 ↑e):Int)-2))))]:List ((Int)×(Int)×(Nat))) d4 aW (by decide) (by decide) (vs:=[(0,vg [vi (((gI (gI p.2 ↑e) ((List.length (gI p.2 ↑e):Int)-2)).1)-((gI (gI p.2 ↑e) ((List.length (gI p.2 ↑e):Int)-1)).1)),vi (((gI (gI p.2 ↑e) ((List.length (gI p.2 ↑e):Int)-2)).2)-((gI (gI p.2 ↑e) ((List.length (gI p.2 ↑e):Int)-1)).2)),Value.float .f64 (az (bk (gI (gI p.2 ↑e) ((List.length (gI p.2 ↑e):Int)-1)) (gI (gI p.2 ↑e) ((List.length (gI p.2 ↑e):Int)-2))))])]) rfl rfl (.cons rfl .nil) ?_
       intro g908 w909 v910 ch911 o912
       have hs913:=hs904.seq (ch911.n)
       refine⟨hs913.same,?_⟩
       refine aE 22 rfl (by kernel_rfl) rfl ?_
       replace o498:=o498.cn ch911
       replace r907:=r907.cn ch911
       refine bj (α:=(Int)×(Int)×(Nat)) (xs:=(gI (List.set L (Int.toNat ((gI g.2 ↑e).1)) (gI L ((gI g.2 ↑e).1)++([(((gI (gI p.2 ↑e) 1).1)-((gI (gI p.2 ↑e) 0).1),((gI (gI p.2 ↑e) 1).2)-((gI (gI p.2 ↑e) 0).2),az (bk (gI (gI p.2 ↑e) 0) (gI (gI p.2 ↑e) 1)))]:List ((Int)×(Int)×(Nat))))) ((gI g.2 ↑e).2))) (ys:=([(((gI (gI p.2 ↑e) ((List.length (gI p.2 ↑e):Int)-2)).1)-((gI (gI p.2 ↑e) ((List.length (gI p.2 ↑e):Int)-1)).1),((gI (gI p.2 ↑e) ((List.length (gI p.2 ↑e):Int)-2)).2)-((gI (gI p.2 ↑e) ((List.length (gI p.2 ↑e):Int)-1)).2),az (bk (gI (gI p.2 ↑e) ((List.length (gI p.2 ↑e):Int)-1)) (gI (gI p.2 ↑e) ((List.length (gI p.2 ↑e):Int)-2))))]:List ((Int)×(Int)×(Nat)))) g908 (J:=bW 3 (Int.toNat ((gI g.2 ↑e).2)+1)) (S:=bW 3 (Int.toNat ((gI g.2 ↑e).2)+1)) (3,Int.toNat ((gI g.2 ↑e).2)+1) rfl d4 aW (by decide) rfl rfl rfl r907 o912.flat (by decide) (by exact ct (dk hrw) (by omega)) ?_
       intro g914 w915 v916 ch917 o918
       have o919:=o498.rowchg ch917
       clear o498 cel906 r907
       have hs920:=hs913.seq (ch917.lr rfl)
       refine⟨hs920.same,?_⟩
       refine aE 23 rfl (by kernel_rfl) rfl ?_
       obtain⟨us921,hl922,r923⟩:=o919.vc
       try simp only[List.length_set,List.length_append,List.length_cons,List.length_nil] at hl922
       refine aI (v:=Value.pointer (some (bb v13 1 (Int.toNat ((gI g.2 ↑e).2))))) (af (α:=Vc) (xs:=us921) (v:=v13) (i:=(gI g.2 ↑e).2) e8 rfl rfl r923 rfl (by omega) (by omega)) ?_
       refine⟨hs920.same,?_⟩
       refine aE 24 rfl (by kernel_rfl) rfl (bf (r:=(gI g.2 ↑e).2) aX rfl rfl o919 o918 (by omega) (by(simp only[List.length_set,List.length_append,List.length_cons,List.length_nil,List.length_replicate,List.length_map,List.length_take,List.length_drop];omega)) ?_)
       intro w927 ch928 o929
       clear o919 o918
       have hs930:=hs920.seq (ch928.l rfl)
       refine⟨hs930.same,?_⟩
       refine bI (by kernel_rfl) ?_
       have C931:=cg [3,5,6] (ch818.n.seq ((ch821.l rfl).seq ((ch825.l rfl).seq (ch830.n.seq (hb869.n.seq (hb903.n.seq (ch911.n.seq ((ch917.lr rfl).seq (ch928.l rfl)))))))))
       have C932:=cg [5,6] ((ch821.l rfl).seq ((ch825.l rfl).seq ch830.n))
       replace Rg:=Rg.ca C832
       replace Rp:=Rp.ca C832
       replace r_p_v1:=r_p_v1.ca C832
       replace bx10:=bx10.ca C832
       replace r31:=r31.ca C932
       exact mid (g914) _ _ ⟨bH.ca C931,zs3,zs5,zs8,zs9,zs18,zs19,zs20,zs32,zs33,(Rg.ca hs930),(Rp.ca hs930),(r_p_v1.ca hs930),(bx10.ca hs930),(r31.ca hs930),o929⟩
      ·
       refine aH (α:=(Int)×(Int)×(Nat)) g817 (is 7) (is 7) (7,0) rfl ([(((gI (gI p.2 ↑e) ((List.length (gI p.2 ↑e):Int)-2)).1)-((gI (gI p.2 ↑e) ((List.length (gI p.2 ↑e):Int)-1)).1),((gI (gI p.2 ↑e) ((List.length (gI p.2 ↑e):Int)-2)).2)-((gI (gI p.2 ↑e) ((List.length (gI p.2 ↑e):Int)-1)).2),az (bk (gI (gI p.2 ↑e) ((List.length (gI p.2 ↑e):Int)-1)) (gI (gI p.2 ↑e) ((List.length (gI p.2 ↑e):Int)-2))))]:List ((Int)×(Int)×(Nat))) d4 aW (by decide) (by decide) (vs:=[(0,vg [vi (((gI (gI p.2 ↑e) ((List.length (gI p.2 ↑e):Int)-2)).1)-((gI (gI p.2 ↑e) ((List.length (gI p.2 ↑e):Int)-1)).1)),vi (((gI (gI p.2 ↑e) ((List.length (gI p.2 ↑e):Int)-2)).2)-((gI (gI p.2 ↑e) ((List.length (gI p.2 ↑e):Int)-1)).2)),Value.float .f64 (az (bk (gI (gI p.2 ↑e) ((List.length (gI p.2 ↑e):Int)-1)) (gI (gI p.2 ↑e) ((List.length (gI p.2 ↑e):Int)-2))))])]) rfl rfl (.cons rfl .nil) ?_
       intro g933 w934 v935 ch936 o937
       have hs938:=hs904.seq (ch936.n)
       refine⟨hs938.same,?_⟩
       refine aE 5 rfl (by kernel_rfl) rfl ?_
       have C939:=cg [] (hb869.n.seq (hb903.n.seq ch936.n))
       replace o498:=o498.ca C939
       obtain⟨v940,cel941,r942⟩:=bG (r:=(gI g.2 ↑e).2) o498 (by omega) (by(simp only[List.length_set,List.length_append,List.length_cons,List.length_nil,List.length_replicate,List.length_map,List.length_take,List.length_drop];omega))
       refine aI (v:=v940) (aZ aX rfl cel941) ?_
       refine⟨hs938.same,?_⟩
       refine aE 22 rfl (by kernel_rfl) rfl ?_
       refine bj (α:=(Int)×(Int)×(Nat)) (xs:=(gI (List.set L (Int.toNat ((gI g.2 ↑e).1)) (gI L ((gI g.2 ↑e).1)++([(((gI (gI p.2 ↑e) 1).1)-((gI (gI p.2 ↑e) 0).1),((gI (gI p.2 ↑e) 1).2)-((gI (gI p.2 ↑e) 0).2),az (bk (gI (gI p.2 ↑e) 0) (gI (gI p.2 ↑e) 1)))]:List ((Int)×(Int)×(Nat))))) ((gI g.2 ↑e).2))) (ys:=([(((gI (gI p.2 ↑e) ((List.length (gI p.2 ↑e):Int)-2)).1)-((gI (gI p.2 ↑e) ((List.length (gI p.2 ↑e):Int)-1)).1),((gI (gI p.2 ↑e) ((List.length (gI p.2 ↑e):Int)-2)).2)-((gI (gI p.2 ↑e) ((List.length (gI p.2 ↑e):Int)-1)).2),az (bk (gI (gI p.2 ↑e) ((List.length (gI p.2 ↑e):Int)-1)) (gI (gI p.2 ↑e) ((List.length (gI p.2 ↑e):Int)-2))))]:List ((Int)×(Int)×(Nat)))) g933 (J:=bW 3 (Int.toNat ((gI g.2 ↑e).2)+1)) (S:=bW 3 (Int.toNat ((gI g.2 ↑e).2)+1)) (3,Int.toNat ((gI g.2 ↑e).2)+1) rfl d4 aW (by decide) rfl rfl rfl r942 o937.flat (by decide) (by exact ct (dk hrw) (by omega)) ?_
       intro g943 w944 v945 ch946 o947
       have o948:=o498.rowchg ch946
       clear o498 cel941 r942
       have hs949:=hs938.seq (ch946.lr rfl)
       refine⟨hs949.same,?_⟩
       refine aE 23 rfl (by kernel_rfl) rfl ?_
       obtain⟨us950,hl951,r952⟩:=o948.vc
       try simp only[List.length_set,List.length_append,List.length_cons,List.length_nil] at hl951
       refine aI (v:=Value.pointer (some (bb v13 1 (Int.toNat ((gI g.2 ↑e).2))))) (af (α:=Vc) (xs:=us950) (v:=v13) (i:=(gI g.2 ↑e).2) e8 rfl rfl r952 rfl (by omega) (by omega)) ?_
       refine⟨hs949.same,?_⟩
       refine aE 24 rfl (by kernel_rfl) rfl (bf (r:=(gI g.2 ↑e).2) aX rfl rfl o948 o947 (by omega) (by(simp only[List.length_set,List.length_append,List.length_cons,List.length_nil,List.length_replicate,List.length_map,List.length_take,List.length_drop];omega)) ?_)
       intro w956 ch957 o958
       clear o948 o947
       have hs959:=hs949.seq (ch957.l rfl)
       refine⟨hs959.same,?_⟩
       refine bI (by kernel_rfl) ?_
       have C960:=cg [3,5,6] (ch818.n.seq ((ch821.l rfl).seq ((ch825.l rfl).seq (ch830.n.seq (hb869.n.seq (hb903.n.seq (ch936.n.seq ((ch946.lr rfl).seq (ch957.l rfl)))))))))
       have C961:=cg [5,6] ((ch821.l rfl).seq ((ch825.l rfl).seq ch830.n))
       replace Rg:=Rg.ca C832
       replace Rp:=Rp.ca C832
       replace r_p_v1:=r_p_v1.ca C832
       replace bx10:=bx10.ca C832
       replace r31:=r31.ca C961
       exact mid (g943) _ _ ⟨bH.ca C960,zs3,zs5,zs8,zs9,zs18,zs19,zs20,zs32,zs33,(Rg.ca hs959),(Rp.ca hs959),(r_p_v1.ca hs959),(bx10.ca hs959),(r31.ca hs959),o958⟩
   ·
    refine aP (v:=Value.float .f64 (bk (gI (gI p.2 ↑e) ((List.length (gI p.2 ↑e):Int)-1)) (gI (gI p.2 ↑e) ((List.length (gI p.2 ↑e):Int)-2)))) (aG (vals:=[vg [vi ((gI (gI p.2 ↑e) ((List.length (gI p.2 ↑e):Int)-1)).1),vi ((gI (gI p.2 ↑e) ((List.length (gI p.2 ↑e):Int)-1)).2)],vg [vi ((gI (gI p.2 ↑e) ((List.length (gI p.2 ↑e):Int)-2)).1),vi ((gI (gI p.2 ↑e) ((List.length (gI p.2 ↑e):Int)-2)).2)]]) Try.func47 dp dj rfl) (cm w831 (gI (gI p.2 ↑e) ((List.length (gI p.2 ↑e):Int)-1)) (gI (gI p.2 ↑e) ((List.length (gI p.2 ↑e):Int)-2)) (by exact hl3.2 _ (bl (by omega) (by omega))) (by exact hl3.2 _ (bl (by omega) (by omega)))) ?_
    intro w962 hb963
    replace hb963:=am hb963 g817
    have hs964:bh (inl [3]) _ _ _ _:=hb963.n
    refine⟨hs964.same,?_⟩
    refine bJ 4 [19] (by kernel_rfl) ⟨bL 4 rfl (by kernel_rfl) rfl ?_,bL 19 rfl (by kernel_rfl) rfl ?_,trivial⟩
    ·
     have C965:=cg [5,6] (ch818.n.seq ((ch821.l rfl).seq ((ch825.l rfl).seq (ch830.n.seq hb963.n))))
     replace o498:=o498.ca C965
     refine aI (v:=Value.pointer (some (bb v13 1 (Int.toNat ((gI g.2 ↑e).2))))) (af (α:=List ((Int)×(Int)×(Nat))) (xs:=(List.set L (Int.toNat ((gI g.2 ↑e).1)) (gI L ((gI g.2 ↑e).1)++([(((gI (gI p.2 ↑e) 1).1)-((gI (gI p.2 ↑e) 0).1),((gI (gI p.2 ↑e) 1).2)-((gI (gI p.2 ↑e) 0).2),az (bk (gI (gI p.2 ↑e) 0) (gI (gI p.2 ↑e) 1)))]:List ((Int)×(Int)×(Nat)))))) (v:=v13) (i:=(gI g.2 ↑e).2) e8 rfl rfl o498.sl rfl (by omega) (by(simp only[List.length_set,List.length_append,List.length_cons,List.length_nil,List.length_replicate,List.length_map,List.length_take,List.length_drop];omega))) ?_
     refine⟨hs964.same,?_⟩
     refine bJ 5 [19] (by kernel_rfl) ⟨bL 5 rfl (by kernel_rfl) rfl ?_,bL 19 rfl (by kernel_rfl) rfl ?_,trivial⟩
     ·
      obtain⟨v966,cel967,r968⟩:=bG (r:=(gI g.2 ↑e).2) o498 (by omega) (by(simp only[List.length_set,List.length_append,List.length_cons,List.length_nil,List.length_replicate,List.length_map,List.length_take,List.length_drop];omega))
      refine aI (v:=v966) (aZ aX rfl cel967) ?_
      refine⟨hs964.same,?_⟩
      refine aE 19 rfl (by kernel_rfl) rfl (aP (v:=Value.float .f64 (az (bk (gI (gI p.2 ↑e) ((List.length (gI p.2 ↑e):Int)-1)) (gI (gI p.2 ↑e) ((List.length (gI p.2 ↑e):Int)-2))))) (aG (vals:=[Value.float .f64 (bk (gI (gI p.2 ↑e) ((List.length (gI p.2 ↑e):Int)-1)) (gI (gI p.2 ↑e) ((List.length (gI p.2 ↑e):Int)-2)))]) Try.func46 c9 c8 rfl) (c7 w962 (bk (gI (gI p.2 ↑e) ((List.length (gI p.2 ↑e):Int)-1)) (gI (gI p.2 ↑e) ((List.length (gI p.2 ↑e):Int)-2))) (by exact cq _ _)) ?_)
      intro w969 hb970
      replace hb970:=am hb970 g817
      have hs971:=hs964.seq (hb970.n)
      refine⟨hs971.same,?_⟩
      refine ht (v:=vg [vi (((gI (gI p.2 ↑e) ((List.length (gI p.2 ↑e):Int)-2)).1)-((gI (gI p.2 ↑e) ((List.length (gI p.2 ↑e):Int)-1)).1)),vi (((gI (gI p.2 ↑e) ((List.length (gI p.2 ↑e):Int)-2)).2)-((gI (gI p.2 ↑e) ((List.length (gI p.2 ↑e):Int)-1)).2)),Value.float .f64 (az (bk (gI (gI p.2 ↑e) ((List.length (gI p.2 ↑e):Int)-1)) (gI (gI p.2 ↑e) ((List.length (gI p.2 ↑e):Int)-2))))]) 20 rfl hs971.same (λw' hw'=>bB (vs:=[(0,vi (((gI (gI p.2 ↑e) ((List.length (gI p.2 ↑e):Int)-2)).1)-((gI (gI p.2 ↑e) ((List.length (gI p.2 ↑e):Int)-1)).1))),(1,vi (((gI (gI p.2 ↑e) ((List.length (gI p.2 ↑e):Int)-2)).2)-((gI (gI p.2 ↑e) ((List.length (gI p.2 ↑e):Int)-1)).2))),(2,Value.float .f64 (az (bk (gI (gI p.2 ↑e) ((List.length (gI p.2 ↑e):Int)-1)) (gI (gI p.2 ↑e) ((List.length (gI p.2 ↑e):Int)-2)))))]) rfl (by kernel_rfl)) ?_
      refine aE 21 rfl (by kernel_rfl) rfl ?_
      refine aH (α:=(Int)×(Int)×(Nat)) g817 (is 7) (is 7) (7,0) rfl ([(((gI (gI p.2 ↑e) ((List.length (gI p.2 ↑e):Int)-2)).1)-((gI (gI p.2 ↑e) ((List.length (gI p.2 ↑e):Int)-1)).1),((gI (gI p.2 ↑e) ((List.length (gI p.2 ↑e):Int)-2)).2)-((gI (gI p.2 ↑e) ((List.length (gI p.2 ↑e):Int)-1)).2),az (bk (gI (gI p.2 ↑e) ((List.length (gI p.2 ↑e):Int)-1)) (gI (gI p.2 ↑e) ((List.length (gI p.2 ↑e):Int)-2))))]:List ((Int)×(Int)×(Nat))) d4 aW (by decide) (by decide) (vs:=[(0,vg [vi (((gI (gI p.2 ↑e) ((List.length (gI p.2 ↑e):Int)-2)).1)-((gI (gI p.2 ↑e) ((List.length (gI p.2 ↑e):Int)-1)).1)),vi (((gI (gI p.2 ↑e) ((List.length (gI p.2 ↑e):Int)-2)).2)-((gI (gI p.2 ↑e) ((List.length (gI p.2 ↑e):Int)-1)).2)),Value.float .f64 (az (bk (gI (gI p.2 ↑e) ((List.length (gI p.2 ↑e):Int)-1)) (gI (gI p.2 ↑e) ((List.length (gI p.2 ↑e):Int)-2))))])]) rfl rfl (.cons rfl .nil) ?_
      intro g972 w973 v974 ch975 o976
      have hs977:=hs971.seq (ch975.n)
      refine⟨hs977.same,?_⟩
      refine aE 22 rfl (by kernel_rfl) rfl ?_
      replace o498:=(o498.cn hb970).cn ch975
      replace r968:=(r968.cn hb970).cn ch975
      refine bj (α:=(Int)×(Int)×(Nat)) (xs:=(gI (List.set L (Int.toNat ((gI g.2 ↑e).1)) (gI L ((gI g.2 ↑e).1)++([(((gI (gI p.2 ↑e) 1).1)-((gI (gI p.2 ↑e) 0).1),((gI (gI p.2 ↑e) 1).2)-((gI (gI p.2 ↑e) 0).2),az (bk (gI (gI p.2 ↑e) 0) (gI (gI p.2 ↑e) 1)))]:List ((Int)×(Int)×(Nat))))) ((gI g.2 ↑e).2))) (ys:=([(((gI (gI p.2 ↑e) ((List.length (gI p.2 ↑e):Int)-2)).1)-((gI (gI p.2 ↑e) ((List.length (gI p.2 ↑e):Int)-1)).1),((gI (gI p.2 ↑e) ((List.length (gI p.2 ↑e):Int)-2)).2)-((gI (gI p.2 ↑e) ((List.length (gI p.2 ↑e):Int)-1)).2),az (bk (gI (gI p.2 ↑e) ((List.length (gI p.2 ↑e):Int)-1)) (gI (gI p.2 ↑e) ((List.length (gI p.2 ↑e):Int)-2))))]:List ((Int)×(Int)×(Nat)))) g972 (J:=bW 3 (Int.toNat ((gI g.2 ↑e).2)+1)) (S:=bW 3 (Int.toNat ((gI g.2 ↑e).2)+1)) (3,Int.toNat ((gI g.2 ↑e).2)+1) rfl d4 aW (by decide) rfl rfl rfl r968 o976.flat (by decide) (by exact ct (dk hrw) (by omega)) ?_
      intro g978 w979 v980 ch981 o982
      have o983:=o498.rowchg ch981
      clear o498 cel967 r968
      have hs984:=hs977.seq (ch981.lr rfl)
      refine⟨hs984.same,?_⟩
      refine aE 23 rfl (by kernel_rfl) rfl ?_
      obtain⟨us985,hl986,r987⟩:=o983.vc
      try simp only[List.length_set,List.length_append,List.length_cons,List.length_nil] at hl986
      refine aI (v:=Value.pointer (some (bb v13 1 (Int.toNat ((gI g.2 ↑e).2))))) (af (α:=Vc) (xs:=us985) (v:=v13) (i:=(gI g.2 ↑e).2) e8 rfl rfl r987 rfl (by omega) (by omega)) ?_
      refine⟨hs984.same,?_⟩
      refine aE 24 rfl (by kernel_rfl) rfl (bf (r:=(gI g.2 ↑e).2) aX rfl rfl o983 o982 (by omega) (by(simp only[List.length_set,List.length_append,List.length_cons,List.length_nil,List.length_replicate,List.length_map,List.length_take,List.length_drop];omega)) ?_)
      intro w991 ch992 o993
      clear o983 o982
      have hs994:=hs984.seq (ch992.l rfl)
      refine⟨hs994.same,?_⟩
      refine bI (by kernel_rfl) ?_
      have C995:=cg [3,5,6] (ch818.n.seq ((ch821.l rfl).seq ((ch825.l rfl).seq (ch830.n.seq (hb963.n.seq (hb970.n.seq (ch975.n.seq ((ch981.lr rfl).seq (ch992.l rfl)))))))))
      have C997:=cg [5,6] ((ch821.l rfl).seq ((ch825.l rfl).seq ch830.n))
      have C996:=ch818.n.seq C997
      replace Rg:=Rg.ca C996
      replace Rp:=Rp.ca C996
      replace r_p_v1:=r_p_v1.ca C996
      replace bx10:=bx10.ca C996
      replace r31:=r31.ca C997
      exact mid (g978) _ _ ⟨bH.ca C995,zs3,zs5,zs8,zs9,zs18,zs19,zs20,zs32,zs33,(Rg.ca hs994),(Rp.ca hs994),(r_p_v1.ca hs994),(bx10.ca hs994),(r31.ca hs994),o993⟩
     ·
      refine aP (v:=Value.float .f64 (az (bk (gI (gI p.2 ↑e) ((List.length (gI p.2 ↑e):Int)-1)) (gI (gI p.2 ↑e) ((List.length (gI p.2 ↑e):Int)-2))))) (aG (vals:=[Value.float .f64 (bk (gI (gI p.2 ↑e) ((List.length (gI p.2 ↑e):Int)-1)) (gI (gI p.2 ↑e) ((List.length (gI p.2 ↑e):Int)-2)))]) Try.func46 c9 c8 rfl) (c7 w962 (bk (gI (gI p.2 ↑e) ((List.length (gI p.2 ↑e):Int)-1)) (gI (gI p.2 ↑e) ((List.length (gI p.2 ↑e):Int)-2))) (by exact cq _ _)) ?_
      intro w998 hb999
      replace hb999:=am hb999 g817
      have hs1000:=hs964.seq (hb999.n)
      refine⟨hs1000.same,?_⟩
      refine ht (v:=vg [vi (((gI (gI p.2 ↑e) ((List.length (gI p.2 ↑e):Int)-2)).1)-((gI (gI p.2 ↑e) ((List.length (gI p.2 ↑e):Int)-1)).1)),vi (((gI (gI p.2 ↑e) ((List.length (gI p.2 ↑e):Int)-2)).2)-((gI (gI p.2 ↑e) ((List.length (gI p.2 ↑e):Int)-1)).2)),Value.float .f64 (az (bk (gI (gI p.2 ↑e) ((List.length (gI p.2 ↑e):Int)-1)) (gI (gI p.2 ↑e) ((List.length (gI p.2 ↑e):Int)-2))))]) 20 rfl hs1000.same (λw' hw'=>bB (vs:=[(0,vi (((gI (gI p.2 ↑e) ((List.length (gI p.2 ↑e):Int)-2)).1)-((gI (gI p.2 ↑e) ((List.length (gI p.2 ↑e):Int)-1)).1))),(1,vi (((gI (gI p.2 ↑e) ((List.length (gI p.2 ↑e):Int)-2)).2)-((gI (gI p.2 ↑e) ((List.length (gI p.2 ↑e):Int)-1)).2))),(2,Value.float .f64 (az (bk (gI (gI p.2 ↑e) ((List.length (gI p.2 ↑e):Int)-1)) (gI (gI p.2 ↑e) ((List.length (gI p.2 ↑e):Int)-2)))))]) rfl (by kernel_rfl)) ?_
      refine bJ 5 [21] (by kernel_rfl) ⟨bL 5 rfl (by kernel_rfl) rfl ?_,bL 21 rfl (by kernel_rfl) rfl ?_,trivial⟩
      ·
       replace o498:=o498.cn hb999
       obtain⟨v1001,cel1002,r1003⟩:=bG (r:=(gI g.2 ↑e).2) o498 (by omega) (by(simp only[List.length_set,List.length_append,List.length_cons,List.length_nil,List.length_replicate,List.length_map,List.length_take,List.length_drop];omega))
       refine aI (v:=v1001) (aZ aX rfl cel1002) ?_
       refine⟨hs1000.same,?_⟩
       refine aE 21 rfl (by kernel_rfl) rfl ?_
       refine aH (α:=(Int)×(Int)×(Nat)) g817 (is 7) (is 7) (7,0) rfl ([(((gI (gI p.2 ↑e) ((List.length (gI p.2 ↑e):Int)-2)).1)-((gI (gI p.2 ↑e) ((List.length (gI p.2 ↑e):Int)-1)).1),((gI (gI p.2 ↑e) ((List.length (gI p.2 ↑e):Int)-2)).2)-((gI (gI p.2 ↑e) ((List.length (gI p.2 ↑e):Int)-1)).2),az (bk (gI (gI p.2 ↑e) ((List.length (gI p.2 ↑e):Int)-1)) (gI (gI p.2 ↑e) ((List.length (gI p.2 ↑e):Int)-2))))]:List ((Int)×(Int)×(Nat))) d4 aW (by decide) (by decide) (vs:=[(0,vg [vi (((gI (gI p.2 ↑e) ((List.length (gI p.2 ↑e):Int)-2)).1)-((gI (gI p.2 ↑e) ((List.length (gI p.2 ↑e):Int)-1)).1)),vi (((gI (gI p.2 ↑e) ((List.length (gI p.2 ↑e):Int)-2)).2)-((gI (gI p.2 ↑e) ((List.length (gI p.2 ↑e):Int)-1)).2)),Value.float .f64 (az (bk (gI (gI p.2 ↑e) ((List.length (gI p.2 ↑e):Int)-1)) (gI (gI p.2 ↑e) ((List.length (gI p.2 ↑e):Int)-2))))])]) rfl rfl (.cons rfl .nil) ?_
       intro g1004 w1005 v1006 ch1007 o1008
       have hs1009:=hs1000.seq (ch1007.n)
       refine⟨hs1009.same,?_⟩
       refine aE 22 rfl (by kernel_rfl) rfl ?_
       replace o498:=o498.cn ch1007
       replace r1003:=r1003.cn ch1007
       refine bj (α:=(Int)×(Int)×(Nat)) (xs:=(gI (List.set L (Int.toNat ((gI g.2 ↑e).1)) (gI L ((gI g.2 ↑e).1)++([(((gI (gI p.2 ↑e) 1).1)-((gI (gI p.2 ↑e) 0).1),((gI (gI p.2 ↑e) 1).2)-((gI (gI p.2 ↑e) 0).2),az (bk (gI (gI p.2 ↑e) 0) (gI (gI p.2 ↑e) 1)))]:List ((Int)×(Int)×(Nat))))) ((gI g.2 ↑e).2))) (ys:=([(((gI (gI p.2 ↑e) ((List.length (gI p.2 ↑e):Int)-2)).1)-((gI (gI p.2 ↑e) ((List.length (gI p.2 ↑e):Int)-1)).1),((gI (gI p.2 ↑e) ((List.length (gI p.2 ↑e):Int)-2)).2)-((gI (gI p.2 ↑e) ((List.length (gI p.2 ↑e):Int)-1)).2),az (bk (gI (gI p.2 ↑e) ((List.length (gI p.2 ↑e):Int)-1)) (gI (gI p.2 ↑e) ((List.length (gI p.2 ↑e):Int)-2))))]:List ((Int)×(Int)×(Nat)))) g1004 (J:=bW 3 (Int.toNat ((gI g.2 ↑e).2)+1)) (S:=bW 3 (Int.toNat ((gI g.2 ↑e).2)+1)) (3,Int.toNat ((gI g.2 ↑e).2)+1) rfl d4 aW (by decide) rfl rfl rfl r1003 o1008.flat (by decide) (by exact ct (dk hrw) (by omega)) ?_
       intro g1010 w1011 v1012 ch1013 o1014
       have o1015:=o498.rowchg ch1013
       clear o498 cel1002 r1003
       have hs1016:=hs1009.seq (ch1013.lr rfl)
       refine⟨hs1016.same,?_⟩
       refine aE 23 rfl (by kernel_rfl) rfl ?_
       obtain⟨us1017,hl1018,r1019⟩:=o1015.vc
       try simp only[List.length_set,List.length_append,List.length_cons,List.length_nil] at hl1018
       refine aI (v:=Value.pointer (some (bb v13 1 (Int.toNat ((gI g.2 ↑e).2))))) (af (α:=Vc) (xs:=us1017) (v:=v13) (i:=(gI g.2 ↑e).2) e8 rfl rfl r1019 rfl (by omega) (by omega)) ?_
       refine⟨hs1016.same,?_⟩
       refine aE 24 rfl (by kernel_rfl) rfl (bf (r:=(gI g.2 ↑e).2) aX rfl rfl o1015 o1014 (by omega) (by(simp only[List.length_set,List.length_append,List.length_cons,List.length_nil,List.length_replicate,List.length_map,List.length_take,List.length_drop];omega)) ?_)
       intro w1023 ch1024 o1025
       clear o1015 o1014
       have hs1026:=hs1016.seq (ch1024.l rfl)
       refine⟨hs1026.same,?_⟩
       refine bI (by kernel_rfl) ?_
       have C1027:=cg [3,5,6] (ch818.n.seq ((ch821.l rfl).seq ((ch825.l rfl).seq (ch830.n.seq (hb963.n.seq (hb999.n.seq (ch1007.n.seq ((ch1013.lr rfl).seq (ch1024.l rfl)))))))))
       have C1029:=cg [5,6] ((ch821.l rfl).seq ((ch825.l rfl).seq ch830.n))
       have C1028:=ch818.n.seq C1029
       replace Rg:=Rg.ca C1028
       replace Rp:=Rp.ca C1028
       replace r_p_v1:=r_p_v1.ca C1028
       replace bx10:=bx10.ca C1028
       replace r31:=r31.ca C1029
       exact mid (g1010) _ _ ⟨bH.ca C1027,zs3,zs5,zs8,zs9,zs18,zs19,zs20,zs32,zs33,(Rg.ca hs1026),(Rp.ca hs1026),(r_p_v1.ca hs1026),(bx10.ca hs1026),(r31.ca hs1026),o1025⟩
      ·
       refine aH (α:=(Int)×(Int)×(Nat)) g817 (is 7) (is 7) (7,0) rfl ([(((gI (gI p.2 ↑e) ((List.length (gI p.2 ↑e):Int)-2)).1)-((gI (gI p.2 ↑e) ((List.length (gI p.2 ↑e):Int)-1)).1),((gI (gI p.2 ↑e) ((List.length (gI p.2 ↑e):Int)-2)).2)-((gI (gI p.2 ↑e) ((List.length (gI p.2 ↑e):Int)-1)).2),az (bk (gI (gI p.2 ↑e) ((List.length (gI p.2 ↑e):Int)-1)) (gI (gI p.2 ↑e) ((List.length (gI p.2 ↑e):Int)-2))))]:List ((Int)×(Int)×(Nat))) d4 aW (by decide) (by decide) (vs:=[(0,vg [vi (((gI (gI p.2 ↑e) ((List.length (gI p.2 ↑e):Int)-2)).1)-((gI (gI p.2 ↑e) ((List.length (gI p.2 ↑e):Int)-1)).1)),vi (((gI (gI p.2 ↑e) ((List.length (gI p.2 ↑e):Int)-2)).2)-((gI (gI p.2 ↑e) ((List.length (gI p.2 ↑e):Int)-1)).2)),Value.float .f64 (az (bk (gI (gI p.2 ↑e) ((List.length (gI p.2 ↑e):Int)-1)) (gI (gI p.2 ↑e) ((List.length (gI p.2 ↑e):Int)-2))))])]) rfl rfl (.cons rfl .nil) ?_
       intro g1030 w1031 v1032 ch1033 o1034
       have hs1035:=hs1000.seq (ch1033.n)
       refine⟨hs1035.same,?_⟩
       refine aE 5 rfl (by kernel_rfl) rfl ?_
       replace o498:=(o498.cn hb999).cn ch1033
       obtain⟨v1036,cel1037,r1038⟩:=bG (r:=(gI g.2 ↑e).2) o498 (by omega) (by(simp only[List.length_set,List.length_append,List.length_cons,List.length_nil,List.length_replicate,List.length_map,List.length_take,List.length_drop];omega))
       refine aI (v:=v1036) (aZ aX rfl cel1037) ?_
       refine⟨hs1035.same,?_⟩
       refine aE 22 rfl (by kernel_rfl) rfl ?_
       refine bj (α:=(Int)×(Int)×(Nat)) (xs:=(gI (List.set L (Int.toNat ((gI g.2 ↑e).1)) (gI L ((gI g.2 ↑e).1)++([(((gI (gI p.2 ↑e) 1).1)-((gI (gI p.2 ↑e) 0).1),((gI (gI p.2 ↑e) 1).2)-((gI (gI p.2 ↑e) 0).2),az (bk (gI (gI p.2 ↑e) 0) (gI (gI p.2 ↑e) 1)))]:List ((Int)×(Int)×(Nat))))) ((gI g.2 ↑e).2))) (ys:=([(((gI (gI p.2 ↑e) ((List.length (gI p.2 ↑e):Int)-2)).1)-((gI (gI p.2 ↑e) ((List.length (gI p.2 ↑e):Int)-1)).1),((gI (gI p.2 ↑e) ((List.length (gI p.2 ↑e):Int)-2)).2)-((gI (gI p.2 ↑e) ((List.length (gI p.2 ↑e):Int)-1)).2),az (bk (gI (gI p.2 ↑e) ((List.length (gI p.2 ↑e):Int)-1)) (gI (gI p.2 ↑e) ((List.length (gI p.2 ↑e):Int)-2))))]:List ((Int)×(Int)×(Nat)))) g1030 (J:=bW 3 (Int.toNat ((gI g.2 ↑e).2)+1)) (S:=bW 3 (Int.toNat ((gI g.2 ↑e).2)+1)) (3,Int.toNat ((gI g.2 ↑e).2)+1) rfl d4 aW (by decide) rfl rfl rfl r1038 o1034.flat (by decide) (by exact ct (dk hrw) (by omega)) ?_
       intro g1039 w1040 v1041 ch1042 o1043
       have o1044:=o498.rowchg ch1042
       clear o498 cel1037 r1038
       have hs1045:=hs1035.seq (ch1042.lr rfl)
       refine⟨hs1045.same,?_⟩
       refine aE 23 rfl (by kernel_rfl) rfl ?_
       obtain⟨us1046,hl1047,r1048⟩:=o1044.vc
       try simp only[List.length_set,List.length_append,List.length_cons,List.length_nil] at hl1047
       refine aI (v:=Value.pointer (some (bb v13 1 (Int.toNat ((gI g.2 ↑e).2))))) (af (α:=Vc) (xs:=us1046) (v:=v13) (i:=(gI g.2 ↑e).2) e8 rfl rfl r1048 rfl (by omega) (by omega)) ?_
       refine⟨hs1045.same,?_⟩
       refine aE 24 rfl (by kernel_rfl) rfl (bf (r:=(gI g.2 ↑e).2) aX rfl rfl o1044 o1043 (by omega) (by(simp only[List.length_set,List.length_append,List.length_cons,List.length_nil,List.length_replicate,List.length_map,List.length_take,List.length_drop];omega)) ?_)
       intro w1052 ch1053 o1054
       clear o1044 o1043
       have hs1055:=hs1045.seq (ch1053.l rfl)
       refine⟨hs1055.same,?_⟩
       refine bI (by kernel_rfl) ?_
       have C1056:=cg [3,5,6] (ch818.n.seq ((ch821.l rfl).seq ((ch825.l rfl).seq (ch830.n.seq (hb963.n.seq (hb999.n.seq (ch1033.n.seq ((ch1042.lr rfl).seq (ch1053.l rfl)))))))))
       have C1058:=cg [5,6] ((ch821.l rfl).seq ((ch825.l rfl).seq ch830.n))
       have C1057:=ch818.n.seq C1058
       replace Rg:=Rg.ca C1057
       replace Rp:=Rp.ca C1057
       replace r_p_v1:=r_p_v1.ca C1057
       replace bx10:=bx10.ca C1057
       replace r31:=r31.ca C1058
       exact mid (g1039) _ _ ⟨bH.ca C1056,zs3,zs5,zs8,zs9,zs18,zs19,zs20,zs32,zs33,(Rg.ca hs1055),(Rp.ca hs1055),(r_p_v1.ca hs1055),(bx10.ca hs1055),(r31.ca hs1055),o1054⟩
    ·
     refine aP (v:=Value.float .f64 (az (bk (gI (gI p.2 ↑e) ((List.length (gI p.2 ↑e):Int)-1)) (gI (gI p.2 ↑e) ((List.length (gI p.2 ↑e):Int)-2))))) (aG (vals:=[Value.float .f64 (bk (gI (gI p.2 ↑e) ((List.length (gI p.2 ↑e):Int)-1)) (gI (gI p.2 ↑e) ((List.length (gI p.2 ↑e):Int)-2)))]) Try.func46 c9 c8 rfl) (c7 w962 (bk (gI (gI p.2 ↑e) ((List.length (gI p.2 ↑e):Int)-1)) (gI (gI p.2 ↑e) ((List.length (gI p.2 ↑e):Int)-2))) (by exact cq _ _)) ?_
     intro w1059 hb1060
     replace hb1060:=am hb1060 g817
     have hs1061:=hs964.seq (hb1060.n)
     refine⟨hs1061.same,?_⟩
     refine ht (v:=vg [vi (((gI (gI p.2 ↑e) ((List.length (gI p.2 ↑e):Int)-2)).1)-((gI (gI p.2 ↑e) ((List.length (gI p.2 ↑e):Int)-1)).1)),vi (((gI (gI p.2 ↑e) ((List.length (gI p.2 ↑e):Int)-2)).2)-((gI (gI p.2 ↑e) ((List.length (gI p.2 ↑e):Int)-1)).2)),Value.float .f64 (az (bk (gI (gI p.2 ↑e) ((List.length (gI p.2 ↑e):Int)-1)) (gI (gI p.2 ↑e) ((List.length (gI p.2 ↑e):Int)-2))))]) 20 rfl hs1061.same (λw' hw'=>bB (vs:=[(0,vi (((gI (gI p.2 ↑e) ((List.length (gI p.2 ↑e):Int)-2)).1)-((gI (gI p.2 ↑e) ((List.length (gI p.2 ↑e):Int)-1)).1))),(1,vi (((gI (gI p.2 ↑e) ((List.length (gI p.2 ↑e):Int)-2)).2)-((gI (gI p.2 ↑e) ((List.length (gI p.2 ↑e):Int)-1)).2))),(2,Value.float .f64 (az (bk (gI (gI p.2 ↑e) ((List.length (gI p.2 ↑e):Int)-1)) (gI (gI p.2 ↑e) ((List.length (gI p.2 ↑e):Int)-2)))))]) rfl (by kernel_rfl)) ?_
     refine bJ 4 [21] (by kernel_rfl) ⟨bL 4 rfl (by kernel_rfl) rfl ?_,bL 21 rfl (by kernel_rfl) rfl ?_,trivial⟩
     ·
      have C1062:=cg [5,6] (ch818.n.seq ((ch821.l rfl).seq ((ch825.l rfl).seq (ch830.n.seq (hb963.n.seq hb1060.n)))))
      replace o498:=o498.ca C1062
      refine aI (v:=Value.pointer (some (bb v13 1 (Int.toNat ((gI g.2 ↑e).2))))) (af (α:=List ((Int)×(Int)×(Nat))) (xs:=(List.set L (Int.toNat ((gI g.2 ↑e).1)) (gI L ((gI g.2 ↑e).1)++([(((gI (gI p.2 ↑e) 1).1)-((gI (gI p.2 ↑e) 0).1),((gI (gI p.2 ↑e) 1).2)-((gI (gI p.2 ↑e) 0).2),az (bk (gI (gI p.2 ↑e) 0) (gI (gI p.2 ↑e) 1)))]:List ((Int)×(Int)×(Nat)))))) (v:=v13) (i:=(gI g.2 ↑e).2) e8 rfl rfl o498.sl rfl (by omega) (by(simp only[List.length_set,List.length_append,List.length_cons,List.length_nil,List.length_replicate,List.length_map,List.length_take,List.length_drop];omega))) ?_
      refine⟨hs1061.same,?_⟩
      refine bJ 5 [21] (by kernel_rfl) ⟨bL 5 rfl (by kernel_rfl) rfl ?_,bL 21 rfl (by kernel_rfl) rfl ?_,trivial⟩
      ·
       obtain⟨v1063,cel1064,r1065⟩:=bG (r:=(gI g.2 ↑e).2) o498 (by omega) (by(simp only[List.length_set,List.length_append,List.length_cons,List.length_nil,List.length_replicate,List.length_map,List.length_take,List.length_drop];omega))
       refine aI (v:=v1063) (aZ aX rfl cel1064) ?_
       refine⟨hs1061.same,?_⟩
       refine aE 21 rfl (by kernel_rfl) rfl ?_
       refine aH (α:=(Int)×(Int)×(Nat)) g817 (is 7) (is 7) (7,0) rfl ([(((gI (gI p.2 ↑e) ((List.length (gI p.2 ↑e):Int)-2)).1)-((gI (gI p.2 ↑e) ((List.length (gI p.2 ↑e):Int)-1)).1),((gI (gI p.2 ↑e) ((List.length (gI p.2 ↑e):Int)-2)).2)-((gI (gI p.2 ↑e) ((List.length (gI p.2 ↑e):Int)-1)).2),az (bk (gI (gI p.2 ↑e) ((List.length (gI p.2 ↑e):Int)-1)) (gI (gI p.2 ↑e) ((List.length (gI p.2 ↑e):Int)-2))))]:List ((Int)×(Int)×(Nat))) d4 aW (by decide) (by decide) (vs:=[(0,vg [vi (((gI (gI p.2 ↑e) ((List.length (gI p.2 ↑e):Int)-2)).1)-((gI (gI p.2 ↑e) ((List.length (gI p.2 ↑e):Int)-1)).1)),vi (((gI (gI p.2 ↑e) ((List.length (gI p.2 ↑e):Int)-2)).2)-((gI (gI p.2 ↑e) ((List.length (gI p.2 ↑e):Int)-1)).2)),Value.float .f64 (az (bk (gI (gI p.2 ↑e) ((List.length (gI p.2 ↑e):Int)-1)) (gI (gI p.2 ↑e) ((List.length (gI p.2 ↑e):Int)-2))))])]) rfl rfl (.cons rfl .nil) ?_
       intro g1066 w1067 v1068 ch1069 o1070
       have hs1071:=hs1061.seq (ch1069.n)
       refine⟨hs1071.same,?_⟩
       refine aE 22 rfl (by kernel_rfl) rfl ?_
       replace o498:=o498.cn ch1069
       replace r1065:=r1065.cn ch1069
       refine bj (α:=(Int)×(Int)×(Nat)) (xs:=(gI (List.set L (Int.toNat ((gI g.2 ↑e).1)) (gI L ((gI g.2 ↑e).1)++([(((gI (gI p.2 ↑e) 1).1)-((gI (gI p.2 ↑e) 0).1),((gI (gI p.2 ↑e) 1).2)-((gI (gI p.2 ↑e) 0).2),az (bk (gI (gI p.2 ↑e) 0) (gI (gI p.2 ↑e) 1)))]:List ((Int)×(Int)×(Nat))))) ((gI g.2 ↑e).2))) (ys:=([(((gI (gI p.2 ↑e) ((List.length (gI p.2 ↑e):Int)-2)).1)-((gI (gI p.2 ↑e) ((List.length (gI p.2 ↑e):Int)-1)).1),((gI (gI p.2 ↑e) ((List.length (gI p.2 ↑e):Int)-2)).2)-((gI (gI p.2 ↑e) ((List.length (gI p.2 ↑e):Int)-1)).2),az (bk (gI (gI p.2 ↑e) ((List.length (gI p.2 ↑e):Int)-1)) (gI (gI p.2 ↑e) ((List.length (gI p.2 ↑e):Int)-2))))]:List ((Int)×(Int)×(Nat)))) g1066 (J:=bW 3 (Int.toNat ((gI g.2 ↑e).2)+1)) (S:=bW 3 (Int.toNat ((gI g.2 ↑e).2)+1)) (3,Int.toNat ((gI g.2 ↑e).2)+1) rfl d4 aW (by decide) rfl rfl rfl r1065 o1070.flat (by decide) (by exact ct (dk hrw) (by omega)) ?_
       intro g1072 w1073 v1074 ch1075 o1076
       have o1077:=o498.rowchg ch1075
       clear o498 cel1064 r1065
       have hs1078:=hs1071.seq (ch1075.lr rfl)
       refine⟨hs1078.same,?_⟩
       refine aE 23 rfl (by kernel_rfl) rfl ?_
       obtain⟨us1079,hl1080,r1081⟩:=o1077.vc
       try simp only[List.length_set,List.length_append,List.length_cons,List.length_nil] at hl1080
       refine aI (v:=Value.pointer (some (bb v13 1 (Int.toNat ((gI g.2 ↑e).2))))) (af (α:=Vc) (xs:=us1079) (v:=v13) (i:=(gI g.2 ↑e).2) e8 rfl rfl r1081 rfl (by omega) (by omega)) ?_
       refine⟨hs1078.same,?_⟩
       refine aE 24 rfl (by kernel_rfl) rfl (bf (r:=(gI g.2 ↑e).2) aX rfl rfl o1077 o1076 (by omega) (by(simp only[List.length_set,List.length_append,List.length_cons,List.length_nil,List.length_replicate,List.length_map,List.length_take,List.length_drop];omega)) ?_)
       intro w1085 ch1086 o1087
       clear o1077 o1076
       have hs1088:=hs1078.seq (ch1086.l rfl)
       refine⟨hs1088.same,?_⟩
       refine bI (by kernel_rfl) ?_
       have C1089:=cg [3,5,6] (ch818.n.seq ((ch821.l rfl).seq ((ch825.l rfl).seq (ch830.n.seq (hb963.n.seq (hb1060.n.seq (ch1069.n.seq ((ch1075.lr rfl).seq (ch1086.l rfl)))))))))
       have C1091:=cg [5,6] ((ch821.l rfl).seq ((ch825.l rfl).seq ch830.n))
       have C1090:=ch818.n.seq C1091
       replace Rg:=Rg.ca C1090
       replace Rp:=Rp.ca C1090
       replace r_p_v1:=r_p_v1.ca C1090
       replace bx10:=bx10.ca C1090
       replace r31:=r31.ca C1091
       exact mid (g1072) _ _ ⟨bH.ca C1089,zs3,zs5,zs8,zs9,zs18,zs19,zs20,zs32,zs33,(Rg.ca hs1088),(Rp.ca hs1088),(r_p_v1.ca hs1088),(bx10.ca hs1088),(r31.ca hs1088),o1087⟩
      ·
       refine aH (α:=(Int)×(Int)×(Nat)) g817 (is 7) (is 7) (7,0) rfl ([(((gI (gI p.2 ↑e) ((List.length (gI p.2 ↑e):Int)-2)).1)-((gI (gI p.2 ↑e) ((List.length (gI p.2 ↑e):Int)-1)).1),((gI (gI p.2 ↑e) ((List.length (gI p.2 ↑e):Int)-2)).2)-((gI (gI p.2 ↑e) ((List.length (gI p.2 ↑e):Int)-1)).2),az (bk (gI (gI p.2 ↑e) ((List.length (gI p.2 ↑e):Int)-1)) (gI (gI p.2 ↑e) ((List.length (gI p.2 ↑e):Int)-2))))]:List ((Int)×(Int)×(Nat))) d4 aW (by decide) (by decide) (vs:=[(0,vg [vi (((gI (gI p.2 ↑e) ((List.length (gI p.2 ↑e):Int)-2)).1)-((gI (gI p.2 ↑e) ((List.length (gI p.2 ↑e):Int)-1)).1)),vi (((gI (gI p.2 ↑e) ((List.length (gI p.2 ↑e):Int)-2)).2)-((gI (gI p.2 ↑e) ((List.length (gI p.2 ↑e):Int)-1)).2)),Value.float .f64 (az (bk (gI (gI p.2 ↑e) ((List.length (gI p.2 ↑e):Int)-1)) (gI (gI p.2 ↑e) ((List.length (gI p.2 ↑e):Int)-2))))])]) rfl rfl (.cons rfl .nil) ?_
       intro g1092 w1093 v1094 ch1095 o1096
       have hs1097:=hs1061.seq (ch1095.n)
       refine⟨hs1097.same,?_⟩
       refine aE 5 rfl (by kernel_rfl) rfl ?_
       replace o498:=o498.cn ch1095
       obtain⟨v1098,cel1099,r1100⟩:=bG (r:=(gI g.2 ↑e).2) o498 (by omega) (by(simp only[List.length_set,List.length_append,List.length_cons,List.length_nil,List.length_replicate,List.length_map,List.length_take,List.length_drop];omega))
       refine aI (v:=v1098) (aZ aX rfl cel1099) ?_
       refine⟨hs1097.same,?_⟩
       refine aE 22 rfl (by kernel_rfl) rfl ?_
       refine bj (α:=(Int)×(Int)×(Nat)) (xs:=(gI (List.set L (Int.toNat ((gI g.2 ↑e).1)) (gI L ((gI g.2 ↑e).1)++([(((gI (gI p.2 ↑e) 1).1)-((gI (gI p.2 ↑e) 0).1),((gI (gI p.2 ↑e) 1).2)-((gI (gI p.2 ↑e) 0).2),az (bk (gI (gI p.2 ↑e) 0) (gI (gI p.2 ↑e) 1)))]:List ((Int)×(Int)×(Nat))))) ((gI g.2 ↑e).2))) (ys:=([(((gI (gI p.2 ↑e) ((List.length (gI p.2 ↑e):Int)-2)).1)-((gI (gI p.2 ↑e) ((List.length (gI p.2 ↑e):Int)-1)).1),((gI (gI p.2 ↑e) ((List.length (gI p.2 ↑e):Int)-2)).2)-((gI (gI p.2 ↑e) ((List.length (gI p.2 ↑e):Int)-1)).2),az (bk (gI (gI p.2 ↑e) ((List.length (gI p.2 ↑e):Int)-1)) (gI (gI p.2 ↑e) ((List.length (gI p.2 ↑e):Int)-2))))]:List ((Int)×(Int)×(Nat)))) g1092 (J:=bW 3 (Int.toNat ((gI g.2 ↑e).2)+1)) (S:=bW 3 (Int.toNat ((gI g.2 ↑e).2)+1)) (3,Int.toNat ((gI g.2 ↑e).2)+1) rfl d4 aW (by decide) rfl rfl rfl r1100 o1096.flat (by decide) (by exact ct (dk hrw) (by omega)) ?_
       intro g1101 w1102 v1103 ch1104 o1105
       have o1106:=o498.rowchg ch1104
       clear o498 cel1099 r1100
       have hs1107:=hs1097.seq (ch1104.lr rfl)
       refine⟨hs1107.same,?_⟩
       refine aE 23 rfl (by kernel_rfl) rfl ?_
       obtain⟨us1108,hl1109,r1110⟩:=o1106.vc
       try simp only[List.length_set,List.length_append,List.length_cons,List.length_nil] at hl1109
       refine aI (v:=Value.pointer (some (bb v13 1 (Int.toNat ((gI g.2 ↑e).2))))) (af (α:=Vc) (xs:=us1108) (v:=v13) (i:=(gI g.2 ↑e).2) e8 rfl rfl r1110 rfl (by omega) (by omega)) ?_
       refine⟨hs1107.same,?_⟩
       refine aE 24 rfl (by kernel_rfl) rfl (bf (r:=(gI g.2 ↑e).2) aX rfl rfl o1106 o1105 (by omega) (by(simp only[List.length_set,List.length_append,List.length_cons,List.length_nil,List.length_replicate,List.length_map,List.length_take,List.length_drop];omega)) ?_)
       intro w1114 ch1115 o1116
       clear o1106 o1105
       have hs1117:=hs1107.seq (ch1115.l rfl)
       refine⟨hs1117.same,?_⟩
       refine bI (by kernel_rfl) ?_
       have C1118:=cg [3,5,6] (ch818.n.seq ((ch821.l rfl).seq ((ch825.l rfl).seq (ch830.n.seq (hb963.n.seq (hb1060.n.seq (ch1095.n.seq ((ch1104.lr rfl).seq (ch1115.l rfl)))))))))
       have C1120:=cg [5,6] ((ch821.l rfl).seq ((ch825.l rfl).seq ch830.n))
       have C1119:=ch818.n.seq C1120
       replace Rg:=Rg.ca C1119
       replace Rp:=Rp.ca C1119
       replace r_p_v1:=r_p_v1.ca C1119
       replace bx10:=bx10.ca C1119
       replace r31:=r31.ca C1120
       exact mid (g1101) _ _ ⟨bH.ca C1118,zs3,zs5,zs8,zs9,zs18,zs19,zs20,zs32,zs33,(Rg.ca hs1117),(Rp.ca hs1117),(r_p_v1.ca hs1117),(bx10.ca hs1117),(r31.ca hs1117),o1116⟩
     ·
      refine aH (α:=(Int)×(Int)×(Nat)) g817 (is 7) (is 7) (7,0) rfl ([(((gI (gI p.2 ↑e) ((List.length (gI p.2 ↑e):Int)-2)).1)-((gI (gI p.2 ↑e) ((List.length (gI p.2 ↑e):Int)-1)).1),((gI (gI p.2 ↑e) ((List.length (gI p.2 ↑e):Int)-2)).2)-((gI (gI p.2 ↑e) ((List.length (gI p.2 ↑e):Int)-1)).2),az (bk (gI (gI p.2 ↑e) ((List.length (gI p.2 ↑e):Int)-1)) (gI (gI p.2 ↑e) ((List.length (gI p.2 ↑e):Int)-2))))]:List ((Int)×(Int)×(Nat))) d4 aW (by decide) (by decide) (vs:=[(0,vg [vi (((gI (gI p.2 ↑e) ((List.length (gI p.2 ↑e):Int)-2)).1)-((gI (gI p.2 ↑e) ((List.length (gI p.2 ↑e):Int)-1)).1)),vi (((gI (gI p.2 ↑e) ((List.length (gI p.2 ↑e):Int)-2)).2)-((gI (gI p.2 ↑e) ((List.length (gI p.2 ↑e):Int)-1)).2)),Value.float .f64 (az (bk (gI (gI p.2 ↑e) ((List.length (gI p.2 ↑e):Int)-1)) (gI (gI p.2 ↑e) ((List.length (gI p.2 ↑e):Int)-2))))])]) rfl rfl (.cons rfl .nil) ?_
      intro g1121 w1122 v1123 ch1124 o1125
      have hs1126:=hs1061.seq (ch1124.n)
      refine⟨hs1126.same,?_⟩
      refine aE 4 rfl (by kernel_rfl) rfl ?_
      have C1127:=cg [5,6] (ch818.n.seq ((ch821.l rfl).seq ((ch825.l rfl).seq (ch830.n.seq (hb963.n.seq (hb1060.n.seq ch1124.n))))))
      replace o498:=o498.ca C1127
      refine aI (v:=Value.pointer (some (bb v13 1 (Int.toNat ((gI g.2 ↑e).2))))) (af (α:=List ((Int)×(Int)×(Nat))) (xs:=(List.set L (Int.toNat ((gI g.2 ↑e).1)) (gI L ((gI g.2 ↑e).1)++([(((gI (gI p.2 ↑e) 1).1)-((gI (gI p.2 ↑e) 0).1),((gI (gI p.2 ↑e) 1).2)-((gI (gI p.2 ↑e) 0).2),az (bk (gI (gI p.2 ↑e) 0) (gI (gI p.2 ↑e) 1)))]:List ((Int)×(Int)×(Nat)))))) (v:=v13) (i:=(gI g.2 ↑e).2) e8 rfl rfl o498.sl rfl (by omega) (by(simp only[List.length_set,List.length_append,List.length_cons,List.length_nil,List.length_replicate,List.length_map,List.length_take,List.length_drop];omega))) ?_
      refine⟨hs1126.same,?_⟩
      refine aE 5 rfl (by kernel_rfl) rfl ?_
      obtain⟨v1128,cel1129,r1130⟩:=bG (r:=(gI g.2 ↑e).2) o498 (by omega) (by(simp only[List.length_set,List.length_append,List.length_cons,List.length_nil,List.length_replicate,List.length_map,List.length_take,List.length_drop];omega))
      refine aI (v:=v1128) (aZ aX rfl cel1129) ?_
      refine⟨hs1126.same,?_⟩
      refine aE 22 rfl (by kernel_rfl) rfl ?_
      refine bj (α:=(Int)×(Int)×(Nat)) (xs:=(gI (List.set L (Int.toNat ((gI g.2 ↑e).1)) (gI L ((gI g.2 ↑e).1)++([(((gI (gI p.2 ↑e) 1).1)-((gI (gI p.2 ↑e) 0).1),((gI (gI p.2 ↑e) 1).2)-((gI (gI p.2 ↑e) 0).2),az (bk (gI (gI p.2 ↑e) 0) (gI (gI p.2 ↑e) 1)))]:List ((Int)×(Int)×(Nat))))) ((gI g.2 ↑e).2))) (ys:=([(((gI (gI p.2 ↑e) ((List.length (gI p.2 ↑e):Int)-2)).1)-((gI (gI p.2 ↑e) ((List.length (gI p.2 ↑e):Int)-1)).1),((gI (gI p.2 ↑e) ((List.length (gI p.2 ↑e):Int)-2)).2)-((gI (gI p.2 ↑e) ((List.length (gI p.2 ↑e):Int)-1)).2),az (bk (gI (gI p.2 ↑e) ((List.length (gI p.2 ↑e):Int)-1)) (gI (gI p.2 ↑e) ((List.length (gI p.2 ↑e):Int)-2))))]:List ((Int)×(Int)×(Nat)))) g1121 (J:=bW 3 (Int.toNat ((gI g.2 ↑e).2)+1)) (S:=bW 3 (Int.toNat ((gI g.2 ↑e).2)+1)) (3,Int.toNat ((gI g.2 ↑e).2)+1) rfl d4 aW (by decide) rfl rfl rfl r1130 o1125.flat (by decide) (by exact ct (dk hrw) (by omega)) ?_
      intro g1131 w1132 v1133 ch1134 o1135
      have o1136:=o498.rowchg ch1134
      clear o498 cel1129 r1130
      have hs1137:=hs1126.seq (ch1134.lr rfl)
      refine⟨hs1137.same,?_⟩
      refine aE 23 rfl (by kernel_rfl) rfl ?_
      obtain⟨us1138,hl1139,r1140⟩:=o1136.vc
      try simp only[List.length_set,List.length_append,List.length_cons,List.length_nil] at hl1139
      refine aI (v:=Value.pointer (some (bb v13 1 (Int.toNat ((gI g.2 ↑e).2))))) (af (α:=Vc) (xs:=us1138) (v:=v13) (i:=(gI g.2 ↑e).2) e8 rfl rfl r1140 rfl (by omega) (by omega)) ?_
      refine⟨hs1137.same,?_⟩
      refine aE 24 rfl (by kernel_rfl) rfl (bf (r:=(gI g.2 ↑e).2) aX rfl rfl o1136 o1135 (by omega) (by(simp only[List.length_set,List.length_append,List.length_cons,List.length_nil,List.length_replicate,List.length_map,List.length_take,List.length_drop];omega)) ?_)
      intro w1144 ch1145 o1146
      clear o1136 o1135
      have hs1147:=hs1137.seq (ch1145.l rfl)
      refine⟨hs1147.same,?_⟩
      refine bI (by kernel_rfl) ?_
      have C1148:=cg [3,5,6] (ch818.n.seq ((ch821.l rfl).seq ((ch825.l rfl).seq (ch830.n.seq (hb963.n.seq (hb1060.n.seq (ch1124.n.seq ((ch1134.lr rfl).seq (ch1145.l rfl)))))))))
      have C1150:=cg [5,6] ((ch821.l rfl).seq ((ch825.l rfl).seq ch830.n))
      have C1149:=ch818.n.seq C1150
      replace Rg:=Rg.ca C1149
      replace Rp:=Rp.ca C1149
      replace r_p_v1:=r_p_v1.ca C1149
      replace bx10:=bx10.ca C1149
      replace r31:=r31.ca C1150
      exact mid (g1131) _ _ ⟨bH.ca C1148,zs3,zs5,zs8,zs9,zs18,zs19,zs20,zs32,zs33,(Rg.ca hs1147),(Rp.ca hs1147),(r_p_v1.ca hs1147),(bx10.ca hs1147),(r31.ca hs1147),o1146⟩
  clear Rg Rp r_p_v1 bx10 r31 o498 bx822 bx826 bH
  rintro g1153 f1151 w1152 ⟨bH,zs3,zs5,zs8,zs9,zs18,zs19,zs20,zs32,zs33,Rg,Rp,r_p_v1,bx10,r31,o864⟩
  refine ap (a7 rfl (lx (ba (m:=1) (n:=1) zs33 rfl (by omega)) (mi 2 (ab (aN (a8 (a7 rfl (lx (bc (m:=2) (n:=2) rfl rfl) (ab (a8 (ah rfl rfl ?_)))))))))))
  refine aQ rfl (ap ?_)
  clear r31
  refine a7 rfl (lx (ba (m:=↑e) (n:=1) zs20 rfl (by omega)) (mi ((e:Int)+1) (ab ?_)))
  refine back3 (e+1,(List.set (List.set L (Int.toNat ((gI g.2 ↑e).1)) (gI L ((gI g.2 ↑e).1)++([(((gI (gI p.2 ↑e) 1).1)-((gI (gI p.2 ↑e) 0).1),((gI (gI p.2 ↑e) 1).2)-((gI (gI p.2 ↑e) 0).2),az (bk (gI (gI p.2 ↑e) 0) (gI (gI p.2 ↑e) 1)))]:List ((Int)×(Int)×(Nat))))) (Int.toNat ((gI g.2 ↑e).2)) (gI (List.set L (Int.toNat ((gI g.2 ↑e).1)) (gI L ((gI g.2 ↑e).1)++([(((gI (gI p.2 ↑e) 1).1)-((gI (gI p.2 ↑e) 0).1),((gI (gI p.2 ↑e) 1).2)-((gI (gI p.2 ↑e) 0).2),az (bk (gI (gI p.2 ↑e) 0) (gI (gI p.2 ↑e) 1)))]:List ((Int)×(Int)×(Nat))))) ((gI g.2 ↑e).2)++([(((gI (gI p.2 ↑e) ((List.length (gI p.2 ↑e):Int)-2)).1)-((gI (gI p.2 ↑e) ((List.length (gI p.2 ↑e):Int)-1)).1),((gI (gI p.2 ↑e) ((List.length (gI p.2 ↑e):Int)-2)).2)-((gI (gI p.2 ↑e) ((List.length (gI p.2 ↑e):Int)-1)).2),az (bk (gI (gI p.2 ↑e) ((List.length (gI p.2 ↑e):Int)-1)) (gI (gI p.2 ↑e) ((List.length (gI p.2 ↑e):Int)-2))))]:List ((Int)×(Int)×(Nat))))),g1153) _ _ ⟨bH,zs3,zs5,zs18,zs19,rfl,Rg,Rp,r_p_v1,bx10,o864,by omega,?_⟩ ?_
  · show(List.set (List.set L (Int.toNat ((gI g.2 ↑e).1)) (gI L ((gI g.2 ↑e).1)++([(((gI (gI p.2 ↑e) 1).1)-((gI (gI p.2 ↑e) 0).1),((gI (gI p.2 ↑e) 1).2)-((gI (gI p.2 ↑e) 0).2),az (bk (gI (gI p.2 ↑e) 0) (gI (gI p.2 ↑e) 1)))]:List ((Int)×(Int)×(Nat))))) (Int.toNat ((gI g.2 ↑e).2)) (gI (List.set L (Int.toNat ((gI g.2 ↑e).1)) (gI L ((gI g.2 ↑e).1)++([(((gI (gI p.2 ↑e) 1).1)-((gI (gI p.2 ↑e) 0).1),((gI (gI p.2 ↑e) 1).2)-((gI (gI p.2 ↑e) 0).2),az (bk (gI (gI p.2 ↑e) 0) (gI (gI p.2 ↑e) 1)))]:List ((Int)×(Int)×(Nat))))) ((gI g.2 ↑e).2)++([(((gI (gI p.2 ↑e) ((List.length (gI p.2 ↑e):Int)-2)).1)-((gI (gI p.2 ↑e) ((List.length (gI p.2 ↑e):Int)-1)).1),((gI (gI p.2 ↑e) ((List.length (gI p.2 ↑e):Int)-2)).2)-((gI (gI p.2 ↑e) ((List.length (gI p.2 ↑e):Int)-1)).2),az (bk (gI (gI p.2 ↑e) ((List.length (gI p.2 ↑e):Int)-1)) (gI (gI p.2 ↑e) ((List.length (gI p.2 ↑e):Int)-2))))]:List ((Int)×(Int)×(Nat)))))=ar g p (e+1)
    (rw[hL] at*;exact jl (by exact .inr ⟨‹_›,rfl⟩) (by exact .inr ⟨‹_›,rfl⟩))
  · show Int.toNat (((g.2.length:Int):Int)-((e+1):Int))<Int.toNat (((g.2.length:Int):Int)-(e:Int))
    omega
 refine ah rfl (df p3) (aQ rfl (a8 ?_))
 clear bx10
 refine a7 rfl (mz zs5 (ma v13 (ab (aw (vs:=[v13]) Try.func33 (.tmp rfl .nil) ?_))))
 have e0:(L:List (List ((Int)×(Int)×(Nat))))=(ar g p g.2.length):=by
   (rw[hL];congr 1;omega)
 exact⟨(fin w0 g20 (λn=>if n=3 then 1 else 0),v13),(congrArg (a₁:=L) (λ(z0:List (List ((Int)×(Int)×(Nat))))=>Ending.returned (v13)) e0),bH.fresh _,(e0▸(o15.glue (γ:=c0) (ren:=(λn=>if n=3 then 1 else 0)) (k:=1) bH.col rfl rfl))⟩
end TL
