import Derived.Test.YtbadiajeohbpcaaGreatTlP3
import Derived.Test.YtbadiajeohbpcaaGreatTlGenA
import Derived.Test.YtbadiajeohbpcaaGreatTlGjA
import Derived.Test.YtbadiajeohbpcaaGreatTlGjB
import Derived.Test.YtbadiajeohbpcaaGreatTlGjC
import Derived.Test.YtbadiajeohbpcaaGreatTlGjD
import Derived.Test.YtbadiajeohbpcaaGreatTlGjE
import Derived.Test.YtbadiajeohbpcaaGreatProg
import Derived.Test.YtbadiajeohbpcaaGreatTlAli
set_option linter.all false
set_option maxRecDepth 20000
namespace TL
open Go Go.Proofs
theorem uO:Tryz.prog.follows .mixedOrders=true:=by kernel_rfl
theorem tt(w0:World)(a:List bX)(a_v:Value)(ha_v:Ro w0 a_v a)(b:List bX)(b_v:Value)(hb_v:Ro w0 b_v b):
    Calls Tryz.prog 18 #[a_v,b_v] w0 (λee w=>ee= .returned (vb (decide (a=b)))/\cE w0.heap.size w0 w):=by
 refine au Tryz.func18 rfl nq ?_
 have bH:=aT.start w0
 have Ra:=ha_v.sl
 have Rb:=hb_v.sl
 refine a7 (a6 rfl (ma (vb false) (aa (a7 (a7 (a6 rfl (mv a_v ?_)))))))
 have len1:=(Ra).small
 refine lx (aQ eH rfl Ra) (mv b_v ?_)
 have len2:=(Rb).small
 refine lx (aQ eH rfl Rb) (lx (c5 (m:=(a.length:Int)) (n:=(b.length:Int)) rfl rfl) (aa ?_))
 by_cases p1:(a.length:Int)=(b.length:Int)
 ·
  refine ag rfl (congrArg Bool.not (dt p1)) (ak (a7 (a7 (a6 rfl (ai 0 (aa (am ?_)))))))
  refine aN (σ:=Nat×aK) (λ⟨k,gq⟩ f w=>aT w0 gq w/\f 0=a_v/\f 1=b_v/\f 5=vi ↑k/\Sl gq (is 0) w a_v a/\Sl gq (is 0) w b_v b/\(k:Int)<=((a.length:Int):Int)/\(List.take k a=List.take k b)) (λ⟨k,gq⟩=>Int.toNat (((a.length:Int):Int)-(k:Int))) (0,c0) ?_ ?_
  · exact⟨bH,rfl,rfl,rfl,Ra,Rb,by omega,by simp⟩
  clear Ra Rb bH
  rintro⟨k,g5⟩ f3 w4 ⟨bH,zs0,zs1,zs5,Ra,Rb,hle_k,hinv4⟩ back4
  refine a7 (a7 (a6 rfl (mz zs5 (mz zs0 (lx (aQ eH rfl Ra) (lx (aZ (m:=↑k) (n:=(a.length:Int)) rfl rfl) (aa ?_)))))))
  by_cases p4:(k:Int)<(a.length:Int)
  ·
   refine af rfl (dt p4) (ak (a7 (am (a7 (bz g5 rfl uO (by kernel_rfl) ?_)))))
   intro w7 ch6
   refine qz zs0 (qz zs5 ?_)
   replace Ra:=Ra.cn ch6
   refine qx (λw' hw'=>ad (v:=a_v) (i:=↑k) eH rfl rfl (Ra.bel hw') rfl (by omega) (by omega)) (qv (vg [vi ((gI a ↑k).1),vi (((gI a ↑k).2).1),vi (((gI a ↑k).2).2)]) (λw' hw'=>aF (v:=a_v) (i:=↑k) bU rfl (Ra.bel hw') (by omega) (by omega) rfl) (qz zs1 (qz zs5 ?_)))
   replace Rb:=Rb.cn ch6
   refine qx (λw' hw'=>ad (v:=b_v) (i:=↑k) eH rfl rfl (Rb.bel hw') rfl (by omega) (by omega)) (qv (vg [vi ((gI b ↑k).1),vi (((gI b ↑k).2).1),vi (((gI b ↑k).2).2)]) (λw' hw'=>aF (v:=b_v) (i:=↑k) bU rfl (Rb.bel hw') (by omega) (by omega) rfl) ?_)
   refine qv (vb (!(decide (((gI a ↑k).1,((gI a ↑k).2).1,((gI a ↑k).2).2)=((gI b ↑k).1,((gI b ↑k).2).1,((gI b ↑k).2).2))))) (λw' hw'=>de (bs:=[decide (((gI a ↑k).1)=((gI b ↑k).1)),decide ((((gI a ↑k).2).1)=(((gI b ↑k).2).1)),decide ((((gI a ↑k).2).2)=(((gI b ↑k).2).2))]) Bc (by kernel_rfl) (by kernel_rfl) rfl rfl (.cons (by decide+kernel) az rfl rfl (.int U3) (.cons (by decide+kernel) az rfl rfl (.int U3) (.cons (by decide+kernel) az rfl rfl (.int U3) .nil))) (by simp[Prod.ext_iff,Bool.decide_and,Bool.and_assoc])) (bN ?_)
   intro w8 hc9
   replace hc9:=ao hc9 g5
   by_cases p6:((gI a ↑k).1,((gI a ↑k).2).1,((gI a ↑k).2).2)=((gI b ↑k).1,((gI b ↑k).2).1,((gI b ↑k).2).2)
   ·
    refine ag rfl (congrArg Bool.not (dt p6)) (ak (al (a6 rfl (mz zs5 (lx (aM (m:=↑k) (n:=1) rfl rfl (by omega)) (ai ((k:Int)+1) (aa ?_)))))))
    replace bH:=bH.cn ch6
    refine back4 (k+1,g5) _ _ ⟨bH.cn hc9,zs0,zs1,rfl,Ra.cn hc9,Rb.cn hc9,by omega,?_⟩ ?_
    · show List.take (k+1) a=List.take (k+1) b
      exact y4 hinv4 ‹_› (by omega) ‹_›
    · show Int.toNat (((a.length:Int):Int)-((k+1):Int))<Int.toNat (((a.length:Int):Int)-(k:Int))
      omega
   refine af rfl (congrArg Bool.not (df p6)) (a7 (a6 rfl (ma (vb false) (aa (ar (vs:=[vb false]) Tryz.func18 (.tmp rfl .nil) ?_)))))
   have e0:(false:Bool)=(decide (a=b)):=by
     exact Ad (k:=k) ‹_›
   replace bH:=bH.cn ch6
   replace bH:=bH.cn hc9
   exact⟨rb e0,bH.below⟩
  refine ag rfl (df p4) (aJ rfl (a7 (a6 rfl (ma (vb true) (aa (ar (vs:=[vb true]) Tryz.func18 (.tmp rfl .nil) ?_))))))
  have e0:(true:Bool)=(decide (a=b)):=by
    exact zE hinv4 ‹_› ‹_›
  exact⟨rb e0,bH.below⟩
 refine af rfl (congrArg Bool.not (df p1)) (a7 (a6 rfl (ma (vb false) (aa (ar (vs:=[vb false]) Tryz.func18 (.tmp rfl .nil) ?_)))))
 have e0:(false:Bool)=(decide (a=b)):=by
   exact zB ‹_›
 exact⟨rb e0,bH.below⟩
theorem qy(w0:World)(g:(Int)×(List Pt))(g_v:Value)(hg_v:Ro w0 g_v g.2)(p:(List Pt)×(List (List Pt)))(p_v p_v1:Value)(hp_v:Ro w0 p_v p.1)(hp_v1:Ro w0 p_v1 p.2)(hp1:(p.1.length:Int)<=1048576)(hp2:(p.2.length:Int)<=1048576)(hp3:∀l_∈p.2,l_.length<=1048576):
    Calls Tryz.prog 5 #[vg [vi g.1,g_v],vg [p_v,p_v1]] w0 (λee w=>ee= .returned (vb (decide (eD g p)))/\cE w0.heap.size w0 w):=by
 refine au Tryz.func5 rfl nq ?_
 have bH:=aT.start w0
 have Rg:=hg_v.sl
 have Rp:=hp_v.sl
 have r_p_v1:=hp_v1.sl
 refine a7 (a6 rfl (bW rfl (bh c0 (is 1) (1,0) rfl rfl ?_)))
 intro g4 w1 b3 ch2 bx5
 replace bx5:Bx g4 (is 1) w1 b3 [vi g.1,g_v]:=bx5
 refine lo (bh g4 (is 2) (2,0) rfl rfl ?_)
 intro g9 w6 b8 ch7 bx10
 replace bx10:Bx g9 (is 2) w6 b8 [p_v,p_v1]:=bx10
 refine ma (vb false) (aa (a7 (a6 rfl (lx (a8 ef rfl rfl rfl rfl) (lx (ab fE rfl bx10 rfl) ?_)))))
 replace Rp:=(Rp.cn ch2).cn ch7
 have len11:=(Rp).small
 refine lx (aQ bS rfl Rp) (ai (p.1.length:Int) (aa (a7 (a7 (a6 rfl (ai 0 (aa (am ?_))))))))
 refine aN (σ:=Int×Nat×aK) (λ⟨n,e,gq⟩ f w=>aT w0 gq w/\f 2=vp b3 0/\f 3=vp b8 0/\f 5=vi n/\f 6=vi ↑e/\Sl gq (is 0) w g_v g.2/\Sl gq (is 0) w p_v p.1/\Sl gq (is 0) w p_v1 p.2/\Bx gq (is 1) w b3 [vi g.1,g_v]/\Bx gq (is 2) w b8 [p_v,p_v1]/\(e:Int)<=((p.2.length:Int):Int)/\(n=ip p e)) (λ⟨n,e,gq⟩=>Int.toNat (((p.2.length:Int):Int)-(e:Int))) ((p.1.length:Int),0,g9) ?_ ?_
 replace bH:=bH.cn ch2
 · exact⟨bH.cn ch7,rfl,rfl,rfl,rfl,(Rg.cn ch2).cn ch7,Rp,(r_p_v1.cn ch2).cn ch7,bx5.cn ch7,bx10,by omega,by rfl⟩
 clear Rg Rp r_p_v1 bx5 bx10 bH
 rintro⟨n,e,g14⟩ f12 w13 ⟨bH,zs2,zs3,zs5,zs6,Rg,Rp,r_p_v1,bx5,bx10,hle_e,hinv⟩ back3
 have hlb:=sk hp1 hp3 e (by omega)
 refine a7 (a7 (a6 rfl (mz zs6 (lx (a8 ef rfl rfl zs3 rfl) (lx (ab dw rfl bx10 rfl) ?_)))))
 have len15:=(r_p_v1).small
 refine lx (aQ fg rfl r_p_v1) (lx (aZ (m:=↑e) (n:=(p.2.length:Int)) rfl rfl) (aa ?_))
 by_cases p3:(e:Int)<(p.2.length:Int)
 ·
  refine af rfl (dt p3) ?_
  have hll:=hp3 _ (bk (xs:=p.2) (i:=↑e) (by omega) ‹_›)
  refine ak (a7 (am (a6 rfl (mz zs5 (lx (a8 ef rfl rfl zs3 rfl) (lx (ab dw rfl bx10 rfl) (mz zs6 (lx (ad (v:=p_v1) (i:=↑e) fg rfl rfl r_p_v1 rfl (by omega) (by omega)) ?_))))))))
  obtain⟨v16,cel17,r18⟩:=cA (r:=(e:Int)) r_p_v1 (by omega) (by omega)
  refine lx (ba fE rfl cel17) ?_
  have len19:=(r18).small
  refine lx (aQ bS rfl r18) (lx (aM (m:=n) (n:=(List.length (gI p.2 ↑e):Int)) rfl rfl (by omega)) (lx (aM (m:=n+(List.length (gI p.2 ↑e):Int)) (n:=1) rfl rfl (by omega)) (ai ((n+(List.length (gI p.2 ↑e):Int))+1) (aa (al ?_)))))
  clear r18
  refine a6 rfl (mz zs6 (lx (aM (m:=↑e) (n:=1) rfl rfl (by omega)) (ai ((e:Int)+1) (aa ?_))))
  refine back3 ((n+(List.length (gI p.2 ↑e):Int))+1,e+1,g14) _ _ ⟨bH,zs2,zs3,rfl,rfl,Rg,Rp,r_p_v1,bx5,bx10,by omega,?_⟩ ?_
  · show((n+(List.length (gI p.2 ↑e):Int))+1)=ip p (e+1)
    rw[hinv];rfl
  · show Int.toNat (((p.2.length:Int):Int)-((e+1):Int))<Int.toNat (((p.2.length:Int):Int)-(e:Int))
    omega
 refine ag rfl (df p3) (aJ rfl (a7 ?_))
 clear bx10
 refine a6 rfl (mz zs5 (lx (gB (m:=n) (n:=400) rfl rfl) (mv (vb (decide (n<=400))) ?_)))
 by_cases q28:n<=400
 ·
  refine lv (vg [vi g.1,g_v]) (wy (dt q28)) (aj (ds:=[vi g.1,g_v]) db zs2 bx5 rfl rfl) (bW (wy (dt q28)) (aO (v:=vb (dq g)) (aA (vals:=[vg [vi g.1,g_v]]) Tryz.func15 qq qo rfl) (nG w13 g g_v (Rg).ro) ?_))
  intro w20 hb21
  replace hb21:=ao hb21 g14
  refine lv (vb (!(dq g))) (wy (dt q28)) (bZ (b:=(dq g)) rfl) (lv (vb (!(dq g))) (wy (dt q28)) (aq rfl) ?_)
  by_cases q32:(dq g)=true
  ·
   refine lv (vp b3 0) (wy (congrArg Bool.not q32)) (a8 dY rfl rfl zs2 rfl) ?_
   replace bx5:=bx5.cn hb21
   refine lv (vi g.1) (wy (congrArg Bool.not q32)) (ab az rfl bx5 rfl) (lv (vb (decide (g.1<=30))) (wy (congrArg Bool.not q32)) (gB (m:=g.1) (n:=30) rfl rfl) (lv (vb (decide (g.1<=30))) (wy (congrArg Bool.not q32)) (aq rfl) ?_))
   by_cases q36:g.1<=30
   ·
    refine lv (vp b3 1) (wy (dt q36)) (a8 dY rfl rfl zs2 rfl) (lv (g_v) (wy (dt q36)) (ab bO rfl bx5 rfl) ?_)
    replace Rg:=Rg.cn hb21
    have len22:=(Rg).small
    refine lv (vi (g.2.length:Int)) (wy (dt q36)) (aQ fm rfl Rg) (lv (vb (decide ((g.2.length:Int)<=40))) (wy (dt q36)) (gB (m:=(g.2.length:Int)) (n:=40) rfl rfl) (lv (vb (decide ((g.2.length:Int)<=40))) (wy (congrArg Bool.not q32)) (aD rfl (dt q36) rfl) (lv (vb (decide ((g.2.length:Int)<=40))) (wy (dt q28)) (aB rfl (congrArg Bool.not q32) rfl) (lw (vb (decide ((g.2.length:Int)<=40))) (aD rfl (dt q28) rfl) (ma (vb (decide ((g.2.length:Int)<=40))) (aa (ar (vs:=[vb (decide ((g.2.length:Int)<=40))]) Tryz.func5 (.tmp rfl .nil) ?_)))))))
    have e0:(decide ((g.2.length:Int)<=40):Bool)=(decide (eD g p)):=by
      exact Ab hinv (by omega) ‹_› ‹_› ‹_›
    replace bH:=bH.cn hb21
    exact⟨(congrArg (a₁:=decide ((g.2.length:Int)<=40)) (λ(z0:Bool)=>Ending.returned (vb z0)) e0),bH.below⟩
   refine ae (wn (df q36)) (ae (wn (df q36)) (ae (wn (df q36)) (ae (wn (df q36)) (lv (vb false) (wy (congrArg Bool.not q32)) (aB rfl (df q36) rfl) (lv (vb false) (wy (dt q28)) (aB rfl (congrArg Bool.not q32) rfl) (lw (vb false) (aD rfl (dt q28) rfl) (ma (vb false) (aa (ar (vs:=[vb false]) Tryz.func5 (.tmp rfl .nil) ?_)))))))))
   have e0:(false:Bool)=(decide (eD g p)):=by
     exact AL hinv (by omega) ‹_› ‹_› ‹_›
   replace bH:=bH.cn hb21
   exact⟨rb e0,bH.below⟩
  refine ae (wn (congrArg Bool.not (Bool.eq_false_iff.2 q32))) (ae (wn (congrArg Bool.not (Bool.eq_false_iff.2 q32))) (ae (wn (congrArg Bool.not (Bool.eq_false_iff.2 q32))) (ae (wn (congrArg Bool.not (Bool.eq_false_iff.2 q32))) (ae (aW rfl rfl rfl) (ae (aW rfl rfl rfl) (ae (aW rfl rfl rfl) (ae (aW rfl rfl rfl) (ae (wn (congrArg Bool.not (Bool.eq_false_iff.2 q32))) (lv (vb true) (wy (dt q28)) (aD rfl (congrArg Bool.not (Bool.eq_false_iff.2 q32)) rfl) ?_)))))))))
  refine lw (vb true) (aD rfl (dt q28) rfl) (ma (vb true) (aa (ar (vs:=[vb true]) Tryz.func5 (.tmp rfl .nil) ?_)))
  have e0:(true:Bool)=(decide (eD g p)):=by
    exact Az hinv (by omega) ‹_› ‹_›
  replace bH:=bH.cn hb21
  exact⟨rb e0,bH.below⟩
 refine ae (wn (df q28)) (ae (wn (df q28)) (ae (wn (df q28)) (ae (wn (df q28)) (ae (aW rfl rfl rfl) (ae (aW rfl rfl rfl) (ae (aW rfl rfl rfl) (ae (aW rfl rfl rfl) (ae (aW rfl rfl rfl) (ae (aW rfl rfl rfl) ?_)))))))))
 refine ae (aW rfl rfl rfl) (ae (aW rfl rfl rfl) (ae (aW rfl rfl rfl) (ae (wn (df q28)) (lw (vb false) (aB rfl (df q28) rfl) (ma (vb false) (aa (ar (vs:=[vb false]) Tryz.func5 (.tmp rfl .nil) ?_)))))))
 have e0:(false:Bool)=(decide (eD g p)):=by
   exact AM hinv (by omega) ‹_›
 exact⟨rb e0,bH.below⟩
end TL
