import Derived.Test.YtcblhagfadineaaJpTlP4
import Derived.Test.YtcblhagfadineaaJpTlGenA
import Derived.Test.YtcblhagfadineaaJpTlGjA
import Derived.Test.YtcblhagfadineaaJpTlGjB
import Derived.Test.YtcblhagfadineaaJpTlGjC
import Derived.Test.YtcblhagfadineaaJpTlGjD
import Derived.Test.YtcblhagfadineaaJpTlGjE
import Derived.Test.YtcblhagfadineaaProg
import Derived.Test.YtcblhagfadineaaJpTlAli
set_option linter.all false
set_option maxRecDepth 20000
namespace TL
open Go Go.Proofs
theorem pJ(w0:World)(g:(Int)×(List Pt))(g_v:Value)(hg_v:Ro w0 g_v g.2)(p:(List Pt)×(List (List Pt)))(p_v p_v1:Value)(hp_v:Ro w0 p_v p.1)(hp_v1:Ro w0 p_v1 p.2)(hp1:(p.1.length:Int)<=1048576)(hp2:(p.2.length:Int)<=1048576)(hp3:∀l_∈p.2,l_.length<=1048576):
    Calls Try.prog 5 #[vg [vi g.1,g_v],vg [p_v,p_v1]] w0 (λee w=>ee= .returned (vb (decide (eh g p)))/\dd w0.heap.size w0 w):=by
 refine av Try.func5 rfl nq ?_
 have bH:=aX.start w0
 have Rg:=hg_v.sl
 have Rp:=hp_v.sl
 have r_p_v1:=hp_v1.sl
 refine aa (a8 rfl (cj rfl (bj c0 (is 1) (1,0) rfl rfl ?_)))
 intro g4 w1 b3 ch2 bx5
 replace bx5:Bx g4 (is 1) w1 b3 [vi g.1,g_v]:=bx5
 refine lo (bj g4 (is 2) (2,0) rfl rfl ?_)
 intro g9 w6 b8 ch7 bx10
 replace bx10:Bx g9 (is 2) w6 b8 [p_v,p_v1]:=bx10
 refine ma (vb false) (ab (aa (a8 rfl (lx (ad iK rfl rfl rfl rfl) (lx (af bO rfl bx10 rfl) ?_)))))
 replace Rp:=(Rp.cn ch2).cn ch7
 have len11:=(Rp).small
 refine lx (aT cX rfl Rp) (ai (p.1.length:Int) (ab (aa (aa (a8 rfl (ai 0 (ab (aq ?_))))))))
 refine aQ (σ:=Int×Nat×aH) (λ⟨n,e,gq⟩ f w=>aX w0 gq w/\f 2=vp b3 0/\f 3=vp b8 0/\f 5=vi n/\f 6=vi ↑e/\Sl gq (is 0) w g_v g.2/\Sl gq (is 0) w p_v p.1/\Sl gq (is 0) w p_v1 p.2/\Bx gq (is 1) w b3 [vi g.1,g_v]/\Bx gq (is 2) w b8 [p_v,p_v1]/\(e:Int)<=((p.2.length:Int):Int)/\(n=ii p e)) (λ⟨n,e,gq⟩=>Int.toNat (((p.2.length:Int):Int)-(e:Int))) ((p.1.length:Int),0,g9) ?_ ?_
 replace bH:=bH.cn ch2
 · exact⟨bH.cn ch7,rfl,rfl,rfl,rfl,(Rg.cn ch2).cn ch7,Rp,(r_p_v1.cn ch2).cn ch7,bx5.cn ch7,bx10,by omega,by rfl⟩
 clear Rg Rp r_p_v1 bx5 bx10 bH
 rintro⟨n,e,g14⟩ f12 w13 ⟨bH,zs2,zs3,zs5,zs6,Rg,Rp,r_p_v1,bx5,bx10,hle_e,hinv⟩ back3
 have hlb:=qT hp1 hp3 e (by omega)
 refine aa (aa (a8 rfl (mz zs6 (lx (ad iK rfl rfl zs3 rfl) (lx (af d3 rfl bx10 rfl) ?_)))))
 have len15:=(r_p_v1).small
 refine lx (aT kM rfl r_p_v1) (lx (b6 (m:=↑e) (n:=(p.2.length:Int)) rfl rfl) (ab ?_))
 by_cases p3:(e:Int)<(p.2.length:Int)
 ·
  refine ag rfl (dt p3) ?_
  have hll:=hp3 _ (aR (xs:=p.2) (i:=↑e) (by omega) ‹_›)
  refine am (aa (aq (a8 rfl (mz zs5 (lx (ad iK rfl rfl zs3 rfl) (lx (af d3 rfl bx10 rfl) (mz zs6 (lx (al (v:=p_v1) (i:=↑e) kM rfl rfl r_p_v1 rfl (by omega) (by omega)) ?_))))))))
  obtain⟨v16,cel17,r18⟩:=dh (r:=(e:Int)) r_p_v1 (by omega) (by omega)
  refine lx (bD bO rfl cel17) ?_
  have len19:=(r18).small
  refine lx (aT cX rfl r18) (lx (aP (m:=n) (n:=(List.length (gI p.2 ↑e):Int)) rfl rfl (by omega)) (lx (aP (m:=n+(List.length (gI p.2 ↑e):Int)) (n:=1) rfl rfl (by omega)) (ai ((n+(List.length (gI p.2 ↑e):Int))+1) (ab (ao ?_)))))
  clear r18
  refine a8 rfl (mz zs6 (lx (aP (m:=↑e) (n:=1) rfl rfl (by omega)) (ai ((e:Int)+1) (ab ?_))))
  refine back3 ((n+(List.length (gI p.2 ↑e):Int))+1,e+1,g14) _ _ ⟨bH,zs2,zs3,rfl,rfl,Rg,Rp,r_p_v1,bx5,bx10,by omega,?_⟩ ?_
  · show((n+(List.length (gI p.2 ↑e):Int))+1)=ii p (e+1)
    rw[hinv];rfl
  · show Int.toNat (((p.2.length:Int):Int)-((e+1):Int))<Int.toNat (((p.2.length:Int):Int)-(e:Int))
    omega
 refine aj rfl (df p3) (aM rfl (aa ?_))
 clear bx10
 refine a8 rfl (mz zs5 (lx (jq (m:=n) (n:=400) rfl rfl) (mv (vb (decide (n<=400))) ?_)))
 by_cases q28:n<=400
 ·
  refine lv (vg [vi g.1,g_v]) (wy (dt q28)) (ak (ds:=[vi g.1,g_v]) cL zs2 bx5 rfl rfl) (cj (wy (dt q28)) (aK (v:=vb (d6 g)) (aA (vals:=[vg [vi g.1,g_v]]) Try.func14 uq uw rfl) (qn w13 g g_v (Rg).ro) ?_))
  intro w20 hb21
  replace hb21:=ar hb21 g14
  refine lv (vb (!(d6 g))) (wy (dt q28)) (dj (b:=(d6 g)) rfl) (lv (vb (!(d6 g))) (wy (dt q28)) (aD rfl) ?_)
  by_cases q32:(d6 g)=true
  ·
   refine lv (vp b3 0) (wy (congrArg Bool.not q32)) (ad fV rfl rfl zs2 rfl) ?_
   replace bx5:=bx5.cn hb21
   refine lv (vi g.1) (wy (congrArg Bool.not q32)) (af aI rfl bx5 rfl) (lv (vb (decide (g.1<=30))) (wy (congrArg Bool.not q32)) (jq (m:=g.1) (n:=30) rfl rfl) (lv (vb (decide (g.1<=30))) (wy (congrArg Bool.not q32)) (aD rfl) ?_))
   by_cases q36:g.1<=30
   ·
    refine lv (vp b3 1) (wy (dt q36)) (ad fV rfl rfl zs2 rfl) (lv (g_v) (wy (dt q36)) (af cw rfl bx5 rfl) ?_)
    replace Rg:=Rg.cn hb21
    have len22:=(Rg).small
    refine lv (vi (g.2.length:Int)) (wy (dt q36)) (aT jQ rfl Rg) (lv (vb (decide ((g.2.length:Int)<=40))) (wy (dt q36)) (jq (m:=(g.2.length:Int)) (n:=40) rfl rfl) (lv (vb (decide ((g.2.length:Int)<=40))) (wy (congrArg Bool.not q32)) (aE rfl (dt q36) rfl) (lv (vb (decide ((g.2.length:Int)<=40))) (wy (dt q28)) (aC rfl (congrArg Bool.not q32) rfl) (lw (vb (decide ((g.2.length:Int)<=40))) (aE rfl (dt q28) rfl) (ma (vb (decide ((g.2.length:Int)<=40))) (ab (au (vs:=[vb (decide ((g.2.length:Int)<=40))]) Try.func5 (.tmp rfl .nil) ?_)))))))
    have e0:(decide ((g.2.length:Int)<=40):Bool)=(decide (eh g p)):=by
      exact zX hinv (by omega) ‹_› ‹_› ‹_›
    replace bH:=bH.cn hb21
    exact⟨(congrArg (a₁:=decide ((g.2.length:Int)<=40)) (λ(z0:Bool)=>Ending.returned (vb z0)) e0),bH.below⟩
   refine ae (wn (df q36)) (ae (wn (df q36)) (ae (wn (df q36)) (ae (wn (df q36)) (lv (vb false) (wy (congrArg Bool.not q32)) (aC rfl (df q36) rfl) (lv (vb false) (wy (dt q28)) (aC rfl (congrArg Bool.not q32) rfl) (lw (vb false) (aE rfl (dt q28) rfl) (ma (vb false) (ab (au (vs:=[vb false]) Try.func5 (.tmp rfl .nil) ?_)))))))))
   have e0:(false:Bool)=(decide (eh g p)):=by
     exact zJ hinv (by omega) ‹_› ‹_› ‹_›
   replace bH:=bH.cn hb21
   exact⟨rb e0,bH.below⟩
  refine ae (wn (congrArg Bool.not (Bool.eq_false_iff.2 q32))) (ae (wn (congrArg Bool.not (Bool.eq_false_iff.2 q32))) (ae (wn (congrArg Bool.not (Bool.eq_false_iff.2 q32))) (ae (wn (congrArg Bool.not (Bool.eq_false_iff.2 q32))) (ae (bt rfl rfl rfl) (ae (bt rfl rfl rfl) (ae (bt rfl rfl rfl) (ae (bt rfl rfl rfl) (ae (wn (congrArg Bool.not (Bool.eq_false_iff.2 q32))) (lv (vb true) (wy (dt q28)) (aE rfl (congrArg Bool.not (Bool.eq_false_iff.2 q32)) rfl) ?_)))))))))
  refine lw (vb true) (aE rfl (dt q28) rfl) (ma (vb true) (ab (au (vs:=[vb true]) Try.func5 (.tmp rfl .nil) ?_)))
  have e0:(true:Bool)=(decide (eh g p)):=by
    exact zD hinv (by omega) ‹_› ‹_›
  replace bH:=bH.cn hb21
  exact⟨rb e0,bH.below⟩
 refine ae (wn (df q28)) (ae (wn (df q28)) (ae (wn (df q28)) (ae (wn (df q28)) (ae (bt rfl rfl rfl) (ae (bt rfl rfl rfl) (ae (bt rfl rfl rfl) (ae (bt rfl rfl rfl) (ae (bt rfl rfl rfl) (ae (bt rfl rfl rfl) ?_)))))))))
 refine ae (bt rfl rfl rfl) (ae (bt rfl rfl rfl) (ae (bt rfl rfl rfl) (ae (wn (df q28)) (lw (vb false) (aC rfl (df q28) rfl) (ma (vb false) (ab (au (vs:=[vb false]) Try.func5 (.tmp rfl .nil) ?_)))))))
 have e0:(false:Bool)=(decide (eh g p)):=by
   exact zM hinv (by omega) ‹_›
 exact⟨rb e0,bH.below⟩
end TL
