import Derived.Test.YtkhfimgjcdeejaaTlP2
import Derived.Test.YtkhfimgjcdeejaaTlGmA
import Derived.Test.YtkhfimgjcdeejaaTlGenA
import Derived.Test.YtkhfimgjcdeejaaProg
import Derived.Test.YtkhfimgjcdeejaaTlAli
set_option linter.all false
set_option maxRecDepth 20000
namespace TL
open Go Go.Proofs
theorem lJ:Tp Try.prog 22 false 1 24 (.slice none 0 0):=Tp.of (by kernel_rfl)
theorem pn:Tp Try.prog 29 true 2 32 (.agg #[.int .i64 0,.slice none 0 0]):=Tp.of (by kernel_rfl)
theorem m7:Tp Try.prog 36 false 1 24 (.slice none 0 0):=Tp.of (by kernel_rfl)
theorem lY:Try.f12.body.isNone=false:=rfl
theorem lP:(Try.f12.name== "runtime.NumGoroutine")=false:=by decide+kernel
theorem kU(w0:World)(g:(Int)×(List Pt))(g_v:Value)(hg_v:Ro w0 g_v g.2)(p:(List Pt)×(List (List Pt)))(p_v p_v1:Value)(hp_v:Ro w0 p_v p.1)(hp_v1:Ro w0 p_v1 p.2)(hp1:(p.1.length:Int)<=1048576)(hp2:(p.2.length:Int)<=1048576)(hp3:∀l_∈p.2,l_.length<=1048576):
    Calls Try.prog 11 #[vg [vi g.1,g_v],vg [p_v,p_v1]] w0 (λee w=>ee= .returned (vb (decide (cY g p)))/\cG w0.heap.size w0 w):=by
 refine aK Try.func11 rfl nq ?_
 have bH:=bu.start w0
 have Rg:=hg_v.sl
 have Rp:=hp_v.sl
 have r_p_v1:=hp_v1.sl
 refine a8 (a7 rfl (cN rfl (bC c0 (is 1) (1,0) rfl rfl ?_)))
 intro g4 w1 b3 ch2 bx5
 replace bx5:Bx g4 (is 1) w1 b3 [vi g.1,g_v]:=bx5
 refine lo (bC g4 (is 2) (2,0) rfl rfl ?_)
 intro g9 w6 b8 ch7 bx10
 replace bx10:Bx g9 (is 2) w6 b8 [p_v,p_v1]:=bx10
 refine ma (vb false) (ab (a8 (a7 rfl (lx (a9 eQ rfl rfl rfl rfl) (lx (aa lJ rfl bx10 rfl) ?_)))))
 replace Rp:=(Rp.cn ch2).cn ch7
 have len11:=(Rp).small
 refine lx (bO cT rfl Rp) (ai (p.1.length:Int) (ab (a8 (a8 (a7 rfl (ai 0 (ab (aC ?_))))))))
 refine bF (σ:=Int×Nat×aV) (λ⟨n,e,gq⟩ f w=>bu w0 gq w/\f 2=vp b3 0/\f 3=vp b8 0/\f 5=vi n/\f 6=vi ↑e/\Sl gq (is 0) w g_v g.2/\Sl gq (is 0) w p_v p.1/\Sl gq (is 0) w p_v1 p.2/\Bx gq (is 1) w b3 [vi g.1,g_v]/\Bx gq (is 2) w b8 [p_v,p_v1]/\(e:Int)<=((p.2.length:Int):Int)/\(n=eX p e)) (λ⟨n,e,gq⟩=>Int.toNat (((p.2.length:Int):Int)-(e:Int))) ((p.1.length:Int),0,g9) ?_ ?_
 replace bH:=bH.cn ch2
 · exact⟨bH.cn ch7,rfl,rfl,rfl,rfl,(Rg.cn ch2).cn ch7,Rp,(r_p_v1.cn ch2).cn ch7,bx5.cn ch7,bx10,by omega,by rfl⟩
 clear Rg Rp r_p_v1 bx5 bx10 bH
 rintro⟨n,e,g14⟩ f12 w13 ⟨bH,zs2,zs3,zs5,zs6,Rg,Rp,r_p_v1,bx5,bx10,hle_e,hinv⟩ back3
 have hlb:=mm hp1 hp3 e (by omega)
 refine a8 (a8 (a7 rfl (mz zs6 (lx (a9 eQ rfl rfl zs3 rfl) (lx (aa m7 rfl bx10 rfl) ?_)))))
 have len15:=(r_p_v1).small
 refine lx (bO iL rfl r_p_v1) (lx (bc (m:=↑e) (n:=(p.2.length:Int)) rfl rfl) (ab ?_))
 by_cases p3:(e:Int)<(p.2.length:Int)
 ·
  refine ag rfl (dt p3) ?_
  have hll:=hp3 _ (bl (xs:=p.2) (i:=↑e) (by omega) ‹_›)
  refine au (a8 (aC (a7 rfl (mz zs5 (lx (a9 eQ rfl rfl zs3 rfl) (lx (aa m7 rfl bx10 rfl) (mz zs6 (lx (af (v:=p_v1) (i:=↑e) iL rfl rfl r_p_v1 rfl (by omega) (by omega)) ?_))))))))
  obtain⟨v16,cel17,r18⟩:=dK (r:=(e:Int)) r_p_v1 (by omega) (by omega)
  refine lx (aZ lJ rfl cel17) ?_
  have len19:=(r18).small
  refine lx (bO cT rfl r18) (lx (ba (m:=n) (n:=(List.length (gI p.2 ↑e):Int)) rfl rfl (by omega)) (lx (ba (m:=n+(List.length (gI p.2 ↑e):Int)) (n:=1) rfl rfl (by omega)) (ai ((n+(List.length (gI p.2 ↑e):Int))+1) (ab (ap ?_)))))
  clear r18
  refine a7 rfl (mz zs6 (lx (ba (m:=↑e) (n:=1) rfl rfl (by omega)) (ai ((e:Int)+1) (ab ?_))))
  refine back3 ((n+(List.length (gI p.2 ↑e):Int))+1,e+1,g14) _ _ ⟨bH,zs2,zs3,rfl,rfl,Rg,Rp,r_p_v1,bx5,bx10,by omega,?_⟩ ?_
  · show((n+(List.length (gI p.2 ↑e):Int))+1)=eX p (e+1)
    rw[hinv];rfl
  · show Int.toNat (((p.2.length:Int):Int)-((e+1):Int))<Int.toNat (((p.2.length:Int):Int)-(e:Int))
    omega
 refine ah rfl (df p3) (aQ rfl (a8 ?_))
 clear bx10
 refine a7 rfl (mz zs5 (lx (fZ (m:=n) (n:=400) rfl rfl) (mv (vb (decide (n<=400))) ?_)))
 by_cases q28:n<=400
 ·
  refine lv (vg [vi g.1,g_v]) (wy (dt q28)) (ae (ds:=[vi g.1,g_v]) pn zs2 bx5 rfl rfl) (cN (wy (dt q28)) (aP (v:=vb (cK g)) (aG (vals:=[vg [vi g.1,g_v]]) Try.func12 lY lP rfl) (mp w13 g g_v (Rg).ro) ?_))
  intro w20 hb21
  replace hb21:=am hb21 g14
  refine lv (vb (!(cK g))) (wy (dt q28)) (dr (b:=(cK g)) rfl) (lv (vb (!(cK g))) (wy (dt q28)) (aR rfl) ?_)
  by_cases q32:(cK g)=true
  ·
   refine lv (vp b3 0) (wy (congrArg Bool.not q32)) (a9 fO rfl rfl zs2 rfl) ?_
   replace bx5:=bx5.cn hb21
   refine lv (vi g.1) (wy (congrArg Bool.not q32)) (aa aL rfl bx5 rfl) (lv (vb (decide (g.1<=30))) (wy (congrArg Bool.not q32)) (fZ (m:=g.1) (n:=30) rfl rfl) (lv (vb (decide (g.1<=30))) (wy (congrArg Bool.not q32)) (aR rfl) ?_))
   by_cases q36:g.1<=30
   ·
    refine lv (vp b3 1) (wy (dt q36)) (a9 fO rfl rfl zs2 rfl) (lv (g_v) (wy (dt q36)) (aa cO rfl bx5 rfl) ?_)
    replace Rg:=Rg.cn hb21
    have len22:=(Rg).small
    refine lv (vi (g.2.length:Int)) (wy (dt q36)) (bO iJ rfl Rg) (lv (vb (decide ((g.2.length:Int)<=40))) (wy (dt q36)) (fZ (m:=(g.2.length:Int)) (n:=40) rfl rfl) (lv (vb (decide ((g.2.length:Int)<=40))) (wy (congrArg Bool.not q32)) (aM rfl (dt q36) rfl) (lv (vb (decide ((g.2.length:Int)<=40))) (wy (dt q28)) (aS rfl (congrArg Bool.not q32) rfl) (lw (vb (decide ((g.2.length:Int)<=40))) (aM rfl (dt q28) rfl) (ma (vb (decide ((g.2.length:Int)<=40))) (ab (aw (vs:=[vb (decide ((g.2.length:Int)<=40))]) Try.func11 (.tmp rfl .nil) ?_)))))))
    have e0:(decide ((g.2.length:Int)<=40):Bool)=(decide (cY g p)):=by
      exact sF hinv (by omega) ‹_› ‹_› ‹_›
    replace bH:=bH.cn hb21
    exact⟨(congrArg (a₁:=decide ((g.2.length:Int)<=40)) (λ(z0:Bool)=>Ending.returned (vb z0)) e0),bH.below⟩
   refine ak (wn (df q36)) (ak (wn (df q36)) (ak (wn (df q36)) (ak (wn (df q36)) (lv (vb false) (wy (congrArg Bool.not q32)) (aS rfl (df q36) rfl) (lv (vb false) (wy (dt q28)) (aS rfl (congrArg Bool.not q32) rfl) (lw (vb false) (aM rfl (dt q28) rfl) (ma (vb false) (ab (aw (vs:=[vb false]) Try.func11 (.tmp rfl .nil) ?_)))))))))
   have e0:(false:Bool)=(decide (cY g p)):=by
     exact sb hinv (by omega) ‹_› ‹_› ‹_›
   replace bH:=bH.cn hb21
   exact⟨rb e0,bH.below⟩
  refine ak (wn (congrArg Bool.not (Bool.eq_false_iff.2 q32))) (ak (wn (congrArg Bool.not (Bool.eq_false_iff.2 q32))) (ak (wn (congrArg Bool.not (Bool.eq_false_iff.2 q32))) (ak (wn (congrArg Bool.not (Bool.eq_false_iff.2 q32))) (ak (bx rfl rfl rfl) (ak (bx rfl rfl rfl) (ak (bx rfl rfl rfl) (ak (bx rfl rfl rfl) (ak (wn (congrArg Bool.not (Bool.eq_false_iff.2 q32))) (lv (vb true) (wy (dt q28)) (aM rfl (congrArg Bool.not (Bool.eq_false_iff.2 q32)) rfl) ?_)))))))))
  refine lw (vb true) (aM rfl (dt q28) rfl) (ma (vb true) (ab (aw (vs:=[vb true]) Try.func11 (.tmp rfl .nil) ?_)))
  have e0:(true:Bool)=(decide (cY g p)):=by
    exact sq hinv (by omega) ‹_› ‹_›
  replace bH:=bH.cn hb21
  exact⟨rb e0,bH.below⟩
 refine ak (wn (df q28)) (ak (wn (df q28)) (ak (wn (df q28)) (ak (wn (df q28)) (ak (bx rfl rfl rfl) (ak (bx rfl rfl rfl) (ak (bx rfl rfl rfl) (ak (bx rfl rfl rfl) (ak (bx rfl rfl rfl) (ak (bx rfl rfl rfl) ?_)))))))))
 refine ak (bx rfl rfl rfl) (ak (bx rfl rfl rfl) (ak (bx rfl rfl rfl) (ak (wn (df q28)) (lw (vb false) (aS rfl (df q28) rfl) (ma (vb false) (ab (aw (vs:=[vb false]) Try.func11 (.tmp rfl .nil) ?_)))))))
 have e0:(false:Bool)=(decide (cY g p)):=by
   exact sQ hinv (by omega) ‹_›
 exact⟨rb e0,bH.below⟩
end TL
