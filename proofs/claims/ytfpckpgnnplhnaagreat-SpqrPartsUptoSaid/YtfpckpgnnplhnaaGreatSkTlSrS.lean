import Derived.Test.YtfpckpgnnplhnaaGreatSkTlGenA
import Derived.Test.YtfpckpgnnplhnaaGreatSkTlAli
set_option linter.all false
set_option maxRecDepth 20000
namespace TL
open Go Go.Proofs
theorem tO:Tryz.prog.follows .mixedOrders=true:=by kernel_rfl
theorem uj(w0:World)(a:(Int)×(List Pt))(a_v:Value)(ha_v:Ro w0 a_v a.2)(b:(Int)×(List Pt))(b_v:Value)(hb_v:Ro w0 b_v b.2):
    Calls Tryz.prog 17 #[vg [vi a.1,a_v],vg [vi b.1,b_v]] w0 (λee w=>ee= .returned (vb (decide (a=b)))/\eJ w0.heap.size w0 w):=by
 refine ap Tryz.func17 rfl nq ?_
 have bH:=b6.start w0
 have Ra:=ha_v.sl
 have Rb:=hb_v.sl
 refine a7 (a6 rfl (cN rfl (cq c0 (is 1) (1,0) rfl rfl ?_)))
 intro g4 w1 b3 ch2 bx5
 refine lo (cq g4 (is 2) (2,0) rfl rfl ?_)
 intro g9 w6 b8 ch7 bx10
 refine ma (vb false) (ab (a7 (a7 (a6 rfl (lx (aa ea rfl rfl rfl rfl) ?_)))))
 replace bx5:=bx5.cn ch7
 refine lx (a8 ah rfl bx5 rfl) (lx (aa ea rfl rfl rfl rfl) (lx (a8 ah rfl bx10 rfl) (lx (dq (m:=a.1) (n:=b.1) rfl rfl) (mv (vb (!(decide (a.1=b.1)))) ?_))))
 by_cases q11:a.1=b.1
 ·
  refine lv (vp b3 1) (wy (congrArg Bool.not (dt q11))) (aa ea rfl rfl rfl rfl) (lv (a_v) (wy (congrArg Bool.not (dt q11))) (a8 bR rfl bx5 rfl) ?_)
  replace Ra:=(Ra.cn ch2).cn ch7
  have len11:=(Ra).small
  refine lv (vi (a.2.length:Int)) (wy (congrArg Bool.not (dt q11))) (bp eR rfl Ra) (lv (vp b8 1) (wy (congrArg Bool.not (dt q11))) (aa ea rfl rfl rfl rfl) (lv (b_v) (wy (congrArg Bool.not (dt q11))) (a8 bR rfl bx10 rfl) ?_))
  replace Rb:=(Rb.cn ch2).cn ch7
  have len12:=(Rb).small
  refine lv (vi (b.2.length:Int)) (wy (congrArg Bool.not (dt q11))) (bp eR rfl Rb) (lv (vb (!(decide ((a.2.length:Int)=(b.2.length:Int))))) (wy (congrArg Bool.not (dt q11))) (dq (m:=(a.2.length:Int)) (n:=(b.2.length:Int)) rfl rfl) (lw (vb (!(decide ((a.2.length:Int)=(b.2.length:Int))))) (bt rfl (congrArg Bool.not (dt q11)) rfl) (ab ?_)))
  by_cases p1:(a.2.length:Int)=(b.2.length:Int)
  ·
   refine ag rfl (congrArg Bool.not (dt p1)) (ao (a7 (a7 (a6 rfl (ai 0 (ab (am ?_)))))))
   refine aV (σ:=Nat×aw) (λ⟨k,gq⟩ f w=>b6 w0 gq w/\f 2=vp b3 0/\f 3=vp b8 0/\f 5=vi ↑k/\Sl gq (is 0) w a_v a.2/\Sl gq (is 0) w b_v b.2/\Bx gq (is 1) w b3 [vi a.1,a_v]/\Bx gq (is 2) w b8 [vi b.1,b_v]/\(k:Int)<=((a.2.length:Int):Int)/\(List.take k a.2=List.take k b.2)) (λ⟨k,gq⟩=>Int.toNat (((a.2.length:Int):Int)-(k:Int))) (0,g9) ?_ ?_
   replace bH:=bH.cn ch2
   · exact⟨bH.cn ch7,rfl,rfl,rfl,Ra,Rb,bx5,bx10,by omega,by simp⟩
   clear Ra Rb bx5 bx10 bH
   rintro⟨k,g15⟩ f13 w14 ⟨bH,zs2,zs3,zs5,Ra,Rb,bx5,bx10,hle_k,hinv⟩ back4
   refine a7 (a7 (a6 rfl (mz zs5 (lx (aa ea rfl rfl zs2 rfl) (lx (a8 bR rfl bx5 rfl) (lx (bp eR rfl Ra) (lx (bw (m:=↑k) (n:=(a.2.length:Int)) rfl rfl) (ab ?_))))))))
   by_cases p4:(k:Int)<(a.2.length:Int)
   ·
    refine af rfl (dt p4) (ao (a7 (am (a7 (cG g15 rfl tO (by kernel_rfl) ?_)))))
    intro w17 ch16
    refine qx (λw' hw'=>aa ea rfl rfl zs2 rfl) ?_
    replace bx5:=bx5.cn ch16
    refine qx (λw' hw'=>a8 bR rfl (bx5.bel hw') rfl) (qz zs5 ?_)
    replace Ra:=Ra.cn ch16
    refine qx (λw' hw'=>ad (v:=a_v) (i:=↑k) eR rfl rfl (Ra.bel hw') rfl (by omega) (by omega)) (qv (vg [vi ((gI a.2 ↑k).1),vi ((gI a.2 ↑k).2)]) (λw' hw'=>bJ (v:=a_v) (i:=↑k) bx rfl (Ra.bel hw') (by omega) (by omega) rfl) (qx (λw' hw'=>aa ea rfl rfl zs3 rfl) ?_))
    replace bx10:=bx10.cn ch16
    refine qx (λw' hw'=>a8 bR rfl (bx10.bel hw') rfl) (qz zs5 ?_)
    replace Rb:=Rb.cn ch16
    refine qx (λw' hw'=>ad (v:=b_v) (i:=↑k) eR rfl rfl (Rb.bel hw') rfl (by omega) (by omega)) (qv (vg [vi ((gI b.2 ↑k).1),vi ((gI b.2 ↑k).2)]) (λw' hw'=>bJ (v:=b_v) (i:=↑k) bx rfl (Rb.bel hw') (by omega) (by omega) rfl) (qv (vb (!(decide ((gI a.2 ↑k)=(gI b.2 ↑k))))) (λw' hw'=>qG (a:=(gI a.2 ↑k)) (b:=(gI b.2 ↑k)) eO U3 ah (by kernel_rfl) rfl rfl) (ep ?_)))
    intro w18 hc19
    replace hc19:=aN hc19 g15
    by_cases p6:(gI a.2 ↑k)=(gI b.2 ↑k)
    ·
     refine ag rfl (congrArg Bool.not (dt p6)) (ao (ak (a6 rfl (mz zs5 (lx (aS (m:=↑k) (n:=1) rfl rfl (by omega)) (ai ((k:Int)+1) (ab ?_)))))))
     replace bH:=bH.cn ch16
     refine back4 (k+1,g15) _ _ ⟨bH.cn hc19,zs2,zs3,rfl,Ra.cn hc19,Rb.cn hc19,bx5.cn hc19,bx10.cn hc19,by omega,?_⟩ ?_
     · show List.take (k+1) a.2=List.take (k+1) b.2
       rw[aT ‹_›,aT (by omega),hinv];simp_all
     · show Int.toNat (_-_)<Int.toNat (_-_)
       omega
    refine af rfl (congrArg Bool.not (df p6)) (a7 ?_)
    clear bx5 bx10
    refine a6 rfl (ma (vb false) (ab (au (vs:=[vb false]) Tryz.func17 (.tmp rfl .nil) ?_)))
    have e0:(false:Bool)=(decide (a=b)):=by
      (refine(df λh=>?_).symm;subst h;simp_all;done)
    replace bH:=bH.cn ch16
    replace bH:=bH.cn hc19
    exact⟨rb e0,bH.below⟩
   refine ag rfl (df p4) (aO rfl (a7 ?_))
   clear bx5 bx10
   refine a6 rfl (ma (vb true) (ab (au (vs:=[vb true]) Tryz.func17 (.tmp rfl .nil) ?_)))
   have e0:(true:Bool)=(decide (a=b)):=by
     (have e:=hinv;rw[List.take_of_length_le (by omega),List.take_of_length_le (by omega)] at e;exact(dt (Prod.ext ‹_› e)).symm)
   exact⟨rb e0,bH.below⟩
  refine af rfl (congrArg Bool.not (df p1)) (a7 ?_)
  clear bx5 bx10
  refine a6 rfl (ma (vb false) (ab (au (vs:=[vb false]) Tryz.func17 (.tmp rfl .nil) ?_)))
  have e0:(false:Bool)=(decide (a=b)):=by
    (refine(df λh=>?_).symm;subst h;simp_all;done)
  replace bH:=bH.cn ch2
  replace bH:=bH.cn ch7
  exact⟨rb e0,bH.below⟩
 refine aA (wn (congrArg Bool.not (df q11))) (aA (wn (congrArg Bool.not (df q11))) (aA (wn (congrArg Bool.not (df q11))) (aA (wn (congrArg Bool.not (df q11))) (aA (wn (congrArg Bool.not (df q11))) (aA (wn (congrArg Bool.not (df q11))) (aA (wn (congrArg Bool.not (df q11))) (lw (vb true) (bj rfl (congrArg Bool.not (df q11)) rfl) (ab (af rfl rfl ?_)))))))))
 refine a7 ?_
 clear bx5 bx10
 refine a6 rfl (ma (vb false) (ab (au (vs:=[vb false]) Tryz.func17 (.tmp rfl .nil) ?_)))
 have e0:(false:Bool)=(decide (a=b)):=by
   (refine(df λh=>?_).symm;subst h;simp_all;done)
 replace bH:=bH.cn ch2
 replace bH:=bH.cn ch7
 exact⟨rb e0,bH.below⟩
end TL
