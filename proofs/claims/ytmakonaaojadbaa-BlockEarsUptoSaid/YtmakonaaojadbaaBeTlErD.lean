import Derived.Test.YtmakonaaojadbaaBeTlP4
import Derived.Test.YtmakonaaojadbaaBeTlGmA
import Derived.Test.YtmakonaaojadbaaBeTlGenA
import Derived.Test.YtmakonaaojadbaaProg
import Derived.Test.YtmakonaaojadbaaBeTlAli
set_option linter.all false
set_option maxRecDepth 20000
namespace TL
open Go Go.Proofs
theorem qh:Try.prog.follows .mixedOrders=true:=by kernel_rfl
theorem oA:Tp Try.prog 32 false 1 24 (.slice none 0 0):=Tp.of (by kernel_rfl)
theorem tp:Try.f19.body.isNone=false:=rfl
theorem sF:(Try.f19.name== "runtime.NumGoroutine")=false:=by decide+kernel
theorem ox(w0:World)(n:Int)(all:Int)(hn:0<=n/\n<=1099511627776):
    Calls Try.prog 46 #[vi n,vi all] w0 (λee w=>ee= .returned (vi (min all (n+2000)))/\eB w0.heap.size w0 w):=by
 refine aB Try.func46 rfl nq ?_
 have bH:=bp.start w0
 obtain⟨hn1,hn2⟩:=hn
 refine aa (a8 rfl (ai 0 (ag (aa (a8 rfl (mi all (mi n (lx (aE (m:=n) (n:=2000) rfl rfl (by omega)) (lw (vi (min all (n+2000))) (kY rfl rfl) (ai (min all (n+2000)) (ag (aH (vs:=[vi (min all (n+2000))]) Try.func46 (.tmp rfl .nil) ?_))))))))))))
 have e0:(min all (n+2000):Int)=(min all (n+2000)):=by
   rfl
 exact⟨ri e0,bH.below⟩
theorem rt(w0:World)(a:fN)(a_v:Value)(ha_v:Ro w0 a_v a)(b:fN)(b_v:Value)(hb_v:Ro w0 b_v b):
    Calls Try.prog 28 #[a_v,b_v] w0 (λee w=>ee= .returned (vb (decide (a=b)))/\eB w0.heap.size w0 w):=by
 refine aB Try.func28 rfl nq ?_
 have bH:=bp.start w0
 have Ra:=ha_v.sl
 have Rb:=hb_v.sl
 refine aa (a8 rfl (ma (vb false) (ag (aa (aa (a8 rfl (mv a_v ?_)))))))
 have len1:=(Ra).small
 refine lx (bh dE rfl Ra) (mv b_v ?_)
 have len2:=(Rb).small
 refine lx (bh dE rfl Rb) (lx (eQ (m:=(a.length:Int)) (n:=(b.length:Int)) rfl rfl) (ag ?_))
 by_cases p1:(a.length:Int)=(b.length:Int)
 ·
  refine aj rfl (congrArg Bool.not (dt p1)) (aw (aa (aa (a8 rfl (ai 0 (ag (av ?_)))))))
  refine aW (σ:=Nat×aF) (λ⟨k,gq⟩ f w=>bp w0 gq w/\f 0=a_v/\f 1=b_v/\f 5=vi ↑k/\Sl gq (is 0) w a_v a/\Sl gq (is 0) w b_v b/\(k:Int)<=((a.length:Int):Int)/\(List.take k a=List.take k b)) (λ⟨k,gq⟩=>Int.toNat (((a.length:Int):Int)-(k:Int))) (0,c0) ?_ ?_
  · exact⟨bH,rfl,rfl,rfl,Ra,Rb,by omega,by simp⟩
  clear Ra Rb bH
  rintro⟨k,g5⟩ f3 w4 ⟨bH,zs0,zs1,zs5,Ra,Rb,hle_k,hinv4⟩ back4
  refine aa (aa (a8 rfl (mz zs5 (mz zs0 (lx (bh dE rfl Ra) (lx (b7 (m:=↑k) (n:=(a.length:Int)) rfl rfl) (ag ?_)))))))
  by_cases p4:(k:Int)<(a.length:Int)
  ·
   refine ao rfl (dt p4) (aw (aa (av (aa (c6 g5 rfl qh (by kernel_rfl) ?_)))))
   intro w7 ch6
   refine qz zs0 (qz zs5 ?_)
   replace Ra:=Ra.cn ch6
   refine qx (λw' hw'=>ad (v:=a_v) (i:=↑k) dE rfl rfl (Ra.bel hw') rfl (by omega) (by omega)) ?_
   obtain⟨v8,cel9,r10⟩:=nS (r:=(k:Int)) Ra (by omega) (by omega)
   refine qx (λw' hw'=>bv oA rfl (dW cel9 hw')) (qz zs1 (qz zs5 ?_))
   replace Rb:=Rb.cn ch6
   refine qx (λw' hw'=>ad (v:=b_v) (i:=↑k) dE rfl rfl (Rb.bel hw') rfl (by omega) (by omega)) ?_
   obtain⟨v11,cel12,r13⟩:=nS (r:=(k:Int)) Rb (by omega) (by omega)
   refine qx (λw' hw'=>bv oA rfl (dW cel12 hw')) (dZ (v:=vb (decide ((gI a ↑k)=(gI b ↑k)))) rfl (λw' hw'=>aX (vals:=[v8,v11]) Try.func19 tp sF rfl) (λw' hw'=>(qK w' (gI a ↑k) v8 ((r10.bel hw')).ro (gI b ↑k) v11 ((r13.bel hw')).ro).mono λe w2 h2=>⟨h2.1,hw'.trans (h2.2.mono hw'.size)⟩) (qx (λw' hw'=>dV (b:=(decide ((gI a ↑k)=(gI b ↑k)))) rfl) (db ?_)))
   intro w14 hc15
   replace hc15:=aN hc15 g5
   by_cases p6:(decide ((gI a ↑k)=(gI b ↑k)))=true
   ·
    refine aj rfl (congrArg Bool.not p6) (aw (am ?_))
    clear r10 r13
    refine a8 rfl (mz zs5 (lx (aE (m:=↑k) (n:=1) rfl rfl (by omega)) (ai ((k:Int)+1) (ag ?_))))
    replace bH:=bH.cn ch6
    refine back4 (k+1,g5) _ _ ⟨bH.cn hc15,zs0,zs1,rfl,Ra.cn hc15,Rb.cn hc15,by omega,?_⟩ ?_
    · show List.take (k+1) a=List.take (k+1) b
      rw[cj ‹_›,cj (by omega),hinv4];simp_all
    · show Int.toNat (((a.length:Int):Int)-((k+1):Int))<Int.toNat (((a.length:Int):Int)-(k:Int))
      omega
   refine ao rfl (congrArg Bool.not (Bool.eq_false_iff.2 p6)) (aa ?_)
   clear r10 r13
   refine a8 rfl (ma (vb false) (ag (aH (vs:=[vb false]) Try.func28 (.tmp rfl .nil) ?_)))
   have e0:(false:Bool)=(decide (a=b)):=by
     exact(df (λh=>by subst h;simp_all)).symm
   replace bH:=bH.cn ch6
   replace bH:=bH.cn hc15
   exact⟨rb e0,bH.below⟩
  refine aj rfl (df p4) (aC rfl (aa (a8 rfl (ma (vb true) (ag (aH (vs:=[vb true]) Try.func28 (.tmp rfl .nil) ?_))))))
  have e0:(true:Bool)=(decide (a=b)):=by
    (have e:=hinv4;rw[List.take_of_length_le (by omega),List.take_of_length_le (by omega)] at e;exact(dt e).symm)
  exact⟨rb e0,bH.below⟩
 refine ao rfl (congrArg Bool.not (df p1)) (aa (a8 rfl (ma (vb false) (ag (aH (vs:=[vb false]) Try.func28 (.tmp rfl .nil) ?_)))))
 have e0:(false:Bool)=(decide (a=b)):=by
   exact(df (λh=>by subst h;simp_all)).symm
 exact⟨rb e0,bH.below⟩
end TL
