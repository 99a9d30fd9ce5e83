import Derived.Test.YtgneelmmomohdaaSaTlP5
import Derived.Test.YtgneelmmomohdaaSaTlGmA
import Derived.Test.YtgneelmmomohdaaSaTlGenA
import Derived.Test.YtgneelmmomohdaaProg
import Derived.Test.YtgneelmmomohdaaSaTlAli
set_option linter.all false
set_option maxRecDepth 20000
namespace TL
open Go Go.Proofs
theorem xW:Try.prog.follows .mixedOrders=true:=by kernel_rfl
theorem uL:Tp Try.prog 48 false 1 24 (.slice none 0 0):=Tp.of (by kernel_rfl)
theorem zV:Try.f41.body.isNone=false:=rfl
theorem As:(Try.f41.name== "runtime.NumGoroutine")=false:=by decide+kernel
theorem uj(w0:World)(n:Int)(all:Int)(hn:0<=n/\n<=1099511627776):
    Calls Try.prog 47 #[vi n,vi all] w0 (λee w=>ee= .returned (vi (min all (n+2000)))/\ep w0.heap.size w0 w):=by
 refine av Try.func47 rfl nq ?_
 have bH:=bn.start w0
 obtain⟨hn1,hn2⟩:=hn
 refine aa (a8 rfl (ai 0 (ab (aa (a8 rfl (mi all (mi n (lx (aI (m:=n) (n:=2000) rfl rfl (by omega)) (lw (vi (min all (n+2000))) (nf rfl rfl) (ai (min all (n+2000)) (ab (aD (vs:=[vi (min all (n+2000))]) Try.func47 (.tmp rfl .nil) ?_))))))))))))
 have e0:(min all (n+2000):Int)=(min all (n+2000)):=by
   rfl
 exact⟨ri e0,bH.below⟩
theorem yg(w0:World)(a:fG)(a_v:Value)(ha_v:Ro w0 a_v a)(b:fG)(b_v:Value)(hb_v:Ro w0 b_v b):
    Calls Try.prog 18 #[a_v,b_v] w0 (λee w=>ee= .returned (vb (decide (a=b)))/\ep w0.heap.size w0 w):=by
 refine av Try.func18 rfl nq ?_
 have bH:=bn.start w0
 have Ra:=ha_v.sl
 have Rb:=hb_v.sl
 refine aa (a8 rfl (ma (vb false) (ab (aa (aa (a8 rfl (mv a_v ?_)))))))
 have len1:=(Ra).small
 refine lx (bq dd rfl Ra) (mv b_v ?_)
 have len2:=(Rb).small
 refine lx (bq dd rfl Rb) (lx (cK (m:=(a.length:Int)) (n:=(b.length:Int)) rfl rfl) (ab ?_))
 by_cases p1:(a.length:Int)=(b.length:Int)
 ·
  refine ag rfl (congrArg Bool.not (dt p1)) (aq (aa (aa (a8 rfl (ai 0 (ab (ao ?_)))))))
  refine aY (σ:=Nat×aG) (λ⟨k,gq⟩ f w=>bn w0 gq w/\f 0=a_v/\f 1=b_v/\f 5=vi ↑k/\Sl gq (is 0) w a_v a/\Sl gq (is 0) w b_v b/\(k:Int)<=((a.length:Int):Int)/\(List.take k a=List.take k b)) (λ⟨k,gq⟩=>Int.toNat (((a.length:Int):Int)-(k:Int))) (0,c0) ?_ ?_
  · exact⟨bH,rfl,rfl,rfl,Ra,Rb,by omega,by simp⟩
  clear Ra Rb bH
  rintro⟨k,g5⟩ f3 w4 ⟨bH,zs0,zs1,zs5,Ra,Rb,hle_k,hinv4⟩ back4
  refine aa (aa (a8 rfl (mz zs5 (mz zs0 (lx (bq dd rfl Ra) (lx (bm (m:=↑k) (n:=(a.length:Int)) rfl rfl) (ab ?_)))))))
  by_cases p4:(k:Int)<(a.length:Int)
  ·
   refine ah rfl (dt p4) (aq (aa (ao (aa (dl g5 rfl xW (by kernel_rfl) ?_)))))
   intro w7 ch6
   refine qz zs0 (qz zs5 ?_)
   replace Ra:=Ra.cn ch6
   refine qx (λw' hw'=>ad (v:=a_v) (i:=↑k) dd rfl rfl (Ra.bel hw') rfl (by omega) (by omega)) ?_
   obtain⟨v8,cel9,r10⟩:=pU (r:=(k:Int)) Ra (by omega) (by omega)
   refine qx (λw' hw'=>bF uL rfl (eS cel9 hw')) (qz zs1 (qz zs5 ?_))
   replace Rb:=Rb.cn ch6
   refine qx (λw' hw'=>ad (v:=b_v) (i:=↑k) dd rfl rfl (Rb.bel hw') rfl (by omega) (by omega)) ?_
   obtain⟨v11,cel12,r13⟩:=pU (r:=(k:Int)) Rb (by omega) (by omega)
   refine qx (λw' hw'=>bF uL rfl (eS cel12 hw')) (kW (v:=vb (decide ((gI a ↑k)=(gI b ↑k)))) rfl (λw' hw'=>aN (vals:=[v8,v11]) Try.func41 zV As rfl) (λw' hw'=>(wE w' (gI a ↑k) v8 ((r10.bel hw')).ro (gI b ↑k) v11 ((r13.bel hw')).ro).mono λe w2 h2=>⟨h2.1,hw'.trans (h2.2.mono hw'.size)⟩) (qx (λw' hw'=>dZ (b:=(decide ((gI a ↑k)=(gI b ↑k)))) rfl) (f4 ?_)))
   intro w14 hc15
   replace hc15:=aS hc15 g5
   by_cases p6:(decide ((gI a ↑k)=(gI b ↑k)))=true
   ·
    refine ag rfl (congrArg Bool.not p6) (aq (am ?_))
    clear r10 r13
    refine a8 rfl (mz zs5 (lx (aI (m:=↑k) (n:=1) rfl rfl (by omega)) (ai ((k:Int)+1) (ab ?_))))
    replace bH:=bH.cn ch6
    refine back4 (k+1,g5) _ _ ⟨bH.cn hc15,zs0,zs1,rfl,Ra.cn hc15,Rb.cn hc15,by omega,?_⟩ ?_
    · show List.take (k+1) a=List.take (k+1) b
      rw[bC ‹_›,bC (by omega),hinv4];simp_all
    · show Int.toNat (((a.length:Int):Int)-((k+1):Int))<Int.toNat (((a.length:Int):Int)-(k:Int))
      omega
   refine ah rfl (congrArg Bool.not (Bool.eq_false_iff.2 p6)) (aa ?_)
   clear r10 r13
   refine a8 rfl (ma (vb false) (ab (aD (vs:=[vb false]) Try.func18 (.tmp rfl .nil) ?_)))
   have e0:(false:Bool)=(decide (a=b)):=by
     exact(df (λh=>by subst h;simp_all)).symm
   replace bH:=bH.cn ch6
   replace bH:=bH.cn hc15
   exact⟨rb e0,bH.below⟩
  refine ag rfl (df p4) (aH rfl (aa (a8 rfl (ma (vb true) (ab (aD (vs:=[vb true]) Try.func18 (.tmp rfl .nil) ?_))))))
  have e0:(true:Bool)=(decide (a=b)):=by
    (have e:=hinv4;rw[List.take_of_length_le (by omega),List.take_of_length_le (by omega)] at e;exact(dt e).symm)
  exact⟨rb e0,bH.below⟩
 refine ah rfl (congrArg Bool.not (df p1)) (aa (a8 rfl (ma (vb false) (ab (aD (vs:=[vb false]) Try.func18 (.tmp rfl .nil) ?_)))))
 have e0:(false:Bool)=(decide (a=b)):=by
   exact(df (λh=>by subst h;simp_all)).symm
 exact⟨rb e0,bH.below⟩
end TL
