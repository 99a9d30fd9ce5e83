import Derived.Test.YtmakonaaojadbaaBaTlP4
import Derived.Test.YtmakonaaojadbaaBaTlGmA
import Derived.Test.YtmakonaaojadbaaBaTlGenA
import Derived.Test.YtmakonaaojadbaaBaTlBkC
import Derived.Test.YtmakonaaojadbaaProg
import Derived.Test.YtmakonaaojadbaaBaTlAli
set_option linter.all false
set_option maxRecDepth 20000
namespace TL
open Go Go.Proofs
theorem qO:Try.prog.follows .mixedOrders=true:=by kernel_rfl
theorem sD:Try.f40.body.isNone=false:=rfl
theorem tj:(Try.f40.name== "runtime.NumGoroutine")=false:=by decide+kernel
theorem td:Try.f58.body.isNone=false:=rfl
theorem sR:(Try.f58.name== "runtime.NumGoroutine")=false:=by decide+kernel
theorem nk(w0:World)(s1:List Int)(s1_v:Value)(hs1_v:Ro w0 s1_v s1)(s2:List Int)(s2_v:Value)(hs2_v:Ro w0 s2_v s2):
    Calls Try.prog 40 #[s1_v,s2_v] w0 (λee w=>ee= .returned (vi (eu s1 s2))/\dT w0.heap.size w0 w):=by
 refine aC Try.func40 rfl nq ?_
 have bH:=bv.start w0
 have Rs1:=hs1_v.sl
 have Rs2:=hs2_v.sl
 refine ab (a8 rfl (ai 0 (ag (ab (ab (a8 rfl (mv s1_v ?_)))))))
 have len1:=(Rs1).small
 refine lx (bu bf rfl Rs1) (mi 0 (ag (ar ?_)))
 refine bc (σ:=Nat×aJ) (λ⟨k,gq⟩ f w=>bv w0 gq w/\f 0=s1_v/\f 1=s2_v/\f 9=s1_v/\f 10=vi (s1.length:Int)/\f 11=vi ↑k/\Sl gq (is 0) w s1_v s1/\Sl gq (is 0) w s2_v s2/\(k:Int)<=((s1.length:Int):Int)/\(eu (List.drop k s1) (List.drop k s2)=eu s1 s2)) (λ⟨k,gq⟩=>Int.toNat (((s1.length:Int):Int)-(k:Int))) (0,c0) ?_ ?_
 · exact⟨bH,rfl,rfl,rfl,rfl,rfl,Rs1,Rs2,by omega,by rfl⟩
 clear Rs1 Rs2 bH
 rintro⟨k,g4⟩ f2 w3 ⟨bH,zs0,zs1,zs9,zs10,zs11,Rs1,Rs2,hle_k,hc⟩ back2
 refine ab (a8 rfl (lx (bn (m:=↑k) (n:=(s1.length:Int)) zs11 zs10) (ag (ab ?_))))
 by_cases p2:(k:Int)<(s1.length:Int)
 ·
  refine al rfl (dt p2) (av (ab (ar (ab (a8 rfl (mz zs11 (lx (ae (v:=s1_v) (i:=↑k) bf rfl zs9 Rs1 zs11 (by omega) (by omega)) (lx (aq (v:=s1_v) (i:=↑k) ah rfl Rs1 (by omega) (by omega) (by decide) rfl) (ai (k:Int) (ai (gI s1 ↑k) ?_))))))))))
  refine ag (ab (ab (a8 rfl (mi ↑k (mz zs1 ?_)))))
  have len5:=(Rs2).small
  refine lx (bu bf rfl Rs2) (lx (gJ (m:=↑k) (n:=(s2.length:Int)) rfl rfl) (ag ?_))
  by_cases p4:(s2.length:Int)<=(k:Int)
  ·
   refine al rfl (dt p4) (ab (a8 rfl (ai 1 (ag (aQ (vs:=[vi 1]) Try.func40 (.tmp rfl .nil) ?_)))))
   have e0:(1:Int)=(eu s1 s2):=by
     exact qQ hc (by omega) (by omega)
   exact⟨ri e0,bH.below⟩
  refine aj rfl (df p4) (av (ab (a8 rfl (mz zs1 (mi ↑k (lx (ae (v:=s2_v) (i:=↑k) bf rfl rfl Rs2 rfl (by omega) (by omega)) (lx (aq (v:=s2_v) (i:=↑k) ah rfl Rs2 (by omega) (by omega) (by decide) rfl) (ai (gI s2 ↑k) (ag (ab (a8 rfl (mi (gI s1 ↑k) ?_))))))))))))
  refine mi (gI s2 ↑k) (lo (cC (v:=vi (eQ (gI s1 ↑k) (gI s2 ↑k))) (b9 (vals:=[vi (gI s1 ↑k),vi (gI s2 ↑k)]) Try.func58 td sR rfl) (nP w3 (gI s1 ↑k) (gI s2 ↑k)) ?_))
  intro w6 hb7
  replace hb7:=aS hb7 g4
  refine ai (eQ (gI s1 ↑k) (gI s2 ↑k)) (ag (ab (a8 rfl (mi (eQ (gI s1 ↑k) (gI s2 ↑k)) (lx (dW (m:=eQ (gI s1 ↑k) (gI s2 ↑k)) (n:=0) rfl rfl) (ag ?_))))))
  by_cases p8:(eQ (gI s1 ↑k) (gI s2 ↑k))=0
  ·
   refine aj rfl (congrArg Bool.not (dt p8)) (av (ak (a8 rfl (lx (aG (m:=↑k) (n:=1) zs11 rfl (by omega)) (mi ((k:Int)+1) (ag ?_))))))
   refine back2 (k+1,g4) _ _ ⟨bH.cn hb7,zs0,zs1,zs9,zs10,rfl,Rs1.cn hb7,Rs2.cn hb7,by omega,?_⟩ ?_
   · show eu (List.drop (k+1) s1) (List.drop (k+1) s2)=eu s1 s2
     exact qC hc (by omega) (by omega) ‹_›
   · show Int.toNat (((s1.length:Int):Int)-((k+1):Int))<Int.toNat (((s1.length:Int):Int)-(k:Int))
     omega
  refine al rfl (congrArg Bool.not (df p8)) (ab (a8 rfl (mi (eQ (gI s1 ↑k) (gI s2 ↑k)) (ai (eQ (gI s1 ↑k) (gI s2 ↑k)) (ag (aQ (vs:=[vi (eQ (gI s1 ↑k) (gI s2 ↑k))]) Try.func40 (.tmp rfl .nil) ?_))))))
  have e0:(eQ (gI s1 ↑k) (gI s2 ↑k):Int)=(eu s1 s2):=by
    exact tV hc (by omega) (by omega) ‹_›
  replace bH:=bH.cn hb7
  exact⟨ri e0,bH.below⟩
 refine aj rfl (df p2) (aF rfl (ab (ab (a8 rfl (mz zs0 (lx (bu bf rfl Rs1) (mz zs1 ?_)))))))
 have uT:=(Rs2).small
 refine lx (bu bf rfl Rs2) (lx (bn (m:=(s1.length:Int)) (n:=(s2.length:Int)) rfl rfl) (ag ?_))
 by_cases p11:(s1.length:Int)<(s2.length:Int)
 ·
  refine al rfl (dt p11) (ab (a8 rfl (ai (-1) (ag (aQ (vs:=[vi (-1)]) Try.func40 (.tmp rfl .nil) ?_)))))
  have e0:(-1:Int)=(eu s1 s2):=by
    exact qE hc (by omega) (by omega) (by omega)
  exact⟨ri e0,bH.below⟩
 refine aj rfl (df p11) (av (ab (a8 rfl (ai 0 (ag (aQ (vs:=[vi 0]) Try.func40 (.tmp rfl .nil) ?_))))))
 have e0:(0:Int)=(eu s1 s2):=by
   exact rL hc (by omega) (by omega) (by omega)
 exact⟨ri e0,bH.below⟩
theorem rj(w0:World)(x:Pt)(y:Pt):
    Calls Try.prog 39 #[vg [vi x.1,vi x.2],vg [vi y.1,vi y.2]] w0 (λee w=>ee= .returned (vi (mI x y))/\dT w0.heap.size w0 w):=by
 refine aC Try.func39 rfl nq ?_
 have bH:=bv.start w0
 refine ab (a8 rfl (db rfl (d4 c0 (is 1) (1,0) rfl rfl ?_)))
 intro g4 w1 b3 ch2 bx5
 replace bx5:Bx g4 (is 1) w1 b3 [vi x.1,vi x.2]:=bx5
 refine lo (d4 g4 (is 2) (2,0) rfl rfl ?_)
 intro g9 w6 b8 ch7 bx10
 replace bx10:Bx g9 (is 2) w6 b8 [vi y.1,vi y.2]:=bx10
 refine ai 0 (ag (ab (cq g9 rfl qO (by kernel_rfl) ?_)))
 intro w12 ch11
 refine qv ((Value.slice (some ⟨b3,0,none⟩) 2 2)) (λw' hw'=>kN dg rfl rfl) ?_
 replace bx5:=(bx5.cn ch7).cn ch11
 have r13:=tL bx5
 refine qv ((Value.slice (some ⟨b8,0,none⟩) 2 2)) (λw' hw'=>kN dg rfl rfl) ?_
 replace bx10:=bx10.cn ch11
 have r14:=tL bx10
 refine gE (v:=vi (eu ([x.1,x.2]) ([y.1,y.2]))) rfl (λw' hw'=>b9 (vals:=[(Value.slice (some ⟨b3,0,none⟩) 2 2),(Value.slice (some ⟨b8,0,none⟩) 2 2)]) Try.func40 sD tj rfl) (λw' hw'=>(nk w' ([x.1,x.2]) (Value.slice (some ⟨b3,0,none⟩) 2 2) ((r13.bel hw')).ro ([y.1,y.2]) (Value.slice (some ⟨b8,0,none⟩) 2 2) ((r14.bel hw')).ro).mono λe w2 h2=>⟨h2.1,hw'.trans (h2.2.mono hw'.size)⟩) (qv (vi (eu ([x.1,x.2]) ([y.1,y.2]))) (λw' hw'=>c7 rfl) (d8 ?_))
 intro w15 hc16
 replace hc16:=aS hc16 g9
 refine aQ (vs:=[vi (eu ([x.1,x.2]) ([y.1,y.2]))]) Try.func39 (.tmp rfl .nil) ?_
 have e0:(eu ([x.1,x.2]) ([y.1,y.2]):Int)=(mI x y):=by
   rfl
 have C17:=cg [] (ch2.n.seq (ch7.n.seq (ch11.n.seq hc16.n)))
 replace bH:=bH.ca C17
 exact⟨ri e0,bH.below⟩
end TL
