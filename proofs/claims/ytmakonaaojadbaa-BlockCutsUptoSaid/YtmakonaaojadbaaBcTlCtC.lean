import Derived.Test.YtmakonaaojadbaaBcTlP4
import Derived.Test.YtmakonaaojadbaaBcTlGmA
import Derived.Test.YtmakonaaojadbaaBcTlGenA
import Derived.Test.YtmakonaaojadbaaBcTlBkC
import Derived.Test.YtmakonaaojadbaaProg
import Derived.Test.YtmakonaaojadbaaBcTlAli
set_option linter.all false
set_option maxRecDepth 20000
namespace TL
open Go Go.Proofs
theorem pq:Try.prog.follows .mixedOrders=true:=by kernel_rfl
theorem qX:Try.f40.body.isNone=false:=rfl
theorem rv:(Try.f40.name== "runtime.NumGoroutine")=false:=by decide+kernel
theorem qZ:Try.f58.body.isNone=false:=rfl
theorem rz:(Try.f58.name== "runtime.NumGoroutine")=false:=by decide+kernel
theorem lH(w0:World)(s1:List Int)(s1_v:Value)(hs1_v:Ro w0 s1_v s1)(s2:List Int)(s2_v:Value)(hs2_v:Ro w0 s2_v s2):
    Calls Try.prog 40 #[s1_v,s2_v] w0 (λee w=>ee= .returned (vi (dO s1 s2))/\dW w0.heap.size w0 w):=by
 refine aD Try.func40 rfl nq ?_
 have bH:=bx.start w0
 have Rs1:=hs1_v.sl
 have Rs2:=hs2_v.sl
 refine ab (a8 rfl (ai 0 (ag (ab (ab (a8 rfl (mv s1_v ?_)))))))
 have len1:=(Rs1).small
 refine lx (bF ba rfl Rs1) (mi 0 (ag (ax ?_)))
 refine bn (σ:=Nat×aG) (λ⟨k,gq⟩ f w=>bx w0 gq w/\f 0=s1_v/\f 1=s2_v/\f 9=s1_v/\f 10=vi (s1.length:Int)/\f 11=vi ↑k/\Sl gq (is 0) w s1_v s1/\Sl gq (is 0) w s2_v s2/\(k:Int)<=((s1.length:Int):Int)/\(dO (List.drop k s1) (List.drop k s2)=dO s1 s2)) (λ⟨k,gq⟩=>Int.toNat (((s1.length:Int):Int)-(k:Int))) (0,c0) ?_ ?_
 · exact⟨bH,rfl,rfl,rfl,rfl,rfl,Rs1,Rs2,by omega,by rfl⟩
 clear Rs1 Rs2 bH
 rintro⟨k,g4⟩ f2 w3 ⟨bH,zs0,zs1,zs9,zs10,zs11,Rs1,Rs2,hle_k,hc⟩ back2
 refine ab (a8 rfl (lx (bp (m:=↑k) (n:=(s1.length:Int)) zs11 zs10) (ag (ab ?_))))
 by_cases p2:(k:Int)<(s1.length:Int)
 ·
  refine ao rfl (dt p2) (ay (ab (ax (ab (a8 rfl (mz zs11 (lx (ad (v:=s1_v) (i:=↑k) ba rfl zs9 Rs1 zs11 (by omega) (by omega)) (lx (ap (v:=s1_v) (i:=↑k) ah rfl Rs1 (by omega) (by omega) (by decide) rfl) (ai (k:Int) (ai (gI s1 ↑k) ?_))))))))))
  refine ag (ab (ab (a8 rfl (mi ↑k (mz zs1 ?_)))))
  have len5:=(Rs2).small
  refine lx (bF ba rfl Rs2) (lx (gB (m:=↑k) (n:=(s2.length:Int)) rfl rfl) (ag ?_))
  by_cases p4:(s2.length:Int)<=(k:Int)
  ·
   refine ao rfl (dt p4) (ab (a8 rfl (ai 1 (ag (aQ (vs:=[vi 1]) Try.func40 (.tmp rfl .nil) ?_)))))
   have e0:(1:Int)=(dO s1 s2):=by
     exact qo hc (by omega) (by omega)
   exact⟨ri e0,bH.below⟩
  refine aj rfl (df p4) (ay (ab (a8 rfl (mz zs1 (mi ↑k (lx (ad (v:=s2_v) (i:=↑k) ba rfl rfl Rs2 rfl (by omega) (by omega)) (lx (ap (v:=s2_v) (i:=↑k) ah rfl Rs2 (by omega) (by omega) (by decide) rfl) (ai (gI s2 ↑k) (ag (ab (a8 rfl (mi (gI s1 ↑k) ?_))))))))))))
  refine mi (gI s2 ↑k) (lo (cV (v:=vi (eA (gI s1 ↑k) (gI s2 ↑k))) (bg (vals:=[vi (gI s1 ↑k),vi (gI s2 ↑k)]) Try.func58 qZ rz rfl) (mH w3 (gI s1 ↑k) (gI s2 ↑k)) ?_))
  intro w6 hb7
  replace hb7:=aZ hb7 g4
  refine ai (eA (gI s1 ↑k) (gI s2 ↑k)) (ag (ab (a8 rfl (mi (eA (gI s1 ↑k) (gI s2 ↑k)) (lx (gk (m:=eA (gI s1 ↑k) (gI s2 ↑k)) (n:=0) rfl rfl) (ag ?_))))))
  by_cases p8:(eA (gI s1 ↑k) (gI s2 ↑k))=0
  ·
   refine aj rfl (congrArg Bool.not (dt p8)) (ay (am (a8 rfl (lx (aF (m:=↑k) (n:=1) zs11 rfl (by omega)) (mi ((k:Int)+1) (ag ?_))))))
   refine back2 (k+1,g4) _ _ ⟨bH.cn hb7,zs0,zs1,zs9,zs10,rfl,Rs1.cn hb7,Rs2.cn hb7,by omega,?_⟩ ?_
   · show dO (List.drop (k+1) s1) (List.drop (k+1) s2)=dO s1 s2
     exact qb hc (by omega) (by omega) ‹_›
   · show Int.toNat (((s1.length:Int):Int)-((k+1):Int))<Int.toNat (((s1.length:Int):Int)-(k:Int))
     omega
  refine ao rfl (congrArg Bool.not (df p8)) (ab (a8 rfl (mi (eA (gI s1 ↑k) (gI s2 ↑k)) (ai (eA (gI s1 ↑k) (gI s2 ↑k)) (ag (aQ (vs:=[vi (eA (gI s1 ↑k) (gI s2 ↑k))]) Try.func40 (.tmp rfl .nil) ?_))))))
  have e0:(eA (gI s1 ↑k) (gI s2 ↑k):Int)=(dO s1 s2):=by
    exact sB hc (by omega) (by omega) ‹_›
  replace bH:=bH.cn hb7
  exact⟨ri e0,bH.below⟩
 refine aj rfl (df p2) (aI rfl (ab (ab (a8 rfl (mz zs0 (lx (bF ba rfl Rs1) (mz zs1 ?_)))))))
 have sG:=(Rs2).small
 refine lx (bF ba rfl Rs2) (lx (bp (m:=(s1.length:Int)) (n:=(s2.length:Int)) rfl rfl) (ag ?_))
 by_cases p11:(s1.length:Int)<(s2.length:Int)
 ·
  refine ao rfl (dt p11) (ab (a8 rfl (ai (-1) (ag (aQ (vs:=[vi (-1)]) Try.func40 (.tmp rfl .nil) ?_)))))
  have e0:(-1:Int)=(dO s1 s2):=by
    exact pS hc (by omega) (by omega) (by omega)
  exact⟨ri e0,bH.below⟩
 refine aj rfl (df p11) (ay (ab (a8 rfl (ai 0 (ag (aQ (vs:=[vi 0]) Try.func40 (.tmp rfl .nil) ?_))))))
 have e0:(0:Int)=(dO s1 s2):=by
   exact pR hc (by omega) (by omega) (by omega)
 exact⟨ri e0,bH.below⟩
theorem qA(w0:World)(x:Pt)(y:Pt):
    Calls Try.prog 39 #[vg [vi x.1,vi x.2],vg [vi y.1,vi y.2]] w0 (λee w=>ee= .returned (vi (lL x y))/\dW w0.heap.size w0 w):=by
 refine aD Try.func39 rfl nq ?_
 have bH:=bx.start w0
 refine ab (a8 rfl (dL rfl (dE c0 (is 1) (1,0) rfl rfl ?_)))
 intro g4 w1 b3 ch2 bx5
 replace bx5:Bx g4 (is 1) w1 b3 [vi x.1,vi x.2]:=bx5
 refine lo (dE g4 (is 2) (2,0) rfl rfl ?_)
 intro g9 w6 b8 ch7 bx10
 replace bx10:Bx g9 (is 2) w6 b8 [vi y.1,vi y.2]:=bx10
 refine ai 0 (ag (ab (cZ g9 rfl pq (by kernel_rfl) ?_)))
 intro w12 ch11
 refine qv ((Value.slice (some ⟨b3,0,none⟩) 2 2)) (λw' hw'=>jC d4 rfl rfl) ?_
 replace bx5:=(bx5.cn ch7).cn ch11
 have r13:=rW bx5
 refine qv ((Value.slice (some ⟨b8,0,none⟩) 2 2)) (λw' hw'=>jC d4 rfl rfl) ?_
 replace bx10:=bx10.cn ch11
 have r14:=rW bx10
 refine mY (v:=vi (dO ([x.1,x.2]) ([y.1,y.2]))) rfl (λw' hw'=>bg (vals:=[(Value.slice (some ⟨b3,0,none⟩) 2 2),(Value.slice (some ⟨b8,0,none⟩) 2 2)]) Try.func40 qX rv rfl) (λw' hw'=>(lH w' ([x.1,x.2]) (Value.slice (some ⟨b3,0,none⟩) 2 2) ((r13.bel hw')).ro ([y.1,y.2]) (Value.slice (some ⟨b8,0,none⟩) 2 2) ((r14.bel hw')).ro).mono λe w2 h2=>⟨h2.1,hw'.trans (h2.2.mono hw'.size)⟩) (qv (vi (dO ([x.1,x.2]) ([y.1,y.2]))) (λw' hw'=>cr rfl) (dQ ?_))
 intro w15 hc16
 replace hc16:=aZ hc16 g9
 refine aQ (vs:=[vi (dO ([x.1,x.2]) ([y.1,y.2]))]) Try.func39 (.tmp rfl .nil) ?_
 have e0:(dO ([x.1,x.2]) ([y.1,y.2]):Int)=(lL x y):=by
   rfl
 have C17:=cg [] (ch2.n.seq (ch7.n.seq (ch11.n.seq hc16.n)))
 replace bH:=bH.ca C17
 exact⟨ri e0,bH.below⟩
end TL
