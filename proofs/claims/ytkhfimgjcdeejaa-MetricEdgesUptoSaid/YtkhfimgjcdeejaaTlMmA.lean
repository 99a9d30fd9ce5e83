import Derived.Test.YtkhfimgjcdeejaaTlP1
import Derived.Test.YtkhfimgjcdeejaaTlGmA
import Derived.Test.YtkhfimgjcdeejaaTlGenA
import Derived.Test.YtkhfimgjcdeejaaProg
import Derived.Test.YtkhfimgjcdeejaaTlAli
set_option linter.all false
set_option maxRecDepth 20000
namespace TL
open Go Go.Proofs
theorem kv:Try.prog.follows .mixedOrders=true:=by kernel_rfl
theorem dW(w0:World)(f:Nat):
    Calls Try.prog 9 #[Value.float .f64 f] w0 (λee w=>ee= .returned (vb (bo f))/\cA w0.heap.size w0 w):=by
 refine aR Try.func9 rfl nq ?_
 have bH:=bu.start w0
 refine a5 (a0 rfl (ma (vb false) (aa (a5 (a0 rfl (mv (Value.float .f64 f) (mv (Value.float .f64 f) (lw (vb (bo f)) (cv (a:=f) rfl rfl) (ma (vb (bo f)) (aa (aF (vs:=[vb (bo f)]) Try.func9 (.tmp rfl .nil) ?_)))))))))))
 have e0:(bo f:Bool)=(bo f):=by
   rfl
 exact⟨rb e0,bH.below⟩
theorem ci(w0:World)(f:Nat)(sign:Int)(hf:f<=aD)(hs:sign=1):
    Calls Try.prog 10 #[Value.float .f64 f,vi sign] w0 (λee w=>ee= .returned (vb (decide (f=aD)))/\cA w0.heap.size w0 w):=by
 refine aR Try.func10 rfl nq ?_
 have bH:=bu.start w0
 refine a5 (a0 rfl (ma (vb false) (aa (a5 (a5 (a0 rfl (mi sign (lx (co (m:=sign) (n:=0) rfl rfl) (aa ?_)))))))))
 by_cases p1:sign=0
 ·
  omega
 refine al rfl (df p1) (a5 (a0 rfl (mi sign (lx (bd (m:=sign) (n:=0) rfl rfl) (aa ?_)))))
 by_cases p3:sign<0
 ·
  omega
 refine al rfl (df p3) (az (a5 (a0 rfl (mv (Value.float .f64 f) (lw (vb (decide (9218868437227405311<f))) (mK (a:=f) (b:=9218868437227405311) rfl rfl ‹_› (by decide)) (ma (vb (decide (9218868437227405311<f))) (aa (aF (vs:=[vb (decide (9218868437227405311<f))]) Try.func10 (.tmp rfl .nil) ?_))))))))
 have e0:(decide (9218868437227405311<f):Bool)=(decide (f=aD)):=by
   exact ju hf
 exact⟨rb e0,bH.below⟩
theorem mN(w0:World)(sign:Int)(hs:0<=sign):
    Calls Try.prog 24 #[vi sign] w0 (λee w=>ee= .returned (Value.float .f64 aD)/\cA w0.heap.size w0 w):=by
 refine aR Try.func24 rfl nq ?_
 have bH:=bu.start w0
 refine a5 (a0 rfl (ma (Value.float .f64 0) (aa (a5 (a0 rfl (ma (Value.int .u64 0) (aa (a5 (a5 (a0 rfl (mi sign (lx (fJ (m:=sign) (n:=0) rfl rfl) (aa ?_)))))))))))))
 by_cases p2:0<=sign
 ·
  refine aj rfl (dt p2) (a0 rfl (ma (Value.int .u64 9218868437227405312) (aa (a5 (a0 rfl (mv (Value.int .u64 9218868437227405312) (lw (Value.float .f64 9218868437227405312) (fZ (n:=9218868437227405312) Try.func37 (by kernel_rfl) (by kernel_rfl) (by kernel_rfl) (by kernel_rfl) rfl) (ma (Value.float .f64 9218868437227405312) (aa (aF (vs:=[Value.float .f64 9218868437227405312]) Try.func24 (.tmp rfl .nil) ?_))))))))))
  have e0:(9218868437227405312:Nat)=(aD):=by
    rfl
  exact⟨(congrArg (a₁:=9218868437227405312) (λ(z0:Nat)=>Ending.returned (Value.float .f64 z0)) e0),bH.below⟩
 omega
theorem bQ(w0:World)(x:Nat)(hx:x<=aD):
    Calls Try.prog 46 #[Value.float .f64 x] w0 (λee w=>ee= .returned (Value.float .f64 (ao x))/\cA w0.heap.size w0 w):=by
 refine aR Try.func46 rfl nq ?_
 have bH:=bu.start w0
 refine a5 (a0 rfl (ma (Value.float .f64 0) (aa (a5 (a0 rfl (mv (Value.float .f64 x) (lw (Value.float .f64 (ao x)) (mE (a:=x) Try.func57 (by kernel_rfl) (by kernel_rfl) (by kernel_rfl) (by kernel_rfl) rfl (eK ‹_›).1) ?_)))))))
 have nn1:ao x<=aD:=(eK (x:=x) ‹_›).2
 refine ma (Value.float .f64 (ao x)) (aa (aF (vs:=[Value.float .f64 (ao x)]) Try.func46 (.tmp rfl .nil) ?_))
 have e0:(ao x:Nat)=(ao x):=by
   rfl
 exact⟨(congrArg (a₁:=ao x) (λ(z0:Nat)=>Ending.returned (Value.float .f64 z0)) e0),bH.below⟩
theorem bU(w0:World)(x:Nat)(hx:bo x=true\/x<=aD):
    Calls Try.prog 26 #[Value.float .f64 x] w0 (λee w=>ee= .returned (Value.float .f64 (ad x))/\cA w0.heap.size w0 w):=by
 refine aR Try.func26 rfl nq ?_
 have bH:=bu.start w0
 refine a5 (a0 rfl (ma (Value.float .f64 0) (aa (a5 (a5 (a0 rfl (mv (Value.float .f64 x) (mv (Value.float .f64 x) (lw (vb (bo x)) (cv (a:=x) rfl rfl) (aa ?_))))))))))
 by_cases p1:bo x=true
 ·
  refine aj rfl p1 (a5 (a0 rfl (lw (Value.float .f64 9221120237041090561) (fZ (n:=9221120237041090561) Try.func37 (by kernel_rfl) (by kernel_rfl) (by kernel_rfl) (by kernel_rfl) rfl) (ma (Value.float .f64 9221120237041090561) (aa (aF (vs:=[Value.float .f64 9221120237041090561]) Try.func26 (.tmp rfl .nil) ?_))))))
  have e0:(9221120237041090561:Nat)=(ad x):=by
    exact l3 p1
  exact⟨(congrArg (a₁:=9221120237041090561) (λ(z0:Nat)=>Ending.returned (Value.float .f64 z0)) e0),bH.below⟩
 have hx2:=hx.resolve_left p1
 refine al rfl (Bool.eq_false_iff.2 p1) (az (a5 (a5 (a0 rfl (mv (Value.float .f64 x) (lw (vb (decide (x=0))) (iy (a:=x) (b:=0) rfl rfl ‹_› (by decide)) (aa ?_)))))))
 by_cases p3:x=0
 ·
  refine aj rfl (dt p3) (a5 (a0 rfl (ma (Value.float .f64 0) (aa (aF (vs:=[Value.float .f64 0]) Try.func26 (.tmp rfl .nil) ?_)))))
  have e0:(0:Nat)=(ad x):=by
    exact l7 p1 ‹_›
  exact⟨(congrArg (a₁:=0) (λ(z0:Nat)=>Ending.returned (Value.float .f64 z0)) e0),bH.below⟩
 refine al rfl (df p3) (az (a5 (a0 rfl (mv (Value.float .f64 x) (ma (Value.float .f64 x) (aa (aF (vs:=[Value.float .f64 x]) Try.func26 (.tmp rfl .nil) ?_)))))))
 have e0:(x:Nat)=(ad x):=by
   exact kE p1
 exact⟨(congrArg (a₁:=x) (λ(z0:Nat)=>Ending.returned (Value.float .f64 z0)) e0),bH.below⟩
theorem bX(w0:World)(a:Pt)(b:Pt)(ha:de a)(hb:de b):
    Calls Try.prog 47 #[vg [vi a.1,vi a.2],vg [vi b.1,vi b.2]] w0 (λee w=>ee= .returned (Value.float .f64 (aY a b))/\cA w0.heap.size w0 w):=by
 refine aR Try.func47 rfl nq ?_
 have bH:=bu.start w0
 obtain⟨⟨ha1,ha2⟩,ha3,ha4⟩:=ha
 obtain⟨⟨hb1,hb2⟩,hb3,hb4⟩:=hb
 have m1:=fb (b.1-a.1)
 have m2:=fb (b.2-a.2)
 have m3:=j2 (x:=b.1-a.1) (by omega) (by omega)
 have m4:=j2 (x:=b.2-a.2) (by omega) (by omega)
 refine a5 (a0 rfl (cq rfl (cD c0 (is 1) (1,0) rfl rfl ?_)))
 intro g4 w1 b3 ch2 bx5
 replace bx5:Bx g4 (is 1) w1 b3 [vi a.1,vi a.2]:=bx5
 refine lo (cD g4 (is 2) (2,0) rfl rfl ?_)
 intro g9 w6 b8 ch7 bx10
 replace bx10:Bx g9 (is 2) w6 b8 [vi b.1,vi b.2]:=bx10
 refine ma (Value.float .f64 0) (aa (a5 (bC g9 rfl kv (by kernel_rfl) ?_)))
 intro w12 ch11
 refine qx (λw' hw'=>a6 d2 rfl rfl rfl rfl) ?_
 replace bx10:=bx10.cn ch11
 refine qx (λw' hw'=>a7 aU rfl (bx10.bel hw') rfl) (qx (λw' hw'=>a6 d2 rfl rfl rfl rfl) ?_)
 replace bx5:=(bx5.cn ch7).cn ch11
 refine qx (λw' hw'=>a7 aU rfl (bx5.bel hw') rfl) (qx (λw' hw'=>cZ (m:=b.1) (n:=a.1) rfl rfl (by omega)) (qx (λw' hw'=>a6 d2 rfl rfl rfl rfl) (qx (λw' hw'=>a7 aU rfl (bx10.bel hw') rfl) (qx (λw' hw'=>a6 d2 rfl rfl rfl rfl) (qx (λw' hw'=>a7 aU rfl (bx5.bel hw') rfl) (qx (λw' hw'=>cZ (m:=b.2) (n:=a.2) rfl rfl (by omega)) (qv (vi (b.1-a.1)) (λw' hw'=>dH rfl) (qv (vi (b.2-a.2)) (λw' hw'=>dH rfl) (ct ?_)))))))))
 intro w13 hc14
 replace hc14:=af hc14 g9
 refine a5 ?_
 clear bx5 bx10
 refine a0 rfl (mi (b.1-a.1) (mi (b.1-a.1) (lx (kk (m:=b.1-a.1) (n:=b.1-a.1) rfl rfl (by omega)) (mi (b.2-a.2) (mi (b.2-a.2) (lx (kk (m:=b.2-a.2) (n:=b.2-a.2) rfl rfl (by omega)) (lx (bb (m:=(b.1-a.1)*(b.1-a.1)) (n:=(b.2-a.2)*(b.2-a.2)) rfl rfl (by omega)) (lw (Value.float .f64 (ak (((b.1-a.1)*(b.1-a.1))+((b.2-a.2)*(b.2-a.2))))) (j6 (m:=((b.1-a.1)*(b.1-a.1))+((b.2-a.2)*(b.2-a.2))) U3 nA rfl) ?_))))))))
 have nn15:ak (((b.1-a.1)*(b.1-a.1))+((b.2-a.2)*(b.2-a.2)))<=aD:=eU (by omega)
 refine ma (Value.float .f64 (ak (((b.1-a.1)*(b.1-a.1))+((b.2-a.2)*(b.2-a.2))))) (aa (aF (vs:=[Value.float .f64 (ak (((b.1-a.1)*(b.1-a.1))+((b.2-a.2)*(b.2-a.2))))]) Try.func47 (.tmp rfl .nil) ?_))
 have e0:(ak (((b.1-a.1)*(b.1-a.1))+((b.2-a.2)*(b.2-a.2))):Nat)=(aY a b):=by
   rfl
 have C16:=cg [] (ch2.n.seq (ch7.n.seq (ch11.n.seq hc14.n)))
 replace bH:=bH.ca C16
 exact⟨(congrArg (a₁:=ak (((b.1-a.1)*(b.1-a.1))+((b.2-a.2)*(b.2-a.2)))) (λ(z0:Nat)=>Ending.returned (Value.float .f64 z0)) e0),bH.below⟩
end TL
