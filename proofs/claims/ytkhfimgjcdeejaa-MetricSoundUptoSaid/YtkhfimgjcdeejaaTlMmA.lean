import Derived.Test.YtkhfimgjcdeejaaTlP3
import Derived.Test.YtkhfimgjcdeejaaTlGmA
import Derived.Test.YtkhfimgjcdeejaaTlGenA
import Derived.Test.YtkhfimgjcdeejaaProg
import Derived.Test.YtkhfimgjcdeejaaTlAli
set_option linter.all false
set_option maxRecDepth 20000
namespace TL
open Go Go.Proofs
theorem sn:Try.prog.follows .mixedOrders=true:=by kernel_rfl
theorem wl(w0:World)(sign:Int)(hs:0<=sign):
    Calls Try.prog 24 #[vi sign] w0 (λee w=>ee= .returned (Value.float .f64 br)/\cW w0.heap.size w0 w):=by
 refine aI Try.func24 rfl nq ?_
 have bH:=bo.start w0
 refine a6 (a5 rfl (ma (Value.float .f64 0) (a8 (a6 (a5 rfl (ma (Value.int .u64 0) (a8 (a6 (a6 (a5 rfl (mi sign (lx (fW (m:=sign) (n:=0) rfl rfl) (a8 ?_)))))))))))))
 by_cases p2:0<=sign
 ·
  refine ae rfl (dt p2) (a5 rfl (ma (Value.int .u64 9218868437227405312) (a8 (a6 (a5 rfl (mv (Value.int .u64 9218868437227405312) (lw (Value.float .f64 9218868437227405312) (kt (n:=9218868437227405312) Try.func37 (by kernel_rfl) (by kernel_rfl) (by kernel_rfl) (by kernel_rfl) rfl) (ma (Value.float .f64 9218868437227405312) (a8 (av (vs:=[Value.float .f64 9218868437227405312]) Try.func24 (.tmp rfl .nil) ?_))))))))))
  have e0:(9218868437227405312:Nat)=(br):=by
    rfl
  exact⟨(congrArg (a₁:=9218868437227405312) (λ(z0:Nat)=>Ending.returned (Value.float .f64 z0)) e0),bH.below⟩
 omega
theorem cI(w0:World)(x:Nat)(hx:x<=br):
    Calls Try.prog 46 #[Value.float .f64 x] w0 (λee w=>ee= .returned (Value.float .f64 (aJ x))/\cW w0.heap.size w0 w):=by
 refine aI Try.func46 rfl nq ?_
 have bH:=bo.start w0
 refine a6 (a5 rfl (ma (Value.float .f64 0) (a8 (a6 (a5 rfl (mv (Value.float .f64 x) (lw (Value.float .f64 (aJ x)) (vw (a:=x) Try.func57 (by kernel_rfl) (by kernel_rfl) (by kernel_rfl) (by kernel_rfl) rfl (iQ ‹_›).1) ?_)))))))
 have nn1:aJ x<=br:=(iQ (x:=x) ‹_›).2
 refine ma (Value.float .f64 (aJ x)) (a8 (av (vs:=[Value.float .f64 (aJ x)]) Try.func46 (.tmp rfl .nil) ?_))
 have e0:(aJ x:Nat)=(aJ x):=by
   rfl
 exact⟨(congrArg (a₁:=aJ x) (λ(z0:Nat)=>Ending.returned (Value.float .f64 z0)) e0),bH.below⟩
theorem d3(w0:World)(x:Nat)(hx:cQ x=true\/x<=br):
    Calls Try.prog 26 #[Value.float .f64 x] w0 (λee w=>ee= .returned (Value.float .f64 (ar x))/\cW w0.heap.size w0 w):=by
 refine aI Try.func26 rfl nq ?_
 have bH:=bo.start w0
 refine a6 (a5 rfl (ma (Value.float .f64 0) (a8 (a6 (a6 (a5 rfl (mv (Value.float .f64 x) (mv (Value.float .f64 x) (lw (vb (cQ x)) (dJ (a:=x) rfl rfl) (a8 ?_))))))))))
 by_cases p1:cQ x=true
 ·
  refine ae rfl p1 (a6 (a5 rfl (lw (Value.float .f64 9221120237041090561) (kt (n:=9221120237041090561) Try.func37 (by kernel_rfl) (by kernel_rfl) (by kernel_rfl) (by kernel_rfl) rfl) (ma (Value.float .f64 9221120237041090561) (a8 (av (vs:=[Value.float .f64 9221120237041090561]) Try.func26 (.tmp rfl .nil) ?_))))))
  have e0:(9221120237041090561:Nat)=(ar x):=by
    exact ut p1
  exact⟨(congrArg (a₁:=9221120237041090561) (λ(z0:Nat)=>Ending.returned (Value.float .f64 z0)) e0),bH.below⟩
 have hx2:=hx.resolve_left p1
 refine af rfl (Bool.eq_false_iff.2 p1) (am (a6 (a6 (a5 rfl (mv (Value.float .f64 x) (lw (vb (decide (x=0))) (ov (a:=x) (b:=0) rfl rfl ‹_› (by decide)) (a8 ?_)))))))
 by_cases p3:x=0
 ·
  refine ae rfl (dt p3) (a6 (a5 rfl (ma (Value.float .f64 0) (a8 (av (vs:=[Value.float .f64 0]) Try.func26 (.tmp rfl .nil) ?_)))))
  have e0:(0:Nat)=(ar x):=by
    exact tX p1 ‹_›
  exact⟨(congrArg (a₁:=0) (λ(z0:Nat)=>Ending.returned (Value.float .f64 z0)) e0),bH.below⟩
 refine af rfl (df p3) (am (a6 (a5 rfl (mv (Value.float .f64 x) (ma (Value.float .f64 x) (a8 (av (vs:=[Value.float .f64 x]) Try.func26 (.tmp rfl .nil) ?_)))))))
 have e0:(x:Nat)=(ar x):=by
   exact ua p1
 exact⟨(congrArg (a₁:=x) (λ(z0:Nat)=>Ending.returned (Value.float .f64 z0)) e0),bH.below⟩
theorem cZ(w0:World)(a:Pt)(b:Pt)(ha:ck a)(hb:ck b):
    Calls Try.prog 47 #[vg [vi a.1,vi a.2],vg [vi b.1,vi b.2]] w0 (λee w=>ee= .returned (Value.float .f64 (bC a b))/\cW w0.heap.size w0 w):=by
 refine aI Try.func47 rfl nq ?_
 have bH:=bo.start w0
 obtain⟨⟨ha1,ha2⟩,ha3,ha4⟩:=ha
 obtain⟨⟨hb1,hb2⟩,hb3,hb4⟩:=hb
 have m1:=jp (b.1-a.1)
 have m2:=jp (b.2-a.2)
 have m3:=l5 (x:=b.1-a.1) (by omega) (by omega)
 have m4:=l5 (x:=b.2-a.2) (by omega) (by omega)
 refine a6 (a5 rfl (cj rfl (bA c0 (is 1) (1,0) rfl rfl ?_)))
 intro g4 w1 b3 ch2 bx5
 replace bx5:Bx g4 (is 1) w1 b3 [vi a.1,vi a.2]:=bx5
 refine lo (bA g4 (is 2) (2,0) rfl rfl ?_)
 intro g9 w6 b8 ch7 bx10
 replace bx10:Bx g9 (is 2) w6 b8 [vi b.1,vi b.2]:=bx10
 refine ma (Value.float .f64 0) (a8 (a6 (bv g9 rfl sn (by kernel_rfl) ?_)))
 intro w12 ch11
 refine qx (λw' hw'=>a7 cq rfl rfl rfl rfl) ?_
 replace bx10:=bx10.cn ch11
 refine qx (λw' hw'=>a9 aG rfl (bx10.bel hw') rfl) (qx (λw' hw'=>a7 cq rfl rfl rfl rfl) ?_)
 replace bx5:=(bx5.cn ch7).cn ch11
 refine qx (λw' hw'=>a9 aG rfl (bx5.bel hw') rfl) (qx (λw' hw'=>cX (m:=b.1) (n:=a.1) rfl rfl (by omega)) (qx (λw' hw'=>a7 cq rfl rfl rfl rfl) (qx (λw' hw'=>a9 aG rfl (bx10.bel hw') rfl) (qx (λw' hw'=>a7 cq rfl rfl rfl rfl) (qx (λw' hw'=>a9 aG rfl (bx5.bel hw') rfl) (qx (λw' hw'=>cX (m:=b.2) (n:=a.2) rfl rfl (by omega)) (qv (vi (b.1-a.1)) (λw' hw'=>bi rfl) (qv (vi (b.2-a.2)) (λw' hw'=>bi rfl) (bM ?_)))))))))
 intro w13 hc14
 replace hc14:=aj hc14 g9
 refine a6 ?_
 clear bx5 bx10
 refine a5 rfl (mi (b.1-a.1) (mi (b.1-a.1) (lx (fV (m:=b.1-a.1) (n:=b.1-a.1) rfl rfl (by omega)) (mi (b.2-a.2) (mi (b.2-a.2) (lx (fV (m:=b.2-a.2) (n:=b.2-a.2) rfl rfl (by omega)) (lx (aQ (m:=(b.1-a.1)*(b.1-a.1)) (n:=(b.2-a.2)*(b.2-a.2)) rfl rfl (by omega)) (lw (Value.float .f64 (aF (((b.1-a.1)*(b.1-a.1))+((b.2-a.2)*(b.2-a.2))))) (nm (m:=((b.1-a.1)*(b.1-a.1))+((b.2-a.2)*(b.2-a.2))) U3 wV rfl) ?_))))))))
 have nn15:aF (((b.1-a.1)*(b.1-a.1))+((b.2-a.2)*(b.2-a.2)))<=br:=iH (by omega)
 refine ma (Value.float .f64 (aF (((b.1-a.1)*(b.1-a.1))+((b.2-a.2)*(b.2-a.2))))) (a8 (av (vs:=[Value.float .f64 (aF (((b.1-a.1)*(b.1-a.1))+((b.2-a.2)*(b.2-a.2))))]) Try.func47 (.tmp rfl .nil) ?_))
 have e0:(aF (((b.1-a.1)*(b.1-a.1))+((b.2-a.2)*(b.2-a.2))):Nat)=(bC a b):=by
   rfl
 have C16:=cg [] (ch2.n.seq (ch7.n.seq (ch11.n.seq hc14.n)))
 replace bH:=bH.ca C16
 exact⟨(congrArg (a₁:=aF (((b.1-a.1)*(b.1-a.1))+((b.2-a.2)*(b.2-a.2)))) (λ(z0:Nat)=>Ending.returned (Value.float .f64 z0)) e0),bH.below⟩
end TL
