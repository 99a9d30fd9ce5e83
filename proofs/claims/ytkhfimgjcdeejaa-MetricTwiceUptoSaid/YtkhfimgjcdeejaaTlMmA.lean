import Derived.Test.YtkhfimgjcdeejaaTlP2
import Derived.Test.YtkhfimgjcdeejaaTlGmA
import Derived.Test.YtkhfimgjcdeejaaTlGenA
import Derived.Test.YtkhfimgjcdeejaaProg
import Derived.Test.YtkhfimgjcdeejaaTlAli
set_option linter.all false
set_option maxRecDepth 20000
namespace TL
open Go Go.Proofs
theorem nQ:Try.prog.follows .mixedOrders=true:=by kernel_rfl
theorem rS(w0:World)(sign:Int)(hs:0<=sign):
    Calls Try.prog 24 #[vi sign] w0 (λee w=>ee= .returned (Value.float .f64 aJ)/\cG w0.heap.size w0 w):=by
 refine aK Try.func24 rfl nq ?_
 have bH:=bu.start w0
 refine a8 (a7 rfl (ma (Value.float .f64 0) (ab (a8 (a7 rfl (ma (Value.int .u64 0) (ab (a8 (a8 (a7 rfl (mi sign (lx (eL (m:=sign) (n:=0) rfl rfl) (ab ?_)))))))))))))
 by_cases p2:0<=sign
 ·
  refine ag rfl (dt p2) (a7 rfl (ma (Value.int .u64 9218868437227405312) (ab (a8 (a7 rfl (mv (Value.int .u64 9218868437227405312) (lw (Value.float .f64 9218868437227405312) (iA (n:=9218868437227405312) Try.func37 (by kernel_rfl) (by kernel_rfl) (by kernel_rfl) (by kernel_rfl) rfl) (ma (Value.float .f64 9218868437227405312) (ab (aw (vs:=[Value.float .f64 9218868437227405312]) Try.func24 (.tmp rfl .nil) ?_))))))))))
  have e0:(9218868437227405312:Nat)=(aJ):=by
    rfl
  exact⟨(congrArg (a₁:=9218868437227405312) (λ(z0:Nat)=>Ending.returned (Value.float .f64 z0)) e0),bH.below⟩
 omega
theorem c7(w0:World)(x:Nat)(hx:x<=aJ):
    Calls Try.prog 46 #[Value.float .f64 x] w0 (λee w=>ee= .returned (Value.float .f64 (az x))/\cG w0.heap.size w0 w):=by
 refine aK Try.func46 rfl nq ?_
 have bH:=bu.start w0
 refine a8 (a7 rfl (ma (Value.float .f64 0) (ab (a8 (a7 rfl (mv (Value.float .f64 x) (lw (Value.float .f64 (az x)) (rK (a:=x) Try.func57 (by kernel_rfl) (by kernel_rfl) (by kernel_rfl) (by kernel_rfl) rfl (gh ‹_›).1) ?_)))))))
 have nn1:az x<=aJ:=(gh (x:=x) ‹_›).2
 refine ma (Value.float .f64 (az x)) (ab (aw (vs:=[Value.float .f64 (az x)]) Try.func46 (.tmp rfl .nil) ?_))
 have e0:(az x:Nat)=(az x):=by
   rfl
 exact⟨(congrArg (a₁:=az x) (λ(z0:Nat)=>Ending.returned (Value.float .f64 z0)) e0),bH.below⟩
theorem cl(w0:World)(x:Nat)(hx:bQ x=true\/x<=aJ):
    Calls Try.prog 26 #[Value.float .f64 x] w0 (λee w=>ee= .returned (Value.float .f64 (al x))/\cG w0.heap.size w0 w):=by
 refine aK Try.func26 rfl nq ?_
 have bH:=bu.start w0
 refine a8 (a7 rfl (ma (Value.float .f64 0) (ab (a8 (a8 (a7 rfl (mv (Value.float .f64 x) (mv (Value.float .f64 x) (lw (vb (bQ x)) (cU (a:=x) rfl rfl) (ab ?_))))))))))
 by_cases p1:bQ x=true
 ·
  refine ag rfl p1 (a8 (a7 rfl (lw (Value.float .f64 9221120237041090561) (iA (n:=9221120237041090561) Try.func37 (by kernel_rfl) (by kernel_rfl) (by kernel_rfl) (by kernel_rfl) rfl) (ma (Value.float .f64 9221120237041090561) (ab (aw (vs:=[Value.float .f64 9221120237041090561]) Try.func26 (.tmp rfl .nil) ?_))))))
  have e0:(9221120237041090561:Nat)=(al x):=by
    exact qn p1
  exact⟨(congrArg (a₁:=9221120237041090561) (λ(z0:Nat)=>Ending.returned (Value.float .f64 z0)) e0),bH.below⟩
 have hx2:=hx.resolve_left p1
 refine ah rfl (Bool.eq_false_iff.2 p1) (au (a8 (a8 (a7 rfl (mv (Value.float .f64 x) (lw (vb (decide (x=0))) (dw (a:=x) (b:=0) rfl rfl ‹_› (by decide)) (ab ?_)))))))
 by_cases p3:x=0
 ·
  refine ag rfl (dt p3) (a8 (a7 rfl (ma (Value.float .f64 0) (ab (aw (vs:=[Value.float .f64 0]) Try.func26 (.tmp rfl .nil) ?_)))))
  have e0:(0:Nat)=(al x):=by
    exact pv p1 ‹_›
  exact⟨(congrArg (a₁:=0) (λ(z0:Nat)=>Ending.returned (Value.float .f64 z0)) e0),bH.below⟩
 refine ah rfl (df p3) (au (a8 (a7 rfl (mv (Value.float .f64 x) (ma (Value.float .f64 x) (ab (aw (vs:=[Value.float .f64 x]) Try.func26 (.tmp rfl .nil) ?_)))))))
 have e0:(x:Nat)=(al x):=by
   exact pO p1
 exact⟨(congrArg (a₁:=x) (λ(z0:Nat)=>Ending.returned (Value.float .f64 z0)) e0),bH.below⟩
theorem cm(w0:World)(a:Pt)(b:Pt)(ha:c5 a)(hb:c5 b):
    Calls Try.prog 47 #[vg [vi a.1,vi a.2],vg [vi b.1,vi b.2]] w0 (λee w=>ee= .returned (Value.float .f64 (bk a b))/\cG w0.heap.size w0 w):=by
 refine aK Try.func47 rfl nq ?_
 have bH:=bu.start w0
 obtain⟨⟨ha1,ha2⟩,ha3,ha4⟩:=ha
 obtain⟨⟨hb1,hb2⟩,hb3,hb4⟩:=hb
 have m1:=gQ (b.1-a.1)
 have m2:=gQ (b.2-a.2)
 have m3:=gY (x:=b.1-a.1) (by omega) (by omega)
 have m4:=gY (x:=b.2-a.2) (by omega) (by omega)
 refine a8 (a7 rfl (cN rfl (bC c0 (is 1) (1,0) rfl rfl ?_)))
 intro g4 w1 b3 ch2 bx5
 replace bx5:Bx g4 (is 1) w1 b3 [vi a.1,vi a.2]:=bx5
 refine lo (bC g4 (is 2) (2,0) rfl rfl ?_)
 intro g9 w6 b8 ch7 bx10
 replace bx10:Bx g9 (is 2) w6 b8 [vi b.1,vi b.2]:=bx10
 refine ma (Value.float .f64 0) (ab (a8 (bq g9 rfl nQ (by kernel_rfl) ?_)))
 intro w12 ch11
 refine qx (λw' hw'=>a9 cL rfl rfl rfl rfl) ?_
 replace bx10:=bx10.cn ch11
 refine qx (λw' hw'=>aa aL rfl (bx10.bel hw') rfl) (qx (λw' hw'=>a9 cL rfl rfl rfl rfl) ?_)
 replace bx5:=(bx5.cn ch7).cn ch11
 refine qx (λw' hw'=>aa aL rfl (bx5.bel hw') rfl) (qx (λw' hw'=>cW (m:=b.1) (n:=a.1) rfl rfl (by omega)) (qx (λw' hw'=>a9 cL rfl rfl rfl rfl) (qx (λw' hw'=>aa aL rfl (bx10.bel hw') rfl) (qx (λw' hw'=>a9 cL rfl rfl rfl rfl) (qx (λw' hw'=>aa aL rfl (bx5.bel hw') rfl) (qx (λw' hw'=>cW (m:=b.2) (n:=a.2) rfl rfl (by omega)) (qv (vi (b.1-a.1)) (λw' hw'=>bw rfl) (qv (vi (b.2-a.2)) (λw' hw'=>bw rfl) (bT ?_)))))))))
 intro w13 hc14
 replace hc14:=am hc14 g9
 refine a8 ?_
 clear bx5 bx10
 refine a7 rfl (mi (b.1-a.1) (mi (b.1-a.1) (lx (eu (m:=b.1-a.1) (n:=b.1-a.1) rfl rfl (by omega)) (mi (b.2-a.2) (mi (b.2-a.2) (lx (eu (m:=b.2-a.2) (n:=b.2-a.2) rfl rfl (by omega)) (lx (ba (m:=(b.1-a.1)*(b.1-a.1)) (n:=(b.2-a.2)*(b.2-a.2)) rfl rfl (by omega)) (lw (Value.float .f64 (aq (((b.1-a.1)*(b.1-a.1))+((b.2-a.2)*(b.2-a.2))))) (kJ (m:=((b.1-a.1)*(b.1-a.1))+((b.2-a.2)*(b.2-a.2))) U3 sN rfl) ?_))))))))
 have nn15:aq (((b.1-a.1)*(b.1-a.1))+((b.2-a.2)*(b.2-a.2)))<=aJ:=ga (by omega)
 refine ma (Value.float .f64 (aq (((b.1-a.1)*(b.1-a.1))+((b.2-a.2)*(b.2-a.2))))) (ab (aw (vs:=[Value.float .f64 (aq (((b.1-a.1)*(b.1-a.1))+((b.2-a.2)*(b.2-a.2))))]) Try.func47 (.tmp rfl .nil) ?_))
 have e0:(aq (((b.1-a.1)*(b.1-a.1))+((b.2-a.2)*(b.2-a.2))):Nat)=(bk a b):=by
   rfl
 have C16:=cg [] (ch2.n.seq (ch7.n.seq (ch11.n.seq hc14.n)))
 replace bH:=bH.ca C16
 exact⟨(congrArg (a₁:=aq (((b.1-a.1)*(b.1-a.1))+((b.2-a.2)*(b.2-a.2)))) (λ(z0:Nat)=>Ending.returned (Value.float .f64 z0)) e0),bH.below⟩
end TL
