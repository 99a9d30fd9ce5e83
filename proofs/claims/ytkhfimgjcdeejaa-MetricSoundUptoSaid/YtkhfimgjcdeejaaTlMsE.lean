import Derived.Test.YtkhfimgjcdeejaaTlP3
import Derived.Test.YtkhfimgjcdeejaaTlGmA
import Derived.Test.YtkhfimgjcdeejaaProg
import Derived.Test.YtkhfimgjcdeejaaTlAli
set_option linter.all false
set_option maxRecDepth 20000
namespace TL
open Go Go.Proofs
theorem dw:Tp Try.prog 30 false 1 8 (.float .f64 0):=Tp.of (by kernel_rfl)
theorem ex:Try.f19.body.isNone=false:=rfl
theorem et:(Try.f19.name== "runtime.NumGoroutine")=false:=by decide+kernel
theorem eF(w0:World)(a:Nat)(b:Nat):
    Calls Try.prog 19 #[Value.float .f64 a,Value.float .f64 b] w0 (λee w=>ee= .returned (vb (decide (a=b)))/\cW w0.heap.size w0 w):=by
 refine aI Try.func19 rfl nq ?_
 have bH:=bo.start w0
 refine a6 (a5 rfl (ma (vb false) (a8 (a6 (a5 rfl (mv (Value.float .f64 a) (lw (Value.int .u64 ((a:Nat):Int)) (ld (a:=a) Try.func34 (by kernel_rfl) (by kernel_rfl) (by kernel_rfl) (by kernel_rfl) rfl) (mv (Value.float .f64 b) (lw (Value.int .u64 ((b:Nat):Int)) (ld (a:=b) Try.func34 (by kernel_rfl) (by kernel_rfl) (by kernel_rfl) (by kernel_rfl) rfl) (lx (cu (m:=((a:Nat):Int)) (n:=((b:Nat):Int)) rfl rfl) (ma (vb (decide (((a:Nat):Int)=((b:Nat):Int)))) (a8 ?_))))))))))))
 refine av (vs:=[vb (decide (((a:Nat):Int)=((b:Nat):Int)))]) Try.func19 (.tmp rfl .nil) ?_
 have e0:(decide (((a:Nat):Int)=((b:Nat):Int)):Bool)=(decide (a=b)):=by
   (rw[decide_eq_decide];omega)
 exact⟨(congrArg (a₁:=decide (((a:Nat):Int)=((b:Nat):Int))) (λ(z0:Bool)=>Ending.returned (vb z0)) e0),bH.below⟩
theorem o7(w0:World)(a:(Nat)×(Nat)×(Nat)×(Nat)×(Nat)×(Nat)×(Nat))(b:(Nat)×(Nat)×(Nat)×(Nat)×(Nat)×(Nat)×(Nat)):
    Calls Try.prog 18 #[vg [Value.float .f64 a.1,Value.float .f64 a.2.1,Value.float .f64 a.2.2.1,Value.float .f64 a.2.2.2.1,Value.float .f64 a.2.2.2.2.1,Value.float .f64 a.2.2.2.2.2.1,Value.float .f64 a.2.2.2.2.2.2],vg [Value.float .f64 b.1,Value.float .f64 b.2.1,Value.float .f64 b.2.2.1,Value.float .f64 b.2.2.2.1,Value.float .f64 b.2.2.2.2.1,Value.float .f64 b.2.2.2.2.2.1,Value.float .f64 b.2.2.2.2.2.2]] w0 (λee w=>ee= .returned (vb (decide (a=b)))/\cW w0.heap.size w0 w):=by
 refine aI Try.func18 rfl nq ?_
 have bH:=bo.start w0
 refine a6 (a5 rfl (cj rfl (bA c0 (is 1) (1,0) rfl rfl ?_)))
 intro g4 w1 b3 ch2 bx5
 replace bx5:Bx g4 (is 1) w1 b3 [Value.float .f64 a.1,Value.float .f64 a.2.1,Value.float .f64 a.2.2.1,Value.float .f64 a.2.2.2.1,Value.float .f64 a.2.2.2.2.1,Value.float .f64 a.2.2.2.2.2.1,Value.float .f64 a.2.2.2.2.2.2]:=bx5
 refine lo (bA g4 (is 2) (2,0) rfl rfl ?_)
 intro g9 w6 b8 ch7 bx10
 replace bx10:Bx g9 (is 2) w6 b8 [Value.float .f64 b.1,Value.float .f64 b.2.1,Value.float .f64 b.2.2.1,Value.float .f64 b.2.2.2.1,Value.float .f64 b.2.2.2.2.1,Value.float .f64 b.2.2.2.2.2.1,Value.float .f64 b.2.2.2.2.2.2]:=bx10
 refine ma (vb false) (a8 (a6 (a5 rfl (lx (a7 gu rfl rfl rfl rfl) ?_))))
 replace bx5:=bx5.cn ch7
 refine lx (a9 dw rfl bx5 rfl) (lx (a7 gu rfl rfl rfl rfl) (lx (a9 dw rfl bx10 rfl) (lo (aN (v:=vb (decide (a.1=b.1))) (az (vals:=[Value.float .f64 a.1,Value.float .f64 b.1]) Try.func19 ex et rfl) (eF w6 a.1 b.1) ?_))))
 intro w11 hb12
 replace hb12:=aj hb12 g9
 refine mv (vb (decide (a.1=b.1))) ?_
 by_cases q10:(decide (a.1=b.1))=true
 ·
  refine lv (vp b3 1) (wy q10) (a7 gu rfl rfl rfl rfl) ?_
  replace bx5:=bx5.cn hb12
  refine lv (Value.float .f64 a.2.1) (wy q10) (a9 dw rfl bx5 rfl) (lv (vp b8 1) (wy q10) (a7 gu rfl rfl rfl rfl) ?_)
  replace bx10:=bx10.cn hb12
  refine lv (Value.float .f64 b.2.1) (wy q10) (a9 dw rfl bx10 rfl) (cj (wy q10) (aN (v:=vb (decide (a.2.1=b.2.1))) (az (vals:=[Value.float .f64 a.2.1,Value.float .f64 b.2.1]) Try.func19 ex et rfl) (eF w11 a.2.1 b.2.1) ?_))
  intro w13 hb14
  replace hb14:=aj hb14 g9
  refine lw (vb (decide (a.2.1=b.2.1))) (aD rfl q10 rfl) (mv (vb (decide (a.2.1=b.2.1))) ?_)
  by_cases q17:(decide (a.2.1=b.2.1))=true
  ·
   refine lv (vp b3 2) (wy q17) (a7 gu rfl rfl rfl rfl) ?_
   replace bx5:=bx5.cn hb14
   refine lv (Value.float .f64 a.2.2.1) (wy q17) (a9 dw rfl bx5 rfl) (lv (vp b8 2) (wy q17) (a7 gu rfl rfl rfl rfl) ?_)
   replace bx10:=bx10.cn hb14
   refine lv (Value.float .f64 b.2.2.1) (wy q17) (a9 dw rfl bx10 rfl) (cj (wy q17) (aN (v:=vb (decide (a.2.2.1=b.2.2.1))) (az (vals:=[Value.float .f64 a.2.2.1,Value.float .f64 b.2.2.1]) Try.func19 ex et rfl) (eF w13 a.2.2.1 b.2.2.1) ?_))
   intro w15 hb16
   replace hb16:=aj hb16 g9
   refine lw (vb (decide (a.2.2.1=b.2.2.1))) (aD rfl q17 rfl) (mv (vb (decide (a.2.2.1=b.2.2.1))) ?_)
   by_cases q24:(decide (a.2.2.1=b.2.2.1))=true
   ·
    refine lv (vp b3 3) (wy q24) (a7 gu rfl rfl rfl rfl) ?_
    replace bx5:=bx5.cn hb16
    refine lv (Value.float .f64 a.2.2.2.1) (wy q24) (a9 dw rfl bx5 rfl) (lv (vp b8 3) (wy q24) (a7 gu rfl rfl rfl rfl) ?_)
    replace bx10:=bx10.cn hb16
    refine lv (Value.float .f64 b.2.2.2.1) (wy q24) (a9 dw rfl bx10 rfl) (cj (wy q24) (aN (v:=vb (decide (a.2.2.2.1=b.2.2.2.1))) (az (vals:=[Value.float .f64 a.2.2.2.1,Value.float .f64 b.2.2.2.1]) Try.func19 ex et rfl) (eF w15 a.2.2.2.1 b.2.2.2.1) ?_))
    intro w17 hb18
    replace hb18:=aj hb18 g9
    refine lw (vb (decide (a.2.2.2.1=b.2.2.2.1))) (aD rfl q24 rfl) (mv (vb (decide (a.2.2.2.1=b.2.2.2.1))) ?_)
    by_cases q31:(decide (a.2.2.2.1=b.2.2.2.1))=true
    ·
     refine lv (vp b3 4) (wy q31) (a7 gu rfl rfl rfl rfl) ?_
     replace bx5:=bx5.cn hb18
     refine lv (Value.float .f64 a.2.2.2.2.1) (wy q31) (a9 dw rfl bx5 rfl) (lv (vp b8 4) (wy q31) (a7 gu rfl rfl rfl rfl) ?_)
     replace bx10:=bx10.cn hb18
     refine lv (Value.float .f64 b.2.2.2.2.1) (wy q31) (a9 dw rfl bx10 rfl) (cj (wy q31) (aN (v:=vb (decide (a.2.2.2.2.1=b.2.2.2.2.1))) (az (vals:=[Value.float .f64 a.2.2.2.2.1,Value.float .f64 b.2.2.2.2.1]) Try.func19 ex et rfl) (eF w17 a.2.2.2.2.1 b.2.2.2.2.1) ?_))
     intro w19 hb20
     replace hb20:=aj hb20 g9
     refine lw (vb (decide (a.2.2.2.2.1=b.2.2.2.2.1))) (aD rfl q31 rfl) (mv (vb (decide (a.2.2.2.2.1=b.2.2.2.2.1))) ?_)
     by_cases q38:(decide (a.2.2.2.2.1=b.2.2.2.2.1))=true
     ·
      refine lv (vp b3 5) (wy q38) (a7 gu rfl rfl rfl rfl) ?_
      replace bx5:=bx5.cn hb20
      refine lv (Value.float .f64 a.2.2.2.2.2.1) (wy q38) (a9 dw rfl bx5 rfl) (lv (vp b8 5) (wy q38) (a7 gu rfl rfl rfl rfl) ?_)
      replace bx10:=bx10.cn hb20
      refine lv (Value.float .f64 b.2.2.2.2.2.1) (wy q38) (a9 dw rfl bx10 rfl) (cj (wy q38) (aN (v:=vb (decide (a.2.2.2.2.2.1=b.2.2.2.2.2.1))) (az (vals:=[Value.float .f64 a.2.2.2.2.2.1,Value.float .f64 b.2.2.2.2.2.1]) Try.func19 ex et rfl) (eF w19 a.2.2.2.2.2.1 b.2.2.2.2.2.1) ?_))
      intro w21 hb22
      replace hb22:=aj hb22 g9
      refine lw (vb (decide (a.2.2.2.2.2.1=b.2.2.2.2.2.1))) (aD rfl q38 rfl) (mv (vb (decide (a.2.2.2.2.2.1=b.2.2.2.2.2.1))) ?_)
      by_cases q45:(decide (a.2.2.2.2.2.1=b.2.2.2.2.2.1))=true
      ·
       refine lv (vp b3 6) (wy q45) (a7 gu rfl rfl rfl rfl) ?_
       replace bx5:=bx5.cn hb22
       refine lv (Value.float .f64 a.2.2.2.2.2.2) (wy q45) (a9 dw rfl bx5 rfl) (lv (vp b8 6) (wy q45) (a7 gu rfl rfl rfl rfl) ?_)
       replace bx10:=bx10.cn hb22
       refine lv (Value.float .f64 b.2.2.2.2.2.2) (wy q45) (a9 dw rfl bx10 rfl) (cj (wy q45) (aN (v:=vb (decide (a.2.2.2.2.2.2=b.2.2.2.2.2.2))) (az (vals:=[Value.float .f64 a.2.2.2.2.2.2,Value.float .f64 b.2.2.2.2.2.2]) Try.func19 ex et rfl) (eF w21 a.2.2.2.2.2.2 b.2.2.2.2.2.2) ?_))
       intro w23 hb24
       replace hb24:=aj hb24 g9
       refine lw (vb (decide (a.2.2.2.2.2.2=b.2.2.2.2.2.2))) (aD rfl q45 rfl) (ma (vb (decide (a.2.2.2.2.2.2=b.2.2.2.2.2.2))) (a8 (av (vs:=[vb (decide (a.2.2.2.2.2.2=b.2.2.2.2.2.2))]) Try.func18 (.tmp rfl .nil) ?_)))
       have e0:((decide (a.2.2.2.2.2.2=b.2.2.2.2.2.2)):Bool)=(decide (a=b)):=by
         exact wY ‹_› ‹_› ‹_› ‹_› ‹_› ‹_›
       have C25:=cg [] (ch2.n.seq (ch7.n.seq (hb12.n.seq (hb14.n.seq (hb16.n.seq (hb18.n.seq (hb20.n.seq (hb22.n.seq hb24.n))))))))
       replace bH:=bH.ca C25
       exact⟨(congrArg (a₁:=(decide (a.2.2.2.2.2.2=b.2.2.2.2.2.2))) (λ(z0:Bool)=>Ending.returned (vb z0)) e0),bH.below⟩
      refine aa (wn (Bool.eq_false_iff.2 q45)) (aa (wn (Bool.eq_false_iff.2 q45)) (aa (wn (Bool.eq_false_iff.2 q45)) (aa (wn (Bool.eq_false_iff.2 q45)) (aa (wn (Bool.eq_false_iff.2 q45)) (lw (vb false) (aB rfl (Bool.eq_false_iff.2 q45) rfl) (ma (vb false) (a8 (av (vs:=[vb false]) Try.func18 (.tmp rfl .nil) ?_))))))))
      have e0:(false:Bool)=(decide (a=b)):=by
        exact l6 (λz=>z.2.2.2.2.2.1) ‹_›
      have C26:=cg [] (ch2.n.seq (ch7.n.seq (hb12.n.seq (hb14.n.seq (hb16.n.seq (hb18.n.seq (hb20.n.seq hb22.n)))))))
      replace bH:=bH.ca C26
      exact⟨rb e0,bH.below⟩
     refine aa (wn (Bool.eq_false_iff.2 q38)) (aa (wn (Bool.eq_false_iff.2 q38)) (aa (wn (Bool.eq_false_iff.2 q38)) (aa (wn (Bool.eq_false_iff.2 q38)) (aa (wn (Bool.eq_false_iff.2 q38)) (lw (vb false) (aB rfl (Bool.eq_false_iff.2 q38) rfl) (mv (vb false) (aa (wn rfl) (aa (wn rfl) (aa (wn rfl) (aa (wn rfl) (aa (wn rfl) (lw (vb false) (aB rfl rfl rfl) (ma (vb false) ?_)))))))))))))
     refine a8 (av (vs:=[vb false]) Try.func18 (.tmp rfl .nil) ?_)
     have e0:(false:Bool)=(decide (a=b)):=by
       exact l6 (λz=>z.2.2.2.2.1) ‹_›
     have C27:=cg [] (ch2.n.seq (ch7.n.seq (hb12.n.seq (hb14.n.seq (hb16.n.seq (hb18.n.seq hb20.n))))))
     replace bH:=bH.ca C27
     exact⟨rb e0,bH.below⟩
    refine aa (wn (Bool.eq_false_iff.2 q31)) (aa (wn (Bool.eq_false_iff.2 q31)) (aa (wn (Bool.eq_false_iff.2 q31)) (aa (wn (Bool.eq_false_iff.2 q31)) (aa (wn (Bool.eq_false_iff.2 q31)) (lw (vb false) (aB rfl (Bool.eq_false_iff.2 q31) rfl) (mv (vb false) (aa (wn rfl) (aa (wn rfl) (aa (wn rfl) (aa (wn rfl) (aa (wn rfl) (lw (vb false) (aB rfl rfl rfl) (mv (vb false) ?_)))))))))))))
    refine aa (wn rfl) (aa (wn rfl) (aa (wn rfl) (aa (wn rfl) (aa (wn rfl) (lw (vb false) (aB rfl rfl rfl) (ma (vb false) (a8 (av (vs:=[vb false]) Try.func18 (.tmp rfl .nil) ?_))))))))
    have e0:(false:Bool)=(decide (a=b)):=by
      exact l6 (λz=>z.2.2.2.1) ‹_›
    have C28:=cg [] (ch2.n.seq (ch7.n.seq (hb12.n.seq (hb14.n.seq (hb16.n.seq hb18.n)))))
    replace bH:=bH.ca C28
    exact⟨rb e0,bH.below⟩
   refine aa (wn (Bool.eq_false_iff.2 q24)) (aa (wn (Bool.eq_false_iff.2 q24)) (aa (wn (Bool.eq_false_iff.2 q24)) (aa (wn (Bool.eq_false_iff.2 q24)) (aa (wn (Bool.eq_false_iff.2 q24)) (lw (vb false) (aB rfl (Bool.eq_false_iff.2 q24) rfl) (mv (vb false) (aa (wn rfl) (aa (wn rfl) (aa (wn rfl) (aa (wn rfl) (aa (wn rfl) (lw (vb false) (aB rfl rfl rfl) (mv (vb false) ?_)))))))))))))
   refine aa (wn rfl) (aa (wn rfl) (aa (wn rfl) (aa (wn rfl) (aa (wn rfl) (lw (vb false) (aB rfl rfl rfl) (mv (vb false) (aa (wn rfl) (aa (wn rfl) (aa (wn rfl) (aa (wn rfl) (aa (wn rfl) (lw (vb false) (aB rfl rfl rfl) (ma (vb false) (a8 (av (vs:=[vb false]) Try.func18 (.tmp rfl .nil) ?_)))))))))))))))
   have e0:(false:Bool)=(decide (a=b)):=by
     exact l6 (λz=>z.2.2.1) ‹_›
   have C29:=cg [] (ch2.n.seq (ch7.n.seq (hb12.n.seq (hb14.n.seq hb16.n))))
   replace bH:=bH.ca C29
   exact⟨rb e0,bH.below⟩
  refine aa (wn (Bool.eq_false_iff.2 q17)) (aa (wn (Bool.eq_false_iff.2 q17)) (aa (wn (Bool.eq_false_iff.2 q17)) (aa (wn (Bool.eq_false_iff.2 q17)) (aa (wn (Bool.eq_false_iff.2 q17)) (lw (vb false) (aB rfl (Bool.eq_false_iff.2 q17) rfl) (mv (vb false) (aa (wn rfl) (aa (wn rfl) (aa (wn rfl) (aa (wn rfl) (aa (wn rfl) (lw (vb false) (aB rfl rfl rfl) (mv (vb false) ?_)))))))))))))
  refine aa (wn rfl) (aa (wn rfl) (aa (wn rfl) (aa (wn rfl) (aa (wn rfl) (lw (vb false) (aB rfl rfl rfl) (mv (vb false) (aa (wn rfl) (aa (wn rfl) (aa (wn rfl) (aa (wn rfl) (aa (wn rfl) (lw (vb false) (aB rfl rfl rfl) (mv (vb false) (aa (wn rfl) (aa (wn rfl) (aa (wn rfl) (aa (wn rfl) (aa (wn rfl) (lw (vb false) (aB rfl rfl rfl) (ma (vb false) (a8 ?_)))))))))))))))))))))
  refine av (vs:=[vb false]) Try.func18 (.tmp rfl .nil) ?_
  have e0:(false:Bool)=(decide (a=b)):=by
    exact l6 (λz=>z.2.1) ‹_›
  have C30:=cg [] (ch2.n.seq (ch7.n.seq (hb12.n.seq hb14.n)))
  replace bH:=bH.ca C30
  exact⟨rb e0,bH.below⟩
 refine aa (wn (Bool.eq_false_iff.2 q10)) (aa (wn (Bool.eq_false_iff.2 q10)) (aa (wn (Bool.eq_false_iff.2 q10)) (aa (wn (Bool.eq_false_iff.2 q10)) (aa (wn (Bool.eq_false_iff.2 q10)) (lw (vb false) (aB rfl (Bool.eq_false_iff.2 q10) rfl) (mv (vb false) (aa (wn rfl) (aa (wn rfl) (aa (wn rfl) (aa (wn rfl) (aa (wn rfl) (lw (vb false) (aB rfl rfl rfl) (mv (vb false) ?_)))))))))))))
 refine aa (wn rfl) (aa (wn rfl) (aa (wn rfl) (aa (wn rfl) (aa (wn rfl) (lw (vb false) (aB rfl rfl rfl) (mv (vb false) (aa (wn rfl) (aa (wn rfl) (aa (wn rfl) (aa (wn rfl) (aa (wn rfl) (lw (vb false) (aB rfl rfl rfl) (mv (vb false) (aa (wn rfl) (aa (wn rfl) (aa (wn rfl) (aa (wn rfl) (aa (wn rfl) (lw (vb false) (aB rfl rfl rfl) (mv (vb false) (aa (wn rfl) (aa (wn rfl) (aa (wn rfl) (aa (wn rfl) (aa (wn rfl) ?_)))))))))))))))))))))))))
 refine lw (vb false) (aB rfl rfl rfl) (ma (vb false) (a8 (av (vs:=[vb false]) Try.func18 (.tmp rfl .nil) ?_)))
 have e0:(false:Bool)=(decide (a=b)):=by
   exact l6 (λz=>z.1) ‹_›
 have C31:=cg [] (ch2.n.seq (ch7.n.seq hb12.n))
 replace bH:=bH.ca C31
 exact⟨rb e0,bH.below⟩
end TL
