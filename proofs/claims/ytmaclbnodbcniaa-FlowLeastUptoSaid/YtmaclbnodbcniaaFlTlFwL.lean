import Derived.Test.YtmaclbnodbcniaaFlTlP3
import Derived.Test.YtmaclbnodbcniaaFlTlFwA
import Derived.Test.YtmaclbnodbcniaaProg
import Derived.Test.YtmaclbnodbcniaaFlTlAli
set_option linter.all false
set_option maxRecDepth 20000
namespace TL
open Go Go.Proofs
theorem mX:Try.prog.follows .mixedOrders=true:=by kernel_rfl
theorem eS(w0:World)(xs:List Pt)(xs_v:Value)(hxs_v:Ro w0 xs_v xs):
    Calls Try.prog 33 #[xs_v] w0 (λee w=>ee= .returned (vi (xs.length:Int))/\dk w0.heap.size w0 w):=by
 refine az Try.func33 rfl nq ?_
 have bH:=aS.start w0
 have Rxs:=hxs_v.sl
 refine a9 (a6 rfl (ai 0 (ag (a9 (a6 rfl (mv xs_v ?_))))))
 have len1:=(Rxs).small
 refine lx (bi db rfl Rxs) (ai (xs.length:Int) (ag (aB (vs:=[vi (xs.length:Int)]) Try.func33 (.tmp rfl .nil) ?_)))
 have e0:((xs.length:Int):Int)=((xs.length:Int)):=by
   rfl
 exact⟨ri e0,bH.below⟩
theorem cU(w0:World)(xs:List Pt)(xs_v:Value)(hxs_v:Ro w0 xs_v xs)(i:Int)(j:Int)(hi:0<=i/\i<(xs.length:Int))(hj:0<=j/\j<(xs.length:Int)):
    Calls Try.prog 55 #[xs_v,vi i,vi j] w0 (λee w=>ee= .returned (vb (decide (bV (gI xs i) (gI xs j))))/\dk w0.heap.size w0 w):=by
 refine az Try.func55 rfl nq ?_
 have bH:=aS.start w0
 have Rxs:=hxs_v.sl
 obtain⟨hi0,hi1⟩:=hi
 obtain⟨hj0,hj1⟩:=hj
 refine a9 (a6 rfl (ma (vb false) (ag (a9 (bB c0 rfl mX (by kernel_rfl) ?_)))))
 intro w2 ch1
 refine qm xs_v (qm (vi i) ?_)
 replace Rxs:=Rxs.cn ch1
 refine qx (λw' hw'=>aa (v:=xs_v) (i:=i) db rfl rfl (Rxs.bel hw') rfl (by omega) (by omega)) (qv (Value.pointer (some ⟨(aO xs_v 2 (Int.toNat i)).block,(aO xs_v 2 (Int.toNat i)).off+0,none⟩)) (λw' hw'=>aL gT rfl rfl rfl rfl) (qx (λw' hw'=>bb (v:=xs_v) (i:=i) ae rfl (Rxs.bel hw') (by omega) (by omega) (by decide) rfl) (qm xs_v (qm (vi j) (qx (λw' hw'=>aa (v:=xs_v) (i:=j) db rfl rfl (Rxs.bel hw') rfl (by omega) (by omega)) (qv (Value.pointer (some ⟨(aO xs_v 2 (Int.toNat j)).block,(aO xs_v 2 (Int.toNat j)).off+0,none⟩)) (λw' hw'=>aL gT rfl rfl rfl rfl) (qx (λw' hw'=>bb (v:=xs_v) (i:=j) ae rfl (Rxs.bel hw') (by omega) (by omega) (by decide) rfl) ?_)))))))
 refine qx (λw' hw'=>bj (m:=(gI xs i).1) (n:=(gI xs j).1) rfl rfl) (qm (vb (decide (((gI xs i).1)<((gI xs j).1)))) ?_)
 by_cases q18:((gI xs i).1)<((gI xs j).1)
 ·
  refine aK (wn (dt q18)) (aK (wn (dt q18)) (aK (wn (dt q18)) (aK (wn (dt q18)) (aK (wn (dt q18)) (aK (wn (dt q18)) (aK (wn (dt q18)) (aK (wn (dt q18)) (aK (wn (dt q18)) (aK (wn (dt q18)) ?_)))))))))
  refine aK (wn (dt q18)) (aK (wn (dt q18)) (aK (bY rfl rfl rfl) (aK (bY rfl rfl rfl) (aK (bY rfl rfl rfl) (aK (bY rfl rfl rfl) (aK (bY rfl rfl rfl) (aK (bY rfl rfl rfl) (aK (bY rfl rfl rfl) (aK (bY rfl rfl rfl) ?_)))))))))
  refine aK (bY rfl rfl rfl) (aK (bY rfl rfl rfl) (aK (bY rfl rfl rfl) (aK (wn (dt q18)) (qv (vb true) (λw' hw'=>ax rfl (dt q18) rfl) (qv (vb true) (λw' hw'=>bD rfl) (cd ?_))))))
  intro w3 hc4
  replace hc4:=aD hc4 c0
  refine aB (vs:=[vb true]) Try.func55 (.tmp rfl .nil) ?_
  have e0:(true:Bool)=(decide (bV (gI xs i) (gI xs j))):=by
    exact(dt (by unfold bV;omega)).symm
  replace bH:=bH.cn ch1
  replace bH:=bH.cn hc4
  exact⟨rb e0,bH.below⟩
 refine aY (v:=xs_v) (wy (df q18)) (λw' hw'=>ah rfl) (aY (v:=vi i) (wy (df q18)) (λw' hw'=>ah rfl) (aY (v:=Value.pointer (some (aO xs_v 2 (Int.toNat i)))) (wy (df q18)) (λw' hw'=>aa (α:=Pt) (xs:=xs) (v:=xs_v) (i:=i) db rfl rfl (Rxs.bel hw') rfl (by omega) (by omega)) (aY (v:=Value.pointer (some ⟨(aO xs_v 2 (Int.toNat i)).block,(aO xs_v 2 (Int.toNat i)).off+0,none⟩)) (wy (df q18)) (λw' hw'=>aL gT rfl rfl rfl rfl) ?_)))
 refine aY (v:=vi ((gI xs i).1)) (wy (df q18)) (λw' hw'=>bb (α:=Pt) (xs:=xs) (v:=xs_v) (i:=i) ae rfl (Rxs.bel hw') (by omega) (by omega) (by decide) rfl) (aY (v:=xs_v) (wy (df q18)) (λw' hw'=>ah rfl) (aY (v:=vi j) (wy (df q18)) (λw' hw'=>ah rfl) (aY (v:=Value.pointer (some (aO xs_v 2 (Int.toNat j)))) (wy (df q18)) (λw' hw'=>aa (α:=Pt) (xs:=xs) (v:=xs_v) (i:=j) db rfl rfl (Rxs.bel hw') rfl (by omega) (by omega)) ?_)))
 refine aY (v:=Value.pointer (some ⟨(aO xs_v 2 (Int.toNat j)).block,(aO xs_v 2 (Int.toNat j)).off+0,none⟩)) (wy (df q18)) (λw' hw'=>aL gT rfl rfl rfl rfl) (aY (v:=vi ((gI xs j).1)) (wy (df q18)) (λw' hw'=>bb (α:=Pt) (xs:=xs) (v:=xs_v) (i:=j) ae rfl (Rxs.bel hw') (by omega) (by omega) (by decide) rfl) (aY (v:=vb (decide (((gI xs i).1)=((gI xs j).1)))) (wy (df q18)) (λw' hw'=>d6 (m:=(gI xs i).1) (n:=(gI xs j).1) rfl rfl) (aY (v:=vb (decide (((gI xs i).1)=((gI xs j).1)))) (wy (df q18)) (λw' hw'=>ah rfl) ?_)))
 by_cases q30:((gI xs i).1)=((gI xs j).1)
 ·
  refine aY (v:=xs_v) (wy (dt q30)) (λw' hw'=>ah rfl) (aY (v:=vi i) (wy (dt q30)) (λw' hw'=>ah rfl) (aY (v:=Value.pointer (some (aO xs_v 2 (Int.toNat i)))) (wy (dt q30)) (λw' hw'=>aa (α:=Pt) (xs:=xs) (v:=xs_v) (i:=i) db rfl rfl (Rxs.bel hw') rfl (by omega) (by omega)) (aY (v:=Value.pointer (some ⟨(aO xs_v 2 (Int.toNat i)).block,(aO xs_v 2 (Int.toNat i)).off+1,none⟩)) (wy (dt q30)) (λw' hw'=>aL gT rfl rfl rfl rfl) ?_)))
  refine aY (v:=vi ((gI xs i).2)) (wy (dt q30)) (λw' hw'=>bb (α:=Pt) (xs:=xs) (v:=xs_v) (i:=i) ae rfl (Rxs.bel hw') (by omega) (by omega) (by decide) rfl) (aY (v:=xs_v) (wy (dt q30)) (λw' hw'=>ah rfl) (aY (v:=vi j) (wy (dt q30)) (λw' hw'=>ah rfl) (aY (v:=Value.pointer (some (aO xs_v 2 (Int.toNat j)))) (wy (dt q30)) (λw' hw'=>aa (α:=Pt) (xs:=xs) (v:=xs_v) (i:=j) db rfl rfl (Rxs.bel hw') rfl (by omega) (by omega)) ?_)))
  refine aY (v:=Value.pointer (some ⟨(aO xs_v 2 (Int.toNat j)).block,(aO xs_v 2 (Int.toNat j)).off+1,none⟩)) (wy (dt q30)) (λw' hw'=>aL gT rfl rfl rfl rfl) (aY (v:=vi ((gI xs j).2)) (wy (dt q30)) (λw' hw'=>bb (α:=Pt) (xs:=xs) (v:=xs_v) (i:=j) ae rfl (Rxs.bel hw') (by omega) (by omega) (by decide) rfl) (aY (v:=vb (decide (((gI xs i).2)<((gI xs j).2)))) (wy (dt q30)) (λw' hw'=>bj (m:=(gI xs i).2) (n:=(gI xs j).2) rfl rfl) (aY (v:=vb (decide (((gI xs i).2)<((gI xs j).2)))) (wy (df q18)) (λw' hw'=>ax rfl (dt q30) rfl) ?_)))
  refine qv (vb (decide (((gI xs i).2)<((gI xs j).2)))) (λw' hw'=>aI rfl (df q18) rfl) (qv (vb (decide (((gI xs i).2)<((gI xs j).2)))) (λw' hw'=>bD rfl) (cd ?_))
  intro w5 hc6
  replace hc6:=aD hc6 c0
  refine aB (vs:=[vb (decide (((gI xs i).2)<((gI xs j).2)))]) Try.func55 (.tmp rfl .nil) ?_
  have e0:(decide (((gI xs i).2)<((gI xs j).2)):Bool)=(decide (bV (gI xs i) (gI xs j))):=by
    (rw[decide_eq_decide];unfold bV;omega)
  replace bH:=bH.cn ch1
  replace bH:=bH.cn hc6
  exact⟨(congrArg (a₁:=decide (((gI xs i).2)<((gI xs j).2))) (λ(z0:Bool)=>Ending.returned (vb z0)) e0),bH.below⟩
 refine aK (wn (df q30)) (aK (wn (df q30)) (aK (wn (df q30)) (aK (wn (df q30)) (aK (wn (df q30)) (aK (wn (df q30)) (aK (wn (df q30)) (aK (wn (df q30)) (aK (wn (df q30)) (aK (wn (df q30)) ?_)))))))))
 refine aK (wn (df q30)) (aY (v:=vb false) (wy (df q18)) (λw' hw'=>aI rfl (df q30) rfl) (qv (vb false) (λw' hw'=>aI rfl (df q18) rfl) (qv (vb false) (λw' hw'=>bD rfl) (cd ?_))))
 intro w7 hc8
 replace hc8:=aD hc8 c0
 refine aB (vs:=[vb false]) Try.func55 (.tmp rfl .nil) ?_
 have e0:(false:Bool)=(decide (bV (gI xs i) (gI xs j))):=by
   exact(df (by unfold bV;omega)).symm
 replace bH:=bH.cn ch1
 replace bH:=bH.cn hc8
 exact⟨rb e0,bH.below⟩
end TL
