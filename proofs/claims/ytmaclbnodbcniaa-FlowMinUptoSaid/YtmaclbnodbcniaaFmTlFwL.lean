import Derived.Test.YtmaclbnodbcniaaFmTlP3
import Derived.Test.YtmaclbnodbcniaaFmTlFwA
import Derived.Test.YtmaclbnodbcniaaProg
import Derived.Test.YtmaclbnodbcniaaFmTlAli
set_option linter.all false
set_option maxRecDepth 20000
namespace TL
open Go Go.Proofs
theorem o9:Try.prog.follows .mixedOrders=true:=by kernel_rfl
theorem fL(w0:World)(xs:List Pt)(xs_v:Value)(hxs_v:Ro w0 xs_v xs):
    Calls Try.prog 33 #[xs_v] w0 (λee w=>ee= .returned (vi (xs.length:Int))/\dC w0.heap.size w0 w):=by
 refine aC Try.func33 rfl nq ?_
 have bH:=b9.start w0
 have Rxs:=hxs_v.sl
 refine a9 (a6 rfl (ai 0 (af (a9 (a6 rfl (mv xs_v ?_))))))
 have len1:=(Rxs).small
 refine lx (ba dD rfl Rxs) (ai (xs.length:Int) (af (aF (vs:=[vi (xs.length:Int)]) Try.func33 (.tmp rfl .nil) ?_)))
 have e0:((xs.length:Int):Int)=((xs.length:Int)):=by
   rfl
 exact⟨ri e0,bH.below⟩
theorem dr(w0:World)(xs:List Pt)(xs_v:Value)(hxs_v:Ro w0 xs_v xs)(i:Int)(j:Int)(hi:0<=i/\i<(xs.length:Int))(hj:0<=j/\j<(xs.length:Int)):
    Calls Try.prog 55 #[xs_v,vi i,vi j] w0 (λee w=>ee= .returned (vb (decide (cf (gI xs i) (gI xs j))))/\dC w0.heap.size w0 w):=by
 refine aC Try.func55 rfl nq ?_
 have bH:=b9.start w0
 have Rxs:=hxs_v.sl
 obtain⟨hi0,hi1⟩:=hi
 obtain⟨hj0,hj1⟩:=hj
 refine a9 (a6 rfl (ma (vb false) (af (a9 (bt c0 rfl o9 (by kernel_rfl) ?_)))))
 intro w2 ch1
 refine qm xs_v (qm (vi i) ?_)
 replace Rxs:=Rxs.cn ch1
 refine qx (λw' hw'=>aa (v:=xs_v) (i:=i) dD rfl rfl (Rxs.bel hw') rfl (by omega) (by omega)) (qv (Value.pointer (some ⟨(aT xs_v 2 (Int.toNat i)).block,(aT xs_v 2 (Int.toNat i)).off+0,none⟩)) (λw' hw'=>aO iI rfl rfl rfl rfl) (qx (λw' hw'=>bi (v:=xs_v) (i:=i) ae rfl (Rxs.bel hw') (by omega) (by omega) (by decide) rfl) (qm xs_v (qm (vi j) (qx (λw' hw'=>aa (v:=xs_v) (i:=j) dD rfl rfl (Rxs.bel hw') rfl (by omega) (by omega)) (qv (Value.pointer (some ⟨(aT xs_v 2 (Int.toNat j)).block,(aT xs_v 2 (Int.toNat j)).off+0,none⟩)) (λw' hw'=>aO iI rfl rfl rfl rfl) (qx (λw' hw'=>bi (v:=xs_v) (i:=j) ae rfl (Rxs.bel hw') (by omega) (by omega) (by decide) rfl) ?_)))))))
 refine qx (λw' hw'=>bo (m:=(gI xs i).1) (n:=(gI xs j).1) rfl rfl) (qm (vb (decide (((gI xs i).1)<((gI xs j).1)))) ?_)
 by_cases q18:((gI xs i).1)<((gI xs j).1)
 ·
  refine aE (wn (dt q18)) (aE (wn (dt q18)) (aE (wn (dt q18)) (aE (wn (dt q18)) (aE (wn (dt q18)) (aE (wn (dt q18)) (aE (wn (dt q18)) (aE (wn (dt q18)) (aE (wn (dt q18)) (aE (wn (dt q18)) ?_)))))))))
  refine aE (wn (dt q18)) (aE (wn (dt q18)) (aE (bA rfl rfl rfl) (aE (bA rfl rfl rfl) (aE (bA rfl rfl rfl) (aE (bA rfl rfl rfl) (aE (bA rfl rfl rfl) (aE (bA rfl rfl rfl) (aE (bA rfl rfl rfl) (aE (bA rfl rfl rfl) ?_)))))))))
  refine aE (bA rfl rfl rfl) (aE (bA rfl rfl rfl) (aE (bA rfl rfl rfl) (aE (wn (dt q18)) (qv (vb true) (λw' hw'=>az rfl (dt q18) rfl) (qv (vb true) (λw' hw'=>bD rfl) (bX ?_))))))
  intro w3 hc4
  replace hc4:=aB hc4 c0
  refine aF (vs:=[vb true]) Try.func55 (.tmp rfl .nil) ?_
  have e0:(true:Bool)=(decide (cf (gI xs i) (gI xs j))):=by
    exact(dt (by unfold cf;omega)).symm
  replace bH:=bH.cn ch1
  replace bH:=bH.cn hc4
  exact⟨rb e0,bH.below⟩
 refine aQ (v:=xs_v) (wy (df q18)) (λw' hw'=>ah rfl) (aQ (v:=vi i) (wy (df q18)) (λw' hw'=>ah rfl) (aQ (v:=Value.pointer (some (aT xs_v 2 (Int.toNat i)))) (wy (df q18)) (λw' hw'=>aa (α:=Pt) (xs:=xs) (v:=xs_v) (i:=i) dD rfl rfl (Rxs.bel hw') rfl (by omega) (by omega)) (aQ (v:=Value.pointer (some ⟨(aT xs_v 2 (Int.toNat i)).block,(aT xs_v 2 (Int.toNat i)).off+0,none⟩)) (wy (df q18)) (λw' hw'=>aO iI rfl rfl rfl rfl) ?_)))
 refine aQ (v:=vi ((gI xs i).1)) (wy (df q18)) (λw' hw'=>bi (α:=Pt) (xs:=xs) (v:=xs_v) (i:=i) ae rfl (Rxs.bel hw') (by omega) (by omega) (by decide) rfl) (aQ (v:=xs_v) (wy (df q18)) (λw' hw'=>ah rfl) (aQ (v:=vi j) (wy (df q18)) (λw' hw'=>ah rfl) (aQ (v:=Value.pointer (some (aT xs_v 2 (Int.toNat j)))) (wy (df q18)) (λw' hw'=>aa (α:=Pt) (xs:=xs) (v:=xs_v) (i:=j) dD rfl rfl (Rxs.bel hw') rfl (by omega) (by omega)) ?_)))
 refine aQ (v:=Value.pointer (some ⟨(aT xs_v 2 (Int.toNat j)).block,(aT xs_v 2 (Int.toNat j)).off+0,none⟩)) (wy (df q18)) (λw' hw'=>aO iI rfl rfl rfl rfl) (aQ (v:=vi ((gI xs j).1)) (wy (df q18)) (λw' hw'=>bi (α:=Pt) (xs:=xs) (v:=xs_v) (i:=j) ae rfl (Rxs.bel hw') (by omega) (by omega) (by decide) rfl) (aQ (v:=vb (decide (((gI xs i).1)=((gI xs j).1)))) (wy (df q18)) (λw' hw'=>cw (m:=(gI xs i).1) (n:=(gI xs j).1) rfl rfl) (aQ (v:=vb (decide (((gI xs i).1)=((gI xs j).1)))) (wy (df q18)) (λw' hw'=>ah rfl) ?_)))
 by_cases q30:((gI xs i).1)=((gI xs j).1)
 ·
  refine aQ (v:=xs_v) (wy (dt q30)) (λw' hw'=>ah rfl) (aQ (v:=vi i) (wy (dt q30)) (λw' hw'=>ah rfl) (aQ (v:=Value.pointer (some (aT xs_v 2 (Int.toNat i)))) (wy (dt q30)) (λw' hw'=>aa (α:=Pt) (xs:=xs) (v:=xs_v) (i:=i) dD rfl rfl (Rxs.bel hw') rfl (by omega) (by omega)) (aQ (v:=Value.pointer (some ⟨(aT xs_v 2 (Int.toNat i)).block,(aT xs_v 2 (Int.toNat i)).off+1,none⟩)) (wy (dt q30)) (λw' hw'=>aO iI rfl rfl rfl rfl) ?_)))
  refine aQ (v:=vi ((gI xs i).2)) (wy (dt q30)) (λw' hw'=>bi (α:=Pt) (xs:=xs) (v:=xs_v) (i:=i) ae rfl (Rxs.bel hw') (by omega) (by omega) (by decide) rfl) (aQ (v:=xs_v) (wy (dt q30)) (λw' hw'=>ah rfl) (aQ (v:=vi j) (wy (dt q30)) (λw' hw'=>ah rfl) (aQ (v:=Value.pointer (some (aT xs_v 2 (Int.toNat j)))) (wy (dt q30)) (λw' hw'=>aa (α:=Pt) (xs:=xs) (v:=xs_v) (i:=j) dD rfl rfl (Rxs.bel hw') rfl (by omega) (by omega)) ?_)))
  refine aQ (v:=Value.pointer (some ⟨(aT xs_v 2 (Int.toNat j)).block,(aT xs_v 2 (Int.toNat j)).off+1,none⟩)) (wy (dt q30)) (λw' hw'=>aO iI rfl rfl rfl rfl) (aQ (v:=vi ((gI xs j).2)) (wy (dt q30)) (λw' hw'=>bi (α:=Pt) (xs:=xs) (v:=xs_v) (i:=j) ae rfl (Rxs.bel hw') (by omega) (by omega) (by decide) rfl) (aQ (v:=vb (decide (((gI xs i).2)<((gI xs j).2)))) (wy (dt q30)) (λw' hw'=>bo (m:=(gI xs i).2) (n:=(gI xs j).2) rfl rfl) (aQ (v:=vb (decide (((gI xs i).2)<((gI xs j).2)))) (wy (df q18)) (λw' hw'=>az rfl (dt q30) rfl) ?_)))
  refine qv (vb (decide (((gI xs i).2)<((gI xs j).2)))) (λw' hw'=>aH rfl (df q18) rfl) (qv (vb (decide (((gI xs i).2)<((gI xs j).2)))) (λw' hw'=>bD rfl) (bX ?_))
  intro w5 hc6
  replace hc6:=aB hc6 c0
  refine aF (vs:=[vb (decide (((gI xs i).2)<((gI xs j).2)))]) Try.func55 (.tmp rfl .nil) ?_
  have e0:(decide (((gI xs i).2)<((gI xs j).2)):Bool)=(decide (cf (gI xs i) (gI xs j))):=by
    (rw[decide_eq_decide];unfold cf;omega)
  replace bH:=bH.cn ch1
  replace bH:=bH.cn hc6
  exact⟨(congrArg (a₁:=decide (((gI xs i).2)<((gI xs j).2))) (λ(z0:Bool)=>Ending.returned (vb z0)) e0),bH.below⟩
 refine aE (wn (df q30)) (aE (wn (df q30)) (aE (wn (df q30)) (aE (wn (df q30)) (aE (wn (df q30)) (aE (wn (df q30)) (aE (wn (df q30)) (aE (wn (df q30)) (aE (wn (df q30)) (aE (wn (df q30)) ?_)))))))))
 refine aE (wn (df q30)) (aQ (v:=vb false) (wy (df q18)) (λw' hw'=>aH rfl (df q30) rfl) (qv (vb false) (λw' hw'=>aH rfl (df q18) rfl) (qv (vb false) (λw' hw'=>bD rfl) (bX ?_))))
 intro w7 hc8
 replace hc8:=aB hc8 c0
 refine aF (vs:=[vb false]) Try.func55 (.tmp rfl .nil) ?_
 have e0:(false:Bool)=(decide (cf (gI xs i) (gI xs j))):=by
   exact(df (by unfold cf;omega)).symm
 replace bH:=bH.cn ch1
 replace bH:=bH.cn hc8
 exact⟨rb e0,bH.below⟩
end TL
