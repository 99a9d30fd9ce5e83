import Derived.Test.YtmaclbnodbcniaaFxTlP3
import Derived.Test.YtmaclbnodbcniaaFxTlFwA
import Derived.Test.YtmaclbnodbcniaaProg
import Derived.Test.YtmaclbnodbcniaaFxTlAli
set_option linter.all false
set_option maxRecDepth 20000
namespace TL
open Go Go.Proofs
theorem nS:Try.prog.follows .mixedOrders=true:=by kernel_rfl
theorem eR(w0:World)(xs:List Pt)(xs_v:Value)(hxs_v:Ro w0 xs_v xs):
    Calls Try.prog 33 #[xs_v] w0 (λee w=>ee= .returned (vi (xs.length:Int))/\dk w0.heap.size w0 w):=by
 refine ay Try.func33 rfl nq ?_
 have bH:=aT.start w0
 have Rxs:=hxs_v.sl
 refine a9 (a6 rfl (ai 0 (af (a9 (a6 rfl (mv xs_v ?_))))))
 have len1:=(Rxs).small
 refine lx (br dd rfl Rxs) (ai (xs.length:Int) (af (aF (vs:=[vi (xs.length:Int)]) Try.func33 (.tmp rfl .nil) ?_)))
 have e0:((xs.length:Int):Int)=((xs.length:Int)):=by
   rfl
 exact⟨ri e0,bH.below⟩
theorem cW(w0:World)(xs:List Pt)(xs_v:Value)(hxs_v:Ro w0 xs_v xs)(i:Int)(j:Int)(hi:0<=i/\i<(xs.length:Int))(hj:0<=j/\j<(xs.length:Int)):
    Calls Try.prog 55 #[xs_v,vi i,vi j] w0 (λee w=>ee= .returned (vb (decide (bV (gI xs i) (gI xs j))))/\dk w0.heap.size w0 w):=by
 refine ay Try.func55 rfl nq ?_
 have bH:=aT.start w0
 have Rxs:=hxs_v.sl
 obtain⟨hi0,hi1⟩:=hi
 obtain⟨hj0,hj1⟩:=hj
 refine a9 (a6 rfl (ma (vb false) (af (a9 (bP c0 rfl nS (by kernel_rfl) ?_)))))
 intro w2 ch1
 refine qm xs_v (qm (vi i) ?_)
 replace Rxs:=Rxs.cn ch1
 refine qx (λw' hw'=>aa (v:=xs_v) (i:=i) dd rfl rfl (Rxs.bel hw') rfl (by omega) (by omega)) (qv (Value.pointer (some ⟨(aN xs_v 2 (Int.toNat i)).block,(aN xs_v 2 (Int.toNat i)).off+0,none⟩)) (λw' hw'=>aH gX rfl rfl rfl rfl) (qx (λw' hw'=>ba (v:=xs_v) (i:=i) ag rfl (Rxs.bel hw') (by omega) (by omega) (by decide) rfl) (qm xs_v (qm (vi j) (qx (λw' hw'=>aa (v:=xs_v) (i:=j) dd rfl rfl (Rxs.bel hw') rfl (by omega) (by omega)) (qv (Value.pointer (some ⟨(aN xs_v 2 (Int.toNat j)).block,(aN xs_v 2 (Int.toNat j)).off+0,none⟩)) (λw' hw'=>aH gX rfl rfl rfl rfl) (qx (λw' hw'=>ba (v:=xs_v) (i:=j) ag rfl (Rxs.bel hw') (by omega) (by omega) (by decide) rfl) ?_)))))))
 refine qx (λw' hw'=>bz (m:=(gI xs i).1) (n:=(gI xs j).1) rfl rfl) (qm (vb (decide (((gI xs i).1)<((gI xs j).1)))) ?_)
 by_cases q18:((gI xs i).1)<((gI xs j).1)
 ·
  refine aI (wn (dt q18)) (aI (wn (dt q18)) (aI (wn (dt q18)) (aI (wn (dt q18)) (aI (wn (dt q18)) (aI (wn (dt q18)) (aI (wn (dt q18)) (aI (wn (dt q18)) (aI (wn (dt q18)) (aI (wn (dt q18)) ?_)))))))))
  refine aI (wn (dt q18)) (aI (wn (dt q18)) (aI (bB rfl rfl rfl) (aI (bB rfl rfl rfl) (aI (bB rfl rfl rfl) (aI (bB rfl rfl rfl) (aI (bB rfl rfl rfl) (aI (bB rfl rfl rfl) (aI (bB rfl rfl rfl) (aI (bB rfl rfl rfl) ?_)))))))))
  refine aI (bB rfl rfl rfl) (aI (bB rfl rfl rfl) (aI (bB rfl rfl rfl) (aI (wn (dt q18)) (qv (vb true) (λw' hw'=>aw rfl (dt q18) rfl) (qv (vb true) (λw' hw'=>bJ rfl) (cv ?_))))))
  intro w3 hc4
  replace hc4:=aE hc4 c0
  refine aF (vs:=[vb true]) Try.func55 (.tmp rfl .nil) ?_
  have e0:(true:Bool)=(decide (bV (gI xs i) (gI xs j))):=by
    exact(dt (by unfold bV;omega)).symm
  replace bH:=bH.cn ch1
  replace bH:=bH.cn hc4
  exact⟨rb e0,bH.below⟩
 refine b7 (v:=xs_v) (wy (df q18)) (λw' hw'=>ah rfl) (b7 (v:=vi i) (wy (df q18)) (λw' hw'=>ah rfl) (b7 (v:=Value.pointer (some (aN xs_v 2 (Int.toNat i)))) (wy (df q18)) (λw' hw'=>aa (α:=Pt) (xs:=xs) (v:=xs_v) (i:=i) dd rfl rfl (Rxs.bel hw') rfl (by omega) (by omega)) (b7 (v:=Value.pointer (some ⟨(aN xs_v 2 (Int.toNat i)).block,(aN xs_v 2 (Int.toNat i)).off+0,none⟩)) (wy (df q18)) (λw' hw'=>aH gX rfl rfl rfl rfl) ?_)))
 refine b7 (v:=vi ((gI xs i).1)) (wy (df q18)) (λw' hw'=>ba (α:=Pt) (xs:=xs) (v:=xs_v) (i:=i) ag rfl (Rxs.bel hw') (by omega) (by omega) (by decide) rfl) (b7 (v:=xs_v) (wy (df q18)) (λw' hw'=>ah rfl) (b7 (v:=vi j) (wy (df q18)) (λw' hw'=>ah rfl) (b7 (v:=Value.pointer (some (aN xs_v 2 (Int.toNat j)))) (wy (df q18)) (λw' hw'=>aa (α:=Pt) (xs:=xs) (v:=xs_v) (i:=j) dd rfl rfl (Rxs.bel hw') rfl (by omega) (by omega)) ?_)))
 refine b7 (v:=Value.pointer (some ⟨(aN xs_v 2 (Int.toNat j)).block,(aN xs_v 2 (Int.toNat j)).off+0,none⟩)) (wy (df q18)) (λw' hw'=>aH gX rfl rfl rfl rfl) (b7 (v:=vi ((gI xs j).1)) (wy (df q18)) (λw' hw'=>ba (α:=Pt) (xs:=xs) (v:=xs_v) (i:=j) ag rfl (Rxs.bel hw') (by omega) (by omega) (by decide) rfl) (b7 (v:=vb (decide (((gI xs i).1)=((gI xs j).1)))) (wy (df q18)) (λw' hw'=>cM (m:=(gI xs i).1) (n:=(gI xs j).1) rfl rfl) (b7 (v:=vb (decide (((gI xs i).1)=((gI xs j).1)))) (wy (df q18)) (λw' hw'=>ah rfl) ?_)))
 by_cases q30:((gI xs i).1)=((gI xs j).1)
 ·
  refine b7 (v:=xs_v) (wy (dt q30)) (λw' hw'=>ah rfl) (b7 (v:=vi i) (wy (dt q30)) (λw' hw'=>ah rfl) (b7 (v:=Value.pointer (some (aN xs_v 2 (Int.toNat i)))) (wy (dt q30)) (λw' hw'=>aa (α:=Pt) (xs:=xs) (v:=xs_v) (i:=i) dd rfl rfl (Rxs.bel hw') rfl (by omega) (by omega)) (b7 (v:=Value.pointer (some ⟨(aN xs_v 2 (Int.toNat i)).block,(aN xs_v 2 (Int.toNat i)).off+1,none⟩)) (wy (dt q30)) (λw' hw'=>aH gX rfl rfl rfl rfl) ?_)))
  refine b7 (v:=vi ((gI xs i).2)) (wy (dt q30)) (λw' hw'=>ba (α:=Pt) (xs:=xs) (v:=xs_v) (i:=i) ag rfl (Rxs.bel hw') (by omega) (by omega) (by decide) rfl) (b7 (v:=xs_v) (wy (dt q30)) (λw' hw'=>ah rfl) (b7 (v:=vi j) (wy (dt q30)) (λw' hw'=>ah rfl) (b7 (v:=Value.pointer (some (aN xs_v 2 (Int.toNat j)))) (wy (dt q30)) (λw' hw'=>aa (α:=Pt) (xs:=xs) (v:=xs_v) (i:=j) dd rfl rfl (Rxs.bel hw') rfl (by omega) (by omega)) ?_)))
  refine b7 (v:=Value.pointer (some ⟨(aN xs_v 2 (Int.toNat j)).block,(aN xs_v 2 (Int.toNat j)).off+1,none⟩)) (wy (dt q30)) (λw' hw'=>aH gX rfl rfl rfl rfl) (b7 (v:=vi ((gI xs j).2)) (wy (dt q30)) (λw' hw'=>ba (α:=Pt) (xs:=xs) (v:=xs_v) (i:=j) ag rfl (Rxs.bel hw') (by omega) (by omega) (by decide) rfl) (b7 (v:=vb (decide (((gI xs i).2)<((gI xs j).2)))) (wy (dt q30)) (λw' hw'=>bz (m:=(gI xs i).2) (n:=(gI xs j).2) rfl rfl) (b7 (v:=vb (decide (((gI xs i).2)<((gI xs j).2)))) (wy (df q18)) (λw' hw'=>aw rfl (dt q30) rfl) ?_)))
  refine qv (vb (decide (((gI xs i).2)<((gI xs j).2)))) (λw' hw'=>aK rfl (df q18) rfl) (qv (vb (decide (((gI xs i).2)<((gI xs j).2)))) (λw' hw'=>bJ rfl) (cv ?_))
  intro w5 hc6
  replace hc6:=aE hc6 c0
  refine aF (vs:=[vb (decide (((gI xs i).2)<((gI xs j).2)))]) Try.func55 (.tmp rfl .nil) ?_
  have e0:(decide (((gI xs i).2)<((gI xs j).2)):Bool)=(decide (bV (gI xs i) (gI xs j))):=by
    (rw[decide_eq_decide];unfold bV;omega)
  replace bH:=bH.cn ch1
  replace bH:=bH.cn hc6
  exact⟨(congrArg (a₁:=decide (((gI xs i).2)<((gI xs j).2))) (λ(z0:Bool)=>Ending.returned (vb z0)) e0),bH.below⟩
 refine aI (wn (df q30)) (aI (wn (df q30)) (aI (wn (df q30)) (aI (wn (df q30)) (aI (wn (df q30)) (aI (wn (df q30)) (aI (wn (df q30)) (aI (wn (df q30)) (aI (wn (df q30)) (aI (wn (df q30)) ?_)))))))))
 refine aI (wn (df q30)) (b7 (v:=vb false) (wy (df q18)) (λw' hw'=>aK rfl (df q30) rfl) (qv (vb false) (λw' hw'=>aK rfl (df q18) rfl) (qv (vb false) (λw' hw'=>bJ rfl) (cv ?_))))
 intro w7 hc8
 replace hc8:=aE hc8 c0
 refine aF (vs:=[vb false]) Try.func55 (.tmp rfl .nil) ?_
 have e0:(false:Bool)=(decide (bV (gI xs i) (gI xs j))):=by
   exact(df (by unfold bV;omega)).symm
 replace bH:=bH.cn ch1
 replace bH:=bH.cn hc8
 exact⟨rb e0,bH.below⟩
end TL
