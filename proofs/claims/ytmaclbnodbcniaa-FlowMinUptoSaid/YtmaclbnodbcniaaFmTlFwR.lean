import Derived.Test.YtmaclbnodbcniaaFmTlP3
import Derived.Test.YtmaclbnodbcniaaFmTlFwA
import Derived.Test.YtmaclbnodbcniaaProg
import Derived.Test.YtmaclbnodbcniaaFmTlAli
set_option linter.all false
set_option maxRecDepth 20000
namespace TL
open Go Go.Proofs
theorem oI:Try.prog.follows .mixedOrders=true:=by kernel_rfl
theorem aY:Tp Try.prog 53 false 1 24 (.slice none 0 0):=Tp.of (by kernel_rfl)
theorem dO(w0:World)(p_b:Nat)(p0_v:Value)(RW:List bq)(hp0_v:Ro w0 p0_v RW)(p1_v:Value)(p2_v:Value)(RP:List Int)(hp2_v:Ro w0 p2_v RP)(p3_v:Value)(p4_v:Value)(p5_v:Value)(p6_v:Value)(p7_v:Value)(p8_v:Value)(hp_b:Bx c0 (is 0) w0 p_b [p0_v,p1_v,p2_v,p3_v,p4_v,p5_v,p6_v,p7_v,p8_v])(vRd:Int)(wRd:Int)(hr0:0<=wRd/\wRd<(RW.length:Int))(hr1:0<=vRd/\vRd<(RP.length:Int))(hr2:0<=(gI RW wRd).1/\(gI RW wRd).1<(RP.length:Int))(hr3: -1048576<=(gI RW wRd).2.2/\(gI RW wRd).2.2<=1048576)(hr4:0<=gI RP vRd/\gI RP vRd<=1099511627776)(hr5:0<=gI RP (gI RW wRd).1/\gI RP (gI RW wRd).1<=1099511627776):
    Calls Try.prog 35 #[vp p_b 0,vi vRd,vi wRd] w0 (λee w=>ee= .returned (vi ((gI RW wRd).2.2+gI RP vRd-gI RP (gI RW wRd).1))/\dC w0.heap.size w0 w):=by
 refine aC Try.func35 rfl nq ?_
 have bH:=b9.start w0
 have Rp0:=hp0_v.sl
 have Rp2:=hp2_v.sl
 obtain⟨hr00,hr01⟩:=hr0
 obtain⟨hr10,hr11⟩:=hr1
 obtain⟨hr20,hr21⟩:=hr2
 refine a9 (a6 rfl (ai 0 (af (a9 (bt c0 rfl oI (by kernel_rfl) ?_)))))
 intro w2 ch1
 refine qm (vp p_b 0) (qv (vp p_b 0) (λw' hw'=>ad rfl) (qx (λw' hw'=>a7 bB rfl rfl rfl rfl) ?_))
 replace hp_b:=hp_b.cn ch1
 refine qx (λw' hw'=>a8 aY rfl (hp_b.bel hw') rfl) (qm (vi wRd) ?_)
 replace Rp0:=Rp0.cn ch1
 refine qx (λw' hw'=>aa (v:=p0_v) (i:=wRd) cZ rfl rfl (Rp0.bel hw') rfl (by omega) (by omega)) (qv (Value.pointer (some ⟨(aT p0_v 3 (Int.toNat wRd)).block,(aT p0_v 3 (Int.toNat wRd)).off+2,none⟩)) (λw' hw'=>aO ir rfl rfl rfl rfl) (qx (λw' hw'=>bi (v:=p0_v) (i:=wRd) ae rfl (Rp0.bel hw') (by omega) (by omega) (by decide) rfl) (qm (vp p_b 0) (qv (vp p_b 0) (λw' hw'=>ad rfl) (qx (λw' hw'=>a7 bB rfl rfl rfl rfl) (qx (λw' hw'=>a8 ao rfl (hp_b.bel hw') rfl) (qm (vi vRd) ?_)))))))
 replace Rp2:=Rp2.cn ch1
 refine qx (λw' hw'=>aa (v:=p2_v) (i:=vRd) aW rfl rfl (Rp2.bel hw') rfl (by omega) (by omega)) (qx (λw' hw'=>ay (v:=p2_v) (i:=vRd) ae rfl (Rp2.bel hw') (by omega) (by omega) (by decide) rfl) (qx (λw' hw'=>aP (m:=((gI RW wRd).2).2) (n:=(gI RP vRd)) rfl rfl (by omega)) (qm (vp p_b 0) (qv (vp p_b 0) (λw' hw'=>ad rfl) (qx (λw' hw'=>a7 bB rfl rfl rfl rfl) (qx (λw' hw'=>a8 ao rfl (hp_b.bel hw') rfl) (qm (vp p_b 0) (qv (vp p_b 0) (λw' hw'=>ad rfl) (qx (λw' hw'=>a7 bB rfl rfl rfl rfl) ?_)))))))))
 refine qx (λw' hw'=>a8 aY rfl (hp_b.bel hw') rfl) (qm (vi wRd) (qx (λw' hw'=>aa (v:=p0_v) (i:=wRd) cZ rfl rfl (Rp0.bel hw') rfl (by omega) (by omega)) (qv (Value.pointer (some ⟨(aT p0_v 3 (Int.toNat wRd)).block,(aT p0_v 3 (Int.toNat wRd)).off+0,none⟩)) (λw' hw'=>aO ir rfl rfl rfl rfl) (qx (λw' hw'=>bi (v:=p0_v) (i:=wRd) ae rfl (Rp0.bel hw') (by omega) (by omega) (by decide) rfl) (qx (λw' hw'=>aa (v:=p2_v) (i:=(gI RW wRd).1) aW rfl rfl (Rp2.bel hw') rfl (by omega) (by omega)) (qx (λw' hw'=>ay (v:=p2_v) (i:=(gI RW wRd).1) ae rfl (Rp2.bel hw') (by omega) (by omega) (by decide) rfl) (qx (λw' hw'=>cV (m:=(((gI RW wRd).2).2)+(gI RP vRd)) (n:=(gI RP ((gI RW wRd).1))) rfl rfl (by omega)) ?_)))))))
 refine qv (vi (((((gI RW wRd).2).2)+(gI RP vRd))-(gI RP ((gI RW wRd).1)))) (λw' hw'=>bD rfl) (bX ?_)
 intro w3 hc4
 replace hc4:=aB hc4 c0
 refine aF (vs:=[vi (((((gI RW wRd).2).2)+(gI RP vRd))-(gI RP ((gI RW wRd).1)))]) Try.func35 (.tmp rfl .nil) ?_
 have e0:(((((gI RW wRd).2).2)+(gI RP vRd))-(gI RP ((gI RW wRd).1)):Int)=((gI RW wRd).2.2+gI RP vRd-gI RP (gI RW wRd).1):=by
   rfl
 replace bH:=bH.cn ch1
 replace bH:=bH.cn hc4
 exact⟨(congrArg (a₁:=((((gI RW wRd).2).2)+(gI RP vRd))-(gI RP ((gI RW wRd).1))) (λ(z0:Int)=>Ending.returned (vi z0)) e0),bH.below⟩
end TL
