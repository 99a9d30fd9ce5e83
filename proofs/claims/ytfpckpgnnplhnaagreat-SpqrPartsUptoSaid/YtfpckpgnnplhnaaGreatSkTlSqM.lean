import Derived.Test.YtfpckpgnnplhnaaGreatSkTlSqK
import Derived.Test.YtfpckpgnnplhnaaGreatSkTlSqL
import Derived.Test.YtfpckpgnnplhnaaGreatSkTlSqA2
import Derived.Test.YtfpckpgnnplhnaaGreatSkTlGenA
import Derived.Test.YtfpckpgnnplhnaaGreatSkTlAli
set_option linter.all false
set_option maxRecDepth 20000
namespace TL
open Go Go.Proofs
theorem vy:Tryz.f10.body.isNone=false:=rfl
theorem wM:(Tryz.f10.name== "runtime.NumGoroutine")=false:=by decide+kernel
theorem oP:Tryz.f14.body.isNone=false:=rfl
theorem qq:(Tryz.f14.name== "runtime.NumGoroutine")=false:=by decide+kernel
theorem pG:Tryz.f19.body.isNone=false:=rfl
theorem pK:(Tryz.f19.name== "runtime.NumGoroutine")=false:=by decide+kernel
theorem nR(w0:World):
    Calls Tryz.prog 19 #[] w0 (λee w=>∃xx:aw×Value,ee= .returned ((λ⟨δ,rv0⟩=>vg [vi aY.1,rv0]) xx)/\(λ(⟨δ,rv0⟩:aw×Value) (w:World)=>dU w0 δ w/\Ow δ (is 1) (is 1) w rv0 aY.2) xx w):=by
 refine ap Tryz.func19 rfl nq ?_
 have bH:=b6.start w0
 refine a7 (a6 rfl (cN rfl (bi c0 (is 1) (1,0) rfl aX ?_)))
 intro g4 w1 b3 ch2 bx5
 refine ab (a7 (a6 rfl (lw (vg [vi 0,vi 1]) (bh (vs:=[(0,vi 0),(1,vi 1)]) rfl (by kernel_rfl)) (lw (vg [vi 1,vi 2]) (bh (vs:=[(0,vi 1),(1,vi 2)]) rfl (by kernel_rfl)) (lw (vg [vi 2,vi 3]) (bh (vs:=[(0,vi 2),(1,vi 3)]) rfl (by kernel_rfl)) (lw (vg [vi 3,vi 0]) (bh (vs:=[(0,vi 3),(1,vi 0)]) rfl (by kernel_rfl)) (lw (vg [vi 0,vi 2]) (bh (vs:=[(0,vi 0),(1,vi 2)]) rfl (by kernel_rfl)) (lo ?_))))))))
 refine ar (α:=Pt) g4 (is 2) (is 2) (2,0) rfl [(0,1),(1,2),(2,3),(3,0),(0,2)] eR bx (by decide) (by decide) (vs:=[(0,vg [vi 0,vi 1]),(1,vg [vi 1,vi 2]),(2,vg [vi 2,vi 3]),(3,vg [vi 3,vi 0]),(4,vg [vi 0,vi 2])]) rfl rfl (.cons rfl (.cons rfl (.cons rfl (.cons rfl (.cons rfl .nil))))) ?_
 intro g6 w7 v8 ch9 o10
 refine lw (vg [vi 4,v8]) (bh (vs:=[(0,vi 4),(1,v8)]) rfl (by rw[Sl.form o10.flat];kernel_rfl)) (lo ?_)
 replace bx5:=bx5.cn ch9
 refine ax (cs':=[vi 4,v8]) aX rfl rfl bx5 rfl nq (AllOne.all (.cons rfl (.cons (aG o10.flat) .nil))) rfl ?_
 intro w11 ch12 bx13
 clear bx5
 refine ab (au (vs:=[vg [vi 4,v8]]) Tryz.func19 (.cell rfl (cy (ds:=[vi 4,v8]) aX bx13 rfl rfl) .nil) ?_)
 have C14:=cg [1] (ch2.n.seq (ch9.n.seq (ch12.l rfl)))
 replace bH:=bH.ca C14
 replace o10:=o10.ce ch12
 have e0:((4,[(0,1),(1,2),(2,3),(3,0),(0,2)]):(Int)×(List Pt))=(aY):=by
   rfl
 exact⟨(fin w0 g6 (λn=>if n=2 then 1 else 0),v8),(congrArg (a₁:=(4,[(0,1),(1,2),(2,3),(3,0),(0,2)])) (λ(z0:(Int)×(List Pt))=>Ending.returned (vg [vi z0.1,v8])) e0),bH.fresh _,((congrArg (λ(z:(Int)×(List Pt))=>z.2) e0)▸(o10.glue (γ:=c0) (ren:=(λn=>if n=2 then 1 else 0)) (k:=1) bH.col rfl rfl))⟩
attribute [local irreducible] cP da dF
set_option maxHeartbeats 8000000 in
theorem tz(w0:World):
    Calls Tryz.prog 5 #[] w0 (λee w=>ee= .returned (vb true)/\eJ w0.heap.size w0 w):=by
 refine ap Tryz.func5 rfl nq ?_
 have bH:=b6.start w0
 obtain⟨hb1,hb2,hb3,hb4,hb5,hb6⟩:=tF
 have hb7:=x6
 have hb8:=xR
 obtain⟨hb9,hb10,hb11⟩:=u3
 refine a7 (a6 rfl (ma (vb false) (ab (a7 (a6 rfl (cN rfl (bE (aH (vals:=[]) Tryz.func19 pG pK rfl) (nR w0) ?_)))))))
 rintro⟨d2,v4⟩ w1 ⟨fr3,o5⟩
 obtain⟨g6,ch7,G6⟩:=i8 c0 fr3 (λn=>if n=1 then 1 else 0)
 replace o5:=o5.gl G6 1
 refine lo (bE (aH (vals:=[vg [vi aY.1,v4]]) Tryz.func18 oL pY rfl) (xY w1 aY v4 (o5.flat).ro (by exact λ_ _ _=>hb1)) ?_)
 rintro⟨d9,v11⟩ w8 ⟨fr10,o12⟩
 obtain⟨g13,ch14,G13⟩:=i8 g6 fr10 (λn=>if n=1 then 2 else 0)
 replace o12:=o12.gl G13 2
 refine mv (vt [v11,vi ((cP aY).2)]) (lx (aJ rfl rfl) (lx (aJ rfl rfl) (ma v11 (ai ((cP aY).2) (ab (a7 ?_))))))
 clear o5
 refine a6 rfl (cN rfl (bE (aH (vals:=[]) Tryz.func19 pG pK rfl) (nR w8) ?_))
 rintro⟨d16,v18⟩ w15 ⟨fr17,o19⟩
 obtain⟨g20,ch21,G20⟩:=i8 g13 fr17 (λn=>if n=1 then 3 else 0)
 replace o19:=o19.gl G20 3
 refine lo (bV (v:=vt [vi ((da aY).1),vi ((da aY).2.1),vi ((da aY).2.2.1),vi ((da aY).2.2.2)]) (aH (vals:=[vg [vi aY.1,v18]]) Tryz.func10 vy wM rfl) (wv w15 aY v18 (o19.flat).ro (by exact λ_ _ _=>hb1) (by exact vK)) ?_)
 intro w22 hb23
 replace hb23:=aN hb23 g20
 refine mv (vt [vi ((da aY).1),vi ((da aY).2.1),vi ((da aY).2.2.1),vi ((da aY).2.2.2)]) (lx (aJ rfl rfl) (lx (aJ rfl rfl) (lx (aJ rfl rfl) (lx (aJ rfl rfl) (ai ((da aY).1) (ai ((da aY).2.1) (ai ((da aY).2.2.1) (ai ((da aY).2.2.2) (ab (a7 (a7 ?_)))))))))))
 clear o19
 refine a6 rfl (mv v11 ?_)
 replace o12:=(o12.cn ch21).cn hb23
 have len24:=(o12.sl).small
 refine lx (bp eb rfl o12.sl) (lx (dq (m:=(List.length ((cP aY).1):Int)) (n:=3) rfl rfl) (mv (vb (!(decide ((List.length ((cP aY).1):Int)=3)))) ?_))
 have q24:(List.length ((cP aY).1):Int)=3:=by exact hb7
 refine lv (vi ((cP aY).2)) (wy (congrArg Bool.not (dt q24))) (aq rfl) (lv (vb (!(decide (((cP aY).2)=0)))) (wy (congrArg Bool.not (dt q24))) (dq (m:=(cP aY).2) (n:=0) rfl rfl) (lw (vb (!(decide (((cP aY).2)=0)))) (bt rfl (congrArg Bool.not (dt q24)) rfl) (mv (vb (!(decide (((cP aY).2)=0)))) ?_)))
 have q28:((cP aY).2)=0:=by exact hb2
 refine lv (vi ((da aY).1)) (wy (congrArg Bool.not (dt q28))) (aq rfl) (lv (vb (!(decide (((da aY).1)=2)))) (wy (congrArg Bool.not (dt q28))) (dq (m:=(da aY).1) (n:=2) rfl rfl) (lw (vb (!(decide (((da aY).1)=2)))) (bt rfl (congrArg Bool.not (dt q28)) rfl) (mv (vb (!(decide (((da aY).1)=2)))) ?_)))
 have q32:((da aY).1)=2:=by exact hb3
 refine lv (vi ((da aY).2.1)) (wy (congrArg Bool.not (dt q32))) (aq rfl) (lv (vb (!(decide (((da aY).2.1)=1)))) (wy (congrArg Bool.not (dt q32))) (dq (m:=(da aY).2.1) (n:=1) rfl rfl) (lw (vb (!(decide (((da aY).2.1)=1)))) (bt rfl (congrArg Bool.not (dt q32)) rfl) (mv (vb (!(decide (((da aY).2.1)=1)))) ?_)))
 have q36:((da aY).2.1)=1:=by exact hb4
 refine lv (vi ((da aY).2.2.1)) (wy (congrArg Bool.not (dt q36))) (aq rfl) (lv (vb (!(decide (((da aY).2.2.1)=0)))) (wy (congrArg Bool.not (dt q36))) (dq (m:=(da aY).2.2.1) (n:=0) rfl rfl) (lw (vb (!(decide (((da aY).2.2.1)=0)))) (bt rfl (congrArg Bool.not (dt q36)) rfl) (mv (vb (!(decide (((da aY).2.2.1)=0)))) ?_)))
 have q40:((da aY).2.2.1)=0:=by exact hb5
 refine lv (vi ((da aY).2.2.2)) (wy (congrArg Bool.not (dt q40))) (aq rfl) (lv (vb (!(decide (((da aY).2.2.2)=0)))) (wy (congrArg Bool.not (dt q40))) (dq (m:=(da aY).2.2.2) (n:=0) rfl rfl) (lw (vb (!(decide (((da aY).2.2.2)=0)))) (bt rfl (congrArg Bool.not (dt q40)) rfl) (ab ?_)))
 have p3:((da aY).2.2.2)=0:=by exact hb6
 refine ag rfl (congrArg Bool.not (dt p3)) (ao (a7 (a6 rfl (mv v11 (lo (bE (aH (vals:=[v11,vi 1]) Tryz.func14 oP qq rfl) (rL w22 ((cP aY).1) v11 (o12.sl).ro 1 (by(rw[hb7];decide)) (by exact yh)) ?_))))))
 rintro⟨d26,v28⟩ w25 ⟨fr27,o29⟩
 obtain⟨g30,ch31,G30⟩:=i8 g20 fr27 (λn=>if n=1 then 4 else 0)
 replace o29:=o29.gl G30 4
 refine mv (vt [vg [vi (((dF ((cP aY).1) 1).1).1),v28],vi ((dF ((cP aY).1) 1).2)]) (lx (aJ rfl rfl) (lx (aJ rfl rfl) (lo (bi g30 (is 5) (5,0) rfl aX ?_))))
 intro g35 w32 b34 ch33 bx36
 refine lo ?_
 replace o29:=o29.cn ch33
 refine ax (cs':=[vi (((dF ((cP aY).1) 1).1).1),v28]) aX rfl rfl bx36 rfl nq (AllOne.all (.cons rfl (.cons (aG o29.flat) .nil))) rfl ?_
 intro w37 ch38 bx39
 clear bx36
 refine ai ((dF ((cP aY).1) 1).2) (ab (a7 (a6 rfl (mv v11 ?_))))
 have C40:=cg [5] (ch31.n.seq (ch33.n.seq (ch38.l rfl)))
 replace o12:=o12.ca C40
 refine lx (ad (v:=v11) (i:=1) eb rfl rfl o12.sl rfl (by omega) (by omega)) (lw (Value.pointer (some ⟨(aB v11 3 (Int.toNat 1)).block,(aB v11 3 (Int.toNat 1)).off+0,none⟩)) (aI fK rfl rfl rfl rfl) ?_)
 obtain⟨v41,v42,ce43,⟨r44,r45⟩,bl46⟩:=eQ (r:=1) o12.sl (by omega) (by omega)
 refine lw (vi ((gI ((cP aY).1) 1).1)) (bg (n:=(Int.toNat 1)) ah rfl ce43 (by decide) rfl) (lx (dA (m:=(gI ((cP aY).1) 1).1) (n:=2) rfl rfl) (mv (vb (decide (((gI ((cP aY).1) 1).1)=2))) ?_))
 have q54:((gI ((cP aY).1) 1).1)=2:=by exact hb8
 refine lv (vp b34 0) (wy (dt q54)) (aa ea rfl rfl rfl rfl) (lv (vi (((dF ((cP aY).1) 1).1).1)) (wy (dt q54)) (a8 ah rfl bx39 rfl) (lv (vb (decide ((((dF ((cP aY).1) 1).1).1)=2))) (wy (dt q54)) (dA (m:=((dF ((cP aY).1) 1).1).1) (n:=2) rfl rfl) (lw (vb (decide ((((dF ((cP aY).1) 1).1).1)=2))) (bj rfl (dt q54) rfl) (mv (vb (decide ((((dF ((cP aY).1) 1).1).1)=2))) ?_))))
 have q59:(((dF ((cP aY).1) 1).1).1)=2:=by exact hb9
 refine lv (vp b34 1) (wy (dt q59)) (aa ea rfl rfl rfl rfl) (lv (v28) (wy (dt q59)) (a8 bR rfl bx39 rfl) ?_)
 replace o29:=o29.ce ch38
 have len47:=(o29.flat).small
 refine lv (vi (List.length (((dF ((cP aY).1) 1).1).2):Int)) (wy (dt q59)) (bp eR rfl o29.flat) (lv (vb (decide ((List.length (((dF ((cP aY).1) 1).1).2):Int)=3))) (wy (dt q59)) (dA (m:=(List.length (((dF ((cP aY).1) 1).1).2):Int)) (n:=3) rfl rfl) (lw (vb (decide ((List.length (((dF ((cP aY).1) 1).1).2):Int)=3))) (bj rfl (dt q59) rfl) (mv (vb (decide ((List.length (((dF ((cP aY).1) 1).1).2):Int)=3))) ?_)))
 have q65:(List.length (((dF ((cP aY).1) 1).1).2):Int)=3:=by exact hb10
 refine lv (vi ((dF ((cP aY).1) 1).2)) (wy (dt q65)) (aq rfl) (lv (vb (decide (((dF ((cP aY).1) 1).2)=0))) (wy (dt q65)) (dA (m:=(dF ((cP aY).1) 1).2) (n:=0) rfl rfl) (lw (vb (decide (((dF ((cP aY).1) 1).2)=0))) (bj rfl (dt q65) rfl) (ma (vb (decide (((dF ((cP aY).1) 1).2)=0))) (ab (au (vs:=[vb (decide (((dF ((cP aY).1) 1).2)=0))]) Tryz.func5 (.tmp rfl .nil) ?_)))))
 have e0:(decide (((dF ((cP aY).1) 1).2)=0):Bool)=(true):=by
   exact dt hb11
 have C48:=cg [5] (ch7.n.seq (ch14.n.seq (ch21.n.seq (hb23.n.seq (ch31.n.seq (ch33.n.seq (ch38.l rfl)))))))
 replace bH:=bH.ca C48
 exact⟨(congrArg (a₁:=decide (((dF ((cP aY).1) 1).2)=0)) (λ(z0:Bool)=>Ending.returned (vb z0)) e0),bH.below⟩
end TL
