import Derived.Test.YtfpckpgnnplhnaaGreatSwTlSqK
import Derived.Test.YtfpckpgnnplhnaaGreatSwTlSqL
import Derived.Test.YtfpckpgnnplhnaaGreatSwTlSqA2
import Derived.Test.YtfpckpgnnplhnaaGreatSwTlGenA
import Derived.Test.YtfpckpgnnplhnaaGreatSwTlAli
set_option linter.all false
set_option maxRecDepth 20000
namespace TL
open Go Go.Proofs
theorem iA:Tryz.f10.body.isNone=false:=rfl
theorem iv:(Tryz.f10.name== "runtime.NumGoroutine")=false:=by decide+kernel
theorem yl:Tryz.f14.body.isNone=false:=rfl
theorem AM:(Tryz.f14.name== "runtime.NumGoroutine")=false:=by decide+kernel
theorem rd:Tryz.f19.body.isNone=false:=rfl
theorem qS:(Tryz.f19.name== "runtime.NumGoroutine")=false:=by decide+kernel
theorem oG(w0:World):
    Calls Tryz.prog 19 #[] w0 (λee w=>∃xx:ax×Value,ee= .returned ((λ⟨δ,rv0⟩=>vg [vi b5.1,rv0]) xx)/\(λ(⟨δ,rv0⟩:ax×Value) (w:World)=>dz w0 δ w/\Ow δ (is 1) (is 1) w rv0 b5.2) xx w):=by
 refine ah Tryz.func19 rfl nq ?_
 have bH:=aW.start w0
 refine a7 (a6 rfl (cy rfl (aZ c0 (is 1) (1,0) rfl aK ?_)))
 intro g4 w1 b3 ch2 bx5
 refine ab (a7 (a6 rfl (lw (vg [vi 0,vi 1]) (bn (vs:=[(0,vi 0),(1,vi 1)]) rfl (by kernel_rfl)) (lw (vg [vi 1,vi 2]) (bn (vs:=[(0,vi 1),(1,vi 2)]) rfl (by kernel_rfl)) (lw (vg [vi 2,vi 3]) (bn (vs:=[(0,vi 2),(1,vi 3)]) rfl (by kernel_rfl)) (lw (vg [vi 3,vi 0]) (bn (vs:=[(0,vi 3),(1,vi 0)]) rfl (by kernel_rfl)) (lw (vg [vi 0,vi 2]) (bn (vs:=[(0,vi 0),(1,vi 2)]) rfl (by kernel_rfl)) (lo ?_))))))))
 refine aq (α:=Pt) g4 (is 2) (is 2) (2,0) rfl [(0,1),(1,2),(2,3),(3,0),(0,2)] eG bm (by decide) (by decide) (vs:=[(0,vg [vi 0,vi 1]),(1,vg [vi 1,vi 2]),(2,vg [vi 2,vi 3]),(3,vg [vi 3,vi 0]),(4,vg [vi 0,vi 2])]) rfl rfl (.cons rfl (.cons rfl (.cons rfl (.cons rfl (.cons rfl .nil))))) ?_
 intro g6 w7 v8 ch9 o10
 refine lw (vg [vi 4,v8]) (bn (vs:=[(0,vi 4),(1,v8)]) rfl (by rw[Sl.form o10.flat];kernel_rfl)) (lo ?_)
 refine aA (cs':=[vi 4,v8]) aK rfl rfl bx5.t rfl nq (AllOne.all (.cons rfl (.cons (aM o10.flat) .nil))) rfl ?_
 intro w11 ch12 bx13
 refine ab (az (vs:=[vg [vi 4,v8]]) Tryz.func19 (.cell rfl (cd (ds:=[vi 4,v8]) aK bx13 rfl rfl) .nil) ?_)
 have e0:((4,[(0,1),(1,2),(2,3),(3,0),(0,2)]):(Int)×(List Pt))=(b5):=by
   rfl
 exact⟨(fin w0 g6 (λn=>if n=2 then 1 else 0),v8),(congrArg (a₁:=(4,[(0,1),(1,2),(2,3),(3,0),(0,2)])) (λ(z0:(Int)×(List Pt))=>Ending.returned (vg [vi z0.1,v8])) e0),bH.t.fresh _,((congrArg (λ(z:(Int)×(List Pt))=>z.2) e0)▸(o10.t.glue (γ:=c0) (ren:=(λn=>if n=2 then 1 else 0)) (k:=1) bH.t.col rfl rfl))⟩
attribute [local irreducible] cQ aT i5
set_option maxHeartbeats 8000000 in
theorem uI(w0:World):
    Calls Tryz.prog 5 #[] w0 (λee w=>ee= .returned (vb true)/\eK w0.heap.size w0 w):=by
 refine ah Tryz.func5 rfl nq ?_
 have bH:=aW.start w0
 obtain⟨hb1,hb2,hb3,hb4,hb5,hb6⟩:=vC
 have hb7:=yg
 have hb8:=A4
 obtain⟨hb9,hb10,hb11⟩:=ug
 refine a7 (a6 rfl (ma (vb false) (ab (a7 (a6 rfl (cy rfl (bB (aB (vals:=[]) Tryz.func19 rd qS rfl) (oG w0) ?_)))))))
 rintro⟨d2,v4⟩ w1 ⟨fr3,o5⟩
 obtain⟨g6,ch7,G6⟩:=hU c0 fr3 (λn=>if n=1 then 1 else 0)
 replace o5:=o5.gl G6 1
 refine lo (bB (aB (vals:=[vg [vi b5.1,v4]]) Tryz.func18 rQ rz rfl) (yu w1 b5 v4 (o5.flat).ro (by exact λ_ _ _=>hb1)) ?_)
 rintro⟨d9,v11⟩ w8 ⟨fr10,o12⟩
 obtain⟨g13,ch14,G13⟩:=hU g6 fr10 (λn=>if n=1 then 2 else 0)
 replace o12:=o12.gl G13 2
 refine mv (vt [v11,vi ((cQ b5).2)]) (lx (ay rfl rfl) (lx (ay rfl rfl) (ma v11 (ai ((cQ b5).2) (ab (a7 ?_))))))
 refine a6 rfl (cy rfl (bB (aB (vals:=[]) Tryz.func19 rd qS rfl) (oG w8) ?_))
 rintro⟨d16,v18⟩ w15 ⟨fr17,o19⟩
 obtain⟨g20,ch21,G20⟩:=hU g13 fr17 (λn=>if n=1 then 3 else 0)
 replace o19:=o19.gl G20 3
 refine lo (bI (v:=vt [vi ((aT b5).1),vi ((aT b5).2.1),vi ((aT b5).2.2.1),vi ((aT b5).2.2.2)]) (aB (vals:=[vg [vi b5.1,v18]]) Tryz.func10 iA iv rfl) (iD w15 b5 v18 (o19.flat).ro (by exact λ_ _ _=>hb1) (by exact zu)) ?_)
 intro w22 hb23
 replace hb23:=aG hb23 g20
 refine mv (vt [vi ((aT b5).1),vi ((aT b5).2.1),vi ((aT b5).2.2.1),vi ((aT b5).2.2.2)]) (lx (ay rfl rfl) (lx (ay rfl rfl) (lx (ay rfl rfl) (lx (ay rfl rfl) (ai ((aT b5).1) (ai ((aT b5).2.1) (ai ((aT b5).2.2.1) (ai ((aT b5).2.2.2) (ab (a7 (a7 ?_)))))))))))
 refine a6 rfl (mv v11 ?_)
 have len24:=((o12.a hb23).sl).small
 refine lx (bG CT rfl o12.t.sl) (lx (du (m:=(List.length ((cQ b5).1):Int)) (n:=3) rfl rfl) (mv (vb (!(decide ((List.length ((cQ b5).1):Int)=3)))) ?_))
 have q24:(List.length ((cQ b5).1):Int)=3:=by exact hb7
 refine lv (vi ((cQ b5).2)) (wy (congrArg Bool.not (dt q24))) (ar rfl) (lv (vb (!(decide (((cQ b5).2)=0)))) (wy (congrArg Bool.not (dt q24))) (du (m:=(cQ b5).2) (n:=0) rfl rfl) (lw (vb (!(decide (((cQ b5).2)=0)))) (bo rfl (congrArg Bool.not (dt q24)) rfl) (mv (vb (!(decide (((cQ b5).2)=0)))) ?_)))
 have q28:((cQ b5).2)=0:=by exact hb2
 refine lv (vi ((aT b5).1)) (wy (congrArg Bool.not (dt q28))) (ar rfl) (lv (vb (!(decide (((aT b5).1)=2)))) (wy (congrArg Bool.not (dt q28))) (du (m:=(aT b5).1) (n:=2) rfl rfl) (lw (vb (!(decide (((aT b5).1)=2)))) (bo rfl (congrArg Bool.not (dt q28)) rfl) (mv (vb (!(decide (((aT b5).1)=2)))) ?_)))
 have q32:((aT b5).1)=2:=by exact hb3
 refine lv (vi ((aT b5).2.1)) (wy (congrArg Bool.not (dt q32))) (ar rfl) (lv (vb (!(decide (((aT b5).2.1)=1)))) (wy (congrArg Bool.not (dt q32))) (du (m:=(aT b5).2.1) (n:=1) rfl rfl) (lw (vb (!(decide (((aT b5).2.1)=1)))) (bo rfl (congrArg Bool.not (dt q32)) rfl) (mv (vb (!(decide (((aT b5).2.1)=1)))) ?_)))
 have q36:((aT b5).2.1)=1:=by exact hb4
 refine lv (vi ((aT b5).2.2.1)) (wy (congrArg Bool.not (dt q36))) (ar rfl) (lv (vb (!(decide (((aT b5).2.2.1)=0)))) (wy (congrArg Bool.not (dt q36))) (du (m:=(aT b5).2.2.1) (n:=0) rfl rfl) (lw (vb (!(decide (((aT b5).2.2.1)=0)))) (bo rfl (congrArg Bool.not (dt q36)) rfl) (mv (vb (!(decide (((aT b5).2.2.1)=0)))) ?_)))
 have q40:((aT b5).2.2.1)=0:=by exact hb5
 refine lv (vi ((aT b5).2.2.2)) (wy (congrArg Bool.not (dt q40))) (ar rfl) (lv (vb (!(decide (((aT b5).2.2.2)=0)))) (wy (congrArg Bool.not (dt q40))) (du (m:=(aT b5).2.2.2) (n:=0) rfl rfl) (lw (vb (!(decide (((aT b5).2.2.2)=0)))) (bo rfl (congrArg Bool.not (dt q40)) rfl) (ab ?_)))
 have p3:((aT b5).2.2.2)=0:=by exact hb6
 refine af rfl (congrArg Bool.not (dt p3)) (am (a7 (a6 rfl (mv v11 (lo (bB (aB (vals:=[v11,vi 1]) Tryz.func14 yl AM rfl) (CN w22 ((cQ b5).1) v11 (o12.t.sl).ro 1 (by(rw[hb7];decide)) (by exact x4)) ?_))))))
 rintro⟨d26,v28⟩ w25 ⟨fr27,o29⟩
 obtain⟨g30,ch31,G30⟩:=hU g20 fr27 (λn=>if n=1 then 4 else 0)
 replace o29:=o29.gl G30 4
 refine mv (vt [vg [vi (((i5 ((cQ b5).1) 1).1).1),v28],vi ((i5 ((cQ b5).1) 1).2)]) (lx (ay rfl rfl) (lx (ay rfl rfl) (lo (aZ g30 (is 5) (5,0) rfl aK ?_))))
 intro g35 w32 b34 ch33 bx36
 refine lo ?_
 refine aA (cs':=[vi (((i5 ((cQ b5).1) 1).1).1),v28]) aK rfl rfl bx36 rfl nq (AllOne.all (.cons rfl (.cons (aM o29.t.flat) .nil))) rfl ?_
 intro w37 ch38 bx39
 refine ai ((i5 ((cQ b5).1) 1).2) (ab (a7 (a6 rfl (mv v11 ?_))))
 refine lx (ad (v:=v11) (i:=1) CT rfl rfl o12.t.sl rfl (by omega) (by omega)) (lw (Value.pointer (some ⟨(bu v11 3 (Int.toNat 1)).block,(bu v11 3 (Int.toNat 1)).off+0,none⟩)) (eP xC rfl rfl rfl rfl) ?_)
 obtain⟨v41,v42,ce43,⟨r44,r45⟩,bl46⟩:=se (r:=1) (o12.a ch38).sl (by omega) (by omega)
 refine lw (vi ((gI ((cQ b5).1) 1).1)) (qq (n:=(Int.toNat 1)) ap rfl ce43 (by decide) rfl) (lx (dd (m:=(gI ((cQ b5).1) 1).1) (n:=2) rfl rfl) (mv (vb (decide (((gI ((cQ b5).1) 1).1)=2))) ?_))
 have q54:((gI ((cQ b5).1) 1).1)=2:=by exact hb8
 refine lv (vp b34 0) (wy (dt q54)) (aa dK rfl rfl rfl rfl) (lv (vi (((i5 ((cQ b5).1) 1).1).1)) (wy (dt q54)) (a8 ap rfl bx39 rfl) (lv (vb (decide ((((i5 ((cQ b5).1) 1).1).1)=2))) (wy (dt q54)) (dd (m:=((i5 ((cQ b5).1) 1).1).1) (n:=2) rfl rfl) (lw (vb (decide ((((i5 ((cQ b5).1) 1).1).1)=2))) (bh rfl (dt q54) rfl) (mv (vb (decide ((((i5 ((cQ b5).1) 1).1).1)=2))) ?_))))
 have q59:(((i5 ((cQ b5).1) 1).1).1)=2:=by exact hb9
 refine lv (vp b34 1) (wy (dt q59)) (aa dK rfl rfl rfl rfl) (lv (v28) (wy (dt q59)) (a8 bM rfl bx39 rfl) ?_)
 have len47:=((o29.a ch38).flat).small
 refine lv (vi (List.length (((i5 ((cQ b5).1) 1).1).2):Int)) (wy (dt q59)) (bG eG rfl o29.t.flat) (lv (vb (decide ((List.length (((i5 ((cQ b5).1) 1).1).2):Int)=3))) (wy (dt q59)) (dd (m:=(List.length (((i5 ((cQ b5).1) 1).1).2):Int)) (n:=3) rfl rfl) (lw (vb (decide ((List.length (((i5 ((cQ b5).1) 1).1).2):Int)=3))) (bh rfl (dt q59) rfl) (mv (vb (decide ((List.length (((i5 ((cQ b5).1) 1).1).2):Int)=3))) ?_)))
 have q65:(List.length (((i5 ((cQ b5).1) 1).1).2):Int)=3:=by exact hb10
 refine lv (vi ((i5 ((cQ b5).1) 1).2)) (wy (dt q65)) (ar rfl) (lv (vb (decide (((i5 ((cQ b5).1) 1).2)=0))) (wy (dt q65)) (dd (m:=(i5 ((cQ b5).1) 1).2) (n:=0) rfl rfl) (lw (vb (decide (((i5 ((cQ b5).1) 1).2)=0))) (bh rfl (dt q65) rfl) (ma (vb (decide (((i5 ((cQ b5).1) 1).2)=0))) (ab (az (vs:=[vb (decide (((i5 ((cQ b5).1) 1).2)=0))]) Tryz.func5 (.tmp rfl .nil) ?_)))))
 have e0:(decide (((i5 ((cQ b5).1) 1).2)=0):Bool)=(true):=by
   exact dt hb11
 exact⟨(congrArg (a₁:=decide (((i5 ((cQ b5).1) 1).2)=0)) (λ(z0:Bool)=>Ending.returned (vb z0)) e0),bH.t.below⟩
end TL
