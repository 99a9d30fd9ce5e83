import Derived.Test.YtfpckpgnnplhnaaGreatSkTlSrS
import Derived.Test.YtfpckpgnnplhnaaGreatSkTlSrF
import Derived.Test.YtfpckpgnnplhnaaGreatSkTlSrE
import Derived.Test.YtfpckpgnnplhnaaGreatSkTlSrC
import Derived.Test.YtfpckpgnnplhnaaGreatSkTlSqM
import Derived.Test.YtfpckpgnnplhnaaGreatSkTlSqA2
import Derived.Test.YtfpckpgnnplhnaaGreatSkTlGenA
import Derived.Test.YtfpckpgnnplhnaaGreatSkTlAli
set_option linter.all false
set_option maxRecDepth 20000
namespace TL
open Go Go.Proofs
theorem yz:Tryz.f5.body.isNone=false:=rfl
theorem zS:(Tryz.f5.name== "runtime.NumGoroutine")=false:=by decide+kernel
theorem ue:Tryz.f13.body.isNone=false:=rfl
theorem wW:(Tryz.f13.name== "runtime.NumGoroutine")=false:=by decide+kernel
theorem wm:Tryz.f15.body.isNone=false:=rfl
theorem uQ:(Tryz.f15.name== "runtime.NumGoroutine")=false:=by decide+kernel
theorem xt:Tryz.f16.body.isNone=false:=rfl
theorem uc:(Tryz.f16.name== "runtime.NumGoroutine")=false:=by decide+kernel
theorem xL:Tryz.f17.body.isNone=false:=rfl
theorem y4:(Tryz.f17.name== "runtime.NumGoroutine")=false:=by decide+kernel
attribute [local irreducible] dF iz
set_option maxHeartbeats 8000000 in
theorem ob(w0:World)(l:List ((Int)×(List Int)×(List Bd)))(l_v:Value)(hl_v:Ro w0 l_v l)(i:Int)(hll:(l.length:Int)<=1048576)(hpe:∀p∈l,(p.2.1.length:Int)<=1048576/\(p.2.2.length:Int)<=1048576):
    Calls Tryz.prog 4 #[l_v,vi i] w0 (λee w=>ee= .returned (vb true)/\eJ w0.heap.size w0 w):=by
 refine ap Tryz.func4 rfl nq ?_
 have bH:=b6.start w0
 have Rl:=hl_v.sl
 refine a7 (a6 rfl (ma (vb false) (ab (a7 (a7 (a6 rfl (cN rfl (bV (v:=vb true) (aH (vals:=[]) Tryz.func5 yz zS rfl) (tz w0) ?_))))))))
 intro w1 hb2
 replace hb2:=aN hb2 c0
 refine lx (eU (b:=true) rfl) (ab (ag rfl rfl (ao (a7 (a7 (a6 rfl (mv l_v ?_)))))))
 replace Rl:=Rl.cn hb2
 have len3:=(Rl).small
 refine lx (bp eb rfl Rl) (lx (fm (m:=(l.length:Int)) (n:=60) rfl rfl) (ab ?_))
 by_cases p3:60<(l.length:Int)
 ·
  refine af rfl (dt p3) (a7 (a6 rfl (ma (vb true) (ab (au (vs:=[vb true]) Tryz.func4 (.tmp rfl .nil) ?_)))))
  have e0:(true:Bool)=(true):=by
    rfl
  replace bH:=bH.cn hb2
  exact⟨rb e0,bH.below⟩
 refine ag rfl (df p3) (ao (a7 (a6 rfl (mv l_v (lo (bE (aH (vals:=[l_v]) Tryz.func13 ue wW rfl) (uv w1 l l_v (Rl).ro (by omega) (by exact hpe)) ?_))))))
 rintro⟨d5,v7⟩ w4 ⟨fr6,o8⟩
 obtain⟨g9,ch10,G9⟩:=i8 c0 fr6 (λn=>if n=1 then 1 else 0)
 replace o8:=o8.gl G9 1
 refine ma v7 (ab (a7 (a6 rfl (mv v7 (mi i (lo (bE (aH (vals:=[v7,vi i]) Tryz.func14 oP qq rfl) (rL w4 l v7 (o8.sl).ro i (by omega) (by exact hpe)) ?_)))))))
 rintro⟨d12,v14⟩ w11 ⟨fr13,o15⟩
 obtain⟨g16,ch17,G16⟩:=i8 g9 fr13 (λn=>if n=1 then 2 else 0)
 replace o15:=o15.gl G16 2
 refine mv (vt [vg [vi (((dF l i).1).1),v14],vi ((dF l i).2)]) (lx (aJ rfl rfl) (lx (aJ rfl rfl) (lo (bi g16 (is 3) (3,0) rfl aX ?_))))
 intro g21 w18 b20 ch19 bx22
 refine lo ?_
 replace o15:=o15.cn ch19
 refine ax (cs':=[vi (((dF l i).1).1),v14]) aX rfl rfl bx22 rfl nq (AllOne.all (.cons rfl (.cons (aG o15.flat) .nil))) rfl ?_
 intro w23 ch24 bx25
 clear bx22
 refine ai ((dF l i).2) (ab (a7 (a7 (a6 rfl (mv v7 (mv l_v ?_))))))
 have C26:=cg [3] (ch17.n.seq (ch19.n.seq (ch24.l rfl)))
 have C27:=ch10.n.seq C26
 replace o8:=o8.ca C26
 replace Rl:=Rl.ca C27
 refine lo (bV (v:=vb (decide (l=l))) (aH (vals:=[v7,l_v]) Tryz.func15 wm uQ rfl) (Ad w23 l v7 (o8.sl).ro l l_v (Rl).ro) ?_)
 intro w28 hb29
 replace hb29:=aN hb29 g21
 refine lx (eU (b:=(decide (l=l))) rfl) (ab ?_)
 have p7:(decide (l=l))=true:=by exact dt rfl
 refine ag rfl (congrArg Bool.not p7) (ao (a7 (a7 ?_)))
 clear o8
 refine a6 rfl (mi i (lx (bw (m:=i) (n:=0) rfl rfl) (mv (vb (decide (i<0))) ?_)))
 by_cases q29:i<0
 ·
  refine aA (wn (dt q29)) (aA (wn (dt q29)) (aA (wn (dt q29)) (aA (wn (dt q29)) (lw (vb true) (bj rfl (dt q29) rfl) (ab (af rfl rfl (a7 ?_)))))))
  have hat:=kB (ps:=l) (i:=i) (by omega)
  have hat1:(dF l i).2=2:=by rw[hat]
  have hat2:(dF l i).1.1=0:=by rw[hat]
  refine a6 rfl (mi ((dF l i).2) (lx (dA (m:=(dF l i).2) (n:=2) rfl rfl) (mv (vb (decide (((dF l i).2)=2))) ?_)))
  have q37:((dF l i).2)=2:=by exact hat1
  refine lv (vp b20 0) (wy (dt q37)) (aa ea rfl rfl rfl rfl) ?_
  replace bx25:=bx25.cn hb29
  refine lv (vi (((dF l i).1).1)) (wy (dt q37)) (a8 ah rfl bx25 rfl) (lv (vb (decide ((((dF l i).1).1)=0))) (wy (dt q37)) (dA (m:=((dF l i).1).1) (n:=0) rfl rfl) (lw (vb (decide ((((dF l i).1).1)=0))) (bj rfl (dt q37) rfl) (ma (vb (decide ((((dF l i).1).1)=0))) (ab (au (vs:=[vb (decide ((((dF l i).1).1)=0))]) Tryz.func4 (.tmp rfl .nil) ?_)))))
  have e0:(decide ((((dF l i).1).1)=0):Bool)=(true):=by
    exact dt hat2
  have C30:=cg [3] (hb2.n.seq (ch10.n.seq (ch17.n.seq (ch19.n.seq ((ch24.l rfl).seq hb29.n)))))
  replace bH:=bH.ca C30
  exact⟨(congrArg (a₁:=decide ((((dF l i).1).1)=0)) (λ(z0:Bool)=>Ending.returned (vb z0)) e0),bH.below⟩
 refine lv (vi i) (wy (df q29)) (aq rfl) (lv (l_v) (wy (df q29)) (aq rfl) ?_)
 replace Rl:=Rl.cn hb29
 refine lv (vi (l.length:Int)) (wy (df q29)) (bp eb rfl Rl) (lv (vb (decide ((l.length:Int)<=i))) (wy (df q29)) (eB (m:=i) (n:=(l.length:Int)) rfl rfl) (lw (vb (decide ((l.length:Int)<=i))) (bt rfl (df q29) rfl) (ab ?_)))
 by_cases p9:(l.length:Int)<=i
 ·
  refine af rfl (dt p9) (a7 ?_)
  have hat:=kB (ps:=l) (i:=i) (by omega)
  have hat1:(dF l i).2=2:=by rw[hat]
  have hat2:(dF l i).1.1=0:=by rw[hat]
  refine a6 rfl (mi ((dF l i).2) (lx (dA (m:=(dF l i).2) (n:=2) rfl rfl) (mv (vb (decide (((dF l i).2)=2))) ?_)))
  have q37_31:((dF l i).2)=2:=by exact hat1
  refine lv (vp b20 0) (wy (dt q37_31)) (aa ea rfl rfl rfl rfl) ?_
  replace bx25:=bx25.cn hb29
  refine lv (vi (((dF l i).1).1)) (wy (dt q37_31)) (a8 ah rfl bx25 rfl) (lv (vb (decide ((((dF l i).1).1)=0))) (wy (dt q37_31)) (dA (m:=((dF l i).1).1) (n:=0) rfl rfl) (lw (vb (decide ((((dF l i).1).1)=0))) (bj rfl (dt q37_31) rfl) (ma (vb (decide ((((dF l i).1).1)=0))) (ab (au (vs:=[vb (decide ((((dF l i).1).1)=0))]) Tryz.func4 (.tmp rfl .nil) ?_)))))
  have e0:(decide ((((dF l i).1).1)=0):Bool)=(true):=by
    exact dt hat2
  have C32:=cg [3] (hb2.n.seq (ch10.n.seq (ch17.n.seq (ch19.n.seq ((ch24.l rfl).seq hb29.n)))))
  replace bH:=bH.ca C32
  exact⟨(congrArg (a₁:=decide ((((dF l i).1).1)=0)) (λ(z0:Bool)=>Ending.returned (vb z0)) e0),bH.below⟩
 refine ag rfl (df p9) (ao (a7 (a7 (a6 rfl (mv l_v (mi i (lx (ad (v:=l_v) (i:=i) eb rfl rfl Rl rfl (by omega) (by omega)) (lw (Value.pointer (some ⟨(aB l_v 3 (Int.toNat i)).block,(aB l_v 3 (Int.toNat i)).off+1,none⟩)) (aI fK rfl rfl rfl rfl) ?_))))))))
 obtain⟨v33,v34,ce35,⟨r36,r37⟩,bl38⟩:=eQ (r:=i) Rl (by omega) (by omega)
 refine lw (v33) (bg (n:=(Int.toNat i)) jU rfl ce35 (by decide) rfl) ?_
 have len39:=(r36).small
 refine lx (bp bF rfl r36) (lx (fm (m:=(List.length ((gI l i).2.1):Int)) (n:=2000) rfl rfl) (mv (vb (decide (2000<(List.length ((gI l i).2.1):Int)))) ?_))
 by_cases q49:2000<(List.length ((gI l i).2.1):Int)
 ·
  refine aA (wn (dt q49)) (aA (wn (dt q49)) (aA (wn (dt q49)) (aA (wn (dt q49)) (aA (wn (dt q49)) (aA (wn (dt q49)) (aA (wn (dt q49)) (lw (vb true) (bj rfl (dt q49) rfl) (ab (af rfl rfl ?_)))))))))
  refine a7 ?_
  clear o15 bx25 r36
  refine a6 rfl (ma (vb true) (ab (au (vs:=[vb true]) Tryz.func4 (.tmp rfl .nil) ?_)))
  have e0:(true:Bool)=(true):=by
    rfl
  have C40:=cg [3] (hb2.n.seq (ch10.n.seq (ch17.n.seq (ch19.n.seq ((ch24.l rfl).seq hb29.n)))))
  replace bH:=bH.ca C40
  exact⟨rb e0,bH.below⟩
 refine lv (l_v) (wy (df q49)) (aq rfl) (lv (vi i) (wy (df q49)) (aq rfl) (lv (Value.pointer (some (aB l_v 3 (Int.toNat i)))) (wy (df q49)) (ad (α:=(Int)×(List Int)×(List Bd)) (xs:=l) (v:=l_v) (i:=i) eb rfl rfl Rl rfl (by omega) (by omega)) (lv (Value.pointer (some ⟨(aB l_v 3 (Int.toNat i)).block,(aB l_v 3 (Int.toNat i)).off+2,none⟩)) (wy (df q49)) (aI fK rfl rfl rfl rfl) ?_)))
 obtain⟨v41,v42,ce43,⟨r44,r45⟩,bl46⟩:=eQ (r:=i) Rl (by omega) (by omega)
 refine lv (v42) (wy (df q49)) (bg (n:=(Int.toNat i)) kj rfl ce43 (by decide) rfl) ?_
 have len47:=(r45).small
 refine lv (vi (List.length ((gI l i).2.2):Int)) (wy (df q49)) (bp jr rfl r45) (lv (vb (decide (4000<(List.length ((gI l i).2.2):Int)))) (wy (df q49)) (fm (m:=(List.length ((gI l i).2.2):Int)) (n:=4000) rfl rfl) (lw (vb (decide (4000<(List.length ((gI l i).2.2):Int)))) (bt rfl (df q49) rfl) (ab ?_)))
 by_cases p11:4000<(List.length ((gI l i).2.2):Int)
 ·
  refine af rfl (dt p11) (a7 ?_)
  clear o15 bx25 r36 r45
  refine a6 rfl (ma (vb true) (ab (au (vs:=[vb true]) Tryz.func4 (.tmp rfl .nil) ?_)))
  have e0:(true:Bool)=(true):=by
    rfl
  have C48:=cg [3] (hb2.n.seq (ch10.n.seq (ch17.n.seq (ch19.n.seq ((ch24.l rfl).seq hb29.n)))))
  replace bH:=bH.ca C48
  exact⟨rb e0,bH.below⟩
 refine ag rfl (df p11) (ao (a7 ?_))
 clear r36 r45
 have hat:=AA (ps:=l) (i:=i) ⟨by omega,by omega⟩
 have hat3:(dF l i).2=(iz (gI l i)).2:=by rw[hat]
 have hat4:decide ((dF l i).1=(iz (gI l i)).1)=true:=by rw[hat];exact dt rfl
 obtain⟨hp1,hp2⟩:=hpe (gI l i) (bC (by omega) (by omega))
 refine a6 rfl (mv l_v (mi i (lx (ad (v:=l_v) (i:=i) eb rfl rfl Rl rfl (by omega) (by omega)) ?_)))
 obtain⟨v49,v50,ce51,⟨r52,r53⟩,bl54⟩:=eQ (r:=i) Rl (by omega) (by omega)
 refine lw (vg [vi ((gI l i).1),v49,v50]) (jN (cs:=[vi ((gI l i).1),v49,v50]) bT rfl rfl ce51) (lo (bE (aH (vals:=[vg [vi ((gI l i).1),v49,v50]]) Tryz.func16 xt uc rfl) (ww w28 (gI l i) v49 v50 (r52).ro (r53).ro (by exact hp1) (by exact hp2)) ?_))
 rintro⟨d56,v58⟩ w55 ⟨fr57,o59⟩
 obtain⟨g60,ch61,G60⟩:=i8 g21 fr57 (λn=>if n=1 then 4 else 0)
 replace o59:=o59.gl G60 4
 refine mv (vt [vg [vi (((iz (gI l i)).1).1),v58],vi ((iz (gI l i)).2)]) (lx (aJ rfl rfl) (lx (aJ rfl rfl) (lo (bi g60 (is 5) (5,0) rfl aX ?_))))
 intro g65 w62 b64 ch63 bx66
 refine lo ?_
 replace o59:=o59.cn ch63
 refine ax (cs':=[vi (((iz (gI l i)).1).1),v58]) aX rfl rfl bx66 rfl nq (AllOne.all (.cons rfl (.cons (aG o59.flat) .nil))) rfl ?_
 intro w67 ch68 bx69
 clear bx66
 refine ai ((iz (gI l i)).2) (ab (a7 ?_))
 clear r52 r53
 refine a6 rfl (mi ((dF l i).2) (mi ((iz (gI l i)).2) (lx (dA (m:=(dF l i).2) (n:=(iz (gI l i)).2) rfl rfl) (mv (vb (decide (((dF l i).2)=((iz (gI l i)).2)))) ?_))))
 have q69:((dF l i).2)=((iz (gI l i)).2):=by exact hat3
 have C70:=cg [5] (hb29.n.seq (ch61.n.seq (ch63.n.seq (ch68.l rfl))))
 replace bx25:=bx25.ca C70
 refine lv (vg [vi (((dF l i).1).1),v14]) (wy (dt q69)) (ay (ds:=[vi (((dF l i).1).1),v14]) aX rfl bx25 rfl rfl) (lv (vg [vi (((iz (gI l i)).1).1),v58]) (wy (dt q69)) (ay (ds:=[vi (((iz (gI l i)).1).1),v58]) aX rfl bx69 rfl rfl) ?_)
 have C71:=cg [3,5] ((ch24.l rfl).seq (hb29.n.seq (ch61.n.seq (ch63.n.seq (ch68.l rfl)))))
 replace o15:=o15.ca C71
 replace o59:=o59.ce ch68
 refine cN (wy (dt q69)) (bV (v:=vb (decide (((dF l i).1)=((iz (gI l i)).1)))) (aH (vals:=[vg [vi (((dF l i).1).1),v14],vg [vi (((iz (gI l i)).1).1),v58]]) Tryz.func17 xL y4 rfl) (uj w67 ((dF l i).1) v14 (o15.flat).ro ((iz (gI l i)).1) v58 (o59.flat).ro) ?_)
 intro w72 hb73
 replace hb73:=aN hb73 g65
 refine lw (vb (decide (((dF l i).1)=((iz (gI l i)).1)))) (bj rfl (dt q69) rfl) (ma (vb (decide (((dF l i).1)=((iz (gI l i)).1)))) (ab (au (vs:=[vb (decide (((dF l i).1)=((iz (gI l i)).1)))]) Tryz.func4 (.tmp rfl .nil) ?_)))
 have e0:((decide (((dF l i).1)=((iz (gI l i)).1))):Bool)=(true):=by
   exact hat4
 have C74:=cg [3,5] (hb2.n.seq (ch10.n.seq (ch17.n.seq (ch19.n.seq ((ch24.l rfl).seq (hb29.n.seq (ch61.n.seq (ch63.n.seq ((ch68.l rfl).seq hb73.n)))))))))
 replace bH:=bH.ca C74
 exact⟨(congrArg (a₁:=(decide (((dF l i).1)=((iz (gI l i)).1)))) (λ(z0:Bool)=>Ending.returned (vb z0)) e0),bH.below⟩
end TL
