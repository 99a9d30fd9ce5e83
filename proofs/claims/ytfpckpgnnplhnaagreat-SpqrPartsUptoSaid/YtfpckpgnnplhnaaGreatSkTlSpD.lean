import Derived.Test.YtfpckpgnnplhnaaGreatSkTlSpA
import Derived.Test.YtfpckpgnnplhnaaGreatSkTlSpW
import Derived.Test.YtfpckpgnnplhnaaGreatSkTlBkC
import Derived.Test.YtfpckpgnnplhnaaGreatSkTlGenA
import Derived.Test.YtfpckpgnnplhnaaGreatSkTlAli
set_option linter.all false
set_option maxRecDepth 20000
namespace TL
open Go Go.Proofs
theorem we:Tryz.f99.body.isNone=false:=rfl
theorem wI:(Tryz.f99.name== "runtime.NumGoroutine")=false:=by decide+kernel
theorem nA:Tryz.f100.body.isNone=false:=rfl
theorem nG:(Tryz.f100.name== "runtime.NumGoroutine")=false:=by decide+kernel
theorem tV:Tryz.f133.body.isNone=false:=rfl
theorem sR:(Tryz.f133.name== "runtime.NumGoroutine")=false:=by decide+kernel
theorem sy:Tryz.f134.body.isNone=false:=rfl
theorem sH:(Tryz.f134.name== "runtime.NumGoroutine")=false:=by decide+kernel
theorem rY(w0:World)(g:(Int)×(List Pt))(g_v:Value)(hg_v:Ro w0 g_v g.2):
    Calls Tryz.prog 100 #[vg [vi g.1,g_v]] w0 (λee w=>∃xx:aw×Value,ee= .returned ((λ⟨δ,rv0⟩=>rv0) xx)/\(λ(⟨δ,rv0⟩:aw×Value) (w:World)=>dU w0 δ w/\Ow δ (is 1) (is 1) w rv0 (cB g)) xx w):=by
 refine ap Tryz.func100 rfl nq ?_
 have bH:=b6.start w0
 have Rg:=hg_v.sl
 refine a7 (a6 rfl (cN rfl (cq c0 (is 1) (1,0) rfl rfl ?_)))
 intro g4 w1 b3 ch2 bx5
 refine ma vn (ab (a7 (a6 rfl (lx (ay (ds:=[vi g.1,g_v]) aX rfl bx5 rfl rfl) ?_))))
 replace Rg:=Rg.cn ch2
 refine lo (bE (aH (vals:=[vg [vi g.1,g_v]]) Tryz.func133 tV sR rfl) (zn w1 g g_v (Rg).ro) ?_)
 rintro⟨d7,v9,v11⟩ w6 ⟨fr8,o10,o12⟩
 obtain⟨g13,ch14,G13⟩:=i8 g4 fr8 (λn=>if n=1 then 2 else if n=2 then 3 else 0)
 replace o10:=o10.gl G13 2
 replace o12:=o12.gl G13 3
 refine mv (vt [vg [vi (((cQ g).1).1),v9],v11,vi ((cQ g).2.2)]) (lx (aJ rfl rfl) (lx (aJ rfl rfl) (lx (aJ rfl rfl) (lo (bi g13 (is 4) (4,0) rfl aX ?_)))))
 intro g18 w15 b17 ch16 bx19
 refine lo ?_
 replace o10:=o10.cn ch16
 refine ax (cs':=[vi (((cQ g).1).1),v9]) aX rfl rfl bx19 rfl nq (AllOne.all (.cons rfl (.cons (aG o10.flat) .nil))) rfl ?_
 intro w20 ch21 bx22
 clear bx19
 refine ma v11 (ai ((cQ g).2.2) (ab (a7 ?_)))
 clear bx5 o12
 refine a6 rfl (lx (ay (ds:=[vi (((cQ g).1).1),v9]) aX rfl bx22 rfl rfl) ?_)
 replace o10:=o10.ce ch21
 refine lo (bE (aH (vals:=[vg [vi (((cQ g).1).1),v9]]) Tryz.func134 sy sH rfl) (rf w20 ((cQ g).1) v9 (o10.flat).ro) ?_)
 rintro⟨d24,v26,v28⟩ w23 ⟨fr25,o27,o29⟩
 obtain⟨g30,ch31,G30⟩:=i8 g18 fr25 (λn=>if n=1 then 5 else if n=2 then 6 else 0)
 replace o27:=o27.gl G30 5
 replace o29:=o29.gl G30 6
 refine mv (vt [vg [v26,v28,vi ((((dd ((cQ g).1)).1).2).2)],vi ((dd ((cQ g).1)).2)]) (lx (aJ rfl rfl) (lx (aJ rfl rfl) (lo (bi g30 (is 7) (7,0) rfl eC ?_))))
 intro g35 w32 b34 ch33 bx36
 refine lo ?_
 replace o29:=o29.cn ch33
 replace o27:=o27.cn ch33
 refine ax (cs':=[v26,v28,vi ((((dd ((cQ g).1)).1).2).2)]) eC rfl rfl bx36 rfl nq (AllOne.all (.cons (aG o27.flat) (.cons (aG o29.flat) (.cons rfl .nil)))) rfl ?_
 intro w37 ch38 bx39
 clear bx36
 refine ai ((dd ((cQ g).1)).2) (ab (a7 ?_))
 clear o10 bx22
 refine a6 rfl (lx (aa jV rfl rfl rfl rfl) (lx (a8 bN rfl bx39 rfl) (ma v28 (ab (au (vs:=[v28]) Tryz.func100 (.tmp rfl .nil) ?_)))))
 have C40:=cg [4,7] (ch2.n.seq (ch14.n.seq (ch16.n.seq ((ch21.l rfl).seq (ch31.n.seq (ch33.n.seq (ch38.l rfl)))))))
 replace bH:=bH.ca C40
 replace o29:=o29.ce ch38
 have e0:((((dd ((cQ g).1)).1).2).1:List Int)=(cB g):=by
   rfl
 exact⟨(fin w0 g35 (λn=>if n=6 then 1 else 0),v28),(congrArg (a₁:=(((dd ((cQ g).1)).1).2).1) (λ(z0:List Int)=>Ending.returned (v28)) e0),bH.fresh _,(e0▸(o29.glue (γ:=c0) (ren:=(λn=>if n=6 then 1 else 0)) (k:=1) bH.col rfl rfl))⟩
theorem qP(w0:World)(g:(Int)×(List Pt))(g_v:Value)(hg_v:Ro w0 g_v g.2):
    Calls Tryz.prog 87 #[vg [vi g.1,g_v]] w0 (λee w=>ee= .returned (vb (jW g))/\eJ w0.heap.size w0 w):=by
 refine ap Tryz.func87 rfl nq ?_
 have bH:=b6.start w0
 have Rg:=hg_v.sl
 refine a7 (a6 rfl (cN rfl (cq c0 (is 1) (1,0) rfl rfl ?_)))
 intro g4 w1 b3 ch2 bx5
 refine ma (vb false) (ab (a7 (a6 rfl (lx (aa ea rfl rfl rfl rfl) (lx (a8 ah rfl bx5 rfl) (lx (fm (m:=g.1) (n:=2) rfl rfl) (mv (vb (decide (2<g.1))) ?_)))))))
 by_cases q6:2<g.1
 ·
  refine lv (vg [vi g.1,g_v]) (wy (dt q6)) (ay (ds:=[vi g.1,g_v]) aX rfl bx5 rfl rfl) ?_
  replace Rg:=Rg.cn ch2
  refine cN (wy (dt q6)) (bV (v:=vb (r7 g)) (aH (vals:=[vg [vi g.1,g_v]]) Tryz.func99 we wI rfl) (oe w1 g g_v (Rg).ro) ?_)
  intro w6 hb7
  replace hb7:=aN hb7 g4
  refine lw (vb (r7 g)) (bj rfl (dt q6) rfl) (mv (vb (r7 g)) ?_)
  by_cases q10:(r7 g)=true
  ·
   replace bx5:=bx5.cn hb7
   refine lv (vg [vi g.1,g_v]) (wy q10) (ay (ds:=[vi g.1,g_v]) aX rfl bx5 rfl rfl) ?_
   replace Rg:=Rg.cn hb7
   refine cN (wy q10) (bE (aH (vals:=[vg [vi g.1,g_v]]) Tryz.func100 nA nG rfl) (rY w6 g g_v (Rg).ro) ?_)
   rintro⟨d9,v11⟩ w8 ⟨fr10,o12⟩
   obtain⟨g13,ch14,G13⟩:=i8 g4 fr10 (λn=>if n=1 then 2 else 0)
   replace o12:=o12.gl G13 2
   have len15:=(o12.flat).small
   refine lv (vi (List.length (cB g):Int)) (wy q10) (bp bF rfl o12.flat) (lv (vb (decide ((List.length (cB g):Int)=0))) (wy q10) (dA (m:=(List.length (cB g):Int)) (n:=0) rfl rfl) (lw (vb (decide ((List.length (cB g):Int)=0))) (bj rfl q10 rfl) (ma (vb (decide ((List.length (cB g):Int)=0))) (ab (au (vs:=[vb (decide ((List.length (cB g):Int)=0))]) Tryz.func87 (.tmp rfl .nil) ?_)))))
   have e0:(decide ((List.length (cB g):Int)=0):Bool)=(jW g):=by
     (unfold jW;simp_all;done)
   have C16:=cg [] (ch2.n.seq (hb7.n.seq ch14.n))
   replace bH:=bH.ca C16
   exact⟨(congrArg (a₁:=decide ((List.length (cB g):Int)=0)) (λ(z0:Bool)=>Ending.returned (vb z0)) e0),bH.below⟩
  refine aA (wn (Bool.eq_false_iff.2 q10)) (aA (wn (Bool.eq_false_iff.2 q10)) (aA (wn (Bool.eq_false_iff.2 q10)) (aA (wn (Bool.eq_false_iff.2 q10)) (lw (vb false) (bt rfl (Bool.eq_false_iff.2 q10) rfl) (ma (vb false) (ab (au (vs:=[vb false]) Tryz.func87 (.tmp rfl .nil) ?_)))))))
  have e0:(false:Bool)=(jW g):=by
    (unfold jW;simp_all;done)
  replace bH:=bH.cn ch2
  replace bH:=bH.cn hb7
  exact⟨rb e0,bH.below⟩
 refine aA (wn (df q6)) (aA (wn (df q6)) (lw (vb false) (bt rfl (df q6) rfl) (mv (vb false) (aA (wn rfl) (aA (wn rfl) (aA (wn rfl) (aA (wn rfl) (lw (vb false) (bt rfl rfl rfl) (ma (vb false) (ab (au (vs:=[vb false]) Tryz.func87 (.tmp rfl .nil) ?_)))))))))))
 have e0:(false:Bool)=(jW g):=by
   (unfold jW;rw[df (by omega)];rfl)
 replace bH:=bH.cn ch2
 exact⟨rb e0,bH.below⟩
end TL
