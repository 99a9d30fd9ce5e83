import Derived.Test.YtgneelmmomohdaaSaTlP5
import Derived.Test.YtgneelmmomohdaaSaTlSpA
import Derived.Test.YtgneelmmomohdaaSaTlSpW
import Derived.Test.YtgneelmmomohdaaSaTlBkC
import Derived.Test.YtgneelmmomohdaaSaTlGenA
import Derived.Test.YtgneelmmomohdaaProg
import Derived.Test.YtgneelmmomohdaaSaTlAli
set_option linter.all false
set_option maxRecDepth 20000
namespace TL
open Go Go.Proofs
theorem rK:Try.f29.body.isNone=false:=rfl
theorem rW:(Try.f29.name== "runtime.NumGoroutine")=false:=by decide+kernel
theorem qM:Try.f57.body.isNone=false:=rfl
theorem qR:(Try.f57.name== "runtime.NumGoroutine")=false:=by decide+kernel
theorem yC:Try.f72.body.isNone=false:=rfl
theorem yb:(Try.f72.name== "runtime.NumGoroutine")=false:=by decide+kernel
theorem xz:Try.f73.body.isNone=false:=rfl
theorem xB:(Try.f73.name== "runtime.NumGoroutine")=false:=by decide+kernel
theorem uo(w0:World)(g:(Int)×(List Pt))(g_v:Value)(hg_v:Ro w0 g_v g.2):
    Calls Try.prog 57 #[vg [vi g.1,g_v]] w0 (λee w=>∃xx:aG×Value,ee= .returned ((λ⟨δ,rv0⟩=>rv0) xx)/\(λ(⟨δ,rv0⟩:aG×Value) (w:World)=>eB w0 δ w/\Ow δ (is 1) (is 1) w rv0 (c9 g)) xx w):=by
 refine av Try.func57 rfl nq ?_
 have bH:=bn.start w0
 have Rg:=hg_v.sl
 refine aa (a8 rfl (cB rfl (cr c0 (is 1) (1,0) rfl rfl ?_)))
 intro g4 w1 b3 ch2 bx5
 replace bx5:Bx g4 (is 1) w1 b3 [vi g.1,g_v]:=bx5
 refine ma vn (ab (aa (a8 rfl (lx (aB (ds:=[vi g.1,g_v]) aK rfl bx5 rfl rfl) ?_))))
 replace Rg:=Rg.cn ch2
 refine lo (bQ (aN (vals:=[vg [vi g.1,g_v]]) Try.func72 yC yb rfl) (Ao w1 g g_v (Rg).ro) ?_)
 rintro⟨d7,v9,v11⟩ w6 ⟨fr8,o10,o12⟩
 obtain⟨g13,ch14,G13⟩:=ia g4 fr8 (λn=>if n=1 then 2 else if n=2 then 3 else 0)
 replace o10:=o10.gl G13 2
 replace o12:=o12.gl G13 3
 refine mv (vt [vg [vi (((bU g).1).1),v9],v11,vi ((bU g).2.2)]) (lx (aJ rfl rfl) (lx (aJ rfl rfl) (lx (aJ rfl rfl) (lo (bP g13 (is 4) (4,0) rfl aK ?_)))))
 intro g18 w15 b17 ch16 bx19
 replace bx19:Bx g18 (is 4) w15 b17 [vi 0,vn]:=bx19
 refine lo ?_
 replace o10:=o10.cn ch16
 refine aT (cs':=[vi (((bU g).1).1),v9]) aK rfl rfl bx19 rfl nq (AllOne.all (.cons rfl (.cons (bK o10.flat) .nil))) rfl ?_
 intro w20 ch21 bx22
 clear bx19
 refine ma v11 (ai ((bU g).2.2) (ab (aa ?_)))
 clear bx5 o12
 refine a8 rfl (lx (aB (ds:=[vi (((bU g).1).1),v9]) aK rfl bx22 rfl rfl) ?_)
 replace o10:=o10.ce ch21
 refine lo (bQ (aN (vals:=[vg [vi (((bU g).1).1),v9]]) Try.func73 xz xB rfl) (td w20 ((bU g).1) v9 (o10.flat).ro) ?_)
 rintro⟨d24,v26,v28⟩ w23 ⟨fr25,o27,o29⟩
 obtain⟨g30,ch31,G30⟩:=ia g18 fr25 (λn=>if n=1 then 5 else if n=2 then 6 else 0)
 replace o27:=o27.gl G30 5
 replace o29:=o29.gl G30 6
 refine mv (vt [vg [v26,v28,vi ((((da ((bU g).1)).1).2).2)],vi ((da ((bU g).1)).2)]) (lx (aJ rfl rfl) (lx (aJ rfl rfl) (lo (bP g30 (is 7) (7,0) rfl fg ?_))))
 intro g35 w32 b34 ch33 bx36
 replace bx36:Bx g35 (is 7) w32 b34 [vn,vn,vi 0]:=bx36
 refine lo ?_
 replace o29:=o29.cn ch33
 replace o27:=o27.cn ch33
 refine aT (cs':=[v26,v28,vi ((((da ((bU g).1)).1).2).2)]) fg rfl rfl bx36 rfl nq (AllOne.all (.cons (bK o27.flat) (.cons (bK o29.flat) (.cons rfl .nil)))) rfl ?_
 intro w37 ch38 bx39
 clear bx36
 refine ai ((da ((bU g).1)).2) (ab (aa ?_))
 clear o10 bx22
 refine a8 rfl (lx (af jV rfl rfl rfl rfl) (lx (ae bI rfl bx39 rfl) (ma v28 (ab (aD (vs:=[v28]) Try.func57 (.tmp rfl .nil) ?_)))))
 have C40:=cg [4,7] (ch2.n.seq (ch14.n.seq (ch16.n.seq ((ch21.l rfl).seq (ch31.n.seq (ch33.n.seq (ch38.l rfl)))))))
 replace bH:=bH.ca C40
 replace o29:=o29.ce ch38
 have e0:((((da ((bU g).1)).1).2).1:List Int)=(c9 g):=by
   rfl
 exact⟨(fin w0 g35 (λn=>if n=6 then 1 else 0),v28),(congrArg (a₁:=(((da ((bU g).1)).1).2).1) (λ(z0:List Int)=>Ending.returned (v28)) e0),bH.fresh _,(e0▸(o29.glue (γ:=c0) (ren:=(λn=>if n=6 then 1 else 0)) (k:=1) bH.col rfl rfl))⟩
theorem mZ(w0:World)(g:(Int)×(List Pt))(g_v:Value)(hg_v:Ro w0 g_v g.2):
    Calls Try.prog 30 #[vg [vi g.1,g_v]] w0 (λee w=>ee= .returned (vb (fx g))/\ep w0.heap.size w0 w):=by
 refine av Try.func30 rfl nq ?_
 have bH:=bn.start w0
 have Rg:=hg_v.sl
 refine aa (a8 rfl (cB rfl (cr c0 (is 1) (1,0) rfl rfl ?_)))
 intro g4 w1 b3 ch2 bx5
 replace bx5:Bx g4 (is 1) w1 b3 [vi g.1,g_v]:=bx5
 refine ma (vb false) (ab (aa (a8 rfl (lx (af cW rfl rfl rfl rfl) (lx (ae aj rfl bx5 rfl) (lx (eu (m:=g.1) (n:=2) rfl rfl) (mv (vb (decide (2<g.1))) ?_)))))))
 by_cases q6:2<g.1
 ·
  refine lv (vg [vi g.1,g_v]) (wy (dt q6)) (aB (ds:=[vi g.1,g_v]) aK rfl bx5 rfl rfl) ?_
  replace Rg:=Rg.cn ch2
  refine cB (wy (dt q6)) (bW (v:=vb (gU g)) (aN (vals:=[vg [vi g.1,g_v]]) Try.func29 rK rW rfl) (ky w1 g g_v (Rg).ro) ?_)
  intro w6 hb7
  replace hb7:=aS hb7 g4
  refine lw (vb (gU g)) (aO rfl (dt q6) rfl) (mv (vb (gU g)) ?_)
  by_cases q10:(gU g)=true
  ·
   replace bx5:=bx5.cn hb7
   refine lv (vg [vi g.1,g_v]) (wy q10) (aB (ds:=[vi g.1,g_v]) aK rfl bx5 rfl rfl) ?_
   replace Rg:=Rg.cn hb7
   refine cB (wy q10) (bQ (aN (vals:=[vg [vi g.1,g_v]]) Try.func57 qM qR rfl) (uo w6 g g_v (Rg).ro) ?_)
   rintro⟨d9,v11⟩ w8 ⟨fr10,o12⟩
   obtain⟨g13,ch14,G13⟩:=ia g4 fr10 (λn=>if n=1 then 2 else 0)
   replace o12:=o12.gl G13 2
   have len15:=(o12.flat).small
   refine lv (vi (List.length (c9 g):Int)) (wy q10) (bq bv rfl o12.flat) (lv (vb (decide ((List.length (c9 g):Int)=0))) (wy q10) (cZ (m:=(List.length (c9 g):Int)) (n:=0) rfl rfl) (lw (vb (decide ((List.length (c9 g):Int)=0))) (aO rfl q10 rfl) (ma (vb (decide ((List.length (c9 g):Int)=0))) (ab (aD (vs:=[vb (decide ((List.length (c9 g):Int)=0))]) Try.func30 (.tmp rfl .nil) ?_)))))
   have e0:(decide ((List.length (c9 g):Int)=0):Bool)=(fx g):=by
     (unfold fx;simp_all;done)
   have C16:=cg [] (ch2.n.seq (hb7.n.seq ch14.n))
   replace bH:=bH.ca C16
   exact⟨(congrArg (a₁:=decide ((List.length (c9 g):Int)=0)) (λ(z0:Bool)=>Ending.returned (vb z0)) e0),bH.below⟩
  refine ak (wn (Bool.eq_false_iff.2 q10)) (ak (wn (Bool.eq_false_iff.2 q10)) (ak (wn (Bool.eq_false_iff.2 q10)) (ak (wn (Bool.eq_false_iff.2 q10)) (lw (vb false) (aP rfl (Bool.eq_false_iff.2 q10) rfl) (ma (vb false) (ab (aD (vs:=[vb false]) Try.func30 (.tmp rfl .nil) ?_)))))))
  have e0:(false:Bool)=(fx g):=by
    (unfold fx;simp_all;done)
  replace bH:=bH.cn ch2
  replace bH:=bH.cn hb7
  exact⟨rb e0,bH.below⟩
 refine ak (wn (df q6)) (ak (wn (df q6)) (lw (vb false) (aP rfl (df q6) rfl) (mv (vb false) (ak (wn rfl) (ak (wn rfl) (ak (wn rfl) (ak (wn rfl) (lw (vb false) (aP rfl rfl rfl) (ma (vb false) (ab (aD (vs:=[vb false]) Try.func30 (.tmp rfl .nil) ?_)))))))))))
 have e0:(false:Bool)=(fx g):=by
   (unfold fx;rw[df (by omega)];rfl)
 replace bH:=bH.cn ch2
 exact⟨rb e0,bH.below⟩
end TL
