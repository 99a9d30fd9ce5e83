import Derived.Test.YtgneelmmomohdaaSmTlP4
import Derived.Test.YtgneelmmomohdaaSmTlSpA
import Derived.Test.YtgneelmmomohdaaSmTlSpW
import Derived.Test.YtgneelmmomohdaaSmTlBkC
import Derived.Test.YtgneelmmomohdaaSmTlGenA
import Derived.Test.YtgneelmmomohdaaProg
import Derived.Test.YtgneelmmomohdaaSmTlAli
set_option linter.all false
set_option maxRecDepth 20000
namespace TL
open Go Go.Proofs
theorem nr:Try.f29.body.isNone=false:=rfl
theorem oq:(Try.f29.name== "runtime.NumGoroutine")=false:=by decide+kernel
theorem nG:Try.f57.body.isNone=false:=rfl
theorem nI:(Try.f57.name== "runtime.NumGoroutine")=false:=by decide+kernel
theorem rI:Try.f72.body.isNone=false:=rfl
theorem s9:(Try.f72.name== "runtime.NumGoroutine")=false:=by decide+kernel
theorem tm:Try.f73.body.isNone=false:=rfl
theorem sr:(Try.f73.name== "runtime.NumGoroutine")=false:=by decide+kernel
theorem qo(w0:World)(g:(Int)×(List Pt))(g_v:Value)(hg_v:Ro w0 g_v g.2):
    Calls Try.prog 57 #[vg [vi g.1,g_v]] w0 (λee w=>∃xx:aG×Value,ee= .returned ((λ⟨δ,rv0⟩=>rv0) xx)/\(λ(⟨δ,rv0⟩:aG×Value) (w:World)=>eQ w0 δ w/\Ow δ (is 1) (is 1) w rv0 (bM g)) xx w):=by
 refine ap Try.func57 rfl nq ?_
 have bH:=bm.start w0
 have Rg:=hg_v.sl
 refine aa (a8 rfl (cA rfl (cq c0 (is 1) (1,0) rfl rfl ?_)))
 intro g4 w1 b3 ch2 bx5
 replace bx5:Bx g4 (is 1) w1 b3 [vi g.1,g_v]:=bx5
 refine ma vn (ad (aa (a8 rfl (lx (aA (ds:=[vi g.1,g_v]) aF rfl bx5 rfl rfl) ?_))))
 replace Rg:=Rg.cn ch2
 refine lo (c6 (aP (vals:=[vg [vi g.1,g_v]]) Try.func72 rI s9 rfl) (uO w1 g g_v (Rg).ro) ?_)
 rintro⟨d7,v9,v11⟩ w6 ⟨fr8,o10,o12⟩
 obtain⟨g13,ch14,G13⟩:=jL g4 fr8 (λn=>if n=1 then 2 else if n=2 then 3 else 0)
 replace o10:=o10.gl G13 2
 replace o12:=o12.gl G13 3
 refine mv (vt [vg [vi (((bu g).1).1),v9],v11,vi ((bu g).2.2)]) (lx (aB rfl rfl) (lx (aB rfl rfl) (lx (aB rfl rfl) (lo (bn g13 (is 4) (4,0) rfl aF ?_)))))
 intro g18 w15 b17 ch16 bx19
 replace bx19:Bx g18 (is 4) w15 b17 [vi 0,vn]:=bx19
 refine lo ?_
 replace o10:=o10.cn ch16
 refine aH (cs':=[vi (((bu g).1).1),v9]) aF rfl rfl bx19 rfl nq (AllOne.all (.cons rfl (.cons (b9 o10.flat) .nil))) rfl ?_
 intro w20 ch21 bx22
 clear bx19
 refine ma v11 (ai ((bu g).2.2) (ad (aa ?_)))
 clear bx5 o12
 refine a8 rfl (lx (aA (ds:=[vi (((bu g).1).1),v9]) aF rfl bx22 rfl rfl) ?_)
 replace o10:=o10.ce ch21
 refine lo (c6 (aP (vals:=[vg [vi (((bu g).1).1),v9]]) Try.func73 tm sr rfl) (oN w20 ((bu g).1) v9 (o10.flat).ro) ?_)
 rintro⟨d24,v26,v28⟩ w23 ⟨fr25,o27,o29⟩
 obtain⟨g30,ch31,G30⟩:=jL g18 fr25 (λn=>if n=1 then 5 else if n=2 then 6 else 0)
 replace o27:=o27.gl G30 5
 replace o29:=o29.gl G30 6
 refine mv (vt [vg [v26,v28,vi ((((cv ((bu g).1)).1).2).2)],vi ((cv ((bu g).1)).2)]) (lx (aB rfl rfl) (lx (aB rfl rfl) (lo (bn g30 (is 7) (7,0) rfl ep ?_))))
 intro g35 w32 b34 ch33 bx36
 replace bx36:Bx g35 (is 7) w32 b34 [vn,vn,vi 0]:=bx36
 refine lo ?_
 replace o29:=o29.cn ch33
 replace o27:=o27.cn ch33
 refine aH (cs':=[v26,v28,vi ((((cv ((bu g).1)).1).2).2)]) ep rfl rfl bx36 rfl nq (AllOne.all (.cons (b9 o27.flat) (.cons (b9 o29.flat) (.cons rfl .nil)))) rfl ?_
 intro w37 ch38 bx39
 clear bx36
 refine ai ((cv ((bu g).1)).2) (ad (aa ?_))
 clear o10 bx22
 refine a8 rfl (lx (af lD rfl rfl rfl rfl) (lx (ae aZ rfl bx39 rfl) (ma v28 (ad (aw (vs:=[v28]) Try.func57 (.tmp rfl .nil) ?_)))))
 have C40:=cg [4,7] (ch2.n.seq (ch14.n.seq (ch16.n.seq ((ch21.l rfl).seq (ch31.n.seq (ch33.n.seq (ch38.l rfl)))))))
 replace bH:=bH.ca C40
 replace o29:=o29.ce ch38
 have e0:((((cv ((bu g).1)).1).2).1:List Int)=(bM g):=by
   rfl
 exact⟨(fin w0 g35 (λn=>if n=6 then 1 else 0),v28),(congrArg (a₁:=(((cv ((bu g).1)).1).2).1) (λ(z0:List Int)=>Ending.returned (v28)) e0),bH.fresh _,(e0▸(o29.glue (γ:=c0) (ren:=(λn=>if n=6 then 1 else 0)) (k:=1) bH.col rfl rfl))⟩
theorem kz(w0:World)(g:(Int)×(List Pt))(g_v:Value)(hg_v:Ro w0 g_v g.2):
    Calls Try.prog 30 #[vg [vi g.1,g_v]] w0 (λee w=>ee= .returned (vb (eF g))/\dU w0.heap.size w0 w):=by
 refine ap Try.func30 rfl nq ?_
 have bH:=bm.start w0
 have Rg:=hg_v.sl
 refine aa (a8 rfl (cA rfl (cq c0 (is 1) (1,0) rfl rfl ?_)))
 intro g4 w1 b3 ch2 bx5
 replace bx5:Bx g4 (is 1) w1 b3 [vi g.1,g_v]:=bx5
 refine ma (vb false) (ad (aa (a8 rfl (lx (af cR rfl rfl rfl rfl) (lx (ae ak rfl bx5 rfl) (lx (eS (m:=g.1) (n:=2) rfl rfl) (mv (vb (decide (2<g.1))) ?_)))))))
 by_cases q6:2<g.1
 ·
  refine lv (vg [vi g.1,g_v]) (wy (dt q6)) (aA (ds:=[vi g.1,g_v]) aF rfl bx5 rfl rfl) ?_
  replace Rg:=Rg.cn ch2
  refine cA (wy (dt q6)) (bT (v:=vb (fP g)) (aP (vals:=[vg [vi g.1,g_v]]) Try.func29 nr oq rfl) (j9 w1 g g_v (Rg).ro) ?_)
  intro w6 hb7
  replace hb7:=aY hb7 g4
  refine lw (vb (fP g)) (aN rfl (dt q6) rfl) (mv (vb (fP g)) ?_)
  by_cases q10:(fP g)=true
  ·
   replace bx5:=bx5.cn hb7
   refine lv (vg [vi g.1,g_v]) (wy q10) (aA (ds:=[vi g.1,g_v]) aF rfl bx5 rfl rfl) ?_
   replace Rg:=Rg.cn hb7
   refine cA (wy q10) (c6 (aP (vals:=[vg [vi g.1,g_v]]) Try.func57 nG nI rfl) (qo w6 g g_v (Rg).ro) ?_)
   rintro⟨d9,v11⟩ w8 ⟨fr10,o12⟩
   obtain⟨g13,ch14,G13⟩:=jL g4 fr10 (λn=>if n=1 then 2 else 0)
   replace o12:=o12.gl G13 2
   have len15:=(o12.flat).small
   refine lv (vi (List.length (bM g):Int)) (wy q10) (bO bE rfl o12.flat) (lv (vb (decide ((List.length (bM g):Int)=0))) (wy q10) (d8 (m:=(List.length (bM g):Int)) (n:=0) rfl rfl) (lw (vb (decide ((List.length (bM g):Int)=0))) (aN rfl q10 rfl) (ma (vb (decide ((List.length (bM g):Int)=0))) (ad (aw (vs:=[vb (decide ((List.length (bM g):Int)=0))]) Try.func30 (.tmp rfl .nil) ?_)))))
   have e0:(decide ((List.length (bM g):Int)=0):Bool)=(eF g):=by
     (unfold eF;simp_all;done)
   have C16:=cg [] (ch2.n.seq (hb7.n.seq ch14.n))
   replace bH:=bH.ca C16
   exact⟨(congrArg (a₁:=decide ((List.length (bM g):Int)=0)) (λ(z0:Bool)=>Ending.returned (vb z0)) e0),bH.below⟩
  refine am (wn (Bool.eq_false_iff.2 q10)) (am (wn (Bool.eq_false_iff.2 q10)) (am (wn (Bool.eq_false_iff.2 q10)) (am (wn (Bool.eq_false_iff.2 q10)) (lw (vb false) (aW rfl (Bool.eq_false_iff.2 q10) rfl) (ma (vb false) (ad (aw (vs:=[vb false]) Try.func30 (.tmp rfl .nil) ?_)))))))
  have e0:(false:Bool)=(eF g):=by
    (unfold eF;simp_all;done)
  replace bH:=bH.cn ch2
  replace bH:=bH.cn hb7
  exact⟨rb e0,bH.below⟩
 refine am (wn (df q6)) (am (wn (df q6)) (lw (vb false) (aW rfl (df q6) rfl) (mv (vb false) (am (wn rfl) (am (wn rfl) (am (wn rfl) (am (wn rfl) (lw (vb false) (aW rfl rfl rfl) (ma (vb false) (ad (aw (vs:=[vb false]) Try.func30 (.tmp rfl .nil) ?_)))))))))))
 have e0:(false:Bool)=(eF g):=by
   (unfold eF;rw[df (by omega)];rfl)
 replace bH:=bH.cn ch2
 exact⟨rb e0,bH.below⟩
end TL
