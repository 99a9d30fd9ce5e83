import Derived.Test.YtgneelmmomohdaaSqTlP4
import Derived.Test.YtgneelmmomohdaaSqTlSpA
import Derived.Test.YtgneelmmomohdaaSqTlSpW
import Derived.Test.YtgneelmmomohdaaSqTlBkC
import Derived.Test.YtgneelmmomohdaaSqTlGenA
import Derived.Test.YtgneelmmomohdaaProg
import Derived.Test.YtgneelmmomohdaaSqTlAli
set_option linter.all false
set_option maxRecDepth 20000
namespace TL
open Go Go.Proofs
theorem ox:Try.f29.body.isNone=false:=rfl
theorem pV:(Try.f29.name== "runtime.NumGoroutine")=false:=by decide+kernel
theorem pM:Try.f57.body.isNone=false:=rfl
theorem pK:(Try.f57.name== "runtime.NumGoroutine")=false:=by decide+kernel
theorem vz:Try.f72.body.isNone=false:=rfl
theorem vq:(Try.f72.name== "runtime.NumGoroutine")=false:=by decide+kernel
theorem tR:Try.f73.body.isNone=false:=rfl
theorem tn:(Try.f73.name== "runtime.NumGoroutine")=false:=by decide+kernel
theorem rW(w0:World)(g:(Int)×(List Pt))(g_v:Value)(hg_v:Ro w0 g_v g.2):
    Calls Try.prog 57 #[vg [vi g.1,g_v]] w0 (λee w=>∃xx:aL×Value,ee= .returned ((λ⟨δ,rv0⟩=>rv0) xx)/\(λ(⟨δ,rv0⟩:aL×Value) (w:World)=>eX w0 δ w/\Ow δ (is 1) (is 1) w rv0 (bR g)) xx w):=by
 refine ar Try.func57 rfl nq ?_
 have bH:=bq.start w0
 have Rg:=hg_v.sl
 refine aa (a8 rfl (cF rfl (cA c0 (is 1) (1,0) rfl rfl ?_)))
 intro g4 w1 b3 ch2 bx5
 replace bx5:Bx g4 (is 1) w1 b3 [vi g.1,g_v]:=bx5
 refine ma vn (ad (aa (a8 rfl (lx (aB (ds:=[vi g.1,g_v]) aK rfl bx5 rfl rfl) ?_))))
 replace Rg:=Rg.cn ch2
 refine lo (cd (aQ (vals:=[vg [vi g.1,g_v]]) Try.func72 vz vq rfl) (wN w1 g g_v (Rg).ro) ?_)
 rintro⟨d7,v9,v11⟩ w6 ⟨fr8,o10,o12⟩
 obtain⟨g13,ch14,G13⟩:=jK g4 fr8 (λn=>if n=1 then 2 else if n=2 then 3 else 0)
 replace o10:=o10.gl G13 2
 replace o12:=o12.gl G13 3
 refine mv (vt [vg [vi (((bE g).1).1),v9],v11,vi ((bE g).2.2)]) (lx (aG rfl rfl) (lx (aG rfl rfl) (lx (aG rfl rfl) (lo (bz g13 (is 4) (4,0) rfl aK ?_)))))
 intro g18 w15 b17 ch16 bx19
 replace bx19:Bx g18 (is 4) w15 b17 [vi 0,vn]:=bx19
 refine lo ?_
 replace o10:=o10.cn ch16
 refine aF (cs':=[vi (((bE g).1).1),v9]) aK rfl rfl bx19 rfl nq (AllOne.all (.cons rfl (.cons (bm o10.flat) .nil))) rfl ?_
 intro w20 ch21 bx22
 clear bx19
 refine ma v11 (ai ((bE g).2.2) (ad (aa ?_)))
 clear bx5 o12
 refine a8 rfl (lx (aB (ds:=[vi (((bE g).1).1),v9]) aK rfl bx22 rfl rfl) ?_)
 replace o10:=o10.ce ch21
 refine lo (cd (aQ (vals:=[vg [vi (((bE g).1).1),v9]]) Try.func73 tR tn rfl) (qG w20 ((bE g).1) v9 (o10.flat).ro) ?_)
 rintro⟨d24,v26,v28⟩ w23 ⟨fr25,o27,o29⟩
 obtain⟨g30,ch31,G30⟩:=jK g18 fr25 (λn=>if n=1 then 5 else if n=2 then 6 else 0)
 replace o27:=o27.gl G30 5
 replace o29:=o29.gl G30 6
 refine mv (vt [vg [v26,v28,vi ((((cI ((bE g).1)).1).2).2)],vi ((cI ((bE g).1)).2)]) (lx (aG rfl rfl) (lx (aG rfl rfl) (lo (bz g30 (is 7) (7,0) rfl eM ?_))))
 intro g35 w32 b34 ch33 bx36
 replace bx36:Bx g35 (is 7) w32 b34 [vn,vn,vi 0]:=bx36
 refine lo ?_
 replace o29:=o29.cn ch33
 replace o27:=o27.cn ch33
 refine aF (cs':=[v26,v28,vi ((((cI ((bE g).1)).1).2).2)]) eM rfl rfl bx36 rfl nq (AllOne.all (.cons (bm o27.flat) (.cons (bm o29.flat) (.cons rfl .nil)))) rfl ?_
 intro w37 ch38 bx39
 clear bx36
 refine ai ((cI ((bE g).1)).2) (ad (aa ?_))
 clear o10 bx22
 refine a8 rfl (lx (af mC rfl rfl rfl rfl) (lx (ae aZ rfl bx39 rfl) (ma v28 (ad (aD (vs:=[v28]) Try.func57 (.tmp rfl .nil) ?_)))))
 have C40:=cg [4,7] (ch2.n.seq (ch14.n.seq (ch16.n.seq ((ch21.l rfl).seq (ch31.n.seq (ch33.n.seq (ch38.l rfl)))))))
 replace bH:=bH.ca C40
 replace o29:=o29.ce ch38
 have e0:((((cI ((bE g).1)).1).2).1:List Int)=(bR g):=by
   rfl
 exact⟨(fin w0 g35 (λn=>if n=6 then 1 else 0),v28),(congrArg (a₁:=(((cI ((bE g).1)).1).2).1) (λ(z0:List Int)=>Ending.returned (v28)) e0),bH.fresh _,(e0▸(o29.glue (γ:=c0) (ren:=(λn=>if n=6 then 1 else 0)) (k:=1) bH.col rfl rfl))⟩
theorem lQ(w0:World)(g:(Int)×(List Pt))(g_v:Value)(hg_v:Ro w0 g_v g.2):
    Calls Try.prog 30 #[vg [vi g.1,g_v]] w0 (λee w=>ee= .returned (vb (fg g))/\e8 w0.heap.size w0 w):=by
 refine ar Try.func30 rfl nq ?_
 have bH:=bq.start w0
 have Rg:=hg_v.sl
 refine aa (a8 rfl (cF rfl (cA c0 (is 1) (1,0) rfl rfl ?_)))
 intro g4 w1 b3 ch2 bx5
 replace bx5:Bx g4 (is 1) w1 b3 [vi g.1,g_v]:=bx5
 refine ma (vb false) (ad (aa (a8 rfl (lx (af d4 rfl rfl rfl rfl) (lx (ae ak rfl bx5 rfl) (lx (eo (m:=g.1) (n:=2) rfl rfl) (mv (vb (decide (2<g.1))) ?_)))))))
 by_cases q6:2<g.1
 ·
  refine lv (vg [vi g.1,g_v]) (wy (dt q6)) (aB (ds:=[vi g.1,g_v]) aK rfl bx5 rfl rfl) ?_
  replace Rg:=Rg.cn ch2
  refine cF (wy (dt q6)) (bT (v:=vb (gm g)) (aQ (vals:=[vg [vi g.1,g_v]]) Try.func29 ox pV rfl) (jy w1 g g_v (Rg).ro) ?_)
  intro w6 hb7
  replace hb7:=aT hb7 g4
  refine lw (vb (gm g)) (aV rfl (dt q6) rfl) (mv (vb (gm g)) ?_)
  by_cases q10:(gm g)=true
  ·
   replace bx5:=bx5.cn hb7
   refine lv (vg [vi g.1,g_v]) (wy q10) (aB (ds:=[vi g.1,g_v]) aK rfl bx5 rfl rfl) ?_
   replace Rg:=Rg.cn hb7
   refine cF (wy q10) (cd (aQ (vals:=[vg [vi g.1,g_v]]) Try.func57 pM pK rfl) (rW w6 g g_v (Rg).ro) ?_)
   rintro⟨d9,v11⟩ w8 ⟨fr10,o12⟩
   obtain⟨g13,ch14,G13⟩:=jK g4 fr10 (λn=>if n=1 then 2 else 0)
   replace o12:=o12.gl G13 2
   have len15:=(o12.flat).small
   refine lv (vi (List.length (bR g):Int)) (wy q10) (bJ bD rfl o12.flat) (lv (vb (decide ((List.length (bR g):Int)=0))) (wy q10) (cK (m:=(List.length (bR g):Int)) (n:=0) rfl rfl) (lw (vb (decide ((List.length (bR g):Int)=0))) (aV rfl q10 rfl) (ma (vb (decide ((List.length (bR g):Int)=0))) (ad (aD (vs:=[vb (decide ((List.length (bR g):Int)=0))]) Try.func30 (.tmp rfl .nil) ?_)))))
   have e0:(decide ((List.length (bR g):Int)=0):Bool)=(fg g):=by
     (unfold fg;simp_all;done)
   have C16:=cg [] (ch2.n.seq (hb7.n.seq ch14.n))
   replace bH:=bH.ca C16
   exact⟨(congrArg (a₁:=decide ((List.length (bR g):Int)=0)) (λ(z0:Bool)=>Ending.returned (vb z0)) e0),bH.below⟩
  refine az (wn (Bool.eq_false_iff.2 q10)) (az (wn (Bool.eq_false_iff.2 q10)) (az (wn (Bool.eq_false_iff.2 q10)) (az (wn (Bool.eq_false_iff.2 q10)) (lw (vb false) (aS rfl (Bool.eq_false_iff.2 q10) rfl) (ma (vb false) (ad (aD (vs:=[vb false]) Try.func30 (.tmp rfl .nil) ?_)))))))
  have e0:(false:Bool)=(fg g):=by
    (unfold fg;simp_all;done)
  replace bH:=bH.cn ch2
  replace bH:=bH.cn hb7
  exact⟨rb e0,bH.below⟩
 refine az (wn (df q6)) (az (wn (df q6)) (lw (vb false) (aS rfl (df q6) rfl) (mv (vb false) (az (wn rfl) (az (wn rfl) (az (wn rfl) (az (wn rfl) (lw (vb false) (aS rfl rfl rfl) (ma (vb false) (ad (aD (vs:=[vb false]) Try.func30 (.tmp rfl .nil) ?_)))))))))))
 have e0:(false:Bool)=(fg g):=by
   (unfold fg;rw[df (by omega)];rfl)
 replace bH:=bH.cn ch2
 exact⟨rb e0,bH.below⟩
end TL
