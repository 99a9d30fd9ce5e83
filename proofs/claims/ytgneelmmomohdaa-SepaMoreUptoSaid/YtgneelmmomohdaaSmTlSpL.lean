import Derived.Test.YtgneelmmomohdaaSmTlP4
import Derived.Test.YtgneelmmomohdaaSmTlSpA
import Derived.Test.YtgneelmmomohdaaSmTlSpW
import Derived.Test.YtgneelmmomohdaaSmTlSpC
import Derived.Test.YtgneelmmomohdaaSmTlSpD
import Derived.Test.YtgneelmmomohdaaSmTlSpP
import Derived.Test.YtgneelmmomohdaaSmTlGenA
import Derived.Test.YtgneelmmomohdaaProg
import Derived.Test.YtgneelmmomohdaaSmTlAli
set_option linter.all false
set_option maxRecDepth 20000
namespace TL
open Go Go.Proofs
theorem nU:Try.f30.body.isNone=false:=rfl
theorem nt:(Try.f30.name== "runtime.NumGoroutine")=false:=by decide+kernel
theorem ld:Try.f31.body.isNone=false:=rfl
theorem lA:(Try.f31.name== "runtime.NumGoroutine")=false:=by decide+kernel
theorem ni:Try.f32.body.isNone=false:=rfl
theorem n5:(Try.f32.name== "runtime.NumGoroutine")=false:=by decide+kernel
theorem jo(w0:World)(g:(Int)×(List Pt))(g_v:Value)(hg_v:Ro w0 g_v g.2):
    Calls Try.prog 9 #[vg [vi g.1,g_v]] w0 (λee w=>ee= .returned (vt [vi ((aX g).1),vi ((aX g).2)])/\dU w0.heap.size w0 w):=by
 refine ap Try.func9 rfl nq ?_
 have bH:=bm.start w0
 have Rg:=hg_v.sl
 refine aa (a8 rfl (cA rfl (cq c0 (is 1) (1,0) rfl rfl ?_)))
 intro g4 w1 b3 ch2 bx5
 replace bx5:Bx g4 (is 1) w1 b3 [vi g.1,g_v]:=bx5
 refine ai 0 (ai 0 (ad (aa (ao (aa (a8 rfl (lx (aA (ds:=[vi g.1,g_v]) aF rfl bx5 rfl rfl) ?_)))))))
 replace Rg:=Rg.cn ch2
 refine lo (bT (v:=vb (cE g)) (aP (vals:=[vg [vi g.1,g_v]]) Try.func28 i5 hU rfl) (gT w1 g g_v (Rg).ro) ?_)
 intro w6 hb7
 replace hb7:=aY hb7 g4
 refine lx (e8 (b:=(cE g)) rfl) (ma (vb (!(cE g))) (ad ?_))
 by_cases p1:(cE g)=true
 ·
  refine aj rfl (congrArg Bool.not p1) (aa (a8 rfl (lx (af cR rfl rfl rfl rfl) ?_)))
  replace bx5:=bx5.cn hb7
  refine lx (ae ak rfl bx5 rfl) (lx (bf (m:=g.1) (n:=2) rfl rfl) (mv (vb (decide (g.1<2))) ?_))
  by_cases q12:g.1<2
  ·
   refine am (wn (dt q12)) (am (wn (dt q12)) (am (wn (dt q12)) (lw (vb true) (aN rfl (dt q12) rfl) (ma (vb true) (ad (ah rfl rfl (aa ?_)))))))
   clear bx5
   refine a8 rfl (ai 0 (ai 0 (ad (aw (vs:=[vi 0,vi 0]) Try.func9 (.tmp rfl (.tmp rfl .nil)) ?_))))
   have e0:(0:Int)=((aX g).1):=by
     rw[tf (of_decide_eq_true ‹_›) (by omega)]
   have e1:(0:Int)=((aX g).2):=by
     rw[tf (of_decide_eq_true ‹_›) (by omega)]
   replace bH:=bH.cn ch2
   replace bH:=bH.cn hb7
   exact⟨(c9 (a:=0) (b:=0) (λ(z0:Int) (z1:Int)=>Ending.returned (vt [vi z0,vi z1])) e0 e1),bH.below⟩
  refine lv (vg [vi g.1,g_v]) (wy (df q12)) (aA (ds:=[vi g.1,g_v]) aF rfl bx5 rfl rfl) ?_
  replace Rg:=Rg.cn hb7
  refine cA (wy (df q12)) (bT (v:=vb (fP g)) (aP (vals:=[vg [vi g.1,g_v]]) Try.func29 nr oq rfl) (j9 w6 g g_v (Rg).ro) ?_)
  intro w8 hb9
  replace hb9:=aY hb9 g4
  refine lv (vb (!(fP g))) (wy (df q12)) (e8 (b:=(fP g)) rfl) (lw (vb (!(fP g))) (aW rfl (df q12) rfl) (ma (vb (!(fP g))) (ad ?_)))
  by_cases p3:(fP g)=true
  ·
   refine aj rfl (congrArg Bool.not p3) (aa (a8 rfl ?_))
   replace bx5:=bx5.cn hb9
   refine lx (aA (ds:=[vi g.1,g_v]) aF rfl bx5 rfl rfl) ?_
   replace Rg:=Rg.cn hb9
   refine lo (bT (v:=vb (eF g)) (aP (vals:=[vg [vi g.1,g_v]]) Try.func30 nU nt rfl) (kz w8 g g_v (Rg).ro) ?_)
   intro w10 hb11
   replace hb11:=aY hb11 g4
   refine lx (e8 (b:=(eF g)) rfl) (ma (vb (!(eF g))) (ad ?_))
   by_cases p5:(eF g)=true
   ·
    refine aj rfl (congrArg Bool.not p5) (aa (a8 rfl (lx (af cR rfl rfl rfl rfl) ?_)))
    replace bx5:=bx5.cn hb11
    refine lx (ae ak rfl bx5 rfl) (lx (bf (m:=g.1) (n:=4) rfl rfl) (mv (vb (decide (g.1<4))) ?_))
    by_cases q25:g.1<4
    ·
     refine am (wn (dt q25)) (am (wn (dt q25)) (am (wn (dt q25)) (am (wn (dt q25)) (lw (vb true) (aN rfl (dt q25) rfl) (ma (vb true) (ad (ah rfl rfl (aa ?_))))))))
     clear bx5
     refine a8 rfl (ai 2 (ai 0 (ad (aw (vs:=[vi 2,vi 0]) Try.func9 (.tmp rfl (.tmp rfl .nil)) ?_))))
     have e0:(2:Int)=((aX g).1):=by
       rw[pz (of_decide_eq_true ‹_›) (by omega) ‹_› ‹_› (by omega)]
     have e1:(0:Int)=((aX g).2):=by
       rw[pz (of_decide_eq_true ‹_›) (by omega) ‹_› ‹_› (by omega)]
     have C12:=cg [] (ch2.n.seq (hb7.n.seq (hb9.n.seq hb11.n)))
     replace bH:=bH.ca C12
     exact⟨(c9 (a:=2) (b:=0) (λ(z0:Int) (z1:Int)=>Ending.returned (vt [vi z0,vi z1])) e0 e1),bH.below⟩
    refine lv (vg [vi g.1,g_v]) (wy (df q25)) (aA (ds:=[vi g.1,g_v]) aF rfl bx5 rfl rfl) ?_
    replace Rg:=Rg.cn hb11
    refine cA (wy (df q25)) (c6 (aP (vals:=[vg [vi g.1,g_v],vi 1]) Try.func31 ld lA rfl) (jO w10 g g_v (Rg).ro 1 (by exact of_decide_eq_true ‹_›)) ?_)
    rintro⟨d14,v16⟩ w13 ⟨fr15,o17⟩
    obtain⟨g18,ch19,G18⟩:=jL g4 fr15 (λn=>if n=1 then 2 else 0)
    replace o17:=o17.gl G18 2
    have len20:=(o17.flat).small
    refine lv (vi (List.length (bZ g 1):Int)) (wy (df q25)) (bO de rfl o17.flat) (lv (vb (decide (0<(List.length (bZ g 1):Int)))) (wy (df q25)) (eS (m:=(List.length (bZ g 1):Int)) (n:=0) rfl rfl) (lw (vb (decide (0<(List.length (bZ g 1):Int)))) (aW rfl (df q25) rfl) (ma (vb (decide (0<(List.length (bZ g 1):Int)))) (ad ?_))))
    by_cases p7:0<(List.length (bZ g 1):Int)
    ·
     refine ah rfl (dt p7) (aa ?_)
     clear bx5 o17
     refine a8 rfl (ai 2 (ai 0 (ad (aw (vs:=[vi 2,vi 0]) Try.func9 (.tmp rfl (.tmp rfl .nil)) ?_))))
     have e0:(2:Int)=((aX g).1):=by
       rw[pz (of_decide_eq_true ‹_›) (by omega) ‹_› ‹_› (by omega)]
     have e1:(0:Int)=((aX g).2):=by
       rw[pz (of_decide_eq_true ‹_›) (by omega) ‹_› ‹_› (by omega)]
     have C21:=cg [] (ch2.n.seq (hb7.n.seq (hb9.n.seq (hb11.n.seq ch19.n))))
     replace bH:=bH.ca C21
     exact⟨(c9 (a:=2) (b:=0) (λ(z0:Int) (z1:Int)=>Ending.returned (vt [vi z0,vi z1])) e0 e1),bH.below⟩
    refine aj rfl (df p7) (ar (al (aa ?_)))
    clear bx5 o17
    refine a8 rfl (ai 3 (ai 0 (ad (aw (vs:=[vi 3,vi 0]) Try.func9 (.tmp rfl (.tmp rfl .nil)) ?_))))
    have e0:(3:Int)=((aX g).1):=by
      rw[vv (of_decide_eq_true ‹_›) (by omega) ‹_› ‹_› (by omega)]
    have e1:(0:Int)=((aX g).2):=by
      rw[vv (of_decide_eq_true ‹_›) (by omega) ‹_› ‹_› (by omega)]
    have C22:=cg [] (ch2.n.seq (hb7.n.seq (hb9.n.seq (hb11.n.seq ch19.n))))
    replace bH:=bH.ca C22
    exact⟨(c9 (a:=3) (b:=0) (λ(z0:Int) (z1:Int)=>Ending.returned (vt [vi z0,vi z1])) e0 e1),bH.below⟩
   refine ah rfl (congrArg Bool.not (Bool.eq_false_iff.2 p5)) (aa ?_)
   clear bx5
   refine a8 rfl (ai 1 (ai 0 (ad (aw (vs:=[vi 1,vi 0]) Try.func9 (.tmp rfl (.tmp rfl .nil)) ?_))))
   have e0:(1:Int)=((aX g).1):=by
     rw[vK (of_decide_eq_true ‹_›) (by omega) ‹_› ‹_›]
   have e1:(0:Int)=((aX g).2):=by
     rw[vK (of_decide_eq_true ‹_›) (by omega) ‹_› ‹_›]
   have C23:=cg [] (ch2.n.seq (hb7.n.seq (hb9.n.seq hb11.n)))
   replace bH:=bH.ca C23
   exact⟨(c9 (a:=1) (b:=0) (λ(z0:Int) (z1:Int)=>Ending.returned (vt [vi z0,vi z1])) e0 e1),bH.below⟩
  refine ah rfl (congrArg Bool.not (Bool.eq_false_iff.2 p3)) (aa ?_)
  clear bx5
  refine a8 rfl (ai 0 (ai 0 (ad (aw (vs:=[vi 0,vi 0]) Try.func9 (.tmp rfl (.tmp rfl .nil)) ?_))))
  have e0:(0:Int)=((aX g).1):=by
    rw[t6 (of_decide_eq_true ‹_›) ‹_›]
  have e1:(0:Int)=((aX g).2):=by
    rw[t6 (of_decide_eq_true ‹_›) ‹_›]
  have C24:=cg [] (ch2.n.seq (hb7.n.seq hb9.n))
  replace bH:=bH.ca C24
  exact⟨(c9 (a:=0) (b:=0) (λ(z0:Int) (z1:Int)=>Ending.returned (vt [vi z0,vi z1])) e0 e1),bH.below⟩
 refine ah rfl (congrArg Bool.not (Bool.eq_false_iff.2 p1)) (aa ?_)
 clear bx5
 refine a8 rfl (ai 0 (ai 1 (ad (aw (vs:=[vi 0,vi 1]) Try.func9 (.tmp rfl (.tmp rfl .nil)) ?_))))
 have e0:(0:Int)=((aX g).1):=by
   rw[s7 (λh=>absurd (dt h) ‹_›)]
 have e1:(1:Int)=((aX g).2):=by
   rw[s7 (λh=>absurd (dt h) ‹_›)]
 replace bH:=bH.cn ch2
 replace bH:=bH.cn hb7
 exact⟨(c9 (a:=0) (b:=1) (λ(z0:Int) (z1:Int)=>Ending.returned (vt [vi z0,vi z1])) e0 e1),bH.below⟩
theorem iM(w0:World)(g:(Int)×(List Pt))(g_v:Value)(hg_v:Ro w0 g_v g.2):
    Calls Try.prog 10 #[vg [vi g.1,g_v]] w0 (λee w=>∃xx:aG×Value,ee= .returned ((λ⟨δ,rv0⟩=>vt [rv0,vi ((b6 g).2)]) xx)/\(λ(⟨δ,rv0⟩:aG×Value) (w:World)=>eQ w0 δ w/\Ow δ (is 1) (is 1) w rv0 ((b6 g).1)) xx w):=by
 refine ap Try.func10 rfl nq ?_
 have bH:=bm.start w0
 have Rg:=hg_v.sl
 refine aa (a8 rfl (cA rfl (cq c0 (is 1) (1,0) rfl rfl ?_)))
 intro g4 w1 b3 ch2 bx5
 replace bx5:Bx g4 (is 1) w1 b3 [vi g.1,g_v]:=bx5
 refine ma vn (ai 0 (ad (aa (ao (aa (a8 rfl (lx (aA (ds:=[vi g.1,g_v]) aF rfl bx5 rfl rfl) ?_)))))))
 replace Rg:=Rg.cn ch2
 refine lo (bT (v:=vb (cE g)) (aP (vals:=[vg [vi g.1,g_v]]) Try.func28 i5 hU rfl) (gT w1 g g_v (Rg).ro) ?_)
 intro w6 hb7
 replace hb7:=aY hb7 g4
 refine lx (e8 (b:=(cE g)) rfl) (ma (vb (!(cE g))) (ad ?_))
 by_cases p1:(cE g)=true
 ·
  have hmN:aV g:=of_decide_eq_true ‹_›
  obtain⟨hmN0,hmN1⟩:=wN hmN
  refine aj rfl (congrArg Bool.not p1) (aa (a8 rfl ?_))
  replace bx5:=bx5.cn hb7
  refine lx (aA (ds:=[vi g.1,g_v]) aF rfl bx5 rfl rfl) ?_
  replace Rg:=Rg.cn hb7
  refine lo (bT (v:=vb (eF g)) (aP (vals:=[vg [vi g.1,g_v]]) Try.func30 nU nt rfl) (kz w6 g g_v (Rg).ro) ?_)
  intro w8 hb9
  replace hb9:=aY hb9 g4
  refine lx (e8 (b:=(eF g)) rfl) (ma (vb (!(eF g))) (ad ?_))
  by_cases p3:(eF g)=true
  ·
   refine aj rfl (congrArg Bool.not p3) (ar (al (aa (a8 rfl ?_))))
   replace bx5:=bx5.cn hb9
   refine lx (aA (ds:=[vi g.1,g_v]) aF rfl bx5 rfl rfl) (lx (af cR rfl rfl rfl rfl) (lx (ae ak rfl bx5 rfl) (lx (af cR rfl rfl rfl rfl) (lx (ae ak rfl bx5 rfl) (lx (ln (m:=g.1) (n:=g.1) rfl rfl (by omega)) ?_)))))
   replace Rg:=Rg.cn hb9
   refine lo (c6 (aP (vals:=[vg [vi g.1,g_v],vi (g.1*g.1)]) Try.func31 ld lA rfl) (jO w8 g g_v (Rg).ro (g.1*g.1) (by exact of_decide_eq_true ‹_›)) ?_)
   rintro⟨d11,v13⟩ w10 ⟨fr12,o14⟩
   obtain⟨g15,ch16,G15⟩:=jL g4 fr12 (λn=>if n=1 then 2 else 0)
   replace o14:=o14.gl G15 2
   refine ma v13 (ai 0 (ad (aw (vs:=[v13,vi 0]) Try.func10 (.tmp rfl (.tmp rfl .nil)) ?_)))
   have C17:=cg [] (ch2.n.seq (hb7.n.seq (hb9.n.seq ch16.n)))
   replace bH:=bH.ca C17
   have e0:(bZ g (g.1*g.1):List Pt)=((b6 g).1):=by
     rw[mG (of_decide_eq_true ‹_›) ‹_›]
   have e1:(0:Int)=((b6 g).2):=by
     rw[mG (of_decide_eq_true ‹_›) ‹_›]
   exact⟨(fin w0 g15 (λn=>if n=2 then 1 else 0),v13),(c9 (a:=bZ g (g.1*g.1)) (b:=0) (λ(z0:List Pt) (z1:Int)=>Ending.returned (vt [v13,vi z1])) e0 e1),bH.fresh _,(e0▸(o14.glue (γ:=c0) (ren:=(λn=>if n=2 then 1 else 0)) (k:=1) bH.col rfl rfl))⟩
  refine ah rfl (congrArg Bool.not (Bool.eq_false_iff.2 p3)) (aa ?_)
  clear bx5
  refine a8 rfl (ma vn (ai 7 (ad (aw (vs:=[vn,vi 7]) Try.func10 (.tmp rfl (.tmp rfl .nil)) ?_))))
  have C18:=cg [] (ch2.n.seq (hb7.n.seq hb9.n))
  replace bH:=bH.ca C18
  have e0:([]:List Pt)=((b6 g).1):=by
    rw[rK (of_decide_eq_true ‹_›) ‹_›]
  have e1:(7:Int)=((b6 g).2):=by
    rw[rK (of_decide_eq_true ‹_›) ‹_›]
  exact⟨(fin w0 g4 (λn=>0),vn),(c9 (a:=[]) (b:=7) (λ(z0:List Pt) (z1:Int)=>Ending.returned (vt [vn,vi z1])) e0 e1),bH.fresh _,(e0▸Ow.nil)⟩
 refine ah rfl (congrArg Bool.not (Bool.eq_false_iff.2 p1)) (aa ?_)
 clear bx5
 refine a8 rfl (ma vn (ai 1 (ad (aw (vs:=[vn,vi 1]) Try.func10 (.tmp rfl (.tmp rfl .nil)) ?_))))
 replace bH:=bH.cn ch2
 replace bH:=bH.cn hb7
 have e0:([]:List Pt)=((b6 g).1):=by
   rw[si (λh=>absurd (dt h) ‹_›)]
 have e1:(1:Int)=((b6 g).2):=by
   rw[si (λh=>absurd (dt h) ‹_›)]
 exact⟨(fin w0 g4 (λn=>0),vn),(c9 (a:=[]) (b:=1) (λ(z0:List Pt) (z1:Int)=>Ending.returned (vt [vn,vi z1])) e0 e1),bH.fresh _,(e0▸Ow.nil)⟩
theorem mg(w0:World)(g:(Int)×(List Pt))(g_v:Value)(hg_v:Ro w0 g_v g.2)(u:Int)(v:Int):
    Calls Try.prog 11 #[vg [vi g.1,g_v],vi u,vi v] w0 (λee w=>∃xx:aG×Value,ee= .returned ((λ⟨δ,rv0⟩=>vt [rv0,vi ((bq g u v).2)]) xx)/\(λ(⟨δ,rv0⟩:aG×Value) (w:World)=>eQ w0 δ w/\dF δ 1 w rv0 ((bq g u v).1)) xx w):=by
 refine ap Try.func11 rfl nq ?_
 have bH:=bm.start w0
 have Rg:=hg_v.sl
 refine aa (a8 rfl (cA rfl (cq c0 (is 1) (1,0) rfl rfl ?_)))
 intro g4 w1 b3 ch2 bx5
 replace bx5:Bx g4 (is 1) w1 b3 [vi g.1,g_v]:=bx5
 refine ma vn (ai 0 (ad (aa (ao (aa (a8 rfl (lx (aA (ds:=[vi g.1,g_v]) aF rfl bx5 rfl rfl) ?_)))))))
 replace Rg:=Rg.cn ch2
 refine lo (bT (v:=vb (cE g)) (aP (vals:=[vg [vi g.1,g_v]]) Try.func28 i5 hU rfl) (gT w1 g g_v (Rg).ro) ?_)
 intro w6 hb7
 replace hb7:=aY hb7 g4
 refine lx (e8 (b:=(cE g)) rfl) (ma (vb (!(cE g))) (ad ?_))
 by_cases p1:(cE g)=true
 ·
  refine aj rfl (congrArg Bool.not p1) (aa (a8 rfl (mi u (lx (bf (m:=u) (n:=0) rfl rfl) (mv (vb (decide (u<0))) ?_)))))
  by_cases q15:u<0
  ·
   refine am (wn (dt q15)) (am (wn (dt q15)) (am (wn (dt q15)) (am (wn (dt q15)) (lw (vb true) (aN rfl (dt q15) rfl) (mv (vb true) (am (wn rfl) (am (wn rfl) (lw (vb true) (aN rfl rfl rfl) (mv (vb true) (am (wn rfl) (am (wn rfl) (am (wn rfl) (am (wn rfl) ?_)))))))))))))
   refine lw (vb true) (aN rfl rfl rfl) (mv (vb true) (am (wn rfl) (am (wn rfl) (am (wn rfl) (lw (vb true) (aN rfl rfl rfl) (ma (vb true) (ad (ah rfl rfl (aa ?_)))))))))
   clear bx5
   refine a8 rfl (ma vn (ai 2 (ad (aw (vs:=[vn,vi 2]) Try.func11 (.tmp rfl (.tmp rfl .nil)) ?_))))
   replace bH:=bH.cn ch2
   replace bH:=bH.cn hb7
   have e0:([]:ip)=((bq g u v).1):=by
     rw[iE (of_decide_eq_true ‹_›) (by omega)]
   have e1:(2:Int)=((bq g u v).2):=by
     rw[iE (of_decide_eq_true ‹_›) (by omega)]
   exact⟨(fin w0 g4 (λn=>0),vn),(c9 (a:=[]) (b:=2) (λ(z0:ip) (z1:Int)=>Ending.returned (vt [vn,vi z1])) e0 e1),bH.fresh _,(e0▸dF.nil)⟩
  refine lv (vi u) (wy (df q15)) (au rfl) (lv (vp b3 0) (wy (df q15)) (af cR rfl rfl rfl rfl) ?_)
  replace bx5:=bx5.cn hb7
  refine lv (vi g.1) (wy (df q15)) (ae ak rfl bx5 rfl) (lv (vb (decide (g.1<=u))) (wy (df q15)) (fL (m:=u) (n:=g.1) rfl rfl) (lw (vb (decide (g.1<=u))) (aW rfl (df q15) rfl) (mv (vb (decide (g.1<=u))) ?_)))
  by_cases q21:g.1<=u
  ·
   refine am (wn (dt q21)) (am (wn (dt q21)) (lw (vb true) (aN rfl (dt q21) rfl) (mv (vb true) (am (wn rfl) (am (wn rfl) (am (wn rfl) (am (wn rfl) (lw (vb true) (aN rfl rfl rfl) (mv (vb true) (am (wn rfl) (am (wn rfl) (am (wn rfl) (lw (vb true) (aN rfl rfl rfl) (ma (vb true) ?_))))))))))))))
   refine ad (ah rfl rfl (aa ?_))
   clear bx5
   refine a8 rfl (ma vn (ai 2 (ad (aw (vs:=[vn,vi 2]) Try.func11 (.tmp rfl (.tmp rfl .nil)) ?_))))
   replace bH:=bH.cn ch2
   replace bH:=bH.cn hb7
   have e0:([]:ip)=((bq g u v).1):=by
     rw[iE (of_decide_eq_true ‹_›) (by omega)]
   have e1:(2:Int)=((bq g u v).2):=by
     rw[iE (of_decide_eq_true ‹_›) (by omega)]
   exact⟨(fin w0 g4 (λn=>0),vn),(c9 (a:=[]) (b:=2) (λ(z0:ip) (z1:Int)=>Ending.returned (vt [vn,vi z1])) e0 e1),bH.fresh _,(e0▸dF.nil)⟩
  refine lv (vi v) (wy (df q21)) (au rfl) (lv (vb (decide (v<0))) (wy (df q21)) (bf (m:=v) (n:=0) rfl rfl) (lw (vb (decide (v<0))) (aW rfl (df q21) rfl) (mv (vb (decide (v<0))) ?_)))
  by_cases q25:v<0
  ·
   refine am (wn (dt q25)) (am (wn (dt q25)) (am (wn (dt q25)) (am (wn (dt q25)) (lw (vb true) (aN rfl (dt q25) rfl) (mv (vb true) (am (wn rfl) (am (wn rfl) (am (wn rfl) (lw (vb true) (aN rfl rfl rfl) (ma (vb true) (ad ?_)))))))))))
   refine ah rfl rfl (aa ?_)
   clear bx5
   refine a8 rfl (ma vn (ai 2 (ad (aw (vs:=[vn,vi 2]) Try.func11 (.tmp rfl (.tmp rfl .nil)) ?_))))
   replace bH:=bH.cn ch2
   replace bH:=bH.cn hb7
   have e0:([]:ip)=((bq g u v).1):=by
     rw[iE (of_decide_eq_true ‹_›) (by omega)]
   have e1:(2:Int)=((bq g u v).2):=by
     rw[iE (of_decide_eq_true ‹_›) (by omega)]
   exact⟨(fin w0 g4 (λn=>0),vn),(c9 (a:=[]) (b:=2) (λ(z0:ip) (z1:Int)=>Ending.returned (vt [vn,vi z1])) e0 e1),bH.fresh _,(e0▸dF.nil)⟩
  refine lv (vi v) (wy (df q25)) (au rfl) (lv (vp b3 0) (wy (df q25)) (af cR rfl rfl rfl rfl) (lv (vi g.1) (wy (df q25)) (ae ak rfl bx5 rfl) (lv (vb (decide (g.1<=v))) (wy (df q25)) (fL (m:=v) (n:=g.1) rfl rfl) (lw (vb (decide (g.1<=v))) (aW rfl (df q25) rfl) (mv (vb (decide (g.1<=v))) ?_)))))
  by_cases q31:g.1<=v
  ·
   refine am (wn (dt q31)) (am (wn (dt q31)) (am (wn (dt q31)) (lw (vb true) (aN rfl (dt q31) rfl) (ma (vb true) (ad (ah rfl rfl (aa ?_)))))))
   clear bx5
   refine a8 rfl (ma vn (ai 2 (ad (aw (vs:=[vn,vi 2]) Try.func11 (.tmp rfl (.tmp rfl .nil)) ?_))))
   replace bH:=bH.cn ch2
   replace bH:=bH.cn hb7
   have e0:([]:ip)=((bq g u v).1):=by
     rw[iE (of_decide_eq_true ‹_›) (by omega)]
   have e1:(2:Int)=((bq g u v).2):=by
     rw[iE (of_decide_eq_true ‹_›) (by omega)]
   exact⟨(fin w0 g4 (λn=>0),vn),(c9 (a:=[]) (b:=2) (λ(z0:ip) (z1:Int)=>Ending.returned (vt [vn,vi z1])) e0 e1),bH.fresh _,(e0▸dF.nil)⟩
  refine lv (vi u) (wy (df q31)) (au rfl) (lv (vi v) (wy (df q31)) (au rfl) (lv (vb (decide (u=v))) (wy (df q31)) (d8 (m:=u) (n:=v) rfl rfl) (lw (vb (decide (u=v))) (aW rfl (df q31) rfl) (ma (vb (decide (u=v))) (ad ?_)))))
  by_cases p3:u=v
  ·
   refine ah rfl (dt p3) (aa ?_)
   clear bx5
   refine a8 rfl (ma vn (ai 2 (ad (aw (vs:=[vn,vi 2]) Try.func11 (.tmp rfl (.tmp rfl .nil)) ?_))))
   replace bH:=bH.cn ch2
   replace bH:=bH.cn hb7
   have e0:([]:ip)=((bq g u v).1):=by
     rw[iE (of_decide_eq_true ‹_›) (by omega)]
   have e1:(2:Int)=((bq g u v).2):=by
     rw[iE (of_decide_eq_true ‹_›) (by omega)]
   exact⟨(fin w0 g4 (λn=>0),vn),(c9 (a:=[]) (b:=2) (λ(z0:ip) (z1:Int)=>Ending.returned (vt [vn,vi z1])) e0 e1),bH.fresh _,(e0▸dF.nil)⟩
  refine aj rfl (df p3) (ar (al (aa (a8 rfl (lx (aA (ds:=[vi g.1,g_v]) aF rfl bx5 rfl rfl) (mi u (mi v ?_)))))))
  replace Rg:=Rg.cn hb7
  refine lo (c6 (aP (vals:=[vg [vi g.1,g_v],vi u,vi v]) Try.func32 ni n5 rfl) (jZ w6 g g_v (Rg).ro u v (by exact of_decide_eq_true ‹_›)) ?_)
  rintro⟨d9,v11⟩ w8 ⟨fr10,o12⟩
  obtain⟨g13,ch14,G13⟩:=jL g4 fr10 (λn=>if n=1 then 2 else 0)
  replace o12:=o12.gl G13 2
  refine ma v11 (ai 0 (ad (aw (vs:=[v11,vi 0]) Try.func11 (.tmp rfl (.tmp rfl .nil)) ?_)))
  have C15:=cg [] (ch2.n.seq (hb7.n.seq ch14.n))
  replace bH:=bH.ca C15
  have e0:(dZ g u v:ip)=((bq g u v).1):=by
    rw[sF (of_decide_eq_true ‹_›) (by omega)]
  have e1:(0:Int)=((bq g u v).2):=by
    rw[sF (of_decide_eq_true ‹_›) (by omega)]
  exact⟨(fin w0 g13 (λn=>if n=2 then 1 else 0),v11),(c9 (a:=dZ g u v) (b:=0) (λ(z0:ip) (z1:Int)=>Ending.returned (vt [v11,vi z1])) e0 e1),bH.fresh _,(e0▸(o12.glue (γ:=c0) (ren:=(λn=>if n=2 then 1 else 0)) (k:=1) bH.col rfl rfl))⟩
 refine ah rfl (congrArg Bool.not (Bool.eq_false_iff.2 p1)) (aa ?_)
 clear bx5
 refine a8 rfl (ma vn (ai 1 (ad (aw (vs:=[vn,vi 1]) Try.func11 (.tmp rfl (.tmp rfl .nil)) ?_))))
 replace bH:=bH.cn ch2
 replace bH:=bH.cn hb7
 have e0:([]:ip)=((bq g u v).1):=by
   rw[rZ (λh=>absurd (dt h) ‹_›)]
 have e1:(1:Int)=((bq g u v).2):=by
   rw[rZ (λh=>absurd (dt h) ‹_›)]
 exact⟨(fin w0 g4 (λn=>0),vn),(c9 (a:=[]) (b:=1) (λ(z0:ip) (z1:Int)=>Ending.returned (vt [vn,vi z1])) e0 e1),bH.fresh _,(e0▸dF.nil)⟩
theorem mb(w0:World)(g:(Int)×(List Pt))(g_v:Value)(hg_v:Ro w0 g_v g.2)(u:Int)(v:Int)(hm:aV g):
    Calls Try.prog 34 #[vg [vi g.1,g_v],vi u,vi v] w0 (λee w=>ee= .returned (vb (ft g u v))/\dU w0.heap.size w0 w):=by
 refine ap Try.func34 rfl nq ?_
 have bH:=bm.start w0
 have Rg:=hg_v.sl
 have hm0:=hm
 obtain⟨hm1,hm2,hm3,hm4⟩:=hm0
 refine aa (a8 rfl (cA rfl (cq c0 (is 1) (1,0) rfl rfl ?_)))
 intro g4 w1 b3 ch2 bx5
 replace bx5:Bx g4 (is 1) w1 b3 [vi g.1,g_v]:=bx5
 refine ma (vb false) (ad (aa (a8 rfl (ai 0 (ad (aa (aa (a8 rfl (lx (aA (ds:=[vi g.1,g_v]) aF rfl bx5 rfl rfl) (mi u (mi v ?_)))))))))))
 replace Rg:=Rg.cn ch2
 refine lo (c6 (aP (vals:=[vg [vi g.1,g_v],vi u,vi v]) Try.func32 ni n5 rfl) (jZ w1 g g_v (Rg).ro u v (by exact hm)) ?_)
 rintro⟨d7,v9⟩ w6 ⟨fr8,o10⟩
 obtain⟨g11,ch12,G11⟩:=jL g4 fr8 (λn=>if n=1 then 2 else 0)
 replace o10:=o10.gl G11 2
 have len13:=(o10.sl).small
 refine lx (bO eC rfl o10.sl) (mi 0 (ad (ao ?_)))
 refine b5 (σ:=Int×Nat×aG) (λ⟨mo,k,gq⟩ f w=>bm w0 gq w/\f 3=vp b3 0/\f 7=vi mo/\f 13=v9/\f 14=vi (List.length (dZ g u v):Int)/\f 15=vi ↑k/\Sl gq (is 0) w g_v g.2/\Bx gq (is 1) w b3 [vi g.1,g_v]/\dF gq 2 w v9 (dZ g u v)/\(k:Int)<=((List.length (dZ g u v):Int):Int)/\(mo=qV (dZ g u v) k)) (λ⟨mo,k,gq⟩=>Int.toNat (((List.length (dZ g u v):Int):Int)-(k:Int))) (0,0,g11) ?_ ?_
 replace bH:=bH.cn ch2
 · exact⟨bH.cn ch12,rfl,rfl,rfl,rfl,rfl,Rg.cn ch12,bx5.cn ch12,o10,by omega,by rfl⟩
 clear Rg bx5 o10 bH
 rintro⟨mo,k,g16⟩ f14 w15 ⟨bH,zs3,zs7,zs13,zs14,zs15,Rg,bx5,o10,hle_k,hmo⟩ back3
 obtain⟨hmo0,hmo1⟩:=vN hm hmo (by omega)
 refine aa (a8 rfl (lx (bf (m:=↑k) (n:=(List.length (dZ g u v):Int)) zs15 zs14) (ad (aa ?_))))
 by_cases p3:(k:Int)<(List.length (dZ g u v):Int)
 ·
  refine ah rfl (dt p3) (ar (aa (ao (aa (a8 rfl (lx (ag (v:=v9) (i:=↑k) eC rfl zs13 o10.sl zs15 (by omega) (by omega)) ?_))))))
  obtain⟨v17,cel18,r19⟩:=d5 (r:=(k:Int)) o10 (by omega) (by omega)
  refine lx (cN aZ rfl cel18) (ma v17 (ad (a8 rfl (mz zs7 (mv v17 ?_)))))
  have len20:=(r19.row_sl).small
  refine lx (bO bE rfl r19.row_sl) (lw (vi (max mo (List.length (gI (dZ g u v) (k:Int)):Int))) (pB rfl rfl) (ai (max mo (List.length (gI (dZ g u v) (k:Int)):Int)) (ad (al ?_))))
  clear cel18 r19
  refine a8 rfl (lx (aL (m:=↑k) (n:=1) zs15 rfl (by omega)) (mi ((k:Int)+1) (ad ?_)))
  refine back3 (max mo (List.length (gI (dZ g u v) (k:Int)):Int),k+1,g16) _ _ ⟨bH,zs3,rfl,zs13,zs14,rfl,Rg,bx5,o10,by omega,?_⟩ ?_
  · show(max mo (List.length (gI (dZ g u v) (k:Int)):Int))=qV (dZ g u v) (k+1)
    exact ob hmo ‹_›
  · show Int.toNat (((List.length (dZ g u v):Int):Int)-((k+1):Int))<Int.toNat (((List.length (dZ g u v):Int):Int)-(k:Int))
    omega
 refine aj rfl (df p3) (aM rfl (aa ?_))
 clear o10
 refine a8 rfl (lx (af cR rfl rfl zs3 rfl) (lx (ae bp rfl bx5 rfl) ?_))
 have len21:=(Rg).small
 refine lx (bO de rfl Rg) (lx (fL (m:=(g.2.length:Int)) (n:=4) rfl rfl) (mv (vb (decide (4<=(g.2.length:Int)))) ?_))
 by_cases q28:4<=(g.2.length:Int)
 ·
  refine lv (vi mo) (wy (dt q28)) (au zs7) (lv (vb (decide (mo=1))) (wy (dt q28)) (d8 (m:=mo) (n:=1) rfl rfl) (lv (vb (decide (mo=1))) (wy (dt q28)) (au rfl) ?_))
  by_cases q31:mo=1
  ·
   refine am (wn (dt q31)) (am (wn (dt q31)) (am (wn (dt q31)) (am (wn (dt q31)) (am (wn (dt q31)) (am (wn (dt q31)) (lv (vb true) (wy (dt q28)) (aN rfl (dt q31) rfl) (lw (vb true) (aN rfl (dt q28) rfl) (ma (vb true) (ad ?_)))))))))
   refine aw (vs:=[vb true]) Try.func34 (.tmp rfl .nil) ?_
   have e0:(true:Bool)=(ft g u v):=by
     (unfold ft;rw[<-ml hmo ‹_›];simp_all;done)
   exact⟨rb e0,bH.below⟩
  refine lv (vp b3 1) (wy (df q31)) (af cR rfl rfl zs3 rfl) (lv (g_v) (wy (df q31)) (ae bp rfl bx5 rfl) (lv (vi (g.2.length:Int)) (wy (df q31)) (bO de rfl Rg) (lv (vi mo) (wy (df q31)) (au zs7) (lv (vi ((g.2.length:Int)-mo)) (wy (df q31)) (dS (m:=(g.2.length:Int)) (n:=mo) rfl rfl (by omega)) (lv (vb (decide (2<=((g.2.length:Int)-mo)))) (wy (df q31)) (fL (m:=(g.2.length:Int)-mo) (n:=2) rfl rfl) ?_)))))
  refine lv (vb (decide (2<=((g.2.length:Int)-mo)))) (wy (dt q28)) (aW rfl (df q31) rfl) (lw (vb (decide (2<=((g.2.length:Int)-mo)))) (aN rfl (dt q28) rfl) (ma (vb (decide (2<=((g.2.length:Int)-mo)))) (ad (aw (vs:=[vb (decide (2<=((g.2.length:Int)-mo)))]) Try.func34 (.tmp rfl .nil) ?_))))
  have e0:(decide (2<=((g.2.length:Int)-mo)):Bool)=(ft g u v):=by
    (unfold ft;rw[<-ml hmo ‹_›];simp_all;done)
  exact⟨(congrArg (a₁:=decide (2<=((g.2.length:Int)-mo))) (λ(z0:Bool)=>Ending.returned (vb z0)) e0),bH.below⟩
 refine am (wn (df q28)) (am (wn (df q28)) (am (wn (df q28)) (am (bt rfl rfl rfl) (am (bt rfl rfl rfl) (am (bt rfl rfl rfl) (am (bt rfl rfl rfl) (am (bt rfl rfl rfl) (am (bt rfl rfl rfl) (am (wn (df q28)) ?_)))))))))
 refine lw (vb false) (aW rfl (df q28) rfl) (ma (vb false) (ad (aw (vs:=[vb false]) Try.func34 (.tmp rfl .nil) ?_)))
 have e0:(false:Bool)=(ft g u v):=by
   (unfold ft;rw[<-ml hmo ‹_›];simp_all<;>omega)
 exact⟨rb e0,bH.below⟩
end TL
