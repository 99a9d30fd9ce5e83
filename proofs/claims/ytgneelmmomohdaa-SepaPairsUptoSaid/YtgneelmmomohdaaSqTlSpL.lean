import Derived.Test.YtgneelmmomohdaaSqTlP4
import Derived.Test.YtgneelmmomohdaaSqTlSpA
import Derived.Test.YtgneelmmomohdaaSqTlSpW
import Derived.Test.YtgneelmmomohdaaSqTlSpC
import Derived.Test.YtgneelmmomohdaaSqTlSpD
import Derived.Test.YtgneelmmomohdaaSqTlSpP
import Derived.Test.YtgneelmmomohdaaSqTlGenA
import Derived.Test.YtgneelmmomohdaaProg
import Derived.Test.YtgneelmmomohdaaSqTlAli
set_option linter.all false
set_option maxRecDepth 20000
namespace TL
open Go Go.Proofs
theorem oR:Try.f30.body.isNone=false:=rfl
theorem oQ:(Try.f30.name== "runtime.NumGoroutine")=false:=by decide+kernel
theorem lG:Try.f31.body.isNone=false:=rfl
theorem mw:(Try.f31.name== "runtime.NumGoroutine")=false:=by decide+kernel
theorem oK:Try.f32.body.isNone=false:=rfl
theorem oF:(Try.f32.name== "runtime.NumGoroutine")=false:=by decide+kernel
theorem ng(w0:World)(g:(Int)×(List Pt))(g_v:Value)(hg_v:Ro w0 g_v g.2):
    Calls Try.prog 9 #[vg [vi g.1,g_v]] w0 (λee w=>ee= .returned (vt [vi ((bp g).1),vi ((bp g).2)])/\e8 w0.heap.size w0 w):=by
 refine ar Try.func9 rfl nq ?_
 have bH:=bq.start w0
 have Rg:=hg_v.sl
 refine aa (a8 rfl (cF rfl (cA c0 (is 1) (1,0) rfl rfl ?_)))
 intro g4 w1 b3 ch2 bx5
 replace bx5:Bx g4 (is 1) w1 b3 [vi g.1,g_v]:=bx5
 refine ai 0 (ai 0 (ad (aa (ao (aa (a8 rfl (lx (aB (ds:=[vi g.1,g_v]) aK rfl bx5 rfl rfl) ?_)))))))
 replace Rg:=Rg.cn ch2
 refine lo (bT (v:=vb (cS g)) (aQ (vals:=[vg [vi g.1,g_v]]) Try.func28 ir ig rfl) (iv w1 g g_v (Rg).ro) ?_)
 intro w6 hb7
 replace hb7:=aT hb7 g4
 refine lx (eF (b:=(cS g)) rfl) (ma (vb (!(cS g))) (ad ?_))
 by_cases p1:(cS g)=true
 ·
  refine ah rfl (congrArg Bool.not p1) (aa (a8 rfl (lx (af d4 rfl rfl rfl rfl) ?_)))
  replace bx5:=bx5.cn hb7
  refine lx (ae ak rfl bx5 rfl) (lx (bg (m:=g.1) (n:=2) rfl rfl) (mv (vb (decide (g.1<2))) ?_))
  by_cases q12:g.1<2
  ·
   refine az (wn (dt q12)) (az (wn (dt q12)) (az (wn (dt q12)) (lw (vb true) (aV rfl (dt q12) rfl) (ma (vb true) (ad (aj rfl rfl (aa ?_)))))))
   clear bx5
   refine a8 rfl (ai 0 (ai 0 (ad (aD (vs:=[vi 0,vi 0]) Try.func9 (.tmp rfl (.tmp rfl .nil)) ?_))))
   have e0:(0:Int)=((bp g).1):=by
     rw[um (of_decide_eq_true ‹_›) (by omega)]
   have e1:(0:Int)=((bp g).2):=by
     rw[um (of_decide_eq_true ‹_›) (by omega)]
   replace bH:=bH.cn ch2
   replace bH:=bH.cn hb7
   exact⟨(cr (a:=0) (b:=0) (λ(z0:Int) (z1:Int)=>Ending.returned (vt [vi z0,vi z1])) e0 e1),bH.below⟩
  refine lv (vg [vi g.1,g_v]) (wy (df q12)) (aB (ds:=[vi g.1,g_v]) aK rfl bx5 rfl rfl) ?_
  replace Rg:=Rg.cn hb7
  refine cF (wy (df q12)) (bT (v:=vb (gm g)) (aQ (vals:=[vg [vi g.1,g_v]]) Try.func29 ox pV rfl) (jy w6 g g_v (Rg).ro) ?_)
  intro w8 hb9
  replace hb9:=aT hb9 g4
  refine lv (vb (!(gm g))) (wy (df q12)) (eF (b:=(gm g)) rfl) (lw (vb (!(gm g))) (aS rfl (df q12) rfl) (ma (vb (!(gm g))) (ad ?_)))
  by_cases p3:(gm g)=true
  ·
   refine ah rfl (congrArg Bool.not p3) (aa (a8 rfl ?_))
   replace bx5:=bx5.cn hb9
   refine lx (aB (ds:=[vi g.1,g_v]) aK rfl bx5 rfl rfl) ?_
   replace Rg:=Rg.cn hb9
   refine lo (bT (v:=vb (fg g)) (aQ (vals:=[vg [vi g.1,g_v]]) Try.func30 oR oQ rfl) (lQ w8 g g_v (Rg).ro) ?_)
   intro w10 hb11
   replace hb11:=aT hb11 g4
   refine lx (eF (b:=(fg g)) rfl) (ma (vb (!(fg g))) (ad ?_))
   by_cases p5:(fg g)=true
   ·
    refine ah rfl (congrArg Bool.not p5) (aa (a8 rfl (lx (af d4 rfl rfl rfl rfl) ?_)))
    replace bx5:=bx5.cn hb11
    refine lx (ae ak rfl bx5 rfl) (lx (bg (m:=g.1) (n:=4) rfl rfl) (mv (vb (decide (g.1<4))) ?_))
    by_cases q25:g.1<4
    ·
     refine az (wn (dt q25)) (az (wn (dt q25)) (az (wn (dt q25)) (az (wn (dt q25)) (lw (vb true) (aV rfl (dt q25) rfl) (ma (vb true) (ad (aj rfl rfl (aa ?_))))))))
     clear bx5
     refine a8 rfl (ai 2 (ai 0 (ad (aD (vs:=[vi 2,vi 0]) Try.func9 (.tmp rfl (.tmp rfl .nil)) ?_))))
     have e0:(2:Int)=((bp g).1):=by
       rw[rY (of_decide_eq_true ‹_›) (by omega) ‹_› ‹_› (by omega)]
     have e1:(0:Int)=((bp g).2):=by
       rw[rY (of_decide_eq_true ‹_›) (by omega) ‹_› ‹_› (by omega)]
     have C12:=cg [] (ch2.n.seq (hb7.n.seq (hb9.n.seq hb11.n)))
     replace bH:=bH.ca C12
     exact⟨(cr (a:=2) (b:=0) (λ(z0:Int) (z1:Int)=>Ending.returned (vt [vi z0,vi z1])) e0 e1),bH.below⟩
    refine lv (vg [vi g.1,g_v]) (wy (df q25)) (aB (ds:=[vi g.1,g_v]) aK rfl bx5 rfl rfl) ?_
    replace Rg:=Rg.cn hb11
    refine cF (wy (df q25)) (cd (aQ (vals:=[vg [vi g.1,g_v],vi 1]) Try.func31 lG mw rfl) (jO w10 g g_v (Rg).ro 1 (by exact of_decide_eq_true ‹_›)) ?_)
    rintro⟨d14,v16⟩ w13 ⟨fr15,o17⟩
    obtain⟨g18,ch19,G18⟩:=jK g4 fr15 (λn=>if n=1 then 2 else 0)
    replace o17:=o17.gl G18 2
    have len20:=(o17.flat).small
    refine lv (vi (List.length (cq g 1):Int)) (wy (df q25)) (bJ dg rfl o17.flat) (lv (vb (decide (0<(List.length (cq g 1):Int)))) (wy (df q25)) (eo (m:=(List.length (cq g 1):Int)) (n:=0) rfl rfl) (lw (vb (decide (0<(List.length (cq g 1):Int)))) (aS rfl (df q25) rfl) (ma (vb (decide (0<(List.length (cq g 1):Int)))) (ad ?_))))
    by_cases p7:0<(List.length (cq g 1):Int)
    ·
     refine aj rfl (dt p7) (aa ?_)
     clear bx5 o17
     refine a8 rfl (ai 2 (ai 0 (ad (aD (vs:=[vi 2,vi 0]) Try.func9 (.tmp rfl (.tmp rfl .nil)) ?_))))
     have e0:(2:Int)=((bp g).1):=by
       rw[rY (of_decide_eq_true ‹_›) (by omega) ‹_› ‹_› (by omega)]
     have e1:(0:Int)=((bp g).2):=by
       rw[rY (of_decide_eq_true ‹_›) (by omega) ‹_› ‹_› (by omega)]
     have C21:=cg [] (ch2.n.seq (hb7.n.seq (hb9.n.seq (hb11.n.seq ch19.n))))
     replace bH:=bH.ca C21
     exact⟨(cr (a:=2) (b:=0) (λ(z0:Int) (z1:Int)=>Ending.returned (vt [vi z0,vi z1])) e0 e1),bH.below⟩
    refine ah rfl (df p7) (ap (am (aa ?_)))
    clear bx5 o17
    refine a8 rfl (ai 3 (ai 0 (ad (aD (vs:=[vi 3,vi 0]) Try.func9 (.tmp rfl (.tmp rfl .nil)) ?_))))
    have e0:(3:Int)=((bp g).1):=by
      rw[xE (of_decide_eq_true ‹_›) (by omega) ‹_› ‹_› (by omega)]
    have e1:(0:Int)=((bp g).2):=by
      rw[xE (of_decide_eq_true ‹_›) (by omega) ‹_› ‹_› (by omega)]
    have C22:=cg [] (ch2.n.seq (hb7.n.seq (hb9.n.seq (hb11.n.seq ch19.n))))
    replace bH:=bH.ca C22
    exact⟨(cr (a:=3) (b:=0) (λ(z0:Int) (z1:Int)=>Ending.returned (vt [vi z0,vi z1])) e0 e1),bH.below⟩
   refine aj rfl (congrArg Bool.not (Bool.eq_false_iff.2 p5)) (aa ?_)
   clear bx5
   refine a8 rfl (ai 1 (ai 0 (ad (aD (vs:=[vi 1,vi 0]) Try.func9 (.tmp rfl (.tmp rfl .nil)) ?_))))
   have e0:(1:Int)=((bp g).1):=by
     rw[xz (of_decide_eq_true ‹_›) (by omega) ‹_› ‹_›]
   have e1:(0:Int)=((bp g).2):=by
     rw[xz (of_decide_eq_true ‹_›) (by omega) ‹_› ‹_›]
   have C23:=cg [] (ch2.n.seq (hb7.n.seq (hb9.n.seq hb11.n)))
   replace bH:=bH.ca C23
   exact⟨(cr (a:=1) (b:=0) (λ(z0:Int) (z1:Int)=>Ending.returned (vt [vi z0,vi z1])) e0 e1),bH.below⟩
  refine aj rfl (congrArg Bool.not (Bool.eq_false_iff.2 p3)) (aa ?_)
  clear bx5
  refine a8 rfl (ai 0 (ai 0 (ad (aD (vs:=[vi 0,vi 0]) Try.func9 (.tmp rfl (.tmp rfl .nil)) ?_))))
  have e0:(0:Int)=((bp g).1):=by
    rw[tQ (of_decide_eq_true ‹_›) ‹_›]
  have e1:(0:Int)=((bp g).2):=by
    rw[tQ (of_decide_eq_true ‹_›) ‹_›]
  have C24:=cg [] (ch2.n.seq (hb7.n.seq hb9.n))
  replace bH:=bH.ca C24
  exact⟨(cr (a:=0) (b:=0) (λ(z0:Int) (z1:Int)=>Ending.returned (vt [vi z0,vi z1])) e0 e1),bH.below⟩
 refine aj rfl (congrArg Bool.not (Bool.eq_false_iff.2 p1)) (aa ?_)
 clear bx5
 refine a8 rfl (ai 0 (ai 1 (ad (aD (vs:=[vi 0,vi 1]) Try.func9 (.tmp rfl (.tmp rfl .nil)) ?_))))
 have e0:(0:Int)=((bp g).1):=by
   rw[uA (λh=>absurd (dt h) ‹_›)]
 have e1:(1:Int)=((bp g).2):=by
   rw[uA (λh=>absurd (dt h) ‹_›)]
 replace bH:=bH.cn ch2
 replace bH:=bH.cn hb7
 exact⟨(cr (a:=0) (b:=1) (λ(z0:Int) (z1:Int)=>Ending.returned (vt [vi z0,vi z1])) e0 e1),bH.below⟩
theorem lg(w0:World)(g:(Int)×(List Pt))(g_v:Value)(hg_v:Ro w0 g_v g.2):
    Calls Try.prog 10 #[vg [vi g.1,g_v]] w0 (λee w=>∃xx:aL×Value,ee= .returned ((λ⟨δ,rv0⟩=>vt [rv0,vi ((bn g).2)]) xx)/\(λ(⟨δ,rv0⟩:aL×Value) (w:World)=>eX w0 δ w/\Ow δ (is 1) (is 1) w rv0 ((bn g).1)) xx w):=by
 refine ar Try.func10 rfl nq ?_
 have bH:=bq.start w0
 have Rg:=hg_v.sl
 refine aa (a8 rfl (cF rfl (cA c0 (is 1) (1,0) rfl rfl ?_)))
 intro g4 w1 b3 ch2 bx5
 replace bx5:Bx g4 (is 1) w1 b3 [vi g.1,g_v]:=bx5
 refine ma vn (ai 0 (ad (aa (ao (aa (a8 rfl (lx (aB (ds:=[vi g.1,g_v]) aK rfl bx5 rfl rfl) ?_)))))))
 replace Rg:=Rg.cn ch2
 refine lo (bT (v:=vb (cS g)) (aQ (vals:=[vg [vi g.1,g_v]]) Try.func28 ir ig rfl) (iv w1 g g_v (Rg).ro) ?_)
 intro w6 hb7
 replace hb7:=aT hb7 g4
 refine lx (eF (b:=(cS g)) rfl) (ma (vb (!(cS g))) (ad ?_))
 by_cases p1:(cS g)=true
 ·
  have hmN:b7 g:=of_decide_eq_true ‹_›
  obtain⟨hmN0,hmN1⟩:=yQ hmN
  refine ah rfl (congrArg Bool.not p1) (aa (a8 rfl ?_))
  replace bx5:=bx5.cn hb7
  refine lx (aB (ds:=[vi g.1,g_v]) aK rfl bx5 rfl rfl) ?_
  replace Rg:=Rg.cn hb7
  refine lo (bT (v:=vb (fg g)) (aQ (vals:=[vg [vi g.1,g_v]]) Try.func30 oR oQ rfl) (lQ w6 g g_v (Rg).ro) ?_)
  intro w8 hb9
  replace hb9:=aT hb9 g4
  refine lx (eF (b:=(fg g)) rfl) (ma (vb (!(fg g))) (ad ?_))
  by_cases p3:(fg g)=true
  ·
   refine ah rfl (congrArg Bool.not p3) (ap (am (aa (a8 rfl ?_))))
   replace bx5:=bx5.cn hb9
   refine lx (aB (ds:=[vi g.1,g_v]) aK rfl bx5 rfl rfl) (lx (af d4 rfl rfl rfl rfl) (lx (ae ak rfl bx5 rfl) (lx (af d4 rfl rfl rfl rfl) (lx (ae ak rfl bx5 rfl) (lx (kx (m:=g.1) (n:=g.1) rfl rfl (by omega)) ?_)))))
   replace Rg:=Rg.cn hb9
   refine lo (cd (aQ (vals:=[vg [vi g.1,g_v],vi (g.1*g.1)]) Try.func31 lG mw rfl) (jO w8 g g_v (Rg).ro (g.1*g.1) (by exact of_decide_eq_true ‹_›)) ?_)
   rintro⟨d11,v13⟩ w10 ⟨fr12,o14⟩
   obtain⟨g15,ch16,G15⟩:=jK g4 fr12 (λn=>if n=1 then 2 else 0)
   replace o14:=o14.gl G15 2
   refine ma v13 (ai 0 (ad (aD (vs:=[v13,vi 0]) Try.func10 (.tmp rfl (.tmp rfl .nil)) ?_)))
   have C17:=cg [] (ch2.n.seq (hb7.n.seq (hb9.n.seq ch16.n)))
   replace bH:=bH.ca C17
   have e0:(cq g (g.1*g.1):List Pt)=((bn g).1):=by
     rw[lL (of_decide_eq_true ‹_›) ‹_›]
   have e1:(0:Int)=((bn g).2):=by
     rw[lL (of_decide_eq_true ‹_›) ‹_›]
   exact⟨(fin w0 g15 (λn=>if n=2 then 1 else 0),v13),(cr (a:=cq g (g.1*g.1)) (b:=0) (λ(z0:List Pt) (z1:Int)=>Ending.returned (vt [v13,vi z1])) e0 e1),bH.fresh _,(e0▸(o14.glue (γ:=c0) (ren:=(λn=>if n=2 then 1 else 0)) (k:=1) bH.col rfl rfl))⟩
  refine aj rfl (congrArg Bool.not (Bool.eq_false_iff.2 p3)) (aa ?_)
  clear bx5
  refine a8 rfl (ma vn (ai 7 (ad (aD (vs:=[vn,vi 7]) Try.func10 (.tmp rfl (.tmp rfl .nil)) ?_))))
  have C18:=cg [] (ch2.n.seq (hb7.n.seq hb9.n))
  replace bH:=bH.ca C18
  have e0:([]:List Pt)=((bn g).1):=by
    rw[u9 (of_decide_eq_true ‹_›) ‹_›]
  have e1:(7:Int)=((bn g).2):=by
    rw[u9 (of_decide_eq_true ‹_›) ‹_›]
  exact⟨(fin w0 g4 (λn=>0),vn),(cr (a:=[]) (b:=7) (λ(z0:List Pt) (z1:Int)=>Ending.returned (vt [vn,vi z1])) e0 e1),bH.fresh _,(e0▸Ow.nil)⟩
 refine aj rfl (congrArg Bool.not (Bool.eq_false_iff.2 p1)) (aa ?_)
 clear bx5
 refine a8 rfl (ma vn (ai 1 (ad (aD (vs:=[vn,vi 1]) Try.func10 (.tmp rfl (.tmp rfl .nil)) ?_))))
 replace bH:=bH.cn ch2
 replace bH:=bH.cn hb7
 have e0:([]:List Pt)=((bn g).1):=by
   rw[ul (λh=>absurd (dt h) ‹_›)]
 have e1:(1:Int)=((bn g).2):=by
   rw[ul (λh=>absurd (dt h) ‹_›)]
 exact⟨(fin w0 g4 (λn=>0),vn),(cr (a:=[]) (b:=1) (λ(z0:List Pt) (z1:Int)=>Ending.returned (vt [vn,vi z1])) e0 e1),bH.fresh _,(e0▸Ow.nil)⟩
theorem jx(w0:World)(g:(Int)×(List Pt))(g_v:Value)(hg_v:Ro w0 g_v g.2)(u:Int)(v:Int):
    Calls Try.prog 11 #[vg [vi g.1,g_v],vi u,vi v] w0 (λee w=>∃xx:aL×Value,ee= .returned ((λ⟨δ,rv0⟩=>vt [rv0,vi ((aq g u v).2)]) xx)/\(λ(⟨δ,rv0⟩:aL×Value) (w:World)=>eX w0 δ w/\dJ δ 1 w rv0 ((aq g u v).1)) xx w):=by
 refine ar Try.func11 rfl nq ?_
 have bH:=bq.start w0
 have Rg:=hg_v.sl
 refine aa (a8 rfl (cF rfl (cA c0 (is 1) (1,0) rfl rfl ?_)))
 intro g4 w1 b3 ch2 bx5
 replace bx5:Bx g4 (is 1) w1 b3 [vi g.1,g_v]:=bx5
 refine ma vn (ai 0 (ad (aa (ao (aa (a8 rfl (lx (aB (ds:=[vi g.1,g_v]) aK rfl bx5 rfl rfl) ?_)))))))
 replace Rg:=Rg.cn ch2
 refine lo (bT (v:=vb (cS g)) (aQ (vals:=[vg [vi g.1,g_v]]) Try.func28 ir ig rfl) (iv w1 g g_v (Rg).ro) ?_)
 intro w6 hb7
 replace hb7:=aT hb7 g4
 refine lx (eF (b:=(cS g)) rfl) (ma (vb (!(cS g))) (ad ?_))
 by_cases p1:(cS g)=true
 ·
  refine ah rfl (congrArg Bool.not p1) (aa (a8 rfl (mi u (lx (bg (m:=u) (n:=0) rfl rfl) (mv (vb (decide (u<0))) ?_)))))
  by_cases q15:u<0
  ·
   refine az (wn (dt q15)) (az (wn (dt q15)) (az (wn (dt q15)) (az (wn (dt q15)) (lw (vb true) (aV rfl (dt q15) rfl) (mv (vb true) (az (wn rfl) (az (wn rfl) (lw (vb true) (aV rfl rfl rfl) (mv (vb true) (az (wn rfl) (az (wn rfl) (az (wn rfl) (az (wn rfl) ?_)))))))))))))
   refine lw (vb true) (aV rfl rfl rfl) (mv (vb true) (az (wn rfl) (az (wn rfl) (az (wn rfl) (lw (vb true) (aV rfl rfl rfl) (ma (vb true) (ad (aj rfl rfl (aa ?_)))))))))
   clear bx5
   refine a8 rfl (ma vn (ai 2 (ad (aD (vs:=[vn,vi 2]) Try.func11 (.tmp rfl (.tmp rfl .nil)) ?_))))
   replace bH:=bH.cn ch2
   replace bH:=bH.cn hb7
   have e0:([]:iN)=((aq g u v).1):=by
     rw[iw (of_decide_eq_true ‹_›) (by omega)]
   have e1:(2:Int)=((aq g u v).2):=by
     rw[iw (of_decide_eq_true ‹_›) (by omega)]
   exact⟨(fin w0 g4 (λn=>0),vn),(cr (a:=[]) (b:=2) (λ(z0:iN) (z1:Int)=>Ending.returned (vt [vn,vi z1])) e0 e1),bH.fresh _,(e0▸dJ.nil)⟩
  refine lv (vi u) (wy (df q15)) (av rfl) (lv (vp b3 0) (wy (df q15)) (af d4 rfl rfl rfl rfl) ?_)
  replace bx5:=bx5.cn hb7
  refine lv (vi g.1) (wy (df q15)) (ae ak rfl bx5 rfl) (lv (vb (decide (g.1<=u))) (wy (df q15)) (fP (m:=u) (n:=g.1) rfl rfl) (lw (vb (decide (g.1<=u))) (aS rfl (df q15) rfl) (mv (vb (decide (g.1<=u))) ?_)))
  by_cases q21:g.1<=u
  ·
   refine az (wn (dt q21)) (az (wn (dt q21)) (lw (vb true) (aV rfl (dt q21) rfl) (mv (vb true) (az (wn rfl) (az (wn rfl) (az (wn rfl) (az (wn rfl) (lw (vb true) (aV rfl rfl rfl) (mv (vb true) (az (wn rfl) (az (wn rfl) (az (wn rfl) (lw (vb true) (aV rfl rfl rfl) (ma (vb true) ?_))))))))))))))
   refine ad (aj rfl rfl (aa ?_))
   clear bx5
   refine a8 rfl (ma vn (ai 2 (ad (aD (vs:=[vn,vi 2]) Try.func11 (.tmp rfl (.tmp rfl .nil)) ?_))))
   replace bH:=bH.cn ch2
   replace bH:=bH.cn hb7
   have e0:([]:iN)=((aq g u v).1):=by
     rw[iw (of_decide_eq_true ‹_›) (by omega)]
   have e1:(2:Int)=((aq g u v).2):=by
     rw[iw (of_decide_eq_true ‹_›) (by omega)]
   exact⟨(fin w0 g4 (λn=>0),vn),(cr (a:=[]) (b:=2) (λ(z0:iN) (z1:Int)=>Ending.returned (vt [vn,vi z1])) e0 e1),bH.fresh _,(e0▸dJ.nil)⟩
  refine lv (vi v) (wy (df q21)) (av rfl) (lv (vb (decide (v<0))) (wy (df q21)) (bg (m:=v) (n:=0) rfl rfl) (lw (vb (decide (v<0))) (aS rfl (df q21) rfl) (mv (vb (decide (v<0))) ?_)))
  by_cases q25:v<0
  ·
   refine az (wn (dt q25)) (az (wn (dt q25)) (az (wn (dt q25)) (az (wn (dt q25)) (lw (vb true) (aV rfl (dt q25) rfl) (mv (vb true) (az (wn rfl) (az (wn rfl) (az (wn rfl) (lw (vb true) (aV rfl rfl rfl) (ma (vb true) (ad ?_)))))))))))
   refine aj rfl rfl (aa ?_)
   clear bx5
   refine a8 rfl (ma vn (ai 2 (ad (aD (vs:=[vn,vi 2]) Try.func11 (.tmp rfl (.tmp rfl .nil)) ?_))))
   replace bH:=bH.cn ch2
   replace bH:=bH.cn hb7
   have e0:([]:iN)=((aq g u v).1):=by
     rw[iw (of_decide_eq_true ‹_›) (by omega)]
   have e1:(2:Int)=((aq g u v).2):=by
     rw[iw (of_decide_eq_true ‹_›) (by omega)]
   exact⟨(fin w0 g4 (λn=>0),vn),(cr (a:=[]) (b:=2) (λ(z0:iN) (z1:Int)=>Ending.returned (vt [vn,vi z1])) e0 e1),bH.fresh _,(e0▸dJ.nil)⟩
  refine lv (vi v) (wy (df q25)) (av rfl) (lv (vp b3 0) (wy (df q25)) (af d4 rfl rfl rfl rfl) (lv (vi g.1) (wy (df q25)) (ae ak rfl bx5 rfl) (lv (vb (decide (g.1<=v))) (wy (df q25)) (fP (m:=v) (n:=g.1) rfl rfl) (lw (vb (decide (g.1<=v))) (aS rfl (df q25) rfl) (mv (vb (decide (g.1<=v))) ?_)))))
  by_cases q31:g.1<=v
  ·
   refine az (wn (dt q31)) (az (wn (dt q31)) (az (wn (dt q31)) (lw (vb true) (aV rfl (dt q31) rfl) (ma (vb true) (ad (aj rfl rfl (aa ?_)))))))
   clear bx5
   refine a8 rfl (ma vn (ai 2 (ad (aD (vs:=[vn,vi 2]) Try.func11 (.tmp rfl (.tmp rfl .nil)) ?_))))
   replace bH:=bH.cn ch2
   replace bH:=bH.cn hb7
   have e0:([]:iN)=((aq g u v).1):=by
     rw[iw (of_decide_eq_true ‹_›) (by omega)]
   have e1:(2:Int)=((aq g u v).2):=by
     rw[iw (of_decide_eq_true ‹_›) (by omega)]
   exact⟨(fin w0 g4 (λn=>0),vn),(cr (a:=[]) (b:=2) (λ(z0:iN) (z1:Int)=>Ending.returned (vt [vn,vi z1])) e0 e1),bH.fresh _,(e0▸dJ.nil)⟩
  refine lv (vi u) (wy (df q31)) (av rfl) (lv (vi v) (wy (df q31)) (av rfl) (lv (vb (decide (u=v))) (wy (df q31)) (cK (m:=u) (n:=v) rfl rfl) (lw (vb (decide (u=v))) (aS rfl (df q31) rfl) (ma (vb (decide (u=v))) (ad ?_)))))
  by_cases p3:u=v
  ·
   refine aj rfl (dt p3) (aa ?_)
   clear bx5
   refine a8 rfl (ma vn (ai 2 (ad (aD (vs:=[vn,vi 2]) Try.func11 (.tmp rfl (.tmp rfl .nil)) ?_))))
   replace bH:=bH.cn ch2
   replace bH:=bH.cn hb7
   have e0:([]:iN)=((aq g u v).1):=by
     rw[iw (of_decide_eq_true ‹_›) (by omega)]
   have e1:(2:Int)=((aq g u v).2):=by
     rw[iw (of_decide_eq_true ‹_›) (by omega)]
   exact⟨(fin w0 g4 (λn=>0),vn),(cr (a:=[]) (b:=2) (λ(z0:iN) (z1:Int)=>Ending.returned (vt [vn,vi z1])) e0 e1),bH.fresh _,(e0▸dJ.nil)⟩
  refine ah rfl (df p3) (ap (am (aa (a8 rfl (lx (aB (ds:=[vi g.1,g_v]) aK rfl bx5 rfl rfl) (mi u (mi v ?_)))))))
  replace Rg:=Rg.cn hb7
  refine lo (cd (aQ (vals:=[vg [vi g.1,g_v],vi u,vi v]) Try.func32 oK oF rfl) (kI w6 g g_v (Rg).ro u v (by exact of_decide_eq_true ‹_›)) ?_)
  rintro⟨d9,v11⟩ w8 ⟨fr10,o12⟩
  obtain⟨g13,ch14,G13⟩:=jK g4 fr10 (λn=>if n=1 then 2 else 0)
  replace o12:=o12.gl G13 2
  refine ma v11 (ai 0 (ad (aD (vs:=[v11,vi 0]) Try.func11 (.tmp rfl (.tmp rfl .nil)) ?_)))
  have C15:=cg [] (ch2.n.seq (hb7.n.seq ch14.n))
  replace bH:=bH.ca C15
  have e0:(d8 g u v:iN)=((aq g u v).1):=by
    rw[qN (of_decide_eq_true ‹_›) (by omega)]
  have e1:(0:Int)=((aq g u v).2):=by
    rw[qN (of_decide_eq_true ‹_›) (by omega)]
  exact⟨(fin w0 g13 (λn=>if n=2 then 1 else 0),v11),(cr (a:=d8 g u v) (b:=0) (λ(z0:iN) (z1:Int)=>Ending.returned (vt [v11,vi z1])) e0 e1),bH.fresh _,(e0▸(o12.glue (γ:=c0) (ren:=(λn=>if n=2 then 1 else 0)) (k:=1) bH.col rfl rfl))⟩
 refine aj rfl (congrArg Bool.not (Bool.eq_false_iff.2 p1)) (aa ?_)
 clear bx5
 refine a8 rfl (ma vn (ai 1 (ad (aD (vs:=[vn,vi 1]) Try.func11 (.tmp rfl (.tmp rfl .nil)) ?_))))
 replace bH:=bH.cn ch2
 replace bH:=bH.cn hb7
 have e0:([]:iN)=((aq g u v).1):=by
   rw[qr (λh=>absurd (dt h) ‹_›)]
 have e1:(1:Int)=((aq g u v).2):=by
   rw[qr (λh=>absurd (dt h) ‹_›)]
 exact⟨(fin w0 g4 (λn=>0),vn),(cr (a:=[]) (b:=1) (λ(z0:iN) (z1:Int)=>Ending.returned (vt [vn,vi z1])) e0 e1),bH.fresh _,(e0▸dJ.nil)⟩
theorem nc(w0:World)(g:(Int)×(List Pt))(g_v:Value)(hg_v:Ro w0 g_v g.2)(u:Int)(v:Int)(hm:b7 g):
    Calls Try.prog 34 #[vg [vi g.1,g_v],vi u,vi v] w0 (λee w=>ee= .returned (vb (eO g u v))/\e8 w0.heap.size w0 w):=by
 refine ar Try.func34 rfl nq ?_
 have bH:=bq.start w0
 have Rg:=hg_v.sl
 have hm0:=hm
 obtain⟨hm1,hm2,hm3,hm4⟩:=hm0
 refine aa (a8 rfl (cF rfl (cA c0 (is 1) (1,0) rfl rfl ?_)))
 intro g4 w1 b3 ch2 bx5
 replace bx5:Bx g4 (is 1) w1 b3 [vi g.1,g_v]:=bx5
 refine ma (vb false) (ad (aa (a8 rfl (ai 0 (ad (aa (aa (a8 rfl (lx (aB (ds:=[vi g.1,g_v]) aK rfl bx5 rfl rfl) (mi u (mi v ?_)))))))))))
 replace Rg:=Rg.cn ch2
 refine lo (cd (aQ (vals:=[vg [vi g.1,g_v],vi u,vi v]) Try.func32 oK oF rfl) (kI w1 g g_v (Rg).ro u v (by exact hm)) ?_)
 rintro⟨d7,v9⟩ w6 ⟨fr8,o10⟩
 obtain⟨g11,ch12,G11⟩:=jK g4 fr8 (λn=>if n=1 then 2 else 0)
 replace o10:=o10.gl G11 2
 have len13:=(o10.sl).small
 refine lx (bJ dU rfl o10.sl) (mi 0 (ad (ao ?_)))
 refine b9 (σ:=Int×Nat×aL) (λ⟨mo,k,gq⟩ f w=>bq w0 gq w/\f 3=vp b3 0/\f 7=vi mo/\f 13=v9/\f 14=vi (List.length (d8 g u v):Int)/\f 15=vi ↑k/\Sl gq (is 0) w g_v g.2/\Bx gq (is 1) w b3 [vi g.1,g_v]/\dJ gq 2 w v9 (d8 g u v)/\(k:Int)<=((List.length (d8 g u v):Int):Int)/\(mo=pZ (d8 g u v) k)) (λ⟨mo,k,gq⟩=>Int.toNat (((List.length (d8 g u v):Int):Int)-(k:Int))) (0,0,g11) ?_ ?_
 replace bH:=bH.cn ch2
 · exact⟨bH.cn ch12,rfl,rfl,rfl,rfl,rfl,Rg.cn ch12,bx5.cn ch12,o10,by omega,by rfl⟩
 clear Rg bx5 o10 bH
 rintro⟨mo,k,g16⟩ f14 w15 ⟨bH,zs3,zs7,zs13,zs14,zs15,Rg,bx5,o10,hle_k,hmo⟩ back3
 obtain⟨hmo0,hmo1⟩:=yx hm hmo (by omega)
 refine aa (a8 rfl (lx (bg (m:=↑k) (n:=(List.length (d8 g u v):Int)) zs15 zs14) (ad (aa ?_))))
 by_cases p3:(k:Int)<(List.length (d8 g u v):Int)
 ·
  refine aj rfl (dt p3) (ap (aa (ao (aa (a8 rfl (lx (ag (v:=v9) (i:=↑k) dU rfl zs13 o10.sl zs15 (by omega) (by omega)) ?_))))))
  obtain⟨v17,cel18,r19⟩:=c8 (r:=(k:Int)) o10 (by omega) (by omega)
  refine lx (bU aZ rfl cel18) (ma v17 (ad (a8 rfl (mz zs7 (mv v17 ?_)))))
  have len20:=(r19.row_sl).small
  refine lx (bJ bD rfl r19.row_sl) (lw (vi (max mo (List.length (gI (d8 g u v) (k:Int)):Int))) (lY rfl rfl) (ai (max mo (List.length (gI (d8 g u v) (k:Int)):Int)) (ad (am ?_))))
  clear cel18 r19
  refine a8 rfl (lx (aJ (m:=↑k) (n:=1) zs15 rfl (by omega)) (mi ((k:Int)+1) (ad ?_)))
  refine back3 (max mo (List.length (gI (d8 g u v) (k:Int)):Int),k+1,g16) _ _ ⟨bH,zs3,rfl,zs13,zs14,rfl,Rg,bx5,o10,by omega,?_⟩ ?_
  · show(max mo (List.length (gI (d8 g u v) (k:Int)):Int))=pZ (d8 g u v) (k+1)
    exact jF hmo ‹_›
  · show Int.toNat (((List.length (d8 g u v):Int):Int)-((k+1):Int))<Int.toNat (((List.length (d8 g u v):Int):Int)-(k:Int))
    omega
 refine ah rfl (df p3) (aM rfl (aa ?_))
 clear o10
 refine a8 rfl (lx (af d4 rfl rfl zs3 rfl) (lx (ae bu rfl bx5 rfl) ?_))
 have len21:=(Rg).small
 refine lx (bJ dg rfl Rg) (lx (fP (m:=(g.2.length:Int)) (n:=4) rfl rfl) (mv (vb (decide (4<=(g.2.length:Int)))) ?_))
 by_cases q28:4<=(g.2.length:Int)
 ·
  refine lv (vi mo) (wy (dt q28)) (av zs7) (lv (vb (decide (mo=1))) (wy (dt q28)) (cK (m:=mo) (n:=1) rfl rfl) (lv (vb (decide (mo=1))) (wy (dt q28)) (av rfl) ?_))
  by_cases q31:mo=1
  ·
   refine az (wn (dt q31)) (az (wn (dt q31)) (az (wn (dt q31)) (az (wn (dt q31)) (az (wn (dt q31)) (az (wn (dt q31)) (lv (vb true) (wy (dt q28)) (aV rfl (dt q31) rfl) (lw (vb true) (aV rfl (dt q28) rfl) (ma (vb true) (ad ?_)))))))))
   refine aD (vs:=[vb true]) Try.func34 (.tmp rfl .nil) ?_
   have e0:(true:Bool)=(eO g u v):=by
     (unfold eO;rw[<-og hmo ‹_›];simp_all;done)
   exact⟨rb e0,bH.below⟩
  refine lv (vp b3 1) (wy (df q31)) (af d4 rfl rfl zs3 rfl) (lv (g_v) (wy (df q31)) (ae bu rfl bx5 rfl) (lv (vi (g.2.length:Int)) (wy (df q31)) (bJ dg rfl Rg) (lv (vi mo) (wy (df q31)) (av zs7) (lv (vi ((g.2.length:Int)-mo)) (wy (df q31)) (dF (m:=(g.2.length:Int)) (n:=mo) rfl rfl (by omega)) (lv (vb (decide (2<=((g.2.length:Int)-mo)))) (wy (df q31)) (fP (m:=(g.2.length:Int)-mo) (n:=2) rfl rfl) ?_)))))
  refine lv (vb (decide (2<=((g.2.length:Int)-mo)))) (wy (dt q28)) (aS rfl (df q31) rfl) (lw (vb (decide (2<=((g.2.length:Int)-mo)))) (aV rfl (dt q28) rfl) (ma (vb (decide (2<=((g.2.length:Int)-mo)))) (ad (aD (vs:=[vb (decide (2<=((g.2.length:Int)-mo)))]) Try.func34 (.tmp rfl .nil) ?_))))
  have e0:(decide (2<=((g.2.length:Int)-mo)):Bool)=(eO g u v):=by
    (unfold eO;rw[<-og hmo ‹_›];simp_all;done)
  exact⟨(congrArg (a₁:=decide (2<=((g.2.length:Int)-mo))) (λ(z0:Bool)=>Ending.returned (vb z0)) e0),bH.below⟩
 refine az (wn (df q28)) (az (wn (df q28)) (az (wn (df q28)) (az (bF rfl rfl rfl) (az (bF rfl rfl rfl) (az (bF rfl rfl rfl) (az (bF rfl rfl rfl) (az (bF rfl rfl rfl) (az (bF rfl rfl rfl) (az (wn (df q28)) ?_)))))))))
 refine lw (vb false) (aS rfl (df q28) rfl) (ma (vb false) (ad (aD (vs:=[vb false]) Try.func34 (.tmp rfl .nil) ?_)))
 have e0:(false:Bool)=(eO g u v):=by
   (unfold eO;rw[<-og hmo ‹_›];simp_all<;>omega)
 exact⟨rb e0,bH.below⟩
end TL
