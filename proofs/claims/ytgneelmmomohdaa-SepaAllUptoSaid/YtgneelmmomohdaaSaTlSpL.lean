import Derived.Test.YtgneelmmomohdaaSaTlP5
import Derived.Test.YtgneelmmomohdaaSaTlSpA
import Derived.Test.YtgneelmmomohdaaSaTlSpW
import Derived.Test.YtgneelmmomohdaaSaTlSpC
import Derived.Test.YtgneelmmomohdaaSaTlSpD
import Derived.Test.YtgneelmmomohdaaSaTlSpP
import Derived.Test.YtgneelmmomohdaaSaTlGenA
import Derived.Test.YtgneelmmomohdaaProg
import Derived.Test.YtgneelmmomohdaaSaTlAli
set_option linter.all false
set_option maxRecDepth 20000
namespace TL
open Go Go.Proofs
theorem qZ:Try.f30.body.isNone=false:=rfl
theorem sh:(Try.f30.name== "runtime.NumGoroutine")=false:=by decide+kernel
theorem nM:Try.f31.body.isNone=false:=rfl
theorem nh:(Try.f31.name== "runtime.NumGoroutine")=false:=by decide+kernel
theorem rp:Try.f32.body.isNone=false:=rfl
theorem qJ:(Try.f32.name== "runtime.NumGoroutine")=false:=by decide+kernel
theorem oZ(w0:World)(g:(Int)×(List Pt))(g_v:Value)(hg_v:Ro w0 g_v g.2):
    Calls Try.prog 9 #[vg [vi g.1,g_v]] w0 (λee w=>ee= .returned (vt [vi ((bc g).1),vi ((bc g).2)])/\ep w0.heap.size w0 w):=by
 refine av Try.func9 rfl nq ?_
 have bH:=bn.start w0
 have Rg:=hg_v.sl
 refine aa (a8 rfl (cB rfl (cr c0 (is 1) (1,0) rfl rfl ?_)))
 intro g4 w1 b3 ch2 bx5
 replace bx5:Bx g4 (is 1) w1 b3 [vi g.1,g_v]:=bx5
 refine ai 0 (ai 0 (ab (aa (ao (aa (a8 rfl (lx (aB (ds:=[vi g.1,g_v]) aK rfl bx5 rfl rfl) ?_)))))))
 replace Rg:=Rg.cn ch2
 refine lo (bW (v:=vb (dw g)) (aN (vals:=[vg [vi g.1,g_v]]) Try.func28 j9 js rfl) (ju w1 g g_v (Rg).ro) ?_)
 intro w6 hb7
 replace hb7:=aS hb7 g4
 refine lx (dZ (b:=(dw g)) rfl) (ma (vb (!(dw g))) (ab ?_))
 by_cases p1:(dw g)=true
 ·
  refine ag rfl (congrArg Bool.not p1) (aa (a8 rfl (lx (af cW rfl rfl rfl rfl) ?_)))
  replace bx5:=bx5.cn hb7
  refine lx (ae aj rfl bx5 rfl) (lx (bm (m:=g.1) (n:=2) rfl rfl) (mv (vb (decide (g.1<2))) ?_))
  by_cases q12:g.1<2
  ·
   refine ak (wn (dt q12)) (ak (wn (dt q12)) (ak (wn (dt q12)) (lw (vb true) (aO rfl (dt q12) rfl) (ma (vb true) (ab (ah rfl rfl (aa ?_)))))))
   clear bx5
   refine a8 rfl (ai 0 (ai 0 (ab (aD (vs:=[vi 0,vi 0]) Try.func9 (.tmp rfl (.tmp rfl .nil)) ?_))))
   have e0:(0:Int)=((bc g).1):=by
     rw[xE (of_decide_eq_true ‹_›) (by omega)]
   have e1:(0:Int)=((bc g).2):=by
     rw[xE (of_decide_eq_true ‹_›) (by omega)]
   replace bH:=bH.cn ch2
   replace bH:=bH.cn hb7
   exact⟨(cT (a:=0) (b:=0) (λ(z0:Int) (z1:Int)=>Ending.returned (vt [vi z0,vi z1])) e0 e1),bH.below⟩
  refine lv (vg [vi g.1,g_v]) (wy (df q12)) (aB (ds:=[vi g.1,g_v]) aK rfl bx5 rfl rfl) ?_
  replace Rg:=Rg.cn hb7
  refine cB (wy (df q12)) (bW (v:=vb (gU g)) (aN (vals:=[vg [vi g.1,g_v]]) Try.func29 rK rW rfl) (ky w6 g g_v (Rg).ro) ?_)
  intro w8 hb9
  replace hb9:=aS hb9 g4
  refine lv (vb (!(gU g))) (wy (df q12)) (dZ (b:=(gU g)) rfl) (lw (vb (!(gU g))) (aP rfl (df q12) rfl) (ma (vb (!(gU g))) (ab ?_)))
  by_cases p3:(gU g)=true
  ·
   refine ag rfl (congrArg Bool.not p3) (aa (a8 rfl ?_))
   replace bx5:=bx5.cn hb9
   refine lx (aB (ds:=[vi g.1,g_v]) aK rfl bx5 rfl rfl) ?_
   replace Rg:=Rg.cn hb9
   refine lo (bW (v:=vb (fx g)) (aN (vals:=[vg [vi g.1,g_v]]) Try.func30 qZ sh rfl) (mZ w8 g g_v (Rg).ro) ?_)
   intro w10 hb11
   replace hb11:=aS hb11 g4
   refine lx (dZ (b:=(fx g)) rfl) (ma (vb (!(fx g))) (ab ?_))
   by_cases p5:(fx g)=true
   ·
    refine ag rfl (congrArg Bool.not p5) (aa (a8 rfl (lx (af cW rfl rfl rfl rfl) ?_)))
    replace bx5:=bx5.cn hb11
    refine lx (ae aj rfl bx5 rfl) (lx (bm (m:=g.1) (n:=4) rfl rfl) (mv (vb (decide (g.1<4))) ?_))
    by_cases q25:g.1<4
    ·
     refine ak (wn (dt q25)) (ak (wn (dt q25)) (ak (wn (dt q25)) (ak (wn (dt q25)) (lw (vb true) (aO rfl (dt q25) rfl) (ma (vb true) (ab (ah rfl rfl (aa ?_))))))))
     clear bx5
     refine a8 rfl (ai 2 (ai 0 (ab (aD (vs:=[vi 2,vi 0]) Try.func9 (.tmp rfl (.tmp rfl .nil)) ?_))))
     have e0:(2:Int)=((bc g).1):=by
       rw[uf (of_decide_eq_true ‹_›) (by omega) ‹_› ‹_› (by omega)]
     have e1:(0:Int)=((bc g).2):=by
       rw[uf (of_decide_eq_true ‹_›) (by omega) ‹_› ‹_› (by omega)]
     have C12:=cg [] (ch2.n.seq (hb7.n.seq (hb9.n.seq hb11.n)))
     replace bH:=bH.ca C12
     exact⟨(cT (a:=2) (b:=0) (λ(z0:Int) (z1:Int)=>Ending.returned (vt [vi z0,vi z1])) e0 e1),bH.below⟩
    refine lv (vg [vi g.1,g_v]) (wy (df q25)) (aB (ds:=[vi g.1,g_v]) aK rfl bx5 rfl rfl) ?_
    replace Rg:=Rg.cn hb11
    refine cB (wy (df q25)) (bQ (aN (vals:=[vg [vi g.1,g_v],vi 1]) Try.func31 nM nh rfl) (kV w10 g g_v (Rg).ro 1 (by exact of_decide_eq_true ‹_›)) ?_)
    rintro⟨d14,v16⟩ w13 ⟨fr15,o17⟩
    obtain⟨g18,ch19,G18⟩:=ia g4 fr15 (λn=>if n=1 then 2 else 0)
    replace o17:=o17.gl G18 2
    have len20:=(o17.flat).small
    refine lv (vi (List.length (cJ g 1):Int)) (wy (df q25)) (bq dc rfl o17.flat) (lv (vb (decide (0<(List.length (cJ g 1):Int)))) (wy (df q25)) (eu (m:=(List.length (cJ g 1):Int)) (n:=0) rfl rfl) (lw (vb (decide (0<(List.length (cJ g 1):Int)))) (aP rfl (df q25) rfl) (ma (vb (decide (0<(List.length (cJ g 1):Int)))) (ab ?_))))
    by_cases p7:0<(List.length (cJ g 1):Int)
    ·
     refine ah rfl (dt p7) (aa ?_)
     clear bx5 o17
     refine a8 rfl (ai 2 (ai 0 (ab (aD (vs:=[vi 2,vi 0]) Try.func9 (.tmp rfl (.tmp rfl .nil)) ?_))))
     have e0:(2:Int)=((bc g).1):=by
       rw[uf (of_decide_eq_true ‹_›) (by omega) ‹_› ‹_› (by omega)]
     have e1:(0:Int)=((bc g).2):=by
       rw[uf (of_decide_eq_true ‹_›) (by omega) ‹_› ‹_› (by omega)]
     have C21:=cg [] (ch2.n.seq (hb7.n.seq (hb9.n.seq (hb11.n.seq ch19.n))))
     replace bH:=bH.ca C21
     exact⟨(cT (a:=2) (b:=0) (λ(z0:Int) (z1:Int)=>Ending.returned (vt [vi z0,vi z1])) e0 e1),bH.below⟩
    refine ag rfl (df p7) (aq (am (aa ?_)))
    clear bx5 o17
    refine a8 rfl (ai 3 (ai 0 (ab (aD (vs:=[vi 3,vi 0]) Try.func9 (.tmp rfl (.tmp rfl .nil)) ?_))))
    have e0:(3:Int)=((bc g).1):=by
      rw[Bo (of_decide_eq_true ‹_›) (by omega) ‹_› ‹_› (by omega)]
    have e1:(0:Int)=((bc g).2):=by
      rw[Bo (of_decide_eq_true ‹_›) (by omega) ‹_› ‹_› (by omega)]
    have C22:=cg [] (ch2.n.seq (hb7.n.seq (hb9.n.seq (hb11.n.seq ch19.n))))
    replace bH:=bH.ca C22
    exact⟨(cT (a:=3) (b:=0) (λ(z0:Int) (z1:Int)=>Ending.returned (vt [vi z0,vi z1])) e0 e1),bH.below⟩
   refine ah rfl (congrArg Bool.not (Bool.eq_false_iff.2 p5)) (aa ?_)
   clear bx5
   refine a8 rfl (ai 1 (ai 0 (ab (aD (vs:=[vi 1,vi 0]) Try.func9 (.tmp rfl (.tmp rfl .nil)) ?_))))
   have e0:(1:Int)=((bc g).1):=by
     rw[B4 (of_decide_eq_true ‹_›) (by omega) ‹_› ‹_›]
   have e1:(0:Int)=((bc g).2):=by
     rw[B4 (of_decide_eq_true ‹_›) (by omega) ‹_› ‹_›]
   have C23:=cg [] (ch2.n.seq (hb7.n.seq (hb9.n.seq hb11.n)))
   replace bH:=bH.ca C23
   exact⟨(cT (a:=1) (b:=0) (λ(z0:Int) (z1:Int)=>Ending.returned (vt [vi z0,vi z1])) e0 e1),bH.below⟩
  refine ah rfl (congrArg Bool.not (Bool.eq_false_iff.2 p3)) (aa ?_)
  clear bx5
  refine a8 rfl (ai 0 (ai 0 (ab (aD (vs:=[vi 0,vi 0]) Try.func9 (.tmp rfl (.tmp rfl .nil)) ?_))))
  have e0:(0:Int)=((bc g).1):=by
    rw[xK (of_decide_eq_true ‹_›) ‹_›]
  have e1:(0:Int)=((bc g).2):=by
    rw[xK (of_decide_eq_true ‹_›) ‹_›]
  have C24:=cg [] (ch2.n.seq (hb7.n.seq hb9.n))
  replace bH:=bH.ca C24
  exact⟨(cT (a:=0) (b:=0) (λ(z0:Int) (z1:Int)=>Ending.returned (vt [vi z0,vi z1])) e0 e1),bH.below⟩
 refine ah rfl (congrArg Bool.not (Bool.eq_false_iff.2 p1)) (aa ?_)
 clear bx5
 refine a8 rfl (ai 0 (ai 1 (ab (aD (vs:=[vi 0,vi 1]) Try.func9 (.tmp rfl (.tmp rfl .nil)) ?_))))
 have e0:(0:Int)=((bc g).1):=by
   rw[sD (λh=>absurd (dt h) ‹_›)]
 have e1:(1:Int)=((bc g).2):=by
   rw[sD (λh=>absurd (dt h) ‹_›)]
 replace bH:=bH.cn ch2
 replace bH:=bH.cn hb7
 exact⟨(cT (a:=0) (b:=1) (λ(z0:Int) (z1:Int)=>Ending.returned (vt [vi z0,vi z1])) e0 e1),bH.below⟩
theorem nz(w0:World)(g:(Int)×(List Pt))(g_v:Value)(hg_v:Ro w0 g_v g.2):
    Calls Try.prog 10 #[vg [vi g.1,g_v]] w0 (λee w=>∃xx:aG×Value,ee= .returned ((λ⟨δ,rv0⟩=>vt [rv0,vi ((b6 g).2)]) xx)/\(λ(⟨δ,rv0⟩:aG×Value) (w:World)=>eB w0 δ w/\Ow δ (is 1) (is 1) w rv0 ((b6 g).1)) xx w):=by
 refine av Try.func10 rfl nq ?_
 have bH:=bn.start w0
 have Rg:=hg_v.sl
 refine aa (a8 rfl (cB rfl (cr c0 (is 1) (1,0) rfl rfl ?_)))
 intro g4 w1 b3 ch2 bx5
 replace bx5:Bx g4 (is 1) w1 b3 [vi g.1,g_v]:=bx5
 refine ma vn (ai 0 (ab (aa (ao (aa (a8 rfl (lx (aB (ds:=[vi g.1,g_v]) aK rfl bx5 rfl rfl) ?_)))))))
 replace Rg:=Rg.cn ch2
 refine lo (bW (v:=vb (dw g)) (aN (vals:=[vg [vi g.1,g_v]]) Try.func28 j9 js rfl) (ju w1 g g_v (Rg).ro) ?_)
 intro w6 hb7
 replace hb7:=aS hb7 g4
 refine lx (dZ (b:=(dw g)) rfl) (ma (vb (!(dw g))) (ab ?_))
 by_cases p1:(dw g)=true
 ·
  have hmN:aX g:=of_decide_eq_true ‹_›
  obtain⟨hmN0,hmN1⟩:=CX hmN
  refine ag rfl (congrArg Bool.not p1) (aa (a8 rfl ?_))
  replace bx5:=bx5.cn hb7
  refine lx (aB (ds:=[vi g.1,g_v]) aK rfl bx5 rfl rfl) ?_
  replace Rg:=Rg.cn hb7
  refine lo (bW (v:=vb (fx g)) (aN (vals:=[vg [vi g.1,g_v]]) Try.func30 qZ sh rfl) (mZ w6 g g_v (Rg).ro) ?_)
  intro w8 hb9
  replace hb9:=aS hb9 g4
  refine lx (dZ (b:=(fx g)) rfl) (ma (vb (!(fx g))) (ab ?_))
  by_cases p3:(fx g)=true
  ·
   refine ag rfl (congrArg Bool.not p3) (aq (am (aa (a8 rfl ?_))))
   replace bx5:=bx5.cn hb9
   refine lx (aB (ds:=[vi g.1,g_v]) aK rfl bx5 rfl rfl) (lx (af cW rfl rfl rfl rfl) (lx (ae aj rfl bx5 rfl) (lx (af cW rfl rfl rfl rfl) (lx (ae aj rfl bx5 rfl) (lx (mc (m:=g.1) (n:=g.1) rfl rfl (by omega)) ?_)))))
   replace Rg:=Rg.cn hb9
   refine lo (bQ (aN (vals:=[vg [vi g.1,g_v],vi (g.1*g.1)]) Try.func31 nM nh rfl) (kV w8 g g_v (Rg).ro (g.1*g.1) (by exact of_decide_eq_true ‹_›)) ?_)
   rintro⟨d11,v13⟩ w10 ⟨fr12,o14⟩
   obtain⟨g15,ch16,G15⟩:=ia g4 fr12 (λn=>if n=1 then 2 else 0)
   replace o14:=o14.gl G15 2
   refine ma v13 (ai 0 (ab (aD (vs:=[v13,vi 0]) Try.func10 (.tmp rfl (.tmp rfl .nil)) ?_)))
   have C17:=cg [] (ch2.n.seq (hb7.n.seq (hb9.n.seq ch16.n)))
   replace bH:=bH.ca C17
   have e0:(cJ g (g.1*g.1):List Pt)=((b6 g).1):=by
     rw[k8 (of_decide_eq_true ‹_›) ‹_›]
   have e1:(0:Int)=((b6 g).2):=by
     rw[k8 (of_decide_eq_true ‹_›) ‹_›]
   exact⟨(fin w0 g15 (λn=>if n=2 then 1 else 0),v13),(cT (a:=cJ g (g.1*g.1)) (b:=0) (λ(z0:List Pt) (z1:Int)=>Ending.returned (vt [v13,vi z1])) e0 e1),bH.fresh _,(e0▸(o14.glue (γ:=c0) (ren:=(λn=>if n=2 then 1 else 0)) (k:=1) bH.col rfl rfl))⟩
  refine ah rfl (congrArg Bool.not (Bool.eq_false_iff.2 p3)) (aa ?_)
  clear bx5
  refine a8 rfl (ma vn (ai 7 (ab (aD (vs:=[vn,vi 7]) Try.func10 (.tmp rfl (.tmp rfl .nil)) ?_))))
  have C18:=cg [] (ch2.n.seq (hb7.n.seq hb9.n))
  replace bH:=bH.ca C18
  have e0:([]:List Pt)=((b6 g).1):=by
    rw[uE (of_decide_eq_true ‹_›) ‹_›]
  have e1:(7:Int)=((b6 g).2):=by
    rw[uE (of_decide_eq_true ‹_›) ‹_›]
  exact⟨(fin w0 g4 (λn=>0),vn),(cT (a:=[]) (b:=7) (λ(z0:List Pt) (z1:Int)=>Ending.returned (vt [vn,vi z1])) e0 e1),bH.fresh _,(e0▸Ow.nil)⟩
 refine ah rfl (congrArg Bool.not (Bool.eq_false_iff.2 p1)) (aa ?_)
 clear bx5
 refine a8 rfl (ma vn (ai 1 (ab (aD (vs:=[vn,vi 1]) Try.func10 (.tmp rfl (.tmp rfl .nil)) ?_))))
 replace bH:=bH.cn ch2
 replace bH:=bH.cn hb7
 have e0:([]:List Pt)=((b6 g).1):=by
   rw[sL (λh=>absurd (dt h) ‹_›)]
 have e1:(1:Int)=((b6 g).2):=by
   rw[sL (λh=>absurd (dt h) ‹_›)]
 exact⟨(fin w0 g4 (λn=>0),vn),(cT (a:=[]) (b:=1) (λ(z0:List Pt) (z1:Int)=>Ending.returned (vt [vn,vi z1])) e0 e1),bH.fresh _,(e0▸Ow.nil)⟩
theorem iS(w0:World)(g:(Int)×(List Pt))(g_v:Value)(hg_v:Ro w0 g_v g.2)(u:Int)(v:Int):
    Calls Try.prog 11 #[vg [vi g.1,g_v],vi u,vi v] w0 (λee w=>∃xx:aG×Value,ee= .returned ((λ⟨δ,rv0⟩=>vt [rv0,vi ((aF g u v).2)]) xx)/\(λ(⟨δ,rv0⟩:aG×Value) (w:World)=>eB w0 δ w/\cY δ 1 w rv0 ((aF g u v).1)) xx w):=by
 refine av Try.func11 rfl nq ?_
 have bH:=bn.start w0
 have Rg:=hg_v.sl
 refine aa (a8 rfl (cB rfl (cr c0 (is 1) (1,0) rfl rfl ?_)))
 intro g4 w1 b3 ch2 bx5
 replace bx5:Bx g4 (is 1) w1 b3 [vi g.1,g_v]:=bx5
 refine ma vn (ai 0 (ab (aa (ao (aa (a8 rfl (lx (aB (ds:=[vi g.1,g_v]) aK rfl bx5 rfl rfl) ?_)))))))
 replace Rg:=Rg.cn ch2
 refine lo (bW (v:=vb (dw g)) (aN (vals:=[vg [vi g.1,g_v]]) Try.func28 j9 js rfl) (ju w1 g g_v (Rg).ro) ?_)
 intro w6 hb7
 replace hb7:=aS hb7 g4
 refine lx (dZ (b:=(dw g)) rfl) (ma (vb (!(dw g))) (ab ?_))
 by_cases p1:(dw g)=true
 ·
  refine ag rfl (congrArg Bool.not p1) (aa (a8 rfl (mi u (lx (bm (m:=u) (n:=0) rfl rfl) (mv (vb (decide (u<0))) ?_)))))
  by_cases q15:u<0
  ·
   refine ak (wn (dt q15)) (ak (wn (dt q15)) (ak (wn (dt q15)) (ak (wn (dt q15)) (lw (vb true) (aO rfl (dt q15) rfl) (mv (vb true) (ak (wn rfl) (ak (wn rfl) (lw (vb true) (aO rfl rfl rfl) (mv (vb true) (ak (wn rfl) (ak (wn rfl) (ak (wn rfl) (ak (wn rfl) ?_)))))))))))))
   refine lw (vb true) (aO rfl rfl rfl) (mv (vb true) (ak (wn rfl) (ak (wn rfl) (ak (wn rfl) (lw (vb true) (aO rfl rfl rfl) (ma (vb true) (ab (ah rfl rfl (aa ?_)))))))))
   clear bx5
   refine a8 rfl (ma vn (ai 2 (ab (aD (vs:=[vn,vi 2]) Try.func11 (.tmp rfl (.tmp rfl .nil)) ?_))))
   replace bH:=bH.cn ch2
   replace bH:=bH.cn hb7
   have e0:([]:fG)=((aF g u v).1):=by
     rw[j8 (of_decide_eq_true ‹_›) (by omega)]
   have e1:(2:Int)=((aF g u v).2):=by
     rw[j8 (of_decide_eq_true ‹_›) (by omega)]
   exact⟨(fin w0 g4 (λn=>0),vn),(cT (a:=[]) (b:=2) (λ(z0:fG) (z1:Int)=>Ending.returned (vt [vn,vi z1])) e0 e1),bH.fresh _,(e0▸cY.nil)⟩
  refine lv (vi u) (wy (df q15)) (au rfl) (lv (vp b3 0) (wy (df q15)) (af cW rfl rfl rfl rfl) ?_)
  replace bx5:=bx5.cn hb7
  refine lv (vi g.1) (wy (df q15)) (ae aj rfl bx5 rfl) (lv (vb (decide (g.1<=u))) (wy (df q15)) (eO (m:=u) (n:=g.1) rfl rfl) (lw (vb (decide (g.1<=u))) (aP rfl (df q15) rfl) (mv (vb (decide (g.1<=u))) ?_)))
  by_cases q21:g.1<=u
  ·
   refine ak (wn (dt q21)) (ak (wn (dt q21)) (lw (vb true) (aO rfl (dt q21) rfl) (mv (vb true) (ak (wn rfl) (ak (wn rfl) (ak (wn rfl) (ak (wn rfl) (lw (vb true) (aO rfl rfl rfl) (mv (vb true) (ak (wn rfl) (ak (wn rfl) (ak (wn rfl) (lw (vb true) (aO rfl rfl rfl) (ma (vb true) ?_))))))))))))))
   refine ab (ah rfl rfl (aa ?_))
   clear bx5
   refine a8 rfl (ma vn (ai 2 (ab (aD (vs:=[vn,vi 2]) Try.func11 (.tmp rfl (.tmp rfl .nil)) ?_))))
   replace bH:=bH.cn ch2
   replace bH:=bH.cn hb7
   have e0:([]:fG)=((aF g u v).1):=by
     rw[j8 (of_decide_eq_true ‹_›) (by omega)]
   have e1:(2:Int)=((aF g u v).2):=by
     rw[j8 (of_decide_eq_true ‹_›) (by omega)]
   exact⟨(fin w0 g4 (λn=>0),vn),(cT (a:=[]) (b:=2) (λ(z0:fG) (z1:Int)=>Ending.returned (vt [vn,vi z1])) e0 e1),bH.fresh _,(e0▸cY.nil)⟩
  refine lv (vi v) (wy (df q21)) (au rfl) (lv (vb (decide (v<0))) (wy (df q21)) (bm (m:=v) (n:=0) rfl rfl) (lw (vb (decide (v<0))) (aP rfl (df q21) rfl) (mv (vb (decide (v<0))) ?_)))
  by_cases q25:v<0
  ·
   refine ak (wn (dt q25)) (ak (wn (dt q25)) (ak (wn (dt q25)) (ak (wn (dt q25)) (lw (vb true) (aO rfl (dt q25) rfl) (mv (vb true) (ak (wn rfl) (ak (wn rfl) (ak (wn rfl) (lw (vb true) (aO rfl rfl rfl) (ma (vb true) (ab ?_)))))))))))
   refine ah rfl rfl (aa ?_)
   clear bx5
   refine a8 rfl (ma vn (ai 2 (ab (aD (vs:=[vn,vi 2]) Try.func11 (.tmp rfl (.tmp rfl .nil)) ?_))))
   replace bH:=bH.cn ch2
   replace bH:=bH.cn hb7
   have e0:([]:fG)=((aF g u v).1):=by
     rw[j8 (of_decide_eq_true ‹_›) (by omega)]
   have e1:(2:Int)=((aF g u v).2):=by
     rw[j8 (of_decide_eq_true ‹_›) (by omega)]
   exact⟨(fin w0 g4 (λn=>0),vn),(cT (a:=[]) (b:=2) (λ(z0:fG) (z1:Int)=>Ending.returned (vt [vn,vi z1])) e0 e1),bH.fresh _,(e0▸cY.nil)⟩
  refine lv (vi v) (wy (df q25)) (au rfl) (lv (vp b3 0) (wy (df q25)) (af cW rfl rfl rfl rfl) (lv (vi g.1) (wy (df q25)) (ae aj rfl bx5 rfl) (lv (vb (decide (g.1<=v))) (wy (df q25)) (eO (m:=v) (n:=g.1) rfl rfl) (lw (vb (decide (g.1<=v))) (aP rfl (df q25) rfl) (mv (vb (decide (g.1<=v))) ?_)))))
  by_cases q31:g.1<=v
  ·
   refine ak (wn (dt q31)) (ak (wn (dt q31)) (ak (wn (dt q31)) (lw (vb true) (aO rfl (dt q31) rfl) (ma (vb true) (ab (ah rfl rfl (aa ?_)))))))
   clear bx5
   refine a8 rfl (ma vn (ai 2 (ab (aD (vs:=[vn,vi 2]) Try.func11 (.tmp rfl (.tmp rfl .nil)) ?_))))
   replace bH:=bH.cn ch2
   replace bH:=bH.cn hb7
   have e0:([]:fG)=((aF g u v).1):=by
     rw[j8 (of_decide_eq_true ‹_›) (by omega)]
   have e1:(2:Int)=((aF g u v).2):=by
     rw[j8 (of_decide_eq_true ‹_›) (by omega)]
   exact⟨(fin w0 g4 (λn=>0),vn),(cT (a:=[]) (b:=2) (λ(z0:fG) (z1:Int)=>Ending.returned (vt [vn,vi z1])) e0 e1),bH.fresh _,(e0▸cY.nil)⟩
  refine lv (vi u) (wy (df q31)) (au rfl) (lv (vi v) (wy (df q31)) (au rfl) (lv (vb (decide (u=v))) (wy (df q31)) (cZ (m:=u) (n:=v) rfl rfl) (lw (vb (decide (u=v))) (aP rfl (df q31) rfl) (ma (vb (decide (u=v))) (ab ?_)))))
  by_cases p3:u=v
  ·
   refine ah rfl (dt p3) (aa ?_)
   clear bx5
   refine a8 rfl (ma vn (ai 2 (ab (aD (vs:=[vn,vi 2]) Try.func11 (.tmp rfl (.tmp rfl .nil)) ?_))))
   replace bH:=bH.cn ch2
   replace bH:=bH.cn hb7
   have e0:([]:fG)=((aF g u v).1):=by
     rw[j8 (of_decide_eq_true ‹_›) (by omega)]
   have e1:(2:Int)=((aF g u v).2):=by
     rw[j8 (of_decide_eq_true ‹_›) (by omega)]
   exact⟨(fin w0 g4 (λn=>0),vn),(cT (a:=[]) (b:=2) (λ(z0:fG) (z1:Int)=>Ending.returned (vt [vn,vi z1])) e0 e1),bH.fresh _,(e0▸cY.nil)⟩
  refine ag rfl (df p3) (aq (am (aa (a8 rfl (lx (aB (ds:=[vi g.1,g_v]) aK rfl bx5 rfl rfl) (mi u (mi v ?_)))))))
  replace Rg:=Rg.cn hb7
  refine lo (bQ (aN (vals:=[vg [vi g.1,g_v],vi u,vi v]) Try.func32 rp qJ rfl) (lZ w6 g g_v (Rg).ro u v (by exact of_decide_eq_true ‹_›)) ?_)
  rintro⟨d9,v11⟩ w8 ⟨fr10,o12⟩
  obtain⟨g13,ch14,G13⟩:=ia g4 fr10 (λn=>if n=1 then 2 else 0)
  replace o12:=o12.gl G13 2
  refine ma v11 (ai 0 (ab (aD (vs:=[v11,vi 0]) Try.func11 (.tmp rfl (.tmp rfl .nil)) ?_)))
  have C15:=cg [] (ch2.n.seq (hb7.n.seq ch14.n))
  replace bH:=bH.ca C15
  have e0:(bE g u v:fG)=((aF g u v).1):=by
    rw[ta (of_decide_eq_true ‹_›) (by omega)]
  have e1:(0:Int)=((aF g u v).2):=by
    rw[ta (of_decide_eq_true ‹_›) (by omega)]
  exact⟨(fin w0 g13 (λn=>if n=2 then 1 else 0),v11),(cT (a:=bE g u v) (b:=0) (λ(z0:fG) (z1:Int)=>Ending.returned (vt [v11,vi z1])) e0 e1),bH.fresh _,(e0▸(o12.glue (γ:=c0) (ren:=(λn=>if n=2 then 1 else 0)) (k:=1) bH.col rfl rfl))⟩
 refine ah rfl (congrArg Bool.not (Bool.eq_false_iff.2 p1)) (aa ?_)
 clear bx5
 refine a8 rfl (ma vn (ai 1 (ab (aD (vs:=[vn,vi 1]) Try.func11 (.tmp rfl (.tmp rfl .nil)) ?_))))
 replace bH:=bH.cn ch2
 replace bH:=bH.cn hb7
 have e0:([]:fG)=((aF g u v).1):=by
   rw[sQ (λh=>absurd (dt h) ‹_›)]
 have e1:(1:Int)=((aF g u v).2):=by
   rw[sQ (λh=>absurd (dt h) ‹_›)]
 exact⟨(fin w0 g4 (λn=>0),vn),(cT (a:=[]) (b:=1) (λ(z0:fG) (z1:Int)=>Ending.returned (vt [vn,vi z1])) e0 e1),bH.fresh _,(e0▸cY.nil)⟩
theorem pc(w0:World)(g:(Int)×(List Pt))(g_v:Value)(hg_v:Ro w0 g_v g.2)(u:Int)(v:Int)(hm:aX g):
    Calls Try.prog 34 #[vg [vi g.1,g_v],vi u,vi v] w0 (λee w=>ee= .returned (vb (eD g u v))/\ep w0.heap.size w0 w):=by
 refine av Try.func34 rfl nq ?_
 have bH:=bn.start w0
 have Rg:=hg_v.sl
 have hm0:=hm
 obtain⟨hm1,hm2,hm3,hm4⟩:=hm0
 refine aa (a8 rfl (cB rfl (cr c0 (is 1) (1,0) rfl rfl ?_)))
 intro g4 w1 b3 ch2 bx5
 replace bx5:Bx g4 (is 1) w1 b3 [vi g.1,g_v]:=bx5
 refine ma (vb false) (ab (aa (a8 rfl (ai 0 (ab (aa (aa (a8 rfl (lx (aB (ds:=[vi g.1,g_v]) aK rfl bx5 rfl rfl) (mi u (mi v ?_)))))))))))
 replace Rg:=Rg.cn ch2
 refine lo (bQ (aN (vals:=[vg [vi g.1,g_v],vi u,vi v]) Try.func32 rp qJ rfl) (lZ w1 g g_v (Rg).ro u v (by exact hm)) ?_)
 rintro⟨d7,v9⟩ w6 ⟨fr8,o10⟩
 obtain⟨g11,ch12,G11⟩:=ia g4 fr8 (λn=>if n=1 then 2 else 0)
 replace o10:=o10.gl G11 2
 have len13:=(o10.sl).small
 refine lx (bq dd rfl o10.sl) (mi 0 (ab (ao ?_)))
 refine aY (σ:=Int×Nat×aG) (λ⟨mo,k,gq⟩ f w=>bn w0 gq w/\f 3=vp b3 0/\f 7=vi mo/\f 13=v9/\f 14=vi (List.length (bE g u v):Int)/\f 15=vi ↑k/\Sl gq (is 0) w g_v g.2/\Bx gq (is 1) w b3 [vi g.1,g_v]/\cY gq 2 w v9 (bE g u v)/\(k:Int)<=((List.length (bE g u v):Int):Int)/\(mo=ss (bE g u v) k)) (λ⟨mo,k,gq⟩=>Int.toNat (((List.length (bE g u v):Int):Int)-(k:Int))) (0,0,g11) ?_ ?_
 replace bH:=bH.cn ch2
 · exact⟨bH.cn ch12,rfl,rfl,rfl,rfl,rfl,Rg.cn ch12,bx5.cn ch12,o10,by omega,by rfl⟩
 clear Rg bx5 o10 bH
 rintro⟨mo,k,g16⟩ f14 w15 ⟨bH,zs3,zs7,zs13,zs14,zs15,Rg,bx5,o10,hle_k,hmo⟩ back3
 obtain⟨hmo0,hmo1⟩:=BD hm hmo (by omega)
 refine aa (a8 rfl (lx (bm (m:=↑k) (n:=(List.length (bE g u v):Int)) zs15 zs14) (ab (aa ?_))))
 by_cases p3:(k:Int)<(List.length (bE g u v):Int)
 ·
  refine ah rfl (dt p3) (aq (aa (ao (aa (a8 rfl (lx (ad (v:=v9) (i:=↑k) dd rfl zs13 o10.sl zs15 (by omega) (by omega)) ?_))))))
  obtain⟨v17,cel18,r19⟩:=bR (r:=(k:Int)) o10 (by omega) (by omega)
  refine lx (bF bI rfl cel18) (ma v17 (ab (a8 rfl (mz zs7 (mv v17 ?_)))))
  have len20:=(r19.row_sl).small
  refine lx (bq bv rfl r19.row_sl) (lw (vi (max mo (List.length (gI (bE g u v) (k:Int)):Int))) (rR rfl rfl) (ai (max mo (List.length (gI (bE g u v) (k:Int)):Int)) (ab (am ?_))))
  clear cel18 r19
  refine a8 rfl (lx (aI (m:=↑k) (n:=1) zs15 rfl (by omega)) (mi ((k:Int)+1) (ab ?_)))
  refine back3 (max mo (List.length (gI (bE g u v) (k:Int)):Int),k+1,g16) _ _ ⟨bH,zs3,rfl,zs13,zs14,rfl,Rg,bx5,o10,by omega,?_⟩ ?_
  · show(max mo (List.length (gI (bE g u v) (k:Int)):Int))=ss (bE g u v) (k+1)
    exact kx hmo ‹_›
  · show Int.toNat (((List.length (bE g u v):Int):Int)-((k+1):Int))<Int.toNat (((List.length (bE g u v):Int):Int)-(k:Int))
    omega
 refine ag rfl (df p3) (aH rfl (aa ?_))
 clear o10
 refine a8 rfl (lx (af cW rfl rfl zs3 rfl) (lx (ae bG rfl bx5 rfl) ?_))
 have len21:=(Rg).small
 refine lx (bq dc rfl Rg) (lx (eO (m:=(g.2.length:Int)) (n:=4) rfl rfl) (mv (vb (decide (4<=(g.2.length:Int)))) ?_))
 by_cases q28:4<=(g.2.length:Int)
 ·
  refine lv (vi mo) (wy (dt q28)) (au zs7) (lv (vb (decide (mo=1))) (wy (dt q28)) (cZ (m:=mo) (n:=1) rfl rfl) (lv (vb (decide (mo=1))) (wy (dt q28)) (au rfl) ?_))
  by_cases q31:mo=1
  ·
   refine ak (wn (dt q31)) (ak (wn (dt q31)) (ak (wn (dt q31)) (ak (wn (dt q31)) (ak (wn (dt q31)) (ak (wn (dt q31)) (lv (vb true) (wy (dt q28)) (aO rfl (dt q31) rfl) (lw (vb true) (aO rfl (dt q28) rfl) (ma (vb true) (ab ?_)))))))))
   refine aD (vs:=[vb true]) Try.func34 (.tmp rfl .nil) ?_
   have e0:(true:Bool)=(eD g u v):=by
     (unfold eD;rw[<-pD hmo ‹_›];simp_all;done)
   exact⟨rb e0,bH.below⟩
  refine lv (vp b3 1) (wy (df q31)) (af cW rfl rfl zs3 rfl) (lv (g_v) (wy (df q31)) (ae bG rfl bx5 rfl) (lv (vi (g.2.length:Int)) (wy (df q31)) (bq dc rfl Rg) (lv (vi mo) (wy (df q31)) (au zs7) (lv (vi ((g.2.length:Int)-mo)) (wy (df q31)) (dA (m:=(g.2.length:Int)) (n:=mo) rfl rfl (by omega)) (lv (vb (decide (2<=((g.2.length:Int)-mo)))) (wy (df q31)) (eO (m:=(g.2.length:Int)-mo) (n:=2) rfl rfl) ?_)))))
  refine lv (vb (decide (2<=((g.2.length:Int)-mo)))) (wy (dt q28)) (aP rfl (df q31) rfl) (lw (vb (decide (2<=((g.2.length:Int)-mo)))) (aO rfl (dt q28) rfl) (ma (vb (decide (2<=((g.2.length:Int)-mo)))) (ab (aD (vs:=[vb (decide (2<=((g.2.length:Int)-mo)))]) Try.func34 (.tmp rfl .nil) ?_))))
  have e0:(decide (2<=((g.2.length:Int)-mo)):Bool)=(eD g u v):=by
    (unfold eD;rw[<-pD hmo ‹_›];simp_all;done)
  exact⟨(congrArg (a₁:=decide (2<=((g.2.length:Int)-mo))) (λ(z0:Bool)=>Ending.returned (vb z0)) e0),bH.below⟩
 refine ak (wn (df q28)) (ak (wn (df q28)) (ak (wn (df q28)) (ak (bh rfl rfl rfl) (ak (bh rfl rfl rfl) (ak (bh rfl rfl rfl) (ak (bh rfl rfl rfl) (ak (bh rfl rfl rfl) (ak (bh rfl rfl rfl) (ak (wn (df q28)) ?_)))))))))
 refine lw (vb false) (aP rfl (df q28) rfl) (ma (vb false) (ab (aD (vs:=[vb false]) Try.func34 (.tmp rfl .nil) ?_)))
 have e0:(false:Bool)=(eD g u v):=by
   (unfold eD;rw[<-pD hmo ‹_›];simp_all<;>omega)
 exact⟨rb e0,bH.below⟩
end TL
