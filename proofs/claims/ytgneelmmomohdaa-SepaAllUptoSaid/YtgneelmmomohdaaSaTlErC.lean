import Derived.Test.YtgneelmmomohdaaSaTlP5
import Derived.Test.YtgneelmmomohdaaSaTlGmA
import Derived.Test.YtgneelmmomohdaaSaTlGenA
import Derived.Test.YtgneelmmomohdaaSaTlErB
import Derived.Test.YtgneelmmomohdaaProg
import Derived.Test.YtgneelmmomohdaaSaTlAli
set_option linter.all false
set_option maxRecDepth 20000
namespace TL
open Go Go.Proofs
theorem xw:Try.prog.follows .mixedOrders=true:=by kernel_rfl
theorem AZ:Try.f43.body.isNone=false:=rfl
theorem A7:(Try.f43.name== "runtime.NumGoroutine")=false:=by decide+kernel
theorem AE:Try.f44.body.isNone=false:=rfl
theorem AB:(Try.f44.name== "runtime.NumGoroutine")=false:=by decide+kernel
theorem x6(w0:World)(g:(Int)×(List Pt))(g_v:Value)(hg_v:Ro w0 g_v g.2):
    Calls Try.prog 43 #[vg [vi g.1,g_v]] w0 (λee w=>ee= .returned (vb (decide (∀e∈g.2,¬e.1=e.2)))/\ep w0.heap.size w0 w):=by
 refine av Try.func43 rfl nq ?_
 have bH:=bn.start w0
 have Rg:=hg_v.sl
 refine aa (a8 rfl (cB rfl (cr c0 (is 1) (1,0) rfl rfl ?_)))
 intro g4 w1 b3 ch2 bx5
 replace bx5:Bx g4 (is 1) w1 b3 [vi g.1,g_v]:=bx5
 refine ma (vb false) (ab (aa (aa (a8 rfl (ai 0 (ab (ao ?_)))))))
 refine aY (σ:=Nat×aG) (λ⟨k,gq⟩ f w=>bn w0 gq w/\f 1=vp b3 0/\f 3=vi ↑k/\Sl gq (is 0) w g_v g.2/\Bx gq (is 1) w b3 [vi g.1,g_v]/\(k:Int)<=((g.2.length:Int):Int)/\(∀j:Nat,j<k->¬(gI g.2 ↑j).1=(gI g.2 ↑j).2)) (λ⟨k,gq⟩=>Int.toNat (((g.2.length:Int):Int)-(k:Int))) (0,g4) ?_ ?_
 · exact⟨bH.cn ch2,rfl,rfl,Rg.cn ch2,bx5,by omega,by exact λj h=>absurd h (Nat.not_lt_zero _)⟩
 clear Rg bx5 bH
 rintro⟨k,g8⟩ f6 w7 ⟨bH,zs1,zs3,Rg,bx5,hle_k,hlp⟩ back2
 refine aa (aa (a8 rfl (mz zs3 (lx (af cW rfl rfl zs1 rfl) (lx (ae bG rfl bx5 rfl) ?_)))))
 have len9:=(Rg).small
 refine lx (bq dc rfl Rg) (lx (bm (m:=↑k) (n:=(g.2.length:Int)) rfl rfl) (ab ?_))
 by_cases p2:(k:Int)<(g.2.length:Int)
 ·
  refine ah rfl (dt p2) (aq (aa (ao (aa (dl g8 rfl xw (by kernel_rfl) ?_)))))
  intro w11 ch10
  refine qx (λw' hw'=>af cW rfl rfl zs1 rfl) ?_
  replace bx5:=bx5.cn ch10
  refine qx (λw' hw'=>ae bG rfl (bx5.bel hw') rfl) (qz zs3 ?_)
  replace Rg:=Rg.cn ch10
  refine qx (λw' hw'=>ad (v:=g_v) (i:=↑k) dc rfl rfl (Rg.bel hw') rfl (by omega) (by omega)) (qx (λw' hw'=>c6 dI rfl rfl rfl (by decide) (by decide) rfl) (qx (λw' hw'=>d5 (v:=g_v) (i:=↑k) aj rfl (Rg.bel hw') (by omega) (by omega) (by decide) rfl) (qx (λw' hw'=>af cW rfl rfl zs1 rfl) (qx (λw' hw'=>ae bG rfl (bx5.bel hw') rfl) (qz zs3 (qx (λw' hw'=>ad (v:=g_v) (i:=↑k) dc rfl rfl (Rg.bel hw') rfl (by omega) (by omega)) (qx (λw' hw'=>c6 dI rfl rfl rfl (by decide) (by decide) rfl) (qx (λw' hw'=>d5 (v:=g_v) (i:=↑k) aj rfl (Rg.bel hw') (by omega) (by omega) (by decide) rfl) ?_))))))))
  refine qx (λw' hw'=>cZ (m:=(gI g.2 ↑k).1) (n:=(gI g.2 ↑k).2) rfl rfl) (f4 ?_)
  intro w12 hc13
  replace hc13:=aS hc13 g8
  by_cases p4:((gI g.2 ↑k).1)=((gI g.2 ↑k).2)
  ·
   refine ah rfl (dt p4) (aa ?_)
   clear bx5
   refine a8 rfl (ma (vb false) (ab (aD (vs:=[vb false]) Try.func43 (.tmp rfl .nil) ?_)))
   have e0:(false:Bool)=(decide (∀e∈g.2,¬e.1=e.2)):=by
     exact wc ‹_› ‹_›
   replace bH:=bH.cn ch10
   replace bH:=bH.cn hc13
   exact⟨rb e0,bH.below⟩
  refine ag rfl (df p4) (aq (am (a8 rfl (mz zs3 (lx (aI (m:=↑k) (n:=1) rfl rfl (by omega)) (ai ((k:Int)+1) (ab ?_)))))))
  replace bH:=bH.cn ch10
  refine back2 (k+1,g8) _ _ ⟨bH.cn hc13,zs1,rfl,Rg.cn hc13,bx5.cn hc13,by omega,?_⟩ ?_
  · show∀j:Nat,j<(k+1)->¬(gI g.2 ↑j).1=(gI g.2 ↑j).2
    exact vE hlp ‹_›
  · show Int.toNat (((g.2.length:Int):Int)-((k+1):Int))<Int.toNat (((g.2.length:Int):Int)-(k:Int))
    omega
 refine ag rfl (df p2) (aH rfl (aa ?_))
 clear bx5
 refine a8 rfl (ma (vb true) (ab (aD (vs:=[vb true]) Try.func43 (.tmp rfl .nil) ?_)))
 have e0:(true:Bool)=(decide (∀e∈g.2,¬e.1=e.2)):=by
   exact zX ‹_› hlp
 exact⟨rb e0,bH.below⟩
set_option maxHeartbeats 4000000 in
theorem vw(w0:World)(g:(Int)×(List Pt))(g_v:Value)(hg_v:Ro w0 g_v g.2)(hm:aX g):
    Calls Try.prog 20 #[vg [vi g.1,g_v]] w0 (λee w=>ee= .returned (vb (bY g))/\ep w0.heap.size w0 w):=by
 refine av Try.func20 rfl nq ?_
 have bH:=bn.start w0
 have Rg:=hg_v.sl
 refine aa (a8 rfl (cB rfl (cr c0 (is 1) (1,0) rfl rfl ?_)))
 intro g4 w1 b3 ch2 bx5
 replace bx5:Bx g4 (is 1) w1 b3 [vi g.1,g_v]:=bx5
 refine ma (vb false) (ab (aa (a8 rfl (lx (aB (ds:=[vi g.1,g_v]) aK rfl bx5 rfl rfl) ?_))))
 replace Rg:=Rg.cn ch2
 refine lo (bQ (aN (vals:=[vg [vi g.1,g_v],vn,vn]) Try.func42 um u6 rfl) (iK w1 g g_v (Rg).ro ([]) vn (Sl.nil (γ:=c0) (S:=any)) ([]) vn (Sl.nil (γ:=c0) (S:=any)) (by exact hm) (by exact λh=>absurd h (by decide)) (by exact λh=>absurd h (by decide))) ?_)
 rintro⟨d7,v9⟩ w6 ⟨fr8,o10⟩
 obtain⟨g11,ch12,G11⟩:=ia g4 fr8 (λn=>if n=1 then 2 else 0)
 replace o10:=o10.gl G11 2
 refine mv (vt [v9,vi ((aU g ([]) ([])).2)]) (lx (aJ rfl rfl) (lx (aJ rfl rfl) (ma v9 (ai ((aU g ([]) ([])).2) (ab (aa ?_))))))
 clear o10
 refine a8 rfl (lx (af cW rfl rfl rfl rfl) ?_)
 replace bx5:=bx5.cn ch12
 refine lx (ae aj rfl bx5 rfl) (lx (eO (m:=g.1) (n:=2) rfl rfl) (mv (vb (decide (2<=g.1))) ?_))
 by_cases q13:2<=g.1
 ·
  refine lv (vi ((aU g ([]) ([])).2)) (wy (dt q13)) (au rfl) (lv (vb (decide (((aU g ([]) ([])).2)=1))) (wy (dt q13)) (cZ (m:=(aU g ([]) ([])).2) (n:=1) rfl rfl) (lw (vb (decide (((aU g ([]) ([])).2)=1))) (aO rfl (dt q13) rfl) (mv (vb (decide (((aU g ([]) ([])).2)=1))) ?_)))
  by_cases q17:((aU g ([]) ([])).2)=1
  ·
   refine lv (vg [vi g.1,g_v]) (wy (dt q17)) (aB (ds:=[vi g.1,g_v]) aK rfl bx5 rfl rfl) ?_
   replace Rg:=Rg.cn ch12
   refine cB (wy (dt q17)) (bW (v:=vb (decide (∀e∈g.2,¬e.1=e.2))) (aN (vals:=[vg [vi g.1,g_v]]) Try.func43 AZ A7 rfl) (x6 w6 g g_v (Rg).ro) ?_)
   intro w13 hb14
   replace hb14:=aS hb14 g11
   refine lw (vb (decide (∀e∈g.2,¬e.1=e.2))) (aO rfl (dt q17) rfl) (mv (vb (decide (∀e∈g.2,¬e.1=e.2))) ?_)
   by_cases q21:(decide (∀e∈g.2,¬e.1=e.2))=true
   ·
    replace bx5:=bx5.cn hb14
    refine lv (vg [vi g.1,g_v]) (wy q21) (aB (ds:=[vi g.1,g_v]) aK rfl bx5 rfl rfl) ?_
    replace Rg:=Rg.cn hb14
    refine cB (wy q21) (bQ (aN (vals:=[vg [vi g.1,g_v]]) Try.func44 AE AB rfl) (sS w13 g g_v (Rg).ro (by exact hm)) ?_)
    rintro⟨d16,v18,v20⟩ w15 ⟨fr17,o19,o21⟩
    obtain⟨g22,ch23,G22⟩:=ia g11 fr17 (λn=>if n=1 then 3 else if n=2 then 4 else 0)
    replace o19:=o19.gl G22 3
    replace o21:=o21.gl G22 4
    refine lv (v20) (wy q21) (nK jV rfl bN rfl rfl) ?_
    have len24:=(o21.flat).small
    refine lv (vi (List.length (((c7 g).2).1):Int)) (wy q21) (bq bv rfl o21.flat) (lv (vb (decide ((List.length (((c7 g).2).1):Int)=0))) (wy q21) (cZ (m:=(List.length (((c7 g).2).1):Int)) (n:=0) rfl rfl) (lw (vb (decide ((List.length (((c7 g).2).1):Int)=0))) (aO rfl q21 rfl) (ma (vb (decide ((List.length (((c7 g).2).1):Int)=0))) (ab (aD (vs:=[vb (decide ((List.length (((c7 g).2).1):Int)=0))]) Try.func20 (.tmp rfl .nil) ?_)))))
    have e0:(decide ((List.length (((c7 g).2).1):Int)=0):Bool)=(bY g):=by
      exact CU hm ‹_› ‹_› (of_decide_eq_true ‹_›)
    have C25:=cg [] (ch2.n.seq (ch12.n.seq (hb14.n.seq ch23.n)))
    replace bH:=bH.ca C25
    exact⟨(congrArg (a₁:=decide ((List.length (((c7 g).2).1):Int)=0)) (λ(z0:Bool)=>Ending.returned (vb z0)) e0),bH.below⟩
   refine ak (wn (Bool.eq_false_iff.2 q21)) (ak (wn (Bool.eq_false_iff.2 q21)) (ak (wn (Bool.eq_false_iff.2 q21)) (ak (wn (Bool.eq_false_iff.2 q21)) (ak (wn (Bool.eq_false_iff.2 q21)) (lw (vb false) (aP rfl (Bool.eq_false_iff.2 q21) rfl) (ma (vb false) (ab (aD (vs:=[vb false]) Try.func20 (.tmp rfl .nil) ?_))))))))
   have e0:(false:Bool)=(bY g):=by
     exact D2 hm (λh=>absurd (dt h) ‹_›)
   have C26:=cg [] (ch2.n.seq (ch12.n.seq hb14.n))
   replace bH:=bH.ca C26
   exact⟨rb e0,bH.below⟩
  refine ak (wn (df q17)) (ak (wn (df q17)) (lw (vb false) (aP rfl (df q17) rfl) (mv (vb false) (ak (wn rfl) (ak (wn rfl) (ak (wn rfl) (ak (wn rfl) (ak (wn rfl) (lw (vb false) (aP rfl rfl rfl) (ma (vb false) (ab (aD (vs:=[vb false]) Try.func20 (.tmp rfl .nil) ?_))))))))))))
  have e0:(false:Bool)=(bY g):=by
    exact D5 hm ‹_›
  replace bH:=bH.cn ch2
  replace bH:=bH.cn ch12
  exact⟨rb e0,bH.below⟩
 refine ak (wn (df q13)) (ak (wn (df q13)) (lw (vb false) (aP rfl (df q13) rfl) (mv (vb false) (ak (wn rfl) (ak (wn rfl) (lw (vb false) (aP rfl rfl rfl) (mv (vb false) (ak (wn rfl) (ak (wn rfl) (ak (wn rfl) (ak (wn rfl) (ak (wn rfl) (lw (vb false) (aP rfl rfl rfl) (ma (vb false) ?_))))))))))))))
 refine ab (aD (vs:=[vb false]) Try.func20 (.tmp rfl .nil) ?_)
 have e0:(false:Bool)=(bY g):=by
   exact CH hm ‹_›
 replace bH:=bH.cn ch2
 replace bH:=bH.cn ch12
 exact⟨rb e0,bH.below⟩
end TL
