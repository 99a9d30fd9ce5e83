import Derived.Test.YtmakonaaojadbaaBaTlP4
import Derived.Test.YtmakonaaojadbaaBaTlGmA
import Derived.Test.YtmakonaaojadbaaBaTlGenA
import Derived.Test.YtmakonaaojadbaaBaTlErB
import Derived.Test.YtmakonaaojadbaaProg
import Derived.Test.YtmakonaaojadbaaBaTlAli
set_option linter.all false
set_option maxRecDepth 20000
namespace TL
open Go Go.Proofs
theorem rp:Try.prog.follows .mixedOrders=true:=by kernel_rfl
theorem ov:Try.f17.body.isNone=false:=rfl
theorem pE:(Try.f17.name== "runtime.NumGoroutine")=false:=by decide+kernel
theorem tp:Try.f45.body.isNone=false:=rfl
theorem s6:(Try.f45.name== "runtime.NumGoroutine")=false:=by decide+kernel
theorem rB(w0:World)(g:(Int)×(List Pt))(g_v:Value)(hg_v:Ro w0 g_v g.2):
    Calls Try.prog 45 #[vg [vi g.1,g_v]] w0 (λee w=>ee= .returned (vb (decide (∀e∈g.2,¬e.1=e.2)))/\dT w0.heap.size w0 w):=by
 refine aC Try.func45 rfl nq ?_
 have bH:=bv.start w0
 have Rg:=hg_v.sl
 refine ab (a8 rfl (db rfl (d4 c0 (is 1) (1,0) rfl rfl ?_)))
 intro g4 w1 b3 ch2 bx5
 replace bx5:Bx g4 (is 1) w1 b3 [vi g.1,g_v]:=bx5
 refine ma (vb false) (ag (ab (ab (a8 rfl (ai 0 (ag (ar ?_)))))))
 refine bc (σ:=Nat×aJ) (λ⟨k,gq⟩ f w=>bv w0 gq w/\f 1=vp b3 0/\f 3=vi ↑k/\Sl gq (is 0) w g_v g.2/\Bx gq (is 1) w b3 [vi g.1,g_v]/\(k:Int)<=((g.2.length:Int):Int)/\(∀j:Nat,j<k->¬(gI g.2 ↑j).1=(gI g.2 ↑j).2)) (λ⟨k,gq⟩=>Int.toNat (((g.2.length:Int):Int)-(k:Int))) (0,g4) ?_ ?_
 · exact⟨bH.cn ch2,rfl,rfl,Rg.cn ch2,bx5,by omega,by exact λj h=>absurd h (Nat.not_lt_zero _)⟩
 clear Rg bx5 bH
 rintro⟨k,g8⟩ f6 w7 ⟨bH,zs1,zs3,Rg,bx5,hle_k,hlp⟩ back2
 refine ab (ab (a8 rfl (mz zs3 (lx (ad cZ rfl rfl zs1 rfl) (lx (af bC rfl bx5 rfl) ?_)))))
 have len9:=(Rg).small
 refine lx (bu dD rfl Rg) (lx (bn (m:=↑k) (n:=(g.2.length:Int)) rfl rfl) (ag ?_))
 by_cases p2:(k:Int)<(g.2.length:Int)
 ·
  refine al rfl (dt p2) (av (ab (ar (ab (cq g8 rfl rp (by kernel_rfl) ?_)))))
  intro w11 ch10
  refine qx (λw' hw'=>ad cZ rfl rfl zs1 rfl) ?_
  replace bx5:=bx5.cn ch10
  refine qx (λw' hw'=>af bC rfl (bx5.bel hw') rfl) (qz zs3 ?_)
  replace Rg:=Rg.cn ch10
  refine qx (λw' hw'=>ae (v:=g_v) (i:=↑k) dD rfl rfl (Rg.bel hw') rfl (by omega) (by omega)) (qx (λw' hw'=>bM dg rfl rfl rfl (by decide) (by decide) rfl) (qx (λw' hw'=>cw (v:=g_v) (i:=↑k) ah rfl (Rg.bel hw') (by omega) (by omega) (by decide) rfl) (qx (λw' hw'=>ad cZ rfl rfl zs1 rfl) (qx (λw' hw'=>af bC rfl (bx5.bel hw') rfl) (qz zs3 (qx (λw' hw'=>ae (v:=g_v) (i:=↑k) dD rfl rfl (Rg.bel hw') rfl (by omega) (by omega)) (qx (λw' hw'=>bM dg rfl rfl rfl (by decide) (by decide) rfl) (qx (λw' hw'=>cw (v:=g_v) (i:=↑k) ah rfl (Rg.bel hw') (by omega) (by omega) (by decide) rfl) ?_))))))))
  refine qx (λw' hw'=>cH (m:=(gI g.2 ↑k).1) (n:=(gI g.2 ↑k).2) rfl rfl) (d8 ?_)
  intro w12 hc13
  replace hc13:=aS hc13 g8
  by_cases p4:((gI g.2 ↑k).1)=((gI g.2 ↑k).2)
  ·
   refine al rfl (dt p4) (ab ?_)
   clear bx5
   refine a8 rfl (ma (vb false) (ag (aQ (vs:=[vb false]) Try.func45 (.tmp rfl .nil) ?_)))
   have e0:(false:Bool)=(decide (∀e∈g.2,¬e.1=e.2)):=by
     exact qU ‹_› ‹_›
   replace bH:=bH.cn ch10
   replace bH:=bH.cn hc13
   exact⟨rb e0,bH.below⟩
  refine aj rfl (df p4) (av (ak (a8 rfl (mz zs3 (lx (aG (m:=↑k) (n:=1) rfl rfl (by omega)) (ai ((k:Int)+1) (ag ?_)))))))
  replace bH:=bH.cn ch10
  refine back2 (k+1,g8) _ _ ⟨bH.cn hc13,zs1,rfl,Rg.cn hc13,bx5.cn hc13,by omega,?_⟩ ?_
  · show∀j:Nat,j<(k+1)->¬(gI g.2 ↑j).1=(gI g.2 ↑j).2
    exact pM hlp ‹_›
  · show Int.toNat (((g.2.length:Int):Int)-((k+1):Int))<Int.toNat (((g.2.length:Int):Int)-(k:Int))
    omega
 refine aj rfl (df p2) (aF rfl (ab ?_))
 clear bx5
 refine a8 rfl (ma (vb true) (ag (aQ (vs:=[vb true]) Try.func45 (.tmp rfl .nil) ?_)))
 have e0:(true:Bool)=(decide (∀e∈g.2,¬e.1=e.2)):=by
   exact sw ‹_› hlp
 exact⟨rb e0,bH.below⟩
set_option maxHeartbeats 4000000 in
theorem pX(w0:World)(g:(Int)×(List Pt))(g_v:Value)(hg_v:Ro w0 g_v g.2)(hm:bg g):
    Calls Try.prog 22 #[vg [vi g.1,g_v]] w0 (λee w=>ee= .returned (vb (c9 g))/\dT w0.heap.size w0 w):=by
 refine aC Try.func22 rfl nq ?_
 have bH:=bv.start w0
 have Rg:=hg_v.sl
 refine ab (a8 rfl (db rfl (d4 c0 (is 1) (1,0) rfl rfl ?_)))
 intro g4 w1 b3 ch2 bx5
 replace bx5:Bx g4 (is 1) w1 b3 [vi g.1,g_v]:=bx5
 refine ma (vb false) (ag (ab (a8 rfl (lx (aB (ds:=[vi g.1,g_v]) cO rfl bx5 rfl rfl) ?_))))
 replace Rg:=Rg.cn ch2
 refine lo (ck (b9 (vals:=[vg [vi g.1,g_v],vn,vn]) Try.func31 kj km rfl) (gF w1 g g_v (Rg).ro ([]) vn (Sl.nil (γ:=c0) (S:=any)) ([]) vn (Sl.nil (γ:=c0) (S:=any)) (by exact hm) (by exact λh=>absurd h (by decide)) (by exact λh=>absurd h (by decide))) ?_)
 rintro⟨d7,v9⟩ w6 ⟨fr8,o10⟩
 obtain⟨g11,ch12,G11⟩:=jh g4 fr8 (λn=>if n=1 then 2 else 0)
 replace o10:=o10.gl G11 2
 refine mv (vt [v9,vi ((b7 g ([]) ([])).2)]) (lx (aR rfl rfl) (lx (aR rfl rfl) (ma v9 (ai ((b7 g ([]) ([])).2) (ag (ab ?_))))))
 clear o10
 refine a8 rfl (lx (ad cZ rfl rfl rfl rfl) ?_)
 replace bx5:=bx5.cn ch12
 refine lx (af ah rfl bx5 rfl) (lx (gJ (m:=g.1) (n:=2) rfl rfl) (mv (vb (decide (2<=g.1))) ?_))
 by_cases q13:2<=g.1
 ·
  refine lv (vi ((b7 g ([]) ([])).2)) (wy (dt q13)) (au rfl) (lv (vb (decide (((b7 g ([]) ([])).2)=1))) (wy (dt q13)) (cH (m:=(b7 g ([]) ([])).2) (n:=1) rfl rfl) (lw (vb (decide (((b7 g ([]) ([])).2)=1))) (b5 rfl (dt q13) rfl) (mv (vb (decide (((b7 g ([]) ([])).2)=1))) ?_)))
  by_cases q17:((b7 g ([]) ([])).2)=1
  ·
   refine lv (vg [vi g.1,g_v]) (wy (dt q17)) (aB (ds:=[vi g.1,g_v]) cO rfl bx5 rfl rfl) ?_
   replace Rg:=Rg.cn ch12
   refine db (wy (dt q17)) (cC (v:=vb (decide (∀e∈g.2,¬e.1=e.2))) (b9 (vals:=[vg [vi g.1,g_v]]) Try.func45 tp s6 rfl) (rB w6 g g_v (Rg).ro) ?_)
   intro w13 hb14
   replace hb14:=aS hb14 g11
   refine lw (vb (decide (∀e∈g.2,¬e.1=e.2))) (b5 rfl (dt q17) rfl) (mv (vb (decide (∀e∈g.2,¬e.1=e.2))) ?_)
   by_cases q21:(decide (∀e∈g.2,¬e.1=e.2))=true
   ·
    replace bx5:=bx5.cn hb14
    refine lv (vg [vi g.1,g_v]) (wy q21) (aB (ds:=[vi g.1,g_v]) cO rfl bx5 rfl rfl) ?_
    replace Rg:=Rg.cn hb14
    refine db (wy q21) (ck (b9 (vals:=[vg [vi g.1,g_v]]) Try.func17 ov pE rfl) (ip w13 g g_v (Rg).ro (by exact hm)) ?_)
    rintro⟨d16,v18,v20⟩ w15 ⟨fr17,o19,o21⟩
    obtain⟨g22,ch23,G22⟩:=jh g11 fr17 (λn=>if n=1 then 3 else if n=2 then 4 else 0)
    replace o19:=o19.gl G22 3
    replace o21:=o21.gl G22 4
    refine lv (v20) (wy q21) (my eD rfl bh rfl rfl) ?_
    have len24:=(o21.flat).small
    refine lv (vi (List.length (((aa g).2).1):Int)) (wy q21) (bu bf rfl o21.flat) (lv (vb (decide ((List.length (((aa g).2).1):Int)=0))) (wy q21) (cH (m:=(List.length (((aa g).2).1):Int)) (n:=0) rfl rfl) (lw (vb (decide ((List.length (((aa g).2).1):Int)=0))) (b5 rfl q21 rfl) (ma (vb (decide ((List.length (((aa g).2).1):Int)=0))) (ag (aQ (vs:=[vb (decide ((List.length (((aa g).2).1):Int)=0))]) Try.func22 (.tmp rfl .nil) ?_)))))
    have e0:(decide ((List.length (((aa g).2).1):Int)=0):Bool)=(c9 g):=by
      exact uB hm ‹_› ‹_› (of_decide_eq_true ‹_›)
    have C25:=cg [] (ch2.n.seq (ch12.n.seq (hb14.n.seq ch23.n)))
    replace bH:=bH.ca C25
    exact⟨(congrArg (a₁:=decide ((List.length (((aa g).2).1):Int)=0)) (λ(z0:Bool)=>Ending.returned (vb z0)) e0),bH.below⟩
   refine ax (wn (Bool.eq_false_iff.2 q21)) (ax (wn (Bool.eq_false_iff.2 q21)) (ax (wn (Bool.eq_false_iff.2 q21)) (ax (wn (Bool.eq_false_iff.2 q21)) (ax (wn (Bool.eq_false_iff.2 q21)) (lw (vb false) (aY rfl (Bool.eq_false_iff.2 q21) rfl) (ma (vb false) (ag (aQ (vs:=[vb false]) Try.func22 (.tmp rfl .nil) ?_))))))))
   have e0:(false:Bool)=(c9 g):=by
     exact uU hm (λh=>absurd (dt h) ‹_›)
   have C26:=cg [] (ch2.n.seq (ch12.n.seq hb14.n))
   replace bH:=bH.ca C26
   exact⟨rb e0,bH.below⟩
  refine ax (wn (df q17)) (ax (wn (df q17)) (lw (vb false) (aY rfl (df q17) rfl) (mv (vb false) (ax (wn rfl) (ax (wn rfl) (ax (wn rfl) (ax (wn rfl) (ax (wn rfl) (lw (vb false) (aY rfl rfl rfl) (ma (vb false) (ag (aQ (vs:=[vb false]) Try.func22 (.tmp rfl .nil) ?_))))))))))))
  have e0:(false:Bool)=(c9 g):=by
    exact uL hm ‹_›
  replace bH:=bH.cn ch2
  replace bH:=bH.cn ch12
  exact⟨rb e0,bH.below⟩
 refine ax (wn (df q13)) (ax (wn (df q13)) (lw (vb false) (aY rfl (df q13) rfl) (mv (vb false) (ax (wn rfl) (ax (wn rfl) (lw (vb false) (aY rfl rfl rfl) (mv (vb false) (ax (wn rfl) (ax (wn rfl) (ax (wn rfl) (ax (wn rfl) (ax (wn rfl) (lw (vb false) (aY rfl rfl rfl) (ma (vb false) ?_))))))))))))))
 refine ag (aQ (vs:=[vb false]) Try.func22 (.tmp rfl .nil) ?_)
 have e0:(false:Bool)=(c9 g):=by
   exact uM hm ‹_›
 replace bH:=bH.cn ch2
 replace bH:=bH.cn ch12
 exact⟨rb e0,bH.below⟩
end TL
