import Derived.Test.YtgneelmmomohdaaSaTlP5
import Derived.Test.YtgneelmmomohdaaSaTlErA
import Derived.Test.YtgneelmmomohdaaSaTlGenA
import Derived.Test.YtgneelmmomohdaaProg
import Derived.Test.YtgneelmmomohdaaSaTlAli
set_option linter.all false
set_option maxRecDepth 20000
namespace TL
open Go Go.Proofs
theorem rq:Try.f42.body.isNone=false:=rfl
theorem qC:(Try.f42.name== "runtime.NumGoroutine")=false:=by decide+kernel
theorem kP(w0:World)(g:(Int)×(List Pt))(g_v:Value)(hg_v:Ro w0 g_v g.2)(nodes:List Int)(nodes_v:Value)(hnodes_v:Ro w0 nodes_v nodes)(hm:aX g)(hl:∀v∈nodes,0<=v/\v<g.1):
    Calls Try.prog 40 #[vg [vi g.1,g_v],nodes_v] w0 (λee w=>ee= .returned (vi (cV g nodes))/\ep w0.heap.size w0 w):=by
 refine av Try.func40 rfl nq ?_
 have bH:=bn.start w0
 have Rg:=hg_v.sl
 have Rnodes:=hnodes_v.sl
 have hm0:=hm
 obtain⟨hm1,hm2,hm3,hm4⟩:=hm0
 refine aa (a8 rfl (cB rfl (cr c0 (is 1) (1,0) rfl rfl ?_)))
 intro g4 w1 b3 ch2 bx5
 replace bx5:Bx g4 (is 1) w1 b3 [vi g.1,g_v]:=bx5
 refine ai 0 (ab (aa (a8 rfl (lx (af cW rfl rfl rfl rfl) (lx (ae aj rfl bx5 rfl) (lo (dL (α:=Bool) (l:=g.1) (cp:=g.1) g4 (is 2) (is 2) (2,0) rfl false gj cO rfl rfl rfl (by omega) (by omega) (by omega) (by omega) ?_)))))))
 intro g6 w7 v8 ch9 o10 _
 refine ma v8 (ab (aa (aa (a8 rfl (ai 0 (ab (ao ?_)))))))
 refine aY (σ:=Nat×(List Bool)×aG) (λ⟨k,gn,gq⟩ f w=>bn w0 gq w/\f 1=nodes_v/\f 2=vp b3 0/\f 5=v8/\f 6=vi ↑k/\Sl gq (is 0) w g_v g.2/\Sl gq (is 0) w nodes_v nodes/\Bx gq (is 1) w b3 [vi g.1,g_v]/\Ow gq (is 2) (is 2) w v8 gn/\(k:Int)<=((nodes.length:Int):Int)/\(gn=mb g (nodes.take k))) (λ⟨k,gn,gq⟩=>Int.toNat (((nodes.length:Int):Int)-(k:Int))) (0,(List.replicate (Int.toNat g.1) false),g6) ?_ ?_
 replace bH:=bH.cn ch2
 · exact⟨bH.cn ch9,rfl,rfl,rfl,rfl,(Rg.cn ch2).cn ch9,(Rnodes.cn ch2).cn ch9,bx5.cn ch9,o10,by omega,by rfl⟩
 clear Rg Rnodes bx5 o10 bH
 rintro⟨k,gn,g13⟩ f11 w12 ⟨bH,zs1,zs2,zs5,zs6,Rg,Rnodes,bx5,o10,hle_k,hgn⟩ back3
 have hgnl:(gn.length:Int)=g.1:=by rw[hgn];exact wL hm
 refine aa (aa (a8 rfl (mz zs6 (mz zs1 ?_))))
 have len14:=(Rnodes).small
 refine lx (bq bv rfl Rnodes) (lx (bm (m:=↑k) (n:=(nodes.length:Int)) rfl rfl) (ab ?_))
 by_cases p3:(k:Int)<(nodes.length:Int)
 ·
  refine ah rfl (dt p3) ?_
  obtain⟨hv0,hv1⟩:=hl _ (br (xs:=nodes) (i:=↑k) (by omega) ‹_›)
  refine aq (aa (ao (a8 rfl (mz zs5 (mz zs1 (mz zs6 (lx (ad (v:=nodes_v) (i:=↑k) bv rfl rfl Rnodes rfl (by omega) (by omega)) (lx (az (v:=nodes_v) (i:=↑k) aj rfl Rnodes (by omega) (by omega) (by decide) rfl) (lx (ad (v:=v8) (i:=(gI nodes ↑k)) gj rfl rfl o10.flat rfl (by omega) (by omega)) ?_)))))))))
  refine lo (aQ (i:=(gI nodes ↑k)) true cO rfl rfl o10 (by omega) (by omega) rfl ?_)
  intro w15 ch16 bx17
  clear o10
  refine ab (am (a8 rfl (mz zs6 (lx (aI (m:=↑k) (n:=1) rfl rfl (by omega)) (ai ((k:Int)+1) (ab ?_))))))
  refine back3 (k+1,(List.set gn (Int.toNat (gI nodes ↑k)) true),g13) _ _ ⟨bH.ce ch16,zs1,zs2,zs5,rfl,Rg.ce ch16,Rnodes.ce ch16,bx5.ce ch16,bx17,by omega,?_⟩ ?_
  · show(List.set gn (Int.toNat (gI nodes ↑k)) true)=mb g (nodes.take (k+1))
    (rw[hgn,bC ‹_›];unfold mb;rw[List.foldl_append];rfl)
  · show Int.toNat (((nodes.length:Int):Int)-((k+1):Int))<Int.toNat (((nodes.length:Int):Int)-(k:Int))
    omega
 refine ag rfl (df p3) (aH rfl (aa (a8 rfl (lx (aB (ds:=[vi g.1,g_v]) aK zs2 bx5 rfl rfl) (mz zs5 (lo (bQ (aN (vals:=[vg [vi g.1,g_v],v8,vn]) Try.func42 rq qC rfl) (iK w12 g g_v (Rg).ro gn v8 (o10.flat).ro ([]) vn (Sl.nil (γ:=c0) (S:=any)) (by exact hm) (by exact λ_=>hgnl) (by exact λh=>absurd h (by decide))) ?_)))))))
 rintro⟨d19,v21⟩ w18 ⟨fr20,o22⟩
 obtain⟨g23,ch24,G23⟩:=ia g13 fr20 (λn=>if n=1 then 3 else 0)
 replace o22:=o22.gl G23 3
 refine mv (vt [v21,vi ((aU g gn ([])).2)]) (lx (aJ rfl rfl) (lx (aJ rfl rfl) (ma v21 (ai ((aU g gn ([])).2) (ab (aa ?_))))))
 clear bx5 o10 o22
 refine a8 rfl (mi ((aU g gn ([])).2) (ai ((aU g gn ([])).2) (ab (aD (vs:=[vi ((aU g gn ([])).2)]) Try.func40 (.tmp rfl .nil) ?_))))
 have e0:((aU g gn ([])).2:Int)=(cV g nodes):=by
   (rw[hgn,List.take_of_length_le (by omega)];rfl)
 replace bH:=bH.cn ch24
 exact⟨(congrArg (a₁:=(aU g gn ([])).2) (λ(z0:Int)=>Ending.returned (vi z0)) e0),bH.below⟩
end TL
