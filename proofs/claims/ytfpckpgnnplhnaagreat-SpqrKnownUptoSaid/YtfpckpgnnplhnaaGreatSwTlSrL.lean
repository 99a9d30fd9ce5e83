import Derived.Test.YtfpckpgnnplhnaaGreatSwTlErA
import Derived.Test.YtfpckpgnnplhnaaGreatSwTlGenA
import Derived.Test.YtfpckpgnnplhnaaGreatSwTlAli
set_option linter.all false
set_option maxRecDepth 20000
namespace TL
open Go Go.Proofs
theorem na:Tryz.f30.body.isNone=false:=rfl
theorem nN:(Tryz.f30.name== "runtime.NumGoroutine")=false:=by decide+kernel
theorem yO:Tryz.f40.body.isNone=false:=rfl
theorem Ab:(Tryz.f40.name== "runtime.NumGoroutine")=false:=by decide+kernel
theorem nt(w0:World)(g:(Int)×(List Pt))(g_v:Value)(hg_v:Ro w0 g_v g.2)(nodes:List Int)(nodes_v:Value)(hnodes_v:Ro w0 nodes_v nodes)(hm:bO g)(hl:∀v∈nodes,0<=v/\v<g.1):
    Calls Tryz.prog 30 #[vg [vi g.1,g_v],nodes_v] w0 (λee w=>ee= .returned (vi (fy g nodes))/\eK w0.heap.size w0 w):=by
 refine ah Tryz.func30 rfl nq ?_
 have bH:=aW.start w0
 have Rg:=hg_v.sl
 have Rnodes:=hnodes_v.sl
 have hm0:=hm
 obtain⟨hm1,hm2,hm3,hm4⟩:=hm0
 refine a7 (a6 rfl (cy rfl (bU c0 (is 1) (1,0) rfl rfl ?_)))
 intro g4 w1 b3 ch2 bx5
 refine ai 0 (ab (a7 (a6 rfl (lx (aa dK rfl rfl rfl rfl) (lx (a8 ap rfl bx5 rfl) (lo (dF (α:=Bool) (l:=g.1) (cp:=g.1) g4 (is 2) (is 2) (2,0) rfl false j6 dA rfl rfl rfl (by omega) (by omega) (by omega) (by omega) ?_)))))))
 intro g6 w7 v8 ch9 o10 _
 refine ma v8 (ab (a7 (a7 (a6 rfl (ai 0 (ab (aj ?_)))))))
 refine aR (σ:=Nat×(List Bool)×ax) (λ⟨k,gn,gq⟩ f w=>aW w0 gq w/\f 1=nodes_v/\f 2=vp b3 0/\f 5=v8/\f 6=vi ↑k/\Sl gq (is 0) w g_v g.2/\Sl gq (is 0) w nodes_v nodes/\Bx gq (is 1) w b3 [vi g.1,g_v]/\Ow gq (is 2) (is 2) w v8 gn/\(k:Int)<=((nodes.length:Int):Int)/\(gn=ox g (nodes.take k))) (λ⟨k,gn,gq⟩=>Int.toNat (((nodes.length:Int):Int)-(k:Int))) (0,(List.replicate (Int.toNat g.1) false),g6) ?_ ?_
 · exact⟨bH.t,rfl,rfl,rfl,rfl,Rg.t,Rnodes.t,bx5.t,o10,by omega,by rfl⟩
 rintro⟨k,gn,g13⟩ f11 w12 ⟨bH,zs1,zs2,zs5,zs6,Rg,Rnodes,bx5,o10,hle_k,hgn⟩ back3
 have hgnl:(gn.length:Int)=g.1:=by rw[hgn];exact Az hm
 refine a7 (a7 (a6 rfl (mz zs6 (mz zs1 ?_))))
 have len14:=(Rnodes).small
 refine lx (bG bF rfl Rnodes) (lx (br (m:=↑k) (n:=(nodes.length:Int)) rfl rfl) (ab ?_))
 by_cases p3:(k:Int)<(nodes.length:Int)
 ·
  refine ag rfl (dt p3) ?_
  obtain⟨hv0,hv1⟩:=hl _ (bz (xs:=nodes) (i:=↑k) (by omega) ‹_›)
  refine am (a7 (aj (a6 rfl (mz zs5 (mz zs1 (mz zs6 (lx (ad (v:=nodes_v) (i:=↑k) bF rfl rfl Rnodes rfl (by omega) (by omega)) (lx (aw (v:=nodes_v) (i:=↑k) ap rfl Rnodes (by omega) (by omega) (by decide) rfl) (lx (ad (v:=v8) (i:=(gI nodes ↑k)) j6 rfl rfl o10.flat rfl (by omega) (by omega)) ?_)))))))))
  refine lo (aU (i:=(gI nodes ↑k)) true dA rfl rfl o10 (by omega) (by omega) rfl ?_)
  intro w15 ch16 bx17
  refine ab (ak (a6 rfl (mz zs6 (lx (aJ (m:=↑k) (n:=1) rfl rfl (by omega)) (ai ((k:Int)+1) (ab ?_))))))
  refine back3 (k+1,(List.set gn (Int.toNat (gI nodes ↑k)) true),g13) _ _ ⟨bH.t,zs1,zs2,zs5,rfl,Rg.t,Rnodes.t,bx5.t,bx17,by omega,?_⟩ ?_
  · show(List.set gn (Int.toNat (gI nodes ↑k)) true)=ox g (nodes.take (k+1))
    (rw[hgn,bc ‹_›];unfold ox;rw[List.foldl_append];rfl)
  · show Int.toNat (_-_)<Int.toNat (_-_)
    omega
 refine af rfl (df p3) (aF rfl (a7 (a6 rfl (lx (av (ds:=[vi g.1,g_v]) aK zs2 bx5 rfl rfl) (mz zs5 (lo (bB (aB (vals:=[vg [vi g.1,g_v],v8,vn]) Tryz.func40 yO Ab rfl) (tk w12 g g_v (Rg).ro gn v8 (o10.flat).ro ([]) vn (Sl.nil (γ:=c0) (S:=any)) (by exact hm) (by exact λ_=>hgnl) (by exact λh=>absurd h (by decide)) (by decide)) ?_)))))))
 rintro⟨d19,v21⟩ w18 ⟨fr20,o22⟩
 obtain⟨g23,ch24,G23⟩:=hU g13 fr20 (λn=>if n=1 then 3 else 0)
 replace o22:=o22.gl G23 3
 refine mv (vt [v21,vi ((fA g gn ([])).2)]) (lx (ay rfl rfl) (lx (ay rfl rfl) (ma v21 (ai ((fA g gn ([])).2) (ab (a7 ?_))))))
 refine a6 rfl (mi ((fA g gn ([])).2) (ai ((fA g gn ([])).2) (ab (az (vs:=[vi ((fA g gn ([])).2)]) Tryz.func30 (.tmp rfl .nil) ?_))))
 have e0:((fA g gn ([])).2:Int)=(fy g nodes):=by
   (rw[hgn,List.take_of_length_le (by omega)];rfl)
 exact⟨(congrArg (a₁:=(fA g gn ([])).2) (λ(z0:Int)=>Ending.returned (vi z0)) e0),bH.t.below⟩
set_option maxHeartbeats 4000000 in
theorem sO(w0:World)(g:(Int)×(List Pt))(g_v:Value)(hg_v:Ro w0 g_v g.2)(hL:sH g):
    Calls Tryz.prog 12 #[vg [vi g.1,g_v]] w0 (λee w=>ee= .returned (vi 3)/\eK w0.heap.size w0 w):=by
 refine ah Tryz.func12 rfl nq ?_
 have bH:=aW.start w0
 have Rg:=hg_v.sl
 have hm:=hL.may
 have h4:=hL.four
 have hm2:=hm
 obtain⟨hm0,hm1,_,_⟩:=hm2
 refine a7 (a6 rfl (cy rfl (bU c0 (is 1) (1,0) rfl rfl ?_)))
 intro g4 w1 b3 ch2 bx5
 refine ai 0 (ab (a7 (a7 (a6 rfl (lx (aa dK rfl rfl rfl rfl) (lx (a8 ap rfl bx5 rfl) (lx (br (m:=g.1) (n:=2) rfl rfl) (mv (vb (decide (g.1<2))) ?_))))))))
 have q9:¬(g.1<2):=by omega
 refine lv (vg [vi g.1,g_v]) (wy (df q9)) (av (ds:=[vi g.1,g_v]) aK rfl bx5 rfl rfl) ?_
 refine cy (wy (df q9)) (bI (v:=vi (fy g ([]))) (aB (vals:=[vg [vi g.1,g_v],vn]) Tryz.func30 na nN rfl) (nt w1 g g_v Rg.t.ro ([]) vn (Sl.nil (γ:=c0) (S:=any)) (by exact hm) (by exact(λv hv=>absurd hv List.not_mem_nil))) ?_)
 intro w6 hb7
 replace hb7:=aG hb7 g4
 refine lv (vb (!(decide ((fy g ([]))=1)))) (wy (df q9)) (du (m:=fy g ([])) (n:=1) rfl rfl) (lw (vb (!(decide ((fy g ([]))=1)))) (bo rfl (df q9) rfl) (ab ?_))
 have p1:(fy g ([]))=1:=by exact hL.z
 refine af rfl (congrArg Bool.not (dt p1)) (am (a7 (a7 (a6 rfl (lx (aa dK rfl rfl rfl rfl) ?_)))))
 refine lx (a8 ap rfl bx5.t rfl) (lx (br (m:=g.1) (n:=3) rfl rfl) (ab ?_))
 have p3:¬(g.1<3):=by omega
 refine af rfl (df p3) (am (a7 (a7 (a6 rfl (ai 0 (ab (aj ?_)))))))
 refine aR (σ:=Nat×ax) (λ⟨u,gq⟩ f w=>aW w0 gq w/\f 1=vp b3 0/\f 3=vi ↑u/\Sl gq (is 0) w g_v g.2/\Bx gq (is 1) w b3 [vi g.1,g_v]/\(u:Int)<=(g.1:Int)/\True) (λ⟨u,gq⟩=>Int.toNat ((g.1:Int)-(u:Int))) (0,g4) ?_ ?_
 · exact⟨bH.t,rfl,rfl,Rg.t,bx5.t,by omega,trivial⟩
 rintro⟨u,g10⟩ f8 w9 ⟨bH,zs1,zs3,Rg,bx5,hle_u,hinv6⟩ back6
 refine a7 (a7 (a6 rfl (mz zs3 (lx (aa dK rfl rfl zs1 rfl) (lx (a8 ap rfl bx5 rfl) (lx (br (m:=↑u) (n:=g.1) rfl rfl) (ab ?_)))))))
 by_cases p6:(u:Int)<g.1
 ·
  refine ag rfl (dt p6) (am (a7 (aj (a7 (a6 rfl (lx (av (ds:=[vi g.1,g_v]) aK zs1 bx5 rfl rfl) (mz zs3 (lo (aq (α:=Int) g10 (is 2) (is 2) (2,0) rfl ([(u:Int)]:List Int) bF ap (by decide) (by decide) (vs:=[(0,vi ↑u)]) rfl rfl (.cons rfl .nil) ?_)))))))))
  intro g11 w12 v13 ch14 o15
  refine lo (bI (v:=vi (fy g ([(u:Int)]:List Int))) (aB (vals:=[vg [vi g.1,g_v],v13]) Tryz.func30 na nN rfl) (nt w12 g g_v Rg.t.ro ([(u:Int)]:List Int) v13 (o15.flat).ro (by exact hm) (by exact E7 ⟨by omega,by omega⟩)) ?_)
  intro w16 hb17
  replace hb17:=aG hb17 g11
  refine lx (du (m:=fy g ([(u:Int)]:List Int)) (n:=1) rfl rfl) (ab ?_)
  have p8:(fy g ([(u:Int)]:List Int))=1:=by exact hL.one _ (by omega)
  refine af rfl (congrArg Bool.not (dt p8)) (am (ak ?_))
  refine a6 rfl (mz zs3 (lx (aJ (m:=↑u) (n:=1) rfl rfl (by omega)) (ai ((u:Int)+1) (ab ?_))))
  refine back6 (u+1,g11) _ _ ⟨bH.t,zs1,rfl,Rg.t,bx5.t,by omega,?_⟩ ?_
  · trivial
  · show Int.toNat (_-_)<Int.toNat (_-_)
    omega
 refine af rfl (df p6) (aF rfl (a7 (a7 (a6 rfl (lx (aa dK rfl rfl zs1 rfl) (lx (a8 ap rfl bx5 rfl) (lx (br (m:=g.1) (n:=4) rfl rfl) (ab ?_))))))))
 have p10:¬(g.1<4):=by omega
 refine af rfl (df p10) (am (a7 (a7 (a6 rfl (ai 0 (ab (aj ?_)))))))
 refine aR (σ:=Nat×ax) (λ⟨a,gq⟩ f w=>aW w0 gq w/\f 1=vp b3 0/\f 4=vi ↑a/\Sl gq (is 0) w g_v g.2/\Bx gq (is 1) w b3 [vi g.1,g_v]/\(a:Int)<=(g.1:Int)/\True) (λ⟨a,gq⟩=>Int.toNat ((g.1:Int)-(a:Int))) (0,g10) ?_ ?_
 · exact⟨bH.t,zs1,rfl,Rg.t,bx5,by omega,trivial⟩
 rintro⟨a,g20⟩ f18 w19 ⟨bH,zs1,zs4,Rg,bx5,hle_a,hinv13⟩ back13
 refine a7 (a7 (a6 rfl (mz zs4 (lx (aa dK rfl rfl zs1 rfl) (lx (a8 ap rfl bx5 rfl) (lx (br (m:=↑a) (n:=g.1) rfl rfl) (ab ?_)))))))
 by_cases p13:(a:Int)<g.1
 ·
  refine ag rfl (dt p13) (am (a7 (aj (a7 (a6 rfl (mz zs4 (lx (aJ (m:=↑a) (n:=1) rfl rfl (by omega)) (ai ((a:Int)+1) (ab (aj ?_))))))))))
  refine aR (σ:=Int×ax) (λ⟨b,gq⟩ f w=>aW w0 gq w/\f 1=vp b3 0/\f 4=vi ↑a/\f 5=vi b/\Sl gq (is 0) w g_v g.2/\Bx gq (is 1) w b3 [vi g.1,g_v]/\((a:Int)+1<=b/\b<=g.1)) (λ⟨b,gq⟩=>(g.1-b).toNat) ((a:Int)+1,g20) ?_ ?_
  · exact⟨bH,zs1,zs4,rfl,Rg,bx5,by exact⟨by omega,by omega⟩⟩
  rintro⟨b,g23⟩ f21 w22 ⟨bH,zs1,zs4,zs5,Rg,bx5,hbb⟩ back16
  obtain⟨hb1,hb2⟩:=hbb
  refine a7 (a7 (a6 rfl (mz zs5 (lx (aa dK rfl rfl zs1 rfl) (lx (a8 ap rfl bx5 rfl) (lx (br (m:=b) (n:=g.1) rfl rfl) (ab ?_)))))))
  by_cases p16:b<g.1
  ·
   refine ag rfl (dt p16) (am (a7 (aj (a7 (a6 rfl (lx (av (ds:=[vi g.1,g_v]) aK zs1 bx5 rfl rfl) (mz zs4 (mz zs5 (lo (aq (α:=Int) g23 (is 3) (is 3) (3,0) rfl ([(a:Int),b]:List Int) bF ap (by decide) (by decide) (vs:=[(0,vi ↑a),(1,vi b)]) rfl rfl (.cons rfl (.cons rfl .nil)) ?_))))))))))
   intro g24 w25 v26 ch27 o28
   refine lo (bI (v:=vi (fy g ([(a:Int),b]:List Int))) (aB (vals:=[vg [vi g.1,g_v],v26]) Tryz.func30 na nN rfl) (nt w25 g g_v Rg.t.ro ([(a:Int),b]:List Int) v26 (o28.flat).ro (by exact hm) (by exact Dz ⟨by omega,by omega⟩ ⟨by omega,by omega⟩)) ?_)
   intro w29 hb30
   replace hb30:=aG hb30 g24
   refine lx (du (m:=fy g ([(a:Int),b]:List Int)) (n:=1) rfl rfl) (ab ?_)
   have p18:(fy g ([(a:Int),b]:List Int))=1:=by exact hL.two _ _ (by omega) (by omega)
   refine af rfl (congrArg Bool.not (dt p18)) (am (ak ?_))
   refine a6 rfl (mz zs5 (lx (aJ (m:=b) (n:=1) rfl rfl (by omega)) (ai (b+1) (ab ?_))))
   refine back16 (b+1,g24) _ _ ⟨bH.t,zs1,zs4,rfl,Rg.t,bx5.t,?_⟩ ?_
   · show(a:Int)+1<=(b+1)/\(b+1)<=g.1
     exact⟨by omega,by omega⟩
   · show(g.1-(b+1)).toNat<(g.1-b).toNat
     omega
  refine af rfl (df p16) (aF rfl (ak (a6 rfl (mz zs4 (lx (aJ (m:=↑a) (n:=1) rfl rfl (by omega)) (ai ((a:Int)+1) (ab ?_)))))))
  refine back13 (a+1,g23) _ _ ⟨bH.t,zs1,rfl,Rg.t,bx5,by omega,?_⟩ ?_
  · trivial
  · show Int.toNat (_-_)<Int.toNat (_-_)
    omega
 refine af rfl (df p13) (aF rfl (a7 ?_))
 refine a6 rfl (ai 3 (ab (az (vs:=[vi 3]) Tryz.func12 (.tmp rfl .nil) ?_)))
 have e0:(3:Int)=(3):=by
   rfl
 exact⟨ri e0,bH.t.below⟩
end TL
