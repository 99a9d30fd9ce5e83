import Derived.Test.YtfpckpgnnplhnaaGreatSwTlSpA
import Derived.Test.YtfpckpgnnplhnaaGreatSwTlGenA
import Derived.Test.YtfpckpgnnplhnaaGreatSwTlAli
set_option linter.all false
set_option maxRecDepth 20000
namespace TL
open Go Go.Proofs
theorem uq:Tryz.f102.body.isNone=false:=rfl
theorem vF:(Tryz.f102.name== "runtime.NumGoroutine")=false:=by decide+kernel
theorem uT:Tryz.f135.body.isNone=false:=rfl
theorem uP:(Tryz.f135.name== "runtime.NumGoroutine")=false:=by decide+kernel
theorem tl(w0:World)(g:(Int)×(List Pt))(g_v:Value)(hg_v:Ro w0 g_v g.2)(v:Int)(hm:bO g):
    Calls Tryz.prog 101 #[vg [vi g.1,g_v],vi v] w0 (λee w=>∃xx:ax×Value×Value,ee= .returned ((λ⟨δ,rv0,rv1⟩=>vt [vg [vi ((gM g v).1),rv0],rv1]) xx)/\(λ(⟨δ,rv0,rv1⟩:ax×Value×Value) (w:World)=>dz w0 δ w/\Ow δ (is 1) (is 1) w rv0 ((gM g v).2)/\Ow δ (is 2) (is 2) w rv1 (jZ g.1 v)) xx w):=by
 refine ah Tryz.func101 rfl nq ?_
 have bH:=aW.start w0
 have Rg:=hg_v.sl
 have hm0:=hm
 obtain⟨hm1,hm2,hm3,hm4⟩:=hm0
 refine a7 (a6 rfl (cy rfl (bU c0 (is 1) (1,0) rfl rfl ?_)))
 intro g4 w1 b3 ch2 bx5
 refine lo (aZ g4 (is 2) (2,0) rfl aK ?_)
 intro g9 w6 b8 ch7 bx10
 refine ma vn (ab (a7 (a6 rfl (ma vn (ab (a7 (a7 (a6 rfl (lx (aa dK rfl rfl rfl rfl) ?_)))))))))
 refine lx (a8 aD rfl bx5.t rfl) (mi 0 (ab (aj ?_)))
 refine aR (σ:=Nat×Value×(List Int)×ax) (λ⟨k,nm_v,nm,gq⟩ f w=>aW w0 gq w/\f 1=vi v/\f 2=vp b3 0/\f 4=vp b8 0/\f 6=nm_v/\f 12=vi g.1/\f 13=vi ↑k/\Sl gq (is 0) w g_v g.2/\Bx gq (is 1) w b3 [vi g.1,g_v]/\Bx gq (is 2) w b8 [vi 0,vn]/\Ow gq (is 4) (is 4) w nm_v nm/\(k:Int)<=(g.1:Int)/\(nm=uz v k)) (λ⟨k,nm_v,nm,gq⟩=>Int.toNat ((g.1:Int)-(k:Int))) (0,vn,[],g9) ?_ ?_
 · exact⟨bH.t,rfl,rfl,rfl,rfl,rfl,rfl,Rg.t,bx5.t,bx10,Ow.nil,by omega,by rfl⟩
 rintro⟨k,nm_v,nm,g13⟩ f11 w12 ⟨bH,zs1,zs2,zs4,zs6,zs12,zs13,Rg,bx5,bx10,o_nm,hle_k,hnm⟩ back3
 have hnml:nm.length<=k:=by rw[hnm];exact tS
 refine a7 (a6 rfl (lx (br (m:=↑k) (n:=g.1) zs13 zs12) (ab (a7 ?_))))
 by_cases p3:(k:Int)<g.1
 ·
  refine ag rfl (dt p3) (am (a7 (aj (a7 (a6 rfl (mz zs13 (ai (k:Int) (ab (a7 (a6 rfl (mi ↑k (mz zs1 ?_))))))))))))
  refine lx (du (m:=↑k) (n:=v) rfl rfl) (ab ?_)
  by_cases p5:(k:Int)=v
  ·
   refine af rfl (congrArg Bool.not (dt p5)) (am (ak (a6 rfl (lx (aJ (m:=↑k) (n:=1) zs13 rfl (by omega)) (mi ((k:Int)+1) (ab ?_))))))
   refine back3 (k+1,nm_v,nm,g13) _ _ ⟨bH,zs1,zs2,zs4,zs6,zs12,rfl,Rg,bx5,bx10,o_nm,by omega,?_⟩ ?_
   · show nm=uz v (k+1)
     (rw[hnm];exact D1 ‹_›)
   · show Int.toNat (_-_)<Int.toNat (_-_)
     omega
  refine ag rfl (congrArg Bool.not (df p5)) (a6 rfl (mz zs6 (mi ↑k (lo (aq (α:=Int) g13 (is 3) (is 3) (3,0) rfl [(k:Int)] bF aD (by decide) (by decide) (vs:=[(0,vi ↑k)]) rfl rfl (.cons rfl .nil) ?_)))))
  intro g14 w15 v16 ch17 o18
  refine lo ?_
  refine aS (α:=Int) (xs:=nm) (ys:=([(k:Int)])) g14 (J:=is 4) (S:=is 4) (4,0) rfl bF aD (by decide) rfl rfl rfl o_nm.t o18.flat (by decide) (by(simp;omega)) ?_
  intro g19 w20 v21 ch22 o23
  refine ma v21 (ab (ak ?_))
  refine a6 rfl (lx (aJ (m:=↑k) (n:=1) zs13 rfl (by omega)) (mi ((k:Int)+1) (ab ?_)))
  refine back3 (k+1,v21,(nm++[(k:Int)]),g19) _ _ ⟨bH.t,zs1,zs2,zs4,rfl,zs12,rfl,Rg.t,bx5.t,bx10.t,o23,by omega,?_⟩ ?_
  · show(nm++[(k:Int)])=uz v (k+1)
    (rw[hnm];exact BA ‹_›)
  · show Int.toNat (_-_)<Int.toNat (_-_)
    omega
 refine af rfl (df p3) (aF rfl (a7 (a6 rfl (lx (av (ds:=[vi g.1,g_v]) aK zs2 bx5 rfl rfl) (mz zs6 (lo (bB (aB (vals:=[vg [vi g.1,g_v],nm_v]) Tryz.func135 uT uP rfl) (C8 w12 g g_v (Rg).ro nm nm_v (o_nm.t.flat).ro) ?_)))))))
 rintro⟨d25,v27,v29⟩ w24 ⟨fr26,o28,o30⟩
 obtain⟨g31,ch32,G31⟩:=hU g13 fr26 (λn=>if n=1 then 5 else if n=2 then 6 else 0)
 replace o28:=o28.gl G31 5
 replace o30:=o30.gl G31 6
 refine mv (vt [vg [vi (((dp g nm).1).1),v27],v29,vi ((dp g nm).2.2)]) (lx (ay rfl rfl) (lx (ay rfl rfl) (lx (ay rfl rfl) (lo (aZ g31 (is 7) (7,0) rfl aK ?_)))))
 intro g36 w33 b35 ch34 bx37
 refine lo ?_
 refine aA (cs':=[vi (((dp g nm).1).1),v27]) aK rfl rfl bx37 rfl nq (AllOne.all (.cons rfl (.cons (aM o28.t.flat) .nil))) rfl ?_
 intro w38 ch39 bx40
 refine ma v29 (ai ((dp g nm).2.2) (ab (a7 ?_)))
 refine a6 rfl (lx (av (ds:=[vi (((dp g nm).1).1),v27]) aK rfl bx40 rfl rfl) (mz zs6 (lo ?_)))
 refine aA (cs':=[vi (((dp g nm).1).1),v27]) aK zs4 rfl bx10.t rfl nq (AllOne.all (.cons rfl (.cons (aM o28.t.flat) .nil))) rfl ?_
 intro w41 ch42 bx43
 refine ma nm_v (ab (az (vs:=[vg [vi (((dp g nm).1).1),v27],nm_v]) Tryz.func101 (.cell zs4 (cd (ds:=[vi (((dp g nm).1).1),v27]) aK bx43 rfl rfl) (.tmp rfl .nil)) ?_))
 have e0:(((dp g nm).1):(Int)×(List Pt))=(gM g v):=by
   (rw[hnm,show k=g.1.toNat by omega];rfl)
 have e1:(nm:List Int)=(jZ g.1 v):=by
   (rw[hnm,show k=g.1.toNat by omega];rfl)
 exact⟨(fin w0 g36 (λn=>if n=5 then 1 else if n=4 then 2 else 0),v27,nm_v),(cP (a:=((dp g nm).1)) (b:=nm) (λ(z0:(Int)×(List Pt)) (z1:List Int)=>Ending.returned (vt [vg [vi z0.1,v27],nm_v])) e0 e1),bH.t.fresh _,((congrArg (λ(z:(Int)×(List Pt))=>z.2) e0)▸(o28.t.glue (γ:=c0) (ren:=(λn=>if n=5 then 1 else if n=4 then 2 else 0)) (k:=1) bH.t.col rfl rfl)),(e1▸(o_nm.t.glue (γ:=c0) (ren:=(λn=>if n=5 then 1 else if n=4 then 2 else 0)) (k:=2) bH.t.col rfl rfl))⟩
theorem q5(w0:World)(g:(Int)×(List Pt))(g_v:Value)(hg_v:Ro w0 g_v g.2):
    Calls Tryz.prog 99 #[vg [vi g.1,g_v]] w0 (λee w=>ee= .returned (vb (so g))/\eK w0.heap.size w0 w):=by
 refine ah Tryz.func99 rfl nq ?_
 have bH:=aW.start w0
 have Rg:=hg_v.sl
 refine a7 (a6 rfl (cy rfl (bU c0 (is 1) (1,0) rfl rfl ?_)))
 intro g4 w1 b3 ch2 bx5
 refine ma (vb false) (ab (a7 (a6 rfl (lx (av (ds:=[vi g.1,g_v]) aK rfl bx5 rfl rfl) ?_))))
 refine lo (bB (aB (vals:=[vg [vi g.1,g_v]]) Tryz.func102 uq vF rfl) (qO w1 g g_v Rg.t.ro) ?_)
 rintro⟨d7,v9⟩ w6 ⟨fr8,o10⟩
 obtain⟨g11,ch12,G11⟩:=hU g4 fr8 (λn=>if n=1 then 2 else 0)
 replace o10:=o10.gl G11 2
 refine mv (vt [v9,vi ((bx g).2.1),vi ((bx g).2.2)]) (lx (ay rfl rfl) (lx (ay rfl rfl) (lx (ay rfl rfl) (ma v9 (ai ((bx g).2.1) (ai ((bx g).2.2) (ab (a7 ?_))))))))
 refine a6 rfl (mi ((bx g).2.1) (lx (xr (m:=(bx g).2.1) (n:=1) rfl rfl) (ma (vb (decide (((bx g).2.1)<=1))) (ab (az (vs:=[vb (decide (((bx g).2.1)<=1))]) Tryz.func99 (.tmp rfl .nil) ?_)))))
 have e0:(decide (((bx g).2.1)<=1):Bool)=(so g):=by
   rfl
 exact⟨(congrArg (a₁:=decide (((bx g).2.1)<=1)) (λ(z0:Bool)=>Ending.returned (vb z0)) e0),bH.t.below⟩
end TL
