import Derived.Test.YtfpckpgnnplhnaaGreatSkTlSpA
import Derived.Test.YtfpckpgnnplhnaaGreatSkTlGenA
import Derived.Test.YtfpckpgnnplhnaaGreatSkTlAli
set_option linter.all false
set_option maxRecDepth 20000
namespace TL
open Go Go.Proofs
theorem tq:Tryz.f102.body.isNone=false:=rfl
theorem t8:(Tryz.f102.name== "runtime.NumGoroutine")=false:=by decide+kernel
theorem tu:Tryz.f135.body.isNone=false:=rfl
theorem sB:(Tryz.f135.name== "runtime.NumGoroutine")=false:=by decide+kernel
theorem rm(w0:World)(g:(Int)×(List Pt))(g_v:Value)(hg_v:Ro w0 g_v g.2)(v:Int)(hm:c7 g):
    Calls Tryz.prog 101 #[vg [vi g.1,g_v],vi v] w0 (λee w=>∃xx:aw×Value×Value,ee= .returned ((λ⟨δ,rv0,rv1⟩=>vt [vg [vi ((gG g v).1),rv0],rv1]) xx)/\(λ(⟨δ,rv0,rv1⟩:aw×Value×Value) (w:World)=>dU w0 δ w/\Ow δ (is 1) (is 1) w rv0 ((gG g v).2)/\Ow δ (is 2) (is 2) w rv1 (ka g.1 v)) xx w):=by
 refine ap Tryz.func101 rfl nq ?_
 have bH:=b6.start w0
 have Rg:=hg_v.sl
 have hm0:=hm
 obtain⟨hm1,hm2,hm3,hm4⟩:=hm0
 refine a7 (a6 rfl (cN rfl (cq c0 (is 1) (1,0) rfl rfl ?_)))
 intro g4 w1 b3 ch2 bx5
 refine lo (bi g4 (is 2) (2,0) rfl aX ?_)
 intro g9 w6 b8 ch7 bx10
 refine ma vn (ab (a7 (a6 rfl (ma vn (ab (a7 (a7 (a6 rfl (lx (aa ea rfl rfl rfl rfl) ?_)))))))))
 replace bx5:=bx5.cn ch7
 refine lx (a8 ah rfl bx5 rfl) (mi 0 (ab (am ?_)))
 refine aV (σ:=Nat×Value×(List Int)×aw) (λ⟨k,nm_v,nm,gq⟩ f w=>b6 w0 gq w/\f 1=vi v/\f 2=vp b3 0/\f 4=vp b8 0/\f 6=nm_v/\f 12=vi g.1/\f 13=vi ↑k/\Sl gq (is 0) w g_v g.2/\Bx gq (is 1) w b3 [vi g.1,g_v]/\Bx gq (is 2) w b8 [vi 0,vn]/\Ow gq (is 4) (is 4) w nm_v nm/\(k:Int)<=(g.1:Int)/\(nm=u6 v k)) (λ⟨k,nm_v,nm,gq⟩=>Int.toNat ((g.1:Int)-(k:Int))) (0,vn,[],g9) ?_ ?_
 replace bH:=bH.cn ch2
 · exact⟨bH.cn ch7,rfl,rfl,rfl,rfl,rfl,rfl,(Rg.cn ch2).cn ch7,bx5,bx10,Ow.nil,by omega,by rfl⟩
 clear Rg bx5 bx10 bH
 rintro⟨k,nm_v,nm,g13⟩ f11 w12 ⟨bH,zs1,zs2,zs4,zs6,zs12,zs13,Rg,bx5,bx10,o_nm,hle_k,hnm⟩ back3
 have hnml:nm.length<=k:=by rw[hnm];exact s6
 refine a7 (a6 rfl (lx (bw (m:=↑k) (n:=g.1) zs13 zs12) (ab (a7 ?_))))
 by_cases p3:(k:Int)<g.1
 ·
  refine af rfl (dt p3) (ao (a7 (am (a7 (a6 rfl (mz zs13 (ai (k:Int) (ab (a7 (a6 rfl (mi ↑k (mz zs1 ?_))))))))))))
  refine lx (dq (m:=↑k) (n:=v) rfl rfl) (ab ?_)
  by_cases p5:(k:Int)=v
  ·
   refine ag rfl (congrArg Bool.not (dt p5)) (ao (ak (a6 rfl (lx (aS (m:=↑k) (n:=1) zs13 rfl (by omega)) (mi ((k:Int)+1) (ab ?_))))))
   refine back3 (k+1,nm_v,nm,g13) _ _ ⟨bH,zs1,zs2,zs4,zs6,zs12,rfl,Rg,bx5,bx10,o_nm,by omega,?_⟩ ?_
   · show nm=u6 v (k+1)
     (rw[hnm];exact Af ‹_›)
   · show Int.toNat (_-_)<Int.toNat (_-_)
     omega
  refine af rfl (congrArg Bool.not (df p5)) (a6 rfl (mz zs6 (mi ↑k (lo (ar (α:=Int) g13 (is 3) (is 3) (3,0) rfl [(k:Int)] bF ah (by decide) (by decide) (vs:=[(0,vi ↑k)]) rfl rfl (.cons rfl .nil) ?_)))))
  intro g14 w15 v16 ch17 o18
  refine lo ?_
  replace o_nm:=o_nm.cn ch17
  refine aK (α:=Int) (xs:=nm) (ys:=([(k:Int)])) g14 (J:=is 4) (S:=is 4) (4,0) rfl bF ah (by decide) rfl rfl rfl o_nm o18.flat (by decide) (by(simp;omega)) ?_
  intro g19 w20 v21 ch22 o23
  clear o_nm
  refine ma v21 (ab (ak ?_))
  clear o18
  refine a6 rfl (lx (aS (m:=↑k) (n:=1) zs13 rfl (by omega)) (mi ((k:Int)+1) (ab ?_)))
  replace bH:=bH.cn ch17
  refine back3 (k+1,v21,(nm++[(k:Int)]),g19) _ _ ⟨bH.ce ch22,zs1,zs2,zs4,rfl,zs12,rfl,(Rg.cn ch17).ce ch22,(bx5.cn ch17).ce ch22,(bx10.cn ch17).ce ch22,o23,by omega,?_⟩ ?_
  · show(nm++[(k:Int)])=u6 v (k+1)
    (rw[hnm];exact yA ‹_›)
  · show Int.toNat (_-_)<Int.toNat (_-_)
    omega
 refine ag rfl (df p3) (aO rfl (a7 (a6 rfl (lx (ay (ds:=[vi g.1,g_v]) aX zs2 bx5 rfl rfl) (mz zs6 (lo (bE (aH (vals:=[vg [vi g.1,g_v],nm_v]) Tryz.func135 tu sB rfl) (zH w12 g g_v (Rg).ro nm nm_v (o_nm.flat).ro) ?_)))))))
 rintro⟨d25,v27,v29⟩ w24 ⟨fr26,o28,o30⟩
 obtain⟨g31,ch32,G31⟩:=i8 g13 fr26 (λn=>if n=1 then 5 else if n=2 then 6 else 0)
 replace o28:=o28.gl G31 5
 replace o30:=o30.gl G31 6
 refine mv (vt [vg [vi (((di g nm).1).1),v27],v29,vi ((di g nm).2.2)]) (lx (aJ rfl rfl) (lx (aJ rfl rfl) (lx (aJ rfl rfl) (lo (bi g31 (is 7) (7,0) rfl aX ?_)))))
 intro g36 w33 b35 ch34 bx37
 refine lo ?_
 replace o28:=o28.cn ch34
 refine ax (cs':=[vi (((di g nm).1).1),v27]) aX rfl rfl bx37 rfl nq (AllOne.all (.cons rfl (.cons (aG o28.flat) .nil))) rfl ?_
 intro w38 ch39 bx40
 clear bx37
 refine ma v29 (ai ((di g nm).2.2) (ab (a7 ?_)))
 clear bx5 o30
 refine a6 rfl (lx (ay (ds:=[vi (((di g nm).1).1),v27]) aX rfl bx40 rfl rfl) (mz zs6 (lo ?_)))
 have C44:=cg [7] (ch32.n.seq (ch34.n.seq (ch39.l rfl)))
 replace bx10:=bx10.ca C44
 replace o28:=o28.ce ch39
 refine ax (cs':=[vi (((di g nm).1).1),v27]) aX zs4 rfl bx10 rfl nq (AllOne.all (.cons rfl (.cons (aG o28.flat) .nil))) rfl ?_
 intro w41 ch42 bx43
 clear bx10
 refine ma nm_v (ab (au (vs:=[vg [vi (((di g nm).1).1),v27],nm_v]) Tryz.func101 (.cell zs4 (cy (ds:=[vi (((di g nm).1).1),v27]) aX bx43 rfl rfl) (.tmp rfl .nil)) ?_))
 have C45:=cg [2,7] (ch32.n.seq (ch34.n.seq ((ch39.l rfl).seq (ch42.l rfl))))
 replace bH:=bH.ca C45
 replace o28:=o28.ce ch42
 replace o_nm:=o_nm.ca C45
 have e0:(((di g nm).1):(Int)×(List Pt))=(gG g v):=by
   (rw[hnm,show k=g.1.toNat by omega];rfl)
 have e1:(nm:List Int)=(ka g.1 v):=by
   (rw[hnm,show k=g.1.toNat by omega];rfl)
 exact⟨(fin w0 g36 (λn=>if n=5 then 1 else if n=4 then 2 else 0),v27,nm_v),(cV (a:=((di g nm).1)) (b:=nm) (λ(z0:(Int)×(List Pt)) (z1:List Int)=>Ending.returned (vt [vg [vi z0.1,v27],nm_v])) e0 e1),bH.fresh _,((congrArg (λ(z:(Int)×(List Pt))=>z.2) e0)▸(o28.glue (γ:=c0) (ren:=(λn=>if n=5 then 1 else if n=4 then 2 else 0)) (k:=1) bH.col rfl rfl)),(e1▸(o_nm.glue (γ:=c0) (ren:=(λn=>if n=5 then 1 else if n=4 then 2 else 0)) (k:=2) bH.col rfl rfl))⟩
theorem oe(w0:World)(g:(Int)×(List Pt))(g_v:Value)(hg_v:Ro w0 g_v g.2):
    Calls Tryz.prog 99 #[vg [vi g.1,g_v]] w0 (λee w=>ee= .returned (vb (r7 g))/\eJ w0.heap.size w0 w):=by
 refine ap Tryz.func99 rfl nq ?_
 have bH:=b6.start w0
 have Rg:=hg_v.sl
 refine a7 (a6 rfl (cN rfl (cq c0 (is 1) (1,0) rfl rfl ?_)))
 intro g4 w1 b3 ch2 bx5
 refine ma (vb false) (ab (a7 (a6 rfl (lx (ay (ds:=[vi g.1,g_v]) aX rfl bx5 rfl rfl) ?_))))
 replace Rg:=Rg.cn ch2
 refine lo (bE (aH (vals:=[vg [vi g.1,g_v]]) Tryz.func102 tq t8 rfl) (qy w1 g g_v (Rg).ro) ?_)
 rintro⟨d7,v9⟩ w6 ⟨fr8,o10⟩
 obtain⟨g11,ch12,G11⟩:=i8 g4 fr8 (λn=>if n=1 then 2 else 0)
 replace o10:=o10.gl G11 2
 refine mv (vt [v9,vi ((bu g).2.1),vi ((bu g).2.2)]) (lx (aJ rfl rfl) (lx (aJ rfl rfl) (lx (aJ rfl rfl) (ma v9 (ai ((bu g).2.1) (ai ((bu g).2.2) (ab (a7 ?_))))))))
 clear bx5 o10
 refine a6 rfl (mi ((bu g).2.1) (lx (A5 (m:=(bu g).2.1) (n:=1) rfl rfl) (ma (vb (decide (((bu g).2.1)<=1))) (ab (au (vs:=[vb (decide (((bu g).2.1)<=1))]) Tryz.func99 (.tmp rfl .nil) ?_)))))
 have e0:(decide (((bu g).2.1)<=1):Bool)=(r7 g):=by
   rfl
 replace bH:=bH.cn ch2
 replace bH:=bH.cn ch12
 exact⟨(congrArg (a₁:=decide (((bu g).2.1)<=1)) (λ(z0:Bool)=>Ending.returned (vb z0)) e0),bH.below⟩
end TL
