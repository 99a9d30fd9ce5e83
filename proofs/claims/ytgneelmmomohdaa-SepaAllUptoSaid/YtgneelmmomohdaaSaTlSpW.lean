import Derived.Test.YtgneelmmomohdaaSaTlP5
import Derived.Test.YtgneelmmomohdaaSaTlSpA
import Derived.Test.YtgneelmmomohdaaSaTlGenA
import Derived.Test.YtgneelmmomohdaaProg
import Derived.Test.YtgneelmmomohdaaSaTlAli
set_option linter.all false
set_option maxRecDepth 20000
namespace TL
open Go Go.Proofs
theorem yE:Try.f56.body.isNone=false:=rfl
theorem yQ:(Try.f56.name== "runtime.NumGoroutine")=false:=by decide+kernel
theorem wh:Try.f74.body.isNone=false:=rfl
theorem y7:(Try.f74.name== "runtime.NumGoroutine")=false:=by decide+kernel
theorem tz(w0:World)(g:(Int)×(List Pt))(g_v:Value)(hg_v:Ro w0 g_v g.2)(v:Int)(hm:aX g):
    Calls Try.prog 58 #[vg [vi g.1,g_v],vi v] w0 (λee w=>∃xx:aG×Value×Value,ee= .returned ((λ⟨δ,rv0,rv1⟩=>vt [vg [vi ((fy g v).1),rv0],rv1]) xx)/\(λ(⟨δ,rv0,rv1⟩:aG×Value×Value) (w:World)=>eB w0 δ w/\Ow δ (is 1) (is 1) w rv0 ((fy g v).2)/\Ow δ (is 2) (is 2) w rv1 (e7 g.1 v)) xx w):=by
 refine av Try.func58 rfl nq ?_
 have bH:=bn.start w0
 have Rg:=hg_v.sl
 have hm0:=hm
 obtain⟨hm1,hm2,hm3,hm4⟩:=hm0
 refine aa (a8 rfl (cB rfl (cr c0 (is 1) (1,0) rfl rfl ?_)))
 intro g4 w1 b3 ch2 bx5
 replace bx5:Bx g4 (is 1) w1 b3 [vi g.1,g_v]:=bx5
 refine lo (bP g4 (is 2) (2,0) rfl aK ?_)
 intro g9 w6 b8 ch7 bx10
 replace bx10:Bx g9 (is 2) w6 b8 [vi 0,vn]:=bx10
 refine ma vn (ab (aa (a8 rfl (ma vn (ab (aa (aa (a8 rfl (lx (af cW rfl rfl rfl rfl) ?_)))))))))
 replace bx5:=bx5.cn ch7
 refine lx (ae aj rfl bx5 rfl) (mi 0 (ab (ao ?_)))
 refine aY (σ:=Nat×Value×(List Int)×aG) (λ⟨k,nm_v,nm,gq⟩ f w=>bn w0 gq w/\f 1=vi v/\f 2=vp b3 0/\f 4=vp b8 0/\f 6=nm_v/\f 12=vi g.1/\f 13=vi ↑k/\Sl gq (is 0) w g_v g.2/\Bx gq (is 1) w b3 [vi g.1,g_v]/\Bx gq (is 2) w b8 [vi 0,vn]/\Ow gq (is 4) (is 4) w nm_v nm/\(k:Int)<=(g.1:Int)/\(nm=ua v k)) (λ⟨k,nm_v,nm,gq⟩=>Int.toNat ((g.1:Int)-(k:Int))) (0,vn,[],g9) ?_ ?_
 replace bH:=bH.cn ch2
 · exact⟨bH.cn ch7,rfl,rfl,rfl,rfl,rfl,rfl,(Rg.cn ch2).cn ch7,bx5,bx10,Ow.nil,by omega,by rfl⟩
 clear Rg bx5 bx10 bH
 rintro⟨k,nm_v,nm,g13⟩ f11 w12 ⟨bH,zs1,zs2,zs4,zs6,zs12,zs13,Rg,bx5,bx10,o_nm,hle_k,hnm⟩ back3
 have hnml:nm.length<=k:=by rw[hnm];exact ul
 refine aa (a8 rfl (lx (bm (m:=↑k) (n:=g.1) zs13 zs12) (ab (aa ?_))))
 by_cases p3:(k:Int)<g.1
 ·
  refine ah rfl (dt p3) (aq (aa (ao (aa (a8 rfl (mz zs13 (ai (k:Int) (ab (aa (a8 rfl (mi ↑k (mz zs1 ?_))))))))))))
  refine lx (cK (m:=↑k) (n:=v) rfl rfl) (ab ?_)
  by_cases p5:(k:Int)=v
  ·
   refine ag rfl (congrArg Bool.not (dt p5)) (aq (am (a8 rfl (lx (aI (m:=↑k) (n:=1) zs13 rfl (by omega)) (mi ((k:Int)+1) (ab ?_))))))
   refine back3 (k+1,nm_v,nm,g13) _ _ ⟨bH,zs1,zs2,zs4,zs6,zs12,rfl,Rg,bx5,bx10,o_nm,by omega,?_⟩ ?_
   · show nm=ua v (k+1)
     (rw[hnm];exact Br ‹_›)
   · show Int.toNat ((g.1:Int)-((k+1):Int))<Int.toNat ((g.1:Int)-(k:Int))
     omega
  refine ah rfl (congrArg Bool.not (df p5)) (a8 rfl (mz zs6 (mi ↑k (lo (aC (α:=Int) g13 (is 3) (is 3) (3,0) rfl [(k:Int)] bv aj (by decide) (by decide) (vs:=[(0,vi ↑k)]) rfl rfl (.cons rfl .nil) ?_)))))
  intro g14 w15 v16 ch17 o18
  refine lo ?_
  replace o_nm:=o_nm.cn ch17
  refine bf (α:=Int) (xs:=nm) (ys:=([(k:Int)])) g14 (J:=is 4) (S:=is 4) (4,0) rfl bv aj (by decide) rfl rfl rfl o_nm o18.flat (by decide) (by(simp;omega)) ?_
  intro g19 w20 v21 ch22 o23
  clear o_nm
  refine ma v21 (ab (am ?_))
  clear o18
  refine a8 rfl (lx (aI (m:=↑k) (n:=1) zs13 rfl (by omega)) (mi ((k:Int)+1) (ab ?_)))
  replace bH:=bH.cn ch17
  refine back3 (k+1,v21,(nm++[(k:Int)]),g19) _ _ ⟨bH.ce ch22,zs1,zs2,zs4,rfl,zs12,rfl,(Rg.cn ch17).ce ch22,(bx5.cn ch17).ce ch22,(bx10.cn ch17).ce ch22,o23,by omega,?_⟩ ?_
  · show(nm++[(k:Int)])=ua v (k+1)
    (rw[hnm];exact zB ‹_›)
  · show Int.toNat ((g.1:Int)-((k+1):Int))<Int.toNat ((g.1:Int)-(k:Int))
    omega
 refine ag rfl (df p3) (aH rfl (aa (a8 rfl (lx (aB (ds:=[vi g.1,g_v]) aK zs2 bx5 rfl rfl) (mz zs6 (lo (bQ (aN (vals:=[vg [vi g.1,g_v],nm_v]) Try.func74 wh y7 rfl) (zP w12 g g_v (Rg).ro nm nm_v (o_nm.flat).ro) ?_)))))))
 rintro⟨d25,v27,v29⟩ w24 ⟨fr26,o28,o30⟩
 obtain⟨g31,ch32,G31⟩:=ia g13 fr26 (λn=>if n=1 then 5 else if n=2 then 6 else 0)
 replace o28:=o28.gl G31 5
 replace o30:=o30.gl G31 6
 refine mv (vt [vg [vi (((du g nm).1).1),v27],v29,vi ((du g nm).2.2)]) (lx (aJ rfl rfl) (lx (aJ rfl rfl) (lx (aJ rfl rfl) (lo (bP g31 (is 7) (7,0) rfl aK ?_)))))
 intro g36 w33 b35 ch34 bx37
 replace bx37:Bx g36 (is 7) w33 b35 [vi 0,vn]:=bx37
 refine lo ?_
 replace o28:=o28.cn ch34
 refine aT (cs':=[vi (((du g nm).1).1),v27]) aK rfl rfl bx37 rfl nq (AllOne.all (.cons rfl (.cons (bK o28.flat) .nil))) rfl ?_
 intro w38 ch39 bx40
 clear bx37
 refine ma v29 (ai ((du g nm).2.2) (ab (aa ?_)))
 clear bx5 o30
 refine a8 rfl (lx (aB (ds:=[vi (((du g nm).1).1),v27]) aK rfl bx40 rfl rfl) (mz zs6 (lo ?_)))
 have C44:=cg [7] (ch32.n.seq (ch34.n.seq (ch39.l rfl)))
 replace bx10:=bx10.ca C44
 replace o28:=o28.ce ch39
 refine aT (cs':=[vi (((du g nm).1).1),v27]) aK zs4 rfl bx10 rfl nq (AllOne.all (.cons rfl (.cons (bK o28.flat) .nil))) rfl ?_
 intro w41 ch42 bx43
 clear bx10
 refine ma nm_v (ab (aD (vs:=[vg [vi (((du g nm).1).1),v27],nm_v]) Try.func58 (.cell zs4 (cF (ds:=[vi (((du g nm).1).1),v27]) aK bx43 rfl rfl) (.tmp rfl .nil)) ?_))
 have C45:=cg [2,7] (ch32.n.seq (ch34.n.seq ((ch39.l rfl).seq (ch42.l rfl))))
 replace bH:=bH.ca C45
 replace o28:=o28.ce ch42
 replace o_nm:=o_nm.ca C45
 have e0:(((du g nm).1):(Int)×(List Pt))=(fy g v):=by
   (rw[hnm,show k=g.1.toNat by omega];rfl)
 have e1:(nm:List Int)=(e7 g.1 v):=by
   (rw[hnm,show k=g.1.toNat by omega];rfl)
 exact⟨(fin w0 g36 (λn=>if n=5 then 1 else if n=4 then 2 else 0),v27,nm_v),(cT (a:=((du g nm).1)) (b:=nm) (λ(z0:(Int)×(List Pt)) (z1:List Int)=>Ending.returned (vt [vg [vi z0.1,v27],nm_v])) e0 e1),bH.fresh _,((congrArg (λ(z:(Int)×(List Pt))=>z.2) e0)▸(o28.glue (γ:=c0) (ren:=(λn=>if n=5 then 1 else if n=4 then 2 else 0)) (k:=1) bH.col rfl rfl)),(e1▸(o_nm.glue (γ:=c0) (ren:=(λn=>if n=5 then 1 else if n=4 then 2 else 0)) (k:=2) bH.col rfl rfl))⟩
theorem ky(w0:World)(g:(Int)×(List Pt))(g_v:Value)(hg_v:Ro w0 g_v g.2):
    Calls Try.prog 29 #[vg [vi g.1,g_v]] w0 (λee w=>ee= .returned (vb (gU g))/\ep w0.heap.size w0 w):=by
 refine av Try.func29 rfl nq ?_
 have bH:=bn.start w0
 have Rg:=hg_v.sl
 refine aa (a8 rfl (cB rfl (cr c0 (is 1) (1,0) rfl rfl ?_)))
 intro g4 w1 b3 ch2 bx5
 replace bx5:Bx g4 (is 1) w1 b3 [vi g.1,g_v]:=bx5
 refine ma (vb false) (ab (aa (a8 rfl (lx (aB (ds:=[vi g.1,g_v]) aK rfl bx5 rfl rfl) ?_))))
 replace Rg:=Rg.cn ch2
 refine lo (bQ (aN (vals:=[vg [vi g.1,g_v]]) Try.func56 yE yQ rfl) (qH w1 g g_v (Rg).ro) ?_)
 rintro⟨d7,v9⟩ w6 ⟨fr8,o10⟩
 obtain⟨g11,ch12,G11⟩:=ia g4 fr8 (λn=>if n=1 then 2 else 0)
 replace o10:=o10.gl G11 2
 refine mv (vt [v9,vi ((bt g).2.1),vi ((bt g).2.2)]) (lx (aJ rfl rfl) (lx (aJ rfl rfl) (lx (aJ rfl rfl) (ma v9 (ai ((bt g).2.1) (ai ((bt g).2.2) (ab (aa ?_))))))))
 clear bx5 o10
 refine a8 rfl (mi ((bt g).2.1) (lx (qL (m:=(bt g).2.1) (n:=1) rfl rfl) (ma (vb (decide (((bt g).2.1)<=1))) (ab (aD (vs:=[vb (decide (((bt g).2.1)<=1))]) Try.func29 (.tmp rfl .nil) ?_)))))
 have e0:(decide (((bt g).2.1)<=1):Bool)=(gU g):=by
   rfl
 replace bH:=bH.cn ch2
 replace bH:=bH.cn ch12
 exact⟨(congrArg (a₁:=decide (((bt g).2.1)<=1)) (λ(z0:Bool)=>Ending.returned (vb z0)) e0),bH.below⟩
end TL
