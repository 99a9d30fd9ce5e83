import Derived.Test.YtgneelmmomohdaaSaTlP5
import Derived.Test.YtgneelmmomohdaaSaTlSpA
import Derived.Test.YtgneelmmomohdaaSaTlSpW
import Derived.Test.YtgneelmmomohdaaSaTlSpD
import Derived.Test.YtgneelmmomohdaaSaTlGenA
import Derived.Test.YtgneelmmomohdaaProg
import Derived.Test.YtgneelmmomohdaaSaTlAli
set_option linter.all false
set_option maxRecDepth 20000
namespace TL
open Go Go.Proofs
theorem yw:Try.f58.body.isNone=false:=rfl
theorem yT:(Try.f58.name== "runtime.NumGoroutine")=false:=by decide+kernel
set_option maxHeartbeats 8000000 in
theorem kV(w0:World)(g:(Int)×(List Pt))(g_v:Value)(hg_v:Ro w0 g_v g.2)(most:Int)(hm:aX g):
    Calls Try.prog 31 #[vg [vi g.1,g_v],vi most] w0 (λee w=>∃xx:aG×Value,ee= .returned ((λ⟨δ,rv0⟩=>rv0) xx)/\(λ(⟨δ,rv0⟩:aG×Value) (w:World)=>eB w0 δ w/\Ow δ (is 1) (is 1) w rv0 (cJ g most)) xx w):=by
 refine av Try.func31 rfl nq ?_
 have bH:=bn.start w0
 have Rg:=hg_v.sl
 have hm0:=hm
 obtain⟨hm1,hm2,hm3,hm4⟩:=hm0
 refine aa (a8 rfl (cB rfl (cr c0 (is 1) (1,0) rfl rfl ?_)))
 intro g4 w1 b3 ch2 bx5
 replace bx5:Bx g4 (is 1) w1 b3 [vi g.1,g_v]:=bx5
 refine ma vn (ab (aa (a8 rfl (ma vn (ab (aa (aa (a8 rfl (lx (af cW rfl rfl rfl rfl) (lx (ae aj rfl bx5 rfl) (mi 0 (ab (ao ?_)))))))))))))
 refine aY (σ:=Value×(List Pt)×Nat×aG) (λ⟨l_v,l,u,gq⟩ f w=>bn w0 gq w/\f 1=vi most/\f 2=vp b3 0/\f 5=l_v/\f 12=vi g.1/\f 13=vi ↑u/\Sl gq (is 0) w g_v g.2/\Bx gq (is 1) w b3 [vi g.1,g_v]/\Ow gq (is 7) (is 7) w l_v l/\(u:Int)<=(g.1:Int)/\(l=dr g u/\jM g most (g.1.toNat-u) u=cJ g most)) (λ⟨l_v,l,u,gq⟩=>Int.toNat ((g.1:Int)-(u:Int))) (vn,[],0,g4) ?_ ?_
 · exact⟨bH.cn ch2,rfl,rfl,rfl,rfl,rfl,Rg.cn ch2,bx5,Ow.nil,by omega,by exact⟨rfl,rfl⟩⟩
 clear Rg bx5 bH
 rintro⟨l_v,l,u,g8⟩ f6 w7 ⟨bH,zs1,zs2,zs5,zs12,zs13,Rg,bx5,o_l,hle_u,hl0⟩ back3
 obtain⟨hl,hf⟩:=hl0
 have hll:(l.length:Int)<=(u:Int)*1024:=by rw[hl];exact jH hm u
 refine aa (a8 rfl (lx (bm (m:=↑u) (n:=g.1) zs13 zs12) (ab (aa ?_))))
 by_cases p3:(u:Int)<g.1
 ·
  refine ah rfl (dt p3) ?_
  have hwn:=rS (u:=(u:Int)) hm
  have hwm:=jw (u:=(u:Int)) hm
  have hwl:=hwm.2.1
  have hcl:=lB hwm
  refine aq (aa (ao (aa (a8 rfl (mz zs13 (ai (u:Int) (ab (aa (a8 rfl (lx (aB (ds:=[vi g.1,g_v]) aK zs2 bx5 rfl rfl) (mi ↑u (lo ?_))))))))))))
  refine bQ (aN (vals:=[vg [vi g.1,g_v],vi ↑u]) Try.func58 yw yT rfl) (tz w7 g g_v (Rg).ro (u:Int) (by exact hm)) ?_
  rintro⟨d10,v12,v14⟩ w9 ⟨fr11,o13,o15⟩
  obtain⟨g16,ch17,G16⟩:=ia g8 fr11 (λn=>if n=1 then 2 else if n=2 then 3 else 0)
  replace o13:=o13.gl G16 2
  replace o15:=o15.gl G16 3
  refine mv (vt [vg [vi ((fy g (u:Int)).1),v12],v14]) (lx (aJ rfl rfl) (lx (aJ rfl rfl) (lo (bP g16 (is 4) (4,0) rfl aK ?_))))
  intro g21 w18 b20 ch19 bx22
  replace bx22:Bx g21 (is 4) w18 b20 [vi 0,vn]:=bx22
  refine lo ?_
  replace o13:=o13.cn ch19
  refine aT (cs':=[vi ((fy g (u:Int)).1),v12]) aK rfl rfl bx22 rfl nq (AllOne.all (.cons rfl (.cons (bK o13.flat) .nil))) rfl ?_
  intro w23 ch24 bx25
  clear bx22
  refine ma v14 (ab (aa (aa (a8 rfl (lx (aB (ds:=[vi ((fy g (u:Int)).1),v12]) aK rfl bx25 rfl rfl) ?_)))))
  replace o13:=o13.ce ch24
  refine lo (bQ (aN (vals:=[vg [vi ((fy g (u:Int)).1),v12]]) Try.func57 qM qR rfl) (uo w23 (fy g (u:Int)) v12 (o13.flat).ro) ?_)
  rintro⟨d27,v29⟩ w26 ⟨fr28,o30⟩
  obtain⟨g31,ch32,G31⟩:=ia g21 fr28 (λn=>if n=1 then 5 else 0)
  replace o30:=o30.gl G31 5
  have len33:=(o30.flat).small
  refine lx (bq bv rfl o30.flat) (mi 0 (ab (ao ?_)))
  clear o13 bx25
  refine aY (σ:=Value×(List Pt)×Nat×aG) (λ⟨l2_v,l2,j,gq⟩ f w=>bn w0 gq w/\f 1=vi most/\f 2=vp b3 0/\f 5=l2_v/\f 6=vi ↑u/\f 8=v14/\f 12=vi g.1/\f 13=vi ↑u/\f 23=v29/\f 24=vi (List.length (c9 (fy g (u:Int))):Int)/\f 25=vi ↑j/\Sl gq (is 0) w g_v g.2/\Bx gq (is 1) w b3 [vi g.1,g_v]/\Ow gq (is 3) (is 3) w v14 (e7 g.1 (u:Int))/\Ow gq (is 5) (is 5) w v29 (c9 (fy g (u:Int)))/\Ow gq (is 7) (is 7) w l2_v l2/\(j:Int)<=((List.length (c9 (fy g (u:Int))):Int):Int)/\(l2=dr g u++jO g u j)) (λ⟨l2_v,l2,j,gq⟩=>Int.toNat (((List.length (c9 (fy g (u:Int))):Int):Int)-(j:Int))) (l_v,l,0,g31) ?_ ?_
  have C35:=cg [4] (ch19.n.seq ((ch24.l rfl).seq ch32.n))
  have C34:=ch17.n.seq C35
  · exact⟨bH.ca C34,zs1,zs2,zs5,rfl,rfl,zs12,zs13,rfl,rfl,rfl,Rg.ca C34,bx5.ca C34,o15.ca C35,o30,o_l.ca C34,by omega,by(rw[hl];simp[jO])⟩
  clear Rg bx5 o_l o15 o30 bH
  rintro⟨l2_v,l2,j,g38⟩ f36 w37 ⟨bH,zs1,zs2,zs5,zs6,zs8,zs12,zs13,zs23,zs24,zs25,Rg,bx5,o15,o30,o_l2,hle_j,hl2⟩ back7
  have hll2:(l2.length:Int)<=(u:Int)*1024+1024:=by rw[hl2,List.length_append,<-hl];have:=nr (g:=g) (u:=(u:Int)) (j:=j);omega
  refine aa (a8 rfl (lx (bm (m:=↑j) (n:=(List.length (c9 (fy g (u:Int))):Int)) zs25 zs24) (ab (aa ?_))))
  by_cases p7:(j:Int)<(List.length (c9 (fy g (u:Int))):Int)
  ·
   refine ah rfl (dt p7) ?_
   obtain⟨hcx0,hcx1⟩:=yL hwm (br (xs:=c9 (fy g (u:Int))) (i:=↑j) (by omega) ‹_›)
   refine aq (aa (ao (aa (a8 rfl (lx (ad (v:=v29) (i:=↑j) bv rfl zs23 o30.flat zs25 (by omega) (by omega)) (lx (az (v:=v29) (i:=↑j) aj rfl o30.flat (by omega) (by omega) (by decide) rfl) (ai (gI (c9 (fy g (u:Int))) (j:Int)) (ab (aa (a8 rfl (mz zs8 (mi (gI (c9 (fy g (u:Int))) (j:Int)) ?_))))))))))))
   refine lx (ad (v:=v14) (i:=(gI (c9 (fy g (u:Int))) (j:Int))) bv rfl rfl o15.flat rfl (by omega) (by omega)) (lx (az (v:=v14) (i:=(gI (c9 (fy g (u:Int))) (j:Int))) aj rfl o15.flat (by omega) (by omega) (by decide) rfl) (mz zs6 (lx (eu (m:=(gI (e7 g.1 (u:Int)) (gI (c9 (fy g (u:Int))) (j:Int)))) (n:=↑u) rfl rfl) (ab ?_))))
   by_cases p9:(u:Int)<(gI (e7 g.1 (u:Int)) (gI (c9 (fy g (u:Int))) (j:Int)))
   ·
    refine ah rfl (dt p9) (a8 rfl (mz zs5 (mz zs6 (mz zs8 (mi (gI (c9 (fy g (u:Int))) (j:Int)) (lx (ad (v:=v14) (i:=(gI (c9 (fy g (u:Int))) (j:Int))) bv rfl rfl o15.flat rfl (by omega) (by omega)) (lx (az (v:=v14) (i:=(gI (c9 (fy g (u:Int))) (j:Int))) aj rfl o15.flat (by omega) (by omega) (by decide) rfl) (lw (vg [vi ↑u,vi (gI (e7 g.1 (u:Int)) (gI (c9 (fy g (u:Int))) (j:Int)))]) (bS (vs:=[(0,vi ↑u),(1,vi (gI (e7 g.1 (u:Int)) (gI (c9 (fy g (u:Int))) (j:Int))))]) rfl (by kernel_rfl)) (lo ?_)))))))))
    refine aC (α:=Pt) g38 (is 6) (is 6) (6,0) rfl [((u:Int),(gI (e7 g.1 (u:Int)) (gI (c9 (fy g (u:Int))) (j:Int))))] dc b7 (by decide) (by decide) (vs:=[(0,vg [vi ↑u,vi (gI (e7 g.1 (u:Int)) (gI (c9 (fy g (u:Int))) (j:Int)))])]) rfl rfl (.cons rfl .nil) ?_
    intro g39 w40 v41 ch42 o43
    refine lo ?_
    replace o_l2:=o_l2.cn ch42
    refine bf (α:=Pt) (xs:=l2) (ys:=([((u:Int),(gI (e7 g.1 (u:Int)) (gI (c9 (fy g (u:Int))) (j:Int))))])) g39 (J:=is 7) (S:=is 7) (7,0) rfl dc b7 (by decide) rfl rfl rfl o_l2 o43.flat (by decide) (by(simp;omega)) ?_
    intro g44 w45 v46 ch47 o48
    clear o_l2
    refine ma v46 (ab (am ?_))
    clear o43
    refine a8 rfl (lx (aI (m:=↑j) (n:=1) zs25 rfl (by omega)) (mi ((j:Int)+1) (ab ?_)))
    replace bH:=bH.cn ch42
    refine back7 (v46,(l2++[((u:Int),(gI (e7 g.1 (u:Int)) (gI (c9 (fy g (u:Int))) (j:Int))))]),j+1,g44) _ _ ⟨bH.ce ch47,zs1,zs2,rfl,zs6,zs8,zs12,zs13,zs23,zs24,rfl,(Rg.cn ch42).ce ch47,(bx5.cn ch42).ce ch47,(o15.cn ch42).ce ch47,(o30.cn ch42).ce ch47,o48,by omega,?_⟩ ?_
    · show(l2++[((u:Int),(gI (e7 g.1 (u:Int)) (gI (c9 (fy g (u:Int))) (j:Int))))])=dr g u++jO g u (j+1)
      rw[hl2,List.append_assoc,yO ‹_› ‹_›]
    · show Int.toNat (((List.length (c9 (fy g (u:Int))):Int):Int)-((j+1):Int))<Int.toNat (((List.length (c9 (fy g (u:Int))):Int):Int)-(j:Int))
      omega
   refine ag rfl (df p9) (aq (am (a8 rfl (lx (aI (m:=↑j) (n:=1) zs25 rfl (by omega)) (mi ((j:Int)+1) (ab ?_))))))
   refine back7 (l2_v,l2,j+1,g38) _ _ ⟨bH,zs1,zs2,zs5,zs6,zs8,zs12,zs13,zs23,zs24,rfl,Rg,bx5,o15,o30,o_l2,by omega,?_⟩ ?_
   · show l2=dr g u++jO g u (j+1)
     rw[hl2,zL ‹_› ‹_›]
   · show Int.toNat (((List.length (c9 (fy g (u:Int))):Int):Int)-((j+1):Int))<Int.toNat (((List.length (c9 (fy g (u:Int))):Int):Int)-(j:Int))
     omega
  refine ag rfl (df p7) (aH rfl (aa ?_))
  clear o15 o30
  have hlq:l2=dr g (u+1):=by rw[hl2,x5 ‹_›,<-iF]
  refine a8 rfl (mz zs5 ?_)
  have len49:=(o_l2.flat).small
  refine lx (bq dc rfl o_l2.flat) (mz zs1 (lx (eO (m:=(l2.length:Int)) (n:=most) rfl rfl) (ab ?_)))
  by_cases p12:most<=(l2.length:Int)
  ·
   refine ah rfl (dt p12) (aH rfl (aa ?_))
   clear bx5
   refine a8 rfl (mz zs5 (ma l2_v (ab (aD (vs:=[l2_v]) Try.func31 (.tmp rfl .nil) ?_))))
   have e0:(l2:List Pt)=(cJ g most):=by
     (rw[hlq];exact vl hf ‹_› (by rw[<-hlq];assumption))
   exact⟨(fin w0 g38 (λn=>if n=7 then 1 else 0),l2_v),(congrArg (a₁:=l2) (λ(z0:List Pt)=>Ending.returned (l2_v)) e0),bH.fresh _,(e0▸(o_l2.glue (γ:=c0) (ren:=(λn=>if n=7 then 1 else 0)) (k:=1) bH.col rfl rfl))⟩
  refine ag rfl (df p12) (aq (am (a8 rfl (lx (aI (m:=↑u) (n:=1) zs13 rfl (by omega)) (mi ((u:Int)+1) (ab ?_))))))
  refine back3 (l2_v,l2,u+1,g38) _ _ ⟨bH,zs1,zs2,zs5,zs12,rfl,Rg,bx5,o_l2,by omega,?_⟩ ?_
  · show l2=dr g (u+1)/\jM g most (g.1.toNat-(u+1)) (u+1)=cJ g most
    exact⟨hlq,yh hf ‹_› (by rw[<-hlq];assumption)⟩
  · show Int.toNat ((g.1:Int)-((u+1):Int))<Int.toNat ((g.1:Int)-(u:Int))
    omega
 refine ag rfl (df p3) (aH rfl (aa ?_))
 clear bx5
 refine a8 rfl (mz zs5 (ma l_v (ab (aD (vs:=[l_v]) Try.func31 (.tmp rfl .nil) ?_))))
 have e0:(l:List Pt)=(cJ g most):=by
   (rw[hl];exact wu hf ‹_›)
 exact⟨(fin w0 g8 (λn=>if n=7 then 1 else 0),l_v),(congrArg (a₁:=l) (λ(z0:List Pt)=>Ending.returned (l_v)) e0),bH.fresh _,(e0▸(o_l.glue (γ:=c0) (ren:=(λn=>if n=7 then 1 else 0)) (k:=1) bH.col rfl rfl))⟩
end TL
