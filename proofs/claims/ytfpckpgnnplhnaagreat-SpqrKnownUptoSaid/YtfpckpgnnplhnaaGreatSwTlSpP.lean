import Derived.Test.YtfpckpgnnplhnaaGreatSwTlSpA
import Derived.Test.YtfpckpgnnplhnaaGreatSwTlSpW
import Derived.Test.YtfpckpgnnplhnaaGreatSwTlSpD
import Derived.Test.YtfpckpgnnplhnaaGreatSwTlGenA
import Derived.Test.YtfpckpgnnplhnaaGreatSwTlAli
set_option linter.all false
set_option maxRecDepth 20000
namespace TL
open Go Go.Proofs
theorem uL:Tryz.f101.body.isNone=false:=rfl
theorem vO:(Tryz.f101.name== "runtime.NumGoroutine")=false:=by decide+kernel
set_option maxHeartbeats 8000000 in
theorem ux(w0:World)(g:(Int)×(List Pt))(g_v:Value)(hg_v:Ro w0 g_v g.2)(most:Int)(hm:bO g):
    Calls Tryz.prog 88 #[vg [vi g.1,g_v],vi most] w0 (λee w=>∃xx:ax×Value,ee= .returned ((λ⟨δ,rv0⟩=>rv0) xx)/\(λ(⟨δ,rv0⟩:ax×Value) (w:World)=>dz w0 δ w/\Ow δ (is 1) (is 1) w rv0 (jx g most)) xx w):=by
 refine ah Tryz.func88 rfl nq ?_
 have bH:=aW.start w0
 have Rg:=hg_v.sl
 have hm0:=hm
 obtain⟨hm1,hm2,hm3,hm4⟩:=hm0
 refine a7 (a6 rfl (cy rfl (bU c0 (is 1) (1,0) rfl rfl ?_)))
 intro g4 w1 b3 ch2 bx5
 refine ma vn (ab (a7 (a6 rfl (ma vn (ab (a7 (a7 (a6 rfl (lx (aa dK rfl rfl rfl rfl) (lx (a8 ap rfl bx5 rfl) (mi 0 (ab (aj ?_)))))))))))))
 refine aR (σ:=Value×(List Pt)×Nat×ax) (λ⟨l_v,l,u,gq⟩ f w=>aW w0 gq w/\f 1=vi most/\f 2=vp b3 0/\f 5=l_v/\f 12=vi g.1/\f 13=vi ↑u/\Sl gq (is 0) w g_v g.2/\Bx gq (is 1) w b3 [vi g.1,g_v]/\Ow gq (is 7) (is 7) w l_v l/\(u:Int)<=(g.1:Int)/\(l=ej g u/\mG g most (g.1.toNat-u) u=jx g most)) (λ⟨l_v,l,u,gq⟩=>Int.toNat ((g.1:Int)-(u:Int))) (vn,[],0,g4) ?_ ?_
 · exact⟨bH.t,rfl,rfl,rfl,rfl,rfl,Rg.t,bx5,Ow.nil,by omega,by exact⟨rfl,rfl⟩⟩
 rintro⟨l_v,l,u,g8⟩ f6 w7 ⟨bH,zs1,zs2,zs5,zs12,zs13,Rg,bx5,o_l,hle_u,hl0⟩ back3
 obtain⟨hl,hf⟩:=hl0
 have hll:(l.length:Int)<=(u:Int)*1024:=by rw[hl];exact oP hm u
 refine a7 (a6 rfl (lx (br (m:=↑u) (n:=g.1) zs13 zs12) (ab (a7 ?_))))
 by_cases p3:(u:Int)<g.1
 ·
  refine ag rfl (dt p3) ?_
  have hwn:=CW (u:=(u:Int)) hm
  have hwm:=mL (u:=(u:Int)) hm
  have hwl:=hwm.2.1
  have hcl:=lP hwm
  refine am (a7 (aj (a7 (a6 rfl (mz zs13 (ai (u:Int) (ab (a7 (a6 rfl (lx (av (ds:=[vi g.1,g_v]) aK zs2 bx5 rfl rfl) (mi ↑u (lo ?_))))))))))))
  refine bB (aB (vals:=[vg [vi g.1,g_v],vi ↑u]) Tryz.func101 uL vO rfl) (tl w7 g g_v (Rg).ro (u:Int) (by exact hm)) ?_
  rintro⟨d10,v12,v14⟩ w9 ⟨fr11,o13,o15⟩
  obtain⟨g16,ch17,G16⟩:=hU g8 fr11 (λn=>if n=1 then 2 else if n=2 then 3 else 0)
  replace o13:=o13.gl G16 2
  replace o15:=o15.gl G16 3
  refine mv (vt [vg [vi ((gM g (u:Int)).1),v12],v14]) (lx (ay rfl rfl) (lx (ay rfl rfl) (lo (aZ g16 (is 4) (4,0) rfl aK ?_))))
  intro g21 w18 b20 ch19 bx22
  refine lo ?_
  refine aA (cs':=[vi ((gM g (u:Int)).1),v12]) aK rfl rfl bx22 rfl nq (AllOne.all (.cons rfl (.cons (aM o13.t.flat) .nil))) rfl ?_
  intro w23 ch24 bx25
  refine ma v14 (ab (a7 (a7 (a6 rfl (lx (av (ds:=[vi ((gM g (u:Int)).1),v12]) aK rfl bx25 rfl rfl) ?_)))))
  refine lo (bB (aB (vals:=[vg [vi ((gM g (u:Int)).1),v12]]) Tryz.func100 ou oQ rfl) (u9 w23 (gM g (u:Int)) v12 (o13.t.flat).ro) ?_)
  rintro⟨d27,v29⟩ w26 ⟨fr28,o30⟩
  obtain⟨g31,ch32,G31⟩:=hU g21 fr28 (λn=>if n=1 then 5 else 0)
  replace o30:=o30.gl G31 5
  have len33:=(o30.flat).small
  refine lx (bG bF rfl o30.flat) (mi 0 (ab (aj ?_)))
  refine aR (σ:=Value×(List Pt)×Nat×ax) (λ⟨l2_v,l2,j,gq⟩ f w=>aW w0 gq w/\f 1=vi most/\f 2=vp b3 0/\f 5=l2_v/\f 6=vi ↑u/\f 8=v14/\f 12=vi g.1/\f 13=vi ↑u/\f 23=v29/\f 24=vi (List.length (cx (gM g (u:Int))):Int)/\f 25=vi ↑j/\Sl gq (is 0) w g_v g.2/\Bx gq (is 1) w b3 [vi g.1,g_v]/\Ow gq (is 3) (is 3) w v14 (jZ g.1 (u:Int))/\Ow gq (is 5) (is 5) w v29 (cx (gM g (u:Int)))/\Ow gq (is 7) (is 7) w l2_v l2/\(j:Int)<=((List.length (cx (gM g (u:Int))):Int):Int)/\(l2=ej g u++je g u j)) (λ⟨l2_v,l2,j,gq⟩=>Int.toNat (((List.length (cx (gM g (u:Int))):Int):Int)-(j:Int))) (l_v,l,0,g31) ?_ ?_
  have C35:=cg [4] (ch19.o (ch24.s ch32.n))
  have C34:=ch17.n.seq C35
  · exact⟨bH.t,zs1,zs2,zs5,rfl,rfl,zs12,zs13,rfl,rfl,rfl,Rg.t,bx5.t,o15.t,o30,o_l.t,by omega,by(rw[hl];simp[je])⟩
  rintro⟨l2_v,l2,j,g38⟩ f36 w37 ⟨bH,zs1,zs2,zs5,zs6,zs8,zs12,zs13,zs23,zs24,zs25,Rg,bx5,o15,o30,o_l2,hle_j,hl2⟩ back7
  have hll2:(l2.length:Int)<=(u:Int)*1024+1024:=by rw[hl2,List.length_append,<-hl];have:=nP (g:=g) (u:=(u:Int)) (j:=j);omega
  refine a7 (a6 rfl (lx (br (m:=↑j) (n:=(List.length (cx (gM g (u:Int))):Int)) zs25 zs24) (ab (a7 ?_))))
  by_cases p7:(j:Int)<(List.length (cx (gM g (u:Int))):Int)
  ·
   refine ag rfl (dt p7) ?_
   obtain⟨hcx0,hcx1⟩:=xc hwm (bz (xs:=cx (gM g (u:Int))) (i:=↑j) (by omega) ‹_›)
   refine am (a7 (aj (a7 (a6 rfl (lx (ad (v:=v29) (i:=↑j) bF rfl zs23 o30.flat zs25 (by omega) (by omega)) (lx (aw (v:=v29) (i:=↑j) ap rfl o30.flat (by omega) (by omega) (by decide) rfl) (ai (gI (cx (gM g (u:Int))) (j:Int)) (ab (a7 (a6 rfl (mz zs8 (mi (gI (cx (gM g (u:Int))) (j:Int)) ?_))))))))))))
   refine lx (ad (v:=v14) (i:=(gI (cx (gM g (u:Int))) (j:Int))) bF rfl rfl o15.flat rfl (by omega) (by omega)) (lx (aw (v:=v14) (i:=(gI (cx (gM g (u:Int))) (j:Int))) ap rfl o15.flat (by omega) (by omega) (by decide) rfl) (mz zs6 (lx (eX (m:=(gI (jZ g.1 (u:Int)) (gI (cx (gM g (u:Int))) (j:Int)))) (n:=↑u) rfl rfl) (ab ?_))))
   by_cases p9:(u:Int)<(gI (jZ g.1 (u:Int)) (gI (cx (gM g (u:Int))) (j:Int)))
   ·
    refine ag rfl (dt p9) (a6 rfl (mz zs5 (mz zs6 (mz zs8 (mi (gI (cx (gM g (u:Int))) (j:Int)) (lx (ad (v:=v14) (i:=(gI (cx (gM g (u:Int))) (j:Int))) bF rfl rfl o15.flat rfl (by omega) (by omega)) (lx (aw (v:=v14) (i:=(gI (cx (gM g (u:Int))) (j:Int))) ap rfl o15.flat (by omega) (by omega) (by decide) rfl) (lw (vg [vi ↑u,vi (gI (jZ g.1 (u:Int)) (gI (cx (gM g (u:Int))) (j:Int)))]) (bn (vs:=[(0,vi ↑u),(1,vi (gI (jZ g.1 (u:Int)) (gI (cx (gM g (u:Int))) (j:Int))))]) rfl (by kernel_rfl)) (lo ?_)))))))))
    refine aq (α:=Pt) g38 (is 6) (is 6) (6,0) rfl [((u:Int),(gI (jZ g.1 (u:Int)) (gI (cx (gM g (u:Int))) (j:Int))))] eG bm (by decide) (by decide) (vs:=[(0,vg [vi ↑u,vi (gI (jZ g.1 (u:Int)) (gI (cx (gM g (u:Int))) (j:Int)))])]) rfl rfl (.cons rfl .nil) ?_
    intro g39 w40 v41 ch42 o43
    refine lo ?_
    refine aS (α:=Pt) (xs:=l2) (ys:=([((u:Int),(gI (jZ g.1 (u:Int)) (gI (cx (gM g (u:Int))) (j:Int))))])) g39 (J:=is 7) (S:=is 7) (7,0) rfl eG bm (by decide) rfl rfl rfl o_l2.t o43.flat (by decide) (by(simp;omega)) ?_
    intro g44 w45 v46 ch47 o48
    refine ma v46 (ab (ak ?_))
    refine a6 rfl (lx (aJ (m:=↑j) (n:=1) zs25 rfl (by omega)) (mi ((j:Int)+1) (ab ?_)))
    refine back7 (v46,(l2++[((u:Int),(gI (jZ g.1 (u:Int)) (gI (cx (gM g (u:Int))) (j:Int))))]),j+1,g44) _ _ ⟨bH.t,zs1,zs2,rfl,zs6,zs8,zs12,zs13,zs23,zs24,rfl,Rg.t,bx5.t,o15.t,o30.t,o48,by omega,?_⟩ ?_
    · show(l2++[((u:Int),(gI (jZ g.1 (u:Int)) (gI (cx (gM g (u:Int))) (j:Int))))])=ej g u++je g u (j+1)
      rw[hl2,List.append_assoc,zx ‹_› ‹_›]
    · show Int.toNat (_-_)<Int.toNat (_-_)
      omega
   refine af rfl (df p9) (am (ak (a6 rfl (lx (aJ (m:=↑j) (n:=1) zs25 rfl (by omega)) (mi ((j:Int)+1) (ab ?_))))))
   refine back7 (l2_v,l2,j+1,g38) _ _ ⟨bH,zs1,zs2,zs5,zs6,zs8,zs12,zs13,zs23,zs24,rfl,Rg,bx5,o15,o30,o_l2,by omega,?_⟩ ?_
   · show l2=ej g u++je g u (j+1)
     rw[hl2,Bl ‹_› ‹_›]
   · show Int.toNat (_-_)<Int.toNat (_-_)
     omega
  refine af rfl (df p7) (aF rfl (a7 ?_))
  have hlq:l2=ej g (u+1):=by rw[hl2,Ax ‹_›,<-kw]
  refine a6 rfl (mz zs5 ?_)
  have len49:=(o_l2.flat).small
  refine lx (bG eG rfl o_l2.flat) (mz zs1 (lx (eL (m:=(l2.length:Int)) (n:=most) rfl rfl) (ab ?_)))
  by_cases p12:most<=(l2.length:Int)
  ·
   refine ag rfl (dt p12) (aF rfl (a7 ?_))
   refine a6 rfl (mz zs5 (ma l2_v (ab (az (vs:=[l2_v]) Tryz.func88 (.tmp rfl .nil) ?_))))
   have e0:(l2:List Pt)=(jx g most):=by
     (rw[hlq];exact vT hf ‹_› (by rw[<-hlq];assumption))
   exact⟨(fin w0 g38 (λn=>if n=7 then 1 else 0),l2_v),(congrArg (a₁:=l2) (λ(z0:List Pt)=>Ending.returned (l2_v)) e0),bH.fresh _,(e0▸(o_l2.glue (γ:=c0) (ren:=(λn=>if n=7 then 1 else 0)) (k:=1) bH.col rfl rfl))⟩
  refine af rfl (df p12) (am (ak (a6 rfl (lx (aJ (m:=↑u) (n:=1) zs13 rfl (by omega)) (mi ((u:Int)+1) (ab ?_))))))
  refine back3 (l2_v,l2,u+1,g38) _ _ ⟨bH,zs1,zs2,zs5,zs12,rfl,Rg,bx5,o_l2,by omega,?_⟩ ?_
  · show l2=ej g (u+1)/\mG g most (g.1.toNat-(u+1)) (u+1)=jx g most
    exact⟨hlq,yk hf ‹_› (by rw[<-hlq];assumption)⟩
  · show Int.toNat (_-_)<Int.toNat (_-_)
    omega
 refine af rfl (df p3) (aF rfl (a7 ?_))
 refine a6 rfl (mz zs5 (ma l_v (ab (az (vs:=[l_v]) Tryz.func88 (.tmp rfl .nil) ?_))))
 have e0:(l:List Pt)=(jx g most):=by
   (rw[hl];exact xM hf ‹_›)
 exact⟨(fin w0 g8 (λn=>if n=7 then 1 else 0),l_v),(congrArg (a₁:=l) (λ(z0:List Pt)=>Ending.returned (l_v)) e0),bH.fresh _,(e0▸(o_l.glue (γ:=c0) (ren:=(λn=>if n=7 then 1 else 0)) (k:=1) bH.col rfl rfl))⟩
end TL
