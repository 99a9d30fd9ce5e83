import Derived.Test.YtfpckpgnnplhnaaGreatSwTlSpM
import Derived.Test.YtfpckpgnnplhnaaGreatSwTlGenA
import Derived.Test.YtfpckpgnnplhnaaGreatSwTlAli
set_option linter.all false
set_option maxRecDepth 20000
namespace TL
open Go Go.Proofs
theorem pa:Tryz.prog.follows .mixedOrders=true:=by kernel_rfl
theorem yD:Tryz.f24.body.isNone=false:=rfl
theorem wu:(Tryz.f24.name== "runtime.NumGoroutine")=false:=by decide+kernel
theorem A7:Tryz.f26.body.isNone=false:=rfl
theorem yA:(Tryz.f26.name== "runtime.NumGoroutine")=false:=by decide+kernel
theorem nf:Tryz.f28.body.isNone=false:=rfl
theorem n9:(Tryz.f28.name== "runtime.NumGoroutine")=false:=by decide+kernel
theorem zJ:Tryz.f29.body.isNone=false:=rfl
theorem yf:(Tryz.f29.name== "runtime.NumGoroutine")=false:=by decide+kernel
theorem kv(w0:World)(a:Int)(b:Int)(ha:0<=a/\a<=14)(hb:0<=b/\b<=14):
    Calls Tryz.prog 28 #[vi a,vi b] w0 (λee w=>ee= .returned (vi (a*b))/\eK w0.heap.size w0 w):=by
 refine ah Tryz.func28 rfl nq ?_
 have bH:=aW.start w0
 have hab:=ra (A:=14) (B:=14) ha hb
 refine a7 (a6 rfl (ai 0 (ab (a7 (a7 (a6 rfl (mi a (lx (br (m:=a) (n:=0) rfl rfl) (mv (vb (decide (a<0))) ?_)))))))))
 have q7:¬(a<0):=by omega
 refine lv (vi b) (wy (df q7)) (ar rfl) (lv (vb (decide (b<0))) (wy (df q7)) (br (m:=b) (n:=0) rfl rfl) (lw (vb (decide (b<0))) (bo rfl (df q7) rfl) (mv (vb (decide (b<0))) ?_)))
 have q11:¬(b<0):=by omega
 refine lv (vi a) (wy (df q11)) (ar rfl) (lv (vb (decide (3072<a))) (wy (df q11)) (eX (m:=a) (n:=3072) rfl rfl) (lw (vb (decide (3072<a))) (bo rfl (df q11) rfl) (mv (vb (decide (3072<a))) ?_)))
 have q15:¬(3072<a):=by omega
 refine lv (vi b) (wy (df q15)) (ar rfl) (lv (vb (decide (3072<b))) (wy (df q15)) (eX (m:=b) (n:=3072) rfl rfl) (lw (vb (decide (3072<b))) (bo rfl (df q15) rfl) (ab ?_)))
 have p1:¬(3072<b):=by omega
 refine af rfl (df p1) (am (a7 (a6 rfl (mi a (mi b (lx (kb (m:=a) (n:=b) rfl rfl (by omega)) (ai (a*b) (ab (az (vs:=[vi (a*b)]) Tryz.func28 (.tmp rfl .nil) ?_)))))))))
 have e0:(a*b:Int)=(a*b):=by
   rfl
 exact⟨ri e0,bH.below⟩
set_option maxHeartbeats 4000000 in
theorem BB(w0:World)(gw:Int)(gh:Int)(hw:1<=gw/\gw<=14)(hh:1<=gh/\gh<=5):
    Calls Tryz.prog 11 #[vi gw,vi gh] w0 (λee w=>∃xx:ax×Value,ee= .returned ((λ⟨δ,rv0⟩=>vt [vg [vi ((c7 gw gh).1),rv0],vi 0]) xx)/\(λ(⟨δ,rv0⟩:ax×Value) (w:World)=>dz w0 δ w/\Ow δ (is 1) (is 1) w rv0 ((c7 gw gh).2)) xx w):=by
 refine ah Tryz.func11 rfl nq ?_
 have bH:=aW.start w0
 have hm1:=ra (A:=14) (B:=14) (a:=gw) (b:=gh) (by omega) (by omega)
 have hm2:=ra (A:=14) (B:=14) (a:=gw-1) (b:=gh) (by omega) (by omega)
 have hm3:=ra (A:=14) (B:=14) (a:=gw) (b:=gh-1) (by omega) (by omega)
 refine a7 (a6 rfl (cy rfl (bU c0 (is 1) (1,0) rfl rfl ?_)))
 intro g4 w1 b3 ch2 bx5
 refine lo (bU g4 (is 2) (2,0) rfl rfl ?_)
 intro g9 w6 b8 ch7 bx10
 refine lo (aZ g9 (is 3) (3,0) rfl aK ?_)
 intro g14 w11 b13 ch12 bx15
 refine ai 0 (ab (a7 (a6 rfl ?_)))
 refine lx (a8 aD rfl bx5.t rfl) ?_
 refine lx (a8 aD rfl bx10.t rfl) (lo (bI (v:=vi (gw*gh)) (aB (vals:=[vi gw,vi gh]) Tryz.func28 nf n9 rfl) (kv w11 gw gh (by omega) (by omega)) ?_))
 intro w16 hb17
 replace hb17:=aG hb17 g14
 refine ai (gw*gh) (ab (a7 (dy g14 rfl pa (by kernel_rfl) ?_)))
 intro w19 ch18
 refine qx (λw' hw'=>a8 aD rfl (bx5.t.bel hw') rfl) (qx (λw' hw'=>da (m:=gw) (n:=1) rfl rfl (by omega)) ?_)
 refine qx (λw' hw'=>a8 aD rfl (bx10.t.bel hw') rfl) (ss (v:=vi ((gw-1)*gh)) rfl (λw' hw'=>aB (vals:=[vi (gw-1),vi gh]) Tryz.func28 nf n9 rfl) (λw' hw'=>(kv w' (gw-1) gh (by omega) (by omega)).mono λe w2 h2=>⟨h2.1,hw'.trans (h2.2.mono hw'.size)⟩) (qx (λw' hw'=>a8 aD rfl (bx5.t.bel hw') rfl) (qx (λw' hw'=>a8 aD rfl (bx10.t.bel hw') rfl) (qx (λw' hw'=>da (m:=gh) (n:=1) rfl rfl (by omega)) (ss (v:=vi (gw*(gh-1))) rfl (λw' hw'=>aB (vals:=[vi gw,vi (gh-1)]) Tryz.func28 nf n9 rfl) (λw' hw'=>(kv w' gw (gh-1) (by omega) (by omega)).mono λe w2 h2=>⟨h2.1,hw'.trans (h2.2.mono hw'.size)⟩) ?_)))))
 refine qx (λw' hw'=>aJ (m:=(gw-1)*gh) (n:=gw*(gh-1)) rfl rfl (by omega)) (qv (vi (((gw-1)*gh)+(gw*(gh-1)))) (λw' hw'=>bK rfl) (gf ?_))
 intro w20 hc21
 replace hc21:=aG hc21 g14
 refine a7 (a6 rfl ?_)
 refine lx (a8 aD rfl bx5.t rfl) ?_
 refine lx (a8 aD rfl bx10.t rfl) (lo (aq (α:=Int) g14 (is 4) (is 4) (4,0) rfl [gw,gh] bF aD (by decide) (by decide) (vs:=[(0,vi gw),(1,vi gh)]) rfl rfl (.cons rfl (.cons rfl .nil)) ?_))
 intro g22 w23 v24 ch25 o26
 refine mi (gw*gh) (mi (((gw-1)*gh)+(gw*(gh-1))) (lo (bI (v:=vi 0) (aB (vals:=[vi 1,v24,vi (gw*gh),vi (((gw-1)*gh)+(gw*(gh-1)))]) Tryz.func21 gc gg rfl) (gk w23 1 ([gw,gh]) v24 (o26.flat).ro (gw*gh) (((gw-1)*gh)+(gw*(gh-1))) (by exact(λk hk=>by simp only[List.mem_cons,List.not_mem_nil,or_false] at hk;rcases hk with rfl|rfl<;>omega)) (by omega) (by omega)) ?_)))
 intro w27 hb28
 replace hb28:=aG hb28 g22
 refine mi (gw*gh) (lw (Value.func (.func 29) #[] (List.toArray [vp b8 0,vp b3 0])) (ez (vals:=[vp b8 0,vp b3 0]) rfl) (lo (aV (aB (vals:=[vi 0,vi (gw*gh),Value.func (.func 29) #[] (List.toArray [vp b8 0,vp b3 0])]) Tryz.func20 jC jr rfl) (ah Tryz.func20 rfl nq (a7 (a6 rfl (cy rfl (aZ g22 (is 5) (5,0) rfl aK ?_))))))))
 intro g32 w29 b31 ch30 bx33
 refine ai 0 (ab (a7 (a7 (a6 rfl (mi 0 (lx (du (m:=0) (n:=0) rfl rfl) (ab (af rfl rfl (am (a7 (a6 rfl (mi (gw*gh) (lw (vg [vi (gw*gh),vn]) (bn (vs:=[(0,vi (gw*gh))]) rfl (by kernel_rfl)) ?_)))))))))))))
 refine lw (vg [vi (gw*gh),vn]) (bn (vs:=[(0,vg [vi (gw*gh),vn])]) rfl (by kernel_rfl)) (lo (bU g32 (is 6) (6,0) rfl rfl ?_))
 intro g37 w34 b36 ch35 bx38
 refine ma (vp b36 0) (ab (a7 (a6 rfl (mv (Value.func (.func 29) #[] (List.toArray [vp b8 0,vp b3 0])) (mv (vp b36 0) (lo (aV (fW (fid:=29) (vals:=[vp b36 0]) (caps:=[vp b8 0,vp b3 0]) rfl Tryz.func29 zJ yf rfl) (ah Tryz.func29 rfl nq (a7 (a6 rfl ?_))))))))))
 refine lx (a8 aD rfl bx10.t rfl) (mi 0 (ab (aj ?_)))
 refine aR (σ:=Value×(List Pt)×Nat×ax) (λ⟨E_v,E,y,gq⟩ f w=>aW w0 gq w/\f 0=vp b36 0/\f 1=vp b8 0/\f 2=vp b3 0/\f 7=vi gh/\f 8=vi ↑y/\Bx gq (is 1) w b3 [vi gw]/\Bx gq (is 2) w b8 [vi gh]/\Bx gq (is 3) w b13 [vi 0,vn]/\Ow gq (is 4) (is 4) w v24 ([gw,gh])/\Bx gq (is 5) w b31 [vi 0,vn]/\Bx gq (is 6) w b36 [vi (gw*gh),E_v]/\Ow gq (is 8) (is 8) w E_v E/\(y:Int)<=(gh:Int)/\(E=iK (jW gw gh) y)) (λ⟨E_v,E,y,gq⟩=>Int.toNat ((gh:Int)-(y:Int))) (vn,[],0,g37) ?_ ?_
 have C42:=cg [] (hb28.o (ch30.o ch35.n))
 have C41:=hb17.n.seq (ch18.n.seq (hc21.n.seq (ch25.n.seq C42)))
 have C40:=ch2.n.seq (ch7.n.seq (ch12.n.seq C41))
 · exact⟨bH.t,rfl,rfl,rfl,rfl,rfl,bx5.t,bx10.t,bx15.t,o26.t,bx33.t,bx38,Ow.nil,by omega,by rfl⟩
 rintro⟨E_v,E,y,g45⟩ f43 w44 ⟨bH,zs0_c2,zs1_c2,zs2_c2,zs7_c2,zs8_c2,bx5,bx10,bx15,o26,bx33,bx38,o_E,hle_y,hE⟩ back1_c2
 have hEl:=zB (h:=gh) (x:=0) (by omega) (by omega) (by omega) (Al hE)
 refine a7 (a6 rfl (lx (br (m:=↑y) (n:=gh) zs8_c2 zs7_c2) (ab (a7 ?_))))
 by_cases p1_c2:(y:Int)<gh
 ·
  refine ag rfl (dt p1_c2) ?_
  have hmy:=ra (A:=14) (B:=14) (a:=(y:Int)) (b:=gw) (by omega) (by omega)
  refine am (a7 (aj (a7 (a6 rfl (mz zs8_c2 (ai (y:Int) (ab (a7 (a6 rfl (lx (a8 aD zs2_c2 bx5 rfl) (mi 0 (ab ?_))))))))))))
  refine aj ?_
  refine aR (σ:=Value×(List Pt)×Nat×ax) (λ⟨G_v,G,x,gq⟩ f w=>aW w0 gq w/\f 0=vp b36 0/\f 1=vp b8 0/\f 2=vp b3 0/\f 4=vi ↑y/\f 7=vi gh/\f 8=vi ↑y/\f 11=vi gw/\f 12=vi ↑x/\Bx gq (is 1) w b3 [vi gw]/\Bx gq (is 2) w b8 [vi gh]/\Bx gq (is 3) w b13 [vi 0,vn]/\Ow gq (is 4) (is 4) w v24 ([gw,gh])/\Bx gq (is 5) w b31 [vi 0,vn]/\Bx gq (is 6) w b36 [vi (gw*gh),G_v]/\Ow gq (is 8) (is 8) w G_v G/\(x:Int)<=(gw:Int)/\(G=iK (jW gw gh) y++iK (eD gw gh y) x)) (λ⟨G_v,G,x,gq⟩=>Int.toNat ((gw:Int)-(x:Int))) (E_v,E,0,g45) ?_ ?_
  · exact⟨bH,zs0_c2,zs1_c2,zs2_c2,rfl,zs7_c2,zs8_c2,rfl,rfl,bx5,bx10,bx15,o26,bx33,bx38,o_E,by omega,by exact Al hE⟩
  rintro⟨G_v,G,x,g48⟩ f46 w47 ⟨bH,zs0_c2,zs1_c2,zs2_c2,zs4_c2,zs7_c2,zs8_c2,zs11_c2,zs12_c2,bx5,bx10,bx15,o26,bx33,bx38,o_G,hle_x,hG⟩ back4_c2
  have hGl:=zB (by omega) (by omega) (by omega) hG
  refine a7 (a6 rfl (lx (br (m:=↑x) (n:=gw) zs12_c2 zs11_c2) (ab (a7 ?_))))
  by_cases p4_c2:(x:Int)<gw
  ·
   refine ag rfl (dt p4_c2) (am (a7 (aj (a7 (a6 rfl (mz zs12_c2 (ai (x:Int) (ab (a7 (a6 rfl (mz zs4_c2 (lx (a8 aD zs2_c2 bx5 rfl) ?_))))))))))))
   refine lx (kb (m:=↑y) (n:=gw) rfl rfl (by omega)) (mi ↑x (lx (aJ (m:=(y:Int)*gw) (n:=↑x) rfl rfl (by omega)) (ai (((y:Int)*gw)+(x:Int)) (ab (a7 (a7 (a6 rfl (mi ↑x (lx (aJ (m:=↑x) (n:=1) rfl rfl (by omega)) (lx (a8 aD zs2_c2 bx5 rfl) (lx (br (m:=(x:Int)+1) (n:=gw) rfl rfl) (ab ?_))))))))))))
   by_cases p7_c2:((x:Int)+1)<gw
   ·
    refine ag rfl (dt p7_c2) (a6 rfl (mz zs0_c2 (mi (((y:Int)*gw)+(x:Int)) (mi (((y:Int)*gw)+(x:Int)) (lx (aJ (m:=((y:Int)*gw)+(x:Int)) (n:=1) rfl rfl (by omega)) (lo (aV (aB (vals:=[vp b36 0,vi (((y:Int)*gw)+(x:Int)),vi ((((y:Int)*gw)+(x:Int))+1)]) Tryz.func25 eV eW rfl) (ah Tryz.func25 rfl nq (a6 rfl ?_)))))))))
    refine mv (vp b36 0) (mv (vp b36 0) (lw (vp b36 0) (ae rfl) (lx (aa mA rfl rfl rfl rfl) (lx (aa dK rfl rfl rfl rfl) (lx (a8 bM rfl bx38 rfl) (mi (((y:Int)*gw)+(x:Int)) (mi ((((y:Int)*gw)+(x:Int))+1) (lw (vg [vi (((y:Int)*gw)+(x:Int)),vi ((((y:Int)*gw)+(x:Int))+1)]) (bn (vs:=[(0,vi (((y:Int)*gw)+(x:Int))),(1,vi ((((y:Int)*gw)+(x:Int))+1))]) rfl (by kernel_rfl)) (lo ?_)))))))))
    refine aq (α:=Pt) g48 (is 7) (is 7) (7,0) rfl [(((y:Int)*gw)+(x:Int),(((y:Int)*gw)+(x:Int))+1)] eG bm (by decide) (by decide) (vs:=[(0,vg [vi (((y:Int)*gw)+(x:Int)),vi ((((y:Int)*gw)+(x:Int))+1)])]) rfl rfl (.cons rfl .nil) ?_
    intro g49 w50 v51 ch52 o53
    refine lo ?_
    refine aS (α:=Pt) (xs:=G) (ys:=([(((y:Int)*gw)+(x:Int),(((y:Int)*gw)+(x:Int))+1)])) g49 (J:=is 8) (S:=is 8) (8,0) rfl eG bm (by decide) rfl rfl rfl o_G.t o53.flat (by decide) (by(simp;omega)) ?_
    intro g54 w55 v56 ch57 o58
    refine lw (vp b36 0) (ae rfl) (lx (aa mA rfl rfl rfl rfl) (lx (aa dK rfl rfl rfl rfl) (lo ?_)))
    refine aC (cs':=[vi (gw*gh),v56]) bM rfl rfl bx38.t (aL o58.flat) nq (aM o58.flat) rfl ?_
    intro w59 ch60 bx61
    refine ab (ck (vs:=[]) Tryz.func25 .nil ?_)
    refine⟨vt [],rfl,?_⟩
    refine ab (a7 ?_)
    refine a6 rfl (mz zs4_c2 (lx (aJ (m:=↑y) (n:=1) rfl rfl (by omega)) ?_))
    refine lx (a8 aD zs1_c2 bx10.t rfl) (lx (br (m:=(y:Int)+1) (n:=gh) rfl rfl) (ab ?_))
    by_cases p9_c2:((y:Int)+1)<gh
    ·
     refine ag rfl (dt p9_c2) (a6 rfl (mz zs0_c2 (mi (((y:Int)*gw)+(x:Int)) (mi (((y:Int)*gw)+(x:Int)) ?_))))
     refine lx (a8 aD zs2_c2 bx5.t rfl) (lx (aJ (m:=((y:Int)*gw)+(x:Int)) (n:=gw) rfl rfl (by omega)) (lo (aV (aB (vals:=[vp b36 0,vi (((y:Int)*gw)+(x:Int)),vi ((((y:Int)*gw)+(x:Int))+gw)]) Tryz.func25 eV eW rfl) (ah Tryz.func25 rfl nq ?_))))
     refine a6 rfl (mv (vp b36 0) (mv (vp b36 0) (lw (vp b36 0) (ae rfl) (lx (aa mA rfl rfl rfl rfl) (lx (aa dK rfl rfl rfl rfl) (lx (a8 bM rfl bx61 rfl) (mi (((y:Int)*gw)+(x:Int)) (mi ((((y:Int)*gw)+(x:Int))+gw) (lw (vg [vi (((y:Int)*gw)+(x:Int)),vi ((((y:Int)*gw)+(x:Int))+gw)]) (bn (vs:=[(0,vi (((y:Int)*gw)+(x:Int))),(1,vi ((((y:Int)*gw)+(x:Int))+gw))]) rfl (by kernel_rfl)) ?_)))))))))
     refine lo (aq (α:=Pt) g54 (is 9) (is 9) (9,0) rfl [(((y:Int)*gw)+(x:Int),(((y:Int)*gw)+(x:Int))+gw)] eG bm (by decide) (by decide) (vs:=[(0,vg [vi (((y:Int)*gw)+(x:Int)),vi ((((y:Int)*gw)+(x:Int))+gw)])]) rfl rfl (.cons rfl .nil) ?_)
     intro g63 w64 v65 ch66 o67
     refine lo ?_
     refine aS (α:=Pt) (xs:=(G++[(((y:Int)*gw)+(x:Int),(((y:Int)*gw)+(x:Int))+1)])) (ys:=([(((y:Int)*gw)+(x:Int),(((y:Int)*gw)+(x:Int))+gw)])) g63 (J:=is 8) (S:=is 8) (8,0) rfl eG bm (by decide) rfl rfl rfl o58.t o67.flat (by decide) (by(simp;omega)) ?_
     intro g68 w69 v70 ch71 o72
     refine lw (vp b36 0) (ae rfl) (lx (aa mA rfl rfl rfl rfl) (lx (aa dK rfl rfl rfl rfl) (lo ?_)))
     refine aC (cs':=[vi (gw*gh),v70]) bM rfl rfl bx61.t (aL o72.flat) nq (aM o72.flat) rfl ?_
     intro w73 ch74 bx75
     refine ab (ck (vs:=[]) Tryz.func25 .nil ?_)
     refine⟨vt [],rfl,?_⟩
     refine ab (ak ?_)
     refine a6 rfl (lx (aJ (m:=↑x) (n:=1) zs12_c2 rfl (by omega)) (mi ((x:Int)+1) (ab ?_)))
     have C77:=cg [6,8] (ch66.o (ch71.s ch74.e))
     have C76:=ch52.n.seq ((ch57.l rfl).seq ((ch60.l rfl).seq C77))
     refine back4_c2 (v70,((G++[(((y:Int)*gw)+(x:Int),(((y:Int)*gw)+(x:Int))+1)])++[(((y:Int)*gw)+(x:Int),(((y:Int)*gw)+(x:Int))+gw)]),x+1,g68) _ _ ⟨bH.t,zs0_c2,zs1_c2,zs2_c2,zs4_c2,zs7_c2,zs8_c2,zs11_c2,rfl,bx5.t,bx10.t,bx15.t,o26.t,bx33.t,bx75,o72.t,by omega,?_⟩ ?_
     · show((G++[(((y:Int)*gw)+(x:Int),(((y:Int)*gw)+(x:Int))+1)])++[(((y:Int)*gw)+(x:Int),(((y:Int)*gw)+(x:Int))+gw)])=iK (jW gw gh) y++iK (eD gw gh y) (x+1)
       exact Fo hG ‹_› ‹_›
     · show Int.toNat (_-_)<Int.toNat (_-_)
       omega
    refine af rfl (df p9_c2) (am (ak (a6 rfl (lx (aJ (m:=↑x) (n:=1) zs12_c2 rfl (by omega)) (mi ((x:Int)+1) (ab ?_))))))
    refine back4_c2 (v56,(G++[(((y:Int)*gw)+(x:Int),(((y:Int)*gw)+(x:Int))+1)]),x+1,g54) _ _ ⟨bH.t,zs0_c2,zs1_c2,zs2_c2,zs4_c2,zs7_c2,zs8_c2,zs11_c2,rfl,bx5.t,bx10.t,bx15.t,o26.t,bx33.t,bx61.t,o58.t,by omega,?_⟩ ?_
    · show(G++[(((y:Int)*gw)+(x:Int),(((y:Int)*gw)+(x:Int))+1)])=iK (jW gw gh) y++iK (eD gw gh y) (x+1)
      exact Fh hG ‹_› ‹_›
    · show Int.toNat (_-_)<Int.toNat (_-_)
      omega
   refine af rfl (df p7_c2) (am (a7 (a6 rfl (mz zs4_c2 (lx (aJ (m:=↑y) (n:=1) rfl rfl (by omega)) (lx (a8 aD zs1_c2 bx10.t rfl) (lx (br (m:=(y:Int)+1) (n:=gh) rfl rfl) (ab ?_))))))))
   by_cases p9_c2:((y:Int)+1)<gh
   ·
    refine ag rfl (dt p9_c2) (a6 rfl (mz zs0_c2 (mi (((y:Int)*gw)+(x:Int)) (mi (((y:Int)*gw)+(x:Int)) (lx (a8 aD zs2_c2 bx5.t rfl) (lx (aJ (m:=((y:Int)*gw)+(x:Int)) (n:=gw) rfl rfl (by omega)) (lo (aV (aB (vals:=[vp b36 0,vi (((y:Int)*gw)+(x:Int)),vi ((((y:Int)*gw)+(x:Int))+gw)]) Tryz.func25 eV eW rfl) (ah Tryz.func25 rfl nq ?_)))))))))
    refine a6 rfl (mv (vp b36 0) (mv (vp b36 0) (lw (vp b36 0) (ae rfl) (lx (aa mA rfl rfl rfl rfl) (lx (aa dK rfl rfl rfl rfl) (lx (a8 bM rfl bx38.t rfl) (mi (((y:Int)*gw)+(x:Int)) (mi ((((y:Int)*gw)+(x:Int))+gw) (lw (vg [vi (((y:Int)*gw)+(x:Int)),vi ((((y:Int)*gw)+(x:Int))+gw)]) (bn (vs:=[(0,vi (((y:Int)*gw)+(x:Int))),(1,vi ((((y:Int)*gw)+(x:Int))+gw))]) rfl (by kernel_rfl)) ?_)))))))))
    refine lo (aq (α:=Pt) g48 (is 10) (is 10) (10,0) rfl [(((y:Int)*gw)+(x:Int),(((y:Int)*gw)+(x:Int))+gw)] eG bm (by decide) (by decide) (vs:=[(0,vg [vi (((y:Int)*gw)+(x:Int)),vi ((((y:Int)*gw)+(x:Int))+gw)])]) rfl rfl (.cons rfl .nil) ?_)
    intro g78 w79 v80 ch81 o82
    refine lo ?_
    refine aS (α:=Pt) (xs:=G) (ys:=([(((y:Int)*gw)+(x:Int),(((y:Int)*gw)+(x:Int))+gw)])) g78 (J:=is 8) (S:=is 8) (8,0) rfl eG bm (by decide) rfl rfl rfl o_G.t o82.flat (by decide) (by(simp;omega)) ?_
    intro g83 w84 v85 ch86 o87
    refine lw (vp b36 0) (ae rfl) (lx (aa mA rfl rfl rfl rfl) (lx (aa dK rfl rfl rfl rfl) (lo ?_)))
    refine aC (cs':=[vi (gw*gh),v85]) bM rfl rfl bx38.t (aL o87.flat) nq (aM o87.flat) rfl ?_
    intro w88 ch89 bx90
    refine ab (ck (vs:=[]) Tryz.func25 .nil ?_)
    refine⟨vt [],rfl,?_⟩
    refine ab (ak ?_)
    refine a6 rfl (lx (aJ (m:=↑x) (n:=1) zs12_c2 rfl (by omega)) (mi ((x:Int)+1) (ab ?_)))
    refine back4_c2 (v85,(G++[(((y:Int)*gw)+(x:Int),(((y:Int)*gw)+(x:Int))+gw)]),x+1,g83) _ _ ⟨bH.t,zs0_c2,zs1_c2,zs2_c2,zs4_c2,zs7_c2,zs8_c2,zs11_c2,rfl,bx5.t,bx10.t,bx15.t,o26.t,bx33.t,bx90,o87.t,by omega,?_⟩ ?_
    · show(G++[(((y:Int)*gw)+(x:Int),(((y:Int)*gw)+(x:Int))+gw)])=iK (jW gw gh) y++iK (eD gw gh y) (x+1)
      exact Ft hG ‹_› ‹_›
    · show Int.toNat (_-_)<Int.toNat (_-_)
      omega
   refine af rfl (df p9_c2) (am (ak (a6 rfl (lx (aJ (m:=↑x) (n:=1) zs12_c2 rfl (by omega)) (mi ((x:Int)+1) (ab ?_))))))
   refine back4_c2 (G_v,G,x+1,g48) _ _ ⟨bH,zs0_c2,zs1_c2,zs2_c2,zs4_c2,zs7_c2,zs8_c2,zs11_c2,rfl,bx5.t,bx10.t,bx15,o26,bx33,bx38.t,o_G.t,by omega,?_⟩ ?_
   · show G=iK (jW gw gh) y++iK (eD gw gh y) (x+1)
     exact F1 hG ‹_› ‹_›
   · show Int.toNat (_-_)<Int.toNat (_-_)
     omega
  refine af rfl (df p4_c2) (aF rfl (ak (a6 rfl (lx (aJ (m:=↑y) (n:=1) zs8_c2 rfl (by omega)) (mi ((y:Int)+1) (ab ?_))))))
  refine back1_c2 (G_v,G,y+1,g48) _ _ ⟨bH,zs0_c2,zs1_c2,zs2_c2,zs7_c2,rfl,bx5.t,bx10.t,bx15,o26,bx33,bx38.t,o_G.t,by omega,?_⟩ ?_
  · show G=iK (jW gw gh) (y+1)
    exact Ef hG (by omega)
  · show Int.toNat (_-_)<Int.toNat (_-_)
    omega
 refine af rfl (df p1_c2) (aF rfl (ck (vs:=[]) Tryz.func29 .nil ?_))
 refine⟨vt [],rfl,?_⟩
 refine ab (a7 (a6 rfl (mv (vp b36 0) (lw (vp b36 0) (ae rfl) (lx (aa mA rfl rfl rfl rfl) (lx (av (ds:=[vi (gw*gh),E_v]) aK rfl bx38.t rfl rfl) (lo (aA (cs':=[vi (gw*gh),E_v]) aK rfl rfl bx33 rfl nq (AllOne.all (.cons rfl (.cons (aM o_E.flat) .nil))) rfl ?_))))))))
 intro w92 ch93 bx94
 refine ai 0 (ab (az (vs:=[vg [vi (gw*gh),E_v],vi 0]) Tryz.func20 (.cell rfl (cd (ds:=[vi (gw*gh),E_v]) aK bx94 rfl rfl) (.tmp rfl .nil)) ?_))
 refine⟨vt [vg [vi (gw*gh),E_v],vi 0],rfl,?_⟩
 refine lx (ay rfl rfl) (lx (ay rfl rfl) (lo ?_))
 refine aA (cs':=[vi (gw*gh),E_v]) aK rfl rfl bx15.t rfl nq (AllOne.all (.cons rfl (.cons (aM o_E.t.flat) .nil))) rfl ?_
 intro w95 ch96 bx97
 refine ai 0 (ab (az (vs:=[vg [vi (gw*gh),E_v],vi 0]) Tryz.func11 (.cell rfl (cd (ds:=[vi (gw*gh),E_v]) aK bx97 rfl rfl) (.tmp rfl .nil)) ?_))
 have e0:((gw*gh,E):(Int)×(List Pt))=(c7 gw gh):=by
   exact Ej hE (by omega)
 have e1:(0:Int)=(0):=by
   rfl
 exact⟨(fin w0 g45 (λn=>if n=8 then 1 else 0),E_v),(cP (a:=(gw*gh,E)) (b:=0) (λ(z0:(Int)×(List Pt)) (z1:Int)=>Ending.returned (vt [vg [vi z0.1,E_v],vi z1])) e0 e1),bH.t.fresh _,((congrArg (λ(z:(Int)×(List Pt))=>z.2) e0)▸(o_E.t.glue (γ:=c0) (ren:=(λn=>if n=8 then 1 else 0)) (k:=1) bH.t.col rfl rfl))⟩
set_option maxHeartbeats 4000000 in
theorem zW(w0:World)(n:Int)(hn:1<=n/\n<=20):
    Calls Tryz.prog 7 #[vi n] w0 (λee w=>∃xx:ax×Value,ee= .returned ((λ⟨δ,rv0⟩=>vt [vg [vi ((ci n).1),rv0],vi 0]) xx)/\(λ(⟨δ,rv0⟩:ax×Value) (w:World)=>dz w0 δ w/\Ow δ (is 1) (is 1) w rv0 ((ci n).2)) xx w):=by
 refine ah Tryz.func7 rfl nq ?_
 have bH:=aW.start w0
 obtain⟨hn1,hn2⟩:=hn
 refine a7 (a6 rfl (cy rfl (bU c0 (is 1) (1,0) rfl rfl ?_)))
 intro g4 w1 b3 ch2 bx5
 refine lo (aZ g4 (is 2) (2,0) rfl aK ?_)
 intro g9 w6 b8 ch7 bx10
 refine ai 0 (ab (a7 (a6 rfl ?_)))
 refine lx (a8 aD rfl bx5.t rfl) (lo (aq (α:=Int) g9 (is 3) (is 3) (3,0) rfl ([n]:List Int) bF aD (by decide) (by decide) (vs:=[(0,vi n)]) rfl rfl (.cons rfl .nil) ?_))
 intro g11 w12 v13 ch14 o15
 refine lx (a8 aD rfl bx5.t rfl) (lo (bI (v:=vi 0) (aB (vals:=[vi 1,v13,vi 2,vi n]) Tryz.func21 gc gg rfl) (gk w12 1 ([n]:List Int) v13 (o15.flat).ro 2 n (by exact(λk hk=>by simp only[List.mem_cons,List.not_mem_nil,or_false] at hk;rcases hk with rfl<;>omega)) (by omega) (by omega)) ?_))
 intro w16 hb17
 replace hb17:=aG hb17 g11
 refine lw (Value.func (.func 24) #[] (List.toArray [vp b3 0])) (ez (vals:=[vp b3 0]) rfl) (lo (aV (aB (vals:=[vi 0,vi 2,Value.func (.func 24) #[] (List.toArray [vp b3 0])]) Tryz.func20 jC jr rfl) (ah Tryz.func20 rfl nq (a7 (a6 rfl (cy rfl (aZ g11 (is 4) (4,0) rfl aK ?_)))))))
 intro g21 w18 b20 ch19 bx22
 refine ai 0 (ab (a7 (a7 (a6 rfl (mi 0 (lx (du (m:=0) (n:=0) rfl rfl) (ab (af rfl rfl (am (a7 (a6 rfl (mi 2 (lw (vg [vi 2,vn]) (bn (vs:=[(0,vi 2)]) rfl (by kernel_rfl)) ?_)))))))))))))
 refine lw (vg [vi 2,vn]) (bn (vs:=[(0,vg [vi 2,vn])]) rfl (by kernel_rfl)) (lo (bU g21 (is 5) (5,0) rfl rfl ?_))
 intro g26 w23 b25 ch24 bx27
 refine ma (vp b25 0) (ab (a7 (a6 rfl (mv (Value.func (.func 24) #[] (List.toArray [vp b3 0])) (mv (vp b25 0) (lo (aV (fW (fid:=24) (vals:=[vp b25 0]) (caps:=[vp b3 0]) rfl Tryz.func24 yD wu rfl) (ah Tryz.func24 rfl nq (a7 (a6 rfl ?_))))))))))
 refine lx (a8 aD rfl bx5.t rfl) (mi 0 (ab (aj ?_)))
 refine aR (σ:=Value×(List Pt)×Nat×ax) (λ⟨E_v,E,i,gq⟩ f w=>aW w0 gq w/\f 0=vp b25 0/\f 3=vi n/\f 4=vi ↑i/\Bx gq (is 1) w b3 [vi n]/\Bx gq (is 2) w b8 [vi 0,vn]/\Ow gq (is 3) (is 3) w v13 ([n]:List Int)/\Bx gq (is 4) w b20 [vi 0,vn]/\Bx gq (is 5) w b25 [vi 2,E_v]/\Ow gq (is 7) (is 7) w E_v E/\(i:Int)<=(n:Int)/\(E=List.replicate i ((0:Int),(1:Int)))) (λ⟨E_v,E,i,gq⟩=>Int.toNat ((n:Int)-(i:Int))) (vn,[],0,g26) ?_ ?_
 have C30:=cg [] (ch14.o (hb17.o (ch19.o ch24.n)))
 have C29:=ch2.n.seq (ch7.n.seq C30)
 · exact⟨bH.t,rfl,rfl,rfl,bx5.t,bx10.t,o15.t,bx22.t,bx27,Ow.nil,by omega,by rfl⟩
 rintro⟨E_v,E,i,g33⟩ f31 w32 ⟨bH,zs0_c2,zs3_c2,zs4_c2,bx5,bx10,o15,bx22,bx27,o_E,hle_i,hE⟩ back1_c2
 have hEl:E.length=i:=by rw[hE];simp
 refine a7 (a6 rfl (lx (br (m:=↑i) (n:=n) zs4_c2 zs3_c2) (ab (a7 ?_))))
 by_cases p1_c2:(i:Int)<n
 ·
  refine ag rfl (dt p1_c2) (am (a7 (aj (a6 rfl (mz zs0_c2 (lo (aV (aB (vals:=[vp b25 0,vi 0,vi 1]) Tryz.func25 eV eW rfl) (ah Tryz.func25 rfl nq (a6 rfl ?_)))))))))
  refine mv (vp b25 0) (mv (vp b25 0) (lw (vp b25 0) (ae rfl) (lx (aa mA rfl rfl rfl rfl) (lx (aa dK rfl rfl rfl rfl) (lx (a8 bM rfl bx27 rfl) (mi 0 (mi 1 (lw (vg [vi 0,vi 1]) (bn (vs:=[(0,vi 0),(1,vi 1)]) rfl (by kernel_rfl)) (lo ?_)))))))))
  refine aq (α:=Pt) g33 (is 6) (is 6) (6,0) rfl ([(0,1)]:List Pt) eG bm (by decide) (by decide) (vs:=[(0,vg [vi 0,vi 1])]) rfl rfl (.cons rfl .nil) ?_
  intro g34 w35 v36 ch37 o38
  refine lo ?_
  refine aS (α:=Pt) (xs:=E) (ys:=([(0,1)]:List Pt)) g34 (J:=is 7) (S:=is 7) (7,0) rfl eG bm (by decide) rfl rfl rfl o_E.t o38.flat (by decide) (by(simp;omega)) ?_
  intro g39 w40 v41 ch42 o43
  refine lw (vp b25 0) (ae rfl) (lx (aa mA rfl rfl rfl rfl) (lx (aa dK rfl rfl rfl rfl) (lo ?_)))
  refine aC (cs':=[vi 2,v41]) bM rfl rfl bx27.t (aL o43.flat) nq (aM o43.flat) rfl ?_
  intro w44 ch45 bx46
  refine ab (ck (vs:=[]) Tryz.func25 .nil ?_)
  refine⟨vt [],rfl,?_⟩
  refine ab (ak ?_)
  refine a6 rfl (lx (aJ (m:=↑i) (n:=1) zs4_c2 rfl (by omega)) (mi ((i:Int)+1) (ab ?_)))
  refine back1_c2 (v41,(E++([(0,1)]:List Pt)),i+1,g39) _ _ ⟨bH.t,zs0_c2,zs3_c2,rfl,bx5.t,bx10.t,o15.t,bx22.t,bx46,o43.t,by omega,?_⟩ ?_
  · show(E++([(0,1)]:List Pt))=List.replicate (i+1) ((0:Int),(1:Int))
    (rw[hE];exact Cj)
  · show Int.toNat (_-_)<Int.toNat (_-_)
    omega
 refine af rfl (df p1_c2) (aF rfl (ck (vs:=[]) Tryz.func24 .nil ?_))
 refine⟨vt [],rfl,?_⟩
 refine ab (a7 (a6 rfl (mv (vp b25 0) (lw (vp b25 0) (ae rfl) (lx (aa mA rfl rfl rfl rfl) (lx (av (ds:=[vi 2,E_v]) aK rfl bx27.t rfl rfl) (lo (aA (cs':=[vi 2,E_v]) aK rfl rfl bx22 rfl nq (AllOne.all (.cons rfl (.cons (aM o_E.t.flat) .nil))) rfl ?_))))))))
 intro w48 ch49 bx50
 refine ai 0 (ab (az (vs:=[vg [vi 2,E_v],vi 0]) Tryz.func20 (.cell rfl (cd (ds:=[vi 2,E_v]) aK bx50 rfl rfl) (.tmp rfl .nil)) ?_))
 refine⟨vt [vg [vi 2,E_v],vi 0],rfl,?_⟩
 refine lx (ay rfl rfl) (lx (ay rfl rfl) (lo ?_))
 refine aA (cs':=[vi 2,E_v]) aK rfl rfl bx10.t rfl nq (AllOne.all (.cons rfl (.cons (aM o_E.t.flat) .nil))) rfl ?_
 intro w51 ch52 bx53
 refine ai 0 (ab (az (vs:=[vg [vi 2,E_v],vi 0]) Tryz.func7 (.cell rfl (cd (ds:=[vi 2,E_v]) aK bx53 rfl rfl) (.tmp rfl .nil)) ?_))
 have e0:((2,E):(Int)×(List Pt))=(ci n):=by
   exact ul hE (by omega) (by omega)
 have e1:(0:Int)=(0):=by
   rfl
 exact⟨(fin w0 g33 (λn=>if n=7 then 1 else 0),E_v),(cP (a:=(2,E)) (b:=0) (λ(z0:(Int)×(List Pt)) (z1:Int)=>Ending.returned (vt [vg [vi z0.1,E_v],vi z1])) e0 e1),bH.t.fresh _,((congrArg (λ(z:(Int)×(List Pt))=>z.2) e0)▸(o_E.t.glue (γ:=c0) (ren:=(λn=>if n=7 then 1 else 0)) (k:=1) bH.t.col rfl rfl))⟩
set_option maxHeartbeats 4000000 in
theorem uD(w0:World)(n:Int)(hn:3<=n/\n<=20):
    Calls Tryz.prog 8 #[vi n] w0 (λee w=>∃xx:ax×Value,ee= .returned ((λ⟨δ,rv0⟩=>vt [vg [vi ((bw n).1),rv0],vi 0]) xx)/\(λ(⟨δ,rv0⟩:ax×Value) (w:World)=>dz w0 δ w/\Ow δ (is 1) (is 1) w rv0 ((bw n).2)) xx w):=by
 refine ah Tryz.func8 rfl nq ?_
 have bH:=aW.start w0
 obtain⟨hn1,hn2⟩:=hn
 refine a7 (a6 rfl (cy rfl (bU c0 (is 1) (1,0) rfl rfl ?_)))
 intro g4 w1 b3 ch2 bx5
 refine lo (aZ g4 (is 2) (2,0) rfl aK ?_)
 intro g9 w6 b8 ch7 bx10
 refine ai 0 (ab (a7 (bp g9 [0,2,3,4,5,6,7,10,11,13,14,16] pa ?_)))
 intro w12 ch11
 refine cU (σ:=ax) [10,9,8,1,11,7,6,5,4,3,2,0] 5 (λgq f w=>aW w0 gq w/\f 2=vp b8 0/\f 12=vi 0/\f 14=vi (n+1)/\f 15=Value.func (.func 26) #[] (List.toArray [vp b3 0])/\Bx gq (is 1) w b3 [vi n]/\Bx gq (is 2) w b8 [vi 0,vn]) ?_ ?_
 ·
  rintro g23 f21 w22 ⟨bH,zs2,zs12,zs14,zs15,bx5,bx10⟩
  refine cE 12 rfl (aV (aB (vals:=[vi 0,vi (n+1),Value.func (.func 26) #[] (List.toArray [vp b3 0])]) Tryz.func20 jC jr (fI zs12 (fI zs14 (fI zs15 rfl)))) (ah Tryz.func20 rfl nq (a7 (a6 rfl (cy rfl (aZ g23 (is 4) (4,0) rfl aK ?_))))))
  intro g27 w24 b26 ch25 bx28
  refine ai 0 (ab (a7 (a7 (a6 rfl (mi 0 (lx (du (m:=0) (n:=0) rfl rfl) (ab (af rfl rfl (am (a7 (a6 rfl (mi (n+1) (lw (vg [vi (n+1),vn]) (bn (vs:=[(0,vi (n+1))]) rfl (by kernel_rfl)) ?_)))))))))))))
  refine lw (vg [vi (n+1),vn]) (bn (vs:=[(0,vg [vi (n+1),vn])]) rfl (by kernel_rfl)) (lo (bU g27 (is 5) (5,0) rfl rfl ?_))
  intro g32 w29 b31 ch30 bx33
  refine ma (vp b31 0) (ab (a7 (a6 rfl (mv (Value.func (.func 26) #[] (List.toArray [vp b3 0])) (mv (vp b31 0) (lo (aV (fW (fid:=26) (vals:=[vp b31 0]) (caps:=[vp b3 0]) rfl Tryz.func26 A7 yA rfl) (ah Tryz.func26 rfl nq (a7 (a6 rfl (mv (vp b31 0) ?_)))))))))))
  refine lx (a8 aD rfl bx5.t rfl) (lo (aV (aB (vals:=[vp b31 0,vi 0,vi n]) Tryz.func23 qA r8 rfl) (ah Tryz.func23 rfl nq (a7 (a7 (a6 rfl (mi n (lx (da (m:=n) (n:=1) rfl rfl (by omega)) (mi 0 (ab (aj ?_)))))))))))
  refine aR (σ:=Value×(List Pt)×Nat×ax) (λ⟨E_v,E,k,gq⟩ f w=>aW w0 gq w/\f 0=vp b31 0/\f 1=vi 0/\f 2=vi n/\f 8=vi (n-1)/\f 9=vi ↑k/\Bx gq (is 1) w b3 [vi n]/\Bx gq (is 2) w b8 [vi 0,vn]/\Bx gq (is 4) w b26 [vi 0,vn]/\Bx gq (is 5) w b31 [vi (n+1),E_v]/\Ow gq (is 7) (is 7) w E_v E/\(k:Int)<=(n-1:Int)/\(E=lU k)) (λ⟨E_v,E,k,gq⟩=>Int.toNat ((n-1:Int)-(k:Int))) (vn,[],0,g32) ?_ ?_
  · exact⟨bH.t,rfl,rfl,rfl,rfl,rfl,bx5.t,bx10.t,bx28.t,bx33,Ow.nil,by omega,by rfl⟩
  rintro⟨E_v,E,k,g36⟩ f34 w35 ⟨bH,zs0_c3,zs1_c3,zs2_c3,zs8_c3,zs9_c3,bx5,bx10,bx28,bx33,o_E,hle_k,hE⟩ back1_c3
  have hEl:E.length=k:=by rw[hE];exact nr
  refine a7 (a6 rfl (lx (br (m:=↑k) (n:=n-1) zs9_c3 zs8_c3) (ab (a7 ?_))))
  by_cases p1_c3:(k:Int)<(n-1)
  ·
   refine ag rfl (dt p1_c3) (am (a7 (aj (a7 (a6 rfl (mz zs9_c3 (ai (k:Int) (ab (a6 rfl (mz zs0_c3 (mz zs1_c3 ?_)))))))))))
   refine mi ↑k (lx (aJ (m:=0) (n:=↑k) rfl rfl (by omega)) (mz zs1_c3 (mi ↑k (lx (aJ (m:=0) (n:=↑k) rfl rfl (by omega)) (lx (aJ (m:=0+(k:Int)) (n:=1) rfl rfl (by omega)) (lo (aV (aB (vals:=[vp b31 0,vi (0+(k:Int)),vi ((0+(k:Int))+1)]) Tryz.func25 eV eW rfl) (ah Tryz.func25 rfl nq (a6 rfl ?_)))))))))
   refine mv (vp b31 0) (mv (vp b31 0) (lw (vp b31 0) (ae rfl) (lx (aa mA rfl rfl rfl rfl) (lx (aa dK rfl rfl rfl rfl) (lx (a8 bM rfl bx33 rfl) (mi (0+(k:Int)) (mi ((0+(k:Int))+1) (lw (vg [vi (0+(k:Int)),vi ((0+(k:Int))+1)]) (bn (vs:=[(0,vi (0+(k:Int))),(1,vi ((0+(k:Int))+1))]) rfl (by kernel_rfl)) (lo ?_)))))))))
   refine aq (α:=Pt) g36 (is 6) (is 6) (6,0) rfl ([(0+(k:Int),(0+(k:Int))+1)]:List Pt) eG bm (by decide) (by decide) (vs:=[(0,vg [vi (0+(k:Int)),vi ((0+(k:Int))+1)])]) rfl rfl (.cons rfl .nil) ?_
   intro g37 w38 v39 ch40 o41
   refine lo ?_
   refine aS (α:=Pt) (xs:=E) (ys:=([(0+(k:Int),(0+(k:Int))+1)]:List Pt)) g37 (J:=is 7) (S:=is 7) (7,0) rfl eG bm (by decide) rfl rfl rfl o_E.t o41.flat (by decide) (by(simp;omega)) ?_
   intro g42 w43 v44 ch45 o46
   refine lw (vp b31 0) (ae rfl) (lx (aa mA rfl rfl rfl rfl) (lx (aa dK rfl rfl rfl rfl) (lo ?_)))
   refine aC (cs':=[vi (n+1),v44]) bM rfl rfl bx33.t (aL o46.flat) nq (aM o46.flat) rfl ?_
   intro w47 ch48 bx49
   refine ab (ck (vs:=[]) Tryz.func25 .nil ?_)
   refine⟨vt [],rfl,?_⟩
   refine ab (ak ?_)
   refine a6 rfl (lx (aJ (m:=↑k) (n:=1) zs9_c3 rfl (by omega)) (mi ((k:Int)+1) (ab ?_)))
   refine back1_c3 (v44,(E++([(0+(k:Int),(0+(k:Int))+1)]:List Pt)),k+1,g42) _ _ ⟨bH.t,zs0_c3,zs1_c3,zs2_c3,zs8_c3,rfl,bx5.t,bx10.t,bx28.t,bx49,o46.t,by omega,?_⟩ ?_
   · show(E++([(0+(k:Int),(0+(k:Int))+1)]:List Pt))=lU (k+1)
     (simp only[Int.zero_add];exact oX hE)
   · show Int.toNat (_-_)<Int.toNat (_-_)
     omega
  refine af rfl (df p1_c3) (aF rfl (a6 rfl (mz zs0_c3 (mz zs1_c3 (mz zs2_c3 (lx (aJ (m:=0) (n:=n) rfl rfl (by omega)) (lx (da (m:=0+n) (n:=1) rfl rfl (by omega)) (mz zs1_c3 (lo ?_)))))))))
  refine aV (aB (vals:=[vp b31 0,vi ((0+n)-1),vi 0]) Tryz.func25 eV eW rfl) (ah Tryz.func25 rfl nq (a6 rfl (mv (vp b31 0) (mv (vp b31 0) (lw (vp b31 0) (ae rfl) (lx (aa mA rfl rfl rfl rfl) (lx (aa dK rfl rfl rfl rfl) (lx (a8 bM rfl bx33.t rfl) (mi ((0+n)-1) ?_)))))))))
  refine mi 0 (lw (vg [vi ((0+n)-1),vi 0]) (bn (vs:=[(0,vi ((0+n)-1)),(1,vi 0)]) rfl (by kernel_rfl)) (lo (aq (α:=Pt) g36 (is 8) (is 8) (8,0) rfl ([((0+n)-1,0)]:List Pt) eG bm (by decide) (by decide) (vs:=[(0,vg [vi ((0+n)-1),vi 0])]) rfl rfl (.cons rfl .nil) ?_)))
  intro g51 w52 v53 ch54 o55
  refine lo ?_
  refine aS (α:=Pt) (xs:=E) (ys:=([((0+n)-1,0)]:List Pt)) g51 (J:=is 7) (S:=is 7) (7,0) rfl eG bm (by decide) rfl rfl rfl o_E.t o55.flat (by decide) (by(simp;omega)) ?_
  intro g56 w57 v58 ch59 o60
  refine lw (vp b31 0) (ae rfl) (lx (aa mA rfl rfl rfl rfl) (lx (aa dK rfl rfl rfl rfl) (lo ?_)))
  refine aC (cs':=[vi (n+1),v58]) bM rfl rfl bx33.t (aL o60.flat) nq (aM o60.flat) rfl ?_
  intro w61 ch62 bx63
  refine ab (ck (vs:=[]) Tryz.func25 .nil ?_)
  refine⟨vt [],rfl,?_⟩
  refine ab (ck (vs:=[]) Tryz.func23 .nil ?_)
  refine⟨vt [],rfl,?_⟩
  refine ab (a7 ?_)
  refine a6 rfl ?_
  refine lx (a8 aD rfl bx5.t rfl) (mi 0 (ab (aj ?_)))
  refine aR (σ:=Value×(List Pt)×Nat×ax) (λ⟨F_v,F,i,gq⟩ f w=>aW w0 gq w/\f 0=vp b31 0/\f 1=vp b3 0/\f 7=vi n/\f 8=vi ↑i/\Bx gq (is 1) w b3 [vi n]/\Bx gq (is 2) w b8 [vi 0,vn]/\Bx gq (is 4) w b26 [vi 0,vn]/\Bx gq (is 5) w b31 [vi (n+1),F_v]/\Ow gq (is 7) (is 7) w F_v F/\(i:Int)<=(n:Int)/\(F=(cL n).2++(bQ i).map λq=>(n,q))) (λ⟨F_v,F,i,gq⟩=>Int.toNat ((n:Int)-(i:Int))) (v58,(E++([((0+n)-1,0)]:List Pt)),0,g56) ?_ ?_
  · exact⟨bH.t,rfl,rfl,rfl,rfl,bx5.t,bx10.t,bx28.t,bx63,o60.t,by omega,by(have hz:=vJ hE (by omega) (by omega);simp only[Int.zero_add];exact hz)⟩
  rintro⟨F_v,F,i,g67⟩ f65 w66 ⟨bH,zs0_c2,zs1_c2,zs7_c2,zs8_c2,bx5,bx10,bx28,bx63,o_F,hle_i,hF⟩ back2_c2
  have hFl:=Bj ⟨by omega,by omega⟩ (by omega) hF
  refine a7 (a6 rfl (lx (br (m:=↑i) (n:=n) zs8_c2 zs7_c2) (ab (a7 ?_))))
  by_cases p2_c2:(i:Int)<n
  ·
   refine ag rfl (dt p2_c2) (am (a7 (aj (a7 (a6 rfl (mz zs8_c2 (ai (i:Int) (ab (a6 rfl (mz zs0_c2 (lx (a8 aD zs1_c2 bx5 rfl) ?_)))))))))))
   refine mi ↑i (lo (aV (aB (vals:=[vp b31 0,vi n,vi ↑i]) Tryz.func25 eV eW rfl) (ah Tryz.func25 rfl nq (a6 rfl (mv (vp b31 0) (mv (vp b31 0) (lw (vp b31 0) (ae rfl) (lx (aa mA rfl rfl rfl rfl) (lx (aa dK rfl rfl rfl rfl) ?_)))))))))
   refine lx (a8 bM rfl bx63 rfl) (mi n (mi ↑i (lw (vg [vi n,vi ↑i]) (bn (vs:=[(0,vi n),(1,vi ↑i)]) rfl (by kernel_rfl)) (lo (aq (α:=Pt) g67 (is 9) (is 9) (9,0) rfl ([(n,(i:Int))]:List Pt) eG bm (by decide) (by decide) (vs:=[(0,vg [vi n,vi ↑i])]) rfl rfl (.cons rfl .nil) ?_)))))
   intro g68 w69 v70 ch71 o72
   refine lo ?_
   refine aS (α:=Pt) (xs:=F) (ys:=([(n,(i:Int))]:List Pt)) g68 (J:=is 7) (S:=is 7) (7,0) rfl eG bm (by decide) rfl rfl rfl o_F.t o72.flat (by decide) (by(simp;omega)) ?_
   intro g73 w74 v75 ch76 o77
   refine lw (vp b31 0) (ae rfl) (lx (aa mA rfl rfl rfl rfl) (lx (aa dK rfl rfl rfl rfl) (lo ?_)))
   refine aC (cs':=[vi (n+1),v75]) bM rfl rfl bx63.t (aL o77.flat) nq (aM o77.flat) rfl ?_
   intro w78 ch79 bx80
   refine ab (ck (vs:=[]) Tryz.func25 .nil ?_)
   refine⟨vt [],rfl,?_⟩
   refine ab (ak ?_)
   refine a6 rfl (lx (aJ (m:=↑i) (n:=1) zs8_c2 rfl (by omega)) (mi ((i:Int)+1) (ab ?_)))
   refine back2_c2 (v75,(F++([(n,(i:Int))]:List Pt)),i+1,g73) _ _ ⟨bH.t,zs0_c2,zs1_c2,zs7_c2,rfl,bx5.t,bx10.t,bx28.t,bx80,o77.t,by omega,?_⟩ ?_
   · show(F++([(n,(i:Int))]:List Pt))=(cL n).2++(bQ (i+1)).map λq=>(n,q)
     exact za hF
   · show Int.toNat (_-_)<Int.toNat (_-_)
     omega
  refine af rfl (df p2_c2) (aF rfl (ck (vs:=[]) Tryz.func26 .nil ?_))
  refine⟨vt [],rfl,?_⟩
  refine ab (a7 (a6 rfl (mv (vp b31 0) (lw (vp b31 0) (ae rfl) (lx (aa mA rfl rfl rfl rfl) (lx (av (ds:=[vi (n+1),F_v]) aK rfl bx63.t rfl rfl) (lo (aA (cs':=[vi (n+1),F_v]) aK rfl rfl bx28 rfl nq (AllOne.all (.cons rfl (.cons (aM o_F.t.flat) .nil))) rfl ?_))))))))
  intro w82 ch83 bx84
  refine ai 0 (ab (az (vs:=[vg [vi (n+1),F_v],vi 0]) Tryz.func20 (.cell rfl (cd (ds:=[vi (n+1),F_v]) aK bx84 rfl rfl) (.tmp rfl .nil)) ?_))
  refine⟨vt [vg [vi (n+1),F_v],vi 0],rfl,?_⟩
  refine xp 13 rfl (λw=>ay rfl rfl) (xp 14 rfl (λw=>ay rfl rfl) (cE 15 rfl ?_))
  refine aA (cs':=[vi (n+1),F_v]) aK zs2 rfl bx10.t rfl nq (AllOne.all (.cons rfl (.cons (aM o_F.t.flat) .nil))) rfl ?_
  intro w85 ch86 bx87
  refine xp (v:=vi 0) 16 rfl (λw=>bK rfl) (bV (by kernel_rfl) (az (vs:=[vg [vi (n+1),F_v],vi 0]) Tryz.func8 (.cell zs2 (cd (ds:=[vi (n+1),F_v]) aK bx87 rfl rfl) (.tmp rfl .nil)) ?_))
  have e0:((n+1,F):(Int)×(List Pt))=(bw n):=by
    exact AB hF (by omega) (by omega)
  have e1:(0:Int)=(0):=by
    rfl
  exact⟨(fin w0 g67 (λn=>if n=7 then 1 else 0),F_v),(cP (a:=(n+1,F)) (b:=0) (λ(z0:(Int)×(List Pt)) (z1:Int)=>Ending.returned (vt [vg [vi z0.1,F_v],vi z1])) e0 e1),bH.t.fresh _,((congrArg (λ(z:(Int)×(List Pt))=>z.2) e0)▸(o_F.t.glue (γ:=c0) (ren:=(λn=>if n=7 then 1 else 0)) (k:=1) bH.t.col rfl rfl))⟩
 intro nd20
 refine cU (σ:=Value×ax) [10,9,1,11,7,6,5,4,3,2,0] 6 (λ⟨v90,gq⟩ f w=>aW w0 gq w/\f 2=vp b8 0/\f 5=v90/\f 8=vi ((min n 3072)+1)/\f 11=vi (2*(min n 3072))/\f 14=vi (n+1)/\f 15=Value.func (.func 26) #[] (List.toArray [vp b3 0])/\Bx gq (is 1) w b3 [vi n]/\Bx gq (is 2) w b8 [vi 0,vn]/\Ow gq (is 3) (is 3) w v90 ([n]:List Int)) ?_ ?_
 ·
  rintro⟨v90,g96⟩ f94 w95 ⟨bH,zs2,zs5,zs8,zs11,zs14,zs15,bx5,bx10,o92⟩
  refine cE 8 rfl (bI (v:=vi 0) (aB (vals:=[vi 3,v90,vi ((min n 3072)+1),vi (2*(min n 3072))]) Tryz.func21 gc gg (fI rfl (fI zs5 (fI zs8 (fI zs11 rfl))))) (gk w95 3 ([n]:List Int) v90 (o92.flat).ro ((min n 3072)+1) (2*(min n 3072)) (by exact(λk hk=>by simp only[List.mem_cons,List.not_mem_nil,or_false] at hk;rcases hk with rfl<;>omega)) (by omega) (by omega)) ?_)
  intro w97 hb98
  replace hb98:=aG hb98 g96
  exact bC (by kernel_rfl) (nd20 (g96) _ _ ⟨bH.t,zs2,rfl,zs14,zs15,bx5.t,bx10.t⟩)
 intro nd93
 refine xh 0 [2,5,9,11,3,6,10,4,7] rfl (λw' hw'=>a8 aD rfl (bx5.t.bel hw') rfl) (xh 2 [0,1,5,9,11,6,10,7] rfl (λw' hw'=>a8 aD rfl (bx5.t.bel hw') rfl) (xp (v:=vi (min n 3072)) 3 rfl (λw=>io rfl rfl) (xp 4 rfl (λw=>aJ (m:=min n 3072) (n:=1) rfl rfl (by omega)) (xh 5 [4,3,2,0,1,9,11,10] rfl (λw' hw'=>a8 aD rfl (bx5.t.bel hw') rfl) (xp (v:=vi (min n 3072)) 6 rfl (λw=>io rfl rfl) (xp 7 rfl (λw=>kb (m:=2) (n:=min n 3072) rfl rfl (by omega)) (xp (v:=Value.func (.func 26) #[] (List.toArray [vp b3 0])) 11 rfl (λw=>ez (vals:=[vp b3 0]) rfl) ?_)))))))
 refine de 1 9 rfl rfl (by kernel_rfl) rfl rfl ?_ ?_
 ·
  refine aq (α:=Int) g9 (is 3) (is 3) (3,0) rfl ([n]:List Int) bF aD (by decide) (by decide) (vs:=[(0,vi n)]) rfl rfl (.cons rfl .nil) ?_
  intro g99 w100 v101 ch102 o103
  refine de 8 9 rfl rfl (by kernel_rfl) rfl rfl ?_ ?_
  ·
   refine bI (v:=vi 0) (aB (vals:=[vi 3,v101,vi ((min n 3072)+1),vi (2*(min n 3072))]) Tryz.func21 gc gg rfl) (gk w100 3 ([n]:List Int) v101 (o103.flat).ro ((min n 3072)+1) (2*(min n 3072)) (by exact(λk hk=>by simp only[List.mem_cons,List.not_mem_nil,or_false] at hk;rcases hk with rfl<;>omega)) (by omega) (by omega)) ?_
   intro w104 hb105
   replace hb105:=aG hb105 g99
   refine cE 9 rfl (ao (v:=vi n) (a8 aD rfl bx5.t rfl) (xp 10 rfl (λw=>aJ (m:=n) (n:=1) rfl rfl (by omega)) ?_))
   have C107:=cg [] (ch11.o (ch102.o hb105.n))
   have C106:=ch2.n.seq (ch7.n.seq C107)
   exact bC (by kernel_rfl) (nd20 (g99) _ _ ⟨bH.t,rfl,rfl,rfl,rfl,bx5.t,bx10.t⟩)
  ·
   refine ao (v:=vi n) (a8 aD rfl bx5.t rfl) (xp 10 rfl (λw=>aJ (m:=n) (n:=1) rfl rfl (by omega)) ?_)
   exact bC (by kernel_rfl) (nd93 (v101,g99) _ _ ⟨bH.t,rfl,rfl,rfl,rfl,rfl,rfl,bx5.t,bx10.t,o103⟩)
 ·
  refine ao (v:=vi n) (a8 aD rfl bx5.t rfl) (xp 10 rfl (λw=>aJ (m:=n) (n:=1) rfl rfl (by omega)) (cE 1 rfl (aq (α:=Int) g9 (is 3) (is 3) (3,0) rfl ([n]:List Int) bF aD (by decide) (by decide) (vs:=[(0,vi n)]) rfl rfl (.cons rfl .nil) ?_)))
  intro g109 w110 v111 ch112 o113
  exact bC (by kernel_rfl) (nd93 (v111,g109) _ _ ⟨bH.t,rfl,rfl,rfl,rfl,rfl,rfl,bx5.t,bx10.t,o113⟩)
end TL
