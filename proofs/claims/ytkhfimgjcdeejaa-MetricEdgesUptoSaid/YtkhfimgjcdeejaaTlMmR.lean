import Derived.Test.YtkhfimgjcdeejaaTlP1
import Derived.Test.YtkhfimgjcdeejaaTlGmA
import Derived.Test.YtkhfimgjcdeejaaTlGenA
import Derived.Test.YtkhfimgjcdeejaaTlGjC
import Derived.Test.YtkhfimgjcdeejaaTlMmA
import Derived.Test.YtkhfimgjcdeejaaTlMmB
import Derived.Test.YtkhfimgjcdeejaaTlMmW
import Derived.Test.YtkhfimgjcdeejaaProg
import Derived.Test.YtkhfimgjcdeejaaTlAli
set_option linter.all false
set_option maxRecDepth 20000
namespace TL
open Go Go.Proofs
theorem lm:Try.f33.body.isNone=false:=rfl
theorem kR:(Try.f33.name== "runtime.NumGoroutine")=false:=by decide+kernel
theorem jE(w0:World)(g:(Int)×(List Pt))(g_v:Value)(hg_v:Ro w0 g_v g.2)(p:(List Pt)×(List (List Pt)))(p_v p_v1:Value)(hp_v:Ro w0 p_v p.1)(hp_v1:Ro w0 p_v1 p.2)(h1:g.2.length<=1):
    Calls Try.prog 13 #[vg [vi g.1,g_v],vg [p_v,p_v1]] w0 (λee w=>ee= .returned (vt [vi 0,vi (aL g p)])/\cA w0.heap.size w0 w):=by
 refine aR Try.func13 rfl nq ?_
 have bH:=bu.start w0
 have Rg:=hg_v.sl
 have Rp:=hp_v.sl
 have r_p_v1:=hp_v1.sl
 refine a5 (a0 rfl (cq rfl (cD c0 (is 1) (1,0) rfl rfl ?_)))
 intro g4 w1 b3 ch2 bx5
 replace bx5:Bx g4 (is 1) w1 b3 [vi g.1,g_v]:=bx5
 refine lo (cD g4 (is 2) (2,0) rfl rfl ?_)
 intro g9 w6 b8 ch7 bx10
 replace bx10:Bx g9 (is 2) w6 b8 [p_v,p_v1]:=bx10
 refine ai 0 (ai 0 (aa (a5 (a5 (a0 rfl ?_)))))
 replace bx5:=bx5.cn ch7
 refine lx (ah (ds:=[vi g.1,g_v]) bm rfl bx5 rfl rfl) (lx (ah (ds:=[p_v,p_v1]) bg rfl bx10 rfl rfl) ?_)
 replace Rg:=(Rg.cn ch2).cn ch7
 replace Rp:=(Rp.cn ch2).cn ch7
 replace r_p_v1:=(r_p_v1.cn ch2).cn ch7
 refine lo (aG (v:=vi (aL g p)) (aB (vals:=[vg [vi g.1,g_v],vg [p_v,p_v1]]) Try.func22 fE fH rfl) (ef w6 g g_v (Rg).ro p p_v p_v1 (Rp).ro (r_p_v1).ro) ?_)
 intro w11 hb12
 replace hb12:=af hb12 g9
 refine ai (aL g p) (aa (a5 (a0 rfl (mi (aL g p) (lx (ew (m:=aL g p) (n:=0) rfl rfl) (aa ?_))))))
 by_cases p2:(aL g p)=0
 ·
  refine al rfl (congrArg Bool.not (dt p2)) (az (a5 (a0 rfl (ai 0 (aa (a5 (a5 (a0 rfl (lx (a6 gj rfl rfl rfl rfl) ?_)))))))))
  replace bx5:=bx5.cn hb12
  refine lx (a7 cP rfl bx5 rfl) ?_
  replace Rg:=Rg.cn hb12
  have len13:=(Rg).small
  refine lx (bM i5 rfl Rg) (mi 0 (aa (aE ?_)))
  refine bF (σ:=Nat×aT) (λ⟨i,gq⟩ f w=>bu w0 gq w/\f 2=vp b3 0/\f 3=vp b8 0/\f 7=vi 0/\f 18=vi (g.2.length:Int)/\f 19=vi ↑i/\Sl gq (is 0) w g_v g.2/\Sl gq (is 0) w p_v p.1/\Sl gq (is 0) w p_v1 p.2/\Bx gq (is 1) w b3 [vi g.1,g_v]/\Bx gq (is 2) w b8 [p_v,p_v1]/\(i:Int)<=((g.2.length:Int):Int)/\(True)) (λ⟨i,gq⟩=>Int.toNat (((g.2.length:Int):Int)-(i:Int))) (0,g9) ?_ ?_
  have C14:=cg [] (ch2.n.seq (ch7.n.seq hb12.n))
  · exact⟨bH.ca C14,rfl,rfl,rfl,rfl,rfl,Rg,Rp.cn hb12,r_p_v1.cn hb12,bx5,bx10.cn hb12,by omega,by trivial⟩
  clear Rg Rp r_p_v1 bx5 bx10 bH
  rintro⟨i,g17⟩ f15 w16 ⟨bH,zs2,zs3,zs7,zs18,zs19,Rg,Rp,r_p_v1,bx5,bx10,hle_i,hinv6⟩ back6
  refine a5 (a0 rfl (lx (bd (m:=↑i) (n:=(g.2.length:Int)) zs19 zs18) (aa (a5 ?_))))
  by_cases p6:(i:Int)<(g.2.length:Int)
  ·
   refine aj rfl (dt p6) (az (a5 (aE (a5 (a0 rfl (mz zs19 (ai (i:Int) (aa (a5 (a0 rfl (mi ↑i (lx (bb (m:=↑i) (n:=1) rfl rfl (by omega)) ?_))))))))))))
   refine ai ((i:Int)+1) (aa (aE ?_))
   refine bF (σ:=aT) (λgq f w=>bu w0 gq w/\f 2=vp b3 0/\f 3=vp b8 0/\f 7=vi 0/\f 8=vi ↑i/\f 9=vi ((i:Int)+1)/\f 18=vi (g.2.length:Int)/\f 19=vi ↑i/\Sl gq (is 0) w g_v g.2/\Sl gq (is 0) w p_v p.1/\Sl gq (is 0) w p_v1 p.2/\Bx gq (is 1) w b3 [vi g.1,g_v]/\Bx gq (is 2) w b8 [p_v,p_v1]/\(True)) (λgq=>0) (g17) ?_ ?_
   · exact⟨bH,zs2,zs3,zs7,rfl,rfl,zs18,zs19,Rg,Rp,r_p_v1,bx5,bx10,by trivial⟩
   clear Rg Rp r_p_v1 bx5 bx10 bH
   rintro g20 f18 w19 ⟨bH,zs2,zs3,zs7,zs8,zs9,zs18,zs19,Rg,Rp,r_p_v1,bx5,bx10,hinv9⟩ back9
   refine a5 (a5 (a0 rfl (mz zs9 (lx (a6 gj rfl rfl zs2 rfl) (lx (a7 cP rfl bx5 rfl) (lx (bM i5 rfl Rg) (lx (bd (m:=(i:Int)+1) (n:=(g.2.length:Int)) rfl rfl) (aa ?_))))))))
   by_cases p9:((i:Int)+1)<(g.2.length:Int)
   ·
    exact absurd p9 (by omega)
   refine al rfl (df p9) (aZ rfl (au (a0 rfl (lx (bb (m:=↑i) (n:=1) zs19 rfl (by omega)) (mi ((i:Int)+1) (aa ?_))))))
   refine back6 (i+1,g20) _ _ ⟨bH,zs2,zs3,zs7,zs18,rfl,Rg,Rp,r_p_v1,bx5,bx10,by omega,?_⟩ ?_
   · show True
     trivial
   · show Int.toNat (((g.2.length:Int):Int)-((i+1):Int))<Int.toNat (((g.2.length:Int):Int)-(i:Int))
     omega
  refine al rfl (df p6) (aZ rfl (a5 ?_))
  clear bx5 bx10
  refine a0 rfl (mz zs7 (ai 0 (ai 0 (aa (aF (vs:=[vi 0,vi 0]) Try.func13 (.tmp rfl (.tmp rfl .nil)) ?_)))))
  have e0:(0:Int)=(0):=by
    rfl
  have e1:(0:Int)=(aL g p):=by
    exact p2.symm
  exact⟨(bL (a:=0) (b:=0) (λ(z0:Int) (z1:Int)=>Ending.returned (vt [vi z0,vi z1])) e0 e1),bH.below⟩
 refine aj rfl (congrArg Bool.not (df p2)) (a5 ?_)
 clear bx5 bx10
 refine a0 rfl (mi (aL g p) (ai 0 (ai (aL g p) (aa (aF (vs:=[vi 0,vi (aL g p)]) Try.func13 (.tmp rfl (.tmp rfl .nil)) ?_)))))
 have e0:(0:Int)=(0):=by
   rfl
 have e1:(aL g p:Int)=(aL g p):=by
   rfl
 have C21:=cg [] (ch2.n.seq (ch7.n.seq hb12.n))
 replace bH:=bH.ca C21
 exact⟨(bL (a:=0) (b:=aL g p) (λ(z0:Int) (z1:Int)=>Ending.returned (vt [vi z0,vi z1])) e0 e1),bH.below⟩
theorem jB(w0:World)(g:(Int)×(List Pt))(g_v:Value)(hg_v:Ro w0 g_v g.2)(p:(List Pt)×(List (List Pt)))(p_v p_v1:Value)(hp_v:Ro w0 p_v p.1)(hp_v1:Ro w0 p_v1 p.2)(h1:∀v:Int,(gI (bh g p g.2.length) v).length<=1):
    Calls Try.prog 17 #[vg [vi g.1,g_v],vg [p_v,p_v1]] w0 (λee w=>ee= .returned (vt [Value.float .f64 ((bJ g p).1),vi ((bJ g p).2)])/\cA w0.heap.size w0 w):=by
 refine aR Try.func17 rfl nq ?_
 have bH:=bu.start w0
 have Rg:=hg_v.sl
 have Rp:=hp_v.sl
 have r_p_v1:=hp_v1.sl
 refine a5 (a0 rfl (cq rfl (cD c0 (is 1) (1,0) rfl rfl ?_)))
 intro g4 w1 b3 ch2 bx5
 replace bx5:Bx g4 (is 1) w1 b3 [vi g.1,g_v]:=bx5
 refine lo (cD g4 (is 2) (2,0) rfl rfl ?_)
 intro g9 w6 b8 ch7 bx10
 replace bx10:Bx g9 (is 2) w6 b8 [p_v,p_v1]:=bx10
 refine ma (Value.float .f64 0) (ai 0 (aa (a5 (a5 (a0 rfl ?_)))))
 replace bx5:=bx5.cn ch7
 refine lx (ah (ds:=[vi g.1,g_v]) bm rfl bx5 rfl rfl) (lx (ah (ds:=[p_v,p_v1]) bg rfl bx10 rfl rfl) ?_)
 replace Rg:=(Rg.cn ch2).cn ch7
 replace Rp:=(Rp.cn ch2).cn ch7
 replace r_p_v1:=(r_p_v1.cn ch2).cn ch7
 refine lo (aG (v:=vi (aL g p)) (aB (vals:=[vg [vi g.1,g_v],vg [p_v,p_v1]]) Try.func22 fE fH rfl) (ef w6 g g_v (Rg).ro p p_v p_v1 (Rp).ro (r_p_v1).ro) ?_)
 intro w11 hb12
 replace hb12:=af hb12 g9
 refine ai (aL g p) (aa (a5 (a0 rfl (mi (aL g p) (lx (ew (m:=aL g p) (n:=0) rfl rfl) (aa ?_))))))
 by_cases p2:(aL g p)=0
 ·
  have hf0:aL g p=0:=p2
  obtain⟨hm,hs,hlp⟩:=gS hf0
  have hs2:=hs.m
  have hm0:=hm
  obtain⟨hm1,hm2,hm3,hm4⟩:=hm0
  refine al rfl (congrArg Bool.not (dt p2)) (az (a5 (a0 rfl (ma (Value.float .f64 13830554455654793216) (aa (a5 (a5 (a0 rfl ?_))))))))
  replace bx5:=bx5.cn hb12
  refine lx (ah (ds:=[vi g.1,g_v]) bm rfl bx5 rfl rfl) ?_
  replace bx10:=bx10.cn hb12
  refine lx (ah (ds:=[p_v,p_v1]) bg rfl bx10 rfl rfl) ?_
  replace Rg:=Rg.cn hb12
  replace Rp:=Rp.cn hb12
  replace r_p_v1:=r_p_v1.cn hb12
  refine lo (eh (aB (vals:=[vg [vi g.1,g_v],vg [p_v,p_v1]]) Try.func33 lm kR rfl) (lq w11 g g_v (Rg).ro p p_v p_v1 (Rp).ro (r_p_v1).ro ‹_› ‹_›) ?_)
  rintro⟨d14,v16⟩ w13 ⟨fr15,o17⟩
  obtain⟨g18,ch19,G18⟩:=n5 g9 fr15 (λn=>if n=1 then 3 else 0)
  replace o17:=o17.gl G18 3
  have len20:=(o17.sl).small
  refine lx (bM dv rfl o17.sl) (mi 0 (aa (aE ?_)))
  clear bx5 bx10
  refine bF (σ:=Nat×aT) (λ⟨v,gq⟩ f w=>bu w0 gq w/\f 7=Value.float .f64 13830554455654793216/\f 22=v16/\f 23=vi (List.length (bh g p g.2.length):Int)/\f 24=vi ↑v/\Sl gq (is 0) w g_v g.2/\Sl gq (is 0) w p_v p.1/\Sl gq (is 0) w p_v1 p.2/\d8 gq 3 w v16 (bh g p g.2.length)/\(v:Int)<=((List.length (bh g p g.2.length):Int):Int)/\(True)) (λ⟨v,gq⟩=>Int.toNat (((List.length (bh g p g.2.length):Int):Int)-(v:Int))) (0,g18) ?_ ?_
  have C21:=cg [] (ch2.n.seq (ch7.n.seq (hb12.n.seq ch19.n)))
  · exact⟨bH.ca C21,rfl,rfl,rfl,rfl,Rg.cn ch19,Rp.cn ch19,r_p_v1.cn ch19,o17,by omega,by trivial⟩
  clear Rg Rp r_p_v1 o17 bH
  rintro⟨v,g24⟩ f22 w23 ⟨bH,zs7,zs22,zs23,zs24,Rg,Rp,r_p_v1,o17,hle_v,hinv6⟩ back6
  refine a5 (a0 rfl (lx (bd (m:=↑v) (n:=(List.length (bh g p g.2.length):Int)) zs24 zs23) (aa (a5 ?_))))
  by_cases p6:(v:Int)<(List.length (bh g p g.2.length):Int)
  ·
   refine aj rfl (dt p6) ?_
   have hrv:=h1 (v:Int)
   refine az (a5 (aE (a5 (a0 rfl (lx (ab (v:=v16) (i:=↑v) dv rfl zs22 o17.sl zs24 (by omega) (by omega)) ?_)))))
   obtain⟨v25,cel26,r27⟩:=bl (r:=(v:Int)) o17 (by omega) (by omega)
   refine lx (aV aQ rfl cel26) (ma v25 (aa (a5 (a0 rfl (mv v25 ?_)))))
   have len28:=(r27.row_sl).small
   refine lx (bM cJ rfl r27.row_sl) (mi 0 (aa (aE ?_)))
   refine bF (σ:=Nat×aT) (λ⟨i,gq⟩ f w=>bu w0 gq w/\f 7=Value.float .f64 13830554455654793216/\f 9=v25/\f 22=v16/\f 23=vi (List.length (bh g p g.2.length):Int)/\f 24=vi ↑v/\f 28=v25/\f 29=vi (List.length (gI (bh g p g.2.length) (v:Int)):Int)/\f 30=vi ↑i/\Sl gq (is 0) w g_v g.2/\Sl gq (is 0) w p_v p.1/\Sl gq (is 0) w p_v1 p.2/\d8 gq 3 w v16 (bh g p g.2.length)/\Ow gq (bw 3 (Int.toNat ↑v+1)) (bw 3 (Int.toNat ↑v+1)) w v25 (gI (bh g p g.2.length) (v:Int))/\(i:Int)<=((List.length (gI (bh g p g.2.length) (v:Int)):Int):Int)/\(True)) (λ⟨i,gq⟩=>Int.toNat (((List.length (gI (bh g p g.2.length) (v:Int)):Int):Int)-(i:Int))) (0,g24) ?_ ?_
   · exact⟨bH,zs7,rfl,zs22,zs23,zs24,rfl,rfl,rfl,Rg,Rp,r_p_v1,o17,r27,by omega,by trivial⟩
   clear Rg Rp r_p_v1 o17 cel26 r27 bH
   rintro⟨i,g31⟩ f29 w30 ⟨bH,zs7,zs9,zs22,zs23,zs24,zs28,zs29,zs30,Rg,Rp,r_p_v1,o17,r27,hle_i,hinv9⟩ back9
   refine a5 (a0 rfl (lx (bd (m:=↑i) (n:=(List.length (gI (bh g p g.2.length) (v:Int)):Int)) zs30 zs29) (aa (a5 ?_))))
   by_cases p9:(i:Int)<(List.length (gI (bh g p g.2.length) (v:Int)):Int)
   ·
    refine aj rfl (dt p9) (az (a5 (aE (a5 (a0 rfl (mz zs30 (lx (ab (v:=v25) (i:=↑i) cJ rfl zs28 r27.row_sl zs30 (by omega) (by omega)) (lw (vg [vi ((gI (gI (bh g p g.2.length) (v:Int)) (i:Int)).1),vi (((gI (gI (bh g p g.2.length) (v:Int)) (i:Int)).2).1),Value.float .f64 (((gI (gI (bh g p g.2.length) (v:Int)) (i:Int)).2).2)]) (aK (v:=v25) (i:=↑i) aN rfl r27.row_sl (by omega) (by omega) rfl) (lo (bc g31 (is 4) (4,0) rfl aN ?_))))))))))
    intro g35 w32 b34 ch33 bx36
    replace bx36:Bx g35 (is 4) w32 b34 [vi 0,vi 0,Value.float .f64 0]:=bx36
    refine ai (i:Int) (lo (ae (cs':=[vi ((gI (gI (bh g p g.2.length) (v:Int)) (i:Int)).1),vi (((gI (gI (bh g p g.2.length) (v:Int)) (i:Int)).2).1),Value.float .f64 (((gI (gI (bh g p g.2.length) (v:Int)) (i:Int)).2).2)]) aN rfl rfl bx36 rfl nq (AllOne.all (.cons rfl (.cons rfl (.cons rfl .nil)))) rfl ?_))
    intro w37 ch38 bx39
    clear bx36
    refine aa (a5 (a0 rfl (mz zs9 (mi ↑i (lx (bb (m:=↑i) (n:=1) rfl rfl (by omega)) ?_)))))
    replace r27:=(r27.cn ch33).chg ch38 (iO rfl) (iO rfl)
    refine lw ((h8 v25 3 (Int.toNat ((i:Int)+1)) (Int.toNat ((gI (bh g p g.2.length) (v:Int)).length)))) (kO (v:=v25) (l:=(i:Int)+1) (h:=(gI (bh g p g.2.length) (v:Int)).length) cJ rfl rfl r27.row_sl (.inl (congrArg some rfl)) (.inr ⟨rfl,rfl⟩) (by omega) (by omega) (by omega)) ?_
    have r41:=mV r27.row_sl (show Int.toNat ((i:Int)+1)<=Int.toNat ((gI (bh g p g.2.length) (v:Int)).length) by omega) (show Int.toNat ((gI (bh g p g.2.length) (v:Int)).length)<=List.length _ by omega)
    replace r41:=r41
    have len42:=(r41).small
    refine lx (bM cJ rfl r41) (mi 0 (aa (aE ?_)))
    refine bF (σ:=aT) (λgq f w=>bu w0 gq w/\f 7=Value.float .f64 13830554455654793216/\f 9=v25/\f 11=vp b34 0/\f 22=v16/\f 23=vi (List.length (bh g p g.2.length):Int)/\f 24=vi ↑v/\f 28=v25/\f 29=vi (List.length (gI (bh g p g.2.length) (v:Int)):Int)/\f 30=vi ↑i/\f 38=(h8 v25 3 (Int.toNat ((i:Int)+1)) (Int.toNat ((gI (bh g p g.2.length) (v:Int)).length)))/\f 39=vi (List.length (List.drop (Int.toNat ((i:Int)+1)) (List.take (Int.toNat ((gI (bh g p g.2.length) (v:Int)).length)) (gI (bh g p g.2.length) (v:Int)))):Int)/\f 40=vi 0/\Sl gq (is 0) w g_v g.2/\Sl gq (is 0) w p_v p.1/\Sl gq (is 0) w p_v1 p.2/\d8 gq 3 w v16 (bh g p g.2.length)/\Ow gq (bw 3 (Int.toNat ↑v+1)) (bw 3 (Int.toNat ↑v+1)) w v25 (gI (bh g p g.2.length) (v:Int))/\Bx gq (is 4) w b34 [vi ((gI (gI (bh g p g.2.length) (v:Int)) (i:Int)).1),vi (((gI (gI (bh g p g.2.length) (v:Int)) (i:Int)).2).1),Value.float .f64 (((gI (gI (bh g p g.2.length) (v:Int)) (i:Int)).2).2)]/\Sl gq (is 3) w (h8 v25 3 (Int.toNat ((i:Int)+1)) (Int.toNat ((gI (bh g p g.2.length) (v:Int)).length))) (List.drop (Int.toNat ((i:Int)+1)) (List.take (Int.toNat ((gI (bh g p g.2.length) (v:Int)).length)) (gI (bh g p g.2.length) (v:Int))))/\(True)) (λgq=>0) (g35) ?_ ?_
    replace bH:=bH.cn ch33
    · exact⟨bH.ce ch38,zs7,zs9,rfl,zs22,zs23,zs24,zs28,zs29,zs30,rfl,rfl,rfl,(Rg.cn ch33).ce ch38,(Rp.cn ch33).ce ch38,(r_p_v1.cn ch33).ce ch38,(o17.cn ch33).ce ch38,r27,bx39,r41,by trivial⟩
    clear Rg Rp r_p_v1 o17 r27 bx39 r41 bH
    rintro g45 f43 w44 ⟨bH,zs7,zs9,zs11,zs22,zs23,zs24,zs28,zs29,zs30,zs38,zs39,zs40,Rg,Rp,r_p_v1,o17,r27,bx39,r41,hinv12⟩ back12
    refine a5 (a0 rfl (lx (bd (m:=0) (n:=(List.length (List.drop (Int.toNat ((i:Int)+1)) (List.take (Int.toNat ((gI (bh g p g.2.length) (v:Int)).length)) (gI (bh g p g.2.length) (v:Int)))):Int)) zs40 zs39) (aa (a5 ?_))))
    by_cases p12:(0:Int)<(List.length (List.drop (Int.toNat ((i:Int)+1)) (List.take (Int.toNat ((gI (bh g p g.2.length) (v:Int)).length)) (gI (bh g p g.2.length) (v:Int)))):Int)
    ·
     exact absurd p12 (by have:=h1 (v:Int);simp only[List.length_drop,List.length_take];omega)
    refine al rfl (df p12) (aZ rfl (au ?_))
    clear bx39 r41
    refine a0 rfl (lx (bb (m:=↑i) (n:=1) zs30 rfl (by omega)) (mi ((i:Int)+1) (aa ?_)))
    refine back9 (i+1,g45) _ _ ⟨bH,zs7,zs9,zs22,zs23,zs24,zs28,zs29,rfl,Rg,Rp,r_p_v1,o17,r27,by omega,?_⟩ ?_
    · show True
      trivial
    · show Int.toNat (((List.length (gI (bh g p g.2.length) (v:Int)):Int):Int)-((i+1):Int))<Int.toNat (((List.length (gI (bh g p g.2.length) (v:Int)):Int):Int)-(i:Int))
      omega
   refine al rfl (df p9) (aZ rfl (au ?_))
   clear r27
   refine a0 rfl (lx (bb (m:=↑v) (n:=1) zs24 rfl (by omega)) (mi ((v:Int)+1) (aa ?_)))
   refine back6 (v+1,g31) _ _ ⟨bH,zs7,zs22,zs23,rfl,Rg,Rp,r_p_v1,o17,by omega,?_⟩ ?_
   · show True
     trivial
   · show Int.toNat (((List.length (bh g p g.2.length):Int):Int)-((v+1):Int))<Int.toNat (((List.length (bh g p g.2.length):Int):Int)-(v:Int))
     omega
  refine al rfl (df p6) (aZ rfl (a5 ?_))
  clear o17
  refine a0 rfl (mz zs7 (ma (Value.float .f64 13830554455654793216) (ai 0 (aa (aF (vs:=[Value.float .f64 13830554455654793216,vi 0]) Try.func17 (.tmp rfl (.tmp rfl .nil)) ?_)))))
  have e0:(13830554455654793216:Nat)=((bJ g p).1):=by
    exact(ie hf0).1
  have e1:(0:Int)=((bJ g p).2):=by
    exact(ie hf0).2
  exact⟨(bL (a:=13830554455654793216) (b:=0) (λ(z0:Nat) (z1:Int)=>Ending.returned (vt [Value.float .f64 z0,vi z1])) e0 e1),bH.below⟩
 refine aj rfl (congrArg Bool.not (df p2)) (a5 ?_)
 clear bx5 bx10
 refine a0 rfl (mi (aL g p) (ma (Value.float .f64 0) (ai (aL g p) (aa (aF (vs:=[Value.float .f64 0,vi (aL g p)]) Try.func17 (.tmp rfl (.tmp rfl .nil)) ?_)))))
 have e0:(0:Nat)=((bJ g p).1):=by
   exact(gx p2).1
 have e1:(aL g p:Int)=((bJ g p).2):=by
   exact(gx p2).2
 have C46:=cg [] (ch2.n.seq (ch7.n.seq hb12.n))
 replace bH:=bH.ca C46
 exact⟨(bL (a:=0) (b:=aL g p) (λ(z0:Nat) (z1:Int)=>Ending.returned (vt [Value.float .f64 z0,vi z1])) e0 e1),bH.below⟩
theorem fF(w0:World)(x:Int)(y:Int):
    Calls Try.prog 15 #[vi x,vi y] w0 (λee w=>ee= .returned (vg [vi x,vi y])/\cA w0.heap.size w0 w):=by
 refine aR Try.func15 rfl nq ?_
 have bH:=bu.start w0
 refine a5 (a0 rfl (cq rfl (bc c0 (is 1) (1,0) rfl am ?_)))
 intro g4 w1 b3 ch2 bx5
 replace bx5:Bx g4 (is 1) w1 b3 [vi 0,vi 0]:=bx5
 refine aa (a5 (a0 rfl (mi x (mi y (lw (vg [vi x,vi y]) (b6 (vs:=[(0,vi x),(1,vi y)]) rfl (by kernel_rfl)) (lo (ae (cs':=[vi x,vi y]) am rfl rfl bx5 rfl nq (AllOne.all (.cons rfl (.cons rfl .nil))) rfl ?_)))))))
 intro w6 ch7 bx8
 clear bx5
 refine aa (aF (vs:=[vg [vi x,vi y]]) Try.func15 (.cell rfl (bA (ds:=[vi x,vi y]) am bx8 rfl rfl) .nil) ?_)
 have e0:((x,y):Pt)=((x,y)):=by
   rfl
 replace bH:=bH.cn ch2
 replace bH:=bH.ce ch7
 exact⟨(congrArg (a₁:=(x,y)) (λ(z0:Pt)=>Ending.returned (vg [vi z0.1,vi z0.2])) e0),bH.below⟩
end TL
