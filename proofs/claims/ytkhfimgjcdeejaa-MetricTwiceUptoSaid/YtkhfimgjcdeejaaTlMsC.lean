import Derived.Test.YtkhfimgjcdeejaaTlP2
import Derived.Test.YtkhfimgjcdeejaaTlGmA
import Derived.Test.YtkhfimgjcdeejaaTlGmM
import Derived.Test.YtkhfimgjcdeejaaTlGenA
import Derived.Test.YtkhfimgjcdeejaaTlGdA
import Derived.Test.YtkhfimgjcdeejaaTlGjC
import Derived.Test.YtkhfimgjcdeejaaTlMmA
import Derived.Test.YtkhfimgjcdeejaaTlMmB
import Derived.Test.YtkhfimgjcdeejaaTlMmW
import Derived.Test.YtkhfimgjcdeejaaProg
import Derived.Test.YtkhfimgjcdeejaaTlAli
set_option linter.all false
set_option maxRecDepth 20000
namespace TL
open Go Go.Proofs
theorem oM:Try.f33.body.isNone=false:=rfl
theorem pu:(Try.f33.name== "runtime.NumGoroutine")=false:=by decide+kernel
set_option maxHeartbeats 4000000 in
theorem ii(w0:World)(g:(Int)×(List Pt))(g_v:Value)(hg_v:Ro w0 g_v g.2)(p:(List Pt)×(List (List Pt)))(p_v p_v1:Value)(hp_v:Ro w0 p_v p.1)(hp_v1:Ro w0 p_v1 p.2):
    Calls Try.prog 17 #[vg [vi g.1,g_v],vg [p_v,p_v1]] w0 (λee w=>ee= .returned (vt [Value.float .f64 ((bz g p).1),vi ((bz g p).2)])/\cG w0.heap.size w0 w):=by
 refine aK Try.func17 rfl nq ?_
 have bH:=bu.start w0
 have Rg:=hg_v.sl
 have Rp:=hp_v.sl
 have r_p_v1:=hp_v1.sl
 refine a8 (a7 rfl (cN rfl (bC c0 (is 1) (1,0) rfl rfl ?_)))
 intro g4 w1 b3 ch2 bx5
 replace bx5:Bx g4 (is 1) w1 b3 [vi g.1,g_v]:=bx5
 refine lo (bC g4 (is 2) (2,0) rfl rfl ?_)
 intro g9 w6 b8 ch7 bx10
 replace bx10:Bx g9 (is 2) w6 b8 [p_v,p_v1]:=bx10
 refine ma (Value.float .f64 0) (ai 0 (ab (a8 (a8 (a7 rfl ?_)))))
 replace bx5:=bx5.cn ch7
 refine lx (ae (ds:=[vi g.1,g_v]) bS rfl bx5 rfl rfl) (lx (ae (ds:=[p_v,p_v1]) bP rfl bx10 rfl rfl) ?_)
 replace Rg:=(Rg.cn ch2).cn ch7
 replace Rp:=(Rp.cn ch2).cn ch7
 replace r_p_v1:=(r_p_v1.cn ch2).cn ch7
 refine lo (aP (v:=vi (aY g p)) (aG (vals:=[vg [vi g.1,g_v],vg [p_v,p_v1]]) Try.func22 i5 ic rfl) (fv w6 g g_v (Rg).ro p p_v p_v1 (Rp).ro (r_p_v1).ro) ?_)
 intro w11 hb12
 replace hb12:=am hb12 g9
 refine ai (aY g p) (ab (a8 (a7 rfl (mi (aY g p) (lx (fM (m:=aY g p) (n:=0) rfl rfl) (ab ?_))))))
 by_cases p2:(aY g p)=0
 ·
  have hf0:aY g p=0:=p2
  obtain⟨hm,hs,hlp⟩:=eH hf0
  have hs2:=hs.m
  have hm0:=hm
  obtain⟨hm1,hm2,hm3,hm4⟩:=hm0
  have hwo:=iv hs g.2.length (by omega)
  refine ah rfl (congrArg Bool.not (dt p2)) (au (a8 (a7 rfl (ma (Value.float .f64 13830554455654793216) (ab (a8 (a8 (a7 rfl ?_))))))))
  replace bx5:=bx5.cn hb12
  refine lx (ae (ds:=[vi g.1,g_v]) bS rfl bx5 rfl rfl) ?_
  replace bx10:=bx10.cn hb12
  refine lx (ae (ds:=[p_v,p_v1]) bP rfl bx10 rfl rfl) ?_
  replace Rg:=Rg.cn hb12
  replace Rp:=Rp.cn hb12
  replace r_p_v1:=r_p_v1.cn hb12
  refine lo (fw (aG (vals:=[vg [vi g.1,g_v],vg [p_v,p_v1]]) Try.func33 oM pu rfl) (pQ w11 g g_v (Rg).ro p p_v p_v1 (Rp).ro (r_p_v1).ro ‹_› ‹_›) ?_)
  rintro⟨d14,v16⟩ w13 ⟨fr15,o17⟩
  obtain⟨g18,ch19,G18⟩:=sg g9 fr15 (λn=>if n=1 then 3 else 0)
  replace o17:=o17.gl G18 3
  have len20:=(o17.sl).small
  refine lx (bO e8 rfl o17.sl) (mi 0 (ab (aC ?_)))
  clear bx5 bx10
  refine bF (σ:=Fb×Nat×aV) (λ⟨m0,v,gq⟩ f w=>bu w0 gq w/\f 7=Value.float .f64 m0/\f 22=v16/\f 23=vi (List.length (ar g p g.2.length):Int)/\f 24=vi ↑v/\Sl gq (is 0) w g_v g.2/\Sl gq (is 0) w p_v p.1/\Sl gq (is 0) w p_v1 p.2/\dH gq 3 w v16 (ar g p g.2.length)/\(v:Int)<=((List.length (ar g p g.2.length):Int):Int)/\(m0=eB (ar g p g.2.length) v/\fE m0)) (λ⟨m0,v,gq⟩=>Int.toNat (((List.length (ar g p g.2.length):Int):Int)-(v:Int))) (13830554455654793216,0,g18) ?_ ?_
  have C21:=cg [] (ch2.n.seq (ch7.n.seq (hb12.n.seq ch19.n)))
  · exact⟨bH.ca C21,rfl,rfl,rfl,rfl,Rg.cn ch19,Rp.cn ch19,r_p_v1.cn ch19,o17,by omega,by exact⟨rfl,nN⟩⟩
  clear Rg Rp r_p_v1 o17 bH
  rintro⟨m0,v,g24⟩ f22 w23 ⟨bH,zs7,zs22,zs23,zs24,Rg,Rp,r_p_v1,o17,hle_v,h0⟩ back6
  refine a8 (a7 rfl (lx (bc (m:=↑v) (n:=(List.length (ar g p g.2.length):Int)) zs24 zs23) (ab (a8 ?_))))
  by_cases p6:(v:Int)<(List.length (ar g p g.2.length):Int)
  ·
   refine ag rfl (dt p6) (au (a8 (aC (a8 (a7 rfl (lx (af (v:=v16) (i:=↑v) e8 rfl zs22 o17.sl zs24 (by omega) (by omega)) ?_))))))
   obtain⟨v25,cel26,r27⟩:=bG (r:=(v:Int)) o17 (by omega) (by omega)
   refine lx (aZ aX rfl cel26) (ma v25 (ab (a8 (a7 rfl (mv v25 ?_)))))
   have len28:=(r27.row_sl).small
   refine lx (bO d4 rfl r27.row_sl) (mi 0 (ab (aC ?_)))
   refine bF (σ:=Fb×Nat×aV) (λ⟨m1,i,gq⟩ f w=>bu w0 gq w/\f 7=Value.float .f64 m1/\f 9=v25/\f 22=v16/\f 23=vi (List.length (ar g p g.2.length):Int)/\f 24=vi ↑v/\f 28=v25/\f 29=vi (List.length (gI (ar g p g.2.length) (v:Int)):Int)/\f 30=vi ↑i/\Sl gq (is 0) w g_v g.2/\Sl gq (is 0) w p_v p.1/\Sl gq (is 0) w p_v1 p.2/\dH gq 3 w v16 (ar g p g.2.length)/\Ow gq (bW 3 (Int.toNat ↑v+1)) (bW 3 (Int.toNat ↑v+1)) w v25 (gI (ar g p g.2.length) (v:Int))/\(i:Int)<=((List.length (gI (ar g p g.2.length) (v:Int)):Int):Int)/\(m1=i0 (eB (ar g p g.2.length) v) (gI (ar g p g.2.length) (v:Int)) i/\fE m1)) (λ⟨m1,i,gq⟩=>Int.toNat (((List.length (gI (ar g p g.2.length) (v:Int)):Int):Int)-(i:Int))) (m0,0,g24) ?_ ?_
   · exact⟨bH,zs7,rfl,zs22,zs23,zs24,rfl,rfl,rfl,Rg,Rp,r_p_v1,o17,r27,by omega,by exact⟨h0.1,h0.2⟩⟩
   clear Rg Rp r_p_v1 o17 cel26 r27 bH
   rintro⟨m1,i,g31⟩ f29 w30 ⟨bH,zs7,zs9,zs22,zs23,zs24,zs28,zs29,zs30,Rg,Rp,r_p_v1,o17,r27,hle_i,h1⟩ back9
   refine a8 (a7 rfl (lx (bc (m:=↑i) (n:=(List.length (gI (ar g p g.2.length) (v:Int)):Int)) zs30 zs29) (ab (a8 ?_))))
   by_cases p9:(i:Int)<(List.length (gI (ar g p g.2.length) (v:Int)):Int)
   ·
    refine ag rfl (dt p9) ?_
    have hwa:iK (gI (gI (ar g p g.2.length) (v:Int)) (i:Int)):=hwo _ _ (bl (by omega) ‹_›)
    refine au (a8 (aC (a8 (a7 rfl (mz zs30 (lx (af (v:=v25) (i:=↑i) d4 rfl zs28 r27.row_sl zs30 (by omega) (by omega)) (lw (vg [vi ((gI (gI (ar g p g.2.length) (v:Int)) (i:Int)).1),vi (((gI (gI (ar g p g.2.length) (v:Int)) (i:Int)).2).1),Value.float .f64 (((gI (gI (ar g p g.2.length) (v:Int)) (i:Int)).2).2)]) (aT (v:=v25) (i:=↑i) aW rfl r27.row_sl (by omega) (by omega) rfl) (lo (bo g31 (is 4) (4,0) rfl aW ?_)))))))))
    intro g35 w32 b34 ch33 bx36
    replace bx36:Bx g35 (is 4) w32 b34 [vi 0,vi 0,Value.float .f64 0]:=bx36
    refine ai (i:Int) (lo (ao (cs':=[vi ((gI (gI (ar g p g.2.length) (v:Int)) (i:Int)).1),vi (((gI (gI (ar g p g.2.length) (v:Int)) (i:Int)).2).1),Value.float .f64 (((gI (gI (ar g p g.2.length) (v:Int)) (i:Int)).2).2)]) aW rfl rfl bx36 rfl nq (AllOne.all (.cons rfl (.cons rfl (.cons rfl .nil)))) rfl ?_))
    intro w37 ch38 bx39
    clear bx36
    refine ab (a8 (a7 rfl (mz zs9 (mi ↑i (lx (ba (m:=↑i) (n:=1) rfl rfl (by omega)) ?_)))))
    replace r27:=(r27.cn ch33).chg ch38 (iw rfl) (iw rfl)
    refine lw ((iD v25 3 (Int.toNat ((i:Int)+1)) (Int.toNat ((gI (ar g p g.2.length) (v:Int)).length)))) (oV (v:=v25) (l:=(i:Int)+1) (h:=(gI (ar g p g.2.length) (v:Int)).length) d4 rfl rfl r27.row_sl (.inl (congrArg some rfl)) (.inr ⟨rfl,rfl⟩) (by omega) (by omega) (by omega)) ?_
    have r41:=rt r27.row_sl (show Int.toNat ((i:Int)+1)<=Int.toNat ((gI (ar g p g.2.length) (v:Int)).length) by omega) (show Int.toNat ((gI (ar g p g.2.length) (v:Int)).length)<=List.length _ by omega)
    replace r41:=r41
    have len42:=(r41).small
    refine lx (bO d4 rfl r41) (mi 0 (ab (aC ?_)))
    refine bF (σ:=Fb×Nat×aV) (λ⟨m2,j,gq⟩ f w=>bu w0 gq w/\f 7=Value.float .f64 m2/\f 9=v25/\f 11=vp b34 0/\f 22=v16/\f 23=vi (List.length (ar g p g.2.length):Int)/\f 24=vi ↑v/\f 28=v25/\f 29=vi (List.length (gI (ar g p g.2.length) (v:Int)):Int)/\f 30=vi ↑i/\f 38=(iD v25 3 (Int.toNat ((i:Int)+1)) (Int.toNat ((gI (ar g p g.2.length) (v:Int)).length)))/\f 39=vi (List.length (List.drop (Int.toNat ((i:Int)+1)) (List.take (Int.toNat ((gI (ar g p g.2.length) (v:Int)).length)) (gI (ar g p g.2.length) (v:Int)))):Int)/\f 40=vi ↑j/\Sl gq (is 0) w g_v g.2/\Sl gq (is 0) w p_v p.1/\Sl gq (is 0) w p_v1 p.2/\dH gq 3 w v16 (ar g p g.2.length)/\Ow gq (bW 3 (Int.toNat ↑v+1)) (bW 3 (Int.toNat ↑v+1)) w v25 (gI (ar g p g.2.length) (v:Int))/\Bx gq (is 4) w b34 [vi ((gI (gI (ar g p g.2.length) (v:Int)) (i:Int)).1),vi (((gI (gI (ar g p g.2.length) (v:Int)) (i:Int)).2).1),Value.float .f64 (((gI (gI (ar g p g.2.length) (v:Int)) (i:Int)).2).2)]/\Sl gq (is 3) w (iD v25 3 (Int.toNat ((i:Int)+1)) (Int.toNat ((gI (ar g p g.2.length) (v:Int)).length))) (List.drop (Int.toNat ((i:Int)+1)) (List.take (Int.toNat ((gI (ar g p g.2.length) (v:Int)).length)) (gI (ar g p g.2.length) (v:Int))))/\(j:Int)<=((List.length (List.drop (Int.toNat ((i:Int)+1)) (List.take (Int.toNat ((gI (ar g p g.2.length) (v:Int)).length)) (gI (ar g p g.2.length) (v:Int)))):Int):Int)/\(m2=jJ (i0 (eB (ar g p g.2.length) v) (gI (ar g p g.2.length) (v:Int)) i) (gI (gI (ar g p g.2.length) (v:Int)) (i:Int)) (gB (gI (ar g p g.2.length) (v:Int)) i) j/\fE m2)) (λ⟨m2,j,gq⟩=>Int.toNat (((List.length (List.drop (Int.toNat ((i:Int)+1)) (List.take (Int.toNat ((gI (ar g p g.2.length) (v:Int)).length)) (gI (ar g p g.2.length) (v:Int)))):Int):Int)-(j:Int))) (m1,0,g35) ?_ ?_
    replace bH:=bH.cn ch33
    · exact⟨bH.ce ch38,zs7,zs9,rfl,zs22,zs23,zs24,zs28,zs29,zs30,rfl,rfl,rfl,(Rg.cn ch33).ce ch38,(Rp.cn ch33).ce ch38,(r_p_v1.cn ch33).ce ch38,(o17.cn ch33).ce ch38,r27,bx39,r41,by omega,by exact⟨h1.1,h1.2⟩⟩
    clear Rg Rp r_p_v1 o17 r27 bx39 r41 bH
    rintro⟨m2,j,g45⟩ f43 w44 ⟨bH,zs7,zs9,zs11,zs22,zs23,zs24,zs28,zs29,zs30,zs38,zs39,zs40,Rg,Rp,r_p_v1,o17,r27,bx39,r41,hle_j,h2⟩ back12
    refine a8 (a7 rfl (lx (bc (m:=↑j) (n:=(List.length (List.drop (Int.toNat ((i:Int)+1)) (List.take (Int.toNat ((gI (ar g p g.2.length) (v:Int)).length)) (gI (ar g p g.2.length) (v:Int)))):Int)) zs40 zs39) (ab (a8 ?_))))
    by_cases p12:(j:Int)<(List.length (List.drop (Int.toNat ((i:Int)+1)) (List.take (Int.toNat ((gI (ar g p g.2.length) (v:Int)).length)) (gI (ar g p g.2.length) (v:Int)))):Int)
    ·
     refine ag rfl (dt p12) ?_
     have hwb:iK (gI (gB (gI (ar g p g.2.length) (v:Int)) i) (j:Int)):=hwo _ _ (List.mem_of_mem_take (List.mem_of_mem_drop (bl (by omega) ‹_›)))
     have qa:=hwa
     have qb:=hwb
     obtain⟨⟨xa1,xa2⟩,⟨ya1,ya2⟩,_,_⟩:=qa
     obtain⟨⟨xb1,xb2⟩,⟨yb1,yb2⟩,_,_⟩:=qb
     have pb1:=mu xa1 xa2 xb1 xb2
     have pb2:=mu ya1 ya2 yb1 yb2
     unfold gB at pb1 pb2 hwb
     have hm2n:=h2.2
     refine au (a8 (aC (a8 (a7 rfl (lx (af (v:=(iD v25 3 (Int.toNat ((i:Int)+1)) (Int.toNat ((gI (ar g p g.2.length) (v:Int)).length)))) (i:=↑j) d4 rfl zs38 r41 zs40 (by omega) (by omega)) ?_)))))
     refine lw (vg [vi ((gI (List.drop (Int.toNat ((i:Int)+1)) (List.take (Int.toNat ((gI (ar g p g.2.length) (v:Int)).length)) (gI (ar g p g.2.length) (v:Int)))) (j:Int)).1),vi (((gI (List.drop (Int.toNat ((i:Int)+1)) (List.take (Int.toNat ((gI (ar g p g.2.length) (v:Int)).length)) (gI (ar g p g.2.length) (v:Int)))) (j:Int)).2).1),Value.float .f64 (((gI (List.drop (Int.toNat ((i:Int)+1)) (List.take (Int.toNat ((gI (ar g p g.2.length) (v:Int)).length)) (gI (ar g p g.2.length) (v:Int)))) (j:Int)).2).2)]) (aT (v:=(iD v25 3 (Int.toNat ((i:Int)+1)) (Int.toNat ((gI (ar g p g.2.length) (v:Int)).length)))) (i:=↑j) aW rfl r41 (by omega) (by omega) rfl) (lo (bo g45 (is 5) (5,0) rfl aW ?_))
     intro g49 w46 b48 ch47 bx50
     replace bx50:Bx g49 (is 5) w46 b48 [vi 0,vi 0,Value.float .f64 0]:=bx50
     refine lo (ao (cs':=[vi ((gI (List.drop (Int.toNat ((i:Int)+1)) (List.take (Int.toNat ((gI (ar g p g.2.length) (v:Int)).length)) (gI (ar g p g.2.length) (v:Int)))) (j:Int)).1),vi (((gI (List.drop (Int.toNat ((i:Int)+1)) (List.take (Int.toNat ((gI (ar g p g.2.length) (v:Int)).length)) (gI (ar g p g.2.length) (v:Int)))) (j:Int)).2).1),Value.float .f64 (((gI (List.drop (Int.toNat ((i:Int)+1)) (List.take (Int.toNat ((gI (ar g p g.2.length) (v:Int)).length)) (gI (ar g p g.2.length) (v:Int)))) (j:Int)).2).2)]) aW rfl rfl bx50 rfl nq (AllOne.all (.cons rfl (.cons rfl (.cons rfl .nil)))) rfl ?_)
     intro w51 ch52 bx53
     clear bx50
     refine ab (a7 rfl (mz zs7 (lx (a9 rX rfl rfl zs11 rfl) ?_)))
     replace bx39:=(bx39.cn ch47).ce ch52
     refine lx (aa aL rfl bx39 rfl) (lx (a9 rX rfl rfl rfl rfl) (lx (aa aL rfl bx53 rfl) (lx (eu (m:=(gI (gI (ar g p g.2.length) (v:Int)) (i:Int)).1) (n:=(gI (List.drop (Int.toNat ((i:Int)+1)) (List.take (Int.toNat ((gI (ar g p g.2.length) (v:Int)).length)) (gI (ar g p g.2.length) (v:Int)))) (j:Int)).1) rfl rfl (by omega)) (lx (a9 rX rfl rfl zs11 rfl) (lx (aa aL rfl bx39 rfl) (lx (a9 rX rfl rfl rfl rfl) (lx (aa aL rfl bx53 rfl) (lx (eu (m:=((gI (gI (ar g p g.2.length) (v:Int)) (i:Int)).2).1) (n:=((gI (List.drop (Int.toNat ((i:Int)+1)) (List.take (Int.toNat ((gI (ar g p g.2.length) (v:Int)).length)) (gI (ar g p g.2.length) (v:Int)))) (j:Int)).2).1) rfl rfl (by omega)) ?_))))))))
     refine lx (ba (m:=((gI (gI (ar g p g.2.length) (v:Int)) (i:Int)).1)*((gI (List.drop (Int.toNat ((i:Int)+1)) (List.take (Int.toNat ((gI (ar g p g.2.length) (v:Int)).length)) (gI (ar g p g.2.length) (v:Int)))) (j:Int)).1)) (n:=(((gI (gI (ar g p g.2.length) (v:Int)) (i:Int)).2).1)*(((gI (List.drop (Int.toNat ((i:Int)+1)) (List.take (Int.toNat ((gI (ar g p g.2.length) (v:Int)).length)) (gI (ar g p g.2.length) (v:Int)))) (j:Int)).2).1)) rfl rfl (by omega)) ?_
     refine lw (Value.float .f64 (aq ((((gI (gI (ar g p g.2.length) (v:Int)) (i:Int)).1)*((gI (List.drop (Int.toNat ((i:Int)+1)) (List.take (Int.toNat ((gI (ar g p g.2.length) (v:Int)).length)) (gI (ar g p g.2.length) (v:Int)))) (j:Int)).1))+((((gI (gI (ar g p g.2.length) (v:Int)) (i:Int)).2).1)*(((gI (List.drop (Int.toNat ((i:Int)+1)) (List.take (Int.toNat ((gI (ar g p g.2.length) (v:Int)).length)) (gI (ar g p g.2.length) (v:Int)))) (j:Int)).2).1))))) (kJ (m:=(((gI (gI (ar g p g.2.length) (v:Int)) (i:Int)).1)*((gI (List.drop (Int.toNat ((i:Int)+1)) (List.take (Int.toNat ((gI (ar g p g.2.length) (v:Int)).length)) (gI (ar g p g.2.length) (v:Int)))) (j:Int)).1))+((((gI (gI (ar g p g.2.length) (v:Int)) (i:Int)).2).1)*(((gI (List.drop (Int.toNat ((i:Int)+1)) (List.take (Int.toNat ((gI (ar g p g.2.length) (v:Int)).length)) (gI (ar g p g.2.length) (v:Int)))) (j:Int)).2).1))) U3 sN rfl) ?_
     have nn54:fE (aq ((((gI (gI (ar g p g.2.length) (v:Int)) (i:Int)).1)*((gI (List.drop (Int.toNat ((i:Int)+1)) (List.take (Int.toNat ((gI (ar g p g.2.length) (v:Int)).length)) (gI (ar g p g.2.length) (v:Int)))) (j:Int)).1))+((((gI (gI (ar g p g.2.length) (v:Int)) (i:Int)).2).1)*(((gI (List.drop (Int.toNat ((i:Int)+1)) (List.take (Int.toNat ((gI (ar g p g.2.length) (v:Int)).length)) (gI (ar g p g.2.length) (v:Int)))) (j:Int)).2).1)))):=k5 _
     refine lx (a9 rX rfl rfl zs11 rfl) (lx (aa aF rfl bx39 rfl) (lx (a9 rX rfl rfl rfl rfl) (lx (aa aF rfl bx53 rfl) (lw (Value.float .f64 (bi (((gI (gI (ar g p g.2.length) (v:Int)) (i:Int)).2).2) (((gI (List.drop (Int.toNat ((i:Int)+1)) (List.take (Int.toNat ((gI (ar g p g.2.length) (v:Int)).length)) (gI (ar g p g.2.length) (v:Int)))) (j:Int)).2).2))) (dL (a:=(((gI (gI (ar g p g.2.length) (v:Int)) (i:Int)).2).2)) (b:=(((gI (List.drop (Int.toNat ((i:Int)+1)) (List.take (Int.toNat ((gI (ar g p g.2.length) (v:Int)).length)) (gI (ar g p g.2.length) (v:Int)))) (j:Int)).2).2)) rfl rfl (cu (by exact fY hwa) (by exact fY hwb)).1) ?_))))
     have nn55:bi (((gI (gI (ar g p g.2.length) (v:Int)) (i:Int)).2).2) (((gI (List.drop (Int.toNat ((i:Int)+1)) (List.take (Int.toNat ((gI (ar g p g.2.length) (v:Int)).length)) (gI (ar g p g.2.length) (v:Int)))) (j:Int)).2).2)<=aJ:=(cu (x:=(((gI (gI (ar g p g.2.length) (v:Int)) (i:Int)).2).2)) (y:=(((gI (List.drop (Int.toNat ((i:Int)+1)) (List.take (Int.toNat ((gI (ar g p g.2.length) (v:Int)).length)) (gI (ar g p g.2.length) (v:Int)))) (j:Int)).2).2)) (by exact fY hwa) (by exact fY hwb)).2
     refine lw (Value.float .f64 (aO (aq ((((gI (gI (ar g p g.2.length) (v:Int)) (i:Int)).1)*((gI (List.drop (Int.toNat ((i:Int)+1)) (List.take (Int.toNat ((gI (ar g p g.2.length) (v:Int)).length)) (gI (ar g p g.2.length) (v:Int)))) (j:Int)).1))+((((gI (gI (ar g p g.2.length) (v:Int)) (i:Int)).2).1)*(((gI (List.drop (Int.toNat ((i:Int)+1)) (List.take (Int.toNat ((gI (ar g p g.2.length) (v:Int)).length)) (gI (ar g p g.2.length) (v:Int)))) (j:Int)).2).1)))) (bi (((gI (gI (ar g p g.2.length) (v:Int)) (i:Int)).2).2) (((gI (List.drop (Int.toNat ((i:Int)+1)) (List.take (Int.toNat ((gI (ar g p g.2.length) (v:Int)).length)) (gI (ar g p g.2.length) (v:Int)))) (j:Int)).2).2)))) (lc (a:=(aq ((((gI (gI (ar g p g.2.length) (v:Int)) (i:Int)).1)*((gI (List.drop (Int.toNat ((i:Int)+1)) (List.take (Int.toNat ((gI (ar g p g.2.length) (v:Int)).length)) (gI (ar g p g.2.length) (v:Int)))) (j:Int)).1))+((((gI (gI (ar g p g.2.length) (v:Int)) (i:Int)).2).1)*(((gI (List.drop (Int.toNat ((i:Int)+1)) (List.take (Int.toNat ((gI (ar g p g.2.length) (v:Int)).length)) (gI (ar g p g.2.length) (v:Int)))) (j:Int)).2).1))))) (b:=(bi (((gI (gI (ar g p g.2.length) (v:Int)) (i:Int)).2).2) (((gI (List.drop (Int.toNat ((i:Int)+1)) (List.take (Int.toNat ((gI (ar g p g.2.length) (v:Int)).length)) (gI (ar g p g.2.length) (v:Int)))) (j:Int)).2).2))) rfl rfl (jA ‹_› (by exact(fo hwa hwb).1) (by exact(fo hwa hwb).2)).1) ?_
     have nn56:fE (aO (aq ((((gI (gI (ar g p g.2.length) (v:Int)) (i:Int)).1)*((gI (List.drop (Int.toNat ((i:Int)+1)) (List.take (Int.toNat ((gI (ar g p g.2.length) (v:Int)).length)) (gI (ar g p g.2.length) (v:Int)))) (j:Int)).1))+((((gI (gI (ar g p g.2.length) (v:Int)) (i:Int)).2).1)*(((gI (List.drop (Int.toNat ((i:Int)+1)) (List.take (Int.toNat ((gI (ar g p g.2.length) (v:Int)).length)) (gI (ar g p g.2.length) (v:Int)))) (j:Int)).2).1)))) (bi (((gI (gI (ar g p g.2.length) (v:Int)) (i:Int)).2).2) (((gI (List.drop (Int.toNat ((i:Int)+1)) (List.take (Int.toNat ((gI (ar g p g.2.length) (v:Int)).length)) (gI (ar g p g.2.length) (v:Int)))) (j:Int)).2).2))):=(jA (x:=(aq ((((gI (gI (ar g p g.2.length) (v:Int)) (i:Int)).1)*((gI (List.drop (Int.toNat ((i:Int)+1)) (List.take (Int.toNat ((gI (ar g p g.2.length) (v:Int)).length)) (gI (ar g p g.2.length) (v:Int)))) (j:Int)).1))+((((gI (gI (ar g p g.2.length) (v:Int)) (i:Int)).2).1)*(((gI (List.drop (Int.toNat ((i:Int)+1)) (List.take (Int.toNat ((gI (ar g p g.2.length) (v:Int)).length)) (gI (ar g p g.2.length) (v:Int)))) (j:Int)).2).1))))) (y:=(bi (((gI (gI (ar g p g.2.length) (v:Int)) (i:Int)).2).2) (((gI (List.drop (Int.toNat ((i:Int)+1)) (List.take (Int.toNat ((gI (ar g p g.2.length) (v:Int)).length)) (gI (ar g p g.2.length) (v:Int)))) (j:Int)).2).2))) ‹_› (by exact(fo hwa hwb).1) (by exact(fo hwa hwb).2)).2
     refine lw (Value.float .f64 (eO m2 (aO (aq ((((gI (gI (ar g p g.2.length) (v:Int)) (i:Int)).1)*((gI (List.drop (Int.toNat ((i:Int)+1)) (List.take (Int.toNat ((gI (ar g p g.2.length) (v:Int)).length)) (gI (ar g p g.2.length) (v:Int)))) (j:Int)).1))+((((gI (gI (ar g p g.2.length) (v:Int)) (i:Int)).2).1)*(((gI (List.drop (Int.toNat ((i:Int)+1)) (List.take (Int.toNat ((gI (ar g p g.2.length) (v:Int)).length)) (gI (ar g p g.2.length) (v:Int)))) (j:Int)).2).1)))) (bi (((gI (gI (ar g p g.2.length) (v:Int)) (i:Int)).2).2) (((gI (List.drop (Int.toNat ((i:Int)+1)) (List.take (Int.toNat ((gI (ar g p g.2.length) (v:Int)).length)) (gI (ar g p g.2.length) (v:Int)))) (j:Int)).2).2))))) (pm (a:=m2) (b:=(aO (aq ((((gI (gI (ar g p g.2.length) (v:Int)) (i:Int)).1)*((gI (List.drop (Int.toNat ((i:Int)+1)) (List.take (Int.toNat ((gI (ar g p g.2.length) (v:Int)).length)) (gI (ar g p g.2.length) (v:Int)))) (j:Int)).1))+((((gI (gI (ar g p g.2.length) (v:Int)) (i:Int)).2).1)*(((gI (List.drop (Int.toNat ((i:Int)+1)) (List.take (Int.toNat ((gI (ar g p g.2.length) (v:Int)).length)) (gI (ar g p g.2.length) (v:Int)))) (j:Int)).2).1)))) (bi (((gI (gI (ar g p g.2.length) (v:Int)) (i:Int)).2).2) (((gI (List.drop (Int.toNat ((i:Int)+1)) (List.take (Int.toNat ((gI (ar g p g.2.length) (v:Int)).length)) (gI (ar g p g.2.length) (v:Int)))) (j:Int)).2).2)))) rfl rfl ‹_› ‹_›) ?_
     have nn57:fE (eO m2 (aO (aq ((((gI (gI (ar g p g.2.length) (v:Int)) (i:Int)).1)*((gI (List.drop (Int.toNat ((i:Int)+1)) (List.take (Int.toNat ((gI (ar g p g.2.length) (v:Int)).length)) (gI (ar g p g.2.length) (v:Int)))) (j:Int)).1))+((((gI (gI (ar g p g.2.length) (v:Int)) (i:Int)).2).1)*(((gI (List.drop (Int.toNat ((i:Int)+1)) (List.take (Int.toNat ((gI (ar g p g.2.length) (v:Int)).length)) (gI (ar g p g.2.length) (v:Int)))) (j:Int)).2).1)))) (bi (((gI (gI (ar g p g.2.length) (v:Int)) (i:Int)).2).2) (((gI (List.drop (Int.toNat ((i:Int)+1)) (List.take (Int.toNat ((gI (ar g p g.2.length) (v:Int)).length)) (gI (ar g p g.2.length) (v:Int)))) (j:Int)).2).2)))):=j9 ‹_› ‹_›
     refine ma (Value.float .f64 (eO m2 (aO (aq ((((gI (gI (ar g p g.2.length) (v:Int)) (i:Int)).1)*((gI (List.drop (Int.toNat ((i:Int)+1)) (List.take (Int.toNat ((gI (ar g p g.2.length) (v:Int)).length)) (gI (ar g p g.2.length) (v:Int)))) (j:Int)).1))+((((gI (gI (ar g p g.2.length) (v:Int)) (i:Int)).2).1)*(((gI (List.drop (Int.toNat ((i:Int)+1)) (List.take (Int.toNat ((gI (ar g p g.2.length) (v:Int)).length)) (gI (ar g p g.2.length) (v:Int)))) (j:Int)).2).1)))) (bi (((gI (gI (ar g p g.2.length) (v:Int)) (i:Int)).2).2) (((gI (List.drop (Int.toNat ((i:Int)+1)) (List.take (Int.toNat ((gI (ar g p g.2.length) (v:Int)).length)) (gI (ar g p g.2.length) (v:Int)))) (j:Int)).2).2))))) (ab (ap ?_))
     clear bx53
     refine a7 rfl (lx (ba (m:=↑j) (n:=1) zs40 rfl (by omega)) (mi ((j:Int)+1) (ab ?_)))
     replace bH:=bH.cn ch47
     refine back12 (eO m2 (aO (aq ((((gI (gI (ar g p g.2.length) (v:Int)) (i:Int)).1)*((gI (List.drop (Int.toNat ((i:Int)+1)) (List.take (Int.toNat ((gI (ar g p g.2.length) (v:Int)).length)) (gI (ar g p g.2.length) (v:Int)))) (j:Int)).1))+((((gI (gI (ar g p g.2.length) (v:Int)) (i:Int)).2).1)*(((gI (List.drop (Int.toNat ((i:Int)+1)) (List.take (Int.toNat ((gI (ar g p g.2.length) (v:Int)).length)) (gI (ar g p g.2.length) (v:Int)))) (j:Int)).2).1)))) (bi (((gI (gI (ar g p g.2.length) (v:Int)) (i:Int)).2).2) (((gI (List.drop (Int.toNat ((i:Int)+1)) (List.take (Int.toNat ((gI (ar g p g.2.length) (v:Int)).length)) (gI (ar g p g.2.length) (v:Int)))) (j:Int)).2).2))),j+1,g49) _ _ ⟨bH.ce ch52,rfl,zs9,zs11,zs22,zs23,zs24,zs28,zs29,zs30,zs38,zs39,rfl,(Rg.cn ch47).ce ch52,(Rp.cn ch47).ce ch52,(r_p_v1.cn ch47).ce ch52,(o17.cn ch47).ce ch52,(r27.cn ch47).chg ch52 (iw rfl) (iw rfl),bx39,(r41.cn ch47).ce ch52,by omega,?_⟩ ?_
     · show(eO m2 (aO (aq ((((gI (gI (ar g p g.2.length) (v:Int)) (i:Int)).1)*((gI (List.drop (Int.toNat ((i:Int)+1)) (List.take (Int.toNat ((gI (ar g p g.2.length) (v:Int)).length)) (gI (ar g p g.2.length) (v:Int)))) (j:Int)).1))+((((gI (gI (ar g p g.2.length) (v:Int)) (i:Int)).2).1)*(((gI (List.drop (Int.toNat ((i:Int)+1)) (List.take (Int.toNat ((gI (ar g p g.2.length) (v:Int)).length)) (gI (ar g p g.2.length) (v:Int)))) (j:Int)).2).1)))) (bi (((gI (gI (ar g p g.2.length) (v:Int)) (i:Int)).2).2) (((gI (List.drop (Int.toNat ((i:Int)+1)) (List.take (Int.toNat ((gI (ar g p g.2.length) (v:Int)).length)) (gI (ar g p g.2.length) (v:Int)))) (j:Int)).2).2))))=jJ (i0 (eB (ar g p g.2.length) v) (gI (ar g p g.2.length) (v:Int)) i) (gI (gI (ar g p g.2.length) (v:Int)) (i:Int)) (gB (gI (ar g p g.2.length) (v:Int)) i) (j+1)/\fE (eO m2 (aO (aq ((((gI (gI (ar g p g.2.length) (v:Int)) (i:Int)).1)*((gI (List.drop (Int.toNat ((i:Int)+1)) (List.take (Int.toNat ((gI (ar g p g.2.length) (v:Int)).length)) (gI (ar g p g.2.length) (v:Int)))) (j:Int)).1))+((((gI (gI (ar g p g.2.length) (v:Int)) (i:Int)).2).1)*(((gI (List.drop (Int.toNat ((i:Int)+1)) (List.take (Int.toNat ((gI (ar g p g.2.length) (v:Int)).length)) (gI (ar g p g.2.length) (v:Int)))) (j:Int)).2).1)))) (bi (((gI (gI (ar g p g.2.length) (v:Int)) (i:Int)).2).2) (((gI (List.drop (Int.toNat ((i:Int)+1)) (List.take (Int.toNat ((gI (ar g p g.2.length) (v:Int)).length)) (gI (ar g p g.2.length) (v:Int)))) (j:Int)).2).2))))
       (exact⟨by rw[h2.1];rfl,by assumption⟩)
     · show Int.toNat (((List.length (List.drop (Int.toNat ((i:Int)+1)) (List.take (Int.toNat ((gI (ar g p g.2.length) (v:Int)).length)) (gI (ar g p g.2.length) (v:Int)))):Int):Int)-((j+1):Int))<Int.toNat (((List.length (List.drop (Int.toNat ((i:Int)+1)) (List.take (Int.toNat ((gI (ar g p g.2.length) (v:Int)).length)) (gI (ar g p g.2.length) (v:Int)))):Int):Int)-(j:Int))
       omega
    refine ah rfl (df p12) (aQ rfl (ap ?_))
    clear bx39 r41
    refine a7 rfl (lx (ba (m:=↑i) (n:=1) zs30 rfl (by omega)) (mi ((i:Int)+1) (ab ?_)))
    refine back9 (m2,i+1,g45) _ _ ⟨bH,zs7,zs9,zs22,zs23,zs24,zs28,zs29,rfl,Rg,Rp,r_p_v1,o17,r27,by omega,?_⟩ ?_
    · show m2=i0 (eB (ar g p g.2.length) v) (gI (ar g p g.2.length) (v:Int)) (i+1)/\fE m2
      (refine⟨?_,h2.2⟩;show _=jJ (i0 (eB (ar g p g.2.length) v) (gI (ar g p g.2.length) (v:Int)) i) (gI (gI (ar g p g.2.length) (v:Int)) (i:Int)) (gB (gI (ar g p g.2.length) (v:Int)) i) (gB (gI (ar g p g.2.length) (v:Int)) i).length;rw[h2.1,show j=(gB (gI (ar g p g.2.length) (v:Int)) i).length by unfold gB;omega])
    · show Int.toNat (((List.length (gI (ar g p g.2.length) (v:Int)):Int):Int)-((i+1):Int))<Int.toNat (((List.length (gI (ar g p g.2.length) (v:Int)):Int):Int)-(i:Int))
      omega
   refine ah rfl (df p9) (aQ rfl (ap ?_))
   clear r27
   refine a7 rfl (lx (ba (m:=↑v) (n:=1) zs24 rfl (by omega)) (mi ((v:Int)+1) (ab ?_)))
   refine back6 (m1,v+1,g31) _ _ ⟨bH,zs7,zs22,zs23,rfl,Rg,Rp,r_p_v1,o17,by omega,?_⟩ ?_
   · show m1=eB (ar g p g.2.length) (v+1)/\fE m1
     (refine⟨?_,h1.2⟩;show _=i0 (eB (ar g p g.2.length) v) (gI (ar g p g.2.length) (v:Int)) ((gI (ar g p g.2.length) (v:Int))).length;rw[h1.1,show i=((gI (ar g p g.2.length) (v:Int))).length by omega])
   · show Int.toNat (((List.length (ar g p g.2.length):Int):Int)-((v+1):Int))<Int.toNat (((List.length (ar g p g.2.length):Int):Int)-(v:Int))
     omega
  refine ah rfl (df p6) (aQ rfl (a8 ?_))
  clear o17
  refine a7 rfl (mz zs7 (ma (Value.float .f64 m0) (ai 0 (ab (aw (vs:=[Value.float .f64 m0,vi 0]) Try.func17 (.tmp rfl (.tmp rfl .nil)) ?_)))))
  have e0:(m0:Nat)=((bz g p).1):=by
    (rw[go hf0,h0.1];show eB _ _=eB _ _;congr 1;omega)
  have e1:(0:Int)=((bz g p).2):=by
    rw[go hf0]
  exact⟨(bR (a:=m0) (b:=0) (λ(z0:Nat) (z1:Int)=>Ending.returned (vt [Value.float .f64 z0,vi z1])) e0 e1),bH.below⟩
 refine ag rfl (congrArg Bool.not (df p2)) (a8 ?_)
 clear bx5 bx10
 refine a7 rfl (mi (aY g p) (ma (Value.float .f64 0) (ai (aY g p) (ab (aw (vs:=[Value.float .f64 0,vi (aY g p)]) Try.func17 (.tmp rfl (.tmp rfl .nil)) ?_)))))
 have e0:(0:Nat)=((bz g p).1):=by
   rw[iW p2]
 have e1:(aY g p:Int)=((bz g p).2):=by
   rw[iW p2]
 have C58:=cg [] (ch2.n.seq (ch7.n.seq hb12.n))
 replace bH:=bH.ca C58
 exact⟨(bR (a:=0) (b:=aY g p) (λ(z0:Nat) (z1:Int)=>Ending.returned (vt [Value.float .f64 z0,vi z1])) e0 e1),bH.below⟩
end TL
