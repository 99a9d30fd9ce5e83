import Derived.Test.YtkhfimgjcdeejaaTlP3
import Derived.Test.YtkhfimgjcdeejaaTlGmA
import Derived.Test.YtkhfimgjcdeejaaTlGmM
import Derived.Test.YtkhfimgjcdeejaaTlGenA
import Derived.Test.YtkhfimgjcdeejaaTlGdA
import Derived.Test.YtkhfimgjcdeejaaTlGjC
import Derived.Test.YtkhfimgjcdeejaaTlMmA
import Derived.Test.YtkhfimgjcdeejaaTlMmB
import Derived.Test.YtkhfimgjcdeejaaTlMmW
import Derived.Test.YtkhfimgjcdeejaaProg
import Derived.Test.YtkhfimgjcdeejaaTlAli
set_option linter.all false
set_option maxRecDepth 20000
namespace TL
open Go Go.Proofs
theorem sU:Try.f33.body.isNone=false:=rfl
theorem uE:(Try.f33.name== "runtime.NumGoroutine")=false:=by decide+kernel
set_option maxHeartbeats 4000000 in
theorem fj(w0:World)(g:(Int)×(List Pt))(g_v:Value)(hg_v:Ro w0 g_v g.2)(p:(List Pt)×(List (List Pt)))(p_v p_v1:Value)(hp_v:Ro w0 p_v p.1)(hp_v1:Ro w0 p_v1 p.2):
    Calls Try.prog 17 #[vg [vi g.1,g_v],vg [p_v,p_v1]] w0 (λee w=>ee= .returned (vt [Value.float .f64 ((aV g p).1),vi ((aV g p).2)])/\cW w0.heap.size w0 w):=by
 refine aI Try.func17 rfl nq ?_
 have bH:=bo.start w0
 have Rg:=hg_v.sl
 have Rp:=hp_v.sl
 have r_p_v1:=hp_v1.sl
 refine a6 (a5 rfl (cj rfl (bA c0 (is 1) (1,0) rfl rfl ?_)))
 intro g4 w1 b3 ch2 bx5
 replace bx5:Bx g4 (is 1) w1 b3 [vi g.1,g_v]:=bx5
 refine lo (bA g4 (is 2) (2,0) rfl rfl ?_)
 intro g9 w6 b8 ch7 bx10
 replace bx10:Bx g9 (is 2) w6 b8 [p_v,p_v1]:=bx10
 refine ma (Value.float .f64 0) (ai 0 (a8 (a6 (a6 (a5 rfl ?_)))))
 replace bx5:=bx5.cn ch7
 refine lx (ad (ds:=[vi g.1,g_v]) bO rfl bx5 rfl rfl) (lx (ad (ds:=[p_v,p_v1]) bJ rfl bx10 rfl rfl) ?_)
 replace Rg:=(Rg.cn ch2).cn ch7
 replace Rp:=(Rp.cn ch2).cn ch7
 replace r_p_v1:=(r_p_v1.cn ch2).cn ch7
 refine lo (aN (v:=vi (bl g p)) (az (vals:=[vg [vi g.1,g_v],vg [p_v,p_v1]]) Try.func22 jU jS rfl) (i5 w6 g g_v (Rg).ro p p_v p_v1 (Rp).ro (r_p_v1).ro) ?_)
 intro w11 hb12
 replace hb12:=aj hb12 g9
 refine ai (bl g p) (a8 (a6 (a5 rfl (mi (bl g p) (lx (dz (m:=bl g p) (n:=0) rfl rfl) (a8 ?_))))))
 by_cases p2:(bl g p)=0
 ·
  have hf0:bl g p=0:=p2
  obtain⟨hm,hs,hlp⟩:=ey hf0
  have hs2:=hs.m
  have hm0:=hm
  obtain⟨hm1,hm2,hm3,hm4⟩:=hm0
  have hwo:=nN hs g.2.length (by omega)
  refine af rfl (congrArg Bool.not (dt p2)) (am (a6 (a5 rfl (ma (Value.float .f64 13830554455654793216) (a8 (a6 (a6 (a5 rfl ?_))))))))
  replace bx5:=bx5.cn hb12
  refine lx (ad (ds:=[vi g.1,g_v]) bO rfl bx5 rfl rfl) ?_
  replace bx10:=bx10.cn hb12
  refine lx (ad (ds:=[p_v,p_v1]) bJ rfl bx10 rfl rfl) ?_
  replace Rg:=Rg.cn hb12
  replace Rp:=Rp.cn hb12
  replace r_p_v1:=r_p_v1.cn hb12
  refine lo (d5 (az (vals:=[vg [vi g.1,g_v],vg [p_v,p_v1]]) Try.func33 sU uE rfl) (tz w11 g g_v (Rg).ro p p_v p_v1 (Rp).ro (r_p_v1).ro ‹_› ‹_›) ?_)
  rintro⟨d14,v16⟩ w13 ⟨fr15,o17⟩
  obtain⟨g18,ch19,G18⟩:=ny g9 fr15 (λn=>if n=1 then 3 else 0)
  replace o17:=o17.gl G18 3
  have len20:=(o17.sl).small
  refine lx (bE fv rfl o17.sl) (mi 0 (a8 (ao ?_)))
  clear bx5 bx10
  refine bf (σ:=Fb×Nat×aW) (λ⟨m0,v,gq⟩ f w=>bo w0 gq w/\f 7=Value.float .f64 m0/\f 22=v16/\f 23=vi (List.length (aE g p g.2.length):Int)/\f 24=vi ↑v/\Sl gq (is 0) w g_v g.2/\Sl gq (is 0) w p_v p.1/\Sl gq (is 0) w p_v1 p.2/\eb gq 3 w v16 (aE g p g.2.length)/\(v:Int)<=((List.length (aE g p g.2.length):Int):Int)/\(m0=jo (aE g p g.2.length) v/\jG m0)) (λ⟨m0,v,gq⟩=>Int.toNat (((List.length (aE g p g.2.length):Int):Int)-(v:Int))) (13830554455654793216,0,g18) ?_ ?_
  have C21:=cg [] (ch2.n.seq (ch7.n.seq (hb12.n.seq ch19.n)))
  · exact⟨bH.ca C21,rfl,rfl,rfl,rfl,Rg.cn ch19,Rp.cn ch19,r_p_v1.cn ch19,o17,by omega,by exact⟨rfl,wt⟩⟩
  clear Rg Rp r_p_v1 o17 bH
  rintro⟨m0,v,g24⟩ f22 w23 ⟨bH,zs7,zs22,zs23,zs24,Rg,Rp,r_p_v1,o17,hle_v,h0⟩ back6
  refine a6 (a5 rfl (lx (b6 (m:=↑v) (n:=(List.length (aE g p g.2.length):Int)) zs24 zs23) (a8 (a6 ?_))))
  by_cases p6:(v:Int)<(List.length (aE g p g.2.length):Int)
  ·
   refine ae rfl (dt p6) (am (a6 (ao (a6 (a5 rfl (lx (ab (v:=v16) (i:=↑v) fv rfl zs22 o17.sl zs24 (by omega) (by omega)) ?_))))))
   obtain⟨v25,cel26,r27⟩:=bW (r:=(v:Int)) o17 (by omega) (by omega)
   refine lx (aZ bm rfl cel26) (ma v25 (a8 (a6 (a5 rfl (mv v25 ?_)))))
   have len28:=(r27.row_sl).small
   refine lx (bE dQ rfl r27.row_sl) (mi 0 (a8 (ao ?_)))
   refine bf (σ:=Fb×Nat×aW) (λ⟨m1,i,gq⟩ f w=>bo w0 gq w/\f 7=Value.float .f64 m1/\f 9=v25/\f 22=v16/\f 23=vi (List.length (aE g p g.2.length):Int)/\f 24=vi ↑v/\f 28=v25/\f 29=vi (List.length (gI (aE g p g.2.length) (v:Int)):Int)/\f 30=vi ↑i/\Sl gq (is 0) w g_v g.2/\Sl gq (is 0) w p_v p.1/\Sl gq (is 0) w p_v1 p.2/\eb gq 3 w v16 (aE g p g.2.length)/\Ow gq (cB 3 (Int.toNat ↑v+1)) (cB 3 (Int.toNat ↑v+1)) w v25 (gI (aE g p g.2.length) (v:Int))/\(i:Int)<=((List.length (gI (aE g p g.2.length) (v:Int)):Int):Int)/\(m1=nB (jo (aE g p g.2.length) v) (gI (aE g p g.2.length) (v:Int)) i/\jG m1)) (λ⟨m1,i,gq⟩=>Int.toNat (((List.length (gI (aE g p g.2.length) (v:Int)):Int):Int)-(i:Int))) (m0,0,g24) ?_ ?_
   · exact⟨bH,zs7,rfl,zs22,zs23,zs24,rfl,rfl,rfl,Rg,Rp,r_p_v1,o17,r27,by omega,by exact⟨h0.1,h0.2⟩⟩
   clear Rg Rp r_p_v1 o17 cel26 r27 bH
   rintro⟨m1,i,g31⟩ f29 w30 ⟨bH,zs7,zs9,zs22,zs23,zs24,zs28,zs29,zs30,Rg,Rp,r_p_v1,o17,r27,hle_i,h1⟩ back9
   refine a6 (a5 rfl (lx (b6 (m:=↑i) (n:=(List.length (gI (aE g p g.2.length) (v:Int)):Int)) zs30 zs29) (a8 (a6 ?_))))
   by_cases p9:(i:Int)<(List.length (gI (aE g p g.2.length) (v:Int)):Int)
   ·
    refine ae rfl (dt p9) ?_
    have hwa:sG (gI (gI (aE g p g.2.length) (v:Int)) (i:Int)):=hwo _ _ (ba (by omega) ‹_›)
    refine am (a6 (ao (a6 (a5 rfl (mz zs30 (lx (ab (v:=v25) (i:=↑i) dQ rfl zs28 r27.row_sl zs30 (by omega) (by omega)) (lw (vg [vi ((gI (gI (aE g p g.2.length) (v:Int)) (i:Int)).1),vi (((gI (gI (aE g p g.2.length) (v:Int)) (i:Int)).2).1),Value.float .f64 (((gI (gI (aE g p g.2.length) (v:Int)) (i:Int)).2).2)]) (aM (v:=v25) (i:=↑i) bk rfl r27.row_sl (by omega) (by omega) rfl) (lo (bB g31 (is 4) (4,0) rfl bk ?_)))))))))
    intro g35 w32 b34 ch33 bx36
    replace bx36:Bx g35 (is 4) w32 b34 [vi 0,vi 0,Value.float .f64 0]:=bx36
    refine ai (i:Int) (lo (au (cs':=[vi ((gI (gI (aE g p g.2.length) (v:Int)) (i:Int)).1),vi (((gI (gI (aE g p g.2.length) (v:Int)) (i:Int)).2).1),Value.float .f64 (((gI (gI (aE g p g.2.length) (v:Int)) (i:Int)).2).2)]) bk rfl rfl bx36 rfl nq (AllOne.all (.cons rfl (.cons rfl (.cons rfl .nil)))) rfl ?_))
    intro w37 ch38 bx39
    clear bx36
    refine a8 (a6 (a5 rfl (mz zs9 (mi ↑i (lx (aQ (m:=↑i) (n:=1) rfl rfl (by omega)) ?_)))))
    replace r27:=(r27.cn ch33).chg ch38 (ks rfl) (ks rfl)
    refine lw ((kb v25 3 (Int.toNat ((i:Int)+1)) (Int.toNat ((gI (aE g p g.2.length) (v:Int)).length)))) (uO (v:=v25) (l:=(i:Int)+1) (h:=(gI (aE g p g.2.length) (v:Int)).length) dQ rfl rfl r27.row_sl (.inl (congrArg some rfl)) (.inr ⟨rfl,rfl⟩) (by omega) (by omega) (by omega)) ?_
    have r41:=vF r27.row_sl (show Int.toNat ((i:Int)+1)<=Int.toNat ((gI (aE g p g.2.length) (v:Int)).length) by omega) (show Int.toNat ((gI (aE g p g.2.length) (v:Int)).length)<=List.length _ by omega)
    replace r41:=r41
    have len42:=(r41).small
    refine lx (bE dQ rfl r41) (mi 0 (a8 (ao ?_)))
    refine bf (σ:=Fb×Nat×aW) (λ⟨m2,j,gq⟩ f w=>bo w0 gq w/\f 7=Value.float .f64 m2/\f 9=v25/\f 11=vp b34 0/\f 22=v16/\f 23=vi (List.length (aE g p g.2.length):Int)/\f 24=vi ↑v/\f 28=v25/\f 29=vi (List.length (gI (aE g p g.2.length) (v:Int)):Int)/\f 30=vi ↑i/\f 38=(kb v25 3 (Int.toNat ((i:Int)+1)) (Int.toNat ((gI (aE g p g.2.length) (v:Int)).length)))/\f 39=vi (List.length (List.drop (Int.toNat ((i:Int)+1)) (List.take (Int.toNat ((gI (aE g p g.2.length) (v:Int)).length)) (gI (aE g p g.2.length) (v:Int)))):Int)/\f 40=vi ↑j/\Sl gq (is 0) w g_v g.2/\Sl gq (is 0) w p_v p.1/\Sl gq (is 0) w p_v1 p.2/\eb gq 3 w v16 (aE g p g.2.length)/\Ow gq (cB 3 (Int.toNat ↑v+1)) (cB 3 (Int.toNat ↑v+1)) w v25 (gI (aE g p g.2.length) (v:Int))/\Bx gq (is 4) w b34 [vi ((gI (gI (aE g p g.2.length) (v:Int)) (i:Int)).1),vi (((gI (gI (aE g p g.2.length) (v:Int)) (i:Int)).2).1),Value.float .f64 (((gI (gI (aE g p g.2.length) (v:Int)) (i:Int)).2).2)]/\Sl gq (is 3) w (kb v25 3 (Int.toNat ((i:Int)+1)) (Int.toNat ((gI (aE g p g.2.length) (v:Int)).length))) (List.drop (Int.toNat ((i:Int)+1)) (List.take (Int.toNat ((gI (aE g p g.2.length) (v:Int)).length)) (gI (aE g p g.2.length) (v:Int))))/\(j:Int)<=((List.length (List.drop (Int.toNat ((i:Int)+1)) (List.take (Int.toNat ((gI (aE g p g.2.length) (v:Int)).length)) (gI (aE g p g.2.length) (v:Int)))):Int):Int)/\(m2=r6 (nB (jo (aE g p g.2.length) v) (gI (aE g p g.2.length) (v:Int)) i) (gI (gI (aE g p g.2.length) (v:Int)) (i:Int)) (kR (gI (aE g p g.2.length) (v:Int)) i) j/\jG m2)) (λ⟨m2,j,gq⟩=>Int.toNat (((List.length (List.drop (Int.toNat ((i:Int)+1)) (List.take (Int.toNat ((gI (aE g p g.2.length) (v:Int)).length)) (gI (aE g p g.2.length) (v:Int)))):Int):Int)-(j:Int))) (m1,0,g35) ?_ ?_
    replace bH:=bH.cn ch33
    · exact⟨bH.ce ch38,zs7,zs9,rfl,zs22,zs23,zs24,zs28,zs29,zs30,rfl,rfl,rfl,(Rg.cn ch33).ce ch38,(Rp.cn ch33).ce ch38,(r_p_v1.cn ch33).ce ch38,(o17.cn ch33).ce ch38,r27,bx39,r41,by omega,by exact⟨h1.1,h1.2⟩⟩
    clear Rg Rp r_p_v1 o17 r27 bx39 r41 bH
    rintro⟨m2,j,g45⟩ f43 w44 ⟨bH,zs7,zs9,zs11,zs22,zs23,zs24,zs28,zs29,zs30,zs38,zs39,zs40,Rg,Rp,r_p_v1,o17,r27,bx39,r41,hle_j,h2⟩ back12
    refine a6 (a5 rfl (lx (b6 (m:=↑j) (n:=(List.length (List.drop (Int.toNat ((i:Int)+1)) (List.take (Int.toNat ((gI (aE g p g.2.length) (v:Int)).length)) (gI (aE g p g.2.length) (v:Int)))):Int)) zs40 zs39) (a8 (a6 ?_))))
    by_cases p12:(j:Int)<(List.length (List.drop (Int.toNat ((i:Int)+1)) (List.take (Int.toNat ((gI (aE g p g.2.length) (v:Int)).length)) (gI (aE g p g.2.length) (v:Int)))):Int)
    ·
     refine ae rfl (dt p12) ?_
     have hwb:sG (gI (kR (gI (aE g p g.2.length) (v:Int)) i) (j:Int)):=hwo _ _ (List.mem_of_mem_take (List.mem_of_mem_drop (ba (by omega) ‹_›)))
     have qa:=hwa
     have qb:=hwb
     obtain⟨⟨xa1,xa2⟩,⟨ya1,ya2⟩,_,_⟩:=qa
     obtain⟨⟨xb1,xb2⟩,⟨yb1,yb2⟩,_,_⟩:=qb
     have pb1:=uU xa1 xa2 xb1 xb2
     have pb2:=uU ya1 ya2 yb1 yb2
     unfold kR at pb1 pb2 hwb
     have hm2n:=h2.2
     refine am (a6 (ao (a6 (a5 rfl (lx (ab (v:=(kb v25 3 (Int.toNat ((i:Int)+1)) (Int.toNat ((gI (aE g p g.2.length) (v:Int)).length)))) (i:=↑j) dQ rfl zs38 r41 zs40 (by omega) (by omega)) ?_)))))
     refine lw (vg [vi ((gI (List.drop (Int.toNat ((i:Int)+1)) (List.take (Int.toNat ((gI (aE g p g.2.length) (v:Int)).length)) (gI (aE g p g.2.length) (v:Int)))) (j:Int)).1),vi (((gI (List.drop (Int.toNat ((i:Int)+1)) (List.take (Int.toNat ((gI (aE g p g.2.length) (v:Int)).length)) (gI (aE g p g.2.length) (v:Int)))) (j:Int)).2).1),Value.float .f64 (((gI (List.drop (Int.toNat ((i:Int)+1)) (List.take (Int.toNat ((gI (aE g p g.2.length) (v:Int)).length)) (gI (aE g p g.2.length) (v:Int)))) (j:Int)).2).2)]) (aM (v:=(kb v25 3 (Int.toNat ((i:Int)+1)) (Int.toNat ((gI (aE g p g.2.length) (v:Int)).length)))) (i:=↑j) bk rfl r41 (by omega) (by omega) rfl) (lo (bB g45 (is 5) (5,0) rfl bk ?_))
     intro g49 w46 b48 ch47 bx50
     replace bx50:Bx g49 (is 5) w46 b48 [vi 0,vi 0,Value.float .f64 0]:=bx50
     refine lo (au (cs':=[vi ((gI (List.drop (Int.toNat ((i:Int)+1)) (List.take (Int.toNat ((gI (aE g p g.2.length) (v:Int)).length)) (gI (aE g p g.2.length) (v:Int)))) (j:Int)).1),vi (((gI (List.drop (Int.toNat ((i:Int)+1)) (List.take (Int.toNat ((gI (aE g p g.2.length) (v:Int)).length)) (gI (aE g p g.2.length) (v:Int)))) (j:Int)).2).1),Value.float .f64 (((gI (List.drop (Int.toNat ((i:Int)+1)) (List.take (Int.toNat ((gI (aE g p g.2.length) (v:Int)).length)) (gI (aE g p g.2.length) (v:Int)))) (j:Int)).2).2)]) bk rfl rfl bx50 rfl nq (AllOne.all (.cons rfl (.cons rfl (.cons rfl .nil)))) rfl ?_)
     intro w51 ch52 bx53
     clear bx50
     refine a8 (a5 rfl (mz zs7 (lx (a7 wz rfl rfl zs11 rfl) ?_)))
     replace bx39:=(bx39.cn ch47).ce ch52
     refine lx (a9 aG rfl bx39 rfl) (lx (a7 wz rfl rfl rfl rfl) (lx (a9 aG rfl bx53 rfl) (lx (fV (m:=(gI (gI (aE g p g.2.length) (v:Int)) (i:Int)).1) (n:=(gI (List.drop (Int.toNat ((i:Int)+1)) (List.take (Int.toNat ((gI (aE g p g.2.length) (v:Int)).length)) (gI (aE g p g.2.length) (v:Int)))) (j:Int)).1) rfl rfl (by omega)) (lx (a7 wz rfl rfl zs11 rfl) (lx (a9 aG rfl bx39 rfl) (lx (a7 wz rfl rfl rfl rfl) (lx (a9 aG rfl bx53 rfl) (lx (fV (m:=((gI (gI (aE g p g.2.length) (v:Int)) (i:Int)).2).1) (n:=((gI (List.drop (Int.toNat ((i:Int)+1)) (List.take (Int.toNat ((gI (aE g p g.2.length) (v:Int)).length)) (gI (aE g p g.2.length) (v:Int)))) (j:Int)).2).1) rfl rfl (by omega)) ?_))))))))
     refine lx (aQ (m:=((gI (gI (aE g p g.2.length) (v:Int)) (i:Int)).1)*((gI (List.drop (Int.toNat ((i:Int)+1)) (List.take (Int.toNat ((gI (aE g p g.2.length) (v:Int)).length)) (gI (aE g p g.2.length) (v:Int)))) (j:Int)).1)) (n:=(((gI (gI (aE g p g.2.length) (v:Int)) (i:Int)).2).1)*(((gI (List.drop (Int.toNat ((i:Int)+1)) (List.take (Int.toNat ((gI (aE g p g.2.length) (v:Int)).length)) (gI (aE g p g.2.length) (v:Int)))) (j:Int)).2).1)) rfl rfl (by omega)) ?_
     refine lw (Value.float .f64 (aF ((((gI (gI (aE g p g.2.length) (v:Int)) (i:Int)).1)*((gI (List.drop (Int.toNat ((i:Int)+1)) (List.take (Int.toNat ((gI (aE g p g.2.length) (v:Int)).length)) (gI (aE g p g.2.length) (v:Int)))) (j:Int)).1))+((((gI (gI (aE g p g.2.length) (v:Int)) (i:Int)).2).1)*(((gI (List.drop (Int.toNat ((i:Int)+1)) (List.take (Int.toNat ((gI (aE g p g.2.length) (v:Int)).length)) (gI (aE g p g.2.length) (v:Int)))) (j:Int)).2).1))))) (nm (m:=(((gI (gI (aE g p g.2.length) (v:Int)) (i:Int)).1)*((gI (List.drop (Int.toNat ((i:Int)+1)) (List.take (Int.toNat ((gI (aE g p g.2.length) (v:Int)).length)) (gI (aE g p g.2.length) (v:Int)))) (j:Int)).1))+((((gI (gI (aE g p g.2.length) (v:Int)) (i:Int)).2).1)*(((gI (List.drop (Int.toNat ((i:Int)+1)) (List.take (Int.toNat ((gI (aE g p g.2.length) (v:Int)).length)) (gI (aE g p g.2.length) (v:Int)))) (j:Int)).2).1))) U3 wV rfl) ?_
     have nn54:jG (aF ((((gI (gI (aE g p g.2.length) (v:Int)) (i:Int)).1)*((gI (List.drop (Int.toNat ((i:Int)+1)) (List.take (Int.toNat ((gI (aE g p g.2.length) (v:Int)).length)) (gI (aE g p g.2.length) (v:Int)))) (j:Int)).1))+((((gI (gI (aE g p g.2.length) (v:Int)) (i:Int)).2).1)*(((gI (List.drop (Int.toNat ((i:Int)+1)) (List.take (Int.toNat ((gI (aE g p g.2.length) (v:Int)).length)) (gI (aE g p g.2.length) (v:Int)))) (j:Int)).2).1)))):=rX _
     refine lx (a7 wz rfl rfl zs11 rfl) (lx (a9 aX rfl bx39 rfl) (lx (a7 wz rfl rfl rfl rfl) (lx (a9 aX rfl bx53 rfl) (lw (Value.float .f64 (dv (((gI (gI (aE g p g.2.length) (v:Int)) (i:Int)).2).2) (((gI (List.drop (Int.toNat ((i:Int)+1)) (List.take (Int.toNat ((gI (aE g p g.2.length) (v:Int)).length)) (gI (aE g p g.2.length) (v:Int)))) (j:Int)).2).2))) (sy (a:=(((gI (gI (aE g p g.2.length) (v:Int)) (i:Int)).2).2)) (b:=(((gI (List.drop (Int.toNat ((i:Int)+1)) (List.take (Int.toNat ((gI (aE g p g.2.length) (v:Int)).length)) (gI (aE g p g.2.length) (v:Int)))) (j:Int)).2).2)) rfl rfl (rl (by exact iY hwa) (by exact iY hwb)).1) ?_))))
     have nn55:dv (((gI (gI (aE g p g.2.length) (v:Int)) (i:Int)).2).2) (((gI (List.drop (Int.toNat ((i:Int)+1)) (List.take (Int.toNat ((gI (aE g p g.2.length) (v:Int)).length)) (gI (aE g p g.2.length) (v:Int)))) (j:Int)).2).2)<=br:=(rl (x:=(((gI (gI (aE g p g.2.length) (v:Int)) (i:Int)).2).2)) (y:=(((gI (List.drop (Int.toNat ((i:Int)+1)) (List.take (Int.toNat ((gI (aE g p g.2.length) (v:Int)).length)) (gI (aE g p g.2.length) (v:Int)))) (j:Int)).2).2)) (by exact iY hwa) (by exact iY hwb)).2
     refine lw (Value.float .f64 (bb (aF ((((gI (gI (aE g p g.2.length) (v:Int)) (i:Int)).1)*((gI (List.drop (Int.toNat ((i:Int)+1)) (List.take (Int.toNat ((gI (aE g p g.2.length) (v:Int)).length)) (gI (aE g p g.2.length) (v:Int)))) (j:Int)).1))+((((gI (gI (aE g p g.2.length) (v:Int)) (i:Int)).2).1)*(((gI (List.drop (Int.toNat ((i:Int)+1)) (List.take (Int.toNat ((gI (aE g p g.2.length) (v:Int)).length)) (gI (aE g p g.2.length) (v:Int)))) (j:Int)).2).1)))) (dv (((gI (gI (aE g p g.2.length) (v:Int)) (i:Int)).2).2) (((gI (List.drop (Int.toNat ((i:Int)+1)) (List.take (Int.toNat ((gI (aE g p g.2.length) (v:Int)).length)) (gI (aE g p g.2.length) (v:Int)))) (j:Int)).2).2)))) (oy (a:=(aF ((((gI (gI (aE g p g.2.length) (v:Int)) (i:Int)).1)*((gI (List.drop (Int.toNat ((i:Int)+1)) (List.take (Int.toNat ((gI (aE g p g.2.length) (v:Int)).length)) (gI (aE g p g.2.length) (v:Int)))) (j:Int)).1))+((((gI (gI (aE g p g.2.length) (v:Int)) (i:Int)).2).1)*(((gI (List.drop (Int.toNat ((i:Int)+1)) (List.take (Int.toNat ((gI (aE g p g.2.length) (v:Int)).length)) (gI (aE g p g.2.length) (v:Int)))) (j:Int)).2).1))))) (b:=(dv (((gI (gI (aE g p g.2.length) (v:Int)) (i:Int)).2).2) (((gI (List.drop (Int.toNat ((i:Int)+1)) (List.take (Int.toNat ((gI (aE g p g.2.length) (v:Int)).length)) (gI (aE g p g.2.length) (v:Int)))) (j:Int)).2).2))) rfl rfl (pf ‹_› (by exact(j7 hwa hwb).1) (by exact(j7 hwa hwb).2)).1) ?_
     have nn56:jG (bb (aF ((((gI (gI (aE g p g.2.length) (v:Int)) (i:Int)).1)*((gI (List.drop (Int.toNat ((i:Int)+1)) (List.take (Int.toNat ((gI (aE g p g.2.length) (v:Int)).length)) (gI (aE g p g.2.length) (v:Int)))) (j:Int)).1))+((((gI (gI (aE g p g.2.length) (v:Int)) (i:Int)).2).1)*(((gI (List.drop (Int.toNat ((i:Int)+1)) (List.take (Int.toNat ((gI (aE g p g.2.length) (v:Int)).length)) (gI (aE g p g.2.length) (v:Int)))) (j:Int)).2).1)))) (dv (((gI (gI (aE g p g.2.length) (v:Int)) (i:Int)).2).2) (((gI (List.drop (Int.toNat ((i:Int)+1)) (List.take (Int.toNat ((gI (aE g p g.2.length) (v:Int)).length)) (gI (aE g p g.2.length) (v:Int)))) (j:Int)).2).2))):=(pf (x:=(aF ((((gI (gI (aE g p g.2.length) (v:Int)) (i:Int)).1)*((gI (List.drop (Int.toNat ((i:Int)+1)) (List.take (Int.toNat ((gI (aE g p g.2.length) (v:Int)).length)) (gI (aE g p g.2.length) (v:Int)))) (j:Int)).1))+((((gI (gI (aE g p g.2.length) (v:Int)) (i:Int)).2).1)*(((gI (List.drop (Int.toNat ((i:Int)+1)) (List.take (Int.toNat ((gI (aE g p g.2.length) (v:Int)).length)) (gI (aE g p g.2.length) (v:Int)))) (j:Int)).2).1))))) (y:=(dv (((gI (gI (aE g p g.2.length) (v:Int)) (i:Int)).2).2) (((gI (List.drop (Int.toNat ((i:Int)+1)) (List.take (Int.toNat ((gI (aE g p g.2.length) (v:Int)).length)) (gI (aE g p g.2.length) (v:Int)))) (j:Int)).2).2))) ‹_› (by exact(j7 hwa hwb).1) (by exact(j7 hwa hwb).2)).2
     refine lw (Value.float .f64 (gr m2 (bb (aF ((((gI (gI (aE g p g.2.length) (v:Int)) (i:Int)).1)*((gI (List.drop (Int.toNat ((i:Int)+1)) (List.take (Int.toNat ((gI (aE g p g.2.length) (v:Int)).length)) (gI (aE g p g.2.length) (v:Int)))) (j:Int)).1))+((((gI (gI (aE g p g.2.length) (v:Int)) (i:Int)).2).1)*(((gI (List.drop (Int.toNat ((i:Int)+1)) (List.take (Int.toNat ((gI (aE g p g.2.length) (v:Int)).length)) (gI (aE g p g.2.length) (v:Int)))) (j:Int)).2).1)))) (dv (((gI (gI (aE g p g.2.length) (v:Int)) (i:Int)).2).2) (((gI (List.drop (Int.toNat ((i:Int)+1)) (List.take (Int.toNat ((gI (aE g p g.2.length) (v:Int)).length)) (gI (aE g p g.2.length) (v:Int)))) (j:Int)).2).2))))) (uR (a:=m2) (b:=(bb (aF ((((gI (gI (aE g p g.2.length) (v:Int)) (i:Int)).1)*((gI (List.drop (Int.toNat ((i:Int)+1)) (List.take (Int.toNat ((gI (aE g p g.2.length) (v:Int)).length)) (gI (aE g p g.2.length) (v:Int)))) (j:Int)).1))+((((gI (gI (aE g p g.2.length) (v:Int)) (i:Int)).2).1)*(((gI (List.drop (Int.toNat ((i:Int)+1)) (List.take (Int.toNat ((gI (aE g p g.2.length) (v:Int)).length)) (gI (aE g p g.2.length) (v:Int)))) (j:Int)).2).1)))) (dv (((gI (gI (aE g p g.2.length) (v:Int)) (i:Int)).2).2) (((gI (List.drop (Int.toNat ((i:Int)+1)) (List.take (Int.toNat ((gI (aE g p g.2.length) (v:Int)).length)) (gI (aE g p g.2.length) (v:Int)))) (j:Int)).2).2)))) rfl rfl ‹_› ‹_›) ?_
     have nn57:jG (gr m2 (bb (aF ((((gI (gI (aE g p g.2.length) (v:Int)) (i:Int)).1)*((gI (List.drop (Int.toNat ((i:Int)+1)) (List.take (Int.toNat ((gI (aE g p g.2.length) (v:Int)).length)) (gI (aE g p g.2.length) (v:Int)))) (j:Int)).1))+((((gI (gI (aE g p g.2.length) (v:Int)) (i:Int)).2).1)*(((gI (List.drop (Int.toNat ((i:Int)+1)) (List.take (Int.toNat ((gI (aE g p g.2.length) (v:Int)).length)) (gI (aE g p g.2.length) (v:Int)))) (j:Int)).2).1)))) (dv (((gI (gI (aE g p g.2.length) (v:Int)) (i:Int)).2).2) (((gI (List.drop (Int.toNat ((i:Int)+1)) (List.take (Int.toNat ((gI (aE g p g.2.length) (v:Int)).length)) (gI (aE g p g.2.length) (v:Int)))) (j:Int)).2).2)))):=qK ‹_› ‹_›
     refine ma (Value.float .f64 (gr m2 (bb (aF ((((gI (gI (aE g p g.2.length) (v:Int)) (i:Int)).1)*((gI (List.drop (Int.toNat ((i:Int)+1)) (List.take (Int.toNat ((gI (aE g p g.2.length) (v:Int)).length)) (gI (aE g p g.2.length) (v:Int)))) (j:Int)).1))+((((gI (gI (aE g p g.2.length) (v:Int)) (i:Int)).2).1)*(((gI (List.drop (Int.toNat ((i:Int)+1)) (List.take (Int.toNat ((gI (aE g p g.2.length) (v:Int)).length)) (gI (aE g p g.2.length) (v:Int)))) (j:Int)).2).1)))) (dv (((gI (gI (aE g p g.2.length) (v:Int)) (i:Int)).2).2) (((gI (List.drop (Int.toNat ((i:Int)+1)) (List.take (Int.toNat ((gI (aE g p g.2.length) (v:Int)).length)) (gI (aE g p g.2.length) (v:Int)))) (j:Int)).2).2))))) (a8 (ak ?_))
     clear bx53
     refine a5 rfl (lx (aQ (m:=↑j) (n:=1) zs40 rfl (by omega)) (mi ((j:Int)+1) (a8 ?_)))
     replace bH:=bH.cn ch47
     refine back12 (gr m2 (bb (aF ((((gI (gI (aE g p g.2.length) (v:Int)) (i:Int)).1)*((gI (List.drop (Int.toNat ((i:Int)+1)) (List.take (Int.toNat ((gI (aE g p g.2.length) (v:Int)).length)) (gI (aE g p g.2.length) (v:Int)))) (j:Int)).1))+((((gI (gI (aE g p g.2.length) (v:Int)) (i:Int)).2).1)*(((gI (List.drop (Int.toNat ((i:Int)+1)) (List.take (Int.toNat ((gI (aE g p g.2.length) (v:Int)).length)) (gI (aE g p g.2.length) (v:Int)))) (j:Int)).2).1)))) (dv (((gI (gI (aE g p g.2.length) (v:Int)) (i:Int)).2).2) (((gI (List.drop (Int.toNat ((i:Int)+1)) (List.take (Int.toNat ((gI (aE g p g.2.length) (v:Int)).length)) (gI (aE g p g.2.length) (v:Int)))) (j:Int)).2).2))),j+1,g49) _ _ ⟨bH.ce ch52,rfl,zs9,zs11,zs22,zs23,zs24,zs28,zs29,zs30,zs38,zs39,rfl,(Rg.cn ch47).ce ch52,(Rp.cn ch47).ce ch52,(r_p_v1.cn ch47).ce ch52,(o17.cn ch47).ce ch52,(r27.cn ch47).chg ch52 (ks rfl) (ks rfl),bx39,(r41.cn ch47).ce ch52,by omega,?_⟩ ?_
     · show(gr m2 (bb (aF ((((gI (gI (aE g p g.2.length) (v:Int)) (i:Int)).1)*((gI (List.drop (Int.toNat ((i:Int)+1)) (List.take (Int.toNat ((gI (aE g p g.2.length) (v:Int)).length)) (gI (aE g p g.2.length) (v:Int)))) (j:Int)).1))+((((gI (gI (aE g p g.2.length) (v:Int)) (i:Int)).2).1)*(((gI (List.drop (Int.toNat ((i:Int)+1)) (List.take (Int.toNat ((gI (aE g p g.2.length) (v:Int)).length)) (gI (aE g p g.2.length) (v:Int)))) (j:Int)).2).1)))) (dv (((gI (gI (aE g p g.2.length) (v:Int)) (i:Int)).2).2) (((gI (List.drop (Int.toNat ((i:Int)+1)) (List.take (Int.toNat ((gI (aE g p g.2.length) (v:Int)).length)) (gI (aE g p g.2.length) (v:Int)))) (j:Int)).2).2))))=r6 (nB (jo (aE g p g.2.length) v) (gI (aE g p g.2.length) (v:Int)) i) (gI (gI (aE g p g.2.length) (v:Int)) (i:Int)) (kR (gI (aE g p g.2.length) (v:Int)) i) (j+1)/\jG (gr m2 (bb (aF ((((gI (gI (aE g p g.2.length) (v:Int)) (i:Int)).1)*((gI (List.drop (Int.toNat ((i:Int)+1)) (List.take (Int.toNat ((gI (aE g p g.2.length) (v:Int)).length)) (gI (aE g p g.2.length) (v:Int)))) (j:Int)).1))+((((gI (gI (aE g p g.2.length) (v:Int)) (i:Int)).2).1)*(((gI (List.drop (Int.toNat ((i:Int)+1)) (List.take (Int.toNat ((gI (aE g p g.2.length) (v:Int)).length)) (gI (aE g p g.2.length) (v:Int)))) (j:Int)).2).1)))) (dv (((gI (gI (aE g p g.2.length) (v:Int)) (i:Int)).2).2) (((gI (List.drop (Int.toNat ((i:Int)+1)) (List.take (Int.toNat ((gI (aE g p g.2.length) (v:Int)).length)) (gI (aE g p g.2.length) (v:Int)))) (j:Int)).2).2))))
       (exact⟨by rw[h2.1];rfl,by assumption⟩)
     · show Int.toNat (((List.length (List.drop (Int.toNat ((i:Int)+1)) (List.take (Int.toNat ((gI (aE g p g.2.length) (v:Int)).length)) (gI (aE g p g.2.length) (v:Int)))):Int):Int)-((j+1):Int))<Int.toNat (((List.length (List.drop (Int.toNat ((i:Int)+1)) (List.take (Int.toNat ((gI (aE g p g.2.length) (v:Int)).length)) (gI (aE g p g.2.length) (v:Int)))):Int):Int)-(j:Int))
       omega
    refine af rfl (df p12) (aO rfl (ak ?_))
    clear bx39 r41
    refine a5 rfl (lx (aQ (m:=↑i) (n:=1) zs30 rfl (by omega)) (mi ((i:Int)+1) (a8 ?_)))
    refine back9 (m2,i+1,g45) _ _ ⟨bH,zs7,zs9,zs22,zs23,zs24,zs28,zs29,rfl,Rg,Rp,r_p_v1,o17,r27,by omega,?_⟩ ?_
    · show m2=nB (jo (aE g p g.2.length) v) (gI (aE g p g.2.length) (v:Int)) (i+1)/\jG m2
      (refine⟨?_,h2.2⟩;show _=r6 (nB (jo (aE g p g.2.length) v) (gI (aE g p g.2.length) (v:Int)) i) (gI (gI (aE g p g.2.length) (v:Int)) (i:Int)) (kR (gI (aE g p g.2.length) (v:Int)) i) (kR (gI (aE g p g.2.length) (v:Int)) i).length;rw[h2.1,show j=(kR (gI (aE g p g.2.length) (v:Int)) i).length by unfold kR;omega])
    · show Int.toNat (((List.length (gI (aE g p g.2.length) (v:Int)):Int):Int)-((i+1):Int))<Int.toNat (((List.length (gI (aE g p g.2.length) (v:Int)):Int):Int)-(i:Int))
      omega
   refine af rfl (df p9) (aO rfl (ak ?_))
   clear r27
   refine a5 rfl (lx (aQ (m:=↑v) (n:=1) zs24 rfl (by omega)) (mi ((v:Int)+1) (a8 ?_)))
   refine back6 (m1,v+1,g31) _ _ ⟨bH,zs7,zs22,zs23,rfl,Rg,Rp,r_p_v1,o17,by omega,?_⟩ ?_
   · show m1=jo (aE g p g.2.length) (v+1)/\jG m1
     (refine⟨?_,h1.2⟩;show _=nB (jo (aE g p g.2.length) v) (gI (aE g p g.2.length) (v:Int)) ((gI (aE g p g.2.length) (v:Int))).length;rw[h1.1,show i=((gI (aE g p g.2.length) (v:Int))).length by omega])
   · show Int.toNat (((List.length (aE g p g.2.length):Int):Int)-((v+1):Int))<Int.toNat (((List.length (aE g p g.2.length):Int):Int)-(v:Int))
     omega
  refine af rfl (df p6) (aO rfl (a6 ?_))
  clear o17
  refine a5 rfl (mz zs7 (ma (Value.float .f64 m0) (ai 0 (a8 (av (vs:=[Value.float .f64 m0,vi 0]) Try.func17 (.tmp rfl (.tmp rfl .nil)) ?_)))))
  have e0:(m0:Nat)=((aV g p).1):=by
    (rw[jj hf0,h0.1];show jo _ _=jo _ _;congr 1;omega)
  have e1:(0:Int)=((aV g p).2):=by
    rw[jj hf0]
  exact⟨(co (a:=m0) (b:=0) (λ(z0:Nat) (z1:Int)=>Ending.returned (vt [Value.float .f64 z0,vi z1])) e0 e1),bH.below⟩
 refine ae rfl (congrArg Bool.not (df p2)) (a6 ?_)
 clear bx5 bx10
 refine a5 rfl (mi (bl g p) (ma (Value.float .f64 0) (ai (bl g p) (a8 (av (vs:=[Value.float .f64 0,vi (bl g p)]) Try.func17 (.tmp rfl (.tmp rfl .nil)) ?_)))))
 have e0:(0:Nat)=((aV g p).1):=by
   rw[lm p2]
 have e1:(bl g p:Int)=((aV g p).2):=by
   rw[lm p2]
 have C58:=cg [] (ch2.n.seq (ch7.n.seq hb12.n))
 replace bH:=bH.ca C58
 exact⟨(co (a:=0) (b:=bl g p) (λ(z0:Nat) (z1:Int)=>Ending.returned (vt [Value.float .f64 z0,vi z1])) e0 e1),bH.below⟩
end TL
