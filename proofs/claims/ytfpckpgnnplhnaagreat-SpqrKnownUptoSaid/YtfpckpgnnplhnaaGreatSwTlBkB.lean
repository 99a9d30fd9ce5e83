import Derived.Test.YtfpckpgnnplhnaaGreatSwTlGmA
import Derived.Test.YtfpckpgnnplhnaaGreatSwTlGenA
import Derived.Test.YtfpckpgnnplhnaaGreatSwTlBkA
import Derived.Test.YtfpckpgnnplhnaaGreatSwTlBkBa
import Derived.Test.YtfpckpgnnplhnaaGreatSwTlAli
set_option linter.all false
set_option maxRecDepth 20000
namespace TL
open Go Go.Proofs
theorem jE:Tryz.prog.follows .mixedOrders=true:=by kernel_rfl
theorem eC:Tp Tryz.prog 102 true 3 56 (.agg #[.slice none 0 0,.slice none 0 0,.int .i64 0]):=Tp.of (by kernel_rfl)
theorem Bw:Tryz.f82.body.isNone=false:=rfl
theorem Bq:(Tryz.f82.name== "runtime.NumGoroutine")=false:=by decide+kernel
theorem CL:Tryz.f83.body.isNone=false:=rfl
theorem Ce:(Tryz.f83.name== "runtime.NumGoroutine")=false:=by decide+kernel
theorem CJ:Tryz.f94.body.isNone=false:=rfl
theorem BI:(Tryz.f94.name== "runtime.NumGoroutine")=false:=by decide+kernel
theorem Cs:Tryz.f95.body.isNone=false:=rfl
theorem BR:(Tryz.f95.name== "runtime.NumGoroutine")=false:=by decide+kernel
set_option maxHeartbeats 8000000 in
theorem pp(w0:World)(g:(Int)×(List Pt))(g_v:Value)(hg_v:Ro w0 g_v g.2)(hm:bO g):
    Calls Tryz.prog 56 #[vg [vi g.1,g_v]] w0 (λee w=>∃xx:ax×Value×Value,ee= .returned ((λ⟨δ,rv0,rv1⟩=>vg [rv0,rv1,vi (((cY g).2).2)]) xx)/\(λ(⟨δ,rv0,rv1⟩:ax×Value×Value) (w:World)=>dz w0 δ w/\Ow δ (is 1) (is 1) w rv0 ((cY g).1)/\Ow δ (is 2) (is 2) w rv1 (((cY g).2).1)) xx w):=by
 refine ah Tryz.func56 rfl nq ?_
 have bH:=aW.start w0
 have Rg:=hg_v.sl
 have hm0:=hm
 obtain⟨hm1,hm2,hm3,hm4⟩:=hm0
 have hrz:((List.replicate (Int.toNat g.1) (0:Int)).length:Int)=g.1:=by rw[List.length_replicate];omega
 refine a7 (a6 rfl (cy rfl (bU c0 (is 1) (1,0) rfl rfl ?_)))
 intro g4 w1 b3 ch2 bx5
 refine lo (aZ g4 (is 2) (2,0) rfl eC ?_)
 intro g9 w6 b8 ch7 bx10
 refine ab (a7 (a6 rfl (cy rfl (aZ g9 (is 3) (3,0) rfl eC ?_))))
 intro g14 w11 b13 ch12 bx15
 refine ab (a7 (a6 rfl ?_))
 refine lx (av (ds:=[vi g.1,g_v]) aK rfl bx5.t rfl rfl) (lo (aV (aB (vals:=[vg [vi g.1,g_v]]) Tryz.func83 CL Ce rfl) (ah Tryz.func83 rfl nq ?_)))
 refine a7 (a6 rfl (cy rfl (bU g14 (is 4) (4,0) rfl rfl ?_)))
 intro g20 w17 b19 ch18 bx21
 refine ma ((Value.pointer none)) (ab (a7 (a6 rfl (lx (av (ds:=[vi g.1,g_v]) aK rfl bx21 rfl rfl) (lo (aV (aB (vals:=[vg [vi g.1,g_v]]) Tryz.func94 CJ BI rfl) (ah Tryz.func94 rfl nq ?_)))))))
 refine a7 (a6 rfl (cy rfl (bU g20 (is 5) (5,0) rfl rfl ?_)))
 intro g25 w22 b24 ch23 bx26
 refine ma ((Value.pointer none)) (ab (a7 (bp g25 [0,1,2,4,5,7,8,10,11,13,14,16,17,18,20,21,22] jE ?_)))
 intro w28 ch27
 refine xh 0 [1,4,7,10,13,16,20,26,2,5,8,11,14,17,21,3,6,9,12,15,18,22,19,23] rfl (λw' hw'=>av (ds:=[vi g.1,g_v]) aK rfl (bx26.t.bel hw') rfl rfl) (xp 1 rfl (λw=>aa dK rfl rfl rfl rfl) (xh 2 [1,0,4,7,10,13,16,20,26,5,8,11,14,17,21,6,9,12,15,18,22,19,23] rfl (λw' hw'=>a8 ap rfl (bx26.t.bel hw') rfl) (xp 4 rfl (λw=>aa dK rfl rfl rfl rfl) (xh 5 [4,2,1,0,3,7,10,13,16,20,26,8,11,14,17,21,9,12,15,18,22,19,23] rfl (λw' hw'=>a8 ap rfl (bx26.t.bel hw') rfl) (xp 7 rfl (λw=>aa dK rfl rfl rfl rfl) (xh 8 [7,5,4,2,1,0,3,6,10,13,16,20,26,11,14,17,21,12,15,18,22,19,23] rfl (λw' hw'=>a8 ap rfl (bx26.t.bel hw') rfl) ?_))))))
 refine xp 10 rfl (λw=>aa dK rfl rfl rfl rfl) (xh 11 [10,8,7,5,4,2,1,0,3,6,9,13,16,20,26,14,17,21,15,18,22,19,23] rfl (λw' hw'=>a8 ap rfl (bx26.t.bel hw') rfl) (xp 13 rfl (λw=>aa dK rfl rfl rfl rfl) (xh 14 [13,11,10,8,7,5,4,2,1,0,3,6,9,12,16,20,26,17,21,18,22,19,23] rfl (λw' hw'=>a8 ap rfl (bx26.t.bel hw') rfl) (xp 16 rfl (λw=>aa dK rfl rfl rfl rfl) (xh 17 [16,14,13,11,10,8,7,5,4,2,1,0,3,6,9,12,15,20,26,21,22,23] rfl (λw' hw'=>a8 bM rfl (bx26.t.bel hw') rfl) ?_)))))
 have len29:=(Rg).small
 refine xp 18 rfl (λw=>bG eG rfl Rg.t) (xp 20 rfl (λw=>aa dK rfl rfl rfl rfl) (xh 21 [20,18,17,16,14,13,11,10,8,7,5,4,2,1,0,3,6,9,12,15,19,26] rfl (λw' hw'=>a8 bM rfl (bx26.t.bel hw') rfl) (xp 22 rfl (λw=>bG eG rfl Rg.t) ?_)))
 refine Ck g25 [⟨3,12,[],(λ_ γ w v=>dr (α:=Int) γ 6 w v (List.replicate (Int.toNat g.1) ([]:List Int)))⟩,⟨6,15,[],(λ_ γ w v=>Ow (α:=Int) γ (is 7) (is 7) w v (List.replicate (Int.toNat g.1) ((0:Int):Int)))⟩,⟨9,18,[],(λ_ γ w v=>Ow (α:=Int) γ (is 8) (is 8) w v (List.replicate (Int.toNat g.1) ((0:Int):Int)))⟩,⟨12,21,[],(λ_ γ w v=>Ow (α:=Int) γ (is 9) (is 9) w v (List.replicate (Int.toNat g.1) ((0:Int):Int)))⟩,⟨15,24,[],(λ_ γ w v=>Ow (α:=Int) γ (is 10) (is 10) w v (List.replicate (Int.toNat g.1) ((0:Int):Int)))⟩,⟨19,28,[],(λ_ γ w v=>Ow (α:=Bool) γ (is 11) (is 11) w v (List.replicate (Int.toNat (g.2.length:Int)) (false:Bool)))⟩,⟨23,32,[],(λ_ γ w v=>Ow (α:=Int) γ (is 12) (is 12) w v (List.replicate (Int.toNat (g.2.length:Int)) ((0:Int):Int)))⟩,⟨24,33,[12,15,18,21,24,28,32],(λvs _ _ v=>v=vg [vi g.1,g_v,(vs.getD 0 undef),(vs.getD 1 undef),(vs.getD 2 undef),(vs.getD 3 undef),(vs.getD 4 undef),vi 0,vn,(vs.getD 5 undef),(vs.getD 6 undef),vi 0,(.nilFunc)])⟩,⟨25,34,[33,12,15,18,21,24,28,32],(λvs γ w v=>∃b,v= .pointer (some ⟨b,0,none⟩)/\Bx γ (is 13) w b [vi g.1,g_v,(vs.getD 1 undef),(vs.getD 2 undef),(vs.getD 3 undef),(vs.getD 4 undef),(vs.getD 5 undef),vi 0,vn,(vs.getD 6 undef),(vs.getD 7 undef),vi 0,(.nilFunc)])⟩,⟨26,3,[],(λ_ γ w v=>∃b,v= .pointer (some ⟨b,0,none⟩)/\Bx γ (is 14) w b [(.pointer none)])⟩] [(3,12),(6,15),(9,18),(12,21),(15,24),(19,28),(23,32),(24,33),(25,34),(26,3)] _ rfl ⟨(λ_ _ _ _ _ _ h k=>dr.chg k h (dT _)),(λ_ _ _ _ _ _ h k=>Ow.chg k h (dT _) (dT _)),(λ_ _ _ _ _ _ h k=>Ow.chg k h (dT _) (dT _)),(λ_ _ _ _ _ _ h k=>Ow.chg k h (dT _) (dT _)),(λ_ _ _ _ _ _ h k=>Ow.chg k h (dT _) (dT _)),(λ_ _ _ _ _ _ h k=>Ow.chg k h (dT _) (dT _)),(λ_ _ _ _ _ _ h k=>Ow.chg k h (dT _) (dT _)),(λ_ _ _ _ _ _ _ h=>h),(λ_ _ _ _ _ _ h ⟨b,e,k⟩=>⟨b,e,Bx.chg k h (dT _)⟩),(λ_ _ _ _ _ _ h ⟨b,e,k⟩=>⟨b,e,Bx.chg k h (dT _)⟩),trivial⟩ (by decide) (by decide) (by kernel_rfl) (by kernel_rfl) (fuel:=1) rfl ⟨⟨rfl,_,rfl,rfl,by decide,λf' val hf' hv=>⟨rfl,λγ w hd=>iY (α:=Int) (n:=g.1) (cp:=g.1) γ 6 fh b9 rfl ((hf' 11 rfl).trans rfl) ((hf' 11 rfl).trans rfl) (by omega) (by omega) (by omega) (by omega) (λg2 w2 v h k=>⟨g2,h,k⟩)⟩⟩,⟨rfl,_,rfl,rfl,by decide,λf' val hf' hv=>⟨rfl,λγ w hd=>dF (α:=Int) (l:=g.1) (cp:=g.1) γ (is 7) (is 7) (7,0) rfl (0:Int) bF ap rfl ((hf' 14 rfl).trans rfl) ((hf' 14 rfl).trans rfl) (by omega) (by omega) (by omega) (by omega) (λg2 w2 v h k _=>⟨g2,h,k⟩)⟩⟩,⟨rfl,_,rfl,rfl,by decide,λf' val hf' hv=>⟨rfl,λγ w hd=>dF (α:=Int) (l:=g.1) (cp:=g.1) γ (is 8) (is 8) (8,0) rfl (0:Int) bF ap rfl ((hf' 17 rfl).trans rfl) ((hf' 17 rfl).trans rfl) (by omega) (by omega) (by omega) (by omega) (λg2 w2 v h k _=>⟨g2,h,k⟩)⟩⟩,⟨rfl,_,rfl,rfl,by decide,λf' val hf' hv=>⟨rfl,λγ w hd=>dF (α:=Int) (l:=g.1) (cp:=g.1) γ (is 9) (is 9) (9,0) rfl (0:Int) bF ap rfl ((hf' 20 rfl).trans rfl) ((hf' 20 rfl).trans rfl) (by omega) (by omega) (by omega) (by omega) (λg2 w2 v h k _=>⟨g2,h,k⟩)⟩⟩,⟨rfl,_,rfl,rfl,by decide,λf' val hf' hv=>⟨rfl,λγ w hd=>dF (α:=Int) (l:=g.1) (cp:=g.1) γ (is 10) (is 10) (10,0) rfl (0:Int) bF ap rfl ((hf' 23 rfl).trans rfl) ((hf' 23 rfl).trans rfl) (by omega) (by omega) (by omega) (by omega) (λg2 w2 v h k _=>⟨g2,h,k⟩)⟩⟩,⟨rfl,_,rfl,rfl,by decide,λf' val hf' hv=>⟨rfl,λγ w hd=>dF (α:=Bool) (l:=(g.2.length:Int)) (cp:=(g.2.length:Int)) γ (is 11) (is 11) (11,0) rfl false j6 dA rfl ((hf' 27 rfl).trans rfl) ((hf' 27 rfl).trans rfl) (by omega) (by omega) (by omega) (by omega) (λg2 w2 v h k _=>⟨g2,h,k⟩)⟩⟩,⟨rfl,_,rfl,rfl,by decide,λf' val hf' hv=>⟨rfl,λγ w hd=>dF (α:=Int) (l:=(g.2.length:Int)) (cp:=(g.2.length:Int)) γ (is 12) (is 12) (12,0) rfl (0:Int) bF ap rfl ((hf' 31 rfl).trans rfl) ((hf' 31 rfl).trans rfl) (by omega) (by omega) (by omega) (by omega) (λg2 w2 v h k _=>⟨g2,h,k⟩)⟩⟩,⟨rfl,_,rfl,rfl,by decide,λf' val hf' hv=>⟨rfl,λγ w hd=>zk (v:=vg [vi g.1,g_v,val 12,val 15,val 18,val 21,val 24,vi 0,vn,val 28,val 32,vi 0,(.nilFunc)]) (bn (vs:=[(0,vg [vi g.1,g_v]),(1,val 12),(2,val 15),(3,val 18),(4,val 21),(5,val 24),(8,val 28),(9,val 32)]) (qo ((hf' 9 rfl).trans rfl) (qo (hv 12 (jX rfl)) (qo (hv 15 (jX rfl)) (qo (hv 18 (jX rfl)) (qo (hv 21 (jX rfl)) (qo (hv 24 (jX rfl)) (qo (hv 28 (jX rfl)) (qo (hv 32 (jX rfl)) rfl)))))))) (by
    have h12:dr (α:=Int) γ 6 w (val 12) (List.replicate (Int.toNat g.1) ([]:List Int)):=hd 12 (jX rfl)
    have h15:Ow (α:=Int) γ (is 7) (is 7) w (val 15) (List.replicate (Int.toNat g.1) ((0:Int):Int)):=hd 15 (jX rfl)
    have h18:Ow (α:=Int) γ (is 8) (is 8) w (val 18) (List.replicate (Int.toNat g.1) ((0:Int):Int)):=hd 18 (jX rfl)
    have h21:Ow (α:=Int) γ (is 9) (is 9) w (val 21) (List.replicate (Int.toNat g.1) ((0:Int):Int)):=hd 21 (jX rfl)
    have h24:Ow (α:=Int) γ (is 10) (is 10) w (val 24) (List.replicate (Int.toNat g.1) ((0:Int):Int)):=hd 24 (jX rfl)
    have h28:Ow (α:=Bool) γ (is 11) (is 11) w (val 28) (List.replicate (Int.toNat (g.2.length:Int)) (false:Bool)):=hd 28 (jX rfl)
    have h32:Ow (α:=Int) γ (is 12) (is 12) w (val 32) (List.replicate (Int.toNat (g.2.length:Int)) ((0:Int):Int)):=hd 32 (jX rfl)
    rw[Sl.form Rg,Sl.form h12.sl,Sl.form h15.flat,Sl.form h18.flat,Sl.form h21.flat,Sl.form h24.flat,Sl.form h28.flat,Sl.form h32.flat]
    show _=_
    kernel_rfl)) ⟨γ,bg.refl _ _ _,rfl⟩⟩⟩,⟨rfl,_,rfl,rfl,by decide,λf' val hf' hv=>⟨rfl,λγ w hd=>bU γ (is 13) (13,0) rfl (v:=vg [vi g.1,g_v,val 12,val 15,val 18,val 21,val 24,vi 0,vn,val 28,val 32,vi 0,(.nilFunc)]) ((hv 33 (jX rfl)).trans (show val 33=vg [vi g.1,g_v,val 12,val 15,val 18,val 21,val 24,vi 0,vn,val 28,val 32,vi 0,(.nilFunc)] from hd 33 (jX rfl))) (λg2 w2 b h k=>⟨g2,h,b,rfl,k⟩)⟩⟩,⟨rfl,_,rfl,rfl,by decide,λf' val hf' hv=>⟨rfl,λγ w hd=>aZ γ (is 14) (14,0) rfl bZ (λg2 w2 b h k=>⟨g2,h,b,rfl,k⟩)⟩⟩,trivial⟩ ?_
 refine λg30 w31 ch32 v43 o33 v44 o34 v45 o35 v46 o36 v47 o37 v48 o38 v49 o39 v50 o40 v51 o41 v52 o42=>?_
 subst o40
 obtain⟨b53,hev51,bx54⟩:=o41
 subst hev51
 obtain⟨b55,hev52,bx56⟩:=o42
 subst hev52
 refine cE 27 rfl (aA (cs':=[vp b53 0]) bZ rfl rfl bx56 rfl nq (AllOne.all (.cons rfl .nil)) rfl ?_)
 intro w57 ch58 bx59
 clear bx56
 refine bV (by kernel_rfl) (a7 (a7 (a6 rfl (lx (aa dK rfl rfl rfl rfl) ?_))))
 refine lx (a8 bM rfl bx26.t rfl) ?_
 refine lx (bG eG rfl Rg.t) (mi 0 (ab (aj ?_)))
 clear bx26
 refine aR (σ:=Nat×j7×ax) (λ⟨e_c2,O_c2,gq⟩ f w=>aW w0 gq w/\f 3=vp b55 0/\f 36=g_v/\f 37=vi (g.2.length:Int)/\f 38=vi ↑e_c2/\Sl gq (is 0) w g_v g.2/\Bx gq (is 1) w b3 [vi g.1,g_v]/\Bx gq (is 2) w b8 [vn,vn,vi 0]/\Bx gq (is 3) w b13 [vn,vn,vi 0]/\Bx gq (is 4) w b19 [vi g.1,g_v]/\dr gq 6 w v43 O_c2/\Ow gq (is 7) (is 7) w v44 (List.replicate (Int.toNat g.1) (0:Int))/\Ow gq (is 8) (is 8) w v45 (List.replicate (Int.toNat g.1) (0:Int))/\Ow gq (is 9) (is 9) w v46 (List.replicate (Int.toNat g.1) (0:Int))/\Ow gq (is 10) (is 10) w v47 (List.replicate (Int.toNat g.1) (0:Int))/\Ow gq (is 11) (is 11) w v48 (List.replicate (Int.toNat (g.2.length:Int)) false)/\Ow gq (is 12) (is 12) w v49 (List.replicate (Int.toNat (g.2.length:Int)) (0:Int))/\Bx gq (is 13) w b53 [vi g.1,g_v,v43,v44,v45,v46,v47,vi 0,vn,v48,v49,vi 0,(.nilFunc)]/\Bx gq (is 14) w b55 [vp b53 0]/\(e_c2:Int)<=((g.2.length:Int):Int)/\(dW O_c2 g e_c2)) (λ⟨e_c2,O_c2,gq⟩=>Int.toNat (((g.2.length:Int):Int)-(e_c2:Int))) (0,(List.replicate (Int.toNat g.1) ([]:List Int)),g30) ?_ ?_
 have C63:=cg [14] (ch23.o (ch27.o (ch32.o ch58.e)))
 have C61:=ch18.n.seq C63
 have C62:=ch12.n.seq C61
 have C60:=ch2.n.seq (ch7.n.seq C62)
 · exact⟨bH.t,rfl,rfl,rfl,rfl,Rg.t,bx5.t,bx10.t,bx15.t,bx21.t,o33.t,o34.t,o35.t,o36.t,o37.t,o38.t,o39.t,bx54.t,bx59,by omega,by exact dW.start hm1⟩
 clear Rg bx5 bx10 bx15 bx21 o33 o34 o35 o36 o37 o38 o39 bx54 bx59 bH
 rintro⟨e_c2,O_c2,g66⟩ f64 w65 ⟨bH,zs3_c2,zs36_c2,zs37_c2,zs38_c2,Rg,bx5,bx10,bx15,bx21,o33,o34,o35,o36,o37,o38,o39,bx54,bx59,hle_e_c2,hov_c2⟩ back3_c2
 have hol_c2:=hov_c2.len
 refine a7 (a6 rfl (lx (br (m:=↑e_c2) (n:=(g.2.length:Int)) zs38_c2 zs37_c2) (ab (a7 ?_))))
 by_cases p3_c2:(e_c2:Int)<(g.2.length:Int)
 ·
  refine ag rfl (dt p3_c2) ?_
  obtain⟨⟨he1,he2⟩,he3,he4⟩:=hm4 _ (bz (xs:=g.2) (i:=↑e_c2) (by omega) (by omega))
  have hq1:=hov_c2.rl he1 he2
  have hq2:=hov_c2.rl2 he1 he2 he3 he4 (2*(e_c2:Int))
  refine am (a7 (aj (a7 (a6 rfl (mz zs38_c2 (lx (ad (v:=g_v) (i:=↑e_c2) eG rfl zs36_c2 Rg zs38_c2 (by omega) (by omega)) (lw (vg [vi ((gI g.2 ↑e_c2).1),vi ((gI g.2 ↑e_c2).2)]) (bW (v:=g_v) (i:=↑e_c2) bm rfl Rg (by omega) (by omega) rfl) (lo (aZ g66 (is 15) (15,0) rfl bm ?_)))))))))
  intro g70 w67 b69 ch68 bx71
  refine ai (e_c2:Int) (lo (aA (cs':=[vi ((gI g.2 ↑e_c2).1),vi ((gI g.2 ↑e_c2).2)]) bm rfl rfl bx71 rfl nq (AllOne.all (.cons rfl (.cons rfl .nil))) rfl ?_))
  intro w72 ch73 bx74
  clear bx71
  refine ab (a7 (a6 rfl (lx (av (ds:=[vi ((gI g.2 ↑e_c2).1),vi ((gI g.2 ↑e_c2).2)]) bm rfl bx74 rfl rfl) (mi 0 (ab (aj (gQ (a7 ?_))))))))
  clear bx74
  refine a6 rfl (lx (br (m:=0) (n:=2) rfl rfl) (ab (a7 (ag rfl rfl (am (a7 (aj (a7 (a6 rfl (mi 0 (lw (vi ((gI g.2 ↑e_c2).1)) (eo eS ap rfl rfl (by decide) (by decide) rfl) ?_)))))))))))
  refine ai 0 (ai ((gI g.2 ↑e_c2).1) (ab ?_))
  refine dD (σ:=ax) (λgq f w=>aW w0 gq w/\f 3=vp b55 0/\f 4=vi ↑e_c2/\f 36=g_v/\f 37=vi (g.2.length:Int)/\f 38=vi ↑e_c2/\f 43=vg [vi ((gI g.2 ↑e_c2).1),vi ((gI g.2 ↑e_c2).2)]/\f 44=vi 0/\Sl gq (is 0) w g_v g.2/\Bx gq (is 1) w b3 [vi g.1,g_v]/\Bx gq (is 2) w b8 [vn,vn,vi 0]/\Bx gq (is 3) w b13 [vn,vn,vi 0]/\Bx gq (is 4) w b19 [vi g.1,g_v]/\Ow gq (is 7) (is 7) w v44 (List.replicate (Int.toNat g.1) (0:Int))/\Ow gq (is 8) (is 8) w v45 (List.replicate (Int.toNat g.1) (0:Int))/\Ow gq (is 9) (is 9) w v46 (List.replicate (Int.toNat g.1) (0:Int))/\Ow gq (is 10) (is 10) w v47 (List.replicate (Int.toNat g.1) (0:Int))/\Ow gq (is 11) (is 11) w v48 (List.replicate (Int.toNat (g.2.length:Int)) false)/\Ow gq (is 12) (is 12) w v49 (List.replicate (Int.toNat (g.2.length:Int)) (0:Int))/\Bx gq (is 13) w b53 [vi g.1,g_v,v43,v44,v45,v46,v47,vi 0,vn,v48,v49,vi 0,(.nilFunc)]/\Bx gq (is 14) w b55 [vp b53 0]/\dr gq 6 w v43 (List.set O_c2 (Int.toNat ((gI g.2 ↑e_c2).1)) (gI O_c2 ((gI g.2 ↑e_c2).1)++[(2*(e_c2:Int))+0]))) g70 (inl [6]) jE ?_ ?_
  ·
   intro mid
   intro w76 ch75
   refine ht 0 rfl (bg.refl _ _ _) (λw' hw'=>a8 bZ zs3_c2 bx59.t rfl) (ht (v:=vp b53 0) 1 rfl (bg.refl _ _ _) (λw' hw'=>ae rfl) (ht 2 rfl (bg.refl _ _ _) (λw' hw'=>aa cO rfl rfl rfl rfl) ?_))
   refine ht 3 rfl (bg.refl _ _ _) (λw' hw'=>a8 it rfl bx54.t rfl) (ht (v:=vi ((gI g.2 ↑e_c2).1)) 4 rfl (bg.refl _ _ _) (λw' hw'=>ar rfl) (ht 5 rfl (bg.refl _ _ _) (λw' hw'=>a8 bZ zs3_c2 bx59.t rfl) (ht (v:=vp b53 0) 6 rfl (bg.refl _ _ _) (λw' hw'=>ae rfl) (ht 7 rfl (bg.refl _ _ _) (λw' hw'=>aa cO rfl rfl rfl rfl) (ht 8 rfl (bg.refl _ _ _) (λw' hw'=>a8 it rfl bx54.t rfl) (ht (v:=vi ((gI g.2 ↑e_c2).1)) 9 rfl (bg.refl _ _ _) (λw' hw'=>ar rfl) (ht (v:=vi ↑e_c2) 12 rfl (bg.refl _ _ _) (λw' hw'=>ar rfl) (ht 13 rfl (bg.refl _ _ _) (λw' hw'=>kb (m:=2) (n:=↑e_c2) rfl rfl (by omega)) ?_))))))))
   refine ht (v:=vi 0) 14 rfl (bg.refl _ _ _) (λw' hw'=>ar rfl) (ht 15 rfl (bg.refl _ _ _) (λw' hw'=>aJ (m:=2*(e_c2:Int)) (n:=0) rfl rfl (by omega)) ?_)
   refine cj 10 [16] (by kernel_rfl) ⟨ca 10 rfl (by kernel_rfl) rfl ?_,ca 16 rfl (by kernel_rfl) rfl ?_,trivial⟩
   ·
    refine ao (v:=Value.pointer (some (bu v43 1 (Int.toNat ((gI g.2 ↑e_c2).1))))) (ad (α:=List Int) (xs:=O_c2) (v:=v43) (i:=(gI g.2 ↑e_c2).1) fh rfl rfl o33.t.sl rfl (by omega) (by omega)) ?_
    refine⟨(bg.refl _ _ _),?_⟩
    refine cj 11 [16] (by kernel_rfl) ⟨ca 11 rfl (by kernel_rfl) rfl ?_,ca 16 rfl (by kernel_rfl) rfl ?_,trivial⟩
    ·
     obtain⟨v78,cel79,r80⟩:=cG (r:=(gI g.2 ↑e_c2).1) (o33.a ch75) (by omega) (by omega)
     refine ao (v:=v78) (cv b9 rfl cel79) ?_
     refine⟨(bg.refl _ _ _),?_⟩
     refine bY 16 rfl (aq (α:=Int) g70 (is 16) (is 16) (16,0) rfl [(2*(e_c2:Int))+0] bF ap (by decide) (by decide) (vs:=[(0,vi ((2*(e_c2:Int))+0))]) rfl rfl (.cons rfl .nil) ?_)
     intro g81 w82 v83 ch84 o85
     have hs86:bg (inl [6]) _ _ _ _:=ch84.n
     refine⟨hs86.same,?_⟩
     refine bY 17 rfl ?_
     refine aS (α:=Int) (xs:=(gI O_c2 ((gI g.2 ↑e_c2).1))) (ys:=([(2*(e_c2:Int))+0])) g81 (J:=row 6 (Int.toNat ((gI g.2 ↑e_c2).1)+1)) (S:=row 6 (Int.toNat ((gI g.2 ↑e_c2).1)+1)) (6,Int.toNat ((gI g.2 ↑e_c2).1)+1) rfl bF ap (by decide) rfl rfl rfl r80.t o85.flat (by decide) (by(simp;omega)) ?_
     intro g87 w88 v89 ch90 o91
     have o92:=(o33.a ch84).rowchg ch90
     clear o33 cel79 r80
     have hs93:=hs86.seq (ch90.lr rfl)
     refine⟨hs93.same,?_⟩
     refine bY 18 rfl ?_
     obtain⟨us94,hl95,r96⟩:=o92.vc
     try simp only[List.length_set,List.length_append,List.length_cons,List.length_nil] at hl95
     refine ao (v:=Value.pointer (some (bu v43 1 (Int.toNat ((gI g.2 ↑e_c2).1))))) (ad (α:=Vc) (xs:=us94) (v:=v43) (i:=(gI g.2 ↑e_c2).1) fh rfl rfl r96 rfl (by omega) (by omega)) ?_
     refine⟨hs93.same,?_⟩
     refine bY 19 rfl (bT (r:=(gI g.2 ↑e_c2).1) b9 rfl rfl o92 o91 (by omega) (by omega) ?_)
     intro w100 ch101 o102
     clear o92 o91
     have hs103:=hs93.seq (ch101.l rfl)
     refine⟨hs103.same,?_⟩
     refine ce (by kernel_rfl) ?_
     exact mid (g87) _ _ ⟨bH.t,zs3_c2,rfl,zs36_c2,zs37_c2,zs38_c2,rfl,rfl,Rg.t,bx5.t,bx10.t,bx15.t,bx21.t,o34.t,o35.t,o36.t,o37.t,o38.t,o39.t,bx54.t,bx59.t,o102⟩
    ·
     refine aq (α:=Int) g70 (is 16) (is 16) (16,0) rfl [(2*(e_c2:Int))+0] bF ap (by decide) (by decide) (vs:=[(0,vi ((2*(e_c2:Int))+0))]) rfl rfl (.cons rfl .nil) ?_
     intro g105 w106 v107 ch108 o109
     have hs110:bg (inl [6]) _ _ _ _:=ch108.n
     refine⟨hs110.same,?_⟩
     refine bY 11 rfl ?_
     obtain⟨v111,cel112,r113⟩:=cG (r:=(gI g.2 ↑e_c2).1) (o33.a ch108) (by omega) (by omega)
     refine ao (v:=v111) (cv b9 rfl cel112) ?_
     refine⟨hs110.same,?_⟩
     refine bY 17 rfl (aS (α:=Int) (xs:=(gI O_c2 ((gI g.2 ↑e_c2).1))) (ys:=([(2*(e_c2:Int))+0])) g105 (J:=row 6 (Int.toNat ((gI g.2 ↑e_c2).1)+1)) (S:=row 6 (Int.toNat ((gI g.2 ↑e_c2).1)+1)) (6,Int.toNat ((gI g.2 ↑e_c2).1)+1) rfl bF ap (by decide) rfl rfl rfl r113 o109.flat (by decide) (by(simp;omega)) ?_)
     intro g114 w115 v116 ch117 o118
     have o119:=(o33.a ch108).rowchg ch117
     clear o33 cel112 r113
     have hs120:=hs110.seq (ch117.lr rfl)
     refine⟨hs120.same,?_⟩
     refine bY 18 rfl ?_
     obtain⟨us121,hl122,r123⟩:=o119.vc
     try simp only[List.length_set,List.length_append,List.length_cons,List.length_nil] at hl122
     refine ao (v:=Value.pointer (some (bu v43 1 (Int.toNat ((gI g.2 ↑e_c2).1))))) (ad (α:=Vc) (xs:=us121) (v:=v43) (i:=(gI g.2 ↑e_c2).1) fh rfl rfl r123 rfl (by omega) (by omega)) ?_
     refine⟨hs120.same,?_⟩
     refine bY 19 rfl (bT (r:=(gI g.2 ↑e_c2).1) b9 rfl rfl o119 o118 (by omega) (by omega) ?_)
     intro w127 ch128 o129
     clear o119 o118
     have hs130:=hs120.seq (ch128.l rfl)
     refine⟨hs130.same,?_⟩
     refine ce (by kernel_rfl) ?_
     exact mid (g114) _ _ ⟨bH.t,zs3_c2,rfl,zs36_c2,zs37_c2,zs38_c2,rfl,rfl,Rg.t,bx5.t,bx10.t,bx15.t,bx21.t,o34.t,o35.t,o36.t,o37.t,o38.t,o39.t,bx54.t,bx59.t,o129⟩
   ·
    refine aq (α:=Int) g70 (is 16) (is 16) (16,0) rfl [(2*(e_c2:Int))+0] bF ap (by decide) (by decide) (vs:=[(0,vi ((2*(e_c2:Int))+0))]) rfl rfl (.cons rfl .nil) ?_
    intro g132 w133 v134 ch135 o136
    have hs137:bg (inl [6]) _ _ _ _:=ch135.n
    refine⟨hs137.same,?_⟩
    refine bY 10 rfl ?_
    refine ao (v:=Value.pointer (some (bu v43 1 (Int.toNat ((gI g.2 ↑e_c2).1))))) (ad (α:=List Int) (xs:=O_c2) (v:=v43) (i:=(gI g.2 ↑e_c2).1) fh rfl rfl o33.t.sl rfl (by omega) (by omega)) ?_
    refine⟨hs137.same,?_⟩
    refine bY 11 rfl ?_
    obtain⟨v139,cel140,r141⟩:=cG (r:=(gI g.2 ↑e_c2).1) (o33.a ch135) (by omega) (by omega)
    refine ao (v:=v139) (cv b9 rfl cel140) ?_
    refine⟨hs137.same,?_⟩
    refine bY 17 rfl (aS (α:=Int) (xs:=(gI O_c2 ((gI g.2 ↑e_c2).1))) (ys:=([(2*(e_c2:Int))+0])) g132 (J:=row 6 (Int.toNat ((gI g.2 ↑e_c2).1)+1)) (S:=row 6 (Int.toNat ((gI g.2 ↑e_c2).1)+1)) (6,Int.toNat ((gI g.2 ↑e_c2).1)+1) rfl bF ap (by decide) rfl rfl rfl r141 o136.flat (by decide) (by(simp;omega)) ?_)
    intro g142 w143 v144 ch145 o146
    have o147:=(o33.a ch135).rowchg ch145
    clear o33 cel140 r141
    have hs148:=hs137.seq (ch145.lr rfl)
    refine⟨hs148.same,?_⟩
    refine bY 18 rfl ?_
    obtain⟨us149,hl150,r151⟩:=o147.vc
    try simp only[List.length_set,List.length_append,List.length_cons,List.length_nil] at hl150
    refine ao (v:=Value.pointer (some (bu v43 1 (Int.toNat ((gI g.2 ↑e_c2).1))))) (ad (α:=Vc) (xs:=us149) (v:=v43) (i:=(gI g.2 ↑e_c2).1) fh rfl rfl r151 rfl (by omega) (by omega)) ?_
    refine⟨hs148.same,?_⟩
    refine bY 19 rfl (bT (r:=(gI g.2 ↑e_c2).1) b9 rfl rfl o147 o146 (by omega) (by omega) ?_)
    intro w155 ch156 o157
    clear o147 o146
    have hs158:=hs148.seq (ch156.l rfl)
    refine⟨hs158.same,?_⟩
    refine ce (by kernel_rfl) ?_
    exact mid (g142) _ _ ⟨bH.t,zs3_c2,rfl,zs36_c2,zs37_c2,zs38_c2,rfl,rfl,Rg.t,bx5.t,bx10.t,bx15.t,bx21.t,o34.t,o35.t,o36.t,o37.t,o38.t,o39.t,bx54.t,bx59.t,o157⟩
  clear Rg bx5 bx10 bx15 bx21 o33 o34 o35 o36 o37 o38 o39 bx54 bx59 bH
  rintro g162 f160 w161 ⟨bH,zs3_c2,zs4_c2,zs36_c2,zs37_c2,zs38_c2,zs43_c2,zs44_c2,Rg,bx5,bx10,bx15,bx21,o34,o35,o36,o37,o38,o39,bx54,bx59,o102⟩
  refine ak (a6 rfl (lx (aJ (m:=0) (n:=1) zs44_c2 rfl (by omega)) (mi 1 (ab (eu (a7 (a6 rfl (lx (br (m:=1) (n:=2) rfl rfl) (ab (a7 (ag rfl rfl ?_)))))))))))
  refine am (a7 (aj (a7 (a6 rfl (mi 1 (lw (vi ((gI g.2 ↑e_c2).2)) (eo eS ap zs43_c2 rfl (by decide) (by decide) rfl) (ai 1 (ai ((gI g.2 ↑e_c2).2) (ab ?_)))))))))
  refine dD (σ:=ax) (λgq f w=>aW w0 gq w/\f 3=vp b55 0/\f 4=vi ↑e_c2/\f 36=g_v/\f 37=vi (g.2.length:Int)/\f 38=vi ↑e_c2/\f 43=vg [vi ((gI g.2 ↑e_c2).1),vi ((gI g.2 ↑e_c2).2)]/\f 44=vi 1/\Sl gq (is 0) w g_v g.2/\Bx gq (is 1) w b3 [vi g.1,g_v]/\Bx gq (is 2) w b8 [vn,vn,vi 0]/\Bx gq (is 3) w b13 [vn,vn,vi 0]/\Bx gq (is 4) w b19 [vi g.1,g_v]/\Ow gq (is 7) (is 7) w v44 (List.replicate (Int.toNat g.1) (0:Int))/\Ow gq (is 8) (is 8) w v45 (List.replicate (Int.toNat g.1) (0:Int))/\Ow gq (is 9) (is 9) w v46 (List.replicate (Int.toNat g.1) (0:Int))/\Ow gq (is 10) (is 10) w v47 (List.replicate (Int.toNat g.1) (0:Int))/\Ow gq (is 11) (is 11) w v48 (List.replicate (Int.toNat (g.2.length:Int)) false)/\Ow gq (is 12) (is 12) w v49 (List.replicate (Int.toNat (g.2.length:Int)) (0:Int))/\Bx gq (is 13) w b53 [vi g.1,g_v,v43,v44,v45,v46,v47,vi 0,vn,v48,v49,vi 0,(.nilFunc)]/\Bx gq (is 14) w b55 [vp b53 0]/\dr gq 6 w v43 (List.set (List.set O_c2 (Int.toNat ((gI g.2 ↑e_c2).1)) (gI O_c2 ((gI g.2 ↑e_c2).1)++[(2*(e_c2:Int))+0])) (Int.toNat ((gI g.2 ↑e_c2).2)) (gI (List.set O_c2 (Int.toNat ((gI g.2 ↑e_c2).1)) (gI O_c2 ((gI g.2 ↑e_c2).1)++[(2*(e_c2:Int))+0])) ((gI g.2 ↑e_c2).2)++[(2*(e_c2:Int))+1]))) g162 (inl [6]) jE ?_ ?_
  ·
   intro mid
   intro w164 ch163
   refine ht 0 rfl (bg.refl _ _ _) (λw' hw'=>a8 bZ zs3_c2 bx59.t rfl) (ht (v:=vp b53 0) 1 rfl (bg.refl _ _ _) (λw' hw'=>ae rfl) (ht 2 rfl (bg.refl _ _ _) (λw' hw'=>aa cO rfl rfl rfl rfl) ?_))
   refine ht 3 rfl (bg.refl _ _ _) (λw' hw'=>a8 it rfl bx54.t rfl) (ht (v:=vi ((gI g.2 ↑e_c2).2)) 4 rfl (bg.refl _ _ _) (λw' hw'=>ar rfl) (ht 5 rfl (bg.refl _ _ _) (λw' hw'=>a8 bZ zs3_c2 bx59.t rfl) (ht (v:=vp b53 0) 6 rfl (bg.refl _ _ _) (λw' hw'=>ae rfl) (ht 7 rfl (bg.refl _ _ _) (λw' hw'=>aa cO rfl rfl rfl rfl) (ht 8 rfl (bg.refl _ _ _) (λw' hw'=>a8 it rfl bx54.t rfl) (ht (v:=vi ((gI g.2 ↑e_c2).2)) 9 rfl (bg.refl _ _ _) (λw' hw'=>ar rfl) (ht (v:=vi ↑e_c2) 12 rfl (bg.refl _ _ _) (λw' hw'=>ar zs4_c2) ?_)))))))
   refine ht 13 rfl (bg.refl _ _ _) (λw' hw'=>kb (m:=2) (n:=↑e_c2) rfl rfl (by omega)) (ht (v:=vi 1) 14 rfl (bg.refl _ _ _) (λw' hw'=>ar rfl) (ht 15 rfl (bg.refl _ _ _) (λw' hw'=>aJ (m:=2*(e_c2:Int)) (n:=1) rfl rfl (by omega)) ?_))
   refine cj 10 [16] (by kernel_rfl) ⟨ca 10 rfl (by kernel_rfl) rfl ?_,ca 16 rfl (by kernel_rfl) rfl ?_,trivial⟩
   ·
    refine ao (v:=Value.pointer (some (bu v43 1 (Int.toNat ((gI g.2 ↑e_c2).2))))) (ad (α:=List Int) (xs:=(List.set O_c2 (Int.toNat ((gI g.2 ↑e_c2).1)) (gI O_c2 ((gI g.2 ↑e_c2).1)++[(2*(e_c2:Int))+0]))) (v:=v43) (i:=(gI g.2 ↑e_c2).2) fh rfl rfl o102.t.sl rfl (by omega) (by(simp only[List.length_set,List.length_append,List.length_cons,List.length_nil,List.length_replicate,List.length_map,List.length_take,List.length_drop];omega))) ?_
    refine⟨(bg.refl _ _ _),?_⟩
    refine cj 11 [16] (by kernel_rfl) ⟨ca 11 rfl (by kernel_rfl) rfl ?_,ca 16 rfl (by kernel_rfl) rfl ?_,trivial⟩
    ·
     obtain⟨v165,cel166,r167⟩:=cG (r:=(gI g.2 ↑e_c2).2) (o102.a ch163) (by omega) (by(simp only[List.length_set,List.length_append,List.length_cons,List.length_nil,List.length_replicate,List.length_map,List.length_take,List.length_drop];omega))
     refine ao (v:=v165) (cv b9 rfl cel166) ?_
     refine⟨(bg.refl _ _ _),?_⟩
     refine bY 16 rfl (aq (α:=Int) g162 (is 16) (is 16) (16,0) rfl [(2*(e_c2:Int))+1] bF ap (by decide) (by decide) (vs:=[(0,vi ((2*(e_c2:Int))+1))]) rfl rfl (.cons rfl .nil) ?_)
     intro g168 w169 v170 ch171 o172
     have hs173:bg (inl [6]) _ _ _ _:=ch171.n
     refine⟨hs173.same,?_⟩
     refine bY 17 rfl ?_
     refine aS (α:=Int) (xs:=(gI (List.set O_c2 (Int.toNat ((gI g.2 ↑e_c2).1)) (gI O_c2 ((gI g.2 ↑e_c2).1)++[(2*(e_c2:Int))+0])) ((gI g.2 ↑e_c2).2))) (ys:=([(2*(e_c2:Int))+1])) g168 (J:=row 6 (Int.toNat ((gI g.2 ↑e_c2).2)+1)) (S:=row 6 (Int.toNat ((gI g.2 ↑e_c2).2)+1)) (6,Int.toNat ((gI g.2 ↑e_c2).2)+1) rfl bF ap (by decide) rfl rfl rfl r167.t o172.flat (by decide) (by(simp;omega)) ?_
     intro g174 w175 v176 ch177 o178
     have o179:=(o102.a ch171).rowchg ch177
     clear o102 cel166 r167
     have hs180:=hs173.seq (ch177.lr rfl)
     refine⟨hs180.same,?_⟩
     refine bY 18 rfl ?_
     obtain⟨us181,hl182,r183⟩:=o179.vc
     try simp only[List.length_set,List.length_append,List.length_cons,List.length_nil] at hl182
     refine ao (v:=Value.pointer (some (bu v43 1 (Int.toNat ((gI g.2 ↑e_c2).2))))) (ad (α:=Vc) (xs:=us181) (v:=v43) (i:=(gI g.2 ↑e_c2).2) fh rfl rfl r183 rfl (by omega) (by omega)) ?_
     refine⟨hs180.same,?_⟩
     refine bY 19 rfl (bT (r:=(gI g.2 ↑e_c2).2) b9 rfl rfl o179 o178 (by omega) (by(simp only[List.length_set,List.length_append,List.length_cons,List.length_nil,List.length_replicate,List.length_map,List.length_take,List.length_drop];omega)) ?_)
     intro w187 ch188 o189
     clear o179 o178
     have hs190:=hs180.seq (ch188.l rfl)
     refine⟨hs190.same,?_⟩
     refine ce (by kernel_rfl) ?_
     exact mid (g174) _ _ ⟨bH.t,zs3_c2,zs4_c2,zs36_c2,zs37_c2,zs38_c2,zs43_c2,rfl,Rg.t,bx5.t,bx10.t,bx15.t,bx21.t,o34.t,o35.t,o36.t,o37.t,o38.t,o39.t,bx54.t,bx59.t,o189⟩
    ·
     refine aq (α:=Int) g162 (is 16) (is 16) (16,0) rfl [(2*(e_c2:Int))+1] bF ap (by decide) (by decide) (vs:=[(0,vi ((2*(e_c2:Int))+1))]) rfl rfl (.cons rfl .nil) ?_
     intro g192 w193 v194 ch195 o196
     have hs197:bg (inl [6]) _ _ _ _:=ch195.n
     refine⟨hs197.same,?_⟩
     refine bY 11 rfl ?_
     obtain⟨v198,cel199,r200⟩:=cG (r:=(gI g.2 ↑e_c2).2) (o102.a ch195) (by omega) (by(simp only[List.length_set,List.length_append,List.length_cons,List.length_nil,List.length_replicate,List.length_map,List.length_take,List.length_drop];omega))
     refine ao (v:=v198) (cv b9 rfl cel199) ?_
     refine⟨hs197.same,?_⟩
     refine bY 17 rfl (aS (α:=Int) (xs:=(gI (List.set O_c2 (Int.toNat ((gI g.2 ↑e_c2).1)) (gI O_c2 ((gI g.2 ↑e_c2).1)++[(2*(e_c2:Int))+0])) ((gI g.2 ↑e_c2).2))) (ys:=([(2*(e_c2:Int))+1])) g192 (J:=row 6 (Int.toNat ((gI g.2 ↑e_c2).2)+1)) (S:=row 6 (Int.toNat ((gI g.2 ↑e_c2).2)+1)) (6,Int.toNat ((gI g.2 ↑e_c2).2)+1) rfl bF ap (by decide) rfl rfl rfl r200 o196.flat (by decide) (by(simp;omega)) ?_)
     intro g201 w202 v203 ch204 o205
     have o206:=(o102.a ch195).rowchg ch204
     clear o102 cel199 r200
     have hs207:=hs197.seq (ch204.lr rfl)
     refine⟨hs207.same,?_⟩
     refine bY 18 rfl ?_
     obtain⟨us208,hl209,r210⟩:=o206.vc
     try simp only[List.length_set,List.length_append,List.length_cons,List.length_nil] at hl209
     refine ao (v:=Value.pointer (some (bu v43 1 (Int.toNat ((gI g.2 ↑e_c2).2))))) (ad (α:=Vc) (xs:=us208) (v:=v43) (i:=(gI g.2 ↑e_c2).2) fh rfl rfl r210 rfl (by omega) (by omega)) ?_
     refine⟨hs207.same,?_⟩
     refine bY 19 rfl (bT (r:=(gI g.2 ↑e_c2).2) b9 rfl rfl o206 o205 (by omega) (by(simp only[List.length_set,List.length_append,List.length_cons,List.length_nil,List.length_replicate,List.length_map,List.length_take,List.length_drop];omega)) ?_)
     intro w214 ch215 o216
     clear o206 o205
     have hs217:=hs207.seq (ch215.l rfl)
     refine⟨hs217.same,?_⟩
     refine ce (by kernel_rfl) ?_
     exact mid (g201) _ _ ⟨bH.t,zs3_c2,zs4_c2,zs36_c2,zs37_c2,zs38_c2,zs43_c2,rfl,Rg.t,bx5.t,bx10.t,bx15.t,bx21.t,o34.t,o35.t,o36.t,o37.t,o38.t,o39.t,bx54.t,bx59.t,o216⟩
   ·
    refine aq (α:=Int) g162 (is 16) (is 16) (16,0) rfl [(2*(e_c2:Int))+1] bF ap (by decide) (by decide) (vs:=[(0,vi ((2*(e_c2:Int))+1))]) rfl rfl (.cons rfl .nil) ?_
    intro g219 w220 v221 ch222 o223
    have hs224:bg (inl [6]) _ _ _ _:=ch222.n
    refine⟨hs224.same,?_⟩
    refine bY 10 rfl ?_
    refine ao (v:=Value.pointer (some (bu v43 1 (Int.toNat ((gI g.2 ↑e_c2).2))))) (ad (α:=List Int) (xs:=(List.set O_c2 (Int.toNat ((gI g.2 ↑e_c2).1)) (gI O_c2 ((gI g.2 ↑e_c2).1)++[(2*(e_c2:Int))+0]))) (v:=v43) (i:=(gI g.2 ↑e_c2).2) fh rfl rfl o102.t.sl rfl (by omega) (by(simp only[List.length_set,List.length_append,List.length_cons,List.length_nil,List.length_replicate,List.length_map,List.length_take,List.length_drop];omega))) ?_
    refine⟨hs224.same,?_⟩
    refine bY 11 rfl ?_
    obtain⟨v225,cel226,r227⟩:=cG (r:=(gI g.2 ↑e_c2).2) (o102.a ch222) (by omega) (by(simp only[List.length_set,List.length_append,List.length_cons,List.length_nil,List.length_replicate,List.length_map,List.length_take,List.length_drop];omega))
    refine ao (v:=v225) (cv b9 rfl cel226) ?_
    refine⟨hs224.same,?_⟩
    refine bY 17 rfl (aS (α:=Int) (xs:=(gI (List.set O_c2 (Int.toNat ((gI g.2 ↑e_c2).1)) (gI O_c2 ((gI g.2 ↑e_c2).1)++[(2*(e_c2:Int))+0])) ((gI g.2 ↑e_c2).2))) (ys:=([(2*(e_c2:Int))+1])) g219 (J:=row 6 (Int.toNat ((gI g.2 ↑e_c2).2)+1)) (S:=row 6 (Int.toNat ((gI g.2 ↑e_c2).2)+1)) (6,Int.toNat ((gI g.2 ↑e_c2).2)+1) rfl bF ap (by decide) rfl rfl rfl r227 o223.flat (by decide) (by(simp;omega)) ?_)
    intro g228 w229 v230 ch231 o232
    have o233:=(o102.a ch222).rowchg ch231
    clear o102 cel226 r227
    have hs234:=hs224.seq (ch231.lr rfl)
    refine⟨hs234.same,?_⟩
    refine bY 18 rfl ?_
    obtain⟨us235,hl236,r237⟩:=o233.vc
    try simp only[List.length_set,List.length_append,List.length_cons,List.length_nil] at hl236
    refine ao (v:=Value.pointer (some (bu v43 1 (Int.toNat ((gI g.2 ↑e_c2).2))))) (ad (α:=Vc) (xs:=us235) (v:=v43) (i:=(gI g.2 ↑e_c2).2) fh rfl rfl r237 rfl (by omega) (by omega)) ?_
    refine⟨hs234.same,?_⟩
    refine bY 19 rfl (bT (r:=(gI g.2 ↑e_c2).2) b9 rfl rfl o233 o232 (by omega) (by(simp only[List.length_set,List.length_append,List.length_cons,List.length_nil,List.length_replicate,List.length_map,List.length_take,List.length_drop];omega)) ?_)
    intro w241 ch242 o243
    clear o233 o232
    have hs244:=hs234.seq (ch242.l rfl)
    refine⟨hs244.same,?_⟩
    refine ce (by kernel_rfl) ?_
    exact mid (g228) _ _ ⟨bH.t,zs3_c2,zs4_c2,zs36_c2,zs37_c2,zs38_c2,zs43_c2,rfl,Rg.t,bx5.t,bx10.t,bx15.t,bx21.t,o34.t,o35.t,o36.t,o37.t,o38.t,o39.t,bx54.t,bx59.t,o243⟩
  clear Rg bx5 bx10 bx15 bx21 o34 o35 o36 o37 o38 o39 bx54 bx59 o102 bH
  rintro g248 f246 w247 ⟨bH,zs3_c2,zs4_c2,zs36_c2,zs37_c2,zs38_c2,zs43_c2,zs44_c2,Rg,bx5,bx10,bx15,bx21,o34,o35,o36,o37,o38,o39,bx54,bx59,o189⟩
  refine ak (a6 rfl (lx (aJ (m:=1) (n:=1) zs44_c2 rfl (by omega)) (mi 2 (ab (eu (a7 (a6 rfl (lx (br (m:=2) (n:=2) rfl rfl) (ab (a7 (af rfl rfl ?_)))))))))))
  refine aF rfl (ak (a6 rfl (lx (aJ (m:=↑e_c2) (n:=1) zs38_c2 rfl (by omega)) (mi ((e_c2:Int)+1) (ab ?_)))))
  refine back3_c2 (e_c2+1,(List.set (List.set O_c2 (Int.toNat ((gI g.2 ↑e_c2).1)) (gI O_c2 ((gI g.2 ↑e_c2).1)++[(2*(e_c2:Int))+0])) (Int.toNat ((gI g.2 ↑e_c2).2)) (gI (List.set O_c2 (Int.toNat ((gI g.2 ↑e_c2).1)) (gI O_c2 ((gI g.2 ↑e_c2).1)++[(2*(e_c2:Int))+0])) ((gI g.2 ↑e_c2).2)++[(2*(e_c2:Int))+1])),g248) _ _ ⟨bH,zs3_c2,zs36_c2,zs37_c2,rfl,Rg,bx5,bx10,bx15,bx21,o189,o34,o35,o36,o37,o38,o39,bx54,bx59,by omega,?_⟩ ?_
  · show dW (List.set (List.set O_c2 (Int.toNat ((gI g.2 ↑e_c2).1)) (gI O_c2 ((gI g.2 ↑e_c2).1)++[(2*(e_c2:Int))+0])) (Int.toNat ((gI g.2 ↑e_c2).2)) (gI (List.set O_c2 (Int.toNat ((gI g.2 ↑e_c2).1)) (gI O_c2 ((gI g.2 ↑e_c2).1)++[(2*(e_c2:Int))+0])) ((gI g.2 ↑e_c2).2)++[(2*(e_c2:Int))+1])) g (e_c2+1)
    exact hov_c2.next he1 he2 he3 he4 (by omega) (by omega)
  · show Int.toNat (_-_)<Int.toNat (_-_)
    omega
 refine af rfl (df p3_c2) (aF rfl (a7 (a7 (a6 rfl (lx (a8 bZ zs3_c2 bx59 rfl) (lw (vp b53 0) (ae rfl) (lx (aa cO rfl rfl rfl rfl) (lx (a8 b9 rfl bx54 rfl) ?_))))))))
 have len249:=(o36.flat).small
 refine lx (bG bF rfl o36.flat) (mi 0 (ab (aj ?_)))
 refine aR (σ:=Nat×(List Int)×ax) (λ⟨q_c2,by_c2,gq⟩ f w=>aW w0 gq w/\f 3=vp b55 0/\f 73=vi (List.length (List.replicate (Int.toNat g.1) (0:Int)):Int)/\f 74=vi ↑q_c2/\Sl gq (is 0) w g_v g.2/\Bx gq (is 1) w b3 [vi g.1,g_v]/\Bx gq (is 2) w b8 [vn,vn,vi 0]/\Bx gq (is 3) w b13 [vn,vn,vi 0]/\Bx gq (is 4) w b19 [vi g.1,g_v]/\dr gq 6 w v43 O_c2/\Ow gq (is 7) (is 7) w v44 (List.replicate (Int.toNat g.1) (0:Int))/\Ow gq (is 8) (is 8) w v45 (List.replicate (Int.toNat g.1) (0:Int))/\Ow gq (is 9) (is 9) w v46 by_c2/\Ow gq (is 10) (is 10) w v47 (List.replicate (Int.toNat g.1) (0:Int))/\Ow gq (is 11) (is 11) w v48 (List.replicate (Int.toNat (g.2.length:Int)) false)/\Ow gq (is 12) (is 12) w v49 (List.replicate (Int.toNat (g.2.length:Int)) (0:Int))/\Bx gq (is 13) w b53 [vi g.1,g_v,v43,v44,v45,v46,v47,vi 0,vn,v48,v49,vi 0,(.nilFunc)]/\Bx gq (is 14) w b55 [vp b53 0]/\(q_c2:Int)<=((List.length (List.replicate (Int.toNat g.1) (0:Int)):Int):Int)/\(by_c2=List.replicate q_c2 (-1)++List.replicate (Int.toNat g.1-q_c2) 0)) (λ⟨q_c2,by_c2,gq⟩=>Int.toNat (((List.length (List.replicate (Int.toNat g.1) (0:Int)):Int):Int)-(q_c2:Int))) (0,(List.replicate (Int.toNat g.1) (0:Int)),g66) ?_ ?_
 · exact⟨bH,zs3_c2,rfl,rfl,Rg,bx5,bx10,bx15,bx21,o33.t,o34,o35,o36,o37,o38,o39,bx54,bx59,by omega,by simp⟩
 clear Rg bx5 bx10 bx15 bx21 o33 o34 o35 o36 o37 o38 o39 bx54 bx59 bH
 rintro⟨q_c2,by_c2,g252⟩ f250 w251 ⟨bH,zs3_c2,zs73_c2,zs74_c2,Rg,bx5,bx10,bx15,bx21,o33,o34,o35,o36,o37,o38,o39,bx54,bx59,hle_q_c2,hby_c2⟩ back12_c2
 have hqz_c2:(q_c2:Int)<=g.1:=by rw[<-hrz];omega
 have hbl_c2:=C6 hby_c2 (by omega)
 refine a7 (a6 rfl (lx (br (m:=↑q_c2) (n:=(List.length (List.replicate (Int.toNat g.1) (0:Int)):Int)) zs74_c2 zs73_c2) (ab (a7 ?_))))
 by_cases p12_c2:(q_c2:Int)<(List.length (List.replicate (Int.toNat g.1) (0:Int)):Int)
 ·
  refine ag rfl (dt p12_c2) (am (a7 (aj (a7 (a6 rfl (mz zs74_c2 (ai (q_c2:Int) (ab (a6 rfl (lx (a8 bZ zs3_c2 bx59 rfl) (lw (vp b53 0) (ae rfl) ?_)))))))))))
  refine lx (aa cO rfl rfl rfl rfl) (lx (a8 b9 rfl bx54 rfl) (mi ↑q_c2 (lx (ad (v:=v46) (i:=↑q_c2) bF rfl rfl o36.flat rfl (by omega) (by omega)) (lo (aU (i:=↑q_c2) (-1) ap rfl rfl o36 (by omega) (by omega) rfl ?_)))))
  intro w253 ch254 bx255
  clear o36
  refine ab (ak (a6 rfl (lx (aJ (m:=↑q_c2) (n:=1) zs74_c2 rfl (by omega)) (mi ((q_c2:Int)+1) (ab ?_)))))
  refine back12_c2 (q_c2+1,(List.set by_c2 (Int.toNat ↑q_c2) (-1)),g252) _ _ ⟨bH.t,zs3_c2,zs73_c2,rfl,Rg.t,bx5.t,bx10.t,bx15.t,bx21.t,o33.t,o34.t,o35.t,bx255,o37.t,o38.t,o39.t,bx54.t,bx59.t,by omega,?_⟩ ?_
  · show(List.set by_c2 (Int.toNat ↑q_c2) (-1))=List.replicate (q_c2+1) (-1)++List.replicate (Int.toNat g.1-(q_c2+1)) 0
    exact xa hby_c2 (by omega)
  · show Int.toNat (_-_)<Int.toNat (_-_)
    omega
 refine af rfl (df p12_c2) (aF rfl (a7 (a6 rfl (lx (a8 bZ zs3_c2 bx59 rfl) (lw (Value.func (.func 121) #[] (List.toArray [vp b55 0])) (ez (vals:=[vp b55 0]) (fI zs3_c2 rfl)) (lw (vp b53 0) (ae rfl) (lx (aa cO rfl rfl rfl rfl) (lo (aA (cs':=[vi g.1,g_v,v43,v44,v45,v46,v47,vi 0,vn,v48,v49,vi 0,Value.func (.func 121) #[] (List.toArray [vp b55 0])]) lK rfl rfl bx54 rfl nq (AllOne.all (.cons rfl .nil)) rfl ?_)))))))))
 intro w256 ch257 bx258
 clear bx54
 refine ab (a7 (a6 rfl ?_))
 refine lx (a8 bZ zs3_c2 bx59.t rfl) (ma (vp b53 0) (ab (az (vs:=[vp b53 0]) Tryz.func94 (.tmp rfl .nil) ?_)))
 refine⟨vp b53 0,rfl,?_⟩
 refine ma (vp b53 0) (ab (a7 (a7 ?_)))
 have hO:=hov_c2.first (by omega)
 refine a6 rfl (lx (aa dK rfl rfl rfl rfl) ?_)
 refine lx (a8 ap rfl bx21.t rfl) (mi 0 (ab (aj ?_)))
 clear bx21
 refine aR (σ:=Int×Value×(List Int)×Int×Nat×(List Int)×(List Int)×(List Int)×(List Int)×(List Bool)×(List Int)×ax) (λ⟨fo_c1,ed_c1_v,ed_c1,co_c1,v_c1,pl_c1,lo_c1,by_c1,nx_c1,la_c1,bl_c1,gq⟩ f w=>aW w0 gq w/\f 3=vp b53 0/\f 8=vi g.1/\f 9=vi ↑v_c1/\Sl gq (is 0) w g_v g.2/\Bx gq (is 1) w b3 [vi g.1,g_v]/\Bx gq (is 2) w b8 [vn,vn,vi 0]/\Bx gq (is 3) w b13 [vn,vn,vi 0]/\dr gq 6 w v43 O_c2/\Ow gq (is 7) (is 7) w v44 pl_c1/\Ow gq (is 8) (is 8) w v45 lo_c1/\Ow gq (is 9) (is 9) w v46 by_c1/\Ow gq (is 10) (is 10) w v47 nx_c1/\Ow gq (is 11) (is 11) w v48 la_c1/\Ow gq (is 12) (is 12) w v49 bl_c1/\Bx gq (is 14) w b55 [vp b53 0]/\Bx gq (is 13) w b53 [vi g.1,g_v,v43,v44,v45,v46,v47,vi fo_c1,ed_c1_v,v48,v49,vi co_c1,Value.func (.func 121) #[] (List.toArray [vp b55 0])]/\Ow gq (is 19) (is 19) w ed_c1_v ed_c1/\(v_c1:Int)<=(g.1:Int)/\(bs pl_c1 lo_c1 by_c1 nx_c1 fo_c1 ed_c1 la_c1 bl_c1 co_c1=il g v_c1)) (λ⟨fo_c1,ed_c1_v,ed_c1,co_c1,v_c1,pl_c1,lo_c1,by_c1,nx_c1,la_c1,bl_c1,gq⟩=>Int.toNat ((g.1:Int)-(v_c1:Int))) (0,vn,[],0,0,(List.replicate (Int.toNat g.1) (0:Int)),(List.replicate (Int.toNat g.1) (0:Int)),by_c2,(List.replicate (Int.toNat g.1) (0:Int)),(List.replicate (Int.toNat (g.2.length:Int)) false),(List.replicate (Int.toNat (g.2.length:Int)) (0:Int)),g252) ?_ ?_
 · exact⟨bH.t,rfl,rfl,rfl,Rg.t,bx5.t,bx10.t,bx15.t,o33.t,o34.t,o35.t,o36.t,o37.t,o38.t,o39.t,bx59.t,bx258,Ow.nil,by omega,by exact Ek hby_c2 (by rw[<-hrz];omega)⟩
 clear Rg bx5 bx10 bx15 o33 o34 o35 o36 o37 o38 o39 bx59 bx258 bH
 rintro⟨fo_c1,ed_c1_v,ed_c1,co_c1,v_c1,pl_c1,lo_c1,by_c1,nx_c1,la_c1,bl_c1,g261⟩ f259 w260 ⟨bH,zs3_c1,zs8_c1,zs9_c1,Rg,bx5,bx10,bx15,o33,o34,o35,o36,o37,o38,o39,bx59,bx258,o_ed_c1,hle_v_c1,hal_c1⟩ back3_c1
 have hsi_c1:ga g (bs pl_c1 lo_c1 by_c1 nx_c1 fo_c1 ed_c1 la_c1 bl_c1 co_c1) []:=by rw[hal_c1];exact CS hm v_c1 (by omega)
 have hl1_c1:(pl_c1.length:Int)=g.1:=hsi_c1.l1
 have hl2_c1:(lo_c1.length:Int)=g.1:=hsi_c1.l2
 have hl3_c1:(by_c1.length:Int)=g.1:=hsi_c1.l3
 have hl4_c1:(nx_c1.length:Int)=g.1:=hsi_c1.l4
 have hl5_c1:(la_c1.length:Int)=g.2.length:=hsi_c1.l5
 have hl6_c1:(bl_c1.length:Int)=g.2.length:=hsi_c1.l6
 obtain⟨hb1_c1,hb2_c1,hb3_c1,hb4_c1⟩:0<=fo_c1/\fo_c1<=g.1/\0<=co_c1/\co_c1+(ed_c1.length:Int)<=(g.2.length:Int):=xH (s:=bs pl_c1 lo_c1 by_c1 nx_c1 fo_c1 ed_c1 la_c1 bl_c1 co_c1) hsi_c1
 refine a7 (a6 rfl (lx (br (m:=↑v_c1) (n:=g.1) zs9_c1 zs8_c1) (ab (a7 ?_))))
 by_cases p3_c1:(v_c1:Int)<g.1
 ·
  refine ag rfl (dt p3_c1) (am (a7 (aj (a7 (a6 rfl (mz zs9_c1 (ai (v_c1:Int) (ab (a7 (a6 rfl (mz zs3_c1 (lw (vp b53 0) (ae rfl) ?_))))))))))))
  refine lx (aa cO rfl rfl rfl rfl) (lx (a8 b9 rfl bx258 rfl) (mi ↑v_c1 (lx (ad (v:=v44) (i:=↑v_c1) bF rfl rfl o34.flat rfl (by omega) (by omega)) (lx (aw (v:=v44) (i:=↑v_c1) ap rfl o34.flat (by omega) (by omega) (by decide) rfl) (lx (dd (m:=(gI pl_c1 ↑v_c1)) (n:=0) rfl rfl) (ab ?_))))))
  by_cases p5_c1:(gI pl_c1 ↑v_c1)=0
  ·
   refine ag rfl (dt p5_c1) (a6 rfl (mz zs3_c1 (mi ↑v_c1 (lo ?_))))
   refine bB (σ:=Int×Value×(List Int)×Int×(List Int)×(List Int)×(List Int)×(List Int)×(List Bool)×(List Int)×ax) (V:=λ⟨fo_c3,ed_c3_v,ed_c3,co_c3,pl_c3,lo_c3,by_c3,nx_c3,la_c3,bl_c3,gq⟩=>vt []) (S:=λ⟨fo_c3,ed_c3_v,ed_c3,co_c3,pl_c3,lo_c3,by_c3,nx_c3,la_c3,bl_c3,gq⟩ w=>aW w0 gq w/\Sl gq (is 0) w g_v g.2/\Bx gq (is 1) w b3 [vi g.1,g_v]/\Bx gq (is 2) w b8 [vn,vn,vi 0]/\Bx gq (is 3) w b13 [vn,vn,vi 0]/\dr gq 6 w v43 O_c2/\Ow gq (is 7) (is 7) w v44 pl_c3/\Ow gq (is 8) (is 8) w v45 lo_c3/\Ow gq (is 9) (is 9) w v46 by_c3/\Ow gq (is 10) (is 10) w v47 nx_c3/\Ow gq (is 11) (is 11) w v48 la_c3/\Ow gq (is 12) (is 12) w v49 bl_c3/\Bx gq (is 14) w b55 [vp b53 0]/\Bx gq (is 13) w b53 [vi g.1,g_v,v43,v44,v45,v46,v47,vi fo_c3,ed_c3_v,v48,v49,vi co_c3,Value.func (.func 121) #[] (List.toArray [vp b55 0])]/\Ow gq (is 19) (is 19) w ed_c3_v ed_c3/\((bs pl_c3 lo_c3 by_c3 nx_c3 fo_c3 ed_c3 la_c3 bl_c3 co_c3)=gF g (bs pl_c1 lo_c1 by_c1 nx_c1 fo_c1 ed_c1 la_c1 bl_c1 co_c1) (v_c1:Int))) (aB (vals:=[vp b53 0,vi ↑v_c1]) Tryz.func95 Cs BR rfl) (nB bH Rg bx5 bx10 bx15 o33 o34 o35 o36 o37 o38 o39 bx59 bx258 o_ed_c1 hm hO hov_c2 (by omega) ‹_› (by omega) (by omega) ‹_›) ?_
   clear Rg bx5 bx10 bx15 o33 o34 o35 o36 o37 o38 o39 bx59 bx258 o_ed_c1 bH
   rintro⟨fo_c3,ed_c3_v,ed_c3,co_c3,pl_c3,lo_c3,by_c3,nx_c3,la_c3,bl_c3,g439⟩ w438 ⟨bH,Rg,bx5,bx10,bx15,o33,o34,o35,o36,o37,o38,o39,bx59,bx258,o_ed_c3,hfj_c3⟩
   refine ab (ak (a6 rfl (lx (aJ (m:=↑v_c1) (n:=1) zs9_c1 rfl (by omega)) (mi ((v_c1:Int)+1) (ab ?_)))))
   refine back3_c1 (fo_c3,ed_c3_v,ed_c3,co_c3,v_c1+1,pl_c3,lo_c3,by_c3,nx_c3,la_c3,bl_c3,g439) _ _ ⟨bH,zs3_c1,zs8_c1,rfl,Rg,bx5,bx10,bx15,o33,o34,o35,o36,o37,o38,o39,bx59,bx258,o_ed_c3,by omega,?_⟩ ?_
   · show bs pl_c3 lo_c3 by_c3 nx_c3 fo_c3 ed_c3 la_c3 bl_c3 co_c3=il g (v_c1+1)
     exact C5 hal_c1 ‹_› ‹_›
   · show Int.toNat (_-_)<Int.toNat (_-_)
     omega
  refine af rfl (df p5_c1) (am (ak (a6 rfl (lx (aJ (m:=↑v_c1) (n:=1) zs9_c1 rfl (by omega)) (mi ((v_c1:Int)+1) (ab ?_))))))
  refine back3_c1 (fo_c1,ed_c1_v,ed_c1,co_c1,v_c1+1,pl_c1,lo_c1,by_c1,nx_c1,la_c1,bl_c1,g261) _ _ ⟨bH,zs3_c1,zs8_c1,rfl,Rg,bx5,bx10,bx15,o33,o34,o35,o36,o37,o38,o39,bx59,bx258,o_ed_c1,by omega,?_⟩ ?_
  · show bs pl_c1 lo_c1 by_c1 nx_c1 fo_c1 ed_c1 la_c1 bl_c1 co_c1=il g (v_c1+1)
    exact E2 hal_c1 ‹_›
  · show Int.toNat (_-_)<Int.toNat (_-_)
    omega
 refine af rfl (df p3_c1) (aF rfl (a7 (a6 rfl (mz zs3_c1 (ma (vp b53 0) (ab (az (vs:=[vp b53 0]) Tryz.func83 (.tmp rfl .nil) ?_)))))))
 refine⟨vp b53 0,rfl,?_⟩
 refine lw (vp b53 0) (ae rfl) (lx (aa cO rfl rfl rfl rfl) (lx (a8 b9 rfl bx258 rfl) (lo (bB (aB (vals:=[v49]) Tryz.func82 Bw Bq rfl) (xA w260 bl_c1 v49 (o39.flat).ro) ?_))))
 rintro⟨d441,v443⟩ w440 ⟨fr442,o444⟩
 obtain⟨g445,ch446,G445⟩:=hU g261 fr442 (λn=>if n=1 then 21 else 0)
 replace o444:=o444.gl G445 21
 refine mv (vt [v443,vi ((bL bl_c1 bl_c1.length).1.length:Int)]) (lx (ay rfl rfl) (lx (ay rfl rfl) (lx (aa l8 rfl rfl rfl rfl) (lo ?_))))
 refine aC (cs':=[v443,vn,vi 0]) b9 rfl rfl bx15.t (aL o444.flat) nq (aM o444.flat) rfl ?_
 intro w447 ch448 bx449
 clear bx15
 refine lx (aa l8 rfl rfl rfl rfl) (lo (aA (cs':=[v443,vn,vi ((bL bl_c1 bl_c1.length).1.length:Int)]) ap rfl rfl bx449 rfl nq (AllOne.all (.cons rfl .nil)) rfl ?_))
 intro w450 ch451 bx452
 clear bx449
 refine ab (a7 ?_)
 clear o33 o34 o35 o36 o37 o38 o39 bx59 bx258 o_ed_c1
 have hvv:v_c1=Int.toNat g.1:=by omega
 have hbb:bl_c1=(il g (Int.toNat g.1)).block:=by rw[<-hvv,<-hal_c1]
 have hnam:=xP hbb hl6_c1
 have hof:(bL bl_c1 bl_c1.length).2=og g:=by rw[hnam];rfl
 have hofl:((bL bl_c1 bl_c1.length).2.length:Int)=g.2.length:=by rw[hof,uc]
 obtain⟨hcb0,hcb1⟩:=AZ g
 clear hle_e_c2 p3_c2 hle_q_c2 hqz_c2 hbl_c2 p12_c2 hle_v_c1 p3_c1 hl1_c1 hl2_c1 hl3_c1 hl4_c1 hl5_c1 hb1_c1 hb2_c1 hb3_c1 hb4_c1 hvv hrz hol_c2
 refine a6 rfl (lx (aa dK rfl rfl rfl rfl) ?_)
 refine lx (a8 ap rfl bx5.t rfl) (lo (dF (α:=Int) (l:=g.1) (cp:=g.1) g445 (is 22) (is 22) (22,0) rfl (0:Int) bF ap rfl rfl rfl (by omega) (by omega) (by omega) (by omega) ?_))
 intro g454 w455 v456 ch457 o458 hcap_
 clear hcap_
 refine ma v456 (ab (a7 (a6 rfl (lx (aa dK rfl rfl rfl rfl) ?_))))
 refine lx (a8 ap rfl bx5.t rfl) (lo (dF (α:=Bool) (l:=g.1) (cp:=g.1) g454 (is 23) (is 23) (23,0) rfl false j6 dA rfl rfl rfl (by omega) (by omega) (by omega) (by omega) ?_))
 intro g459 w460 v461 ch462 o463 hcap_
 clear hcap_
 refine ma v461 (ab (a7 (a7 (a6 rfl (lx (aa dK rfl rfl rfl rfl) ?_)))))
 refine lx (a8 bM rfl bx5.t rfl) ?_
 refine lx (bG eG rfl Rg.t) (mi 0 (ab (aj ?_)))
 clear bx5
 refine aR (σ:=Nat×(List Int)×(List Bool)×ax) (λ⟨k,oo,cc,gq⟩ f w=>aW w0 gq w/\f 2=vp b8 0/\f 3=vp b13 0/\f 4=v456/\f 5=v461/\f 30=g_v/\f 31=vi (g.2.length:Int)/\f 32=vi ↑k/\Sl gq (is 0) w g_v g.2/\Bx gq (is 2) w b8 [vn,vn,vi 0]/\Ow gq (is 21) (is 21) w v443 ((bL bl_c1 bl_c1.length).2)/\Bx gq (is 3) w b13 [v443,vn,vi ((bL bl_c1 bl_c1.length).1.length:Int)]/\Ow gq (is 22) (is 22) w v456 oo/\Ow gq (is 23) (is 23) w v461 cc/\(k:Int)<=((g.2.length:Int):Int)/\(fG (og g) g oo cc (2*k))) (λ⟨k,oo,cc,gq⟩=>Int.toNat (((g.2.length:Int):Int)-(k:Int))) (0,(List.replicate (Int.toNat g.1) (0:Int)),(List.replicate (Int.toNat g.1) false),g459) ?_ ?_
 · exact⟨bH.t,rfl,rfl,rfl,rfl,rfl,rfl,rfl,Rg.t,bx10.t,o444.t,bx452.t,o458.t,o463,by omega,by exact fG.start hm1⟩
 clear Rg bx10 o444 bx452 o458 o463 bH
 rintro⟨k,oo,cc,g468⟩ f466 w467 ⟨bH,zs2,zs3,zs4,zs5,zs30,zs31,zs32,Rg,bx10,o444,bx452,o458,o463,hle_k,hci⟩ back6
 have hci1:=hci.lo
 have hci2:=hci.lc
 refine a7 (a6 rfl (lx (br (m:=↑k) (n:=(g.2.length:Int)) zs32 zs31) (ab (a7 ?_))))
 by_cases p6:(k:Int)<(g.2.length:Int)
 ·
  refine ag rfl (dt p6) ?_
  obtain⟨⟨he1,he2⟩,he3,he4⟩:=hm4 _ (bz (xs:=g.2) (i:=↑k) (by omega) (by omega))
  have hoe:=DW g (i:=↑k) (by omega) (by omega)
  rw[<-hof] at hoe
  obtain⟨hoe0,hoe1⟩:=hoe
  refine am (a7 (aj (a7 (a6 rfl (mz zs32 (lx (ad (v:=g_v) (i:=↑k) eG rfl zs30 Rg zs32 (by omega) (by omega)) (lw (vg [vi ((gI g.2 ↑k).1),vi ((gI g.2 ↑k).2)]) (bW (v:=g_v) (i:=↑k) bm rfl Rg (by omega) (by omega) rfl) (lo (aZ g468 (is 24) (24,0) rfl bm ?_)))))))))
  intro g472 w469 b471 ch470 bx473
  refine ai (k:Int) (lo (aA (cs':=[vi ((gI g.2 ↑k).1),vi ((gI g.2 ↑k).2)]) bm rfl rfl bx473 rfl nq (AllOne.all (.cons rfl (.cons rfl .nil))) rfl ?_))
  intro w474 ch475 bx476
  clear bx473
  refine ab (a7 (a6 rfl (lx (av (ds:=[vi ((gI g.2 ↑k).1),vi ((gI g.2 ↑k).2)]) bm rfl bx476 rfl rfl) (mi 0 (ab (aj (gQ (a7 ?_))))))))
  clear bx476
  refine a6 rfl (lx (br (m:=0) (n:=2) rfl rfl) (ab (a7 (ag rfl rfl (am (a7 (aj (a7 ?_))))))))
  refine kM [false,true,false,false,false] (σ:=(List Int)×(List Bool)×ax) (λ⟨oo2,cc2,gq⟩ f w=>aW w0 gq w/\f 2=vp b8 0/\f 3=vp b13 0/\f 4=v456/\f 5=v461/\f 6=vi ↑k/\f 30=g_v/\f 31=vi (g.2.length:Int)/\f 32=vi ↑k/\f 37=vg [vi ((gI g.2 ↑k).1),vi ((gI g.2 ↑k).2)]/\f 38=vi 0/\Sl gq (is 0) w g_v g.2/\Bx gq (is 2) w b8 [vn,vn,vi 0]/\Ow gq (is 21) (is 21) w v443 ((bL bl_c1 bl_c1.length).2)/\Bx gq (is 3) w b13 [v443,vn,vi ((bL bl_c1 bl_c1.length).1.length:Int)]/\Ow gq (is 22) (is 22) w v456 oo2/\Ow gq (is 23) (is 23) w v461 cc2/\(fG (og g) g oo2 cc2 (2*k+0+1))) ?_ ?_
  ·
   intro mid_j1
   refine a6 rfl (lw (vi ((gI g.2 ↑k).1)) (eo eS ap rfl rfl (by decide) (by decide) rfl) (ai ((gI g.2 ↑k).1) (ab (a7 (bp g472 [0,1,2,3,4,5,6,7,8,9,10,11,12,13,14,15,16,17,18,19,20,21,22,23,24,25,26] jE ?_)))))
   intro w478 ch477
   refine xp (v:=v461) 0 rfl (λw=>ar zs5) (xp (v:=vi ((gI g.2 ↑k).1)) 1 rfl (λw=>ar rfl) (xp (v:=v461) 2 rfl (λw=>ar zs5) (xp (v:=vi ((gI g.2 ↑k).1)) 3 rfl (λw=>ar rfl) ?_)))
   refine xv 4 [3,2,1,0] rfl (ad (v:=v461) (i:=(gI g.2 ↑k).1) j6 rfl rfl o463.t.flat rfl (by omega) (by omega)) (xv 5 [4,3,2,1,0] rfl (aw (v:=v461) (i:=(gI g.2 ↑k).1) dA rfl o463.t.flat (by omega) (by omega) (by decide) rfl) (xp (v:=vb (gI cc ((gI g.2 ↑k).1))) 6 rfl (λw=>ar rfl) ?_))
   by_cases q47:(gI cc ((gI g.2 ↑k).1))=true
   ·
    refine bA 7 rfl (by kernel_rfl) (by kernel_rfl) (wn q47) (bA 8 rfl (by kernel_rfl) (by kernel_rfl) (wn q47) (bA 9 rfl (by kernel_rfl) (by kernel_rfl) (wn q47) (bA 10 rfl (by kernel_rfl) (by kernel_rfl) (wn q47) (bA 11 rfl (by kernel_rfl) (by kernel_rfl) (wn q47) (bA 12 rfl (by kernel_rfl) (by kernel_rfl) (wn q47) (bA 13 rfl (by kernel_rfl) (by kernel_rfl) (bR rfl rfl rfl) (bA 14 rfl (by kernel_rfl) (by kernel_rfl) (bR rfl rfl rfl) (bA 15 rfl (by kernel_rfl) (by kernel_rfl) (bR rfl rfl rfl) (bA 16 rfl (by kernel_rfl) (by kernel_rfl) (bR rfl rfl rfl) ?_)))))))))
    refine bA 17 rfl (by kernel_rfl) (by kernel_rfl) (bR rfl rfl rfl) (bA 18 rfl (by kernel_rfl) (by kernel_rfl) (bR rfl rfl rfl) (bA 19 rfl (by kernel_rfl) (by kernel_rfl) (bR rfl rfl rfl) (bA 20 rfl (by kernel_rfl) (by kernel_rfl) (bR rfl rfl rfl) (bA 21 rfl (by kernel_rfl) (by kernel_rfl) (bR rfl rfl rfl) (bA 22 rfl (by kernel_rfl) (by kernel_rfl) (bR rfl rfl rfl) (bA 23 rfl (by kernel_rfl) (by kernel_rfl) (bR rfl rfl rfl) (bA 24 rfl (by kernel_rfl) (by kernel_rfl) (wn q47) (xp (v:=vb true) 25 rfl (λw=>bh rfl q47 rfl) (xv 26 [25,24,23,22,21,20,19,18,17,16,15,14,13,12,11,10,9,8,7,6,5,4,3,2,1,0] rfl (ad (v:=v461) (i:=(gI g.2 ↑k).1) j6 rfl rfl o463.t.flat rfl (by omega) (by omega)) ?_)))))))))
    refine cE 27 rfl (aU (i:=(gI g.2 ↑k).1) true dA rfl rfl o463.t (by omega) (by omega) rfl ?_)
    intro w480 ch481 bx482
    clear o463
    refine bV (by kernel_rfl) (a6 rfl (mz zs4 (mi ((gI g.2 ↑k).1) (lx (aa l8 rfl rfl zs3 rfl) ?_))))
    refine lx (a8 b9 rfl bx452.t rfl) (mi ↑k ?_)
    refine lx (ad (v:=v443) (i:=↑k) bF rfl rfl o444.t.flat rfl (by omega) (by omega)) (lx (aw (v:=v443) (i:=↑k) ap rfl o444.t.flat (by omega) (by omega) (by decide) rfl) (lx (aJ (m:=(gI ((bL bl_c1 bl_c1.length).2) (k:Int))) (n:=1) rfl rfl (by omega)) ?_))
    refine lx (ad (v:=v456) (i:=(gI g.2 ↑k).1) bF rfl rfl o458.t.flat rfl (by omega) (by omega)) (lo (aU (i:=(gI g.2 ↑k).1) ((gI ((bL bl_c1 bl_c1.length).2) (k:Int))+1) ap rfl rfl o458.t (by omega) (by omega) rfl ?_))
    intro w484 ch485 bx486
    clear o458
    refine ab (ak ?_)
    refine mid_j1 ((List.set oo (Int.toNat ((gI g.2 ↑k).1)) ((gI ((bL bl_c1 bl_c1.length).2) (k:Int))+1)),(List.set cc (Int.toNat ((gI g.2 ↑k).1)) true),g472) _ _ ⟨bH.t,zs2,zs3,zs4,zs5,rfl,zs30,zs31,zs32,rfl,rfl,Rg.t,bx10.t,o444.t,bx452.t,bx486,bx482.t,?_⟩
    show fG (og g) g (List.set oo (Int.toNat ((gI g.2 ↑k).1)) ((gI ((bL bl_c1 bl_c1.length).2) (k:Int))+1)) (List.set cc (Int.toNat ((gI g.2 ↑k).1)) true) (2*k+0+1)
    exact fG.fst hci rfl (by rw[<-hof]) (by rw[<-hof];(exact xd ‹_›))
   refine cJ (v:=v456) 7 rfl (by kernel_rfl) (by kernel_rfl) (wy (Bool.eq_false_iff.2 q47)) (λw=>ar zs4) (cJ (v:=vi ((gI g.2 ↑k).1)) 8 rfl (by kernel_rfl) (by kernel_rfl) (wy (Bool.eq_false_iff.2 q47)) (λw=>ar rfl) ?_)
   refine fw (v:=Value.pointer (some (bu v456 1 (Int.toNat ((gI g.2 ↑k).1))))) 9 [8,7,6,5,4,3,2,1,0] rfl (by kernel_rfl) (by kernel_rfl) (wy (Bool.eq_false_iff.2 q47)) (ad (α:=Int) (xs:=oo) (v:=v456) (i:=(gI g.2 ↑k).1) bF rfl rfl o458.t.flat rfl (by omega) (by omega)) (fw (v:=vi (gI oo ((gI g.2 ↑k).1))) 10 [9,8,7,6,5,4,3,2,1,0] rfl (by kernel_rfl) (by kernel_rfl) (wy (Bool.eq_false_iff.2 q47)) (aw (α:=Int) (xs:=oo) (v:=v456) (i:=(gI g.2 ↑k).1) ap rfl o458.t.flat (by omega) (by omega) (by decide) rfl) (cJ (v:=vb (decide (0<(gI oo ((gI g.2 ↑k).1))))) 11 rfl (by kernel_rfl) (by kernel_rfl) (wy (Bool.eq_false_iff.2 q47)) (λw=>eX (m:=(gI oo ((gI g.2 ↑k).1))) (n:=0) rfl rfl) ?_))
   refine cJ (v:=vb (decide (0<(gI oo ((gI g.2 ↑k).1))))) 12 rfl (by kernel_rfl) (by kernel_rfl) (wy (Bool.eq_false_iff.2 q47)) (λw=>ar rfl) ?_
   by_cases q53:0<(gI oo ((gI g.2 ↑k).1))
   ·
    refine cJ (v:=v456) 13 rfl (by kernel_rfl) (by kernel_rfl) (wy (dt q53)) (λw=>ar zs4) (cJ (v:=vi ((gI g.2 ↑k).1)) 14 rfl (by kernel_rfl) (by kernel_rfl) (wy (dt q53)) (λw=>ar rfl) (fw (v:=Value.pointer (some (bu v456 1 (Int.toNat ((gI g.2 ↑k).1))))) 15 [14,13,12,11,10,9,8,7,6,5,4,3,2,1,0,17,19,18,20,21,22] rfl (by kernel_rfl) (by kernel_rfl) (wy (dt q53)) (ad (α:=Int) (xs:=oo) (v:=v456) (i:=(gI g.2 ↑k).1) bF rfl rfl o458.t.flat rfl (by omega) (by omega)) ?_))
    refine fw (v:=vi (gI oo ((gI g.2 ↑k).1))) 16 [15,14,13,12,11,10,9,8,7,6,5,4,3,2,1,0,17,19,18,20,21,22] rfl (by kernel_rfl) (by kernel_rfl) (wy (dt q53)) (aw (α:=Int) (xs:=oo) (v:=v456) (i:=(gI g.2 ↑k).1) ap rfl o458.t.flat (by omega) (by omega) (by decide) rfl) (cJ (v:=vp b13 0) 17 rfl (by kernel_rfl) (by kernel_rfl) (wy (dt q53)) (λw=>aa l8 rfl rfl zs3 rfl) ?_)
    refine fw (v:=v443) 18 [17,16,15,14,13,12,11,10,9,8,7,6,5,4,3,2,1,0,19] rfl (by kernel_rfl) (by kernel_rfl) (wy (dt q53)) (a8 b9 rfl bx452.t rfl) (cJ (v:=vi ↑k) 19 rfl (by kernel_rfl) (by kernel_rfl) (wy (dt q53)) (λw=>ar rfl) ?_)
    refine fw (v:=Value.pointer (some (bu v443 1 (Int.toNat ↑k)))) 20 [19,18,17,16,15,14,13,12,11,10,9,8,7,6,5,4,3,2,1,0] rfl (by kernel_rfl) (by kernel_rfl) (wy (dt q53)) (ad (α:=Int) (xs:=(bL bl_c1 bl_c1.length).2) (v:=v443) (i:=↑k) bF rfl rfl o444.t.flat rfl (by omega) (by omega)) (fw (v:=vi (gI ((bL bl_c1 bl_c1.length).2) (k:Int))) 21 [20,19,18,17,16,15,14,13,12,11,10,9,8,7,6,5,4,3,2,1,0] rfl (by kernel_rfl) (by kernel_rfl) (wy (dt q53)) (aw (α:=Int) (xs:=(bL bl_c1 bl_c1.length).2) (v:=v443) (i:=↑k) ap rfl o444.t.flat (by omega) (by omega) (by decide) rfl) ?_)
    refine cJ (v:=vi ((gI ((bL bl_c1 bl_c1.length).2) (k:Int))+1)) 22 rfl (by kernel_rfl) (by kernel_rfl) (wy (dt q53)) (λw=>aJ (m:=(gI ((bL bl_c1 bl_c1.length).2) (k:Int))) (n:=1) rfl rfl (by omega)) (cJ (v:=vb (!(decide ((gI oo ((gI g.2 ↑k).1))=((gI ((bL bl_c1 bl_c1.length).2) (k:Int))+1))))) 23 rfl (by kernel_rfl) (by kernel_rfl) (wy (dt q53)) (λw=>du (m:=(gI oo ((gI g.2 ↑k).1))) (n:=(gI ((bL bl_c1 bl_c1.length).2) (k:Int))+1) rfl rfl) (cJ (v:=vb (!(decide ((gI oo ((gI g.2 ↑k).1))=((gI ((bL bl_c1 bl_c1.length).2) (k:Int))+1))))) 24 rfl (by kernel_rfl) (by kernel_rfl) (wy (Bool.eq_false_iff.2 q47)) (λw=>bh rfl (dt q53) rfl) ?_))
    refine xp (v:=vb (!(decide ((gI oo ((gI g.2 ↑k).1))=((gI ((bL bl_c1 bl_c1.length).2) (k:Int))+1))))) 25 rfl (λw=>bo rfl (Bool.eq_false_iff.2 q47) rfl) (xv 26 [25,24,23,22,21,20,19,18,17,16,15,14,13,12,11,10,9,8,7,6,5,4,3,2,1,0] rfl (ad (v:=v461) (i:=(gI g.2 ↑k).1) j6 rfl rfl o463.t.flat rfl (by omega) (by omega)) (cE 27 rfl (aU (i:=(gI g.2 ↑k).1) (!(decide ((gI oo ((gI g.2 ↑k).1))=((gI ((bL bl_c1 bl_c1.length).2) (k:Int))+1)))) dA rfl rfl o463.t (by omega) (by omega) rfl ?_)))
    intro w488 ch489 bx490
    clear o463
    refine bV (by kernel_rfl) (a6 rfl (mz zs4 (mi ((gI g.2 ↑k).1) (lx (aa l8 rfl rfl zs3 rfl) ?_))))
    refine lx (a8 b9 rfl bx452.t rfl) (mi ↑k ?_)
    refine lx (ad (v:=v443) (i:=↑k) bF rfl rfl o444.t.flat rfl (by omega) (by omega)) (lx (aw (v:=v443) (i:=↑k) ap rfl o444.t.flat (by omega) (by omega) (by decide) rfl) (lx (aJ (m:=(gI ((bL bl_c1 bl_c1.length).2) (k:Int))) (n:=1) rfl rfl (by omega)) ?_))
    refine lx (ad (v:=v456) (i:=(gI g.2 ↑k).1) bF rfl rfl o458.t.flat rfl (by omega) (by omega)) (lo (aU (i:=(gI g.2 ↑k).1) ((gI ((bL bl_c1 bl_c1.length).2) (k:Int))+1) ap rfl rfl o458.t (by omega) (by omega) rfl ?_))
    intro w491 ch492 bx493
    clear o458
    refine ab (ak ?_)
    refine mid_j1 ((List.set oo (Int.toNat ((gI g.2 ↑k).1)) ((gI ((bL bl_c1 bl_c1.length).2) (k:Int))+1)),(List.set cc (Int.toNat ((gI g.2 ↑k).1)) (!(decide ((gI oo ((gI g.2 ↑k).1))=((gI ((bL bl_c1 bl_c1.length).2) (k:Int))+1))))),g472) _ _ ⟨bH.t,zs2,zs3,zs4,zs5,rfl,zs30,zs31,zs32,rfl,rfl,Rg.t,bx10.t,o444.t,bx452.t,bx493,bx490.t,?_⟩
    show fG (og g) g (List.set oo (Int.toNat ((gI g.2 ↑k).1)) ((gI ((bL bl_c1 bl_c1.length).2) (k:Int))+1)) (List.set cc (Int.toNat ((gI g.2 ↑k).1)) (!(decide ((gI oo ((gI g.2 ↑k).1))=((gI ((bL bl_c1 bl_c1.length).2) (k:Int))+1))))) (2*k+0+1)
    exact fG.fst hci rfl (by rw[<-hof]) (by rw[<-hof];(exact As ‹_› ‹_›))
   refine bA 13 rfl (by kernel_rfl) (by kernel_rfl) (wn (df q53)) (bA 14 rfl (by kernel_rfl) (by kernel_rfl) (wn (df q53)) (bA 15 rfl (by kernel_rfl) (by kernel_rfl) (wn (df q53)) (bA 16 rfl (by kernel_rfl) (by kernel_rfl) (wn (df q53)) (bA 17 rfl (by kernel_rfl) (by kernel_rfl) (wn (df q53)) (bA 18 rfl (by kernel_rfl) (by kernel_rfl) (wn (df q53)) (bA 19 rfl (by kernel_rfl) (by kernel_rfl) (wn (df q53)) (bA 20 rfl (by kernel_rfl) (by kernel_rfl) (wn (df q53)) (bA 21 rfl (by kernel_rfl) (by kernel_rfl) (wn (df q53)) ?_))))))))
   refine bA 22 rfl (by kernel_rfl) (by kernel_rfl) (wn (df q53)) (bA 23 rfl (by kernel_rfl) (by kernel_rfl) (wn (df q53)) (cJ (v:=vb false) 24 rfl (by kernel_rfl) (by kernel_rfl) (wy (Bool.eq_false_iff.2 q47)) (λw=>bo rfl (df q53) rfl) (xp (v:=vb false) 25 rfl (λw=>bo rfl (Bool.eq_false_iff.2 q47) rfl) (xv 26 [25,24,23,22,21,20,19,18,17,16,15,14,13,12,11,10,9,8,7,6,5,4,3,2,1,0] rfl (ad (v:=v461) (i:=(gI g.2 ↑k).1) j6 rfl rfl o463.t.flat rfl (by omega) (by omega)) (cE 27 rfl (aU (i:=(gI g.2 ↑k).1) false dA rfl rfl o463.t (by omega) (by omega) rfl ?_))))))
   intro w495 ch496 bx497
   clear o463
   refine bV (by kernel_rfl) (a6 rfl (mz zs4 (mi ((gI g.2 ↑k).1) (lx (aa l8 rfl rfl zs3 rfl) ?_))))
   refine lx (a8 b9 rfl bx452.t rfl) (mi ↑k ?_)
   refine lx (ad (v:=v443) (i:=↑k) bF rfl rfl o444.t.flat rfl (by omega) (by omega)) (lx (aw (v:=v443) (i:=↑k) ap rfl o444.t.flat (by omega) (by omega) (by decide) rfl) (lx (aJ (m:=(gI ((bL bl_c1 bl_c1.length).2) (k:Int))) (n:=1) rfl rfl (by omega)) ?_))
   refine lx (ad (v:=v456) (i:=(gI g.2 ↑k).1) bF rfl rfl o458.t.flat rfl (by omega) (by omega)) (lo (aU (i:=(gI g.2 ↑k).1) ((gI ((bL bl_c1 bl_c1.length).2) (k:Int))+1) ap rfl rfl o458.t (by omega) (by omega) rfl ?_))
   intro w499 ch500 bx501
   clear o458
   refine ab (ak ?_)
   refine mid_j1 ((List.set oo (Int.toNat ((gI g.2 ↑k).1)) ((gI ((bL bl_c1 bl_c1.length).2) (k:Int))+1)),(List.set cc (Int.toNat ((gI g.2 ↑k).1)) false),g472) _ _ ⟨bH.t,zs2,zs3,zs4,zs5,rfl,zs30,zs31,zs32,rfl,rfl,Rg.t,bx10.t,o444.t,bx452.t,bx501,bx497.t,?_⟩
   show fG (og g) g (List.set oo (Int.toNat ((gI g.2 ↑k).1)) ((gI ((bL bl_c1 bl_c1.length).2) (k:Int))+1)) (List.set cc (Int.toNat ((gI g.2 ↑k).1)) false) (2*k+0+1)
   exact fG.fst hci rfl (by rw[<-hof]) (by rw[<-hof];(exact yR ‹_› ‹_›))
  clear Rg bx10 o444 bx452 o458 o463 bH
  rintro⟨oo2,cc2,g505⟩ f503 w504 ⟨bH,z506_2,z506_3,z506_4,z506_5,z506_6,z506_30,z506_31,z506_32,z506_37,z506_38,Rg,bx10,o444,bx452,o458,o463,hcj⟩
  have hcj1:=hcj.lo
  have hcj2:=hcj.lc
  refine a6 rfl (lx (aJ (m:=0) (n:=1) z506_38 rfl (by omega)) (mi 1 (ab (eu (a7 (a6 rfl (lx (br (m:=1) (n:=2) rfl rfl) (ab (a7 (ag rfl rfl (am ?_)))))))))))
  refine a7 (aj (a7 ?_))
  refine kM [false,true,false,false,false] (σ:=(List Int)×(List Bool)×ax) (λ⟨oo2,cc2,gq⟩ f w=>aW w0 gq w/\f 2=vp b8 0/\f 3=vp b13 0/\f 4=v456/\f 5=v461/\f 6=vi ↑k/\f 30=g_v/\f 31=vi (g.2.length:Int)/\f 32=vi ↑k/\f 37=vg [vi ((gI g.2 ↑k).1),vi ((gI g.2 ↑k).2)]/\f 38=vi 1/\Sl gq (is 0) w g_v g.2/\Bx gq (is 2) w b8 [vn,vn,vi 0]/\Ow gq (is 21) (is 21) w v443 ((bL bl_c1 bl_c1.length).2)/\Bx gq (is 3) w b13 [v443,vn,vi ((bL bl_c1 bl_c1.length).1.length:Int)]/\Ow gq (is 22) (is 22) w v456 oo2/\Ow gq (is 23) (is 23) w v461 cc2/\(fG (og g) g oo2 cc2 (2*k+1+1))) ?_ ?_
  ·
   intro mid_j2
   refine a6 rfl (lw (vi ((gI g.2 ↑k).2)) (eo eS ap z506_37 rfl (by decide) (by decide) rfl) (ai ((gI g.2 ↑k).2) (ab (a7 (bp g505 [0,1,2,3,4,5,6,7,8,9,10,11,12,13,14,15,16,17,18,19,20,21,22,23,24,25,26] jE ?_)))))
   intro w508 ch507
   refine xp (v:=v461) 0 rfl (λw=>ar z506_5) (xp (v:=vi ((gI g.2 ↑k).2)) 1 rfl (λw=>ar rfl) (xp (v:=v461) 2 rfl (λw=>ar z506_5) (xp (v:=vi ((gI g.2 ↑k).2)) 3 rfl (λw=>ar rfl) ?_)))
   refine xv 4 [3,2,1,0] rfl (ad (v:=v461) (i:=(gI g.2 ↑k).2) j6 rfl rfl o463.t.flat rfl (by omega) (by omega)) (xv 5 [4,3,2,1,0] rfl (aw (v:=v461) (i:=(gI g.2 ↑k).2) dA rfl o463.t.flat (by omega) (by omega) (by decide) rfl) (xp (v:=vb (gI cc2 ((gI g.2 ↑k).2))) 6 rfl (λw=>ar rfl) ?_))
   by_cases q47:(gI cc2 ((gI g.2 ↑k).2))=true
   ·
    refine bA 7 rfl (by kernel_rfl) (by kernel_rfl) (wn q47) (bA 8 rfl (by kernel_rfl) (by kernel_rfl) (wn q47) (bA 9 rfl (by kernel_rfl) (by kernel_rfl) (wn q47) (bA 10 rfl (by kernel_rfl) (by kernel_rfl) (wn q47) (bA 11 rfl (by kernel_rfl) (by kernel_rfl) (wn q47) (bA 12 rfl (by kernel_rfl) (by kernel_rfl) (wn q47) (bA 13 rfl (by kernel_rfl) (by kernel_rfl) (bR rfl rfl rfl) (bA 14 rfl (by kernel_rfl) (by kernel_rfl) (bR rfl rfl rfl) (bA 15 rfl (by kernel_rfl) (by kernel_rfl) (bR rfl rfl rfl) (bA 16 rfl (by kernel_rfl) (by kernel_rfl) (bR rfl rfl rfl) ?_)))))))))
    refine bA 17 rfl (by kernel_rfl) (by kernel_rfl) (bR rfl rfl rfl) (bA 18 rfl (by kernel_rfl) (by kernel_rfl) (bR rfl rfl rfl) (bA 19 rfl (by kernel_rfl) (by kernel_rfl) (bR rfl rfl rfl) (bA 20 rfl (by kernel_rfl) (by kernel_rfl) (bR rfl rfl rfl) (bA 21 rfl (by kernel_rfl) (by kernel_rfl) (bR rfl rfl rfl) (bA 22 rfl (by kernel_rfl) (by kernel_rfl) (bR rfl rfl rfl) (bA 23 rfl (by kernel_rfl) (by kernel_rfl) (bR rfl rfl rfl) (bA 24 rfl (by kernel_rfl) (by kernel_rfl) (wn q47) (xp (v:=vb true) 25 rfl (λw=>bh rfl q47 rfl) (xv 26 [25,24,23,22,21,20,19,18,17,16,15,14,13,12,11,10,9,8,7,6,5,4,3,2,1,0] rfl (ad (v:=v461) (i:=(gI g.2 ↑k).2) j6 rfl rfl o463.t.flat rfl (by omega) (by omega)) ?_)))))))))
    refine cE 27 rfl (aU (i:=(gI g.2 ↑k).2) true dA rfl rfl o463.t (by omega) (by omega) rfl ?_)
    intro w509 ch510 bx511
    clear o463
    refine bV (by kernel_rfl) (a6 rfl (mz z506_4 (mi ((gI g.2 ↑k).2) (lx (aa l8 rfl rfl z506_3 rfl) ?_))))
    refine lx (a8 b9 rfl bx452.t rfl) (mz z506_6 ?_)
    refine lx (ad (v:=v443) (i:=↑k) bF rfl rfl o444.t.flat rfl (by omega) (by omega)) (lx (aw (v:=v443) (i:=↑k) ap rfl o444.t.flat (by omega) (by omega) (by decide) rfl) (lx (aJ (m:=(gI ((bL bl_c1 bl_c1.length).2) (k:Int))) (n:=1) rfl rfl (by omega)) ?_))
    refine lx (ad (v:=v456) (i:=(gI g.2 ↑k).2) bF rfl rfl o458.t.flat rfl (by omega) (by omega)) (lo (aU (i:=(gI g.2 ↑k).2) ((gI ((bL bl_c1 bl_c1.length).2) (k:Int))+1) ap rfl rfl o458.t (by omega) (by omega) rfl ?_))
    intro w512 ch513 bx514
    clear o458
    refine ab (ak ?_)
    refine mid_j2 ((List.set oo2 (Int.toNat ((gI g.2 ↑k).2)) ((gI ((bL bl_c1 bl_c1.length).2) (k:Int))+1)),(List.set cc2 (Int.toNat ((gI g.2 ↑k).2)) true),g505) _ _ ⟨bH.t,z506_2,z506_3,z506_4,z506_5,z506_6,z506_30,z506_31,z506_32,z506_37,rfl,Rg.t,bx10.t,o444.t,bx452.t,bx514,bx511.t,?_⟩
    show fG (og g) g (List.set oo2 (Int.toNat ((gI g.2 ↑k).2)) ((gI ((bL bl_c1 bl_c1.length).2) (k:Int))+1)) (List.set cc2 (Int.toNat ((gI g.2 ↑k).2)) true) (2*k+1+1)
    exact fG.snd hcj rfl (by rw[<-hof]) (by rw[<-hof];(exact xd ‹_›))
   refine cJ (v:=v456) 7 rfl (by kernel_rfl) (by kernel_rfl) (wy (Bool.eq_false_iff.2 q47)) (λw=>ar z506_4) (cJ (v:=vi ((gI g.2 ↑k).2)) 8 rfl (by kernel_rfl) (by kernel_rfl) (wy (Bool.eq_false_iff.2 q47)) (λw=>ar rfl) ?_)
   refine fw (v:=Value.pointer (some (bu v456 1 (Int.toNat ((gI g.2 ↑k).2))))) 9 [8,7,6,5,4,3,2,1,0] rfl (by kernel_rfl) (by kernel_rfl) (wy (Bool.eq_false_iff.2 q47)) (ad (α:=Int) (xs:=oo2) (v:=v456) (i:=(gI g.2 ↑k).2) bF rfl rfl o458.t.flat rfl (by omega) (by omega)) (fw (v:=vi (gI oo2 ((gI g.2 ↑k).2))) 10 [9,8,7,6,5,4,3,2,1,0] rfl (by kernel_rfl) (by kernel_rfl) (wy (Bool.eq_false_iff.2 q47)) (aw (α:=Int) (xs:=oo2) (v:=v456) (i:=(gI g.2 ↑k).2) ap rfl o458.t.flat (by omega) (by omega) (by decide) rfl) (cJ (v:=vb (decide (0<(gI oo2 ((gI g.2 ↑k).2))))) 11 rfl (by kernel_rfl) (by kernel_rfl) (wy (Bool.eq_false_iff.2 q47)) (λw=>eX (m:=(gI oo2 ((gI g.2 ↑k).2))) (n:=0) rfl rfl) ?_))
   refine cJ (v:=vb (decide (0<(gI oo2 ((gI g.2 ↑k).2))))) 12 rfl (by kernel_rfl) (by kernel_rfl) (wy (Bool.eq_false_iff.2 q47)) (λw=>ar rfl) ?_
   by_cases q53:0<(gI oo2 ((gI g.2 ↑k).2))
   ·
    refine cJ (v:=v456) 13 rfl (by kernel_rfl) (by kernel_rfl) (wy (dt q53)) (λw=>ar z506_4) (cJ (v:=vi ((gI g.2 ↑k).2)) 14 rfl (by kernel_rfl) (by kernel_rfl) (wy (dt q53)) (λw=>ar rfl) (fw (v:=Value.pointer (some (bu v456 1 (Int.toNat ((gI g.2 ↑k).2))))) 15 [14,13,12,11,10,9,8,7,6,5,4,3,2,1,0,17,19,18,20,21,22] rfl (by kernel_rfl) (by kernel_rfl) (wy (dt q53)) (ad (α:=Int) (xs:=oo2) (v:=v456) (i:=(gI g.2 ↑k).2) bF rfl rfl o458.t.flat rfl (by omega) (by omega)) ?_))
    refine fw (v:=vi (gI oo2 ((gI g.2 ↑k).2))) 16 [15,14,13,12,11,10,9,8,7,6,5,4,3,2,1,0,17,19,18,20,21,22] rfl (by kernel_rfl) (by kernel_rfl) (wy (dt q53)) (aw (α:=Int) (xs:=oo2) (v:=v456) (i:=(gI g.2 ↑k).2) ap rfl o458.t.flat (by omega) (by omega) (by decide) rfl) (cJ (v:=vp b13 0) 17 rfl (by kernel_rfl) (by kernel_rfl) (wy (dt q53)) (λw=>aa l8 rfl rfl z506_3 rfl) ?_)
    refine fw (v:=v443) 18 [17,16,15,14,13,12,11,10,9,8,7,6,5,4,3,2,1,0,19] rfl (by kernel_rfl) (by kernel_rfl) (wy (dt q53)) (a8 b9 rfl bx452.t rfl) (cJ (v:=vi ↑k) 19 rfl (by kernel_rfl) (by kernel_rfl) (wy (dt q53)) (λw=>ar z506_6) ?_)
    refine fw (v:=Value.pointer (some (bu v443 1 (Int.toNat ↑k)))) 20 [19,18,17,16,15,14,13,12,11,10,9,8,7,6,5,4,3,2,1,0] rfl (by kernel_rfl) (by kernel_rfl) (wy (dt q53)) (ad (α:=Int) (xs:=(bL bl_c1 bl_c1.length).2) (v:=v443) (i:=↑k) bF rfl rfl o444.t.flat rfl (by omega) (by omega)) (fw (v:=vi (gI ((bL bl_c1 bl_c1.length).2) (k:Int))) 21 [20,19,18,17,16,15,14,13,12,11,10,9,8,7,6,5,4,3,2,1,0] rfl (by kernel_rfl) (by kernel_rfl) (wy (dt q53)) (aw (α:=Int) (xs:=(bL bl_c1 bl_c1.length).2) (v:=v443) (i:=↑k) ap rfl o444.t.flat (by omega) (by omega) (by decide) rfl) ?_)
    refine cJ (v:=vi ((gI ((bL bl_c1 bl_c1.length).2) (k:Int))+1)) 22 rfl (by kernel_rfl) (by kernel_rfl) (wy (dt q53)) (λw=>aJ (m:=(gI ((bL bl_c1 bl_c1.length).2) (k:Int))) (n:=1) rfl rfl (by omega)) (cJ (v:=vb (!(decide ((gI oo2 ((gI g.2 ↑k).2))=((gI ((bL bl_c1 bl_c1.length).2) (k:Int))+1))))) 23 rfl (by kernel_rfl) (by kernel_rfl) (wy (dt q53)) (λw=>du (m:=(gI oo2 ((gI g.2 ↑k).2))) (n:=(gI ((bL bl_c1 bl_c1.length).2) (k:Int))+1) rfl rfl) (cJ (v:=vb (!(decide ((gI oo2 ((gI g.2 ↑k).2))=((gI ((bL bl_c1 bl_c1.length).2) (k:Int))+1))))) 24 rfl (by kernel_rfl) (by kernel_rfl) (wy (Bool.eq_false_iff.2 q47)) (λw=>bh rfl (dt q53) rfl) ?_))
    refine xp (v:=vb (!(decide ((gI oo2 ((gI g.2 ↑k).2))=((gI ((bL bl_c1 bl_c1.length).2) (k:Int))+1))))) 25 rfl (λw=>bo rfl (Bool.eq_false_iff.2 q47) rfl) (xv 26 [25,24,23,22,21,20,19,18,17,16,15,14,13,12,11,10,9,8,7,6,5,4,3,2,1,0] rfl (ad (v:=v461) (i:=(gI g.2 ↑k).2) j6 rfl rfl o463.t.flat rfl (by omega) (by omega)) (cE 27 rfl (aU (i:=(gI g.2 ↑k).2) (!(decide ((gI oo2 ((gI g.2 ↑k).2))=((gI ((bL bl_c1 bl_c1.length).2) (k:Int))+1)))) dA rfl rfl o463.t (by omega) (by omega) rfl ?_)))
    intro w516 ch517 bx518
    clear o463
    refine bV (by kernel_rfl) (a6 rfl (mz z506_4 (mi ((gI g.2 ↑k).2) (lx (aa l8 rfl rfl z506_3 rfl) ?_))))
    refine lx (a8 b9 rfl bx452.t rfl) (mz z506_6 ?_)
    refine lx (ad (v:=v443) (i:=↑k) bF rfl rfl o444.t.flat rfl (by omega) (by omega)) (lx (aw (v:=v443) (i:=↑k) ap rfl o444.t.flat (by omega) (by omega) (by decide) rfl) (lx (aJ (m:=(gI ((bL bl_c1 bl_c1.length).2) (k:Int))) (n:=1) rfl rfl (by omega)) ?_))
    refine lx (ad (v:=v456) (i:=(gI g.2 ↑k).2) bF rfl rfl o458.t.flat rfl (by omega) (by omega)) (lo (aU (i:=(gI g.2 ↑k).2) ((gI ((bL bl_c1 bl_c1.length).2) (k:Int))+1) ap rfl rfl o458.t (by omega) (by omega) rfl ?_))
    intro w519 ch520 bx521
    clear o458
    refine ab (ak ?_)
    refine mid_j2 ((List.set oo2 (Int.toNat ((gI g.2 ↑k).2)) ((gI ((bL bl_c1 bl_c1.length).2) (k:Int))+1)),(List.set cc2 (Int.toNat ((gI g.2 ↑k).2)) (!(decide ((gI oo2 ((gI g.2 ↑k).2))=((gI ((bL bl_c1 bl_c1.length).2) (k:Int))+1))))),g505) _ _ ⟨bH.t,z506_2,z506_3,z506_4,z506_5,z506_6,z506_30,z506_31,z506_32,z506_37,rfl,Rg.t,bx10.t,o444.t,bx452.t,bx521,bx518.t,?_⟩
    show fG (og g) g (List.set oo2 (Int.toNat ((gI g.2 ↑k).2)) ((gI ((bL bl_c1 bl_c1.length).2) (k:Int))+1)) (List.set cc2 (Int.toNat ((gI g.2 ↑k).2)) (!(decide ((gI oo2 ((gI g.2 ↑k).2))=((gI ((bL bl_c1 bl_c1.length).2) (k:Int))+1))))) (2*k+1+1)
    exact fG.snd hcj rfl (by rw[<-hof]) (by rw[<-hof];(exact As ‹_› ‹_›))
   refine bA 13 rfl (by kernel_rfl) (by kernel_rfl) (wn (df q53)) (bA 14 rfl (by kernel_rfl) (by kernel_rfl) (wn (df q53)) (bA 15 rfl (by kernel_rfl) (by kernel_rfl) (wn (df q53)) (bA 16 rfl (by kernel_rfl) (by kernel_rfl) (wn (df q53)) (bA 17 rfl (by kernel_rfl) (by kernel_rfl) (wn (df q53)) (bA 18 rfl (by kernel_rfl) (by kernel_rfl) (wn (df q53)) (bA 19 rfl (by kernel_rfl) (by kernel_rfl) (wn (df q53)) (bA 20 rfl (by kernel_rfl) (by kernel_rfl) (wn (df q53)) (bA 21 rfl (by kernel_rfl) (by kernel_rfl) (wn (df q53)) ?_))))))))
   refine bA 22 rfl (by kernel_rfl) (by kernel_rfl) (wn (df q53)) (bA 23 rfl (by kernel_rfl) (by kernel_rfl) (wn (df q53)) (cJ (v:=vb false) 24 rfl (by kernel_rfl) (by kernel_rfl) (wy (Bool.eq_false_iff.2 q47)) (λw=>bo rfl (df q53) rfl) (xp (v:=vb false) 25 rfl (λw=>bo rfl (Bool.eq_false_iff.2 q47) rfl) (xv 26 [25,24,23,22,21,20,19,18,17,16,15,14,13,12,11,10,9,8,7,6,5,4,3,2,1,0] rfl (ad (v:=v461) (i:=(gI g.2 ↑k).2) j6 rfl rfl o463.t.flat rfl (by omega) (by omega)) (cE 27 rfl (aU (i:=(gI g.2 ↑k).2) false dA rfl rfl o463.t (by omega) (by omega) rfl ?_))))))
   intro w523 ch524 bx525
   clear o463
   refine bV (by kernel_rfl) (a6 rfl (mz z506_4 (mi ((gI g.2 ↑k).2) (lx (aa l8 rfl rfl z506_3 rfl) ?_))))
   refine lx (a8 b9 rfl bx452.t rfl) (mz z506_6 ?_)
   refine lx (ad (v:=v443) (i:=↑k) bF rfl rfl o444.t.flat rfl (by omega) (by omega)) (lx (aw (v:=v443) (i:=↑k) ap rfl o444.t.flat (by omega) (by omega) (by decide) rfl) (lx (aJ (m:=(gI ((bL bl_c1 bl_c1.length).2) (k:Int))) (n:=1) rfl rfl (by omega)) ?_))
   refine lx (ad (v:=v456) (i:=(gI g.2 ↑k).2) bF rfl rfl o458.t.flat rfl (by omega) (by omega)) (lo (aU (i:=(gI g.2 ↑k).2) ((gI ((bL bl_c1 bl_c1.length).2) (k:Int))+1) ap rfl rfl o458.t (by omega) (by omega) rfl ?_))
   intro w526 ch527 bx528
   clear o458
   refine ab (ak ?_)
   refine mid_j2 ((List.set oo2 (Int.toNat ((gI g.2 ↑k).2)) ((gI ((bL bl_c1 bl_c1.length).2) (k:Int))+1)),(List.set cc2 (Int.toNat ((gI g.2 ↑k).2)) false),g505) _ _ ⟨bH.t,z506_2,z506_3,z506_4,z506_5,z506_6,z506_30,z506_31,z506_32,z506_37,rfl,Rg.t,bx10.t,o444.t,bx452.t,bx528,bx525.t,?_⟩
   show fG (og g) g (List.set oo2 (Int.toNat ((gI g.2 ↑k).2)) ((gI ((bL bl_c1 bl_c1.length).2) (k:Int))+1)) (List.set cc2 (Int.toNat ((gI g.2 ↑k).2)) false) (2*k+1+1)
   exact fG.snd hcj rfl (by rw[<-hof]) (by rw[<-hof];(exact yR ‹_› ‹_›))
  clear Rg bx10 o444 bx452 o458 o463 bH
  rintro⟨oo2,cc2,g532⟩ f530 w531 ⟨bH,z533_2,z533_3,z533_4,z533_5,z533_6,z533_30,z533_31,z533_32,z533_37,z533_38,Rg,bx10,o444,bx452,o458,o463,hcj⟩
  have hcj1:=hcj.lo
  have hcj2:=hcj.lc
  refine a6 rfl (lx (aJ (m:=1) (n:=1) z533_38 rfl (by omega)) (mi 2 (ab (eu (a7 (a6 rfl (lx (br (m:=2) (n:=2) rfl rfl) (ab (a7 (af rfl rfl (aF rfl ?_)))))))))))
  refine ak (a6 rfl (lx (aJ (m:=↑k) (n:=1) z533_32 rfl (by omega)) (mi ((k:Int)+1) (ab ?_))))
  refine back6 (k+1,oo2,cc2,g532) _ _ ⟨bH,z533_2,z533_3,z533_4,z533_5,z533_30,z533_31,rfl,Rg,bx10,o444,bx452,o458,o463,by omega,?_⟩ ?_
  · show fG (og g) g oo2 cc2 (2*(k+1))
    exact hcj
  · show Int.toNat (_-_)<Int.toNat (_-_)
    omega
 refine af rfl (df p6) (aF rfl (a7 (a7 ?_)))
 clear o458
 refine a6 rfl (mz zs5 ?_)
 have len534:=(o463.flat).small
 refine lx (bG j6 rfl o463.flat) (mi 0 (ab (aj ?_)))
 refine aR (σ:=Value×(List Int)×Nat×ax) (λ⟨cu_v,cu,j,gq⟩ f w=>aW w0 gq w/\f 2=vp b8 0/\f 3=vp b13 0/\f 79=v461/\f 80=vi (cc.length:Int)/\f 81=vi ↑j/\Sl gq (is 0) w g_v g.2/\Bx gq (is 2) w b8 [vn,vn,vi 0]/\Ow gq (is 21) (is 21) w v443 ((bL bl_c1 bl_c1.length).2)/\Bx gq (is 3) w b13 [v443,cu_v,vi ((bL bl_c1 bl_c1.length).1.length:Int)]/\Ow gq (is 23) (is 23) w v461 cc/\Ow gq (is 26) (is 26) w cu_v cu/\(j:Int)<=((cc.length:Int):Int)/\(cu=(bQ j).filter λv=>gI cc v)) (λ⟨cu_v,cu,j,gq⟩=>Int.toNat (((cc.length:Int):Int)-(j:Int))) (vn,[],0,g468) ?_ ?_
 · exact⟨bH,zs2,zs3,rfl,rfl,rfl,Rg,bx10,o444,bx452,o463,Ow.nil,by omega,by rfl⟩
 clear Rg bx10 o444 bx452 o463 bH
 rintro⟨cu_v,cu,j,g537⟩ f535 w536 ⟨bH,zs2,zs3,zs79,zs80,zs81,Rg,bx10,o444,bx452,o463,o_cu,hle_j,hcu⟩ back16
 have hcul:=Aa hcu
 refine a7 (a6 rfl (lx (br (m:=↑j) (n:=(cc.length:Int)) zs81 zs80) (ab (a7 ?_))))
 by_cases p16:(j:Int)<(cc.length:Int)
 ·
  refine ag rfl (dt p16) (am (a7 (aj (a7 (a6 rfl (mz zs81 (lx (ad (v:=v461) (i:=↑j) j6 rfl zs79 o463.flat zs81 (by omega) (by omega)) (lx (aw (v:=v461) (i:=↑j) dA rfl o463.flat (by omega) (by omega) (by decide) rfl) (ai (j:Int) (ma (vb (gI cc ↑j)) ?_))))))))))
  refine ab (a7 (a6 rfl (mv (vb (gI cc ↑j)) (ab ?_))))
  by_cases p18:(gI cc ↑j)=true
  ·
   refine ag rfl p18 (a6 rfl (lx (aa l8 rfl rfl zs3 rfl) (lx (a8 b9 rfl bx452 rfl) (mi ↑j (lo (aq (α:=Int) g537 (is 25) (is 25) (25,0) rfl [(j:Int)] bF ap (by decide) (by decide) (vs:=[(0,vi ↑j)]) rfl rfl (.cons rfl .nil) ?_))))))
   intro g538 w539 v540 ch541 o542
   refine lo ?_
   refine aS (α:=Int) (xs:=cu) (ys:=([(j:Int)])) g538 (J:=is 26) (S:=is 26) (26,0) rfl bF ap (by decide) rfl rfl rfl o_cu.t o542.flat (by decide) (by(simp;omega)) ?_
   intro g543 w544 v545 ch546 o547
   clear o_cu
   refine lx (aa l8 rfl rfl zs3 rfl) (lo ?_)
   refine aC (cs':=[v443,v545,vi ((bL bl_c1 bl_c1.length).1.length:Int)]) b9 rfl rfl bx452.t (aL o547.flat) nq (aM o547.flat) rfl ?_
   intro w548 ch549 bx550
   clear bx452
   refine ab (ak ?_)
   clear o542
   refine a6 rfl (lx (aJ (m:=↑j) (n:=1) zs81 rfl (by omega)) (mi ((j:Int)+1) (ab ?_)))
   refine back16 (v545,(cu++[(j:Int)]),j+1,g543) _ _ ⟨bH.t,zs2,zs3,zs79,zs80,rfl,Rg.t,bx10.t,o444.t,bx550,o463.t,o547.t,by omega,?_⟩ ?_
   · show(cu++[(j:Int)])=(bQ (j+1)).filter λv=>gI cc v
     exact xY hcu ‹_›
   · show Int.toNat (_-_)<Int.toNat (_-_)
     omega
  refine af rfl (Bool.eq_false_iff.2 p18) (am (ak (a6 rfl (lx (aJ (m:=↑j) (n:=1) zs81 rfl (by omega)) (mi ((j:Int)+1) (ab ?_))))))
  refine back16 (cu_v,cu,j+1,g537) _ _ ⟨bH,zs2,zs3,zs79,zs80,rfl,Rg,bx10,o444,bx452.t,o463,o_cu.t,by omega,?_⟩ ?_
  · show cu=(bQ (j+1)).filter λv=>gI cc v
    exact Cz hcu ‹_›
  · show Int.toNat (_-_)<Int.toNat (_-_)
    omega
 refine af rfl (df p16) (aF rfl (a7 ?_))
 clear o463
 refine a6 rfl (lx (av (ds:=[v443,cu_v,vi ((bL bl_c1 bl_c1.length).1.length:Int)]) eC zs3 bx452.t rfl rfl) (lo (aA (cs':=[v443,cu_v,vi ((bL bl_c1 bl_c1.length).1.length:Int)]) eC zs2 rfl bx10 rfl nq (AllOne.all (.cons (aM o444.flat) (.cons (aM o_cu.t.flat) (.cons rfl .nil)))) rfl ?_)))
 intro w552 ch553 bx554
 clear bx10
 refine ab (az (vs:=[vg [v443,cu_v,vi ((bL bl_c1 bl_c1.length).1.length:Int)]]) Tryz.func56 (.cell zs2 (cd (ds:=[v443,cu_v,vi ((bL bl_c1 bl_c1.length).1.length:Int)]) eC bx554 rfl rfl) .nil) ?_)
 have e0:(((bL bl_c1 bl_c1.length).2,cu,((bL bl_c1 bl_c1.length).1.length:Int)):(List Int)×(List Int)×(Int))=(cY g):=by
   exact si hnam hcu (by omega) hci (by omega)
 exact⟨(fin w0 g537 (λn=>if n=21 then 1 else if n=26 then 2 else 0),v443,cu_v),(congrArg (a₁:=((bL bl_c1 bl_c1.length).2,cu,((bL bl_c1 bl_c1.length).1.length:Int))) (λ(z0:(List Int)×(List Int)×(Int))=>Ending.returned (vg [v443,cu_v,vi z0.2.2])) e0),bH.t.fresh _,((congrArg (λ(z:(List Int)×(List Int)×(Int))=>z.1) e0)▸(o444.t.glue (γ:=c0) (ren:=(λn=>if n=21 then 1 else if n=26 then 2 else 0)) (k:=1) bH.t.col rfl rfl)),((congrArg (λ(z:(List Int)×(List Int)×(Int))=>z.2.1) e0)▸(o_cu.t.glue (γ:=c0) (ren:=(λn=>if n=21 then 1 else if n=26 then 2 else 0)) (k:=2) bH.t.col rfl rfl))⟩
end TL
