import Derived.Test.YtgneelmmomohdaaSaTlP5
import Derived.Test.YtgneelmmomohdaaSaTlGmA
import Derived.Test.YtgneelmmomohdaaSaTlGenA
import Derived.Test.YtgneelmmomohdaaSaTlBkA
import Derived.Test.YtgneelmmomohdaaSaTlBkBa
import Derived.Test.YtgneelmmomohdaaProg
import Derived.Test.YtgneelmmomohdaaSaTlAli
set_option linter.all false
set_option maxRecDepth 20000
namespace TL
open Go Go.Proofs
theorem gH:Try.prog.follows .mixedOrders=true:=by kernel_rfl
theorem fg:Tp Try.prog 68 true 3 56 (.agg #[.slice none 0 0,.slice none 0 0,.int .i64 0]):=Tp.of (by kernel_rfl)
theorem Ac:Try.f93.body.isNone=false:=rfl
theorem zO:(Try.f93.name== "runtime.NumGoroutine")=false:=by decide+kernel
theorem zI:Try.f94.body.isNone=false:=rfl
theorem AP:(Try.f94.name== "runtime.NumGoroutine")=false:=by decide+kernel
theorem wT:Try.f100.body.isNone=false:=rfl
theorem xA:(Try.f100.name== "runtime.NumGoroutine")=false:=by decide+kernel
theorem wa:Try.f101.body.isNone=false:=rfl
theorem yr:(Try.f101.name== "runtime.NumGoroutine")=false:=by decide+kernel
set_option maxHeartbeats 8000000 in
theorem oL(w0:World)(g:(Int)×(List Pt))(g_v:Value)(hg_v:Ro w0 g_v g.2)(hm:aX g):
    Calls Try.prog 76 #[vg [vi g.1,g_v]] w0 (λee w=>∃xx:aG×Value×Value,ee= .returned ((λ⟨δ,rv0,rv1⟩=>vg [rv0,rv1,vi (((c7 g).2).2)]) xx)/\(λ(⟨δ,rv0,rv1⟩:aG×Value×Value) (w:World)=>eB w0 δ w/\Ow δ (is 1) (is 1) w rv0 ((c7 g).1)/\Ow δ (is 2) (is 2) w rv1 (((c7 g).2).1)) xx w):=by
 refine av Try.func76 rfl nq ?_
 have bH:=bn.start w0
 have Rg:=hg_v.sl
 have hm0:=hm
 obtain⟨hm1,hm2,hm3,hm4⟩:=hm0
 have hrz:((List.replicate (Int.toNat g.1) (0:Int)).length:Int)=g.1:=by rw[List.length_replicate];omega
 refine aa (a8 rfl (cB rfl (cr c0 (is 1) (1,0) rfl rfl ?_)))
 intro g4 w1 b3 ch2 bx5
 replace bx5:Bx g4 (is 1) w1 b3 [vi g.1,g_v]:=bx5
 refine lo (bP g4 (is 2) (2,0) rfl fg ?_)
 intro g9 w6 b8 ch7 bx10
 replace bx10:Bx g9 (is 2) w6 b8 [vn,vn,vi 0]:=bx10
 refine ab (aa (a8 rfl (cB rfl (bP g9 (is 3) (3,0) rfl fg ?_))))
 intro g14 w11 b13 ch12 bx15
 replace bx15:Bx g14 (is 3) w11 b13 [vn,vn,vi 0]:=bx15
 refine ab (aa (a8 rfl ?_))
 replace bx5:=(bx5.cn ch7).cn ch12
 refine lx (aB (ds:=[vi g.1,g_v]) aK rfl bx5 rfl rfl) (lo (bL (aN (vals:=[vg [vi g.1,g_v]]) Try.func94 zI AP rfl) (av Try.func94 rfl nq ?_)))
 have C16:=cg [] (ch2.n.seq (ch7.n.seq ch12.n))
 replace Rg:=Rg.ca C16
 refine aa (a8 rfl (cB rfl (cr g14 (is 4) (4,0) rfl rfl ?_)))
 intro g20 w17 b19 ch18 bx21
 replace bx21:Bx g20 (is 4) w17 b19 [vi g.1,g_v]:=bx21
 refine ma ((Value.pointer none)) (ab (aa (a8 rfl (lx (aB (ds:=[vi g.1,g_v]) aK rfl bx21 rfl rfl) (lo (bL (aN (vals:=[vg [vi g.1,g_v]]) Try.func100 wT xA rfl) (av Try.func100 rfl nq ?_)))))))
 replace Rg:=Rg.cn ch18
 refine aa (a8 rfl (cB rfl (cr g20 (is 5) (5,0) rfl rfl ?_)))
 intro g25 w22 b24 ch23 bx26
 replace bx26:Bx g25 (is 5) w22 b24 [vi g.1,g_v]:=bx26
 refine ma ((Value.pointer none)) (ab (aa (bV g25 [0,1,2,4,5,7,8,10,11,13,14,16,17,18,20,21,22] gH ?_)))
 intro w28 ch27
 replace bx26:=bx26.cn ch27
 refine xh 0 [1,4,7,10,13,16,20,26,2,5,8,11,14,17,21,3,6,9,12,15,18,22,19,23] rfl (λw' hw'=>aB (ds:=[vi g.1,g_v]) aK rfl (bx26.bel hw') rfl rfl) (xp 1 rfl (λw=>af cW rfl rfl rfl rfl) (xh 2 [1,0,4,7,10,13,16,20,26,5,8,11,14,17,21,6,9,12,15,18,22,19,23] rfl (λw' hw'=>ae aj rfl (bx26.bel hw') rfl) (xp 4 rfl (λw=>af cW rfl rfl rfl rfl) (xh 5 [4,2,1,0,3,7,10,13,16,20,26,8,11,14,17,21,9,12,15,18,22,19,23] rfl (λw' hw'=>ae aj rfl (bx26.bel hw') rfl) (xp 7 rfl (λw=>af cW rfl rfl rfl rfl) (xh 8 [7,5,4,2,1,0,3,6,10,13,16,20,26,11,14,17,21,12,15,18,22,19,23] rfl (λw' hw'=>ae aj rfl (bx26.bel hw') rfl) ?_))))))
 refine xp 10 rfl (λw=>af cW rfl rfl rfl rfl) (xh 11 [10,8,7,5,4,2,1,0,3,6,9,13,16,20,26,14,17,21,15,18,22,19,23] rfl (λw' hw'=>ae aj rfl (bx26.bel hw') rfl) (xp 13 rfl (λw=>af cW rfl rfl rfl rfl) (xh 14 [13,11,10,8,7,5,4,2,1,0,3,6,9,12,16,20,26,17,21,18,22,19,23] rfl (λw' hw'=>ae aj rfl (bx26.bel hw') rfl) (xp 16 rfl (λw=>af cW rfl rfl rfl rfl) (xh 17 [16,14,13,11,10,8,7,5,4,2,1,0,3,6,9,12,15,20,26,21,22,23] rfl (λw' hw'=>ae bG rfl (bx26.bel hw') rfl) ?_)))))
 replace Rg:=(Rg.cn ch23).cn ch27
 have len29:=(Rg).small
 refine xp 18 rfl (λw=>bq dc rfl Rg) (xp 20 rfl (λw=>af cW rfl rfl rfl rfl) (xh 21 [20,18,17,16,14,13,11,10,8,7,5,4,2,1,0,3,6,9,12,15,19,26] rfl (λw' hw'=>ae bG rfl (bx26.bel hw') rfl) (xp 22 rfl (λw=>bq dc rfl Rg) ?_)))
 refine AG g25 [⟨3,12,[],(λ_ γ w v=>cY (α:=Int) γ 6 w v (List.replicate (Int.toNat g.1) ([]:List Int)))⟩,⟨6,15,[],(λ_ γ w v=>Ow (α:=Int) γ (is 7) (is 7) w v (List.replicate (Int.toNat g.1) ((0:Int):Int)))⟩,⟨9,18,[],(λ_ γ w v=>Ow (α:=Int) γ (is 8) (is 8) w v (List.replicate (Int.toNat g.1) ((0:Int):Int)))⟩,⟨12,21,[],(λ_ γ w v=>Ow (α:=Int) γ (is 9) (is 9) w v (List.replicate (Int.toNat g.1) ((0:Int):Int)))⟩,⟨15,24,[],(λ_ γ w v=>Ow (α:=Int) γ (is 10) (is 10) w v (List.replicate (Int.toNat g.1) ((0:Int):Int)))⟩,⟨19,28,[],(λ_ γ w v=>Ow (α:=Bool) γ (is 11) (is 11) w v (List.replicate (Int.toNat (g.2.length:Int)) (false:Bool)))⟩,⟨23,32,[],(λ_ γ w v=>Ow (α:=Int) γ (is 12) (is 12) w v (List.replicate (Int.toNat (g.2.length:Int)) ((0:Int):Int)))⟩,⟨24,33,[12,15,18,21,24,28,32],(λvs _ _ v=>v=vg [vi g.1,g_v,(vs.getD 0 undef),(vs.getD 1 undef),(vs.getD 2 undef),(vs.getD 3 undef),(vs.getD 4 undef),vi 0,vn,(vs.getD 5 undef),(vs.getD 6 undef),vi 0,(.nilFunc)])⟩,⟨25,34,[33,12,15,18,21,24,28,32],(λvs γ w v=>∃b,v= .pointer (some ⟨b,0,none⟩)/\Bx γ (is 13) w b [vi g.1,g_v,(vs.getD 1 undef),(vs.getD 2 undef),(vs.getD 3 undef),(vs.getD 4 undef),(vs.getD 5 undef),vi 0,vn,(vs.getD 6 undef),(vs.getD 7 undef),vi 0,(.nilFunc)])⟩,⟨26,3,[],(λ_ γ w v=>∃b,v= .pointer (some ⟨b,0,none⟩)/\Bx γ (is 14) w b [(.pointer none)])⟩] [(3,12),(6,15),(9,18),(12,21),(15,24),(19,28),(23,32),(24,33),(25,34),(26,3)] _ rfl ⟨(λ_ _ _ _ _ _ h k=>cY.chg k h (dp _)),(λ_ _ _ _ _ _ h k=>Ow.chg k h (dp _) (dp _)),(λ_ _ _ _ _ _ h k=>Ow.chg k h (dp _) (dp _)),(λ_ _ _ _ _ _ h k=>Ow.chg k h (dp _) (dp _)),(λ_ _ _ _ _ _ h k=>Ow.chg k h (dp _) (dp _)),(λ_ _ _ _ _ _ h k=>Ow.chg k h (dp _) (dp _)),(λ_ _ _ _ _ _ h k=>Ow.chg k h (dp _) (dp _)),(λ_ _ _ _ _ _ _ h=>h),(λ_ _ _ _ _ _ h ⟨b,e,k⟩=>⟨b,e,Bx.chg k h (dp _)⟩),(λ_ _ _ _ _ _ h ⟨b,e,k⟩=>⟨b,e,Bx.chg k h (dp _)⟩),trivial⟩ (by decide) (by decide) (by kernel_rfl) (by kernel_rfl) (fuel:=1) rfl ⟨⟨rfl,_,rfl,rfl,by decide,λf' val hf' hv=>⟨rfl,λγ w hd=>ka (α:=Int) (n:=g.1) (cp:=g.1) γ 6 dd b9 rfl ((hf' 11 rfl).trans rfl) ((hf' 11 rfl).trans rfl) (by omega) (by omega) (by omega) (by omega) (λg2 w2 v h k=>⟨g2,h,k⟩)⟩⟩,⟨rfl,_,rfl,rfl,by decide,λf' val hf' hv=>⟨rfl,λγ w hd=>dL (α:=Int) (l:=g.1) (cp:=g.1) γ (is 7) (is 7) (7,0) rfl (0:Int) bv aj rfl ((hf' 14 rfl).trans rfl) ((hf' 14 rfl).trans rfl) (by omega) (by omega) (by omega) (by omega) (λg2 w2 v h k _=>⟨g2,h,k⟩)⟩⟩,⟨rfl,_,rfl,rfl,by decide,λf' val hf' hv=>⟨rfl,λγ w hd=>dL (α:=Int) (l:=g.1) (cp:=g.1) γ (is 8) (is 8) (8,0) rfl (0:Int) bv aj rfl ((hf' 17 rfl).trans rfl) ((hf' 17 rfl).trans rfl) (by omega) (by omega) (by omega) (by omega) (λg2 w2 v h k _=>⟨g2,h,k⟩)⟩⟩,⟨rfl,_,rfl,rfl,by decide,λf' val hf' hv=>⟨rfl,λγ w hd=>dL (α:=Int) (l:=g.1) (cp:=g.1) γ (is 9) (is 9) (9,0) rfl (0:Int) bv aj rfl ((hf' 20 rfl).trans rfl) ((hf' 20 rfl).trans rfl) (by omega) (by omega) (by omega) (by omega) (λg2 w2 v h k _=>⟨g2,h,k⟩)⟩⟩,⟨rfl,_,rfl,rfl,by decide,λf' val hf' hv=>⟨rfl,λγ w hd=>dL (α:=Int) (l:=g.1) (cp:=g.1) γ (is 10) (is 10) (10,0) rfl (0:Int) bv aj rfl ((hf' 23 rfl).trans rfl) ((hf' 23 rfl).trans rfl) (by omega) (by omega) (by omega) (by omega) (λg2 w2 v h k _=>⟨g2,h,k⟩)⟩⟩,⟨rfl,_,rfl,rfl,by decide,λf' val hf' hv=>⟨rfl,λγ w hd=>dL (α:=Bool) (l:=(g.2.length:Int)) (cp:=(g.2.length:Int)) γ (is 11) (is 11) (11,0) rfl false gj cO rfl ((hf' 27 rfl).trans rfl) ((hf' 27 rfl).trans rfl) (by omega) (by omega) (by omega) (by omega) (λg2 w2 v h k _=>⟨g2,h,k⟩)⟩⟩,⟨rfl,_,rfl,rfl,by decide,λf' val hf' hv=>⟨rfl,λγ w hd=>dL (α:=Int) (l:=(g.2.length:Int)) (cp:=(g.2.length:Int)) γ (is 12) (is 12) (12,0) rfl (0:Int) bv aj rfl ((hf' 31 rfl).trans rfl) ((hf' 31 rfl).trans rfl) (by omega) (by omega) (by omega) (by omega) (λg2 w2 v h k _=>⟨g2,h,k⟩)⟩⟩,⟨rfl,_,rfl,rfl,by decide,λf' val hf' hv=>⟨rfl,λγ w hd=>wF (v:=vg [vi g.1,g_v,val 12,val 15,val 18,val 21,val 24,vi 0,vn,val 28,val 32,vi 0,(.nilFunc)]) (bS (vs:=[(0,vg [vi g.1,g_v]),(1,val 12),(2,val 15),(3,val 18),(4,val 21),(5,val 24),(8,val 28),(9,val 32)]) (sj ((hf' 9 rfl).trans rfl) (sj (hv 12 (jN rfl)) (sj (hv 15 (jN rfl)) (sj (hv 18 (jN rfl)) (sj (hv 21 (jN rfl)) (sj (hv 24 (jN rfl)) (sj (hv 28 (jN rfl)) (sj (hv 32 (jN rfl)) rfl)))))))) (by
    have h12:cY (α:=Int) γ 6 w (val 12) (List.replicate (Int.toNat g.1) ([]:List Int)):=hd 12 (jN rfl)
    have h15:Ow (α:=Int) γ (is 7) (is 7) w (val 15) (List.replicate (Int.toNat g.1) ((0:Int):Int)):=hd 15 (jN rfl)
    have h18:Ow (α:=Int) γ (is 8) (is 8) w (val 18) (List.replicate (Int.toNat g.1) ((0:Int):Int)):=hd 18 (jN rfl)
    have h21:Ow (α:=Int) γ (is 9) (is 9) w (val 21) (List.replicate (Int.toNat g.1) ((0:Int):Int)):=hd 21 (jN rfl)
    have h24:Ow (α:=Int) γ (is 10) (is 10) w (val 24) (List.replicate (Int.toNat g.1) ((0:Int):Int)):=hd 24 (jN rfl)
    have h28:Ow (α:=Bool) γ (is 11) (is 11) w (val 28) (List.replicate (Int.toNat (g.2.length:Int)) (false:Bool)):=hd 28 (jN rfl)
    have h32:Ow (α:=Int) γ (is 12) (is 12) w (val 32) (List.replicate (Int.toNat (g.2.length:Int)) ((0:Int):Int)):=hd 32 (jN rfl)
    rw[Sl.form Rg,Sl.form h12.sl,Sl.form h15.flat,Sl.form h18.flat,Sl.form h21.flat,Sl.form h24.flat,Sl.form h28.flat,Sl.form h32.flat]
    show _=_
    kernel_rfl)) ⟨γ,bD.refl _ _ _,rfl⟩⟩⟩,⟨rfl,_,rfl,rfl,by decide,λf' val hf' hv=>⟨rfl,λγ w hd=>cr γ (is 13) (13,0) rfl (v:=vg [vi g.1,g_v,val 12,val 15,val 18,val 21,val 24,vi 0,vn,val 28,val 32,vi 0,(.nilFunc)]) ((hv 33 (jN rfl)).trans (show val 33=vg [vi g.1,g_v,val 12,val 15,val 18,val 21,val 24,vi 0,vn,val 28,val 32,vi 0,(.nilFunc)] from hd 33 (jN rfl))) (λg2 w2 b h k=>⟨g2,h,b,rfl,k⟩)⟩⟩,⟨rfl,_,rfl,rfl,by decide,λf' val hf' hv=>⟨rfl,λγ w hd=>bP γ (is 14) (14,0) rfl cd (λg2 w2 b h k=>⟨g2,h,b,rfl,k⟩)⟩⟩,trivial⟩ ?_
 refine λg30 w31 ch32 v43 o33 v44 o34 v45 o35 v46 o36 v47 o37 v48 o38 v49 o39 v50 o40 v51 o41 v52 o42=>?_
 replace o33:cY (α:=Int) g30 6 w31 v43 (List.replicate (Int.toNat g.1) ([]:List Int)):=o33
 replace o34:Ow (α:=Int) g30 (is 7) (is 7) w31 v44 (List.replicate (Int.toNat g.1) ((0:Int):Int)):=o34
 replace o35:Ow (α:=Int) g30 (is 8) (is 8) w31 v45 (List.replicate (Int.toNat g.1) ((0:Int):Int)):=o35
 replace o36:Ow (α:=Int) g30 (is 9) (is 9) w31 v46 (List.replicate (Int.toNat g.1) ((0:Int):Int)):=o36
 replace o37:Ow (α:=Int) g30 (is 10) (is 10) w31 v47 (List.replicate (Int.toNat g.1) ((0:Int):Int)):=o37
 replace o38:Ow (α:=Bool) g30 (is 11) (is 11) w31 v48 (List.replicate (Int.toNat (g.2.length:Int)) (false:Bool)):=o38
 replace o39:Ow (α:=Int) g30 (is 12) (is 12) w31 v49 (List.replicate (Int.toNat (g.2.length:Int)) ((0:Int):Int)):=o39
 replace o40:v50=vg [vi g.1,g_v,v43,v44,v45,v46,v47,vi 0,vn,v48,v49,vi 0,(.nilFunc)]:=o40
 subst o40
 obtain⟨b53,hev51,bx54⟩:=o41
 subst hev51
 replace bx54:Bx g30 (is 13) w31 b53 [vi g.1,g_v,v43,v44,v45,v46,v47,vi 0,vn,v48,v49,vi 0,(.nilFunc)]:=bx54
 obtain⟨b55,hev52,bx56⟩:=o42
 subst hev52
 replace bx56:Bx g30 (is 14) w31 b55 [(.pointer none)]:=bx56
 refine bB 27 rfl (by kernel_rfl) rfl (aT (cs':=[vp b53 0]) cd rfl rfl bx56 rfl nq (AllOne.all (.cons rfl .nil)) rfl ?_)
 intro w57 ch58 bx59
 clear bx56
 refine cA (by kernel_rfl) (aa (aa (a8 rfl (lx (af cW rfl rfl rfl rfl) ?_))))
 replace bx26:=(bx26.cn ch32).ce ch58
 refine lx (ae bG rfl bx26 rfl) ?_
 replace Rg:=(Rg.cn ch32).ce ch58
 refine lx (bq dc rfl Rg) (mi 0 (ab (ao ?_)))
 clear bx26
 refine aY (σ:=Nat×fG×aG) (λ⟨e_c2,O_c2,gq⟩ f w=>bn w0 gq w/\f 3=vp b55 0/\f 36=g_v/\f 37=vi (g.2.length:Int)/\f 38=vi ↑e_c2/\Sl gq (is 0) w g_v g.2/\Bx gq (is 1) w b3 [vi g.1,g_v]/\Bx gq (is 2) w b8 [vn,vn,vi 0]/\Bx gq (is 3) w b13 [vn,vn,vi 0]/\Bx gq (is 4) w b19 [vi g.1,g_v]/\cY gq 6 w v43 O_c2/\Ow gq (is 7) (is 7) w v44 (List.replicate (Int.toNat g.1) (0:Int))/\Ow gq (is 8) (is 8) w v45 (List.replicate (Int.toNat g.1) (0:Int))/\Ow gq (is 9) (is 9) w v46 (List.replicate (Int.toNat g.1) (0:Int))/\Ow gq (is 10) (is 10) w v47 (List.replicate (Int.toNat g.1) (0:Int))/\Ow gq (is 11) (is 11) w v48 (List.replicate (Int.toNat (g.2.length:Int)) false)/\Ow gq (is 12) (is 12) w v49 (List.replicate (Int.toNat (g.2.length:Int)) (0:Int))/\Bx gq (is 13) w b53 [vi g.1,g_v,v43,v44,v45,v46,v47,vi 0,vn,v48,v49,vi 0,(.nilFunc)]/\Bx gq (is 14) w b55 [vp b53 0]/\(e_c2:Int)<=((g.2.length:Int):Int)/\(e9 O_c2 g e_c2)) (λ⟨e_c2,O_c2,gq⟩=>Int.toNat (((g.2.length:Int):Int)-(e_c2:Int))) (0,(List.replicate (Int.toNat g.1) ([]:List Int)),g30) ?_ ?_
 have C63:=cg [14] (ch23.n.seq (ch27.n.seq (ch32.n.seq (ch58.l rfl))))
 have C61:=ch18.n.seq C63
 have C62:=ch12.n.seq C61
 have C60:=ch2.n.seq (ch7.n.seq C62)
 · exact⟨bH.ca C60,rfl,rfl,rfl,rfl,Rg,bx5.ca C61,bx10.ca C62,bx15.ca C61,bx21.ca C63,o33.ce ch58,o34.ce ch58,o35.ce ch58,o36.ce ch58,o37.ce ch58,o38.ce ch58,o39.ce ch58,bx54.ce ch58,bx59,by omega,by exact e9.start hm1⟩
 clear Rg bx5 bx10 bx15 bx21 o33 o34 o35 o36 o37 o38 o39 bx54 bx59 bH
 rintro⟨e_c2,O_c2,g66⟩ f64 w65 ⟨bH,zs3_c2,zs36_c2,zs37_c2,zs38_c2,Rg,bx5,bx10,bx15,bx21,o33,o34,o35,o36,o37,o38,o39,bx54,bx59,hle_e_c2,hov_c2⟩ back3_c2
 have hol_c2:=hov_c2.len
 refine aa (a8 rfl (lx (bm (m:=↑e_c2) (n:=(g.2.length:Int)) zs38_c2 zs37_c2) (ab (aa ?_))))
 by_cases p3_c2:(e_c2:Int)<(g.2.length:Int)
 ·
  refine ah rfl (dt p3_c2) ?_
  obtain⟨⟨he1,he2⟩,he3,he4⟩:=hm4 _ (br (xs:=g.2) (i:=↑e_c2) (by omega) (by omega))
  have hq1:=hov_c2.rl he1 he2
  have hq2:=hov_c2.rl2 he1 he2 he3 he4 (2*(e_c2:Int))
  refine aq (aa (ao (aa (a8 rfl (mz zs38_c2 (lx (ad (v:=g_v) (i:=↑e_c2) dc rfl zs36_c2 Rg zs38_c2 (by omega) (by omega)) (lw (vg [vi ((gI g.2 ↑e_c2).1),vi ((gI g.2 ↑e_c2).2)]) (cL (v:=g_v) (i:=↑e_c2) b7 rfl Rg (by omega) (by omega) rfl) (lo (bP g66 (is 15) (15,0) rfl b7 ?_)))))))))
  intro g70 w67 b69 ch68 bx71
  replace bx71:Bx g70 (is 15) w67 b69 [vi 0,vi 0]:=bx71
  refine ai (e_c2:Int) (lo (aT (cs':=[vi ((gI g.2 ↑e_c2).1),vi ((gI g.2 ↑e_c2).2)]) b7 rfl rfl bx71 rfl nq (AllOne.all (.cons rfl (.cons rfl .nil))) rfl ?_))
  intro w72 ch73 bx74
  clear bx71
  refine ab (aa (a8 rfl (lx (aB (ds:=[vi ((gI g.2 ↑e_c2).1),vi ((gI g.2 ↑e_c2).2)]) b7 rfl bx74 rfl rfl) (mi 0 (ab (ao (fO (aa ?_))))))))
  clear bx74
  refine a8 rfl (lx (bm (m:=0) (n:=2) rfl rfl) (ab (aa (ah rfl rfl (aq (aa (ao (aa (a8 rfl (mi 0 (lw (vi ((gI g.2 ↑e_c2).1)) (dE dI aj rfl rfl (by decide) (by decide) rfl) ?_)))))))))))
  refine ai 0 (ai ((gI g.2 ↑e_c2).1) (ab ?_))
  refine eN (σ:=aG) (λgq f w=>bn w0 gq w/\f 3=vp b55 0/\f 4=vi ↑e_c2/\f 36=g_v/\f 37=vi (g.2.length:Int)/\f 38=vi ↑e_c2/\f 43=vg [vi ((gI g.2 ↑e_c2).1),vi ((gI g.2 ↑e_c2).2)]/\f 44=vi 0/\Sl gq (is 0) w g_v g.2/\Bx gq (is 1) w b3 [vi g.1,g_v]/\Bx gq (is 2) w b8 [vn,vn,vi 0]/\Bx gq (is 3) w b13 [vn,vn,vi 0]/\Bx gq (is 4) w b19 [vi g.1,g_v]/\Ow gq (is 7) (is 7) w v44 (List.replicate (Int.toNat g.1) (0:Int))/\Ow gq (is 8) (is 8) w v45 (List.replicate (Int.toNat g.1) (0:Int))/\Ow gq (is 9) (is 9) w v46 (List.replicate (Int.toNat g.1) (0:Int))/\Ow gq (is 10) (is 10) w v47 (List.replicate (Int.toNat g.1) (0:Int))/\Ow gq (is 11) (is 11) w v48 (List.replicate (Int.toNat (g.2.length:Int)) false)/\Ow gq (is 12) (is 12) w v49 (List.replicate (Int.toNat (g.2.length:Int)) (0:Int))/\Bx gq (is 13) w b53 [vi g.1,g_v,v43,v44,v45,v46,v47,vi 0,vn,v48,v49,vi 0,(.nilFunc)]/\Bx gq (is 14) w b55 [vp b53 0]/\cY gq 6 w v43 (List.set O_c2 (Int.toNat ((gI g.2 ↑e_c2).1)) (gI O_c2 ((gI g.2 ↑e_c2).1)++[(2*(e_c2:Int))+0]))) g70 (inl [6]) gH ?_ ?_
  ·
   intro mid
   intro w76 ch75
   have C77:=cg [15] (ch68.n.seq ((ch73.l rfl).seq ch75.n))
   replace bx59:=bx59.ca C77
   refine ht 0 rfl (bD.refl _ _ _) (λw' hw'=>ae cd zs3_c2 (bx59.chg hw' (cN rfl)) rfl) (ht (v:=vp b53 0) 1 rfl (bD.refl _ _ _) (λw' hw'=>aw rfl) (ht 2 rfl (bD.refl _ _ _) (λw' hw'=>af d4 rfl rfl rfl rfl) ?_))
   replace bx54:=bx54.ca C77
   refine ht 3 rfl (bD.refl _ _ _) (λw' hw'=>ae io rfl (bx54.chg hw' (cN rfl)) rfl) (ht (v:=vi ((gI g.2 ↑e_c2).1)) 4 rfl (bD.refl _ _ _) (λw' hw'=>au rfl) (ht 5 rfl (bD.refl _ _ _) (λw' hw'=>ae cd zs3_c2 (bx59.chg hw' (cN rfl)) rfl) (ht (v:=vp b53 0) 6 rfl (bD.refl _ _ _) (λw' hw'=>aw rfl) (ht 7 rfl (bD.refl _ _ _) (λw' hw'=>af d4 rfl rfl rfl rfl) (ht 8 rfl (bD.refl _ _ _) (λw' hw'=>ae io rfl (bx54.chg hw' (cN rfl)) rfl) (ht (v:=vi ((gI g.2 ↑e_c2).1)) 9 rfl (bD.refl _ _ _) (λw' hw'=>au rfl) (ht (v:=vi ↑e_c2) 12 rfl (bD.refl _ _ _) (λw' hw'=>au rfl) (ht 13 rfl (bD.refl _ _ _) (λw' hw'=>mc (m:=2) (n:=↑e_c2) rfl rfl (by omega)) ?_))))))))
   refine ht (v:=vi 0) 14 rfl (bD.refl _ _ _) (λw' hw'=>au rfl) (ht 15 rfl (bD.refl _ _ _) (λw' hw'=>aI (m:=2*(e_c2:Int)) (n:=0) rfl rfl (by omega)) ?_)
   refine eP 10 [16] (by kernel_rfl) ⟨eW 10 rfl (by kernel_rfl) rfl ?_,eW 16 rfl (by kernel_rfl) rfl ?_,trivial⟩
   ·
    replace o33:=o33.ca C77
    refine aL (v:=Value.pointer (some (bA v43 1 (Int.toNat ((gI g.2 ↑e_c2).1))))) (ad (α:=List Int) (xs:=O_c2) (v:=v43) (i:=(gI g.2 ↑e_c2).1) dd rfl rfl o33.sl rfl (by omega) (by omega)) ?_
    refine⟨(bD.refl _ _ _),?_⟩
    refine eP 11 [16] (by kernel_rfl) ⟨eW 11 rfl (by kernel_rfl) rfl ?_,eW 16 rfl (by kernel_rfl) rfl ?_,trivial⟩
    ·
     obtain⟨v78,cel79,r80⟩:=bR (r:=(gI g.2 ↑e_c2).1) o33 (by omega) (by omega)
     refine aL (v:=v78) (bF b9 rfl cel79) ?_
     refine⟨(bD.refl _ _ _),?_⟩
     refine bu 16 rfl (by kernel_rfl) rfl (aC (α:=Int) g70 (is 16) (is 16) (16,0) rfl [(2*(e_c2:Int))+0] bv aj (by decide) (by decide) (vs:=[(0,vi ((2*(e_c2:Int))+0))]) rfl rfl (.cons rfl .nil) ?_)
     intro g81 w82 v83 ch84 o85
     have hs86:bD (inl [6]) _ _ _ _:=ch84.n
     refine⟨hs86.same,?_⟩
     refine bu 17 rfl (by kernel_rfl) rfl ?_
     replace o33:=o33.cn ch84
     replace r80:=r80.cn ch84
     refine bf (α:=Int) (xs:=(gI O_c2 ((gI g.2 ↑e_c2).1))) (ys:=([(2*(e_c2:Int))+0])) g81 (J:=row 6 (Int.toNat ((gI g.2 ↑e_c2).1)+1)) (S:=row 6 (Int.toNat ((gI g.2 ↑e_c2).1)+1)) (6,Int.toNat ((gI g.2 ↑e_c2).1)+1) rfl bv aj (by decide) rfl rfl rfl r80 o85.flat (by decide) (by(simp;omega)) ?_
     intro g87 w88 v89 ch90 o91
     have o92:=o33.rowchg ch90
     clear o33 cel79 r80
     have hs93:=hs86.seq (ch90.lr rfl)
     refine⟨hs93.same,?_⟩
     refine bu 18 rfl (by kernel_rfl) rfl ?_
     obtain⟨us94,hl95,r96⟩:=o92.vc
     try simp only[List.length_set,List.length_append,List.length_cons,List.length_nil] at hl95
     refine aL (v:=Value.pointer (some (bA v43 1 (Int.toNat ((gI g.2 ↑e_c2).1))))) (ad (α:=Vc) (xs:=us94) (v:=v43) (i:=(gI g.2 ↑e_c2).1) dd rfl rfl r96 rfl (by omega) (by omega)) ?_
     refine⟨hs93.same,?_⟩
     refine bu 19 rfl (by kernel_rfl) rfl (bM (r:=(gI g.2 ↑e_c2).1) b9 rfl rfl o92 o91 (by omega) (by omega) ?_)
     intro w100 ch101 o102
     clear o92 o91
     have hs103:=hs93.seq (ch101.l rfl)
     refine⟨hs103.same,?_⟩
     refine eE (by kernel_rfl) ?_
     have C104:=cg [6,15] (ch68.n.seq ((ch73.l rfl).seq (ch75.n.seq (ch84.n.seq ((ch90.lr rfl).seq (ch101.l rfl))))))
     replace Rg:=Rg.ca C77
     replace bx5:=bx5.ca C77
     replace bx10:=bx10.ca C77
     replace bx15:=bx15.ca C77
     replace bx21:=bx21.ca C77
     replace o34:=o34.ca C77
     replace o35:=o35.ca C77
     replace o36:=o36.ca C77
     replace o37:=o37.ca C77
     replace o38:=o38.ca C77
     replace o39:=o39.ca C77
     exact mid (g87) _ _ ⟨bH.ca C104,zs3_c2,rfl,zs36_c2,zs37_c2,zs38_c2,rfl,rfl,(Rg.ca hs103),(bx5.ca hs103),(bx10.ca hs103),(bx15.ca hs103),(bx21.ca hs103),(o34.ca hs103),(o35.ca hs103),(o36.ca hs103),(o37.ca hs103),(o38.ca hs103),(o39.ca hs103),(bx54.ca hs103),(bx59.ca hs103),o102⟩
    ·
     refine aC (α:=Int) g70 (is 16) (is 16) (16,0) rfl [(2*(e_c2:Int))+0] bv aj (by decide) (by decide) (vs:=[(0,vi ((2*(e_c2:Int))+0))]) rfl rfl (.cons rfl .nil) ?_
     intro g105 w106 v107 ch108 o109
     have hs110:bD (inl [6]) _ _ _ _:=ch108.n
     refine⟨hs110.same,?_⟩
     refine bu 11 rfl (by kernel_rfl) rfl ?_
     replace o33:=o33.cn ch108
     obtain⟨v111,cel112,r113⟩:=bR (r:=(gI g.2 ↑e_c2).1) o33 (by omega) (by omega)
     refine aL (v:=v111) (bF b9 rfl cel112) ?_
     refine⟨hs110.same,?_⟩
     refine bu 17 rfl (by kernel_rfl) rfl (bf (α:=Int) (xs:=(gI O_c2 ((gI g.2 ↑e_c2).1))) (ys:=([(2*(e_c2:Int))+0])) g105 (J:=row 6 (Int.toNat ((gI g.2 ↑e_c2).1)+1)) (S:=row 6 (Int.toNat ((gI g.2 ↑e_c2).1)+1)) (6,Int.toNat ((gI g.2 ↑e_c2).1)+1) rfl bv aj (by decide) rfl rfl rfl r113 o109.flat (by decide) (by(simp;omega)) ?_)
     intro g114 w115 v116 ch117 o118
     have o119:=o33.rowchg ch117
     clear o33 cel112 r113
     have hs120:=hs110.seq (ch117.lr rfl)
     refine⟨hs120.same,?_⟩
     refine bu 18 rfl (by kernel_rfl) rfl ?_
     obtain⟨us121,hl122,r123⟩:=o119.vc
     try simp only[List.length_set,List.length_append,List.length_cons,List.length_nil] at hl122
     refine aL (v:=Value.pointer (some (bA v43 1 (Int.toNat ((gI g.2 ↑e_c2).1))))) (ad (α:=Vc) (xs:=us121) (v:=v43) (i:=(gI g.2 ↑e_c2).1) dd rfl rfl r123 rfl (by omega) (by omega)) ?_
     refine⟨hs120.same,?_⟩
     refine bu 19 rfl (by kernel_rfl) rfl (bM (r:=(gI g.2 ↑e_c2).1) b9 rfl rfl o119 o118 (by omega) (by omega) ?_)
     intro w127 ch128 o129
     clear o119 o118
     have hs130:=hs120.seq (ch128.l rfl)
     refine⟨hs130.same,?_⟩
     refine eE (by kernel_rfl) ?_
     have C131:=cg [6,15] (ch68.n.seq ((ch73.l rfl).seq (ch75.n.seq (ch108.n.seq ((ch117.lr rfl).seq (ch128.l rfl))))))
     replace Rg:=Rg.ca C77
     replace bx5:=bx5.ca C77
     replace bx10:=bx10.ca C77
     replace bx15:=bx15.ca C77
     replace bx21:=bx21.ca C77
     replace o34:=o34.ca C77
     replace o35:=o35.ca C77
     replace o36:=o36.ca C77
     replace o37:=o37.ca C77
     replace o38:=o38.ca C77
     replace o39:=o39.ca C77
     exact mid (g114) _ _ ⟨bH.ca C131,zs3_c2,rfl,zs36_c2,zs37_c2,zs38_c2,rfl,rfl,(Rg.ca hs130),(bx5.ca hs130),(bx10.ca hs130),(bx15.ca hs130),(bx21.ca hs130),(o34.ca hs130),(o35.ca hs130),(o36.ca hs130),(o37.ca hs130),(o38.ca hs130),(o39.ca hs130),(bx54.ca hs130),(bx59.ca hs130),o129⟩
   ·
    refine aC (α:=Int) g70 (is 16) (is 16) (16,0) rfl [(2*(e_c2:Int))+0] bv aj (by decide) (by decide) (vs:=[(0,vi ((2*(e_c2:Int))+0))]) rfl rfl (.cons rfl .nil) ?_
    intro g132 w133 v134 ch135 o136
    have hs137:bD (inl [6]) _ _ _ _:=ch135.n
    refine⟨hs137.same,?_⟩
    refine bu 10 rfl (by kernel_rfl) rfl ?_
    have C138:=cg [15] (ch68.n.seq ((ch73.l rfl).seq (ch75.n.seq ch135.n)))
    replace o33:=o33.ca C138
    refine aL (v:=Value.pointer (some (bA v43 1 (Int.toNat ((gI g.2 ↑e_c2).1))))) (ad (α:=List Int) (xs:=O_c2) (v:=v43) (i:=(gI g.2 ↑e_c2).1) dd rfl rfl o33.sl rfl (by omega) (by omega)) ?_
    refine⟨hs137.same,?_⟩
    refine bu 11 rfl (by kernel_rfl) rfl ?_
    obtain⟨v139,cel140,r141⟩:=bR (r:=(gI g.2 ↑e_c2).1) o33 (by omega) (by omega)
    refine aL (v:=v139) (bF b9 rfl cel140) ?_
    refine⟨hs137.same,?_⟩
    refine bu 17 rfl (by kernel_rfl) rfl (bf (α:=Int) (xs:=(gI O_c2 ((gI g.2 ↑e_c2).1))) (ys:=([(2*(e_c2:Int))+0])) g132 (J:=row 6 (Int.toNat ((gI g.2 ↑e_c2).1)+1)) (S:=row 6 (Int.toNat ((gI g.2 ↑e_c2).1)+1)) (6,Int.toNat ((gI g.2 ↑e_c2).1)+1) rfl bv aj (by decide) rfl rfl rfl r141 o136.flat (by decide) (by(simp;omega)) ?_)
    intro g142 w143 v144 ch145 o146
    have o147:=o33.rowchg ch145
    clear o33 cel140 r141
    have hs148:=hs137.seq (ch145.lr rfl)
    refine⟨hs148.same,?_⟩
    refine bu 18 rfl (by kernel_rfl) rfl ?_
    obtain⟨us149,hl150,r151⟩:=o147.vc
    try simp only[List.length_set,List.length_append,List.length_cons,List.length_nil] at hl150
    refine aL (v:=Value.pointer (some (bA v43 1 (Int.toNat ((gI g.2 ↑e_c2).1))))) (ad (α:=Vc) (xs:=us149) (v:=v43) (i:=(gI g.2 ↑e_c2).1) dd rfl rfl r151 rfl (by omega) (by omega)) ?_
    refine⟨hs148.same,?_⟩
    refine bu 19 rfl (by kernel_rfl) rfl (bM (r:=(gI g.2 ↑e_c2).1) b9 rfl rfl o147 o146 (by omega) (by omega) ?_)
    intro w155 ch156 o157
    clear o147 o146
    have hs158:=hs148.seq (ch156.l rfl)
    refine⟨hs158.same,?_⟩
    refine eE (by kernel_rfl) ?_
    have C159:=cg [6,15] (ch68.n.seq ((ch73.l rfl).seq (ch75.n.seq (ch135.n.seq ((ch145.lr rfl).seq (ch156.l rfl))))))
    replace Rg:=Rg.ca C77
    replace bx5:=bx5.ca C77
    replace bx10:=bx10.ca C77
    replace bx15:=bx15.ca C77
    replace bx21:=bx21.ca C77
    replace o34:=o34.ca C77
    replace o35:=o35.ca C77
    replace o36:=o36.ca C77
    replace o37:=o37.ca C77
    replace o38:=o38.ca C77
    replace o39:=o39.ca C77
    exact mid (g142) _ _ ⟨bH.ca C159,zs3_c2,rfl,zs36_c2,zs37_c2,zs38_c2,rfl,rfl,(Rg.ca hs158),(bx5.ca hs158),(bx10.ca hs158),(bx15.ca hs158),(bx21.ca hs158),(o34.ca hs158),(o35.ca hs158),(o36.ca hs158),(o37.ca hs158),(o38.ca hs158),(o39.ca hs158),(bx54.ca hs158),(bx59.ca hs158),o157⟩
  clear Rg bx5 bx10 bx15 bx21 o33 o34 o35 o36 o37 o38 o39 bx54 bx59 bH
  rintro g162 f160 w161 ⟨bH,zs3_c2,zs4_c2,zs36_c2,zs37_c2,zs38_c2,zs43_c2,zs44_c2,Rg,bx5,bx10,bx15,bx21,o34,o35,o36,o37,o38,o39,bx54,bx59,o102⟩
  refine am (a8 rfl (lx (aI (m:=0) (n:=1) zs44_c2 rfl (by omega)) (mi 1 (ab (cj (aa (a8 rfl (lx (bm (m:=1) (n:=2) rfl rfl) (ab (aa (ah rfl rfl ?_)))))))))))
  refine aq (aa (ao (aa (a8 rfl (mi 1 (lw (vi ((gI g.2 ↑e_c2).2)) (dE dI aj zs43_c2 rfl (by decide) (by decide) rfl) (ai 1 (ai ((gI g.2 ↑e_c2).2) (ab ?_)))))))))
  refine eN (σ:=aG) (λgq f w=>bn w0 gq w/\f 3=vp b55 0/\f 4=vi ↑e_c2/\f 36=g_v/\f 37=vi (g.2.length:Int)/\f 38=vi ↑e_c2/\f 43=vg [vi ((gI g.2 ↑e_c2).1),vi ((gI g.2 ↑e_c2).2)]/\f 44=vi 1/\Sl gq (is 0) w g_v g.2/\Bx gq (is 1) w b3 [vi g.1,g_v]/\Bx gq (is 2) w b8 [vn,vn,vi 0]/\Bx gq (is 3) w b13 [vn,vn,vi 0]/\Bx gq (is 4) w b19 [vi g.1,g_v]/\Ow gq (is 7) (is 7) w v44 (List.replicate (Int.toNat g.1) (0:Int))/\Ow gq (is 8) (is 8) w v45 (List.replicate (Int.toNat g.1) (0:Int))/\Ow gq (is 9) (is 9) w v46 (List.replicate (Int.toNat g.1) (0:Int))/\Ow gq (is 10) (is 10) w v47 (List.replicate (Int.toNat g.1) (0:Int))/\Ow gq (is 11) (is 11) w v48 (List.replicate (Int.toNat (g.2.length:Int)) false)/\Ow gq (is 12) (is 12) w v49 (List.replicate (Int.toNat (g.2.length:Int)) (0:Int))/\Bx gq (is 13) w b53 [vi g.1,g_v,v43,v44,v45,v46,v47,vi 0,vn,v48,v49,vi 0,(.nilFunc)]/\Bx gq (is 14) w b55 [vp b53 0]/\cY gq 6 w v43 (List.set (List.set O_c2 (Int.toNat ((gI g.2 ↑e_c2).1)) (gI O_c2 ((gI g.2 ↑e_c2).1)++[(2*(e_c2:Int))+0])) (Int.toNat ((gI g.2 ↑e_c2).2)) (gI (List.set O_c2 (Int.toNat ((gI g.2 ↑e_c2).1)) (gI O_c2 ((gI g.2 ↑e_c2).1)++[(2*(e_c2:Int))+0])) ((gI g.2 ↑e_c2).2)++[(2*(e_c2:Int))+1]))) g162 (inl [6]) gH ?_ ?_
  ·
   intro mid
   intro w164 ch163
   replace bx59:=bx59.cn ch163
   refine ht 0 rfl (bD.refl _ _ _) (λw' hw'=>ae cd zs3_c2 (bx59.chg hw' (cN rfl)) rfl) (ht (v:=vp b53 0) 1 rfl (bD.refl _ _ _) (λw' hw'=>aw rfl) (ht 2 rfl (bD.refl _ _ _) (λw' hw'=>af d4 rfl rfl rfl rfl) ?_))
   replace bx54:=bx54.cn ch163
   refine ht 3 rfl (bD.refl _ _ _) (λw' hw'=>ae io rfl (bx54.chg hw' (cN rfl)) rfl) (ht (v:=vi ((gI g.2 ↑e_c2).2)) 4 rfl (bD.refl _ _ _) (λw' hw'=>au rfl) (ht 5 rfl (bD.refl _ _ _) (λw' hw'=>ae cd zs3_c2 (bx59.chg hw' (cN rfl)) rfl) (ht (v:=vp b53 0) 6 rfl (bD.refl _ _ _) (λw' hw'=>aw rfl) (ht 7 rfl (bD.refl _ _ _) (λw' hw'=>af d4 rfl rfl rfl rfl) (ht 8 rfl (bD.refl _ _ _) (λw' hw'=>ae io rfl (bx54.chg hw' (cN rfl)) rfl) (ht (v:=vi ((gI g.2 ↑e_c2).2)) 9 rfl (bD.refl _ _ _) (λw' hw'=>au rfl) (ht (v:=vi ↑e_c2) 12 rfl (bD.refl _ _ _) (λw' hw'=>au zs4_c2) ?_)))))))
   refine ht 13 rfl (bD.refl _ _ _) (λw' hw'=>mc (m:=2) (n:=↑e_c2) rfl rfl (by omega)) (ht (v:=vi 1) 14 rfl (bD.refl _ _ _) (λw' hw'=>au rfl) (ht 15 rfl (bD.refl _ _ _) (λw' hw'=>aI (m:=2*(e_c2:Int)) (n:=1) rfl rfl (by omega)) ?_))
   refine eP 10 [16] (by kernel_rfl) ⟨eW 10 rfl (by kernel_rfl) rfl ?_,eW 16 rfl (by kernel_rfl) rfl ?_,trivial⟩
   ·
    replace o102:=o102.cn ch163
    refine aL (v:=Value.pointer (some (bA v43 1 (Int.toNat ((gI g.2 ↑e_c2).2))))) (ad (α:=List Int) (xs:=(List.set O_c2 (Int.toNat ((gI g.2 ↑e_c2).1)) (gI O_c2 ((gI g.2 ↑e_c2).1)++[(2*(e_c2:Int))+0]))) (v:=v43) (i:=(gI g.2 ↑e_c2).2) dd rfl rfl o102.sl rfl (by omega) (by(simp only[List.length_set,List.length_append,List.length_cons,List.length_nil,List.length_replicate,List.length_map,List.length_take,List.length_drop];omega))) ?_
    refine⟨(bD.refl _ _ _),?_⟩
    refine eP 11 [16] (by kernel_rfl) ⟨eW 11 rfl (by kernel_rfl) rfl ?_,eW 16 rfl (by kernel_rfl) rfl ?_,trivial⟩
    ·
     obtain⟨v165,cel166,r167⟩:=bR (r:=(gI g.2 ↑e_c2).2) o102 (by omega) (by(simp only[List.length_set,List.length_append,List.length_cons,List.length_nil,List.length_replicate,List.length_map,List.length_take,List.length_drop];omega))
     refine aL (v:=v165) (bF b9 rfl cel166) ?_
     refine⟨(bD.refl _ _ _),?_⟩
     refine bu 16 rfl (by kernel_rfl) rfl (aC (α:=Int) g162 (is 16) (is 16) (16,0) rfl [(2*(e_c2:Int))+1] bv aj (by decide) (by decide) (vs:=[(0,vi ((2*(e_c2:Int))+1))]) rfl rfl (.cons rfl .nil) ?_)
     intro g168 w169 v170 ch171 o172
     have hs173:bD (inl [6]) _ _ _ _:=ch171.n
     refine⟨hs173.same,?_⟩
     refine bu 17 rfl (by kernel_rfl) rfl ?_
     replace o102:=o102.cn ch171
     replace r167:=r167.cn ch171
     refine bf (α:=Int) (xs:=(gI (List.set O_c2 (Int.toNat ((gI g.2 ↑e_c2).1)) (gI O_c2 ((gI g.2 ↑e_c2).1)++[(2*(e_c2:Int))+0])) ((gI g.2 ↑e_c2).2))) (ys:=([(2*(e_c2:Int))+1])) g168 (J:=row 6 (Int.toNat ((gI g.2 ↑e_c2).2)+1)) (S:=row 6 (Int.toNat ((gI g.2 ↑e_c2).2)+1)) (6,Int.toNat ((gI g.2 ↑e_c2).2)+1) rfl bv aj (by decide) rfl rfl rfl r167 o172.flat (by decide) (by(simp;omega)) ?_
     intro g174 w175 v176 ch177 o178
     have o179:=o102.rowchg ch177
     clear o102 cel166 r167
     have hs180:=hs173.seq (ch177.lr rfl)
     refine⟨hs180.same,?_⟩
     refine bu 18 rfl (by kernel_rfl) rfl ?_
     obtain⟨us181,hl182,r183⟩:=o179.vc
     try simp only[List.length_set,List.length_append,List.length_cons,List.length_nil] at hl182
     refine aL (v:=Value.pointer (some (bA v43 1 (Int.toNat ((gI g.2 ↑e_c2).2))))) (ad (α:=Vc) (xs:=us181) (v:=v43) (i:=(gI g.2 ↑e_c2).2) dd rfl rfl r183 rfl (by omega) (by omega)) ?_
     refine⟨hs180.same,?_⟩
     refine bu 19 rfl (by kernel_rfl) rfl (bM (r:=(gI g.2 ↑e_c2).2) b9 rfl rfl o179 o178 (by omega) (by(simp only[List.length_set,List.length_append,List.length_cons,List.length_nil,List.length_replicate,List.length_map,List.length_take,List.length_drop];omega)) ?_)
     intro w187 ch188 o189
     clear o179 o178
     have hs190:=hs180.seq (ch188.l rfl)
     refine⟨hs190.same,?_⟩
     refine eE (by kernel_rfl) ?_
     have C191:=cg [6] (ch163.n.seq (ch171.n.seq ((ch177.lr rfl).seq (ch188.l rfl))))
     replace Rg:=Rg.cn ch163
     replace bx5:=bx5.cn ch163
     replace bx10:=bx10.cn ch163
     replace bx15:=bx15.cn ch163
     replace bx21:=bx21.cn ch163
     replace o34:=o34.cn ch163
     replace o35:=o35.cn ch163
     replace o36:=o36.cn ch163
     replace o37:=o37.cn ch163
     replace o38:=o38.cn ch163
     replace o39:=o39.cn ch163
     exact mid (g174) _ _ ⟨bH.ca C191,zs3_c2,zs4_c2,zs36_c2,zs37_c2,zs38_c2,zs43_c2,rfl,(Rg.ca hs190),(bx5.ca hs190),(bx10.ca hs190),(bx15.ca hs190),(bx21.ca hs190),(o34.ca hs190),(o35.ca hs190),(o36.ca hs190),(o37.ca hs190),(o38.ca hs190),(o39.ca hs190),(bx54.ca hs190),(bx59.ca hs190),o189⟩
    ·
     refine aC (α:=Int) g162 (is 16) (is 16) (16,0) rfl [(2*(e_c2:Int))+1] bv aj (by decide) (by decide) (vs:=[(0,vi ((2*(e_c2:Int))+1))]) rfl rfl (.cons rfl .nil) ?_
     intro g192 w193 v194 ch195 o196
     have hs197:bD (inl [6]) _ _ _ _:=ch195.n
     refine⟨hs197.same,?_⟩
     refine bu 11 rfl (by kernel_rfl) rfl ?_
     replace o102:=o102.cn ch195
     obtain⟨v198,cel199,r200⟩:=bR (r:=(gI g.2 ↑e_c2).2) o102 (by omega) (by(simp only[List.length_set,List.length_append,List.length_cons,List.length_nil,List.length_replicate,List.length_map,List.length_take,List.length_drop];omega))
     refine aL (v:=v198) (bF b9 rfl cel199) ?_
     refine⟨hs197.same,?_⟩
     refine bu 17 rfl (by kernel_rfl) rfl (bf (α:=Int) (xs:=(gI (List.set O_c2 (Int.toNat ((gI g.2 ↑e_c2).1)) (gI O_c2 ((gI g.2 ↑e_c2).1)++[(2*(e_c2:Int))+0])) ((gI g.2 ↑e_c2).2))) (ys:=([(2*(e_c2:Int))+1])) g192 (J:=row 6 (Int.toNat ((gI g.2 ↑e_c2).2)+1)) (S:=row 6 (Int.toNat ((gI g.2 ↑e_c2).2)+1)) (6,Int.toNat ((gI g.2 ↑e_c2).2)+1) rfl bv aj (by decide) rfl rfl rfl r200 o196.flat (by decide) (by(simp;omega)) ?_)
     intro g201 w202 v203 ch204 o205
     have o206:=o102.rowchg ch204
     clear o102 cel199 r200
     have hs207:=hs197.seq (ch204.lr rfl)
     refine⟨hs207.same,?_⟩
     refine bu 18 rfl (by kernel_rfl) rfl ?_
     obtain⟨us208,hl209,r210⟩:=o206.vc
     try simp only[List.length_set,List.length_append,List.length_cons,List.length_nil] at hl209
     refine aL (v:=Value.pointer (some (bA v43 1 (Int.toNat ((gI g.2 ↑e_c2).2))))) (ad (α:=Vc) (xs:=us208) (v:=v43) (i:=(gI g.2 ↑e_c2).2) dd rfl rfl r210 rfl (by omega) (by omega)) ?_
     refine⟨hs207.same,?_⟩
     refine bu 19 rfl (by kernel_rfl) rfl (bM (r:=(gI g.2 ↑e_c2).2) b9 rfl rfl o206 o205 (by omega) (by(simp only[List.length_set,List.length_append,List.length_cons,List.length_nil,List.length_replicate,List.length_map,List.length_take,List.length_drop];omega)) ?_)
     intro w214 ch215 o216
     clear o206 o205
     have hs217:=hs207.seq (ch215.l rfl)
     refine⟨hs217.same,?_⟩
     refine eE (by kernel_rfl) ?_
     have C218:=cg [6] (ch163.n.seq (ch195.n.seq ((ch204.lr rfl).seq (ch215.l rfl))))
     replace Rg:=Rg.cn ch163
     replace bx5:=bx5.cn ch163
     replace bx10:=bx10.cn ch163
     replace bx15:=bx15.cn ch163
     replace bx21:=bx21.cn ch163
     replace o34:=o34.cn ch163
     replace o35:=o35.cn ch163
     replace o36:=o36.cn ch163
     replace o37:=o37.cn ch163
     replace o38:=o38.cn ch163
     replace o39:=o39.cn ch163
     exact mid (g201) _ _ ⟨bH.ca C218,zs3_c2,zs4_c2,zs36_c2,zs37_c2,zs38_c2,zs43_c2,rfl,(Rg.ca hs217),(bx5.ca hs217),(bx10.ca hs217),(bx15.ca hs217),(bx21.ca hs217),(o34.ca hs217),(o35.ca hs217),(o36.ca hs217),(o37.ca hs217),(o38.ca hs217),(o39.ca hs217),(bx54.ca hs217),(bx59.ca hs217),o216⟩
   ·
    refine aC (α:=Int) g162 (is 16) (is 16) (16,0) rfl [(2*(e_c2:Int))+1] bv aj (by decide) (by decide) (vs:=[(0,vi ((2*(e_c2:Int))+1))]) rfl rfl (.cons rfl .nil) ?_
    intro g219 w220 v221 ch222 o223
    have hs224:bD (inl [6]) _ _ _ _:=ch222.n
    refine⟨hs224.same,?_⟩
    refine bu 10 rfl (by kernel_rfl) rfl ?_
    replace o102:=(o102.cn ch163).cn ch222
    refine aL (v:=Value.pointer (some (bA v43 1 (Int.toNat ((gI g.2 ↑e_c2).2))))) (ad (α:=List Int) (xs:=(List.set O_c2 (Int.toNat ((gI g.2 ↑e_c2).1)) (gI O_c2 ((gI g.2 ↑e_c2).1)++[(2*(e_c2:Int))+0]))) (v:=v43) (i:=(gI g.2 ↑e_c2).2) dd rfl rfl o102.sl rfl (by omega) (by(simp only[List.length_set,List.length_append,List.length_cons,List.length_nil,List.length_replicate,List.length_map,List.length_take,List.length_drop];omega))) ?_
    refine⟨hs224.same,?_⟩
    refine bu 11 rfl (by kernel_rfl) rfl ?_
    obtain⟨v225,cel226,r227⟩:=bR (r:=(gI g.2 ↑e_c2).2) o102 (by omega) (by(simp only[List.length_set,List.length_append,List.length_cons,List.length_nil,List.length_replicate,List.length_map,List.length_take,List.length_drop];omega))
    refine aL (v:=v225) (bF b9 rfl cel226) ?_
    refine⟨hs224.same,?_⟩
    refine bu 17 rfl (by kernel_rfl) rfl (bf (α:=Int) (xs:=(gI (List.set O_c2 (Int.toNat ((gI g.2 ↑e_c2).1)) (gI O_c2 ((gI g.2 ↑e_c2).1)++[(2*(e_c2:Int))+0])) ((gI g.2 ↑e_c2).2))) (ys:=([(2*(e_c2:Int))+1])) g219 (J:=row 6 (Int.toNat ((gI g.2 ↑e_c2).2)+1)) (S:=row 6 (Int.toNat ((gI g.2 ↑e_c2).2)+1)) (6,Int.toNat ((gI g.2 ↑e_c2).2)+1) rfl bv aj (by decide) rfl rfl rfl r227 o223.flat (by decide) (by(simp;omega)) ?_)
    intro g228 w229 v230 ch231 o232
    have o233:=o102.rowchg ch231
    clear o102 cel226 r227
    have hs234:=hs224.seq (ch231.lr rfl)
    refine⟨hs234.same,?_⟩
    refine bu 18 rfl (by kernel_rfl) rfl ?_
    obtain⟨us235,hl236,r237⟩:=o233.vc
    try simp only[List.length_set,List.length_append,List.length_cons,List.length_nil] at hl236
    refine aL (v:=Value.pointer (some (bA v43 1 (Int.toNat ((gI g.2 ↑e_c2).2))))) (ad (α:=Vc) (xs:=us235) (v:=v43) (i:=(gI g.2 ↑e_c2).2) dd rfl rfl r237 rfl (by omega) (by omega)) ?_
    refine⟨hs234.same,?_⟩
    refine bu 19 rfl (by kernel_rfl) rfl (bM (r:=(gI g.2 ↑e_c2).2) b9 rfl rfl o233 o232 (by omega) (by(simp only[List.length_set,List.length_append,List.length_cons,List.length_nil,List.length_replicate,List.length_map,List.length_take,List.length_drop];omega)) ?_)
    intro w241 ch242 o243
    clear o233 o232
    have hs244:=hs234.seq (ch242.l rfl)
    refine⟨hs244.same,?_⟩
    refine eE (by kernel_rfl) ?_
    have C245:=cg [6] (ch163.n.seq (ch222.n.seq ((ch231.lr rfl).seq (ch242.l rfl))))
    replace Rg:=Rg.cn ch163
    replace bx5:=bx5.cn ch163
    replace bx10:=bx10.cn ch163
    replace bx15:=bx15.cn ch163
    replace bx21:=bx21.cn ch163
    replace o34:=o34.cn ch163
    replace o35:=o35.cn ch163
    replace o36:=o36.cn ch163
    replace o37:=o37.cn ch163
    replace o38:=o38.cn ch163
    replace o39:=o39.cn ch163
    exact mid (g228) _ _ ⟨bH.ca C245,zs3_c2,zs4_c2,zs36_c2,zs37_c2,zs38_c2,zs43_c2,rfl,(Rg.ca hs244),(bx5.ca hs244),(bx10.ca hs244),(bx15.ca hs244),(bx21.ca hs244),(o34.ca hs244),(o35.ca hs244),(o36.ca hs244),(o37.ca hs244),(o38.ca hs244),(o39.ca hs244),(bx54.ca hs244),(bx59.ca hs244),o243⟩
  clear Rg bx5 bx10 bx15 bx21 o34 o35 o36 o37 o38 o39 bx54 bx59 o102 bH
  rintro g248 f246 w247 ⟨bH,zs3_c2,zs4_c2,zs36_c2,zs37_c2,zs38_c2,zs43_c2,zs44_c2,Rg,bx5,bx10,bx15,bx21,o34,o35,o36,o37,o38,o39,bx54,bx59,o189⟩
  refine am (a8 rfl (lx (aI (m:=1) (n:=1) zs44_c2 rfl (by omega)) (mi 2 (ab (cj (aa (a8 rfl (lx (bm (m:=2) (n:=2) rfl rfl) (ab (aa (ag rfl rfl ?_)))))))))))
  refine aH rfl (am (a8 rfl (lx (aI (m:=↑e_c2) (n:=1) zs38_c2 rfl (by omega)) (mi ((e_c2:Int)+1) (ab ?_)))))
  refine back3_c2 (e_c2+1,(List.set (List.set O_c2 (Int.toNat ((gI g.2 ↑e_c2).1)) (gI O_c2 ((gI g.2 ↑e_c2).1)++[(2*(e_c2:Int))+0])) (Int.toNat ((gI g.2 ↑e_c2).2)) (gI (List.set O_c2 (Int.toNat ((gI g.2 ↑e_c2).1)) (gI O_c2 ((gI g.2 ↑e_c2).1)++[(2*(e_c2:Int))+0])) ((gI g.2 ↑e_c2).2)++[(2*(e_c2:Int))+1])),g248) _ _ ⟨bH,zs3_c2,zs36_c2,zs37_c2,rfl,Rg,bx5,bx10,bx15,bx21,o189,o34,o35,o36,o37,o38,o39,bx54,bx59,by omega,?_⟩ ?_
  · show e9 (List.set (List.set O_c2 (Int.toNat ((gI g.2 ↑e_c2).1)) (gI O_c2 ((gI g.2 ↑e_c2).1)++[(2*(e_c2:Int))+0])) (Int.toNat ((gI g.2 ↑e_c2).2)) (gI (List.set O_c2 (Int.toNat ((gI g.2 ↑e_c2).1)) (gI O_c2 ((gI g.2 ↑e_c2).1)++[(2*(e_c2:Int))+0])) ((gI g.2 ↑e_c2).2)++[(2*(e_c2:Int))+1])) g (e_c2+1)
    exact hov_c2.next he1 he2 he3 he4 (by omega) (by omega)
  · show Int.toNat (((g.2.length:Int):Int)-((e_c2+1):Int))<Int.toNat (((g.2.length:Int):Int)-(e_c2:Int))
    omega
 refine ag rfl (df p3_c2) (aH rfl (aa (aa (a8 rfl (lx (ae cd zs3_c2 bx59 rfl) (lw (vp b53 0) (aw rfl) (lx (af d4 rfl rfl rfl rfl) (lx (ae b9 rfl bx54 rfl) ?_))))))))
 have len249:=(o36.flat).small
 refine lx (bq bv rfl o36.flat) (mi 0 (ab (ao ?_)))
 refine aY (σ:=Nat×(List Int)×aG) (λ⟨q_c2,by_c2,gq⟩ f w=>bn w0 gq w/\f 3=vp b55 0/\f 73=vi (List.length (List.replicate (Int.toNat g.1) (0:Int)):Int)/\f 74=vi ↑q_c2/\Sl gq (is 0) w g_v g.2/\Bx gq (is 1) w b3 [vi g.1,g_v]/\Bx gq (is 2) w b8 [vn,vn,vi 0]/\Bx gq (is 3) w b13 [vn,vn,vi 0]/\Bx gq (is 4) w b19 [vi g.1,g_v]/\cY gq 6 w v43 O_c2/\Ow gq (is 7) (is 7) w v44 (List.replicate (Int.toNat g.1) (0:Int))/\Ow gq (is 8) (is 8) w v45 (List.replicate (Int.toNat g.1) (0:Int))/\Ow gq (is 9) (is 9) w v46 by_c2/\Ow gq (is 10) (is 10) w v47 (List.replicate (Int.toNat g.1) (0:Int))/\Ow gq (is 11) (is 11) w v48 (List.replicate (Int.toNat (g.2.length:Int)) false)/\Ow gq (is 12) (is 12) w v49 (List.replicate (Int.toNat (g.2.length:Int)) (0:Int))/\Bx gq (is 13) w b53 [vi g.1,g_v,v43,v44,v45,v46,v47,vi 0,vn,v48,v49,vi 0,(.nilFunc)]/\Bx gq (is 14) w b55 [vp b53 0]/\(q_c2:Int)<=((List.length (List.replicate (Int.toNat g.1) (0:Int)):Int):Int)/\(by_c2=List.replicate q_c2 (-1)++List.replicate (Int.toNat g.1-q_c2) 0)) (λ⟨q_c2,by_c2,gq⟩=>Int.toNat (((List.length (List.replicate (Int.toNat g.1) (0:Int)):Int):Int)-(q_c2:Int))) (0,(List.replicate (Int.toNat g.1) (0:Int)),g66) ?_ ?_
 · exact⟨bH,zs3_c2,rfl,rfl,Rg,bx5,bx10,bx15,bx21,o33,o34,o35,o36,o37,o38,o39,bx54,bx59,by omega,by simp⟩
 clear Rg bx5 bx10 bx15 bx21 o33 o34 o35 o36 o37 o38 o39 bx54 bx59 bH
 rintro⟨q_c2,by_c2,g252⟩ f250 w251 ⟨bH,zs3_c2,zs73_c2,zs74_c2,Rg,bx5,bx10,bx15,bx21,o33,o34,o35,o36,o37,o38,o39,bx54,bx59,hle_q_c2,hby_c2⟩ back12_c2
 have hqz_c2:(q_c2:Int)<=g.1:=by rw[<-hrz];omega
 have hbl_c2:=zU hby_c2 (by omega)
 refine aa (a8 rfl (lx (bm (m:=↑q_c2) (n:=(List.length (List.replicate (Int.toNat g.1) (0:Int)):Int)) zs74_c2 zs73_c2) (ab (aa ?_))))
 by_cases p12_c2:(q_c2:Int)<(List.length (List.replicate (Int.toNat g.1) (0:Int)):Int)
 ·
  refine ah rfl (dt p12_c2) (aq (aa (ao (aa (a8 rfl (mz zs74_c2 (ai (q_c2:Int) (ab (a8 rfl (lx (ae cd zs3_c2 bx59 rfl) (lw (vp b53 0) (aw rfl) ?_)))))))))))
  refine lx (af d4 rfl rfl rfl rfl) (lx (ae b9 rfl bx54 rfl) (mi ↑q_c2 (lx (ad (v:=v46) (i:=↑q_c2) bv rfl rfl o36.flat rfl (by omega) (by omega)) (lo (aQ (i:=↑q_c2) (-1) aj rfl rfl o36 (by omega) (by omega) rfl ?_)))))
  intro w253 ch254 bx255
  clear o36
  refine ab (am (a8 rfl (lx (aI (m:=↑q_c2) (n:=1) zs74_c2 rfl (by omega)) (mi ((q_c2:Int)+1) (ab ?_)))))
  refine back12_c2 (q_c2+1,(List.set by_c2 (Int.toNat ↑q_c2) (-1)),g252) _ _ ⟨bH.ce ch254,zs3_c2,zs73_c2,rfl,Rg.ce ch254,bx5.ce ch254,bx10.ce ch254,bx15.ce ch254,bx21.ce ch254,o33.ce ch254,o34.ce ch254,o35.ce ch254,bx255,o37.ce ch254,o38.ce ch254,o39.ce ch254,bx54.ce ch254,bx59.ce ch254,by omega,?_⟩ ?_
  · show(List.set by_c2 (Int.toNat ↑q_c2) (-1))=List.replicate (q_c2+1) (-1)++List.replicate (Int.toNat g.1-(q_c2+1)) 0
    exact zh hby_c2 (by omega)
  · show Int.toNat (((List.length (List.replicate (Int.toNat g.1) (0:Int)):Int):Int)-((q_c2+1):Int))<Int.toNat (((List.length (List.replicate (Int.toNat g.1) (0:Int)):Int):Int)-(q_c2:Int))
    omega
 refine ag rfl (df p12_c2) (aH rfl (aa (a8 rfl (lx (ae cd zs3_c2 bx59 rfl) (lw (Value.func (.func 103) #[] (List.toArray [vp b55 0])) (jY (vals:=[vp b55 0]) (wM zs3_c2 rfl)) (lw (vp b53 0) (aw rfl) (lx (af d4 rfl rfl rfl rfl) (lo (aT (cs':=[vi g.1,g_v,v43,v44,v45,v46,v47,vi 0,vn,v48,v49,vi 0,Value.func (.func 103) #[] (List.toArray [vp b55 0])]) lq rfl rfl bx54 rfl nq (AllOne.all (.cons rfl .nil)) rfl ?_)))))))))
 intro w256 ch257 bx258
 clear bx54
 refine ab (aa (a8 rfl ?_))
 replace bx59:=bx59.ce ch257
 refine lx (ae cd zs3_c2 bx59 rfl) (ma (vp b53 0) (ab (aD (vs:=[vp b53 0]) Try.func100 (.tmp rfl .nil) ?_)))
 refine⟨vp b53 0,rfl,?_⟩
 refine ma (vp b53 0) (ab (aa (aa ?_)))
 have hO:=hov_c2.first (by omega)
 refine a8 rfl (lx (af cW rfl rfl rfl rfl) ?_)
 replace bx21:=bx21.ce ch257
 refine lx (ae aj rfl bx21 rfl) (mi 0 (ab (ao ?_)))
 clear bx21
 refine aY (σ:=Int×Value×(List Int)×Int×Nat×(List Int)×(List Int)×(List Int)×(List Int)×(List Bool)×(List Int)×aG) (λ⟨fo_c1,ed_c1_v,ed_c1,co_c1,v_c1,pl_c1,lo_c1,by_c1,nx_c1,la_c1,bl_c1,gq⟩ f w=>bn w0 gq w/\f 3=vp b53 0/\f 8=vi g.1/\f 9=vi ↑v_c1/\Sl gq (is 0) w g_v g.2/\Bx gq (is 1) w b3 [vi g.1,g_v]/\Bx gq (is 2) w b8 [vn,vn,vi 0]/\Bx gq (is 3) w b13 [vn,vn,vi 0]/\cY gq 6 w v43 O_c2/\Ow gq (is 7) (is 7) w v44 pl_c1/\Ow gq (is 8) (is 8) w v45 lo_c1/\Ow gq (is 9) (is 9) w v46 by_c1/\Ow gq (is 10) (is 10) w v47 nx_c1/\Ow gq (is 11) (is 11) w v48 la_c1/\Ow gq (is 12) (is 12) w v49 bl_c1/\Bx gq (is 14) w b55 [vp b53 0]/\Bx gq (is 13) w b53 [vi g.1,g_v,v43,v44,v45,v46,v47,vi fo_c1,ed_c1_v,v48,v49,vi co_c1,Value.func (.func 103) #[] (List.toArray [vp b55 0])]/\Ow gq (is 19) (is 19) w ed_c1_v ed_c1/\(v_c1:Int)<=(g.1:Int)/\(bs pl_c1 lo_c1 by_c1 nx_c1 fo_c1 ed_c1 la_c1 bl_c1 co_c1=dC g v_c1)) (λ⟨fo_c1,ed_c1_v,ed_c1,co_c1,v_c1,pl_c1,lo_c1,by_c1,nx_c1,la_c1,bl_c1,gq⟩=>Int.toNat ((g.1:Int)-(v_c1:Int))) (0,vn,[],0,0,(List.replicate (Int.toNat g.1) (0:Int)),(List.replicate (Int.toNat g.1) (0:Int)),by_c2,(List.replicate (Int.toNat g.1) (0:Int)),(List.replicate (Int.toNat (g.2.length:Int)) false),(List.replicate (Int.toNat (g.2.length:Int)) (0:Int)),g252) ?_ ?_
 · exact⟨bH.ce ch257,rfl,rfl,rfl,Rg.ce ch257,bx5.ce ch257,bx10.ce ch257,bx15.ce ch257,o33.ce ch257,o34.ce ch257,o35.ce ch257,o36.ce ch257,o37.ce ch257,o38.ce ch257,o39.ce ch257,bx59,bx258,Ow.nil,by omega,by exact Cx hby_c2 (by rw[<-hrz];omega)⟩
 clear Rg bx5 bx10 bx15 o33 o34 o35 o36 o37 o38 o39 bx59 bx258 bH
 rintro⟨fo_c1,ed_c1_v,ed_c1,co_c1,v_c1,pl_c1,lo_c1,by_c1,nx_c1,la_c1,bl_c1,g261⟩ f259 w260 ⟨bH,zs3_c1,zs8_c1,zs9_c1,Rg,bx5,bx10,bx15,o33,o34,o35,o36,o37,o38,o39,bx59,bx258,o_ed_c1,hle_v_c1,hal_c1⟩ back3_c1
 have hsi_c1:eU g (bs pl_c1 lo_c1 by_c1 nx_c1 fo_c1 ed_c1 la_c1 bl_c1 co_c1) []:=by rw[hal_c1];exact B7 hm v_c1 (by omega)
 have hl1_c1:(pl_c1.length:Int)=g.1:=hsi_c1.l1
 have hl2_c1:(lo_c1.length:Int)=g.1:=hsi_c1.l2
 have hl3_c1:(by_c1.length:Int)=g.1:=hsi_c1.l3
 have hl4_c1:(nx_c1.length:Int)=g.1:=hsi_c1.l4
 have hl5_c1:(la_c1.length:Int)=g.2.length:=hsi_c1.l5
 have hl6_c1:(bl_c1.length:Int)=g.2.length:=hsi_c1.l6
 obtain⟨hb1_c1,hb2_c1,hb3_c1,hb4_c1⟩:0<=fo_c1/\fo_c1<=g.1/\0<=co_c1/\co_c1+(ed_c1.length:Int)<=(g.2.length:Int):=xT (s:=bs pl_c1 lo_c1 by_c1 nx_c1 fo_c1 ed_c1 la_c1 bl_c1 co_c1) hsi_c1
 refine aa (a8 rfl (lx (bm (m:=↑v_c1) (n:=g.1) zs9_c1 zs8_c1) (ab (aa ?_))))
 by_cases p3_c1:(v_c1:Int)<g.1
 ·
  refine ah rfl (dt p3_c1) (aq (aa (ao (aa (a8 rfl (mz zs9_c1 (ai (v_c1:Int) (ab (aa (a8 rfl (mz zs3_c1 (lw (vp b53 0) (aw rfl) ?_))))))))))))
  refine lx (af d4 rfl rfl rfl rfl) (lx (ae b9 rfl bx258 rfl) (mi ↑v_c1 (lx (ad (v:=v44) (i:=↑v_c1) bv rfl rfl o34.flat rfl (by omega) (by omega)) (lx (az (v:=v44) (i:=↑v_c1) aj rfl o34.flat (by omega) (by omega) (by decide) rfl) (lx (cZ (m:=(gI pl_c1 ↑v_c1)) (n:=0) rfl rfl) (ab ?_))))))
  by_cases p5_c1:(gI pl_c1 ↑v_c1)=0
  ·
   refine ah rfl (dt p5_c1) (a8 rfl (mz zs3_c1 (mi ↑v_c1 (lo ?_))))
   refine bQ (σ:=Int×Value×(List Int)×Int×(List Int)×(List Int)×(List Int)×(List Int)×(List Bool)×(List Int)×aG) (V:=λ⟨fo_c3,ed_c3_v,ed_c3,co_c3,pl_c3,lo_c3,by_c3,nx_c3,la_c3,bl_c3,gq⟩=>vt []) (S:=λ⟨fo_c3,ed_c3_v,ed_c3,co_c3,pl_c3,lo_c3,by_c3,nx_c3,la_c3,bl_c3,gq⟩ w=>bn w0 gq w/\Sl gq (is 0) w g_v g.2/\Bx gq (is 1) w b3 [vi g.1,g_v]/\Bx gq (is 2) w b8 [vn,vn,vi 0]/\Bx gq (is 3) w b13 [vn,vn,vi 0]/\cY gq 6 w v43 O_c2/\Ow gq (is 7) (is 7) w v44 pl_c3/\Ow gq (is 8) (is 8) w v45 lo_c3/\Ow gq (is 9) (is 9) w v46 by_c3/\Ow gq (is 10) (is 10) w v47 nx_c3/\Ow gq (is 11) (is 11) w v48 la_c3/\Ow gq (is 12) (is 12) w v49 bl_c3/\Bx gq (is 14) w b55 [vp b53 0]/\Bx gq (is 13) w b53 [vi g.1,g_v,v43,v44,v45,v46,v47,vi fo_c3,ed_c3_v,v48,v49,vi co_c3,Value.func (.func 103) #[] (List.toArray [vp b55 0])]/\Ow gq (is 19) (is 19) w ed_c3_v ed_c3/\((bs pl_c3 lo_c3 by_c3 nx_c3 fo_c3 ed_c3 la_c3 bl_c3 co_c3)=gu g (bs pl_c1 lo_c1 by_c1 nx_c1 fo_c1 ed_c1 la_c1 bl_c1 co_c1) (v_c1:Int))) (aN (vals:=[vp b53 0,vi ↑v_c1]) Try.func101 wa yr rfl) (nn bH Rg bx5 bx10 bx15 o33 o34 o35 o36 o37 o38 o39 bx59 bx258 o_ed_c1 hm hO hov_c2 (by omega) ‹_› (by omega) (by omega) ‹_›) ?_
   clear Rg bx5 bx10 bx15 o33 o34 o35 o36 o37 o38 o39 bx59 bx258 o_ed_c1 bH
   rintro⟨fo_c3,ed_c3_v,ed_c3,co_c3,pl_c3,lo_c3,by_c3,nx_c3,la_c3,bl_c3,g439⟩ w438 ⟨bH,Rg,bx5,bx10,bx15,o33,o34,o35,o36,o37,o38,o39,bx59,bx258,o_ed_c3,hfj_c3⟩
   refine ab (am (a8 rfl (lx (aI (m:=↑v_c1) (n:=1) zs9_c1 rfl (by omega)) (mi ((v_c1:Int)+1) (ab ?_)))))
   refine back3_c1 (fo_c3,ed_c3_v,ed_c3,co_c3,v_c1+1,pl_c3,lo_c3,by_c3,nx_c3,la_c3,bl_c3,g439) _ _ ⟨bH,zs3_c1,zs8_c1,rfl,Rg,bx5,bx10,bx15,o33,o34,o35,o36,o37,o38,o39,bx59,bx258,o_ed_c3,by omega,?_⟩ ?_
   · show bs pl_c3 lo_c3 by_c3 nx_c3 fo_c3 ed_c3 la_c3 bl_c3 co_c3=dC g (v_c1+1)
     exact zp hal_c1 ‹_› ‹_›
   · show Int.toNat ((g.1:Int)-((v_c1+1):Int))<Int.toNat ((g.1:Int)-(v_c1:Int))
     omega
  refine ag rfl (df p5_c1) (aq (am (a8 rfl (lx (aI (m:=↑v_c1) (n:=1) zs9_c1 rfl (by omega)) (mi ((v_c1:Int)+1) (ab ?_))))))
  refine back3_c1 (fo_c1,ed_c1_v,ed_c1,co_c1,v_c1+1,pl_c1,lo_c1,by_c1,nx_c1,la_c1,bl_c1,g261) _ _ ⟨bH,zs3_c1,zs8_c1,rfl,Rg,bx5,bx10,bx15,o33,o34,o35,o36,o37,o38,o39,bx59,bx258,o_ed_c1,by omega,?_⟩ ?_
  · show bs pl_c1 lo_c1 by_c1 nx_c1 fo_c1 ed_c1 la_c1 bl_c1 co_c1=dC g (v_c1+1)
    exact C1 hal_c1 ‹_›
  · show Int.toNat ((g.1:Int)-((v_c1+1):Int))<Int.toNat ((g.1:Int)-(v_c1:Int))
    omega
 refine ag rfl (df p3_c1) (aH rfl (aa (a8 rfl (mz zs3_c1 (ma (vp b53 0) (ab (aD (vs:=[vp b53 0]) Try.func94 (.tmp rfl .nil) ?_)))))))
 refine⟨vp b53 0,rfl,?_⟩
 refine lw (vp b53 0) (aw rfl) (lx (af d4 rfl rfl rfl rfl) (lx (ae b9 rfl bx258 rfl) (lo (bQ (aN (vals:=[v49]) Try.func93 Ac zO rfl) (za w260 bl_c1 v49 (o39.flat).ro) ?_))))
 rintro⟨d441,v443⟩ w440 ⟨fr442,o444⟩
 obtain⟨g445,ch446,G445⟩:=ia g261 fr442 (λn=>if n=1 then 21 else 0)
 replace o444:=o444.gl G445 21
 refine mv (vt [v443,vi ((aR bl_c1 bl_c1.length).1.length:Int)]) (lx (aJ rfl rfl) (lx (aJ rfl rfl) (lx (af jV rfl rfl rfl rfl) (lo ?_))))
 replace bx15:=bx15.cn ch446
 refine c8 (cs':=[v443,vn,vi 0]) b9 rfl rfl bx15 (c5 o444.flat) nq (bK o444.flat) rfl ?_
 intro w447 ch448 bx449
 clear bx15
 refine lx (af jV rfl rfl rfl rfl) (lo (aT (cs':=[v443,vn,vi ((aR bl_c1 bl_c1.length).1.length:Int)]) aj rfl rfl bx449 rfl nq (AllOne.all (.cons rfl .nil)) rfl ?_))
 intro w450 ch451 bx452
 clear bx449
 refine ab (aa ?_)
 clear o33 o34 o35 o36 o37 o38 o39 bx59 bx258 o_ed_c1
 have hvv:v_c1=Int.toNat g.1:=by omega
 have hbb:bl_c1=(dC g (Int.toNat g.1)).block:=by rw[<-hvv,<-hal_c1]
 have hnam:=yK hbb hl6_c1
 have hof:(aR bl_c1 bl_c1.length).2=fJ g:=by rw[hnam];rfl
 have hofl:((aR bl_c1 bl_c1.length).2.length:Int)=g.2.length:=by rw[hof,pK]
 obtain⟨hcb0,hcb1⟩:=xZ g
 clear hle_e_c2 p3_c2 hle_q_c2 hqz_c2 hbl_c2 p12_c2 hle_v_c1 p3_c1 hl1_c1 hl2_c1 hl3_c1 hl4_c1 hl5_c1 hb1_c1 hb2_c1 hb3_c1 hb4_c1 hvv hrz hol_c2
 refine a8 rfl (lx (af cW rfl rfl rfl rfl) ?_)
 have C453:=cg [3] (ch446.n.seq ((ch448.l rfl).seq (ch451.l rfl)))
 replace bx5:=bx5.ca C453
 refine lx (ae aj rfl bx5 rfl) (lo (dL (α:=Int) (l:=g.1) (cp:=g.1) g445 (is 22) (is 22) (22,0) rfl (0:Int) bv aj rfl rfl rfl (by omega) (by omega) (by omega) (by omega) ?_))
 intro g454 w455 v456 ch457 o458 hcap_
 clear hcap_
 refine ma v456 (ab (aa (a8 rfl (lx (af cW rfl rfl rfl rfl) ?_))))
 replace bx5:=bx5.cn ch457
 refine lx (ae aj rfl bx5 rfl) (lo (dL (α:=Bool) (l:=g.1) (cp:=g.1) g454 (is 23) (is 23) (23,0) rfl false gj cO rfl rfl rfl (by omega) (by omega) (by omega) (by omega) ?_))
 intro g459 w460 v461 ch462 o463 hcap_
 clear hcap_
 refine ma v461 (ab (aa (aa (a8 rfl (lx (af cW rfl rfl rfl rfl) ?_)))))
 replace bx5:=bx5.cn ch462
 refine lx (ae bG rfl bx5 rfl) ?_
 have C464:=cg [3] (ch446.n.seq ((ch448.l rfl).seq ((ch451.l rfl).seq (ch457.n.seq ch462.n))))
 replace Rg:=Rg.ca C464
 refine lx (bq dc rfl Rg) (mi 0 (ab (ao ?_)))
 clear bx5
 refine aY (σ:=Nat×(List Int)×(List Bool)×aG) (λ⟨k,oo,cc,gq⟩ f w=>bn w0 gq w/\f 2=vp b8 0/\f 3=vp b13 0/\f 4=v456/\f 5=v461/\f 30=g_v/\f 31=vi (g.2.length:Int)/\f 32=vi ↑k/\Sl gq (is 0) w g_v g.2/\Bx gq (is 2) w b8 [vn,vn,vi 0]/\Ow gq (is 21) (is 21) w v443 ((aR bl_c1 bl_c1.length).2)/\Bx gq (is 3) w b13 [v443,vn,vi ((aR bl_c1 bl_c1.length).1.length:Int)]/\Ow gq (is 22) (is 22) w v456 oo/\Ow gq (is 23) (is 23) w v461 cc/\(k:Int)<=((g.2.length:Int):Int)/\(iA (fJ g) g oo cc (2*k))) (λ⟨k,oo,cc,gq⟩=>Int.toNat (((g.2.length:Int):Int)-(k:Int))) (0,(List.replicate (Int.toNat g.1) (0:Int)),(List.replicate (Int.toNat g.1) false),g459) ?_ ?_
 have C465:=cg [3] ((ch448.l rfl).seq ((ch451.l rfl).seq (ch457.n.seq ch462.n)))
 · exact⟨bH.ca C464,rfl,rfl,rfl,rfl,rfl,rfl,rfl,Rg,bx10.ca C464,o444.ca C465,(bx452.cn ch457).cn ch462,o458.cn ch462,o463,by omega,by exact iA.start hm1⟩
 clear Rg bx10 o444 bx452 o458 o463 bH
 rintro⟨k,oo,cc,g468⟩ f466 w467 ⟨bH,zs2,zs3,zs4,zs5,zs30,zs31,zs32,Rg,bx10,o444,bx452,o458,o463,hle_k,hci⟩ back6
 have hci1:=hci.lo
 have hci2:=hci.lc
 refine aa (a8 rfl (lx (bm (m:=↑k) (n:=(g.2.length:Int)) zs32 zs31) (ab (aa ?_))))
 by_cases p6:(k:Int)<(g.2.length:Int)
 ·
  refine ah rfl (dt p6) ?_
  obtain⟨⟨he1,he2⟩,he3,he4⟩:=hm4 _ (br (xs:=g.2) (i:=↑k) (by omega) (by omega))
  have hoe:=iN g (i:=↑k) (by omega) (by omega)
  rw[<-hof] at hoe
  obtain⟨hoe0,hoe1⟩:=hoe
  refine aq (aa (ao (aa (a8 rfl (mz zs32 (lx (ad (v:=g_v) (i:=↑k) dc rfl zs30 Rg zs32 (by omega) (by omega)) (lw (vg [vi ((gI g.2 ↑k).1),vi ((gI g.2 ↑k).2)]) (cL (v:=g_v) (i:=↑k) b7 rfl Rg (by omega) (by omega) rfl) (lo (bP g468 (is 24) (24,0) rfl b7 ?_)))))))))
  intro g472 w469 b471 ch470 bx473
  replace bx473:Bx g472 (is 24) w469 b471 [vi 0,vi 0]:=bx473
  refine ai (k:Int) (lo (aT (cs':=[vi ((gI g.2 ↑k).1),vi ((gI g.2 ↑k).2)]) b7 rfl rfl bx473 rfl nq (AllOne.all (.cons rfl (.cons rfl .nil))) rfl ?_))
  intro w474 ch475 bx476
  clear bx473
  refine ab (aa (a8 rfl (lx (aB (ds:=[vi ((gI g.2 ↑k).1),vi ((gI g.2 ↑k).2)]) b7 rfl bx476 rfl rfl) (mi 0 (ab (ao (fO (aa ?_))))))))
  clear bx476
  refine a8 rfl (lx (bm (m:=0) (n:=2) rfl rfl) (ab (aa (ah rfl rfl (aq (aa (ao (aa (a8 rfl (lw (vi ((gI g.2 ↑k).1)) (dE dI aj rfl rfl (by decide) (by decide) rfl) (ai ((gI g.2 ↑k).1) ?_)))))))))))
  refine ab (aa (bV g472 [0,1,2,3,4,5,6,7,8,9,10,11,12,13,14,15,16,17,18,19,20,21,22,23,24,25,26] gH ?_))
  intro w478 ch477
  refine xp (v:=v461) 0 rfl (λw=>au zs5) (xp (v:=vi ((gI g.2 ↑k).1)) 1 rfl (λw=>au rfl) (xp (v:=v461) 2 rfl (λw=>au zs5) (xp (v:=vi ((gI g.2 ↑k).1)) 3 rfl (λw=>au rfl) ?_)))
  have C479:=cg [24] (ch470.n.seq ((ch475.l rfl).seq ch477.n))
  replace o463:=o463.ca C479
  refine xv 4 [3,2,1,0] rfl (ad (v:=v461) (i:=(gI g.2 ↑k).1) gj rfl rfl o463.flat rfl (by omega) (by omega)) (xv 5 [4,3,2,1,0] rfl (az (v:=v461) (i:=(gI g.2 ↑k).1) cO rfl o463.flat (by omega) (by omega) (by decide) rfl) (xp (v:=vb (gI cc ((gI g.2 ↑k).1))) 6 rfl (λw=>au rfl) ?_))
  by_cases q47:(gI cc ((gI g.2 ↑k).1))=true
  ·
   refine aZ 7 rfl (by kernel_rfl) (by kernel_rfl) (wn q47) (aZ 8 rfl (by kernel_rfl) (by kernel_rfl) (wn q47) (aZ 9 rfl (by kernel_rfl) (by kernel_rfl) (wn q47) (aZ 10 rfl (by kernel_rfl) (by kernel_rfl) (wn q47) (aZ 11 rfl (by kernel_rfl) (by kernel_rfl) (wn q47) (aZ 12 rfl (by kernel_rfl) (by kernel_rfl) (wn q47) (aZ 13 rfl (by kernel_rfl) (by kernel_rfl) (bh rfl rfl rfl) (aZ 14 rfl (by kernel_rfl) (by kernel_rfl) (bh rfl rfl rfl) (aZ 15 rfl (by kernel_rfl) (by kernel_rfl) (bh rfl rfl rfl) (aZ 16 rfl (by kernel_rfl) (by kernel_rfl) (bh rfl rfl rfl) ?_)))))))))
   refine aZ 17 rfl (by kernel_rfl) (by kernel_rfl) (bh rfl rfl rfl) (aZ 18 rfl (by kernel_rfl) (by kernel_rfl) (bh rfl rfl rfl) (aZ 19 rfl (by kernel_rfl) (by kernel_rfl) (bh rfl rfl rfl) (aZ 20 rfl (by kernel_rfl) (by kernel_rfl) (bh rfl rfl rfl) (aZ 21 rfl (by kernel_rfl) (by kernel_rfl) (bh rfl rfl rfl) (aZ 22 rfl (by kernel_rfl) (by kernel_rfl) (bh rfl rfl rfl) (aZ 23 rfl (by kernel_rfl) (by kernel_rfl) (bh rfl rfl rfl) (aZ 24 rfl (by kernel_rfl) (by kernel_rfl) (wn q47) (xp (v:=vb true) 25 rfl (λw=>aO rfl q47 rfl) (xv 26 [25,24,23,22,21,20,19,18,17,16,15,14,13,12,11,10,9,8,7,6,5,4,3,2,1,0] rfl (ad (v:=v461) (i:=(gI g.2 ↑k).1) gj rfl rfl o463.flat rfl (by omega) (by omega)) ?_)))))))))
   refine bB 27 rfl (by kernel_rfl) rfl (aQ (i:=(gI g.2 ↑k).1) true cO rfl rfl o463 (by omega) (by omega) rfl ?_)
   intro w480 ch481 bx482
   clear o463
   refine cA (by kernel_rfl) (a8 rfl (mz zs4 (mi ((gI g.2 ↑k).1) (lx (af jV rfl rfl zs3 rfl) ?_))))
   have C483:=cg [23,24] (ch470.n.seq ((ch475.l rfl).seq (ch477.n.seq (ch481.l rfl))))
   replace bx452:=bx452.ca C483
   refine lx (ae b9 rfl bx452 rfl) (mi ↑k ?_)
   replace o444:=o444.ca C483
   refine lx (ad (v:=v443) (i:=↑k) bv rfl rfl o444.flat rfl (by omega) (by omega)) (lx (az (v:=v443) (i:=↑k) aj rfl o444.flat (by omega) (by omega) (by decide) rfl) (lx (aI (m:=(gI ((aR bl_c1 bl_c1.length).2) (k:Int))) (n:=1) rfl rfl (by omega)) ?_))
   replace o458:=o458.ca C483
   refine lx (ad (v:=v456) (i:=(gI g.2 ↑k).1) bv rfl rfl o458.flat rfl (by omega) (by omega)) (lo (aQ (i:=(gI g.2 ↑k).1) ((gI ((aR bl_c1 bl_c1.length).2) (k:Int))+1) aj rfl rfl o458 (by omega) (by omega) rfl ?_))
   intro w484 ch485 bx486
   clear o458
   refine ab (am (a8 rfl (lx (aI (m:=0) (n:=1) rfl rfl (by omega)) (mi 1 (ab (cj (aa (a8 rfl (lx (bm (m:=1) (n:=2) rfl rfl) (ab (aa ?_)))))))))))
   refine ah rfl rfl (aq (aa (ao (aa (a8 rfl (lw (vi ((gI g.2 ↑k).2)) (dE dI aj rfl rfl (by decide) (by decide) rfl) (ai ((gI g.2 ↑k).2) (ab (aa (bV g472 [0,1,2,3,4,5,6,7,8,9,10,11,12,13,14,15,16,17,18,19,20,21,22,23,24,25,26] gH ?_))))))))))
   intro w488 ch487
   refine xp (v:=v461) 0 rfl (λw=>au zs5) (xp (v:=vi ((gI g.2 ↑k).2)) 1 rfl (λw=>au rfl) (xp (v:=v461) 2 rfl (λw=>au zs5) (xp (v:=vi ((gI g.2 ↑k).2)) 3 rfl (λw=>au rfl) ?_)))
   replace bx482:=(bx482.ce ch485).cn ch487
   refine xv 4 [3,2,1,0] rfl (ad (v:=v461) (i:=(gI g.2 ↑k).2) gj rfl rfl bx482.flat rfl (by omega) (by(simp only[List.length_set,List.length_append,List.length_cons,List.length_nil,List.length_replicate,List.length_map,List.length_take,List.length_drop];omega))) (xv 5 [4,3,2,1,0] rfl (az (v:=v461) (i:=(gI g.2 ↑k).2) cO rfl bx482.flat (by omega) (by(simp only[List.length_set,List.length_append,List.length_cons,List.length_nil,List.length_replicate,List.length_map,List.length_take,List.length_drop];omega)) (by decide) rfl) (xp (v:=vb (gI (List.set cc (Int.toNat ((gI g.2 ↑k).1)) true) ((gI g.2 ↑k).2))) 6 rfl (λw=>au rfl) ?_))
   by_cases q47_489:(gI (List.set cc (Int.toNat ((gI g.2 ↑k).1)) true) ((gI g.2 ↑k).2))=true
   ·
    refine aZ 7 rfl (by kernel_rfl) (by kernel_rfl) (wn q47_489) (aZ 8 rfl (by kernel_rfl) (by kernel_rfl) (wn q47_489) (aZ 9 rfl (by kernel_rfl) (by kernel_rfl) (wn q47_489) (aZ 10 rfl (by kernel_rfl) (by kernel_rfl) (wn q47_489) (aZ 11 rfl (by kernel_rfl) (by kernel_rfl) (wn q47_489) (aZ 12 rfl (by kernel_rfl) (by kernel_rfl) (wn q47_489) (aZ 13 rfl (by kernel_rfl) (by kernel_rfl) (bh rfl rfl rfl) (aZ 14 rfl (by kernel_rfl) (by kernel_rfl) (bh rfl rfl rfl) (aZ 15 rfl (by kernel_rfl) (by kernel_rfl) (bh rfl rfl rfl) (aZ 16 rfl (by kernel_rfl) (by kernel_rfl) (bh rfl rfl rfl) ?_)))))))))
    refine aZ 17 rfl (by kernel_rfl) (by kernel_rfl) (bh rfl rfl rfl) (aZ 18 rfl (by kernel_rfl) (by kernel_rfl) (bh rfl rfl rfl) (aZ 19 rfl (by kernel_rfl) (by kernel_rfl) (bh rfl rfl rfl) (aZ 20 rfl (by kernel_rfl) (by kernel_rfl) (bh rfl rfl rfl) (aZ 21 rfl (by kernel_rfl) (by kernel_rfl) (bh rfl rfl rfl) (aZ 22 rfl (by kernel_rfl) (by kernel_rfl) (bh rfl rfl rfl) (aZ 23 rfl (by kernel_rfl) (by kernel_rfl) (bh rfl rfl rfl) (aZ 24 rfl (by kernel_rfl) (by kernel_rfl) (wn q47_489) (xp (v:=vb true) 25 rfl (λw=>aO rfl q47_489 rfl) ?_))))))))
    refine xv 26 [25,24,23,22,21,20,19,18,17,16,15,14,13,12,11,10,9,8,7,6,5,4,3,2,1,0] rfl (ad (v:=v461) (i:=(gI g.2 ↑k).2) gj rfl rfl bx482.flat rfl (by omega) (by(simp only[List.length_set,List.length_append,List.length_cons,List.length_nil,List.length_replicate,List.length_map,List.length_take,List.length_drop];omega))) (bB 27 rfl (by kernel_rfl) rfl (aQ (i:=(gI g.2 ↑k).2) true cO rfl rfl bx482 (by omega) (by(simp only[List.length_set,List.length_append,List.length_cons,List.length_nil,List.length_replicate,List.length_map,List.length_take,List.length_drop];omega)) rfl ?_))
    intro w490 ch491 bx492
    clear bx482
    refine cA (by kernel_rfl) (a8 rfl (mz zs4 (mi ((gI g.2 ↑k).2) (lx (af jV rfl rfl zs3 rfl) ?_))))
    have C493:=cg [22,23] ((ch485.l rfl).seq (ch487.n.seq (ch491.l rfl)))
    replace bx452:=bx452.ca C493
    refine lx (ae b9 rfl bx452 rfl) (mi ↑k ?_)
    replace o444:=o444.ca C493
    refine lx (ad (v:=v443) (i:=↑k) bv rfl rfl o444.flat rfl (by omega) (by omega)) (lx (az (v:=v443) (i:=↑k) aj rfl o444.flat (by omega) (by omega) (by decide) rfl) (lx (aI (m:=(gI ((aR bl_c1 bl_c1.length).2) (k:Int))) (n:=1) rfl rfl (by omega)) ?_))
    replace bx486:=(bx486.cn ch487).ce ch491
    refine lx (ad (v:=v456) (i:=(gI g.2 ↑k).2) bv rfl rfl bx486.flat rfl (by omega) (by(simp only[List.length_set,List.length_append,List.length_cons,List.length_nil,List.length_replicate,List.length_map,List.length_take,List.length_drop];omega))) (lo (aQ (i:=(gI g.2 ↑k).2) ((gI ((aR bl_c1 bl_c1.length).2) (k:Int))+1) aj rfl rfl bx486 (by omega) (by(simp only[List.length_set,List.length_append,List.length_cons,List.length_nil,List.length_replicate,List.length_map,List.length_take,List.length_drop];omega)) rfl ?_))
    intro w494 ch495 bx496
    clear bx486
    refine ab (am (a8 rfl (lx (aI (m:=1) (n:=1) rfl rfl (by omega)) (mi 2 (ab (cj (aa (a8 rfl (lx (bm (m:=2) (n:=2) rfl rfl) (ab (aa ?_)))))))))))
    refine ag rfl rfl (aH rfl (am (a8 rfl (lx (aI (m:=↑k) (n:=1) zs32 rfl (by omega)) (mi ((k:Int)+1) (ab ?_))))))
    have C497:=cg [22,23,24] (ch470.n.seq ((ch475.l rfl).seq (ch477.n.seq ((ch481.l rfl).seq ((ch485.l rfl).seq (ch487.n.seq ((ch491.l rfl).seq (ch495.l rfl))))))))
    refine back6 (k+1,(List.set (List.set oo (Int.toNat ((gI g.2 ↑k).1)) ((gI ((aR bl_c1 bl_c1.length).2) (k:Int))+1)) (Int.toNat ((gI g.2 ↑k).2)) ((gI ((aR bl_c1 bl_c1.length).2) (k:Int))+1)),(List.set (List.set cc (Int.toNat ((gI g.2 ↑k).1)) true) (Int.toNat ((gI g.2 ↑k).2)) true),g472) _ _ ⟨bH.ca C497,zs2,zs3,zs4,zs5,zs30,zs31,rfl,Rg.ca C497,bx10.ca C497,o444.ce ch495,bx452.ce ch495,bx496,bx492.ce ch495,by omega,?_⟩ ?_
    · show iA (fJ g) g (List.set (List.set oo (Int.toNat ((gI g.2 ↑k).1)) ((gI ((aR bl_c1 bl_c1.length).2) (k:Int))+1)) (Int.toNat ((gI g.2 ↑k).2)) ((gI ((aR bl_c1 bl_c1.length).2) (k:Int))+1)) (List.set (List.set cc (Int.toNat ((gI g.2 ↑k).1)) true) (Int.toNat ((gI g.2 ↑k).2)) true) (2*(k+1))
      exact hci.two rfl rfl (by rw[<-hof]) (by rw[<-hof];(exact lp ‹_›)) (by rw[<-hof]) (by rw[<-hof];(exact lp ‹_›))
    · show Int.toNat (((g.2.length:Int):Int)-((k+1):Int))<Int.toNat (((g.2.length:Int):Int)-(k:Int))
      omega
   refine bZ (v:=v456) 7 rfl (by kernel_rfl) (by kernel_rfl) (wy (Bool.eq_false_iff.2 q47_489)) (λw=>au zs4) (bZ (v:=vi ((gI g.2 ↑k).2)) 8 rfl (by kernel_rfl) (by kernel_rfl) (wy (Bool.eq_false_iff.2 q47_489)) (λw=>au rfl) ?_)
   replace bx486:=bx486.cn ch487
   refine dV (v:=Value.pointer (some (bA v456 1 (Int.toNat ((gI g.2 ↑k).2))))) 9 [8,7,6,5,4,3,2,1,0] rfl (by kernel_rfl) (by kernel_rfl) (wy (Bool.eq_false_iff.2 q47_489)) (ad (α:=Int) (xs:=(List.set oo (Int.toNat ((gI g.2 ↑k).1)) ((gI ((aR bl_c1 bl_c1.length).2) (k:Int))+1))) (v:=v456) (i:=(gI g.2 ↑k).2) bv rfl rfl bx486.flat rfl (by omega) (by(simp only[List.length_set,List.length_append,List.length_cons,List.length_nil,List.length_replicate,List.length_map,List.length_take,List.length_drop];omega))) ?_
   refine dV (v:=vi (gI (List.set oo (Int.toNat ((gI g.2 ↑k).1)) ((gI ((aR bl_c1 bl_c1.length).2) (k:Int))+1)) ((gI g.2 ↑k).2))) 10 [9,8,7,6,5,4,3,2,1,0] rfl (by kernel_rfl) (by kernel_rfl) (wy (Bool.eq_false_iff.2 q47_489)) (az (α:=Int) (xs:=(List.set oo (Int.toNat ((gI g.2 ↑k).1)) ((gI ((aR bl_c1 bl_c1.length).2) (k:Int))+1))) (v:=v456) (i:=(gI g.2 ↑k).2) aj rfl bx486.flat (by omega) (by(simp only[List.length_set,List.length_append,List.length_cons,List.length_nil,List.length_replicate,List.length_map,List.length_take,List.length_drop];omega)) (by decide) rfl) ?_
   refine bZ (v:=vb (decide (0<(gI (List.set oo (Int.toNat ((gI g.2 ↑k).1)) ((gI ((aR bl_c1 bl_c1.length).2) (k:Int))+1)) ((gI g.2 ↑k).2))))) 11 rfl (by kernel_rfl) (by kernel_rfl) (wy (Bool.eq_false_iff.2 q47_489)) (λw=>eu (m:=(gI (List.set oo (Int.toNat ((gI g.2 ↑k).1)) ((gI ((aR bl_c1 bl_c1.length).2) (k:Int))+1)) ((gI g.2 ↑k).2))) (n:=0) rfl rfl) (bZ (v:=vb (decide (0<(gI (List.set oo (Int.toNat ((gI g.2 ↑k).1)) ((gI ((aR bl_c1 bl_c1.length).2) (k:Int))+1)) ((gI g.2 ↑k).2))))) 12 rfl (by kernel_rfl) (by kernel_rfl) (wy (Bool.eq_false_iff.2 q47_489)) (λw=>au rfl) ?_)
   by_cases q53:0<(gI (List.set oo (Int.toNat ((gI g.2 ↑k).1)) ((gI ((aR bl_c1 bl_c1.length).2) (k:Int))+1)) ((gI g.2 ↑k).2))
   ·
    refine bZ (v:=v456) 13 rfl (by kernel_rfl) (by kernel_rfl) (wy (dt q53)) (λw=>au zs4) (bZ (v:=vi ((gI g.2 ↑k).2)) 14 rfl (by kernel_rfl) (by kernel_rfl) (wy (dt q53)) (λw=>au rfl) ?_)
    refine dV (v:=Value.pointer (some (bA v456 1 (Int.toNat ((gI g.2 ↑k).2))))) 15 [14,13,12,11,10,9,8,7,6,5,4,3,2,1,0,17,19,18,20,21,22] rfl (by kernel_rfl) (by kernel_rfl) (wy (dt q53)) (ad (α:=Int) (xs:=(List.set oo (Int.toNat ((gI g.2 ↑k).1)) ((gI ((aR bl_c1 bl_c1.length).2) (k:Int))+1))) (v:=v456) (i:=(gI g.2 ↑k).2) bv rfl rfl bx486.flat rfl (by omega) (by(simp only[List.length_set,List.length_append,List.length_cons,List.length_nil,List.length_replicate,List.length_map,List.length_take,List.length_drop];omega))) ?_
    refine dV (v:=vi (gI (List.set oo (Int.toNat ((gI g.2 ↑k).1)) ((gI ((aR bl_c1 bl_c1.length).2) (k:Int))+1)) ((gI g.2 ↑k).2))) 16 [15,14,13,12,11,10,9,8,7,6,5,4,3,2,1,0,17,19,18,20,21,22] rfl (by kernel_rfl) (by kernel_rfl) (wy (dt q53)) (az (α:=Int) (xs:=(List.set oo (Int.toNat ((gI g.2 ↑k).1)) ((gI ((aR bl_c1 bl_c1.length).2) (k:Int))+1))) (v:=v456) (i:=(gI g.2 ↑k).2) aj rfl bx486.flat (by omega) (by(simp only[List.length_set,List.length_append,List.length_cons,List.length_nil,List.length_replicate,List.length_map,List.length_take,List.length_drop];omega)) (by decide) rfl) ?_
    refine bZ (v:=vp b13 0) 17 rfl (by kernel_rfl) (by kernel_rfl) (wy (dt q53)) (λw=>af jV rfl rfl zs3 rfl) ?_
    replace bx452:=(bx452.ce ch485).cn ch487
    refine dV (v:=v443) 18 [17,16,15,14,13,12,11,10,9,8,7,6,5,4,3,2,1,0,19] rfl (by kernel_rfl) (by kernel_rfl) (wy (dt q53)) (ae b9 rfl bx452 rfl) (bZ (v:=vi ↑k) 19 rfl (by kernel_rfl) (by kernel_rfl) (wy (dt q53)) (λw=>au rfl) ?_)
    replace o444:=(o444.ce ch485).cn ch487
    refine dV (v:=Value.pointer (some (bA v443 1 (Int.toNat ↑k)))) 20 [19,18,17,16,15,14,13,12,11,10,9,8,7,6,5,4,3,2,1,0] rfl (by kernel_rfl) (by kernel_rfl) (wy (dt q53)) (ad (α:=Int) (xs:=(aR bl_c1 bl_c1.length).2) (v:=v443) (i:=↑k) bv rfl rfl o444.flat rfl (by omega) (by omega)) (dV (v:=vi (gI ((aR bl_c1 bl_c1.length).2) (k:Int))) 21 [20,19,18,17,16,15,14,13,12,11,10,9,8,7,6,5,4,3,2,1,0] rfl (by kernel_rfl) (by kernel_rfl) (wy (dt q53)) (az (α:=Int) (xs:=(aR bl_c1 bl_c1.length).2) (v:=v443) (i:=↑k) aj rfl o444.flat (by omega) (by omega) (by decide) rfl) ?_)
    refine bZ (v:=vi ((gI ((aR bl_c1 bl_c1.length).2) (k:Int))+1)) 22 rfl (by kernel_rfl) (by kernel_rfl) (wy (dt q53)) (λw=>aI (m:=(gI ((aR bl_c1 bl_c1.length).2) (k:Int))) (n:=1) rfl rfl (by omega)) (bZ (v:=vb (!(decide ((gI (List.set oo (Int.toNat ((gI g.2 ↑k).1)) ((gI ((aR bl_c1 bl_c1.length).2) (k:Int))+1)) ((gI g.2 ↑k).2))=((gI ((aR bl_c1 bl_c1.length).2) (k:Int))+1))))) 23 rfl (by kernel_rfl) (by kernel_rfl) (wy (dt q53)) (λw=>cK (m:=(gI (List.set oo (Int.toNat ((gI g.2 ↑k).1)) ((gI ((aR bl_c1 bl_c1.length).2) (k:Int))+1)) ((gI g.2 ↑k).2))) (n:=(gI ((aR bl_c1 bl_c1.length).2) (k:Int))+1) rfl rfl) ?_)
    refine bZ (v:=vb (!(decide ((gI (List.set oo (Int.toNat ((gI g.2 ↑k).1)) ((gI ((aR bl_c1 bl_c1.length).2) (k:Int))+1)) ((gI g.2 ↑k).2))=((gI ((aR bl_c1 bl_c1.length).2) (k:Int))+1))))) 24 rfl (by kernel_rfl) (by kernel_rfl) (wy (Bool.eq_false_iff.2 q47_489)) (λw=>aO rfl (dt q53) rfl) (xp (v:=vb (!(decide ((gI (List.set oo (Int.toNat ((gI g.2 ↑k).1)) ((gI ((aR bl_c1 bl_c1.length).2) (k:Int))+1)) ((gI g.2 ↑k).2))=((gI ((aR bl_c1 bl_c1.length).2) (k:Int))+1))))) 25 rfl (λw=>aP rfl (Bool.eq_false_iff.2 q47_489) rfl) ?_)
    refine xv 26 [25,24,23,22,21,20,19,18,17,16,15,14,13,12,11,10,9,8,7,6,5,4,3,2,1,0] rfl (ad (v:=v461) (i:=(gI g.2 ↑k).2) gj rfl rfl bx482.flat rfl (by omega) (by(simp only[List.length_set,List.length_append,List.length_cons,List.length_nil,List.length_replicate,List.length_map,List.length_take,List.length_drop];omega))) (bB 27 rfl (by kernel_rfl) rfl (aQ (i:=(gI g.2 ↑k).2) (!(decide ((gI (List.set oo (Int.toNat ((gI g.2 ↑k).1)) ((gI ((aR bl_c1 bl_c1.length).2) (k:Int))+1)) ((gI g.2 ↑k).2))=((gI ((aR bl_c1 bl_c1.length).2) (k:Int))+1)))) cO rfl rfl bx482 (by omega) (by(simp only[List.length_set,List.length_append,List.length_cons,List.length_nil,List.length_replicate,List.length_map,List.length_take,List.length_drop];omega)) rfl ?_))
    intro w498 ch499 bx500
    clear bx482
    refine cA (by kernel_rfl) (a8 rfl (mz zs4 (mi ((gI g.2 ↑k).2) (lx (af jV rfl rfl zs3 rfl) ?_))))
    replace bx452:=bx452.ce ch499
    refine lx (ae b9 rfl bx452 rfl) (mi ↑k ?_)
    replace o444:=o444.ce ch499
    refine lx (ad (v:=v443) (i:=↑k) bv rfl rfl o444.flat rfl (by omega) (by omega)) (lx (az (v:=v443) (i:=↑k) aj rfl o444.flat (by omega) (by omega) (by decide) rfl) (lx (aI (m:=(gI ((aR bl_c1 bl_c1.length).2) (k:Int))) (n:=1) rfl rfl (by omega)) ?_))
    replace bx486:=bx486.ce ch499
    refine lx (ad (v:=v456) (i:=(gI g.2 ↑k).2) bv rfl rfl bx486.flat rfl (by omega) (by(simp only[List.length_set,List.length_append,List.length_cons,List.length_nil,List.length_replicate,List.length_map,List.length_take,List.length_drop];omega))) (lo (aQ (i:=(gI g.2 ↑k).2) ((gI ((aR bl_c1 bl_c1.length).2) (k:Int))+1) aj rfl rfl bx486 (by omega) (by(simp only[List.length_set,List.length_append,List.length_cons,List.length_nil,List.length_replicate,List.length_map,List.length_take,List.length_drop];omega)) rfl ?_))
    intro w501 ch502 bx503
    clear bx486
    refine ab (am (a8 rfl (lx (aI (m:=1) (n:=1) rfl rfl (by omega)) (mi 2 (ab (cj (aa (a8 rfl (lx (bm (m:=2) (n:=2) rfl rfl) (ab (aa ?_)))))))))))
    refine ag rfl rfl (aH rfl (am (a8 rfl (lx (aI (m:=↑k) (n:=1) zs32 rfl (by omega)) (mi ((k:Int)+1) (ab ?_))))))
    have C504:=cg [22,23,24] (ch470.n.seq ((ch475.l rfl).seq (ch477.n.seq ((ch481.l rfl).seq ((ch485.l rfl).seq (ch487.n.seq ((ch499.l rfl).seq (ch502.l rfl))))))))
    refine back6 (k+1,(List.set (List.set oo (Int.toNat ((gI g.2 ↑k).1)) ((gI ((aR bl_c1 bl_c1.length).2) (k:Int))+1)) (Int.toNat ((gI g.2 ↑k).2)) ((gI ((aR bl_c1 bl_c1.length).2) (k:Int))+1)),(List.set (List.set cc (Int.toNat ((gI g.2 ↑k).1)) true) (Int.toNat ((gI g.2 ↑k).2)) (!(decide ((gI (List.set oo (Int.toNat ((gI g.2 ↑k).1)) ((gI ((aR bl_c1 bl_c1.length).2) (k:Int))+1)) ((gI g.2 ↑k).2))=((gI ((aR bl_c1 bl_c1.length).2) (k:Int))+1))))),g472) _ _ ⟨bH.ca C504,zs2,zs3,zs4,zs5,zs30,zs31,rfl,Rg.ca C504,bx10.ca C504,o444.ce ch502,bx452.ce ch502,bx503,bx500.ce ch502,by omega,?_⟩ ?_
    · show iA (fJ g) g (List.set (List.set oo (Int.toNat ((gI g.2 ↑k).1)) ((gI ((aR bl_c1 bl_c1.length).2) (k:Int))+1)) (Int.toNat ((gI g.2 ↑k).2)) ((gI ((aR bl_c1 bl_c1.length).2) (k:Int))+1)) (List.set (List.set cc (Int.toNat ((gI g.2 ↑k).1)) true) (Int.toNat ((gI g.2 ↑k).2)) (!(decide ((gI (List.set oo (Int.toNat ((gI g.2 ↑k).1)) ((gI ((aR bl_c1 bl_c1.length).2) (k:Int))+1)) ((gI g.2 ↑k).2))=((gI ((aR bl_c1 bl_c1.length).2) (k:Int))+1))))) (2*(k+1))
      exact hci.two rfl rfl (by rw[<-hof]) (by rw[<-hof];(exact lp ‹_›)) (by rw[<-hof]) (by rw[<-hof];(exact lJ ‹_› ‹_›))
    · show Int.toNat (((g.2.length:Int):Int)-((k+1):Int))<Int.toNat (((g.2.length:Int):Int)-(k:Int))
      omega
   refine aZ 13 rfl (by kernel_rfl) (by kernel_rfl) (wn (df q53)) (aZ 14 rfl (by kernel_rfl) (by kernel_rfl) (wn (df q53)) (aZ 15 rfl (by kernel_rfl) (by kernel_rfl) (wn (df q53)) (aZ 16 rfl (by kernel_rfl) (by kernel_rfl) (wn (df q53)) (aZ 17 rfl (by kernel_rfl) (by kernel_rfl) (wn (df q53)) (aZ 18 rfl (by kernel_rfl) (by kernel_rfl) (wn (df q53)) (aZ 19 rfl (by kernel_rfl) (by kernel_rfl) (wn (df q53)) (aZ 20 rfl (by kernel_rfl) (by kernel_rfl) (wn (df q53)) (aZ 21 rfl (by kernel_rfl) (by kernel_rfl) (wn (df q53)) ?_))))))))
   refine aZ 22 rfl (by kernel_rfl) (by kernel_rfl) (wn (df q53)) (aZ 23 rfl (by kernel_rfl) (by kernel_rfl) (wn (df q53)) (bZ (v:=vb false) 24 rfl (by kernel_rfl) (by kernel_rfl) (wy (Bool.eq_false_iff.2 q47_489)) (λw=>aP rfl (df q53) rfl) (xp (v:=vb false) 25 rfl (λw=>aP rfl (Bool.eq_false_iff.2 q47_489) rfl) (xv 26 [25,24,23,22,21,20,19,18,17,16,15,14,13,12,11,10,9,8,7,6,5,4,3,2,1,0] rfl (ad (v:=v461) (i:=(gI g.2 ↑k).2) gj rfl rfl bx482.flat rfl (by omega) (by(simp only[List.length_set,List.length_append,List.length_cons,List.length_nil,List.length_replicate,List.length_map,List.length_take,List.length_drop];omega))) (bB 27 rfl (by kernel_rfl) rfl ?_)))))
   refine aQ (i:=(gI g.2 ↑k).2) false cO rfl rfl bx482 (by omega) (by(simp only[List.length_set,List.length_append,List.length_cons,List.length_nil,List.length_replicate,List.length_map,List.length_take,List.length_drop];omega)) rfl ?_
   intro w505 ch506 bx507
   clear bx482
   refine cA (by kernel_rfl) (a8 rfl (mz zs4 (mi ((gI g.2 ↑k).2) (lx (af jV rfl rfl zs3 rfl) ?_))))
   have C508:=cg [22,23] ((ch485.l rfl).seq (ch487.n.seq (ch506.l rfl)))
   replace bx452:=bx452.ca C508
   refine lx (ae b9 rfl bx452 rfl) (mi ↑k ?_)
   replace o444:=o444.ca C508
   refine lx (ad (v:=v443) (i:=↑k) bv rfl rfl o444.flat rfl (by omega) (by omega)) (lx (az (v:=v443) (i:=↑k) aj rfl o444.flat (by omega) (by omega) (by decide) rfl) (lx (aI (m:=(gI ((aR bl_c1 bl_c1.length).2) (k:Int))) (n:=1) rfl rfl (by omega)) ?_))
   replace bx486:=bx486.ce ch506
   refine lx (ad (v:=v456) (i:=(gI g.2 ↑k).2) bv rfl rfl bx486.flat rfl (by omega) (by(simp only[List.length_set,List.length_append,List.length_cons,List.length_nil,List.length_replicate,List.length_map,List.length_take,List.length_drop];omega))) (lo (aQ (i:=(gI g.2 ↑k).2) ((gI ((aR bl_c1 bl_c1.length).2) (k:Int))+1) aj rfl rfl bx486 (by omega) (by(simp only[List.length_set,List.length_append,List.length_cons,List.length_nil,List.length_replicate,List.length_map,List.length_take,List.length_drop];omega)) rfl ?_))
   intro w509 ch510 bx511
   clear bx486
   refine ab (am (a8 rfl (lx (aI (m:=1) (n:=1) rfl rfl (by omega)) (mi 2 (ab (cj (aa (a8 rfl (lx (bm (m:=2) (n:=2) rfl rfl) (ab (aa ?_)))))))))))
   refine ag rfl rfl (aH rfl (am (a8 rfl (lx (aI (m:=↑k) (n:=1) zs32 rfl (by omega)) (mi ((k:Int)+1) (ab ?_))))))
   have C512:=cg [22,23,24] (ch470.n.seq ((ch475.l rfl).seq (ch477.n.seq ((ch481.l rfl).seq ((ch485.l rfl).seq (ch487.n.seq ((ch506.l rfl).seq (ch510.l rfl))))))))
   refine back6 (k+1,(List.set (List.set oo (Int.toNat ((gI g.2 ↑k).1)) ((gI ((aR bl_c1 bl_c1.length).2) (k:Int))+1)) (Int.toNat ((gI g.2 ↑k).2)) ((gI ((aR bl_c1 bl_c1.length).2) (k:Int))+1)),(List.set (List.set cc (Int.toNat ((gI g.2 ↑k).1)) true) (Int.toNat ((gI g.2 ↑k).2)) false),g472) _ _ ⟨bH.ca C512,zs2,zs3,zs4,zs5,zs30,zs31,rfl,Rg.ca C512,bx10.ca C512,o444.ce ch510,bx452.ce ch510,bx511,bx507.ce ch510,by omega,?_⟩ ?_
   · show iA (fJ g) g (List.set (List.set oo (Int.toNat ((gI g.2 ↑k).1)) ((gI ((aR bl_c1 bl_c1.length).2) (k:Int))+1)) (Int.toNat ((gI g.2 ↑k).2)) ((gI ((aR bl_c1 bl_c1.length).2) (k:Int))+1)) (List.set (List.set cc (Int.toNat ((gI g.2 ↑k).1)) true) (Int.toNat ((gI g.2 ↑k).2)) false) (2*(k+1))
     exact hci.two rfl rfl (by rw[<-hof]) (by rw[<-hof];(exact lp ‹_›)) (by rw[<-hof]) (by rw[<-hof];(exact lm ‹_› ‹_›))
   · show Int.toNat (((g.2.length:Int):Int)-((k+1):Int))<Int.toNat (((g.2.length:Int):Int)-(k:Int))
     omega
  refine bZ (v:=v456) 7 rfl (by kernel_rfl) (by kernel_rfl) (wy (Bool.eq_false_iff.2 q47)) (λw=>au zs4) (bZ (v:=vi ((gI g.2 ↑k).1)) 8 rfl (by kernel_rfl) (by kernel_rfl) (wy (Bool.eq_false_iff.2 q47)) (λw=>au rfl) ?_)
  replace o458:=o458.ca C479
  refine dV (v:=Value.pointer (some (bA v456 1 (Int.toNat ((gI g.2 ↑k).1))))) 9 [8,7,6,5,4,3,2,1,0] rfl (by kernel_rfl) (by kernel_rfl) (wy (Bool.eq_false_iff.2 q47)) (ad (α:=Int) (xs:=oo) (v:=v456) (i:=(gI g.2 ↑k).1) bv rfl rfl o458.flat rfl (by omega) (by omega)) (dV (v:=vi (gI oo ((gI g.2 ↑k).1))) 10 [9,8,7,6,5,4,3,2,1,0] rfl (by kernel_rfl) (by kernel_rfl) (wy (Bool.eq_false_iff.2 q47)) (az (α:=Int) (xs:=oo) (v:=v456) (i:=(gI g.2 ↑k).1) aj rfl o458.flat (by omega) (by omega) (by decide) rfl) (bZ (v:=vb (decide (0<(gI oo ((gI g.2 ↑k).1))))) 11 rfl (by kernel_rfl) (by kernel_rfl) (wy (Bool.eq_false_iff.2 q47)) (λw=>eu (m:=(gI oo ((gI g.2 ↑k).1))) (n:=0) rfl rfl) ?_))
  refine bZ (v:=vb (decide (0<(gI oo ((gI g.2 ↑k).1))))) 12 rfl (by kernel_rfl) (by kernel_rfl) (wy (Bool.eq_false_iff.2 q47)) (λw=>au rfl) ?_
  by_cases q53:0<(gI oo ((gI g.2 ↑k).1))
  ·
   refine bZ (v:=v456) 13 rfl (by kernel_rfl) (by kernel_rfl) (wy (dt q53)) (λw=>au zs4) (bZ (v:=vi ((gI g.2 ↑k).1)) 14 rfl (by kernel_rfl) (by kernel_rfl) (wy (dt q53)) (λw=>au rfl) (dV (v:=Value.pointer (some (bA v456 1 (Int.toNat ((gI g.2 ↑k).1))))) 15 [14,13,12,11,10,9,8,7,6,5,4,3,2,1,0,17,19,18,20,21,22] rfl (by kernel_rfl) (by kernel_rfl) (wy (dt q53)) (ad (α:=Int) (xs:=oo) (v:=v456) (i:=(gI g.2 ↑k).1) bv rfl rfl o458.flat rfl (by omega) (by omega)) ?_))
   refine dV (v:=vi (gI oo ((gI g.2 ↑k).1))) 16 [15,14,13,12,11,10,9,8,7,6,5,4,3,2,1,0,17,19,18,20,21,22] rfl (by kernel_rfl) (by kernel_rfl) (wy (dt q53)) (az (α:=Int) (xs:=oo) (v:=v456) (i:=(gI g.2 ↑k).1) aj rfl o458.flat (by omega) (by omega) (by decide) rfl) (bZ (v:=vp b13 0) 17 rfl (by kernel_rfl) (by kernel_rfl) (wy (dt q53)) (λw=>af jV rfl rfl zs3 rfl) ?_)
   replace bx452:=bx452.ca C479
   refine dV (v:=v443) 18 [17,16,15,14,13,12,11,10,9,8,7,6,5,4,3,2,1,0,19] rfl (by kernel_rfl) (by kernel_rfl) (wy (dt q53)) (ae b9 rfl bx452 rfl) (bZ (v:=vi ↑k) 19 rfl (by kernel_rfl) (by kernel_rfl) (wy (dt q53)) (λw=>au rfl) ?_)
   replace o444:=o444.ca C479
   refine dV (v:=Value.pointer (some (bA v443 1 (Int.toNat ↑k)))) 20 [19,18,17,16,15,14,13,12,11,10,9,8,7,6,5,4,3,2,1,0] rfl (by kernel_rfl) (by kernel_rfl) (wy (dt q53)) (ad (α:=Int) (xs:=(aR bl_c1 bl_c1.length).2) (v:=v443) (i:=↑k) bv rfl rfl o444.flat rfl (by omega) (by omega)) (dV (v:=vi (gI ((aR bl_c1 bl_c1.length).2) (k:Int))) 21 [20,19,18,17,16,15,14,13,12,11,10,9,8,7,6,5,4,3,2,1,0] rfl (by kernel_rfl) (by kernel_rfl) (wy (dt q53)) (az (α:=Int) (xs:=(aR bl_c1 bl_c1.length).2) (v:=v443) (i:=↑k) aj rfl o444.flat (by omega) (by omega) (by decide) rfl) ?_)
   refine bZ (v:=vi ((gI ((aR bl_c1 bl_c1.length).2) (k:Int))+1)) 22 rfl (by kernel_rfl) (by kernel_rfl) (wy (dt q53)) (λw=>aI (m:=(gI ((aR bl_c1 bl_c1.length).2) (k:Int))) (n:=1) rfl rfl (by omega)) (bZ (v:=vb (!(decide ((gI oo ((gI g.2 ↑k).1))=((gI ((aR bl_c1 bl_c1.length).2) (k:Int))+1))))) 23 rfl (by kernel_rfl) (by kernel_rfl) (wy (dt q53)) (λw=>cK (m:=(gI oo ((gI g.2 ↑k).1))) (n:=(gI ((aR bl_c1 bl_c1.length).2) (k:Int))+1) rfl rfl) (bZ (v:=vb (!(decide ((gI oo ((gI g.2 ↑k).1))=((gI ((aR bl_c1 bl_c1.length).2) (k:Int))+1))))) 24 rfl (by kernel_rfl) (by kernel_rfl) (wy (Bool.eq_false_iff.2 q47)) (λw=>aO rfl (dt q53) rfl) ?_))
   refine xp (v:=vb (!(decide ((gI oo ((gI g.2 ↑k).1))=((gI ((aR bl_c1 bl_c1.length).2) (k:Int))+1))))) 25 rfl (λw=>aP rfl (Bool.eq_false_iff.2 q47) rfl) (xv 26 [25,24,23,22,21,20,19,18,17,16,15,14,13,12,11,10,9,8,7,6,5,4,3,2,1,0] rfl (ad (v:=v461) (i:=(gI g.2 ↑k).1) gj rfl rfl o463.flat rfl (by omega) (by omega)) (bB 27 rfl (by kernel_rfl) rfl (aQ (i:=(gI g.2 ↑k).1) (!(decide ((gI oo ((gI g.2 ↑k).1))=((gI ((aR bl_c1 bl_c1.length).2) (k:Int))+1)))) cO rfl rfl o463 (by omega) (by omega) rfl ?_)))
   intro w513 ch514 bx515
   clear o463
   refine cA (by kernel_rfl) (a8 rfl (mz zs4 (mi ((gI g.2 ↑k).1) (lx (af jV rfl rfl zs3 rfl) ?_))))
   replace bx452:=bx452.ce ch514
   refine lx (ae b9 rfl bx452 rfl) (mi ↑k ?_)
   replace o444:=o444.ce ch514
   refine lx (ad (v:=v443) (i:=↑k) bv rfl rfl o444.flat rfl (by omega) (by omega)) (lx (az (v:=v443) (i:=↑k) aj rfl o444.flat (by omega) (by omega) (by decide) rfl) (lx (aI (m:=(gI ((aR bl_c1 bl_c1.length).2) (k:Int))) (n:=1) rfl rfl (by omega)) ?_))
   replace o458:=o458.ce ch514
   refine lx (ad (v:=v456) (i:=(gI g.2 ↑k).1) bv rfl rfl o458.flat rfl (by omega) (by omega)) (lo (aQ (i:=(gI g.2 ↑k).1) ((gI ((aR bl_c1 bl_c1.length).2) (k:Int))+1) aj rfl rfl o458 (by omega) (by omega) rfl ?_))
   intro w516 ch517 bx518
   clear o458
   refine ab (am (a8 rfl (lx (aI (m:=0) (n:=1) rfl rfl (by omega)) (mi 1 (ab (cj (aa (a8 rfl (lx (bm (m:=1) (n:=2) rfl rfl) (ab (aa ?_)))))))))))
   refine ah rfl rfl (aq (aa (ao (aa (a8 rfl (lw (vi ((gI g.2 ↑k).2)) (dE dI aj rfl rfl (by decide) (by decide) rfl) (ai ((gI g.2 ↑k).2) (ab (aa (bV g472 [0,1,2,3,4,5,6,7,8,9,10,11,12,13,14,15,16,17,18,19,20,21,22,23,24,25,26] gH ?_))))))))))
   intro w520 ch519
   refine xp (v:=v461) 0 rfl (λw=>au zs5) (xp (v:=vi ((gI g.2 ↑k).2)) 1 rfl (λw=>au rfl) (xp (v:=v461) 2 rfl (λw=>au zs5) (xp (v:=vi ((gI g.2 ↑k).2)) 3 rfl (λw=>au rfl) ?_)))
   replace bx515:=(bx515.ce ch517).cn ch519
   refine xv 4 [3,2,1,0] rfl (ad (v:=v461) (i:=(gI g.2 ↑k).2) gj rfl rfl bx515.flat rfl (by omega) (by(simp only[List.length_set,List.length_append,List.length_cons,List.length_nil,List.length_replicate,List.length_map,List.length_take,List.length_drop];omega))) (xv 5 [4,3,2,1,0] rfl (az (v:=v461) (i:=(gI g.2 ↑k).2) cO rfl bx515.flat (by omega) (by(simp only[List.length_set,List.length_append,List.length_cons,List.length_nil,List.length_replicate,List.length_map,List.length_take,List.length_drop];omega)) (by decide) rfl) (xp (v:=vb (gI (List.set cc (Int.toNat ((gI g.2 ↑k).1)) (!(decide ((gI oo ((gI g.2 ↑k).1))=((gI ((aR bl_c1 bl_c1.length).2) (k:Int))+1))))) ((gI g.2 ↑k).2))) 6 rfl (λw=>au rfl) ?_))
   by_cases q47_521:(gI (List.set cc (Int.toNat ((gI g.2 ↑k).1)) (!(decide ((gI oo ((gI g.2 ↑k).1))=((gI ((aR bl_c1 bl_c1.length).2) (k:Int))+1))))) ((gI g.2 ↑k).2))=true
   ·
    refine aZ 7 rfl (by kernel_rfl) (by kernel_rfl) (wn q47_521) (aZ 8 rfl (by kernel_rfl) (by kernel_rfl) (wn q47_521) (aZ 9 rfl (by kernel_rfl) (by kernel_rfl) (wn q47_521) (aZ 10 rfl (by kernel_rfl) (by kernel_rfl) (wn q47_521) (aZ 11 rfl (by kernel_rfl) (by kernel_rfl) (wn q47_521) (aZ 12 rfl (by kernel_rfl) (by kernel_rfl) (wn q47_521) (aZ 13 rfl (by kernel_rfl) (by kernel_rfl) (bh rfl rfl rfl) (aZ 14 rfl (by kernel_rfl) (by kernel_rfl) (bh rfl rfl rfl) (aZ 15 rfl (by kernel_rfl) (by kernel_rfl) (bh rfl rfl rfl) (aZ 16 rfl (by kernel_rfl) (by kernel_rfl) (bh rfl rfl rfl) ?_)))))))))
    refine aZ 17 rfl (by kernel_rfl) (by kernel_rfl) (bh rfl rfl rfl) (aZ 18 rfl (by kernel_rfl) (by kernel_rfl) (bh rfl rfl rfl) (aZ 19 rfl (by kernel_rfl) (by kernel_rfl) (bh rfl rfl rfl) (aZ 20 rfl (by kernel_rfl) (by kernel_rfl) (bh rfl rfl rfl) (aZ 21 rfl (by kernel_rfl) (by kernel_rfl) (bh rfl rfl rfl) (aZ 22 rfl (by kernel_rfl) (by kernel_rfl) (bh rfl rfl rfl) (aZ 23 rfl (by kernel_rfl) (by kernel_rfl) (bh rfl rfl rfl) (aZ 24 rfl (by kernel_rfl) (by kernel_rfl) (wn q47_521) (xp (v:=vb true) 25 rfl (λw=>aO rfl q47_521 rfl) ?_))))))))
    refine xv 26 [25,24,23,22,21,20,19,18,17,16,15,14,13,12,11,10,9,8,7,6,5,4,3,2,1,0] rfl (ad (v:=v461) (i:=(gI g.2 ↑k).2) gj rfl rfl bx515.flat rfl (by omega) (by(simp only[List.length_set,List.length_append,List.length_cons,List.length_nil,List.length_replicate,List.length_map,List.length_take,List.length_drop];omega))) (bB 27 rfl (by kernel_rfl) rfl (aQ (i:=(gI g.2 ↑k).2) true cO rfl rfl bx515 (by omega) (by(simp only[List.length_set,List.length_append,List.length_cons,List.length_nil,List.length_replicate,List.length_map,List.length_take,List.length_drop];omega)) rfl ?_))
    intro w522 ch523 bx524
    clear bx515
    refine cA (by kernel_rfl) (a8 rfl (mz zs4 (mi ((gI g.2 ↑k).2) (lx (af jV rfl rfl zs3 rfl) ?_))))
    have C525:=cg [22,23] ((ch517.l rfl).seq (ch519.n.seq (ch523.l rfl)))
    replace bx452:=bx452.ca C525
    refine lx (ae b9 rfl bx452 rfl) (mi ↑k ?_)
    replace o444:=o444.ca C525
    refine lx (ad (v:=v443) (i:=↑k) bv rfl rfl o444.flat rfl (by omega) (by omega)) (lx (az (v:=v443) (i:=↑k) aj rfl o444.flat (by omega) (by omega) (by decide) rfl) (lx (aI (m:=(gI ((aR bl_c1 bl_c1.length).2) (k:Int))) (n:=1) rfl rfl (by omega)) ?_))
    replace bx518:=(bx518.cn ch519).ce ch523
    refine lx (ad (v:=v456) (i:=(gI g.2 ↑k).2) bv rfl rfl bx518.flat rfl (by omega) (by(simp only[List.length_set,List.length_append,List.length_cons,List.length_nil,List.length_replicate,List.length_map,List.length_take,List.length_drop];omega))) (lo (aQ (i:=(gI g.2 ↑k).2) ((gI ((aR bl_c1 bl_c1.length).2) (k:Int))+1) aj rfl rfl bx518 (by omega) (by(simp only[List.length_set,List.length_append,List.length_cons,List.length_nil,List.length_replicate,List.length_map,List.length_take,List.length_drop];omega)) rfl ?_))
    intro w526 ch527 bx528
    clear bx518
    refine ab (am (a8 rfl (lx (aI (m:=1) (n:=1) rfl rfl (by omega)) (mi 2 (ab (cj (aa (a8 rfl (lx (bm (m:=2) (n:=2) rfl rfl) (ab (aa ?_)))))))))))
    refine ag rfl rfl (aH rfl (am (a8 rfl (lx (aI (m:=↑k) (n:=1) zs32 rfl (by omega)) (mi ((k:Int)+1) (ab ?_))))))
    have C529:=cg [22,23,24] (ch470.n.seq ((ch475.l rfl).seq (ch477.n.seq ((ch514.l rfl).seq ((ch517.l rfl).seq (ch519.n.seq ((ch523.l rfl).seq (ch527.l rfl))))))))
    refine back6 (k+1,(List.set (List.set oo (Int.toNat ((gI g.2 ↑k).1)) ((gI ((aR bl_c1 bl_c1.length).2) (k:Int))+1)) (Int.toNat ((gI g.2 ↑k).2)) ((gI ((aR bl_c1 bl_c1.length).2) (k:Int))+1)),(List.set (List.set cc (Int.toNat ((gI g.2 ↑k).1)) (!(decide ((gI oo ((gI g.2 ↑k).1))=((gI ((aR bl_c1 bl_c1.length).2) (k:Int))+1))))) (Int.toNat ((gI g.2 ↑k).2)) true),g472) _ _ ⟨bH.ca C529,zs2,zs3,zs4,zs5,zs30,zs31,rfl,Rg.ca C529,bx10.ca C529,o444.ce ch527,bx452.ce ch527,bx528,bx524.ce ch527,by omega,?_⟩ ?_
    · show iA (fJ g) g (List.set (List.set oo (Int.toNat ((gI g.2 ↑k).1)) ((gI ((aR bl_c1 bl_c1.length).2) (k:Int))+1)) (Int.toNat ((gI g.2 ↑k).2)) ((gI ((aR bl_c1 bl_c1.length).2) (k:Int))+1)) (List.set (List.set cc (Int.toNat ((gI g.2 ↑k).1)) (!(decide ((gI oo ((gI g.2 ↑k).1))=((gI ((aR bl_c1 bl_c1.length).2) (k:Int))+1))))) (Int.toNat ((gI g.2 ↑k).2)) true) (2*(k+1))
      exact hci.two rfl rfl (by rw[<-hof]) (by rw[<-hof];(exact lJ ‹_› ‹_›)) (by rw[<-hof]) (by rw[<-hof];(exact lp ‹_›))
    · show Int.toNat (((g.2.length:Int):Int)-((k+1):Int))<Int.toNat (((g.2.length:Int):Int)-(k:Int))
      omega
   refine bZ (v:=v456) 7 rfl (by kernel_rfl) (by kernel_rfl) (wy (Bool.eq_false_iff.2 q47_521)) (λw=>au zs4) (bZ (v:=vi ((gI g.2 ↑k).2)) 8 rfl (by kernel_rfl) (by kernel_rfl) (wy (Bool.eq_false_iff.2 q47_521)) (λw=>au rfl) ?_)
   replace bx518:=bx518.cn ch519
   refine dV (v:=Value.pointer (some (bA v456 1 (Int.toNat ((gI g.2 ↑k).2))))) 9 [8,7,6,5,4,3,2,1,0] rfl (by kernel_rfl) (by kernel_rfl) (wy (Bool.eq_false_iff.2 q47_521)) (ad (α:=Int) (xs:=(List.set oo (Int.toNat ((gI g.2 ↑k).1)) ((gI ((aR bl_c1 bl_c1.length).2) (k:Int))+1))) (v:=v456) (i:=(gI g.2 ↑k).2) bv rfl rfl bx518.flat rfl (by omega) (by(simp only[List.length_set,List.length_append,List.length_cons,List.length_nil,List.length_replicate,List.length_map,List.length_take,List.length_drop];omega))) ?_
   refine dV (v:=vi (gI (List.set oo (Int.toNat ((gI g.2 ↑k).1)) ((gI ((aR bl_c1 bl_c1.length).2) (k:Int))+1)) ((gI g.2 ↑k).2))) 10 [9,8,7,6,5,4,3,2,1,0] rfl (by kernel_rfl) (by kernel_rfl) (wy (Bool.eq_false_iff.2 q47_521)) (az (α:=Int) (xs:=(List.set oo (Int.toNat ((gI g.2 ↑k).1)) ((gI ((aR bl_c1 bl_c1.length).2) (k:Int))+1))) (v:=v456) (i:=(gI g.2 ↑k).2) aj rfl bx518.flat (by omega) (by(simp only[List.length_set,List.length_append,List.length_cons,List.length_nil,List.length_replicate,List.length_map,List.length_take,List.length_drop];omega)) (by decide) rfl) ?_
   refine bZ (v:=vb (decide (0<(gI (List.set oo (Int.toNat ((gI g.2 ↑k).1)) ((gI ((aR bl_c1 bl_c1.length).2) (k:Int))+1)) ((gI g.2 ↑k).2))))) 11 rfl (by kernel_rfl) (by kernel_rfl) (wy (Bool.eq_false_iff.2 q47_521)) (λw=>eu (m:=(gI (List.set oo (Int.toNat ((gI g.2 ↑k).1)) ((gI ((aR bl_c1 bl_c1.length).2) (k:Int))+1)) ((gI g.2 ↑k).2))) (n:=0) rfl rfl) (bZ (v:=vb (decide (0<(gI (List.set oo (Int.toNat ((gI g.2 ↑k).1)) ((gI ((aR bl_c1 bl_c1.length).2) (k:Int))+1)) ((gI g.2 ↑k).2))))) 12 rfl (by kernel_rfl) (by kernel_rfl) (wy (Bool.eq_false_iff.2 q47_521)) (λw=>au rfl) ?_)
   by_cases q53_530:0<(gI (List.set oo (Int.toNat ((gI g.2 ↑k).1)) ((gI ((aR bl_c1 bl_c1.length).2) (k:Int))+1)) ((gI g.2 ↑k).2))
   ·
    refine bZ (v:=v456) 13 rfl (by kernel_rfl) (by kernel_rfl) (wy (dt q53_530)) (λw=>au zs4) (bZ (v:=vi ((gI g.2 ↑k).2)) 14 rfl (by kernel_rfl) (by kernel_rfl) (wy (dt q53_530)) (λw=>au rfl) ?_)
    refine dV (v:=Value.pointer (some (bA v456 1 (Int.toNat ((gI g.2 ↑k).2))))) 15 [14,13,12,11,10,9,8,7,6,5,4,3,2,1,0,17,19,18,20,21,22] rfl (by kernel_rfl) (by kernel_rfl) (wy (dt q53_530)) (ad (α:=Int) (xs:=(List.set oo (Int.toNat ((gI g.2 ↑k).1)) ((gI ((aR bl_c1 bl_c1.length).2) (k:Int))+1))) (v:=v456) (i:=(gI g.2 ↑k).2) bv rfl rfl bx518.flat rfl (by omega) (by(simp only[List.length_set,List.length_append,List.length_cons,List.length_nil,List.length_replicate,List.length_map,List.length_take,List.length_drop];omega))) ?_
    refine dV (v:=vi (gI (List.set oo (Int.toNat ((gI g.2 ↑k).1)) ((gI ((aR bl_c1 bl_c1.length).2) (k:Int))+1)) ((gI g.2 ↑k).2))) 16 [15,14,13,12,11,10,9,8,7,6,5,4,3,2,1,0,17,19,18,20,21,22] rfl (by kernel_rfl) (by kernel_rfl) (wy (dt q53_530)) (az (α:=Int) (xs:=(List.set oo (Int.toNat ((gI g.2 ↑k).1)) ((gI ((aR bl_c1 bl_c1.length).2) (k:Int))+1))) (v:=v456) (i:=(gI g.2 ↑k).2) aj rfl bx518.flat (by omega) (by(simp only[List.length_set,List.length_append,List.length_cons,List.length_nil,List.length_replicate,List.length_map,List.length_take,List.length_drop];omega)) (by decide) rfl) ?_
    refine bZ (v:=vp b13 0) 17 rfl (by kernel_rfl) (by kernel_rfl) (wy (dt q53_530)) (λw=>af jV rfl rfl zs3 rfl) ?_
    replace bx452:=(bx452.ce ch517).cn ch519
    refine dV (v:=v443) 18 [17,16,15,14,13,12,11,10,9,8,7,6,5,4,3,2,1,0,19] rfl (by kernel_rfl) (by kernel_rfl) (wy (dt q53_530)) (ae b9 rfl bx452 rfl) (bZ (v:=vi ↑k) 19 rfl (by kernel_rfl) (by kernel_rfl) (wy (dt q53_530)) (λw=>au rfl) ?_)
    replace o444:=(o444.ce ch517).cn ch519
    refine dV (v:=Value.pointer (some (bA v443 1 (Int.toNat ↑k)))) 20 [19,18,17,16,15,14,13,12,11,10,9,8,7,6,5,4,3,2,1,0] rfl (by kernel_rfl) (by kernel_rfl) (wy (dt q53_530)) (ad (α:=Int) (xs:=(aR bl_c1 bl_c1.length).2) (v:=v443) (i:=↑k) bv rfl rfl o444.flat rfl (by omega) (by omega)) (dV (v:=vi (gI ((aR bl_c1 bl_c1.length).2) (k:Int))) 21 [20,19,18,17,16,15,14,13,12,11,10,9,8,7,6,5,4,3,2,1,0] rfl (by kernel_rfl) (by kernel_rfl) (wy (dt q53_530)) (az (α:=Int) (xs:=(aR bl_c1 bl_c1.length).2) (v:=v443) (i:=↑k) aj rfl o444.flat (by omega) (by omega) (by decide) rfl) ?_)
    refine bZ (v:=vi ((gI ((aR bl_c1 bl_c1.length).2) (k:Int))+1)) 22 rfl (by kernel_rfl) (by kernel_rfl) (wy (dt q53_530)) (λw=>aI (m:=(gI ((aR bl_c1 bl_c1.length).2) (k:Int))) (n:=1) rfl rfl (by omega)) (bZ (v:=vb (!(decide ((gI (List.set oo (Int.toNat ((gI g.2 ↑k).1)) ((gI ((aR bl_c1 bl_c1.length).2) (k:Int))+1)) ((gI g.2 ↑k).2))=((gI ((aR bl_c1 bl_c1.length).2) (k:Int))+1))))) 23 rfl (by kernel_rfl) (by kernel_rfl) (wy (dt q53_530)) (λw=>cK (m:=(gI (List.set oo (Int.toNat ((gI g.2 ↑k).1)) ((gI ((aR bl_c1 bl_c1.length).2) (k:Int))+1)) ((gI g.2 ↑k).2))) (n:=(gI ((aR bl_c1 bl_c1.length).2) (k:Int))+1) rfl rfl) ?_)
    refine bZ (v:=vb (!(decide ((gI (List.set oo (Int.toNat ((gI g.2 ↑k).1)) ((gI ((aR bl_c1 bl_c1.length).2) (k:Int))+1)) ((gI g.2 ↑k).2))=((gI ((aR bl_c1 bl_c1.length).2) (k:Int))+1))))) 24 rfl (by kernel_rfl) (by kernel_rfl) (wy (Bool.eq_false_iff.2 q47_521)) (λw=>aO rfl (dt q53_530) rfl) (xp (v:=vb (!(decide ((gI (List.set oo (Int.toNat ((gI g.2 ↑k).1)) ((gI ((aR bl_c1 bl_c1.length).2) (k:Int))+1)) ((gI g.2 ↑k).2))=((gI ((aR bl_c1 bl_c1.length).2) (k:Int))+1))))) 25 rfl (λw=>aP rfl (Bool.eq_false_iff.2 q47_521) rfl) ?_)
    refine xv 26 [25,24,23,22,21,20,19,18,17,16,15,14,13,12,11,10,9,8,7,6,5,4,3,2,1,0] rfl (ad (v:=v461) (i:=(gI g.2 ↑k).2) gj rfl rfl bx515.flat rfl (by omega) (by(simp only[List.length_set,List.length_append,List.length_cons,List.length_nil,List.length_replicate,List.length_map,List.length_take,List.length_drop];omega))) (bB 27 rfl (by kernel_rfl) rfl (aQ (i:=(gI g.2 ↑k).2) (!(decide ((gI (List.set oo (Int.toNat ((gI g.2 ↑k).1)) ((gI ((aR bl_c1 bl_c1.length).2) (k:Int))+1)) ((gI g.2 ↑k).2))=((gI ((aR bl_c1 bl_c1.length).2) (k:Int))+1)))) cO rfl rfl bx515 (by omega) (by(simp only[List.length_set,List.length_append,List.length_cons,List.length_nil,List.length_replicate,List.length_map,List.length_take,List.length_drop];omega)) rfl ?_))
    intro w531 ch532 bx533
    clear bx515
    refine cA (by kernel_rfl) (a8 rfl (mz zs4 (mi ((gI g.2 ↑k).2) (lx (af jV rfl rfl zs3 rfl) ?_))))
    replace bx452:=bx452.ce ch532
    refine lx (ae b9 rfl bx452 rfl) (mi ↑k ?_)
    replace o444:=o444.ce ch532
    refine lx (ad (v:=v443) (i:=↑k) bv rfl rfl o444.flat rfl (by omega) (by omega)) (lx (az (v:=v443) (i:=↑k) aj rfl o444.flat (by omega) (by omega) (by decide) rfl) (lx (aI (m:=(gI ((aR bl_c1 bl_c1.length).2) (k:Int))) (n:=1) rfl rfl (by omega)) ?_))
    replace bx518:=bx518.ce ch532
    refine lx (ad (v:=v456) (i:=(gI g.2 ↑k).2) bv rfl rfl bx518.flat rfl (by omega) (by(simp only[List.length_set,List.length_append,List.length_cons,List.length_nil,List.length_replicate,List.length_map,List.length_take,List.length_drop];omega))) (lo (aQ (i:=(gI g.2 ↑k).2) ((gI ((aR bl_c1 bl_c1.length).2) (k:Int))+1) aj rfl rfl bx518 (by omega) (by(simp only[List.length_set,List.length_append,List.length_cons,List.length_nil,List.length_replicate,List.length_map,List.length_take,List.length_drop];omega)) rfl ?_))
    intro w534 ch535 bx536
    clear bx518
    refine ab (am (a8 rfl (lx (aI (m:=1) (n:=1) rfl rfl (by omega)) (mi 2 (ab (cj (aa (a8 rfl (lx (bm (m:=2) (n:=2) rfl rfl) (ab (aa ?_)))))))))))
    refine ag rfl rfl (aH rfl (am (a8 rfl (lx (aI (m:=↑k) (n:=1) zs32 rfl (by omega)) (mi ((k:Int)+1) (ab ?_))))))
    have C537:=cg [22,23,24] (ch470.n.seq ((ch475.l rfl).seq (ch477.n.seq ((ch514.l rfl).seq ((ch517.l rfl).seq (ch519.n.seq ((ch532.l rfl).seq (ch535.l rfl))))))))
    refine back6 (k+1,(List.set (List.set oo (Int.toNat ((gI g.2 ↑k).1)) ((gI ((aR bl_c1 bl_c1.length).2) (k:Int))+1)) (Int.toNat ((gI g.2 ↑k).2)) ((gI ((aR bl_c1 bl_c1.length).2) (k:Int))+1)),(List.set (List.set cc (Int.toNat ((gI g.2 ↑k).1)) (!(decide ((gI oo ((gI g.2 ↑k).1))=((gI ((aR bl_c1 bl_c1.length).2) (k:Int))+1))))) (Int.toNat ((gI g.2 ↑k).2)) (!(decide ((gI (List.set oo (Int.toNat ((gI g.2 ↑k).1)) ((gI ((aR bl_c1 bl_c1.length).2) (k:Int))+1)) ((gI g.2 ↑k).2))=((gI ((aR bl_c1 bl_c1.length).2) (k:Int))+1))))),g472) _ _ ⟨bH.ca C537,zs2,zs3,zs4,zs5,zs30,zs31,rfl,Rg.ca C537,bx10.ca C537,o444.ce ch535,bx452.ce ch535,bx536,bx533.ce ch535,by omega,?_⟩ ?_
    · show iA (fJ g) g (List.set (List.set oo (Int.toNat ((gI g.2 ↑k).1)) ((gI ((aR bl_c1 bl_c1.length).2) (k:Int))+1)) (Int.toNat ((gI g.2 ↑k).2)) ((gI ((aR bl_c1 bl_c1.length).2) (k:Int))+1)) (List.set (List.set cc (Int.toNat ((gI g.2 ↑k).1)) (!(decide ((gI oo ((gI g.2 ↑k).1))=((gI ((aR bl_c1 bl_c1.length).2) (k:Int))+1))))) (Int.toNat ((gI g.2 ↑k).2)) (!(decide ((gI (List.set oo (Int.toNat ((gI g.2 ↑k).1)) ((gI ((aR bl_c1 bl_c1.length).2) (k:Int))+1)) ((gI g.2 ↑k).2))=((gI ((aR bl_c1 bl_c1.length).2) (k:Int))+1))))) (2*(k+1))
      exact hci.two rfl rfl (by rw[<-hof]) (by rw[<-hof];(exact lJ ‹_› ‹_›)) (by rw[<-hof]) (by rw[<-hof];(exact lJ ‹_› ‹_›))
    · show Int.toNat (((g.2.length:Int):Int)-((k+1):Int))<Int.toNat (((g.2.length:Int):Int)-(k:Int))
      omega
   refine aZ 13 rfl (by kernel_rfl) (by kernel_rfl) (wn (df q53_530)) (aZ 14 rfl (by kernel_rfl) (by kernel_rfl) (wn (df q53_530)) (aZ 15 rfl (by kernel_rfl) (by kernel_rfl) (wn (df q53_530)) (aZ 16 rfl (by kernel_rfl) (by kernel_rfl) (wn (df q53_530)) (aZ 17 rfl (by kernel_rfl) (by kernel_rfl) (wn (df q53_530)) (aZ 18 rfl (by kernel_rfl) (by kernel_rfl) (wn (df q53_530)) (aZ 19 rfl (by kernel_rfl) (by kernel_rfl) (wn (df q53_530)) (aZ 20 rfl (by kernel_rfl) (by kernel_rfl) (wn (df q53_530)) (aZ 21 rfl (by kernel_rfl) (by kernel_rfl) (wn (df q53_530)) ?_))))))))
   refine aZ 22 rfl (by kernel_rfl) (by kernel_rfl) (wn (df q53_530)) (aZ 23 rfl (by kernel_rfl) (by kernel_rfl) (wn (df q53_530)) (bZ (v:=vb false) 24 rfl (by kernel_rfl) (by kernel_rfl) (wy (Bool.eq_false_iff.2 q47_521)) (λw=>aP rfl (df q53_530) rfl) (xp (v:=vb false) 25 rfl (λw=>aP rfl (Bool.eq_false_iff.2 q47_521) rfl) (xv 26 [25,24,23,22,21,20,19,18,17,16,15,14,13,12,11,10,9,8,7,6,5,4,3,2,1,0] rfl (ad (v:=v461) (i:=(gI g.2 ↑k).2) gj rfl rfl bx515.flat rfl (by omega) (by(simp only[List.length_set,List.length_append,List.length_cons,List.length_nil,List.length_replicate,List.length_map,List.length_take,List.length_drop];omega))) (bB 27 rfl (by kernel_rfl) rfl ?_)))))
   refine aQ (i:=(gI g.2 ↑k).2) false cO rfl rfl bx515 (by omega) (by(simp only[List.length_set,List.length_append,List.length_cons,List.length_nil,List.length_replicate,List.length_map,List.length_take,List.length_drop];omega)) rfl ?_
   intro w538 ch539 bx540
   clear bx515
   refine cA (by kernel_rfl) (a8 rfl (mz zs4 (mi ((gI g.2 ↑k).2) (lx (af jV rfl rfl zs3 rfl) ?_))))
   have C541:=cg [22,23] ((ch517.l rfl).seq (ch519.n.seq (ch539.l rfl)))
   replace bx452:=bx452.ca C541
   refine lx (ae b9 rfl bx452 rfl) (mi ↑k ?_)
   replace o444:=o444.ca C541
   refine lx (ad (v:=v443) (i:=↑k) bv rfl rfl o444.flat rfl (by omega) (by omega)) (lx (az (v:=v443) (i:=↑k) aj rfl o444.flat (by omega) (by omega) (by decide) rfl) (lx (aI (m:=(gI ((aR bl_c1 bl_c1.length).2) (k:Int))) (n:=1) rfl rfl (by omega)) ?_))
   replace bx518:=bx518.ce ch539
   refine lx (ad (v:=v456) (i:=(gI g.2 ↑k).2) bv rfl rfl bx518.flat rfl (by omega) (by(simp only[List.length_set,List.length_append,List.length_cons,List.length_nil,List.length_replicate,List.length_map,List.length_take,List.length_drop];omega))) (lo (aQ (i:=(gI g.2 ↑k).2) ((gI ((aR bl_c1 bl_c1.length).2) (k:Int))+1) aj rfl rfl bx518 (by omega) (by(simp only[List.length_set,List.length_append,List.length_cons,List.length_nil,List.length_replicate,List.length_map,List.length_take,List.length_drop];omega)) rfl ?_))
   intro w542 ch543 bx544
   clear bx518
   refine ab (am (a8 rfl (lx (aI (m:=1) (n:=1) rfl rfl (by omega)) (mi 2 (ab (cj (aa (a8 rfl (lx (bm (m:=2) (n:=2) rfl rfl) (ab (aa ?_)))))))))))
   refine ag rfl rfl (aH rfl (am (a8 rfl (lx (aI (m:=↑k) (n:=1) zs32 rfl (by omega)) (mi ((k:Int)+1) (ab ?_))))))
   have C545:=cg [22,23,24] (ch470.n.seq ((ch475.l rfl).seq (ch477.n.seq ((ch514.l rfl).seq ((ch517.l rfl).seq (ch519.n.seq ((ch539.l rfl).seq (ch543.l rfl))))))))
   refine back6 (k+1,(List.set (List.set oo (Int.toNat ((gI g.2 ↑k).1)) ((gI ((aR bl_c1 bl_c1.length).2) (k:Int))+1)) (Int.toNat ((gI g.2 ↑k).2)) ((gI ((aR bl_c1 bl_c1.length).2) (k:Int))+1)),(List.set (List.set cc (Int.toNat ((gI g.2 ↑k).1)) (!(decide ((gI oo ((gI g.2 ↑k).1))=((gI ((aR bl_c1 bl_c1.length).2) (k:Int))+1))))) (Int.toNat ((gI g.2 ↑k).2)) false),g472) _ _ ⟨bH.ca C545,zs2,zs3,zs4,zs5,zs30,zs31,rfl,Rg.ca C545,bx10.ca C545,o444.ce ch543,bx452.ce ch543,bx544,bx540.ce ch543,by omega,?_⟩ ?_
   · show iA (fJ g) g (List.set (List.set oo (Int.toNat ((gI g.2 ↑k).1)) ((gI ((aR bl_c1 bl_c1.length).2) (k:Int))+1)) (Int.toNat ((gI g.2 ↑k).2)) ((gI ((aR bl_c1 bl_c1.length).2) (k:Int))+1)) (List.set (List.set cc (Int.toNat ((gI g.2 ↑k).1)) (!(decide ((gI oo ((gI g.2 ↑k).1))=((gI ((aR bl_c1 bl_c1.length).2) (k:Int))+1))))) (Int.toNat ((gI g.2 ↑k).2)) false) (2*(k+1))
     exact hci.two rfl rfl (by rw[<-hof]) (by rw[<-hof];(exact lJ ‹_› ‹_›)) (by rw[<-hof]) (by rw[<-hof];(exact lm ‹_› ‹_›))
   · show Int.toNat (((g.2.length:Int):Int)-((k+1):Int))<Int.toNat (((g.2.length:Int):Int)-(k:Int))
     omega
  refine aZ 13 rfl (by kernel_rfl) (by kernel_rfl) (wn (df q53)) (aZ 14 rfl (by kernel_rfl) (by kernel_rfl) (wn (df q53)) (aZ 15 rfl (by kernel_rfl) (by kernel_rfl) (wn (df q53)) (aZ 16 rfl (by kernel_rfl) (by kernel_rfl) (wn (df q53)) (aZ 17 rfl (by kernel_rfl) (by kernel_rfl) (wn (df q53)) (aZ 18 rfl (by kernel_rfl) (by kernel_rfl) (wn (df q53)) (aZ 19 rfl (by kernel_rfl) (by kernel_rfl) (wn (df q53)) (aZ 20 rfl (by kernel_rfl) (by kernel_rfl) (wn (df q53)) (aZ 21 rfl (by kernel_rfl) (by kernel_rfl) (wn (df q53)) ?_))))))))
  refine aZ 22 rfl (by kernel_rfl) (by kernel_rfl) (wn (df q53)) (aZ 23 rfl (by kernel_rfl) (by kernel_rfl) (wn (df q53)) (bZ (v:=vb false) 24 rfl (by kernel_rfl) (by kernel_rfl) (wy (Bool.eq_false_iff.2 q47)) (λw=>aP rfl (df q53) rfl) (xp (v:=vb false) 25 rfl (λw=>aP rfl (Bool.eq_false_iff.2 q47) rfl) (xv 26 [25,24,23,22,21,20,19,18,17,16,15,14,13,12,11,10,9,8,7,6,5,4,3,2,1,0] rfl (ad (v:=v461) (i:=(gI g.2 ↑k).1) gj rfl rfl o463.flat rfl (by omega) (by omega)) (bB 27 rfl (by kernel_rfl) rfl (aQ (i:=(gI g.2 ↑k).1) false cO rfl rfl o463 (by omega) (by omega) rfl ?_))))))
  intro w546 ch547 bx548
  clear o463
  refine cA (by kernel_rfl) (a8 rfl (mz zs4 (mi ((gI g.2 ↑k).1) (lx (af jV rfl rfl zs3 rfl) ?_))))
  have C549:=cg [23,24] (ch470.n.seq ((ch475.l rfl).seq (ch477.n.seq (ch547.l rfl))))
  replace bx452:=bx452.ca C549
  refine lx (ae b9 rfl bx452 rfl) (mi ↑k ?_)
  replace o444:=o444.ca C549
  refine lx (ad (v:=v443) (i:=↑k) bv rfl rfl o444.flat rfl (by omega) (by omega)) (lx (az (v:=v443) (i:=↑k) aj rfl o444.flat (by omega) (by omega) (by decide) rfl) (lx (aI (m:=(gI ((aR bl_c1 bl_c1.length).2) (k:Int))) (n:=1) rfl rfl (by omega)) ?_))
  replace o458:=o458.ce ch547
  refine lx (ad (v:=v456) (i:=(gI g.2 ↑k).1) bv rfl rfl o458.flat rfl (by omega) (by omega)) (lo (aQ (i:=(gI g.2 ↑k).1) ((gI ((aR bl_c1 bl_c1.length).2) (k:Int))+1) aj rfl rfl o458 (by omega) (by omega) rfl ?_))
  intro w550 ch551 bx552
  clear o458
  refine ab (am (a8 rfl (lx (aI (m:=0) (n:=1) rfl rfl (by omega)) (mi 1 (ab (cj (aa (a8 rfl (lx (bm (m:=1) (n:=2) rfl rfl) (ab (aa ?_)))))))))))
  refine ah rfl rfl (aq (aa (ao (aa (a8 rfl (lw (vi ((gI g.2 ↑k).2)) (dE dI aj rfl rfl (by decide) (by decide) rfl) (ai ((gI g.2 ↑k).2) (ab (aa (bV g472 [0,1,2,3,4,5,6,7,8,9,10,11,12,13,14,15,16,17,18,19,20,21,22,23,24,25,26] gH ?_))))))))))
  intro w554 ch553
  refine xp (v:=v461) 0 rfl (λw=>au zs5) (xp (v:=vi ((gI g.2 ↑k).2)) 1 rfl (λw=>au rfl) (xp (v:=v461) 2 rfl (λw=>au zs5) (xp (v:=vi ((gI g.2 ↑k).2)) 3 rfl (λw=>au rfl) ?_)))
  replace bx548:=(bx548.ce ch551).cn ch553
  refine xv 4 [3,2,1,0] rfl (ad (v:=v461) (i:=(gI g.2 ↑k).2) gj rfl rfl bx548.flat rfl (by omega) (by(simp only[List.length_set,List.length_append,List.length_cons,List.length_nil,List.length_replicate,List.length_map,List.length_take,List.length_drop];omega))) (xv 5 [4,3,2,1,0] rfl (az (v:=v461) (i:=(gI g.2 ↑k).2) cO rfl bx548.flat (by omega) (by(simp only[List.length_set,List.length_append,List.length_cons,List.length_nil,List.length_replicate,List.length_map,List.length_take,List.length_drop];omega)) (by decide) rfl) (xp (v:=vb (gI (List.set cc (Int.toNat ((gI g.2 ↑k).1)) false) ((gI g.2 ↑k).2))) 6 rfl (λw=>au rfl) ?_))
  by_cases q47_555:(gI (List.set cc (Int.toNat ((gI g.2 ↑k).1)) false) ((gI g.2 ↑k).2))=true
  ·
   refine aZ 7 rfl (by kernel_rfl) (by kernel_rfl) (wn q47_555) (aZ 8 rfl (by kernel_rfl) (by kernel_rfl) (wn q47_555) (aZ 9 rfl (by kernel_rfl) (by kernel_rfl) (wn q47_555) (aZ 10 rfl (by kernel_rfl) (by kernel_rfl) (wn q47_555) (aZ 11 rfl (by kernel_rfl) (by kernel_rfl) (wn q47_555) (aZ 12 rfl (by kernel_rfl) (by kernel_rfl) (wn q47_555) (aZ 13 rfl (by kernel_rfl) (by kernel_rfl) (bh rfl rfl rfl) (aZ 14 rfl (by kernel_rfl) (by kernel_rfl) (bh rfl rfl rfl) (aZ 15 rfl (by kernel_rfl) (by kernel_rfl) (bh rfl rfl rfl) (aZ 16 rfl (by kernel_rfl) (by kernel_rfl) (bh rfl rfl rfl) ?_)))))))))
   refine aZ 17 rfl (by kernel_rfl) (by kernel_rfl) (bh rfl rfl rfl) (aZ 18 rfl (by kernel_rfl) (by kernel_rfl) (bh rfl rfl rfl) (aZ 19 rfl (by kernel_rfl) (by kernel_rfl) (bh rfl rfl rfl) (aZ 20 rfl (by kernel_rfl) (by kernel_rfl) (bh rfl rfl rfl) (aZ 21 rfl (by kernel_rfl) (by kernel_rfl) (bh rfl rfl rfl) (aZ 22 rfl (by kernel_rfl) (by kernel_rfl) (bh rfl rfl rfl) (aZ 23 rfl (by kernel_rfl) (by kernel_rfl) (bh rfl rfl rfl) (aZ 24 rfl (by kernel_rfl) (by kernel_rfl) (wn q47_555) (xp (v:=vb true) 25 rfl (λw=>aO rfl q47_555 rfl) ?_))))))))
   refine xv 26 [25,24,23,22,21,20,19,18,17,16,15,14,13,12,11,10,9,8,7,6,5,4,3,2,1,0] rfl (ad (v:=v461) (i:=(gI g.2 ↑k).2) gj rfl rfl bx548.flat rfl (by omega) (by(simp only[List.length_set,List.length_append,List.length_cons,List.length_nil,List.length_replicate,List.length_map,List.length_take,List.length_drop];omega))) (bB 27 rfl (by kernel_rfl) rfl (aQ (i:=(gI g.2 ↑k).2) true cO rfl rfl bx548 (by omega) (by(simp only[List.length_set,List.length_append,List.length_cons,List.length_nil,List.length_replicate,List.length_map,List.length_take,List.length_drop];omega)) rfl ?_))
   intro w556 ch557 bx558
   clear bx548
   refine cA (by kernel_rfl) (a8 rfl (mz zs4 (mi ((gI g.2 ↑k).2) (lx (af jV rfl rfl zs3 rfl) ?_))))
   have C559:=cg [22,23] ((ch551.l rfl).seq (ch553.n.seq (ch557.l rfl)))
   replace bx452:=bx452.ca C559
   refine lx (ae b9 rfl bx452 rfl) (mi ↑k ?_)
   replace o444:=o444.ca C559
   refine lx (ad (v:=v443) (i:=↑k) bv rfl rfl o444.flat rfl (by omega) (by omega)) (lx (az (v:=v443) (i:=↑k) aj rfl o444.flat (by omega) (by omega) (by decide) rfl) (lx (aI (m:=(gI ((aR bl_c1 bl_c1.length).2) (k:Int))) (n:=1) rfl rfl (by omega)) ?_))
   replace bx552:=(bx552.cn ch553).ce ch557
   refine lx (ad (v:=v456) (i:=(gI g.2 ↑k).2) bv rfl rfl bx552.flat rfl (by omega) (by(simp only[List.length_set,List.length_append,List.length_cons,List.length_nil,List.length_replicate,List.length_map,List.length_take,List.length_drop];omega))) (lo (aQ (i:=(gI g.2 ↑k).2) ((gI ((aR bl_c1 bl_c1.length).2) (k:Int))+1) aj rfl rfl bx552 (by omega) (by(simp only[List.length_set,List.length_append,List.length_cons,List.length_nil,List.length_replicate,List.length_map,List.length_take,List.length_drop];omega)) rfl ?_))
   intro w560 ch561 bx562
   clear bx552
   refine ab (am (a8 rfl (lx (aI (m:=1) (n:=1) rfl rfl (by omega)) (mi 2 (ab (cj (aa (a8 rfl (lx (bm (m:=2) (n:=2) rfl rfl) (ab (aa ?_)))))))))))
   refine ag rfl rfl (aH rfl (am (a8 rfl (lx (aI (m:=↑k) (n:=1) zs32 rfl (by omega)) (mi ((k:Int)+1) (ab ?_))))))
   have C563:=cg [22,23,24] (ch470.n.seq ((ch475.l rfl).seq (ch477.n.seq ((ch547.l rfl).seq ((ch551.l rfl).seq (ch553.n.seq ((ch557.l rfl).seq (ch561.l rfl))))))))
   refine back6 (k+1,(List.set (List.set oo (Int.toNat ((gI g.2 ↑k).1)) ((gI ((aR bl_c1 bl_c1.length).2) (k:Int))+1)) (Int.toNat ((gI g.2 ↑k).2)) ((gI ((aR bl_c1 bl_c1.length).2) (k:Int))+1)),(List.set (List.set cc (Int.toNat ((gI g.2 ↑k).1)) false) (Int.toNat ((gI g.2 ↑k).2)) true),g472) _ _ ⟨bH.ca C563,zs2,zs3,zs4,zs5,zs30,zs31,rfl,Rg.ca C563,bx10.ca C563,o444.ce ch561,bx452.ce ch561,bx562,bx558.ce ch561,by omega,?_⟩ ?_
   · show iA (fJ g) g (List.set (List.set oo (Int.toNat ((gI g.2 ↑k).1)) ((gI ((aR bl_c1 bl_c1.length).2) (k:Int))+1)) (Int.toNat ((gI g.2 ↑k).2)) ((gI ((aR bl_c1 bl_c1.length).2) (k:Int))+1)) (List.set (List.set cc (Int.toNat ((gI g.2 ↑k).1)) false) (Int.toNat ((gI g.2 ↑k).2)) true) (2*(k+1))
     exact hci.two rfl rfl (by rw[<-hof]) (by rw[<-hof];(exact lm ‹_› ‹_›)) (by rw[<-hof]) (by rw[<-hof];(exact lp ‹_›))
   · show Int.toNat (((g.2.length:Int):Int)-((k+1):Int))<Int.toNat (((g.2.length:Int):Int)-(k:Int))
     omega
  refine bZ (v:=v456) 7 rfl (by kernel_rfl) (by kernel_rfl) (wy (Bool.eq_false_iff.2 q47_555)) (λw=>au zs4) (bZ (v:=vi ((gI g.2 ↑k).2)) 8 rfl (by kernel_rfl) (by kernel_rfl) (wy (Bool.eq_false_iff.2 q47_555)) (λw=>au rfl) ?_)
  replace bx552:=bx552.cn ch553
  refine dV (v:=Value.pointer (some (bA v456 1 (Int.toNat ((gI g.2 ↑k).2))))) 9 [8,7,6,5,4,3,2,1,0] rfl (by kernel_rfl) (by kernel_rfl) (wy (Bool.eq_false_iff.2 q47_555)) (ad (α:=Int) (xs:=(List.set oo (Int.toNat ((gI g.2 ↑k).1)) ((gI ((aR bl_c1 bl_c1.length).2) (k:Int))+1))) (v:=v456) (i:=(gI g.2 ↑k).2) bv rfl rfl bx552.flat rfl (by omega) (by(simp only[List.length_set,List.length_append,List.length_cons,List.length_nil,List.length_replicate,List.length_map,List.length_take,List.length_drop];omega))) ?_
  refine dV (v:=vi (gI (List.set oo (Int.toNat ((gI g.2 ↑k).1)) ((gI ((aR bl_c1 bl_c1.length).2) (k:Int))+1)) ((gI g.2 ↑k).2))) 10 [9,8,7,6,5,4,3,2,1,0] rfl (by kernel_rfl) (by kernel_rfl) (wy (Bool.eq_false_iff.2 q47_555)) (az (α:=Int) (xs:=(List.set oo (Int.toNat ((gI g.2 ↑k).1)) ((gI ((aR bl_c1 bl_c1.length).2) (k:Int))+1))) (v:=v456) (i:=(gI g.2 ↑k).2) aj rfl bx552.flat (by omega) (by(simp only[List.length_set,List.length_append,List.length_cons,List.length_nil,List.length_replicate,List.length_map,List.length_take,List.length_drop];omega)) (by decide) rfl) ?_
  refine bZ (v:=vb (decide (0<(gI (List.set oo (Int.toNat ((gI g.2 ↑k).1)) ((gI ((aR bl_c1 bl_c1.length).2) (k:Int))+1)) ((gI g.2 ↑k).2))))) 11 rfl (by kernel_rfl) (by kernel_rfl) (wy (Bool.eq_false_iff.2 q47_555)) (λw=>eu (m:=(gI (List.set oo (Int.toNat ((gI g.2 ↑k).1)) ((gI ((aR bl_c1 bl_c1.length).2) (k:Int))+1)) ((gI g.2 ↑k).2))) (n:=0) rfl rfl) (bZ (v:=vb (decide (0<(gI (List.set oo (Int.toNat ((gI g.2 ↑k).1)) ((gI ((aR bl_c1 bl_c1.length).2) (k:Int))+1)) ((gI g.2 ↑k).2))))) 12 rfl (by kernel_rfl) (by kernel_rfl) (wy (Bool.eq_false_iff.2 q47_555)) (λw=>au rfl) ?_)
  by_cases q53_564:0<(gI (List.set oo (Int.toNat ((gI g.2 ↑k).1)) ((gI ((aR bl_c1 bl_c1.length).2) (k:Int))+1)) ((gI g.2 ↑k).2))
  ·
   refine bZ (v:=v456) 13 rfl (by kernel_rfl) (by kernel_rfl) (wy (dt q53_564)) (λw=>au zs4) (bZ (v:=vi ((gI g.2 ↑k).2)) 14 rfl (by kernel_rfl) (by kernel_rfl) (wy (dt q53_564)) (λw=>au rfl) ?_)
   refine dV (v:=Value.pointer (some (bA v456 1 (Int.toNat ((gI g.2 ↑k).2))))) 15 [14,13,12,11,10,9,8,7,6,5,4,3,2,1,0,17,19,18,20,21,22] rfl (by kernel_rfl) (by kernel_rfl) (wy (dt q53_564)) (ad (α:=Int) (xs:=(List.set oo (Int.toNat ((gI g.2 ↑k).1)) ((gI ((aR bl_c1 bl_c1.length).2) (k:Int))+1))) (v:=v456) (i:=(gI g.2 ↑k).2) bv rfl rfl bx552.flat rfl (by omega) (by(simp only[List.length_set,List.length_append,List.length_cons,List.length_nil,List.length_replicate,List.length_map,List.length_take,List.length_drop];omega))) ?_
   refine dV (v:=vi (gI (List.set oo (Int.toNat ((gI g.2 ↑k).1)) ((gI ((aR bl_c1 bl_c1.length).2) (k:Int))+1)) ((gI g.2 ↑k).2))) 16 [15,14,13,12,11,10,9,8,7,6,5,4,3,2,1,0,17,19,18,20,21,22] rfl (by kernel_rfl) (by kernel_rfl) (wy (dt q53_564)) (az (α:=Int) (xs:=(List.set oo (Int.toNat ((gI g.2 ↑k).1)) ((gI ((aR bl_c1 bl_c1.length).2) (k:Int))+1))) (v:=v456) (i:=(gI g.2 ↑k).2) aj rfl bx552.flat (by omega) (by(simp only[List.length_set,List.length_append,List.length_cons,List.length_nil,List.length_replicate,List.length_map,List.length_take,List.length_drop];omega)) (by decide) rfl) ?_
   refine bZ (v:=vp b13 0) 17 rfl (by kernel_rfl) (by kernel_rfl) (wy (dt q53_564)) (λw=>af jV rfl rfl zs3 rfl) ?_
   replace bx452:=(bx452.ce ch551).cn ch553
   refine dV (v:=v443) 18 [17,16,15,14,13,12,11,10,9,8,7,6,5,4,3,2,1,0,19] rfl (by kernel_rfl) (by kernel_rfl) (wy (dt q53_564)) (ae b9 rfl bx452 rfl) (bZ (v:=vi ↑k) 19 rfl (by kernel_rfl) (by kernel_rfl) (wy (dt q53_564)) (λw=>au rfl) ?_)
   replace o444:=(o444.ce ch551).cn ch553
   refine dV (v:=Value.pointer (some (bA v443 1 (Int.toNat ↑k)))) 20 [19,18,17,16,15,14,13,12,11,10,9,8,7,6,5,4,3,2,1,0] rfl (by kernel_rfl) (by kernel_rfl) (wy (dt q53_564)) (ad (α:=Int) (xs:=(aR bl_c1 bl_c1.length).2) (v:=v443) (i:=↑k) bv rfl rfl o444.flat rfl (by omega) (by omega)) (dV (v:=vi (gI ((aR bl_c1 bl_c1.length).2) (k:Int))) 21 [20,19,18,17,16,15,14,13,12,11,10,9,8,7,6,5,4,3,2,1,0] rfl (by kernel_rfl) (by kernel_rfl) (wy (dt q53_564)) (az (α:=Int) (xs:=(aR bl_c1 bl_c1.length).2) (v:=v443) (i:=↑k) aj rfl o444.flat (by omega) (by omega) (by decide) rfl) ?_)
   refine bZ (v:=vi ((gI ((aR bl_c1 bl_c1.length).2) (k:Int))+1)) 22 rfl (by kernel_rfl) (by kernel_rfl) (wy (dt q53_564)) (λw=>aI (m:=(gI ((aR bl_c1 bl_c1.length).2) (k:Int))) (n:=1) rfl rfl (by omega)) (bZ (v:=vb (!(decide ((gI (List.set oo (Int.toNat ((gI g.2 ↑k).1)) ((gI ((aR bl_c1 bl_c1.length).2) (k:Int))+1)) ((gI g.2 ↑k).2))=((gI ((aR bl_c1 bl_c1.length).2) (k:Int))+1))))) 23 rfl (by kernel_rfl) (by kernel_rfl) (wy (dt q53_564)) (λw=>cK (m:=(gI (List.set oo (Int.toNat ((gI g.2 ↑k).1)) ((gI ((aR bl_c1 bl_c1.length).2) (k:Int))+1)) ((gI g.2 ↑k).2))) (n:=(gI ((aR bl_c1 bl_c1.length).2) (k:Int))+1) rfl rfl) ?_)
   refine bZ (v:=vb (!(decide ((gI (List.set oo (Int.toNat ((gI g.2 ↑k).1)) ((gI ((aR bl_c1 bl_c1.length).2) (k:Int))+1)) ((gI g.2 ↑k).2))=((gI ((aR bl_c1 bl_c1.length).2) (k:Int))+1))))) 24 rfl (by kernel_rfl) (by kernel_rfl) (wy (Bool.eq_false_iff.2 q47_555)) (λw=>aO rfl (dt q53_564) rfl) (xp (v:=vb (!(decide ((gI (List.set oo (Int.toNat ((gI g.2 ↑k).1)) ((gI ((aR bl_c1 bl_c1.length).2) (k:Int))+1)) ((gI g.2 ↑k).2))=((gI ((aR bl_c1 bl_c1.length).2) (k:Int))+1))))) 25 rfl (λw=>aP rfl (Bool.eq_false_iff.2 q47_555) rfl) ?_)
   refine xv 26 [25,24,23,22,21,20,19,18,17,16,15,14,13,12,11,10,9,8,7,6,5,4,3,2,1,0] rfl (ad (v:=v461) (i:=(gI g.2 ↑k).2) gj rfl rfl bx548.flat rfl (by omega) (by(simp only[List.length_set,List.length_append,List.length_cons,List.length_nil,List.length_replicate,List.length_map,List.length_take,List.length_drop];omega))) (bB 27 rfl (by kernel_rfl) rfl (aQ (i:=(gI g.2 ↑k).2) (!(decide ((gI (List.set oo (Int.toNat ((gI g.2 ↑k).1)) ((gI ((aR bl_c1 bl_c1.length).2) (k:Int))+1)) ((gI g.2 ↑k).2))=((gI ((aR bl_c1 bl_c1.length).2) (k:Int))+1)))) cO rfl rfl bx548 (by omega) (by(simp only[List.length_set,List.length_append,List.length_cons,List.length_nil,List.length_replicate,List.length_map,List.length_take,List.length_drop];omega)) rfl ?_))
   intro w565 ch566 bx567
   clear bx548
   refine cA (by kernel_rfl) (a8 rfl (mz zs4 (mi ((gI g.2 ↑k).2) (lx (af jV rfl rfl zs3 rfl) ?_))))
   replace bx452:=bx452.ce ch566
   refine lx (ae b9 rfl bx452 rfl) (mi ↑k ?_)
   replace o444:=o444.ce ch566
   refine lx (ad (v:=v443) (i:=↑k) bv rfl rfl o444.flat rfl (by omega) (by omega)) (lx (az (v:=v443) (i:=↑k) aj rfl o444.flat (by omega) (by omega) (by decide) rfl) (lx (aI (m:=(gI ((aR bl_c1 bl_c1.length).2) (k:Int))) (n:=1) rfl rfl (by omega)) ?_))
   replace bx552:=bx552.ce ch566
   refine lx (ad (v:=v456) (i:=(gI g.2 ↑k).2) bv rfl rfl bx552.flat rfl (by omega) (by(simp only[List.length_set,List.length_append,List.length_cons,List.length_nil,List.length_replicate,List.length_map,List.length_take,List.length_drop];omega))) (lo (aQ (i:=(gI g.2 ↑k).2) ((gI ((aR bl_c1 bl_c1.length).2) (k:Int))+1) aj rfl rfl bx552 (by omega) (by(simp only[List.length_set,List.length_append,List.length_cons,List.length_nil,List.length_replicate,List.length_map,List.length_take,List.length_drop];omega)) rfl ?_))
   intro w568 ch569 bx570
   clear bx552
   refine ab (am (a8 rfl (lx (aI (m:=1) (n:=1) rfl rfl (by omega)) (mi 2 (ab (cj (aa (a8 rfl (lx (bm (m:=2) (n:=2) rfl rfl) (ab (aa ?_)))))))))))
   refine ag rfl rfl (aH rfl (am (a8 rfl (lx (aI (m:=↑k) (n:=1) zs32 rfl (by omega)) (mi ((k:Int)+1) (ab ?_))))))
   have C571:=cg [22,23,24] (ch470.n.seq ((ch475.l rfl).seq (ch477.n.seq ((ch547.l rfl).seq ((ch551.l rfl).seq (ch553.n.seq ((ch566.l rfl).seq (ch569.l rfl))))))))
   refine back6 (k+1,(List.set (List.set oo (Int.toNat ((gI g.2 ↑k).1)) ((gI ((aR bl_c1 bl_c1.length).2) (k:Int))+1)) (Int.toNat ((gI g.2 ↑k).2)) ((gI ((aR bl_c1 bl_c1.length).2) (k:Int))+1)),(List.set (List.set cc (Int.toNat ((gI g.2 ↑k).1)) false) (Int.toNat ((gI g.2 ↑k).2)) (!(decide ((gI (List.set oo (Int.toNat ((gI g.2 ↑k).1)) ((gI ((aR bl_c1 bl_c1.length).2) (k:Int))+1)) ((gI g.2 ↑k).2))=((gI ((aR bl_c1 bl_c1.length).2) (k:Int))+1))))),g472) _ _ ⟨bH.ca C571,zs2,zs3,zs4,zs5,zs30,zs31,rfl,Rg.ca C571,bx10.ca C571,o444.ce ch569,bx452.ce ch569,bx570,bx567.ce ch569,by omega,?_⟩ ?_
   · show iA (fJ g) g (List.set (List.set oo (Int.toNat ((gI g.2 ↑k).1)) ((gI ((aR bl_c1 bl_c1.length).2) (k:Int))+1)) (Int.toNat ((gI g.2 ↑k).2)) ((gI ((aR bl_c1 bl_c1.length).2) (k:Int))+1)) (List.set (List.set cc (Int.toNat ((gI g.2 ↑k).1)) false) (Int.toNat ((gI g.2 ↑k).2)) (!(decide ((gI (List.set oo (Int.toNat ((gI g.2 ↑k).1)) ((gI ((aR bl_c1 bl_c1.length).2) (k:Int))+1)) ((gI g.2 ↑k).2))=((gI ((aR bl_c1 bl_c1.length).2) (k:Int))+1))))) (2*(k+1))
     exact hci.two rfl rfl (by rw[<-hof]) (by rw[<-hof];(exact lm ‹_› ‹_›)) (by rw[<-hof]) (by rw[<-hof];(exact lJ ‹_› ‹_›))
   · show Int.toNat (((g.2.length:Int):Int)-((k+1):Int))<Int.toNat (((g.2.length:Int):Int)-(k:Int))
     omega
  refine aZ 13 rfl (by kernel_rfl) (by kernel_rfl) (wn (df q53_564)) (aZ 14 rfl (by kernel_rfl) (by kernel_rfl) (wn (df q53_564)) (aZ 15 rfl (by kernel_rfl) (by kernel_rfl) (wn (df q53_564)) (aZ 16 rfl (by kernel_rfl) (by kernel_rfl) (wn (df q53_564)) (aZ 17 rfl (by kernel_rfl) (by kernel_rfl) (wn (df q53_564)) (aZ 18 rfl (by kernel_rfl) (by kernel_rfl) (wn (df q53_564)) (aZ 19 rfl (by kernel_rfl) (by kernel_rfl) (wn (df q53_564)) (aZ 20 rfl (by kernel_rfl) (by kernel_rfl) (wn (df q53_564)) (aZ 21 rfl (by kernel_rfl) (by kernel_rfl) (wn (df q53_564)) ?_))))))))
  refine aZ 22 rfl (by kernel_rfl) (by kernel_rfl) (wn (df q53_564)) (aZ 23 rfl (by kernel_rfl) (by kernel_rfl) (wn (df q53_564)) (bZ (v:=vb false) 24 rfl (by kernel_rfl) (by kernel_rfl) (wy (Bool.eq_false_iff.2 q47_555)) (λw=>aP rfl (df q53_564) rfl) (xp (v:=vb false) 25 rfl (λw=>aP rfl (Bool.eq_false_iff.2 q47_555) rfl) (xv 26 [25,24,23,22,21,20,19,18,17,16,15,14,13,12,11,10,9,8,7,6,5,4,3,2,1,0] rfl (ad (v:=v461) (i:=(gI g.2 ↑k).2) gj rfl rfl bx548.flat rfl (by omega) (by(simp only[List.length_set,List.length_append,List.length_cons,List.length_nil,List.length_replicate,List.length_map,List.length_take,List.length_drop];omega))) (bB 27 rfl (by kernel_rfl) rfl ?_)))))
  refine aQ (i:=(gI g.2 ↑k).2) false cO rfl rfl bx548 (by omega) (by(simp only[List.length_set,List.length_append,List.length_cons,List.length_nil,List.length_replicate,List.length_map,List.length_take,List.length_drop];omega)) rfl ?_
  intro w572 ch573 bx574
  clear bx548
  refine cA (by kernel_rfl) (a8 rfl (mz zs4 (mi ((gI g.2 ↑k).2) (lx (af jV rfl rfl zs3 rfl) ?_))))
  have C575:=cg [22,23] ((ch551.l rfl).seq (ch553.n.seq (ch573.l rfl)))
  replace bx452:=bx452.ca C575
  refine lx (ae b9 rfl bx452 rfl) (mi ↑k ?_)
  replace o444:=o444.ca C575
  refine lx (ad (v:=v443) (i:=↑k) bv rfl rfl o444.flat rfl (by omega) (by omega)) (lx (az (v:=v443) (i:=↑k) aj rfl o444.flat (by omega) (by omega) (by decide) rfl) (lx (aI (m:=(gI ((aR bl_c1 bl_c1.length).2) (k:Int))) (n:=1) rfl rfl (by omega)) ?_))
  replace bx552:=bx552.ce ch573
  refine lx (ad (v:=v456) (i:=(gI g.2 ↑k).2) bv rfl rfl bx552.flat rfl (by omega) (by(simp only[List.length_set,List.length_append,List.length_cons,List.length_nil,List.length_replicate,List.length_map,List.length_take,List.length_drop];omega))) (lo (aQ (i:=(gI g.2 ↑k).2) ((gI ((aR bl_c1 bl_c1.length).2) (k:Int))+1) aj rfl rfl bx552 (by omega) (by(simp only[List.length_set,List.length_append,List.length_cons,List.length_nil,List.length_replicate,List.length_map,List.length_take,List.length_drop];omega)) rfl ?_))
  intro w576 ch577 bx578
  clear bx552
  refine ab (am (a8 rfl (lx (aI (m:=1) (n:=1) rfl rfl (by omega)) (mi 2 (ab (cj (aa (a8 rfl (lx (bm (m:=2) (n:=2) rfl rfl) (ab (aa ?_)))))))))))
  refine ag rfl rfl (aH rfl (am (a8 rfl (lx (aI (m:=↑k) (n:=1) zs32 rfl (by omega)) (mi ((k:Int)+1) (ab ?_))))))
  have C579:=cg [22,23,24] (ch470.n.seq ((ch475.l rfl).seq (ch477.n.seq ((ch547.l rfl).seq ((ch551.l rfl).seq (ch553.n.seq ((ch573.l rfl).seq (ch577.l rfl))))))))
  refine back6 (k+1,(List.set (List.set oo (Int.toNat ((gI g.2 ↑k).1)) ((gI ((aR bl_c1 bl_c1.length).2) (k:Int))+1)) (Int.toNat ((gI g.2 ↑k).2)) ((gI ((aR bl_c1 bl_c1.length).2) (k:Int))+1)),(List.set (List.set cc (Int.toNat ((gI g.2 ↑k).1)) false) (Int.toNat ((gI g.2 ↑k).2)) false),g472) _ _ ⟨bH.ca C579,zs2,zs3,zs4,zs5,zs30,zs31,rfl,Rg.ca C579,bx10.ca C579,o444.ce ch577,bx452.ce ch577,bx578,bx574.ce ch577,by omega,?_⟩ ?_
  · show iA (fJ g) g (List.set (List.set oo (Int.toNat ((gI g.2 ↑k).1)) ((gI ((aR bl_c1 bl_c1.length).2) (k:Int))+1)) (Int.toNat ((gI g.2 ↑k).2)) ((gI ((aR bl_c1 bl_c1.length).2) (k:Int))+1)) (List.set (List.set cc (Int.toNat ((gI g.2 ↑k).1)) false) (Int.toNat ((gI g.2 ↑k).2)) false) (2*(k+1))
    exact hci.two rfl rfl (by rw[<-hof]) (by rw[<-hof];(exact lm ‹_› ‹_›)) (by rw[<-hof]) (by rw[<-hof];(exact lm ‹_› ‹_›))
  · show Int.toNat (((g.2.length:Int):Int)-((k+1):Int))<Int.toNat (((g.2.length:Int):Int)-(k:Int))
    omega
 refine ag rfl (df p6) (aH rfl (aa (aa ?_)))
 clear o458
 refine a8 rfl (mz zs5 ?_)
 have len580:=(o463.flat).small
 refine lx (bq gj rfl o463.flat) (mi 0 (ab (ao ?_)))
 refine aY (σ:=Value×(List Int)×Nat×aG) (λ⟨cu_v,cu,j,gq⟩ f w=>bn w0 gq w/\f 2=vp b8 0/\f 3=vp b13 0/\f 79=v461/\f 80=vi (cc.length:Int)/\f 81=vi ↑j/\Sl gq (is 0) w g_v g.2/\Bx gq (is 2) w b8 [vn,vn,vi 0]/\Ow gq (is 21) (is 21) w v443 ((aR bl_c1 bl_c1.length).2)/\Bx gq (is 3) w b13 [v443,cu_v,vi ((aR bl_c1 bl_c1.length).1.length:Int)]/\Ow gq (is 23) (is 23) w v461 cc/\Ow gq (is 26) (is 26) w cu_v cu/\(j:Int)<=((cc.length:Int):Int)/\(cu=(bp j).filter λv=>gI cc v)) (λ⟨cu_v,cu,j,gq⟩=>Int.toNat (((cc.length:Int):Int)-(j:Int))) (vn,[],0,g468) ?_ ?_
 · exact⟨bH,zs2,zs3,rfl,rfl,rfl,Rg,bx10,o444,bx452,o463,Ow.nil,by omega,by rfl⟩
 clear Rg bx10 o444 bx452 o463 bH
 rintro⟨cu_v,cu,j,g583⟩ f581 w582 ⟨bH,zs2,zs3,zs79,zs80,zs81,Rg,bx10,o444,bx452,o463,o_cu,hle_j,hcu⟩ back16
 have hcul:=qX hcu
 refine aa (a8 rfl (lx (bm (m:=↑j) (n:=(cc.length:Int)) zs81 zs80) (ab (aa ?_))))
 by_cases p16:(j:Int)<(cc.length:Int)
 ·
  refine ah rfl (dt p16) (aq (aa (ao (aa (a8 rfl (mz zs81 (lx (ad (v:=v461) (i:=↑j) gj rfl zs79 o463.flat zs81 (by omega) (by omega)) (lx (az (v:=v461) (i:=↑j) cO rfl o463.flat (by omega) (by omega) (by decide) rfl) (ai (j:Int) (ma (vb (gI cc ↑j)) ?_))))))))))
  refine ab (aa (a8 rfl (mv (vb (gI cc ↑j)) (ab ?_))))
  by_cases p18:(gI cc ↑j)=true
  ·
   refine ah rfl p18 (a8 rfl (lx (af jV rfl rfl zs3 rfl) (lx (ae b9 rfl bx452 rfl) (mi ↑j (lo (aC (α:=Int) g583 (is 25) (is 25) (25,0) rfl [(j:Int)] bv aj (by decide) (by decide) (vs:=[(0,vi ↑j)]) rfl rfl (.cons rfl .nil) ?_))))))
   intro g584 w585 v586 ch587 o588
   refine lo ?_
   replace o_cu:=o_cu.cn ch587
   refine bf (α:=Int) (xs:=cu) (ys:=([(j:Int)])) g584 (J:=is 26) (S:=is 26) (26,0) rfl bv aj (by decide) rfl rfl rfl o_cu o588.flat (by decide) (by(simp;omega)) ?_
   intro g589 w590 v591 ch592 o593
   clear o_cu
   refine lx (af jV rfl rfl zs3 rfl) (lo ?_)
   replace bx452:=(bx452.cn ch587).ce ch592
   refine c8 (cs':=[v443,v591,vi ((aR bl_c1 bl_c1.length).1.length:Int)]) b9 rfl rfl bx452 (c5 o593.flat) nq (bK o593.flat) rfl ?_
   intro w594 ch595 bx596
   clear bx452
   refine ab (am ?_)
   clear o588
   refine a8 rfl (lx (aI (m:=↑j) (n:=1) zs81 rfl (by omega)) (mi ((j:Int)+1) (ab ?_)))
   have C597:=cg [3,26] (ch587.n.seq ((ch592.l rfl).seq (ch595.l rfl)))
   refine back16 (v591,(cu++[(j:Int)]),j+1,g589) _ _ ⟨bH.ca C597,zs2,zs3,zs79,zs80,rfl,Rg.ca C597,bx10.ca C597,o444.ca C597,bx596,o463.ca C597,o593.ce ch595,by omega,?_⟩ ?_
   · show(cu++[(j:Int)])=(bp (j+1)).filter λv=>gI cc v
     exact qG hcu ‹_›
   · show Int.toNat (((cc.length:Int):Int)-((j+1):Int))<Int.toNat (((cc.length:Int):Int)-(j:Int))
     omega
  refine ag rfl (Bool.eq_false_iff.2 p18) (aq (am (a8 rfl (lx (aI (m:=↑j) (n:=1) zs81 rfl (by omega)) (mi ((j:Int)+1) (ab ?_))))))
  refine back16 (cu_v,cu,j+1,g583) _ _ ⟨bH,zs2,zs3,zs79,zs80,rfl,Rg,bx10,o444,bx452,o463,o_cu,by omega,?_⟩ ?_
  · show cu=(bp (j+1)).filter λv=>gI cc v
    exact tY hcu ‹_›
  · show Int.toNat (((cc.length:Int):Int)-((j+1):Int))<Int.toNat (((cc.length:Int):Int)-(j:Int))
    omega
 refine ag rfl (df p16) (aH rfl (aa ?_))
 clear o463
 refine a8 rfl (lx (aB (ds:=[v443,cu_v,vi ((aR bl_c1 bl_c1.length).1.length:Int)]) fg zs3 bx452 rfl rfl) (lo (aT (cs':=[v443,cu_v,vi ((aR bl_c1 bl_c1.length).1.length:Int)]) fg zs2 rfl bx10 rfl nq (AllOne.all (.cons (bK o444.flat) (.cons (bK o_cu.flat) (.cons rfl .nil)))) rfl ?_)))
 intro w598 ch599 bx600
 clear bx10
 refine ab (aD (vs:=[vg [v443,cu_v,vi ((aR bl_c1 bl_c1.length).1.length:Int)]]) Try.func76 (.cell zs2 (cF (ds:=[v443,cu_v,vi ((aR bl_c1 bl_c1.length).1.length:Int)]) fg bx600 rfl rfl) .nil) ?_)
 replace bH:=bH.ce ch599
 replace o444:=o444.ce ch599
 replace o_cu:=o_cu.ce ch599
 have e0:(((aR bl_c1 bl_c1.length).2,cu,((aR bl_c1 bl_c1.length).1.length:Int)):(List Int)×(List Int)×(Int))=(c7 g):=by
   exact sH hnam hcu (by omega) hci (by omega)
 exact⟨(fin w0 g583 (λn=>if n=21 then 1 else if n=26 then 2 else 0),v443,cu_v),(congrArg (a₁:=((aR bl_c1 bl_c1.length).2,cu,((aR bl_c1 bl_c1.length).1.length:Int))) (λ(z0:(List Int)×(List Int)×(Int))=>Ending.returned (vg [v443,cu_v,vi z0.2.2])) e0),bH.fresh _,((congrArg (λ(z:(List Int)×(List Int)×(Int))=>z.1) e0)▸(o444.glue (γ:=c0) (ren:=(λn=>if n=21 then 1 else if n=26 then 2 else 0)) (k:=1) bH.col rfl rfl)),((congrArg (λ(z:(List Int)×(List Int)×(Int))=>z.2.1) e0)▸(o_cu.glue (γ:=c0) (ren:=(λn=>if n=21 then 1 else if n=26 then 2 else 0)) (k:=2) bH.col rfl rfl))⟩
end TL
