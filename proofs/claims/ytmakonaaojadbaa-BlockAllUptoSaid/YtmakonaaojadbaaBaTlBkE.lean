import Derived.Test.YtmakonaaojadbaaBaTlP4
import Derived.Test.YtmakonaaojadbaaBaTlGmA
import Derived.Test.YtmakonaaojadbaaBaTlGenA
import Derived.Test.YtmakonaaojadbaaBaTlBkC
import Derived.Test.YtmakonaaojadbaaBaTlBkEa
import Derived.Test.YtmakonaaojadbaaProg
import Derived.Test.YtmakonaaojadbaaBaTlAli
set_option linter.all false
set_option maxRecDepth 20000
namespace TL
open Go Go.Proofs
theorem iU:Try.prog.follows .mixedOrders=true:=by kernel_rfl
set_option maxHeartbeats 8000000 in
theorem tW(w0:World)(g:(Int)×(List Pt))(g_v:Value)(hg_v:Ro w0 g_v g.2)(hok:rE g):
    Calls Try.prog 26 #[vg [vi g.1,g_v]] w0 (λee w=>∃xx:aJ×Value,ee= .returned ((λ⟨δ,rv0⟩=>vt [rv0,vi ((dV g).2)]) xx)/\(λ(⟨δ,rv0⟩:aJ×Value) (w:World)=>fv w0 δ w/\cP δ 1 w rv0 ((dV g).1)) xx w):=by
 refine aC Try.func26 rfl nq ?_
 have bH:=bv.start w0
 have Rg:=hg_v.sl
 refine ab (a8 rfl (db rfl (d4 c0 (is 1) (1,0) rfl rfl ?_)))
 intro g4 w1 b3 ch2 bx5
 replace bx5:Bx g4 (is 1) w1 b3 [vi g.1,g_v]:=bx5
 refine ma vn (ai 0 (ag (ab (ar (ab (a8 rfl (lx (aB (ds:=[vi g.1,g_v]) ch rfl bx5 rfl rfl) ?_)))))))
 replace Rg:=Rg.cn ch2
 refine lo (cC (v:=vb (d5 g)) (b9 (vals:=[vg [vi g.1,g_v]]) Try.func36 ia i7 rfl) (ji w1 g g_v (Rg).ro) ?_)
 intro w6 hb7
 replace hb7:=aS hb7 g4
 refine lx (ek (b:=(d5 g)) rfl) (ma (vb (!(d5 g))) (ag ?_))
 by_cases p1:(d5 g)=true
 ·
  refine aj rfl (congrArg Bool.not p1) (ab (a8 rfl ?_))
  replace bx5:=bx5.cn hb7
  refine lx (aB (ds:=[vi g.1,g_v]) ch rfl bx5 rfl rfl) ?_
  replace Rg:=Rg.cn hb7
  refine lo (cC (v:=vb (c9 g)) (b9 (vals:=[vg [vi g.1,g_v]]) Try.func41 oY pi rfl) (mM w6 g g_v (Rg).ro (by exact of_decide_eq_true p1)) ?_)
  intro w8 hb9
  replace hb9:=aS hb9 g4
  refine lx (ek (b:=(c9 g)) rfl) (ma (vb (!(c9 g))) (ag ?_))
  by_cases p3:(c9 g)=true
  ·
   refine aj rfl (congrArg Bool.not p3) (ab (a8 rfl (lx (ad cZ rfl rfl rfl rfl) ?_)))
   replace bx5:=bx5.cn hb9
   refine lx (af bC rfl bx5 rfl) ?_
   replace Rg:=Rg.cn hb9
   have len10:=(Rg).small
   refine lx (bu dD rfl Rg) (lx (bn (m:=(g.2.length:Int)) (n:=2) rfl rfl) (ma (vb (decide ((g.2.length:Int)<2))) (ag ?_)))
   by_cases p5:(g.2.length:Int)<2
   ·
    refine al rfl (dt p5) (ab ?_)
    clear bx5
    refine a8 rfl (ma vn (ai 9 (ag (aQ (vs:=[vn,vi 9]) Try.func26 (.tmp rfl (.tmp rfl .nil)) ?_))))
    have C11:=cg [] (ch2.n.seq (hb7.n.seq hb9.n))
    replace bH:=bH.ca C11
    have e0:([]:gC)=((dV g).1):=by
      (have hm:=of_decide_eq_true p1;unfold dV;rw[if_pos hm,if_pos ‹_›,if_neg (by omega)];done)
    have e1:(9:Int)=((dV g).2):=by
      (have hm:=of_decide_eq_true p1;unfold dV;rw[if_pos hm,if_pos ‹_›,if_neg (by omega)];done)
    exact⟨(fin w0 g4 (λn=>0),vn),(dP (a:=[]) (b:=9) (λ(z0:gC) (z1:Int)=>Ending.returned (vt [vn,vi z1])) e0 e1),bH.fresh _,(e0▸cP.nil)⟩
   refine aj rfl (df p5) (av (ak (ab ?_)))
   have hm:=of_decide_eq_true p1
   obtain⟨hm1,hm2,hm3,hm4⟩:=of_decide_eq_true p1
   have hrz:((List.replicate (Int.toNat g.1) (0:Int)).length:Int)=g.1:=by rw[List.length_replicate];omega
   refine a8 rfl (lx (aB (ds:=[vi g.1,g_v]) ch rfl bx5 rfl rfl) (lo (cv (b9 (vals:=[vg [vi g.1,g_v]]) Try.func47 ph pc rfl) (aC Try.func47 rfl nq (ab (a8 rfl (db rfl (d4 g4 (is 2) (2,0) rfl rfl ?_))))))))
   intro g15 w12 b14 ch13 bx16
   replace bx16:Bx g15 (is 2) w12 b14 [vi g.1,g_v]:=bx16
   refine ma ((Value.pointer none)) (ag (ab (a8 rfl (lx (aB (ds:=[vi g.1,g_v]) ch rfl bx16 rfl rfl) (lo (cv (b9 (vals:=[vg [vi g.1,g_v]]) Try.func60 pw pu rfl) (aC Try.func60 rfl nq ?_)))))))
   replace Rg:=Rg.cn ch13
   refine ab (a8 rfl (db rfl (d4 g15 (is 3) (3,0) rfl rfl ?_)))
   intro g20 w17 b19 ch18 bx21
   replace bx21:Bx g20 (is 3) w17 b19 [vi g.1,g_v]:=bx21
   refine ma ((Value.pointer none)) (ag (ab (bA g20 [0,1,2,4,5,7,8,10,11,13,14,16,17,18,20,21,22] iU ?_)))
   intro w23 ch22
   replace bx21:=bx21.cn ch22
   refine xh 0 [1,4,7,10,13,16,20,26,2,5,8,11,14,17,21,3,6,9,12,15,18,22,19,23] rfl (λw' hw'=>aB (ds:=[vi g.1,g_v]) ch rfl (bx21.bel hw') rfl rfl) (xp 1 rfl (λw=>ad cZ rfl rfl rfl rfl) (xh 2 [1,0,4,7,10,13,16,20,26,5,8,11,14,17,21,6,9,12,15,18,22,19,23] rfl (λw' hw'=>af ah rfl (bx21.bel hw') rfl) (xp 4 rfl (λw=>ad cZ rfl rfl rfl rfl) (xh 5 [4,2,1,0,3,7,10,13,16,20,26,8,11,14,17,21,9,12,15,18,22,19,23] rfl (λw' hw'=>af ah rfl (bx21.bel hw') rfl) (xp 7 rfl (λw=>ad cZ rfl rfl rfl rfl) (xh 8 [7,5,4,2,1,0,3,6,10,13,16,20,26,11,14,17,21,12,15,18,22,19,23] rfl (λw' hw'=>af ah rfl (bx21.bel hw') rfl) ?_))))))
   refine xp 10 rfl (λw=>ad cZ rfl rfl rfl rfl) (xh 11 [10,8,7,5,4,2,1,0,3,6,9,13,16,20,26,14,17,21,15,18,22,19,23] rfl (λw' hw'=>af ah rfl (bx21.bel hw') rfl) (xp 13 rfl (λw=>ad cZ rfl rfl rfl rfl) (xh 14 [13,11,10,8,7,5,4,2,1,0,3,6,9,12,16,20,26,17,21,18,22,19,23] rfl (λw' hw'=>af ah rfl (bx21.bel hw') rfl) (xp 16 rfl (λw=>ad cZ rfl rfl rfl rfl) (xh 17 [16,14,13,11,10,8,7,5,4,2,1,0,3,6,9,12,15,20,26,21,22,23] rfl (λw' hw'=>af bC rfl (bx21.bel hw') rfl) ?_)))))
   replace Rg:=(Rg.cn ch18).cn ch22
   refine xp 18 rfl (λw=>bu dD rfl Rg) (xp 20 rfl (λw=>ad cZ rfl rfl rfl rfl) (xh 21 [20,18,17,16,14,13,11,10,8,7,5,4,2,1,0,3,6,9,12,15,19,26] rfl (λw' hw'=>af bC rfl (bx21.bel hw') rfl) (xp 22 rfl (λw=>bu dD rfl Rg) ?_)))
   refine oX g20 [⟨3,12,[],(λ_ γ w v=>cP (α:=Int) γ 4 w v (List.replicate (Int.toNat g.1) ([]:List Int)))⟩,⟨6,15,[],(λ_ γ w v=>Ow (α:=Int) γ (is 5) (is 5) w v (List.replicate (Int.toNat g.1) ((0:Int):Int)))⟩,⟨9,18,[],(λ_ γ w v=>Ow (α:=Int) γ (is 6) (is 6) w v (List.replicate (Int.toNat g.1) ((0:Int):Int)))⟩,⟨12,21,[],(λ_ γ w v=>Ow (α:=Int) γ (is 7) (is 7) w v (List.replicate (Int.toNat g.1) ((0:Int):Int)))⟩,⟨15,24,[],(λ_ γ w v=>Ow (α:=Int) γ (is 8) (is 8) w v (List.replicate (Int.toNat g.1) ((0:Int):Int)))⟩,⟨19,28,[],(λ_ γ w v=>Ow (α:=Bool) γ (is 9) (is 9) w v (List.replicate (Int.toNat (g.2.length:Int)) (false:Bool)))⟩,⟨23,32,[],(λ_ γ w v=>Ow (α:=Int) γ (is 10) (is 10) w v (List.replicate (Int.toNat (g.2.length:Int)) ((0:Int):Int)))⟩,⟨24,33,[12,15,18,21,24,28,32],(λvs _ _ v=>v=vg [vi g.1,g_v,(vs.getD 0 undef),(vs.getD 1 undef),(vs.getD 2 undef),(vs.getD 3 undef),(vs.getD 4 undef),vi 0,vn,(vs.getD 5 undef),(vs.getD 6 undef),vi 0,(.nilFunc)])⟩,⟨25,34,[33,12,15,18,21,24,28,32],(λvs γ w v=>∃b,v= .pointer (some ⟨b,0,none⟩)/\Bx γ (is 11) w b [vi g.1,g_v,(vs.getD 1 undef),(vs.getD 2 undef),(vs.getD 3 undef),(vs.getD 4 undef),(vs.getD 5 undef),vi 0,vn,(vs.getD 6 undef),(vs.getD 7 undef),vi 0,(.nilFunc)])⟩,⟨26,3,[],(λ_ γ w v=>∃b,v= .pointer (some ⟨b,0,none⟩)/\Bx γ (is 12) w b [(.pointer none)])⟩] [(3,12),(6,15),(9,18),(12,21),(15,24),(19,28),(23,32),(24,33),(25,34),(26,3)] _ rfl ⟨(λ_ _ _ _ _ _ h k=>cP.chg k h (cm _)),(λ_ _ _ _ _ _ h k=>Ow.chg k h (cm _) (cm _)),(λ_ _ _ _ _ _ h k=>Ow.chg k h (cm _) (cm _)),(λ_ _ _ _ _ _ h k=>Ow.chg k h (cm _) (cm _)),(λ_ _ _ _ _ _ h k=>Ow.chg k h (cm _) (cm _)),(λ_ _ _ _ _ _ h k=>Ow.chg k h (cm _) (cm _)),(λ_ _ _ _ _ _ h k=>Ow.chg k h (cm _) (cm _)),(λ_ _ _ _ _ _ _ h=>h),(λ_ _ _ _ _ _ h ⟨b,e,k⟩=>⟨b,e,Bx.chg k h (cm _)⟩),(λ_ _ _ _ _ _ h ⟨b,e,k⟩=>⟨b,e,Bx.chg k h (cm _)⟩),trivial⟩ (by decide) (by decide) (by kernel_rfl) (by kernel_rfl) (fuel:=1) rfl ⟨⟨rfl,_,rfl,rfl,by decide,λf' val hf' hv=>⟨rfl,λγ w hd=>iw (α:=Int) (n:=g.1) (cp:=g.1) γ 4 dB ay rfl ((hf' 11 rfl).trans rfl) ((hf' 11 rfl).trans rfl) (by omega) (by omega) (by omega) (by omega) (λg2 w2 v h k=>⟨g2,h,k⟩)⟩⟩,⟨rfl,_,rfl,rfl,by decide,λf' val hf' hv=>⟨rfl,λγ w hd=>cW (α:=Int) (l:=g.1) (cp:=g.1) γ (is 5) (is 5) (5,0) rfl (0:Int) bf ah rfl ((hf' 14 rfl).trans rfl) ((hf' 14 rfl).trans rfl) (by omega) (by omega) (by omega) (by omega) (λg2 w2 v h k _=>⟨g2,h,k⟩)⟩⟩,⟨rfl,_,rfl,rfl,by decide,λf' val hf' hv=>⟨rfl,λγ w hd=>cW (α:=Int) (l:=g.1) (cp:=g.1) γ (is 6) (is 6) (6,0) rfl (0:Int) bf ah rfl ((hf' 17 rfl).trans rfl) ((hf' 17 rfl).trans rfl) (by omega) (by omega) (by omega) (by omega) (λg2 w2 v h k _=>⟨g2,h,k⟩)⟩⟩,⟨rfl,_,rfl,rfl,by decide,λf' val hf' hv=>⟨rfl,λγ w hd=>cW (α:=Int) (l:=g.1) (cp:=g.1) γ (is 7) (is 7) (7,0) rfl (0:Int) bf ah rfl ((hf' 20 rfl).trans rfl) ((hf' 20 rfl).trans rfl) (by omega) (by omega) (by omega) (by omega) (λg2 w2 v h k _=>⟨g2,h,k⟩)⟩⟩,⟨rfl,_,rfl,rfl,by decide,λf' val hf' hv=>⟨rfl,λγ w hd=>cW (α:=Int) (l:=g.1) (cp:=g.1) γ (is 8) (is 8) (8,0) rfl (0:Int) bf ah rfl ((hf' 23 rfl).trans rfl) ((hf' 23 rfl).trans rfl) (by omega) (by omega) (by omega) (by omega) (λg2 w2 v h k _=>⟨g2,h,k⟩)⟩⟩,⟨rfl,_,rfl,rfl,by decide,λf' val hf' hv=>⟨rfl,λγ w hd=>cW (α:=Bool) (l:=(g.2.length:Int)) (cp:=(g.2.length:Int)) γ (is 9) (is 9) (9,0) rfl false fk bX rfl ((hf' 27 rfl).trans rfl) ((hf' 27 rfl).trans rfl) (by omega) (by omega) (by omega) (by omega) (λg2 w2 v h k _=>⟨g2,h,k⟩)⟩⟩,⟨rfl,_,rfl,rfl,by decide,λf' val hf' hv=>⟨rfl,λγ w hd=>cW (α:=Int) (l:=(g.2.length:Int)) (cp:=(g.2.length:Int)) γ (is 10) (is 10) (10,0) rfl (0:Int) bf ah rfl ((hf' 31 rfl).trans rfl) ((hf' 31 rfl).trans rfl) (by omega) (by omega) (by omega) (by omega) (λg2 w2 v h k _=>⟨g2,h,k⟩)⟩⟩,⟨rfl,_,rfl,rfl,by decide,λf' val hf' hv=>⟨rfl,λγ w hd=>n7 (v:=vg [vi g.1,g_v,val 12,val 15,val 18,val 21,val 24,vi 0,vn,val 28,val 32,vi 0,(.nilFunc)]) (bE (vs:=[(0,vg [vi g.1,g_v]),(1,val 12),(2,val 15),(3,val 18),(4,val 21),(5,val 24),(8,val 28),(9,val 32)]) (ig ((hf' 9 rfl).trans rfl) (ig (hv 12 (e8 rfl)) (ig (hv 15 (e8 rfl)) (ig (hv 18 (e8 rfl)) (ig (hv 21 (e8 rfl)) (ig (hv 24 (e8 rfl)) (ig (hv 28 (e8 rfl)) (ig (hv 32 (e8 rfl)) rfl)))))))) (by
    have h12:cP (α:=Int) γ 4 w (val 12) (List.replicate (Int.toNat g.1) ([]:List Int)):=hd 12 (e8 rfl)
    have h15:Ow (α:=Int) γ (is 5) (is 5) w (val 15) (List.replicate (Int.toNat g.1) ((0:Int):Int)):=hd 15 (e8 rfl)
    have h18:Ow (α:=Int) γ (is 6) (is 6) w (val 18) (List.replicate (Int.toNat g.1) ((0:Int):Int)):=hd 18 (e8 rfl)
    have h21:Ow (α:=Int) γ (is 7) (is 7) w (val 21) (List.replicate (Int.toNat g.1) ((0:Int):Int)):=hd 21 (e8 rfl)
    have h24:Ow (α:=Int) γ (is 8) (is 8) w (val 24) (List.replicate (Int.toNat g.1) ((0:Int):Int)):=hd 24 (e8 rfl)
    have h28:Ow (α:=Bool) γ (is 9) (is 9) w (val 28) (List.replicate (Int.toNat (g.2.length:Int)) (false:Bool)):=hd 28 (e8 rfl)
    have h32:Ow (α:=Int) γ (is 10) (is 10) w (val 32) (List.replicate (Int.toNat (g.2.length:Int)) ((0:Int):Int)):=hd 32 (e8 rfl)
    rw[Sl.form Rg,Sl.form h12.sl,Sl.form h15.flat,Sl.form h18.flat,Sl.form h21.flat,Sl.form h24.flat,Sl.form h28.flat,Sl.form h32.flat]
    show _=_
    kernel_rfl)) ⟨γ,bp.refl _ _ _,rfl⟩⟩⟩,⟨rfl,_,rfl,rfl,by decide,λf' val hf' hv=>⟨rfl,λγ w hd=>d4 γ (is 11) (11,0) rfl (v:=vg [vi g.1,g_v,val 12,val 15,val 18,val 21,val 24,vi 0,vn,val 28,val 32,vi 0,(.nilFunc)]) ((hv 33 (e8 rfl)).trans (show val 33=vg [vi g.1,g_v,val 12,val 15,val 18,val 21,val 24,vi 0,vn,val 28,val 32,vi 0,(.nilFunc)] from hd 33 (e8 rfl))) (λg2 w2 b h k=>⟨g2,h,b,rfl,k⟩)⟩⟩,⟨rfl,_,rfl,rfl,by decide,λf' val hf' hv=>⟨rfl,λγ w hd=>bI γ (is 12) (12,0) rfl bq (λg2 w2 b h k=>⟨g2,h,b,rfl,k⟩)⟩⟩,trivial⟩ ?_
   refine λg24 w25 ch26 v37 o27 v38 o28 v39 o29 v40 o30 v41 o31 v42 o32 v43 o33 v44 o34 v45 o35 v46 o36=>?_
   replace o27:cP (α:=Int) g24 4 w25 v37 (List.replicate (Int.toNat g.1) ([]:List Int)):=o27
   replace o28:Ow (α:=Int) g24 (is 5) (is 5) w25 v38 (List.replicate (Int.toNat g.1) ((0:Int):Int)):=o28
   replace o29:Ow (α:=Int) g24 (is 6) (is 6) w25 v39 (List.replicate (Int.toNat g.1) ((0:Int):Int)):=o29
   replace o30:Ow (α:=Int) g24 (is 7) (is 7) w25 v40 (List.replicate (Int.toNat g.1) ((0:Int):Int)):=o30
   replace o31:Ow (α:=Int) g24 (is 8) (is 8) w25 v41 (List.replicate (Int.toNat g.1) ((0:Int):Int)):=o31
   replace o32:Ow (α:=Bool) g24 (is 9) (is 9) w25 v42 (List.replicate (Int.toNat (g.2.length:Int)) (false:Bool)):=o32
   replace o33:Ow (α:=Int) g24 (is 10) (is 10) w25 v43 (List.replicate (Int.toNat (g.2.length:Int)) ((0:Int):Int)):=o33
   replace o34:v44=vg [vi g.1,g_v,v37,v38,v39,v40,v41,vi 0,vn,v42,v43,vi 0,(.nilFunc)]:=o34
   subst o34
   obtain⟨b47,hev45,bx48⟩:=o35
   subst hev45
   replace bx48:Bx g24 (is 11) w25 b47 [vi g.1,g_v,v37,v38,v39,v40,v41,vi 0,vn,v42,v43,vi 0,(.nilFunc)]:=bx48
   obtain⟨b49,hev46,bx50⟩:=o36
   subst hev46
   replace bx50:Bx g24 (is 12) w25 b49 [(.pointer none)]:=bx50
   refine bw 27 rfl (by kernel_rfl) rfl (aI (cs':=[vp b47 0]) bq rfl rfl bx50 rfl nq (AllOne.all (.cons rfl .nil)) rfl ?_)
   intro w51 ch52 bx53
   clear bx50
   refine c6 (by kernel_rfl) (ab (ab (a8 rfl (lx (ad cZ rfl rfl rfl rfl) ?_))))
   replace bx21:=(bx21.cn ch26).ce ch52
   refine lx (af bC rfl bx21 rfl) ?_
   replace Rg:=(Rg.cn ch26).ce ch52
   refine lx (bu dD rfl Rg) (mi 0 (ag (ar ?_)))
   clear bx21
   refine bc (σ:=Nat×gC×aJ) (λ⟨e_c2,O_c2,gq⟩ f w=>bv w0 gq w/\f 3=vp b49 0/\f 36=g_v/\f 37=vi (g.2.length:Int)/\f 38=vi ↑e_c2/\Sl gq (is 0) w g_v g.2/\Bx gq (is 1) w b3 [vi g.1,g_v]/\Bx gq (is 2) w b14 [vi g.1,g_v]/\cP gq 4 w v37 O_c2/\Ow gq (is 5) (is 5) w v38 (List.replicate (Int.toNat g.1) (0:Int))/\Ow gq (is 6) (is 6) w v39 (List.replicate (Int.toNat g.1) (0:Int))/\Ow gq (is 7) (is 7) w v40 (List.replicate (Int.toNat g.1) (0:Int))/\Ow gq (is 8) (is 8) w v41 (List.replicate (Int.toNat g.1) (0:Int))/\Ow gq (is 9) (is 9) w v42 (List.replicate (Int.toNat (g.2.length:Int)) false)/\Ow gq (is 10) (is 10) w v43 (List.replicate (Int.toNat (g.2.length:Int)) (0:Int))/\Bx gq (is 11) w b47 [vi g.1,g_v,v37,v38,v39,v40,v41,vi 0,vn,v42,v43,vi 0,(.nilFunc)]/\Bx gq (is 12) w b49 [vp b47 0]/\(e_c2:Int)<=((g.2.length:Int):Int)/\(dA O_c2 g e_c2)) (λ⟨e_c2,O_c2,gq⟩=>Int.toNat (((g.2.length:Int):Int)-(e_c2:Int))) (0,(List.replicate (Int.toNat g.1) ([]:List Int)),g24) ?_ ?_
   have C56:=cg [12] (ch18.n.seq (ch22.n.seq (ch26.n.seq (ch52.l rfl))))
   have C55:=ch13.n.seq C56
   have C54:=ch2.n.seq (hb7.n.seq (hb9.n.seq C55))
   · exact⟨bH.ca C54,rfl,rfl,rfl,rfl,Rg,bx5.ca C55,bx16.ca C56,o27.ce ch52,o28.ce ch52,o29.ce ch52,o30.ce ch52,o31.ce ch52,o32.ce ch52,o33.ce ch52,bx48.ce ch52,bx53,by omega,by exact dA.start hm1⟩
   clear Rg bx5 bx16 o27 o28 o29 o30 o31 o32 o33 bx48 bx53 bH
   rintro⟨e_c2,O_c2,g59⟩ f57 w58 ⟨bH,zs3_c2,zs36_c2,zs37_c2,zs38_c2,Rg,bx5,bx16,o27,o28,o29,o30,o31,o32,o33,bx48,bx53,hle_e_c2,hov_c2⟩ back3_c2
   have hol_c2:=hov_c2.len
   refine ab (a8 rfl (lx (bn (m:=↑e_c2) (n:=(g.2.length:Int)) zs38_c2 zs37_c2) (ag (ab ?_))))
   by_cases p3_c2:(e_c2:Int)<(g.2.length:Int)
   ·
    refine al rfl (dt p3_c2) ?_
    obtain⟨⟨he1,he2⟩,he3,he4⟩:=hm4 _ (bP (xs:=g.2) (i:=↑e_c2) (by omega) (by omega))
    have hq1:=hov_c2.rl he1 he2
    have hq2:=hov_c2.rl2 he1 he2 he3 he4 (2*(e_c2:Int))
    refine av (ab (ar (ab (a8 rfl (mz zs38_c2 (lx (ae (v:=g_v) (i:=↑e_c2) dD rfl zs36_c2 Rg zs38_c2 (by omega) (by omega)) (lw (vg [vi ((gI g.2 ↑e_c2).1),vi ((gI g.2 ↑e_c2).2)]) (dJ (v:=g_v) (i:=↑e_c2) aU rfl Rg (by omega) (by omega) rfl) (lo (bI g59 (is 13) (13,0) rfl aU ?_)))))))))
    intro g63 w60 b62 ch61 bx64
    replace bx64:Bx g63 (is 13) w60 b62 [vi 0,vi 0]:=bx64
    refine ai (e_c2:Int) (lo (aI (cs':=[vi ((gI g.2 ↑e_c2).1),vi ((gI g.2 ↑e_c2).2)]) aU rfl rfl bx64 rfl nq (AllOne.all (.cons rfl (.cons rfl .nil))) rfl ?_))
    intro w65 ch66 bx67
    clear bx64
    refine ag (ab (a8 rfl (lx (aB (ds:=[vi ((gI g.2 ↑e_c2).1),vi ((gI g.2 ↑e_c2).2)]) aU rfl bx67 rfl rfl) (mi 0 (ag (ar (eF (ab ?_))))))))
    clear bx67
    refine a8 rfl (lx (bn (m:=0) (n:=2) rfl rfl) (ag (ab (al rfl rfl (av (ab (ar (ab (a8 rfl (mi 0 (lw (vi ((gI g.2 ↑e_c2).1)) (cE dg ah rfl rfl (by decide) (by decide) rfl) ?_)))))))))))
    refine ai 0 (ai ((gI g.2 ↑e_c2).1) (ag ?_))
    refine d3 (σ:=aJ) (λgq f w=>bv w0 gq w/\f 3=vp b49 0/\f 4=vi ↑e_c2/\f 36=g_v/\f 37=vi (g.2.length:Int)/\f 38=vi ↑e_c2/\f 43=vg [vi ((gI g.2 ↑e_c2).1),vi ((gI g.2 ↑e_c2).2)]/\f 44=vi 0/\Sl gq (is 0) w g_v g.2/\Bx gq (is 1) w b3 [vi g.1,g_v]/\Bx gq (is 2) w b14 [vi g.1,g_v]/\Ow gq (is 5) (is 5) w v38 (List.replicate (Int.toNat g.1) (0:Int))/\Ow gq (is 6) (is 6) w v39 (List.replicate (Int.toNat g.1) (0:Int))/\Ow gq (is 7) (is 7) w v40 (List.replicate (Int.toNat g.1) (0:Int))/\Ow gq (is 8) (is 8) w v41 (List.replicate (Int.toNat g.1) (0:Int))/\Ow gq (is 9) (is 9) w v42 (List.replicate (Int.toNat (g.2.length:Int)) false)/\Ow gq (is 10) (is 10) w v43 (List.replicate (Int.toNat (g.2.length:Int)) (0:Int))/\Bx gq (is 11) w b47 [vi g.1,g_v,v37,v38,v39,v40,v41,vi 0,vn,v42,v43,vi 0,(.nilFunc)]/\Bx gq (is 12) w b49 [vp b47 0]/\cP gq 4 w v37 (List.set O_c2 (Int.toNat ((gI g.2 ↑e_c2).1)) (gI O_c2 ((gI g.2 ↑e_c2).1)++[(2*(e_c2:Int))+0]))) g63 (inl [4]) iU ?_ ?_
    ·
     intro mid
     intro w69 ch68
     have C70:=cg [13] (ch61.n.seq ((ch66.l rfl).seq ch68.n))
     replace bx53:=bx53.ca C70
     refine ht 0 rfl (bp.refl _ _ _) (λw' hw'=>af bq zs3_c2 (bx53.chg hw' (bZ rfl)) rfl) (ht (v:=vp b47 0) 1 rfl (bp.refl _ _ _) (λw' hw'=>ao rfl) (ht 2 rfl (bp.refl _ _ _) (λw' hw'=>ad cF rfl rfl rfl rfl) ?_))
     replace bx48:=bx48.ca C70
     refine ht 3 rfl (bp.refl _ _ _) (λw' hw'=>af bW rfl (bx48.chg hw' (bZ rfl)) rfl) (ht (v:=vi ((gI g.2 ↑e_c2).1)) 4 rfl (bp.refl _ _ _) (λw' hw'=>au rfl) (ht 5 rfl (bp.refl _ _ _) (λw' hw'=>af bq zs3_c2 (bx53.chg hw' (bZ rfl)) rfl) (ht (v:=vp b47 0) 6 rfl (bp.refl _ _ _) (λw' hw'=>ao rfl) (ht 7 rfl (bp.refl _ _ _) (λw' hw'=>ad cF rfl rfl rfl rfl) (ht 8 rfl (bp.refl _ _ _) (λw' hw'=>af bW rfl (bx48.chg hw' (bZ rfl)) rfl) (ht (v:=vi ((gI g.2 ↑e_c2).1)) 9 rfl (bp.refl _ _ _) (λw' hw'=>au rfl) (ht (v:=vi ↑e_c2) 12 rfl (bp.refl _ _ _) (λw' hw'=>au rfl) (ht 13 rfl (bp.refl _ _ _) (λw' hw'=>mO (m:=2) (n:=↑e_c2) rfl rfl (by omega)) ?_))))))))
     refine ht (v:=vi 0) 14 rfl (bp.refl _ _ _) (λw' hw'=>au rfl) (ht 15 rfl (bp.refl _ _ _) (λw' hw'=>aG (m:=2*(e_c2:Int)) (n:=0) rfl rfl (by omega)) ?_)
     refine cD 10 [16] (by kernel_rfl) ⟨cA 10 rfl (by kernel_rfl) rfl ?_,cA 16 rfl (by kernel_rfl) rfl ?_,trivial⟩
     ·
      replace o27:=o27.ca C70
      refine az (v:=Value.pointer (some (aZ v37 1 (Int.toNat ((gI g.2 ↑e_c2).1))))) (ae (α:=List Int) (xs:=O_c2) (v:=v37) (i:=(gI g.2 ↑e_c2).1) dB rfl rfl o27.sl rfl (by omega) (by omega)) ?_
      refine⟨(bp.refl _ _ _),?_⟩
      refine cD 11 [16] (by kernel_rfl) ⟨cA 11 rfl (by kernel_rfl) rfl ?_,cA 16 rfl (by kernel_rfl) rfl ?_,trivial⟩
      ·
       obtain⟨v71,cel72,r73⟩:=bR (r:=(gI g.2 ↑e_c2).1) o27 (by omega) (by omega)
       refine az (v:=v71) (bB ay rfl cel72) ?_
       refine⟨(bp.refl _ _ _),?_⟩
       refine aV 16 rfl (by kernel_rfl) rfl (aM (α:=Int) g63 (is 14) (is 14) (14,0) rfl [(2*(e_c2:Int))+0] bf ah (by decide) (by decide) (vs:=[(0,vi ((2*(e_c2:Int))+0))]) rfl rfl (.cons rfl .nil) ?_)
       intro g74 w75 v76 ch77 o78
       have hs79:bp (inl [4]) _ _ _ _:=ch77.n
       refine⟨hs79.same,?_⟩
       refine aV 17 rfl (by kernel_rfl) rfl ?_
       replace o27:=o27.cn ch77
       replace r73:=r73.cn ch77
       refine bD (α:=Int) (xs:=(gI O_c2 ((gI g.2 ↑e_c2).1))) (ys:=([(2*(e_c2:Int))+0])) g74 (J:=row 4 (Int.toNat ((gI g.2 ↑e_c2).1)+1)) (S:=row 4 (Int.toNat ((gI g.2 ↑e_c2).1)+1)) (4,Int.toNat ((gI g.2 ↑e_c2).1)+1) rfl bf ah (by decide) rfl rfl rfl r73 o78.flat (by decide) (by(simp;omega)) ?_
       intro g80 w81 v82 ch83 o84
       have o85:=o27.rowchg ch83
       clear o27 cel72 r73
       have hs86:=hs79.seq (ch83.lr rfl)
       refine⟨hs86.same,?_⟩
       refine aV 18 rfl (by kernel_rfl) rfl ?_
       obtain⟨us87,hl88,r89⟩:=o85.vc
       try simp only[List.length_set,List.length_append,List.length_cons,List.length_nil] at hl88
       refine az (v:=Value.pointer (some (aZ v37 1 (Int.toNat ((gI g.2 ↑e_c2).1))))) (ae (α:=Vc) (xs:=us87) (v:=v37) (i:=(gI g.2 ↑e_c2).1) dB rfl rfl r89 rfl (by omega) (by omega)) ?_
       refine⟨hs86.same,?_⟩
       refine aV 19 rfl (by kernel_rfl) rfl (c5 (r:=(gI g.2 ↑e_c2).1) ay rfl rfl o85 o84 (by omega) (by omega) ?_)
       intro w93 ch94 o95
       clear o85 o84
       have hs96:=hs86.seq (ch94.l rfl)
       refine⟨hs96.same,?_⟩
       refine cy (by kernel_rfl) ?_
       have C97:=cg [4,13] (ch61.n.seq ((ch66.l rfl).seq (ch68.n.seq (ch77.n.seq ((ch83.lr rfl).seq (ch94.l rfl))))))
       replace Rg:=Rg.ca C70
       replace bx5:=bx5.ca C70
       replace bx16:=bx16.ca C70
       replace o28:=o28.ca C70
       replace o29:=o29.ca C70
       replace o30:=o30.ca C70
       replace o31:=o31.ca C70
       replace o32:=o32.ca C70
       replace o33:=o33.ca C70
       exact mid (g80) _ _ ⟨bH.ca C97,zs3_c2,rfl,zs36_c2,zs37_c2,zs38_c2,rfl,rfl,(Rg.ca hs96),(bx5.ca hs96),(bx16.ca hs96),(o28.ca hs96),(o29.ca hs96),(o30.ca hs96),(o31.ca hs96),(o32.ca hs96),(o33.ca hs96),(bx48.ca hs96),(bx53.ca hs96),o95⟩
      ·
       refine aM (α:=Int) g63 (is 14) (is 14) (14,0) rfl [(2*(e_c2:Int))+0] bf ah (by decide) (by decide) (vs:=[(0,vi ((2*(e_c2:Int))+0))]) rfl rfl (.cons rfl .nil) ?_
       intro g98 w99 v100 ch101 o102
       have hs103:bp (inl [4]) _ _ _ _:=ch101.n
       refine⟨hs103.same,?_⟩
       refine aV 11 rfl (by kernel_rfl) rfl ?_
       replace o27:=o27.cn ch101
       obtain⟨v104,cel105,r106⟩:=bR (r:=(gI g.2 ↑e_c2).1) o27 (by omega) (by omega)
       refine az (v:=v104) (bB ay rfl cel105) ?_
       refine⟨hs103.same,?_⟩
       refine aV 17 rfl (by kernel_rfl) rfl (bD (α:=Int) (xs:=(gI O_c2 ((gI g.2 ↑e_c2).1))) (ys:=([(2*(e_c2:Int))+0])) g98 (J:=row 4 (Int.toNat ((gI g.2 ↑e_c2).1)+1)) (S:=row 4 (Int.toNat ((gI g.2 ↑e_c2).1)+1)) (4,Int.toNat ((gI g.2 ↑e_c2).1)+1) rfl bf ah (by decide) rfl rfl rfl r106 o102.flat (by decide) (by(simp;omega)) ?_)
       intro g107 w108 v109 ch110 o111
       have o112:=o27.rowchg ch110
       clear o27 cel105 r106
       have hs113:=hs103.seq (ch110.lr rfl)
       refine⟨hs113.same,?_⟩
       refine aV 18 rfl (by kernel_rfl) rfl ?_
       obtain⟨us114,hl115,r116⟩:=o112.vc
       try simp only[List.length_set,List.length_append,List.length_cons,List.length_nil] at hl115
       refine az (v:=Value.pointer (some (aZ v37 1 (Int.toNat ((gI g.2 ↑e_c2).1))))) (ae (α:=Vc) (xs:=us114) (v:=v37) (i:=(gI g.2 ↑e_c2).1) dB rfl rfl r116 rfl (by omega) (by omega)) ?_
       refine⟨hs113.same,?_⟩
       refine aV 19 rfl (by kernel_rfl) rfl (c5 (r:=(gI g.2 ↑e_c2).1) ay rfl rfl o112 o111 (by omega) (by omega) ?_)
       intro w120 ch121 o122
       clear o112 o111
       have hs123:=hs113.seq (ch121.l rfl)
       refine⟨hs123.same,?_⟩
       refine cy (by kernel_rfl) ?_
       have C124:=cg [4,13] (ch61.n.seq ((ch66.l rfl).seq (ch68.n.seq (ch101.n.seq ((ch110.lr rfl).seq (ch121.l rfl))))))
       replace Rg:=Rg.ca C70
       replace bx5:=bx5.ca C70
       replace bx16:=bx16.ca C70
       replace o28:=o28.ca C70
       replace o29:=o29.ca C70
       replace o30:=o30.ca C70
       replace o31:=o31.ca C70
       replace o32:=o32.ca C70
       replace o33:=o33.ca C70
       exact mid (g107) _ _ ⟨bH.ca C124,zs3_c2,rfl,zs36_c2,zs37_c2,zs38_c2,rfl,rfl,(Rg.ca hs123),(bx5.ca hs123),(bx16.ca hs123),(o28.ca hs123),(o29.ca hs123),(o30.ca hs123),(o31.ca hs123),(o32.ca hs123),(o33.ca hs123),(bx48.ca hs123),(bx53.ca hs123),o122⟩
     ·
      refine aM (α:=Int) g63 (is 14) (is 14) (14,0) rfl [(2*(e_c2:Int))+0] bf ah (by decide) (by decide) (vs:=[(0,vi ((2*(e_c2:Int))+0))]) rfl rfl (.cons rfl .nil) ?_
      intro g125 w126 v127 ch128 o129
      have hs130:bp (inl [4]) _ _ _ _:=ch128.n
      refine⟨hs130.same,?_⟩
      refine aV 10 rfl (by kernel_rfl) rfl ?_
      have C131:=cg [13] (ch61.n.seq ((ch66.l rfl).seq (ch68.n.seq ch128.n)))
      replace o27:=o27.ca C131
      refine az (v:=Value.pointer (some (aZ v37 1 (Int.toNat ((gI g.2 ↑e_c2).1))))) (ae (α:=List Int) (xs:=O_c2) (v:=v37) (i:=(gI g.2 ↑e_c2).1) dB rfl rfl o27.sl rfl (by omega) (by omega)) ?_
      refine⟨hs130.same,?_⟩
      refine aV 11 rfl (by kernel_rfl) rfl ?_
      obtain⟨v132,cel133,r134⟩:=bR (r:=(gI g.2 ↑e_c2).1) o27 (by omega) (by omega)
      refine az (v:=v132) (bB ay rfl cel133) ?_
      refine⟨hs130.same,?_⟩
      refine aV 17 rfl (by kernel_rfl) rfl (bD (α:=Int) (xs:=(gI O_c2 ((gI g.2 ↑e_c2).1))) (ys:=([(2*(e_c2:Int))+0])) g125 (J:=row 4 (Int.toNat ((gI g.2 ↑e_c2).1)+1)) (S:=row 4 (Int.toNat ((gI g.2 ↑e_c2).1)+1)) (4,Int.toNat ((gI g.2 ↑e_c2).1)+1) rfl bf ah (by decide) rfl rfl rfl r134 o129.flat (by decide) (by(simp;omega)) ?_)
      intro g135 w136 v137 ch138 o139
      have o140:=o27.rowchg ch138
      clear o27 cel133 r134
      have hs141:=hs130.seq (ch138.lr rfl)
      refine⟨hs141.same,?_⟩
      refine aV 18 rfl (by kernel_rfl) rfl ?_
      obtain⟨us142,hl143,r144⟩:=o140.vc
      try simp only[List.length_set,List.length_append,List.length_cons,List.length_nil] at hl143
      refine az (v:=Value.pointer (some (aZ v37 1 (Int.toNat ((gI g.2 ↑e_c2).1))))) (ae (α:=Vc) (xs:=us142) (v:=v37) (i:=(gI g.2 ↑e_c2).1) dB rfl rfl r144 rfl (by omega) (by omega)) ?_
      refine⟨hs141.same,?_⟩
      refine aV 19 rfl (by kernel_rfl) rfl (c5 (r:=(gI g.2 ↑e_c2).1) ay rfl rfl o140 o139 (by omega) (by omega) ?_)
      intro w148 ch149 o150
      clear o140 o139
      have hs151:=hs141.seq (ch149.l rfl)
      refine⟨hs151.same,?_⟩
      refine cy (by kernel_rfl) ?_
      have C152:=cg [4,13] (ch61.n.seq ((ch66.l rfl).seq (ch68.n.seq (ch128.n.seq ((ch138.lr rfl).seq (ch149.l rfl))))))
      replace Rg:=Rg.ca C70
      replace bx5:=bx5.ca C70
      replace bx16:=bx16.ca C70
      replace o28:=o28.ca C70
      replace o29:=o29.ca C70
      replace o30:=o30.ca C70
      replace o31:=o31.ca C70
      replace o32:=o32.ca C70
      replace o33:=o33.ca C70
      exact mid (g135) _ _ ⟨bH.ca C152,zs3_c2,rfl,zs36_c2,zs37_c2,zs38_c2,rfl,rfl,(Rg.ca hs151),(bx5.ca hs151),(bx16.ca hs151),(o28.ca hs151),(o29.ca hs151),(o30.ca hs151),(o31.ca hs151),(o32.ca hs151),(o33.ca hs151),(bx48.ca hs151),(bx53.ca hs151),o150⟩
    clear Rg bx5 bx16 o27 o28 o29 o30 o31 o32 o33 bx48 bx53 bH
    rintro g155 f153 w154 ⟨bH,zs3_c2,zs4_c2,zs36_c2,zs37_c2,zs38_c2,zs43_c2,zs44_c2,Rg,bx5,bx16,o28,o29,o30,o31,o32,o33,bx48,bx53,o95⟩
    refine ak (a8 rfl (lx (aG (m:=0) (n:=1) zs44_c2 rfl (by omega)) (mi 1 (ag (bx (ab (a8 rfl (lx (bn (m:=1) (n:=2) rfl rfl) (ag (ab (al rfl rfl ?_)))))))))))
    refine av (ab (ar (ab (a8 rfl (mi 1 (lw (vi ((gI g.2 ↑e_c2).2)) (cE dg ah zs43_c2 rfl (by decide) (by decide) rfl) (ai 1 (ai ((gI g.2 ↑e_c2).2) (ag ?_)))))))))
    refine d3 (σ:=aJ) (λgq f w=>bv w0 gq w/\f 3=vp b49 0/\f 4=vi ↑e_c2/\f 36=g_v/\f 37=vi (g.2.length:Int)/\f 38=vi ↑e_c2/\f 43=vg [vi ((gI g.2 ↑e_c2).1),vi ((gI g.2 ↑e_c2).2)]/\f 44=vi 1/\Sl gq (is 0) w g_v g.2/\Bx gq (is 1) w b3 [vi g.1,g_v]/\Bx gq (is 2) w b14 [vi g.1,g_v]/\Ow gq (is 5) (is 5) w v38 (List.replicate (Int.toNat g.1) (0:Int))/\Ow gq (is 6) (is 6) w v39 (List.replicate (Int.toNat g.1) (0:Int))/\Ow gq (is 7) (is 7) w v40 (List.replicate (Int.toNat g.1) (0:Int))/\Ow gq (is 8) (is 8) w v41 (List.replicate (Int.toNat g.1) (0:Int))/\Ow gq (is 9) (is 9) w v42 (List.replicate (Int.toNat (g.2.length:Int)) false)/\Ow gq (is 10) (is 10) w v43 (List.replicate (Int.toNat (g.2.length:Int)) (0:Int))/\Bx gq (is 11) w b47 [vi g.1,g_v,v37,v38,v39,v40,v41,vi 0,vn,v42,v43,vi 0,(.nilFunc)]/\Bx gq (is 12) w b49 [vp b47 0]/\cP gq 4 w v37 (List.set (List.set O_c2 (Int.toNat ((gI g.2 ↑e_c2).1)) (gI O_c2 ((gI g.2 ↑e_c2).1)++[(2*(e_c2:Int))+0])) (Int.toNat ((gI g.2 ↑e_c2).2)) (gI (List.set O_c2 (Int.toNat ((gI g.2 ↑e_c2).1)) (gI O_c2 ((gI g.2 ↑e_c2).1)++[(2*(e_c2:Int))+0])) ((gI g.2 ↑e_c2).2)++[(2*(e_c2:Int))+1]))) g155 (inl [4]) iU ?_ ?_
    ·
     intro mid
     intro w157 ch156
     replace bx53:=bx53.cn ch156
     refine ht 0 rfl (bp.refl _ _ _) (λw' hw'=>af bq zs3_c2 (bx53.chg hw' (bZ rfl)) rfl) (ht (v:=vp b47 0) 1 rfl (bp.refl _ _ _) (λw' hw'=>ao rfl) (ht 2 rfl (bp.refl _ _ _) (λw' hw'=>ad cF rfl rfl rfl rfl) ?_))
     replace bx48:=bx48.cn ch156
     refine ht 3 rfl (bp.refl _ _ _) (λw' hw'=>af bW rfl (bx48.chg hw' (bZ rfl)) rfl) (ht (v:=vi ((gI g.2 ↑e_c2).2)) 4 rfl (bp.refl _ _ _) (λw' hw'=>au rfl) (ht 5 rfl (bp.refl _ _ _) (λw' hw'=>af bq zs3_c2 (bx53.chg hw' (bZ rfl)) rfl) (ht (v:=vp b47 0) 6 rfl (bp.refl _ _ _) (λw' hw'=>ao rfl) (ht 7 rfl (bp.refl _ _ _) (λw' hw'=>ad cF rfl rfl rfl rfl) (ht 8 rfl (bp.refl _ _ _) (λw' hw'=>af bW rfl (bx48.chg hw' (bZ rfl)) rfl) (ht (v:=vi ((gI g.2 ↑e_c2).2)) 9 rfl (bp.refl _ _ _) (λw' hw'=>au rfl) (ht (v:=vi ↑e_c2) 12 rfl (bp.refl _ _ _) (λw' hw'=>au zs4_c2) ?_)))))))
     refine ht 13 rfl (bp.refl _ _ _) (λw' hw'=>mO (m:=2) (n:=↑e_c2) rfl rfl (by omega)) (ht (v:=vi 1) 14 rfl (bp.refl _ _ _) (λw' hw'=>au rfl) (ht 15 rfl (bp.refl _ _ _) (λw' hw'=>aG (m:=2*(e_c2:Int)) (n:=1) rfl rfl (by omega)) ?_))
     refine cD 10 [16] (by kernel_rfl) ⟨cA 10 rfl (by kernel_rfl) rfl ?_,cA 16 rfl (by kernel_rfl) rfl ?_,trivial⟩
     ·
      replace o95:=o95.cn ch156
      refine az (v:=Value.pointer (some (aZ v37 1 (Int.toNat ((gI g.2 ↑e_c2).2))))) (ae (α:=List Int) (xs:=(List.set O_c2 (Int.toNat ((gI g.2 ↑e_c2).1)) (gI O_c2 ((gI g.2 ↑e_c2).1)++[(2*(e_c2:Int))+0]))) (v:=v37) (i:=(gI g.2 ↑e_c2).2) dB rfl rfl o95.sl rfl (by omega) (by(simp only[List.length_set,List.length_append,List.length_cons,List.length_nil,List.length_replicate,List.length_map,List.length_take,List.length_drop];omega))) ?_
      refine⟨(bp.refl _ _ _),?_⟩
      refine cD 11 [16] (by kernel_rfl) ⟨cA 11 rfl (by kernel_rfl) rfl ?_,cA 16 rfl (by kernel_rfl) rfl ?_,trivial⟩
      ·
       obtain⟨v158,cel159,r160⟩:=bR (r:=(gI g.2 ↑e_c2).2) o95 (by omega) (by(simp only[List.length_set,List.length_append,List.length_cons,List.length_nil,List.length_replicate,List.length_map,List.length_take,List.length_drop];omega))
       refine az (v:=v158) (bB ay rfl cel159) ?_
       refine⟨(bp.refl _ _ _),?_⟩
       refine aV 16 rfl (by kernel_rfl) rfl (aM (α:=Int) g155 (is 14) (is 14) (14,0) rfl [(2*(e_c2:Int))+1] bf ah (by decide) (by decide) (vs:=[(0,vi ((2*(e_c2:Int))+1))]) rfl rfl (.cons rfl .nil) ?_)
       intro g161 w162 v163 ch164 o165
       have hs166:bp (inl [4]) _ _ _ _:=ch164.n
       refine⟨hs166.same,?_⟩
       refine aV 17 rfl (by kernel_rfl) rfl ?_
       replace o95:=o95.cn ch164
       replace r160:=r160.cn ch164
       refine bD (α:=Int) (xs:=(gI (List.set O_c2 (Int.toNat ((gI g.2 ↑e_c2).1)) (gI O_c2 ((gI g.2 ↑e_c2).1)++[(2*(e_c2:Int))+0])) ((gI g.2 ↑e_c2).2))) (ys:=([(2*(e_c2:Int))+1])) g161 (J:=row 4 (Int.toNat ((gI g.2 ↑e_c2).2)+1)) (S:=row 4 (Int.toNat ((gI g.2 ↑e_c2).2)+1)) (4,Int.toNat ((gI g.2 ↑e_c2).2)+1) rfl bf ah (by decide) rfl rfl rfl r160 o165.flat (by decide) (by(simp;omega)) ?_
       intro g167 w168 v169 ch170 o171
       have o172:=o95.rowchg ch170
       clear o95 cel159 r160
       have hs173:=hs166.seq (ch170.lr rfl)
       refine⟨hs173.same,?_⟩
       refine aV 18 rfl (by kernel_rfl) rfl ?_
       obtain⟨us174,hl175,r176⟩:=o172.vc
       try simp only[List.length_set,List.length_append,List.length_cons,List.length_nil] at hl175
       refine az (v:=Value.pointer (some (aZ v37 1 (Int.toNat ((gI g.2 ↑e_c2).2))))) (ae (α:=Vc) (xs:=us174) (v:=v37) (i:=(gI g.2 ↑e_c2).2) dB rfl rfl r176 rfl (by omega) (by omega)) ?_
       refine⟨hs173.same,?_⟩
       refine aV 19 rfl (by kernel_rfl) rfl (c5 (r:=(gI g.2 ↑e_c2).2) ay rfl rfl o172 o171 (by omega) (by(simp only[List.length_set,List.length_append,List.length_cons,List.length_nil,List.length_replicate,List.length_map,List.length_take,List.length_drop];omega)) ?_)
       intro w180 ch181 o182
       clear o172 o171
       have hs183:=hs173.seq (ch181.l rfl)
       refine⟨hs183.same,?_⟩
       refine cy (by kernel_rfl) ?_
       have C184:=cg [4] (ch156.n.seq (ch164.n.seq ((ch170.lr rfl).seq (ch181.l rfl))))
       replace Rg:=Rg.cn ch156
       replace bx5:=bx5.cn ch156
       replace bx16:=bx16.cn ch156
       replace o28:=o28.cn ch156
       replace o29:=o29.cn ch156
       replace o30:=o30.cn ch156
       replace o31:=o31.cn ch156
       replace o32:=o32.cn ch156
       replace o33:=o33.cn ch156
       exact mid (g167) _ _ ⟨bH.ca C184,zs3_c2,zs4_c2,zs36_c2,zs37_c2,zs38_c2,zs43_c2,rfl,(Rg.ca hs183),(bx5.ca hs183),(bx16.ca hs183),(o28.ca hs183),(o29.ca hs183),(o30.ca hs183),(o31.ca hs183),(o32.ca hs183),(o33.ca hs183),(bx48.ca hs183),(bx53.ca hs183),o182⟩
      ·
       refine aM (α:=Int) g155 (is 14) (is 14) (14,0) rfl [(2*(e_c2:Int))+1] bf ah (by decide) (by decide) (vs:=[(0,vi ((2*(e_c2:Int))+1))]) rfl rfl (.cons rfl .nil) ?_
       intro g185 w186 v187 ch188 o189
       have hs190:bp (inl [4]) _ _ _ _:=ch188.n
       refine⟨hs190.same,?_⟩
       refine aV 11 rfl (by kernel_rfl) rfl ?_
       replace o95:=o95.cn ch188
       obtain⟨v191,cel192,r193⟩:=bR (r:=(gI g.2 ↑e_c2).2) o95 (by omega) (by(simp only[List.length_set,List.length_append,List.length_cons,List.length_nil,List.length_replicate,List.length_map,List.length_take,List.length_drop];omega))
       refine az (v:=v191) (bB ay rfl cel192) ?_
       refine⟨hs190.same,?_⟩
       refine aV 17 rfl (by kernel_rfl) rfl (bD (α:=Int) (xs:=(gI (List.set O_c2 (Int.toNat ((gI g.2 ↑e_c2).1)) (gI O_c2 ((gI g.2 ↑e_c2).1)++[(2*(e_c2:Int))+0])) ((gI g.2 ↑e_c2).2))) (ys:=([(2*(e_c2:Int))+1])) g185 (J:=row 4 (Int.toNat ((gI g.2 ↑e_c2).2)+1)) (S:=row 4 (Int.toNat ((gI g.2 ↑e_c2).2)+1)) (4,Int.toNat ((gI g.2 ↑e_c2).2)+1) rfl bf ah (by decide) rfl rfl rfl r193 o189.flat (by decide) (by(simp;omega)) ?_)
       intro g194 w195 v196 ch197 o198
       have o199:=o95.rowchg ch197
       clear o95 cel192 r193
       have hs200:=hs190.seq (ch197.lr rfl)
       refine⟨hs200.same,?_⟩
       refine aV 18 rfl (by kernel_rfl) rfl ?_
       obtain⟨us201,hl202,r203⟩:=o199.vc
       try simp only[List.length_set,List.length_append,List.length_cons,List.length_nil] at hl202
       refine az (v:=Value.pointer (some (aZ v37 1 (Int.toNat ((gI g.2 ↑e_c2).2))))) (ae (α:=Vc) (xs:=us201) (v:=v37) (i:=(gI g.2 ↑e_c2).2) dB rfl rfl r203 rfl (by omega) (by omega)) ?_
       refine⟨hs200.same,?_⟩
       refine aV 19 rfl (by kernel_rfl) rfl (c5 (r:=(gI g.2 ↑e_c2).2) ay rfl rfl o199 o198 (by omega) (by(simp only[List.length_set,List.length_append,List.length_cons,List.length_nil,List.length_replicate,List.length_map,List.length_take,List.length_drop];omega)) ?_)
       intro w207 ch208 o209
       clear o199 o198
       have hs210:=hs200.seq (ch208.l rfl)
       refine⟨hs210.same,?_⟩
       refine cy (by kernel_rfl) ?_
       have C211:=cg [4] (ch156.n.seq (ch188.n.seq ((ch197.lr rfl).seq (ch208.l rfl))))
       replace Rg:=Rg.cn ch156
       replace bx5:=bx5.cn ch156
       replace bx16:=bx16.cn ch156
       replace o28:=o28.cn ch156
       replace o29:=o29.cn ch156
       replace o30:=o30.cn ch156
       replace o31:=o31.cn ch156
       replace o32:=o32.cn ch156
       replace o33:=o33.cn ch156
       exact mid (g194) _ _ ⟨bH.ca C211,zs3_c2,zs4_c2,zs36_c2,zs37_c2,zs38_c2,zs43_c2,rfl,(Rg.ca hs210),(bx5.ca hs210),(bx16.ca hs210),(o28.ca hs210),(o29.ca hs210),(o30.ca hs210),(o31.ca hs210),(o32.ca hs210),(o33.ca hs210),(bx48.ca hs210),(bx53.ca hs210),o209⟩
     ·
      refine aM (α:=Int) g155 (is 14) (is 14) (14,0) rfl [(2*(e_c2:Int))+1] bf ah (by decide) (by decide) (vs:=[(0,vi ((2*(e_c2:Int))+1))]) rfl rfl (.cons rfl .nil) ?_
      intro g212 w213 v214 ch215 o216
      have hs217:bp (inl [4]) _ _ _ _:=ch215.n
      refine⟨hs217.same,?_⟩
      refine aV 10 rfl (by kernel_rfl) rfl ?_
      replace o95:=(o95.cn ch156).cn ch215
      refine az (v:=Value.pointer (some (aZ v37 1 (Int.toNat ((gI g.2 ↑e_c2).2))))) (ae (α:=List Int) (xs:=(List.set O_c2 (Int.toNat ((gI g.2 ↑e_c2).1)) (gI O_c2 ((gI g.2 ↑e_c2).1)++[(2*(e_c2:Int))+0]))) (v:=v37) (i:=(gI g.2 ↑e_c2).2) dB rfl rfl o95.sl rfl (by omega) (by(simp only[List.length_set,List.length_append,List.length_cons,List.length_nil,List.length_replicate,List.length_map,List.length_take,List.length_drop];omega))) ?_
      refine⟨hs217.same,?_⟩
      refine aV 11 rfl (by kernel_rfl) rfl ?_
      obtain⟨v218,cel219,r220⟩:=bR (r:=(gI g.2 ↑e_c2).2) o95 (by omega) (by(simp only[List.length_set,List.length_append,List.length_cons,List.length_nil,List.length_replicate,List.length_map,List.length_take,List.length_drop];omega))
      refine az (v:=v218) (bB ay rfl cel219) ?_
      refine⟨hs217.same,?_⟩
      refine aV 17 rfl (by kernel_rfl) rfl (bD (α:=Int) (xs:=(gI (List.set O_c2 (Int.toNat ((gI g.2 ↑e_c2).1)) (gI O_c2 ((gI g.2 ↑e_c2).1)++[(2*(e_c2:Int))+0])) ((gI g.2 ↑e_c2).2))) (ys:=([(2*(e_c2:Int))+1])) g212 (J:=row 4 (Int.toNat ((gI g.2 ↑e_c2).2)+1)) (S:=row 4 (Int.toNat ((gI g.2 ↑e_c2).2)+1)) (4,Int.toNat ((gI g.2 ↑e_c2).2)+1) rfl bf ah (by decide) rfl rfl rfl r220 o216.flat (by decide) (by(simp;omega)) ?_)
      intro g221 w222 v223 ch224 o225
      have o226:=o95.rowchg ch224
      clear o95 cel219 r220
      have hs227:=hs217.seq (ch224.lr rfl)
      refine⟨hs227.same,?_⟩
      refine aV 18 rfl (by kernel_rfl) rfl ?_
      obtain⟨us228,hl229,r230⟩:=o226.vc
      try simp only[List.length_set,List.length_append,List.length_cons,List.length_nil] at hl229
      refine az (v:=Value.pointer (some (aZ v37 1 (Int.toNat ((gI g.2 ↑e_c2).2))))) (ae (α:=Vc) (xs:=us228) (v:=v37) (i:=(gI g.2 ↑e_c2).2) dB rfl rfl r230 rfl (by omega) (by omega)) ?_
      refine⟨hs227.same,?_⟩
      refine aV 19 rfl (by kernel_rfl) rfl (c5 (r:=(gI g.2 ↑e_c2).2) ay rfl rfl o226 o225 (by omega) (by(simp only[List.length_set,List.length_append,List.length_cons,List.length_nil,List.length_replicate,List.length_map,List.length_take,List.length_drop];omega)) ?_)
      intro w234 ch235 o236
      clear o226 o225
      have hs237:=hs227.seq (ch235.l rfl)
      refine⟨hs237.same,?_⟩
      refine cy (by kernel_rfl) ?_
      have C238:=cg [4] (ch156.n.seq (ch215.n.seq ((ch224.lr rfl).seq (ch235.l rfl))))
      replace Rg:=Rg.cn ch156
      replace bx5:=bx5.cn ch156
      replace bx16:=bx16.cn ch156
      replace o28:=o28.cn ch156
      replace o29:=o29.cn ch156
      replace o30:=o30.cn ch156
      replace o31:=o31.cn ch156
      replace o32:=o32.cn ch156
      replace o33:=o33.cn ch156
      exact mid (g221) _ _ ⟨bH.ca C238,zs3_c2,zs4_c2,zs36_c2,zs37_c2,zs38_c2,zs43_c2,rfl,(Rg.ca hs237),(bx5.ca hs237),(bx16.ca hs237),(o28.ca hs237),(o29.ca hs237),(o30.ca hs237),(o31.ca hs237),(o32.ca hs237),(o33.ca hs237),(bx48.ca hs237),(bx53.ca hs237),o236⟩
    clear Rg bx5 bx16 o28 o29 o30 o31 o32 o33 bx48 bx53 o95 bH
    rintro g241 f239 w240 ⟨bH,zs3_c2,zs4_c2,zs36_c2,zs37_c2,zs38_c2,zs43_c2,zs44_c2,Rg,bx5,bx16,o28,o29,o30,o31,o32,o33,bx48,bx53,o182⟩
    refine ak (a8 rfl (lx (aG (m:=1) (n:=1) zs44_c2 rfl (by omega)) (mi 2 (ag (bx (ab (a8 rfl (lx (bn (m:=2) (n:=2) rfl rfl) (ag (ab (aj rfl rfl ?_)))))))))))
    refine aF rfl (ak (a8 rfl (lx (aG (m:=↑e_c2) (n:=1) zs38_c2 rfl (by omega)) (mi ((e_c2:Int)+1) (ag ?_)))))
    refine back3_c2 (e_c2+1,(List.set (List.set O_c2 (Int.toNat ((gI g.2 ↑e_c2).1)) (gI O_c2 ((gI g.2 ↑e_c2).1)++[(2*(e_c2:Int))+0])) (Int.toNat ((gI g.2 ↑e_c2).2)) (gI (List.set O_c2 (Int.toNat ((gI g.2 ↑e_c2).1)) (gI O_c2 ((gI g.2 ↑e_c2).1)++[(2*(e_c2:Int))+0])) ((gI g.2 ↑e_c2).2)++[(2*(e_c2:Int))+1])),g241) _ _ ⟨bH,zs3_c2,zs36_c2,zs37_c2,rfl,Rg,bx5,bx16,o182,o28,o29,o30,o31,o32,o33,bx48,bx53,by omega,?_⟩ ?_
    · show dA (List.set (List.set O_c2 (Int.toNat ((gI g.2 ↑e_c2).1)) (gI O_c2 ((gI g.2 ↑e_c2).1)++[(2*(e_c2:Int))+0])) (Int.toNat ((gI g.2 ↑e_c2).2)) (gI (List.set O_c2 (Int.toNat ((gI g.2 ↑e_c2).1)) (gI O_c2 ((gI g.2 ↑e_c2).1)++[(2*(e_c2:Int))+0])) ((gI g.2 ↑e_c2).2)++[(2*(e_c2:Int))+1])) g (e_c2+1)
      exact hov_c2.next he1 he2 he3 he4 (by omega) (by omega)
    · show Int.toNat (((g.2.length:Int):Int)-((e_c2+1):Int))<Int.toNat (((g.2.length:Int):Int)-(e_c2:Int))
      omega
   refine aj rfl (df p3_c2) (aF rfl (ab (ab (a8 rfl (lx (af bq zs3_c2 bx53 rfl) (lw (vp b47 0) (ao rfl) (lx (ad cF rfl rfl rfl rfl) (lx (af ay rfl bx48 rfl) ?_))))))))
   have len242:=(o30.flat).small
   refine lx (bu bf rfl o30.flat) (mi 0 (ag (ar ?_)))
   refine bc (σ:=Nat×(List Int)×aJ) (λ⟨q_c2,by_c2,gq⟩ f w=>bv w0 gq w/\f 3=vp b49 0/\f 73=vi (List.length (List.replicate (Int.toNat g.1) (0:Int)):Int)/\f 74=vi ↑q_c2/\Sl gq (is 0) w g_v g.2/\Bx gq (is 1) w b3 [vi g.1,g_v]/\Bx gq (is 2) w b14 [vi g.1,g_v]/\cP gq 4 w v37 O_c2/\Ow gq (is 5) (is 5) w v38 (List.replicate (Int.toNat g.1) (0:Int))/\Ow gq (is 6) (is 6) w v39 (List.replicate (Int.toNat g.1) (0:Int))/\Ow gq (is 7) (is 7) w v40 by_c2/\Ow gq (is 8) (is 8) w v41 (List.replicate (Int.toNat g.1) (0:Int))/\Ow gq (is 9) (is 9) w v42 (List.replicate (Int.toNat (g.2.length:Int)) false)/\Ow gq (is 10) (is 10) w v43 (List.replicate (Int.toNat (g.2.length:Int)) (0:Int))/\Bx gq (is 11) w b47 [vi g.1,g_v,v37,v38,v39,v40,v41,vi 0,vn,v42,v43,vi 0,(.nilFunc)]/\Bx gq (is 12) w b49 [vp b47 0]/\(q_c2:Int)<=((List.length (List.replicate (Int.toNat g.1) (0:Int)):Int):Int)/\(by_c2=List.replicate q_c2 (-1)++List.replicate (Int.toNat g.1-q_c2) 0)) (λ⟨q_c2,by_c2,gq⟩=>Int.toNat (((List.length (List.replicate (Int.toNat g.1) (0:Int)):Int):Int)-(q_c2:Int))) (0,(List.replicate (Int.toNat g.1) (0:Int)),g59) ?_ ?_
   · exact⟨bH,zs3_c2,rfl,rfl,Rg,bx5,bx16,o27,o28,o29,o30,o31,o32,o33,bx48,bx53,by omega,by simp⟩
   clear Rg bx5 bx16 o27 o28 o29 o30 o31 o32 o33 bx48 bx53 bH
   rintro⟨q_c2,by_c2,g245⟩ f243 w244 ⟨bH,zs3_c2,zs73_c2,zs74_c2,Rg,bx5,bx16,o27,o28,o29,o30,o31,o32,o33,bx48,bx53,hle_q_c2,hby_c2⟩ back12_c2
   have hqz_c2:(q_c2:Int)<=g.1:=by rw[<-hrz];omega
   have hbl_c2:=oS hby_c2 (by omega)
   refine ab (a8 rfl (lx (bn (m:=↑q_c2) (n:=(List.length (List.replicate (Int.toNat g.1) (0:Int)):Int)) zs74_c2 zs73_c2) (ag (ab ?_))))
   by_cases p12_c2:(q_c2:Int)<(List.length (List.replicate (Int.toNat g.1) (0:Int)):Int)
   ·
    refine al rfl (dt p12_c2) (av (ab (ar (ab (a8 rfl (mz zs74_c2 (ai (q_c2:Int) (ag (a8 rfl (lx (af bq zs3_c2 bx53 rfl) (lw (vp b47 0) (ao rfl) ?_)))))))))))
    refine lx (ad cF rfl rfl rfl rfl) (lx (af ay rfl bx48 rfl) (mi ↑q_c2 (lx (ae (v:=v40) (i:=↑q_c2) bf rfl rfl o30.flat rfl (by omega) (by omega)) (lo (aD (i:=↑q_c2) (-1) ah rfl rfl o30 (by omega) (by omega) rfl ?_)))))
    intro w246 ch247 bx248
    clear o30
    refine ag (ak (a8 rfl (lx (aG (m:=↑q_c2) (n:=1) zs74_c2 rfl (by omega)) (mi ((q_c2:Int)+1) (ag ?_)))))
    refine back12_c2 (q_c2+1,(List.set by_c2 (Int.toNat ↑q_c2) (-1)),g245) _ _ ⟨bH.ce ch247,zs3_c2,zs73_c2,rfl,Rg.ce ch247,bx5.ce ch247,bx16.ce ch247,o27.ce ch247,o28.ce ch247,o29.ce ch247,bx248,o31.ce ch247,o32.ce ch247,o33.ce ch247,bx48.ce ch247,bx53.ce ch247,by omega,?_⟩ ?_
    · show(List.set by_c2 (Int.toNat ↑q_c2) (-1))=List.replicate (q_c2+1) (-1)++List.replicate (Int.toNat g.1-(q_c2+1)) 0
      exact mT hby_c2 (by omega)
    · show Int.toNat (((List.length (List.replicate (Int.toNat g.1) (0:Int)):Int):Int)-((q_c2+1):Int))<Int.toNat (((List.length (List.replicate (Int.toNat g.1) (0:Int)):Int):Int)-(q_c2:Int))
      omega
   refine aj rfl (df p12_c2) (aF rfl (ab (a8 rfl (lx (af bq zs3_c2 bx53 rfl) (lw (Value.func (.func 77) #[] (List.toArray [vp b49 0])) (kB (vals:=[vp b49 0]) (uC zs3_c2 rfl)) (lw (vp b47 0) (ao rfl) (lx (ad cF rfl rfl rfl rfl) (lo (aI (cs':=[vi g.1,g_v,v37,v38,v39,v40,v41,vi 0,vn,v42,v43,vi 0,Value.func (.func 77) #[] (List.toArray [vp b49 0])]) gi rfl rfl bx48 rfl nq (AllOne.all (.cons rfl .nil)) rfl ?_)))))))))
   intro w249 ch250 bx251
   clear bx48
   refine ag (ab (a8 rfl ?_))
   replace bx53:=bx53.ce ch250
   refine lx (af bq zs3_c2 bx53 rfl) (ma (vp b47 0) (ag (aQ (vs:=[vp b47 0]) Try.func60 (.tmp rfl .nil) ?_)))
   refine⟨vp b47 0,rfl,?_⟩
   refine ma (vp b47 0) (ag (ab (ab ?_)))
   have hO:=hov_c2.first (by omega)
   refine a8 rfl (lx (ad cZ rfl rfl rfl rfl) ?_)
   replace bx16:=bx16.ce ch250
   refine lx (af ah rfl bx16 rfl) (mi 0 (ag (ar ?_)))
   clear bx16
   refine bc (σ:=Int×Value×(List Int)×Int×Nat×(List Int)×(List Int)×(List Int)×(List Int)×(List Bool)×(List Int)×aJ) (λ⟨fo_c1,ed_c1_v,ed_c1,co_c1,v_c1,pl_c1,lo_c1,by_c1,nx_c1,la_c1,bl_c1,gq⟩ f w=>bv w0 gq w/\f 3=vp b47 0/\f 8=vi g.1/\f 9=vi ↑v_c1/\Sl gq (is 0) w g_v g.2/\Bx gq (is 1) w b3 [vi g.1,g_v]/\cP gq 4 w v37 O_c2/\Ow gq (is 5) (is 5) w v38 pl_c1/\Ow gq (is 6) (is 6) w v39 lo_c1/\Ow gq (is 7) (is 7) w v40 by_c1/\Ow gq (is 8) (is 8) w v41 nx_c1/\Ow gq (is 9) (is 9) w v42 la_c1/\Ow gq (is 10) (is 10) w v43 bl_c1/\Bx gq (is 12) w b49 [vp b47 0]/\Bx gq (is 11) w b47 [vi g.1,g_v,v37,v38,v39,v40,v41,vi fo_c1,ed_c1_v,v42,v43,vi co_c1,Value.func (.func 77) #[] (List.toArray [vp b49 0])]/\Ow gq (is 17) (is 17) w ed_c1_v ed_c1/\(v_c1:Int)<=(g.1:Int)/\(bs pl_c1 lo_c1 by_c1 nx_c1 fo_c1 ed_c1 la_c1 bl_c1 co_c1=cM g v_c1)) (λ⟨fo_c1,ed_c1_v,ed_c1,co_c1,v_c1,pl_c1,lo_c1,by_c1,nx_c1,la_c1,bl_c1,gq⟩=>Int.toNat ((g.1:Int)-(v_c1:Int))) (0,vn,[],0,0,(List.replicate (Int.toNat g.1) (0:Int)),(List.replicate (Int.toNat g.1) (0:Int)),by_c2,(List.replicate (Int.toNat g.1) (0:Int)),(List.replicate (Int.toNat (g.2.length:Int)) false),(List.replicate (Int.toNat (g.2.length:Int)) (0:Int)),g245) ?_ ?_
   · exact⟨bH.ce ch250,rfl,rfl,rfl,Rg.ce ch250,bx5.ce ch250,o27.ce ch250,o28.ce ch250,o29.ce ch250,o30.ce ch250,o31.ce ch250,o32.ce ch250,o33.ce ch250,bx53,bx251,Ow.nil,by omega,by exact tG hby_c2 (by rw[<-hrz];omega)⟩
   clear Rg bx5 o27 o28 o29 o30 o31 o32 o33 bx53 bx251 bH
   rintro⟨fo_c1,ed_c1_v,ed_c1,co_c1,v_c1,pl_c1,lo_c1,by_c1,nx_c1,la_c1,bl_c1,g254⟩ f252 w253 ⟨bH,zs3_c1,zs8_c1,zs9_c1,Rg,bx5,o27,o28,o29,o30,o31,o32,o33,bx53,bx251,o_ed_c1,hle_v_c1,hal_c1⟩ back3_c1
   have hsi_c1:dS g (bs pl_c1 lo_c1 by_c1 nx_c1 fo_c1 ed_c1 la_c1 bl_c1 co_c1) []:=by rw[hal_c1];exact rQ hm v_c1 (by omega)
   have hl1_c1:(pl_c1.length:Int)=g.1:=hsi_c1.l1
   have hl2_c1:(lo_c1.length:Int)=g.1:=hsi_c1.l2
   have hl3_c1:(by_c1.length:Int)=g.1:=hsi_c1.l3
   have hl4_c1:(nx_c1.length:Int)=g.1:=hsi_c1.l4
   have hl5_c1:(la_c1.length:Int)=g.2.length:=hsi_c1.l5
   have hl6_c1:(bl_c1.length:Int)=g.2.length:=hsi_c1.l6
   obtain⟨hb1_c1,hb2_c1,hb3_c1,hb4_c1⟩:0<=fo_c1/\fo_c1<=g.1/\0<=co_c1/\co_c1+(ed_c1.length:Int)<=(g.2.length:Int):=lD (s:=bs pl_c1 lo_c1 by_c1 nx_c1 fo_c1 ed_c1 la_c1 bl_c1 co_c1) hsi_c1
   refine ab (a8 rfl (lx (bn (m:=↑v_c1) (n:=g.1) zs9_c1 zs8_c1) (ag (ab ?_))))
   by_cases p3_c1:(v_c1:Int)<g.1
   ·
    refine al rfl (dt p3_c1) (av (ab (ar (ab (a8 rfl (mz zs9_c1 (ai (v_c1:Int) (ag (ab (a8 rfl (mz zs3_c1 (lw (vp b47 0) (ao rfl) ?_))))))))))))
    refine lx (ad cF rfl rfl rfl rfl) (lx (af ay rfl bx251 rfl) (mi ↑v_c1 (lx (ae (v:=v38) (i:=↑v_c1) bf rfl rfl o28.flat rfl (by omega) (by omega)) (lx (aq (v:=v38) (i:=↑v_c1) ah rfl o28.flat (by omega) (by omega) (by decide) rfl) (lx (cH (m:=(gI pl_c1 ↑v_c1)) (n:=0) rfl rfl) (ag ?_))))))
    by_cases p5_c1:(gI pl_c1 ↑v_c1)=0
    ·
     refine al rfl (dt p5_c1) (a8 rfl (mz zs3_c1 (mi ↑v_c1 (lo ?_))))
     refine ck (σ:=Int×Value×(List Int)×Int×(List Int)×(List Int)×(List Int)×(List Int)×(List Bool)×(List Int)×aJ) (V:=λ⟨fo_c3,ed_c3_v,ed_c3,co_c3,pl_c3,lo_c3,by_c3,nx_c3,la_c3,bl_c3,gq⟩=>vt []) (S:=λ⟨fo_c3,ed_c3_v,ed_c3,co_c3,pl_c3,lo_c3,by_c3,nx_c3,la_c3,bl_c3,gq⟩ w=>bv w0 gq w/\Sl gq (is 0) w g_v g.2/\Bx gq (is 1) w b3 [vi g.1,g_v]/\cP gq 4 w v37 O_c2/\Ow gq (is 5) (is 5) w v38 pl_c3/\Ow gq (is 6) (is 6) w v39 lo_c3/\Ow gq (is 7) (is 7) w v40 by_c3/\Ow gq (is 8) (is 8) w v41 nx_c3/\Ow gq (is 9) (is 9) w v42 la_c3/\Ow gq (is 10) (is 10) w v43 bl_c3/\Bx gq (is 12) w b49 [vp b47 0]/\Bx gq (is 11) w b47 [vi g.1,g_v,v37,v38,v39,v40,v41,vi fo_c3,ed_c3_v,v42,v43,vi co_c3,Value.func (.func 77) #[] (List.toArray [vp b49 0])]/\Ow gq (is 17) (is 17) w ed_c3_v ed_c3/\((bs pl_c3 lo_c3 by_c3 nx_c3 fo_c3 ed_c3 la_c3 bl_c3 co_c3)=dH g (bs pl_c1 lo_c1 by_c1 nx_c1 fo_c1 ed_c1 la_c1 bl_c1 co_c1) (v_c1:Int))) (b9 (vals:=[vp b47 0,vi ↑v_c1]) Try.func61 oI oz rfl) (mA bH Rg bx5 o27 o28 o29 o30 o31 o32 o33 bx53 bx251 o_ed_c1 hm hO hov_c2 (by omega) ‹_› (by omega) (by omega) ‹_›) ?_
     clear Rg bx5 o27 o28 o29 o30 o31 o32 o33 bx53 bx251 o_ed_c1 bH
     rintro⟨fo_c3,ed_c3_v,ed_c3,co_c3,pl_c3,lo_c3,by_c3,nx_c3,la_c3,bl_c3,g432⟩ w431 ⟨bH,Rg,bx5,o27,o28,o29,o30,o31,o32,o33,bx53,bx251,o_ed_c3,hfj_c3⟩
     refine ag (ak (a8 rfl (lx (aG (m:=↑v_c1) (n:=1) zs9_c1 rfl (by omega)) (mi ((v_c1:Int)+1) (ag ?_)))))
     refine back3_c1 (fo_c3,ed_c3_v,ed_c3,co_c3,v_c1+1,pl_c3,lo_c3,by_c3,nx_c3,la_c3,bl_c3,g432) _ _ ⟨bH,zs3_c1,zs8_c1,rfl,Rg,bx5,o27,o28,o29,o30,o31,o32,o33,bx53,bx251,o_ed_c3,by omega,?_⟩ ?_
     · show bs pl_c3 lo_c3 by_c3 nx_c3 fo_c3 ed_c3 la_c3 bl_c3 co_c3=cM g (v_c1+1)
       exact oC hal_c1 ‹_› ‹_›
     · show Int.toNat ((g.1:Int)-((v_c1+1):Int))<Int.toNat ((g.1:Int)-(v_c1:Int))
       omega
    refine aj rfl (df p5_c1) (av (ak (a8 rfl (lx (aG (m:=↑v_c1) (n:=1) zs9_c1 rfl (by omega)) (mi ((v_c1:Int)+1) (ag ?_))))))
    refine back3_c1 (fo_c1,ed_c1_v,ed_c1,co_c1,v_c1+1,pl_c1,lo_c1,by_c1,nx_c1,la_c1,bl_c1,g254) _ _ ⟨bH,zs3_c1,zs8_c1,rfl,Rg,bx5,o27,o28,o29,o30,o31,o32,o33,bx53,bx251,o_ed_c1,by omega,?_⟩ ?_
    · show bs pl_c1 lo_c1 by_c1 nx_c1 fo_c1 ed_c1 la_c1 bl_c1 co_c1=cM g (v_c1+1)
      exact qr hal_c1 ‹_›
    · show Int.toNat ((g.1:Int)-((v_c1+1):Int))<Int.toNat ((g.1:Int)-(v_c1:Int))
      omega
   refine aj rfl (df p3_c1) (aF rfl (ab (a8 rfl (mz zs3_c1 (ma (vp b47 0) (ag (aQ (vs:=[vp b47 0]) Try.func47 (.tmp rfl .nil) ?_)))))))
   refine⟨vp b47 0,rfl,?_⟩
   refine ma (vp b47 0) (ag (ab ?_))
   have hvv:v_c1=Int.toNat g.1:=by omega
   have hpl:pl_c1=(cM g (Int.toNat g.1)).place:=by rw[<-hvv,<-hal_c1]
   have hby:by_c1=(cM g (Int.toNat g.1)).by_:=by rw[<-hvv,<-hal_c1]
   have h2l:2<=g.2.length:=by omega
   obtain⟨hok1,_⟩:=hok hm ‹_› h2l
   have hbys:∀v,0<=v->v<g.1->gI by_c1 v= -1\/(0<=gI by_c1 v/\gI by_c1 v<2*(g.2.length:Int)):=λv a b=>(hsi_c1.by_ v a b).imp id λq=>q.1
   have hn2:=qj (g:=g) ‹_›
   have hn0:0<g.1:=by omega
   rw[<-hpl] at hok1
   clear hle_e_c2 p3_c2 hle_q_c2 hqz_c2 hbl_c2 p12_c2 hle_v_c1 p3_c1 hl2_c1 hl4_c1 hl5_c1 hl6_c1 hb1_c1 hb2_c1 hb3_c1 hb4_c1 hvv hrz
   refine a8 rfl (lx (ad cZ rfl rfl rfl rfl) (lx (af ah rfl bx5 rfl) (lo (cW (α:=Int) (l:=g.1) (cp:=g.1) g254 (is 19) (is 19) (19,0) rfl (0:Int) bf ah rfl rfl rfl (by omega) (by omega) (by omega) (by omega) ?_))))
   intro g433 w434 v435 ch436 o437 hcap_
   clear hcap_
   refine ma v435 (ag (ab (ab (a8 rfl (mv (vp b47 0) (lw (vp b47 0) (ao rfl) (lx (ad cF rfl rfl rfl rfl) ?_)))))))
   replace bx251:=bx251.cn ch436
   refine lx (af ay rfl bx251 rfl) ?_
   replace o28:=o28.cn ch436
   have len438:=(o28.flat).small
   refine lx (bu bf rfl o28.flat) (mi 0 (ag (ar ?_)))
   refine bc (σ:=Nat×(List Int)×aJ) (λ⟨k,od,gq⟩ f w=>bv w0 gq w/\f 1=vp b3 0/\f 4=vp b47 0/\f 5=v435/\f 37=v38/\f 38=vi (pl_c1.length:Int)/\f 39=vi ↑k/\Sl gq (is 0) w g_v g.2/\Bx gq (is 1) w b3 [vi g.1,g_v]/\cP gq 4 w v37 O_c2/\Ow gq (is 5) (is 5) w v38 pl_c1/\Ow gq (is 6) (is 6) w v39 lo_c1/\Ow gq (is 7) (is 7) w v40 by_c1/\Ow gq (is 8) (is 8) w v41 nx_c1/\Ow gq (is 9) (is 9) w v42 la_c1/\Ow gq (is 10) (is 10) w v43 bl_c1/\Bx gq (is 12) w b49 [vp b47 0]/\Bx gq (is 11) w b47 [vi g.1,g_v,v37,v38,v39,v40,v41,vi fo_c1,ed_c1_v,v42,v43,vi co_c1,Value.func (.func 77) #[] (List.toArray [vp b49 0])]/\Ow gq (is 17) (is 17) w ed_c1_v ed_c1/\Ow gq (is 19) (is 19) w v435 od/\(k:Int)<=((pl_c1.length:Int):Int)/\(lW pl_c1 g.1 od k)) (λ⟨k,od,gq⟩=>Int.toNat (((pl_c1.length:Int):Int)-(k:Int))) (0,(List.replicate (Int.toNat g.1) (0:Int)),g433) ?_ ?_
   · exact⟨bH.cn ch436,rfl,rfl,rfl,rfl,rfl,rfl,Rg.cn ch436,bx5.cn ch436,o27.cn ch436,o28,o29.cn ch436,o30.cn ch436,o31.cn ch436,o32.cn ch436,o33.cn ch436,bx53.cn ch436,bx251,o_ed_c1.cn ch436,o437,by omega,by exact lW.start hn0⟩
   clear Rg bx5 o27 o28 o29 o30 o31 o32 o33 bx53 bx251 o_ed_c1 o437 bH
   rintro⟨k,od,g441⟩ f439 w440 ⟨bH,zs1,zs4,zs5,zs37,zs38,zs39,Rg,bx5,o27,o28,o29,o30,o31,o32,o33,bx53,bx251,o_ed_c1,o437,hle_k,ho⟩ back10
   have hol:=ho.lo
   refine ab (a8 rfl (lx (bn (m:=↑k) (n:=(pl_c1.length:Int)) zs39 zs38) (ag (ab ?_))))
   by_cases p10:(k:Int)<(pl_c1.length:Int)
   ·
    refine al rfl (dt p10) ?_
    obtain⟨hp1,hp2⟩:=hok1 (k:Int) (fa.2 ⟨by omega,by omega⟩)
    refine av (ab (ar (ab (a8 rfl (mz zs39 (lx (ae (v:=v38) (i:=↑k) bf rfl zs37 o28.flat zs39 (by omega) (by omega)) (lx (aq (v:=v38) (i:=↑k) ah rfl o28.flat (by omega) (by omega) (by decide) rfl) (ai (k:Int) (ai (gI pl_c1 ↑k) (ag (a8 rfl ?_)))))))))))
    refine mz zs5 (mi (gI pl_c1 ↑k) (lx (dm (m:=(gI pl_c1 ↑k)) (n:=1) rfl rfl (by omega)) (mi ↑k (lx (ae (v:=v435) (i:=(gI pl_c1 ↑k)-1) bf rfl rfl o437.flat rfl (by omega) (by omega)) (lo (aD (i:=(gI pl_c1 ↑k)-1) (k:Int) ah rfl rfl o437 (by omega) (by omega) rfl ?_))))))
    intro w442 ch443 bx444
    clear o437
    refine ag (ak (a8 rfl (lx (aG (m:=↑k) (n:=1) zs39 rfl (by omega)) (mi ((k:Int)+1) (ag ?_)))))
    refine back10 (k+1,(List.set od (Int.toNat ((gI pl_c1 ↑k)-1)) (k:Int)),g441) _ _ ⟨bH.ce ch443,zs1,zs4,zs5,zs37,zs38,rfl,Rg.ce ch443,bx5.ce ch443,o27.ce ch443,o28.ce ch443,o29.ce ch443,o30.ce ch443,o31.ce ch443,o32.ce ch443,o33.ce ch443,bx53.ce ch443,bx251.ce ch443,o_ed_c1.ce ch443,bx444,by omega,?_⟩ ?_
    · show lW pl_c1 g.1 (List.set od (Int.toNat ((gI pl_c1 ↑k)-1)) (k:Int)) (k+1)
      exact ho.next (by omega)
    · show Int.toNat (((pl_c1.length:Int):Int)-((k+1):Int))<Int.toNat (((pl_c1.length:Int):Int)-(k:Int))
      omega
   refine aj rfl (df p10) (aF rfl (ab (a8 rfl (lx (ad cZ rfl rfl zs1 rfl) (lx (af ah rfl bx5 rfl) (lo (cW (α:=Bool) (l:=g.1) (cp:=g.1) g441 (is 20) (is 20) (20,0) rfl false fk bX rfl rfl rfl (by omega) (by omega) (by omega) (by omega) ?_)))))))
   intro g445 w446 v447 ch448 o449 hcap_
   clear hcap_
   refine ma v447 (ag (ab ?_))
   clear bx5
   refine a8 rfl (ma vn (ag (ab (ab (a8 rfl (mz zs5 ?_))))))
   replace o437:=o437.cn ch448
   have len450:=(o437.flat).small
   refine lx (bu bf rfl o437.flat) (mi 0 (ag (ar ?_)))
   refine bc (σ:=Value×gC×Nat×(List Bool)×aJ) (λ⟨ea1_v,ea1,j,us1,gq⟩ f w=>bv w0 gq w/\f 4=vp b47 0/\f 8=v447/\f 9=ea1_v/\f 53=v435/\f 54=vi (od.length:Int)/\f 55=vi ↑j/\Sl gq (is 0) w g_v g.2/\cP gq 4 w v37 O_c2/\Ow gq (is 5) (is 5) w v38 pl_c1/\Ow gq (is 6) (is 6) w v39 lo_c1/\Ow gq (is 7) (is 7) w v40 by_c1/\Ow gq (is 8) (is 8) w v41 nx_c1/\Ow gq (is 9) (is 9) w v42 la_c1/\Ow gq (is 10) (is 10) w v43 bl_c1/\Bx gq (is 12) w b49 [vp b47 0]/\Bx gq (is 11) w b47 [vi g.1,g_v,v37,v38,v39,v40,v41,vi fo_c1,ed_c1_v,v42,v43,vi co_c1,Value.func (.func 77) #[] (List.toArray [vp b49 0])]/\Ow gq (is 17) (is 17) w ed_c1_v ed_c1/\Ow gq (is 19) (is 19) w v435 od/\Ow gq (is 20) (is 20) w v447 us1/\cP gq 24 w ea1_v ea1/\(j:Int)<=((od.length:Int):Int)/\(ka g pl_c1 by_c1 ((gw g).getD []) (eT O_c2 (List.drop j od)) us1 ea1)) (λ⟨ea1_v,ea1,j,us1,gq⟩=>Int.toNat (((od.length:Int):Int)-(j:Int))) (vn,[],0,(List.replicate (Int.toNat g.1) false),g445) ?_ ?_
   · exact⟨bH.cn ch448,zs4,rfl,rfl,rfl,rfl,rfl,Rg.cn ch448,o27.cn ch448,o28.cn ch448,o29.cn ch448,o30.cn ch448,o31.cn ch448,o32.cn ch448,o33.cn ch448,bx53.cn ch448,bx251.cn ch448,o_ed_c1.cn ch448,o437,o449,cP.nil,by omega,by exact rP hm hok ‹_› h2l hpl hby hO ho (by omega)⟩
   clear Rg o27 o28 o29 o30 o31 o32 o33 bx53 bx251 o_ed_c1 o437 o449 bH
   rintro⟨ea1_v,ea1,j,us1,g453⟩ f451 w452 ⟨bH,zs4,zs8,zs9,zs53,zs54,zs55,Rg,o27,o28,o29,o30,o31,o32,o33,bx53,bx251,o_ed_c1,o437,o449,o_ea1,hle_j,he⟩ back17
   have hel:=he.len
   have hef:=he.few
   refine ab (a8 rfl (lx (bn (m:=↑j) (n:=(od.length:Int)) zs55 zs54) (ag (ab ?_))))
   by_cases p17:(j:Int)<(od.length:Int)
   ·
    refine al rfl (dt p17) ?_
    obtain⟨hv0,hv1⟩:=ho.rg _ (bP (xs:=od) (i:=↑j) (by omega) (by omega))
    refine av (ab (ar (ab (a8 rfl (lx (ae (v:=v435) (i:=↑j) bf rfl zs53 o437.flat zs55 (by omega) (by omega)) (lx (aq (v:=v435) (i:=↑j) ah rfl o437.flat (by omega) (by omega) (by decide) rfl) (ai (gI od ↑j) (ag (ab (a8 rfl (mz zs4 (lw (vp b47 0) (ao rfl) ?_))))))))))))
    refine lx (ad cF rfl rfl rfl rfl) (lx (af bW rfl bx251 rfl) (mi (gI od ↑j) (lx (ae (v:=v37) (i:=(gI od ↑j)) dB rfl rfl o27.sl rfl (by omega) (by omega)) ?_)))
    obtain⟨v454,cel455,r456⟩:=bR (r:=(gI od ↑j)) o27 (by omega) (by omega)
    refine lx (bB ay rfl cel455) ?_
    have len457:=(r456.row_sl).small
    refine lx (bu bf rfl r456.row_sl) (mi 0 (ag (ar ?_)))
    refine bc (σ:=Nat×Value×gC×(List Bool)×aJ) (λ⟨i,ea2_v,ea2,us2,gq⟩ f w=>bv w0 gq w/\f 4=vp b47 0/\f 8=v447/\f 9=ea2_v/\f 11=vi (gI od ↑j)/\f 53=v435/\f 54=vi (od.length:Int)/\f 55=vi ↑j/\f 65=v454/\f 66=vi (List.length (gI O_c2 (gI od ↑j)):Int)/\f 67=vi ↑i/\Sl gq (is 0) w g_v g.2/\cP gq 4 w v37 O_c2/\Ow gq (is 5) (is 5) w v38 pl_c1/\Ow gq (is 6) (is 6) w v39 lo_c1/\Ow gq (is 7) (is 7) w v40 by_c1/\Ow gq (is 8) (is 8) w v41 nx_c1/\Ow gq (is 9) (is 9) w v42 la_c1/\Ow gq (is 10) (is 10) w v43 bl_c1/\Bx gq (is 12) w b49 [vp b47 0]/\Bx gq (is 11) w b47 [vi g.1,g_v,v37,v38,v39,v40,v41,vi fo_c1,ed_c1_v,v42,v43,vi co_c1,Value.func (.func 77) #[] (List.toArray [vp b49 0])]/\Ow gq (is 17) (is 17) w ed_c1_v ed_c1/\Ow gq (is 19) (is 19) w v435 od/\Ow gq (is 20) (is 20) w v447 us2/\Ow gq (row 4 (Int.toNat (gI od ↑j)+1)) (row 4 (Int.toNat (gI od ↑j)+1)) w v454 (gI O_c2 (gI od ↑j))/\cP gq 24 w ea2_v ea2/\(i:Int)<=((List.length (gI O_c2 (gI od ↑j)):Int):Int)/\(ka g pl_c1 by_c1 ((gw g).getD []) (eY O_c2 od j i) us2 ea2)) (λ⟨i,ea2_v,ea2,us2,gq⟩=>Int.toNat (((List.length (gI O_c2 (gI od ↑j)):Int):Int)-(i:Int))) (0,ea1_v,ea1,us1,g453) ?_ ?_
    · exact⟨bH,zs4,zs8,zs9,rfl,zs53,zs54,zs55,rfl,rfl,rfl,Rg,o27,o28,o29,o30,o31,o32,o33,bx53,bx251,o_ed_c1,o437,o449,r456,o_ea1,by omega,by exact he.row ‹_›⟩
    clear Rg o27 o28 o29 o30 o31 o32 o33 bx53 bx251 o_ed_c1 o437 o449 o_ea1 cel455 r456 bH
    rintro⟨i,ea2_v,ea2,us2,g460⟩ f458 w459 ⟨bH,zs4,zs8,zs9,zs11,zs53,zs54,zs55,zs65,zs66,zs67,Rg,o27,o28,o29,o30,o31,o32,o33,bx53,bx251,o_ed_c1,o437,o449,r456,o_ea2,hle_i,hr⟩ back20
    have hel:=hr.len
    have hef:=hr.few
    refine ab (a8 rfl (lx (bn (m:=↑i) (n:=(List.length (gI O_c2 (gI od ↑j)):Int)) zs67 zs66) (ag (ab ?_))))
    by_cases p20:(i:Int)<(List.length (gI O_c2 (gI od ↑j)):Int)
    ·
     refine al rfl (dt p20) ?_
     obtain⟨hh0,hh1⟩:=qH (i:=↑i) hO hv0 hv1 (by omega) (by omega)
     have hwin:=dM hm hh0 hh1
     unfold b6 at hwin
     obtain⟨hwin0,hwin1⟩:=hwin
     refine av (ab (ar (ab (a8 rfl (lx (ae (v:=v454) (i:=↑i) bf rfl zs65 r456.row_sl zs67 (by omega) (by omega)) (lx (aq (v:=v454) (i:=↑i) ah rfl r456.row_sl (by omega) (by omega) (by decide) rfl) (ai (gI (gI O_c2 (gI od ↑j)) (i:Int)) (ag (ab (a8 rfl (mz zs4 (mi (gI (gI O_c2 (gI od ↑j)) (i:Int)) ?_))))))))))))
     refine lo (cv (b9 (vals:=[vp b47 0,vi (gI (gI O_c2 (gI od ↑j)) (i:Int))]) Try.func48 gf gr rfl) (aC Try.func48 rfl nq (ab (a8 rfl (ai 0 (ag (ab (a8 rfl (mv (vp b47 0) (lw (vp b47 0) (ao rfl) (lx (ad cF rfl rfl rfl rfl) (lx (ad cZ rfl rfl rfl rfl) ?_))))))))))))
     refine lx (af bC rfl bx251 rfl) (mi (gI (gI O_c2 (gI od ↑j)) (i:Int)) (lx (fe (m:=(gI (gI O_c2 (gI od ↑j)) (i:Int))) (n:=2) rfl rfl (by omega) (by omega) (by omega)) (mi (gI (gI O_c2 (gI od ↑j)) (i:Int)) (lx (jT (m:=(gI (gI O_c2 (gI od ↑j)) (i:Int))) (n:=2) rfl rfl (by omega) (by omega)) (lx (dm (m:=1) (n:=(gI (gI O_c2 (gI od ↑j)) (i:Int))%2) rfl rfl (by omega)) (lx (ae (v:=g_v) (i:=(gI (gI O_c2 (gI od ↑j)) (i:Int))/2) dD rfl rfl Rg rfl (by omega) (by omega)) (lx (bM (i:=1-((gI (gI O_c2 (gI od ↑j)) (i:Int))%2)) dg rfl rfl rfl (by omega) (by omega) (Nat.mul_one _)) ?_)))))))
     refine lx (cw (v:=g_v) (i:=(gI (gI O_c2 (gI od ↑j)) (i:Int))/2) ah rfl Rg (by omega) (by omega) (show Int.toNat (1-((gI (gI O_c2 (gI od ↑j)) (i:Int))%2))<2 by omega) (fg _ (by omega) (by omega))) ?_
     obtain⟨w_c12,hn_w_c12⟩:∃q_:Int,pI (gI g.2 ((gI (gI O_c2 (gI od ↑j)) (i:Int))/2)) (1-((gI (gI O_c2 (gI od ↑j)) (i:Int))%2))=q_:=⟨_,rfl⟩
     refine lw (vi w_c12) (c7 (congrArg (Value.int .i64) hn_w_c12)) (ag (aQ (vs:=[vi w_c12]) Try.func48 (.tmp rfl .nil) ?_))
     refine⟨vi w_c12,rfl,?_⟩
     refine ai w_c12 (ag (ab (ab (cq g460 rfl iU (by kernel_rfl) ?_))))
     intro w462 ch461
     refine qz zs4 (qv (vp b47 0) (λw' hw'=>ao rfl) (qx (λw' hw'=>ad cF rfl rfl rfl rfl) ?_))
     replace bx251:=bx251.cn ch461
     refine qx (λw' hw'=>af ay rfl (bx251.bel hw') rfl) (qm (vi w_c12) ?_)
     replace o30:=o30.cn ch461
     refine qx (λw' hw'=>ae (v:=v40) (i:=w_c12) bf rfl rfl (o30.flat.bel hw') rfl (by omega) (by omega)) (qx (λw' hw'=>aq (v:=v40) (i:=w_c12) ah rfl (o30.flat.bel hw') (by omega) (by omega) (by decide) rfl) (qm (vi (gI (gI O_c2 (gI od ↑j)) (i:Int))) (qx (λw' hw'=>cH (m:=(gI by_c1 w_c12)) (n:=(gI (gI O_c2 (gI od ↑j)) (i:Int))) rfl rfl) (qm (vb (decide ((gI by_c1 w_c12)=(gI (gI O_c2 (gI od ↑j)) (i:Int))))) ?_))))
     by_cases q83:(gI by_c1 w_c12)=(gI (gI O_c2 (gI od ↑j)) (i:Int))
     ·
      refine aL (wn (dt q83)) (aL (wn (dt q83)) (aL (wn (dt q83)) (aL (wn (dt q83)) (aL (wn (dt q83)) (aL (wn (dt q83)) (aL (wn (dt q83)) (aL (wn (dt q83)) (aL (wn (dt q83)) (aL (wn (dt q83)) ?_)))))))))
      refine aL (wn (dt q83)) (aL (wn (dt q83)) (aL (wn (dt q83)) (aL (wn (dt q83)) (aL (wn (dt q83)) (qv (vb true) (λw' hw'=>b5 rfl (dt q83) rfl) (d8 ?_))))))
      intro w463 hc464
      replace hc464:=aS hc464 g460
      refine al rfl rfl (aF rfl (a8 rfl (lx (aG (m:=↑i) (n:=1) zs67 rfl (by omega)) (mi ((i:Int)+1) (ag ?_)))))
      replace bH:=bH.cn ch461
      refine back20 (i+1,ea2_v,ea2,us2,g460) _ _ ⟨bH.cn hc464,zs4,zs8,zs9,zs11,zs53,zs54,zs55,zs65,zs66,rfl,(Rg.cn ch461).cn hc464,(o27.cn ch461).cn hc464,(o28.cn ch461).cn hc464,(o29.cn ch461).cn hc464,o30.cn hc464,(o31.cn ch461).cn hc464,(o32.cn ch461).cn hc464,(o33.cn ch461).cn hc464,(bx53.cn ch461).cn hc464,bx251.cn hc464,(o_ed_c1.cn ch461).cn hc464,(o437.cn ch461).cn hc464,(o449.cn ch461).cn hc464,(r456.cn ch461).cn hc464,(o_ea2.cn ch461).cn hc464,by omega,?_⟩ ?_
      · show ka g pl_c1 by_c1 ((gw g).getD []) (eY O_c2 od j (i+1)) us2 ea2
        exact(hr.one ‹_›).skip hn_w_c12 (.inl ‹_›)
      · show Int.toNat (((List.length (gI O_c2 (gI od ↑j)):Int):Int)-((i+1):Int))<Int.toNat (((List.length (gI O_c2 (gI od ↑j)):Int):Int)-(i:Int))
        omega
     refine bt (v:=vp b47 0) (wy (df q83)) (λw' hw'=>au zs4) (bt (v:=vp b47 0) (wy (df q83)) (λw' hw'=>ao rfl) (bt (v:=vp b47 3) (wy (df q83)) (λw' hw'=>ad cF rfl rfl rfl rfl) (bt (v:=v38) (wy (df q83)) (λw' hw'=>af ay rfl (bx251.bel hw') rfl) (bt (v:=vi w_c12) (wy (df q83)) (λw' hw'=>au rfl) ?_))))
     replace o28:=o28.cn ch461
     refine bt (v:=Value.pointer (some (aZ v38 1 (Int.toNat w_c12)))) (wy (df q83)) (λw' hw'=>ae (α:=Int) (xs:=pl_c1) (v:=v38) (i:=w_c12) bf rfl rfl (o28.flat.bel hw') rfl (by omega) (by omega)) (bt (v:=vi (gI pl_c1 w_c12)) (wy (df q83)) (λw' hw'=>aq (α:=Int) (xs:=pl_c1) (v:=v38) (i:=w_c12) ah rfl (o28.flat.bel hw') (by omega) (by omega) (by decide) rfl) (bt (v:=vp b47 0) (wy (df q83)) (λw' hw'=>au zs4) (bt (v:=vp b47 0) (wy (df q83)) (λw' hw'=>ao rfl) ?_)))
     refine bt (v:=vp b47 3) (wy (df q83)) (λw' hw'=>ad cF rfl rfl rfl rfl) (bt (v:=v38) (wy (df q83)) (λw' hw'=>af ay rfl (bx251.bel hw') rfl) (bt (v:=vi (gI od ↑j)) (wy (df q83)) (λw' hw'=>au zs11) (bt (v:=Value.pointer (some (aZ v38 1 (Int.toNat (gI od ↑j))))) (wy (df q83)) (λw' hw'=>ae (α:=Int) (xs:=pl_c1) (v:=v38) (i:=(gI od ↑j)) bf rfl rfl (o28.flat.bel hw') rfl (by omega) (by omega)) ?_)))
     refine bt (v:=vi (gI pl_c1 (gI od ↑j))) (wy (df q83)) (λw' hw'=>aq (α:=Int) (xs:=pl_c1) (v:=v38) (i:=(gI od ↑j)) ah rfl (o28.flat.bel hw') (by omega) (by omega) (by decide) rfl) (bt (v:=vb (decide ((gI pl_c1 w_c12)<(gI pl_c1 (gI od ↑j))))) (wy (df q83)) (λw' hw'=>bn (m:=(gI pl_c1 w_c12)) (n:=(gI pl_c1 (gI od ↑j))) rfl rfl) (qv (vb (decide ((gI pl_c1 w_c12)<(gI pl_c1 (gI od ↑j))))) (λw' hw'=>aY rfl (df q83) rfl) (d8 ?_)))
     intro w465 hc466
     replace hc466:=aS hc466 g460
     by_cases p23:(gI pl_c1 w_c12)<(gI pl_c1 (gI od ↑j))
     ·
      refine al rfl (dt p23) (aF rfl (a8 rfl (lx (aG (m:=↑i) (n:=1) zs67 rfl (by omega)) (mi ((i:Int)+1) (ag ?_)))))
      replace bH:=bH.cn ch461
      refine back20 (i+1,ea2_v,ea2,us2,g460) _ _ ⟨bH.cn hc466,zs4,zs8,zs9,zs11,zs53,zs54,zs55,zs65,zs66,rfl,(Rg.cn ch461).cn hc466,(o27.cn ch461).cn hc466,o28.cn hc466,(o29.cn ch461).cn hc466,o30.cn hc466,(o31.cn ch461).cn hc466,(o32.cn ch461).cn hc466,(o33.cn ch461).cn hc466,(bx53.cn ch461).cn hc466,bx251.cn hc466,(o_ed_c1.cn ch461).cn hc466,(o437.cn ch461).cn hc466,(o449.cn ch461).cn hc466,(r456.cn ch461).cn hc466,(o_ea2.cn ch461).cn hc466,by omega,?_⟩ ?_
      · show ka g pl_c1 by_c1 ((gw g).getD []) (eY O_c2 od j (i+1)) us2 ea2
        exact(hr.one ‹_›).skip hn_w_c12 (.inr ‹_›)
      · show Int.toNat (((List.length (gI O_c2 (gI od ↑j)):Int):Int)-((i+1):Int))<Int.toNat (((List.length (gI O_c2 (gI od ↑j)):Int):Int)-(i:Int))
        omega
     refine aj rfl (df p23) (av (ab (a8 rfl (mz zs8 (mz zs11 ?_)))))
     replace o449:=(o449.cn ch461).cn hc466
     refine lx (ae (v:=v447) (i:=(gI od ↑j)) fk rfl rfl o449.flat rfl (by omega) (by omega)) (lo (aD (i:=(gI od ↑j)) true bX rfl rfl o449 (by omega) (by omega) rfl ?_))
     intro w467 ch468 bx469
     clear o449
     refine ag (ab (a8 rfl (mi (gI (gI O_c2 (gI od ↑j)) (i:Int)) (lo (aM (α:=Int) g460 (is 21) (is 21) (21,0) rfl [(gI (gI O_c2 (gI od ↑j)) (i:Int))] bf ah (by decide) (by decide) (vs:=[(0,vi (gI (gI O_c2 (gI od ↑j)) (i:Int)))]) rfl rfl (.cons rfl .nil) ?_)))))
     intro g470 w471 v472 ch473 o474
     refine ma v472 (ag (ab (ar ?_)))
     refine bc (σ:=Int×Value×(List Int)×(List Bool)×aJ) (λ⟨ww,er_v,er,us3,gq⟩ f w=>bv w0 gq w/\f 4=vp b47 0/\f 8=v447/\f 9=ea2_v/\f 11=vi (gI od ↑j)/\f 14=vi ww/\f 15=er_v/\f 53=v435/\f 54=vi (od.length:Int)/\f 55=vi ↑j/\f 65=v454/\f 66=vi (List.length (gI O_c2 (gI od ↑j)):Int)/\f 67=vi ↑i/\Sl gq (is 0) w g_v g.2/\cP gq 4 w v37 O_c2/\Ow gq (is 5) (is 5) w v38 pl_c1/\Ow gq (is 6) (is 6) w v39 lo_c1/\Ow gq (is 7) (is 7) w v40 by_c1/\Ow gq (is 8) (is 8) w v41 nx_c1/\Ow gq (is 9) (is 9) w v42 la_c1/\Ow gq (is 10) (is 10) w v43 bl_c1/\Bx gq (is 12) w b49 [vp b47 0]/\Bx gq (is 11) w b47 [vi g.1,g_v,v37,v38,v39,v40,v41,vi fo_c1,ed_c1_v,v42,v43,vi co_c1,Value.func (.func 77) #[] (List.toArray [vp b49 0])]/\Ow gq (is 17) (is 17) w ed_c1_v ed_c1/\Ow gq (is 19) (is 19) w v435 od/\Ow gq (row 4 (Int.toNat (gI od ↑j)+1)) (row 4 (Int.toNat (gI od ↑j)+1)) w v454 (gI O_c2 (gI od ↑j))/\cP gq 24 w ea2_v ea2/\Ow gq (is 20) (is 20) w v447 us3/\Ow gq (is 21) (is 21) w er_v er/\(rU g pl_c1 by_c1 ((gw g).getD []) (eY O_c2 od j (i+1)) ea2 us3 ww er)) (λ⟨ww,er_v,er,us3,gq⟩=>us3.count false) (w_c12,v472,[(gI (gI O_c2 (gI od ↑j)) (i:Int))],(List.set us2 (Int.toNat (gI od ↑j)) true),g470) ?_ ?_
     have C476:=cg [20] (hc466.n.seq ((ch468.l rfl).seq ch473.n))
     have C475:=ch461.n.seq C476
     · exact⟨bH.ca C475,zs4,zs8,zs9,zs11,rfl,rfl,zs53,zs54,zs55,zs65,zs66,zs67,Rg.ca C475,o27.ca C475,o28.ca C476,o29.ca C475,o30.ca C476,o31.ca C475,o32.ca C475,o33.ca C475,bx53.ca C475,bx251.ca C476,o_ed_c1.ca C475,o437.ca C475,r456.chg C475 (mj rfl) (mj rfl),o_ea2.ca C475,bx469.cn ch473,o474,by exact(hr.one ‹_›).up hn_w_c12 (λc=>c.elim ‹_› ‹_›) (by omega) (by omega)⟩
     clear Rg o27 o28 o29 o30 o31 o32 o33 bx53 bx251 o_ed_c1 o437 r456 o_ea2 bx469 o474 bH
     rintro⟨ww,er_v,er,us3,g479⟩ f477 w478 ⟨bH,zs4,zs8,zs9,zs11,zs14,zs15,zs53,zs54,zs55,zs65,zs66,zs67,Rg,o27,o28,o29,o30,o31,o32,o33,bx53,bx251,o_ed_c1,o437,r456,o_ea2,bx469,o_er,hu⟩ back26
     have hul:=hu.len
     have hw0:=hu.w0
     have hw1:=hu.w1
     have hush:=hu.sh
     have huf:=hu.few
     refine ab (ab (a8 rfl (mz zs8 (mz zs14 (lx (ae (v:=v447) (i:=ww) fk rfl rfl bx469.flat rfl (by omega) (by omega)) (lx (aq (v:=v447) (i:=ww) bX rfl bx469.flat (by omega) (by omega) (by decide) rfl) (lx (ek (b:=(gI us3 ww)) rfl) (ag ?_))))))))
     by_cases p26:(gI us3 ww)=true
     ·
      refine aj rfl (congrArg Bool.not p26) (aF rfl (a8 rfl (mz zs9 (mz zs15 (lo ?_)))))
      obtain⟨c480,hv481⟩:=ky (u:=er_v) (bQ o_er.flat)
      refine aM (α:=Vc) g479 (is 23) (is 23) (23,0) rfl [c480] dB ay (by decide) (by decide) (vs:=[(0,er_v)]) rfl rfl (.cons (iC hv481 (cd o_er.flat)) .nil) ?_
      intro g482 w483 v484 ch485 o486
      refine lo ?_
      replace o_ea2:=o_ea2.cn ch485
      replace o_er:=o_er.cn ch485
      refine fy hv481 (α:=Int) (xss:=ea2) (i:=24) (γ:=g482) dB ay rfl rfl rfl o_ea2 (o486.flat) o_er rfl (by decide) (by omega) ?_
      intro g487 w488 v489 ch490 o491 r492
      clear o_ea2 o_er
      refine ma v489 (ag (ak ?_))
      clear o486 r492
      refine a8 rfl (lx (aG (m:=↑i) (n:=1) zs67 rfl (by omega)) (mi ((i:Int)+1) (ag ?_)))
      replace bH:=bH.cn ch485
      refine back20 (i+1,v489,(ea2++[er]),us3,g487) _ _ ⟨bH.chg ch490 (cB rfl rfl),zs4,zs8,rfl,zs11,zs53,zs54,zs55,zs65,zs66,rfl,(Rg.cn ch485).chg ch490 (cB rfl rfl),(o27.cn ch485).chg ch490 (cB rfl rfl),(o28.cn ch485).chg ch490 (cB rfl rfl) (cB rfl rfl),(o29.cn ch485).chg ch490 (cB rfl rfl) (cB rfl rfl),(o30.cn ch485).chg ch490 (cB rfl rfl) (cB rfl rfl),(o31.cn ch485).chg ch490 (cB rfl rfl) (cB rfl rfl),(o32.cn ch485).chg ch490 (cB rfl rfl) (cB rfl rfl),(o33.cn ch485).chg ch490 (cB rfl rfl) (cB rfl rfl),(bx53.cn ch485).chg ch490 (cB rfl rfl),(bx251.cn ch485).chg ch490 (cB rfl rfl),(o_ed_c1.cn ch485).chg ch490 (cB rfl rfl) (cB rfl rfl),(o437.cn ch485).chg ch490 (cB rfl rfl) (cB rfl rfl),(bx469.cn ch485).chg ch490 (cB rfl rfl) (cB rfl rfl),(r456.cn ch485).chg ch490 (nn rfl rfl) (nn rfl rfl),o491,by omega,?_⟩ ?_
      · show ka g pl_c1 by_c1 ((gw g).getD []) (eY O_c2 od j (i+1)) us3 (ea2++[er])
        exact hu.done ‹_›
      · show Int.toNat (((List.length (gI O_c2 (gI od ↑j)):Int):Int)-((i+1):Int))<Int.toNat (((List.length (gI O_c2 (gI od ↑j)):Int):Int)-(i:Int))
        omega
     refine al rfl (congrArg Bool.not (Bool.eq_false_iff.2 p26)) ?_
     have hbp:=hu.byp ‹_›
     obtain⟨hb0,hb1⟩:=(hbys ww hw0 hw1).resolve_left (by omega)
     obtain⟨⟨ht0,ht1⟩,ht2,_,_⟩:=dl (g:=g) (h:=gI by_c1 ww) ⟨hb0,hb1⟩
     have hwt:=dM hm ht0 ht1
     unfold b6 at hwt
     obtain⟨hwt0,hwt1⟩:=hwt
     refine av (ab (ar (ab (a8 rfl (mz zs8 (mz zs14 (lx (ae (v:=v447) (i:=ww) fk rfl rfl bx469.flat rfl (by omega) (by omega)) (lo (aD (i:=ww) true bX rfl rfl bx469 (by omega) (by omega) rfl ?_)))))))))
     intro w493 ch494 bx495
     clear bx469
     refine ag (a8 rfl (mz zs15 (mz zs4 (lw (vp b47 0) (ao rfl) (lx (ad cF rfl rfl rfl rfl) ?_)))))
     replace bx251:=bx251.ce ch494
     refine lx (af ay rfl bx251 rfl) (mz zs14 ?_)
     replace o30:=o30.ce ch494
     refine lx (ae (v:=v40) (i:=ww) bf rfl rfl o30.flat rfl (by omega) (by omega)) (lx (aq (v:=v40) (i:=ww) ah rfl o30.flat (by omega) (by omega) (by decide) rfl) (lw (vi (dN (gI by_c1 ww))) (lX (op:=.xor) (m:=(gI by_c1 ww)) (n:=1) rfl rfl (i9 _ (by omega) (by omega))) (lo (aM (α:=Int) g479 (is 22) (is 22) (22,0) rfl [dN (gI by_c1 ww)] bf ah (by decide) (by decide) (vs:=[(0,vi (dN (gI by_c1 ww)))]) rfl rfl (.cons rfl .nil) ?_))))
     intro g496 w497 v498 ch499 o500
     refine lo ?_
     replace o_er:=(o_er.ce ch494).cn ch499
     refine bD (α:=Int) (xs:=er) (ys:=([dN (gI by_c1 ww)])) g496 (J:=is 21) (S:=is 21) (21,0) rfl bf ah (by decide) rfl rfl rfl o_er o500.flat (by decide) (by(simp;omega)) ?_
     intro g501 w502 v503 ch504 o505
     clear o_er
     refine ma v503 (ag (ak ?_))
     clear o500
     refine a8 rfl (mz zs4 (mz zs4 (lw (vp b47 0) (ao rfl) (lx (ad cF rfl rfl rfl rfl) ?_))))
     replace bx251:=(bx251.cn ch499).ce ch504
     refine lx (af ay rfl bx251 rfl) (mz zs14 ?_)
     replace o30:=(o30.cn ch499).ce ch504
     refine lx (ae (v:=v40) (i:=ww) bf rfl rfl o30.flat rfl (by omega) (by omega)) (lx (aq (v:=v40) (i:=ww) ah rfl o30.flat (by omega) (by omega) (by decide) rfl) (lw (vi (dN (gI by_c1 ww))) (lX (op:=.xor) (m:=(gI by_c1 ww)) (n:=1) rfl rfl (i9 _ (by omega) (by omega))) (lo (cv (b9 (vals:=[vp b47 0,vi (dN (gI by_c1 ww))]) Try.func48 gf gr rfl) (aC Try.func48 rfl nq ?_)))))
     have C506:=cg [20,21] ((ch494.l rfl).seq (ch499.n.seq (ch504.l rfl)))
     replace Rg:=Rg.ca C506
     replace o27:=o27.ca C506
     replace o28:=o28.ca C506
     replace o29:=o29.ca C506
     replace o31:=o31.ca C506
     replace o_ed_c1:=o_ed_c1.ca C506
     replace o32:=o32.ca C506
     replace o33:=o33.ca C506
     refine ab (a8 rfl (ai 0 (ag (ab (a8 rfl (mv (vp b47 0) (lw (vp b47 0) (ao rfl) (lx (ad cF rfl rfl rfl rfl) (lx (ad cZ rfl rfl rfl rfl) (lx (af bC rfl bx251 rfl) (mi (dN (gI by_c1 ww)) (lx (fe (m:=dN (gI by_c1 ww)) (n:=2) rfl rfl (by omega) (by omega) (by omega)) ?_))))))))))))
     refine mi (dN (gI by_c1 ww)) (lx (jT (m:=dN (gI by_c1 ww)) (n:=2) rfl rfl (by omega) (by omega)) (lx (dm (m:=1) (n:=(dN (gI by_c1 ww))%2) rfl rfl (by omega)) (lx (ae (v:=g_v) (i:=(dN (gI by_c1 ww))/2) dD rfl rfl Rg rfl (by omega) (by omega)) (lx (bM (i:=1-((dN (gI by_c1 ww))%2)) dg rfl rfl rfl (by omega) (by omega) (Nat.mul_one _)) (lx (cw (v:=g_v) (i:=(dN (gI by_c1 ww))/2) ah rfl Rg (by omega) (by omega) (show Int.toNat (1-((dN (gI by_c1 ww))%2))<2 by omega) (fg _ (by omega) (by omega))) ?_)))))
     obtain⟨w_c13,hn_w_c13⟩:∃q_:Int,pI (gI g.2 ((dN (gI by_c1 ww))/2)) (1-((dN (gI by_c1 ww))%2))=q_:=⟨_,rfl⟩
     refine lw (vi w_c13) (c7 (congrArg (Value.int .i64) hn_w_c13)) (ag (aQ (vs:=[vi w_c13]) Try.func48 (.tmp rfl .nil) ?_))
     refine⟨vi w_c13,rfl,?_⟩
     refine ai w_c13 (ag ?_)
     refine back26 (w_c13,v503,(er++[dN (gI by_c1 ww)]),(List.set us3 (Int.toNat ww) true),g501) _ _ ⟨bH.ca C506,zs4,zs8,zs9,zs11,rfl,rfl,zs53,zs54,zs55,zs65,zs66,zs67,Rg,o27,o28,o29,o30,o31,o32,o33,bx53.ca C506,bx251,o_ed_c1,o437.ca C506,r456.chg C506 (mj rfl) (mj rfl),o_ea2.ca C506,(bx495.cn ch499).ce ch504,o505,?_⟩ ?_
     · show rU g pl_c1 by_c1 ((gw g).getD []) (eY O_c2 od j (i+1)) ea2 (List.set us3 (Int.toNat ww) true) w_c13 (er++[dN (gI by_c1 ww)])
       exact(hu.next ‹_› rfl hn_w_c13 (by omega) (by omega)).1
     · show(List.set us3 (Int.toNat ww) true).count false<us3.count false
       exact(hu.next ‹_› rfl hn_w_c13 (by omega) (by omega)).2
    refine aj rfl (df p20) (aF rfl (ak ?_))
    clear r456
    refine a8 rfl (lx (aG (m:=↑j) (n:=1) zs55 rfl (by omega)) (mi ((j:Int)+1) (ag ?_)))
    refine back17 (ea2_v,ea2,j+1,us2,g460) _ _ ⟨bH,zs4,zs8,zs9,zs53,zs54,rfl,Rg,o27,o28,o29,o30,o31,o32,o33,bx53,bx251,o_ed_c1,o437,o449,o_ea2,by omega,?_⟩ ?_
    · show ka g pl_c1 by_c1 ((gw g).getD []) (eT O_c2 (List.drop (j+1) od)) us2 ea2
      exact hr.rowdone ‹_›
    · show Int.toNat (((od.length:Int):Int)-((j+1):Int))<Int.toNat (((od.length:Int):Int)-(j:Int))
      omega
   refine aj rfl (df p17) (aF rfl (ab ?_))
   clear o27 o28 o29 o30 o31 o32 o33 bx53 bx251 o_ed_c1 o437 o449
   refine a8 rfl (mz zs9 (ma ea1_v (ai 0 (ag (aQ (vs:=[ea1_v,vi 0]) Try.func26 (.tmp rfl (.tmp rfl .nil)) ?_)))))
   have e0:(ea1:gC)=((dV g).1):=by
     (unfold dV;rw[if_pos hm,if_pos ‹_›,if_pos h2l];exact he.done ‹_›)
   have e1:(0:Int)=((dV g).2):=by
     (unfold dV;rw[if_pos hm,if_pos ‹_›,if_pos h2l];done)
   exact⟨(fin w0 g453 (λn=>if n=24 then 1 else 0),ea1_v),(dP (a:=ea1) (b:=0) (λ(z0:gC) (z1:Int)=>Ending.returned (vt [ea1_v,vi z1])) e0 e1),bH.fresh _,(e0▸(o_ea1.glue (γ:=c0) (ren:=(λn=>if n=24 then 1 else 0)) (k:=1) bH.col rfl rfl))⟩
  refine al rfl (congrArg Bool.not (Bool.eq_false_iff.2 p3)) (ab ?_)
  clear bx5
  refine a8 rfl (ma vn (ai 7 (ag (aQ (vs:=[vn,vi 7]) Try.func26 (.tmp rfl (.tmp rfl .nil)) ?_))))
  have C507:=cg [] (ch2.n.seq (hb7.n.seq hb9.n))
  replace bH:=bH.ca C507
  have e0:([]:gC)=((dV g).1):=by
    (have hm:=of_decide_eq_true p1;unfold dV;rw[if_pos hm,if_neg ‹_›];done)
  have e1:(7:Int)=((dV g).2):=by
    (have hm:=of_decide_eq_true p1;unfold dV;rw[if_pos hm,if_neg ‹_›];done)
  exact⟨(fin w0 g4 (λn=>0),vn),(dP (a:=[]) (b:=7) (λ(z0:gC) (z1:Int)=>Ending.returned (vt [vn,vi z1])) e0 e1),bH.fresh _,(e0▸cP.nil)⟩
 refine al rfl (congrArg Bool.not (Bool.eq_false_iff.2 p1)) (ab ?_)
 clear bx5
 refine a8 rfl (ma vn (ai 1 (ag (aQ (vs:=[vn,vi 1]) Try.func26 (.tmp rfl (.tmp rfl .nil)) ?_))))
 replace bH:=bH.cn ch2
 replace bH:=bH.cn hb7
 have e0:([]:gC)=((dV g).1):=by
   (have hn:¬bg g:=λh=>p1 (dt h);unfold dV;rw[if_neg hn];done)
 have e1:(1:Int)=((dV g).2):=by
   (have hn:¬bg g:=λh=>p1 (dt h);unfold dV;rw[if_neg hn];done)
 exact⟨(fin w0 g4 (λn=>0),vn),(dP (a:=[]) (b:=1) (λ(z0:gC) (z1:Int)=>Ending.returned (vt [vn,vi z1])) e0 e1),bH.fresh _,(e0▸cP.nil)⟩
end TL
