import Derived.Test.YtcblhagfadineaaJpTlP4
import Derived.Test.YtcblhagfadineaaJpTlGenA
import Derived.Test.YtcblhagfadineaaJpTlGenQ
import Derived.Test.YtcblhagfadineaaJpTlGenX
import Derived.Test.YtcblhagfadineaaJpTlGenI
import Derived.Test.YtcblhagfadineaaProg
import Derived.Test.YtcblhagfadineaaJpTlAli
set_option linter.all false
set_option maxRecDepth 20000
namespace TL
open Go Go.Proofs
theorem qO:Try.prog.follows .mixedOrders=true:=by kernel_rfl
theorem xC:Try.f8.body.isNone=false:=rfl
theorem xA:(Try.f8.name== "runtime.NumGoroutine")=false:=by decide+kernel
theorem y8:Try.f26.body.isNone=false:=rfl
theorem yE:(Try.f26.name== "runtime.NumGoroutine")=false:=by decide+kernel
theorem yl:Try.f43.body.isNone=false:=rfl
theorem z6:(Try.f43.name== "runtime.NumGoroutine")=false:=by decide+kernel
theorem yg:Try.f54.body.isNone=false:=rfl
theorem y9:(Try.f54.name== "runtime.NumGoroutine")=false:=by decide+kernel
theorem vk(w0:World)(g:(Int)×(List Pt))(g_v:Value)(hg_v:Ro w0 g_v g.2)(r:bY)(r_v:Value)(hr_v:Ro w0 r_v r)(hmay:bF g)(hr:cM g r):
    Calls Try.prog 43 #[vg [vi g.1,g_v],r_v] w0 (λee w=>∃xx:aH×Value,ee= .returned ((λ⟨δ,rv0⟩=>rv0) xx)/\(λ(⟨δ,rv0⟩:aH×Value) (w:World)=>fI w0 δ w/\Ow δ (is 1) (is 1) w rv0 (bb g r)) xx w):=by
 refine av Try.func43 rfl nq ?_
 have bH:=aX.start w0
 have Rg:=hg_v.sl
 have Rr:=hr_v.sl
 have hm0:=hmay
 obtain⟨hm1,hm2,hm3,hm4⟩:=hm0
 have hrl:=hr.1
 refine aa (a8 rfl (cj rfl (bj c0 (is 1) (1,0) rfl rfl ?_)))
 intro g4 w1 b3 ch2 bx5
 replace bx5:Bx g4 (is 1) w1 b3 [vi g.1,g_v]:=bx5
 refine ma vn (ab (aa (a8 rfl (lx (ad fV rfl rfl rfl rfl) (lx (af cw rfl bx5 rfl) ?_)))))
 replace Rg:=Rg.cn ch2
 have len6:=(Rg).small
 refine lx (aT jQ rfl Rg) (lx (eK (m:=2) (n:=(g.2.length:Int)) rfl rfl (by omega)) (lo (iT (α:=Int) (l:=2*(g.2.length:Int)) (cp:=2*(g.2.length:Int)) g4 (is 2) (is 2) (2,0) rfl (0:Int) dl aI rfl rfl rfl (by omega) (by omega) (by omega) (by omega) ?_)))
 intro g7 w8 v9 ch10 o11 _
 refine ma v9 (ab (aa (aa ?_)))
 clear bx5
 refine a8 rfl (ai 0 (ab (aq ?_)))
 refine aQ (σ:=Nat×(List Int)×aH) (λ⟨v,behind,gq⟩ f w=>aX w0 gq w/\f 1=r_v/\f 5=v9/\f 6=vi ↑v/\Sl gq (is 0) w g_v g.2/\Sl gq (is 0) w r_v r/\Ow gq (is 2) (is 2) w v9 behind/\(v:Int)<=((r.length:Int):Int)/\(fH behind g r v 0)) (λ⟨v,behind,gq⟩=>Int.toNat (((r.length:Int):Int)-(v:Int))) (0,(List.replicate (Int.toNat (2*(g.2.length:Int))) (0:Int)),g7) ?_ ?_
 replace bH:=bH.cn ch2
 · exact⟨bH.cn ch10,rfl,rfl,rfl,Rg.cn ch10,(Rr.cn ch2).cn ch10,o11,by omega,by exact fH.start g r⟩
 clear Rg Rr o11 bH
 rintro⟨v,behind,g14⟩ f12 w13 ⟨bH,zs1,zs5,zs6,Rg,Rr,o11,hle_v,hinv⟩ back3
 have hbl:=hinv.len
 refine aa (aa (a8 rfl (mz zs6 (mz zs1 ?_))))
 have len15:=(Rr).small
 refine lx (aT kr rfl Rr) (lx (b6 (m:=↑v) (n:=(r.length:Int)) rfl rfl) (ab ?_))
 by_cases p3:(v:Int)<(r.length:Int)
 ·
  refine ag rfl (dt p3) (am (aa (aq (aa (a8 rfl (ai 0 (ab (aq ?_))))))))
  refine aQ (σ:=Nat×(List Int)×aH) (λ⟨k,behind,gq⟩ f w=>aX w0 gq w/\f 1=r_v/\f 5=v9/\f 6=vi ↑v/\f 7=vi ↑k/\Sl gq (is 0) w g_v g.2/\Sl gq (is 0) w r_v r/\Ow gq (is 2) (is 2) w v9 behind/\(k:Int)<=((List.length (gI r ↑v):Int):Int)/\(fH behind g r v k)) (λ⟨k,behind,gq⟩=>List.length (gI r ↑v)-k) (0,behind,g14) ?_ ?_
  · exact⟨bH,zs1,zs5,zs6,rfl,Rg,Rr,o11,by omega,by exact hinv⟩
  clear Rg Rr o11 bH
  rintro⟨k,behind,g18⟩ f16 w17 ⟨bH,zs1,zs5,zs6,zs7,Rg,Rr,o11,hle_k,hin⟩ back6
  have hbl:=hin.len
  refine aa (aa (a8 rfl (mz zs7 (mz zs1 (mz zs6 (lx (al (v:=r_v) (i:=↑v) kr rfl rfl Rr rfl (by omega) (by omega)) ?_))))))
  obtain⟨v19,cel20,r21⟩:=dh (r:=(v:Int)) Rr (by omega) (by omega)
  refine lx (bD cW rfl cel20) ?_
  have len22:=(r21).small
  refine lx (aT dl rfl r21) (lx (b6 (m:=↑k) (n:=(List.length (gI r ↑v):Int)) rfl rfl) (ab ?_))
  by_cases p6:(k:Int)<(List.length (gI r ↑v):Int)
  ·
   refine ag rfl (dt p6) ?_
   have hh:=(hr.2.1 v (by omega) _ (aR (xs:=gI r ↑v) (i:=↑k) (by omega) ‹_›)).1
   have he1:=Int.emod_nonneg ((k:Int)+1) (show((gI r ↑v).length:Int)≠0 by omega)
   have he2:=Int.emod_lt_of_pos ((k:Int)+1) (show(0:Int)<((gI r ↑v).length:Int) by omega)
   have hrw:=vV hr (k:=v) ‹_›
   refine am (aa (aq ?_))
   clear r21
   refine jN g18 [0,1,2,3,4,5,6,7,8,9,10,11,12,13,14,15,16,17,18,19,20,21,22] qO ?_
   intro w24 ch23
   refine xp (v:=v9) 0 rfl (λw=>aD zs5) (xp (v:=r_v) 1 rfl (λw=>aD zs1) (xp (v:=vi ↑v) 2 rfl (λw=>aD zs6) ?_))
   replace Rr:=Rr.cn ch23
   refine xv 3 [2,1,0,5,8,9,12,14,15,10,13,16,11,17,18,19,20,21] rfl (al (v:=r_v) (i:=↑v) kr rfl rfl Rr rfl (by omega) (by omega)) ?_
   obtain⟨v25,cel26,r27⟩:=dh (r:=(v:Int)) Rr (by omega) (by omega)
   refine xv 4 [3,2,1,0,5,8,9,12,14,15,10,13,16,11,17,18,19,20,21] rfl (bD cW rfl cel26) (xp (v:=vi ↑k) 5 rfl (λw=>aD zs7) (xv 6 [5,4,3,2,1,0,8,9,12,14,15,10,13,16,11,17,18,19,20,21] rfl (al (v:=v25) (i:=↑k) dl rfl rfl r27 rfl (by omega) (by omega)) (xv 7 [6,5,4,3,2,1,0,8,9,12,14,15,10,13,16,11,17,18,19,20,21] rfl (br (v:=v25) (i:=↑k) aI rfl r27 (by omega) (by omega) (by decide) rfl) (xp (v:=r_v) 8 rfl (λw=>aD zs1) (xp (v:=vi ↑v) 9 rfl (λw=>aD zs6) (xv 10 [9,8,7,6,5,4,3,2,1,0,12,14,15,13,16,17,18,19] rfl (al (v:=r_v) (i:=↑v) kr rfl rfl Rr rfl (by omega) (by omega)) ?_))))))
   obtain⟨v28,cel29,r30⟩:=dh (r:=(v:Int)) Rr (by omega) (by omega)
   refine xv 11 [10,9,8,7,6,5,4,3,2,1,0,12,14,15,13,16,17,18,19] rfl (bD cW rfl cel29) (xp (v:=vi ↑k) 12 rfl (λw=>aD zs7) (xp 13 rfl (λw=>aP (m:=↑k) (n:=1) rfl rfl (by omega)) (xp (v:=r_v) 14 rfl (λw=>aD zs1) (xp (v:=vi ↑v) 15 rfl (λw=>aD zs6) (xv 16 [15,14,13,12,11,10,9,8,7,6,5,4,3,2,1,0] rfl (al (v:=r_v) (i:=↑v) kr rfl rfl Rr rfl (by omega) (by omega)) ?_)))))
   obtain⟨v31,cel32,r33⟩:=dh (r:=(v:Int)) Rr (by omega) (by omega)
   refine xv 17 [16,15,14,13,12,11,10,9,8,7,6,5,4,3,2,1,0] rfl (bD cW rfl cel32) (xp 18 rfl (λw=>aT dl rfl r33) (xp 19 rfl (λw=>my (m:=(k:Int)+1) (n:=(List.length (gI r ↑v):Int)) rfl rfl (by omega) (by omega)) (xv 20 [19,18,17,16,15,14,13,12,11,10,9,8,7,6,5,4,3,2,1,0] rfl (al (v:=v28) (i:=((k:Int)+1)%(List.length (gI r ↑v):Int)) dl rfl rfl r30 rfl (by omega) (by omega)) (xv 21 [20,19,18,17,16,15,14,13,12,11,10,9,8,7,6,5,4,3,2,1,0] rfl (br (v:=v28) (i:=((k:Int)+1)%(List.length (gI r ↑v):Int)) aI rfl r30 (by omega) (by omega) (by decide) rfl) ?_))))
   replace o11:=o11.cn ch23
   refine xv 22 [21,20,19,18,17,16,15,14,13,12,11,10,9,8,7,6,5,4,3,2,1,0] rfl (al (v:=v9) (i:=(gI (gI r ↑v) ↑k)) dl rfl rfl o11.flat rfl (by omega) (by omega)) (ra 23 rfl (by kernel_rfl) rfl (dq (i:=(gI (gI r ↑v) ↑k)) (gI (gI r ↑v) (((k:Int)+1)%(List.length (gI r ↑v):Int))) aI rfl rfl o11 (by omega) (by omega) rfl ?_))
   intro w34 ch35 bx36
   clear o11
   refine xX (by kernel_rfl) (ao ?_)
   clear r27 r30 r33
   refine a8 rfl (mz zs7 (lx (aP (m:=↑k) (n:=1) rfl rfl (by omega)) (ai ((k:Int)+1) (ab ?_))))
   replace bH:=bH.cn ch23
   refine back6 (k+1,(List.set behind (Int.toNat (gI (gI r ↑v) ↑k)) (gI (gI r ↑v) (((k:Int)+1)%(List.length (gI r ↑v):Int)))),g18) _ _ ⟨bH.ce ch35,zs1,zs5,zs6,rfl,(Rg.cn ch23).ce ch35,Rr.ce ch35,bx36,by omega,?_⟩ ?_
   · show fH (List.set behind (Int.toNat (gI (gI r ↑v) ↑k)) (gI (gI r ↑v) (((k:Int)+1)%(List.length (gI r ↑v):Int)))) g r v (k+1)
     exact hin.next hr ‹_› ‹_›
   · show List.length (gI r ↑v)-(k+1)<List.length (gI r ↑v)-k
     omega
  refine aj rfl (df p6) (aM rfl (ao ?_))
  clear r21
  refine a8 rfl (mz zs6 (lx (aP (m:=↑v) (n:=1) rfl rfl (by omega)) (ai ((v:Int)+1) (ab ?_))))
  refine back3 (v+1,behind,g18) _ _ ⟨bH,zs1,zs5,rfl,Rg,Rr,o11,by omega,?_⟩ ?_
  · show fH behind g r (v+1) 0
    exact hin.row_done ‹_›
  · show Int.toNat (((r.length:Int):Int)-((v+1):Int))<Int.toNat (((r.length:Int):Int)-(v:Int))
    omega
 refine aj rfl (df p3) (aM rfl (aa (a8 rfl (mz zs5 ?_))))
 have len37:=(o11.flat).small
 refine lx (aT dl rfl o11.flat) (lo (iT (α:=Int) (l:=(behind.length:Int)) (cp:=(behind.length:Int)) g14 (is 3) (is 3) (3,0) rfl (0:Int) dl aI rfl rfl rfl (by omega) (by omega) (by omega) (by omega) ?_))
 intro g38 w39 v40 ch41 o42 _
 refine ma v40 (ab (aa (aa (a8 rfl (ai 0 (ab (aq ?_)))))))
 refine aQ (σ:=Nat×(List Int)×aH) (λ⟨h,next,gq⟩ f w=>aX w0 gq w/\f 5=v9/\f 8=v40/\f 9=vi ↑h/\Sl gq (is 0) w g_v g.2/\Sl gq (is 0) w r_v r/\Ow gq (is 2) (is 2) w v9 behind/\Ow gq (is 3) (is 3) w v40 next/\(iQ next g r h)) (λ⟨h,next,gq⟩=>2*List.length g.2-h) (0,(List.replicate (Int.toNat (behind.length:Int)) (0:Int)),g38) ?_ ?_
 · exact⟨bH.cn ch41,zs5,rfl,rfl,Rg.cn ch41,Rr.cn ch41,o11.cn ch41,o42,by exact iQ.start (by omega)⟩
 clear Rg Rr o11 o42 bH
 rintro⟨h,next,g45⟩ f43 w44 ⟨bH,zs5,zs8,zs9,Rg,Rr,o11,o42,hne⟩ back11
 have hnl:=hne.1
 refine aa (aa (a8 rfl (mz zs9 (mz zs8 ?_))))
 have len46:=(o42.flat).small
 refine lx (aT dl rfl o42.flat) (lx (b6 (m:=↑h) (n:=(next.length:Int)) rfl rfl) (ab ?_))
 by_cases p11:(h:Int)<(next.length:Int)
 ·
  refine ag rfl (dt p11) ?_
  obtain⟨ht1,ht2⟩:=jE (n:=(g.2.length:Int)) (h:=(h:Int)) (by omega) (by omega)
  refine am (aa (aq (a8 rfl (mz zs8 (mz zs9 (mz zs5 (mz zs9 (lo (aK (v:=vi (bX (h:Int))) (aA (vals:=[vi ↑h]) Try.func54 yg y9 rfl) (ud w44 (h:Int) (by omega)) ?_)))))))))
  intro w47 hb48
  replace hb48:=ar hb48 g45
  replace o11:=o11.cn hb48
  refine lx (al (v:=v9) (i:=bX (h:Int)) dl rfl rfl o11.flat rfl (by omega) (by omega)) (lx (br (v:=v9) (i:=bX (h:Int)) aI rfl o11.flat (by omega) (by omega) (by decide) rfl) ?_)
  replace o42:=o42.cn hb48
  refine lx (al (v:=v40) (i:=↑h) dl rfl rfl o42.flat rfl (by omega) (by omega)) (lo (dq (i:=↑h) (gI behind (bX (h:Int))) aI rfl rfl o42 (by omega) (by omega) rfl ?_))
  intro w49 ch50 bx51
  clear o42
  refine ab (ao (a8 rfl (mz zs9 (lx (aP (m:=↑h) (n:=1) rfl rfl (by omega)) (ai ((h:Int)+1) (ab ?_))))))
  replace bH:=bH.cn hb48
  refine back11 (h+1,(List.set next (Int.toNat ↑h) (gI behind (bX (h:Int)))),g45) _ _ ⟨bH.ce ch50,zs5,zs8,rfl,(Rg.cn hb48).ce ch50,(Rr.cn hb48).ce ch50,o11.ce ch50,bx51,?_⟩ ?_
  · show iQ (List.set next (Int.toNat ↑h) (gI behind (bX (h:Int)))) g r (h+1)
    exact hne.next (by omega) (hinv.done hr ‹_› (by omega) (by omega))
  · show 2*List.length g.2-(h+1)<2*List.length g.2-h
    omega
 refine aj rfl (df p11) (aM rfl (aa ?_))
 clear o11
 refine a8 rfl (mz zs8 (ma v40 (ab (au (vs:=[v40]) Try.func43 (.tmp rfl .nil) ?_))))
 have e0:(next:List Int)=(bb g r):=by
   exact hne.done ‹_›
 exact⟨(fin w0 g45 (λn=>if n=3 then 1 else 0),v40),(congrArg (a₁:=next) (λ(z0:List Int)=>Ending.returned (v40)) e0),bH.fresh _,(e0▸(o42.glue (γ:=c0) (ren:=(λn=>if n=3 then 1 else 0)) (k:=1) bH.col rfl rfl))⟩
theorem s8(w0:World)(g:(Int)×(List Pt))(g_v:Value)(hg_v:Ro w0 g_v g.2)(r:bY)(r_v:Value)(hr_v:Ro w0 r_v r)(hmay:bF g)(hr:cM g r):
    Calls Try.prog 26 #[vg [vi g.1,g_v],r_v] w0 (λee w=>∃xx:aH×Value,ee= .returned ((λ⟨δ,rv0⟩=>rv0) xx)/\(λ(⟨δ,rv0⟩:aH×Value) (w:World)=>fI w0 δ w/\dT δ 1 w rv0 (cx (bb g r) r)) xx w):=by
 refine av Try.func26 rfl nq ?_
 have bH:=aX.start w0
 have Rg:=hg_v.sl
 have Rr:=hr_v.sl
 have hm0:=hmay
 obtain⟨hm1,hm2,hm3,hm4⟩:=hm0
 have hrl:=hr.1
 have hnx:=eT g r
 refine aa (a8 rfl (cj rfl (bj c0 (is 1) (1,0) rfl rfl ?_)))
 intro g4 w1 b3 ch2 bx5
 replace bx5:Bx g4 (is 1) w1 b3 [vi g.1,g_v]:=bx5
 refine ma vn (ab (aa (a8 rfl (lx (ak (ds:=[vi g.1,g_v]) eY rfl bx5 rfl rfl) (mv r_v ?_)))))
 replace Rg:=Rg.cn ch2
 replace Rr:=Rr.cn ch2
 refine lo (c3 (aA (vals:=[vg [vi g.1,g_v],r_v]) Try.func43 yl z6 rfl) (vk w1 g g_v (Rg).ro r r_v (Rr).ro ‹_› ‹_›) ?_)
 rintro⟨d7,v9⟩ w6 ⟨fr8,o10⟩
 obtain⟨g11,ch12,G11⟩:=nH g4 fr8 (λn=>if n=1 then 2 else 0)
 replace o10:=o10.gl G11 2
 refine ma v9 (ab (aa (a8 rfl (mv v9 ?_))))
 have len13:=(o10.flat).small
 refine lx (aT dl rfl o10.flat) (lo (iT (α:=Bool) (l:=(List.length (bb g r):Int)) (cp:=(List.length (bb g r):Int)) g11 (is 3) (is 3) (3,0) rfl false nQ fN rfl rfl rfl (by omega) (by omega) (by omega) (by omega) ?_))
 intro g14 w15 v16 ch17 o18 _
 refine ma v16 (ab (aa (a8 rfl (ma vn (ab (aa (aa (a8 rfl (ai 0 (ab (aq ?_)))))))))))
 refine aQ (σ:=Nat×Value×bY×(List Bool)×aH) (λ⟨h,l_v,l,seen,gq⟩ f w=>aX w0 gq w/\f 1=r_v/\f 2=vp b3 0/\f 5=v9/\f 6=v16/\f 7=l_v/\f 8=vi ↑h/\Sl gq (is 0) w g_v g.2/\Sl gq (is 0) w r_v r/\Bx gq (is 1) w b3 [vi g.1,g_v]/\Ow gq (is 2) (is 2) w v9 (bb g r)/\Ow gq (is 3) (is 3) w v16 seen/\dT gq 7 w l_v l/\(h:Int)<=((List.length (bb g r):Int):Int)/\(∃S,eM seen l (bb g r) S h)) (λ⟨h,l_v,l,seen,gq⟩=>Int.toNat (((List.length (bb g r):Int):Int)-(h:Int))) (0,vn,[],(List.replicate (Int.toNat (List.length (bb g r):Int)) false),g14) ?_ ?_
 have C19:=cg [] (ch2.n.seq (ch12.n.seq ch17.n))
 · exact⟨bH.ca C19,rfl,rfl,rfl,rfl,rfl,rfl,(Rg.cn ch12).cn ch17,(Rr.cn ch12).cn ch17,(bx5.cn ch12).cn ch17,o10.cn ch17,o18,dT.nil,by omega,by exact⟨[],by have h:=eM.start (bb g r);simpa using h⟩⟩
 clear Rg Rr bx5 o10 o18 bH
 rintro⟨h,l_v,l,seen,g22⟩ f20 w21 ⟨bH,zs1,zs2,zs5,zs6,zs7,zs8,Rg,Rr,bx5,o10,o18,o_l,hle_h,hinv⟩ back5
 obtain⟨S,hfa⟩:=hinv
 have hsl:=hfa.rm.len
 have hll:=hfa.le
 refine aa (aa (a8 rfl (mz zs8 (mz zs5 (lx (aT dl rfl o10.flat) (lx (b6 (m:=↑h) (n:=(List.length (bb g r):Int)) rfl rfl) (ab ?_)))))))
 by_cases p5:(h:Int)<(List.length (bb g r):Int)
 ·
  refine ag rfl (dt p5) (am (aa (aq (aa (aa (a8 rfl (mz zs6 (mz zs8 (lx (al (v:=v16) (i:=↑h) nQ rfl rfl o18.flat rfl (by omega) (by omega)) (lx (br (v:=v16) (i:=↑h) fN rfl o18.flat (by omega) (by omega) (by decide) rfl) (ab ?_)))))))))))
  by_cases p7:(gI seen ↑h)=true
  ·
   refine ag rfl p7 (aM rfl (a8 rfl (mz zs8 (lx (aP (m:=↑h) (n:=1) rfl rfl (by omega)) (ai ((h:Int)+1) (ab ?_))))))
   refine back5 (h+1,l_v,l,seen,g22) _ _ ⟨bH,zs1,zs2,zs5,zs6,zs7,rfl,Rg,Rr,bx5,o10,o18,o_l,by omega,?_⟩ ?_
   · show∃S,eM seen l (bb g r) S (h+1)
     exact⟨_,hfa.no (gc.start hfa (by omega)) ‹_› (by simp) ‹_›⟩
   · show Int.toNat (((List.length (bb g r):Int):Int)-((h+1):Int))<Int.toNat (((List.length (bb g r):Int):Int)-(h:Int))
     omega
  refine aj rfl (Bool.eq_false_iff.2 p7) (am (aa (a8 rfl (ma vn (ab (aa (aa (a8 rfl (mz zs8 (ai (h:Int) (ab (aq ?_))))))))))))
  refine aQ (σ:=Value×(List Int)×Int×(List Bool)×aH) (λ⟨f__v,f_,k,seen1,gq⟩ f w=>aX w0 gq w/\f 1=r_v/\f 2=vp b3 0/\f 5=v9/\f 6=v16/\f 7=l_v/\f 8=vi ↑h/\f 9=f__v/\f 10=vi k/\Sl gq (is 0) w g_v g.2/\Sl gq (is 0) w r_v r/\Bx gq (is 1) w b3 [vi g.1,g_v]/\Ow gq (is 2) (is 2) w v9 (bb g r)/\Ow gq (is 3) (is 3) w v16 seen1/\dT gq 7 w l_v l/\Ow gq (is 5) (is 5) w f__v f_/\(gc seen1 f_ (bb g r) S h k)) (λ⟨f__v,f_,k,seen1,gq⟩=>List.length (bb g r)-List.length f_) (vn,[],(h:Int),seen,g22) ?_ ?_
  · exact⟨bH,zs1,zs2,zs5,zs6,zs7,zs8,rfl,rfl,Rg,Rr,bx5,o10,o18,o_l,Ow.nil,by exact gc.start hfa ‹_›⟩
  clear Rg Rr bx5 o10 o18 o_l bH
  rintro⟨f__v,f_,k,seen1,g25⟩ f23 w24 ⟨bH,zs1,zs2,zs5,zs6,zs7,zs8,zs9,zs10,Rg,Rr,bx5,o10,o18,o_l,o_f_,hor⟩ back10
  have hsl2:=hor.rm.len
  have hk0:=hor.k0
  have hk1:=hor.k1
  refine aa (aa (a8 rfl (mz zs6 (mz zs10 (lx (al (v:=v16) (i:=k) nQ rfl rfl o18.flat rfl (by omega) (by omega)) (lx (br (v:=v16) (i:=k) fN rfl o18.flat (by omega) (by omega) (by decide) rfl) (lx (dj (b:=(gI seen1 k)) rfl) (ab ?_))))))))
  by_cases p10:(gI seen1 k)=true
  ·
   refine aj rfl (congrArg Bool.not p10) (aM rfl (a8 rfl (mz zs7 (mz zs9 (lo ?_)))))
   obtain⟨c26,hv27⟩:=nS (u:=f__v) (cz o_f_.flat)
   refine aF (α:=Vc) g25 (is 6) (is 6) (6,0) rfl [c26] ou cW (by decide) (by decide) (vs:=[(0,f__v)]) rfl rfl (.cons (lq hv27 (bK o_f_.flat)) .nil) ?_
   intro g28 w29 v30 ch31 o32
   refine lo ?_
   replace o_l:=o_l.cn ch31
   replace o_f_:=o_f_.cn ch31
   refine nG hv27 (α:=Int) (xss:=l) (i:=7) (γ:=g28) ou cW rfl rfl rfl o_l (o32.flat) o_f_ rfl (by decide) (by omega) ?_
   intro g33 w34 v35 ch36 o37 r38
   clear o_l o_f_
   refine ma v35 (ab (ao ?_))
   clear o32 r38
   refine a8 rfl (mz zs8 (lx (aP (m:=↑h) (n:=1) rfl rfl (by omega)) (ai ((h:Int)+1) (ab ?_))))
   replace bH:=bH.cn ch31
   refine back5 (h+1,v35,(l++[f_]),seen1,g33) _ _ ⟨bH.chg ch36 (g5 rfl rfl),zs1,zs2,zs5,zs6,rfl,rfl,(Rg.cn ch31).chg ch36 (g5 rfl rfl),(Rr.cn ch31).chg ch36 (g5 rfl rfl),(bx5.cn ch31).chg ch36 (g5 rfl rfl),(o10.cn ch31).chg ch36 (g5 rfl rfl) (g5 rfl rfl),(o18.cn ch31).chg ch36 (g5 rfl rfl) (g5 rfl rfl),o37,by omega,?_⟩ ?_
   · show∃S,eM seen1 (l++[f_]) (bb g r) S (h+1)
     exact⟨_,hfa.yes' hor ‹_› ‹_› ‹_›⟩
   · show Int.toNat (((List.length (bb g r):Int):Int)-((h+1):Int))<Int.toNat (((List.length (bb g r):Int):Int)-(h:Int))
     omega
  refine ag rfl (congrArg Bool.not (Bool.eq_false_iff.2 p10)) ?_
  have hni:=sX hr (k:=k) (by omega) (by omega)
  have hnxt:=hor.next ‹_› (by omega)
  refine am (aa (aq (aa (a8 rfl (mz zs6 (mz zs10 (lx (al (v:=v16) (i:=k) nQ rfl rfl o18.flat rfl (by omega) (by omega)) (lo (dq (i:=k) true fN rfl rfl o18 (by omega) (by omega) rfl ?_)))))))))
  intro w39 ch40 bx41
  clear o18
  refine ab (a8 rfl (mz zs9 (mz zs10 (lo (aF (α:=Int) g25 (is 4) (is 4) (4,0) rfl [k] dl aI (by decide) (by decide) (vs:=[(0,vi k)]) rfl rfl (.cons rfl .nil) ?_)))))
  intro g42 w43 v44 ch45 o46
  refine lo ?_
  replace o_f_:=(o_f_.ce ch40).cn ch45
  refine b9 (α:=Int) (xs:=f_) (ys:=([k])) g42 (J:=is 5) (S:=is 5) (5,0) rfl dl aI (by decide) rfl rfl rfl o_f_ o46.flat (by decide) (by(simp;omega)) ?_
  intro g47 w48 v49 ch50 o51
  clear o_f_
  refine ma v49 (ab (ao ?_))
  clear o46
  refine a8 rfl (mz zs5 (mz zs10 ?_))
  have C52:=cg [3,5] ((ch40.l rfl).seq (ch45.n.seq (ch50.l rfl)))
  replace o10:=o10.ca C52
  refine lx (al (v:=v9) (i:=k) dl rfl rfl o10.flat rfl (by omega) (by omega)) (lx (br (v:=v9) (i:=k) aI rfl o10.flat (by omega) (by omega) (by decide) rfl) (ai (gI (bb g r) k) (ab ?_)))
  refine back10 (v49,(f_++[k]),(gI (bb g r) k),(List.set seen1 (Int.toNat k) true),g47) _ _ ⟨bH.ca C52,zs1,zs2,zs5,zs6,zs7,zs8,rfl,rfl,Rg.ca C52,Rr.ca C52,bx5.ca C52,o10,(bx41.cn ch45).ce ch50,o_l.ca C52,o51,?_⟩ ?_
  · show gc (List.set seen1 (Int.toNat k) true) (f_++[k]) (bb g r) S h (gI (bb g r) k)
    exact hnxt.1
  · show List.length (bb g r)-List.length (f_++[k])<List.length (bb g r)-List.length f_
    (have h2:=hnxt.2;simp only[List.length_append,List.length_cons,List.length_nil];omega)
 refine aj rfl (df p5) (aM rfl (aa (aa ?_)))
 clear o10 o18
 refine a8 rfl (ai 0 (ab (aq ?_)))
 refine aQ (σ:=Value×bY×Nat×aH) (λ⟨l_v,l,v,gq⟩ f w=>aX w0 gq w/\f 1=r_v/\f 2=vp b3 0/\f 7=l_v/\f 11=vi ↑v/\Sl gq (is 0) w g_v g.2/\Sl gq (is 0) w r_v r/\Bx gq (is 1) w b3 [vi g.1,g_v]/\dT gq 7 w l_v l/\(v:Int)<=(g.1:Int)/\(l=c4 (bb g r) (bI (List.length (bb g r))) []++((List.take v r).filter λz_=>decide (z_.length=0)).map λ_=>[])) (λ⟨l_v,l,v,gq⟩=>Int.toNat ((g.1:Int)-(v:Int))) (l_v,l,0,g22) ?_ ?_
 · exact⟨bH,zs1,zs2,zs7,rfl,Rg,Rr,bx5,o_l,by omega,by(simp;exact hfa.done ‹_›)⟩
 clear Rg Rr bx5 o_l bH
 rintro⟨l_v,l,v,g55⟩ f53 w54 ⟨bH,zs1,zs2,zs7,zs11,Rg,Rr,bx5,o_l,hle_v,hem⟩ back16
 have hel:=rL hem
 have hfn:=hfa.le
 have hfd:=hfa.done ‹_›
 rw[hfd] at hfn
 refine aa (aa (a8 rfl (mz zs11 (lx (ad fV rfl rfl zs2 rfl) (lx (af aI rfl bx5 rfl) (lx (b6 (m:=↑v) (n:=g.1) rfl rfl) (ab ?_)))))))
 by_cases p16:(v:Int)<g.1
 ·
  refine ag rfl (dt p16) (am (aa (aq (aa (a8 rfl (mz zs1 (mz zs11 (lx (al (v:=r_v) (i:=↑v) kr rfl rfl Rr rfl (by omega) (by omega)) ?_))))))))
  obtain⟨v56,cel57,r58⟩:=dh (r:=(v:Int)) Rr (by omega) (by omega)
  refine lx (bD cW rfl cel57) ?_
  have len59:=(r58).small
  refine lx (aT dl rfl r58) (lx (cq (m:=(List.length (gI r ↑v):Int)) (n:=0) rfl rfl) (ab ?_))
  by_cases p18:(List.length (gI r ↑v):Int)=0
  ·
   refine ag rfl (dt p18) ?_
   clear r58
   refine a8 rfl (mz zs7 (lo ?_))
   obtain⟨c60,hv61⟩:=nS (u:=vn) rfl
   refine aF (α:=Vc) g55 (is 8) (is 8) (8,0) rfl [c60] ou cW (by decide) (by decide) (vs:=[(0,vn)]) rfl rfl (.cons (lq hv61 rfl) .nil) ?_
   intro g62 w63 v64 ch65 o66
   refine lo ?_
   replace o_l:=o_l.cn ch65
   refine kL hv61 (α:=Int) (xss:=l) (i:=7) (γ:=g62) ou cW rfl rfl rfl o_l (o66.flat) (by decide) (by omega) ?_
   intro g67 w68 v69 ch70 o71
   clear o_l
   refine ma v69 (ab (ao ?_))
   clear o66
   refine a8 rfl (mz zs11 (lx (aP (m:=↑v) (n:=1) rfl rfl (by omega)) (ai ((v:Int)+1) (ab ?_))))
   replace bH:=bH.cn ch65
   refine back16 (v69,(l++[[]]),v+1,g67) _ _ ⟨bH.ce ch70,zs1,zs2,rfl,rfl,(Rg.cn ch65).ce ch70,(Rr.cn ch65).ce ch70,(bx5.cn ch65).ce ch70,o71,by omega,?_⟩ ?_
   · show(l++[[]])=c4 (bb g r) (bI (List.length (bb g r))) []++((List.take (v+1) r).filter λz_=>decide (z_.length=0)).map λ_=>[]
     exact s9 (by omega) hem ‹_›
   · show Int.toNat ((g.1:Int)-((v+1):Int))<Int.toNat ((g.1:Int)-(v:Int))
     omega
  refine aj rfl (df p18) (am (ao ?_))
  clear r58
  refine a8 rfl (mz zs11 (lx (aP (m:=↑v) (n:=1) rfl rfl (by omega)) (ai ((v:Int)+1) (ab ?_))))
  refine back16 (l_v,l,v+1,g55) _ _ ⟨bH,zs1,zs2,zs7,rfl,Rg,Rr,bx5,o_l,by omega,?_⟩ ?_
  · show l=c4 (bb g r) (bI (List.length (bb g r))) []++((List.take (v+1) r).filter λz_=>decide (z_.length=0)).map λ_=>[]
    exact u3 (by omega) hem ‹_›
  · show Int.toNat ((g.1:Int)-((v+1):Int))<Int.toNat ((g.1:Int)-(v:Int))
    omega
 refine aj rfl (df p16) (aM rfl (aa ?_))
 clear bx5
 refine a8 rfl (mz zs7 (ma l_v (ab (au (vs:=[l_v]) Try.func26 (.tmp rfl .nil) ?_))))
 have e0:(l:bY)=(cx (bb g r) r):=by
   rw[hem,List.take_of_length_le (by omega)];rfl
 exact⟨(fin w0 g55 (λn=>if n=7 then 1 else 0),l_v),(congrArg (a₁:=l) (λ(z0:bY)=>Ending.returned (l_v)) e0),bH.fresh _,(e0▸(o_l.glue (γ:=c0) (ren:=(λn=>if n=7 then 1 else 0)) (k:=1) bH.col rfl rfl))⟩
theorem s6(w0:World)(g:(Int)×(List Pt))(g_v:Value)(hg_v:Ro w0 g_v g.2)(r:bY)(r_v:Value)(hr_v:Ro w0 r_v r)(hmay:bF g)(hr:cM g r):
    Calls Try.prog 10 #[vg [vi g.1,g_v],r_v] w0 (λee w=>ee= .returned (vi (fk g r))/\dd w0.heap.size w0 w):=by
 refine av Try.func10 rfl nq ?_
 have bH:=aX.start w0
 have Rg:=hg_v.sl
 have Rr:=hr_v.sl
 have hm0:=hmay
 obtain⟨hm1,hm2,hm3,hm4⟩:=hm0
 have hrl:=hr.1
 have hpb:=mV g hmay
 have hfl:=pM (bb g r) r
 have hnl:=eT g r
 refine aa (a8 rfl (cj rfl (bj c0 (is 1) (1,0) rfl rfl ?_)))
 intro g4 w1 b3 ch2 bx5
 replace bx5:Bx g4 (is 1) w1 b3 [vi g.1,g_v]:=bx5
 refine ai 0 (ab (aa (a8 rfl (lx (ak (ds:=[vi g.1,g_v]) eY rfl bx5 rfl rfl) ?_))))
 replace Rg:=Rg.cn ch2
 refine lo (c3 (aA (vals:=[vg [vi g.1,g_v],vn,vn]) Try.func8 xC xA rfl) (mS w1 g g_v (Rg).ro ‹_›) ?_)
 rintro⟨d7,v9⟩ w6 ⟨fr8,o10⟩
 obtain⟨g11,ch12,G11⟩:=nH g4 fr8 (λn=>if n=1 then 2 else 0)
 replace o10:=o10.gl G11 2
 refine mv (vt [v9,vi ((bE g).2.1)]) (lx (aV rfl rfl) (lx (aV rfl rfl) (ma v9 (ai ((bE g).2.1) (ab (aa ?_))))))
 clear o10
 refine dQ g11 (inl []) qO ?_
 intro w14 ch13
 refine ht (v:=vi ((bE g).2.1)) 0 rfl (b5.refl _ _ _) (λw' hw'=>aD rfl) (ht 1 rfl (b5.refl _ _ _) (λw' hw'=>eK (m:=2) (n:=(bE g).2.1) rfl rfl (by omega)) (ht 2 rfl (b5.refl _ _ _) (λw' hw'=>ad fV rfl rfl rfl rfl) ?_))
 replace bx5:=(bx5.cn ch12).cn ch13
 refine ht 3 rfl (b5.refl _ _ _) (λw' hw'=>af aI rfl (bx5.chg hw' (bA rfl)) rfl) (ht 4 rfl (b5.refl _ _ _) (λw' hw'=>dD (m:=2*((bE g).2.1)) (n:=g.1) rfl rfl (by omega)) (ht 5 rfl (b5.refl _ _ _) (λw' hw'=>ad fV rfl rfl rfl rfl) (ht 6 rfl (b5.refl _ _ _) (λw' hw'=>af cw rfl (bx5.chg hw' (bA rfl)) rfl) ?_)))
 replace Rg:=(Rg.cn ch12).cn ch13
 have len15:=(Rg).small
 refine ht 7 rfl (b5.refl _ _ _) (λw' hw'=>aT jQ rfl Rg) (ht 8 rfl (b5.refl _ _ _) (λw' hw'=>aP (m:=(2*((bE g).2.1))-g.1) (n:=(g.2.length:Int)) rfl rfl (by omega)) (ht 9 rfl (b5.refl _ _ _) (λw' hw'=>ak (ds:=[vi g.1,g_v]) eY rfl (bx5.chg hw' (bA rfl)) rfl rfl) (ht (v:=r_v) 10 rfl (b5.refl _ _ _) (λw' hw'=>aD rfl) (aO 11 rfl (by kernel_rfl) rfl ?_))))
 have C16:=cg [] (ch2.n.seq (ch12.n.seq ch13.n))
 replace Rr:=Rr.ca C16
 refine c3 (aA (vals:=[vg [vi g.1,g_v],r_v]) Try.func26 y8 yE rfl) (s8 w14 g g_v (Rg).ro r r_v (Rr).ro ‹_› ‹_›) ?_
 rintro⟨d18,v20⟩ w17 ⟨fr19,o21⟩
 obtain⟨g22,ch23,G22⟩:=nH g11 fr19 (λn=>if n=1 then 3 else 0)
 replace o21:=o21.gl G22 3
 have hs24:b5 (inl []) _ _ _ _:=ch23.n
 refine⟨hs24.same,?_⟩
 have len25:=(o21.sl).small
 refine ht 12 rfl hs24.same (λw' hw'=>aT ou rfl o21.sl) (ht 13 rfl hs24.same (λw' hw'=>dD (m:=((2*((bE g).2.1))-g.1)+(g.2.length:Int)) (n:=(List.length (cx (bb g r) r):Int)) rfl rfl (by omega)) (ht 14 rfl hs24.same (λw' hw'=>yk (m:=(((2*((bE g).2.1))-g.1)+(g.2.length:Int))-(List.length (cx (bb g r) r):Int)) (n:=2) rfl rfl (by omega) (by omega)) (ht (v:=vi (Int.tdiv ((((2*((bE g).2.1))-g.1)+(g.2.length:Int))-(List.length (cx (bb g r) r):Int)) 2)) 15 rfl hs24.same (λw' hw'=>bS rfl) (cK (by kernel_rfl) (au (vs:=[vi (Int.tdiv ((((2*((bE g).2.1))-g.1)+(g.2.length:Int))-(List.length (cx (bb g r) r):Int)) 2)]) Try.func10 (.tmp rfl .nil) ?_)))))
 have e0:(Int.tdiv ((((2*((bE g).2.1))-g.1)+(g.2.length:Int))-(List.length (cx (bb g r) r):Int)) 2:Int)=(fk g r):=by
   rfl
 have C26:=cg [] (ch2.n.seq (ch12.n.seq (ch13.n.seq ch23.n)))
 replace bH:=bH.ca C26
 exact⟨(congrArg (a₁:=Int.tdiv ((((2*((bE g).2.1))-g.1)+(g.2.length:Int))-(List.length (cx (bb g r) r):Int)) 2) (λ(z0:Int)=>Ending.returned (vi z0)) e0),bH.below⟩
end TL
