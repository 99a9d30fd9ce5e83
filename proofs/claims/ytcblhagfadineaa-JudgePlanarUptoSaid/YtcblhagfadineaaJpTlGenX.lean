import Derived.Test.YtcblhagfadineaaJpTlP4
import Derived.Test.YtcblhagfadineaaJpTlGenA
import Derived.Test.YtcblhagfadineaaJpTlGenQ
import Derived.Test.YtcblhagfadineaaProg
import Derived.Test.YtcblhagfadineaaJpTlAli
set_option linter.all false
set_option maxRecDepth 20000
namespace TL
open Go Go.Proofs
theorem xu:Try.prog.follows .mixedOrders=true:=by kernel_rfl
theorem fN:Tp Try.prog 4 false 1 1 (.bool false):=Tp.of (by kernel_rfl)
theorem cL:Tp Try.prog 24 true 2 32 (.agg #[.int .i64 0,.slice none 0 0]):=Tp.of (by kernel_rfl)
theorem el:Tp Try.prog 39 false 1 24 (.slice none 0 0):=Tp.of (by kernel_rfl)
theorem uq:Try.f14.body.isNone=false:=rfl
theorem uw:(Try.f14.name== "runtime.NumGoroutine")=false:=by decide+kernel
theorem mZ:Try.f21.body.isNone=false:=rfl
theorem nA:(Try.f21.name== "runtime.NumGoroutine")=false:=by decide+kernel
theorem ye:Try.f25.body.isNone=false:=rfl
theorem zt:(Try.f25.name== "runtime.NumGoroutine")=false:=by decide+kernel
theorem tk:Try.f52.body.isNone=false:=rfl
theorem u4:(Try.f52.name== "runtime.NumGoroutine")=false:=by decide+kernel
theorem yo:Try.f53.body.isNone=false:=rfl
theorem yM:(Try.f53.name== "runtime.NumGoroutine")=false:=by decide+kernel
theorem wW(w0:World)(g:(Int)×(List Pt))(g_v:Value)(hg_v:Ro w0 g_v g.2)(r:bY)(r_v:Value)(hr_v:Ro w0 r_v r):
    Calls Try.prog 41 #[vg [vi g.1,g_v],r_v] w0 (λee w=>ee= .returned (vi (bR g r))/\dd w0.heap.size w0 w):=by
 refine av Try.func41 rfl nq ?_
 have bH:=aX.start w0
 have Rg:=hg_v.sl
 have Rr:=hr_v.sl
 refine aa (a8 rfl (cj rfl (bj c0 (is 1) (1,0) rfl rfl ?_)))
 intro g4 w1 b3 ch2 bx5
 replace bx5:Bx g4 (is 1) w1 b3 [vi g.1,g_v]:=bx5
 refine ai 0 (ab (aa (aa (a8 rfl (lx (ak (ds:=[vi g.1,g_v]) cL rfl bx5 rfl rfl) ?_)))))
 replace Rg:=Rg.cn ch2
 refine lo (aK (v:=vb (d6 g)) (aA (vals:=[vg [vi g.1,g_v]]) Try.func21 mZ nA rfl) (nv w1 g g_v (Rg).ro) ?_)
 intro w6 hb7
 replace hb7:=ar hb7 g4
 refine lx (dj (b:=(d6 g)) rfl) (ab ?_)
 by_cases p1:(d6 g)=true
 ·
  have hm:=of_decide_eq_true p1
  have hm0:=hm
  obtain⟨hm1,hm2,hm3,hm4⟩:=hm0
  refine aj rfl (congrArg Bool.not p1) (am (aa (aa (a8 rfl (mv r_v ?_)))))
  replace Rr:=(Rr.cn ch2).cn hb7
  have len8:=(Rr).small
  refine lx (aT kr rfl Rr) (lx (ad fV rfl rfl rfl rfl) ?_)
  replace bx5:=bx5.cn hb7
  refine lx (af aI rfl bx5 rfl) (lx (dU (m:=(r.length:Int)) (n:=g.1) rfl rfl) (ab ?_))
  by_cases p3:(r.length:Int)=g.1
  ·
   refine aj rfl (congrArg Bool.not (dt p3)) (am (aa (a8 rfl (lx (ad fV rfl rfl rfl rfl) (lx (af cw rfl bx5 rfl) ?_)))))
   replace Rg:=Rg.cn hb7
   have len9:=(Rg).small
   refine lx (aT jQ rfl Rg) (lx (eK (m:=2) (n:=(g.2.length:Int)) rfl rfl (by omega)) (lo (iT (α:=Bool) (l:=2*(g.2.length:Int)) (cp:=2*(g.2.length:Int)) g4 (is 2) (is 2) (2,0) rfl false nQ fN rfl rfl rfl (by omega) (by omega) (by omega) (by omega) ?_)))
   intro g10 w11 v12 ch13 o14 _
   refine ma v12 (ab (aa (a8 rfl (ai 0 (ab (aa (aa (a8 rfl (mv r_v ?_)))))))))
   replace Rr:=Rr.cn ch13
   refine lx (aT kr rfl Rr) (mi 0 (ab (aq ?_)))
   refine aQ (σ:=Int×Nat×(List Bool)×aH) (λ⟨n,k,seen,gq⟩ f w=>aX w0 gq w/\f 2=vp b3 0/\f 5=v12/\f 6=vi n/\f 24=r_v/\f 25=vi (r.length:Int)/\f 26=vi ↑k/\Sl gq (is 0) w g_v g.2/\Sl gq (is 0) w r_v r/\Bx gq (is 1) w b3 [vi g.1,g_v]/\Ow gq (is 2) (is 2) w v12 seen/\(k:Int)<=((r.length:Int):Int)/\(cu seen n g r k 0)) (λ⟨n,k,seen,gq⟩=>Int.toNat (((r.length:Int):Int)-(k:Int))) (0,0,(List.replicate (Int.toNat (2*(g.2.length:Int))) false),g10) ?_ ?_
   have C15:=cg [] (ch2.n.seq (hb7.n.seq ch13.n))
   · exact⟨bH.ca C15,rfl,rfl,rfl,rfl,rfl,rfl,Rg.cn ch13,Rr,bx5.cn ch13,o14,by omega,by exact cu.start g r⟩
   clear Rg Rr bx5 o14 bH
   rintro⟨n,k,seen,g18⟩ f16 w17 ⟨bH,zs2,zs5,zs6,zs24,zs25,zs26,Rg,Rr,bx5,o14,hle_k,hinv⟩ back8
   have hsl:=hinv.rm.len
   have hbd:=hinv.bd
   refine aa (a8 rfl (lx (b6 (m:=↑k) (n:=(r.length:Int)) zs26 zs25) (ab (aa ?_))))
   by_cases p8:(k:Int)<(r.length:Int)
   ·
    refine ag rfl (dt p8) (am (aa (aq (aa (a8 rfl (mz zs26 (lx (al (v:=r_v) (i:=↑k) kr rfl zs24 Rr zs26 (by omega) (by omega)) ?_)))))))
    obtain⟨v19,cel20,r21⟩:=dh (r:=(k:Int)) Rr (by omega) (by omega)
    refine lx (bD el rfl cel20) (ai (k:Int) (ma v19 (ab (aa (a8 rfl (mv v19 ?_))))))
    have len22:=(r21).small
    refine lx (aT dl rfl r21) (mi 0 (ab (aq ?_)))
    refine aQ (σ:=Int×Nat×(List Bool)×aH) (λ⟨n,i,seen,gq⟩ f w=>aX w0 gq w/\f 2=vp b3 0/\f 5=v12/\f 6=vi n/\f 7=vi ↑k/\f 24=r_v/\f 25=vi (r.length:Int)/\f 26=vi ↑k/\f 31=v19/\f 32=vi (List.length (gI r ↑k):Int)/\f 33=vi ↑i/\Sl gq (is 0) w g_v g.2/\Sl gq (is 0) w r_v r/\Bx gq (is 1) w b3 [vi g.1,g_v]/\Ow gq (is 2) (is 2) w v12 seen/\Sl gq (is 0) w v19 (gI r ↑k)/\(i:Int)<=((List.length (gI r ↑k):Int):Int)/\(cu seen n g r k i)) (λ⟨n,i,seen,gq⟩=>Int.toNat (((List.length (gI r ↑k):Int):Int)-(i:Int))) (n,0,seen,g18) ?_ ?_
    · exact⟨bH,zs2,zs5,zs6,rfl,zs24,zs25,zs26,rfl,rfl,rfl,Rg,Rr,bx5,o14,r21,by omega,by exact hinv⟩
    clear Rg Rr bx5 o14 r21 bH
    rintro⟨n,i,seen,g25⟩ f23 w24 ⟨bH,zs2,zs5,zs6,zs7,zs24,zs25,zs26,zs31,zs32,zs33,Rg,Rr,bx5,o14,r21,hle_i,hin⟩ back11
    have hsl:=hin.rm.len
    have hbd:=hin.bd
    refine aa (a8 rfl (lx (b6 (m:=↑i) (n:=(List.length (gI r ↑k):Int)) zs33 zs32) (ab (aa ?_))))
    by_cases p11:(i:Int)<(List.length (gI r ↑k):Int)
    ·
     refine ag rfl (dt p11) (am (aa (aq (aa (a8 rfl (lx (al (v:=v19) (i:=↑i) dl rfl zs31 r21 zs33 (by omega) (by omega)) (lx (br (v:=v19) (i:=↑i) aI rfl r21 (by omega) (by omega) (by decide) rfl) (ai (gI (gI r ↑k) ↑i) (ab (aa (aa (a8 rfl (mi (gI (gI r ↑k) ↑i) ?_)))))))))))))
     refine lx (b6 (m:=(gI (gI r ↑k) ↑i)) (n:=0) rfl rfl) (mv (vb (decide ((gI (gI r ↑k) ↑i)<0))) ?_)
     by_cases q39:(gI (gI r ↑k) ↑i)<0
     ·
      refine ae (wn (dt q39)) (ae (wn (dt q39)) (ae (wn (dt q39)) (ae (wn (dt q39)) (lw (vb true) (aE rfl (dt q39) rfl) (mv (vb true) (ae (wn rfl) (ae (wn rfl) (ae (wn rfl) (ae (wn rfl) (lw (vb true) (aE rfl rfl rfl) (mv (vb true) (ae (wn rfl) (ae (wn rfl) (ae (wn rfl) (ae (wn rfl) (ae (wn rfl) (ae (wn rfl) (ae (wn rfl) (ae (wn rfl) (ae (wn rfl) (ae (wn rfl) (ae (wn rfl) ?_))))))))))))))))))))))
      refine lw (vb true) (aE rfl rfl rfl) (ab (ag rfl rfl (aa ?_)))
      clear bx5 o14 r21
      refine a8 rfl (ai 4 (ab (au (vs:=[vi 4]) Try.func41 (.tmp rfl .nil) ?_)))
      have e0:(4:Int)=(bR g r):=by
        exact(ed hm (hin.bad (by omega) ‹_› (by rintro⟨⟨h1,h2⟩,h3⟩;omega))).symm
      exact⟨ri e0,bH.below⟩
     refine lv (vi (gI (gI r ↑k) ↑i)) (wy (df q39)) (aD rfl) (lv (v12) (wy (df q39)) (aD zs5) ?_)
     have len26:=(o14.flat).small
     refine lv (vi (seen.length:Int)) (wy (df q39)) (aT nQ rfl o14.flat) (lv (vb (decide ((seen.length:Int)<=(gI (gI r ↑k) ↑i)))) (wy (df q39)) (gh (m:=(gI (gI r ↑k) ↑i)) (n:=(seen.length:Int)) rfl rfl) (lw (vb (decide ((seen.length:Int)<=(gI (gI r ↑k) ↑i)))) (aC rfl (df q39) rfl) (mv (vb (decide ((seen.length:Int)<=(gI (gI r ↑k) ↑i)))) ?_)))
     by_cases q45:(seen.length:Int)<=(gI (gI r ↑k) ↑i)
     ·
      refine ae (wn (dt q45)) (ae (wn (dt q45)) (ae (wn (dt q45)) (ae (wn (dt q45)) (lw (vb true) (aE rfl (dt q45) rfl) (mv (vb true) (ae (wn rfl) (ae (wn rfl) (ae (wn rfl) (ae (wn rfl) (ae (wn rfl) (ae (wn rfl) (ae (wn rfl) (ae (wn rfl) (ae (wn rfl) (ae (wn rfl) (ae (wn rfl) (lw (vb true) (aE rfl rfl rfl) (ab (ag rfl rfl ?_)))))))))))))))))))
      refine aa ?_
      clear bx5 o14 r21
      refine a8 rfl (ai 4 (ab (au (vs:=[vi 4]) Try.func41 (.tmp rfl .nil) ?_)))
      have e0:(4:Int)=(bR g r):=by
        exact(ed hm (hin.bad (by omega) ‹_› (by rintro⟨⟨h1,h2⟩,h3⟩;omega))).symm
      exact⟨ri e0,bH.below⟩
     refine lv (v12) (wy (df q45)) (aD zs5) (lv (vi (gI (gI r ↑k) ↑i)) (wy (df q45)) (aD rfl) (lv (Value.pointer (some (bu v12 1 (Int.toNat (gI (gI r ↑k) ↑i))))) (wy (df q45)) (al (α:=Bool) (xs:=seen) (v:=v12) (i:=(gI (gI r ↑k) ↑i)) nQ rfl rfl o14.flat rfl (by omega) (by omega)) (lv (vb (gI seen (gI (gI r ↑k) ↑i))) (wy (df q45)) (br (α:=Bool) (xs:=seen) (v:=v12) (i:=(gI (gI r ↑k) ↑i)) fN rfl o14.flat (by omega) (by omega) (by decide) rfl) (lw (vb (gI seen (gI (gI r ↑k) ↑i))) (aC rfl (df q45) rfl) (mv (vb (gI seen (gI (gI r ↑k) ↑i))) ?_)))))
     by_cases q51:(gI seen (gI (gI r ↑k) ↑i))=true
     ·
      refine ae (wn q51) (ae (wn q51) (ae (wn q51) (ae (wn q51) (ae (wn q51) (ae (wn q51) (ae (wn q51) (ae (wn q51) (ae (wn q51) (ae (wn q51) (ae (wn q51) (lw (vb true) (aE rfl q51 rfl) (ab (ag rfl rfl (aa ?_))))))))))))))
      clear bx5 o14 r21
      refine a8 rfl (ai 4 (ab (au (vs:=[vi 4]) Try.func41 (.tmp rfl .nil) ?_)))
      have e0:(4:Int)=(bR g r):=by
        exact(ed hm (hin.twice (by omega) ‹_› (by omega) (by omega) ‹_›)).symm
      exact⟨ri e0,bH.below⟩
     refine lv (vp b3 1) (wy (Bool.eq_false_iff.2 q51)) (ad fV rfl rfl zs2 rfl) (lv (g_v) (wy (Bool.eq_false_iff.2 q51)) (af cw rfl bx5 rfl) (lv (vi (gI (gI r ↑k) ↑i)) (wy (Bool.eq_false_iff.2 q51)) (aD rfl) (lv (vi ((gI (gI r ↑k) ↑i)/2)) (wy (Bool.eq_false_iff.2 q51)) (r5 (m:=(gI (gI r ↑k) ↑i)) (n:=2) rfl rfl (by omega) (by omega) (by omega)) (lv (vi (gI (gI r ↑k) ↑i)) (wy (Bool.eq_false_iff.2 q51)) (aD rfl) (lv (vi ((gI (gI r ↑k) ↑i)%2)) (wy (Bool.eq_false_iff.2 q51)) (my (m:=(gI (gI r ↑k) ↑i)) (n:=2) rfl rfl (by omega) (by omega)) ?_)))))
     refine lv (Value.pointer (some (bu g_v 2 (Int.toNat ((gI (gI r ↑k) ↑i)/2))))) (wy (Bool.eq_false_iff.2 q51)) (al (α:=Pt) (xs:=g.2) (v:=g_v) (i:=(gI (gI r ↑k) ↑i)/2) jQ rfl rfl Rg rfl (by omega) (by omega)) (lv (Value.pointer (some ⟨(bu g_v 2 (Int.toNat ((gI (gI r ↑k) ↑i)/2))).block,(bu g_v 2 (Int.toNat ((gI (gI r ↑k) ↑i)/2))).off+(Int.toNat ((gI (gI r ↑k) ↑i)%2)),none⟩)) (wy (Bool.eq_false_iff.2 q51)) (cN (i:=(gI (gI r ↑k) ↑i)%2) m9 rfl rfl rfl (by omega) (by omega) (Nat.mul_one _)) ?_)
     refine lv (vi (pI (gI g.2 ((gI (gI r ↑k) ↑i)/2)) ((gI (gI r ↑k) ↑i)%2))) (wy (Bool.eq_false_iff.2 q51)) (ei (α:=Pt) (xs:=g.2) (v:=g_v) (i:=(gI (gI r ↑k) ↑i)/2) aI rfl Rg (by omega) (by omega) (show Int.toNat ((gI (gI r ↑k) ↑i)%2)<2 by omega) (lM _ (by omega) (by omega))) (lv (vi ↑k) (wy (Bool.eq_false_iff.2 q51)) (aD zs7) (lv (vb (!(decide ((pI (gI g.2 ((gI (gI r ↑k) ↑i)/2)) ((gI (gI r ↑k) ↑i)%2))=(k:Int))))) (wy (Bool.eq_false_iff.2 q51)) (dU (m:=pI (gI g.2 ((gI (gI r ↑k) ↑i)/2)) ((gI (gI r ↑k) ↑i)%2)) (n:=↑k) rfl rfl) ?_))
     refine lw (vb (!(decide ((pI (gI g.2 ((gI (gI r ↑k) ↑i)/2)) ((gI (gI r ↑k) ↑i)%2))=(k:Int))))) (aC rfl (Bool.eq_false_iff.2 q51) rfl) (ab ?_)
     by_cases p13:(pI (gI g.2 ((gI (gI r ↑k) ↑i)/2)) ((gI (gI r ↑k) ↑i)%2))=(k:Int)
     ·
      refine aj rfl (congrArg Bool.not (dt p13)) (am (aa (a8 rfl (mz zs5 (mi (gI (gI r ↑k) ↑i) (lx (al (v:=v12) (i:=(gI (gI r ↑k) ↑i)) nQ rfl rfl o14.flat rfl (by omega) (by omega)) (lo (dq (i:=(gI (gI r ↑k) ↑i)) true fN rfl rfl o14 (by omega) (by omega) rfl ?_))))))))
      intro w27 ch28 bx29
      clear o14
      refine ab (a8 rfl (mz zs6 (lx (aP (m:=n) (n:=1) rfl rfl (by omega)) (ai (n+1) (ab (ao (a8 rfl (lx (aP (m:=↑i) (n:=1) zs33 rfl (by omega)) (mi ((i:Int)+1) (ab ?_))))))))))
      refine back11 (n+1,i+1,(List.set seen (Int.toNat (gI (gI r ↑k) ↑i)) true),g25) _ _ ⟨bH.ce ch28,zs2,zs5,rfl,zs7,zs24,zs25,zs26,zs31,zs32,rfl,Rg.ce ch28,Rr.ce ch28,bx5.ce ch28,bx29,r21.ce ch28,by omega,?_⟩ ?_
      · show cu (List.set seen (Int.toNat (gI (gI r ↑k) ↑i)) true) (n+1) g r k (i+1)
        exact hin.next ‹_› (by omega) (by omega) (Bool.eq_false_iff.2 ‹_›) ‹_›
      · show Int.toNat (((List.length (gI r ↑k):Int):Int)-((i+1):Int))<Int.toNat (((List.length (gI r ↑k):Int):Int)-(i:Int))
        omega
     refine ag rfl (congrArg Bool.not (df p13)) (aa ?_)
     clear bx5 o14 r21
     refine a8 rfl (ai 4 (ab (au (vs:=[vi 4]) Try.func41 (.tmp rfl .nil) ?_)))
     have e0:(4:Int)=(bR g r):=by
       exact(ed hm (hin.bad (by omega) ‹_› (by rintro⟨⟨h1,h2⟩,h3⟩;exact absurd h3 ‹_›))).symm
     exact⟨ri e0,bH.below⟩
    refine aj rfl (df p11) (aM rfl (ao ?_))
    clear r21
    refine a8 rfl (lx (aP (m:=↑k) (n:=1) zs26 rfl (by omega)) (mi ((k:Int)+1) (ab ?_)))
    refine back8 (n,k+1,seen,g25) _ _ ⟨bH,zs2,zs5,zs6,zs24,zs25,rfl,Rg,Rr,bx5,o14,by omega,?_⟩ ?_
    · show cu seen n g r (k+1) 0
      exact hin.row_done ‹_› ‹_›
    · show Int.toNat (((r.length:Int):Int)-((k+1):Int))<Int.toNat (((r.length:Int):Int)-(k:Int))
      omega
   refine aj rfl (df p8) (aM rfl (aa (aa ?_)))
   clear bx5
   refine a8 rfl (mz zs6 (mz zs5 ?_))
   have len30:=(o14.flat).small
   refine lx (aT nQ rfl o14.flat) (lx (dU (m:=n) (n:=(seen.length:Int)) rfl rfl) (ab ?_))
   by_cases p19:n=(seen.length:Int)
   ·
    refine aj rfl (congrArg Bool.not (dt p19)) (am (aa ?_))
    clear o14
    refine a8 rfl (ai 0 (ab (au (vs:=[vi 0]) Try.func41 (.tmp rfl .nil) ?_)))
    have e0:(0:Int)=(bR g r):=by
      exact(jy hm ((hinv.fin (by omega) (by omega) rfl).2 (by omega))).symm
    exact⟨ri e0,bH.below⟩
   refine ag rfl (congrArg Bool.not (df p19)) (aa ?_)
   clear o14
   refine a8 rfl (ai 4 (ab (au (vs:=[vi 4]) Try.func41 (.tmp rfl .nil) ?_)))
   have e0:(4:Int)=(bR g r):=by
     exact(ed hm (λh=>by have:=(hinv.fin (by omega) (by omega) rfl).1 h;omega)).symm
   exact⟨ri e0,bH.below⟩
  refine ag rfl (congrArg Bool.not (df p3)) (aa ?_)
  clear bx5
  refine a8 rfl (ai 4 (ab (au (vs:=[vi 4]) Try.func41 (.tmp rfl .nil) ?_)))
  have e0:(4:Int)=(bR g r):=by
    exact(ed hm (λh=>by have:=h.1;omega)).symm
  replace bH:=bH.cn ch2
  replace bH:=bH.cn hb7
  exact⟨ri e0,bH.below⟩
 refine ag rfl (congrArg Bool.not (Bool.eq_false_iff.2 p1)) (aa ?_)
 clear bx5
 refine a8 rfl (ai 1 (ab (au (vs:=[vi 1]) Try.func41 (.tmp rfl .nil) ?_)))
 have e0:(1:Int)=(bR g r):=by
   (have hn:¬bF g:=λh=>p1 (dt h)
    unfold bR;rw[if_neg hn];done)
 replace bH:=bH.cn ch2
 replace bH:=bH.cn hb7
 exact⟨ri e0,bH.below⟩
theorem uf(w0:World)(g:(Int)×(List Pt))(g_v:Value)(hg_v:Ro w0 g_v g.2)(r:bY)(r_v:Value)(hr_v:Ro w0 r_v r):
    Calls Try.prog 9 #[vg [vi g.1,g_v],r_v] w0 (λee w=>ee= .returned (vi (bR g r))/\dd w0.heap.size w0 w):=by
 refine av Try.func9 rfl nq ?_
 have bH:=aX.start w0
 have Rg:=hg_v.sl
 have Rr:=hr_v.sl
 refine aa (a8 rfl (cj rfl (bj c0 (is 1) (1,0) rfl rfl ?_)))
 intro g4 w1 b3 ch2 bx5
 replace bx5:Bx g4 (is 1) w1 b3 [vi g.1,g_v]:=bx5
 refine ai 0 (ab (aa (aa (a8 rfl (lx (ak (ds:=[vi g.1,g_v]) cL rfl bx5 rfl rfl) ?_)))))
 replace Rg:=Rg.cn ch2
 refine lo (aK (v:=vb (d6 g)) (aA (vals:=[vg [vi g.1,g_v]]) Try.func14 uq uw rfl) (qn w1 g g_v (Rg).ro) ?_)
 intro w6 hb7
 replace hb7:=ar hb7 g4
 refine lx (dj (b:=(d6 g)) rfl) (ab ?_)
 by_cases p1:(d6 g)=true
 ·
  have hm:=of_decide_eq_true p1
  have hm0:=hm
  obtain⟨hm1,hm2,hm3,hm4⟩:=hm0
  refine aj rfl (congrArg Bool.not p1) (am (aa (aa (a8 rfl (mv r_v ?_)))))
  replace Rr:=(Rr.cn ch2).cn hb7
  have len8:=(Rr).small
  refine lx (aT kr rfl Rr) (lx (ad fV rfl rfl rfl rfl) ?_)
  replace bx5:=bx5.cn hb7
  refine lx (af aI rfl bx5 rfl) (lx (dU (m:=(r.length:Int)) (n:=g.1) rfl rfl) (ab ?_))
  by_cases p3:(r.length:Int)=g.1
  ·
   refine aj rfl (congrArg Bool.not (dt p3)) (am (aa (a8 rfl (lx (ad fV rfl rfl rfl rfl) (lx (af cw rfl bx5 rfl) ?_)))))
   replace Rg:=Rg.cn hb7
   have len9:=(Rg).small
   refine lx (aT jQ rfl Rg) (lx (eK (m:=2) (n:=(g.2.length:Int)) rfl rfl (by omega)) (lo (iT (α:=Bool) (l:=2*(g.2.length:Int)) (cp:=2*(g.2.length:Int)) g4 (is 2) (is 2) (2,0) rfl false nQ fN rfl rfl rfl (by omega) (by omega) (by omega) (by omega) ?_)))
   intro g10 w11 v12 ch13 o14 _
   refine ma v12 (ab (aa (a8 rfl (ai 0 (ab (aa (aa (a8 rfl (ai 0 (ab (aq ?_)))))))))))
   refine aQ (σ:=Int×Nat×(List Bool)×aH) (λ⟨n,k,seen,gq⟩ f w=>aX w0 gq w/\f 1=r_v/\f 2=vp b3 0/\f 5=v12/\f 6=vi n/\f 7=vi ↑k/\Sl gq (is 0) w g_v g.2/\Sl gq (is 0) w r_v r/\Bx gq (is 1) w b3 [vi g.1,g_v]/\Ow gq (is 2) (is 2) w v12 seen/\(k:Int)<=(g.1:Int)/\(cu seen n g r k 0)) (λ⟨n,k,seen,gq⟩=>Int.toNat ((g.1:Int)-(k:Int))) (0,0,(List.replicate (Int.toNat (2*(g.2.length:Int))) false),g10) ?_ ?_
   have C15:=cg [] (ch2.n.seq (hb7.n.seq ch13.n))
   · exact⟨bH.ca C15,rfl,rfl,rfl,rfl,rfl,Rg.cn ch13,Rr.cn ch13,bx5.cn ch13,o14,by omega,by exact cu.start g r⟩
   clear Rg Rr bx5 o14 bH
   rintro⟨n,k,seen,g18⟩ f16 w17 ⟨bH,zs1,zs2,zs5,zs6,zs7,Rg,Rr,bx5,o14,hle_k,hinv⟩ back8
   have hsl:=hinv.rm.len
   have hbd:=hinv.bd
   refine aa (aa (a8 rfl (mz zs7 (lx (ad fV rfl rfl zs2 rfl) (lx (af aI rfl bx5 rfl) (lx (b6 (m:=↑k) (n:=g.1) rfl rfl) (ab ?_)))))))
   by_cases p8:(k:Int)<g.1
   ·
    refine ag rfl (dt p8) (am (aa (aq (aa (a8 rfl (ai 0 (ab (aq ?_))))))))
    refine aQ (σ:=Int×Nat×(List Bool)×aH) (λ⟨n,i,seen,gq⟩ f w=>aX w0 gq w/\f 1=r_v/\f 2=vp b3 0/\f 5=v12/\f 6=vi n/\f 7=vi ↑k/\f 8=vi ↑i/\Sl gq (is 0) w g_v g.2/\Sl gq (is 0) w r_v r/\Bx gq (is 1) w b3 [vi g.1,g_v]/\Ow gq (is 2) (is 2) w v12 seen/\(i:Int)<=((List.length (gI r ↑k):Int):Int)/\(cu seen n g r k i)) (λ⟨n,i,seen,gq⟩=>Int.toNat (((List.length (gI r ↑k):Int):Int)-(i:Int))) (n,0,seen,g18) ?_ ?_
    · exact⟨bH,zs1,zs2,zs5,zs6,zs7,rfl,Rg,Rr,bx5,o14,by omega,by exact hinv⟩
    clear Rg Rr bx5 o14 bH
    rintro⟨n,i,seen,g21⟩ f19 w20 ⟨bH,zs1,zs2,zs5,zs6,zs7,zs8,Rg,Rr,bx5,o14,hle_i,hin⟩ back11
    have hsl:=hin.rm.len
    have hbd:=hin.bd
    refine aa (aa (a8 rfl (mz zs8 (mz zs1 (mz zs7 (lx (al (v:=r_v) (i:=↑k) kr rfl rfl Rr rfl (by omega) (by omega)) ?_))))))
    obtain⟨v22,cel23,r24⟩:=dh (r:=(k:Int)) Rr (by omega) (by omega)
    refine lx (bD el rfl cel23) ?_
    have len25:=(r24).small
    refine lx (aT dl rfl r24) (lx (b6 (m:=↑i) (n:=(List.length (gI r ↑k):Int)) rfl rfl) (ab ?_))
    by_cases p11:(i:Int)<(List.length (gI r ↑k):Int)
    ·
     refine ag rfl (dt p11) (am (aa (aq (aa ?_))))
     clear r24
     refine a8 rfl (mz zs1 (mz zs7 (lx (al (v:=r_v) (i:=↑k) kr rfl rfl Rr rfl (by omega) (by omega)) ?_)))
     obtain⟨v26,cel27,r28⟩:=dh (r:=(k:Int)) Rr (by omega) (by omega)
     refine lx (bD el rfl cel27) (mz zs8 (lx (al (v:=v26) (i:=↑i) dl rfl rfl r28 rfl (by omega) (by omega)) (lx (br (v:=v26) (i:=↑i) aI rfl r28 (by omega) (by omega) (by decide) rfl) (ai (gI (gI r ↑k) ↑i) (ab (aa (aa ?_)))))))
     clear r28
     refine a8 rfl (mi (gI (gI r ↑k) ↑i) (lx (b6 (m:=(gI (gI r ↑k) ↑i)) (n:=0) rfl rfl) (mv (vb (decide ((gI (gI r ↑k) ↑i)<0))) ?_)))
     by_cases q47:(gI (gI r ↑k) ↑i)<0
     ·
      refine ae (wn (dt q47)) (ae (wn (dt q47)) (ae (wn (dt q47)) (ae (wn (dt q47)) (lw (vb true) (aE rfl (dt q47) rfl) (mv (vb true) (ae (wn rfl) (ae (wn rfl) (ae (wn rfl) (ae (wn rfl) (lw (vb true) (aE rfl rfl rfl) (mv (vb true) (ae (wn rfl) (ae (wn rfl) (ae (wn rfl) (ae (wn rfl) (ae (wn rfl) ?_))))))))))))))))
      refine lw (vb true) (aE rfl rfl rfl) (ab (ag rfl rfl (aa ?_)))
      clear bx5 o14
      refine a8 rfl (ai 4 (ab (au (vs:=[vi 4]) Try.func9 (.tmp rfl .nil) ?_)))
      have e0:(4:Int)=(bR g r):=by
        exact(ed hm (hin.bad (by omega) ‹_› (by rintro⟨⟨h1,h2⟩,h3⟩;omega))).symm
      exact⟨ri e0,bH.below⟩
     refine lv (vi (gI (gI r ↑k) ↑i)) (wy (df q47)) (aD rfl) (lv (v12) (wy (df q47)) (aD zs5) ?_)
     have len29:=(o14.flat).small
     refine lv (vi (seen.length:Int)) (wy (df q47)) (aT nQ rfl o14.flat) (lv (vb (decide ((seen.length:Int)<=(gI (gI r ↑k) ↑i)))) (wy (df q47)) (gh (m:=(gI (gI r ↑k) ↑i)) (n:=(seen.length:Int)) rfl rfl) (lw (vb (decide ((seen.length:Int)<=(gI (gI r ↑k) ↑i)))) (aC rfl (df q47) rfl) (mv (vb (decide ((seen.length:Int)<=(gI (gI r ↑k) ↑i)))) ?_)))
     by_cases q53:(seen.length:Int)<=(gI (gI r ↑k) ↑i)
     ·
      refine ae (wn (dt q53)) (ae (wn (dt q53)) (ae (wn (dt q53)) (ae (wn (dt q53)) (lw (vb true) (aE rfl (dt q53) rfl) (mv (vb true) (ae (wn rfl) (ae (wn rfl) (ae (wn rfl) (ae (wn rfl) (ae (wn rfl) (lw (vb true) (aE rfl rfl rfl) (ab (ag rfl rfl ?_)))))))))))))
      refine aa ?_
      clear bx5 o14
      refine a8 rfl (ai 4 (ab (au (vs:=[vi 4]) Try.func9 (.tmp rfl .nil) ?_)))
      have e0:(4:Int)=(bR g r):=by
        exact(ed hm (hin.bad (by omega) ‹_› (by rintro⟨⟨h1,h2⟩,h3⟩;omega))).symm
      exact⟨ri e0,bH.below⟩
     refine lv (v12) (wy (df q53)) (aD zs5) (lv (vi (gI (gI r ↑k) ↑i)) (wy (df q53)) (aD rfl) (lv (Value.pointer (some (bu v12 1 (Int.toNat (gI (gI r ↑k) ↑i))))) (wy (df q53)) (al (α:=Bool) (xs:=seen) (v:=v12) (i:=(gI (gI r ↑k) ↑i)) nQ rfl rfl o14.flat rfl (by omega) (by omega)) (lv (vb (gI seen (gI (gI r ↑k) ↑i))) (wy (df q53)) (br (α:=Bool) (xs:=seen) (v:=v12) (i:=(gI (gI r ↑k) ↑i)) fN rfl o14.flat (by omega) (by omega) (by decide) rfl) (lw (vb (gI seen (gI (gI r ↑k) ↑i))) (aC rfl (df q53) rfl) (mv (vb (gI seen (gI (gI r ↑k) ↑i))) ?_)))))
     by_cases q59:(gI seen (gI (gI r ↑k) ↑i))=true
     ·
      refine ae (wn q59) (ae (wn q59) (ae (wn q59) (ae (wn q59) (ae (wn q59) (lw (vb true) (aE rfl q59 rfl) (ab (ag rfl rfl (aa ?_))))))))
      clear bx5 o14
      refine a8 rfl (ai 4 (ab (au (vs:=[vi 4]) Try.func9 (.tmp rfl .nil) ?_)))
      have e0:(4:Int)=(bR g r):=by
        exact(ed hm (hin.twice (by omega) ‹_› (by omega) (by omega) ‹_›)).symm
      exact⟨ri e0,bH.below⟩
     refine lv (vg [vi g.1,g_v]) (wy (Bool.eq_false_iff.2 q59)) (ak (ds:=[vi g.1,g_v]) cL zs2 bx5 rfl rfl) (lv (vi (gI (gI r ↑k) ↑i)) (wy (Bool.eq_false_iff.2 q59)) (aD rfl) (cj (wy (Bool.eq_false_iff.2 q59)) (aK (v:=vi (aL g (gI (gI r ↑k) ↑i))) (aA (vals:=[vg [vi g.1,g_v],vi (gI (gI r ↑k) ↑i)]) Try.func25 ye zt rfl) (iD w20 g g_v (Rg).ro (gI (gI r ↑k) ↑i) (by omega) (by omega)) ?_)))
     intro w30 hb31
     replace hb31:=ar hb31 g21
     refine lv (vi ↑k) (wy (Bool.eq_false_iff.2 q59)) (aD zs7) (lv (vb (!(decide ((aL g (gI (gI r ↑k) ↑i))=(k:Int))))) (wy (Bool.eq_false_iff.2 q59)) (dU (m:=aL g (gI (gI r ↑k) ↑i)) (n:=↑k) rfl rfl) (lw (vb (!(decide ((aL g (gI (gI r ↑k) ↑i))=(k:Int))))) (aC rfl (Bool.eq_false_iff.2 q59) rfl) (ab ?_)))
     by_cases p14:(aL g (gI (gI r ↑k) ↑i))=(k:Int)
     ·
      refine aj rfl (congrArg Bool.not (dt p14)) (am (aa (a8 rfl (mz zs5 (mi (gI (gI r ↑k) ↑i) ?_)))))
      replace o14:=o14.cn hb31
      refine lx (al (v:=v12) (i:=(gI (gI r ↑k) ↑i)) nQ rfl rfl o14.flat rfl (by omega) (by omega)) (lo (dq (i:=(gI (gI r ↑k) ↑i)) true fN rfl rfl o14 (by omega) (by omega) rfl ?_))
      intro w32 ch33 bx34
      clear o14
      refine ab (a8 rfl (mz zs6 (lx (aP (m:=n) (n:=1) rfl rfl (by omega)) (ai (n+1) (ab (ao (a8 rfl (mz zs8 (lx (aP (m:=↑i) (n:=1) rfl rfl (by omega)) (ai ((i:Int)+1) ?_))))))))))
      refine ab ?_
      replace bH:=bH.cn hb31
      refine back11 (n+1,i+1,(List.set seen (Int.toNat (gI (gI r ↑k) ↑i)) true),g21) _ _ ⟨bH.ce ch33,zs1,zs2,zs5,rfl,zs7,rfl,(Rg.cn hb31).ce ch33,(Rr.cn hb31).ce ch33,(bx5.cn hb31).ce ch33,bx34,by omega,?_⟩ ?_
      · show cu (List.set seen (Int.toNat (gI (gI r ↑k) ↑i)) true) (n+1) g r k (i+1)
        exact hin.next ‹_› (by omega) (by omega) (Bool.eq_false_iff.2 ‹_›) ‹_›
      · show Int.toNat (((List.length (gI r ↑k):Int):Int)-((i+1):Int))<Int.toNat (((List.length (gI r ↑k):Int):Int)-(i:Int))
        omega
     refine ag rfl (congrArg Bool.not (df p14)) (aa ?_)
     clear bx5 o14
     refine a8 rfl (ai 4 (ab (au (vs:=[vi 4]) Try.func9 (.tmp rfl .nil) ?_)))
     have e0:(4:Int)=(bR g r):=by
       exact(ed hm (hin.bad (by omega) ‹_› (by rintro⟨⟨h1,h2⟩,h3⟩;omega))).symm
     replace bH:=bH.cn hb31
     exact⟨ri e0,bH.below⟩
    refine aj rfl (df p11) (aM rfl (ao ?_))
    clear r24
    refine a8 rfl (mz zs7 (lx (aP (m:=↑k) (n:=1) rfl rfl (by omega)) (ai ((k:Int)+1) (ab ?_))))
    refine back8 (n,k+1,seen,g21) _ _ ⟨bH,zs1,zs2,zs5,zs6,rfl,Rg,Rr,bx5,o14,by omega,?_⟩ ?_
    · show cu seen n g r (k+1) 0
      exact hin.row_done (by omega) ‹_›
    · show Int.toNat ((g.1:Int)-((k+1):Int))<Int.toNat ((g.1:Int)-(k:Int))
      omega
   refine aj rfl (df p8) (aM rfl (aa (aa ?_)))
   clear bx5
   refine a8 rfl (mz zs6 (mz zs5 ?_))
   have len35:=(o14.flat).small
   refine lx (aT nQ rfl o14.flat) (lx (b6 (m:=n) (n:=(seen.length:Int)) rfl rfl) (ab ?_))
   by_cases p18:n<(seen.length:Int)
   ·
    refine ag rfl (dt p18) (aa ?_)
    clear o14
    refine a8 rfl (ai 4 (ab (au (vs:=[vi 4]) Try.func9 (.tmp rfl .nil) ?_)))
    have e0:(4:Int)=(bR g r):=by
      exact(ed hm (λh=>by have:=(hinv.fin (by omega) (by omega) rfl).1 h;omega)).symm
    exact⟨ri e0,bH.below⟩
   refine aj rfl (df p18) (am (aa ?_))
   clear o14
   refine a8 rfl (ai 0 (ab (au (vs:=[vi 0]) Try.func9 (.tmp rfl .nil) ?_)))
   have e0:(0:Int)=(bR g r):=by
     exact(jy hm ((hinv.fin (by omega) (by omega) rfl).2 (by omega))).symm
   exact⟨ri e0,bH.below⟩
  refine ag rfl (congrArg Bool.not (df p3)) (aa ?_)
  clear bx5
  refine a8 rfl (ai 4 (ab (au (vs:=[vi 4]) Try.func9 (.tmp rfl .nil) ?_)))
  have e0:(4:Int)=(bR g r):=by
    exact(ed hm (λh=>by have:=h.1;omega)).symm
  replace bH:=bH.cn ch2
  replace bH:=bH.cn hb7
  exact⟨ri e0,bH.below⟩
 refine ag rfl (congrArg Bool.not (Bool.eq_false_iff.2 p1)) (aa ?_)
 clear bx5
 refine a8 rfl (ai 1 (ab (au (vs:=[vi 1]) Try.func9 (.tmp rfl .nil) ?_)))
 have e0:(1:Int)=(bR g r):=by
   (have hn:¬bF g:=λh=>p1 (dt h)
    unfold bR;rw[if_neg hn];done)
 replace bH:=bH.cn ch2
 replace bH:=bH.cn hb7
 exact⟨ri e0,bH.below⟩
theorem pc(w0:World)(s:List Int)(s_v:Value)(hs_v:Ro w0 s_v s)(v:Int):
    Calls Try.prog 52 #[s_v,vi v] w0 (λee w=>ee= .returned (vi (dy s v))/\dd w0.heap.size w0 w):=by
 refine av Try.func52 rfl nq ?_
 have bH:=aX.start w0
 have Rs:=hs_v.sl
 refine aa (a8 rfl (ai 0 (ab (aa (aa (a8 rfl (mv s_v ?_)))))))
 have len1:=(Rs).small
 refine lx (aT dl rfl Rs) (mi 0 (ab (aq ?_)))
 refine aQ (σ:=Nat×aH) (λ⟨k,gq⟩ f w=>aX w0 gq w/\f 0=s_v/\f 1=vi v/\f 7=vi (s.length:Int)/\f 8=vi ↑k/\Sl gq (is 0) w s_v s/\(k:Int)<=((s.length:Int):Int)/\(∀j:Nat,j<k->¬v=gI s ↑j)) (λ⟨k,gq⟩=>Int.toNat (((s.length:Int):Int)-(k:Int))) (0,c0) ?_ ?_
 · exact⟨bH,rfl,rfl,rfl,rfl,Rs,by omega,by intro j hj;omega⟩
 clear Rs bH
 rintro⟨k,g4⟩ f2 w3 ⟨bH,zs0,zs1,zs7,zs8,Rs,hle_k,hinv⟩ back2
 refine aa (a8 rfl (lx (b6 (m:=↑k) (n:=(s.length:Int)) zs8 zs7) (ab (aa ?_))))
 by_cases p2:(k:Int)<(s.length:Int)
 ·
  refine ag rfl (dt p2) (am (aa (aq (aa (a8 rfl (mz zs8 (ai (k:Int) (ab (aa (a8 rfl (mz zs1 (mz zs0 ?_))))))))))))
  refine mi ↑k (lx (al (v:=s_v) (i:=↑k) dl rfl rfl Rs rfl (by omega) (by omega)) (lx (br (v:=s_v) (i:=↑k) aI rfl Rs (by omega) (by omega) (by decide) rfl) (lx (cq (m:=v) (n:=(gI s ↑k)) rfl rfl) (ab ?_))))
  by_cases p4:v=(gI s ↑k)
  ·
   refine ag rfl (dt p4) (aa (a8 rfl (mi ↑k (ai (k:Int) (ab (au (vs:=[vi ↑k]) Try.func52 (.tmp rfl .nil) ?_))))))
   have e0:((k:Int):Int)=(dy s v):=by
     exact uv hinv ‹_› ‹_›
   exact⟨ri e0,bH.below⟩
  refine aj rfl (df p4) (am (ao (a8 rfl (lx (aP (m:=↑k) (n:=1) zs8 rfl (by omega)) (mi ((k:Int)+1) (ab ?_))))))
  refine back2 (k+1,g4) _ _ ⟨bH,zs0,zs1,zs7,rfl,Rs,by omega,?_⟩ ?_
  · show∀j:Nat,j<(k+1)->¬v=gI s ↑j
    intro j hj
    by_cases e0:j=k
    · subst e0;assumption
    · exact hinv j (by omega)
  · show Int.toNat (((s.length:Int):Int)-((k+1):Int))<Int.toNat (((s.length:Int):Int)-(k:Int))
    omega
 refine aj rfl (df p2) (aM rfl (aa (a8 rfl (ai (-1) (ab (au (vs:=[vi (-1)]) Try.func52 (.tmp rfl .nil) ?_))))))
 have e0:(-1:Int)=(dy s v):=by
   exact vU hinv ‹_›
 exact⟨ri e0,bH.below⟩
theorem uh(w0:World)(r:bY)(r_v:Value)(hr_v:Ro w0 r_v r):
    Calls Try.prog 42 #[r_v] w0 (λee w=>∃xx:aH×Value,ee= .returned ((λ⟨δ,rv0⟩=>rv0) xx)/\(λ(⟨δ,rv0⟩:aH×Value) (w:World)=>fI w0 δ w/\dT δ 1 w rv0 (cG r)) xx w):=by
 refine av Try.func42 rfl nq ?_
 have bH:=aX.start w0
 have Rr:=hr_v.sl
 refine aa (a8 rfl (ma vn (ab (aa (a8 rfl (mv r_v ?_))))))
 have len1:=(Rr).small
 refine lx (aT kr rfl Rr) (lo (j0 (α:=Int) (n:=(r.length:Int)) (cp:=(r.length:Int)) c0 1 kr el rfl rfl rfl (by omega) (by omega) (by omega) (by omega) ?_))
 intro g2 w3 v4 ch5 o6
 refine ma v4 (ab (aa (aa (a8 rfl (mv r_v ?_)))))
 replace Rr:=Rr.cn ch5
 refine lx (aT kr rfl Rr) (mi 0 (ab (aq ?_)))
 refine aQ (σ:=Nat×bY×aH) (λ⟨k,out,gq⟩ f w=>aX w0 gq w/\f 3=v4/\f 10=r_v/\f 11=vi (r.length:Int)/\f 12=vi ↑k/\Sl gq (is 0) w r_v r/\dT gq 1 w v4 out/\(k:Int)<=((r.length:Int):Int)/\(out=List.map gS (List.take k r)++List.replicate (r.length-k) [])) (λ⟨k,out,gq⟩=>Int.toNat (((r.length:Int):Int)-(k:Int))) (0,(List.replicate (Int.toNat (r.length:Int)) []),g2) ?_ ?_
 · exact⟨bH.cn ch5,rfl,rfl,rfl,rfl,Rr,o6,by omega,by simp⟩
 clear Rr o6 bH
 rintro⟨k,out,g9⟩ f7 w8 ⟨bH,zs3,zs10,zs11,zs12,Rr,o6,hle_k,hinv⟩ back3
 have hol:out.length=r.length:=by rw[hinv];simp;omega
 refine aa (a8 rfl (lx (b6 (m:=↑k) (n:=(r.length:Int)) zs12 zs11) (ab (aa ?_))))
 by_cases p3:(k:Int)<(r.length:Int)
 ·
  refine ag rfl (dt p3) (am (aa (aq (aa (a8 rfl (mz zs12 (lx (al (v:=r_v) (i:=↑k) kr rfl zs10 Rr zs12 (by omega) (by omega)) ?_)))))))
  obtain⟨v10,cel11,r12⟩:=dh (r:=(k:Int)) Rr (by omega) (by omega)
  refine lx (bD el rfl cel11) (ai (k:Int) (ma v10 (ab (aa (aa (a8 rfl (mv v10 ?_)))))))
  have len13:=(r12).small
  refine lx (aT dl rfl r12) (lx (cq (m:=(List.length (gI r ↑k):Int)) (n:=0) rfl rfl) (ab ?_))
  by_cases p5:(List.length (gI r ↑k):Int)=0
  ·
   refine ag rfl (dt p5) (aM rfl ?_)
   clear r12
   refine a8 rfl (lx (aP (m:=↑k) (n:=1) zs12 rfl (by omega)) (mi ((k:Int)+1) (ab ?_)))
   refine back3 (k+1,out,g9) _ _ ⟨bH,zs3,zs10,zs11,rfl,Rr,o6,by omega,?_⟩ ?_
   · show out=List.map gS (List.take (k+1) r)++List.replicate (r.length-(k+1)) []
     (rw[hinv];exact uu ‹_› (by rw[gS,if_pos];apply List.eq_nil_of_length_eq_zero;omega))
   · show Int.toNat (((r.length:Int):Int)-((k+1):Int))<Int.toNat (((r.length:Int):Int)-(k:Int))
     omega
  have hti:=su (l:=gI r ↑k) (by intro h;rw[h] at p5;simp at p5)
  have hti2:=hti.2.1
  have hti3:=hti.2.2
  refine aj rfl (df p5) (am (aa (a8 rfl (mv v10 (mv v10 (lo (aK (v:=vi (dI (gI r ↑k))) (aA (vals:=[v10]) Try.func53 yo yM rfl) (zm w8 (gI r ↑k) v10 (r12).ro (by omega)) ?_)))))))
  intro w14 hb15
  replace hb15:=ar hb15 g9
  replace r12:=r12.cn hb15
  refine lo (aK (v:=vi (dy (gI r ↑k) (dI (gI r ↑k)))) (aA (vals:=[v10,vi (dI (gI r ↑k))]) Try.func52 tk u4 rfl) (pc w14 (gI r ↑k) v10 (r12).ro (dI (gI r ↑k))) ?_)
  intro w16 hb17
  replace hb17:=ar hb17 g9
  refine ai (dy (gI r ↑k) (dI (gI r ↑k))) (ab (jN g9 [0,1,2,3,4,6,7,8,10] xu ?_))
  intro w19 ch18
  refine xp (v:=v4) 0 rfl (λw=>aD zs3) (xp (v:=vi ↑k) 1 rfl (λw=>aD rfl) (xp (v:=v10) 2 rfl (λw=>aD rfl) (xp (v:=vi (dy (gI r ↑k) (dI (gI r ↑k)))) 3 rfl (λw=>aD rfl) ?_)))
  replace r12:=(r12.cn hb17).cn ch18
  refine xp (v:=(jX v10 1 (Int.toNat (dy (gI r ↑k) (dI (gI r ↑k)))) (Int.toNat ((gI r ↑k).length)))) 4 rfl (λw=>mY (v:=v10) (l:=dy (gI r ↑k) (dI (gI r ↑k))) (h:=(gI r ↑k).length) dl rfl rfl r12 (.inl (congrArg some rfl)) (.inr ⟨rfl,rfl⟩) (by omega) (by omega) (by omega)) ?_
  have r21:=uV r12 (show Int.toNat (dy (gI r ↑k) (dI (gI r ↑k)))<=Int.toNat ((gI r ↑k).length) by omega) (show Int.toNat ((gI r ↑k).length)<=List.length _ by omega)
  refine xp (v:=v10) 6 rfl (λw=>aD rfl) (xp (v:=vi (dy (gI r ↑k) (dI (gI r ↑k)))) 7 rfl (λw=>aD rfl) (xp (v:=(jX v10 1 (Int.toNat 0) (Int.toNat (dy (gI r ↑k) (dI (gI r ↑k)))))) 8 rfl (λw=>mY (v:=v10) (l:=0) (h:=dy (gI r ↑k) (dI (gI r ↑k))) dl rfl rfl r12 (.inr ⟨rfl,rfl⟩) (.inl (congrArg some rfl)) (by omega) (by omega) (by omega)) ?_))
  have r23:=uV r12 (show Int.toNat 0<=Int.toNat (dy (gI r ↑k) (dI (gI r ↑k))) by omega) (show Int.toNat (dy (gI r ↑k) (dI (gI r ↑k)))<=List.length _ by omega)
  refine ra 5 rfl (by kernel_rfl) rfl (b9 (α:=Int) (xs:=([])) (ys:=(List.drop (Int.toNat (dy (gI r ↑k) (dI (gI r ↑k)))) (List.take (Int.toNat ((gI r ↑k).length)) (gI r ↑k)))) g9 (J:=is 2) (S:=is 2) (2,0) rfl dl aI (by decide) rfl rfl rfl Ow.nil r21 (by decide) (by(simp;omega)) ?_)
  intro g24 w25 v26 ch27 o28
  replace o28:Ow g24 (is 2) (is 2) w25 v26 (List.drop (Int.toNat (dy (gI r ↑k) (dI (gI r ↑k)))) (List.take (Int.toNat ((gI r ↑k).length)) (gI r ↑k))):=o28
  refine ra 9 rfl (by kernel_rfl) rfl ?_
  replace r23:=r23.ce ch27
  refine b9 (α:=Int) (xs:=(List.drop (Int.toNat (dy (gI r ↑k) (dI (gI r ↑k)))) (List.take (Int.toNat ((gI r ↑k).length)) (gI r ↑k)))) (ys:=(List.drop (Int.toNat 0) (List.take (Int.toNat (dy (gI r ↑k) (dI (gI r ↑k)))) (gI r ↑k)))) g24 (J:=is 2) (S:=is 2) (2,0) rfl dl aI (by decide) rfl rfl rfl o28 r23 (by decide) (by(simp;omega)) ?_
  intro g29 w30 v31 ch32 o33
  clear o28
  have C34:=cg [2] (hb15.n.seq (hb17.n.seq (ch18.n.seq ((ch27.l rfl).seq (ch32.l rfl)))))
  replace o6:=o6.ca C34
  refine xv 10 [9,5,8,7,6,4,3,2,1,0] rfl (al (v:=v4) (i:=↑k) kr rfl rfl o6.sl rfl (by omega) (by omega)) (ra 11 rfl (by kernel_rfl) rfl (iN (r:=(k:Int)) el rfl rfl o6 o33 rfl (by omega) (by omega) ?_))
  intro g41 w38 ch39 o40
  clear o6 o33
  refine xX (by kernel_rfl) (ao ?_)
  clear r12 r21 r23
  refine a8 rfl (lx (aP (m:=↑k) (n:=1) zs12 rfl (by omega)) (mi ((k:Int)+1) (ab ?_)))
  have C42:=cg [1,2] (hb15.n.seq (hb17.n.seq (ch18.n.seq ((ch27.l rfl).seq ((ch32.l rfl).seq (ch39.l2 rfl rfl))))))
  refine back3 (k+1,(List.set out (Int.toNat ↑k) ((List.drop (Int.toNat (dy (gI r ↑k) (dI (gI r ↑k)))) (List.take (Int.toNat ((gI r ↑k).length)) (gI r ↑k)))++(List.drop (Int.toNat 0) (List.take (Int.toNat (dy (gI r ↑k) (dI (gI r ↑k)))) (gI r ↑k))))),g41) _ _ ⟨bH.ca C42,zs3,zs10,zs11,rfl,Rr.ca C42,o40,by omega,?_⟩ ?_
  · show(List.set out (Int.toNat ↑k) ((List.drop (Int.toNat (dy (gI r ↑k) (dI (gI r ↑k)))) (List.take (Int.toNat ((gI r ↑k).length)) (gI r ↑k)))++(List.drop (Int.toNat 0) (List.take (Int.toNat (dy (gI r ↑k) (dI (gI r ↑k)))) (gI r ↑k)))))=List.map gS (List.take (k+1) r)++List.replicate (r.length-(k+1)) []
    (rw[hinv];exact uz ‹_› (by rw[hti.1];simp))
  · show Int.toNat (((r.length:Int):Int)-((k+1):Int))<Int.toNat (((r.length:Int):Int)-(k:Int))
    omega
 refine aj rfl (df p3) (aM rfl (aa (a8 rfl (mz zs3 (ma v4 (ab (au (vs:=[v4]) Try.func42 (.tmp rfl .nil) ?_)))))))
 have e0:(out:bY)=(cG r):=by
   rw[hinv,show k=r.length by omega];simp[cG]
 exact⟨(fin w0 g9 (λn=>if n=1 then 1 else 0),v4),(congrArg (a₁:=out) (λ(z0:bY)=>Ending.returned (v4)) e0),bH.fresh _,(e0▸(o6.glue (γ:=c0) (ren:=(λn=>if n=1 then 1 else 0)) (k:=1) bH.col rfl rfl))⟩
end TL
