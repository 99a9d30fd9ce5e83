import Derived.Test.YtbadiajeohbpcaaGreatTlP3
import Derived.Test.YtbadiajeohbpcaaGreatTlGenA
import Derived.Test.YtbadiajeohbpcaaGreatTlGenQ
import Derived.Test.YtbadiajeohbpcaaGreatProg
import Derived.Test.YtbadiajeohbpcaaGreatTlAli
set_option linter.all false
set_option maxRecDepth 20000
namespace TL
open Go Go.Proofs
theorem jR:Tryz.prog.follows .mixedOrders=true:=by kernel_rfl
theorem eW:Tp Tryz.prog 4 false 1 1 (.bool false):=Tp.of (by kernel_rfl)
theorem db:Tp Tryz.prog 24 true 2 32 (.agg #[.int .i64 0,.slice none 0 0]):=Tp.of (by kernel_rfl)
theorem c4:Tp Tryz.prog 70 false 1 24 (.slice none 0 0):=Tp.of (by kernel_rfl)
theorem qq:Tryz.f15.body.isNone=false:=rfl
theorem qo:(Tryz.f15.name== "runtime.NumGoroutine")=false:=by decide+kernel
theorem tC:Tryz.f20.body.isNone=false:=rfl
theorem vG:(Tryz.f20.name== "runtime.NumGoroutine")=false:=by decide+kernel
theorem nA:Tryz.f27.body.isNone=false:=rfl
theorem n7:(Tryz.f27.name== "runtime.NumGoroutine")=false:=by decide+kernel
theorem nf:Tryz.f34.body.isNone=false:=rfl
theorem nQ:(Tryz.f34.name== "runtime.NumGoroutine")=false:=by decide+kernel
theorem qp:Tryz.f45.body.isNone=false:=rfl
theorem pS:(Tryz.f45.name== "runtime.NumGoroutine")=false:=by decide+kernel
theorem zX:Tryz.f53.body.isNone=false:=rfl
theorem yY:(Tryz.f53.name== "runtime.NumGoroutine")=false:=by decide+kernel
theorem zW:Tryz.f54.body.isNone=false:=rfl
theorem zt:(Tryz.f54.name== "runtime.NumGoroutine")=false:=by decide+kernel
theorem qr:Tryz.f70.body.isNone=false:=rfl
theorem qI:(Tryz.f70.name== "runtime.NumGoroutine")=false:=by decide+kernel
theorem zH:Tryz.f71.body.isNone=false:=rfl
theorem zY:(Tryz.f71.name== "runtime.NumGoroutine")=false:=by decide+kernel
theorem A6:Tryz.f72.body.isNone=false:=rfl
theorem zF:(Tryz.f72.name== "runtime.NumGoroutine")=false:=by decide+kernel
theorem zI:Tryz.f73.body.isNone=false:=rfl
theorem zg:(Tryz.f73.name== "runtime.NumGoroutine")=false:=by decide+kernel
theorem zL:Tryz.f76.body.isNone=false:=rfl
theorem zR:(Tryz.f76.name== "runtime.NumGoroutine")=false:=by decide+kernel
theorem uu:Tryz.f90.body.isNone=false:=rfl
theorem uK:(Tryz.f90.name== "runtime.NumGoroutine")=false:=by decide+kernel
theorem zT:Tryz.f91.body.isNone=false:=rfl
theorem zx:(Tryz.f91.name== "runtime.NumGoroutine")=false:=by decide+kernel
theorem ld(w0:World)(g:(Int)×(List Pt))(g_v:Value)(hg_v:Ro w0 g_v g.2)(r:cT)(r_v:Value)(hr_v:Ro w0 r_v r):
    Calls Tryz.prog 34 #[vg [vi g.1,g_v],r_v] w0 (λee w=>ee= .returned (vi (bg g r))/\cE w0.heap.size w0 w):=by
 refine au Tryz.func34 rfl nq ?_
 have bH:=aT.start w0
 have Rg:=hg_v.sl
 have Rr:=hr_v.sl
 refine a7 (a6 rfl (bW rfl (bh c0 (is 1) (1,0) rfl rfl ?_)))
 intro g4 w1 b3 ch2 bx5
 replace bx5:Bx g4 (is 1) w1 b3 [vi g.1,g_v]:=bx5
 refine ai 0 (aa (a7 (a7 (a6 rfl (lx (aj (ds:=[vi g.1,g_v]) db rfl bx5 rfl rfl) ?_)))))
 replace Rg:=Rg.cn ch2
 refine lo (aO (v:=vb (dq g)) (aA (vals:=[vg [vi g.1,g_v]]) Tryz.func27 nA n7 rfl) (n9 w1 g g_v (Rg).ro) ?_)
 intro w6 hb7
 replace hb7:=ao hb7 g4
 refine lx (bZ (b:=(dq g)) rfl) (aa ?_)
 by_cases p1:(dq g)=true
 ·
  have hm:=of_decide_eq_true p1
  have hm0:=hm
  obtain⟨hm1,hm2,hm3,hm4⟩:=hm0
  refine ag rfl (congrArg Bool.not p1) (ak (a7 (a7 (a6 rfl (mv r_v ?_)))))
  replace Rr:=(Rr.cn ch2).cn hb7
  have len8:=(Rr).small
  refine lx (aQ ik rfl Rr) (lx (a8 dY rfl rfl rfl rfl) ?_)
  replace bx5:=bx5.cn hb7
  refine lx (ab bY rfl bx5 rfl) (lx (c5 (m:=(r.length:Int)) (n:=g.1) rfl rfl) (aa ?_))
  by_cases p3:(r.length:Int)=g.1
  ·
   refine ag rfl (congrArg Bool.not (dt p3)) (ak (a7 (a6 rfl (lx (a8 dY rfl rfl rfl rfl) (lx (ab bO rfl bx5 rfl) ?_)))))
   replace Rg:=Rg.cn hb7
   have len9:=(Rg).small
   refine lx (aQ fm rfl Rg) (lx (dI (m:=2) (n:=(g.2.length:Int)) rfl rfl (by omega)) (lo (ql (α:=Bool) (l:=2*(g.2.length:Int)) (cp:=2*(g.2.length:Int)) g4 (is 2) (is 2) (2,0) rfl false vW eW rfl rfl rfl (by omega) (by omega) (by omega) (by omega) ?_)))
   intro g10 w11 v12 ch13 o14 _
   refine ma v12 (aa (a7 (a6 rfl (ai 0 (aa (a7 (a7 (a6 rfl (mv r_v ?_)))))))))
   replace Rr:=Rr.cn ch13
   refine lx (aQ ik rfl Rr) (mi 0 (aa (am ?_)))
   refine aN (σ:=Int×Nat×(List Bool)×aK) (λ⟨n,k,seen,gq⟩ f w=>aT w0 gq w/\f 2=vp b3 0/\f 5=v12/\f 6=vi n/\f 24=r_v/\f 25=vi (r.length:Int)/\f 26=vi ↑k/\Sl gq (is 0) w g_v g.2/\Sl gq (is 0) w r_v r/\Bx gq (is 1) w b3 [vi g.1,g_v]/\Ow gq (is 2) (is 2) w v12 seen/\(k:Int)<=((r.length:Int):Int)/\(cX seen n g r k 0)) (λ⟨n,k,seen,gq⟩=>Int.toNat (((r.length:Int):Int)-(k:Int))) (0,0,(List.replicate (Int.toNat (2*(g.2.length:Int))) false),g10) ?_ ?_
   have C15:=cg [] (ch2.n.seq (hb7.n.seq ch13.n))
   · exact⟨bH.ca C15,rfl,rfl,rfl,rfl,rfl,rfl,Rg.cn ch13,Rr,bx5.cn ch13,o14,by omega,by exact cX.start g r⟩
   clear Rg Rr bx5 o14 bH
   rintro⟨n,k,seen,g18⟩ f16 w17 ⟨bH,zs2,zs5,zs6,zs24,zs25,zs26,Rg,Rr,bx5,o14,hle_k,hinv⟩ back8
   have hsl:=hinv.rm.len
   have hbd:=hinv.bd
   refine a7 (a6 rfl (lx (aZ (m:=↑k) (n:=(r.length:Int)) zs26 zs25) (aa (a7 ?_))))
   by_cases p8:(k:Int)<(r.length:Int)
   ·
    refine af rfl (dt p8) (ak (a7 (am (a7 (a6 rfl (mz zs26 (lx (ad (v:=r_v) (i:=↑k) ik rfl zs24 Rr zs26 (by omega) (by omega)) ?_)))))))
    obtain⟨v19,cel20,r21⟩:=cA (r:=(k:Int)) Rr (by omega) (by omega)
    refine lx (ba c4 rfl cel20) (ai (k:Int) (ma v19 (aa (a7 (a6 rfl (mv v19 ?_))))))
    have len22:=(r21).small
    refine lx (aQ cS rfl r21) (mi 0 (aa (am ?_)))
    refine aN (σ:=Int×Nat×(List Bool)×aK) (λ⟨n,i,seen,gq⟩ f w=>aT w0 gq w/\f 2=vp b3 0/\f 5=v12/\f 6=vi n/\f 7=vi ↑k/\f 24=r_v/\f 25=vi (r.length:Int)/\f 26=vi ↑k/\f 31=v19/\f 32=vi (List.length (gI r ↑k):Int)/\f 33=vi ↑i/\Sl gq (is 0) w g_v g.2/\Sl gq (is 0) w r_v r/\Bx gq (is 1) w b3 [vi g.1,g_v]/\Ow gq (is 2) (is 2) w v12 seen/\Sl gq (is 0) w v19 (gI r ↑k)/\(i:Int)<=((List.length (gI r ↑k):Int):Int)/\(cX seen n g r k i)) (λ⟨n,i,seen,gq⟩=>Int.toNat (((List.length (gI r ↑k):Int):Int)-(i:Int))) (n,0,seen,g18) ?_ ?_
    · exact⟨bH,zs2,zs5,zs6,rfl,zs24,zs25,zs26,rfl,rfl,rfl,Rg,Rr,bx5,o14,r21,by omega,by exact hinv⟩
    clear Rg Rr bx5 o14 r21 bH
    rintro⟨n,i,seen,g25⟩ f23 w24 ⟨bH,zs2,zs5,zs6,zs7,zs24,zs25,zs26,zs31,zs32,zs33,Rg,Rr,bx5,o14,r21,hle_i,hin⟩ back11
    have hsl:=hin.rm.len
    have hbd:=hin.bd
    refine a7 (a6 rfl (lx (aZ (m:=↑i) (n:=(List.length (gI r ↑k):Int)) zs33 zs32) (aa (a7 ?_))))
    by_cases p11:(i:Int)<(List.length (gI r ↑k):Int)
    ·
     refine af rfl (dt p11) (ak (a7 (am (a7 (a6 rfl (lx (ad (v:=v19) (i:=↑i) cS rfl zs31 r21 zs33 (by omega) (by omega)) (lx (bA (v:=v19) (i:=↑i) bY rfl r21 (by omega) (by omega) (by decide) rfl) (ai (gI (gI r ↑k) ↑i) (aa (a7 (a7 (a6 rfl (mi (gI (gI r ↑k) ↑i) ?_)))))))))))))
     refine lx (aZ (m:=(gI (gI r ↑k) ↑i)) (n:=0) rfl rfl) (mv (vb (decide ((gI (gI r ↑k) ↑i)<0))) ?_)
     by_cases q39:(gI (gI r ↑k) ↑i)<0
     ·
      refine ae (wn (dt q39)) (ae (wn (dt q39)) (ae (wn (dt q39)) (ae (wn (dt q39)) (lw (vb true) (aD rfl (dt q39) rfl) (mv (vb true) (ae (wn rfl) (ae (wn rfl) (ae (wn rfl) (ae (wn rfl) (lw (vb true) (aD rfl rfl rfl) (mv (vb true) (ae (wn rfl) (ae (wn rfl) (ae (wn rfl) (ae (wn rfl) (ae (wn rfl) (ae (wn rfl) (ae (wn rfl) (ae (wn rfl) (ae (wn rfl) (ae (wn rfl) (ae (wn rfl) ?_))))))))))))))))))))))
      refine lw (vb true) (aD rfl rfl rfl) (aa (af rfl rfl (a7 ?_)))
      clear bx5 o14 r21
      refine a6 rfl (ai 4 (aa (ar (vs:=[vi 4]) Tryz.func34 (.tmp rfl .nil) ?_)))
      have e0:(4:Int)=(bg g r):=by
        exact(eO hm (hin.bad (by omega) ‹_› (by rintro⟨⟨h1,h2⟩,h3⟩;omega))).symm
      exact⟨ri e0,bH.below⟩
     refine lv (vi (gI (gI r ↑k) ↑i)) (wy (df q39)) (aq rfl) (lv (v12) (wy (df q39)) (aq zs5) ?_)
     have len26:=(o14.flat).small
     refine lv (vi (seen.length:Int)) (wy (df q39)) (aQ vW rfl o14.flat) (lv (vb (decide ((seen.length:Int)<=(gI (gI r ↑k) ↑i)))) (wy (df q39)) (fN (m:=(gI (gI r ↑k) ↑i)) (n:=(seen.length:Int)) rfl rfl) (lw (vb (decide ((seen.length:Int)<=(gI (gI r ↑k) ↑i)))) (aB rfl (df q39) rfl) (mv (vb (decide ((seen.length:Int)<=(gI (gI r ↑k) ↑i)))) ?_)))
     by_cases q45:(seen.length:Int)<=(gI (gI r ↑k) ↑i)
     ·
      refine ae (wn (dt q45)) (ae (wn (dt q45)) (ae (wn (dt q45)) (ae (wn (dt q45)) (lw (vb true) (aD rfl (dt q45) rfl) (mv (vb true) (ae (wn rfl) (ae (wn rfl) (ae (wn rfl) (ae (wn rfl) (ae (wn rfl) (ae (wn rfl) (ae (wn rfl) (ae (wn rfl) (ae (wn rfl) (ae (wn rfl) (ae (wn rfl) (lw (vb true) (aD rfl rfl rfl) (aa (af rfl rfl ?_)))))))))))))))))))
      refine a7 ?_
      clear bx5 o14 r21
      refine a6 rfl (ai 4 (aa (ar (vs:=[vi 4]) Tryz.func34 (.tmp rfl .nil) ?_)))
      have e0:(4:Int)=(bg g r):=by
        exact(eO hm (hin.bad (by omega) ‹_› (by rintro⟨⟨h1,h2⟩,h3⟩;omega))).symm
      exact⟨ri e0,bH.below⟩
     refine lv (v12) (wy (df q45)) (aq zs5) (lv (vi (gI (gI r ↑k) ↑i)) (wy (df q45)) (aq rfl) (lv (Value.pointer (some (aR v12 1 (Int.toNat (gI (gI r ↑k) ↑i))))) (wy (df q45)) (ad (α:=Bool) (xs:=seen) (v:=v12) (i:=(gI (gI r ↑k) ↑i)) vW rfl rfl o14.flat rfl (by omega) (by omega)) (lv (vb (gI seen (gI (gI r ↑k) ↑i))) (wy (df q45)) (bA (α:=Bool) (xs:=seen) (v:=v12) (i:=(gI (gI r ↑k) ↑i)) eW rfl o14.flat (by omega) (by omega) (by decide) rfl) (lw (vb (gI seen (gI (gI r ↑k) ↑i))) (aB rfl (df q45) rfl) (mv (vb (gI seen (gI (gI r ↑k) ↑i))) ?_)))))
     by_cases q51:(gI seen (gI (gI r ↑k) ↑i))=true
     ·
      refine ae (wn q51) (ae (wn q51) (ae (wn q51) (ae (wn q51) (ae (wn q51) (ae (wn q51) (ae (wn q51) (ae (wn q51) (ae (wn q51) (ae (wn q51) (ae (wn q51) (lw (vb true) (aD rfl q51 rfl) (aa (af rfl rfl (a7 ?_))))))))))))))
      clear bx5 o14 r21
      refine a6 rfl (ai 4 (aa (ar (vs:=[vi 4]) Tryz.func34 (.tmp rfl .nil) ?_)))
      have e0:(4:Int)=(bg g r):=by
        exact(eO hm (hin.twice (by omega) ‹_› (by omega) (by omega) ‹_›)).symm
      exact⟨ri e0,bH.below⟩
     refine lv (vp b3 1) (wy (Bool.eq_false_iff.2 q51)) (a8 dY rfl rfl zs2 rfl) (lv (g_v) (wy (Bool.eq_false_iff.2 q51)) (ab bO rfl bx5 rfl) (lv (vi (gI (gI r ↑k) ↑i)) (wy (Bool.eq_false_iff.2 q51)) (aq rfl) (lv (vi ((gI (gI r ↑k) ↑i)/2)) (wy (Bool.eq_false_iff.2 q51)) (oU (m:=(gI (gI r ↑k) ↑i)) (n:=2) rfl rfl (by omega) (by omega) (by omega)) (lv (vi (gI (gI r ↑k) ↑i)) (wy (Bool.eq_false_iff.2 q51)) (aq rfl) (lv (vi ((gI (gI r ↑k) ↑i)%2)) (wy (Bool.eq_false_iff.2 q51)) (pv (m:=(gI (gI r ↑k) ↑i)) (n:=2) rfl rfl (by omega) (by omega)) ?_)))))
     refine lv (Value.pointer (some (aR g_v 2 (Int.toNat ((gI (gI r ↑k) ↑i)/2))))) (wy (Bool.eq_false_iff.2 q51)) (ad (α:=Pt) (xs:=g.2) (v:=g_v) (i:=(gI (gI r ↑k) ↑i)/2) fm rfl rfl Rg rfl (by omega) (by omega)) (lv (Value.pointer (some ⟨(aR g_v 2 (Int.toNat ((gI (gI r ↑k) ↑i)/2))).block,(aR g_v 2 (Int.toNat ((gI (gI r ↑k) ↑i)/2))).off+(Int.toNat ((gI (gI r ↑k) ↑i)%2)),none⟩)) (wy (Bool.eq_false_iff.2 q51)) (b5 (i:=(gI (gI r ↑k) ↑i)%2) jC rfl rfl rfl (by omega) (by omega) (Nat.mul_one _)) ?_)
     refine lv (vi (pI (gI g.2 ((gI (gI r ↑k) ↑i)/2)) ((gI (gI r ↑k) ↑i)%2))) (wy (Bool.eq_false_iff.2 q51)) (bJ (α:=Pt) (xs:=g.2) (v:=g_v) (i:=(gI (gI r ↑k) ↑i)/2) bY rfl Rg (by omega) (by omega) (show Int.toNat ((gI (gI r ↑k) ↑i)%2)<2 by omega) (gP _ (by omega) (by omega))) (lv (vi ↑k) (wy (Bool.eq_false_iff.2 q51)) (aq zs7) (lv (vb (!(decide ((pI (gI g.2 ((gI (gI r ↑k) ↑i)/2)) ((gI (gI r ↑k) ↑i)%2))=(k:Int))))) (wy (Bool.eq_false_iff.2 q51)) (c5 (m:=pI (gI g.2 ((gI (gI r ↑k) ↑i)/2)) ((gI (gI r ↑k) ↑i)%2)) (n:=↑k) rfl rfl) ?_))
     refine lw (vb (!(decide ((pI (gI g.2 ((gI (gI r ↑k) ↑i)/2)) ((gI (gI r ↑k) ↑i)%2))=(k:Int))))) (aB rfl (Bool.eq_false_iff.2 q51) rfl) (aa ?_)
     by_cases p13:(pI (gI g.2 ((gI (gI r ↑k) ↑i)/2)) ((gI (gI r ↑k) ↑i)%2))=(k:Int)
     ·
      refine ag rfl (congrArg Bool.not (dt p13)) (ak (a7 (a6 rfl (mz zs5 (mi (gI (gI r ↑k) ↑i) (lx (ad (v:=v12) (i:=(gI (gI r ↑k) ↑i)) vW rfl rfl o14.flat rfl (by omega) (by omega)) (lo (dz (i:=(gI (gI r ↑k) ↑i)) true eW rfl rfl o14 (by omega) (by omega) rfl ?_))))))))
      intro w27 ch28 bx29
      clear o14
      refine aa (a6 rfl (mz zs6 (lx (aM (m:=n) (n:=1) rfl rfl (by omega)) (ai (n+1) (aa (al (a6 rfl (lx (aM (m:=↑i) (n:=1) zs33 rfl (by omega)) (mi ((i:Int)+1) (aa ?_))))))))))
      refine back11 (n+1,i+1,(List.set seen (Int.toNat (gI (gI r ↑k) ↑i)) true),g25) _ _ ⟨bH.ce ch28,zs2,zs5,rfl,zs7,zs24,zs25,zs26,zs31,zs32,rfl,Rg.ce ch28,Rr.ce ch28,bx5.ce ch28,bx29,r21.ce ch28,by omega,?_⟩ ?_
      · show cX (List.set seen (Int.toNat (gI (gI r ↑k) ↑i)) true) (n+1) g r k (i+1)
        exact hin.next ‹_› (by omega) (by omega) (Bool.eq_false_iff.2 ‹_›) ‹_›
      · show Int.toNat (((List.length (gI r ↑k):Int):Int)-((i+1):Int))<Int.toNat (((List.length (gI r ↑k):Int):Int)-(i:Int))
        omega
     refine af rfl (congrArg Bool.not (df p13)) (a7 ?_)
     clear bx5 o14 r21
     refine a6 rfl (ai 4 (aa (ar (vs:=[vi 4]) Tryz.func34 (.tmp rfl .nil) ?_)))
     have e0:(4:Int)=(bg g r):=by
       exact(eO hm (hin.bad (by omega) ‹_› (by rintro⟨⟨h1,h2⟩,h3⟩;exact absurd h3 ‹_›))).symm
     exact⟨ri e0,bH.below⟩
    refine ag rfl (df p11) (aJ rfl (al ?_))
    clear r21
    refine a6 rfl (lx (aM (m:=↑k) (n:=1) zs26 rfl (by omega)) (mi ((k:Int)+1) (aa ?_)))
    refine back8 (n,k+1,seen,g25) _ _ ⟨bH,zs2,zs5,zs6,zs24,zs25,rfl,Rg,Rr,bx5,o14,by omega,?_⟩ ?_
    · show cX seen n g r (k+1) 0
      exact hin.row_done ‹_› ‹_›
    · show Int.toNat (((r.length:Int):Int)-((k+1):Int))<Int.toNat (((r.length:Int):Int)-(k:Int))
      omega
   refine ag rfl (df p8) (aJ rfl (a7 (a7 ?_)))
   clear bx5
   refine a6 rfl (mz zs6 (mz zs5 ?_))
   have len30:=(o14.flat).small
   refine lx (aQ vW rfl o14.flat) (lx (c5 (m:=n) (n:=(seen.length:Int)) rfl rfl) (aa ?_))
   by_cases p19:n=(seen.length:Int)
   ·
    refine ag rfl (congrArg Bool.not (dt p19)) (ak (a7 ?_))
    clear o14
    refine a6 rfl (ai 0 (aa (ar (vs:=[vi 0]) Tryz.func34 (.tmp rfl .nil) ?_)))
    have e0:(0:Int)=(bg g r):=by
      exact(jH hm ((hinv.fin (by omega) (by omega) rfl).2 (by omega))).symm
    exact⟨ri e0,bH.below⟩
   refine af rfl (congrArg Bool.not (df p19)) (a7 ?_)
   clear o14
   refine a6 rfl (ai 4 (aa (ar (vs:=[vi 4]) Tryz.func34 (.tmp rfl .nil) ?_)))
   have e0:(4:Int)=(bg g r):=by
     exact(eO hm (λh=>by have:=(hinv.fin (by omega) (by omega) rfl).1 h;omega)).symm
   exact⟨ri e0,bH.below⟩
  refine af rfl (congrArg Bool.not (df p3)) (a7 ?_)
  clear bx5
  refine a6 rfl (ai 4 (aa (ar (vs:=[vi 4]) Tryz.func34 (.tmp rfl .nil) ?_)))
  have e0:(4:Int)=(bg g r):=by
    exact(eO hm (λh=>by have:=h.1;omega)).symm
  replace bH:=bH.cn ch2
  replace bH:=bH.cn hb7
  exact⟨ri e0,bH.below⟩
 refine af rfl (congrArg Bool.not (Bool.eq_false_iff.2 p1)) (a7 ?_)
 clear bx5
 refine a6 rfl (ai 1 (aa (ar (vs:=[vi 1]) Tryz.func34 (.tmp rfl .nil) ?_)))
 have e0:(1:Int)=(bg g r):=by
   (have hn:¬c8 g:=λh=>p1 (dt h)
    unfold bg;rw[if_neg hn];done)
 replace bH:=bH.cn ch2
 replace bH:=bH.cn hb7
 exact⟨ri e0,bH.below⟩
theorem v7(w0:World)(g:(Int)×(List Pt))(g_v:Value)(hg_v:Ro w0 g_v g.2)(r:cT)(r_v:Value)(hr_v:Ro w0 r_v r):
    Calls Tryz.prog 21 #[vg [vi g.1,g_v],r_v] w0 (λee w=>ee= .returned (vi (bg g r))/\cE w0.heap.size w0 w):=by
 refine au Tryz.func21 rfl nq ?_
 have bH:=aT.start w0
 have Rg:=hg_v.sl
 have Rr:=hr_v.sl
 refine a7 (a6 rfl (bW rfl (bh c0 (is 1) (1,0) rfl rfl ?_)))
 intro g4 w1 b3 ch2 bx5
 replace bx5:Bx g4 (is 1) w1 b3 [vi g.1,g_v]:=bx5
 refine ai 0 (aa (a7 (a7 (a6 rfl (lx (aj (ds:=[vi g.1,g_v]) db rfl bx5 rfl rfl) ?_)))))
 replace Rg:=Rg.cn ch2
 refine lo (aO (v:=vb (dq g)) (aA (vals:=[vg [vi g.1,g_v]]) Tryz.func15 qq qo rfl) (nG w1 g g_v (Rg).ro) ?_)
 intro w6 hb7
 replace hb7:=ao hb7 g4
 refine lx (bZ (b:=(dq g)) rfl) (aa ?_)
 by_cases p1:(dq g)=true
 ·
  have hm:=of_decide_eq_true p1
  have hm0:=hm
  obtain⟨hm1,hm2,hm3,hm4⟩:=hm0
  refine ag rfl (congrArg Bool.not p1) (ak (a7 (a7 (a6 rfl (mv r_v ?_)))))
  replace Rr:=(Rr.cn ch2).cn hb7
  have len8:=(Rr).small
  refine lx (aQ ik rfl Rr) (lx (a8 dY rfl rfl rfl rfl) ?_)
  replace bx5:=bx5.cn hb7
  refine lx (ab bY rfl bx5 rfl) (lx (c5 (m:=(r.length:Int)) (n:=g.1) rfl rfl) (aa ?_))
  by_cases p3:(r.length:Int)=g.1
  ·
   refine ag rfl (congrArg Bool.not (dt p3)) (ak (a7 (a6 rfl (lx (a8 dY rfl rfl rfl rfl) (lx (ab bO rfl bx5 rfl) ?_)))))
   replace Rg:=Rg.cn hb7
   have len9:=(Rg).small
   refine lx (aQ fm rfl Rg) (lx (dI (m:=2) (n:=(g.2.length:Int)) rfl rfl (by omega)) (lo (ql (α:=Bool) (l:=2*(g.2.length:Int)) (cp:=2*(g.2.length:Int)) g4 (is 2) (is 2) (2,0) rfl false vW eW rfl rfl rfl (by omega) (by omega) (by omega) (by omega) ?_)))
   intro g10 w11 v12 ch13 o14 _
   refine ma v12 (aa (a7 (a6 rfl (ai 0 (aa (a7 (a7 (a6 rfl (ai 0 (aa (am ?_)))))))))))
   refine aN (σ:=Int×Nat×(List Bool)×aK) (λ⟨n,k,seen,gq⟩ f w=>aT w0 gq w/\f 1=r_v/\f 2=vp b3 0/\f 5=v12/\f 6=vi n/\f 7=vi ↑k/\Sl gq (is 0) w g_v g.2/\Sl gq (is 0) w r_v r/\Bx gq (is 1) w b3 [vi g.1,g_v]/\Ow gq (is 2) (is 2) w v12 seen/\(k:Int)<=(g.1:Int)/\(cX seen n g r k 0)) (λ⟨n,k,seen,gq⟩=>Int.toNat ((g.1:Int)-(k:Int))) (0,0,(List.replicate (Int.toNat (2*(g.2.length:Int))) false),g10) ?_ ?_
   have C15:=cg [] (ch2.n.seq (hb7.n.seq ch13.n))
   · exact⟨bH.ca C15,rfl,rfl,rfl,rfl,rfl,Rg.cn ch13,Rr.cn ch13,bx5.cn ch13,o14,by omega,by exact cX.start g r⟩
   clear Rg Rr bx5 o14 bH
   rintro⟨n,k,seen,g18⟩ f16 w17 ⟨bH,zs1,zs2,zs5,zs6,zs7,Rg,Rr,bx5,o14,hle_k,hinv⟩ back8
   have hsl:=hinv.rm.len
   have hbd:=hinv.bd
   refine a7 (a7 (a6 rfl (mz zs7 (lx (a8 dY rfl rfl zs2 rfl) (lx (ab bY rfl bx5 rfl) (lx (aZ (m:=↑k) (n:=g.1) rfl rfl) (aa ?_)))))))
   by_cases p8:(k:Int)<g.1
   ·
    refine af rfl (dt p8) (ak (a7 (am (a7 (a6 rfl (ai 0 (aa (am ?_))))))))
    refine aN (σ:=Int×Nat×(List Bool)×aK) (λ⟨n,i,seen,gq⟩ f w=>aT w0 gq w/\f 1=r_v/\f 2=vp b3 0/\f 5=v12/\f 6=vi n/\f 7=vi ↑k/\f 8=vi ↑i/\Sl gq (is 0) w g_v g.2/\Sl gq (is 0) w r_v r/\Bx gq (is 1) w b3 [vi g.1,g_v]/\Ow gq (is 2) (is 2) w v12 seen/\(i:Int)<=((List.length (gI r ↑k):Int):Int)/\(cX seen n g r k i)) (λ⟨n,i,seen,gq⟩=>Int.toNat (((List.length (gI r ↑k):Int):Int)-(i:Int))) (n,0,seen,g18) ?_ ?_
    · exact⟨bH,zs1,zs2,zs5,zs6,zs7,rfl,Rg,Rr,bx5,o14,by omega,by exact hinv⟩
    clear Rg Rr bx5 o14 bH
    rintro⟨n,i,seen,g21⟩ f19 w20 ⟨bH,zs1,zs2,zs5,zs6,zs7,zs8,Rg,Rr,bx5,o14,hle_i,hin⟩ back11
    have hsl:=hin.rm.len
    have hbd:=hin.bd
    refine a7 (a7 (a6 rfl (mz zs8 (mz zs1 (mz zs7 (lx (ad (v:=r_v) (i:=↑k) ik rfl rfl Rr rfl (by omega) (by omega)) ?_))))))
    obtain⟨v22,cel23,r24⟩:=cA (r:=(k:Int)) Rr (by omega) (by omega)
    refine lx (ba c4 rfl cel23) ?_
    have len25:=(r24).small
    refine lx (aQ cS rfl r24) (lx (aZ (m:=↑i) (n:=(List.length (gI r ↑k):Int)) rfl rfl) (aa ?_))
    by_cases p11:(i:Int)<(List.length (gI r ↑k):Int)
    ·
     refine af rfl (dt p11) (ak (a7 (am (a7 ?_))))
     clear r24
     refine a6 rfl (mz zs1 (mz zs7 (lx (ad (v:=r_v) (i:=↑k) ik rfl rfl Rr rfl (by omega) (by omega)) ?_)))
     obtain⟨v26,cel27,r28⟩:=cA (r:=(k:Int)) Rr (by omega) (by omega)
     refine lx (ba c4 rfl cel27) (mz zs8 (lx (ad (v:=v26) (i:=↑i) cS rfl rfl r28 rfl (by omega) (by omega)) (lx (bA (v:=v26) (i:=↑i) bY rfl r28 (by omega) (by omega) (by decide) rfl) (ai (gI (gI r ↑k) ↑i) (aa (a7 (a7 ?_)))))))
     clear r28
     refine a6 rfl (mi (gI (gI r ↑k) ↑i) (lx (aZ (m:=(gI (gI r ↑k) ↑i)) (n:=0) rfl rfl) (mv (vb (decide ((gI (gI r ↑k) ↑i)<0))) ?_)))
     by_cases q47:(gI (gI r ↑k) ↑i)<0
     ·
      refine ae (wn (dt q47)) (ae (wn (dt q47)) (ae (wn (dt q47)) (ae (wn (dt q47)) (lw (vb true) (aD rfl (dt q47) rfl) (mv (vb true) (ae (wn rfl) (ae (wn rfl) (ae (wn rfl) (ae (wn rfl) (lw (vb true) (aD rfl rfl rfl) (mv (vb true) (ae (wn rfl) (ae (wn rfl) (ae (wn rfl) (ae (wn rfl) (ae (wn rfl) ?_))))))))))))))))
      refine lw (vb true) (aD rfl rfl rfl) (aa (af rfl rfl (a7 ?_)))
      clear bx5 o14
      refine a6 rfl (ai 4 (aa (ar (vs:=[vi 4]) Tryz.func21 (.tmp rfl .nil) ?_)))
      have e0:(4:Int)=(bg g r):=by
        exact(eO hm (hin.bad (by omega) ‹_› (by rintro⟨⟨h1,h2⟩,h3⟩;omega))).symm
      exact⟨ri e0,bH.below⟩
     refine lv (vi (gI (gI r ↑k) ↑i)) (wy (df q47)) (aq rfl) (lv (v12) (wy (df q47)) (aq zs5) ?_)
     have len29:=(o14.flat).small
     refine lv (vi (seen.length:Int)) (wy (df q47)) (aQ vW rfl o14.flat) (lv (vb (decide ((seen.length:Int)<=(gI (gI r ↑k) ↑i)))) (wy (df q47)) (fN (m:=(gI (gI r ↑k) ↑i)) (n:=(seen.length:Int)) rfl rfl) (lw (vb (decide ((seen.length:Int)<=(gI (gI r ↑k) ↑i)))) (aB rfl (df q47) rfl) (mv (vb (decide ((seen.length:Int)<=(gI (gI r ↑k) ↑i)))) ?_)))
     by_cases q53:(seen.length:Int)<=(gI (gI r ↑k) ↑i)
     ·
      refine ae (wn (dt q53)) (ae (wn (dt q53)) (ae (wn (dt q53)) (ae (wn (dt q53)) (lw (vb true) (aD rfl (dt q53) rfl) (mv (vb true) (ae (wn rfl) (ae (wn rfl) (ae (wn rfl) (ae (wn rfl) (ae (wn rfl) (lw (vb true) (aD rfl rfl rfl) (aa (af rfl rfl ?_)))))))))))))
      refine a7 ?_
      clear bx5 o14
      refine a6 rfl (ai 4 (aa (ar (vs:=[vi 4]) Tryz.func21 (.tmp rfl .nil) ?_)))
      have e0:(4:Int)=(bg g r):=by
        exact(eO hm (hin.bad (by omega) ‹_› (by rintro⟨⟨h1,h2⟩,h3⟩;omega))).symm
      exact⟨ri e0,bH.below⟩
     refine lv (v12) (wy (df q53)) (aq zs5) (lv (vi (gI (gI r ↑k) ↑i)) (wy (df q53)) (aq rfl) (lv (Value.pointer (some (aR v12 1 (Int.toNat (gI (gI r ↑k) ↑i))))) (wy (df q53)) (ad (α:=Bool) (xs:=seen) (v:=v12) (i:=(gI (gI r ↑k) ↑i)) vW rfl rfl o14.flat rfl (by omega) (by omega)) (lv (vb (gI seen (gI (gI r ↑k) ↑i))) (wy (df q53)) (bA (α:=Bool) (xs:=seen) (v:=v12) (i:=(gI (gI r ↑k) ↑i)) eW rfl o14.flat (by omega) (by omega) (by decide) rfl) (lw (vb (gI seen (gI (gI r ↑k) ↑i))) (aB rfl (df q53) rfl) (mv (vb (gI seen (gI (gI r ↑k) ↑i))) ?_)))))
     by_cases q59:(gI seen (gI (gI r ↑k) ↑i))=true
     ·
      refine ae (wn q59) (ae (wn q59) (ae (wn q59) (ae (wn q59) (ae (wn q59) (lw (vb true) (aD rfl q59 rfl) (aa (af rfl rfl (a7 ?_))))))))
      clear bx5 o14
      refine a6 rfl (ai 4 (aa (ar (vs:=[vi 4]) Tryz.func21 (.tmp rfl .nil) ?_)))
      have e0:(4:Int)=(bg g r):=by
        exact(eO hm (hin.twice (by omega) ‹_› (by omega) (by omega) ‹_›)).symm
      exact⟨ri e0,bH.below⟩
     refine lv (vg [vi g.1,g_v]) (wy (Bool.eq_false_iff.2 q59)) (aj (ds:=[vi g.1,g_v]) db zs2 bx5 rfl rfl) (lv (vi (gI (gI r ↑k) ↑i)) (wy (Bool.eq_false_iff.2 q59)) (aq rfl) (bW (wy (Bool.eq_false_iff.2 q59)) (aO (v:=vi (bv g (gI (gI r ↑k) ↑i))) (aA (vals:=[vg [vi g.1,g_v],vi (gI (gI r ↑k) ↑i)]) Tryz.func54 zW zt rfl) (ig w20 g g_v (Rg).ro (gI (gI r ↑k) ↑i) (by omega) (by omega)) ?_)))
     intro w30 hb31
     replace hb31:=ao hb31 g21
     refine lv (vi ↑k) (wy (Bool.eq_false_iff.2 q59)) (aq zs7) (lv (vb (!(decide ((bv g (gI (gI r ↑k) ↑i))=(k:Int))))) (wy (Bool.eq_false_iff.2 q59)) (c5 (m:=bv g (gI (gI r ↑k) ↑i)) (n:=↑k) rfl rfl) (lw (vb (!(decide ((bv g (gI (gI r ↑k) ↑i))=(k:Int))))) (aB rfl (Bool.eq_false_iff.2 q59) rfl) (aa ?_)))
     by_cases p14:(bv g (gI (gI r ↑k) ↑i))=(k:Int)
     ·
      refine ag rfl (congrArg Bool.not (dt p14)) (ak (a7 (a6 rfl (mz zs5 (mi (gI (gI r ↑k) ↑i) ?_)))))
      replace o14:=o14.cn hb31
      refine lx (ad (v:=v12) (i:=(gI (gI r ↑k) ↑i)) vW rfl rfl o14.flat rfl (by omega) (by omega)) (lo (dz (i:=(gI (gI r ↑k) ↑i)) true eW rfl rfl o14 (by omega) (by omega) rfl ?_))
      intro w32 ch33 bx34
      clear o14
      refine aa (a6 rfl (mz zs6 (lx (aM (m:=n) (n:=1) rfl rfl (by omega)) (ai (n+1) (aa (al (a6 rfl (mz zs8 (lx (aM (m:=↑i) (n:=1) rfl rfl (by omega)) (ai ((i:Int)+1) ?_))))))))))
      refine aa ?_
      replace bH:=bH.cn hb31
      refine back11 (n+1,i+1,(List.set seen (Int.toNat (gI (gI r ↑k) ↑i)) true),g21) _ _ ⟨bH.ce ch33,zs1,zs2,zs5,rfl,zs7,rfl,(Rg.cn hb31).ce ch33,(Rr.cn hb31).ce ch33,(bx5.cn hb31).ce ch33,bx34,by omega,?_⟩ ?_
      · show cX (List.set seen (Int.toNat (gI (gI r ↑k) ↑i)) true) (n+1) g r k (i+1)
        exact hin.next ‹_› (by omega) (by omega) (Bool.eq_false_iff.2 ‹_›) ‹_›
      · show Int.toNat (((List.length (gI r ↑k):Int):Int)-((i+1):Int))<Int.toNat (((List.length (gI r ↑k):Int):Int)-(i:Int))
        omega
     refine af rfl (congrArg Bool.not (df p14)) (a7 ?_)
     clear bx5 o14
     refine a6 rfl (ai 4 (aa (ar (vs:=[vi 4]) Tryz.func21 (.tmp rfl .nil) ?_)))
     have e0:(4:Int)=(bg g r):=by
       exact(eO hm (hin.bad (by omega) ‹_› (by rintro⟨⟨h1,h2⟩,h3⟩;omega))).symm
     replace bH:=bH.cn hb31
     exact⟨ri e0,bH.below⟩
    refine ag rfl (df p11) (aJ rfl (al ?_))
    clear r24
    refine a6 rfl (mz zs7 (lx (aM (m:=↑k) (n:=1) rfl rfl (by omega)) (ai ((k:Int)+1) (aa ?_))))
    refine back8 (n,k+1,seen,g21) _ _ ⟨bH,zs1,zs2,zs5,zs6,rfl,Rg,Rr,bx5,o14,by omega,?_⟩ ?_
    · show cX seen n g r (k+1) 0
      exact hin.row_done (by omega) ‹_›
    · show Int.toNat ((g.1:Int)-((k+1):Int))<Int.toNat ((g.1:Int)-(k:Int))
      omega
   refine ag rfl (df p8) (aJ rfl (a7 (a7 ?_)))
   clear bx5
   refine a6 rfl (mz zs6 (mz zs5 ?_))
   have len35:=(o14.flat).small
   refine lx (aQ vW rfl o14.flat) (lx (aZ (m:=n) (n:=(seen.length:Int)) rfl rfl) (aa ?_))
   by_cases p18:n<(seen.length:Int)
   ·
    refine af rfl (dt p18) (a7 ?_)
    clear o14
    refine a6 rfl (ai 4 (aa (ar (vs:=[vi 4]) Tryz.func21 (.tmp rfl .nil) ?_)))
    have e0:(4:Int)=(bg g r):=by
      exact(eO hm (λh=>by have:=(hinv.fin (by omega) (by omega) rfl).1 h;omega)).symm
    exact⟨ri e0,bH.below⟩
   refine ag rfl (df p18) (ak (a7 ?_))
   clear o14
   refine a6 rfl (ai 0 (aa (ar (vs:=[vi 0]) Tryz.func21 (.tmp rfl .nil) ?_)))
   have e0:(0:Int)=(bg g r):=by
     exact(jH hm ((hinv.fin (by omega) (by omega) rfl).2 (by omega))).symm
   exact⟨ri e0,bH.below⟩
  refine af rfl (congrArg Bool.not (df p3)) (a7 ?_)
  clear bx5
  refine a6 rfl (ai 4 (aa (ar (vs:=[vi 4]) Tryz.func21 (.tmp rfl .nil) ?_)))
  have e0:(4:Int)=(bg g r):=by
    exact(eO hm (λh=>by have:=h.1;omega)).symm
  replace bH:=bH.cn ch2
  replace bH:=bH.cn hb7
  exact⟨ri e0,bH.below⟩
 refine af rfl (congrArg Bool.not (Bool.eq_false_iff.2 p1)) (a7 ?_)
 clear bx5
 refine a6 rfl (ai 1 (aa (ar (vs:=[vi 1]) Tryz.func21 (.tmp rfl .nil) ?_)))
 have e0:(1:Int)=(bg g r):=by
   (have hn:¬c8 g:=λh=>p1 (dt h)
    unfold bg;rw[if_neg hn];done)
 replace bH:=bH.cn ch2
 replace bH:=bH.cn hb7
 exact⟨ri e0,bH.below⟩
theorem oe(w0:World)(a:cT)(a_v:Value)(ha_v:Ro w0 a_v a)(b:cT)(b_v:Value)(hb_v:Ro w0 b_v b):
    Calls Tryz.prog 20 #[a_v,b_v] w0 (λee w=>ee= .returned (vb (decide (a=b)))/\cE w0.heap.size w0 w):=by
 refine au Tryz.func20 rfl nq ?_
 have bH:=aT.start w0
 have Ra:=ha_v.sl
 have Rb:=hb_v.sl
 refine a7 (a6 rfl (ma (vb false) (aa (a7 (a7 (a6 rfl (mv a_v ?_)))))))
 have len1:=(Ra).small
 refine lx (aQ gM rfl Ra) (mv b_v ?_)
 have len2:=(Rb).small
 refine lx (aQ gM rfl Rb) (lx (c5 (m:=(a.length:Int)) (n:=(b.length:Int)) rfl rfl) (aa ?_))
 by_cases p1:(a.length:Int)=(b.length:Int)
 ·
  refine ag rfl (congrArg Bool.not (dt p1)) (ak (a7 (a7 (a6 rfl (ai 0 (aa (am ?_)))))))
  refine aN (σ:=Nat×aK) (λ⟨k,gq⟩ f w=>aT w0 gq w/\f 0=a_v/\f 1=b_v/\f 5=vi ↑k/\Sl gq (is 0) w a_v a/\Sl gq (is 0) w b_v b/\(k:Int)<=((a.length:Int):Int)/\(List.take k a=List.take k b)) (λ⟨k,gq⟩=>Int.toNat (((a.length:Int):Int)-(k:Int))) (0,c0) ?_ ?_
  · exact⟨bH,rfl,rfl,rfl,Ra,Rb,by omega,by simp⟩
  clear Ra Rb bH
  rintro⟨k,g5⟩ f3 w4 ⟨bH,zs0,zs1,zs5,Ra,Rb,hle_k,hinv4⟩ back4
  refine a7 (a7 (a6 rfl (mz zs5 (mz zs0 (lx (aQ gM rfl Ra) (lx (aZ (m:=↑k) (n:=(a.length:Int)) rfl rfl) (aa ?_)))))))
  by_cases p4:(k:Int)<(a.length:Int)
  ·
   refine af rfl (dt p4) (ak (a7 (am (a7 (bz g5 rfl jR (by kernel_rfl) ?_)))))
   intro w7 ch6
   refine qz zs0 (qz zs5 ?_)
   replace Ra:=Ra.cn ch6
   refine qx (λw' hw'=>ad (v:=a_v) (i:=↑k) gM rfl rfl (Ra.bel hw') rfl (by omega) (by omega)) ?_
   obtain⟨v8,cel9,r10⟩:=cA (r:=(k:Int)) Ra (by omega) (by omega)
   refine qx (λw' hw'=>ba c4 rfl (e7 cel9 hw')) (qz zs1 (qz zs5 ?_))
   replace Rb:=Rb.cn ch6
   refine qx (λw' hw'=>ad (v:=b_v) (i:=↑k) gM rfl rfl (Rb.bel hw') rfl (by omega) (by omega)) ?_
   obtain⟨v11,cel12,r13⟩:=cA (r:=(k:Int)) Rb (by omega) (by omega)
   refine qx (λw' hw'=>ba c4 rfl (e7 cel12 hw')) (cl (v:=vb (decide ((gI a ↑k)=(gI b ↑k)))) rfl (λw' hw'=>aA (vals:=[v8,v11]) Tryz.func53 zX yY rfl) (λw' hw'=>(vz w' (gI a ↑k) v8 ((r10.bel hw')).ro (gI b ↑k) v11 ((r13.bel hw')).ro).mono λe w2 h2=>⟨h2.1,hw'.trans (h2.2.mono hw'.size)⟩) (qx (λw' hw'=>bZ (b:=(decide ((gI a ↑k)=(gI b ↑k)))) rfl) (bN ?_)))
   intro w14 hc15
   replace hc15:=ao hc15 g5
   by_cases p6:(decide ((gI a ↑k)=(gI b ↑k)))=true
   ·
    refine ag rfl (congrArg Bool.not p6) (ak (al ?_))
    clear r10 r13
    refine a6 rfl (mz zs5 (lx (aM (m:=↑k) (n:=1) rfl rfl (by omega)) (ai ((k:Int)+1) (aa ?_))))
    replace bH:=bH.cn ch6
    refine back4 (k+1,g5) _ _ ⟨bH.cn hc15,zs0,zs1,rfl,Ra.cn hc15,Rb.cn hc15,by omega,?_⟩ ?_
    · show List.take (k+1) a=List.take (k+1) b
      rw[bB ‹_›,bB (by omega),hinv4];simp_all
    · show Int.toNat (((a.length:Int):Int)-((k+1):Int))<Int.toNat (((a.length:Int):Int)-(k:Int))
      omega
   refine af rfl (congrArg Bool.not (Bool.eq_false_iff.2 p6)) (a7 ?_)
   clear r10 r13
   refine a6 rfl (ma (vb false) (aa (ar (vs:=[vb false]) Tryz.func20 (.tmp rfl .nil) ?_)))
   have e0:(false:Bool)=(decide (a=b)):=by
     exact(df (λh=>by subst h;simp_all)).symm
   replace bH:=bH.cn ch6
   replace bH:=bH.cn hc15
   exact⟨rb e0,bH.below⟩
  refine ag rfl (df p4) (aJ rfl (a7 (a6 rfl (ma (vb true) (aa (ar (vs:=[vb true]) Tryz.func20 (.tmp rfl .nil) ?_))))))
  have e0:(true:Bool)=(decide (a=b)):=by
    (have e:=hinv4;rw[List.take_of_length_le (by omega),List.take_of_length_le (by omega)] at e;exact(dt e).symm)
  exact⟨rb e0,bH.below⟩
 refine af rfl (congrArg Bool.not (df p1)) (a7 (a6 rfl (ma (vb false) (aa (ar (vs:=[vb false]) Tryz.func20 (.tmp rfl .nil) ?_)))))
 have e0:(false:Bool)=(decide (a=b)):=by
   exact(df (λh=>by subst h;simp_all)).symm
 exact⟨rb e0,bH.below⟩
theorem sA(w0:World)(s1:List Int)(s1_v:Value)(hs1_v:Ro w0 s1_v s1)(s2:List Int)(s2_v:Value)(hs2_v:Ro w0 s2_v s2):
    Calls Tryz.prog 73 #[s1_v,s2_v] w0 (λee w=>ee= .returned (vb (decide (s1=s2)))/\cE w0.heap.size w0 w):=by
 refine au Tryz.func73 rfl nq ?_
 have bH:=aT.start w0
 have Rs1:=hs1_v.sl
 have Rs2:=hs2_v.sl
 refine a7 (a6 rfl (ma (vb false) (aa (a7 (a7 (a6 rfl (mv s1_v ?_)))))))
 have len1:=(Rs1).small
 refine lx (aQ cS rfl Rs1) (mv s2_v ?_)
 have len2:=(Rs2).small
 refine lx (aQ cS rfl Rs2) (lx (c5 (m:=(s1.length:Int)) (n:=(s2.length:Int)) rfl rfl) (aa ?_))
 by_cases p1:(s1.length:Int)=(s2.length:Int)
 ·
  refine ag rfl (congrArg Bool.not (dt p1)) (ak (a7 (a7 (a6 rfl (mv s1_v (lx (aQ cS rfl Rs1) (mi 0 (aa (am ?_)))))))))
  refine aN (σ:=Nat×aK) (λ⟨k,gq⟩ f w=>aT w0 gq w/\f 0=s1_v/\f 1=s2_v/\f 12=vi (s1.length:Int)/\f 13=vi ↑k/\Sl gq (is 0) w s1_v s1/\Sl gq (is 0) w s2_v s2/\(k:Int)<=((s1.length:Int):Int)/\(List.take k s1=List.take k s2)) (λ⟨k,gq⟩=>Int.toNat (((s1.length:Int):Int)-(k:Int))) (0,c0) ?_ ?_
  · exact⟨bH,rfl,rfl,rfl,rfl,Rs1,Rs2,by omega,by simp⟩
  clear Rs1 Rs2 bH
  rintro⟨k,g5⟩ f3 w4 ⟨bH,zs0,zs1,zs12,zs13,Rs1,Rs2,hle_k,hinv4⟩ back4
  refine a7 (a6 rfl (lx (aZ (m:=↑k) (n:=(s1.length:Int)) zs13 zs12) (aa (a7 ?_))))
  by_cases p4:(k:Int)<(s1.length:Int)
  ·
   refine af rfl (dt p4) (ak (a7 (am (a7 (a6 rfl (mz zs13 (ai (k:Int) (aa (a7 (bz g5 rfl jR (by kernel_rfl) ?_))))))))))
   intro w7 ch6
   refine qz zs0 (qm (vi ↑k) ?_)
   replace Rs1:=Rs1.cn ch6
   refine qx (λw' hw'=>ad (v:=s1_v) (i:=↑k) cS rfl rfl (Rs1.bel hw') rfl (by omega) (by omega)) (qx (λw' hw'=>bA (v:=s1_v) (i:=↑k) bY rfl (Rs1.bel hw') (by omega) (by omega) (by decide) rfl) (qz zs1 (qm (vi ↑k) ?_)))
   replace Rs2:=Rs2.cn ch6
   refine qx (λw' hw'=>ad (v:=s2_v) (i:=↑k) cS rfl rfl (Rs2.bel hw') rfl (by omega) (by omega)) (qx (λw' hw'=>bA (v:=s2_v) (i:=↑k) bY rfl (Rs2.bel hw') (by omega) (by omega) (by decide) rfl) (qx (λw' hw'=>c5 (m:=(gI s1 ↑k)) (n:=(gI s2 ↑k)) rfl rfl) (bN ?_)))
   intro w8 hc9
   replace hc9:=ao hc9 g5
   by_cases p6:(gI s1 ↑k)=(gI s2 ↑k)
   ·
    refine ag rfl (congrArg Bool.not (dt p6)) (ak (al (a6 rfl (lx (aM (m:=↑k) (n:=1) zs13 rfl (by omega)) (mi ((k:Int)+1) (aa ?_))))))
    replace bH:=bH.cn ch6
    refine back4 (k+1,g5) _ _ ⟨bH.cn hc9,zs0,zs1,zs12,rfl,Rs1.cn hc9,Rs2.cn hc9,by omega,?_⟩ ?_
    · show List.take (k+1) s1=List.take (k+1) s2
      rw[bB ‹_›,bB (by omega),hinv4];simp_all
    · show Int.toNat (((s1.length:Int):Int)-((k+1):Int))<Int.toNat (((s1.length:Int):Int)-(k:Int))
      omega
   refine af rfl (congrArg Bool.not (df p6)) (a7 (a6 rfl (ma (vb false) (aa (ar (vs:=[vb false]) Tryz.func73 (.tmp rfl .nil) ?_)))))
   have e0:(false:Bool)=(decide (s1=s2)):=by
     exact(df (λh=>by subst h;simp_all)).symm
   replace bH:=bH.cn ch6
   replace bH:=bH.cn hc9
   exact⟨rb e0,bH.below⟩
  refine ag rfl (df p4) (aJ rfl (a7 (a6 rfl (ma (vb true) (aa (ar (vs:=[vb true]) Tryz.func73 (.tmp rfl .nil) ?_))))))
  have e0:(true:Bool)=(decide (s1=s2)):=by
    (have e:=hinv4;rw[List.take_of_length_le (by omega),List.take_of_length_le (by omega)] at e;exact(dt e).symm)
  exact⟨rb e0,bH.below⟩
 refine af rfl (congrArg Bool.not (df p1)) (a7 (a6 rfl (ma (vb false) (aa (ar (vs:=[vb false]) Tryz.func73 (.tmp rfl .nil) ?_)))))
 have e0:(false:Bool)=(decide (s1=s2)):=by
   exact(df (λh=>by subst h;simp_all)).symm
 exact⟨rb e0,bH.below⟩
theorem ol(w0:World)(s:List Int)(s_v:Value)(hs_v:Ro w0 s_v s)(v:Int):
    Calls Tryz.prog 90 #[s_v,vi v] w0 (λee w=>ee= .returned (vi (dK s v))/\cE w0.heap.size w0 w):=by
 refine au Tryz.func90 rfl nq ?_
 have bH:=aT.start w0
 have Rs:=hs_v.sl
 refine a7 (a6 rfl (ai 0 (aa (a7 (a7 (a6 rfl (mv s_v ?_)))))))
 have len1:=(Rs).small
 refine lx (aQ cS rfl Rs) (mi 0 (aa (am ?_)))
 refine aN (σ:=Nat×aK) (λ⟨k,gq⟩ f w=>aT w0 gq w/\f 0=s_v/\f 1=vi v/\f 7=vi (s.length:Int)/\f 8=vi ↑k/\Sl gq (is 0) w s_v s/\(k:Int)<=((s.length:Int):Int)/\(∀j:Nat,j<k->¬v=gI s ↑j)) (λ⟨k,gq⟩=>Int.toNat (((s.length:Int):Int)-(k:Int))) (0,c0) ?_ ?_
 · exact⟨bH,rfl,rfl,rfl,rfl,Rs,by omega,by intro j hj;omega⟩
 clear Rs bH
 rintro⟨k,g4⟩ f2 w3 ⟨bH,zs0,zs1,zs7,zs8,Rs,hle_k,hinv⟩ back2
 refine a7 (a6 rfl (lx (aZ (m:=↑k) (n:=(s.length:Int)) zs8 zs7) (aa (a7 ?_))))
 by_cases p2:(k:Int)<(s.length:Int)
 ·
  refine af rfl (dt p2) (ak (a7 (am (a7 (a6 rfl (mz zs8 (ai (k:Int) (aa (a7 (a6 rfl (mz zs1 (mz zs0 ?_))))))))))))
  refine mi ↑k (lx (ad (v:=s_v) (i:=↑k) cS rfl rfl Rs rfl (by omega) (by omega)) (lx (bA (v:=s_v) (i:=↑k) bY rfl Rs (by omega) (by omega) (by decide) rfl) (lx (c7 (m:=v) (n:=(gI s ↑k)) rfl rfl) (aa ?_))))
  by_cases p4:v=(gI s ↑k)
  ·
   refine af rfl (dt p4) (a7 (a6 rfl (mi ↑k (ai (k:Int) (aa (ar (vs:=[vi ↑k]) Tryz.func90 (.tmp rfl .nil) ?_))))))
   have e0:((k:Int):Int)=(dK s v):=by
     exact pw hinv ‹_› ‹_›
   exact⟨ri e0,bH.below⟩
  refine ag rfl (df p4) (ak (al (a6 rfl (lx (aM (m:=↑k) (n:=1) zs8 rfl (by omega)) (mi ((k:Int)+1) (aa ?_))))))
  refine back2 (k+1,g4) _ _ ⟨bH,zs0,zs1,zs7,rfl,Rs,by omega,?_⟩ ?_
  · show∀j:Nat,j<(k+1)->¬v=gI s ↑j
    intro j hj
    by_cases e0:j=k
    · subst e0;assumption
    · exact hinv j (by omega)
  · show Int.toNat (((s.length:Int):Int)-((k+1):Int))<Int.toNat (((s.length:Int):Int)-(k:Int))
    omega
 refine ag rfl (df p2) (aJ rfl (a7 (a6 rfl (ai (-1) (aa (ar (vs:=[vi (-1)]) Tryz.func90 (.tmp rfl .nil) ?_))))))
 have e0:(-1:Int)=(dK s v):=by
   exact ye hinv ‹_›
 exact⟨ri e0,bH.below⟩
theorem sM(w0:World)(l:List Int)(l_v:Value)(hl_v:Ro w0 l_v l):
    Calls Tryz.prog 76 #[l_v] w0 (λee w=>∃xx:aK×Value,ee= .returned ((λ⟨δ,rv0⟩=>rv0) xx)/\(λ(⟨δ,rv0⟩:aK×Value) (w:World)=>em w0 δ w/\Ow δ (is 1) (is 1) w rv0 (fq l)) xx w):=by
 refine au Tryz.func76 rfl nq ?_
 have bH:=aT.start w0
 have Rl:=hl_v.sl
 refine a7 (a6 rfl (ma vn (aa (a7 (a6 rfl (ai 0 (aa (a7 (a7 (a6 rfl (ai 0 (aa (am ?_)))))))))))))
 refine aN (σ:=Nat×Int×aK) (λ⟨i,at_,gq⟩ f w=>aT w0 gq w/\f 0=l_v/\f 3=vi at_/\f 4=vi ↑i/\Sl gq (is 0) w l_v l/\(i:Int)<=((l.length:Int):Int)/\(e8 at_ l i)) (λ⟨i,at_,gq⟩=>Int.toNat (((l.length:Int):Int)-(i:Int))) (0,0,c0) ?_ ?_
 · exact⟨bH,rfl,rfl,rfl,Rl,by omega,by exact e8.start l⟩
 clear Rl bH
 rintro⟨i,at_,g3⟩ f1 w2 ⟨bH,zs0,zs3,zs4,Rl,hle_i,hinv⟩ back3
 have hlo:=hinv.lo
 have hhi:at_<l.length\/at_=0/\l=[]:=hinv.hi
 have hh2:at_<=(l.length:Int):=by rcases hhi with h|⟨h1,h2⟩<;>omega
 refine a7 (a7 (a6 rfl (mz zs4 (mz zs0 ?_))))
 have len4:=(Rl).small
 refine lx (aQ cS rfl Rl) (lx (aZ (m:=↑i) (n:=(l.length:Int)) rfl rfl) (aa ?_))
 by_cases p3:(i:Int)<(l.length:Int)
 ·
  refine af rfl (dt p3) ?_
  have hh3:at_<(l.length:Int):=by rcases hhi with h|⟨h1,h2⟩;exact h;subst h2;simp at*;omega
  refine ak (a7 (am (a7 (bz g3 rfl jR (by kernel_rfl) ?_))))
  intro w6 ch5
  refine qz zs0 (qz zs4 ?_)
  replace Rl:=Rl.cn ch5
  refine qx (λw' hw'=>ad (v:=l_v) (i:=↑i) cS rfl rfl (Rl.bel hw') rfl (by omega) (by omega)) (qx (λw' hw'=>bA (v:=l_v) (i:=↑i) bY rfl (Rl.bel hw') (by omega) (by omega) (by decide) rfl) (qz zs0 (qz zs3 (qx (λw' hw'=>ad (v:=l_v) (i:=at_) cS rfl rfl (Rl.bel hw') rfl (by omega) (by omega)) (qx (λw' hw'=>bA (v:=l_v) (i:=at_) bY rfl (Rl.bel hw') (by omega) (by omega) (by decide) rfl) (qx (λw' hw'=>aZ (m:=(gI l ↑i)) (n:=(gI l at_)) rfl rfl) (bN ?_)))))))
  intro w7 hc8
  replace hc8:=ao hc8 g3
  by_cases p5:(gI l ↑i)<(gI l at_)
  ·
   refine af rfl (dt p5) (a6 rfl (mz zs4 (ai (i:Int) (aa (al (a6 rfl (mz zs4 (lx (aM (m:=↑i) (n:=1) rfl rfl (by omega)) (ai ((i:Int)+1) ?_)))))))))
   refine aa ?_
   replace bH:=bH.cn ch5
   refine back3 (i+1,(i:Int),g3) _ _ ⟨bH.cn hc8,zs0,rfl,rfl,Rl.cn hc8,by omega,?_⟩ ?_
   · show e8 (i:Int) l (i+1)
     exact hinv.yes ‹_› ‹_›
   · show Int.toNat (((l.length:Int):Int)-((i+1):Int))<Int.toNat (((l.length:Int):Int)-(i:Int))
     omega
  refine ag rfl (df p5) (ak (al (a6 rfl (mz zs4 (lx (aM (m:=↑i) (n:=1) rfl rfl (by omega)) (ai ((i:Int)+1) (aa ?_)))))))
  replace bH:=bH.cn ch5
  refine back3 (i+1,at_,g3) _ _ ⟨bH.cn hc8,zs0,zs3,rfl,Rl.cn hc8,by omega,?_⟩ ?_
  · show e8 at_ l (i+1)
    exact hinv.no ‹_›
  · show Int.toNat (((l.length:Int):Int)-((i+1):Int))<Int.toNat (((l.length:Int):Int)-(i:Int))
    omega
 refine ag rfl (df p3) (aJ rfl (a7 (c6 g3 [0,1,2,4,5,6,8] jR ?_)))
 intro w10 ch9
 refine xp (v:=l_v) 0 rfl (λw=>aq zs0) (xp (v:=vi at_) 1 rfl (λw=>aq zs3) ?_)
 replace Rl:=Rl.cn ch9
 refine xp (v:=(eE l_v 1 (Int.toNat at_) (Int.toNat l.length))) 2 rfl (λw=>hU (v:=l_v) (l:=at_) (h:=l.length) cS rfl rfl Rl (.inl (congrArg some rfl)) (.inr ⟨rfl,rfl⟩) (by omega) (by omega) (by omega)) ?_
 have r12:=jp Rl (show Int.toNat at_<=Int.toNat l.length by omega) (show Int.toNat l.length<=List.length _ by omega)
 refine xp (v:=l_v) 4 rfl (λw=>aq zs0) (xp (v:=vi at_) 5 rfl (λw=>aq zs3) (xp (v:=(eE l_v 1 (Int.toNat 0) (Int.toNat at_))) 6 rfl (λw=>hU (v:=l_v) (l:=0) (h:=at_) cS rfl rfl Rl (.inr ⟨rfl,rfl⟩) (.inl (congrArg some rfl)) (by omega) (by omega) (by omega)) ?_))
 have r14:=jp Rl (show Int.toNat 0<=Int.toNat at_ by omega) (show Int.toNat at_<=List.length _ by omega)
 refine ct 3 rfl (by kernel_rfl) rfl (aV (α:=Int) (xs:=([])) (ys:=(List.drop (Int.toNat at_) (List.take (Int.toNat l.length) l))) g3 (J:=is 1) (S:=is 1) (1,0) rfl cS bY (by decide) rfl rfl rfl Ow.nil r12 (by decide) (by(simp;omega)) ?_)
 intro g15 w16 v17 ch18 o19
 replace o19:Ow g15 (is 1) (is 1) w16 v17 (List.drop (Int.toNat at_) (List.take (Int.toNat l.length) l)):=o19
 refine ct 7 rfl (by kernel_rfl) rfl ?_
 replace r14:=r14.ce ch18
 refine aV (α:=Int) (xs:=(List.drop (Int.toNat at_) (List.take (Int.toNat l.length) l))) (ys:=(List.drop (Int.toNat 0) (List.take (Int.toNat at_) l))) g15 (J:=is 1) (S:=is 1) (1,0) rfl cS bY (by decide) rfl rfl rfl o19 r14 (by decide) (by(simp;omega)) ?_
 intro g20 w21 v22 ch23 o24
 clear o19
 refine xp (v:=v22) 8 rfl (λw=>br rfl) (ec (by kernel_rfl) (ar (vs:=[v22]) Tryz.func76 (.tmp rfl .nil) ?_))
 have C25:=cg [1] (ch9.n.seq ((ch18.l rfl).seq (ch23.l rfl)))
 replace bH:=bH.ca C25
 have e0:(((List.drop (Int.toNat at_) (List.take (Int.toNat l.length) l))++(List.drop (Int.toNat 0) (List.take (Int.toNat at_) l))):List Int)=(fq l):=by
   have hd:=hinv.done ‹_›;simp at hd ⊢;exact hd
 exact⟨(fin w0 g20 (λn=>if n=1 then 1 else 0),v22),(congrArg (a₁:=((List.drop (Int.toNat at_) (List.take (Int.toNat l.length) l))++(List.drop (Int.toNat 0) (List.take (Int.toNat at_) l)))) (λ(z0:List Int)=>Ending.returned (v22)) e0),bH.fresh _,(e0▸(o24.glue (γ:=c0) (ren:=(λn=>if n=1 then 1 else 0)) (k:=1) bH.col rfl rfl))⟩
theorem kz(w0:World)(r:cT)(r_v:Value)(hr_v:Ro w0 r_v r):
    Calls Tryz.prog 45 #[r_v] w0 (λee w=>∃xx:aK×Value,ee= .returned ((λ⟨δ,rv0⟩=>rv0) xx)/\(λ(⟨δ,rv0⟩:aK×Value) (w:World)=>em w0 δ w/\dr δ 1 w rv0 (aU r)) xx w):=by
 refine au Tryz.func45 rfl nq ?_
 have bH:=aT.start w0
 have Rr:=hr_v.sl
 refine a7 (a6 rfl (ma vn (aa (a7 (a6 rfl (mv r_v ?_))))))
 have len1:=(Rr).small
 refine lx (aQ ik rfl Rr) (lo (gi (α:=Int) (n:=(r.length:Int)) (cp:=(r.length:Int)) c0 1 ik c4 rfl rfl rfl (by omega) (by omega) (by omega) (by omega) ?_))
 intro g2 w3 v4 ch5 o6
 refine ma v4 (aa (a7 (a7 (a6 rfl (ai 0 (aa (am ?_)))))))
 refine aN (σ:=Nat×cT×aK) (λ⟨k,out,gq⟩ f w=>aT w0 gq w/\f 0=r_v/\f 3=v4/\f 4=vi ↑k/\Sl gq (is 0) w r_v r/\dr gq 1 w v4 out/\(k:Int)<=((r.length:Int):Int)/\(out=List.map fq (List.take k r)++List.replicate (r.length-k) [])) (λ⟨k,out,gq⟩=>Int.toNat (((r.length:Int):Int)-(k:Int))) (0,(List.replicate (Int.toNat (r.length:Int)) []),g2) ?_ ?_
 · exact⟨bH.cn ch5,rfl,rfl,rfl,Rr.cn ch5,o6,by omega,by simp⟩
 clear Rr o6 bH
 rintro⟨k,out,g9⟩ f7 w8 ⟨bH,zs0,zs3,zs4,Rr,o6,hle_k,hinv⟩ back3
 have hol:out.length=r.length:=by rw[hinv];simp;omega
 refine a7 (a7 (a6 rfl (mz zs4 (mz zs0 (lx (aQ ik rfl Rr) (lx (aZ (m:=↑k) (n:=(r.length:Int)) rfl rfl) (aa ?_)))))))
 by_cases p3:(k:Int)<(r.length:Int)
 ·
  refine af rfl (dt p3) (ak (a7 (am (a6 rfl (mz zs3 (mz zs4 (mz zs0 (mz zs4 (lx (ad (v:=r_v) (i:=↑k) ik rfl rfl Rr rfl (by omega) (by omega)) ?_)))))))))
  obtain⟨v10,cel11,r12⟩:=cA (r:=(k:Int)) Rr (by omega) (by omega)
  refine lx (ba c4 rfl cel11) (lo (bi (aA (vals:=[v10]) Tryz.func76 zL zR rfl) (sM w8 (gI r ↑k) v10 (r12).ro) ?_))
  rintro⟨d14,v16⟩ w13 ⟨fr15,o17⟩
  obtain⟨g18,ch19,G18⟩:=fC g9 fr15 (λn=>if n=1 then 2 else 0)
  replace o17:=o17.gl G18 2
  replace o6:=o6.cn ch19
  refine lx (ad (v:=v4) (i:=↑k) ik rfl rfl o6.sl rfl (by omega) (by omega)) (lo (gH (r:=(k:Int)) c4 rfl rfl o6 o17 rfl (by omega) (by omega) ?_))
  intro g26 w23 ch24 o25
  clear o6 o17
  refine aa (al ?_)
  clear r12
  refine a6 rfl (mz zs4 (lx (aM (m:=↑k) (n:=1) rfl rfl (by omega)) (ai ((k:Int)+1) (aa ?_))))
  replace bH:=bH.cn ch19
  refine back3 (k+1,(List.set out (Int.toNat ↑k) (fq (gI r ↑k))),g26) _ _ ⟨bH.chg ch24 (iT rfl rfl),zs0,zs3,rfl,(Rr.cn ch19).chg ch24 (iT rfl rfl),o25,by omega,?_⟩ ?_
  · show(List.set out (Int.toNat ↑k) (fq (gI r ↑k)))=List.map fq (List.take (k+1) r)++List.replicate (r.length-(k+1)) []
    rw[hinv];exact oH ‹_› rfl
  · show Int.toNat (((r.length:Int):Int)-((k+1):Int))<Int.toNat (((r.length:Int):Int)-(k:Int))
    omega
 refine ag rfl (df p3) (aJ rfl (a7 (a6 rfl (mz zs3 (ma v4 (aa (ar (vs:=[v4]) Tryz.func45 (.tmp rfl .nil) ?_)))))))
 have e0:(out:cT)=(aU r):=by
   rw[hinv,show k=r.length by omega];simp[aU]
 exact⟨(fin w0 g9 (λn=>if n=1 then 1 else 0),v4),(congrArg (a₁:=out) (λ(z0:cT)=>Ending.returned (v4)) e0),bH.fresh _,(e0▸(o6.glue (γ:=c0) (ren:=(λn=>if n=1 then 1 else 0)) (k:=1) bH.col rfl rfl))⟩
theorem lk(w0:World)(r:cT)(r_v:Value)(hr_v:Ro w0 r_v r):
    Calls Tryz.prog 70 #[r_v] w0 (λee w=>∃xx:aK×Value,ee= .returned ((λ⟨δ,rv0⟩=>rv0) xx)/\(λ(⟨δ,rv0⟩:aK×Value) (w:World)=>em w0 δ w/\dr δ 1 w rv0 (aU r)) xx w):=by
 refine au Tryz.func70 rfl nq ?_
 have bH:=aT.start w0
 have Rr:=hr_v.sl
 refine a7 (a6 rfl (ma vn (aa (a7 (a6 rfl (mv r_v ?_))))))
 have len1:=(Rr).small
 refine lx (aQ ik rfl Rr) (lo (gi (α:=Int) (n:=(r.length:Int)) (cp:=(r.length:Int)) c0 1 ik c4 rfl rfl rfl (by omega) (by omega) (by omega) (by omega) ?_))
 intro g2 w3 v4 ch5 o6
 refine ma v4 (aa (a7 (a7 (a6 rfl (mv r_v ?_)))))
 replace Rr:=Rr.cn ch5
 refine lx (aQ ik rfl Rr) (mi 0 (aa (am ?_)))
 refine aN (σ:=Nat×cT×aK) (λ⟨k,out,gq⟩ f w=>aT w0 gq w/\f 3=v4/\f 10=r_v/\f 11=vi (r.length:Int)/\f 12=vi ↑k/\Sl gq (is 0) w r_v r/\dr gq 1 w v4 out/\(k:Int)<=((r.length:Int):Int)/\(out=List.map fq (List.take k r)++List.replicate (r.length-k) [])) (λ⟨k,out,gq⟩=>Int.toNat (((r.length:Int):Int)-(k:Int))) (0,(List.replicate (Int.toNat (r.length:Int)) []),g2) ?_ ?_
 · exact⟨bH.cn ch5,rfl,rfl,rfl,rfl,Rr,o6,by omega,by simp⟩
 clear Rr o6 bH
 rintro⟨k,out,g9⟩ f7 w8 ⟨bH,zs3,zs10,zs11,zs12,Rr,o6,hle_k,hinv⟩ back3
 have hol:out.length=r.length:=by rw[hinv];simp;omega
 refine a7 (a6 rfl (lx (aZ (m:=↑k) (n:=(r.length:Int)) zs12 zs11) (aa (a7 ?_))))
 by_cases p3:(k:Int)<(r.length:Int)
 ·
  refine af rfl (dt p3) (ak (a7 (am (a7 (a6 rfl (mz zs12 (lx (ad (v:=r_v) (i:=↑k) ik rfl zs10 Rr zs12 (by omega) (by omega)) ?_)))))))
  obtain⟨v10,cel11,r12⟩:=cA (r:=(k:Int)) Rr (by omega) (by omega)
  refine lx (ba c4 rfl cel11) (ai (k:Int) (ma v10 (aa (a7 (a7 (a6 rfl (mv v10 ?_)))))))
  have len13:=(r12).small
  refine lx (aQ cS rfl r12) (lx (c7 (m:=(List.length (gI r ↑k):Int)) (n:=0) rfl rfl) (aa ?_))
  by_cases p5:(List.length (gI r ↑k):Int)=0
  ·
   refine af rfl (dt p5) (aJ rfl ?_)
   clear r12
   refine a6 rfl (lx (aM (m:=↑k) (n:=1) zs12 rfl (by omega)) (mi ((k:Int)+1) (aa ?_)))
   refine back3 (k+1,out,g9) _ _ ⟨bH,zs3,zs10,zs11,rfl,Rr,o6,by omega,?_⟩ ?_
   · show out=List.map fq (List.take (k+1) r)++List.replicate (r.length-(k+1)) []
     (rw[hinv];exact tD ‹_› (by rw[fq,if_pos];apply List.eq_nil_of_length_eq_zero;omega))
   · show Int.toNat (((r.length:Int):Int)-((k+1):Int))<Int.toNat (((r.length:Int):Int)-(k:Int))
     omega
  have hti:=mT (l:=gI r ↑k) (by intro h;rw[h] at p5;simp at p5)
  have hti2:=hti.2.1
  have hti3:=hti.2.2
  refine ag rfl (df p5) (ak (a7 (a6 rfl (mv v10 (mv v10 (lo (aO (v:=vi (dW (gI r ↑k))) (aA (vals:=[v10]) Tryz.func91 zT zx rfl) (ze w8 (gI r ↑k) v10 (r12).ro (by omega)) ?_)))))))
  intro w14 hb15
  replace hb15:=ao hb15 g9
  replace r12:=r12.cn hb15
  refine lo (aO (v:=vi (dK (gI r ↑k) (dW (gI r ↑k)))) (aA (vals:=[v10,vi (dW (gI r ↑k))]) Tryz.func90 uu uK rfl) (ol w14 (gI r ↑k) v10 (r12).ro (dW (gI r ↑k))) ?_)
  intro w16 hb17
  replace hb17:=ao hb17 g9
  refine ai (dK (gI r ↑k) (dW (gI r ↑k))) (aa (c6 g9 [0,1,2,3,4,6,7,8,10] jR ?_))
  intro w19 ch18
  refine xp (v:=v4) 0 rfl (λw=>aq zs3) (xp (v:=vi ↑k) 1 rfl (λw=>aq rfl) (xp (v:=v10) 2 rfl (λw=>aq rfl) (xp (v:=vi (dK (gI r ↑k) (dW (gI r ↑k)))) 3 rfl (λw=>aq rfl) ?_)))
  replace r12:=(r12.cn hb17).cn ch18
  refine xp (v:=(eE v10 1 (Int.toNat (dK (gI r ↑k) (dW (gI r ↑k)))) (Int.toNat ((gI r ↑k).length)))) 4 rfl (λw=>hU (v:=v10) (l:=dK (gI r ↑k) (dW (gI r ↑k))) (h:=(gI r ↑k).length) cS rfl rfl r12 (.inl (congrArg some rfl)) (.inr ⟨rfl,rfl⟩) (by omega) (by omega) (by omega)) ?_
  have r21:=jp r12 (show Int.toNat (dK (gI r ↑k) (dW (gI r ↑k)))<=Int.toNat ((gI r ↑k).length) by omega) (show Int.toNat ((gI r ↑k).length)<=List.length _ by omega)
  refine xp (v:=v10) 6 rfl (λw=>aq rfl) (xp (v:=vi (dK (gI r ↑k) (dW (gI r ↑k)))) 7 rfl (λw=>aq rfl) (xp (v:=(eE v10 1 (Int.toNat 0) (Int.toNat (dK (gI r ↑k) (dW (gI r ↑k)))))) 8 rfl (λw=>hU (v:=v10) (l:=0) (h:=dK (gI r ↑k) (dW (gI r ↑k))) cS rfl rfl r12 (.inr ⟨rfl,rfl⟩) (.inl (congrArg some rfl)) (by omega) (by omega) (by omega)) ?_))
  have r23:=jp r12 (show Int.toNat 0<=Int.toNat (dK (gI r ↑k) (dW (gI r ↑k))) by omega) (show Int.toNat (dK (gI r ↑k) (dW (gI r ↑k)))<=List.length _ by omega)
  refine ct 5 rfl (by kernel_rfl) rfl (aV (α:=Int) (xs:=([])) (ys:=(List.drop (Int.toNat (dK (gI r ↑k) (dW (gI r ↑k)))) (List.take (Int.toNat ((gI r ↑k).length)) (gI r ↑k)))) g9 (J:=is 2) (S:=is 2) (2,0) rfl cS bY (by decide) rfl rfl rfl Ow.nil r21 (by decide) (by(simp;omega)) ?_)
  intro g24 w25 v26 ch27 o28
  replace o28:Ow g24 (is 2) (is 2) w25 v26 (List.drop (Int.toNat (dK (gI r ↑k) (dW (gI r ↑k)))) (List.take (Int.toNat ((gI r ↑k).length)) (gI r ↑k))):=o28
  refine ct 9 rfl (by kernel_rfl) rfl ?_
  replace r23:=r23.ce ch27
  refine aV (α:=Int) (xs:=(List.drop (Int.toNat (dK (gI r ↑k) (dW (gI r ↑k)))) (List.take (Int.toNat ((gI r ↑k).length)) (gI r ↑k)))) (ys:=(List.drop (Int.toNat 0) (List.take (Int.toNat (dK (gI r ↑k) (dW (gI r ↑k)))) (gI r ↑k)))) g24 (J:=is 2) (S:=is 2) (2,0) rfl cS bY (by decide) rfl rfl rfl o28 r23 (by decide) (by(simp;omega)) ?_
  intro g29 w30 v31 ch32 o33
  clear o28
  have C34:=cg [2] (hb15.n.seq (hb17.n.seq (ch18.n.seq ((ch27.l rfl).seq (ch32.l rfl)))))
  replace o6:=o6.ca C34
  refine xv 10 [9,5,8,7,6,4,3,2,1,0] rfl (ad (v:=v4) (i:=↑k) ik rfl rfl o6.sl rfl (by omega) (by omega)) (ct 11 rfl (by kernel_rfl) rfl (gH (r:=(k:Int)) c4 rfl rfl o6 o33 rfl (by omega) (by omega) ?_))
  intro g41 w38 ch39 o40
  clear o6 o33
  refine ec (by kernel_rfl) (al ?_)
  clear r12 r21 r23
  refine a6 rfl (lx (aM (m:=↑k) (n:=1) zs12 rfl (by omega)) (mi ((k:Int)+1) (aa ?_)))
  have C42:=cg [1,2] (hb15.n.seq (hb17.n.seq (ch18.n.seq ((ch27.l rfl).seq ((ch32.l rfl).seq (ch39.l2 rfl rfl))))))
  refine back3 (k+1,(List.set out (Int.toNat ↑k) ((List.drop (Int.toNat (dK (gI r ↑k) (dW (gI r ↑k)))) (List.take (Int.toNat ((gI r ↑k).length)) (gI r ↑k)))++(List.drop (Int.toNat 0) (List.take (Int.toNat (dK (gI r ↑k) (dW (gI r ↑k)))) (gI r ↑k))))),g41) _ _ ⟨bH.ca C42,zs3,zs10,zs11,rfl,Rr.ca C42,o40,by omega,?_⟩ ?_
  · show(List.set out (Int.toNat ↑k) ((List.drop (Int.toNat (dK (gI r ↑k) (dW (gI r ↑k)))) (List.take (Int.toNat ((gI r ↑k).length)) (gI r ↑k)))++(List.drop (Int.toNat 0) (List.take (Int.toNat (dK (gI r ↑k) (dW (gI r ↑k)))) (gI r ↑k)))))=List.map fq (List.take (k+1) r)++List.replicate (r.length-(k+1)) []
    (rw[hinv];exact oH ‹_› (by rw[hti.1];simp))
  · show Int.toNat (((r.length:Int):Int)-((k+1):Int))<Int.toNat (((r.length:Int):Int)-(k:Int))
    omega
 refine ag rfl (df p3) (aJ rfl (a7 (a6 rfl (mz zs3 (ma v4 (aa (ar (vs:=[v4]) Tryz.func70 (.tmp rfl .nil) ?_)))))))
 have e0:(out:cT)=(aU r):=by
   rw[hinv,show k=r.length by omega];simp[aU]
 exact⟨(fin w0 g9 (λn=>if n=1 then 1 else 0),v4),(congrArg (a₁:=out) (λ(z0:cT)=>Ending.returned (v4)) e0),bH.fresh _,(e0▸(o6.glue (γ:=c0) (ren:=(λn=>if n=1 then 1 else 0)) (k:=1) bH.col rfl rfl))⟩
theorem sP(w0:World)(a:cT)(a_v:Value)(ha_v:Ro w0 a_v a)(b:cT)(b_v:Value)(hb_v:Ro w0 b_v b):
    Calls Tryz.prog 55 #[a_v,b_v] w0 (λee w=>ee= .returned (vb (decide (aU a=aU b)))/\cE w0.heap.size w0 w):=by
 refine au Tryz.func55 rfl nq ?_
 have bH:=aT.start w0
 have Ra:=ha_v.sl
 have Rb:=hb_v.sl
 refine a7 (a6 rfl (ma (vb false) (aa (a7 (a6 rfl (mv a_v (lo (bi (aA (vals:=[a_v]) Tryz.func45 qp pS rfl) (kz w0 a a_v (Ra).ro) ?_))))))))
 rintro⟨d2,v4⟩ w1 ⟨fr3,o5⟩
 obtain⟨g6,ch7,G6⟩:=fC c0 fr3 (λn=>if n=1 then 1 else 0)
 replace o5:=o5.gl G6 1
 refine mv b_v ?_
 replace Rb:=Rb.cn ch7
 refine lo (bi (aA (vals:=[b_v]) Tryz.func45 qp pS rfl) (kz w1 b b_v (Rb).ro) ?_)
 rintro⟨d9,v11⟩ w8 ⟨fr10,o12⟩
 obtain⟨g13,ch14,G13⟩:=fC g6 fr10 (λn=>if n=1 then 2 else 0)
 replace o12:=o12.gl G13 2
 replace o5:=o5.cn ch14
 refine lo (aO (v:=vb (decide ((aU a)=(aU b)))) (aA (vals:=[v4,v11]) Tryz.func20 tC vG rfl) (oe w8 (aU a) v4 (o5.sl).ro (aU b) v11 (o12.sl).ro) ?_)
 intro w15 hb16
 replace hb16:=ao hb16 g13
 refine ma (vb (decide ((aU a)=(aU b)))) (aa (ar (vs:=[vb (decide ((aU a)=(aU b)))]) Tryz.func55 (.tmp rfl .nil) ?_))
 have e0:((decide ((aU a)=(aU b))):Bool)=(decide (aU a=aU b)):=by
   rfl
 have C17:=cg [] (ch7.n.seq (ch14.n.seq hb16.n))
 replace bH:=bH.ca C17
 exact⟨(congrArg (a₁:=(decide ((aU a)=(aU b)))) (λ(z0:Bool)=>Ending.returned (vb z0)) e0),bH.below⟩
theorem uj(w0:World)(g:(Int)×(List Pt))(g_v:Value)(hg_v:Ro w0 g_v g.2)(a:cT)(a_v:Value)(ha_v:Ro w0 a_v a)(b:cT)(b_v:Value)(hb_v:Ro w0 b_v b):
    Calls Tryz.prog 35 #[vg [vi g.1,g_v],a_v,b_v] w0 (λee w=>ee= .returned (vt [vb ((cW g a b).1),vi ((cW g a b).2)])/\cE w0.heap.size w0 w):=by
 refine au Tryz.func35 rfl nq ?_
 have bH:=aT.start w0
 have Rg:=hg_v.sl
 have Ra:=ha_v.sl
 have Rb:=hb_v.sl
 refine a7 (a6 rfl (bW rfl (bh c0 (is 1) (1,0) rfl rfl ?_)))
 intro g4 w1 b3 ch2 bx5
 replace bx5:Bx g4 (is 1) w1 b3 [vi g.1,g_v]:=bx5
 refine ma (vb false) (ai 0 (aa (a7 (a7 (a6 rfl (lx (aj (ds:=[vi g.1,g_v]) db rfl bx5 rfl rfl) (mv a_v ?_)))))))
 replace Rg:=Rg.cn ch2
 replace Ra:=Ra.cn ch2
 refine lo (aO (v:=vi (bg g a)) (aA (vals:=[vg [vi g.1,g_v],a_v]) Tryz.func34 nf nQ rfl) (ld w1 g g_v (Rg).ro a a_v (Ra).ro) ?_)
 intro w6 hb7
 replace hb7:=ao hb7 g4
 refine ai (bg g a) (aa (a7 (a6 rfl (mi (bg g a) (lx (c5 (m:=bg g a) (n:=0) rfl rfl) (aa ?_))))))
 by_cases p2:(bg g a)=0
 ·
  refine ag rfl (congrArg Bool.not (dt p2)) (ak (a7 (a7 (a6 rfl ?_))))
  replace bx5:=bx5.cn hb7
  refine lx (aj (ds:=[vi g.1,g_v]) db rfl bx5 rfl rfl) (mv b_v ?_)
  replace Rg:=Rg.cn hb7
  replace Rb:=(Rb.cn ch2).cn hb7
  refine lo (aO (v:=vi (bg g b)) (aA (vals:=[vg [vi g.1,g_v],b_v]) Tryz.func34 nf nQ rfl) (ld w6 g g_v (Rg).ro b b_v (Rb).ro) ?_)
  intro w8 hb9
  replace hb9:=ao hb9 g4
  refine ai (bg g b) (aa (a7 ?_))
  clear bx5
  refine a6 rfl (mi (bg g b) (lx (c5 (m:=bg g b) (n:=0) rfl rfl) (aa ?_)))
  by_cases p5:(bg g b)=0
  ·
   refine ag rfl (congrArg Bool.not (dt p5)) (ak (a7 (a6 rfl (mv a_v ?_))))
   replace Ra:=(Ra.cn hb7).cn hb9
   refine lo (bi (aA (vals:=[a_v]) Tryz.func70 qr qI rfl) (lk w8 a a_v (Ra).ro) ?_)
   rintro⟨d11,v13⟩ w10 ⟨fr12,o14⟩
   obtain⟨g15,ch16,G15⟩:=fC g4 fr12 (λn=>if n=1 then 2 else 0)
   replace o14:=o14.gl G15 2
   refine mv b_v ?_
   replace Rb:=(Rb.cn hb9).cn ch16
   refine lo (bi (aA (vals:=[b_v]) Tryz.func70 qr qI rfl) (lk w10 b b_v (Rb).ro) ?_)
   rintro⟨d18,v20⟩ w17 ⟨fr19,o21⟩
   obtain⟨g22,ch23,G22⟩:=fC g15 fr19 (λn=>if n=1 then 3 else 0)
   replace o21:=o21.gl G22 3
   refine lo (co (aA (vals:=[v13,v20,Value.func (.func 72) #[] #[]]) Tryz.func71 zH zY rfl) (au Tryz.func71 rfl nq ?_))
   replace o14:=o14.cn ch23
   refine a7 (a6 rfl (ma (vb false) (aa (a7 (a7 (a6 rfl (mv v13 ?_)))))))
   have len24:=(o14.sl).small
   refine lx (aQ ik rfl o14.sl) (mv v20 ?_)
   have len25:=(o21.sl).small
   refine lx (aQ ik rfl o21.sl) (lx (c5 (m:=(List.length (aU a):Int)) (n:=(List.length (aU b):Int)) rfl rfl) (aa ?_))
   by_cases p1_c1:(List.length (aU a):Int)=(List.length (aU b):Int)
   ·
    refine ag rfl (congrArg Bool.not (dt p1_c1)) (ak (a7 (a7 (a6 rfl (mv v13 (lx (aQ ik rfl o14.sl) (mi 0 (aa (am ?_)))))))))
    refine aN (σ:=Nat×aK) (λ⟨k_c1,gq⟩ f w=>aT w0 gq w/\f 1=v20/\f 2=Value.func (.func 72) #[] #[]/\f 15=v13/\f 16=vi (List.length (aU a):Int)/\f 17=vi ↑k_c1/\Sl gq (is 0) w g_v g.2/\Sl gq (is 0) w a_v a/\Sl gq (is 0) w b_v b/\dr gq 2 w v13 (aU a)/\dr gq 3 w v20 (aU b)/\(k_c1:Int)<=((List.length (aU a):Int):Int)/\(List.take k_c1 (aU a)=List.take k_c1 (aU b))) (λ⟨k_c1,gq⟩=>Int.toNat (((List.length (aU a):Int):Int)-(k_c1:Int))) (0,g22) ?_ ?_
    have C27:=cg [] (hb9.n.seq (ch16.n.seq ch23.n))
    have C26:=ch2.n.seq (hb7.n.seq C27)
    · exact⟨bH.ca C26,rfl,rfl,rfl,rfl,rfl,Rg.ca C27,(Ra.cn ch16).cn ch23,Rb.cn ch23,o14,o21,by omega,by simp⟩
    clear Rg Ra Rb o14 o21 bH
    rintro⟨k_c1,g30⟩ f28 w29 ⟨bH,zs1_c1,zs2_c1,zs15_c1,zs16_c1,zs17_c1,Rg,Ra,Rb,o14,o21,hle_k_c1,hq_c1⟩ back4_c1
    refine a7 (a6 rfl (lx (aZ (m:=↑k_c1) (n:=(List.length (aU a):Int)) zs17_c1 zs16_c1) (aa (a7 ?_))))
    by_cases p4_c1:(k_c1:Int)<(List.length (aU a):Int)
    ·
     refine af rfl (dt p4_c1) (ak (a7 (am (a7 (a6 rfl (mz zs17_c1 (lx (ad (v:=v13) (i:=↑k_c1) ik rfl zs15_c1 o14.sl zs17_c1 (by omega) (by omega)) ?_)))))))
     obtain⟨v31,cel32,r33⟩:=cD (r:=(k_c1:Int)) o14 (by omega) (by omega)
     refine lx (ba c4 rfl cel32) (ai (k_c1:Int) (ma v31 (aa (a7 (a6 rfl (mz zs1_c1 (mi ↑k_c1 (lx (ad (v:=v20) (i:=↑k_c1) ik rfl rfl o21.sl rfl (by omega) (by omega)) ?_))))))))
     obtain⟨v34,cel35,r36⟩:=cD (r:=(k_c1:Int)) o21 (by omega) (by omega)
     refine lx (ba c4 rfl cel35) (ma v34 (aa (a7 (a6 rfl (mz zs2_c1 (mv v31 (mv v34 (lo (co (xN (fid:=72) (vals:=[v31,v34]) rfl Tryz.func72 A6 zF rfl) (au Tryz.func72 rfl nq (a7 (a6 rfl ?_))))))))))))
     refine ma (vb false) (aa (a7 (a6 rfl (mv v31 (mv v34 (lo (aO (v:=vb (decide ((gI (aU a) (k_c1:Int))=(gI (aU b) (k_c1:Int))))) (aA (vals:=[v31,v34]) Tryz.func73 zI zg rfl) (sA w29 (gI (aU a) (k_c1:Int)) v31 (r33.row_sl).ro (gI (aU b) (k_c1:Int)) v34 (r36.row_sl).ro) ?_)))))))
     intro w37 hb38
     replace hb38:=ao hb38 g30
     refine ma (vb (decide ((gI (aU a) (k_c1:Int))=(gI (aU b) (k_c1:Int))))) (aa (ar (vs:=[vb (decide ((gI (aU a) (k_c1:Int))=(gI (aU b) (k_c1:Int))))]) Tryz.func72 (.tmp rfl .nil) ?_))
     refine⟨vb (decide ((gI (aU a) (k_c1:Int))=(gI (aU b) (k_c1:Int)))),rfl,?_⟩
     refine lx (bZ (b:=(decide ((gI (aU a) (k_c1:Int))=(gI (aU b) (k_c1:Int))))) rfl) (aa ?_)
     by_cases p7_c1:(decide ((gI (aU a) (k_c1:Int))=(gI (aU b) (k_c1:Int))))=true
     ·
      refine ag rfl (congrArg Bool.not p7_c1) (ak (al ?_))
      clear cel32 r33 cel35 r36
      refine a6 rfl (lx (aM (m:=↑k_c1) (n:=1) zs17_c1 rfl (by omega)) (mi ((k_c1:Int)+1) (aa ?_)))
      refine back4_c1 (k_c1+1,g30) _ _ ⟨bH.cn hb38,zs1_c1,zs2_c1,zs15_c1,zs16_c1,rfl,Rg.cn hb38,Ra.cn hb38,Rb.cn hb38,o14.cn hb38,o21.cn hb38,by omega,?_⟩ ?_
      · show List.take (k_c1+1) (aU a)=List.take (k_c1+1) (aU b)
        rw[bB ‹_›,bB (by omega),hq_c1];simp_all
      · show Int.toNat (((List.length (aU a):Int):Int)-((k_c1+1):Int))<Int.toNat (((List.length (aU a):Int):Int)-(k_c1:Int))
        omega
     refine af rfl (congrArg Bool.not (Bool.eq_false_iff.2 p7_c1)) (a7 ?_)
     clear cel32 r33 cel35 r36
     refine a6 rfl (ma (vb false) (aa (ar (vs:=[vb false]) Tryz.func71 (.tmp rfl .nil) ?_)))
     refine⟨vb false,rfl,?_⟩
     refine ma (vb false) (ai 0 (aa (ar (vs:=[vb false,vi 0]) Tryz.func35 (.tmp rfl (.tmp rfl .nil)) ?_)))
     have e0:(false:Bool)=((cW g a b).1):=by
       (simp only[cW,if_pos (show bg g a=0 by assumption),if_pos (show bg g b=0 by assumption)]
        refine(df ?_).symm
        intro h;simp_all;done)
     have e1:(0:Int)=((cW g a b).2):=by
       simp only[cW,if_pos (show bg g a=0 by assumption),if_pos (show bg g b=0 by assumption)]
     replace bH:=bH.cn hb38
     exact⟨(bR (a:=false) (b:=0) (λ(z0:Bool) (z1:Int)=>Ending.returned (vt [vb z0,vi z1])) e0 e1),bH.below⟩
    refine ag rfl (df p4_c1) (aJ rfl (a7 (a6 rfl (ma (vb true) (aa (ar (vs:=[vb true]) Tryz.func71 (.tmp rfl .nil) ?_))))))
    refine⟨vb true,rfl,?_⟩
    refine ma (vb true) (ai 0 (aa (ar (vs:=[vb true,vi 0]) Tryz.func35 (.tmp rfl (.tmp rfl .nil)) ?_)))
    have e0:(true:Bool)=((cW g a b).1):=by
      (simp only[cW,if_pos (show bg g a=0 by assumption),if_pos (show bg g b=0 by assumption)]
       refine(dt ?_).symm
       rw[List.take_of_length_le (by omega),List.take_of_length_le (by omega)] at*;assumption)
    have e1:(0:Int)=((cW g a b).2):=by
      simp only[cW,if_pos (show bg g a=0 by assumption),if_pos (show bg g b=0 by assumption)]
    exact⟨(bR (a:=true) (b:=0) (λ(z0:Bool) (z1:Int)=>Ending.returned (vt [vb z0,vi z1])) e0 e1),bH.below⟩
   refine af rfl (congrArg Bool.not (df p1_c1)) (a7 (a6 rfl (ma (vb false) (aa (ar (vs:=[vb false]) Tryz.func71 (.tmp rfl .nil) ?_)))))
   refine⟨vb false,rfl,?_⟩
   refine ma (vb false) (ai 0 (aa (ar (vs:=[vb false,vi 0]) Tryz.func35 (.tmp rfl (.tmp rfl .nil)) ?_)))
   have e0:(false:Bool)=((cW g a b).1):=by
     (simp only[cW,if_pos (show bg g a=0 by assumption),if_pos (show bg g b=0 by assumption)]
      refine(df ?_).symm
      intro h;simp_all;done)
   have e1:(0:Int)=((cW g a b).2):=by
     simp only[cW,if_pos (show bg g a=0 by assumption),if_pos (show bg g b=0 by assumption)]
   have C39:=cg [] (ch2.n.seq (hb7.n.seq (hb9.n.seq (ch16.n.seq ch23.n))))
   replace bH:=bH.ca C39
   exact⟨(bR (a:=false) (b:=0) (λ(z0:Bool) (z1:Int)=>Ending.returned (vt [vb z0,vi z1])) e0 e1),bH.below⟩
  refine af rfl (congrArg Bool.not (df p5)) (a7 (a6 rfl (mi (bg g b) (ma (vb false) (ai (bg g b) (aa (ar (vs:=[vb false,vi (bg g b)]) Tryz.func35 (.tmp rfl (.tmp rfl .nil)) ?_)))))))
  have e0:(false:Bool)=((cW g a b).1):=by
    simp only[cW,if_pos (show bg g a=0 by assumption),if_neg (show¬bg g b=0 by assumption)]
  have e1:(bg g b:Int)=((cW g a b).2):=by
    simp only[cW,if_pos (show bg g a=0 by assumption),if_neg (show¬bg g b=0 by assumption)]
  have C40:=cg [] (ch2.n.seq (hb7.n.seq hb9.n))
  replace bH:=bH.ca C40
  exact⟨(bR (a:=false) (b:=bg g b) (λ(z0:Bool) (z1:Int)=>Ending.returned (vt [vb z0,vi z1])) e0 e1),bH.below⟩
 refine af rfl (congrArg Bool.not (df p2)) (a7 ?_)
 clear bx5
 refine a6 rfl (mi (bg g a) (ma (vb false) (ai (bg g a) (aa (ar (vs:=[vb false,vi (bg g a)]) Tryz.func35 (.tmp rfl (.tmp rfl .nil)) ?_)))))
 have e0:(false:Bool)=((cW g a b).1):=by
   simp only[cW,if_neg (show¬bg g a=0 by assumption)]
 have e1:(bg g a:Int)=((cW g a b).2):=by
   simp only[cW,if_neg (show¬bg g a=0 by assumption)]
 replace bH:=bH.cn ch2
 replace bH:=bH.cn hb7
 exact⟨(bR (a:=false) (b:=bg g a) (λ(z0:Bool) (z1:Int)=>Ending.returned (vt [vb z0,vi z1])) e0 e1),bH.below⟩
end TL
