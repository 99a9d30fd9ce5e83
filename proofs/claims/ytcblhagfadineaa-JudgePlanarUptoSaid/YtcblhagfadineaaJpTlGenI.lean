import Derived.Test.YtcblhagfadineaaJpTlP4
import Derived.Test.YtcblhagfadineaaJpTlGenA
import Derived.Test.YtcblhagfadineaaJpTlGenQ
import Derived.Test.YtcblhagfadineaaProg
import Derived.Test.YtcblhagfadineaaJpTlAli
set_option linter.all false
set_option maxRecDepth 20000
namespace TL
open Go Go.Proofs
theorem qQ:Try.prog.follows .mixedOrders=true:=by kernel_rfl
theorem eY:Tp Try.prog 24 true 2 32 (.agg #[.int .i64 0,.slice none 0 0]):=Tp.of (by kernel_rfl)
theorem cW:Tp Try.prog 39 false 1 24 (.slice none 0 0):=Tp.of (by kernel_rfl)
theorem zo:Try.f22.body.isNone=false:=rfl
theorem zf:(Try.f22.name== "runtime.NumGoroutine")=false:=by decide+kernel
theorem yQ:Try.f23.body.isNone=false:=rfl
theorem zk:(Try.f23.name== "runtime.NumGoroutine")=false:=by decide+kernel
theorem y7:Try.f24.body.isNone=false:=rfl
theorem yX:(Try.f24.name== "runtime.NumGoroutine")=false:=by decide+kernel
theorem lh:Try.f25.body.isNone=false:=rfl
theorem lK:(Try.f25.name== "runtime.NumGoroutine")=false:=by decide+kernel
theorem yd(w0:World)(g:(Int)×(List Pt))(g_v:Value)(hg_v:Ro w0 g_v g.2)(h:Int)(hh:0<=h/\h<2*(g.2.length:Int))(hlen:g.2.length<=1000000):
    Calls Try.prog 24 #[vg [vi g.1,g_v],vi h] w0 (λee w=>ee= .returned (vi (dV g h))/\dd w0.heap.size w0 w):=by
 refine av Try.func24 rfl nq ?_
 have bH:=aX.start w0
 have Rg:=hg_v.sl
 obtain⟨hh1,hh2⟩:=hh
 refine aa (a8 rfl (cj rfl (bj c0 (is 1) (1,0) rfl rfl ?_)))
 intro g4 w1 b3 ch2 bx5
 replace bx5:Bx g4 (is 1) w1 b3 [vi g.1,g_v]:=bx5
 refine ai 0 (ab (aa (a8 rfl (lx (ad fV rfl rfl rfl rfl) (lx (af cw rfl bx5 rfl) (mi h (lx (r5 (m:=h) (n:=2) rfl rfl (by omega) (by omega) (by omega)) (mi h (lx (my (m:=h) (n:=2) rfl rfl (by omega) (by omega)) (lx (dD (m:=1) (n:=h%2) rfl rfl (by omega)) ?_))))))))))
 replace Rg:=Rg.cn ch2
 refine lx (al (v:=g_v) (i:=h/2) jQ rfl rfl Rg rfl (by omega) (by omega)) (lx (cN (i:=1-(h%2)) m9 rfl rfl rfl (by omega) (by omega) (Nat.mul_one _)) (lx (ei (v:=g_v) (i:=h/2) aI rfl Rg (by omega) (by omega) (show Int.toNat (1-(h%2))<2 by omega) (lM _ (by omega) (by omega))) (ai (pI (gI g.2 (h/2)) (1-(h%2))) (ab (au (vs:=[vi (pI (gI g.2 (h/2)) (1-(h%2)))]) Try.func24 (.tmp rfl .nil) ?_)))))
 have e0:(pI (gI g.2 (h/2)) (1-(h%2)):Int)=(dV g h):=by
   rfl
 replace bH:=bH.cn ch2
 exact⟨(congrArg (a₁:=pI (gI g.2 (h/2)) (1-(h%2))) (λ(z0:Int)=>Ending.returned (vi z0)) e0),bH.below⟩
theorem ud(w0:World)(h:Int)(hh:0<=h/\h<1000000):
    Calls Try.prog 54 #[vi h] w0 (λee w=>ee= .returned (vi (bX h))/\dd w0.heap.size w0 w):=by
 refine av Try.func54 rfl nq ?_
 have bH:=aX.start w0
 obtain⟨hh1,hh2⟩:=hh
 refine aa (a8 rfl (ai 0 (ab (aa (aa (a8 rfl (mi h (lx (my (m:=h) (n:=2) rfl rfl (by omega) (by omega)) (lx (cq (m:=h%2) (n:=0) rfl rfl) (ab ?_))))))))))
 by_cases p1:(h%2)=0
 ·
  refine ag rfl (dt p1) (aa (a8 rfl (mi h (lx (aP (m:=h) (n:=1) rfl rfl (by omega)) (ai (h+1) (ab (au (vs:=[vi (h+1)]) Try.func54 (.tmp rfl .nil) ?_)))))))
  have e0:(h+1:Int)=(bX h):=by
    rw[bX,if_pos ‹_›]
  exact⟨ri e0,bH.below⟩
 refine aj rfl (df p1) (am (aa (a8 rfl (mi h (lx (dD (m:=h) (n:=1) rfl rfl (by omega)) (ai (h-1) (ab (au (vs:=[vi (h-1)]) Try.func54 (.tmp rfl .nil) ?_))))))))
 have e0:(h-1:Int)=(bX h):=by
   rw[bX,if_neg ‹_›]
 exact⟨ri e0,bH.below⟩
theorem tI(w0:World)(n:Int)(x:Int)(hn:0<=n/\n<=1000000):
    Calls Try.prog 22 #[vi n,vi x] w0 (λee w=>∃xx:aH×Value,ee= .returned ((λ⟨δ,rv0⟩=>rv0) xx)/\(λ(⟨δ,rv0⟩:aH×Value) (w:World)=>fI w0 δ w/\Ow δ (is 1) (is 1) w rv0 (List.replicate n.toNat x)) xx w):=by
 refine av Try.func22 rfl nq ?_
 have bH:=aX.start w0
 obtain⟨hn1,hn2⟩:=hn
 have hrep:((List.replicate n.toNat (0:Int)).length:Int)=n:=by simp;omega
 refine aa (a8 rfl (ma vn (ab (aa (a8 rfl (mi n (lo (iT (α:=Int) (l:=n) (cp:=n) c0 (is 1) (is 1) (1,0) rfl (0:Int) dl aI rfl rfl rfl (by omega) (by omega) (by omega) (by omega) ?_))))))))
 intro g1 w2 v3 ch4 o5 _
 refine ma v3 (ab (aa (aa (a8 rfl (ai 0 (ab (aq ?_)))))))
 refine aQ (σ:=Nat×(List Int)×aH) (λ⟨i,l,gq⟩ f w=>aX w0 gq w/\f 0=vi n/\f 1=vi x/\f 5=v3/\f 6=vi ↑i/\Ow gq (is 1) (is 1) w v3 l/\(i:Int)<=(n:Int)/\(l=List.replicate i x++List.replicate (n.toNat-i) 0/\(i:Int)<=n)) (λ⟨i,l,gq⟩=>Int.toNat ((n:Int)-(i:Int))) (0,(List.replicate (Int.toNat n) (0:Int)),g1) ?_ ?_
 · exact⟨bH.cn ch4,rfl,rfl,rfl,rfl,o5,by omega,by exact⟨by simp,by omega⟩⟩
 clear o5 bH
 rintro⟨i,l,g8⟩ f6 w7 ⟨bH,zs0,zs1,zs5,zs6,o5,hle_i,hinv⟩ back3
 have hll:l.length=n.toNat:=by rw[hinv.1];simp;omega
 refine aa (aa (a8 rfl (mz zs6 (mz zs0 (lx (b6 (m:=↑i) (n:=n) rfl rfl) (ab ?_))))))
 by_cases p3:(i:Int)<n
 ·
  refine ag rfl (dt p3) (am (aa (aq (a8 rfl (mz zs5 (mz zs6 (mz zs1 (lx (al (v:=v3) (i:=↑i) dl rfl rfl o5.flat rfl (by omega) (by omega)) (lo ?_)))))))))
  refine dq (i:=↑i) x aI rfl rfl o5 (by omega) (by omega) rfl ?_
  intro w9 ch10 bx11
  clear o5
  refine ab (ao (a8 rfl (mz zs6 (lx (aP (m:=↑i) (n:=1) rfl rfl (by omega)) (ai ((i:Int)+1) (ab ?_))))))
  refine back3 (i+1,(List.set l (Int.toNat ↑i) x),g8) _ _ ⟨bH.ce ch10,zs0,zs1,zs5,rfl,bx11,by omega,?_⟩ ?_
  · show(List.set l (Int.toNat ↑i) x)=List.replicate (i+1) x++List.replicate (n.toNat-(i+1)) 0/\((i+1):Int)<=n
    have hk1:i<n.toNat:=by simp at*;omega
    refine⟨by rw[hinv.1];exact rK hk1,by omega⟩
  · show Int.toNat ((n:Int)-((i+1):Int))<Int.toNat ((n:Int)-(i:Int))
    omega
 refine aj rfl (df p3) (aM rfl (aa (a8 rfl (mz zs5 (ma v3 (ab (au (vs:=[v3]) Try.func22 (.tmp rfl .nil) ?_)))))))
 have e0:(l:List Int)=(List.replicate n.toNat x):=by
   obtain⟨h1,h2⟩:=hinv
   have hk:i=n.toNat:=by simp at*;omega
   subst hk;rw[h1];simp
 exact⟨(fin w0 g8 (λn=>if n=1 then 1 else 0),v3),(congrArg (a₁:=l) (λ(z0:List Int)=>Ending.returned (v3)) e0),bH.fresh _,(e0▸(o5.glue (γ:=c0) (ren:=(λn=>if n=1 then 1 else 0)) (k:=1) bH.col rfl rfl))⟩
theorem uY(w0:World)(g:(Int)×(List Pt))(g_v:Value)(hg_v:Ro w0 g_v g.2)(hmay:bF g):
    Calls Try.prog 23 #[vg [vi g.1,g_v]] w0 (λee w=>∃xx:aH×Value,ee= .returned ((λ⟨δ,rv0⟩=>rv0) xx)/\(λ(⟨δ,rv0⟩:aH×Value) (w:World)=>fI w0 δ w/\dT δ 1 w rv0 (bh g)) xx w):=by
 refine av Try.func23 rfl nq ?_
 have bH:=aX.start w0
 have Rg:=hg_v.sl
 have hm0:=hmay
 obtain⟨hm1,hm2,hm3,hm4⟩:=hm0
 refine aa (a8 rfl (cj rfl (bj c0 (is 1) (1,0) rfl rfl ?_)))
 intro g4 w1 b3 ch2 bx5
 replace bx5:Bx g4 (is 1) w1 b3 [vi g.1,g_v]:=bx5
 refine ma vn (ab (aa (a8 rfl (lx (ad fV rfl rfl rfl rfl) (lx (af aI rfl bx5 rfl) (lo (j0 (α:=Int) (n:=g.1) (cp:=g.1) g4 2 ou cW rfl rfl rfl (by omega) (by omega) (by omega) (by omega) ?_)))))))
 intro g6 w7 v8 ch9 o10
 refine ma v8 (ab (aa (aa (a8 rfl (ai 0 (ab (aq ?_)))))))
 refine aQ (σ:=Nat×bY×aH) (λ⟨h,O,gq⟩ f w=>aX w0 gq w/\f 1=vp b3 0/\f 3=v8/\f 4=vi ↑h/\Sl gq (is 0) w g_v g.2/\Bx gq (is 1) w b3 [vi g.1,g_v]/\dT gq 2 w v8 O/\(h:Int)<=(2*(g.2.length:Int):Int)/\(ef O g h)) (λ⟨h,O,gq⟩=>Int.toNat ((2*(g.2.length:Int):Int)-(h:Int))) (0,(List.replicate (Int.toNat g.1) []),g6) ?_ ?_
 replace bH:=bH.cn ch2
 · exact⟨bH.cn ch9,rfl,rfl,rfl,(Rg.cn ch2).cn ch9,bx5.cn ch9,o10,by omega,by exact ef.start hm1⟩
 clear Rg bx5 o10 bH
 rintro⟨h,O,g13⟩ f11 w12 ⟨bH,zs1,zs3,zs4,Rg,bx5,o10,hle_h,hov⟩ back3
 have hol:=hov.len
 refine aa (aa (a8 rfl (mz zs4 (lx (ad fV rfl rfl zs1 rfl) (lx (af cw rfl bx5 rfl) ?_)))))
 have len14:=(Rg).small
 refine lx (aT jQ rfl Rg) (lx (eK (m:=2) (n:=(g.2.length:Int)) rfl rfl (by omega)) (lx (b6 (m:=↑h) (n:=2*(g.2.length:Int)) rfl rfl) (ab ?_)))
 by_cases p3:(h:Int)<(2*(g.2.length:Int))
 ·
  refine ag rfl (dt p3) ?_
  obtain⟨hf1,hf2⟩:=lF hmay (h:=(h:Int)) (by omega) (by omega)
  have hbd:=hov.bd hf1 hf2
  refine am (aa (aq ?_))
  refine ez (σ:=aH) (λgq f w=>aX w0 gq w/\f 1=vp b3 0/\f 3=v8/\f 4=vi ↑h/\Sl gq (is 0) w g_v g.2/\Bx gq (is 1) w b3 [vi g.1,g_v]/\dT gq 2 w v8 (List.set O (Int.toNat (aL g (h:Int))) (gI O (aL g (h:Int))++[(h:Int)]))) g13 (inl [2]) qQ ?_ ?_
  ·
   intro mid
   intro w16 ch15
   refine ht (v:=v8) 0 rfl (b5.refl _ _ _) (λw' hw'=>aD zs3) ?_
   replace bx5:=bx5.cn ch15
   refine ht 1 rfl (b5.refl _ _ _) (λw' hw'=>ak (ds:=[vi g.1,g_v]) eY zs1 (bx5.chg hw' (bA rfl)) rfl rfl) (ht (v:=vi ↑h) 2 rfl (b5.refl _ _ _) (λw' hw'=>aD zs4) (ht (v:=v8) 4 rfl (b5.refl _ _ _) (λw' hw'=>aD zs3) (ht 5 rfl (b5.refl _ _ _) (λw' hw'=>ak (ds:=[vi g.1,g_v]) eY zs1 (bx5.chg hw' (bA rfl)) rfl rfl) (ht (v:=vi ↑h) 6 rfl (b5.refl _ _ _) (λw' hw'=>aD zs4) (ht (v:=vi ↑h) 10 rfl (b5.refl _ _ _) (λw' hw'=>aD zs4) ?_)))))
   refine dz 3 [11] (by kernel_rfl) ⟨dr 3 rfl (by kernel_rfl) rfl ?_,dr 11 rfl (by kernel_rfl) rfl ?_,trivial⟩
   ·
    replace Rg:=Rg.cn ch15
    refine aK (v:=vi (aL g (h:Int))) (aA (vals:=[vg [vi g.1,g_v],vi ↑h]) Try.func25 lh lK rfl) (iD w16 g g_v (Rg).ro (h:Int) (by omega) (by omega)) ?_
    intro w17 hb18
    replace hb18:=ar hb18 g13
    have hs19:b5 (inl [2]) _ _ _ _:=hb18.n
    refine⟨hs19.same,?_⟩
    refine dz 7 [11] (by kernel_rfl) ⟨dr 7 rfl (by kernel_rfl) rfl ?_,dr 11 rfl (by kernel_rfl) rfl ?_,trivial⟩
    ·
     refine aK (v:=vi (aL g (h:Int))) (aA (vals:=[vg [vi g.1,g_v],vi ↑h]) Try.func25 lh lK rfl) (iD w17 g g_v ((Rg.ca hs19)).ro (h:Int) (by omega) (by omega)) ?_
     intro w20 hb21
     replace hb21:=ar hb21 g13
     have hs22:=hs19.seq (hb21.n)
     refine⟨hs22.same,?_⟩
     refine dz 8 [11] (by kernel_rfl) ⟨dr 8 rfl (by kernel_rfl) rfl ?_,dr 11 rfl (by kernel_rfl) rfl ?_,trivial⟩
     ·
      have C23:=cg [] (ch15.n.seq (hb18.n.seq hb21.n))
      replace o10:=o10.ca C23
      refine bJ (v:=Value.pointer (some (bu v8 1 (Int.toNat (aL g (h:Int)))))) (al (α:=List Int) (xs:=O) (v:=v8) (i:=aL g (h:Int)) ou rfl rfl o10.sl rfl (by omega) (by omega)) ?_
      refine⟨hs22.same,?_⟩
      refine dz 9 [11] (by kernel_rfl) ⟨dr 9 rfl (by kernel_rfl) rfl ?_,dr 11 rfl (by kernel_rfl) rfl ?_,trivial⟩
      ·
       obtain⟨v24,cel25,r26⟩:=ff (r:=aL g (h:Int)) o10 (by omega) (by omega)
       refine bJ (v:=v24) (bD cW rfl cel25) ?_
       refine⟨hs22.same,?_⟩
       refine aO 11 rfl (by kernel_rfl) rfl (aF (α:=Int) g13 (is 3) (is 3) (3,0) rfl [(h:Int)] dl aI (by decide) (by decide) (vs:=[(0,vi ↑h)]) rfl rfl (.cons rfl .nil) ?_)
       intro g27 w28 v29 ch30 o31
       have hs32:=hs22.seq (ch30.n)
       refine⟨hs32.same,?_⟩
       refine aO 12 rfl (by kernel_rfl) rfl ?_
       replace o10:=o10.cn ch30
       replace r26:=r26.cn ch30
       refine b9 (α:=Int) (xs:=(gI O (aL g (h:Int)))) (ys:=([(h:Int)])) g27 (J:=row 2 (Int.toNat (aL g (h:Int))+1)) (S:=row 2 (Int.toNat (aL g (h:Int))+1)) (2,Int.toNat (aL g (h:Int))+1) rfl dl aI (by decide) rfl rfl rfl r26 o31.flat (by decide) (by(simp;omega)) ?_
       intro g33 w34 v35 ch36 o37
       have o38:=o10.rowchg ch36
       clear o10 cel25 r26
       have hs39:=hs32.seq (ch36.lr rfl)
       refine⟨hs39.same,?_⟩
       refine aO 13 rfl (by kernel_rfl) rfl ?_
       obtain⟨us40,hl41,r42⟩:=o38.vc
       try simp only[List.length_set,List.length_append,List.length_cons,List.length_nil] at hl41
       refine bJ (v:=Value.pointer (some (bu v8 1 (Int.toNat (aL g (h:Int)))))) (al (α:=Vc) (xs:=us40) (v:=v8) (i:=aL g (h:Int)) ou rfl rfl r42 rfl (by omega) (by omega)) ?_
       refine⟨hs39.same,?_⟩
       refine aO 14 rfl (by kernel_rfl) rfl (dK (r:=aL g (h:Int)) cW rfl rfl o38 o37 (by omega) (by omega) ?_)
       intro w46 ch47 o48
       clear o38 o37
       have hs49:=hs39.seq (ch47.l rfl)
       refine⟨hs49.same,?_⟩
       refine cK (by kernel_rfl) ?_
       have C50:=cg [2] (ch15.n.seq (hb18.n.seq (hb21.n.seq (ch30.n.seq ((ch36.lr rfl).seq (ch47.l rfl))))))
       exact mid (g33) _ _ ⟨bH.ca C50,zs1,zs3,zs4,(Rg.ca hs49),(bx5.ca hs49),o48⟩
      ·
       refine aF (α:=Int) g13 (is 3) (is 3) (3,0) rfl [(h:Int)] dl aI (by decide) (by decide) (vs:=[(0,vi ↑h)]) rfl rfl (.cons rfl .nil) ?_
       intro g51 w52 v53 ch54 o55
       have hs56:=hs22.seq (ch54.n)
       refine⟨hs56.same,?_⟩
       refine aO 9 rfl (by kernel_rfl) rfl ?_
       replace o10:=o10.cn ch54
       obtain⟨v57,cel58,r59⟩:=ff (r:=aL g (h:Int)) o10 (by omega) (by omega)
       refine bJ (v:=v57) (bD cW rfl cel58) ?_
       refine⟨hs56.same,?_⟩
       refine aO 12 rfl (by kernel_rfl) rfl (b9 (α:=Int) (xs:=(gI O (aL g (h:Int)))) (ys:=([(h:Int)])) g51 (J:=row 2 (Int.toNat (aL g (h:Int))+1)) (S:=row 2 (Int.toNat (aL g (h:Int))+1)) (2,Int.toNat (aL g (h:Int))+1) rfl dl aI (by decide) rfl rfl rfl r59 o55.flat (by decide) (by(simp;omega)) ?_)
       intro g60 w61 v62 ch63 o64
       have o65:=o10.rowchg ch63
       clear o10 cel58 r59
       have hs66:=hs56.seq (ch63.lr rfl)
       refine⟨hs66.same,?_⟩
       refine aO 13 rfl (by kernel_rfl) rfl ?_
       obtain⟨us67,hl68,r69⟩:=o65.vc
       try simp only[List.length_set,List.length_append,List.length_cons,List.length_nil] at hl68
       refine bJ (v:=Value.pointer (some (bu v8 1 (Int.toNat (aL g (h:Int)))))) (al (α:=Vc) (xs:=us67) (v:=v8) (i:=aL g (h:Int)) ou rfl rfl r69 rfl (by omega) (by omega)) ?_
       refine⟨hs66.same,?_⟩
       refine aO 14 rfl (by kernel_rfl) rfl (dK (r:=aL g (h:Int)) cW rfl rfl o65 o64 (by omega) (by omega) ?_)
       intro w73 ch74 o75
       clear o65 o64
       have hs76:=hs66.seq (ch74.l rfl)
       refine⟨hs76.same,?_⟩
       refine cK (by kernel_rfl) ?_
       have C77:=cg [2] (ch15.n.seq (hb18.n.seq (hb21.n.seq (ch54.n.seq ((ch63.lr rfl).seq (ch74.l rfl))))))
       exact mid (g60) _ _ ⟨bH.ca C77,zs1,zs3,zs4,(Rg.ca hs76),(bx5.ca hs76),o75⟩
     ·
      refine aF (α:=Int) g13 (is 3) (is 3) (3,0) rfl [(h:Int)] dl aI (by decide) (by decide) (vs:=[(0,vi ↑h)]) rfl rfl (.cons rfl .nil) ?_
      intro g78 w79 v80 ch81 o82
      have hs83:=hs22.seq (ch81.n)
      refine⟨hs83.same,?_⟩
      refine aO 8 rfl (by kernel_rfl) rfl ?_
      have C84:=cg [] (ch15.n.seq (hb18.n.seq (hb21.n.seq ch81.n)))
      replace o10:=o10.ca C84
      refine bJ (v:=Value.pointer (some (bu v8 1 (Int.toNat (aL g (h:Int)))))) (al (α:=List Int) (xs:=O) (v:=v8) (i:=aL g (h:Int)) ou rfl rfl o10.sl rfl (by omega) (by omega)) ?_
      refine⟨hs83.same,?_⟩
      refine aO 9 rfl (by kernel_rfl) rfl ?_
      obtain⟨v85,cel86,r87⟩:=ff (r:=aL g (h:Int)) o10 (by omega) (by omega)
      refine bJ (v:=v85) (bD cW rfl cel86) ?_
      refine⟨hs83.same,?_⟩
      refine aO 12 rfl (by kernel_rfl) rfl (b9 (α:=Int) (xs:=(gI O (aL g (h:Int)))) (ys:=([(h:Int)])) g78 (J:=row 2 (Int.toNat (aL g (h:Int))+1)) (S:=row 2 (Int.toNat (aL g (h:Int))+1)) (2,Int.toNat (aL g (h:Int))+1) rfl dl aI (by decide) rfl rfl rfl r87 o82.flat (by decide) (by(simp;omega)) ?_)
      intro g88 w89 v90 ch91 o92
      have o93:=o10.rowchg ch91
      clear o10 cel86 r87
      have hs94:=hs83.seq (ch91.lr rfl)
      refine⟨hs94.same,?_⟩
      refine aO 13 rfl (by kernel_rfl) rfl ?_
      obtain⟨us95,hl96,r97⟩:=o93.vc
      try simp only[List.length_set,List.length_append,List.length_cons,List.length_nil] at hl96
      refine bJ (v:=Value.pointer (some (bu v8 1 (Int.toNat (aL g (h:Int)))))) (al (α:=Vc) (xs:=us95) (v:=v8) (i:=aL g (h:Int)) ou rfl rfl r97 rfl (by omega) (by omega)) ?_
      refine⟨hs94.same,?_⟩
      refine aO 14 rfl (by kernel_rfl) rfl (dK (r:=aL g (h:Int)) cW rfl rfl o93 o92 (by omega) (by omega) ?_)
      intro w101 ch102 o103
      clear o93 o92
      have hs104:=hs94.seq (ch102.l rfl)
      refine⟨hs104.same,?_⟩
      refine cK (by kernel_rfl) ?_
      have C105:=cg [2] (ch15.n.seq (hb18.n.seq (hb21.n.seq (ch81.n.seq ((ch91.lr rfl).seq (ch102.l rfl))))))
      exact mid (g88) _ _ ⟨bH.ca C105,zs1,zs3,zs4,(Rg.ca hs104),(bx5.ca hs104),o103⟩
    ·
     refine aF (α:=Int) g13 (is 3) (is 3) (3,0) rfl [(h:Int)] dl aI (by decide) (by decide) (vs:=[(0,vi ↑h)]) rfl rfl (.cons rfl .nil) ?_
     intro g106 w107 v108 ch109 o110
     have hs111:=hs19.seq (ch109.n)
     refine⟨hs111.same,?_⟩
     refine aO 7 rfl (by kernel_rfl) rfl (aK (v:=vi (aL g (h:Int))) (aA (vals:=[vg [vi g.1,g_v],vi ↑h]) Try.func25 lh lK rfl) (iD w107 g g_v ((Rg.ca hs111)).ro (h:Int) (by omega) (by omega)) ?_)
     intro w112 hb113
     replace hb113:=ar hb113 g106
     have hs114:=hs111.seq (hb113.n)
     refine⟨hs114.same,?_⟩
     refine aO 8 rfl (by kernel_rfl) rfl ?_
     have C115:=cg [] (ch15.n.seq (hb18.n.seq (ch109.n.seq hb113.n)))
     replace o10:=o10.ca C115
     refine bJ (v:=Value.pointer (some (bu v8 1 (Int.toNat (aL g (h:Int)))))) (al (α:=List Int) (xs:=O) (v:=v8) (i:=aL g (h:Int)) ou rfl rfl o10.sl rfl (by omega) (by omega)) ?_
     refine⟨hs114.same,?_⟩
     refine aO 9 rfl (by kernel_rfl) rfl ?_
     obtain⟨v116,cel117,r118⟩:=ff (r:=aL g (h:Int)) o10 (by omega) (by omega)
     refine bJ (v:=v116) (bD cW rfl cel117) ?_
     refine⟨hs114.same,?_⟩
     refine aO 12 rfl (by kernel_rfl) rfl ?_
     replace o110:=o110.cn hb113
     refine b9 (α:=Int) (xs:=(gI O (aL g (h:Int)))) (ys:=([(h:Int)])) g106 (J:=row 2 (Int.toNat (aL g (h:Int))+1)) (S:=row 2 (Int.toNat (aL g (h:Int))+1)) (2,Int.toNat (aL g (h:Int))+1) rfl dl aI (by decide) rfl rfl rfl r118 o110.flat (by decide) (by(simp;omega)) ?_
     intro g119 w120 v121 ch122 o123
     have o124:=o10.rowchg ch122
     clear o10 cel117 r118
     have hs125:=hs114.seq (ch122.lr rfl)
     refine⟨hs125.same,?_⟩
     refine aO 13 rfl (by kernel_rfl) rfl ?_
     obtain⟨us126,hl127,r128⟩:=o124.vc
     try simp only[List.length_set,List.length_append,List.length_cons,List.length_nil] at hl127
     refine bJ (v:=Value.pointer (some (bu v8 1 (Int.toNat (aL g (h:Int)))))) (al (α:=Vc) (xs:=us126) (v:=v8) (i:=aL g (h:Int)) ou rfl rfl r128 rfl (by omega) (by omega)) ?_
     refine⟨hs125.same,?_⟩
     refine aO 14 rfl (by kernel_rfl) rfl (dK (r:=aL g (h:Int)) cW rfl rfl o124 o123 (by omega) (by omega) ?_)
     intro w132 ch133 o134
     clear o124 o123
     have hs135:=hs125.seq (ch133.l rfl)
     refine⟨hs135.same,?_⟩
     refine cK (by kernel_rfl) ?_
     have C136:=cg [2] (ch15.n.seq (hb18.n.seq (ch109.n.seq (hb113.n.seq ((ch122.lr rfl).seq (ch133.l rfl))))))
     exact mid (g119) _ _ ⟨bH.ca C136,zs1,zs3,zs4,(Rg.ca hs135),(bx5.ca hs135),o134⟩
   ·
    refine aF (α:=Int) g13 (is 3) (is 3) (3,0) rfl [(h:Int)] dl aI (by decide) (by decide) (vs:=[(0,vi ↑h)]) rfl rfl (.cons rfl .nil) ?_
    intro g137 w138 v139 ch140 o141
    have hs142:b5 (inl [2]) _ _ _ _:=ch140.n
    refine⟨hs142.same,?_⟩
    refine aO 3 rfl (by kernel_rfl) rfl ?_
    replace Rg:=Rg.cn ch15
    refine aK (v:=vi (aL g (h:Int))) (aA (vals:=[vg [vi g.1,g_v],vi ↑h]) Try.func25 lh lK rfl) (iD w138 g g_v ((Rg.ca hs142)).ro (h:Int) (by omega) (by omega)) ?_
    intro w143 hb144
    replace hb144:=ar hb144 g137
    have hs145:=hs142.seq (hb144.n)
    refine⟨hs145.same,?_⟩
    refine aO 7 rfl (by kernel_rfl) rfl (aK (v:=vi (aL g (h:Int))) (aA (vals:=[vg [vi g.1,g_v],vi ↑h]) Try.func25 lh lK rfl) (iD w143 g g_v ((Rg.ca hs145)).ro (h:Int) (by omega) (by omega)) ?_)
    intro w146 hb147
    replace hb147:=ar hb147 g137
    have hs148:=hs145.seq (hb147.n)
    refine⟨hs148.same,?_⟩
    refine aO 8 rfl (by kernel_rfl) rfl ?_
    have C149:=cg [] (ch15.n.seq (ch140.n.seq (hb144.n.seq hb147.n)))
    replace o10:=o10.ca C149
    refine bJ (v:=Value.pointer (some (bu v8 1 (Int.toNat (aL g (h:Int)))))) (al (α:=List Int) (xs:=O) (v:=v8) (i:=aL g (h:Int)) ou rfl rfl o10.sl rfl (by omega) (by omega)) ?_
    refine⟨hs148.same,?_⟩
    refine aO 9 rfl (by kernel_rfl) rfl ?_
    obtain⟨v150,cel151,r152⟩:=ff (r:=aL g (h:Int)) o10 (by omega) (by omega)
    refine bJ (v:=v150) (bD cW rfl cel151) ?_
    refine⟨hs148.same,?_⟩
    refine aO 12 rfl (by kernel_rfl) rfl ?_
    replace o141:=(o141.cn hb144).cn hb147
    refine b9 (α:=Int) (xs:=(gI O (aL g (h:Int)))) (ys:=([(h:Int)])) g137 (J:=row 2 (Int.toNat (aL g (h:Int))+1)) (S:=row 2 (Int.toNat (aL g (h:Int))+1)) (2,Int.toNat (aL g (h:Int))+1) rfl dl aI (by decide) rfl rfl rfl r152 o141.flat (by decide) (by(simp;omega)) ?_
    intro g153 w154 v155 ch156 o157
    have o158:=o10.rowchg ch156
    clear o10 cel151 r152
    have hs159:=hs148.seq (ch156.lr rfl)
    refine⟨hs159.same,?_⟩
    refine aO 13 rfl (by kernel_rfl) rfl ?_
    obtain⟨us160,hl161,r162⟩:=o158.vc
    try simp only[List.length_set,List.length_append,List.length_cons,List.length_nil] at hl161
    refine bJ (v:=Value.pointer (some (bu v8 1 (Int.toNat (aL g (h:Int)))))) (al (α:=Vc) (xs:=us160) (v:=v8) (i:=aL g (h:Int)) ou rfl rfl r162 rfl (by omega) (by omega)) ?_
    refine⟨hs159.same,?_⟩
    refine aO 14 rfl (by kernel_rfl) rfl (dK (r:=aL g (h:Int)) cW rfl rfl o158 o157 (by omega) (by omega) ?_)
    intro w166 ch167 o168
    clear o158 o157
    have hs169:=hs159.seq (ch167.l rfl)
    refine⟨hs169.same,?_⟩
    refine cK (by kernel_rfl) ?_
    have C170:=cg [2] (ch15.n.seq (ch140.n.seq (hb144.n.seq (hb147.n.seq ((ch156.lr rfl).seq (ch167.l rfl))))))
    exact mid (g153) _ _ ⟨bH.ca C170,zs1,zs3,zs4,(Rg.ca hs169),(bx5.ca hs169),o168⟩
  clear Rg bx5 o10 bH
  rintro g173 f171 w172 ⟨bH,zs1,zs3,zs4,Rg,bx5,o48⟩
  refine ao (a8 rfl (mz zs4 (lx (aP (m:=↑h) (n:=1) rfl rfl (by omega)) (ai ((h:Int)+1) (ab ?_)))))
  refine back3 (h+1,(List.set O (Int.toNat (aL g (h:Int))) (gI O (aL g (h:Int))++[(h:Int)])),g173) _ _ ⟨bH,zs1,zs3,rfl,Rg,bx5,o48,by omega,?_⟩ ?_
  · show ef (List.set O (Int.toNat (aL g (h:Int))) (gI O (aL g (h:Int))++[(h:Int)])) g (h+1)
    exact hov.next hf1 hf2
  · show Int.toNat ((2*(g.2.length:Int):Int)-((h+1):Int))<Int.toNat ((2*(g.2.length:Int):Int)-(h:Int))
    omega
 refine aj rfl (df p3) (aM rfl (aa ?_))
 clear bx5
 refine a8 rfl (mz zs3 (ma v8 (ab (au (vs:=[v8]) Try.func23 (.tmp rfl .nil) ?_))))
 have e0:(O:bY)=(bh g):=by
   exact hov.done (by omega)
 exact⟨(fin w0 g13 (λn=>if n=2 then 1 else 0),v8),(congrArg (a₁:=O) (λ(z0:bY)=>Ending.returned (v8)) e0),bH.fresh _,(e0▸(o10.glue (γ:=c0) (ren:=(λn=>if n=2 then 1 else 0)) (k:=1) bH.col rfl rfl))⟩
set_option maxHeartbeats 2000000 in
theorem mS(w0:World)(g:(Int)×(List Pt))(g_v:Value)(hg_v:Ro w0 g_v g.2)(hmay:bF g):
    Calls Try.prog 8 #[vg [vi g.1,g_v],vn,vn] w0 (λee w=>∃xx:aH×Value,ee= .returned ((λ⟨δ,rv0⟩=>vt [rv0,vi ((bE g).2.1)]) xx)/\(λ(⟨δ,rv0⟩:aH×Value) (w:World)=>fI w0 δ w/\Ow δ (is 1) (is 1) w rv0 ((bE g).1)) xx w):=by
 refine av Try.func8 rfl nq ?_
 have bH:=aX.start w0
 have Rg:=hg_v.sl
 have hm0:=hmay
 obtain⟨hm1,hm2,hm3,hm4⟩:=hm0
 have hfl:=rM g hm1
 refine aa (a8 rfl (cj rfl (bj c0 (is 1) (1,0) rfl rfl ?_)))
 intro g4 w1 b3 ch2 bx5
 replace bx5:Bx g4 (is 1) w1 b3 [vi g.1,g_v]:=bx5
 refine ma vn (ai 0 (ab (aa (a8 rfl (lx (ad fV rfl rfl rfl rfl) (lx (af aI rfl bx5 rfl) (lo (c3 (aA (vals:=[vi g.1,vi (-1)]) Try.func22 zo zf rfl) (tI w1 g.1 (-1) (by omega)) ?_))))))))
 rintro⟨d7,v9⟩ w6 ⟨fr8,o10⟩
 obtain⟨g11,ch12,G11⟩:=nH g4 fr8 (λn=>if n=1 then 2 else 0)
 replace o10:=o10.gl G11 2
 refine ma v9 (ab (aa (a8 rfl (ai 0 (ab (aa (a8 rfl ?_)))))))
 replace bx5:=bx5.cn ch12
 refine lx (ak (ds:=[vi g.1,g_v]) eY rfl bx5 rfl rfl) ?_
 replace Rg:=(Rg.cn ch2).cn ch12
 refine lo (c3 (aA (vals:=[vg [vi g.1,g_v]]) Try.func23 yQ zk rfl) (uY w6 g g_v (Rg).ro ‹_›) ?_)
 rintro⟨d14,v16⟩ w13 ⟨fr15,o17⟩
 obtain⟨g18,ch19,G18⟩:=nH g11 fr15 (λn=>if n=1 then 3 else 0)
 replace o17:=o17.gl G18 3
 refine ma v16 (ab (aa (aa (a8 rfl (ai 0 (ab (aq ?_)))))))
 refine aQ (σ:=Nat×Nat×(List Int)×aH) (λ⟨q,n,c,gq⟩ f w=>aX w0 gq w/\f 1=vn/\f 2=vn/\f 3=vp b3 0/\f 8=v9/\f 9=vi ↑n/\f 10=v16/\f 11=vi ↑q/\Sl gq (is 0) w g_v g.2/\Bx gq (is 1) w b3 [vi g.1,g_v]/\Ow gq (is 2) (is 2) w v9 c/\dT gq 3 w v16 (bh g)/\(q:Int)<=(g.1:Int)/\(c=(bl g q).1/\n=(bl g q).2)) (λ⟨q,n,c,gq⟩=>Int.toNat ((g.1:Int)-(q:Int))) (0,0,List.replicate g.1.toNat (-1),g18) ?_ ?_
 have C20:=cg [] (ch2.n.seq (ch12.n.seq ch19.n))
 · exact⟨bH.ca C20,rfl,rfl,rfl,rfl,rfl,rfl,rfl,Rg.cn ch19,bx5.cn ch19,o10.cn ch19,o17,by omega,by exact⟨rfl,rfl⟩⟩
 clear Rg bx5 o10 o17 bH
 rintro⟨q,n,c,g23⟩ f21 w22 ⟨bH,zs1,zs2,zs3,zs8,zs9,zs10,zs11,Rg,bx5,o10,o17,hle_q,hinv⟩ back5
 have hpl:=kd g q
 have hcl:(c.length:Int)=g.1:=by rw[hinv.1,hpl.1];omega
 have hi2:=hinv.2
 refine aa (aa (a8 rfl (mz zs11 (lx (ad fV rfl rfl zs3 rfl) (lx (af aI rfl bx5 rfl) (lx (b6 (m:=↑q) (n:=g.1) rfl rfl) (ab ?_)))))))
 by_cases p5:(q:Int)<g.1
 ·
  refine ag rfl (dt p5) (am (aa (aq (aa (aa (a8 rfl (mz zs8 (mz zs11 (lx (al (v:=v9) (i:=↑q) dl rfl rfl o10.flat rfl (by omega) (by omega)) (lx (br (v:=v9) (i:=↑q) aI rfl o10.flat (by omega) (by omega) (by decide) rfl) (lx (gh (m:=(gI c ↑q)) (n:=0) rfl rfl) ?_)))))))))))
  refine mv (vb (decide (0<=(gI c ↑q)))) ?_
  by_cases q32:0<=(gI c ↑q)
  ·
   refine ae (wn (dt q32)) (ae (wn (dt q32)) (ae (wn (dt q32)) (ae (bt rfl rfl rfl) (ae (bt rfl rfl rfl) (ae (bt rfl rfl rfl) (ae (bt rfl rfl rfl) (ae (wn (dt q32)) (lw (vb true) (aE rfl (dt q32) rfl) (ab ?_)))))))))
   refine ag rfl rfl (aM rfl (a8 rfl (mz zs11 (lx (aP (m:=↑q) (n:=1) rfl rfl (by omega)) (ai ((q:Int)+1) (ab ?_))))))
   refine back5 (q+1,n,c,g23) _ _ ⟨bH,zs1,zs2,zs3,zs8,zs9,zs10,rfl,Rg,bx5,o10,o17,by omega,?_⟩ ?_
   · show c=(bl g (q+1)).1/\n=(bl g (q+1)).2
     exact qg hinv ‹_›
   · show Int.toNat ((g.1:Int)-((q+1):Int))<Int.toNat ((g.1:Int)-(q:Int))
     omega
  refine lv vn (wy (df q32)) (aD zs1) (lv (vb false) (wy (df q32)) (iR nQ rfl rfl) (lv (vb false) (wy (df q32)) (aD rfl) (ae (wn rfl) (ae (wn rfl) (ae (wn rfl) (ae (wn rfl) (lv (vb false) (wy (df q32)) (aC rfl rfl rfl) (lw (vb false) (aC rfl (df q32) rfl) (ab (aj rfl rfl (am (aa (a8 rfl ?_)))))))))))))
  refine mz zs11 (lo (aF (α:=Int) g23 (is 4) (is 4) (4,0) rfl [(q:Int)] dl aI (by decide) (by decide) (vs:=[(0,vi ↑q)]) rfl rfl (.cons rfl .nil) ?_))
  intro g24 w25 v26 ch27 o28
  refine ma v26 (ab (aa (a8 rfl (mz zs8 (mz zs11 (mz zs9 ?_))))))
  replace o10:=o10.cn ch27
  refine lx (al (v:=v9) (i:=↑q) dl rfl rfl o10.flat rfl (by omega) (by omega)) (lo (dq (i:=↑q) (n:Int) aI rfl rfl o10 (by omega) (by omega) rfl ?_))
  intro w29 ch30 bx31
  clear o10
  refine ab (aa (aq ?_))
  refine aQ (σ:=Value×(List Int)×(List Int)×aH) (λ⟨todo1_v,todo1,c1,gq⟩ f w=>aX w0 gq w/\f 1=vn/\f 2=vn/\f 3=vp b3 0/\f 8=v9/\f 9=vi ↑n/\f 10=v16/\f 11=vi ↑q/\f 12=todo1_v/\Sl gq (is 0) w g_v g.2/\Bx gq (is 1) w b3 [vi g.1,g_v]/\dT gq 3 w v16 (bh g)/\Ow gq (is 2) (is 2) w v9 c1/\Ow gq (is 4) (is 4) w todo1_v todo1/\(eE g c c1 todo1 [] n (q:Int))) (λ⟨todo1_v,todo1,c1,gq⟩=>List.length todo1+2*ly c1) (v26,[(q:Int)],(List.set c (Int.toNat ↑q) (n:Int)),g24) ?_ ?_
  replace bH:=bH.cn ch27
  · exact⟨bH.ce ch30,zs1,zs2,zs3,zs8,zs9,zs10,zs11,rfl,(Rg.cn ch27).ce ch30,(bx5.cn ch27).ce ch30,(o17.cn ch27).ce ch30,bx31,o28.ce ch30,by exact eE.start hmay (by omega) hinv ‹_›⟩
  clear Rg bx5 o17 o28 bx31 bH
  rintro⟨todo1_v,todo1,c1,g34⟩ f32 w33 ⟨bH,zs1,zs2,zs3,zs8,zs9,zs10,zs11,zs12,Rg,bx5,o17,bx31,o_todo1,hdf⟩ back10
  have hcl1:=hdf.len
  have htb:=hdf.bd
  refine aa (aa (a8 rfl (mz zs12 ?_)))
  have len35:=(o_todo1.flat).small
  refine lx (aT dl rfl o_todo1.flat) (lx (e8 (m:=(todo1.length:Int)) (n:=0) rfl rfl) (ab ?_))
  by_cases p10:0<(todo1.length:Int)
  ·
   refine ag rfl (dt p10) (am (aq (aa (a8 rfl (mz zs12 (mz zs12 (lx (aT dl rfl o_todo1.flat) (lx (dD (m:=(todo1.length:Int)) (n:=1) rfl rfl (by omega)) (lx (al (v:=todo1_v) (i:=(todo1.length:Int)-1) dl rfl rfl o_todo1.flat rfl (by omega) (by omega)) (lx (br (v:=todo1_v) (i:=(todo1.length:Int)-1) aI rfl o_todo1.flat (by omega) (by omega) (by decide) rfl) ?_))))))))))
   refine ai (gI todo1 ((todo1.length:Int)-1)) (ab (aa (a8 rfl (mz zs12 (mz zs12 (lx (aT dl rfl o_todo1.flat) (lx (dD (m:=(todo1.length:Int)) (n:=1) rfl rfl (by omega)) (lw ((jX todo1_v 1 (Int.toNat 0) (Int.toNat ((todo1.length:Int)-1)))) (mY (v:=todo1_v) (l:=0) (h:=(todo1.length:Int)-1) dl rfl rfl o_todo1.flat (.inr ⟨rfl,rfl⟩) (.inl (congrArg some rfl)) (by omega) (by omega) (by omega)) ?_))))))))
   have r37:=yz o_todo1 (show Int.toNat ((todo1.length:Int)-1)<=List.length _ by omega)
   refine ma ((jX todo1_v 1 (Int.toNat 0) (Int.toNat ((todo1.length:Int)-1)))) (ab (aa ?_))
   clear o_todo1
   refine a8 rfl (ai 0 (ab (aq ?_)))
   refine aQ (σ:=Nat×Value×(List Int)×(List Int)×aH) (λ⟨k,todo2_v,todo2,c2,gq⟩ f w=>aX w0 gq w/\f 1=vn/\f 2=vn/\f 3=vp b3 0/\f 8=v9/\f 9=vi ↑n/\f 10=v16/\f 11=vi ↑q/\f 12=todo2_v/\f 13=vi (gI todo1 ((todo1.length:Int)-1))/\f 14=vi ↑k/\Sl gq (is 0) w g_v g.2/\Bx gq (is 1) w b3 [vi g.1,g_v]/\dT gq 3 w v16 (bh g)/\Ow gq (is 2) (is 2) w v9 c2/\Ow gq (is 4) (is 4) w todo2_v todo2/\(k:Int)<=((List.length (gI (bh g) (gI todo1 ((todo1.length:Int)-1))):Int):Int)/\(gU g c c2 todo2 n (q:Int) (gI todo1 ((todo1.length:Int)-1)) k (List.length todo1+2*ly c1))) (λ⟨k,todo2_v,todo2,c2,gq⟩=>Int.toNat (((List.length (gI (bh g) (gI todo1 ((todo1.length:Int)-1))):Int):Int)-(k:Int))) (0,(jX todo1_v 1 (Int.toNat 0) (Int.toNat ((todo1.length:Int)-1))),(List.take (Int.toNat ((todo1.length:Int)-1)) todo1),c1,g34) ?_ ?_
   · exact⟨bH,zs1,zs2,zs3,zs8,zs9,zs10,zs11,rfl,rfl,rfl,Rg,bx5,o17,bx31,r37,by omega,by(have h0:=hdf.row (by omega);rwa[show List.length todo1-1=((todo1.length:Int)-1).toNat by omega] at h0)⟩
   clear Rg bx5 o17 bx31 r37 bH
   rintro⟨k,todo2_v,todo2,c2,g40⟩ f38 w39 ⟨bH,zs1,zs2,zs3,zs8,zs9,zs10,zs11,zs12,zs13,zs14,Rg,bx5,o17,bx31,o_todo2,hle_k,hrow⟩ back14
   have hcl2:=hrow.inv.len
   have htb2:=hrow.inv.bd
   obtain⟨hvd1,hvd2⟩:=hrow.vd
   have hfg:=vj (g:=g) hvd1 hvd2
   refine aa (aa (a8 rfl (mz zs14 (mz zs10 (mz zs13 (lx (al (v:=v16) (i:=(gI todo1 ((todo1.length:Int)-1))) ou rfl rfl o17.sl rfl (by omega) (by omega)) ?_))))))
   obtain⟨v41,cel42,r43⟩:=ff (r:=(gI todo1 ((todo1.length:Int)-1))) o17 (by omega) (by omega)
   refine lx (bD cW rfl cel42) ?_
   have len44:=(r43.row_sl).small
   refine lx (aT dl rfl r43.row_sl) (lx (b6 (m:=↑k) (n:=(List.length (gI (bh g) (gI todo1 ((todo1.length:Int)-1))):Int)) rfl rfl) (ab ?_))
   by_cases p14:(k:Int)<(List.length (gI (bh g) (gI todo1 ((todo1.length:Int)-1))):Int)
   ·
    refine ag rfl (dt p14) ?_
    have hkl:(k:Int)<(bP g (gI todo1 ((todo1.length:Int)-1))).length:=by rw[<-hfg];assumption
    obtain⟨hr1,hr2⟩:=(fv (aR (xs:=bP g (gI todo1 ((todo1.length:Int)-1))) (i:=↑k) (by omega) hkl)).1
    rw[<-hfg] at hr1 hr2
    obtain⟨hto1,hto2⟩:=i2 hmay hr1 hr2
    refine am (aa (aq (aa ?_)))
    clear cel42 r43
    refine cD g40 rfl qQ (by kernel_rfl) ?_
    intro w46 ch45
    replace bx5:=bx5.cn ch45
    refine qx (λw' hw'=>ak (ds:=[vi g.1,g_v]) eY zs3 (bx5.bel hw') rfl rfl) (qz zs10 (qz zs13 ?_))
    replace o17:=o17.cn ch45
    refine qx (λw' hw'=>al (v:=v16) (i:=(gI todo1 ((todo1.length:Int)-1))) ou rfl rfl (o17.sl.bel hw') rfl (by omega) (by omega)) ?_
    obtain⟨v47,cel48,r49⟩:=ff (r:=(gI todo1 ((todo1.length:Int)-1))) o17 (by omega) (by omega)
    refine qx (λw' hw'=>bD cW rfl (nC cel48 hw')) (qz zs14 (qx (λw' hw'=>al (v:=v47) (i:=↑k) dl rfl rfl (r49.row_sl.bel hw') rfl (by omega) (by omega)) (qx (λw' hw'=>br (v:=v47) (i:=↑k) aI rfl (r49.row_sl.bel hw') (by omega) (by omega) (by decide) rfl) ?_)))
    replace Rg:=Rg.cn ch45
    refine eZ (v:=vi (dV g (gI (gI (bh g) (gI todo1 ((todo1.length:Int)-1))) (k:Int)))) rfl (λw' hw'=>aA (vals:=[vg [vi g.1,g_v],vi (gI (gI (bh g) (gI todo1 ((todo1.length:Int)-1))) (k:Int))]) Try.func24 y7 yX rfl) (λw' hw'=>(yd w' g g_v ((Rg.bel hw')).ro (gI (gI (bh g) (gI todo1 ((todo1.length:Int)-1))) (k:Int)) (by omega) (by omega)).mono λe w2 h2=>⟨h2.1,hw'.trans (h2.2.mono hw'.size)⟩) (qv (vi (dV g (gI (gI (bh g) (gI todo1 ((todo1.length:Int)-1))) (k:Int)))) (λw' hw'=>bS rfl) (dH ?_))
    intro w50 hc51
    replace hc51:=ar hc51 g40
    refine aa (aa ?_)
    clear cel48 r49
    refine a8 rfl (mz zs8 (mi (dV g (gI (gI (bh g) (gI todo1 ((todo1.length:Int)-1))) (k:Int))) ?_))
    replace bx31:=(bx31.cn ch45).cn hc51
    refine lx (al (v:=v9) (i:=dV g (gI (gI (bh g) (gI todo1 ((todo1.length:Int)-1))) (k:Int))) dl rfl rfl bx31.flat rfl (by omega) (by omega)) (lx (br (v:=v9) (i:=dV g (gI (gI (bh g) (gI todo1 ((todo1.length:Int)-1))) (k:Int))) aI rfl bx31.flat (by omega) (by omega) (by decide) rfl) (lx (gh (m:=(gI c2 (dV g (gI (gI (bh g) (gI todo1 ((todo1.length:Int)-1))) (k:Int))))) (n:=0) rfl rfl) (mv (vb (decide (0<=(gI c2 (dV g (gI (gI (bh g) (gI todo1 ((todo1.length:Int)-1))) (k:Int))))))) ?_)))
    by_cases q85:0<=(gI c2 (dV g (gI (gI (bh g) (gI todo1 ((todo1.length:Int)-1))) (k:Int))))
    ·
     refine ae (wn (dt q85)) (ae (wn (dt q85)) (ae (wn (dt q85)) (ae (bt rfl rfl rfl) (ae (bt rfl rfl rfl) (ae (bt rfl rfl rfl) (ae (bt rfl rfl rfl) (ae (wn (dt q85)) (lw (vb true) (aE rfl (dt q85) rfl) (mv (vb true) ?_)))))))))
     refine ae (wn rfl) (ae (wn rfl) (ae (wn rfl) (ae (bt rfl rfl rfl) (ae (bt rfl rfl rfl) (ae (bt rfl rfl rfl) (ae (bt rfl rfl rfl) (ae (bt rfl rfl rfl) (ae (bt rfl rfl rfl) (ae (bt rfl rfl rfl) (ae (bt rfl rfl rfl) (ae (bt rfl rfl rfl) ?_)))))))))))
     refine ae (bt rfl rfl rfl) (ae (bt rfl rfl rfl) (ae (wn rfl) (lw (vb true) (aE rfl rfl rfl) (ab (ag rfl rfl (aM rfl (a8 rfl (mz zs14 (lx (aP (m:=↑k) (n:=1) rfl rfl (by omega)) ?_)))))))))
     refine ai ((k:Int)+1) (ab ?_)
     replace bH:=bH.cn ch45
     refine back14 (k+1,todo2_v,todo2,c2,g40) _ _ ⟨bH.cn hc51,zs1,zs2,zs3,zs8,zs9,zs10,zs11,zs12,zs13,rfl,Rg.cn hc51,bx5.cn hc51,o17.cn hc51,bx31,(o_todo2.cn ch45).cn hc51,by omega,?_⟩ ?_
     · show gU g c c2 todo2 n (q:Int) (gI todo1 ((todo1.length:Int)-1)) (k+1) (List.length todo1+2*ly c1)
       exact hrow.skip (by rw[<-hfg];assumption)
     · show Int.toNat (((List.length (gI (bh g) (gI todo1 ((todo1.length:Int)-1))):Int):Int)-((k+1):Int))<Int.toNat (((List.length (gI (bh g) (gI todo1 ((todo1.length:Int)-1))):Int):Int)-(k:Int))
       omega
    refine lv vn (wy (df q85)) (aD zs1) (lv (vb false) (wy (df q85)) (iR nQ rfl rfl) (lv (vb false) (wy (df q85)) (aD rfl) (ae (wn rfl) (ae (wn rfl) (ae (wn rfl) (ae (wn rfl) (lv (vb false) (wy (df q85)) (aC rfl rfl rfl) (lw (vb false) (aC rfl (df q85) rfl) (mv (vb false) (lv vn (wy rfl) (aD zs2) (lv (vb false) (wy rfl) (iR nQ rfl rfl) (lv (vb false) (wy rfl) (aD rfl) ?_))))))))))))
    refine ae (wn rfl) (ae (wn rfl) (ae (wn rfl) (ae (wn rfl) (ae (wn rfl) (ae (wn rfl) (ae (wn rfl) (ae (wn rfl) (ae (wn rfl) (ae (wn rfl) (ae (wn rfl) (lv (vb false) (wy rfl) (aC rfl rfl rfl) (lw (vb false) (aC rfl rfl rfl) (ab (aj rfl rfl (am (aa (a8 rfl (mz zs8 (mi (dV g (gI (gI (bh g) (gI todo1 ((todo1.length:Int)-1))) (k:Int))) (mz zs9 ?_))))))))))))))))))))
    refine lx (al (v:=v9) (i:=dV g (gI (gI (bh g) (gI todo1 ((todo1.length:Int)-1))) (k:Int))) dl rfl rfl bx31.flat rfl (by omega) (by omega)) (lo (dq (i:=dV g (gI (gI (bh g) (gI todo1 ((todo1.length:Int)-1))) (k:Int))) (n:Int) aI rfl rfl bx31 (by omega) (by omega) rfl ?_))
    intro w52 ch53 bx54
    clear bx31
    refine ab (a8 rfl (mz zs12 (mi (dV g (gI (gI (bh g) (gI todo1 ((todo1.length:Int)-1))) (k:Int))) (lo (aF (α:=Int) g40 (is 5) (is 5) (5,0) rfl [dV g (gI (gI (bh g) (gI todo1 ((todo1.length:Int)-1))) (k:Int))] dl aI (by decide) (by decide) (vs:=[(0,vi (dV g (gI (gI (bh g) (gI todo1 ((todo1.length:Int)-1))) (k:Int))))]) rfl rfl (.cons rfl .nil) ?_)))))
    intro g55 w56 v57 ch58 o59
    refine lo ?_
    have C60:=cg [2] (ch45.n.seq (hc51.n.seq ((ch53.l rfl).seq ch58.n)))
    replace o_todo2:=o_todo2.ca C60
    refine b9 (α:=Int) (xs:=todo2) (ys:=([dV g (gI (gI (bh g) (gI todo1 ((todo1.length:Int)-1))) (k:Int))])) g55 (J:=is 4) (S:=is 4) (4,0) rfl dl aI (by decide) rfl rfl rfl o_todo2 o59.flat (by decide) (by(simp;omega)) ?_
    intro g61 w62 v63 ch64 o65
    clear o_todo2
    refine ma v63 (ab (ao ?_))
    clear o59
    refine a8 rfl (mz zs14 (lx (aP (m:=↑k) (n:=1) rfl rfl (by omega)) (ai ((k:Int)+1) (ab ?_))))
    have C67:=cg [2,4] (hc51.n.seq ((ch53.l rfl).seq (ch58.n.seq (ch64.l rfl))))
    have C66:=ch45.n.seq C67
    refine back14 (k+1,v63,(todo2++[dV g (gI (gI (bh g) (gI todo1 ((todo1.length:Int)-1))) (k:Int))]),(List.set c2 (Int.toNat (dV g (gI (gI (bh g) (gI todo1 ((todo1.length:Int)-1))) (k:Int)))) (n:Int)),g61) _ _ ⟨bH.ca C66,zs1,zs2,zs3,zs8,zs9,zs10,zs11,rfl,zs13,rfl,Rg.ca C67,bx5.ca C67,o17.ca C67,(bx54.cn ch58).ce ch64,o65,by omega,?_⟩ ?_
    · show gU g c (List.set c2 (Int.toNat (dV g (gI (gI (bh g) (gI todo1 ((todo1.length:Int)-1))) (k:Int)))) (n:Int)) (todo2++[dV g (gI (gI (bh g) (gI todo1 ((todo1.length:Int)-1))) (k:Int))]) n (q:Int) (gI todo1 ((todo1.length:Int)-1)) (k+1) (List.length todo1+2*ly c1)
      (rw[hfg];exact hrow.push hmay hkl (by rw[<-hfg];assumption))
    · show Int.toNat (((List.length (gI (bh g) (gI todo1 ((todo1.length:Int)-1))):Int):Int)-((k+1):Int))<Int.toNat (((List.length (gI (bh g) (gI todo1 ((todo1.length:Int)-1))):Int):Int)-(k:Int))
      omega
   refine aj rfl (df p14) (aM rfl (ao ?_))
   refine back10 (todo2_v,todo2,c2,g40) _ _ ⟨bH,zs1,zs2,zs3,zs8,zs9,zs10,zs11,zs12,Rg,bx5,o17,bx31,o_todo2,?_⟩ ?_
   · show eE g c c2 todo2 [] n (q:Int)
     exact hrow.done (by rw[<-hfg];assumption)
   · show List.length todo2+2*ly c2<List.length todo1+2*ly c1
     (have h1:=hrow.meas;omega)
  refine aj rfl (df p10) (aM rfl ?_)
  clear o_todo1
  refine a8 rfl (mz zs9 (lx (aP (m:=↑n) (n:=1) rfl rfl (by omega)) (ai ((n:Int)+1) (ab (ao (a8 rfl (mz zs11 (lx (aP (m:=↑q) (n:=1) rfl rfl (by omega)) (ai ((q:Int)+1) ?_)))))))))
  refine ab ?_
  refine back5 (q+1,n+1,c1,g34) _ _ ⟨bH,zs1,zs2,zs3,zs8,rfl,zs10,rfl,Rg,bx5,bx31,o17,by omega,?_⟩ ?_
  · show c1=(bl g (q+1)).1/\(n+1)=(bl g (q+1)).2
    exact hdf.done hmay (by omega) hinv ‹_›
  · show Int.toNat ((g.1:Int)-((q+1):Int))<Int.toNat ((g.1:Int)-(q:Int))
    omega
 refine aj rfl (df p5) (aM rfl (aa ?_))
 clear bx5 o17
 refine a8 rfl (mz zs8 (mz zs9 (ma v9 (ai (n:Int) (ab (au (vs:=[v9,vi ↑n]) Try.func8 (.tmp rfl (.tmp rfl .nil)) ?_))))))
 have e0:(c:List Int)=((bE g).1):=by
   exact(lB hmay (by omega) hinv).1
 have e1:((n:Int):Int)=((bE g).2.1):=by
   exact(lB hmay (by omega) hinv).2.1
 exact⟨(fin w0 g23 (λn=>if n=2 then 1 else 0),v9),(bV (a:=c) (b:=(n:Int)) (λ(z0:List Int) (z1:Int)=>Ending.returned (vt [v9,vi z1])) e0 e1),bH.fresh _,(e0▸(o10.glue (γ:=c0) (ren:=(λn=>if n=2 then 1 else 0)) (k:=1) bH.col rfl rfl))⟩
end TL
