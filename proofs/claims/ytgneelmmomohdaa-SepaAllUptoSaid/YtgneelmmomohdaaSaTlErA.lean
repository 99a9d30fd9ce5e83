import Derived.Test.YtgneelmmomohdaaSaTlP5
import Derived.Test.YtgneelmmomohdaaSaTlGmA
import Derived.Test.YtgneelmmomohdaaSaTlGenA
import Derived.Test.YtgneelmmomohdaaProg
import Derived.Test.YtgneelmmomohdaaSaTlAli
set_option linter.all false
set_option maxRecDepth 20000
namespace TL
open Go Go.Proofs
theorem qP:Try.prog.follows .mixedOrders=true:=by kernel_rfl
theorem bN:Tp Try.prog 48 false 1 24 (.slice none 0 0):=Tp.of (by kernel_rfl)
theorem A9:Try.f63.body.isNone=false:=rfl
theorem zw:(Try.f63.name== "runtime.NumGoroutine")=false:=by decide+kernel
theorem uO:Try.f64.body.isNone=false:=rfl
theorem un:(Try.f64.name== "runtime.NumGoroutine")=false:=by decide+kernel
theorem tN:Try.f65.body.isNone=false:=rfl
theorem u9:(Try.f65.name== "runtime.NumGoroutine")=false:=by decide+kernel
theorem kE:Try.f68.body.isNone=false:=rfl
theorem kw:(Try.f68.name== "runtime.NumGoroutine")=false:=by decide+kernel
theorem kF(w0:World)(g:(Int)×(List Pt))(g_v:Value)(hg_v:Ro w0 g_v g.2)(h:Int)(hh:0<=h/\h<2*(g.2.length:Int))(hlen:g.2.length<=1000000):
    Calls Try.prog 68 #[vg [vi g.1,g_v],vi h] w0 (λee w=>ee= .returned (vi (aA g h))/\ep w0.heap.size w0 w):=by
 refine av Try.func68 rfl nq ?_
 have bH:=bn.start w0
 have Rg:=hg_v.sl
 obtain⟨hh1,hh2⟩:=hh
 refine aa (a8 rfl (cB rfl (cr c0 (is 1) (1,0) rfl rfl ?_)))
 intro g4 w1 b3 ch2 bx5
 replace bx5:Bx g4 (is 1) w1 b3 [vi g.1,g_v]:=bx5
 refine ai 0 (ab (aa (a8 rfl (lx (af cW rfl rfl rfl rfl) (lx (ae bG rfl bx5 rfl) (mi h (lx (gS (m:=h) (n:=2) rfl rfl (by omega) (by omega) (by omega)) (mi h (lx (nH (m:=h) (n:=2) rfl rfl (by omega) (by omega)) ?_)))))))))
 replace Rg:=Rg.cn ch2
 refine lx (ad (v:=g_v) (i:=h/2) dc rfl rfl Rg rfl (by omega) (by omega)) (lx (c6 (i:=h%2) dI rfl rfl rfl (by omega) (by omega) (Nat.mul_one _)) (lx (d5 (v:=g_v) (i:=h/2) aj rfl Rg (by omega) (by omega) (show Int.toNat (h%2)<2 by omega) (gE _ (by omega) (by omega))) (ai (pI (gI g.2 (h/2)) (h%2)) (ab (aD (vs:=[vi (pI (gI g.2 (h/2)) (h%2))]) Try.func68 (.tmp rfl .nil) ?_)))))
 have e0:(pI (gI g.2 (h/2)) (h%2):Int)=(aA g h):=by
   rfl
 replace bH:=bH.cn ch2
 exact⟨(congrArg (a₁:=pI (gI g.2 (h/2)) (h%2)) (λ(z0:Int)=>Ending.returned (vi z0)) e0),bH.below⟩
theorem x8(w0:World)(g:(Int)×(List Pt))(g_v:Value)(hg_v:Ro w0 g_v g.2)(h:Int)(hh:0<=h/\h<2*(g.2.length:Int))(hlen:g.2.length<=1000000):
    Calls Try.prog 65 #[vg [vi g.1,g_v],vi h] w0 (λee w=>ee= .returned (vi (bg g h))/\ep w0.heap.size w0 w):=by
 refine av Try.func65 rfl nq ?_
 have bH:=bn.start w0
 have Rg:=hg_v.sl
 obtain⟨hh1,hh2⟩:=hh
 refine aa (a8 rfl (cB rfl (cr c0 (is 1) (1,0) rfl rfl ?_)))
 intro g4 w1 b3 ch2 bx5
 replace bx5:Bx g4 (is 1) w1 b3 [vi g.1,g_v]:=bx5
 refine ai 0 (ab (aa (a8 rfl (lx (af cW rfl rfl rfl rfl) (lx (ae bG rfl bx5 rfl) (mi h (lx (gS (m:=h) (n:=2) rfl rfl (by omega) (by omega) (by omega)) (mi h (lx (nH (m:=h) (n:=2) rfl rfl (by omega) (by omega)) (lx (dA (m:=1) (n:=h%2) rfl rfl (by omega)) ?_))))))))))
 replace Rg:=Rg.cn ch2
 refine lx (ad (v:=g_v) (i:=h/2) dc rfl rfl Rg rfl (by omega) (by omega)) (lx (c6 (i:=1-(h%2)) dI rfl rfl rfl (by omega) (by omega) (Nat.mul_one _)) (lx (d5 (v:=g_v) (i:=h/2) aj rfl Rg (by omega) (by omega) (show Int.toNat (1-(h%2))<2 by omega) (gE _ (by omega) (by omega))) (ai (pI (gI g.2 (h/2)) (1-(h%2))) (ab (aD (vs:=[vi (pI (gI g.2 (h/2)) (1-(h%2)))]) Try.func65 (.tmp rfl .nil) ?_)))))
 have e0:(pI (gI g.2 (h/2)) (1-(h%2)):Int)=(bg g h):=by
   rfl
 replace bH:=bH.cn ch2
 exact⟨(congrArg (a₁:=pI (gI g.2 (h/2)) (1-(h%2))) (λ(z0:Int)=>Ending.returned (vi z0)) e0),bH.below⟩
theorem wW(w0:World)(n:Int)(x:Int)(hn:0<=n/\n<=1000000):
    Calls Try.prog 63 #[vi n,vi x] w0 (λee w=>∃xx:aG×Value,ee= .returned ((λ⟨δ,rv0⟩=>rv0) xx)/\(λ(⟨δ,rv0⟩:aG×Value) (w:World)=>eB w0 δ w/\Ow δ (is 1) (is 1) w rv0 (List.replicate n.toNat x)) xx w):=by
 refine av Try.func63 rfl nq ?_
 have bH:=bn.start w0
 obtain⟨hn1,hn2⟩:=hn
 have hrep:((List.replicate n.toNat (0:Int)).length:Int)=n:=by simp;omega
 refine aa (a8 rfl (ma vn (ab (aa (a8 rfl (mi n (lo (dL (α:=Int) (l:=n) (cp:=n) c0 (is 1) (is 1) (1,0) rfl (0:Int) bv aj rfl rfl rfl (by omega) (by omega) (by omega) (by omega) ?_))))))))
 intro g1 w2 v3 ch4 o5 _
 refine ma v3 (ab (aa (aa (a8 rfl (ai 0 (ab (ao ?_)))))))
 refine aY (σ:=Nat×(List Int)×aG) (λ⟨i,l,gq⟩ f w=>bn w0 gq w/\f 0=vi n/\f 1=vi x/\f 5=v3/\f 6=vi ↑i/\Ow gq (is 1) (is 1) w v3 l/\(i:Int)<=(n:Int)/\(l=List.replicate i x++List.replicate (n.toNat-i) 0/\(i:Int)<=n)) (λ⟨i,l,gq⟩=>Int.toNat ((n:Int)-(i:Int))) (0,(List.replicate (Int.toNat n) (0:Int)),g1) ?_ ?_
 · exact⟨bH.cn ch4,rfl,rfl,rfl,rfl,o5,by omega,by exact⟨by simp,by omega⟩⟩
 clear o5 bH
 rintro⟨i,l,g8⟩ f6 w7 ⟨bH,zs0,zs1,zs5,zs6,o5,hle_i,hinv⟩ back3
 have hll:l.length=n.toNat:=by rw[hinv.1];simp;omega
 refine aa (aa (a8 rfl (mz zs6 (mz zs0 (lx (bm (m:=↑i) (n:=n) rfl rfl) (ab ?_))))))
 by_cases p3:(i:Int)<n
 ·
  refine ah rfl (dt p3) (aq (aa (ao (a8 rfl (mz zs5 (mz zs6 (mz zs1 (lx (ad (v:=v3) (i:=↑i) bv rfl rfl o5.flat rfl (by omega) (by omega)) (lo ?_)))))))))
  refine aQ (i:=↑i) x aj rfl rfl o5 (by omega) (by omega) rfl ?_
  intro w9 ch10 bx11
  clear o5
  refine ab (am (a8 rfl (mz zs6 (lx (aI (m:=↑i) (n:=1) rfl rfl (by omega)) (ai ((i:Int)+1) (ab ?_))))))
  refine back3 (i+1,(List.set l (Int.toNat ↑i) x),g8) _ _ ⟨bH.ce ch10,zs0,zs1,zs5,rfl,bx11,by omega,?_⟩ ?_
  · show(List.set l (Int.toNat ↑i) x)=List.replicate (i+1) x++List.replicate (n.toNat-(i+1)) 0/\((i+1):Int)<=n
    have hk1:i<n.toNat:=by simp at*;omega
    refine⟨by rw[hinv.1];exact oU hk1,by omega⟩
  · show Int.toNat ((n:Int)-((i+1):Int))<Int.toNat ((n:Int)-(i:Int))
    omega
 refine ag rfl (df p3) (aH rfl (aa (a8 rfl (mz zs5 (ma v3 (ab (aD (vs:=[v3]) Try.func63 (.tmp rfl .nil) ?_)))))))
 have e0:(l:List Int)=(List.replicate n.toNat x):=by
   obtain⟨h1,h2⟩:=hinv
   have hk:i=n.toNat:=by simp at*;omega
   subst hk;rw[h1];simp
 exact⟨(fin w0 g8 (λn=>if n=1 then 1 else 0),v3),(congrArg (a₁:=l) (λ(z0:List Int)=>Ending.returned (v3)) e0),bH.fresh _,(e0▸(o5.glue (γ:=c0) (ren:=(λn=>if n=1 then 1 else 0)) (k:=1) bH.col rfl rfl))⟩
theorem rF(w0:World)(g:(Int)×(List Pt))(g_v:Value)(hg_v:Ro w0 g_v g.2)(hmay:aX g):
    Calls Try.prog 64 #[vg [vi g.1,g_v]] w0 (λee w=>∃xx:aG×Value,ee= .returned ((λ⟨δ,rv0⟩=>rv0) xx)/\(λ(⟨δ,rv0⟩:aG×Value) (w:World)=>eB w0 δ w/\cY δ 1 w rv0 (ar g)) xx w):=by
 refine av Try.func64 rfl nq ?_
 have bH:=bn.start w0
 have Rg:=hg_v.sl
 have hm0:=hmay
 obtain⟨hm1,hm2,hm3,hm4⟩:=hm0
 refine aa (a8 rfl (cB rfl (cr c0 (is 1) (1,0) rfl rfl ?_)))
 intro g4 w1 b3 ch2 bx5
 replace bx5:Bx g4 (is 1) w1 b3 [vi g.1,g_v]:=bx5
 refine ma vn (ab (aa (a8 rfl (lx (af cW rfl rfl rfl rfl) (lx (ae aj rfl bx5 rfl) (lo (ka (α:=Int) (n:=g.1) (cp:=g.1) g4 2 dd bN rfl rfl rfl (by omega) (by omega) (by omega) (by omega) ?_)))))))
 intro g6 w7 v8 ch9 o10
 refine ma v8 (ab (aa (aa (a8 rfl (ai 0 (ab (ao ?_)))))))
 refine aY (σ:=Nat×fG×aG) (λ⟨h,O,gq⟩ f w=>bn w0 gq w/\f 1=vp b3 0/\f 3=v8/\f 4=vi ↑h/\Sl gq (is 0) w g_v g.2/\Bx gq (is 1) w b3 [vi g.1,g_v]/\cY gq 2 w v8 O/\(h:Int)<=(2*(g.2.length:Int):Int)/\(fh O g h)) (λ⟨h,O,gq⟩=>Int.toNat ((2*(g.2.length:Int):Int)-(h:Int))) (0,(List.replicate (Int.toNat g.1) []),g6) ?_ ?_
 replace bH:=bH.cn ch2
 · exact⟨bH.cn ch9,rfl,rfl,rfl,(Rg.cn ch2).cn ch9,bx5.cn ch9,o10,by omega,by exact fh.start hm1⟩
 clear Rg bx5 o10 bH
 rintro⟨h,O,g13⟩ f11 w12 ⟨bH,zs1,zs3,zs4,Rg,bx5,o10,hle_h,hov⟩ back3
 have hol:=hov.len
 refine aa (aa (a8 rfl (mz zs4 (lx (af cW rfl rfl zs1 rfl) (lx (ae bG rfl bx5 rfl) ?_)))))
 have len14:=(Rg).small
 refine lx (bq dc rfl Rg) (lx (mc (m:=2) (n:=(g.2.length:Int)) rfl rfl (by omega)) (lx (bm (m:=↑h) (n:=2*(g.2.length:Int)) rfl rfl) (ab ?_)))
 by_cases p3:(h:Int)<(2*(g.2.length:Int))
 ·
  refine ah rfl (dt p3) ?_
  obtain⟨hf1,ik⟩:=wN hmay (h:=(h:Int)) (by omega) (by omega)
  have hbd:=hov.bd hf1 ik
  refine aq (aa (ao ?_))
  refine eN (σ:=aG) (λgq f w=>bn w0 gq w/\f 1=vp b3 0/\f 3=v8/\f 4=vi ↑h/\Sl gq (is 0) w g_v g.2/\Bx gq (is 1) w b3 [vi g.1,g_v]/\cY gq 2 w v8 (List.set O (Int.toNat (aA g (h:Int))) (gI O (aA g (h:Int))++[(h:Int)]))) g13 (inl [2]) qP ?_ ?_
  ·
   intro mid
   intro w16 ch15
   refine ht (v:=v8) 0 rfl (bD.refl _ _ _) (λw' hw'=>au zs3) ?_
   replace bx5:=bx5.cn ch15
   refine ht 1 rfl (bD.refl _ _ _) (λw' hw'=>aB (ds:=[vi g.1,g_v]) aK zs1 (bx5.chg hw' (cN rfl)) rfl rfl) (ht (v:=vi ↑h) 2 rfl (bD.refl _ _ _) (λw' hw'=>au zs4) (ht (v:=v8) 4 rfl (bD.refl _ _ _) (λw' hw'=>au zs3) (ht 5 rfl (bD.refl _ _ _) (λw' hw'=>aB (ds:=[vi g.1,g_v]) aK zs1 (bx5.chg hw' (cN rfl)) rfl rfl) (ht (v:=vi ↑h) 6 rfl (bD.refl _ _ _) (λw' hw'=>au zs4) (ht (v:=vi ↑h) 10 rfl (bD.refl _ _ _) (λw' hw'=>au zs4) ?_)))))
   refine eP 3 [11] (by kernel_rfl) ⟨eW 3 rfl (by kernel_rfl) rfl ?_,eW 11 rfl (by kernel_rfl) rfl ?_,trivial⟩
   ·
    replace Rg:=Rg.cn ch15
    refine bW (v:=vi (aA g (h:Int))) (aN (vals:=[vg [vi g.1,g_v],vi ↑h]) Try.func68 kE kw rfl) (kF w16 g g_v (Rg).ro (h:Int) (by omega) (by omega)) ?_
    intro w17 hb18
    replace hb18:=aS hb18 g13
    have hs19:bD (inl [2]) _ _ _ _:=hb18.n
    refine⟨hs19.same,?_⟩
    refine eP 7 [11] (by kernel_rfl) ⟨eW 7 rfl (by kernel_rfl) rfl ?_,eW 11 rfl (by kernel_rfl) rfl ?_,trivial⟩
    ·
     refine bW (v:=vi (aA g (h:Int))) (aN (vals:=[vg [vi g.1,g_v],vi ↑h]) Try.func68 kE kw rfl) (kF w17 g g_v ((Rg.ca hs19)).ro (h:Int) (by omega) (by omega)) ?_
     intro w20 hb21
     replace hb21:=aS hb21 g13
     have hs22:=hs19.seq (hb21.n)
     refine⟨hs22.same,?_⟩
     refine eP 8 [11] (by kernel_rfl) ⟨eW 8 rfl (by kernel_rfl) rfl ?_,eW 11 rfl (by kernel_rfl) rfl ?_,trivial⟩
     ·
      have C23:=cg [] (ch15.n.seq (hb18.n.seq hb21.n))
      replace o10:=o10.ca C23
      refine aL (v:=Value.pointer (some (bA v8 1 (Int.toNat (aA g (h:Int)))))) (ad (α:=List Int) (xs:=O) (v:=v8) (i:=aA g (h:Int)) dd rfl rfl o10.sl rfl (by omega) (by omega)) ?_
      refine⟨hs22.same,?_⟩
      refine eP 9 [11] (by kernel_rfl) ⟨eW 9 rfl (by kernel_rfl) rfl ?_,eW 11 rfl (by kernel_rfl) rfl ?_,trivial⟩
      ·
       obtain⟨v24,cel25,r26⟩:=bR (r:=aA g (h:Int)) o10 (by omega) (by omega)
       refine aL (v:=v24) (bF bN rfl cel25) ?_
       refine⟨hs22.same,?_⟩
       refine bu 11 rfl (by kernel_rfl) rfl (aC (α:=Int) g13 (is 3) (is 3) (3,0) rfl [(h:Int)] bv aj (by decide) (by decide) (vs:=[(0,vi ↑h)]) rfl rfl (.cons rfl .nil) ?_)
       intro g27 w28 v29 ch30 o31
       have hs32:=hs22.seq (ch30.n)
       refine⟨hs32.same,?_⟩
       refine bu 12 rfl (by kernel_rfl) rfl ?_
       replace o10:=o10.cn ch30
       replace r26:=r26.cn ch30
       refine bf (α:=Int) (xs:=(gI O (aA g (h:Int)))) (ys:=([(h:Int)])) g27 (J:=row 2 (Int.toNat (aA g (h:Int))+1)) (S:=row 2 (Int.toNat (aA g (h:Int))+1)) (2,Int.toNat (aA g (h:Int))+1) rfl bv aj (by decide) rfl rfl rfl r26 o31.flat (by decide) (by(simp;omega)) ?_
       intro g33 w34 v35 ch36 o37
       have o38:=o10.rowchg ch36
       clear o10 cel25 r26
       have hs39:=hs32.seq (ch36.lr rfl)
       refine⟨hs39.same,?_⟩
       refine bu 13 rfl (by kernel_rfl) rfl ?_
       obtain⟨us40,hl41,r42⟩:=o38.vc
       try simp only[List.length_set,List.length_append,List.length_cons,List.length_nil] at hl41
       refine aL (v:=Value.pointer (some (bA v8 1 (Int.toNat (aA g (h:Int)))))) (ad (α:=Vc) (xs:=us40) (v:=v8) (i:=aA g (h:Int)) dd rfl rfl r42 rfl (by omega) (by omega)) ?_
       refine⟨hs39.same,?_⟩
       refine bu 14 rfl (by kernel_rfl) rfl (bM (r:=aA g (h:Int)) bN rfl rfl o38 o37 (by omega) (by omega) ?_)
       intro w46 ch47 o48
       clear o38 o37
       have hs49:=hs39.seq (ch47.l rfl)
       refine⟨hs49.same,?_⟩
       refine eE (by kernel_rfl) ?_
       have C50:=cg [2] (ch15.n.seq (hb18.n.seq (hb21.n.seq (ch30.n.seq ((ch36.lr rfl).seq (ch47.l rfl))))))
       exact mid (g33) _ _ ⟨bH.ca C50,zs1,zs3,zs4,(Rg.ca hs49),(bx5.ca hs49),o48⟩
      ·
       refine aC (α:=Int) g13 (is 3) (is 3) (3,0) rfl [(h:Int)] bv aj (by decide) (by decide) (vs:=[(0,vi ↑h)]) rfl rfl (.cons rfl .nil) ?_
       intro g51 w52 v53 ch54 o55
       have hs56:=hs22.seq (ch54.n)
       refine⟨hs56.same,?_⟩
       refine bu 9 rfl (by kernel_rfl) rfl ?_
       replace o10:=o10.cn ch54
       obtain⟨v57,cel58,r59⟩:=bR (r:=aA g (h:Int)) o10 (by omega) (by omega)
       refine aL (v:=v57) (bF bN rfl cel58) ?_
       refine⟨hs56.same,?_⟩
       refine bu 12 rfl (by kernel_rfl) rfl (bf (α:=Int) (xs:=(gI O (aA g (h:Int)))) (ys:=([(h:Int)])) g51 (J:=row 2 (Int.toNat (aA g (h:Int))+1)) (S:=row 2 (Int.toNat (aA g (h:Int))+1)) (2,Int.toNat (aA g (h:Int))+1) rfl bv aj (by decide) rfl rfl rfl r59 o55.flat (by decide) (by(simp;omega)) ?_)
       intro g60 w61 v62 ch63 o64
       have o65:=o10.rowchg ch63
       clear o10 cel58 r59
       have hs66:=hs56.seq (ch63.lr rfl)
       refine⟨hs66.same,?_⟩
       refine bu 13 rfl (by kernel_rfl) rfl ?_
       obtain⟨us67,hl68,r69⟩:=o65.vc
       try simp only[List.length_set,List.length_append,List.length_cons,List.length_nil] at hl68
       refine aL (v:=Value.pointer (some (bA v8 1 (Int.toNat (aA g (h:Int)))))) (ad (α:=Vc) (xs:=us67) (v:=v8) (i:=aA g (h:Int)) dd rfl rfl r69 rfl (by omega) (by omega)) ?_
       refine⟨hs66.same,?_⟩
       refine bu 14 rfl (by kernel_rfl) rfl (bM (r:=aA g (h:Int)) bN rfl rfl o65 o64 (by omega) (by omega) ?_)
       intro w73 ch74 o75
       clear o65 o64
       have hs76:=hs66.seq (ch74.l rfl)
       refine⟨hs76.same,?_⟩
       refine eE (by kernel_rfl) ?_
       have C77:=cg [2] (ch15.n.seq (hb18.n.seq (hb21.n.seq (ch54.n.seq ((ch63.lr rfl).seq (ch74.l rfl))))))
       exact mid (g60) _ _ ⟨bH.ca C77,zs1,zs3,zs4,(Rg.ca hs76),(bx5.ca hs76),o75⟩
     ·
      refine aC (α:=Int) g13 (is 3) (is 3) (3,0) rfl [(h:Int)] bv aj (by decide) (by decide) (vs:=[(0,vi ↑h)]) rfl rfl (.cons rfl .nil) ?_
      intro g78 w79 v80 ch81 o82
      have hs83:=hs22.seq (ch81.n)
      refine⟨hs83.same,?_⟩
      refine bu 8 rfl (by kernel_rfl) rfl ?_
      have C84:=cg [] (ch15.n.seq (hb18.n.seq (hb21.n.seq ch81.n)))
      replace o10:=o10.ca C84
      refine aL (v:=Value.pointer (some (bA v8 1 (Int.toNat (aA g (h:Int)))))) (ad (α:=List Int) (xs:=O) (v:=v8) (i:=aA g (h:Int)) dd rfl rfl o10.sl rfl (by omega) (by omega)) ?_
      refine⟨hs83.same,?_⟩
      refine bu 9 rfl (by kernel_rfl) rfl ?_
      obtain⟨v85,cel86,r87⟩:=bR (r:=aA g (h:Int)) o10 (by omega) (by omega)
      refine aL (v:=v85) (bF bN rfl cel86) ?_
      refine⟨hs83.same,?_⟩
      refine bu 12 rfl (by kernel_rfl) rfl (bf (α:=Int) (xs:=(gI O (aA g (h:Int)))) (ys:=([(h:Int)])) g78 (J:=row 2 (Int.toNat (aA g (h:Int))+1)) (S:=row 2 (Int.toNat (aA g (h:Int))+1)) (2,Int.toNat (aA g (h:Int))+1) rfl bv aj (by decide) rfl rfl rfl r87 o82.flat (by decide) (by(simp;omega)) ?_)
      intro g88 w89 v90 ch91 o92
      have o93:=o10.rowchg ch91
      clear o10 cel86 r87
      have hs94:=hs83.seq (ch91.lr rfl)
      refine⟨hs94.same,?_⟩
      refine bu 13 rfl (by kernel_rfl) rfl ?_
      obtain⟨us95,hl96,r97⟩:=o93.vc
      try simp only[List.length_set,List.length_append,List.length_cons,List.length_nil] at hl96
      refine aL (v:=Value.pointer (some (bA v8 1 (Int.toNat (aA g (h:Int)))))) (ad (α:=Vc) (xs:=us95) (v:=v8) (i:=aA g (h:Int)) dd rfl rfl r97 rfl (by omega) (by omega)) ?_
      refine⟨hs94.same,?_⟩
      refine bu 14 rfl (by kernel_rfl) rfl (bM (r:=aA g (h:Int)) bN rfl rfl o93 o92 (by omega) (by omega) ?_)
      intro w101 ch102 o103
      clear o93 o92
      have hs104:=hs94.seq (ch102.l rfl)
      refine⟨hs104.same,?_⟩
      refine eE (by kernel_rfl) ?_
      have C105:=cg [2] (ch15.n.seq (hb18.n.seq (hb21.n.seq (ch81.n.seq ((ch91.lr rfl).seq (ch102.l rfl))))))
      exact mid (g88) _ _ ⟨bH.ca C105,zs1,zs3,zs4,(Rg.ca hs104),(bx5.ca hs104),o103⟩
    ·
     refine aC (α:=Int) g13 (is 3) (is 3) (3,0) rfl [(h:Int)] bv aj (by decide) (by decide) (vs:=[(0,vi ↑h)]) rfl rfl (.cons rfl .nil) ?_
     intro g106 w107 v108 ch109 o110
     have hs111:=hs19.seq (ch109.n)
     refine⟨hs111.same,?_⟩
     refine bu 7 rfl (by kernel_rfl) rfl (bW (v:=vi (aA g (h:Int))) (aN (vals:=[vg [vi g.1,g_v],vi ↑h]) Try.func68 kE kw rfl) (kF w107 g g_v ((Rg.ca hs111)).ro (h:Int) (by omega) (by omega)) ?_)
     intro w112 hb113
     replace hb113:=aS hb113 g106
     have hs114:=hs111.seq (hb113.n)
     refine⟨hs114.same,?_⟩
     refine bu 8 rfl (by kernel_rfl) rfl ?_
     have C115:=cg [] (ch15.n.seq (hb18.n.seq (ch109.n.seq hb113.n)))
     replace o10:=o10.ca C115
     refine aL (v:=Value.pointer (some (bA v8 1 (Int.toNat (aA g (h:Int)))))) (ad (α:=List Int) (xs:=O) (v:=v8) (i:=aA g (h:Int)) dd rfl rfl o10.sl rfl (by omega) (by omega)) ?_
     refine⟨hs114.same,?_⟩
     refine bu 9 rfl (by kernel_rfl) rfl ?_
     obtain⟨v116,cel117,r118⟩:=bR (r:=aA g (h:Int)) o10 (by omega) (by omega)
     refine aL (v:=v116) (bF bN rfl cel117) ?_
     refine⟨hs114.same,?_⟩
     refine bu 12 rfl (by kernel_rfl) rfl ?_
     replace o110:=o110.cn hb113
     refine bf (α:=Int) (xs:=(gI O (aA g (h:Int)))) (ys:=([(h:Int)])) g106 (J:=row 2 (Int.toNat (aA g (h:Int))+1)) (S:=row 2 (Int.toNat (aA g (h:Int))+1)) (2,Int.toNat (aA g (h:Int))+1) rfl bv aj (by decide) rfl rfl rfl r118 o110.flat (by decide) (by(simp;omega)) ?_
     intro g119 w120 v121 ch122 o123
     have o124:=o10.rowchg ch122
     clear o10 cel117 r118
     have hs125:=hs114.seq (ch122.lr rfl)
     refine⟨hs125.same,?_⟩
     refine bu 13 rfl (by kernel_rfl) rfl ?_
     obtain⟨us126,hl127,r128⟩:=o124.vc
     try simp only[List.length_set,List.length_append,List.length_cons,List.length_nil] at hl127
     refine aL (v:=Value.pointer (some (bA v8 1 (Int.toNat (aA g (h:Int)))))) (ad (α:=Vc) (xs:=us126) (v:=v8) (i:=aA g (h:Int)) dd rfl rfl r128 rfl (by omega) (by omega)) ?_
     refine⟨hs125.same,?_⟩
     refine bu 14 rfl (by kernel_rfl) rfl (bM (r:=aA g (h:Int)) bN rfl rfl o124 o123 (by omega) (by omega) ?_)
     intro w132 ch133 o134
     clear o124 o123
     have hs135:=hs125.seq (ch133.l rfl)
     refine⟨hs135.same,?_⟩
     refine eE (by kernel_rfl) ?_
     have C136:=cg [2] (ch15.n.seq (hb18.n.seq (ch109.n.seq (hb113.n.seq ((ch122.lr rfl).seq (ch133.l rfl))))))
     exact mid (g119) _ _ ⟨bH.ca C136,zs1,zs3,zs4,(Rg.ca hs135),(bx5.ca hs135),o134⟩
   ·
    refine aC (α:=Int) g13 (is 3) (is 3) (3,0) rfl [(h:Int)] bv aj (by decide) (by decide) (vs:=[(0,vi ↑h)]) rfl rfl (.cons rfl .nil) ?_
    intro g137 w138 v139 ch140 o141
    have hs142:bD (inl [2]) _ _ _ _:=ch140.n
    refine⟨hs142.same,?_⟩
    refine bu 3 rfl (by kernel_rfl) rfl ?_
    replace Rg:=Rg.cn ch15
    refine bW (v:=vi (aA g (h:Int))) (aN (vals:=[vg [vi g.1,g_v],vi ↑h]) Try.func68 kE kw rfl) (kF w138 g g_v ((Rg.ca hs142)).ro (h:Int) (by omega) (by omega)) ?_
    intro w143 hb144
    replace hb144:=aS hb144 g137
    have hs145:=hs142.seq (hb144.n)
    refine⟨hs145.same,?_⟩
    refine bu 7 rfl (by kernel_rfl) rfl (bW (v:=vi (aA g (h:Int))) (aN (vals:=[vg [vi g.1,g_v],vi ↑h]) Try.func68 kE kw rfl) (kF w143 g g_v ((Rg.ca hs145)).ro (h:Int) (by omega) (by omega)) ?_)
    intro w146 hb147
    replace hb147:=aS hb147 g137
    have hs148:=hs145.seq (hb147.n)
    refine⟨hs148.same,?_⟩
    refine bu 8 rfl (by kernel_rfl) rfl ?_
    have C149:=cg [] (ch15.n.seq (ch140.n.seq (hb144.n.seq hb147.n)))
    replace o10:=o10.ca C149
    refine aL (v:=Value.pointer (some (bA v8 1 (Int.toNat (aA g (h:Int)))))) (ad (α:=List Int) (xs:=O) (v:=v8) (i:=aA g (h:Int)) dd rfl rfl o10.sl rfl (by omega) (by omega)) ?_
    refine⟨hs148.same,?_⟩
    refine bu 9 rfl (by kernel_rfl) rfl ?_
    obtain⟨v150,cel151,r152⟩:=bR (r:=aA g (h:Int)) o10 (by omega) (by omega)
    refine aL (v:=v150) (bF bN rfl cel151) ?_
    refine⟨hs148.same,?_⟩
    refine bu 12 rfl (by kernel_rfl) rfl ?_
    replace o141:=(o141.cn hb144).cn hb147
    refine bf (α:=Int) (xs:=(gI O (aA g (h:Int)))) (ys:=([(h:Int)])) g137 (J:=row 2 (Int.toNat (aA g (h:Int))+1)) (S:=row 2 (Int.toNat (aA g (h:Int))+1)) (2,Int.toNat (aA g (h:Int))+1) rfl bv aj (by decide) rfl rfl rfl r152 o141.flat (by decide) (by(simp;omega)) ?_
    intro g153 w154 v155 ch156 o157
    have o158:=o10.rowchg ch156
    clear o10 cel151 r152
    have hs159:=hs148.seq (ch156.lr rfl)
    refine⟨hs159.same,?_⟩
    refine bu 13 rfl (by kernel_rfl) rfl ?_
    obtain⟨us160,hl161,r162⟩:=o158.vc
    try simp only[List.length_set,List.length_append,List.length_cons,List.length_nil] at hl161
    refine aL (v:=Value.pointer (some (bA v8 1 (Int.toNat (aA g (h:Int)))))) (ad (α:=Vc) (xs:=us160) (v:=v8) (i:=aA g (h:Int)) dd rfl rfl r162 rfl (by omega) (by omega)) ?_
    refine⟨hs159.same,?_⟩
    refine bu 14 rfl (by kernel_rfl) rfl (bM (r:=aA g (h:Int)) bN rfl rfl o158 o157 (by omega) (by omega) ?_)
    intro w166 ch167 o168
    clear o158 o157
    have hs169:=hs159.seq (ch167.l rfl)
    refine⟨hs169.same,?_⟩
    refine eE (by kernel_rfl) ?_
    have C170:=cg [2] (ch15.n.seq (ch140.n.seq (hb144.n.seq (hb147.n.seq ((ch156.lr rfl).seq (ch167.l rfl))))))
    exact mid (g153) _ _ ⟨bH.ca C170,zs1,zs3,zs4,(Rg.ca hs169),(bx5.ca hs169),o168⟩
  clear Rg bx5 o10 bH
  rintro g173 f171 w172 ⟨bH,zs1,zs3,zs4,Rg,bx5,o48⟩
  refine am (a8 rfl (mz zs4 (lx (aI (m:=↑h) (n:=1) rfl rfl (by omega)) (ai ((h:Int)+1) (ab ?_)))))
  refine back3 (h+1,(List.set O (Int.toNat (aA g (h:Int))) (gI O (aA g (h:Int))++[(h:Int)])),g173) _ _ ⟨bH,zs1,zs3,rfl,Rg,bx5,o48,by omega,?_⟩ ?_
  · show fh (List.set O (Int.toNat (aA g (h:Int))) (gI O (aA g (h:Int))++[(h:Int)])) g (h+1)
    exact hov.next hf1 ik
  · show Int.toNat ((2*(g.2.length:Int):Int)-((h+1):Int))<Int.toNat ((2*(g.2.length:Int):Int)-(h:Int))
    omega
 refine ag rfl (df p3) (aH rfl (aa ?_))
 clear bx5
 refine a8 rfl (mz zs3 (ma v8 (ab (aD (vs:=[v8]) Try.func64 (.tmp rfl .nil) ?_))))
 have e0:(O:fG)=(ar g):=by
   exact hov.done (by omega)
 exact⟨(fin w0 g13 (λn=>if n=2 then 1 else 0),v8),(congrArg (a₁:=O) (λ(z0:fG)=>Ending.returned (v8)) e0),bH.fresh _,(e0▸(o10.glue (γ:=c0) (ren:=(λn=>if n=2 then 1 else 0)) (k:=1) bH.col rfl rfl))⟩
set_option maxHeartbeats 4000000 in
theorem iK(w0:World)(g:(Int)×(List Pt))(g_v:Value)(hg_v:Ro w0 g_v g.2)(gone:List Bool)(gone_v:Value)(hgone_v:Ro w0 gone_v gone)(cut:List Bool)(cut_v:Value)(hcut_v:Ro w0 cut_v cut)(hmay:aX g)(hgo:qA gone_v=true->(gone.length:Int)=g.1)(hcu:qA cut_v=true->(cut.length:Int)=g.2.length):
    Calls Try.prog 42 #[vg [vi g.1,g_v],gone_v,cut_v] w0 (λee w=>∃xx:aG×Value,ee= .returned ((λ⟨δ,rv0⟩=>vt [rv0,vi ((aU g gone cut).2)]) xx)/\(λ(⟨δ,rv0⟩:aG×Value) (w:World)=>eB w0 δ w/\Ow δ (is 1) (is 1) w rv0 ((aU g gone cut).1)) xx w):=by
 refine av Try.func42 rfl nq ?_
 have bH:=bn.start w0
 have Rg:=hg_v.sl
 have Rgone:=hgone_v.sl
 have Rcut:=hcut_v.sl
 have hm0:=hmay
 obtain⟨hm1,hm2,hm3,hm4⟩:=hm0
 have hfl:=pu g hm1
 have hgo0:=zd hgone_v
 have hcu0:=zd hcut_v
 have hP:=i7 (gone:=gone) (cut:=cut) hmay
 refine aa (a8 rfl (cB rfl (cr c0 (is 1) (1,0) rfl rfl ?_)))
 intro g4 w1 b3 ch2 bx5
 replace bx5:Bx g4 (is 1) w1 b3 [vi g.1,g_v]:=bx5
 refine ma vn (ai 0 (ab (aa (a8 rfl (lx (af cW rfl rfl rfl rfl) (lx (ae aj rfl bx5 rfl) (lo (bQ (aN (vals:=[vi g.1,vi (-1)]) Try.func63 A9 zw rfl) (wW w1 g.1 (-1) (by omega)) ?_))))))))
 rintro⟨d7,v9⟩ w6 ⟨fr8,o10⟩
 obtain⟨g11,ch12,G11⟩:=ia g4 fr8 (λn=>if n=1 then 2 else 0)
 replace o10:=o10.gl G11 2
 refine ma v9 (ab (aa (a8 rfl (ai 0 (ab (aa (a8 rfl ?_)))))))
 replace bx5:=bx5.cn ch12
 refine lx (aB (ds:=[vi g.1,g_v]) aK rfl bx5 rfl rfl) ?_
 replace Rg:=(Rg.cn ch2).cn ch12
 refine lo (bQ (aN (vals:=[vg [vi g.1,g_v]]) Try.func64 uO un rfl) (rF w6 g g_v (Rg).ro ‹_›) ?_)
 rintro⟨d14,v16⟩ w13 ⟨fr15,o17⟩
 obtain⟨g18,ch19,G18⟩:=ia g11 fr15 (λn=>if n=1 then 3 else 0)
 replace o17:=o17.gl G18 3
 refine ma v16 (ab (aa (aa (a8 rfl (ai 0 (ab (ao ?_)))))))
 refine aY (σ:=Nat×Nat×(List Int)×aG) (λ⟨n,q,c,gq⟩ f w=>bn w0 gq w/\f 1=gone_v/\f 2=cut_v/\f 3=vp b3 0/\f 8=v9/\f 9=vi ↑n/\f 10=v16/\f 11=vi ↑q/\Sl gq (is 0) w g_v g.2/\Sl gq (is 0) w gone_v gone/\Sl gq (is 0) w cut_v cut/\Bx gq (is 1) w b3 [vi g.1,g_v]/\Ow gq (is 2) (is 2) w v9 c/\cY gq 3 w v16 (ar g)/\(q:Int)<=(g.1:Int)/\(c=(bJ (d6 g gone cut) gone q).1/\n=(bJ (d6 g gone cut) gone q).2)) (λ⟨n,q,c,gq⟩=>Int.toNat ((g.1:Int)-(q:Int))) (0,0,List.replicate g.1.toNat (-1),g18) ?_ ?_
 have C20:=cg [] (ch2.n.seq (ch12.n.seq ch19.n))
 · exact⟨bH.ca C20,rfl,rfl,rfl,rfl,rfl,rfl,rfl,Rg.cn ch19,Rgone.ca C20,Rcut.ca C20,bx5.cn ch19,o10.cn ch19,o17,by omega,by exact⟨rfl,rfl⟩⟩
 clear Rg Rgone Rcut bx5 o10 o17 bH
 rintro⟨n,q,c,g23⟩ f21 w22 ⟨bH,zs1,zs2,zs3,zs8,zs9,zs10,zs11,Rg,Rgone,Rcut,bx5,o10,o17,hle_q,hinv⟩ back5
 obtain⟨hcl,hi2,hi3⟩:=r7 hP hinv (by omega)
 refine aa (aa (a8 rfl (mz zs11 (lx (af cW rfl rfl zs3 rfl) (lx (ae aj rfl bx5 rfl) (lx (bm (m:=↑q) (n:=g.1) rfl rfl) (ab ?_)))))))
 by_cases p5:(q:Int)<g.1
 ·
  refine ah rfl (dt p5) (aq (aa (ao (aa (aa ?_)))))
  refine jI [false,false,true] (σ:=aG) (λgq f w=>bn w0 gq w/\f 1=gone_v/\f 2=cut_v/\f 3=vp b3 0/\f 8=v9/\f 9=vi ↑n/\f 10=v16/\f 11=vi ↑q/\Sl gq (is 0) w g_v g.2/\Sl gq (is 0) w gone_v gone/\Sl gq (is 0) w cut_v cut/\Bx gq (is 1) w b3 [vi g.1,g_v]/\Ow gq (is 2) (is 2) w v9 c/\cY gq 3 w v16 (ar g)/\(¬0<=gI c ↑q/\¬gI gone ↑q=true)) ?_ ?_
  ·
   intro mid_j1
   refine a8 rfl (mz zs8 (mz zs11 (lx (ad (v:=v9) (i:=↑q) bv rfl rfl o10.flat rfl (by omega) (by omega)) (lx (az (v:=v9) (i:=↑q) aj rfl o10.flat (by omega) (by omega) (by decide) rfl) (lx (eO (m:=(gI c ↑q)) (n:=0) rfl rfl) (mv (vb (decide (0<=(gI c ↑q)))) ?_))))))
   by_cases q32:0<=(gI c ↑q)
   ·
    refine ak (wn (dt q32)) (ak (wn (dt q32)) (ak (wn (dt q32)) (ak (bh rfl rfl rfl) (ak (bh rfl rfl rfl) (ak (bh rfl rfl rfl) (ak (bh rfl rfl rfl) (ak (wn (dt q32)) (lw (vb true) (aO rfl (dt q32) rfl) (ab ?_)))))))))
    refine ah rfl rfl (aH rfl (a8 rfl (mz zs11 (lx (aI (m:=↑q) (n:=1) rfl rfl (by omega)) (ai ((q:Int)+1) (ab ?_))))))
    refine back5 (n,q+1,c,g23) _ _ ⟨bH,zs1,zs2,zs3,zs8,zs9,zs10,rfl,Rg,Rgone,Rcut,bx5,o10,o17,by omega,?_⟩ ?_
    · show c=(bJ (d6 g gone cut) gone (q+1)).1/\n=(bJ (d6 g gone cut) gone (q+1)).2
      exact kp hinv (.inl ‹_›)
    · show Int.toNat ((g.1:Int)-((q+1):Int))<Int.toNat ((g.1:Int)-(q:Int))
      omega
   refine lv (gone_v) (wy (df q32)) (au zs1) (lv (vb (qA gone_v)) (wy (df q32)) (iH gj Rgone rfl rfl) (lv (vb (qA gone_v)) (wy (df q32)) (au rfl) ?_))
   by_cases q35:qA gone_v=true
   ·
    refine lv (gone_v) (wy q35) (au zs1) (lv (vi ↑q) (wy q35) (au zs11) (lv (Value.pointer (some (bA gone_v 1 (Int.toNat ↑q)))) (wy q35) (ad (α:=Bool) (xs:=gone) (v:=gone_v) (i:=↑q) gj rfl rfl Rgone rfl (by(have:=hgo ‹_›;omega)) (by(have:=hgo ‹_›;omega))) (lv (vb (gI gone ↑q)) (wy q35) (az (α:=Bool) (xs:=gone) (v:=gone_v) (i:=↑q) cO rfl Rgone (by(have:=hgo ‹_›;omega)) (by(have:=hgo ‹_›;omega)) (by decide) rfl) (lv (vb (gI gone ↑q)) (wy (df q32)) (aO rfl q35 rfl) (lw (vb (gI gone ↑q)) (aP rfl (df q32) rfl) (ab ?_))))))
    by_cases p7:(gI gone ↑q)=true
    ·
     refine ah rfl p7 (aH rfl (a8 rfl (mz zs11 (lx (aI (m:=↑q) (n:=1) rfl rfl (by omega)) (ai ((q:Int)+1) (ab ?_))))))
     refine back5 (n,q+1,c,g23) _ _ ⟨bH,zs1,zs2,zs3,zs8,zs9,zs10,rfl,Rg,Rgone,Rcut,bx5,o10,o17,by omega,?_⟩ ?_
     · show c=(bJ (d6 g gone cut) gone (q+1)).1/\n=(bJ (d6 g gone cut) gone (q+1)).2
       exact kp hinv (.inr ‹_›)
     · show Int.toNat ((g.1:Int)-((q+1):Int))<Int.toNat ((g.1:Int)-(q:Int))
       omega
    refine ag rfl (Bool.eq_false_iff.2 p7) (aq (aa ?_))
    refine mid_j1 (g23) _ _ ⟨bH,zs1,zs2,zs3,zs8,zs9,zs10,zs11,Rg,Rgone,Rcut,bx5,o10,o17,?_⟩
    show¬0<=gI c ↑q/\¬gI gone ↑q=true
    exact⟨by assumption,by(assumption)⟩
   refine ak (wn (Bool.eq_false_iff.2 q35)) (ak (wn (Bool.eq_false_iff.2 q35)) (ak (wn (Bool.eq_false_iff.2 q35)) (ak (wn (Bool.eq_false_iff.2 q35)) (lv (vb false) (wy (df q32)) (aP rfl (Bool.eq_false_iff.2 q35) rfl) (lw (vb false) (aP rfl (df q32) rfl) (ab (ag rfl rfl (aq (aa ?_)))))))))
   refine mid_j1 (g23) _ _ ⟨bH,zs1,zs2,zs3,zs8,zs9,zs10,zs11,Rg,Rgone,Rcut,bx5,o10,o17,?_⟩
   show¬0<=gI c ↑q/\¬gI gone ↑q=true
   exact⟨by assumption,by(exact ra hgo0 ‹_›)⟩
  clear Rg Rgone Rcut bx5 o10 o17 bH
  rintro g26 f24 w25 ⟨bH,z27_1,z27_2,z27_3,z27_8,z27_9,z27_10,z27_11,Rg,Rgone,Rcut,bx5,o10,o17,hjq⟩
  obtain⟨hjq1,hjq2⟩:=hjq
  refine a8 rfl (mz z27_11 (lo (aC (α:=Int) g26 (is 4) (is 4) (4,0) rfl [(q:Int)] bv aj (by decide) (by decide) (vs:=[(0,vi ↑q)]) rfl rfl (.cons rfl .nil) ?_)))
  intro g28 w29 v30 ch31 o32
  refine ma v30 (ab (aa (a8 rfl (mz z27_8 (mz z27_11 (mz z27_9 ?_))))))
  replace o10:=o10.cn ch31
  refine lx (ad (v:=v9) (i:=↑q) bv rfl rfl o10.flat rfl (by omega) (by omega)) (lo (aQ (i:=↑q) (n:Int) aj rfl rfl o10 (by omega) (by omega) rfl ?_))
  intro w33 ch34 bx35
  clear o10
  refine ab (aa (ao ?_))
  refine aY (σ:=Value×(List Int)×(List Int)×aG) (λ⟨todo1_v,todo1,c1,gq⟩ f w=>bn w0 gq w/\f 1=gone_v/\f 2=cut_v/\f 3=vp b3 0/\f 8=v9/\f 9=vi ↑n/\f 10=v16/\f 11=vi ↑q/\f 12=todo1_v/\Sl gq (is 0) w g_v g.2/\Sl gq (is 0) w gone_v gone/\Sl gq (is 0) w cut_v cut/\Bx gq (is 1) w b3 [vi g.1,g_v]/\cY gq 3 w v16 (ar g)/\Ow gq (is 2) (is 2) w v9 c1/\Ow gq (is 4) (is 4) w todo1_v todo1/\(fD g (d6 g gone cut) (uF g gone cut) c c1 todo1 [] n (q:Int))) (λ⟨todo1_v,todo1,c1,gq⟩=>List.length todo1+2*jl c1) (v30,[(q:Int)],(List.set c (Int.toNat ↑q) (n:Int)),g28) ?_ ?_
  replace bH:=bH.cn ch31
  · exact⟨bH.ce ch34,z27_1,z27_2,z27_3,z27_8,z27_9,z27_10,z27_11,rfl,(Rg.cn ch31).ce ch34,(Rgone.cn ch31).ce ch34,(Rcut.cn ch31).ce ch34,(bx5.cn ch31).ce ch34,(o17.cn ch31).ce ch34,bx35,o32.ce ch34,by exact fD.start hP (by omega) hinv ‹_›⟩
  clear Rg Rgone Rcut bx5 o17 o32 bx35 bH
  rintro⟨todo1_v,todo1,c1,g38⟩ f36 w37 ⟨bH,zs1,zs2,zs3,zs8,zs9,zs10,zs11,zs12,Rg,Rgone,Rcut,bx5,o17,bx35,o_todo1,hdf⟩ back10
  have hcl1:=hdf.len
  have htb:=hdf.bd
  refine aa (aa (a8 rfl (mz zs12 ?_)))
  have len39:=(o_todo1.flat).small
  refine lx (bq bv rfl o_todo1.flat) (lx (eu (m:=(todo1.length:Int)) (n:=0) rfl rfl) (ab ?_))
  by_cases p10:0<(todo1.length:Int)
  ·
   refine ah rfl (dt p10) (aq (ao (aa (a8 rfl (mz zs12 (mz zs12 (lx (bq bv rfl o_todo1.flat) (lx (dA (m:=(todo1.length:Int)) (n:=1) rfl rfl (by omega)) (lx (ad (v:=todo1_v) (i:=(todo1.length:Int)-1) bv rfl rfl o_todo1.flat rfl (by omega) (by omega)) (lx (az (v:=todo1_v) (i:=(todo1.length:Int)-1) aj rfl o_todo1.flat (by omega) (by omega) (by decide) rfl) ?_))))))))))
   refine ai (gI todo1 ((todo1.length:Int)-1)) (ab (aa (a8 rfl (mz zs12 (mz zs12 (lx (bq bv rfl o_todo1.flat) (lx (dA (m:=(todo1.length:Int)) (n:=1) rfl rfl (by omega)) (lw ((dq todo1_v 1 (Int.toNat 0) (Int.toNat ((todo1.length:Int)-1)))) (fX (v:=todo1_v) (l:=0) (h:=(todo1.length:Int)-1) bv rfl rfl o_todo1.flat (.inr ⟨rfl,rfl⟩) (.inl (congrArg some rfl)) (by omega) (by omega) (by omega)) ?_))))))))
   have r41:=l8 o_todo1 (show Int.toNat ((todo1.length:Int)-1)<=List.length _ by omega)
   refine ma ((dq todo1_v 1 (Int.toNat 0) (Int.toNat ((todo1.length:Int)-1)))) (ab (aa ?_))
   clear o_todo1
   refine a8 rfl (ai 0 (ab (ao ?_)))
   refine aY (σ:=Nat×Value×(List Int)×(List Int)×aG) (λ⟨k,todo2_v,todo2,c2,gq⟩ f w=>bn w0 gq w/\f 1=gone_v/\f 2=cut_v/\f 3=vp b3 0/\f 8=v9/\f 9=vi ↑n/\f 10=v16/\f 11=vi ↑q/\f 12=todo2_v/\f 13=vi (gI todo1 ((todo1.length:Int)-1))/\f 14=vi ↑k/\Sl gq (is 0) w g_v g.2/\Sl gq (is 0) w gone_v gone/\Sl gq (is 0) w cut_v cut/\Bx gq (is 1) w b3 [vi g.1,g_v]/\cY gq 3 w v16 (ar g)/\Ow gq (is 2) (is 2) w v9 c2/\Ow gq (is 4) (is 4) w todo2_v todo2/\(k:Int)<=((List.length (gI (ar g) (gI todo1 ((todo1.length:Int)-1))):Int):Int)/\(fq g (d6 g gone cut) (uF g gone cut) c c2 todo2 n (q:Int) (gI todo1 ((todo1.length:Int)-1)) k (List.length todo1+2*jl c1))) (λ⟨k,todo2_v,todo2,c2,gq⟩=>Int.toNat (((List.length (gI (ar g) (gI todo1 ((todo1.length:Int)-1))):Int):Int)-(k:Int))) (0,(dq todo1_v 1 (Int.toNat 0) (Int.toNat ((todo1.length:Int)-1))),(List.take (Int.toNat ((todo1.length:Int)-1)) todo1),c1,g38) ?_ ?_
   · exact⟨bH,zs1,zs2,zs3,zs8,zs9,zs10,zs11,rfl,rfl,rfl,Rg,Rgone,Rcut,bx5,o17,bx35,r41,by omega,by(have h0:=hdf.row (by omega);rwa[show List.length todo1-1=((todo1.length:Int)-1).toNat by omega] at h0)⟩
   clear Rg Rgone Rcut bx5 o17 bx35 r41 bH
   rintro⟨k,todo2_v,todo2,c2,g44⟩ f42 w43 ⟨bH,zs1,zs2,zs3,zs8,zs9,zs10,zs11,zs12,zs13,zs14,Rg,Rgone,Rcut,bx5,o17,bx35,o_todo2,hle_k,hrow⟩ back14
   have hcl2:=hrow.inv.len
   have htb2:=hrow.inv.bd
   obtain⟨hvd1,hvd2⟩:=hrow.vd
   have hfg:=fE (g:=g) hvd1 hvd2
   refine aa (aa (a8 rfl (mz zs14 (mz zs10 (mz zs13 (lx (ad (v:=v16) (i:=(gI todo1 ((todo1.length:Int)-1))) dd rfl rfl o17.sl rfl (by omega) (by omega)) ?_))))))
   obtain⟨v45,cel46,r47⟩:=bR (r:=(gI todo1 ((todo1.length:Int)-1))) o17 (by omega) (by omega)
   refine lx (bF bN rfl cel46) ?_
   have len48:=(r47.row_sl).small
   refine lx (bq bv rfl r47.row_sl) (lx (bm (m:=↑k) (n:=(List.length (gI (ar g) (gI todo1 ((todo1.length:Int)-1))):Int)) rfl rfl) (ab ?_))
   by_cases p14:(k:Int)<(List.length (gI (ar g) (gI todo1 ((todo1.length:Int)-1))):Int)
   ·
    refine ah rfl (dt p14) ?_
    have hkl:(k:Int)<(bO g (gI todo1 ((todo1.length:Int)-1))).length:=by rw[<-hfg];assumption
    obtain⟨hr1,hr2⟩:=(cQ (br (xs:=bO g (gI todo1 ((todo1.length:Int)-1))) (i:=↑k) (by omega) hkl)).1
    rw[<-hfg] at hr1 hr2
    obtain⟨hto1,hto2⟩:=eV hmay hr1 hr2
    refine aq (aa (ao (aa ?_)))
    clear cel46 r47
    refine dl g44 rfl qP (by kernel_rfl) ?_
    intro w50 ch49
    replace bx5:=bx5.cn ch49
    refine qx (λw' hw'=>aB (ds:=[vi g.1,g_v]) aK zs3 (bx5.bel hw') rfl rfl) (qz zs10 (qz zs13 ?_))
    replace o17:=o17.cn ch49
    refine qx (λw' hw'=>ad (v:=v16) (i:=(gI todo1 ((todo1.length:Int)-1))) dd rfl rfl (o17.sl.bel hw') rfl (by omega) (by omega)) ?_
    obtain⟨v51,cel52,r53⟩:=bR (r:=(gI todo1 ((todo1.length:Int)-1))) o17 (by omega) (by omega)
    refine qx (λw' hw'=>bF bN rfl (eS cel52 hw')) (qz zs14 (qx (λw' hw'=>ad (v:=v51) (i:=↑k) bv rfl rfl (r53.row_sl.bel hw') rfl (by omega) (by omega)) (qx (λw' hw'=>az (v:=v51) (i:=↑k) aj rfl (r53.row_sl.bel hw') (by omega) (by omega) (by decide) rfl) ?_)))
    replace Rg:=Rg.cn ch49
    refine kW (v:=vi (bg g (gI (gI (ar g) (gI todo1 ((todo1.length:Int)-1))) (k:Int)))) rfl (λw' hw'=>aN (vals:=[vg [vi g.1,g_v],vi (gI (gI (ar g) (gI todo1 ((todo1.length:Int)-1))) (k:Int))]) Try.func65 tN u9 rfl) (λw' hw'=>(x8 w' g g_v ((Rg.bel hw')).ro (gI (gI (ar g) (gI todo1 ((todo1.length:Int)-1))) (k:Int)) (by omega) (by omega)).mono λe w2 h2=>⟨h2.1,hw'.trans (h2.2.mono hw'.size)⟩) (qv (vi (bg g (gI (gI (ar g) (gI todo1 ((todo1.length:Int)-1))) (k:Int)))) (λw' hw'=>cE rfl) (f4 ?_))
    intro w54 hc55
    replace hc55:=aS hc55 g44
    refine aa (aa ?_)
    clear cel52 r53
    refine a8 rfl (mz zs8 (mi (bg g (gI (gI (ar g) (gI todo1 ((todo1.length:Int)-1))) (k:Int))) ?_))
    replace bx35:=(bx35.cn ch49).cn hc55
    refine lx (ad (v:=v9) (i:=bg g (gI (gI (ar g) (gI todo1 ((todo1.length:Int)-1))) (k:Int))) bv rfl rfl bx35.flat rfl (by omega) (by omega)) (lx (az (v:=v9) (i:=bg g (gI (gI (ar g) (gI todo1 ((todo1.length:Int)-1))) (k:Int))) aj rfl bx35.flat (by omega) (by omega) (by decide) rfl) (lx (eO (m:=(gI c2 (bg g (gI (gI (ar g) (gI todo1 ((todo1.length:Int)-1))) (k:Int))))) (n:=0) rfl rfl) (mv (vb (decide (0<=(gI c2 (bg g (gI (gI (ar g) (gI todo1 ((todo1.length:Int)-1))) (k:Int))))))) ?_)))
    by_cases q85:0<=(gI c2 (bg g (gI (gI (ar g) (gI todo1 ((todo1.length:Int)-1))) (k:Int))))
    ·
     refine ak (wn (dt q85)) (ak (wn (dt q85)) (ak (wn (dt q85)) (ak (bh rfl rfl rfl) (ak (bh rfl rfl rfl) (ak (bh rfl rfl rfl) (ak (bh rfl rfl rfl) (ak (wn (dt q85)) (lw (vb true) (aO rfl (dt q85) rfl) (mv (vb true) ?_)))))))))
     refine ak (wn rfl) (ak (wn rfl) (ak (wn rfl) (ak (bh rfl rfl rfl) (ak (bh rfl rfl rfl) (ak (bh rfl rfl rfl) (ak (bh rfl rfl rfl) (ak (bh rfl rfl rfl) (ak (bh rfl rfl rfl) (ak (bh rfl rfl rfl) (ak (bh rfl rfl rfl) (ak (bh rfl rfl rfl) ?_)))))))))))
     refine ak (bh rfl rfl rfl) (ak (bh rfl rfl rfl) (ak (wn rfl) (lw (vb true) (aO rfl rfl rfl) (ab (ah rfl rfl (aH rfl (a8 rfl (mz zs14 (lx (aI (m:=↑k) (n:=1) rfl rfl (by omega)) ?_)))))))))
     refine ai ((k:Int)+1) (ab ?_)
     replace bH:=bH.cn ch49
     refine back14 (k+1,todo2_v,todo2,c2,g44) _ _ ⟨bH.cn hc55,zs1,zs2,zs3,zs8,zs9,zs10,zs11,zs12,zs13,rfl,Rg.cn hc55,(Rgone.cn ch49).cn hc55,(Rcut.cn ch49).cn hc55,bx5.cn hc55,o17.cn hc55,bx35,(o_todo2.cn ch49).cn hc55,by omega,?_⟩ ?_
     · show fq g (d6 g gone cut) (uF g gone cut) c c2 todo2 n (q:Int) (gI todo1 ((todo1.length:Int)-1)) (k+1) (List.length todo1+2*jl c1)
       (rw[hfg] at*;exact hrow.skip λhp=>by assumption)
     · show Int.toNat (((List.length (gI (ar g) (gI todo1 ((todo1.length:Int)-1))):Int):Int)-((k+1):Int))<Int.toNat (((List.length (gI (ar g) (gI todo1 ((todo1.length:Int)-1))):Int):Int)-(k:Int))
       omega
    refine lv (gone_v) (wy (df q85)) (au zs1) ?_
    replace Rgone:=(Rgone.cn ch49).cn hc55
    refine lv (vb (qA gone_v)) (wy (df q85)) (iH gj Rgone rfl rfl) (lv (vb (qA gone_v)) (wy (df q85)) (au rfl) ?_)
    by_cases q88:qA gone_v=true
    ·
     refine lv (gone_v) (wy q88) (au zs1) (lv (vi (bg g (gI (gI (ar g) (gI todo1 ((todo1.length:Int)-1))) (k:Int)))) (wy q88) (au rfl) (lv (Value.pointer (some (bA gone_v 1 (Int.toNat (bg g (gI (gI (ar g) (gI todo1 ((todo1.length:Int)-1))) (k:Int))))))) (wy q88) (ad (α:=Bool) (xs:=gone) (v:=gone_v) (i:=bg g (gI (gI (ar g) (gI todo1 ((todo1.length:Int)-1))) (k:Int))) gj rfl rfl Rgone rfl (by(have:=hgo ‹_›;omega)) (by(have:=hgo ‹_›;omega))) ?_))
     refine lv (vb (gI gone (bg g (gI (gI (ar g) (gI todo1 ((todo1.length:Int)-1))) (k:Int))))) (wy q88) (az (α:=Bool) (xs:=gone) (v:=gone_v) (i:=bg g (gI (gI (ar g) (gI todo1 ((todo1.length:Int)-1))) (k:Int))) cO rfl Rgone (by(have:=hgo ‹_›;omega)) (by(have:=hgo ‹_›;omega)) (by decide) rfl) (lv (vb (gI gone (bg g (gI (gI (ar g) (gI todo1 ((todo1.length:Int)-1))) (k:Int))))) (wy (df q85)) (aO rfl q88 rfl) (lw (vb (gI gone (bg g (gI (gI (ar g) (gI todo1 ((todo1.length:Int)-1))) (k:Int))))) (aP rfl (df q85) rfl) (mv (vb (gI gone (bg g (gI (gI (ar g) (gI todo1 ((todo1.length:Int)-1))) (k:Int))))) ?_)))
     by_cases q95:(gI gone (bg g (gI (gI (ar g) (gI todo1 ((todo1.length:Int)-1))) (k:Int))))=true
     ·
      refine ak (wn q95) (ak (wn q95) (ak (wn q95) (ak (bh rfl rfl rfl) (ak (bh rfl rfl rfl) (ak (bh rfl rfl rfl) (ak (bh rfl rfl rfl) (ak (bh rfl rfl rfl) (ak (bh rfl rfl rfl) (ak (bh rfl rfl rfl) (ak (bh rfl rfl rfl) (ak (bh rfl rfl rfl) ?_)))))))))))
      refine ak (bh rfl rfl rfl) (ak (bh rfl rfl rfl) (ak (wn q95) (lw (vb true) (aO rfl q95 rfl) (ab (ah rfl rfl (aH rfl (a8 rfl (mz zs14 (lx (aI (m:=↑k) (n:=1) rfl rfl (by omega)) ?_)))))))))
      refine ai ((k:Int)+1) (ab ?_)
      replace bH:=bH.cn ch49
      refine back14 (k+1,todo2_v,todo2,c2,g44) _ _ ⟨bH.cn hc55,zs1,zs2,zs3,zs8,zs9,zs10,zs11,zs12,zs13,rfl,Rg.cn hc55,Rgone,(Rcut.cn ch49).cn hc55,bx5.cn hc55,o17.cn hc55,bx35,(o_todo2.cn ch49).cn hc55,by omega,?_⟩ ?_
      · show fq g (d6 g gone cut) (uF g gone cut) c c2 todo2 n (q:Int) (gI todo1 ((todo1.length:Int)-1)) (k+1) (List.length todo1+2*jl c1)
        (rw[hfg] at*;exact hrow.skip λhp=>absurd ‹_› hp.2.1)
      · show Int.toNat (((List.length (gI (ar g) (gI todo1 ((todo1.length:Int)-1))):Int):Int)-((k+1):Int))<Int.toNat (((List.length (gI (ar g) (gI todo1 ((todo1.length:Int)-1))):Int):Int)-(k:Int))
        omega
     refine lv (cut_v) (wy (Bool.eq_false_iff.2 q95)) (au zs2) ?_
     replace Rcut:=(Rcut.cn ch49).cn hc55
     refine lv (vb (qA cut_v)) (wy (Bool.eq_false_iff.2 q95)) (iH gj Rcut rfl rfl) (lv (vb (qA cut_v)) (wy (Bool.eq_false_iff.2 q95)) (au rfl) ?_)
     by_cases q98:qA cut_v=true
     ·
      refine lv (cut_v) (wy q98) (au zs2) (lv (v16) (wy q98) (au zs10) (lv (vi (gI todo1 ((todo1.length:Int)-1))) (wy q98) (au zs13) ?_))
      replace o17:=o17.cn hc55
      refine lv (Value.pointer (some (bA v16 1 (Int.toNat (gI todo1 ((todo1.length:Int)-1)))))) (wy q98) (ad (α:=List Int) (xs:=ar g) (v:=v16) (i:=(gI todo1 ((todo1.length:Int)-1))) dd rfl rfl o17.sl rfl (by omega) (by omega)) ?_
      obtain⟨v56,cel57,r58⟩:=bR (r:=(gI todo1 ((todo1.length:Int)-1))) o17 (by omega) (by omega)
      refine lv (v56) (wy q98) (bF bN rfl cel57) (lv (vi ↑k) (wy q98) (au zs14) (lv (Value.pointer (some (bA v56 1 (Int.toNat ↑k)))) (wy q98) (ad (α:=Int) (xs:=gI (ar g) (gI todo1 ((todo1.length:Int)-1))) (v:=v56) (i:=↑k) bv rfl rfl r58.row_sl rfl (by omega) (by omega)) (lv (vi (gI (gI (ar g) (gI todo1 ((todo1.length:Int)-1))) (k:Int))) (wy q98) (az (α:=Int) (xs:=gI (ar g) (gI todo1 ((todo1.length:Int)-1))) (v:=v56) (i:=↑k) aj rfl r58.row_sl (by omega) (by omega) (by decide) rfl) ?_)))
      refine lv (vi ((gI (gI (ar g) (gI todo1 ((todo1.length:Int)-1))) (k:Int))/2)) (wy q98) (gS (m:=(gI (gI (ar g) (gI todo1 ((todo1.length:Int)-1))) (k:Int))) (n:=2) rfl rfl (by omega) (by omega) (by omega)) (lv (Value.pointer (some (bA cut_v 1 (Int.toNat ((gI (gI (ar g) (gI todo1 ((todo1.length:Int)-1))) (k:Int))/2))))) (wy q98) (ad (α:=Bool) (xs:=cut) (v:=cut_v) (i:=(gI (gI (ar g) (gI todo1 ((todo1.length:Int)-1))) (k:Int))/2) gj rfl rfl Rcut rfl (by(have:=hcu ‹_›;omega)) (by(have:=hcu ‹_›;omega))) ?_)
      refine lv (vb (gI cut ((gI (gI (ar g) (gI todo1 ((todo1.length:Int)-1))) (k:Int))/2))) (wy q98) (az (α:=Bool) (xs:=cut) (v:=cut_v) (i:=(gI (gI (ar g) (gI todo1 ((todo1.length:Int)-1))) (k:Int))/2) cO rfl Rcut (by(have:=hcu ‹_›;omega)) (by(have:=hcu ‹_›;omega)) (by decide) rfl) (lv (vb (gI cut ((gI (gI (ar g) (gI todo1 ((todo1.length:Int)-1))) (k:Int))/2))) (wy (Bool.eq_false_iff.2 q95)) (aO rfl q98 rfl) (lw (vb (gI cut ((gI (gI (ar g) (gI todo1 ((todo1.length:Int)-1))) (k:Int))/2))) (aP rfl (Bool.eq_false_iff.2 q95) rfl) (ab ?_)))
      by_cases p17:(gI cut ((gI (gI (ar g) (gI todo1 ((todo1.length:Int)-1))) (k:Int))/2))=true
      ·
       refine ah rfl p17 (aH rfl ?_)
       clear cel57 r58
       refine a8 rfl (mz zs14 (lx (aI (m:=↑k) (n:=1) rfl rfl (by omega)) (ai ((k:Int)+1) (ab ?_))))
       replace bH:=bH.cn ch49
       refine back14 (k+1,todo2_v,todo2,c2,g44) _ _ ⟨bH.cn hc55,zs1,zs2,zs3,zs8,zs9,zs10,zs11,zs12,zs13,rfl,Rg.cn hc55,Rgone,Rcut,bx5.cn hc55,o17,bx35,(o_todo2.cn ch49).cn hc55,by omega,?_⟩ ?_
       · show fq g (d6 g gone cut) (uF g gone cut) c c2 todo2 n (q:Int) (gI todo1 ((todo1.length:Int)-1)) (k+1) (List.length todo1+2*jl c1)
         (rw[hfg] at*;exact hrow.skip λhp=>absurd ‹_› hp.2.2)
       · show Int.toNat (((List.length (gI (ar g) (gI todo1 ((todo1.length:Int)-1))):Int):Int)-((k+1):Int))<Int.toNat (((List.length (gI (ar g) (gI todo1 ((todo1.length:Int)-1))):Int):Int)-(k:Int))
         omega
      refine ag rfl (Bool.eq_false_iff.2 p17) (aq (aa ?_))
      clear cel57 r58
      refine a8 rfl (mz zs8 (mi (bg g (gI (gI (ar g) (gI todo1 ((todo1.length:Int)-1))) (k:Int))) (mz zs9 (lx (ad (v:=v9) (i:=bg g (gI (gI (ar g) (gI todo1 ((todo1.length:Int)-1))) (k:Int))) bv rfl rfl bx35.flat rfl (by omega) (by omega)) (lo (aQ (i:=bg g (gI (gI (ar g) (gI todo1 ((todo1.length:Int)-1))) (k:Int))) (n:Int) aj rfl rfl bx35 (by omega) (by omega) rfl ?_))))))
      intro w59 ch60 bx61
      clear bx35
      refine ab (a8 rfl (mz zs12 (mi (bg g (gI (gI (ar g) (gI todo1 ((todo1.length:Int)-1))) (k:Int))) (lo (aC (α:=Int) g44 (is 5) (is 5) (5,0) rfl [bg g (gI (gI (ar g) (gI todo1 ((todo1.length:Int)-1))) (k:Int))] bv aj (by decide) (by decide) (vs:=[(0,vi (bg g (gI (gI (ar g) (gI todo1 ((todo1.length:Int)-1))) (k:Int))))]) rfl rfl (.cons rfl .nil) ?_)))))
      intro g62 w63 v64 ch65 o66
      refine lo ?_
      have C67:=cg [2] (ch49.n.seq (hc55.n.seq ((ch60.l rfl).seq ch65.n)))
      replace o_todo2:=o_todo2.ca C67
      refine bf (α:=Int) (xs:=todo2) (ys:=([bg g (gI (gI (ar g) (gI todo1 ((todo1.length:Int)-1))) (k:Int))])) g62 (J:=is 4) (S:=is 4) (4,0) rfl bv aj (by decide) rfl rfl rfl o_todo2 o66.flat (by decide) (by(simp;omega)) ?_
      intro g68 w69 v70 ch71 o72
      clear o_todo2
      refine ma v70 (ab (am ?_))
      clear o66
      refine a8 rfl (mz zs14 (lx (aI (m:=↑k) (n:=1) rfl rfl (by omega)) (ai ((k:Int)+1) (ab ?_))))
      have C75:=cg [2,4] ((ch60.l rfl).seq (ch65.n.seq (ch71.l rfl)))
      have C74:=hc55.n.seq C75
      have C73:=ch49.n.seq C74
      refine back14 (k+1,v70,(todo2++[bg g (gI (gI (ar g) (gI todo1 ((todo1.length:Int)-1))) (k:Int))]),(List.set c2 (Int.toNat (bg g (gI (gI (ar g) (gI todo1 ((todo1.length:Int)-1))) (k:Int)))) (n:Int)),g68) _ _ ⟨bH.ca C73,zs1,zs2,zs3,zs8,zs9,zs10,zs11,rfl,zs13,rfl,Rg.ca C74,Rgone.ca C75,Rcut.ca C75,bx5.ca C74,o17.ca C75,(bx61.cn ch65).ce ch71,o72,by omega,?_⟩ ?_
      · show fq g (d6 g gone cut) (uF g gone cut) c (List.set c2 (Int.toNat (bg g (gI (gI (ar g) (gI todo1 ((todo1.length:Int)-1))) (k:Int)))) (n:Int)) (todo2++[bg g (gI (gI (ar g) (gI todo1 ((todo1.length:Int)-1))) (k:Int))]) n (q:Int) (gI todo1 ((todo1.length:Int)-1)) (k+1) (List.length todo1+2*jl c1)
        (rw[hfg] at*;exact hrow.push hP hkl (hrow.psg hmay (by(assumption)) hkl (by(assumption)) (by(assumption))) ‹_›)
      · show Int.toNat (((List.length (gI (ar g) (gI todo1 ((todo1.length:Int)-1))):Int):Int)-((k+1):Int))<Int.toNat (((List.length (gI (ar g) (gI todo1 ((todo1.length:Int)-1))):Int):Int)-(k:Int))
        omega
     refine ak (wn (Bool.eq_false_iff.2 q98)) (ak (wn (Bool.eq_false_iff.2 q98)) (ak (wn (Bool.eq_false_iff.2 q98)) (ak (wn (Bool.eq_false_iff.2 q98)) (ak (wn (Bool.eq_false_iff.2 q98)) (ak (wn (Bool.eq_false_iff.2 q98)) (ak (wn (Bool.eq_false_iff.2 q98)) (ak (wn (Bool.eq_false_iff.2 q98)) (ak (wn (Bool.eq_false_iff.2 q98)) (ak (wn (Bool.eq_false_iff.2 q98)) ?_)))))))))
     refine ak (wn (Bool.eq_false_iff.2 q98)) (lv (vb false) (wy (Bool.eq_false_iff.2 q95)) (aP rfl (Bool.eq_false_iff.2 q98) rfl) (lw (vb false) (aP rfl (Bool.eq_false_iff.2 q95) rfl) (ab (ag rfl rfl (aq (aa (a8 rfl (mz zs8 (mi (bg g (gI (gI (ar g) (gI todo1 ((todo1.length:Int)-1))) (k:Int))) (mz zs9 ?_))))))))))
     refine lx (ad (v:=v9) (i:=bg g (gI (gI (ar g) (gI todo1 ((todo1.length:Int)-1))) (k:Int))) bv rfl rfl bx35.flat rfl (by omega) (by omega)) (lo (aQ (i:=bg g (gI (gI (ar g) (gI todo1 ((todo1.length:Int)-1))) (k:Int))) (n:Int) aj rfl rfl bx35 (by omega) (by omega) rfl ?_))
     intro w76 ch77 bx78
     clear bx35
     refine ab (a8 rfl (mz zs12 (mi (bg g (gI (gI (ar g) (gI todo1 ((todo1.length:Int)-1))) (k:Int))) (lo (aC (α:=Int) g44 (is 5) (is 5) (5,0) rfl [bg g (gI (gI (ar g) (gI todo1 ((todo1.length:Int)-1))) (k:Int))] bv aj (by decide) (by decide) (vs:=[(0,vi (bg g (gI (gI (ar g) (gI todo1 ((todo1.length:Int)-1))) (k:Int))))]) rfl rfl (.cons rfl .nil) ?_)))))
     intro g79 w80 v81 ch82 o83
     refine lo ?_
     have C84:=cg [2] (ch49.n.seq (hc55.n.seq ((ch77.l rfl).seq ch82.n)))
     replace o_todo2:=o_todo2.ca C84
     refine bf (α:=Int) (xs:=todo2) (ys:=([bg g (gI (gI (ar g) (gI todo1 ((todo1.length:Int)-1))) (k:Int))])) g79 (J:=is 4) (S:=is 4) (4,0) rfl bv aj (by decide) rfl rfl rfl o_todo2 o83.flat (by decide) (by(simp;omega)) ?_
     intro g85 w86 v87 ch88 o89
     clear o_todo2
     refine ma v87 (ab (am ?_))
     clear o83
     refine a8 rfl (mz zs14 (lx (aI (m:=↑k) (n:=1) rfl rfl (by omega)) (ai ((k:Int)+1) (ab ?_))))
     have C92:=cg [2,4] ((ch77.l rfl).seq (ch82.n.seq (ch88.l rfl)))
     have C91:=hc55.n.seq C92
     have C90:=ch49.n.seq C91
     refine back14 (k+1,v87,(todo2++[bg g (gI (gI (ar g) (gI todo1 ((todo1.length:Int)-1))) (k:Int))]),(List.set c2 (Int.toNat (bg g (gI (gI (ar g) (gI todo1 ((todo1.length:Int)-1))) (k:Int)))) (n:Int)),g85) _ _ ⟨bH.ca C90,zs1,zs2,zs3,zs8,zs9,zs10,zs11,rfl,zs13,rfl,Rg.ca C91,Rgone.ca C92,Rcut.ca C92,bx5.ca C91,o17.ca C91,(bx78.cn ch82).ce ch88,o89,by omega,?_⟩ ?_
     · show fq g (d6 g gone cut) (uF g gone cut) c (List.set c2 (Int.toNat (bg g (gI (gI (ar g) (gI todo1 ((todo1.length:Int)-1))) (k:Int)))) (n:Int)) (todo2++[bg g (gI (gI (ar g) (gI todo1 ((todo1.length:Int)-1))) (k:Int))]) n (q:Int) (gI todo1 ((todo1.length:Int)-1)) (k+1) (List.length todo1+2*jl c1)
       (rw[hfg] at*;exact hrow.push hP hkl (hrow.psg hmay (by(assumption)) hkl (by(assumption)) (by(exact ra hcu0 ‹_›))) ‹_›)
     · show Int.toNat (((List.length (gI (ar g) (gI todo1 ((todo1.length:Int)-1))):Int):Int)-((k+1):Int))<Int.toNat (((List.length (gI (ar g) (gI todo1 ((todo1.length:Int)-1))):Int):Int)-(k:Int))
       omega
    refine ak (wn (Bool.eq_false_iff.2 q88)) (ak (wn (Bool.eq_false_iff.2 q88)) (ak (wn (Bool.eq_false_iff.2 q88)) (ak (wn (Bool.eq_false_iff.2 q88)) (lv (vb false) (wy (df q85)) (aP rfl (Bool.eq_false_iff.2 q88) rfl) (lw (vb false) (aP rfl (df q85) rfl) (mv (vb false) (lv (cut_v) (wy rfl) (au zs2) ?_)))))))
    replace Rcut:=(Rcut.cn ch49).cn hc55
    refine lv (vb (qA cut_v)) (wy rfl) (iH gj Rcut rfl rfl) (lv (vb (qA cut_v)) (wy rfl) (au rfl) ?_)
    by_cases q98:qA cut_v=true
    ·
     refine lv (cut_v) (wy q98) (au zs2) (lv (v16) (wy q98) (au zs10) (lv (vi (gI todo1 ((todo1.length:Int)-1))) (wy q98) (au zs13) ?_))
     replace o17:=o17.cn hc55
     refine lv (Value.pointer (some (bA v16 1 (Int.toNat (gI todo1 ((todo1.length:Int)-1)))))) (wy q98) (ad (α:=List Int) (xs:=ar g) (v:=v16) (i:=(gI todo1 ((todo1.length:Int)-1))) dd rfl rfl o17.sl rfl (by omega) (by omega)) ?_
     obtain⟨v93,cel94,r95⟩:=bR (r:=(gI todo1 ((todo1.length:Int)-1))) o17 (by omega) (by omega)
     refine lv (v93) (wy q98) (bF bN rfl cel94) (lv (vi ↑k) (wy q98) (au zs14) (lv (Value.pointer (some (bA v93 1 (Int.toNat ↑k)))) (wy q98) (ad (α:=Int) (xs:=gI (ar g) (gI todo1 ((todo1.length:Int)-1))) (v:=v93) (i:=↑k) bv rfl rfl r95.row_sl rfl (by omega) (by omega)) (lv (vi (gI (gI (ar g) (gI todo1 ((todo1.length:Int)-1))) (k:Int))) (wy q98) (az (α:=Int) (xs:=gI (ar g) (gI todo1 ((todo1.length:Int)-1))) (v:=v93) (i:=↑k) aj rfl r95.row_sl (by omega) (by omega) (by decide) rfl) ?_)))
     refine lv (vi ((gI (gI (ar g) (gI todo1 ((todo1.length:Int)-1))) (k:Int))/2)) (wy q98) (gS (m:=(gI (gI (ar g) (gI todo1 ((todo1.length:Int)-1))) (k:Int))) (n:=2) rfl rfl (by omega) (by omega) (by omega)) (lv (Value.pointer (some (bA cut_v 1 (Int.toNat ((gI (gI (ar g) (gI todo1 ((todo1.length:Int)-1))) (k:Int))/2))))) (wy q98) (ad (α:=Bool) (xs:=cut) (v:=cut_v) (i:=(gI (gI (ar g) (gI todo1 ((todo1.length:Int)-1))) (k:Int))/2) gj rfl rfl Rcut rfl (by(have:=hcu ‹_›;omega)) (by(have:=hcu ‹_›;omega))) ?_)
     refine lv (vb (gI cut ((gI (gI (ar g) (gI todo1 ((todo1.length:Int)-1))) (k:Int))/2))) (wy q98) (az (α:=Bool) (xs:=cut) (v:=cut_v) (i:=(gI (gI (ar g) (gI todo1 ((todo1.length:Int)-1))) (k:Int))/2) cO rfl Rcut (by(have:=hcu ‹_›;omega)) (by(have:=hcu ‹_›;omega)) (by decide) rfl) (lv (vb (gI cut ((gI (gI (ar g) (gI todo1 ((todo1.length:Int)-1))) (k:Int))/2))) (wy rfl) (aO rfl q98 rfl) (lw (vb (gI cut ((gI (gI (ar g) (gI todo1 ((todo1.length:Int)-1))) (k:Int))/2))) (aP rfl rfl rfl) (ab ?_)))
     by_cases p17:(gI cut ((gI (gI (ar g) (gI todo1 ((todo1.length:Int)-1))) (k:Int))/2))=true
     ·
      refine ah rfl p17 (aH rfl ?_)
      clear cel94 r95
      refine a8 rfl (mz zs14 (lx (aI (m:=↑k) (n:=1) rfl rfl (by omega)) (ai ((k:Int)+1) (ab ?_))))
      replace bH:=bH.cn ch49
      refine back14 (k+1,todo2_v,todo2,c2,g44) _ _ ⟨bH.cn hc55,zs1,zs2,zs3,zs8,zs9,zs10,zs11,zs12,zs13,rfl,Rg.cn hc55,Rgone,Rcut,bx5.cn hc55,o17,bx35,(o_todo2.cn ch49).cn hc55,by omega,?_⟩ ?_
      · show fq g (d6 g gone cut) (uF g gone cut) c c2 todo2 n (q:Int) (gI todo1 ((todo1.length:Int)-1)) (k+1) (List.length todo1+2*jl c1)
        (rw[hfg] at*;exact hrow.skip λhp=>absurd ‹_› hp.2.2)
      · show Int.toNat (((List.length (gI (ar g) (gI todo1 ((todo1.length:Int)-1))):Int):Int)-((k+1):Int))<Int.toNat (((List.length (gI (ar g) (gI todo1 ((todo1.length:Int)-1))):Int):Int)-(k:Int))
        omega
     refine ag rfl (Bool.eq_false_iff.2 p17) (aq (aa ?_))
     clear cel94 r95
     refine a8 rfl (mz zs8 (mi (bg g (gI (gI (ar g) (gI todo1 ((todo1.length:Int)-1))) (k:Int))) (mz zs9 (lx (ad (v:=v9) (i:=bg g (gI (gI (ar g) (gI todo1 ((todo1.length:Int)-1))) (k:Int))) bv rfl rfl bx35.flat rfl (by omega) (by omega)) (lo (aQ (i:=bg g (gI (gI (ar g) (gI todo1 ((todo1.length:Int)-1))) (k:Int))) (n:Int) aj rfl rfl bx35 (by omega) (by omega) rfl ?_))))))
     intro w96 ch97 bx98
     clear bx35
     refine ab (a8 rfl (mz zs12 (mi (bg g (gI (gI (ar g) (gI todo1 ((todo1.length:Int)-1))) (k:Int))) (lo (aC (α:=Int) g44 (is 5) (is 5) (5,0) rfl [bg g (gI (gI (ar g) (gI todo1 ((todo1.length:Int)-1))) (k:Int))] bv aj (by decide) (by decide) (vs:=[(0,vi (bg g (gI (gI (ar g) (gI todo1 ((todo1.length:Int)-1))) (k:Int))))]) rfl rfl (.cons rfl .nil) ?_)))))
     intro g99 w100 v101 ch102 o103
     refine lo ?_
     have C104:=cg [2] (ch49.n.seq (hc55.n.seq ((ch97.l rfl).seq ch102.n)))
     replace o_todo2:=o_todo2.ca C104
     refine bf (α:=Int) (xs:=todo2) (ys:=([bg g (gI (gI (ar g) (gI todo1 ((todo1.length:Int)-1))) (k:Int))])) g99 (J:=is 4) (S:=is 4) (4,0) rfl bv aj (by decide) rfl rfl rfl o_todo2 o103.flat (by decide) (by(simp;omega)) ?_
     intro g105 w106 v107 ch108 o109
     clear o_todo2
     refine ma v107 (ab (am ?_))
     clear o103
     refine a8 rfl (mz zs14 (lx (aI (m:=↑k) (n:=1) rfl rfl (by omega)) (ai ((k:Int)+1) (ab ?_))))
     have C112:=cg [2,4] ((ch97.l rfl).seq (ch102.n.seq (ch108.l rfl)))
     have C111:=hc55.n.seq C112
     have C110:=ch49.n.seq C111
     refine back14 (k+1,v107,(todo2++[bg g (gI (gI (ar g) (gI todo1 ((todo1.length:Int)-1))) (k:Int))]),(List.set c2 (Int.toNat (bg g (gI (gI (ar g) (gI todo1 ((todo1.length:Int)-1))) (k:Int)))) (n:Int)),g105) _ _ ⟨bH.ca C110,zs1,zs2,zs3,zs8,zs9,zs10,zs11,rfl,zs13,rfl,Rg.ca C111,Rgone.ca C112,Rcut.ca C112,bx5.ca C111,o17.ca C112,(bx98.cn ch102).ce ch108,o109,by omega,?_⟩ ?_
     · show fq g (d6 g gone cut) (uF g gone cut) c (List.set c2 (Int.toNat (bg g (gI (gI (ar g) (gI todo1 ((todo1.length:Int)-1))) (k:Int)))) (n:Int)) (todo2++[bg g (gI (gI (ar g) (gI todo1 ((todo1.length:Int)-1))) (k:Int))]) n (q:Int) (gI todo1 ((todo1.length:Int)-1)) (k+1) (List.length todo1+2*jl c1)
       (rw[hfg] at*;exact hrow.push hP hkl (hrow.psg hmay (by(assumption)) hkl (by(exact ra hgo0 ‹_›)) (by(assumption))) ‹_›)
     · show Int.toNat (((List.length (gI (ar g) (gI todo1 ((todo1.length:Int)-1))):Int):Int)-((k+1):Int))<Int.toNat (((List.length (gI (ar g) (gI todo1 ((todo1.length:Int)-1))):Int):Int)-(k:Int))
       omega
    refine ak (wn (Bool.eq_false_iff.2 q98)) (ak (wn (Bool.eq_false_iff.2 q98)) (ak (wn (Bool.eq_false_iff.2 q98)) (ak (wn (Bool.eq_false_iff.2 q98)) (ak (wn (Bool.eq_false_iff.2 q98)) (ak (wn (Bool.eq_false_iff.2 q98)) (ak (wn (Bool.eq_false_iff.2 q98)) (ak (wn (Bool.eq_false_iff.2 q98)) (ak (wn (Bool.eq_false_iff.2 q98)) (ak (wn (Bool.eq_false_iff.2 q98)) ?_)))))))))
    refine ak (wn (Bool.eq_false_iff.2 q98)) (lv (vb false) (wy rfl) (aP rfl (Bool.eq_false_iff.2 q98) rfl) (lw (vb false) (aP rfl rfl rfl) (ab (ag rfl rfl (aq (aa (a8 rfl (mz zs8 (mi (bg g (gI (gI (ar g) (gI todo1 ((todo1.length:Int)-1))) (k:Int))) (mz zs9 ?_))))))))))
    refine lx (ad (v:=v9) (i:=bg g (gI (gI (ar g) (gI todo1 ((todo1.length:Int)-1))) (k:Int))) bv rfl rfl bx35.flat rfl (by omega) (by omega)) (lo (aQ (i:=bg g (gI (gI (ar g) (gI todo1 ((todo1.length:Int)-1))) (k:Int))) (n:Int) aj rfl rfl bx35 (by omega) (by omega) rfl ?_))
    intro w113 ch114 bx115
    clear bx35
    refine ab (a8 rfl (mz zs12 (mi (bg g (gI (gI (ar g) (gI todo1 ((todo1.length:Int)-1))) (k:Int))) (lo (aC (α:=Int) g44 (is 5) (is 5) (5,0) rfl [bg g (gI (gI (ar g) (gI todo1 ((todo1.length:Int)-1))) (k:Int))] bv aj (by decide) (by decide) (vs:=[(0,vi (bg g (gI (gI (ar g) (gI todo1 ((todo1.length:Int)-1))) (k:Int))))]) rfl rfl (.cons rfl .nil) ?_)))))
    intro g116 w117 v118 ch119 o120
    refine lo ?_
    have C121:=cg [2] (ch49.n.seq (hc55.n.seq ((ch114.l rfl).seq ch119.n)))
    replace o_todo2:=o_todo2.ca C121
    refine bf (α:=Int) (xs:=todo2) (ys:=([bg g (gI (gI (ar g) (gI todo1 ((todo1.length:Int)-1))) (k:Int))])) g116 (J:=is 4) (S:=is 4) (4,0) rfl bv aj (by decide) rfl rfl rfl o_todo2 o120.flat (by decide) (by(simp;omega)) ?_
    intro g122 w123 v124 ch125 o126
    clear o_todo2
    refine ma v124 (ab (am ?_))
    clear o120
    refine a8 rfl (mz zs14 (lx (aI (m:=↑k) (n:=1) rfl rfl (by omega)) (ai ((k:Int)+1) (ab ?_))))
    have C129:=cg [2,4] ((ch114.l rfl).seq (ch119.n.seq (ch125.l rfl)))
    have C128:=hc55.n.seq C129
    have C127:=ch49.n.seq C128
    refine back14 (k+1,v124,(todo2++[bg g (gI (gI (ar g) (gI todo1 ((todo1.length:Int)-1))) (k:Int))]),(List.set c2 (Int.toNat (bg g (gI (gI (ar g) (gI todo1 ((todo1.length:Int)-1))) (k:Int)))) (n:Int)),g122) _ _ ⟨bH.ca C127,zs1,zs2,zs3,zs8,zs9,zs10,zs11,rfl,zs13,rfl,Rg.ca C128,Rgone.ca C129,Rcut.ca C129,bx5.ca C128,o17.ca C128,(bx115.cn ch119).ce ch125,o126,by omega,?_⟩ ?_
    · show fq g (d6 g gone cut) (uF g gone cut) c (List.set c2 (Int.toNat (bg g (gI (gI (ar g) (gI todo1 ((todo1.length:Int)-1))) (k:Int)))) (n:Int)) (todo2++[bg g (gI (gI (ar g) (gI todo1 ((todo1.length:Int)-1))) (k:Int))]) n (q:Int) (gI todo1 ((todo1.length:Int)-1)) (k+1) (List.length todo1+2*jl c1)
      (rw[hfg] at*;exact hrow.push hP hkl (hrow.psg hmay (by(assumption)) hkl (by(exact ra hgo0 ‹_›)) (by(exact ra hcu0 ‹_›))) ‹_›)
    · show Int.toNat (((List.length (gI (ar g) (gI todo1 ((todo1.length:Int)-1))):Int):Int)-((k+1):Int))<Int.toNat (((List.length (gI (ar g) (gI todo1 ((todo1.length:Int)-1))):Int):Int)-(k:Int))
      omega
   refine ag rfl (df p14) (aH rfl (am ?_))
   refine back10 (todo2_v,todo2,c2,g44) _ _ ⟨bH,zs1,zs2,zs3,zs8,zs9,zs10,zs11,zs12,Rg,Rgone,Rcut,bx5,o17,bx35,o_todo2,?_⟩ ?_
   · show fD g (d6 g gone cut) (uF g gone cut) c c2 todo2 [] n (q:Int)
     exact hrow.done (by rw[<-hfg];assumption)
   · show List.length todo2+2*jl c2<List.length todo1+2*jl c1
     (have h1:=hrow.meas;omega)
  refine ag rfl (df p10) (aH rfl ?_)
  clear o_todo1
  refine a8 rfl (mz zs9 (lx (aI (m:=↑n) (n:=1) rfl rfl (by omega)) (ai ((n:Int)+1) (ab (am (a8 rfl (mz zs11 (lx (aI (m:=↑q) (n:=1) rfl rfl (by omega)) (ai ((q:Int)+1) ?_)))))))))
  refine ab ?_
  refine back5 (n+1,q+1,c1,g38) _ _ ⟨bH,zs1,zs2,zs3,zs8,rfl,zs10,rfl,Rg,Rgone,Rcut,bx5,bx35,o17,by omega,?_⟩ ?_
  · show c1=(bJ (d6 g gone cut) gone (q+1)).1/\(n+1)=(bJ (d6 g gone cut) gone (q+1)).2
    exact hdf.done hP (by omega) hinv ‹_› (by(assumption))
  · show Int.toNat ((g.1:Int)-((q+1):Int))<Int.toNat ((g.1:Int)-(q:Int))
    omega
 refine ag rfl (df p5) (aH rfl (aa ?_))
 clear bx5 o17
 refine a8 rfl (mz zs8 (mz zs9 (ma v9 (ai (n:Int) (ab (aD (vs:=[v9,vi ↑n]) Try.func42 (.tmp rfl (.tmp rfl .nil)) ?_))))))
 have e0:(c:List Int)=((aU g gone cut).1):=by
   exact(mW hmay (by omega) hinv).1
 have e1:((n:Int):Int)=((aU g gone cut).2):=by
   exact(mW hmay (by omega) hinv).2
 exact⟨(fin w0 g23 (λn=>if n=2 then 1 else 0),v9),(cT (a:=c) (b:=(n:Int)) (λ(z0:List Int) (z1:Int)=>Ending.returned (vt [v9,vi z1])) e0 e1),bH.fresh _,(e0▸(o10.glue (γ:=c0) (ren:=(λn=>if n=2 then 1 else 0)) (k:=1) bH.col rfl rfl))⟩
end TL
