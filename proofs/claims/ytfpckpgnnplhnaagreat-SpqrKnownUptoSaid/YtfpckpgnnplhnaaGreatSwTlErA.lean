import Derived.Test.YtfpckpgnnplhnaaGreatSwTlGmA
import Derived.Test.YtfpckpgnnplhnaaGreatSwTlGenA
import Derived.Test.YtfpckpgnnplhnaaGreatSwTlAli
set_option linter.all false
set_option maxRecDepth 20000
namespace TL
open Go Go.Proofs
theorem qD:Tryz.prog.follows .mixedOrders=true:=by kernel_rfl
theorem eR:Tp Tryz.prog 38 false 1 24 (.slice none 0 0):=Tp.of (by kernel_rfl)
theorem Be:Tryz.f52.body.isNone=false:=rfl
theorem Bc:(Tryz.f52.name== "runtime.NumGoroutine")=false:=by decide+kernel
theorem BT:Tryz.f53.body.isNone=false:=rfl
theorem C1:(Tryz.f53.name== "runtime.NumGoroutine")=false:=by decide+kernel
theorem CE:Tryz.f54.body.isNone=false:=rfl
theorem Bk:(Tryz.f54.name== "runtime.NumGoroutine")=false:=by decide+kernel
theorem lh:Tryz.f80.body.isNone=false:=rfl
theorem kS:(Tryz.f80.name== "runtime.NumGoroutine")=false:=by decide+kernel
theorem l7(w0:World)(g:(Int)×(List Pt))(g_v:Value)(hg_v:Ro w0 g_v g.2)(h:Int)(hh:0<=h/\h<2*(g.2.length:Int))(hlen:g.2.length<=1000000):
    Calls Tryz.prog 80 #[vg [vi g.1,g_v],vi h] w0 (λee w=>ee= .returned (vi (bf g h))/\eK w0.heap.size w0 w):=by
 refine ah Tryz.func80 rfl nq ?_
 have bH:=aW.start w0
 have Rg:=hg_v.sl
 obtain⟨hh1,hh2⟩:=hh
 refine a7 (a6 rfl (cy rfl (bU c0 (is 1) (1,0) rfl rfl ?_)))
 intro g4 w1 b3 ch2 bx5
 refine ai 0 (ab (a7 (a6 rfl (lx (aa dK rfl rfl rfl rfl) (lx (a8 bM rfl bx5 rfl) (mi h (lx (kh (m:=h) (n:=2) rfl rfl (by omega) (by omega) (by omega)) (mi h (lx (nc (m:=h) (n:=2) rfl rfl (by omega) (by omega)) ?_)))))))))
 refine lx (ad (v:=g_v) (i:=h/2) eG rfl rfl Rg.t rfl (by omega) (by omega)) (lx (d3 (i:=h%2) eS rfl rfl rfl (by omega) (by omega) (Nat.mul_one _)) (lx (dH (v:=g_v) (i:=h/2) ap rfl Rg.t (by omega) (by omega) (show Int.toNat (h%2)<2 by omega) (gU _ (by omega) (by omega))) (ai (pI (gI g.2 (h/2)) (h%2)) (ab (az (vs:=[vi (pI (gI g.2 (h/2)) (h%2))]) Tryz.func80 (.tmp rfl .nil) ?_)))))
 have e0:(pI (gI g.2 (h/2)) (h%2):Int)=(bf g h):=by
   rfl
 exact⟨(congrArg (a₁:=pI (gI g.2 (h/2)) (h%2)) (λ(z0:Int)=>Ending.returned (vi z0)) e0),bH.t.below⟩
theorem Do(w0:World)(g:(Int)×(List Pt))(g_v:Value)(hg_v:Ro w0 g_v g.2)(h:Int)(hh:0<=h/\h<2*(g.2.length:Int))(hlen:g.2.length<=1000000):
    Calls Tryz.prog 54 #[vg [vi g.1,g_v],vi h] w0 (λee w=>ee= .returned (vi (cF g h))/\eK w0.heap.size w0 w):=by
 refine ah Tryz.func54 rfl nq ?_
 have bH:=aW.start w0
 have Rg:=hg_v.sl
 obtain⟨hh1,hh2⟩:=hh
 refine a7 (a6 rfl (cy rfl (bU c0 (is 1) (1,0) rfl rfl ?_)))
 intro g4 w1 b3 ch2 bx5
 refine ai 0 (ab (a7 (a6 rfl (lx (aa dK rfl rfl rfl rfl) (lx (a8 bM rfl bx5 rfl) (mi h (lx (kh (m:=h) (n:=2) rfl rfl (by omega) (by omega) (by omega)) (mi h (lx (nc (m:=h) (n:=2) rfl rfl (by omega) (by omega)) (lx (da (m:=1) (n:=h%2) rfl rfl (by omega)) ?_))))))))))
 refine lx (ad (v:=g_v) (i:=h/2) eG rfl rfl Rg.t rfl (by omega) (by omega)) (lx (d3 (i:=1-(h%2)) eS rfl rfl rfl (by omega) (by omega) (Nat.mul_one _)) (lx (dH (v:=g_v) (i:=h/2) ap rfl Rg.t (by omega) (by omega) (show Int.toNat (1-(h%2))<2 by omega) (gU _ (by omega) (by omega))) (ai (pI (gI g.2 (h/2)) (1-(h%2))) (ab (az (vs:=[vi (pI (gI g.2 (h/2)) (1-(h%2)))]) Tryz.func54 (.tmp rfl .nil) ?_)))))
 have e0:(pI (gI g.2 (h/2)) (1-(h%2)):Int)=(cF g h):=by
   rfl
 exact⟨(congrArg (a₁:=pI (gI g.2 (h/2)) (1-(h%2))) (λ(z0:Int)=>Ending.returned (vi z0)) e0),bH.t.below⟩
theorem wG(w0:World)(n:Int)(x:Int)(hn:0<=n/\n<=1000000):
    Calls Tryz.prog 52 #[vi n,vi x] w0 (λee w=>∃xx:ax×Value,ee= .returned ((λ⟨δ,rv0⟩=>rv0) xx)/\(λ(⟨δ,rv0⟩:ax×Value) (w:World)=>dz w0 δ w/\Ow δ (is 1) (is 1) w rv0 (List.replicate n.toNat x)) xx w):=by
 refine ah Tryz.func52 rfl nq ?_
 have bH:=aW.start w0
 obtain⟨hn1,hn2⟩:=hn
 have hrep:((List.replicate n.toNat (0:Int)).length:Int)=n:=by simp;omega
 refine a7 (a6 rfl (ma vn (ab (a7 (a6 rfl (mi n (lo (dF (α:=Int) (l:=n) (cp:=n) c0 (is 1) (is 1) (1,0) rfl (0:Int) bF ap rfl rfl rfl (by omega) (by omega) (by omega) (by omega) ?_))))))))
 intro g1 w2 v3 ch4 o5 _
 refine ma v3 (ab (a7 (a7 (a6 rfl (ai 0 (ab (aj ?_)))))))
 refine aR (σ:=Nat×(List Int)×ax) (λ⟨i,l,gq⟩ f w=>aW w0 gq w/\f 0=vi n/\f 1=vi x/\f 5=v3/\f 6=vi ↑i/\Ow gq (is 1) (is 1) w v3 l/\(i:Int)<=(n:Int)/\(l=List.replicate i x++List.replicate (n.toNat-i) 0/\(i:Int)<=n)) (λ⟨i,l,gq⟩=>Int.toNat ((n:Int)-(i:Int))) (0,(List.replicate (Int.toNat n) (0:Int)),g1) ?_ ?_
 · exact⟨bH.t,rfl,rfl,rfl,rfl,o5,by omega,by exact⟨by simp,by omega⟩⟩
 rintro⟨i,l,g8⟩ f6 w7 ⟨bH,zs0,zs1,zs5,zs6,o5,hle_i,hinv⟩ back3
 have hll:l.length=n.toNat:=by rw[hinv.1];simp;omega
 refine a7 (a7 (a6 rfl (mz zs6 (mz zs0 (lx (br (m:=↑i) (n:=n) rfl rfl) (ab ?_))))))
 by_cases p3:(i:Int)<n
 ·
  refine ag rfl (dt p3) (am (a7 (aj (a6 rfl (mz zs5 (mz zs6 (mz zs1 (lx (ad (v:=v3) (i:=↑i) bF rfl rfl o5.flat rfl (by omega) (by omega)) (lo ?_)))))))))
  refine aU (i:=↑i) x ap rfl rfl o5 (by omega) (by omega) rfl ?_
  intro w9 ch10 bx11
  refine ab (ak (a6 rfl (mz zs6 (lx (aJ (m:=↑i) (n:=1) rfl rfl (by omega)) (ai ((i:Int)+1) (ab ?_))))))
  refine back3 (i+1,(List.set l (Int.toNat ↑i) x),g8) _ _ ⟨bH.t,zs0,zs1,zs5,rfl,bx11,by omega,?_⟩ ?_
  · show(List.set l (Int.toNat ↑i) x)=List.replicate (i+1) x++List.replicate (n.toNat-(i+1)) 0/\((i+1):Int)<=n
    have hk1:i<n.toNat:=by simp at*;omega
    refine⟨by rw[hinv.1];exact pm hk1,by omega⟩
  · show Int.toNat (_-_)<Int.toNat (_-_)
    omega
 refine af rfl (df p3) (aF rfl (a7 (a6 rfl (mz zs5 (ma v3 (ab (az (vs:=[v3]) Tryz.func52 (.tmp rfl .nil) ?_)))))))
 have e0:(l:List Int)=(List.replicate n.toNat x):=by
   obtain⟨h1,h2⟩:=hinv
   have hk:i=n.toNat:=by simp at*;omega
   subst hk;rw[h1];simp
 exact⟨(fin w0 g8 (λn=>if n=1 then 1 else 0),v3),(congrArg (a₁:=l) (λ(z0:List Int)=>Ending.returned (v3)) e0),bH.fresh _,(e0▸(o5.glue (γ:=c0) (ren:=(λn=>if n=1 then 1 else 0)) (k:=1) bH.col rfl rfl))⟩
theorem wM(w0:World)(g:(Int)×(List Pt))(g_v:Value)(hg_v:Ro w0 g_v g.2)(hmay:bO g):
    Calls Tryz.prog 53 #[vg [vi g.1,g_v]] w0 (λee w=>∃xx:ax×Value,ee= .returned ((λ⟨δ,rv0⟩=>rv0) xx)/\(λ(⟨δ,rv0⟩:ax×Value) (w:World)=>dz w0 δ w/\dr δ 1 w rv0 (aX g)) xx w):=by
 refine ah Tryz.func53 rfl nq ?_
 have bH:=aW.start w0
 have Rg:=hg_v.sl
 have hm0:=hmay
 obtain⟨hm1,hm2,hm3,hm4⟩:=hm0
 refine a7 (a6 rfl (cy rfl (bU c0 (is 1) (1,0) rfl rfl ?_)))
 intro g4 w1 b3 ch2 bx5
 refine ma vn (ab (a7 (a6 rfl (lx (aa dK rfl rfl rfl rfl) (lx (a8 ap rfl bx5 rfl) (lo (iY (α:=Int) (n:=g.1) (cp:=g.1) g4 2 fh eR rfl rfl rfl (by omega) (by omega) (by omega) (by omega) ?_)))))))
 intro g6 w7 v8 ch9 o10
 refine ma v8 (ab (a7 (a7 (a6 rfl (ai 0 (ab (aj ?_)))))))
 refine aR (σ:=Nat×j7×ax) (λ⟨h,O,gq⟩ f w=>aW w0 gq w/\f 1=vp b3 0/\f 3=v8/\f 4=vi ↑h/\Sl gq (is 0) w g_v g.2/\Bx gq (is 1) w b3 [vi g.1,g_v]/\dr gq 2 w v8 O/\(h:Int)<=(2*(g.2.length:Int):Int)/\(fb O g h)) (λ⟨h,O,gq⟩=>Int.toNat ((2*(g.2.length:Int):Int)-(h:Int))) (0,(List.replicate (Int.toNat g.1) []),g6) ?_ ?_
 · exact⟨bH.t,rfl,rfl,rfl,Rg.t,bx5.t,o10,by omega,by exact fb.start hm1⟩
 rintro⟨h,O,g13⟩ f11 w12 ⟨bH,zs1,zs3,zs4,Rg,bx5,o10,hle_h,hov⟩ back3
 have hol:=hov.len
 refine a7 (a7 (a6 rfl (mz zs4 (lx (aa dK rfl rfl zs1 rfl) (lx (a8 bM rfl bx5 rfl) ?_)))))
 have len14:=(Rg).small
 refine lx (bG eG rfl Rg) (lx (kb (m:=2) (n:=(g.2.length:Int)) rfl rfl (by omega)) (lx (br (m:=↑h) (n:=2*(g.2.length:Int)) rfl rfl) (ab ?_)))
 by_cases p3:(h:Int)<(2*(g.2.length:Int))
 ·
  refine ag rfl (dt p3) ?_
  obtain⟨hf1,hf2⟩:=A0 hmay (h:=(h:Int)) (by omega) (by omega)
  have hbd:=hov.bd hf1 hf2
  refine am (a7 (aj ?_))
  refine dD (σ:=ax) (λgq f w=>aW w0 gq w/\f 1=vp b3 0/\f 3=v8/\f 4=vi ↑h/\Sl gq (is 0) w g_v g.2/\Bx gq (is 1) w b3 [vi g.1,g_v]/\dr gq 2 w v8 (List.set O (Int.toNat (bf g (h:Int))) (gI O (bf g (h:Int))++[(h:Int)]))) g13 (inl [2]) qD ?_ ?_
  ·
   intro mid
   intro w16 ch15
   refine ht (v:=v8) 0 rfl (bg.refl _ _ _) (λw' hw'=>ar zs3) ?_
   refine ht 1 rfl (bg.refl _ _ _) (λw' hw'=>av (ds:=[vi g.1,g_v]) aK zs1 bx5.t rfl rfl) (ht (v:=vi ↑h) 2 rfl (bg.refl _ _ _) (λw' hw'=>ar zs4) (ht (v:=v8) 4 rfl (bg.refl _ _ _) (λw' hw'=>ar zs3) (ht 5 rfl (bg.refl _ _ _) (λw' hw'=>av (ds:=[vi g.1,g_v]) aK zs1 bx5.t rfl rfl) (ht (v:=vi ↑h) 6 rfl (bg.refl _ _ _) (λw' hw'=>ar zs4) (ht (v:=vi ↑h) 10 rfl (bg.refl _ _ _) (λw' hw'=>ar zs4) ?_)))))
   refine cj 3 [11] (by kernel_rfl) ⟨ca 3 rfl (by kernel_rfl) rfl ?_,ca 11 rfl (by kernel_rfl) rfl ?_,trivial⟩
   ·
    refine bI (v:=vi (bf g (h:Int))) (aB (vals:=[vg [vi g.1,g_v],vi ↑h]) Tryz.func80 lh kS rfl) (l7 w16 g g_v Rg.t.ro (h:Int) (by omega) (by omega)) ?_
    intro w17 hb18
    replace hb18:=aG hb18 g13
    have hs19:bg (inl [2]) _ _ _ _:=hb18.n
    refine⟨hs19.same,?_⟩
    refine cj 7 [11] (by kernel_rfl) ⟨ca 7 rfl (by kernel_rfl) rfl ?_,ca 11 rfl (by kernel_rfl) rfl ?_,trivial⟩
    ·
     refine bI (v:=vi (bf g (h:Int))) (aB (vals:=[vg [vi g.1,g_v],vi ↑h]) Tryz.func80 lh kS rfl) (l7 w17 g g_v Rg.t.ro (h:Int) (by omega) (by omega)) ?_
     intro w20 hb21
     replace hb21:=aG hb21 g13
     have hs22:=hs19.seq (hb21.n)
     refine⟨hs22.same,?_⟩
     refine cj 8 [11] (by kernel_rfl) ⟨ca 8 rfl (by kernel_rfl) rfl ?_,ca 11 rfl (by kernel_rfl) rfl ?_,trivial⟩
     ·
      refine ao (v:=Value.pointer (some (bu v8 1 (Int.toNat (bf g (h:Int)))))) (ad (α:=List Int) (xs:=O) (v:=v8) (i:=bf g (h:Int)) fh rfl rfl o10.t.sl rfl (by omega) (by omega)) ?_
      refine⟨hs22.same,?_⟩
      refine cj 9 [11] (by kernel_rfl) ⟨ca 9 rfl (by kernel_rfl) rfl ?_,ca 11 rfl (by kernel_rfl) rfl ?_,trivial⟩
      ·
       obtain⟨v24,cel25,r26⟩:=cG (r:=bf g (h:Int)) (o10.a hb21) (by omega) (by omega)
       refine ao (v:=v24) (cv eR rfl cel25) ?_
       refine⟨hs22.same,?_⟩
       refine bY 11 rfl (aq (α:=Int) g13 (is 3) (is 3) (3,0) rfl [(h:Int)] bF ap (by decide) (by decide) (vs:=[(0,vi ↑h)]) rfl rfl (.cons rfl .nil) ?_)
       intro g27 w28 v29 ch30 o31
       have hs32:=hs22.seq (ch30.n)
       refine⟨hs32.same,?_⟩
       refine bY 12 rfl ?_
       refine aS (α:=Int) (xs:=(gI O (bf g (h:Int)))) (ys:=([(h:Int)])) g27 (J:=row 2 (Int.toNat (bf g (h:Int))+1)) (S:=row 2 (Int.toNat (bf g (h:Int))+1)) (2,Int.toNat (bf g (h:Int))+1) rfl bF ap (by decide) rfl rfl rfl r26.t o31.flat (by decide) (by(simp;omega)) ?_
       intro g33 w34 v35 ch36 o37
       have o38:=(o10.a ch30).rowchg ch36
       have hs39:=hs32.seq (ch36.lr rfl)
       refine⟨hs39.same,?_⟩
       refine bY 13 rfl ?_
       obtain⟨us40,hl41,r42⟩:=o38.vc
       try simp only[List.length_set,List.length_append,List.length_cons,List.length_nil] at hl41
       refine ao (v:=Value.pointer (some (bu v8 1 (Int.toNat (bf g (h:Int)))))) (ad (α:=Vc) (xs:=us40) (v:=v8) (i:=bf g (h:Int)) fh rfl rfl r42 rfl (by omega) (by omega)) ?_
       refine⟨hs39.same,?_⟩
       refine bY 14 rfl (bT (r:=bf g (h:Int)) eR rfl rfl o38 o37 (by omega) (by omega) ?_)
       intro w46 ch47 o48
       have hs49:=hs39.seq (ch47.l rfl)
       refine⟨hs49.same,?_⟩
       refine ce (by kernel_rfl) ?_
       exact mid (g33) _ _ ⟨bH.t,zs1,zs3,zs4,Rg.t,bx5.t,o48⟩
      ·
       refine aq (α:=Int) g13 (is 3) (is 3) (3,0) rfl [(h:Int)] bF ap (by decide) (by decide) (vs:=[(0,vi ↑h)]) rfl rfl (.cons rfl .nil) ?_
       intro g51 w52 v53 ch54 o55
       have hs56:=hs22.seq (ch54.n)
       refine⟨hs56.same,?_⟩
       refine bY 9 rfl ?_
       obtain⟨v57,cel58,r59⟩:=cG (r:=bf g (h:Int)) (o10.a ch54) (by omega) (by omega)
       refine ao (v:=v57) (cv eR rfl cel58) ?_
       refine⟨hs56.same,?_⟩
       refine bY 12 rfl (aS (α:=Int) (xs:=(gI O (bf g (h:Int)))) (ys:=([(h:Int)])) g51 (J:=row 2 (Int.toNat (bf g (h:Int))+1)) (S:=row 2 (Int.toNat (bf g (h:Int))+1)) (2,Int.toNat (bf g (h:Int))+1) rfl bF ap (by decide) rfl rfl rfl r59 o55.flat (by decide) (by(simp;omega)) ?_)
       intro g60 w61 v62 ch63 o64
       have o65:=(o10.a ch54).rowchg ch63
       have hs66:=hs56.seq (ch63.lr rfl)
       refine⟨hs66.same,?_⟩
       refine bY 13 rfl ?_
       obtain⟨us67,hl68,r69⟩:=o65.vc
       try simp only[List.length_set,List.length_append,List.length_cons,List.length_nil] at hl68
       refine ao (v:=Value.pointer (some (bu v8 1 (Int.toNat (bf g (h:Int)))))) (ad (α:=Vc) (xs:=us67) (v:=v8) (i:=bf g (h:Int)) fh rfl rfl r69 rfl (by omega) (by omega)) ?_
       refine⟨hs66.same,?_⟩
       refine bY 14 rfl (bT (r:=bf g (h:Int)) eR rfl rfl o65 o64 (by omega) (by omega) ?_)
       intro w73 ch74 o75
       have hs76:=hs66.seq (ch74.l rfl)
       refine⟨hs76.same,?_⟩
       refine ce (by kernel_rfl) ?_
       exact mid (g60) _ _ ⟨bH.t,zs1,zs3,zs4,Rg.t,bx5.t,o75⟩
     ·
      refine aq (α:=Int) g13 (is 3) (is 3) (3,0) rfl [(h:Int)] bF ap (by decide) (by decide) (vs:=[(0,vi ↑h)]) rfl rfl (.cons rfl .nil) ?_
      intro g78 w79 v80 ch81 o82
      have hs83:=hs22.seq (ch81.n)
      refine⟨hs83.same,?_⟩
      refine bY 8 rfl ?_
      refine ao (v:=Value.pointer (some (bu v8 1 (Int.toNat (bf g (h:Int)))))) (ad (α:=List Int) (xs:=O) (v:=v8) (i:=bf g (h:Int)) fh rfl rfl o10.t.sl rfl (by omega) (by omega)) ?_
      refine⟨hs83.same,?_⟩
      refine bY 9 rfl ?_
      obtain⟨v85,cel86,r87⟩:=cG (r:=bf g (h:Int)) (o10.a ch81) (by omega) (by omega)
      refine ao (v:=v85) (cv eR rfl cel86) ?_
      refine⟨hs83.same,?_⟩
      refine bY 12 rfl (aS (α:=Int) (xs:=(gI O (bf g (h:Int)))) (ys:=([(h:Int)])) g78 (J:=row 2 (Int.toNat (bf g (h:Int))+1)) (S:=row 2 (Int.toNat (bf g (h:Int))+1)) (2,Int.toNat (bf g (h:Int))+1) rfl bF ap (by decide) rfl rfl rfl r87 o82.flat (by decide) (by(simp;omega)) ?_)
      intro g88 w89 v90 ch91 o92
      have o93:=(o10.a ch81).rowchg ch91
      have hs94:=hs83.seq (ch91.lr rfl)
      refine⟨hs94.same,?_⟩
      refine bY 13 rfl ?_
      obtain⟨us95,hl96,r97⟩:=o93.vc
      try simp only[List.length_set,List.length_append,List.length_cons,List.length_nil] at hl96
      refine ao (v:=Value.pointer (some (bu v8 1 (Int.toNat (bf g (h:Int)))))) (ad (α:=Vc) (xs:=us95) (v:=v8) (i:=bf g (h:Int)) fh rfl rfl r97 rfl (by omega) (by omega)) ?_
      refine⟨hs94.same,?_⟩
      refine bY 14 rfl (bT (r:=bf g (h:Int)) eR rfl rfl o93 o92 (by omega) (by omega) ?_)
      intro w101 ch102 o103
      have hs104:=hs94.seq (ch102.l rfl)
      refine⟨hs104.same,?_⟩
      refine ce (by kernel_rfl) ?_
      exact mid (g88) _ _ ⟨bH.t,zs1,zs3,zs4,Rg.t,bx5.t,o103⟩
    ·
     refine aq (α:=Int) g13 (is 3) (is 3) (3,0) rfl [(h:Int)] bF ap (by decide) (by decide) (vs:=[(0,vi ↑h)]) rfl rfl (.cons rfl .nil) ?_
     intro g106 w107 v108 ch109 o110
     have hs111:=hs19.seq (ch109.n)
     refine⟨hs111.same,?_⟩
     refine bY 7 rfl (bI (v:=vi (bf g (h:Int))) (aB (vals:=[vg [vi g.1,g_v],vi ↑h]) Tryz.func80 lh kS rfl) (l7 w107 g g_v Rg.t.ro (h:Int) (by omega) (by omega)) ?_)
     intro w112 hb113
     replace hb113:=aG hb113 g106
     have hs114:=hs111.seq (hb113.n)
     refine⟨hs114.same,?_⟩
     refine bY 8 rfl ?_
     refine ao (v:=Value.pointer (some (bu v8 1 (Int.toNat (bf g (h:Int)))))) (ad (α:=List Int) (xs:=O) (v:=v8) (i:=bf g (h:Int)) fh rfl rfl o10.t.sl rfl (by omega) (by omega)) ?_
     refine⟨hs114.same,?_⟩
     refine bY 9 rfl ?_
     obtain⟨v116,cel117,r118⟩:=cG (r:=bf g (h:Int)) (o10.a hb113) (by omega) (by omega)
     refine ao (v:=v116) (cv eR rfl cel117) ?_
     refine⟨hs114.same,?_⟩
     refine bY 12 rfl ?_
     refine aS (α:=Int) (xs:=(gI O (bf g (h:Int)))) (ys:=([(h:Int)])) g106 (J:=row 2 (Int.toNat (bf g (h:Int))+1)) (S:=row 2 (Int.toNat (bf g (h:Int))+1)) (2,Int.toNat (bf g (h:Int))+1) rfl bF ap (by decide) rfl rfl rfl r118 o110.t.flat (by decide) (by(simp;omega)) ?_
     intro g119 w120 v121 ch122 o123
     have o124:=(o10.a hb113).rowchg ch122
     have hs125:=hs114.seq (ch122.lr rfl)
     refine⟨hs125.same,?_⟩
     refine bY 13 rfl ?_
     obtain⟨us126,hl127,r128⟩:=o124.vc
     try simp only[List.length_set,List.length_append,List.length_cons,List.length_nil] at hl127
     refine ao (v:=Value.pointer (some (bu v8 1 (Int.toNat (bf g (h:Int)))))) (ad (α:=Vc) (xs:=us126) (v:=v8) (i:=bf g (h:Int)) fh rfl rfl r128 rfl (by omega) (by omega)) ?_
     refine⟨hs125.same,?_⟩
     refine bY 14 rfl (bT (r:=bf g (h:Int)) eR rfl rfl o124 o123 (by omega) (by omega) ?_)
     intro w132 ch133 o134
     have hs135:=hs125.seq (ch133.l rfl)
     refine⟨hs135.same,?_⟩
     refine ce (by kernel_rfl) ?_
     exact mid (g119) _ _ ⟨bH.t,zs1,zs3,zs4,Rg.t,bx5.t,o134⟩
   ·
    refine aq (α:=Int) g13 (is 3) (is 3) (3,0) rfl [(h:Int)] bF ap (by decide) (by decide) (vs:=[(0,vi ↑h)]) rfl rfl (.cons rfl .nil) ?_
    intro g137 w138 v139 ch140 o141
    have hs142:bg (inl [2]) _ _ _ _:=ch140.n
    refine⟨hs142.same,?_⟩
    refine bY 3 rfl ?_
    refine bI (v:=vi (bf g (h:Int))) (aB (vals:=[vg [vi g.1,g_v],vi ↑h]) Tryz.func80 lh kS rfl) (l7 w138 g g_v Rg.t.ro (h:Int) (by omega) (by omega)) ?_
    intro w143 hb144
    replace hb144:=aG hb144 g137
    have hs145:=hs142.seq (hb144.n)
    refine⟨hs145.same,?_⟩
    refine bY 7 rfl (bI (v:=vi (bf g (h:Int))) (aB (vals:=[vg [vi g.1,g_v],vi ↑h]) Tryz.func80 lh kS rfl) (l7 w143 g g_v Rg.t.ro (h:Int) (by omega) (by omega)) ?_)
    intro w146 hb147
    replace hb147:=aG hb147 g137
    have hs148:=hs145.seq (hb147.n)
    refine⟨hs148.same,?_⟩
    refine bY 8 rfl ?_
    refine ao (v:=Value.pointer (some (bu v8 1 (Int.toNat (bf g (h:Int)))))) (ad (α:=List Int) (xs:=O) (v:=v8) (i:=bf g (h:Int)) fh rfl rfl o10.t.sl rfl (by omega) (by omega)) ?_
    refine⟨hs148.same,?_⟩
    refine bY 9 rfl ?_
    obtain⟨v150,cel151,r152⟩:=cG (r:=bf g (h:Int)) (o10.a hb147) (by omega) (by omega)
    refine ao (v:=v150) (cv eR rfl cel151) ?_
    refine⟨hs148.same,?_⟩
    refine bY 12 rfl ?_
    refine aS (α:=Int) (xs:=(gI O (bf g (h:Int)))) (ys:=([(h:Int)])) g137 (J:=row 2 (Int.toNat (bf g (h:Int))+1)) (S:=row 2 (Int.toNat (bf g (h:Int))+1)) (2,Int.toNat (bf g (h:Int))+1) rfl bF ap (by decide) rfl rfl rfl r152 o141.t.flat (by decide) (by(simp;omega)) ?_
    intro g153 w154 v155 ch156 o157
    have o158:=(o10.a hb147).rowchg ch156
    have hs159:=hs148.seq (ch156.lr rfl)
    refine⟨hs159.same,?_⟩
    refine bY 13 rfl ?_
    obtain⟨us160,hl161,r162⟩:=o158.vc
    try simp only[List.length_set,List.length_append,List.length_cons,List.length_nil] at hl161
    refine ao (v:=Value.pointer (some (bu v8 1 (Int.toNat (bf g (h:Int)))))) (ad (α:=Vc) (xs:=us160) (v:=v8) (i:=bf g (h:Int)) fh rfl rfl r162 rfl (by omega) (by omega)) ?_
    refine⟨hs159.same,?_⟩
    refine bY 14 rfl (bT (r:=bf g (h:Int)) eR rfl rfl o158 o157 (by omega) (by omega) ?_)
    intro w166 ch167 o168
    have hs169:=hs159.seq (ch167.l rfl)
    refine⟨hs169.same,?_⟩
    refine ce (by kernel_rfl) ?_
    exact mid (g153) _ _ ⟨bH.t,zs1,zs3,zs4,Rg.t,bx5.t,o168⟩
  rintro g173 f171 w172 ⟨bH,zs1,zs3,zs4,Rg,bx5,o48⟩
  refine ak (a6 rfl (mz zs4 (lx (aJ (m:=↑h) (n:=1) rfl rfl (by omega)) (ai ((h:Int)+1) (ab ?_)))))
  refine back3 (h+1,(List.set O (Int.toNat (bf g (h:Int))) (gI O (bf g (h:Int))++[(h:Int)])),g173) _ _ ⟨bH,zs1,zs3,rfl,Rg,bx5,o48,by omega,?_⟩ ?_
  · show fb (List.set O (Int.toNat (bf g (h:Int))) (gI O (bf g (h:Int))++[(h:Int)])) g (h+1)
    exact hov.next hf1 hf2
  · show Int.toNat (_-_)<Int.toNat (_-_)
    omega
 refine af rfl (df p3) (aF rfl (a7 ?_))
 refine a6 rfl (mz zs3 (ma v8 (ab (az (vs:=[v8]) Tryz.func53 (.tmp rfl .nil) ?_))))
 have e0:(O:j7)=(aX g):=by
   exact hov.done (by omega)
 exact⟨(fin w0 g13 (λn=>if n=2 then 1 else 0),v8),(congrArg (a₁:=O) (λ(z0:j7)=>Ending.returned (v8)) e0),bH.fresh _,(e0▸(o10.t.glue (γ:=c0) (ren:=(λn=>if n=2 then 1 else 0)) (k:=1) bH.col rfl rfl))⟩
set_option maxHeartbeats 4000000 in
theorem tk(w0:World)(g:(Int)×(List Pt))(g_v:Value)(hg_v:Ro w0 g_v g.2)(gone:List Bool)(gone_v:Value)(hgone_v:Ro w0 gone_v gone)(cut:List Bool)(cut_v:Value)(hcut_v:Ro w0 cut_v cut)(hmay:bO g)(hgo:pQ gone_v=true->(gone.length:Int)=g.1)(hcu:pQ cut_v=true->(cut.length:Int)=g.2.length)(hcn:¬pQ cut_v=true):
    Calls Tryz.prog 40 #[vg [vi g.1,g_v],gone_v,cut_v] w0 (λee w=>∃xx:ax×Value,ee= .returned ((λ⟨δ,rv0⟩=>vt [rv0,vi ((fA g gone cut).2)]) xx)/\(λ(⟨δ,rv0⟩:ax×Value) (w:World)=>dz w0 δ w/\Ow δ (is 1) (is 1) w rv0 ((fA g gone cut).1)) xx w):=by
 refine ah Tryz.func40 rfl nq ?_
 have bH:=aW.start w0
 have Rg:=hg_v.sl
 have Rgone:=hgone_v.sl
 have Rcut:=hcut_v.sl
 have hm0:=hmay
 obtain⟨hm1,hm2,hm3,hm4⟩:=hm0
 have hfl:=uK g hm1
 have hgo0:=A2 hgone_v
 have hcu0:=A2 hcut_v
 have hP:=ye (gone:=gone) (cut:=cut) hmay
 refine a7 (a6 rfl (cy rfl (bU c0 (is 1) (1,0) rfl rfl ?_)))
 intro g4 w1 b3 ch2 bx5
 refine ma vn (ai 0 (ab (a7 (a6 rfl (lx (aa dK rfl rfl rfl rfl) (lx (a8 ap rfl bx5 rfl) (lo (bB (aB (vals:=[vi g.1,vi (-1)]) Tryz.func52 Be Bc rfl) (wG w1 g.1 (-1) (by omega)) ?_))))))))
 rintro⟨d7,v9⟩ w6 ⟨fr8,o10⟩
 obtain⟨g11,ch12,G11⟩:=hU g4 fr8 (λn=>if n=1 then 2 else 0)
 replace o10:=o10.gl G11 2
 refine ma v9 (ab (a7 (a6 rfl (ai 0 (ab (a7 (a6 rfl ?_)))))))
 refine lx (av (ds:=[vi g.1,g_v]) aK rfl bx5.t rfl rfl) ?_
 refine lo (bB (aB (vals:=[vg [vi g.1,g_v]]) Tryz.func53 BT C1 rfl) (wM w6 g g_v Rg.t.ro ‹_›) ?_)
 rintro⟨d14,v16⟩ w13 ⟨fr15,o17⟩
 obtain⟨g18,ch19,G18⟩:=hU g11 fr15 (λn=>if n=1 then 3 else 0)
 replace o17:=o17.gl G18 3
 refine ma v16 (ab (a7 (a7 (a6 rfl (ai 0 (ab (aj ?_)))))))
 refine aR (σ:=Nat×Nat×(List Int)×ax) (λ⟨n,q,c,gq⟩ f w=>aW w0 gq w/\f 1=gone_v/\f 2=cut_v/\f 3=vp b3 0/\f 8=v9/\f 9=vi ↑n/\f 10=v16/\f 11=vi ↑q/\Sl gq (is 0) w g_v g.2/\Sl gq (is 0) w gone_v gone/\Sl gq (is 0) w cut_v cut/\Bx gq (is 1) w b3 [vi g.1,g_v]/\Ow gq (is 2) (is 2) w v9 c/\dr gq 3 w v16 (aX g)/\(q:Int)<=(g.1:Int)/\(c=(bE (gG g gone cut) gone q).1/\n=(bE (gG g gone cut) gone q).2)) (λ⟨n,q,c,gq⟩=>Int.toNat ((g.1:Int)-(q:Int))) (0,0,List.replicate g.1.toNat (-1),g18) ?_ ?_
 · exact⟨bH.t,rfl,rfl,rfl,rfl,rfl,rfl,rfl,Rg.t,Rgone.t,Rcut.t,bx5.t,o10.t,o17,by omega,by exact⟨rfl,rfl⟩⟩
 rintro⟨n,q,c,g23⟩ f21 w22 ⟨bH,zs1,zs2,zs3,zs8,zs9,zs10,zs11,Rg,Rgone,Rcut,bx5,o10,o17,hle_q,hinv⟩ back5
 obtain⟨hcl,hi2,hi3⟩:=qN hP hinv (by omega)
 refine a7 (a7 (a6 rfl (mz zs11 (lx (aa dK rfl rfl zs3 rfl) (lx (a8 ap rfl bx5 rfl) (lx (br (m:=↑q) (n:=g.1) rfl rfl) (ab ?_)))))))
 by_cases p5:(q:Int)<g.1
 ·
  refine ag rfl (dt p5) (am (a7 (aj (a7 (a7 ?_)))))
  refine kM [false,false,true] (σ:=ax) (λgq f w=>aW w0 gq w/\f 1=gone_v/\f 2=cut_v/\f 3=vp b3 0/\f 8=v9/\f 9=vi ↑n/\f 10=v16/\f 11=vi ↑q/\Sl gq (is 0) w g_v g.2/\Sl gq (is 0) w gone_v gone/\Sl gq (is 0) w cut_v cut/\Bx gq (is 1) w b3 [vi g.1,g_v]/\Ow gq (is 2) (is 2) w v9 c/\dr gq 3 w v16 (aX g)/\(¬0<=gI c ↑q/\¬gI gone ↑q=true)) ?_ ?_
  ·
   intro mid_j1
   refine a6 rfl (mz zs8 (mz zs11 (lx (ad (v:=v9) (i:=↑q) bF rfl rfl o10.flat rfl (by omega) (by omega)) (lx (aw (v:=v9) (i:=↑q) ap rfl o10.flat (by omega) (by omega) (by decide) rfl) (lx (eL (m:=(gI c ↑q)) (n:=0) rfl rfl) (mv (vb (decide (0<=(gI c ↑q)))) ?_))))))
   by_cases q32:0<=(gI c ↑q)
   ·
    refine au (wn (dt q32)) (au (wn (dt q32)) (au (wn (dt q32)) (au (bR rfl rfl rfl) (au (bR rfl rfl rfl) (au (bR rfl rfl rfl) (au (bR rfl rfl rfl) (au (wn (dt q32)) (lw (vb true) (bh rfl (dt q32) rfl) (ab ?_)))))))))
    refine ag rfl rfl (aF rfl (a6 rfl (mz zs11 (lx (aJ (m:=↑q) (n:=1) rfl rfl (by omega)) (ai ((q:Int)+1) (ab ?_))))))
    refine back5 (n,q+1,c,g23) _ _ ⟨bH,zs1,zs2,zs3,zs8,zs9,zs10,rfl,Rg,Rgone,Rcut,bx5,o10,o17,by omega,?_⟩ ?_
    · show c=(bE (gG g gone cut) gone (q+1)).1/\n=(bE (gG g gone cut) gone (q+1)).2
      exact kP hinv (.inl ‹_›)
    · show Int.toNat (_-_)<Int.toNat (_-_)
      omega
   refine lv (gone_v) (wy (df q32)) (ar zs1) (lv (vb (pQ gone_v)) (wy (df q32)) (iP j6 Rgone rfl rfl) (lv (vb (pQ gone_v)) (wy (df q32)) (ar rfl) ?_))
   by_cases q35:pQ gone_v=true
   ·
    refine lv (gone_v) (wy q35) (ar zs1) (lv (vi ↑q) (wy q35) (ar zs11) (lv (Value.pointer (some (bu gone_v 1 (Int.toNat ↑q)))) (wy q35) (ad (α:=Bool) (xs:=gone) (v:=gone_v) (i:=↑q) j6 rfl rfl Rgone rfl (by(have:=hgo ‹_›;omega)) (by(have:=hgo ‹_›;omega))) (lv (vb (gI gone ↑q)) (wy q35) (aw (α:=Bool) (xs:=gone) (v:=gone_v) (i:=↑q) dA rfl Rgone (by(have:=hgo ‹_›;omega)) (by(have:=hgo ‹_›;omega)) (by decide) rfl) (lv (vb (gI gone ↑q)) (wy (df q32)) (bh rfl q35 rfl) (lw (vb (gI gone ↑q)) (bo rfl (df q32) rfl) (ab ?_))))))
    by_cases p7:(gI gone ↑q)=true
    ·
     refine ag rfl p7 (aF rfl (a6 rfl (mz zs11 (lx (aJ (m:=↑q) (n:=1) rfl rfl (by omega)) (ai ((q:Int)+1) (ab ?_))))))
     refine back5 (n,q+1,c,g23) _ _ ⟨bH,zs1,zs2,zs3,zs8,zs9,zs10,rfl,Rg,Rgone,Rcut,bx5,o10,o17,by omega,?_⟩ ?_
     · show c=(bE (gG g gone cut) gone (q+1)).1/\n=(bE (gG g gone cut) gone (q+1)).2
       exact kP hinv (.inr ‹_›)
     · show Int.toNat (_-_)<Int.toNat (_-_)
       omega
    refine af rfl (Bool.eq_false_iff.2 p7) (am (a7 ?_))
    refine mid_j1 (g23) _ _ ⟨bH,zs1,zs2,zs3,zs8,zs9,zs10,zs11,Rg,Rgone,Rcut,bx5,o10,o17,?_⟩
    show¬0<=gI c ↑q/\¬gI gone ↑q=true
    exact⟨by assumption,by(assumption)⟩
   refine au (wn (Bool.eq_false_iff.2 q35)) (au (wn (Bool.eq_false_iff.2 q35)) (au (wn (Bool.eq_false_iff.2 q35)) (au (wn (Bool.eq_false_iff.2 q35)) (lv (vb false) (wy (df q32)) (bo rfl (Bool.eq_false_iff.2 q35) rfl) (lw (vb false) (bo rfl (df q32) rfl) (ab (af rfl rfl (am (a7 ?_)))))))))
   refine mid_j1 (g23) _ _ ⟨bH,zs1,zs2,zs3,zs8,zs9,zs10,zs11,Rg,Rgone,Rcut,bx5,o10,o17,?_⟩
   show¬0<=gI c ↑q/\¬gI gone ↑q=true
   exact⟨by assumption,by(exact tY hgo0 ‹_›)⟩
  rintro g26 f24 w25 ⟨bH,z27_1,z27_2,z27_3,z27_8,z27_9,z27_10,z27_11,Rg,Rgone,Rcut,bx5,o10,o17,hjq⟩
  obtain⟨hjq1,hjq2⟩:=hjq
  refine a6 rfl (mz z27_11 (lo (aq (α:=Int) g26 (is 4) (is 4) (4,0) rfl [(q:Int)] bF ap (by decide) (by decide) (vs:=[(0,vi ↑q)]) rfl rfl (.cons rfl .nil) ?_)))
  intro g28 w29 v30 ch31 o32
  refine ma v30 (ab (a7 (a6 rfl (mz z27_8 (mz z27_11 (mz z27_9 ?_))))))
  refine lx (ad (v:=v9) (i:=↑q) bF rfl rfl o10.t.flat rfl (by omega) (by omega)) (lo (aU (i:=↑q) (n:Int) ap rfl rfl o10.t (by omega) (by omega) rfl ?_))
  intro w33 ch34 bx35
  refine ab (a7 (aj ?_))
  refine aR (σ:=Value×(List Int)×(List Int)×ax) (λ⟨todo1_v,todo1,c1,gq⟩ f w=>aW w0 gq w/\f 1=gone_v/\f 2=cut_v/\f 3=vp b3 0/\f 8=v9/\f 9=vi ↑n/\f 10=v16/\f 11=vi ↑q/\f 12=todo1_v/\Sl gq (is 0) w g_v g.2/\Sl gq (is 0) w gone_v gone/\Sl gq (is 0) w cut_v cut/\Bx gq (is 1) w b3 [vi g.1,g_v]/\dr gq 3 w v16 (aX g)/\Ow gq (is 2) (is 2) w v9 c1/\Ow gq (is 4) (is 4) w todo1_v todo1/\(fx g (gG g gone cut) (B6 g gone cut) c c1 todo1 [] n (q:Int))) (λ⟨todo1_v,todo1,c1,gq⟩=>List.length todo1+2*ly c1) (v30,[(q:Int)],(List.set c (Int.toNat ↑q) (n:Int)),g28) ?_ ?_
  · exact⟨bH.t,z27_1,z27_2,z27_3,z27_8,z27_9,z27_10,z27_11,rfl,Rg.t,Rgone.t,Rcut.t,bx5.t,o17.t,bx35,o32.t,by exact fx.start hP (by omega) hinv ‹_›⟩
  rintro⟨todo1_v,todo1,c1,g38⟩ f36 w37 ⟨bH,zs1,zs2,zs3,zs8,zs9,zs10,zs11,zs12,Rg,Rgone,Rcut,bx5,o17,bx35,o_todo1,hdf⟩ back10
  have hcl1:=hdf.len
  have htb:=hdf.bd
  refine a7 (a7 (a6 rfl (mz zs12 ?_)))
  have len39:=(o_todo1.flat).small
  refine lx (bG bF rfl o_todo1.flat) (lx (eX (m:=(todo1.length:Int)) (n:=0) rfl rfl) (ab ?_))
  by_cases p10:0<(todo1.length:Int)
  ·
   refine ag rfl (dt p10) (am (aj (a7 (a6 rfl (mz zs12 (mz zs12 (lx (bG bF rfl o_todo1.flat) (lx (da (m:=(todo1.length:Int)) (n:=1) rfl rfl (by omega)) (lx (ad (v:=todo1_v) (i:=(todo1.length:Int)-1) bF rfl rfl o_todo1.flat rfl (by omega) (by omega)) (lx (aw (v:=todo1_v) (i:=(todo1.length:Int)-1) ap rfl o_todo1.flat (by omega) (by omega) (by decide) rfl) ?_))))))))))
   refine ai (gI todo1 ((todo1.length:Int)-1)) (ab (a7 (a6 rfl (mz zs12 (mz zs12 (lx (bG bF rfl o_todo1.flat) (lx (da (m:=(todo1.length:Int)) (n:=1) rfl rfl (by omega)) (lw ((bP todo1_v 1 (Int.toNat 0) (Int.toNat ((todo1.length:Int)-1)))) (gJ (v:=todo1_v) (l:=0) (h:=(todo1.length:Int)-1) bF rfl rfl o_todo1.flat (.inr ⟨rfl,rfl⟩) (.inl (congrArg some rfl)) (by omega) (by omega) (by omega)) ?_))))))))
   have r41:=kB o_todo1 (show Int.toNat ((todo1.length:Int)-1)<=List.length _ by omega)
   refine ma ((bP todo1_v 1 (Int.toNat 0) (Int.toNat ((todo1.length:Int)-1)))) (ab (a7 ?_))
   refine a6 rfl (ai 0 (ab (aj ?_)))
   refine aR (σ:=Nat×Value×(List Int)×(List Int)×ax) (λ⟨k,todo2_v,todo2,c2,gq⟩ f w=>aW w0 gq w/\f 1=gone_v/\f 2=cut_v/\f 3=vp b3 0/\f 8=v9/\f 9=vi ↑n/\f 10=v16/\f 11=vi ↑q/\f 12=todo2_v/\f 13=vi (gI todo1 ((todo1.length:Int)-1))/\f 14=vi ↑k/\Sl gq (is 0) w g_v g.2/\Sl gq (is 0) w gone_v gone/\Sl gq (is 0) w cut_v cut/\Bx gq (is 1) w b3 [vi g.1,g_v]/\dr gq 3 w v16 (aX g)/\Ow gq (is 2) (is 2) w v9 c2/\Ow gq (is 4) (is 4) w todo2_v todo2/\(k:Int)<=((List.length (gI (aX g) (gI todo1 ((todo1.length:Int)-1))):Int):Int)/\(gD g (gG g gone cut) (B6 g gone cut) c c2 todo2 n (q:Int) (gI todo1 ((todo1.length:Int)-1)) k (List.length todo1+2*ly c1))) (λ⟨k,todo2_v,todo2,c2,gq⟩=>Int.toNat (((List.length (gI (aX g) (gI todo1 ((todo1.length:Int)-1))):Int):Int)-(k:Int))) (0,(bP todo1_v 1 (Int.toNat 0) (Int.toNat ((todo1.length:Int)-1))),(List.take (Int.toNat ((todo1.length:Int)-1)) todo1),c1,g38) ?_ ?_
   · exact⟨bH,zs1,zs2,zs3,zs8,zs9,zs10,zs11,rfl,rfl,rfl,Rg,Rgone,Rcut,bx5,o17,bx35,r41,by omega,by(have h0:=hdf.row (by omega);rwa[show List.length todo1-1=((todo1.length:Int)-1).toNat by omega] at h0)⟩
   rintro⟨k,todo2_v,todo2,c2,g44⟩ f42 w43 ⟨bH,zs1,zs2,zs3,zs8,zs9,zs10,zs11,zs12,zs13,zs14,Rg,Rgone,Rcut,bx5,o17,bx35,o_todo2,hle_k,hrow⟩ back14
   have hcl2:=hrow.inv.len
   have htb2:=hrow.inv.bd
   obtain⟨hvd1,hvd2⟩:=hrow.vd
   have hfg:=jm (g:=g) hvd1 hvd2
   refine a7 (a7 (a6 rfl (mz zs14 (mz zs10 (mz zs13 (lx (ad (v:=v16) (i:=(gI todo1 ((todo1.length:Int)-1))) fh rfl rfl o17.sl rfl (by omega) (by omega)) ?_))))))
   obtain⟨v45,cel46,r47⟩:=cG (r:=(gI todo1 ((todo1.length:Int)-1))) o17 (by omega) (by omega)
   refine lx (cv eR rfl cel46) ?_
   have len48:=(r47.row_sl).small
   refine lx (bG bF rfl r47.row_sl) (lx (br (m:=↑k) (n:=(List.length (gI (aX g) (gI todo1 ((todo1.length:Int)-1))):Int)) rfl rfl) (ab ?_))
   by_cases p14:(k:Int)<(List.length (gI (aX g) (gI todo1 ((todo1.length:Int)-1))):Int)
   ·
    refine ag rfl (dt p14) ?_
    have hkl:(k:Int)<(d6 g (gI todo1 ((todo1.length:Int)-1))).length:=by rw[<-hfg];assumption
    obtain⟨hr1,hr2⟩:=(f4 (bz (xs:=d6 g (gI todo1 ((todo1.length:Int)-1))) (i:=↑k) (by omega) hkl)).1
    rw[<-hfg] at hr1 hr2
    obtain⟨hto1,hto2⟩:=fQ hmay hr1 hr2
    refine am (a7 (aj (a7 ?_)))
    refine dy g44 rfl qD (by kernel_rfl) ?_
    intro w50 ch49
    refine qx (λw' hw'=>av (ds:=[vi g.1,g_v]) aK zs3 (bx5.t.bel hw') rfl rfl) (qz zs10 (qz zs13 ?_))
    refine qx (λw' hw'=>ad (v:=v16) (i:=(gI todo1 ((todo1.length:Int)-1))) fh rfl rfl (o17.t.sl.bel hw') rfl (by omega) (by omega)) ?_
    obtain⟨v51,cel52,r53⟩:=cG (r:=(gI todo1 ((todo1.length:Int)-1))) (o17.a ch49) (by omega) (by omega)
    refine qx (λw' hw'=>cv eR rfl (jJ cel52 hw')) (qz zs14 (qx (λw' hw'=>ad (v:=v51) (i:=↑k) bF rfl rfl (r53.row_sl.bel hw') rfl (by omega) (by omega)) (qx (λw' hw'=>aw (v:=v51) (i:=↑k) ap rfl (r53.row_sl.bel hw') (by omega) (by omega) (by decide) rfl) ?_)))
    refine ss (v:=vi (cF g (gI (gI (aX g) (gI todo1 ((todo1.length:Int)-1))) (k:Int)))) rfl (λw' hw'=>aB (vals:=[vg [vi g.1,g_v],vi (gI (gI (aX g) (gI todo1 ((todo1.length:Int)-1))) (k:Int))]) Tryz.func54 CE Bk rfl) (λw' hw'=>(Do w' g g_v ((Rg.t.bel hw')).ro (gI (gI (aX g) (gI todo1 ((todo1.length:Int)-1))) (k:Int)) (by omega) (by omega)).mono λe w2 h2=>⟨h2.1,hw'.trans (h2.2.mono hw'.size)⟩) (qv (vi (cF g (gI (gI (aX g) (gI todo1 ((todo1.length:Int)-1))) (k:Int)))) (λw' hw'=>bK rfl) (gf ?_))
    intro w54 hc55
    replace hc55:=aG hc55 g44
    refine a7 (a7 ?_)
    refine a6 rfl (mz zs8 (mi (cF g (gI (gI (aX g) (gI todo1 ((todo1.length:Int)-1))) (k:Int))) ?_))
    refine lx (ad (v:=v9) (i:=cF g (gI (gI (aX g) (gI todo1 ((todo1.length:Int)-1))) (k:Int))) bF rfl rfl bx35.t.flat rfl (by omega) (by omega)) (lx (aw (v:=v9) (i:=cF g (gI (gI (aX g) (gI todo1 ((todo1.length:Int)-1))) (k:Int))) ap rfl bx35.t.flat (by omega) (by omega) (by decide) rfl) (lx (eL (m:=(gI c2 (cF g (gI (gI (aX g) (gI todo1 ((todo1.length:Int)-1))) (k:Int))))) (n:=0) rfl rfl) (mv (vb (decide (0<=(gI c2 (cF g (gI (gI (aX g) (gI todo1 ((todo1.length:Int)-1))) (k:Int))))))) ?_)))
    by_cases q85:0<=(gI c2 (cF g (gI (gI (aX g) (gI todo1 ((todo1.length:Int)-1))) (k:Int))))
    ·
     refine au (wn (dt q85)) (au (wn (dt q85)) (au (wn (dt q85)) (au (bR rfl rfl rfl) (au (bR rfl rfl rfl) (au (bR rfl rfl rfl) (au (bR rfl rfl rfl) (au (wn (dt q85)) (lw (vb true) (bh rfl (dt q85) rfl) (mv (vb true) ?_)))))))))
     refine au (wn rfl) (au (wn rfl) (au (wn rfl) (au (bR rfl rfl rfl) (au (bR rfl rfl rfl) (au (bR rfl rfl rfl) (au (bR rfl rfl rfl) (au (bR rfl rfl rfl) (au (bR rfl rfl rfl) (au (bR rfl rfl rfl) (au (bR rfl rfl rfl) (au (bR rfl rfl rfl) ?_)))))))))))
     refine au (bR rfl rfl rfl) (au (bR rfl rfl rfl) (au (wn rfl) (lw (vb true) (bh rfl rfl rfl) (ab (ag rfl rfl (aF rfl (a6 rfl (mz zs14 (lx (aJ (m:=↑k) (n:=1) rfl rfl (by omega)) ?_)))))))))
     refine ai ((k:Int)+1) (ab ?_)
     refine back14 (k+1,todo2_v,todo2,c2,g44) _ _ ⟨bH.t,zs1,zs2,zs3,zs8,zs9,zs10,zs11,zs12,zs13,rfl,Rg.t,Rgone.t,Rcut.t,bx5.t,o17.t,bx35.t,o_todo2.t,by omega,?_⟩ ?_
     · show gD g (gG g gone cut) (B6 g gone cut) c c2 todo2 n (q:Int) (gI todo1 ((todo1.length:Int)-1)) (k+1) (List.length todo1+2*ly c1)
       (rw[hfg] at*;exact hrow.skip λhp=>by assumption)
     · show Int.toNat (_-_)<Int.toNat (_-_)
       omega
    refine lv (gone_v) (wy (df q85)) (ar zs1) ?_
    refine lv (vb (pQ gone_v)) (wy (df q85)) (iP j6 Rgone.t rfl rfl) (lv (vb (pQ gone_v)) (wy (df q85)) (ar rfl) ?_)
    by_cases q88:pQ gone_v=true
    ·
     refine lv (gone_v) (wy q88) (ar zs1) (lv (vi (cF g (gI (gI (aX g) (gI todo1 ((todo1.length:Int)-1))) (k:Int)))) (wy q88) (ar rfl) (lv (Value.pointer (some (bu gone_v 1 (Int.toNat (cF g (gI (gI (aX g) (gI todo1 ((todo1.length:Int)-1))) (k:Int))))))) (wy q88) (ad (α:=Bool) (xs:=gone) (v:=gone_v) (i:=cF g (gI (gI (aX g) (gI todo1 ((todo1.length:Int)-1))) (k:Int))) j6 rfl rfl Rgone.t rfl (by(have:=hgo ‹_›;omega)) (by(have:=hgo ‹_›;omega))) ?_))
     refine lv (vb (gI gone (cF g (gI (gI (aX g) (gI todo1 ((todo1.length:Int)-1))) (k:Int))))) (wy q88) (aw (α:=Bool) (xs:=gone) (v:=gone_v) (i:=cF g (gI (gI (aX g) (gI todo1 ((todo1.length:Int)-1))) (k:Int))) dA rfl Rgone.t (by(have:=hgo ‹_›;omega)) (by(have:=hgo ‹_›;omega)) (by decide) rfl) (lv (vb (gI gone (cF g (gI (gI (aX g) (gI todo1 ((todo1.length:Int)-1))) (k:Int))))) (wy (df q85)) (bh rfl q88 rfl) (lw (vb (gI gone (cF g (gI (gI (aX g) (gI todo1 ((todo1.length:Int)-1))) (k:Int))))) (bo rfl (df q85) rfl) (mv (vb (gI gone (cF g (gI (gI (aX g) (gI todo1 ((todo1.length:Int)-1))) (k:Int))))) ?_)))
     by_cases q95:(gI gone (cF g (gI (gI (aX g) (gI todo1 ((todo1.length:Int)-1))) (k:Int))))=true
     ·
      refine au (wn q95) (au (wn q95) (au (wn q95) (au (bR rfl rfl rfl) (au (bR rfl rfl rfl) (au (bR rfl rfl rfl) (au (bR rfl rfl rfl) (au (bR rfl rfl rfl) (au (bR rfl rfl rfl) (au (bR rfl rfl rfl) (au (bR rfl rfl rfl) (au (bR rfl rfl rfl) ?_)))))))))))
      refine au (bR rfl rfl rfl) (au (bR rfl rfl rfl) (au (wn q95) (lw (vb true) (bh rfl q95 rfl) (ab (ag rfl rfl (aF rfl (a6 rfl (mz zs14 (lx (aJ (m:=↑k) (n:=1) rfl rfl (by omega)) ?_)))))))))
      refine ai ((k:Int)+1) (ab ?_)
      refine back14 (k+1,todo2_v,todo2,c2,g44) _ _ ⟨bH.t,zs1,zs2,zs3,zs8,zs9,zs10,zs11,zs12,zs13,rfl,Rg.t,Rgone.t,Rcut.t,bx5.t,o17.t,bx35.t,o_todo2.t,by omega,?_⟩ ?_
      · show gD g (gG g gone cut) (B6 g gone cut) c c2 todo2 n (q:Int) (gI todo1 ((todo1.length:Int)-1)) (k+1) (List.length todo1+2*ly c1)
        (rw[hfg] at*;exact hrow.skip λhp=>absurd ‹_› hp.2.1)
      · show Int.toNat (_-_)<Int.toNat (_-_)
        omega
     refine lv (cut_v) (wy (Bool.eq_false_iff.2 q95)) (ar zs2) ?_
     refine lv (vb (pQ cut_v)) (wy (Bool.eq_false_iff.2 q95)) (iP j6 Rcut.t rfl rfl) (lv (vb (pQ cut_v)) (wy (Bool.eq_false_iff.2 q95)) (ar rfl) ?_)
     have q98:¬(pQ cut_v=true):=by exact hcn
     refine au (wn (Bool.eq_false_iff.2 q98)) (au (wn (Bool.eq_false_iff.2 q98)) (au (wn (Bool.eq_false_iff.2 q98)) (au (wn (Bool.eq_false_iff.2 q98)) (au (wn (Bool.eq_false_iff.2 q98)) (au (wn (Bool.eq_false_iff.2 q98)) (au (wn (Bool.eq_false_iff.2 q98)) (au (wn (Bool.eq_false_iff.2 q98)) (au (wn (Bool.eq_false_iff.2 q98)) (au (wn (Bool.eq_false_iff.2 q98)) ?_)))))))))
     refine au (wn (Bool.eq_false_iff.2 q98)) (lv (vb false) (wy (Bool.eq_false_iff.2 q95)) (bo rfl (Bool.eq_false_iff.2 q98) rfl) (lw (vb false) (bo rfl (Bool.eq_false_iff.2 q95) rfl) (ab (af rfl rfl (am (a7 (a6 rfl (mz zs8 (mi (cF g (gI (gI (aX g) (gI todo1 ((todo1.length:Int)-1))) (k:Int))) (mz zs9 ?_))))))))))
     refine lx (ad (v:=v9) (i:=cF g (gI (gI (aX g) (gI todo1 ((todo1.length:Int)-1))) (k:Int))) bF rfl rfl bx35.t.flat rfl (by omega) (by omega)) (lo (aU (i:=cF g (gI (gI (aX g) (gI todo1 ((todo1.length:Int)-1))) (k:Int))) (n:Int) ap rfl rfl bx35.t (by omega) (by omega) rfl ?_))
     intro w56 ch57 bx58
     refine ab (a6 rfl (mz zs12 (mi (cF g (gI (gI (aX g) (gI todo1 ((todo1.length:Int)-1))) (k:Int))) (lo (aq (α:=Int) g44 (is 5) (is 5) (5,0) rfl [cF g (gI (gI (aX g) (gI todo1 ((todo1.length:Int)-1))) (k:Int))] bF ap (by decide) (by decide) (vs:=[(0,vi (cF g (gI (gI (aX g) (gI todo1 ((todo1.length:Int)-1))) (k:Int))))]) rfl rfl (.cons rfl .nil) ?_)))))
     intro g59 w60 v61 ch62 o63
     refine lo ?_
     refine aS (α:=Int) (xs:=todo2) (ys:=([cF g (gI (gI (aX g) (gI todo1 ((todo1.length:Int)-1))) (k:Int))])) g59 (J:=is 4) (S:=is 4) (4,0) rfl bF ap (by decide) rfl rfl rfl o_todo2.t o63.flat (by decide) (by(simp;omega)) ?_
     intro g65 w66 v67 ch68 o69
     refine ma v67 (ab (ak ?_))
     refine a6 rfl (mz zs14 (lx (aJ (m:=↑k) (n:=1) rfl rfl (by omega)) (ai ((k:Int)+1) (ab ?_))))
     have C72:=cg [2,4] (ch57.s (ch62.o ch68.e))
     have C71:=hc55.n.seq C72
     have C70:=ch49.n.seq C71
     refine back14 (k+1,v67,(todo2++[cF g (gI (gI (aX g) (gI todo1 ((todo1.length:Int)-1))) (k:Int))]),(List.set c2 (Int.toNat (cF g (gI (gI (aX g) (gI todo1 ((todo1.length:Int)-1))) (k:Int)))) (n:Int)),g65) _ _ ⟨bH.t,zs1,zs2,zs3,zs8,zs9,zs10,zs11,rfl,zs13,rfl,Rg.t,Rgone.t,Rcut.t,bx5.t,o17.t,bx58.t,o69,by omega,?_⟩ ?_
     · show gD g (gG g gone cut) (B6 g gone cut) c (List.set c2 (Int.toNat (cF g (gI (gI (aX g) (gI todo1 ((todo1.length:Int)-1))) (k:Int)))) (n:Int)) (todo2++[cF g (gI (gI (aX g) (gI todo1 ((todo1.length:Int)-1))) (k:Int))]) n (q:Int) (gI todo1 ((todo1.length:Int)-1)) (k+1) (List.length todo1+2*ly c1)
       (rw[hfg] at*;exact hrow.push hP hkl (hrow.psg hmay (by(assumption)) hkl (by(assumption)) (by(exact tY hcu0 ‹_›))) ‹_›)
     · show Int.toNat (_-_)<Int.toNat (_-_)
       omega
    refine au (wn (Bool.eq_false_iff.2 q88)) (au (wn (Bool.eq_false_iff.2 q88)) (au (wn (Bool.eq_false_iff.2 q88)) (au (wn (Bool.eq_false_iff.2 q88)) (lv (vb false) (wy (df q85)) (bo rfl (Bool.eq_false_iff.2 q88) rfl) (lw (vb false) (bo rfl (df q85) rfl) (mv (vb false) (lv (cut_v) (wy rfl) (ar zs2) ?_)))))))
    refine lv (vb (pQ cut_v)) (wy rfl) (iP j6 Rcut.t rfl rfl) (lv (vb (pQ cut_v)) (wy rfl) (ar rfl) ?_)
    have q98_73:¬(pQ cut_v=true):=by exact hcn
    refine au (wn (Bool.eq_false_iff.2 q98_73)) (au (wn (Bool.eq_false_iff.2 q98_73)) (au (wn (Bool.eq_false_iff.2 q98_73)) (au (wn (Bool.eq_false_iff.2 q98_73)) (au (wn (Bool.eq_false_iff.2 q98_73)) (au (wn (Bool.eq_false_iff.2 q98_73)) (au (wn (Bool.eq_false_iff.2 q98_73)) (au (wn (Bool.eq_false_iff.2 q98_73)) (au (wn (Bool.eq_false_iff.2 q98_73)) (au (wn (Bool.eq_false_iff.2 q98_73)) ?_)))))))))
    refine au (wn (Bool.eq_false_iff.2 q98_73)) (lv (vb false) (wy rfl) (bo rfl (Bool.eq_false_iff.2 q98_73) rfl) (lw (vb false) (bo rfl rfl rfl) (ab (af rfl rfl (am (a7 (a6 rfl (mz zs8 (mi (cF g (gI (gI (aX g) (gI todo1 ((todo1.length:Int)-1))) (k:Int))) (mz zs9 ?_))))))))))
    refine lx (ad (v:=v9) (i:=cF g (gI (gI (aX g) (gI todo1 ((todo1.length:Int)-1))) (k:Int))) bF rfl rfl bx35.t.flat rfl (by omega) (by omega)) (lo (aU (i:=cF g (gI (gI (aX g) (gI todo1 ((todo1.length:Int)-1))) (k:Int))) (n:Int) ap rfl rfl bx35.t (by omega) (by omega) rfl ?_))
    intro w74 ch75 bx76
    refine ab (a6 rfl (mz zs12 (mi (cF g (gI (gI (aX g) (gI todo1 ((todo1.length:Int)-1))) (k:Int))) (lo (aq (α:=Int) g44 (is 5) (is 5) (5,0) rfl [cF g (gI (gI (aX g) (gI todo1 ((todo1.length:Int)-1))) (k:Int))] bF ap (by decide) (by decide) (vs:=[(0,vi (cF g (gI (gI (aX g) (gI todo1 ((todo1.length:Int)-1))) (k:Int))))]) rfl rfl (.cons rfl .nil) ?_)))))
    intro g77 w78 v79 ch80 o81
    refine lo ?_
    refine aS (α:=Int) (xs:=todo2) (ys:=([cF g (gI (gI (aX g) (gI todo1 ((todo1.length:Int)-1))) (k:Int))])) g77 (J:=is 4) (S:=is 4) (4,0) rfl bF ap (by decide) rfl rfl rfl o_todo2.t o81.flat (by decide) (by(simp;omega)) ?_
    intro g83 w84 v85 ch86 o87
    refine ma v85 (ab (ak ?_))
    refine a6 rfl (mz zs14 (lx (aJ (m:=↑k) (n:=1) rfl rfl (by omega)) (ai ((k:Int)+1) (ab ?_))))
    have C90:=cg [2,4] (ch75.s (ch80.o ch86.e))
    have C89:=hc55.n.seq C90
    have C88:=ch49.n.seq C89
    refine back14 (k+1,v85,(todo2++[cF g (gI (gI (aX g) (gI todo1 ((todo1.length:Int)-1))) (k:Int))]),(List.set c2 (Int.toNat (cF g (gI (gI (aX g) (gI todo1 ((todo1.length:Int)-1))) (k:Int)))) (n:Int)),g83) _ _ ⟨bH.t,zs1,zs2,zs3,zs8,zs9,zs10,zs11,rfl,zs13,rfl,Rg.t,Rgone.t,Rcut.t,bx5.t,o17.t,bx76.t,o87,by omega,?_⟩ ?_
    · show gD g (gG g gone cut) (B6 g gone cut) c (List.set c2 (Int.toNat (cF g (gI (gI (aX g) (gI todo1 ((todo1.length:Int)-1))) (k:Int)))) (n:Int)) (todo2++[cF g (gI (gI (aX g) (gI todo1 ((todo1.length:Int)-1))) (k:Int))]) n (q:Int) (gI todo1 ((todo1.length:Int)-1)) (k+1) (List.length todo1+2*ly c1)
      (rw[hfg] at*;exact hrow.push hP hkl (hrow.psg hmay (by(assumption)) hkl (by(exact tY hgo0 ‹_›)) (by(exact tY hcu0 ‹_›))) ‹_›)
    · show Int.toNat (_-_)<Int.toNat (_-_)
      omega
   refine af rfl (df p14) (aF rfl (ak ?_))
   refine back10 (todo2_v,todo2,c2,g44) _ _ ⟨bH.t,zs1,zs2,zs3,zs8,zs9,zs10,zs11,zs12,Rg.t,Rgone.t,Rcut.t,bx5.t,o17.t,bx35.t,o_todo2.t,?_⟩ ?_
   · show fx g (gG g gone cut) (B6 g gone cut) c c2 todo2 [] n (q:Int)
     exact hrow.done (by rw[<-hfg];assumption)
   · show List.length todo2+2*ly c2<List.length todo1+2*ly c1
     (have h1:=hrow.meas;omega)
  refine af rfl (df p10) (aF rfl ?_)
  refine a6 rfl (mz zs9 (lx (aJ (m:=↑n) (n:=1) rfl rfl (by omega)) (ai ((n:Int)+1) (ab (ak (a6 rfl (mz zs11 (lx (aJ (m:=↑q) (n:=1) rfl rfl (by omega)) (ai ((q:Int)+1) ?_)))))))))
  refine ab ?_
  refine back5 (n+1,q+1,c1,g38) _ _ ⟨bH.t,zs1,zs2,zs3,zs8,rfl,zs10,rfl,Rg.t,Rgone.t,Rcut.t,bx5.t,bx35.t,o17.t,by omega,?_⟩ ?_
  · show c1=(bE (gG g gone cut) gone (q+1)).1/\(n+1)=(bE (gG g gone cut) gone (q+1)).2
    exact hdf.done hP (by omega) hinv ‹_› (by(assumption))
  · show Int.toNat (_-_)<Int.toNat (_-_)
    omega
 refine af rfl (df p5) (aF rfl (a7 ?_))
 refine a6 rfl (mz zs8 (mz zs9 (ma v9 (ai (n:Int) (ab (az (vs:=[v9,vi ↑n]) Tryz.func40 (.tmp rfl (.tmp rfl .nil)) ?_))))))
 have e0:(c:List Int)=((fA g gone cut).1):=by
   exact(nn hmay (by omega) hinv).1
 have e1:((n:Int):Int)=((fA g gone cut).2):=by
   exact(nn hmay (by omega) hinv).2
 exact⟨(fin w0 g23 (λn=>if n=2 then 1 else 0),v9),(cP (a:=c) (b:=(n:Int)) (λ(z0:List Int) (z1:Int)=>Ending.returned (vt [v9,vi z1])) e0 e1),bH.t.fresh _,(e0▸(o10.t.glue (γ:=c0) (ren:=(λn=>if n=2 then 1 else 0)) (k:=1) bH.t.col rfl rfl))⟩
end TL
