import Derived.Test.YtmakonaaojadbaaBaTlP4
import Derived.Test.YtmakonaaojadbaaBaTlGmA
import Derived.Test.YtmakonaaojadbaaBaTlGenA
import Derived.Test.YtmakonaaojadbaaProg
import Derived.Test.YtmakonaaojadbaaBaTlAli
set_option linter.all false
set_option maxRecDepth 20000
namespace TL
open Go Go.Proofs
theorem kS:Try.prog.follows .mixedOrders=true:=by kernel_rfl
theorem gZ:Tp Try.prog 4 false 1 1 (.bool false):=Tp.of (by kernel_rfl)
theorem cO:Tp Try.prog 24 true 2 32 (.agg #[.int .i64 0,.slice none 0 0]):=Tp.of (by kernel_rfl)
theorem bh:Tp Try.prog 32 false 1 24 (.slice none 0 0):=Tp.of (by kernel_rfl)
theorem iZ:Try.f34.body.isNone=false:=rfl
theorem iY:(Try.f34.name== "runtime.NumGoroutine")=false:=by decide+kernel
theorem oA:Try.f42.body.isNone=false:=rfl
theorem oB:(Try.f42.name== "runtime.NumGoroutine")=false:=by decide+kernel
theorem lK:Try.f43.body.isNone=false:=rfl
theorem lU:(Try.f43.name== "runtime.NumGoroutine")=false:=by decide+kernel
theorem ta:Try.f51.body.isNone=false:=rfl
theorem sZ:(Try.f51.name== "runtime.NumGoroutine")=false:=by decide+kernel
theorem j8(w0:World)(g:(Int)×(List Pt))(g_v:Value)(hg_v:Ro w0 g_v g.2)(h:Int)(hh:0<=h/\h<2*(g.2.length:Int))(hlen:g.2.length<=1000000):
    Calls Try.prog 34 #[vg [vi g.1,g_v],vi h] w0 (λee w=>ee= .returned (vi (aw g h))/\dT w0.heap.size w0 w):=by
 refine aC Try.func34 rfl nq ?_
 have bH:=bv.start w0
 have Rg:=hg_v.sl
 obtain⟨hh1,hh2⟩:=hh
 refine ab (a8 rfl (db rfl (d4 c0 (is 1) (1,0) rfl rfl ?_)))
 intro g4 w1 b3 ch2 bx5
 replace bx5:Bx g4 (is 1) w1 b3 [vi g.1,g_v]:=bx5
 refine ai 0 (ag (ab (a8 rfl (lx (ad cZ rfl rfl rfl rfl) (lx (af bC rfl bx5 rfl) (mi h (lx (fe (m:=h) (n:=2) rfl rfl (by omega) (by omega) (by omega)) (mi h (lx (jT (m:=h) (n:=2) rfl rfl (by omega) (by omega)) ?_)))))))))
 replace Rg:=Rg.cn ch2
 refine lx (ae (v:=g_v) (i:=h/2) dD rfl rfl Rg rfl (by omega) (by omega)) (lx (bM (i:=h%2) dg rfl rfl rfl (by omega) (by omega) (Nat.mul_one _)) (lx (cw (v:=g_v) (i:=h/2) ah rfl Rg (by omega) (by omega) (show Int.toNat (h%2)<2 by omega) (fg _ (by omega) (by omega))) (ai (pI (gI g.2 (h/2)) (h%2)) (ag (aQ (vs:=[vi (pI (gI g.2 (h/2)) (h%2))]) Try.func34 (.tmp rfl .nil) ?_)))))
 have e0:(pI (gI g.2 (h/2)) (h%2):Int)=(aw g h):=by
   rfl
 replace bH:=bH.cn ch2
 exact⟨(congrArg (a₁:=pI (gI g.2 (h/2)) (h%2)) (λ(z0:Int)=>Ending.returned (vi z0)) e0),bH.below⟩
theorem oa(w0:World)(g:(Int)×(List Pt))(g_v:Value)(hg_v:Ro w0 g_v g.2)(h:Int)(hh:0<=h/\h<2*(g.2.length:Int))(hlen:g.2.length<=1000000):
    Calls Try.prog 43 #[vg [vi g.1,g_v],vi h] w0 (λee w=>ee= .returned (vi (b6 g h))/\dT w0.heap.size w0 w):=by
 refine aC Try.func43 rfl nq ?_
 have bH:=bv.start w0
 have Rg:=hg_v.sl
 obtain⟨hh1,hh2⟩:=hh
 refine ab (a8 rfl (db rfl (d4 c0 (is 1) (1,0) rfl rfl ?_)))
 intro g4 w1 b3 ch2 bx5
 replace bx5:Bx g4 (is 1) w1 b3 [vi g.1,g_v]:=bx5
 refine ai 0 (ag (ab (a8 rfl (lx (ad cZ rfl rfl rfl rfl) (lx (af bC rfl bx5 rfl) (mi h (lx (fe (m:=h) (n:=2) rfl rfl (by omega) (by omega) (by omega)) (mi h (lx (jT (m:=h) (n:=2) rfl rfl (by omega) (by omega)) (lx (dm (m:=1) (n:=h%2) rfl rfl (by omega)) ?_))))))))))
 replace Rg:=Rg.cn ch2
 refine lx (ae (v:=g_v) (i:=h/2) dD rfl rfl Rg rfl (by omega) (by omega)) (lx (bM (i:=1-(h%2)) dg rfl rfl rfl (by omega) (by omega) (Nat.mul_one _)) (lx (cw (v:=g_v) (i:=h/2) ah rfl Rg (by omega) (by omega) (show Int.toNat (1-(h%2))<2 by omega) (fg _ (by omega) (by omega))) (ai (pI (gI g.2 (h/2)) (1-(h%2))) (ag (aQ (vs:=[vi (pI (gI g.2 (h/2)) (1-(h%2)))]) Try.func43 (.tmp rfl .nil) ?_)))))
 have e0:(pI (gI g.2 (h/2)) (1-(h%2)):Int)=(b6 g h):=by
   rfl
 replace bH:=bH.cn ch2
 exact⟨(congrArg (a₁:=pI (gI g.2 (h/2)) (1-(h%2))) (λ(z0:Int)=>Ending.returned (vi z0)) e0),bH.below⟩
theorem rN(w0:World)(n:Int)(x:Int)(hn:0<=n/\n<=1000000):
    Calls Try.prog 51 #[vi n,vi x] w0 (λee w=>∃xx:aJ×Value,ee= .returned ((λ⟨δ,rv0⟩=>rv0) xx)/\(λ(⟨δ,rv0⟩:aJ×Value) (w:World)=>fv w0 δ w/\Ow δ (is 1) (is 1) w rv0 (List.replicate n.toNat x)) xx w):=by
 refine aC Try.func51 rfl nq ?_
 have bH:=bv.start w0
 obtain⟨hn1,hn2⟩:=hn
 have hrep:((List.replicate n.toNat (0:Int)).length:Int)=n:=by simp;omega
 refine ab (a8 rfl (ma vn (ag (ab (a8 rfl (mi n (lo (cW (α:=Int) (l:=n) (cp:=n) c0 (is 1) (is 1) (1,0) rfl (0:Int) bf ah rfl rfl rfl (by omega) (by omega) (by omega) (by omega) ?_))))))))
 intro g1 w2 v3 ch4 o5 _
 refine ma v3 (ag (ab (ab (a8 rfl (ai 0 (ag (ar ?_)))))))
 refine bc (σ:=Nat×(List Int)×aJ) (λ⟨i,l,gq⟩ f w=>bv w0 gq w/\f 0=vi n/\f 1=vi x/\f 5=v3/\f 6=vi ↑i/\Ow gq (is 1) (is 1) w v3 l/\(i:Int)<=(n:Int)/\(l=List.replicate i x++List.replicate (n.toNat-i) 0/\(i:Int)<=n)) (λ⟨i,l,gq⟩=>Int.toNat ((n:Int)-(i:Int))) (0,(List.replicate (Int.toNat n) (0:Int)),g1) ?_ ?_
 · exact⟨bH.cn ch4,rfl,rfl,rfl,rfl,o5,by omega,by exact⟨by simp,by omega⟩⟩
 clear o5 bH
 rintro⟨i,l,g8⟩ f6 w7 ⟨bH,zs0,zs1,zs5,zs6,o5,hle_i,hinv⟩ back3
 have hll:l.length=n.toNat:=by rw[hinv.1];simp;omega
 refine ab (ab (a8 rfl (mz zs6 (mz zs0 (lx (bn (m:=↑i) (n:=n) rfl rfl) (ag ?_))))))
 by_cases p3:(i:Int)<n
 ·
  refine al rfl (dt p3) (av (ab (ar (a8 rfl (mz zs5 (mz zs6 (mz zs1 (lx (ae (v:=v3) (i:=↑i) bf rfl rfl o5.flat rfl (by omega) (by omega)) (lo ?_)))))))))
  refine aD (i:=↑i) x ah rfl rfl o5 (by omega) (by omega) rfl ?_
  intro w9 ch10 bx11
  clear o5
  refine ag (ak (a8 rfl (mz zs6 (lx (aG (m:=↑i) (n:=1) rfl rfl (by omega)) (ai ((i:Int)+1) (ag ?_))))))
  refine back3 (i+1,(List.set l (Int.toNat ↑i) x),g8) _ _ ⟨bH.ce ch10,zs0,zs1,zs5,rfl,bx11,by omega,?_⟩ ?_
  · show(List.set l (Int.toNat ↑i) x)=List.replicate (i+1) x++List.replicate (n.toNat-(i+1)) 0/\((i+1):Int)<=n
    have hk1:i<n.toNat:=by simp at*;omega
    refine⟨by rw[hinv.1];exact qb hk1,by omega⟩
  · show Int.toNat ((n:Int)-((i+1):Int))<Int.toNat ((n:Int)-(i:Int))
    omega
 refine aj rfl (df p3) (aF rfl (ab (a8 rfl (mz zs5 (ma v3 (ag (aQ (vs:=[v3]) Try.func51 (.tmp rfl .nil) ?_)))))))
 have e0:(l:List Int)=(List.replicate n.toNat x):=by
   obtain⟨h1,h2⟩:=hinv
   have hk:i=n.toNat:=by simp at*;omega
   subst hk;rw[h1];simp
 exact⟨(fin w0 g8 (λn=>if n=1 then 1 else 0),v3),(congrArg (a₁:=l) (λ(z0:List Int)=>Ending.returned (v3)) e0),bH.fresh _,(e0▸(o5.glue (γ:=c0) (ren:=(λn=>if n=1 then 1 else 0)) (k:=1) bH.col rfl rfl))⟩
theorem mK(w0:World)(g:(Int)×(List Pt))(g_v:Value)(hg_v:Ro w0 g_v g.2)(hmay:bg g):
    Calls Try.prog 42 #[vg [vi g.1,g_v]] w0 (λee w=>∃xx:aJ×Value,ee= .returned ((λ⟨δ,rv0⟩=>rv0) xx)/\(λ(⟨δ,rv0⟩:aJ×Value) (w:World)=>fv w0 δ w/\cP δ 1 w rv0 (am g)) xx w):=by
 refine aC Try.func42 rfl nq ?_
 have bH:=bv.start w0
 have Rg:=hg_v.sl
 have hm0:=hmay
 obtain⟨hm1,hm2,hm3,hm4⟩:=hm0
 refine ab (a8 rfl (db rfl (d4 c0 (is 1) (1,0) rfl rfl ?_)))
 intro g4 w1 b3 ch2 bx5
 replace bx5:Bx g4 (is 1) w1 b3 [vi g.1,g_v]:=bx5
 refine ma vn (ag (ab (a8 rfl (lx (ad cZ rfl rfl rfl rfl) (lx (af ah rfl bx5 rfl) (lo (iw (α:=Int) (n:=g.1) (cp:=g.1) g4 2 dB bh rfl rfl rfl (by omega) (by omega) (by omega) (by omega) ?_)))))))
 intro g6 w7 v8 ch9 o10
 refine ma v8 (ag (ab (ab (a8 rfl (ai 0 (ag (ar ?_)))))))
 refine bc (σ:=Nat×gC×aJ) (λ⟨h,O,gq⟩ f w=>bv w0 gq w/\f 1=vp b3 0/\f 3=v8/\f 4=vi ↑h/\Sl gq (is 0) w g_v g.2/\Bx gq (is 1) w b3 [vi g.1,g_v]/\cP gq 2 w v8 O/\(h:Int)<=(2*(g.2.length:Int):Int)/\(eB O g h)) (λ⟨h,O,gq⟩=>Int.toNat ((2*(g.2.length:Int):Int)-(h:Int))) (0,(List.replicate (Int.toNat g.1) []),g6) ?_ ?_
 replace bH:=bH.cn ch2
 · exact⟨bH.cn ch9,rfl,rfl,rfl,(Rg.cn ch2).cn ch9,bx5.cn ch9,o10,by omega,by exact eB.start hm1⟩
 clear Rg bx5 o10 bH
 rintro⟨h,O,g13⟩ f11 w12 ⟨bH,zs1,zs3,zs4,Rg,bx5,o10,hle_h,hov⟩ back3
 have hol:=hov.len
 refine ab (ab (a8 rfl (mz zs4 (lx (ad cZ rfl rfl zs1 rfl) (lx (af bC rfl bx5 rfl) ?_)))))
 have len14:=(Rg).small
 refine lx (bu dD rfl Rg) (lx (mO (m:=2) (n:=(g.2.length:Int)) rfl rfl (by omega)) (lx (bn (m:=↑h) (n:=2*(g.2.length:Int)) rfl rfl) (ag ?_)))
 by_cases p3:(h:Int)<(2*(g.2.length:Int))
 ·
  refine al rfl (dt p3) ?_
  obtain⟨hf1,fM⟩:=rC hmay (h:=(h:Int)) (by omega) (by omega)
  have hbd:=hov.bd hf1 fM
  refine av (ab (ar ?_))
  refine d3 (σ:=aJ) (λgq f w=>bv w0 gq w/\f 1=vp b3 0/\f 3=v8/\f 4=vi ↑h/\Sl gq (is 0) w g_v g.2/\Bx gq (is 1) w b3 [vi g.1,g_v]/\cP gq 2 w v8 (List.set O (Int.toNat (aw g (h:Int))) (gI O (aw g (h:Int))++[(h:Int)]))) g13 (inl [2]) kS ?_ ?_
  ·
   intro mid
   intro w16 ch15
   refine ht (v:=v8) 0 rfl (bp.refl _ _ _) (λw' hw'=>au zs3) ?_
   replace bx5:=bx5.cn ch15
   refine ht 1 rfl (bp.refl _ _ _) (λw' hw'=>aB (ds:=[vi g.1,g_v]) cO zs1 (bx5.chg hw' (bZ rfl)) rfl rfl) (ht (v:=vi ↑h) 2 rfl (bp.refl _ _ _) (λw' hw'=>au zs4) (ht (v:=v8) 4 rfl (bp.refl _ _ _) (λw' hw'=>au zs3) (ht 5 rfl (bp.refl _ _ _) (λw' hw'=>aB (ds:=[vi g.1,g_v]) cO zs1 (bx5.chg hw' (bZ rfl)) rfl rfl) (ht (v:=vi ↑h) 6 rfl (bp.refl _ _ _) (λw' hw'=>au zs4) (ht (v:=vi ↑h) 10 rfl (bp.refl _ _ _) (λw' hw'=>au zs4) ?_)))))
   refine cD 3 [11] (by kernel_rfl) ⟨cA 3 rfl (by kernel_rfl) rfl ?_,cA 11 rfl (by kernel_rfl) rfl ?_,trivial⟩
   ·
    replace Rg:=Rg.cn ch15
    refine cC (v:=vi (aw g (h:Int))) (b9 (vals:=[vg [vi g.1,g_v],vi ↑h]) Try.func34 iZ iY rfl) (j8 w16 g g_v (Rg).ro (h:Int) (by omega) (by omega)) ?_
    intro w17 hb18
    replace hb18:=aS hb18 g13
    have hs19:bp (inl [2]) _ _ _ _:=hb18.n
    refine⟨hs19.same,?_⟩
    refine cD 7 [11] (by kernel_rfl) ⟨cA 7 rfl (by kernel_rfl) rfl ?_,cA 11 rfl (by kernel_rfl) rfl ?_,trivial⟩
    ·
     refine cC (v:=vi (aw g (h:Int))) (b9 (vals:=[vg [vi g.1,g_v],vi ↑h]) Try.func34 iZ iY rfl) (j8 w17 g g_v ((Rg.ca hs19)).ro (h:Int) (by omega) (by omega)) ?_
     intro w20 hb21
     replace hb21:=aS hb21 g13
     have hs22:=hs19.seq (hb21.n)
     refine⟨hs22.same,?_⟩
     refine cD 8 [11] (by kernel_rfl) ⟨cA 8 rfl (by kernel_rfl) rfl ?_,cA 11 rfl (by kernel_rfl) rfl ?_,trivial⟩
     ·
      have C23:=cg [] (ch15.n.seq (hb18.n.seq hb21.n))
      replace o10:=o10.ca C23
      refine az (v:=Value.pointer (some (aZ v8 1 (Int.toNat (aw g (h:Int)))))) (ae (α:=List Int) (xs:=O) (v:=v8) (i:=aw g (h:Int)) dB rfl rfl o10.sl rfl (by omega) (by omega)) ?_
      refine⟨hs22.same,?_⟩
      refine cD 9 [11] (by kernel_rfl) ⟨cA 9 rfl (by kernel_rfl) rfl ?_,cA 11 rfl (by kernel_rfl) rfl ?_,trivial⟩
      ·
       obtain⟨v24,cel25,r26⟩:=bR (r:=aw g (h:Int)) o10 (by omega) (by omega)
       refine az (v:=v24) (bB bh rfl cel25) ?_
       refine⟨hs22.same,?_⟩
       refine aV 11 rfl (by kernel_rfl) rfl (aM (α:=Int) g13 (is 3) (is 3) (3,0) rfl [(h:Int)] bf ah (by decide) (by decide) (vs:=[(0,vi ↑h)]) rfl rfl (.cons rfl .nil) ?_)
       intro g27 w28 v29 ch30 o31
       have hs32:=hs22.seq (ch30.n)
       refine⟨hs32.same,?_⟩
       refine aV 12 rfl (by kernel_rfl) rfl ?_
       replace o10:=o10.cn ch30
       replace r26:=r26.cn ch30
       refine bD (α:=Int) (xs:=(gI O (aw g (h:Int)))) (ys:=([(h:Int)])) g27 (J:=row 2 (Int.toNat (aw g (h:Int))+1)) (S:=row 2 (Int.toNat (aw g (h:Int))+1)) (2,Int.toNat (aw g (h:Int))+1) rfl bf ah (by decide) rfl rfl rfl r26 o31.flat (by decide) (by(simp;omega)) ?_
       intro g33 w34 v35 ch36 o37
       have o38:=o10.rowchg ch36
       clear o10 cel25 r26
       have hs39:=hs32.seq (ch36.lr rfl)
       refine⟨hs39.same,?_⟩
       refine aV 13 rfl (by kernel_rfl) rfl ?_
       obtain⟨us40,hl41,r42⟩:=o38.vc
       try simp only[List.length_set,List.length_append,List.length_cons,List.length_nil] at hl41
       refine az (v:=Value.pointer (some (aZ v8 1 (Int.toNat (aw g (h:Int)))))) (ae (α:=Vc) (xs:=us40) (v:=v8) (i:=aw g (h:Int)) dB rfl rfl r42 rfl (by omega) (by omega)) ?_
       refine⟨hs39.same,?_⟩
       refine aV 14 rfl (by kernel_rfl) rfl (c5 (r:=aw g (h:Int)) bh rfl rfl o38 o37 (by omega) (by omega) ?_)
       intro w46 ch47 o48
       clear o38 o37
       have hs49:=hs39.seq (ch47.l rfl)
       refine⟨hs49.same,?_⟩
       refine cy (by kernel_rfl) ?_
       have C50:=cg [2] (ch15.n.seq (hb18.n.seq (hb21.n.seq (ch30.n.seq ((ch36.lr rfl).seq (ch47.l rfl))))))
       exact mid (g33) _ _ ⟨bH.ca C50,zs1,zs3,zs4,(Rg.ca hs49),(bx5.ca hs49),o48⟩
      ·
       refine aM (α:=Int) g13 (is 3) (is 3) (3,0) rfl [(h:Int)] bf ah (by decide) (by decide) (vs:=[(0,vi ↑h)]) rfl rfl (.cons rfl .nil) ?_
       intro g51 w52 v53 ch54 o55
       have hs56:=hs22.seq (ch54.n)
       refine⟨hs56.same,?_⟩
       refine aV 9 rfl (by kernel_rfl) rfl ?_
       replace o10:=o10.cn ch54
       obtain⟨v57,cel58,r59⟩:=bR (r:=aw g (h:Int)) o10 (by omega) (by omega)
       refine az (v:=v57) (bB bh rfl cel58) ?_
       refine⟨hs56.same,?_⟩
       refine aV 12 rfl (by kernel_rfl) rfl (bD (α:=Int) (xs:=(gI O (aw g (h:Int)))) (ys:=([(h:Int)])) g51 (J:=row 2 (Int.toNat (aw g (h:Int))+1)) (S:=row 2 (Int.toNat (aw g (h:Int))+1)) (2,Int.toNat (aw g (h:Int))+1) rfl bf ah (by decide) rfl rfl rfl r59 o55.flat (by decide) (by(simp;omega)) ?_)
       intro g60 w61 v62 ch63 o64
       have o65:=o10.rowchg ch63
       clear o10 cel58 r59
       have hs66:=hs56.seq (ch63.lr rfl)
       refine⟨hs66.same,?_⟩
       refine aV 13 rfl (by kernel_rfl) rfl ?_
       obtain⟨us67,hl68,r69⟩:=o65.vc
       try simp only[List.length_set,List.length_append,List.length_cons,List.length_nil] at hl68
       refine az (v:=Value.pointer (some (aZ v8 1 (Int.toNat (aw g (h:Int)))))) (ae (α:=Vc) (xs:=us67) (v:=v8) (i:=aw g (h:Int)) dB rfl rfl r69 rfl (by omega) (by omega)) ?_
       refine⟨hs66.same,?_⟩
       refine aV 14 rfl (by kernel_rfl) rfl (c5 (r:=aw g (h:Int)) bh rfl rfl o65 o64 (by omega) (by omega) ?_)
       intro w73 ch74 o75
       clear o65 o64
       have hs76:=hs66.seq (ch74.l rfl)
       refine⟨hs76.same,?_⟩
       refine cy (by kernel_rfl) ?_
       have C77:=cg [2] (ch15.n.seq (hb18.n.seq (hb21.n.seq (ch54.n.seq ((ch63.lr rfl).seq (ch74.l rfl))))))
       exact mid (g60) _ _ ⟨bH.ca C77,zs1,zs3,zs4,(Rg.ca hs76),(bx5.ca hs76),o75⟩
     ·
      refine aM (α:=Int) g13 (is 3) (is 3) (3,0) rfl [(h:Int)] bf ah (by decide) (by decide) (vs:=[(0,vi ↑h)]) rfl rfl (.cons rfl .nil) ?_
      intro g78 w79 v80 ch81 o82
      have hs83:=hs22.seq (ch81.n)
      refine⟨hs83.same,?_⟩
      refine aV 8 rfl (by kernel_rfl) rfl ?_
      have C84:=cg [] (ch15.n.seq (hb18.n.seq (hb21.n.seq ch81.n)))
      replace o10:=o10.ca C84
      refine az (v:=Value.pointer (some (aZ v8 1 (Int.toNat (aw g (h:Int)))))) (ae (α:=List Int) (xs:=O) (v:=v8) (i:=aw g (h:Int)) dB rfl rfl o10.sl rfl (by omega) (by omega)) ?_
      refine⟨hs83.same,?_⟩
      refine aV 9 rfl (by kernel_rfl) rfl ?_
      obtain⟨v85,cel86,r87⟩:=bR (r:=aw g (h:Int)) o10 (by omega) (by omega)
      refine az (v:=v85) (bB bh rfl cel86) ?_
      refine⟨hs83.same,?_⟩
      refine aV 12 rfl (by kernel_rfl) rfl (bD (α:=Int) (xs:=(gI O (aw g (h:Int)))) (ys:=([(h:Int)])) g78 (J:=row 2 (Int.toNat (aw g (h:Int))+1)) (S:=row 2 (Int.toNat (aw g (h:Int))+1)) (2,Int.toNat (aw g (h:Int))+1) rfl bf ah (by decide) rfl rfl rfl r87 o82.flat (by decide) (by(simp;omega)) ?_)
      intro g88 w89 v90 ch91 o92
      have o93:=o10.rowchg ch91
      clear o10 cel86 r87
      have hs94:=hs83.seq (ch91.lr rfl)
      refine⟨hs94.same,?_⟩
      refine aV 13 rfl (by kernel_rfl) rfl ?_
      obtain⟨us95,hl96,r97⟩:=o93.vc
      try simp only[List.length_set,List.length_append,List.length_cons,List.length_nil] at hl96
      refine az (v:=Value.pointer (some (aZ v8 1 (Int.toNat (aw g (h:Int)))))) (ae (α:=Vc) (xs:=us95) (v:=v8) (i:=aw g (h:Int)) dB rfl rfl r97 rfl (by omega) (by omega)) ?_
      refine⟨hs94.same,?_⟩
      refine aV 14 rfl (by kernel_rfl) rfl (c5 (r:=aw g (h:Int)) bh rfl rfl o93 o92 (by omega) (by omega) ?_)
      intro w101 ch102 o103
      clear o93 o92
      have hs104:=hs94.seq (ch102.l rfl)
      refine⟨hs104.same,?_⟩
      refine cy (by kernel_rfl) ?_
      have C105:=cg [2] (ch15.n.seq (hb18.n.seq (hb21.n.seq (ch81.n.seq ((ch91.lr rfl).seq (ch102.l rfl))))))
      exact mid (g88) _ _ ⟨bH.ca C105,zs1,zs3,zs4,(Rg.ca hs104),(bx5.ca hs104),o103⟩
    ·
     refine aM (α:=Int) g13 (is 3) (is 3) (3,0) rfl [(h:Int)] bf ah (by decide) (by decide) (vs:=[(0,vi ↑h)]) rfl rfl (.cons rfl .nil) ?_
     intro g106 w107 v108 ch109 o110
     have hs111:=hs19.seq (ch109.n)
     refine⟨hs111.same,?_⟩
     refine aV 7 rfl (by kernel_rfl) rfl (cC (v:=vi (aw g (h:Int))) (b9 (vals:=[vg [vi g.1,g_v],vi ↑h]) Try.func34 iZ iY rfl) (j8 w107 g g_v ((Rg.ca hs111)).ro (h:Int) (by omega) (by omega)) ?_)
     intro w112 hb113
     replace hb113:=aS hb113 g106
     have hs114:=hs111.seq (hb113.n)
     refine⟨hs114.same,?_⟩
     refine aV 8 rfl (by kernel_rfl) rfl ?_
     have C115:=cg [] (ch15.n.seq (hb18.n.seq (ch109.n.seq hb113.n)))
     replace o10:=o10.ca C115
     refine az (v:=Value.pointer (some (aZ v8 1 (Int.toNat (aw g (h:Int)))))) (ae (α:=List Int) (xs:=O) (v:=v8) (i:=aw g (h:Int)) dB rfl rfl o10.sl rfl (by omega) (by omega)) ?_
     refine⟨hs114.same,?_⟩
     refine aV 9 rfl (by kernel_rfl) rfl ?_
     obtain⟨v116,cel117,r118⟩:=bR (r:=aw g (h:Int)) o10 (by omega) (by omega)
     refine az (v:=v116) (bB bh rfl cel117) ?_
     refine⟨hs114.same,?_⟩
     refine aV 12 rfl (by kernel_rfl) rfl ?_
     replace o110:=o110.cn hb113
     refine bD (α:=Int) (xs:=(gI O (aw g (h:Int)))) (ys:=([(h:Int)])) g106 (J:=row 2 (Int.toNat (aw g (h:Int))+1)) (S:=row 2 (Int.toNat (aw g (h:Int))+1)) (2,Int.toNat (aw g (h:Int))+1) rfl bf ah (by decide) rfl rfl rfl r118 o110.flat (by decide) (by(simp;omega)) ?_
     intro g119 w120 v121 ch122 o123
     have o124:=o10.rowchg ch122
     clear o10 cel117 r118
     have hs125:=hs114.seq (ch122.lr rfl)
     refine⟨hs125.same,?_⟩
     refine aV 13 rfl (by kernel_rfl) rfl ?_
     obtain⟨us126,hl127,r128⟩:=o124.vc
     try simp only[List.length_set,List.length_append,List.length_cons,List.length_nil] at hl127
     refine az (v:=Value.pointer (some (aZ v8 1 (Int.toNat (aw g (h:Int)))))) (ae (α:=Vc) (xs:=us126) (v:=v8) (i:=aw g (h:Int)) dB rfl rfl r128 rfl (by omega) (by omega)) ?_
     refine⟨hs125.same,?_⟩
     refine aV 14 rfl (by kernel_rfl) rfl (c5 (r:=aw g (h:Int)) bh rfl rfl o124 o123 (by omega) (by omega) ?_)
     intro w132 ch133 o134
     clear o124 o123
     have hs135:=hs125.seq (ch133.l rfl)
     refine⟨hs135.same,?_⟩
     refine cy (by kernel_rfl) ?_
     have C136:=cg [2] (ch15.n.seq (hb18.n.seq (ch109.n.seq (hb113.n.seq ((ch122.lr rfl).seq (ch133.l rfl))))))
     exact mid (g119) _ _ ⟨bH.ca C136,zs1,zs3,zs4,(Rg.ca hs135),(bx5.ca hs135),o134⟩
   ·
    refine aM (α:=Int) g13 (is 3) (is 3) (3,0) rfl [(h:Int)] bf ah (by decide) (by decide) (vs:=[(0,vi ↑h)]) rfl rfl (.cons rfl .nil) ?_
    intro g137 w138 v139 ch140 o141
    have hs142:bp (inl [2]) _ _ _ _:=ch140.n
    refine⟨hs142.same,?_⟩
    refine aV 3 rfl (by kernel_rfl) rfl ?_
    replace Rg:=Rg.cn ch15
    refine cC (v:=vi (aw g (h:Int))) (b9 (vals:=[vg [vi g.1,g_v],vi ↑h]) Try.func34 iZ iY rfl) (j8 w138 g g_v ((Rg.ca hs142)).ro (h:Int) (by omega) (by omega)) ?_
    intro w143 hb144
    replace hb144:=aS hb144 g137
    have hs145:=hs142.seq (hb144.n)
    refine⟨hs145.same,?_⟩
    refine aV 7 rfl (by kernel_rfl) rfl (cC (v:=vi (aw g (h:Int))) (b9 (vals:=[vg [vi g.1,g_v],vi ↑h]) Try.func34 iZ iY rfl) (j8 w143 g g_v ((Rg.ca hs145)).ro (h:Int) (by omega) (by omega)) ?_)
    intro w146 hb147
    replace hb147:=aS hb147 g137
    have hs148:=hs145.seq (hb147.n)
    refine⟨hs148.same,?_⟩
    refine aV 8 rfl (by kernel_rfl) rfl ?_
    have C149:=cg [] (ch15.n.seq (ch140.n.seq (hb144.n.seq hb147.n)))
    replace o10:=o10.ca C149
    refine az (v:=Value.pointer (some (aZ v8 1 (Int.toNat (aw g (h:Int)))))) (ae (α:=List Int) (xs:=O) (v:=v8) (i:=aw g (h:Int)) dB rfl rfl o10.sl rfl (by omega) (by omega)) ?_
    refine⟨hs148.same,?_⟩
    refine aV 9 rfl (by kernel_rfl) rfl ?_
    obtain⟨v150,cel151,r152⟩:=bR (r:=aw g (h:Int)) o10 (by omega) (by omega)
    refine az (v:=v150) (bB bh rfl cel151) ?_
    refine⟨hs148.same,?_⟩
    refine aV 12 rfl (by kernel_rfl) rfl ?_
    replace o141:=(o141.cn hb144).cn hb147
    refine bD (α:=Int) (xs:=(gI O (aw g (h:Int)))) (ys:=([(h:Int)])) g137 (J:=row 2 (Int.toNat (aw g (h:Int))+1)) (S:=row 2 (Int.toNat (aw g (h:Int))+1)) (2,Int.toNat (aw g (h:Int))+1) rfl bf ah (by decide) rfl rfl rfl r152 o141.flat (by decide) (by(simp;omega)) ?_
    intro g153 w154 v155 ch156 o157
    have o158:=o10.rowchg ch156
    clear o10 cel151 r152
    have hs159:=hs148.seq (ch156.lr rfl)
    refine⟨hs159.same,?_⟩
    refine aV 13 rfl (by kernel_rfl) rfl ?_
    obtain⟨us160,hl161,r162⟩:=o158.vc
    try simp only[List.length_set,List.length_append,List.length_cons,List.length_nil] at hl161
    refine az (v:=Value.pointer (some (aZ v8 1 (Int.toNat (aw g (h:Int)))))) (ae (α:=Vc) (xs:=us160) (v:=v8) (i:=aw g (h:Int)) dB rfl rfl r162 rfl (by omega) (by omega)) ?_
    refine⟨hs159.same,?_⟩
    refine aV 14 rfl (by kernel_rfl) rfl (c5 (r:=aw g (h:Int)) bh rfl rfl o158 o157 (by omega) (by omega) ?_)
    intro w166 ch167 o168
    clear o158 o157
    have hs169:=hs159.seq (ch167.l rfl)
    refine⟨hs169.same,?_⟩
    refine cy (by kernel_rfl) ?_
    have C170:=cg [2] (ch15.n.seq (ch140.n.seq (hb144.n.seq (hb147.n.seq ((ch156.lr rfl).seq (ch167.l rfl))))))
    exact mid (g153) _ _ ⟨bH.ca C170,zs1,zs3,zs4,(Rg.ca hs169),(bx5.ca hs169),o168⟩
  clear Rg bx5 o10 bH
  rintro g173 f171 w172 ⟨bH,zs1,zs3,zs4,Rg,bx5,o48⟩
  refine ak (a8 rfl (mz zs4 (lx (aG (m:=↑h) (n:=1) rfl rfl (by omega)) (ai ((h:Int)+1) (ag ?_)))))
  refine back3 (h+1,(List.set O (Int.toNat (aw g (h:Int))) (gI O (aw g (h:Int))++[(h:Int)])),g173) _ _ ⟨bH,zs1,zs3,rfl,Rg,bx5,o48,by omega,?_⟩ ?_
  · show eB (List.set O (Int.toNat (aw g (h:Int))) (gI O (aw g (h:Int))++[(h:Int)])) g (h+1)
    exact hov.next hf1 fM
  · show Int.toNat ((2*(g.2.length:Int):Int)-((h+1):Int))<Int.toNat ((2*(g.2.length:Int):Int)-(h:Int))
    omega
 refine aj rfl (df p3) (aF rfl (ab ?_))
 clear bx5
 refine a8 rfl (mz zs3 (ma v8 (ag (aQ (vs:=[v8]) Try.func42 (.tmp rfl .nil) ?_))))
 have e0:(O:gC)=(am g):=by
   exact hov.done (by omega)
 exact⟨(fin w0 g13 (λn=>if n=2 then 1 else 0),v8),(congrArg (a₁:=O) (λ(z0:gC)=>Ending.returned (v8)) e0),bH.fresh _,(e0▸(o10.glue (γ:=c0) (ren:=(λn=>if n=2 then 1 else 0)) (k:=1) bH.col rfl rfl))⟩
set_option maxHeartbeats 4000000 in
theorem gF(w0:World)(g:(Int)×(List Pt))(g_v:Value)(hg_v:Ro w0 g_v g.2)(gone:List Bool)(gone_v:Value)(hgone_v:Ro w0 gone_v gone)(cut:List Bool)(cut_v:Value)(hcut_v:Ro w0 cut_v cut)(hmay:bg g)(hgo:me gone_v=true->(gone.length:Int)=g.1)(hcu:me cut_v=true->(cut.length:Int)=g.2.length):
    Calls Try.prog 31 #[vg [vi g.1,g_v],gone_v,cut_v] w0 (λee w=>∃xx:aJ×Value,ee= .returned ((λ⟨δ,rv0⟩=>vt [rv0,vi ((b7 g gone cut).2)]) xx)/\(λ(⟨δ,rv0⟩:aJ×Value) (w:World)=>fv w0 δ w/\Ow δ (is 1) (is 1) w rv0 ((b7 g gone cut).1)) xx w):=by
 refine aC Try.func31 rfl nq ?_
 have bH:=bv.start w0
 have Rg:=hg_v.sl
 have Rgone:=hgone_v.sl
 have Rcut:=hcut_v.sl
 have hm0:=hmay
 obtain⟨hm1,hm2,hm3,hm4⟩:=hm0
 have hfl:=lp g hm1
 have hgo0:=qu hgone_v
 have hcu0:=qu hcut_v
 have hP:=hG (gone:=gone) (cut:=cut) hmay
 refine ab (a8 rfl (db rfl (d4 c0 (is 1) (1,0) rfl rfl ?_)))
 intro g4 w1 b3 ch2 bx5
 replace bx5:Bx g4 (is 1) w1 b3 [vi g.1,g_v]:=bx5
 refine ma vn (ai 0 (ag (ab (a8 rfl (lx (ad cZ rfl rfl rfl rfl) (lx (af ah rfl bx5 rfl) (lo (ck (b9 (vals:=[vi g.1,vi (-1)]) Try.func51 ta sZ rfl) (rN w1 g.1 (-1) (by omega)) ?_))))))))
 rintro⟨d7,v9⟩ w6 ⟨fr8,o10⟩
 obtain⟨g11,ch12,G11⟩:=jh g4 fr8 (λn=>if n=1 then 2 else 0)
 replace o10:=o10.gl G11 2
 refine ma v9 (ag (ab (a8 rfl (ai 0 (ag (ab (a8 rfl ?_)))))))
 replace bx5:=bx5.cn ch12
 refine lx (aB (ds:=[vi g.1,g_v]) cO rfl bx5 rfl rfl) ?_
 replace Rg:=(Rg.cn ch2).cn ch12
 refine lo (ck (b9 (vals:=[vg [vi g.1,g_v]]) Try.func42 oA oB rfl) (mK w6 g g_v (Rg).ro ‹_›) ?_)
 rintro⟨d14,v16⟩ w13 ⟨fr15,o17⟩
 obtain⟨g18,ch19,G18⟩:=jh g11 fr15 (λn=>if n=1 then 3 else 0)
 replace o17:=o17.gl G18 3
 refine ma v16 (ag (ab (ab (a8 rfl (ai 0 (ag (ar ?_)))))))
 refine bc (σ:=Nat×Nat×(List Int)×aJ) (λ⟨q,n,c,gq⟩ f w=>bv w0 gq w/\f 1=gone_v/\f 2=cut_v/\f 3=vp b3 0/\f 8=v9/\f 9=vi ↑n/\f 10=v16/\f 11=vi ↑q/\Sl gq (is 0) w g_v g.2/\Sl gq (is 0) w gone_v gone/\Sl gq (is 0) w cut_v cut/\Bx gq (is 1) w b3 [vi g.1,g_v]/\Ow gq (is 2) (is 2) w v9 c/\cP gq 3 w v16 (am g)/\(q:Int)<=(g.1:Int)/\(c=(bz (cV g gone cut) gone q).1/\n=(bz (cV g gone cut) gone q).2)) (λ⟨q,n,c,gq⟩=>Int.toNat ((g.1:Int)-(q:Int))) (0,0,List.replicate g.1.toNat (-1),g18) ?_ ?_
 have C20:=cg [] (ch2.n.seq (ch12.n.seq ch19.n))
 · exact⟨bH.ca C20,rfl,rfl,rfl,rfl,rfl,rfl,rfl,Rg.cn ch19,Rgone.ca C20,Rcut.ca C20,bx5.cn ch19,o10.cn ch19,o17,by omega,by exact⟨rfl,rfl⟩⟩
 clear Rg Rgone Rcut bx5 o10 o17 bH
 rintro⟨q,n,c,g23⟩ f21 w22 ⟨bH,zs1,zs2,zs3,zs8,zs9,zs10,zs11,Rg,Rgone,Rcut,bx5,o10,o17,hle_q,hinv⟩ back5
 obtain⟨hcl,hi2,hi3⟩:=mG hP hinv (by omega)
 refine ab (ab (a8 rfl (mz zs11 (lx (ad cZ rfl rfl zs3 rfl) (lx (af ah rfl bx5 rfl) (lx (bn (m:=↑q) (n:=g.1) rfl rfl) (ag ?_)))))))
 by_cases p5:(q:Int)<g.1
 ·
  refine al rfl (dt p5) (av (ab (ar (ab (ab (a8 rfl (mz zs8 (mz zs11 (lx (ae (v:=v9) (i:=↑q) bf rfl rfl o10.flat rfl (by omega) (by omega)) (lx (aq (v:=v9) (i:=↑q) ah rfl o10.flat (by omega) (by omega) (by decide) rfl) (lx (gJ (m:=(gI c ↑q)) (n:=0) rfl rfl) ?_)))))))))))
  refine mv (vb (decide (0<=(gI c ↑q)))) ?_
  by_cases q32:0<=(gI c ↑q)
  ·
   refine ax (wn (dt q32)) (ax (wn (dt q32)) (ax (wn (dt q32)) (ax (aN rfl rfl rfl) (ax (aN rfl rfl rfl) (ax (aN rfl rfl rfl) (ax (aN rfl rfl rfl) (ax (wn (dt q32)) (lw (vb true) (b5 rfl (dt q32) rfl) (ag ?_)))))))))
   refine al rfl rfl (aF rfl (a8 rfl (mz zs11 (lx (aG (m:=↑q) (n:=1) rfl rfl (by omega)) (ai ((q:Int)+1) (ag ?_))))))
   refine back5 (q+1,n,c,g23) _ _ ⟨bH,zs1,zs2,zs3,zs8,zs9,zs10,rfl,Rg,Rgone,Rcut,bx5,o10,o17,by omega,?_⟩ ?_
   · show c=(bz (cV g gone cut) gone (q+1)).1/\n=(bz (cV g gone cut) gone (q+1)).2
     exact jb hinv (.inl ‹_›)
   · show Int.toNat ((g.1:Int)-((q+1):Int))<Int.toNat ((g.1:Int)-(q:Int))
     omega
  refine lv (gone_v) (wy (df q32)) (au zs1) (lv (vb (me gone_v)) (wy (df q32)) (fG fk Rgone rfl rfl) (lv (vb (me gone_v)) (wy (df q32)) (au rfl) ?_))
  by_cases q35:me gone_v=true
  ·
   refine lv (gone_v) (wy q35) (au zs1) (lv (vi ↑q) (wy q35) (au zs11) (lv (Value.pointer (some (aZ gone_v 1 (Int.toNat ↑q)))) (wy q35) (ae (α:=Bool) (xs:=gone) (v:=gone_v) (i:=↑q) fk rfl rfl Rgone rfl (by(have:=hgo ‹_›;omega)) (by(have:=hgo ‹_›;omega))) (lv (vb (gI gone ↑q)) (wy q35) (aq (α:=Bool) (xs:=gone) (v:=gone_v) (i:=↑q) gZ rfl Rgone (by(have:=hgo ‹_›;omega)) (by(have:=hgo ‹_›;omega)) (by decide) rfl) (lv (vb (gI gone ↑q)) (wy (df q32)) (b5 rfl q35 rfl) (lw (vb (gI gone ↑q)) (aY rfl (df q32) rfl) (ag ?_))))))
   by_cases p7:(gI gone ↑q)=true
   ·
    refine al rfl p7 (aF rfl (a8 rfl (mz zs11 (lx (aG (m:=↑q) (n:=1) rfl rfl (by omega)) (ai ((q:Int)+1) (ag ?_))))))
    refine back5 (q+1,n,c,g23) _ _ ⟨bH,zs1,zs2,zs3,zs8,zs9,zs10,rfl,Rg,Rgone,Rcut,bx5,o10,o17,by omega,?_⟩ ?_
    · show c=(bz (cV g gone cut) gone (q+1)).1/\n=(bz (cV g gone cut) gone (q+1)).2
      exact jb hinv (.inr ‹_›)
    · show Int.toNat ((g.1:Int)-((q+1):Int))<Int.toNat ((g.1:Int)-(q:Int))
      omega
   refine aj rfl (Bool.eq_false_iff.2 p7) (av (ab (a8 rfl (mz zs11 (lo (aM (α:=Int) g23 (is 4) (is 4) (4,0) rfl [(q:Int)] bf ah (by decide) (by decide) (vs:=[(0,vi ↑q)]) rfl rfl (.cons rfl .nil) ?_))))))
   intro g24 w25 v26 ch27 o28
   refine ma v26 (ag (ab (a8 rfl (mz zs8 (mz zs11 (mz zs9 ?_))))))
   replace o10:=o10.cn ch27
   refine lx (ae (v:=v9) (i:=↑q) bf rfl rfl o10.flat rfl (by omega) (by omega)) (lo (aD (i:=↑q) (n:Int) ah rfl rfl o10 (by omega) (by omega) rfl ?_))
   intro w29 ch30 bx31
   clear o10
   refine ag (ab (ar ?_))
   refine bc (σ:=Value×(List Int)×(List Int)×aJ) (λ⟨todo1_v,todo1,c1,gq⟩ f w=>bv w0 gq w/\f 1=gone_v/\f 2=cut_v/\f 3=vp b3 0/\f 8=v9/\f 9=vi ↑n/\f 10=v16/\f 11=vi ↑q/\f 12=todo1_v/\Sl gq (is 0) w g_v g.2/\Sl gq (is 0) w gone_v gone/\Sl gq (is 0) w cut_v cut/\Bx gq (is 1) w b3 [vi g.1,g_v]/\cP gq 3 w v16 (am g)/\Ow gq (is 2) (is 2) w v9 c1/\Ow gq (is 4) (is 4) w todo1_v todo1/\(dX g (cV g gone cut) (mu g gone cut) c c1 todo1 [] n (q:Int))) (λ⟨todo1_v,todo1,c1,gq⟩=>List.length todo1+2*fP c1) (v26,[(q:Int)],(List.set c (Int.toNat ↑q) (n:Int)),g24) ?_ ?_
   replace bH:=bH.cn ch27
   · exact⟨bH.ce ch30,zs1,zs2,zs3,zs8,zs9,zs10,zs11,rfl,(Rg.cn ch27).ce ch30,(Rgone.cn ch27).ce ch30,(Rcut.cn ch27).ce ch30,(bx5.cn ch27).ce ch30,(o17.cn ch27).ce ch30,bx31,o28.ce ch30,by exact dX.start hP (by omega) hinv ‹_›⟩
   clear Rg Rgone Rcut bx5 o17 o28 bx31 bH
   rintro⟨todo1_v,todo1,c1,g34⟩ f32 w33 ⟨bH,zs1,zs2,zs3,zs8,zs9,zs10,zs11,zs12,Rg,Rgone,Rcut,bx5,o17,bx31,o_todo1,hdf⟩ back10
   have hcl1:=hdf.len
   have htb:=hdf.bd
   refine ab (ab (a8 rfl (mz zs12 ?_)))
   have len35:=(o_todo1.flat).small
   refine lx (bu bf rfl o_todo1.flat) (lx (e7 (m:=(todo1.length:Int)) (n:=0) rfl rfl) (ag ?_))
   by_cases p10:0<(todo1.length:Int)
   ·
    refine al rfl (dt p10) (av (ar (ab (a8 rfl (mz zs12 (mz zs12 (lx (bu bf rfl o_todo1.flat) (lx (dm (m:=(todo1.length:Int)) (n:=1) rfl rfl (by omega)) (lx (ae (v:=todo1_v) (i:=(todo1.length:Int)-1) bf rfl rfl o_todo1.flat rfl (by omega) (by omega)) (lx (aq (v:=todo1_v) (i:=(todo1.length:Int)-1) ah rfl o_todo1.flat (by omega) (by omega) (by decide) rfl) ?_))))))))))
    refine ai (gI todo1 ((todo1.length:Int)-1)) (ag (ab (a8 rfl (mz zs12 (mz zs12 (lx (bu bf rfl o_todo1.flat) (lx (dm (m:=(todo1.length:Int)) (n:=1) rfl rfl (by omega)) (lw ((ci todo1_v 1 (Int.toNat 0) (Int.toNat ((todo1.length:Int)-1)))) (dp (v:=todo1_v) (l:=0) (h:=(todo1.length:Int)-1) bf rfl rfl o_todo1.flat (.inr ⟨rfl,rfl⟩) (.inl (congrArg some rfl)) (by omega) (by omega) (by omega)) ?_))))))))
    have r37:=fp o_todo1 (show Int.toNat ((todo1.length:Int)-1)<=List.length _ by omega)
    refine ma ((ci todo1_v 1 (Int.toNat 0) (Int.toNat ((todo1.length:Int)-1)))) (ag (ab ?_))
    clear o_todo1
    refine a8 rfl (ai 0 (ag (ar ?_)))
    refine bc (σ:=Nat×Value×(List Int)×(List Int)×aJ) (λ⟨k,todo2_v,todo2,c2,gq⟩ f w=>bv w0 gq w/\f 1=gone_v/\f 2=cut_v/\f 3=vp b3 0/\f 8=v9/\f 9=vi ↑n/\f 10=v16/\f 11=vi ↑q/\f 12=todo2_v/\f 13=vi (gI todo1 ((todo1.length:Int)-1))/\f 14=vi ↑k/\Sl gq (is 0) w g_v g.2/\Sl gq (is 0) w gone_v gone/\Sl gq (is 0) w cut_v cut/\Bx gq (is 1) w b3 [vi g.1,g_v]/\cP gq 3 w v16 (am g)/\Ow gq (is 2) (is 2) w v9 c2/\Ow gq (is 4) (is 4) w todo2_v todo2/\(k:Int)<=((List.length (gI (am g) (gI todo1 ((todo1.length:Int)-1))):Int):Int)/\(dY g (cV g gone cut) (mu g gone cut) c c2 todo2 n (q:Int) (gI todo1 ((todo1.length:Int)-1)) k (List.length todo1+2*fP c1))) (λ⟨k,todo2_v,todo2,c2,gq⟩=>Int.toNat (((List.length (gI (am g) (gI todo1 ((todo1.length:Int)-1))):Int):Int)-(k:Int))) (0,(ci todo1_v 1 (Int.toNat 0) (Int.toNat ((todo1.length:Int)-1))),(List.take (Int.toNat ((todo1.length:Int)-1)) todo1),c1,g34) ?_ ?_
    · exact⟨bH,zs1,zs2,zs3,zs8,zs9,zs10,zs11,rfl,rfl,rfl,Rg,Rgone,Rcut,bx5,o17,bx31,r37,by omega,by(have h0:=hdf.row (by omega);rwa[show List.length todo1-1=((todo1.length:Int)-1).toNat by omega] at h0)⟩
    clear Rg Rgone Rcut bx5 o17 bx31 r37 bH
    rintro⟨k,todo2_v,todo2,c2,g40⟩ f38 w39 ⟨bH,zs1,zs2,zs3,zs8,zs9,zs10,zs11,zs12,zs13,zs14,Rg,Rgone,Rcut,bx5,o17,bx31,o_todo2,hle_k,hrow⟩ back14
    have hcl2:=hrow.inv.len
    have htb2:=hrow.inv.bd
    obtain⟨hvd1,hvd2⟩:=hrow.vd
    have hfg:=dL (g:=g) hvd1 hvd2
    refine ab (ab (a8 rfl (mz zs14 (mz zs10 (mz zs13 (lx (ae (v:=v16) (i:=(gI todo1 ((todo1.length:Int)-1))) dB rfl rfl o17.sl rfl (by omega) (by omega)) ?_))))))
    obtain⟨v41,cel42,r43⟩:=bR (r:=(gI todo1 ((todo1.length:Int)-1))) o17 (by omega) (by omega)
    refine lx (bB bh rfl cel42) ?_
    have len44:=(r43.row_sl).small
    refine lx (bu bf rfl r43.row_sl) (lx (bn (m:=↑k) (n:=(List.length (gI (am g) (gI todo1 ((todo1.length:Int)-1))):Int)) rfl rfl) (ag ?_))
    by_cases p14:(k:Int)<(List.length (gI (am g) (gI todo1 ((todo1.length:Int)-1))):Int)
    ·
     refine al rfl (dt p14) ?_
     have hkl:(k:Int)<(bL g (gI todo1 ((todo1.length:Int)-1))).length:=by rw[<-hfg];assumption
     obtain⟨hr1,hr2⟩:=(cJ (bP (xs:=bL g (gI todo1 ((todo1.length:Int)-1))) (i:=↑k) (by omega) hkl)).1
     rw[<-hfg] at hr1 hr2
     obtain⟨hto1,hto2⟩:=dM hmay hr1 hr2
     refine av (ab (ar (ab ?_)))
     clear cel42 r43
     refine cq g40 rfl kS (by kernel_rfl) ?_
     intro w46 ch45
     replace bx5:=bx5.cn ch45
     refine qx (λw' hw'=>aB (ds:=[vi g.1,g_v]) cO zs3 (bx5.bel hw') rfl rfl) (qz zs10 (qz zs13 ?_))
     replace o17:=o17.cn ch45
     refine qx (λw' hw'=>ae (v:=v16) (i:=(gI todo1 ((todo1.length:Int)-1))) dB rfl rfl (o17.sl.bel hw') rfl (by omega) (by omega)) ?_
     obtain⟨v47,cel48,r49⟩:=bR (r:=(gI todo1 ((todo1.length:Int)-1))) o17 (by omega) (by omega)
     refine qx (λw' hw'=>bB bh rfl (eC cel48 hw')) (qz zs14 (qx (λw' hw'=>ae (v:=v47) (i:=↑k) bf rfl rfl (r49.row_sl.bel hw') rfl (by omega) (by omega)) (qx (λw' hw'=>aq (v:=v47) (i:=↑k) ah rfl (r49.row_sl.bel hw') (by omega) (by omega) (by decide) rfl) ?_)))
     replace Rg:=Rg.cn ch45
     refine gE (v:=vi (b6 g (gI (gI (am g) (gI todo1 ((todo1.length:Int)-1))) (k:Int)))) rfl (λw' hw'=>b9 (vals:=[vg [vi g.1,g_v],vi (gI (gI (am g) (gI todo1 ((todo1.length:Int)-1))) (k:Int))]) Try.func43 lK lU rfl) (λw' hw'=>(oa w' g g_v ((Rg.bel hw')).ro (gI (gI (am g) (gI todo1 ((todo1.length:Int)-1))) (k:Int)) (by omega) (by omega)).mono λe w2 h2=>⟨h2.1,hw'.trans (h2.2.mono hw'.size)⟩) (qv (vi (b6 g (gI (gI (am g) (gI todo1 ((todo1.length:Int)-1))) (k:Int)))) (λw' hw'=>c7 rfl) (d8 ?_))
     intro w50 hc51
     replace hc51:=aS hc51 g40
     refine ab (ab ?_)
     clear cel48 r49
     refine a8 rfl (mz zs8 (mi (b6 g (gI (gI (am g) (gI todo1 ((todo1.length:Int)-1))) (k:Int))) ?_))
     replace bx31:=(bx31.cn ch45).cn hc51
     refine lx (ae (v:=v9) (i:=b6 g (gI (gI (am g) (gI todo1 ((todo1.length:Int)-1))) (k:Int))) bf rfl rfl bx31.flat rfl (by omega) (by omega)) (lx (aq (v:=v9) (i:=b6 g (gI (gI (am g) (gI todo1 ((todo1.length:Int)-1))) (k:Int))) ah rfl bx31.flat (by omega) (by omega) (by decide) rfl) (lx (gJ (m:=(gI c2 (b6 g (gI (gI (am g) (gI todo1 ((todo1.length:Int)-1))) (k:Int))))) (n:=0) rfl rfl) (mv (vb (decide (0<=(gI c2 (b6 g (gI (gI (am g) (gI todo1 ((todo1.length:Int)-1))) (k:Int))))))) ?_)))
     by_cases q85:0<=(gI c2 (b6 g (gI (gI (am g) (gI todo1 ((todo1.length:Int)-1))) (k:Int))))
     ·
      refine ax (wn (dt q85)) (ax (wn (dt q85)) (ax (wn (dt q85)) (ax (aN rfl rfl rfl) (ax (aN rfl rfl rfl) (ax (aN rfl rfl rfl) (ax (aN rfl rfl rfl) (ax (wn (dt q85)) (lw (vb true) (b5 rfl (dt q85) rfl) (mv (vb true) ?_)))))))))
      refine ax (wn rfl) (ax (wn rfl) (ax (wn rfl) (ax (aN rfl rfl rfl) (ax (aN rfl rfl rfl) (ax (aN rfl rfl rfl) (ax (aN rfl rfl rfl) (ax (aN rfl rfl rfl) (ax (aN rfl rfl rfl) (ax (aN rfl rfl rfl) (ax (aN rfl rfl rfl) (ax (aN rfl rfl rfl) ?_)))))))))))
      refine ax (aN rfl rfl rfl) (ax (aN rfl rfl rfl) (ax (wn rfl) (lw (vb true) (b5 rfl rfl rfl) (ag (al rfl rfl (aF rfl (a8 rfl (mz zs14 (lx (aG (m:=↑k) (n:=1) rfl rfl (by omega)) ?_)))))))))
      refine ai ((k:Int)+1) (ag ?_)
      replace bH:=bH.cn ch45
      refine back14 (k+1,todo2_v,todo2,c2,g40) _ _ ⟨bH.cn hc51,zs1,zs2,zs3,zs8,zs9,zs10,zs11,zs12,zs13,rfl,Rg.cn hc51,(Rgone.cn ch45).cn hc51,(Rcut.cn ch45).cn hc51,bx5.cn hc51,o17.cn hc51,bx31,(o_todo2.cn ch45).cn hc51,by omega,?_⟩ ?_
      · show dY g (cV g gone cut) (mu g gone cut) c c2 todo2 n (q:Int) (gI todo1 ((todo1.length:Int)-1)) (k+1) (List.length todo1+2*fP c1)
        (rw[hfg] at*;exact hrow.skip λhp=>by assumption)
      · show Int.toNat (((List.length (gI (am g) (gI todo1 ((todo1.length:Int)-1))):Int):Int)-((k+1):Int))<Int.toNat (((List.length (gI (am g) (gI todo1 ((todo1.length:Int)-1))):Int):Int)-(k:Int))
        omega
     refine lv (gone_v) (wy (df q85)) (au zs1) ?_
     replace Rgone:=(Rgone.cn ch45).cn hc51
     refine lv (vb (me gone_v)) (wy (df q85)) (fG fk Rgone rfl rfl) (lv (vb (me gone_v)) (wy (df q85)) (au rfl) (lv (gone_v) (wy q35) (au zs1) (lv (vi (b6 g (gI (gI (am g) (gI todo1 ((todo1.length:Int)-1))) (k:Int)))) (wy q35) (au rfl) (lv (Value.pointer (some (aZ gone_v 1 (Int.toNat (b6 g (gI (gI (am g) (gI todo1 ((todo1.length:Int)-1))) (k:Int))))))) (wy q35) (ae (α:=Bool) (xs:=gone) (v:=gone_v) (i:=b6 g (gI (gI (am g) (gI todo1 ((todo1.length:Int)-1))) (k:Int))) fk rfl rfl Rgone rfl (by(have:=hgo ‹_›;omega)) (by(have:=hgo ‹_›;omega))) ?_))))
     refine lv (vb (gI gone (b6 g (gI (gI (am g) (gI todo1 ((todo1.length:Int)-1))) (k:Int))))) (wy q35) (aq (α:=Bool) (xs:=gone) (v:=gone_v) (i:=b6 g (gI (gI (am g) (gI todo1 ((todo1.length:Int)-1))) (k:Int))) gZ rfl Rgone (by(have:=hgo ‹_›;omega)) (by(have:=hgo ‹_›;omega)) (by decide) rfl) (lv (vb (gI gone (b6 g (gI (gI (am g) (gI todo1 ((todo1.length:Int)-1))) (k:Int))))) (wy (df q85)) (b5 rfl q35 rfl) (lw (vb (gI gone (b6 g (gI (gI (am g) (gI todo1 ((todo1.length:Int)-1))) (k:Int))))) (aY rfl (df q85) rfl) (mv (vb (gI gone (b6 g (gI (gI (am g) (gI todo1 ((todo1.length:Int)-1))) (k:Int))))) ?_)))
     by_cases q95:(gI gone (b6 g (gI (gI (am g) (gI todo1 ((todo1.length:Int)-1))) (k:Int))))=true
     ·
      refine ax (wn q95) (ax (wn q95) (ax (wn q95) (ax (aN rfl rfl rfl) (ax (aN rfl rfl rfl) (ax (aN rfl rfl rfl) (ax (aN rfl rfl rfl) (ax (aN rfl rfl rfl) (ax (aN rfl rfl rfl) (ax (aN rfl rfl rfl) (ax (aN rfl rfl rfl) (ax (aN rfl rfl rfl) ?_)))))))))))
      refine ax (aN rfl rfl rfl) (ax (aN rfl rfl rfl) (ax (wn q95) (lw (vb true) (b5 rfl q95 rfl) (ag (al rfl rfl (aF rfl (a8 rfl (mz zs14 (lx (aG (m:=↑k) (n:=1) rfl rfl (by omega)) ?_)))))))))
      refine ai ((k:Int)+1) (ag ?_)
      replace bH:=bH.cn ch45
      refine back14 (k+1,todo2_v,todo2,c2,g40) _ _ ⟨bH.cn hc51,zs1,zs2,zs3,zs8,zs9,zs10,zs11,zs12,zs13,rfl,Rg.cn hc51,Rgone,(Rcut.cn ch45).cn hc51,bx5.cn hc51,o17.cn hc51,bx31,(o_todo2.cn ch45).cn hc51,by omega,?_⟩ ?_
      · show dY g (cV g gone cut) (mu g gone cut) c c2 todo2 n (q:Int) (gI todo1 ((todo1.length:Int)-1)) (k+1) (List.length todo1+2*fP c1)
        (rw[hfg] at*;exact hrow.skip λhp=>absurd ‹_› hp.2.1)
      · show Int.toNat (((List.length (gI (am g) (gI todo1 ((todo1.length:Int)-1))):Int):Int)-((k+1):Int))<Int.toNat (((List.length (gI (am g) (gI todo1 ((todo1.length:Int)-1))):Int):Int)-(k:Int))
        omega
     refine lv (cut_v) (wy (Bool.eq_false_iff.2 q95)) (au zs2) ?_
     replace Rcut:=(Rcut.cn ch45).cn hc51
     refine lv (vb (me cut_v)) (wy (Bool.eq_false_iff.2 q95)) (fG fk Rcut rfl rfl) (lv (vb (me cut_v)) (wy (Bool.eq_false_iff.2 q95)) (au rfl) ?_)
     by_cases q98:me cut_v=true
     ·
      refine lv (cut_v) (wy q98) (au zs2) (lv (v16) (wy q98) (au zs10) (lv (vi (gI todo1 ((todo1.length:Int)-1))) (wy q98) (au zs13) ?_))
      replace o17:=o17.cn hc51
      refine lv (Value.pointer (some (aZ v16 1 (Int.toNat (gI todo1 ((todo1.length:Int)-1)))))) (wy q98) (ae (α:=List Int) (xs:=am g) (v:=v16) (i:=(gI todo1 ((todo1.length:Int)-1))) dB rfl rfl o17.sl rfl (by omega) (by omega)) ?_
      obtain⟨v52,cel53,r54⟩:=bR (r:=(gI todo1 ((todo1.length:Int)-1))) o17 (by omega) (by omega)
      refine lv (v52) (wy q98) (bB bh rfl cel53) (lv (vi ↑k) (wy q98) (au zs14) (lv (Value.pointer (some (aZ v52 1 (Int.toNat ↑k)))) (wy q98) (ae (α:=Int) (xs:=gI (am g) (gI todo1 ((todo1.length:Int)-1))) (v:=v52) (i:=↑k) bf rfl rfl r54.row_sl rfl (by omega) (by omega)) (lv (vi (gI (gI (am g) (gI todo1 ((todo1.length:Int)-1))) (k:Int))) (wy q98) (aq (α:=Int) (xs:=gI (am g) (gI todo1 ((todo1.length:Int)-1))) (v:=v52) (i:=↑k) ah rfl r54.row_sl (by omega) (by omega) (by decide) rfl) ?_)))
      refine lv (vi ((gI (gI (am g) (gI todo1 ((todo1.length:Int)-1))) (k:Int))/2)) (wy q98) (fe (m:=(gI (gI (am g) (gI todo1 ((todo1.length:Int)-1))) (k:Int))) (n:=2) rfl rfl (by omega) (by omega) (by omega)) (lv (Value.pointer (some (aZ cut_v 1 (Int.toNat ((gI (gI (am g) (gI todo1 ((todo1.length:Int)-1))) (k:Int))/2))))) (wy q98) (ae (α:=Bool) (xs:=cut) (v:=cut_v) (i:=(gI (gI (am g) (gI todo1 ((todo1.length:Int)-1))) (k:Int))/2) fk rfl rfl Rcut rfl (by(have:=hcu ‹_›;omega)) (by(have:=hcu ‹_›;omega))) ?_)
      refine lv (vb (gI cut ((gI (gI (am g) (gI todo1 ((todo1.length:Int)-1))) (k:Int))/2))) (wy q98) (aq (α:=Bool) (xs:=cut) (v:=cut_v) (i:=(gI (gI (am g) (gI todo1 ((todo1.length:Int)-1))) (k:Int))/2) gZ rfl Rcut (by(have:=hcu ‹_›;omega)) (by(have:=hcu ‹_›;omega)) (by decide) rfl) (lv (vb (gI cut ((gI (gI (am g) (gI todo1 ((todo1.length:Int)-1))) (k:Int))/2))) (wy (Bool.eq_false_iff.2 q95)) (b5 rfl q98 rfl) (lw (vb (gI cut ((gI (gI (am g) (gI todo1 ((todo1.length:Int)-1))) (k:Int))/2))) (aY rfl (Bool.eq_false_iff.2 q95) rfl) (ag ?_)))
      by_cases p17:(gI cut ((gI (gI (am g) (gI todo1 ((todo1.length:Int)-1))) (k:Int))/2))=true
      ·
       refine al rfl p17 (aF rfl ?_)
       clear cel53 r54
       refine a8 rfl (mz zs14 (lx (aG (m:=↑k) (n:=1) rfl rfl (by omega)) (ai ((k:Int)+1) (ag ?_))))
       replace bH:=bH.cn ch45
       refine back14 (k+1,todo2_v,todo2,c2,g40) _ _ ⟨bH.cn hc51,zs1,zs2,zs3,zs8,zs9,zs10,zs11,zs12,zs13,rfl,Rg.cn hc51,Rgone,Rcut,bx5.cn hc51,o17,bx31,(o_todo2.cn ch45).cn hc51,by omega,?_⟩ ?_
       · show dY g (cV g gone cut) (mu g gone cut) c c2 todo2 n (q:Int) (gI todo1 ((todo1.length:Int)-1)) (k+1) (List.length todo1+2*fP c1)
         (rw[hfg] at*;exact hrow.skip λhp=>absurd ‹_› hp.2.2)
       · show Int.toNat (((List.length (gI (am g) (gI todo1 ((todo1.length:Int)-1))):Int):Int)-((k+1):Int))<Int.toNat (((List.length (gI (am g) (gI todo1 ((todo1.length:Int)-1))):Int):Int)-(k:Int))
         omega
      refine aj rfl (Bool.eq_false_iff.2 p17) (av (ab ?_))
      clear cel53 r54
      refine a8 rfl (mz zs8 (mi (b6 g (gI (gI (am g) (gI todo1 ((todo1.length:Int)-1))) (k:Int))) (mz zs9 (lx (ae (v:=v9) (i:=b6 g (gI (gI (am g) (gI todo1 ((todo1.length:Int)-1))) (k:Int))) bf rfl rfl bx31.flat rfl (by omega) (by omega)) (lo (aD (i:=b6 g (gI (gI (am g) (gI todo1 ((todo1.length:Int)-1))) (k:Int))) (n:Int) ah rfl rfl bx31 (by omega) (by omega) rfl ?_))))))
      intro w55 ch56 bx57
      clear bx31
      refine ag (a8 rfl (mz zs12 (mi (b6 g (gI (gI (am g) (gI todo1 ((todo1.length:Int)-1))) (k:Int))) (lo (aM (α:=Int) g40 (is 5) (is 5) (5,0) rfl [b6 g (gI (gI (am g) (gI todo1 ((todo1.length:Int)-1))) (k:Int))] bf ah (by decide) (by decide) (vs:=[(0,vi (b6 g (gI (gI (am g) (gI todo1 ((todo1.length:Int)-1))) (k:Int))))]) rfl rfl (.cons rfl .nil) ?_)))))
      intro g58 w59 v60 ch61 o62
      refine lo ?_
      have C63:=cg [2] (ch45.n.seq (hc51.n.seq ((ch56.l rfl).seq ch61.n)))
      replace o_todo2:=o_todo2.ca C63
      refine bD (α:=Int) (xs:=todo2) (ys:=([b6 g (gI (gI (am g) (gI todo1 ((todo1.length:Int)-1))) (k:Int))])) g58 (J:=is 4) (S:=is 4) (4,0) rfl bf ah (by decide) rfl rfl rfl o_todo2 o62.flat (by decide) (by(simp;omega)) ?_
      intro g64 w65 v66 ch67 o68
      clear o_todo2
      refine ma v66 (ag (ak ?_))
      clear o62
      refine a8 rfl (mz zs14 (lx (aG (m:=↑k) (n:=1) rfl rfl (by omega)) (ai ((k:Int)+1) (ag ?_))))
      have C71:=cg [2,4] ((ch56.l rfl).seq (ch61.n.seq (ch67.l rfl)))
      have C70:=hc51.n.seq C71
      have C69:=ch45.n.seq C70
      refine back14 (k+1,v66,(todo2++[b6 g (gI (gI (am g) (gI todo1 ((todo1.length:Int)-1))) (k:Int))]),(List.set c2 (Int.toNat (b6 g (gI (gI (am g) (gI todo1 ((todo1.length:Int)-1))) (k:Int)))) (n:Int)),g64) _ _ ⟨bH.ca C69,zs1,zs2,zs3,zs8,zs9,zs10,zs11,rfl,zs13,rfl,Rg.ca C70,Rgone.ca C71,Rcut.ca C71,bx5.ca C70,o17.ca C71,(bx57.cn ch61).ce ch67,o68,by omega,?_⟩ ?_
      · show dY g (cV g gone cut) (mu g gone cut) c (List.set c2 (Int.toNat (b6 g (gI (gI (am g) (gI todo1 ((todo1.length:Int)-1))) (k:Int)))) (n:Int)) (todo2++[b6 g (gI (gI (am g) (gI todo1 ((todo1.length:Int)-1))) (k:Int))]) n (q:Int) (gI todo1 ((todo1.length:Int)-1)) (k+1) (List.length todo1+2*fP c1)
        (rw[hfg] at*;exact hrow.push hP hkl (hrow.psg hmay (by(assumption)) hkl (by(assumption)) (by(assumption))) ‹_›)
      · show Int.toNat (((List.length (gI (am g) (gI todo1 ((todo1.length:Int)-1))):Int):Int)-((k+1):Int))<Int.toNat (((List.length (gI (am g) (gI todo1 ((todo1.length:Int)-1))):Int):Int)-(k:Int))
        omega
     refine ax (wn (Bool.eq_false_iff.2 q98)) (ax (wn (Bool.eq_false_iff.2 q98)) (ax (wn (Bool.eq_false_iff.2 q98)) (ax (wn (Bool.eq_false_iff.2 q98)) (ax (wn (Bool.eq_false_iff.2 q98)) (ax (wn (Bool.eq_false_iff.2 q98)) (ax (wn (Bool.eq_false_iff.2 q98)) (ax (wn (Bool.eq_false_iff.2 q98)) (ax (wn (Bool.eq_false_iff.2 q98)) (ax (wn (Bool.eq_false_iff.2 q98)) ?_)))))))))
     refine ax (wn (Bool.eq_false_iff.2 q98)) (lv (vb false) (wy (Bool.eq_false_iff.2 q95)) (aY rfl (Bool.eq_false_iff.2 q98) rfl) (lw (vb false) (aY rfl (Bool.eq_false_iff.2 q95) rfl) (ag (aj rfl rfl (av (ab (a8 rfl (mz zs8 (mi (b6 g (gI (gI (am g) (gI todo1 ((todo1.length:Int)-1))) (k:Int))) (mz zs9 ?_))))))))))
     refine lx (ae (v:=v9) (i:=b6 g (gI (gI (am g) (gI todo1 ((todo1.length:Int)-1))) (k:Int))) bf rfl rfl bx31.flat rfl (by omega) (by omega)) (lo (aD (i:=b6 g (gI (gI (am g) (gI todo1 ((todo1.length:Int)-1))) (k:Int))) (n:Int) ah rfl rfl bx31 (by omega) (by omega) rfl ?_))
     intro w72 ch73 bx74
     clear bx31
     refine ag (a8 rfl (mz zs12 (mi (b6 g (gI (gI (am g) (gI todo1 ((todo1.length:Int)-1))) (k:Int))) (lo (aM (α:=Int) g40 (is 5) (is 5) (5,0) rfl [b6 g (gI (gI (am g) (gI todo1 ((todo1.length:Int)-1))) (k:Int))] bf ah (by decide) (by decide) (vs:=[(0,vi (b6 g (gI (gI (am g) (gI todo1 ((todo1.length:Int)-1))) (k:Int))))]) rfl rfl (.cons rfl .nil) ?_)))))
     intro g75 w76 v77 ch78 o79
     refine lo ?_
     have C80:=cg [2] (ch45.n.seq (hc51.n.seq ((ch73.l rfl).seq ch78.n)))
     replace o_todo2:=o_todo2.ca C80
     refine bD (α:=Int) (xs:=todo2) (ys:=([b6 g (gI (gI (am g) (gI todo1 ((todo1.length:Int)-1))) (k:Int))])) g75 (J:=is 4) (S:=is 4) (4,0) rfl bf ah (by decide) rfl rfl rfl o_todo2 o79.flat (by decide) (by(simp;omega)) ?_
     intro g81 w82 v83 ch84 o85
     clear o_todo2
     refine ma v83 (ag (ak ?_))
     clear o79
     refine a8 rfl (mz zs14 (lx (aG (m:=↑k) (n:=1) rfl rfl (by omega)) (ai ((k:Int)+1) (ag ?_))))
     have C88:=cg [2,4] ((ch73.l rfl).seq (ch78.n.seq (ch84.l rfl)))
     have C87:=hc51.n.seq C88
     have C86:=ch45.n.seq C87
     refine back14 (k+1,v83,(todo2++[b6 g (gI (gI (am g) (gI todo1 ((todo1.length:Int)-1))) (k:Int))]),(List.set c2 (Int.toNat (b6 g (gI (gI (am g) (gI todo1 ((todo1.length:Int)-1))) (k:Int)))) (n:Int)),g81) _ _ ⟨bH.ca C86,zs1,zs2,zs3,zs8,zs9,zs10,zs11,rfl,zs13,rfl,Rg.ca C87,Rgone.ca C88,Rcut.ca C88,bx5.ca C87,o17.ca C87,(bx74.cn ch78).ce ch84,o85,by omega,?_⟩ ?_
     · show dY g (cV g gone cut) (mu g gone cut) c (List.set c2 (Int.toNat (b6 g (gI (gI (am g) (gI todo1 ((todo1.length:Int)-1))) (k:Int)))) (n:Int)) (todo2++[b6 g (gI (gI (am g) (gI todo1 ((todo1.length:Int)-1))) (k:Int))]) n (q:Int) (gI todo1 ((todo1.length:Int)-1)) (k+1) (List.length todo1+2*fP c1)
       (rw[hfg] at*;exact hrow.push hP hkl (hrow.psg hmay (by(assumption)) hkl (by(assumption)) (by(exact kA hcu0 ‹_›))) ‹_›)
     · show Int.toNat (((List.length (gI (am g) (gI todo1 ((todo1.length:Int)-1))):Int):Int)-((k+1):Int))<Int.toNat (((List.length (gI (am g) (gI todo1 ((todo1.length:Int)-1))):Int):Int)-(k:Int))
       omega
    refine aj rfl (df p14) (aF rfl (ak ?_))
    refine back10 (todo2_v,todo2,c2,g40) _ _ ⟨bH,zs1,zs2,zs3,zs8,zs9,zs10,zs11,zs12,Rg,Rgone,Rcut,bx5,o17,bx31,o_todo2,?_⟩ ?_
    · show dX g (cV g gone cut) (mu g gone cut) c c2 todo2 [] n (q:Int)
      exact hrow.done (by rw[<-hfg];assumption)
    · show List.length todo2+2*fP c2<List.length todo1+2*fP c1
      (have h1:=hrow.meas;omega)
   refine aj rfl (df p10) (aF rfl ?_)
   clear o_todo1
   refine a8 rfl (mz zs9 (lx (aG (m:=↑n) (n:=1) rfl rfl (by omega)) (ai ((n:Int)+1) (ag (ak (a8 rfl (mz zs11 (lx (aG (m:=↑q) (n:=1) rfl rfl (by omega)) (ai ((q:Int)+1) ?_)))))))))
   refine ag ?_
   refine back5 (q+1,n+1,c1,g34) _ _ ⟨bH,zs1,zs2,zs3,zs8,rfl,zs10,rfl,Rg,Rgone,Rcut,bx5,bx31,o17,by omega,?_⟩ ?_
   · show c1=(bz (cV g gone cut) gone (q+1)).1/\(n+1)=(bz (cV g gone cut) gone (q+1)).2
     exact hdf.done hP (by omega) hinv ‹_› (by(assumption))
   · show Int.toNat ((g.1:Int)-((q+1):Int))<Int.toNat ((g.1:Int)-(q:Int))
     omega
  refine ax (wn (Bool.eq_false_iff.2 q35)) (ax (wn (Bool.eq_false_iff.2 q35)) (ax (wn (Bool.eq_false_iff.2 q35)) (ax (wn (Bool.eq_false_iff.2 q35)) (lv (vb false) (wy (df q32)) (aY rfl (Bool.eq_false_iff.2 q35) rfl) (lw (vb false) (aY rfl (df q32) rfl) (ag (aj rfl rfl (av (ab (a8 rfl ?_))))))))))
  refine mz zs11 (lo (aM (α:=Int) g23 (is 4) (is 4) (4,0) rfl [(q:Int)] bf ah (by decide) (by decide) (vs:=[(0,vi ↑q)]) rfl rfl (.cons rfl .nil) ?_))
  intro g89 w90 v91 ch92 o93
  refine ma v91 (ag (ab (a8 rfl (mz zs8 (mz zs11 (mz zs9 ?_))))))
  replace o10:=o10.cn ch92
  refine lx (ae (v:=v9) (i:=↑q) bf rfl rfl o10.flat rfl (by omega) (by omega)) (lo (aD (i:=↑q) (n:Int) ah rfl rfl o10 (by omega) (by omega) rfl ?_))
  intro w94 ch95 bx96
  clear o10
  refine ag (ab (ar ?_))
  refine bc (σ:=Value×(List Int)×(List Int)×aJ) (λ⟨todo1_v,todo1,c1,gq⟩ f w=>bv w0 gq w/\f 1=gone_v/\f 2=cut_v/\f 3=vp b3 0/\f 8=v9/\f 9=vi ↑n/\f 10=v16/\f 11=vi ↑q/\f 12=todo1_v/\Sl gq (is 0) w g_v g.2/\Sl gq (is 0) w gone_v gone/\Sl gq (is 0) w cut_v cut/\Bx gq (is 1) w b3 [vi g.1,g_v]/\cP gq 3 w v16 (am g)/\Ow gq (is 2) (is 2) w v9 c1/\Ow gq (is 4) (is 4) w todo1_v todo1/\(dX g (cV g gone cut) (mu g gone cut) c c1 todo1 [] n (q:Int))) (λ⟨todo1_v,todo1,c1,gq⟩=>List.length todo1+2*fP c1) (v91,[(q:Int)],(List.set c (Int.toNat ↑q) (n:Int)),g89) ?_ ?_
  replace bH:=bH.cn ch92
  · exact⟨bH.ce ch95,zs1,zs2,zs3,zs8,zs9,zs10,zs11,rfl,(Rg.cn ch92).ce ch95,(Rgone.cn ch92).ce ch95,(Rcut.cn ch92).ce ch95,(bx5.cn ch92).ce ch95,(o17.cn ch92).ce ch95,bx96,o93.ce ch95,by exact dX.start hP (by omega) hinv ‹_›⟩
  clear Rg Rgone Rcut bx5 o17 o93 bx96 bH
  rintro⟨todo1_v,todo1,c1,g99⟩ f97 w98 ⟨bH,zs1,zs2,zs3,zs8,zs9,zs10,zs11,zs12,Rg,Rgone,Rcut,bx5,o17,bx96,o_todo1,hdf⟩ back10
  have hcl1:=hdf.len
  have htb:=hdf.bd
  refine ab (ab (a8 rfl (mz zs12 ?_)))
  have len100:=(o_todo1.flat).small
  refine lx (bu bf rfl o_todo1.flat) (lx (e7 (m:=(todo1.length:Int)) (n:=0) rfl rfl) (ag ?_))
  by_cases p10:0<(todo1.length:Int)
  ·
   refine al rfl (dt p10) (av (ar (ab (a8 rfl (mz zs12 (mz zs12 (lx (bu bf rfl o_todo1.flat) (lx (dm (m:=(todo1.length:Int)) (n:=1) rfl rfl (by omega)) (lx (ae (v:=todo1_v) (i:=(todo1.length:Int)-1) bf rfl rfl o_todo1.flat rfl (by omega) (by omega)) (lx (aq (v:=todo1_v) (i:=(todo1.length:Int)-1) ah rfl o_todo1.flat (by omega) (by omega) (by decide) rfl) ?_))))))))))
   refine ai (gI todo1 ((todo1.length:Int)-1)) (ag (ab (a8 rfl (mz zs12 (mz zs12 (lx (bu bf rfl o_todo1.flat) (lx (dm (m:=(todo1.length:Int)) (n:=1) rfl rfl (by omega)) (lw ((ci todo1_v 1 (Int.toNat 0) (Int.toNat ((todo1.length:Int)-1)))) (dp (v:=todo1_v) (l:=0) (h:=(todo1.length:Int)-1) bf rfl rfl o_todo1.flat (.inr ⟨rfl,rfl⟩) (.inl (congrArg some rfl)) (by omega) (by omega) (by omega)) ?_))))))))
   have r102:=fp o_todo1 (show Int.toNat ((todo1.length:Int)-1)<=List.length _ by omega)
   refine ma ((ci todo1_v 1 (Int.toNat 0) (Int.toNat ((todo1.length:Int)-1)))) (ag (ab ?_))
   clear o_todo1
   refine a8 rfl (ai 0 (ag (ar ?_)))
   refine bc (σ:=Nat×Value×(List Int)×(List Int)×aJ) (λ⟨k,todo2_v,todo2,c2,gq⟩ f w=>bv w0 gq w/\f 1=gone_v/\f 2=cut_v/\f 3=vp b3 0/\f 8=v9/\f 9=vi ↑n/\f 10=v16/\f 11=vi ↑q/\f 12=todo2_v/\f 13=vi (gI todo1 ((todo1.length:Int)-1))/\f 14=vi ↑k/\Sl gq (is 0) w g_v g.2/\Sl gq (is 0) w gone_v gone/\Sl gq (is 0) w cut_v cut/\Bx gq (is 1) w b3 [vi g.1,g_v]/\cP gq 3 w v16 (am g)/\Ow gq (is 2) (is 2) w v9 c2/\Ow gq (is 4) (is 4) w todo2_v todo2/\(k:Int)<=((List.length (gI (am g) (gI todo1 ((todo1.length:Int)-1))):Int):Int)/\(dY g (cV g gone cut) (mu g gone cut) c c2 todo2 n (q:Int) (gI todo1 ((todo1.length:Int)-1)) k (List.length todo1+2*fP c1))) (λ⟨k,todo2_v,todo2,c2,gq⟩=>Int.toNat (((List.length (gI (am g) (gI todo1 ((todo1.length:Int)-1))):Int):Int)-(k:Int))) (0,(ci todo1_v 1 (Int.toNat 0) (Int.toNat ((todo1.length:Int)-1))),(List.take (Int.toNat ((todo1.length:Int)-1)) todo1),c1,g99) ?_ ?_
   · exact⟨bH,zs1,zs2,zs3,zs8,zs9,zs10,zs11,rfl,rfl,rfl,Rg,Rgone,Rcut,bx5,o17,bx96,r102,by omega,by(have h0:=hdf.row (by omega);rwa[show List.length todo1-1=((todo1.length:Int)-1).toNat by omega] at h0)⟩
   clear Rg Rgone Rcut bx5 o17 bx96 r102 bH
   rintro⟨k,todo2_v,todo2,c2,g105⟩ f103 w104 ⟨bH,zs1,zs2,zs3,zs8,zs9,zs10,zs11,zs12,zs13,zs14,Rg,Rgone,Rcut,bx5,o17,bx96,o_todo2,hle_k,hrow⟩ back14
   have hcl2:=hrow.inv.len
   have htb2:=hrow.inv.bd
   obtain⟨hvd1,hvd2⟩:=hrow.vd
   have hfg:=dL (g:=g) hvd1 hvd2
   refine ab (ab (a8 rfl (mz zs14 (mz zs10 (mz zs13 (lx (ae (v:=v16) (i:=(gI todo1 ((todo1.length:Int)-1))) dB rfl rfl o17.sl rfl (by omega) (by omega)) ?_))))))
   obtain⟨v106,cel107,r108⟩:=bR (r:=(gI todo1 ((todo1.length:Int)-1))) o17 (by omega) (by omega)
   refine lx (bB bh rfl cel107) ?_
   have len109:=(r108.row_sl).small
   refine lx (bu bf rfl r108.row_sl) (lx (bn (m:=↑k) (n:=(List.length (gI (am g) (gI todo1 ((todo1.length:Int)-1))):Int)) rfl rfl) (ag ?_))
   by_cases p14:(k:Int)<(List.length (gI (am g) (gI todo1 ((todo1.length:Int)-1))):Int)
   ·
    refine al rfl (dt p14) ?_
    have hkl:(k:Int)<(bL g (gI todo1 ((todo1.length:Int)-1))).length:=by rw[<-hfg];assumption
    obtain⟨hr1,hr2⟩:=(cJ (bP (xs:=bL g (gI todo1 ((todo1.length:Int)-1))) (i:=↑k) (by omega) hkl)).1
    rw[<-hfg] at hr1 hr2
    obtain⟨hto1,hto2⟩:=dM hmay hr1 hr2
    refine av (ab (ar (ab ?_)))
    clear cel107 r108
    refine cq g105 rfl kS (by kernel_rfl) ?_
    intro w111 ch110
    replace bx5:=bx5.cn ch110
    refine qx (λw' hw'=>aB (ds:=[vi g.1,g_v]) cO zs3 (bx5.bel hw') rfl rfl) (qz zs10 (qz zs13 ?_))
    replace o17:=o17.cn ch110
    refine qx (λw' hw'=>ae (v:=v16) (i:=(gI todo1 ((todo1.length:Int)-1))) dB rfl rfl (o17.sl.bel hw') rfl (by omega) (by omega)) ?_
    obtain⟨v112,cel113,r114⟩:=bR (r:=(gI todo1 ((todo1.length:Int)-1))) o17 (by omega) (by omega)
    refine qx (λw' hw'=>bB bh rfl (eC cel113 hw')) (qz zs14 (qx (λw' hw'=>ae (v:=v112) (i:=↑k) bf rfl rfl (r114.row_sl.bel hw') rfl (by omega) (by omega)) (qx (λw' hw'=>aq (v:=v112) (i:=↑k) ah rfl (r114.row_sl.bel hw') (by omega) (by omega) (by decide) rfl) ?_)))
    replace Rg:=Rg.cn ch110
    refine gE (v:=vi (b6 g (gI (gI (am g) (gI todo1 ((todo1.length:Int)-1))) (k:Int)))) rfl (λw' hw'=>b9 (vals:=[vg [vi g.1,g_v],vi (gI (gI (am g) (gI todo1 ((todo1.length:Int)-1))) (k:Int))]) Try.func43 lK lU rfl) (λw' hw'=>(oa w' g g_v ((Rg.bel hw')).ro (gI (gI (am g) (gI todo1 ((todo1.length:Int)-1))) (k:Int)) (by omega) (by omega)).mono λe w2 h2=>⟨h2.1,hw'.trans (h2.2.mono hw'.size)⟩) (qv (vi (b6 g (gI (gI (am g) (gI todo1 ((todo1.length:Int)-1))) (k:Int)))) (λw' hw'=>c7 rfl) (d8 ?_))
    intro w115 hc116
    replace hc116:=aS hc116 g105
    refine ab (ab ?_)
    clear cel113 r114
    refine a8 rfl (mz zs8 (mi (b6 g (gI (gI (am g) (gI todo1 ((todo1.length:Int)-1))) (k:Int))) ?_))
    replace bx96:=(bx96.cn ch110).cn hc116
    refine lx (ae (v:=v9) (i:=b6 g (gI (gI (am g) (gI todo1 ((todo1.length:Int)-1))) (k:Int))) bf rfl rfl bx96.flat rfl (by omega) (by omega)) (lx (aq (v:=v9) (i:=b6 g (gI (gI (am g) (gI todo1 ((todo1.length:Int)-1))) (k:Int))) ah rfl bx96.flat (by omega) (by omega) (by decide) rfl) (lx (gJ (m:=(gI c2 (b6 g (gI (gI (am g) (gI todo1 ((todo1.length:Int)-1))) (k:Int))))) (n:=0) rfl rfl) (mv (vb (decide (0<=(gI c2 (b6 g (gI (gI (am g) (gI todo1 ((todo1.length:Int)-1))) (k:Int))))))) ?_)))
    by_cases q85:0<=(gI c2 (b6 g (gI (gI (am g) (gI todo1 ((todo1.length:Int)-1))) (k:Int))))
    ·
     refine ax (wn (dt q85)) (ax (wn (dt q85)) (ax (wn (dt q85)) (ax (aN rfl rfl rfl) (ax (aN rfl rfl rfl) (ax (aN rfl rfl rfl) (ax (aN rfl rfl rfl) (ax (wn (dt q85)) (lw (vb true) (b5 rfl (dt q85) rfl) (mv (vb true) ?_)))))))))
     refine ax (wn rfl) (ax (wn rfl) (ax (wn rfl) (ax (aN rfl rfl rfl) (ax (aN rfl rfl rfl) (ax (aN rfl rfl rfl) (ax (aN rfl rfl rfl) (ax (aN rfl rfl rfl) (ax (aN rfl rfl rfl) (ax (aN rfl rfl rfl) (ax (aN rfl rfl rfl) (ax (aN rfl rfl rfl) ?_)))))))))))
     refine ax (aN rfl rfl rfl) (ax (aN rfl rfl rfl) (ax (wn rfl) (lw (vb true) (b5 rfl rfl rfl) (ag (al rfl rfl (aF rfl (a8 rfl (mz zs14 (lx (aG (m:=↑k) (n:=1) rfl rfl (by omega)) ?_)))))))))
     refine ai ((k:Int)+1) (ag ?_)
     replace bH:=bH.cn ch110
     refine back14 (k+1,todo2_v,todo2,c2,g105) _ _ ⟨bH.cn hc116,zs1,zs2,zs3,zs8,zs9,zs10,zs11,zs12,zs13,rfl,Rg.cn hc116,(Rgone.cn ch110).cn hc116,(Rcut.cn ch110).cn hc116,bx5.cn hc116,o17.cn hc116,bx96,(o_todo2.cn ch110).cn hc116,by omega,?_⟩ ?_
     · show dY g (cV g gone cut) (mu g gone cut) c c2 todo2 n (q:Int) (gI todo1 ((todo1.length:Int)-1)) (k+1) (List.length todo1+2*fP c1)
       (rw[hfg] at*;exact hrow.skip λhp=>by assumption)
     · show Int.toNat (((List.length (gI (am g) (gI todo1 ((todo1.length:Int)-1))):Int):Int)-((k+1):Int))<Int.toNat (((List.length (gI (am g) (gI todo1 ((todo1.length:Int)-1))):Int):Int)-(k:Int))
       omega
    refine lv (gone_v) (wy (df q85)) (au zs1) ?_
    replace Rgone:=(Rgone.cn ch110).cn hc116
    refine lv (vb (me gone_v)) (wy (df q85)) (fG fk Rgone rfl rfl) (lv (vb (me gone_v)) (wy (df q85)) (au rfl) (ax (wn (Bool.eq_false_iff.2 q35)) (ax (wn (Bool.eq_false_iff.2 q35)) (ax (wn (Bool.eq_false_iff.2 q35)) (ax (wn (Bool.eq_false_iff.2 q35)) (lv (vb false) (wy (df q85)) (aY rfl (Bool.eq_false_iff.2 q35) rfl) (lw (vb false) (aY rfl (df q85) rfl) (mv (vb false) (lv (cut_v) (wy rfl) (au zs2) ?_)))))))))
    replace Rcut:=(Rcut.cn ch110).cn hc116
    refine lv (vb (me cut_v)) (wy rfl) (fG fk Rcut rfl rfl) (lv (vb (me cut_v)) (wy rfl) (au rfl) ?_)
    by_cases q98:me cut_v=true
    ·
     refine lv (cut_v) (wy q98) (au zs2) (lv (v16) (wy q98) (au zs10) (lv (vi (gI todo1 ((todo1.length:Int)-1))) (wy q98) (au zs13) ?_))
     replace o17:=o17.cn hc116
     refine lv (Value.pointer (some (aZ v16 1 (Int.toNat (gI todo1 ((todo1.length:Int)-1)))))) (wy q98) (ae (α:=List Int) (xs:=am g) (v:=v16) (i:=(gI todo1 ((todo1.length:Int)-1))) dB rfl rfl o17.sl rfl (by omega) (by omega)) ?_
     obtain⟨v117,cel118,r119⟩:=bR (r:=(gI todo1 ((todo1.length:Int)-1))) o17 (by omega) (by omega)
     refine lv (v117) (wy q98) (bB bh rfl cel118) (lv (vi ↑k) (wy q98) (au zs14) (lv (Value.pointer (some (aZ v117 1 (Int.toNat ↑k)))) (wy q98) (ae (α:=Int) (xs:=gI (am g) (gI todo1 ((todo1.length:Int)-1))) (v:=v117) (i:=↑k) bf rfl rfl r119.row_sl rfl (by omega) (by omega)) (lv (vi (gI (gI (am g) (gI todo1 ((todo1.length:Int)-1))) (k:Int))) (wy q98) (aq (α:=Int) (xs:=gI (am g) (gI todo1 ((todo1.length:Int)-1))) (v:=v117) (i:=↑k) ah rfl r119.row_sl (by omega) (by omega) (by decide) rfl) ?_)))
     refine lv (vi ((gI (gI (am g) (gI todo1 ((todo1.length:Int)-1))) (k:Int))/2)) (wy q98) (fe (m:=(gI (gI (am g) (gI todo1 ((todo1.length:Int)-1))) (k:Int))) (n:=2) rfl rfl (by omega) (by omega) (by omega)) (lv (Value.pointer (some (aZ cut_v 1 (Int.toNat ((gI (gI (am g) (gI todo1 ((todo1.length:Int)-1))) (k:Int))/2))))) (wy q98) (ae (α:=Bool) (xs:=cut) (v:=cut_v) (i:=(gI (gI (am g) (gI todo1 ((todo1.length:Int)-1))) (k:Int))/2) fk rfl rfl Rcut rfl (by(have:=hcu ‹_›;omega)) (by(have:=hcu ‹_›;omega))) ?_)
     refine lv (vb (gI cut ((gI (gI (am g) (gI todo1 ((todo1.length:Int)-1))) (k:Int))/2))) (wy q98) (aq (α:=Bool) (xs:=cut) (v:=cut_v) (i:=(gI (gI (am g) (gI todo1 ((todo1.length:Int)-1))) (k:Int))/2) gZ rfl Rcut (by(have:=hcu ‹_›;omega)) (by(have:=hcu ‹_›;omega)) (by decide) rfl) (lv (vb (gI cut ((gI (gI (am g) (gI todo1 ((todo1.length:Int)-1))) (k:Int))/2))) (wy rfl) (b5 rfl q98 rfl) (lw (vb (gI cut ((gI (gI (am g) (gI todo1 ((todo1.length:Int)-1))) (k:Int))/2))) (aY rfl rfl rfl) (ag ?_)))
     by_cases p17:(gI cut ((gI (gI (am g) (gI todo1 ((todo1.length:Int)-1))) (k:Int))/2))=true
     ·
      refine al rfl p17 (aF rfl ?_)
      clear cel118 r119
      refine a8 rfl (mz zs14 (lx (aG (m:=↑k) (n:=1) rfl rfl (by omega)) (ai ((k:Int)+1) (ag ?_))))
      replace bH:=bH.cn ch110
      refine back14 (k+1,todo2_v,todo2,c2,g105) _ _ ⟨bH.cn hc116,zs1,zs2,zs3,zs8,zs9,zs10,zs11,zs12,zs13,rfl,Rg.cn hc116,Rgone,Rcut,bx5.cn hc116,o17,bx96,(o_todo2.cn ch110).cn hc116,by omega,?_⟩ ?_
      · show dY g (cV g gone cut) (mu g gone cut) c c2 todo2 n (q:Int) (gI todo1 ((todo1.length:Int)-1)) (k+1) (List.length todo1+2*fP c1)
        (rw[hfg] at*;exact hrow.skip λhp=>absurd ‹_› hp.2.2)
      · show Int.toNat (((List.length (gI (am g) (gI todo1 ((todo1.length:Int)-1))):Int):Int)-((k+1):Int))<Int.toNat (((List.length (gI (am g) (gI todo1 ((todo1.length:Int)-1))):Int):Int)-(k:Int))
        omega
     refine aj rfl (Bool.eq_false_iff.2 p17) (av (ab ?_))
     clear cel118 r119
     refine a8 rfl (mz zs8 (mi (b6 g (gI (gI (am g) (gI todo1 ((todo1.length:Int)-1))) (k:Int))) (mz zs9 (lx (ae (v:=v9) (i:=b6 g (gI (gI (am g) (gI todo1 ((todo1.length:Int)-1))) (k:Int))) bf rfl rfl bx96.flat rfl (by omega) (by omega)) (lo (aD (i:=b6 g (gI (gI (am g) (gI todo1 ((todo1.length:Int)-1))) (k:Int))) (n:Int) ah rfl rfl bx96 (by omega) (by omega) rfl ?_))))))
     intro w120 ch121 bx122
     clear bx96
     refine ag (a8 rfl (mz zs12 (mi (b6 g (gI (gI (am g) (gI todo1 ((todo1.length:Int)-1))) (k:Int))) (lo (aM (α:=Int) g105 (is 5) (is 5) (5,0) rfl [b6 g (gI (gI (am g) (gI todo1 ((todo1.length:Int)-1))) (k:Int))] bf ah (by decide) (by decide) (vs:=[(0,vi (b6 g (gI (gI (am g) (gI todo1 ((todo1.length:Int)-1))) (k:Int))))]) rfl rfl (.cons rfl .nil) ?_)))))
     intro g123 w124 v125 ch126 o127
     refine lo ?_
     have C128:=cg [2] (ch110.n.seq (hc116.n.seq ((ch121.l rfl).seq ch126.n)))
     replace o_todo2:=o_todo2.ca C128
     refine bD (α:=Int) (xs:=todo2) (ys:=([b6 g (gI (gI (am g) (gI todo1 ((todo1.length:Int)-1))) (k:Int))])) g123 (J:=is 4) (S:=is 4) (4,0) rfl bf ah (by decide) rfl rfl rfl o_todo2 o127.flat (by decide) (by(simp;omega)) ?_
     intro g129 w130 v131 ch132 o133
     clear o_todo2
     refine ma v131 (ag (ak ?_))
     clear o127
     refine a8 rfl (mz zs14 (lx (aG (m:=↑k) (n:=1) rfl rfl (by omega)) (ai ((k:Int)+1) (ag ?_))))
     have C136:=cg [2,4] ((ch121.l rfl).seq (ch126.n.seq (ch132.l rfl)))
     have C135:=hc116.n.seq C136
     have C134:=ch110.n.seq C135
     refine back14 (k+1,v131,(todo2++[b6 g (gI (gI (am g) (gI todo1 ((todo1.length:Int)-1))) (k:Int))]),(List.set c2 (Int.toNat (b6 g (gI (gI (am g) (gI todo1 ((todo1.length:Int)-1))) (k:Int)))) (n:Int)),g129) _ _ ⟨bH.ca C134,zs1,zs2,zs3,zs8,zs9,zs10,zs11,rfl,zs13,rfl,Rg.ca C135,Rgone.ca C136,Rcut.ca C136,bx5.ca C135,o17.ca C136,(bx122.cn ch126).ce ch132,o133,by omega,?_⟩ ?_
     · show dY g (cV g gone cut) (mu g gone cut) c (List.set c2 (Int.toNat (b6 g (gI (gI (am g) (gI todo1 ((todo1.length:Int)-1))) (k:Int)))) (n:Int)) (todo2++[b6 g (gI (gI (am g) (gI todo1 ((todo1.length:Int)-1))) (k:Int))]) n (q:Int) (gI todo1 ((todo1.length:Int)-1)) (k+1) (List.length todo1+2*fP c1)
       (rw[hfg] at*;exact hrow.push hP hkl (hrow.psg hmay (by(exact kA hgo0 ‹_›)) hkl (by(exact kA hgo0 ‹_›)) (by(assumption))) ‹_›)
     · show Int.toNat (((List.length (gI (am g) (gI todo1 ((todo1.length:Int)-1))):Int):Int)-((k+1):Int))<Int.toNat (((List.length (gI (am g) (gI todo1 ((todo1.length:Int)-1))):Int):Int)-(k:Int))
       omega
    refine ax (wn (Bool.eq_false_iff.2 q98)) (ax (wn (Bool.eq_false_iff.2 q98)) (ax (wn (Bool.eq_false_iff.2 q98)) (ax (wn (Bool.eq_false_iff.2 q98)) (ax (wn (Bool.eq_false_iff.2 q98)) (ax (wn (Bool.eq_false_iff.2 q98)) (ax (wn (Bool.eq_false_iff.2 q98)) (ax (wn (Bool.eq_false_iff.2 q98)) (ax (wn (Bool.eq_false_iff.2 q98)) (ax (wn (Bool.eq_false_iff.2 q98)) ?_)))))))))
    refine ax (wn (Bool.eq_false_iff.2 q98)) (lv (vb false) (wy rfl) (aY rfl (Bool.eq_false_iff.2 q98) rfl) (lw (vb false) (aY rfl rfl rfl) (ag (aj rfl rfl (av (ab (a8 rfl (mz zs8 (mi (b6 g (gI (gI (am g) (gI todo1 ((todo1.length:Int)-1))) (k:Int))) (mz zs9 ?_))))))))))
    refine lx (ae (v:=v9) (i:=b6 g (gI (gI (am g) (gI todo1 ((todo1.length:Int)-1))) (k:Int))) bf rfl rfl bx96.flat rfl (by omega) (by omega)) (lo (aD (i:=b6 g (gI (gI (am g) (gI todo1 ((todo1.length:Int)-1))) (k:Int))) (n:Int) ah rfl rfl bx96 (by omega) (by omega) rfl ?_))
    intro w137 ch138 bx139
    clear bx96
    refine ag (a8 rfl (mz zs12 (mi (b6 g (gI (gI (am g) (gI todo1 ((todo1.length:Int)-1))) (k:Int))) (lo (aM (α:=Int) g105 (is 5) (is 5) (5,0) rfl [b6 g (gI (gI (am g) (gI todo1 ((todo1.length:Int)-1))) (k:Int))] bf ah (by decide) (by decide) (vs:=[(0,vi (b6 g (gI (gI (am g) (gI todo1 ((todo1.length:Int)-1))) (k:Int))))]) rfl rfl (.cons rfl .nil) ?_)))))
    intro g140 w141 v142 ch143 o144
    refine lo ?_
    have C145:=cg [2] (ch110.n.seq (hc116.n.seq ((ch138.l rfl).seq ch143.n)))
    replace o_todo2:=o_todo2.ca C145
    refine bD (α:=Int) (xs:=todo2) (ys:=([b6 g (gI (gI (am g) (gI todo1 ((todo1.length:Int)-1))) (k:Int))])) g140 (J:=is 4) (S:=is 4) (4,0) rfl bf ah (by decide) rfl rfl rfl o_todo2 o144.flat (by decide) (by(simp;omega)) ?_
    intro g146 w147 v148 ch149 o150
    clear o_todo2
    refine ma v148 (ag (ak ?_))
    clear o144
    refine a8 rfl (mz zs14 (lx (aG (m:=↑k) (n:=1) rfl rfl (by omega)) (ai ((k:Int)+1) (ag ?_))))
    have C153:=cg [2,4] ((ch138.l rfl).seq (ch143.n.seq (ch149.l rfl)))
    have C152:=hc116.n.seq C153
    have C151:=ch110.n.seq C152
    refine back14 (k+1,v148,(todo2++[b6 g (gI (gI (am g) (gI todo1 ((todo1.length:Int)-1))) (k:Int))]),(List.set c2 (Int.toNat (b6 g (gI (gI (am g) (gI todo1 ((todo1.length:Int)-1))) (k:Int)))) (n:Int)),g146) _ _ ⟨bH.ca C151,zs1,zs2,zs3,zs8,zs9,zs10,zs11,rfl,zs13,rfl,Rg.ca C152,Rgone.ca C153,Rcut.ca C153,bx5.ca C152,o17.ca C152,(bx139.cn ch143).ce ch149,o150,by omega,?_⟩ ?_
    · show dY g (cV g gone cut) (mu g gone cut) c (List.set c2 (Int.toNat (b6 g (gI (gI (am g) (gI todo1 ((todo1.length:Int)-1))) (k:Int)))) (n:Int)) (todo2++[b6 g (gI (gI (am g) (gI todo1 ((todo1.length:Int)-1))) (k:Int))]) n (q:Int) (gI todo1 ((todo1.length:Int)-1)) (k+1) (List.length todo1+2*fP c1)
      (rw[hfg] at*;exact hrow.push hP hkl (hrow.psg hmay (by(exact kA hgo0 ‹_›)) hkl (by(exact kA hgo0 ‹_›)) (by(exact kA hcu0 ‹_›))) ‹_›)
    · show Int.toNat (((List.length (gI (am g) (gI todo1 ((todo1.length:Int)-1))):Int):Int)-((k+1):Int))<Int.toNat (((List.length (gI (am g) (gI todo1 ((todo1.length:Int)-1))):Int):Int)-(k:Int))
      omega
   refine aj rfl (df p14) (aF rfl (ak ?_))
   refine back10 (todo2_v,todo2,c2,g105) _ _ ⟨bH,zs1,zs2,zs3,zs8,zs9,zs10,zs11,zs12,Rg,Rgone,Rcut,bx5,o17,bx96,o_todo2,?_⟩ ?_
   · show dX g (cV g gone cut) (mu g gone cut) c c2 todo2 [] n (q:Int)
     exact hrow.done (by rw[<-hfg];assumption)
   · show List.length todo2+2*fP c2<List.length todo1+2*fP c1
     (have h1:=hrow.meas;omega)
  refine aj rfl (df p10) (aF rfl ?_)
  clear o_todo1
  refine a8 rfl (mz zs9 (lx (aG (m:=↑n) (n:=1) rfl rfl (by omega)) (ai ((n:Int)+1) (ag (ak (a8 rfl (mz zs11 (lx (aG (m:=↑q) (n:=1) rfl rfl (by omega)) (ai ((q:Int)+1) ?_)))))))))
  refine ag ?_
  refine back5 (q+1,n+1,c1,g99) _ _ ⟨bH,zs1,zs2,zs3,zs8,rfl,zs10,rfl,Rg,Rgone,Rcut,bx5,bx96,o17,by omega,?_⟩ ?_
  · show c1=(bz (cV g gone cut) gone (q+1)).1/\(n+1)=(bz (cV g gone cut) gone (q+1)).2
    exact hdf.done hP (by omega) hinv ‹_› (by(exact kA hgo0 ‹_›))
  · show Int.toNat ((g.1:Int)-((q+1):Int))<Int.toNat ((g.1:Int)-(q:Int))
    omega
 refine aj rfl (df p5) (aF rfl (ab ?_))
 clear bx5 o17
 refine a8 rfl (mz zs8 (mz zs9 (ma v9 (ai (n:Int) (ag (aQ (vs:=[v9,vi ↑n]) Try.func31 (.tmp rfl (.tmp rfl .nil)) ?_))))))
 have e0:(c:List Int)=((b7 g gone cut).1):=by
   exact(kL hmay (by omega) hinv).1
 have e1:((n:Int):Int)=((b7 g gone cut).2):=by
   exact(kL hmay (by omega) hinv).2
 exact⟨(fin w0 g23 (λn=>if n=2 then 1 else 0),v9),(dP (a:=c) (b:=(n:Int)) (λ(z0:List Int) (z1:Int)=>Ending.returned (vt [v9,vi z1])) e0 e1),bH.fresh _,(e0▸(o10.glue (γ:=c0) (ren:=(λn=>if n=2 then 1 else 0)) (k:=1) bH.col rfl rfl))⟩
end TL
