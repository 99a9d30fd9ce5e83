import Derived.Test.YtbpphaeianpdpaaPzTlP2
import Derived.Test.YtbpphaeianpdpaaPzTlGmA
import Derived.Test.YtbpphaeianpdpaaPzTlGenA
import Derived.Test.YtbpphaeianpdpaaPzTlPwA
import Derived.Test.YtbpphaeianpdpaaPzTlPwR
import Derived.Test.YtbpphaeianpdpaaProg
import Derived.Test.YtbpphaeianpdpaaPzTlAli
set_option linter.all false
set_option maxRecDepth 20000
namespace TL
open Go Go.Proofs
theorem fB:Try.prog.follows .mixedOrders=true:=by kernel_rfl
theorem dZ:Tp Try.prog 4 false 1 1 (.bool false):=Tp.of (by kernel_rfl)
theorem bO:Tp Try.prog 33 true 2 48 (.agg #[.slice none 0 0,.slice none 0 0]):=Tp.of (by kernel_rfl)
theorem oC:Try.f34.body.isNone=false:=rfl
theorem oK:(Try.f34.name== "runtime.NumGoroutine")=false:=by decide+kernel
theorem l4:Try.f43.body.isNone=false:=rfl
theorem lH:(Try.f43.name== "runtime.NumGoroutine")=false:=by decide+kernel
theorem pn:Try.f44.body.isNone=false:=rfl
theorem oJ:(Try.f44.name== "runtime.NumGoroutine")=false:=by decide+kernel
theorem kO:Try.f45.body.isNone=false:=rfl
theorem li:(Try.f45.name== "runtime.NumGoroutine")=false:=by decide+kernel
theorem pF:Try.f66.body.isNone=false:=rfl
theorem py:(Try.f66.name== "runtime.NumGoroutine")=false:=by decide+kernel
theorem pK:Try.f67.body.isNone=false:=rfl
theorem og:(Try.f67.name== "runtime.NumGoroutine")=false:=by decide+kernel
theorem q6:Try.f75.body.isNone=false:=rfl
theorem pz:(Try.f75.name== "runtime.NumGoroutine")=false:=by decide+kernel
theorem mZ(w0:World)(g:(Int)×(List Pt))(g_v:Value)(hg_v:Ro w0 g_v g.2)(hmay:bU g):
    Calls Try.prog 44 #[vg [vi g.1,g_v]] w0 (λee w=>∃xx:aA×Value,ee= .returned ((λ⟨δ,rv0⟩=>rv0) xx)/\(λ(⟨δ,rv0⟩:aA×Value) (w:World)=>eh w0 δ w/\cj δ 1 w rv0 (ab g)) xx w):=by
 refine ar Try.func44 rfl nq ?_
 have bH:=aU.start w0
 have Rg:=hg_v.sl
 have hm0:=hmay
 obtain⟨hm1,hm2,hm3,hm4⟩:=hm0
 refine a7 (a6 rfl (cu rfl (cN c0 (is 1) (1,0) rfl rfl ?_)))
 intro g4 w1 b3 ch2 bx5
 replace bx5:Bx g4 (is 1) w1 b3 [vi g.1,g_v]:=bx5
 refine ma vn (a8 (a7 (a6 rfl (lx (ad cT rfl rfl rfl rfl) (lx (ae ay rfl bx5 rfl) (lo (ic (α:=Int) (n:=g.1) (cp:=g.1) g4 2 cW aF rfl rfl rfl (by omega) (by omega) (by omega) (by omega) ?_)))))))
 intro g6 w7 v8 ch9 o10
 refine ma v8 (a8 (a7 (a7 (a6 rfl (ai 0 (a8 (al ?_)))))))
 refine aP (σ:=Nat×fK×aA) (λ⟨h,O,gq⟩ f w=>aU w0 gq w/\f 1=vp b3 0/\f 3=v8/\f 4=vi ↑h/\Sl gq (is 0) w g_v g.2/\Bx gq (is 1) w b3 [vi g.1,g_v]/\cj gq 2 w v8 O/\(h:Int)<=(2*(g.2.length:Int):Int)/\(cP O g h)) (λ⟨h,O,gq⟩=>Int.toNat ((2*(g.2.length:Int):Int)-(h:Int))) (0,(List.replicate (Int.toNat g.1) []),g6) ?_ ?_
 replace bH:=bH.cn ch2
 · exact⟨bH.cn ch9,rfl,rfl,rfl,(Rg.cn ch2).cn ch9,bx5.cn ch9,o10,by omega,by exact cP.start hm1⟩
 clear Rg bx5 o10 bH
 rintro⟨h,O,g13⟩ f11 w12 ⟨bH,zs1,zs3,zs4,Rg,bx5,o10,hle_h,hov⟩ back3
 have hol:=hov.len
 refine a7 (a7 (a6 rfl (mz zs4 (lx (ad cT rfl rfl zs1 rfl) (lx (ae bJ rfl bx5 rfl) ?_)))))
 have len14:=(Rg).small
 refine lx (aV fu rfl Rg) (lx (jq (m:=2) (n:=(g.2.length:Int)) rfl rfl (by omega)) (lx (aW (m:=↑h) (n:=2*(g.2.length:Int)) rfl rfl) (a8 ?_)))
 by_cases p3:(h:Int)<(2*(g.2.length:Int))
 ·
  refine af rfl (dt p3) ?_
  obtain⟨hf1,hf2⟩:=cH hmay (h:=(h:Int)) (by omega) (by omega)
  have hbd:=hov.bd hf1 hf2
  refine ak (a7 (al ?_))
  refine gA (σ:=aA) (λgq f w=>aU w0 gq w/\f 1=vp b3 0/\f 3=v8/\f 4=vi ↑h/\Sl gq (is 0) w g_v g.2/\Bx gq (is 1) w b3 [vi g.1,g_v]/\cj gq 2 w v8 (List.set O (Int.toNat (aH g (h:Int))) (gI O (aH g (h:Int))++[(h:Int)]))) g13 (inl [2]) fB ?_ ?_
  ·
   intro mid
   intro w16 ch15
   refine ht (v:=v8) 0 rfl (bi.refl _ _ _) (λw' hw'=>ao zs3) ?_
   replace bx5:=bx5.cn ch15
   refine ht 1 rfl (bi.refl _ _ _) (λw' hw'=>aR (ds:=[vi g.1,g_v]) bP zs1 (bx5.chg hw' (ct rfl)) rfl rfl) (ht (v:=vi ↑h) 2 rfl (bi.refl _ _ _) (λw' hw'=>ao zs4) (ht (v:=v8) 4 rfl (bi.refl _ _ _) (λw' hw'=>ao zs3) (ht 5 rfl (bi.refl _ _ _) (λw' hw'=>aR (ds:=[vi g.1,g_v]) bP zs1 (bx5.chg hw' (ct rfl)) rfl rfl) (ht (v:=vi ↑h) 6 rfl (bi.refl _ _ _) (λw' hw'=>ao zs4) (ht (v:=vi ↑h) 10 rfl (bi.refl _ _ _) (λw' hw'=>ao zs4) ?_)))))
   refine fw 3 [11] (by kernel_rfl) ⟨gh 3 rfl (by kernel_rfl) rfl ?_,gh 11 rfl (by kernel_rfl) rfl ?_,trivial⟩
   ·
    replace Rg:=Rg.cn ch15
    refine aZ (v:=vi (aH g (h:Int))) (aE (vals:=[vg [vi g.1,g_v],vi ↑h]) Try.func23 eQ f5 rfl) (eU w16 g g_v (Rg).ro (h:Int) (by omega) (by omega)) ?_
    intro w17 hb18
    replace hb18:=av hb18 g13
    have hs19:bi (inl [2]) _ _ _ _:=hb18.n
    refine⟨hs19.same,?_⟩
    refine fw 7 [11] (by kernel_rfl) ⟨gh 7 rfl (by kernel_rfl) rfl ?_,gh 11 rfl (by kernel_rfl) rfl ?_,trivial⟩
    ·
     refine aZ (v:=vi (aH g (h:Int))) (aE (vals:=[vg [vi g.1,g_v],vi ↑h]) Try.func23 eQ f5 rfl) (eU w17 g g_v ((Rg.ca hs19)).ro (h:Int) (by omega) (by omega)) ?_
     intro w20 hb21
     replace hb21:=av hb21 g13
     have hs22:=hs19.seq (hb21.n)
     refine⟨hs22.same,?_⟩
     refine fw 8 [11] (by kernel_rfl) ⟨gh 8 rfl (by kernel_rfl) rfl ?_,gh 11 rfl (by kernel_rfl) rfl ?_,trivial⟩
     ·
      have C23:=cg [] (ch15.n.seq (hb18.n.seq hb21.n))
      replace o10:=o10.ca C23
      refine aX (v:=Value.pointer (some (aO v8 1 (Int.toNat (aH g (h:Int)))))) (aa (α:=List Int) (xs:=O) (v:=v8) (i:=aH g (h:Int)) cW rfl rfl o10.sl rfl (by omega) (by omega)) ?_
      refine⟨hs22.same,?_⟩
      refine fw 9 [11] (by kernel_rfl) ⟨gh 9 rfl (by kernel_rfl) rfl ?_,gh 11 rfl (by kernel_rfl) rfl ?_,trivial⟩
      ·
       obtain⟨v24,cel25,r26⟩:=bw (r:=aH g (h:Int)) o10 (by omega) (by omega)
       refine aX (v:=v24) (bb aF rfl cel25) ?_
       refine⟨hs22.same,?_⟩
       refine bx 11 rfl (by kernel_rfl) rfl (aN (α:=Int) g13 (is 3) (is 3) (3,0) rfl [(h:Int)] bM ay (by decide) (by decide) (vs:=[(0,vi ↑h)]) rfl rfl (.cons rfl .nil) ?_)
       intro g27 w28 v29 ch30 o31
       have hs32:=hs22.seq (ch30.n)
       refine⟨hs32.same,?_⟩
       refine bx 12 rfl (by kernel_rfl) rfl ?_
       replace o10:=o10.cn ch30
       replace r26:=r26.cn ch30
       refine bs (α:=Int) (xs:=(gI O (aH g (h:Int)))) (ys:=([(h:Int)])) g27 (J:=row 2 (Int.toNat (aH g (h:Int))+1)) (S:=row 2 (Int.toNat (aH g (h:Int))+1)) (2,Int.toNat (aH g (h:Int))+1) rfl bM ay (by decide) rfl rfl rfl r26 o31.flat (by decide) (by(simp;omega)) ?_
       intro g33 w34 v35 ch36 o37
       have o38:=o10.rowchg ch36
       clear o10 cel25 r26
       have hs39:=hs32.seq (ch36.lr rfl)
       refine⟨hs39.same,?_⟩
       refine bx 13 rfl (by kernel_rfl) rfl ?_
       obtain⟨us40,hl41,r42⟩:=o38.vc
       try simp only[List.length_set,List.length_append,List.length_cons,List.length_nil] at hl41
       refine aX (v:=Value.pointer (some (aO v8 1 (Int.toNat (aH g (h:Int)))))) (aa (α:=Vc) (xs:=us40) (v:=v8) (i:=aH g (h:Int)) cW rfl rfl r42 rfl (by omega) (by omega)) ?_
       refine⟨hs39.same,?_⟩
       refine bx 14 rfl (by kernel_rfl) rfl (bE (r:=aH g (h:Int)) aF rfl rfl o38 o37 (by omega) (by omega) ?_)
       intro w46 ch47 o48
       clear o38 o37
       have hs49:=hs39.seq (ch47.l rfl)
       refine⟨hs49.same,?_⟩
       refine eF (by kernel_rfl) ?_
       have C50:=cg [2] (ch15.n.seq (hb18.n.seq (hb21.n.seq (ch30.n.seq ((ch36.lr rfl).seq (ch47.l rfl))))))
       exact mid (g33) _ _ ⟨bH.ca C50,zs1,zs3,zs4,(Rg.ca hs49),(bx5.ca hs49),o48⟩
      ·
       refine aN (α:=Int) g13 (is 3) (is 3) (3,0) rfl [(h:Int)] bM ay (by decide) (by decide) (vs:=[(0,vi ↑h)]) rfl rfl (.cons rfl .nil) ?_
       intro g51 w52 v53 ch54 o55
       have hs56:=hs22.seq (ch54.n)
       refine⟨hs56.same,?_⟩
       refine bx 9 rfl (by kernel_rfl) rfl ?_
       replace o10:=o10.cn ch54
       obtain⟨v57,cel58,r59⟩:=bw (r:=aH g (h:Int)) o10 (by omega) (by omega)
       refine aX (v:=v57) (bb aF rfl cel58) ?_
       refine⟨hs56.same,?_⟩
       refine bx 12 rfl (by kernel_rfl) rfl (bs (α:=Int) (xs:=(gI O (aH g (h:Int)))) (ys:=([(h:Int)])) g51 (J:=row 2 (Int.toNat (aH g (h:Int))+1)) (S:=row 2 (Int.toNat (aH g (h:Int))+1)) (2,Int.toNat (aH g (h:Int))+1) rfl bM ay (by decide) rfl rfl rfl r59 o55.flat (by decide) (by(simp;omega)) ?_)
       intro g60 w61 v62 ch63 o64
       have o65:=o10.rowchg ch63
       clear o10 cel58 r59
       have hs66:=hs56.seq (ch63.lr rfl)
       refine⟨hs66.same,?_⟩
       refine bx 13 rfl (by kernel_rfl) rfl ?_
       obtain⟨us67,hl68,r69⟩:=o65.vc
       try simp only[List.length_set,List.length_append,List.length_cons,List.length_nil] at hl68
       refine aX (v:=Value.pointer (some (aO v8 1 (Int.toNat (aH g (h:Int)))))) (aa (α:=Vc) (xs:=us67) (v:=v8) (i:=aH g (h:Int)) cW rfl rfl r69 rfl (by omega) (by omega)) ?_
       refine⟨hs66.same,?_⟩
       refine bx 14 rfl (by kernel_rfl) rfl (bE (r:=aH g (h:Int)) aF rfl rfl o65 o64 (by omega) (by omega) ?_)
       intro w73 ch74 o75
       clear o65 o64
       have hs76:=hs66.seq (ch74.l rfl)
       refine⟨hs76.same,?_⟩
       refine eF (by kernel_rfl) ?_
       have C77:=cg [2] (ch15.n.seq (hb18.n.seq (hb21.n.seq (ch54.n.seq ((ch63.lr rfl).seq (ch74.l rfl))))))
       exact mid (g60) _ _ ⟨bH.ca C77,zs1,zs3,zs4,(Rg.ca hs76),(bx5.ca hs76),o75⟩
     ·
      refine aN (α:=Int) g13 (is 3) (is 3) (3,0) rfl [(h:Int)] bM ay (by decide) (by decide) (vs:=[(0,vi ↑h)]) rfl rfl (.cons rfl .nil) ?_
      intro g78 w79 v80 ch81 o82
      have hs83:=hs22.seq (ch81.n)
      refine⟨hs83.same,?_⟩
      refine bx 8 rfl (by kernel_rfl) rfl ?_
      have C84:=cg [] (ch15.n.seq (hb18.n.seq (hb21.n.seq ch81.n)))
      replace o10:=o10.ca C84
      refine aX (v:=Value.pointer (some (aO v8 1 (Int.toNat (aH g (h:Int)))))) (aa (α:=List Int) (xs:=O) (v:=v8) (i:=aH g (h:Int)) cW rfl rfl o10.sl rfl (by omega) (by omega)) ?_
      refine⟨hs83.same,?_⟩
      refine bx 9 rfl (by kernel_rfl) rfl ?_
      obtain⟨v85,cel86,r87⟩:=bw (r:=aH g (h:Int)) o10 (by omega) (by omega)
      refine aX (v:=v85) (bb aF rfl cel86) ?_
      refine⟨hs83.same,?_⟩
      refine bx 12 rfl (by kernel_rfl) rfl (bs (α:=Int) (xs:=(gI O (aH g (h:Int)))) (ys:=([(h:Int)])) g78 (J:=row 2 (Int.toNat (aH g (h:Int))+1)) (S:=row 2 (Int.toNat (aH g (h:Int))+1)) (2,Int.toNat (aH g (h:Int))+1) rfl bM ay (by decide) rfl rfl rfl r87 o82.flat (by decide) (by(simp;omega)) ?_)
      intro g88 w89 v90 ch91 o92
      have o93:=o10.rowchg ch91
      clear o10 cel86 r87
      have hs94:=hs83.seq (ch91.lr rfl)
      refine⟨hs94.same,?_⟩
      refine bx 13 rfl (by kernel_rfl) rfl ?_
      obtain⟨us95,hl96,r97⟩:=o93.vc
      try simp only[List.length_set,List.length_append,List.length_cons,List.length_nil] at hl96
      refine aX (v:=Value.pointer (some (aO v8 1 (Int.toNat (aH g (h:Int)))))) (aa (α:=Vc) (xs:=us95) (v:=v8) (i:=aH g (h:Int)) cW rfl rfl r97 rfl (by omega) (by omega)) ?_
      refine⟨hs94.same,?_⟩
      refine bx 14 rfl (by kernel_rfl) rfl (bE (r:=aH g (h:Int)) aF rfl rfl o93 o92 (by omega) (by omega) ?_)
      intro w101 ch102 o103
      clear o93 o92
      have hs104:=hs94.seq (ch102.l rfl)
      refine⟨hs104.same,?_⟩
      refine eF (by kernel_rfl) ?_
      have C105:=cg [2] (ch15.n.seq (hb18.n.seq (hb21.n.seq (ch81.n.seq ((ch91.lr rfl).seq (ch102.l rfl))))))
      exact mid (g88) _ _ ⟨bH.ca C105,zs1,zs3,zs4,(Rg.ca hs104),(bx5.ca hs104),o103⟩
    ·
     refine aN (α:=Int) g13 (is 3) (is 3) (3,0) rfl [(h:Int)] bM ay (by decide) (by decide) (vs:=[(0,vi ↑h)]) rfl rfl (.cons rfl .nil) ?_
     intro g106 w107 v108 ch109 o110
     have hs111:=hs19.seq (ch109.n)
     refine⟨hs111.same,?_⟩
     refine bx 7 rfl (by kernel_rfl) rfl (aZ (v:=vi (aH g (h:Int))) (aE (vals:=[vg [vi g.1,g_v],vi ↑h]) Try.func23 eQ f5 rfl) (eU w107 g g_v ((Rg.ca hs111)).ro (h:Int) (by omega) (by omega)) ?_)
     intro w112 hb113
     replace hb113:=av hb113 g106
     have hs114:=hs111.seq (hb113.n)
     refine⟨hs114.same,?_⟩
     refine bx 8 rfl (by kernel_rfl) rfl ?_
     have C115:=cg [] (ch15.n.seq (hb18.n.seq (ch109.n.seq hb113.n)))
     replace o10:=o10.ca C115
     refine aX (v:=Value.pointer (some (aO v8 1 (Int.toNat (aH g (h:Int)))))) (aa (α:=List Int) (xs:=O) (v:=v8) (i:=aH g (h:Int)) cW rfl rfl o10.sl rfl (by omega) (by omega)) ?_
     refine⟨hs114.same,?_⟩
     refine bx 9 rfl (by kernel_rfl) rfl ?_
     obtain⟨v116,cel117,r118⟩:=bw (r:=aH g (h:Int)) o10 (by omega) (by omega)
     refine aX (v:=v116) (bb aF rfl cel117) ?_
     refine⟨hs114.same,?_⟩
     refine bx 12 rfl (by kernel_rfl) rfl ?_
     replace o110:=o110.cn hb113
     refine bs (α:=Int) (xs:=(gI O (aH g (h:Int)))) (ys:=([(h:Int)])) g106 (J:=row 2 (Int.toNat (aH g (h:Int))+1)) (S:=row 2 (Int.toNat (aH g (h:Int))+1)) (2,Int.toNat (aH g (h:Int))+1) rfl bM ay (by decide) rfl rfl rfl r118 o110.flat (by decide) (by(simp;omega)) ?_
     intro g119 w120 v121 ch122 o123
     have o124:=o10.rowchg ch122
     clear o10 cel117 r118
     have hs125:=hs114.seq (ch122.lr rfl)
     refine⟨hs125.same,?_⟩
     refine bx 13 rfl (by kernel_rfl) rfl ?_
     obtain⟨us126,hl127,r128⟩:=o124.vc
     try simp only[List.length_set,List.length_append,List.length_cons,List.length_nil] at hl127
     refine aX (v:=Value.pointer (some (aO v8 1 (Int.toNat (aH g (h:Int)))))) (aa (α:=Vc) (xs:=us126) (v:=v8) (i:=aH g (h:Int)) cW rfl rfl r128 rfl (by omega) (by omega)) ?_
     refine⟨hs125.same,?_⟩
     refine bx 14 rfl (by kernel_rfl) rfl (bE (r:=aH g (h:Int)) aF rfl rfl o124 o123 (by omega) (by omega) ?_)
     intro w132 ch133 o134
     clear o124 o123
     have hs135:=hs125.seq (ch133.l rfl)
     refine⟨hs135.same,?_⟩
     refine eF (by kernel_rfl) ?_
     have C136:=cg [2] (ch15.n.seq (hb18.n.seq (ch109.n.seq (hb113.n.seq ((ch122.lr rfl).seq (ch133.l rfl))))))
     exact mid (g119) _ _ ⟨bH.ca C136,zs1,zs3,zs4,(Rg.ca hs135),(bx5.ca hs135),o134⟩
   ·
    refine aN (α:=Int) g13 (is 3) (is 3) (3,0) rfl [(h:Int)] bM ay (by decide) (by decide) (vs:=[(0,vi ↑h)]) rfl rfl (.cons rfl .nil) ?_
    intro g137 w138 v139 ch140 o141
    have hs142:bi (inl [2]) _ _ _ _:=ch140.n
    refine⟨hs142.same,?_⟩
    refine bx 3 rfl (by kernel_rfl) rfl ?_
    replace Rg:=Rg.cn ch15
    refine aZ (v:=vi (aH g (h:Int))) (aE (vals:=[vg [vi g.1,g_v],vi ↑h]) Try.func23 eQ f5 rfl) (eU w138 g g_v ((Rg.ca hs142)).ro (h:Int) (by omega) (by omega)) ?_
    intro w143 hb144
    replace hb144:=av hb144 g137
    have hs145:=hs142.seq (hb144.n)
    refine⟨hs145.same,?_⟩
    refine bx 7 rfl (by kernel_rfl) rfl (aZ (v:=vi (aH g (h:Int))) (aE (vals:=[vg [vi g.1,g_v],vi ↑h]) Try.func23 eQ f5 rfl) (eU w143 g g_v ((Rg.ca hs145)).ro (h:Int) (by omega) (by omega)) ?_)
    intro w146 hb147
    replace hb147:=av hb147 g137
    have hs148:=hs145.seq (hb147.n)
    refine⟨hs148.same,?_⟩
    refine bx 8 rfl (by kernel_rfl) rfl ?_
    have C149:=cg [] (ch15.n.seq (ch140.n.seq (hb144.n.seq hb147.n)))
    replace o10:=o10.ca C149
    refine aX (v:=Value.pointer (some (aO v8 1 (Int.toNat (aH g (h:Int)))))) (aa (α:=List Int) (xs:=O) (v:=v8) (i:=aH g (h:Int)) cW rfl rfl o10.sl rfl (by omega) (by omega)) ?_
    refine⟨hs148.same,?_⟩
    refine bx 9 rfl (by kernel_rfl) rfl ?_
    obtain⟨v150,cel151,r152⟩:=bw (r:=aH g (h:Int)) o10 (by omega) (by omega)
    refine aX (v:=v150) (bb aF rfl cel151) ?_
    refine⟨hs148.same,?_⟩
    refine bx 12 rfl (by kernel_rfl) rfl ?_
    replace o141:=(o141.cn hb144).cn hb147
    refine bs (α:=Int) (xs:=(gI O (aH g (h:Int)))) (ys:=([(h:Int)])) g137 (J:=row 2 (Int.toNat (aH g (h:Int))+1)) (S:=row 2 (Int.toNat (aH g (h:Int))+1)) (2,Int.toNat (aH g (h:Int))+1) rfl bM ay (by decide) rfl rfl rfl r152 o141.flat (by decide) (by(simp;omega)) ?_
    intro g153 w154 v155 ch156 o157
    have o158:=o10.rowchg ch156
    clear o10 cel151 r152
    have hs159:=hs148.seq (ch156.lr rfl)
    refine⟨hs159.same,?_⟩
    refine bx 13 rfl (by kernel_rfl) rfl ?_
    obtain⟨us160,hl161,r162⟩:=o158.vc
    try simp only[List.length_set,List.length_append,List.length_cons,List.length_nil] at hl161
    refine aX (v:=Value.pointer (some (aO v8 1 (Int.toNat (aH g (h:Int)))))) (aa (α:=Vc) (xs:=us160) (v:=v8) (i:=aH g (h:Int)) cW rfl rfl r162 rfl (by omega) (by omega)) ?_
    refine⟨hs159.same,?_⟩
    refine bx 14 rfl (by kernel_rfl) rfl (bE (r:=aH g (h:Int)) aF rfl rfl o158 o157 (by omega) (by omega) ?_)
    intro w166 ch167 o168
    clear o158 o157
    have hs169:=hs159.seq (ch167.l rfl)
    refine⟨hs169.same,?_⟩
    refine eF (by kernel_rfl) ?_
    have C170:=cg [2] (ch15.n.seq (ch140.n.seq (hb144.n.seq (hb147.n.seq ((ch156.lr rfl).seq (ch167.l rfl))))))
    exact mid (g153) _ _ ⟨bH.ca C170,zs1,zs3,zs4,(Rg.ca hs169),(bx5.ca hs169),o168⟩
  clear Rg bx5 o10 bH
  rintro g173 f171 w172 ⟨bH,zs1,zs3,zs4,Rg,bx5,o48⟩
  refine aq (a6 rfl (mz zs4 (lx (aY (m:=↑h) (n:=1) rfl rfl (by omega)) (ai ((h:Int)+1) (a8 ?_)))))
  refine back3 (h+1,(List.set O (Int.toNat (aH g (h:Int))) (gI O (aH g (h:Int))++[(h:Int)])),g173) _ _ ⟨bH,zs1,zs3,rfl,Rg,bx5,o48,by omega,?_⟩ ?_
  · show cP (List.set O (Int.toNat (aH g (h:Int))) (gI O (aH g (h:Int))++[(h:Int)])) g (h+1)
    exact hov.next hf1 hf2
  · show Int.toNat ((2*(g.2.length:Int):Int)-((h+1):Int))<Int.toNat ((2*(g.2.length:Int):Int)-(h:Int))
    omega
 refine ag rfl (df p3) (aD rfl (a7 ?_))
 clear bx5
 refine a6 rfl (mz zs3 (ma v8 (a8 (au (vs:=[v8]) Try.func44 (.tmp rfl .nil) ?_))))
 have e0:(O:fK)=(ab g):=by
   exact hov.done (by omega)
 exact⟨(fin w0 g13 (λn=>if n=2 then 1 else 0),v8),(congrArg (a₁:=O) (λ(z0:fK)=>Ending.returned (v8)) e0),bH.fresh _,(e0▸(o10.glue (γ:=c0) (ren:=(λn=>if n=2 then 1 else 0)) (k:=1) bH.col rfl rfl))⟩
theorem ow(w0:World):
    Calls Try.prog 75 #[] w0 (λee w=>ee= .returned (Value.float .f64 9221120237041090561)/\cl w0.heap.size w0 w):=by
 refine ar Try.func75 rfl nq ?_
 have bH:=aU.start w0
 refine a7 (a6 rfl (ma (Value.float .f64 0) (a8 (a7 (a6 rfl (lw (Value.float .f64 9221120237041090561) (dX (n:=9221120237041090561) Try.func37 (by kernel_rfl) (by kernel_rfl) (by kernel_rfl) (by kernel_rfl) rfl) (ma (Value.float .f64 9221120237041090561) (a8 (au (vs:=[Value.float .f64 9221120237041090561]) Try.func75 (.tmp rfl .nil) ?_)))))))))
 have e0:(9221120237041090561:Nat)=(9221120237041090561):=by
   rfl
 exact⟨(congrArg (a₁:=9221120237041090561) (λ(z0:Nat)=>Ending.returned (Value.float .f64 z0)) e0),bH.below⟩
theorem me(w0:World)(x:Nat)(hx:db x=true\/x<=aJ):
    Calls Try.prog 67 #[Value.float .f64 x] w0 (λee w=>ee= .returned (Value.float .f64 (bQ x))/\cl w0.heap.size w0 w):=by
 refine ar Try.func67 rfl nq ?_
 have bH:=aU.start w0
 refine a7 (a6 rfl (ma (Value.float .f64 0) (a8 (a7 (a7 (a6 rfl (mv (Value.float .f64 x) (mv (Value.float .f64 x) (lw (vb (db x)) (gg (a:=x) rfl rfl) (a8 ?_))))))))))
 by_cases p1:db x=true
 ·
  refine af rfl p1 (a7 (a6 rfl (cu rfl (aZ (v:=Value.float .f64 9221120237041090561) (aE (vals:=[]) Try.func75 q6 pz rfl) (ow w0) ?_))))
  intro w1 hb2
  replace hb2:=av hb2 c0
  refine ma (Value.float .f64 9221120237041090561) (a8 (au (vs:=[Value.float .f64 9221120237041090561]) Try.func67 (.tmp rfl .nil) ?_))
  have e0:(9221120237041090561:Nat)=(bQ x):=by
    exact l7 p1
  replace bH:=bH.cn hb2
  exact⟨(congrArg (a₁:=9221120237041090561) (λ(z0:Nat)=>Ending.returned (Value.float .f64 z0)) e0),bH.below⟩
 have hx2:=hx.resolve_left p1
 refine ag rfl (Bool.eq_false_iff.2 p1) (ak (a7 (a7 (a6 rfl (mv (Value.float .f64 x) (lw (vb (decide (x=0))) (jc (a:=x) (b:=0) rfl rfl ‹_› (by decide)) (a8 ?_)))))))
 by_cases p3:x=0
 ·
  refine af rfl (dt p3) (a7 (a6 rfl (ma (Value.float .f64 0) (a8 (au (vs:=[Value.float .f64 0]) Try.func67 (.tmp rfl .nil) ?_)))))
  have e0:(0:Nat)=(bQ x):=by
    exact kD p1 ‹_›
  exact⟨(congrArg (a₁:=0) (λ(z0:Nat)=>Ending.returned (Value.float .f64 z0)) e0),bH.below⟩
 refine ag rfl (df p3) (ak (a7 (a6 rfl (mv (Value.float .f64 x) (ma (Value.float .f64 x) (a8 (au (vs:=[Value.float .f64 x]) Try.func67 (.tmp rfl .nil) ?_)))))))
 have e0:(x:Nat)=(bQ x):=by
   exact kG p1
 exact⟨(congrArg (a₁:=x) (λ(z0:Nat)=>Ending.returned (Value.float .f64 z0)) e0),bH.below⟩
theorem mJ(w0:World)(x:Nat):
    Calls Try.prog 66 #[Value.float .f64 x] w0 (λee w=>ee= .returned (vb (dd x 0))/\cl w0.heap.size w0 w):=by
 refine ar Try.func66 rfl nq ?_
 have bH:=aU.start w0
 refine a7 (a6 rfl (ma (vb false) (a8 (a7 (a6 rfl (mv (Value.float .f64 x) (lw (vb (dd x 0)) (kS (a:=x) (b:=0) rfl rfl rfl) (ma (vb (dd x 0)) (a8 (au (vs:=[vb (dd x 0)]) Try.func66 (.tmp rfl .nil) ?_))))))))))
 have e0:(dd x 0:Bool)=(dd x 0):=by
   rfl
 exact⟨rb e0,bH.below⟩
theorem lG(w0:World)(a:Nat)(b:Nat)(ha:a<=aJ)(hb:ef b):
    Calls Try.prog 45 #[Value.float .f64 a,Value.float .f64 b] w0 (λee w=>ee= .returned (Value.float .f64 (aT a (zf b)))/\cl w0.heap.size w0 w):=by
 refine ar Try.func45 rfl nq ?_
 have bH:=aU.start w0
 refine a7 (a6 rfl (ma (Value.float .f64 0) (a8 (a7 (a6 rfl (mv (Value.float .f64 a) (mv (Value.float .f64 b) (lw (Value.float .f64 (aT a (zf b))) (n4 (a:=a) (b:=b) rfl rfl (ek ‹_› ‹_›).1) ?_))))))))
 have nn1:aT a (zf b)<=aJ:=(ek (d:=a) (x:=b) ‹_› ‹_›).2
 refine lo (aZ (v:=Value.float .f64 (bQ (aT a (zf b)))) (aE (vals:=[Value.float .f64 (aT a (zf b))]) Try.func67 pK og rfl) (me w0 (aT a (zf b)) (by exact .inr ‹_›)) ?_)
 intro w2 hb3
 replace hb3:=av hb3 c0
 refine ma (Value.float .f64 (bQ (aT a (zf b)))) (a8 (au (vs:=[Value.float .f64 (bQ (aT a (zf b)))]) Try.func45 (.tmp rfl .nil) ?_))
 have e0:(bQ (aT a (zf b)):Nat)=(aT a (zf b)):=by
   exact jO ‹_›
 replace bH:=bH.cn hb3
 exact⟨(congrArg (a₁:=bQ (aT a (zf b))) (λ(z0:Nat)=>Ending.returned (Value.float .f64 z0)) e0),bH.below⟩
theorem mD(w0:World)(a:Nat)(b:Nat)(ha:ef a)(hb:ef b):
    Calls Try.prog 51 #[Value.float .f64 a,Value.float .f64 b] w0 (λee w=>ee= .returned (vb (decide (zf a<zf b)))/\cl w0.heap.size w0 w):=by
 refine ar Try.func51 rfl nq ?_
 have bH:=aU.start w0
 have na:=lX ha
 have nb:=lX hb
 refine a7 (a6 rfl (ma (vb false) (a8 (a7 (a7 (a6 rfl (mv (Value.float .f64 a) (mv (Value.float .f64 a) (lw (vb (db a)) (gg (a:=a) rfl rfl) (a8 ?_))))))))))
 have p1:¬(db a=true):=by(rw[na];decide)
 refine ag rfl (Bool.eq_false_iff.2 p1) (ak (a7 (a6 rfl (mv (Value.float .f64 b) (mv (Value.float .f64 b) (lw (vb (db b)) (gg (a:=b) rfl rfl) (mv (vb (db b)) ?_)))))))
 have q11:¬(db b=true):=by(rw[nb];decide)
 refine lv (Value.float .f64 a) (wy (Bool.eq_false_iff.2 q11)) (ao rfl) (lv (Value.float .f64 b) (wy (Bool.eq_false_iff.2 q11)) (ao rfl) (lv (vb (decide ((zf a)<(zf b)))) (wy (Bool.eq_false_iff.2 q11)) (lK (a:=a) (b:=b) rfl rfl (ft ‹_›) (ft ‹_›)) (lw (vb (decide ((zf a)<(zf b)))) (aI rfl (Bool.eq_false_iff.2 q11) rfl) (ma (vb (decide ((zf a)<(zf b)))) (a8 (au (vs:=[vb (decide ((zf a)<(zf b)))]) Try.func51 (.tmp rfl .nil) ?_))))))
 have e0:(decide ((zf a)<(zf b)):Bool)=(decide (zf a<zf b)):=by
   rfl
 exact⟨(congrArg (a₁:=decide ((zf a)<(zf b))) (λ(z0:Bool)=>Ending.returned (vb z0)) e0),bH.below⟩
theorem jA(w0:World)(g:(Int)×(List Pt))(g_v:Value)(hg_v:Ro w0 g_v g.2)(ws:List Nat)(ws_v:Value)(hws_v:Ro w0 ws_v ws):
    Calls Try.prog 43 #[vg [vi g.1,g_v],ws_v] w0 (λee w=>ee= .returned (vi (ci g ws))/\cl w0.heap.size w0 w):=by
 refine ar Try.func43 rfl nq ?_
 have bH:=aU.start w0
 have Rg:=hg_v.sl
 have Rws:=hws_v.sl
 refine a7 (a6 rfl (cu rfl (cN c0 (is 1) (1,0) rfl rfl ?_)))
 intro g4 w1 b3 ch2 bx5
 replace bx5:Bx g4 (is 1) w1 b3 [vi g.1,g_v]:=bx5
 refine ai 0 (a8 (a7 (a7 (a6 rfl (lx (aR (ds:=[vi g.1,g_v]) bP rfl bx5 rfl rfl) ?_)))))
 replace Rg:=Rg.cn ch2
 refine lo (aZ (v:=vb (bZ g)) (aE (vals:=[vg [vi g.1,g_v]]) Try.func29 kj kx rfl) (je w1 g g_v (Rg).ro) ?_)
 intro w6 hb7
 replace hb7:=av hb7 g4
 refine lx (cv (b:=(bZ g)) rfl) (mv (vb (!(bZ g))) ?_)
 by_cases q9:(bZ g)=true
 ·
  refine lv (ws_v) (wy (congrArg Bool.not q9)) (ao rfl) ?_
  replace Rws:=(Rws.cn ch2).cn hb7
  have len8:=(Rws).small
  refine lv (vi (ws.length:Int)) (wy (congrArg Bool.not q9)) (aV cG rfl Rws) (lv (vp b3 1) (wy (congrArg Bool.not q9)) (ad cT rfl rfl rfl rfl) ?_)
  replace bx5:=bx5.cn hb7
  refine lv (g_v) (wy (congrArg Bool.not q9)) (ae bJ rfl bx5 rfl) ?_
  replace Rg:=Rg.cn hb7
  have len9:=(Rg).small
  refine lv (vi (g.2.length:Int)) (wy (congrArg Bool.not q9)) (aV fu rfl Rg) (lv (vb (!(decide ((ws.length:Int)=(g.2.length:Int))))) (wy (congrArg Bool.not q9)) (ch (m:=(ws.length:Int)) (n:=(g.2.length:Int)) rfl rfl) (lw (vb (!(decide ((ws.length:Int)=(g.2.length:Int))))) (aI rfl (congrArg Bool.not q9) rfl) (a8 ?_)))
  by_cases p1:(ws.length:Int)=(g.2.length:Int)
  ·
   refine ag rfl (congrArg Bool.not (dt p1)) (ak (a7 (a7 ?_)))
   clear bx5
   refine a6 rfl (ai 0 (a8 (al ?_)))
   refine aP (σ:=Nat×aA) (λ⟨k,gq⟩ f w=>aU w0 gq w/\f 1=ws_v/\f 5=vi ↑k/\Sl gq (is 0) w g_v g.2/\Sl gq (is 0) w ws_v ws/\(k:Int)<=((ws.length:Int):Int)/\(∀i:Nat,i<k->ef (gI ws ↑i))) (λ⟨k,gq⟩=>Int.toNat (((ws.length:Int):Int)-(k:Int))) (0,g4) ?_ ?_
   replace bH:=bH.cn ch2
   · exact⟨bH.cn hb7,rfl,rfl,Rg,Rws,by omega,by exact λi h=>absurd h (Nat.not_lt_zero _)⟩
   clear Rg Rws bH
   rintro⟨k,g12⟩ f10 w11 ⟨bH,zs1,zs5,Rg,Rws,hle_k,hk⟩ back4
   refine a7 (a7 (a6 rfl (mz zs5 (mz zs1 (lx (aV cG rfl Rws) (lx (aW (m:=↑k) (n:=(ws.length:Int)) rfl rfl) (a8 ?_)))))))
   by_cases p4:(k:Int)<(ws.length:Int)
   ·
    refine af rfl (dt p4) (ak (a7 (al (a7 (a6 rfl (mz zs1 (mz zs5 (lx (aa (v:=ws_v) (i:=↑k) cG rfl rfl Rws rfl (by omega) (by omega)) (lx (az (v:=ws_v) (i:=↑k) aL rfl Rws (by omega) (by omega) (by decide) rfl) (lo ?_))))))))))
    refine aZ (v:=vb (dd (gI ws ↑k) 0)) (aE (vals:=[Value.float .f64 (gI ws ↑k)]) Try.func66 pF py rfl) (mJ w11 (gI ws ↑k)) ?_
    intro w13 hb14
    replace hb14:=av hb14 g12
    refine lx (cv (b:=(dd (gI ws ↑k) 0)) rfl) (a8 ?_)
    by_cases p6:(dd (gI ws ↑k) 0)=true
    ·
     refine ag rfl (congrArg Bool.not p6) (ak (aq (a6 rfl (mz zs5 (lx (aY (m:=↑k) (n:=1) rfl rfl (by omega)) (ai ((k:Int)+1) (a8 ?_)))))))
     refine back4 (k+1,g12) _ _ ⟨bH.cn hb14,zs1,rfl,Rg.cn hb14,Rws.cn hb14,by omega,?_⟩ ?_
     · show∀i:Nat,i<(k+1)->ef (gI ws ↑i)
       exact kC hk ‹_›
     · show Int.toNat (((ws.length:Int):Int)-((k+1):Int))<Int.toNat (((ws.length:Int):Int)-(k:Int))
       omega
    refine af rfl (congrArg Bool.not (Bool.eq_false_iff.2 p6)) (a7 (a6 rfl (ai 13 (a8 (au (vs:=[vi 13]) Try.func43 (.tmp rfl .nil) ?_)))))
    have e0:(13:Int)=(ci g ws):=by
      exact(mH (k:=(k:Int)) ‹_› (by omega) (by omega) ‹_›).symm
    replace bH:=bH.cn hb14
    exact⟨ri e0,bH.below⟩
   refine ag rfl (df p4) (aD rfl (a7 (a6 rfl (ai 0 (a8 (au (vs:=[vi 0]) Try.func43 (.tmp rfl .nil) ?_))))))
   have e0:(0:Int)=(ci g ws):=by
     exact(nG ‹_› (by omega) hk (by omega)).symm
   exact⟨ri e0,bH.below⟩
  refine af rfl (congrArg Bool.not (df p1)) (a7 ?_)
  clear bx5
  refine a6 rfl (ai 1 (a8 (au (vs:=[vi 1]) Try.func43 (.tmp rfl .nil) ?_)))
  have e0:(1:Int)=(ci g ws):=by
    exact(nX ‹_›).symm
  replace bH:=bH.cn ch2
  replace bH:=bH.cn hb7
  exact⟨ri e0,bH.below⟩
 refine ah (wn (congrArg Bool.not (Bool.eq_false_iff.2 q9))) (ah (wn (congrArg Bool.not (Bool.eq_false_iff.2 q9))) (ah (wn (congrArg Bool.not (Bool.eq_false_iff.2 q9))) (ah (wn (congrArg Bool.not (Bool.eq_false_iff.2 q9))) (ah (wn (congrArg Bool.not (Bool.eq_false_iff.2 q9))) (ah (wn (congrArg Bool.not (Bool.eq_false_iff.2 q9))) (lw (vb true) (aB rfl (congrArg Bool.not (Bool.eq_false_iff.2 q9)) rfl) (a8 (af rfl rfl (a7 ?_)))))))))
 clear bx5
 refine a6 rfl (ai 1 (a8 (au (vs:=[vi 1]) Try.func43 (.tmp rfl .nil) ?_)))
 have e0:(1:Int)=(ci g ws):=by
   exact(np ‹_›).symm
 replace bH:=bH.cn ch2
 replace bH:=bH.cn hb7
 exact⟨ri e0,bH.below⟩
set_option maxHeartbeats 8000000 in
theorem m0(w0:World)(g:(Int)×(List Pt))(g_v:Value)(hg_v:Ro w0 g_v g.2)(ws:List Nat)(ws_v:Value)(hws_v:Ro w0 ws_v ws)(s:Int):
    Calls Try.prog 13 #[vg [vi g.1,g_v],ws_v,vi s] w0 (λee w=>∃xx:aA×Value×Value,ee= .returned ((λ⟨δ,rv0,rv1⟩=>vt [vg [rv0,rv1],vi ((aj g ws s).2)]) xx)/\(λ(⟨δ,rv0,rv1⟩:aA×Value×Value) (w:World)=>eh w0 δ w/\Ow δ (is 1) (is 1) w rv0 (((aj g ws s).1).1)/\Ow δ (is 2) (is 2) w rv1 (((aj g ws s).1).2)) xx w):=by
 refine ar Try.func13 rfl nq ?_
 have bH:=aU.start w0
 have Rg:=hg_v.sl
 have Rws:=hws_v.sl
 refine a7 (a6 rfl (cu rfl (cN c0 (is 1) (1,0) rfl rfl ?_)))
 intro g4 w1 b3 ch2 bx5
 replace bx5:Bx g4 (is 1) w1 b3 [vi g.1,g_v]:=bx5
 refine lo (bR g4 (is 2) (2,0) rfl bO ?_)
 intro g9 w6 b8 ch7 bx10
 replace bx10:Bx g9 (is 2) w6 b8 [vn,vn]:=bx10
 refine ai 0 (a8 (a7 (a6 rfl ?_)))
 replace bx5:=bx5.cn ch7
 refine lx (aR (ds:=[vi g.1,g_v]) bP rfl bx5 rfl rfl) (mv ws_v ?_)
 replace Rg:=(Rg.cn ch2).cn ch7
 replace Rws:=(Rws.cn ch2).cn ch7
 refine lo (aZ (v:=vi (ci g ws)) (aE (vals:=[vg [vi g.1,g_v],ws_v]) Try.func43 l4 lH rfl) (jA w6 g g_v (Rg).ro ws ws_v (Rws).ro) ?_)
 intro w11 hb12
 replace hb12:=av hb12 g9
 refine ai (ci g ws) (a8 (a7 (a7 (a6 rfl (mi (ci g ws) (lx (du (m:=ci g ws) (n:=0) rfl rfl) (mv (vb (decide ((ci g ws)=0))) ?_)))))))
 by_cases q25:(ci g ws)=0
 ·
  obtain⟨hm,hwl,hwg⟩:=mb q25
  have hm0:=hm
  obtain⟨hm1,hm2,hm3,hm4⟩:=hm0
  have hrp:(List.length (List.replicate (Int.toNat g.1) (0:Nat)):Int)=g.1:=by rw[List.length_replicate];omega
  have hfl:=iA g hm1
  refine lv (vi s) (wy (dt q25)) (ao rfl) (lv (vb (decide (s<0))) (wy (dt q25)) (aW (m:=s) (n:=0) rfl rfl) (lv (vb (decide (s<0))) (wy (dt q25)) (ao rfl) ?_))
  by_cases q28:s<0
  ·
   refine ah (wn (dt q28)) (ah (wn (dt q28)) (ah (wn (dt q28)) (ah (wn (dt q28)) (lv (vb true) (wy (dt q25)) (aB rfl (dt q28) rfl) (lw (vb true) (aB rfl (dt q25) rfl) (a8 (af rfl rfl (a6 rfl (ai 2 ?_)))))))))
   refine a8 (a7 (a7 (a6 rfl (mi 2 (lx (ch (m:=2) (n:=0) rfl rfl) (a8 (af rfl rfl (a7 ?_))))))))
   clear bx5
   refine a6 rfl (lw (vg [vn,vn]) (bC (vs:=[]) rfl (by kernel_rfl)) (mi 2 (lo ?_)))
   replace bx10:=bx10.cn hb12
   refine aQ (cs':=[vn,vn]) bO rfl rfl bx10 rfl nq (AllOne.all (.cons rfl (.cons rfl .nil))) rfl ?_
   intro w13 ch14 bx15
   clear bx10
   refine ai 2 (a8 (au (vs:=[vg [vn,vn],vi 2]) Try.func13 (.cell rfl (cX (ds:=[vn,vn]) bO bx15 rfl rfl) (.tmp rfl .nil)) ?_))
   have C16:=cg [2] (ch2.n.seq (ch7.n.seq (hb12.n.seq (ch14.l rfl))))
   replace bH:=bH.ca C16
   have e0:(([],[]):(List Nat)×(List Int))=((aj g ws s).1):=by
     rw[dM q25 (by omega)]
   have e1:(2:Int)=((aj g ws s).2):=by
     rw[dM q25 (by omega)]
   exact⟨(fin w0 g9 (λn=>0),vn,vn),(bD (a:=([],[])) (b:=2) (λ(z0:(List Nat)×(List Int)) (z1:Int)=>Ending.returned (vt [vg [vn,vn],vi z1])) e0 e1),bH.fresh _,((congrArg (λ(z:(List Nat)×(List Int))=>z.1) e0)▸Ow.nil),((congrArg (λ(z:(List Nat)×(List Int))=>z.2) e0)▸Ow.nil)⟩
  refine lv (vi s) (wy (df q28)) (ao rfl) (lv (vp b3 0) (wy (df q28)) (ad cT rfl rfl rfl rfl) ?_)
  replace bx5:=bx5.cn hb12
  refine lv (vi g.1) (wy (df q28)) (ae ay rfl bx5 rfl) (lv (vb (decide (g.1<=s))) (wy (df q28)) (dm (m:=s) (n:=g.1) rfl rfl) (lv (vb (decide (g.1<=s))) (wy (dt q25)) (aI rfl (df q28) rfl) (lw (vb (decide (g.1<=s))) (aB rfl (dt q25) rfl) (a8 ?_))))
  by_cases p2:g.1<=s
  ·
   refine af rfl (dt p2) (a6 rfl (ai 2 (a8 (a7 (a7 (a6 rfl (mi 2 (lx (ch (m:=2) (n:=0) rfl rfl) (a8 (af rfl rfl (a7 ?_)))))))))))
   clear bx5
   refine a6 rfl (lw (vg [vn,vn]) (bC (vs:=[]) rfl (by kernel_rfl)) (mi 2 (lo ?_)))
   replace bx10:=bx10.cn hb12
   refine aQ (cs':=[vn,vn]) bO rfl rfl bx10 rfl nq (AllOne.all (.cons rfl (.cons rfl .nil))) rfl ?_
   intro w17 ch18 bx19
   clear bx10
   refine ai 2 (a8 (au (vs:=[vg [vn,vn],vi 2]) Try.func13 (.cell rfl (cX (ds:=[vn,vn]) bO bx19 rfl rfl) (.tmp rfl .nil)) ?_))
   have C20:=cg [2] (ch2.n.seq (ch7.n.seq (hb12.n.seq (ch18.l rfl))))
   replace bH:=bH.ca C20
   have e0:(([],[]):(List Nat)×(List Int))=((aj g ws s).1):=by
     rw[dM q25 (by omega)]
   have e1:(2:Int)=((aj g ws s).2):=by
     rw[dM q25 (by omega)]
   exact⟨(fin w0 g9 (λn=>0),vn,vn),(bD (a:=([],[])) (b:=2) (λ(z0:(List Nat)×(List Int)) (z1:Int)=>Ending.returned (vt [vg [vn,vn],vi z1])) e0 e1),bH.fresh _,((congrArg (λ(z:(List Nat)×(List Int))=>z.1) e0)▸Ow.nil),((congrArg (λ(z:(List Nat)×(List Int))=>z.2) e0)▸Ow.nil)⟩
  refine ag rfl (df p2) (ak (a7 (a7 (a6 rfl (mi (ci g ws) (lx (ch (m:=ci g ws) (n:=0) rfl rfl) (a8 (ag rfl (congrArg Bool.not (dt q25)) (ak (a7 (a6 rfl (cu rfl (aZ (v:=Value.float .f64 aJ) (aE (vals:=[vi 1]) Try.func34 oC oK rfl) (n5 w11 1 (by omega)) ?_)))))))))))))
  intro w21 hb22
  replace hb22:=av hb22 g9
  refine ma (Value.float .f64 aJ) (a8 (a7 ?_))
  refine ec (σ:=Nat×Value×Value×aA) (λ⟨b35,v25,v30,gq⟩ f w=>aU w0 gq w/\f 1=ws_v/\f 2=vi s/\f 3=vp b3 0/\f 6=vp b8 0/\f 9=Value.float .f64 aJ/\f 10=vp b35 0/\Sl gq (is 0) w g_v g.2/\Sl gq (is 0) w ws_v ws/\Bx gq (is 1) w b3 [vi g.1,g_v]/\Bx gq (is 2) w b8 [vn,vn]/\Ow gq (is 3) (is 3) w v25 (List.replicate (Int.toNat g.1) (0:Nat))/\Ow gq (is 4) (is 4) w v30 (List.replicate (Int.toNat g.1) (0:Int))/\Bx gq (is 5) w b35 [v25,v30]) g9 [0,1,3,4,6] fB ?_ ?_
  ·
   intro mid
   intro w24 ch23
   refine xp 0 rfl (λw=>ad cT rfl rfl rfl rfl) ?_
   replace bx5:=(bx5.cn hb22).cn ch23
   refine xh 1 [0,3,7,4,5] rfl (λw' hw'=>ae ay rfl (bx5.bel hw') rfl) (xp 3 rfl (λw=>ad cT rfl rfl rfl rfl) (xh 4 [3,1,0,2,7] rfl (λw' hw'=>ae ay rfl (bx5.bel hw') rfl) ?_))
   refine nl 2 [5,7] (by kernel_rfl) ⟨mt 2 rfl (by kernel_rfl) rfl ?_,mt 5 rfl (by kernel_rfl) rfl ?_,mt 7 rfl (by kernel_rfl) rfl ?_,trivial⟩
   ·
    refine bK (α:=Nat) (l:=g.1) (cp:=g.1) g9 (is 3) (is 3) (3,0) rfl (0:Nat) cG aL rfl rfl rfl (by omega) (by omega) (by omega) (by omega) ?_
    intro g25 w26 v27 ch28 o29 _
    refine fg 5 7 rfl rfl (by kernel_rfl) rfl rfl ?_ ?_
    ·
     refine bK (α:=Int) (l:=g.1) (cp:=g.1) g25 (is 4) (is 4) (4,0) rfl (0:Int) bM ay rfl rfl rfl (by omega) (by omega) (by omega) (by omega) ?_
     intro g30 w31 v32 ch33 o34 _
     replace o29:=o29.cn ch33
     refine xp (v:=vg [v27,v32]) 6 rfl (λw=>bC (vs:=[(0,v27),(1,v32)]) rfl (by rw[Sl.form o29.flat,Sl.form o34.flat];kernel_rfl)) (b7 7 rfl (by kernel_rfl) rfl (bR g30 (is 5) (5,0) rfl bO ?_))
     intro g38 w35 b37 ch36 bx39
     replace bx39:Bx g38 (is 5) w35 b37 [vn,vn]:=bx39
     refine b7 8 rfl (by kernel_rfl) rfl ?_
     replace o34:=o34.cn ch36
     replace o29:=o29.cn ch36
     refine aQ (cs':=[v27,v32]) bO rfl rfl bx39 rfl nq (AllOne.all (.cons (bf o29.flat) (.cons (bf o34.flat) .nil))) rfl ?_
     intro w40 ch41 bx42
     clear bx39
     refine c6 (by kernel_rfl) ?_
     have C45:=cg [5] (ch28.n.seq (ch33.n.seq (ch36.n.seq (ch41.l rfl))))
     have C44:=hb12.n.seq (hb22.n.seq (ch23.n.seq C45))
     have C43:=ch2.n.seq (ch7.n.seq C44)
     exact mid (b37,v27,v32,g38) _ _ ⟨bH.ca C43,rfl,rfl,rfl,rfl,rfl,rfl,Rg.ca C44,Rws.ca C44,bx5.ca C45,bx10.ca C44,o29.ce ch41,o34.ce ch41,bx42⟩
    ·
     refine bR g25 (is 5) (5,0) rfl bO ?_
     intro g49 w46 b48 ch47 bx50
     replace bx50:Bx g49 (is 5) w46 b48 [vn,vn]:=bx50
     refine b7 5 rfl (by kernel_rfl) rfl (bK (α:=Int) (l:=g.1) (cp:=g.1) g49 (is 4) (is 4) (4,0) rfl (0:Int) bM ay rfl rfl rfl (by omega) (by omega) (by omega) (by omega) ?_)
     intro g51 w52 v53 ch54 o55 _
     replace o29:=(o29.cn ch47).cn ch54
     refine xp (v:=vg [v27,v53]) 6 rfl (λw=>bC (vs:=[(0,v27),(1,v53)]) rfl (by rw[Sl.form o29.flat,Sl.form o55.flat];kernel_rfl)) (b7 8 rfl (by kernel_rfl) rfl ?_)
     replace bx50:=bx50.cn ch54
     refine aQ (cs':=[v27,v53]) bO rfl rfl bx50 rfl nq (AllOne.all (.cons (bf o29.flat) (.cons (bf o55.flat) .nil))) rfl ?_
     intro w56 ch57 bx58
     clear bx50
     refine c6 (by kernel_rfl) ?_
     have C61:=cg [5] (ch28.n.seq (ch47.n.seq (ch54.n.seq (ch57.l rfl))))
     have C60:=hb12.n.seq (hb22.n.seq (ch23.n.seq C61))
     have C59:=ch2.n.seq (ch7.n.seq C60)
     exact mid (b48,v27,v53,g51) _ _ ⟨bH.ca C59,rfl,rfl,rfl,rfl,rfl,rfl,Rg.ca C60,Rws.ca C60,bx5.ca C61,bx10.ca C60,o29.ce ch57,o55.ce ch57,bx58⟩
   ·
    refine bK (α:=Int) (l:=g.1) (cp:=g.1) g9 (is 4) (is 4) (4,0) rfl (0:Int) bM ay rfl rfl rfl (by omega) (by omega) (by omega) (by omega) ?_
    intro g62 w63 v64 ch65 o66 _
    refine fg 2 7 rfl rfl (by kernel_rfl) rfl rfl ?_ ?_
    ·
     refine bK (α:=Nat) (l:=g.1) (cp:=g.1) g62 (is 3) (is 3) (3,0) rfl (0:Nat) cG aL rfl rfl rfl (by omega) (by omega) (by omega) (by omega) ?_
     intro g67 w68 v69 ch70 o71 _
     replace o66:=o66.cn ch70
     refine xp (v:=vg [v69,v64]) 6 rfl (λw=>bC (vs:=[(0,v69),(1,v64)]) rfl (by rw[Sl.form o66.flat,Sl.form o71.flat];kernel_rfl)) (b7 7 rfl (by kernel_rfl) rfl (bR g67 (is 5) (5,0) rfl bO ?_))
     intro g75 w72 b74 ch73 bx76
     replace bx76:Bx g75 (is 5) w72 b74 [vn,vn]:=bx76
     refine b7 8 rfl (by kernel_rfl) rfl ?_
     replace o66:=o66.cn ch73
     replace o71:=o71.cn ch73
     refine aQ (cs':=[v69,v64]) bO rfl rfl bx76 rfl nq (AllOne.all (.cons (bf o71.flat) (.cons (bf o66.flat) .nil))) rfl ?_
     intro w77 ch78 bx79
     clear bx76
     refine c6 (by kernel_rfl) ?_
     have C82:=cg [5] (ch65.n.seq (ch70.n.seq (ch73.n.seq (ch78.l rfl))))
     have C81:=hb12.n.seq (hb22.n.seq (ch23.n.seq C82))
     have C80:=ch2.n.seq (ch7.n.seq C81)
     exact mid (b74,v69,v64,g75) _ _ ⟨bH.ca C80,rfl,rfl,rfl,rfl,rfl,rfl,Rg.ca C81,Rws.ca C81,bx5.ca C82,bx10.ca C81,o71.ce ch78,o66.ce ch78,bx79⟩
    ·
     refine bR g62 (is 5) (5,0) rfl bO ?_
     intro g86 w83 b85 ch84 bx87
     replace bx87:Bx g86 (is 5) w83 b85 [vn,vn]:=bx87
     refine b7 2 rfl (by kernel_rfl) rfl (bK (α:=Nat) (l:=g.1) (cp:=g.1) g86 (is 3) (is 3) (3,0) rfl (0:Nat) cG aL rfl rfl rfl (by omega) (by omega) (by omega) (by omega) ?_)
     intro g88 w89 v90 ch91 o92 _
     replace o66:=(o66.cn ch84).cn ch91
     refine xp (v:=vg [v90,v64]) 6 rfl (λw=>bC (vs:=[(0,v90),(1,v64)]) rfl (by rw[Sl.form o66.flat,Sl.form o92.flat];kernel_rfl)) (b7 8 rfl (by kernel_rfl) rfl ?_)
     replace bx87:=bx87.cn ch91
     refine aQ (cs':=[v90,v64]) bO rfl rfl bx87 rfl nq (AllOne.all (.cons (bf o92.flat) (.cons (bf o66.flat) .nil))) rfl ?_
     intro w93 ch94 bx95
     clear bx87
     refine c6 (by kernel_rfl) ?_
     have C98:=cg [5] (ch65.n.seq (ch84.n.seq (ch91.n.seq (ch94.l rfl))))
     have C97:=hb12.n.seq (hb22.n.seq (ch23.n.seq C98))
     have C96:=ch2.n.seq (ch7.n.seq C97)
     exact mid (b85,v90,v64,g88) _ _ ⟨bH.ca C96,rfl,rfl,rfl,rfl,rfl,rfl,Rg.ca C97,Rws.ca C97,bx5.ca C98,bx10.ca C97,o92.ce ch94,o66.ce ch94,bx95⟩
   ·
    refine bR g9 (is 5) (5,0) rfl bO ?_
    intro g102 w99 b101 ch100 bx103
    replace bx103:Bx g102 (is 5) w99 b101 [vn,vn]:=bx103
    refine fg 2 5 rfl rfl (by kernel_rfl) rfl rfl ?_ ?_
    ·
     refine bK (α:=Nat) (l:=g.1) (cp:=g.1) g102 (is 3) (is 3) (3,0) rfl (0:Nat) cG aL rfl rfl rfl (by omega) (by omega) (by omega) (by omega) ?_
     intro g104 w105 v106 ch107 o108 _
     refine b7 5 rfl (by kernel_rfl) rfl (bK (α:=Int) (l:=g.1) (cp:=g.1) g104 (is 4) (is 4) (4,0) rfl (0:Int) bM ay rfl rfl rfl (by omega) (by omega) (by omega) (by omega) ?_)
     intro g109 w110 v111 ch112 o113 _
     replace o108:=o108.cn ch112
     refine xp (v:=vg [v106,v111]) 6 rfl (λw=>bC (vs:=[(0,v106),(1,v111)]) rfl (by rw[Sl.form o108.flat,Sl.form o113.flat];kernel_rfl)) (b7 8 rfl (by kernel_rfl) rfl ?_)
     replace bx103:=(bx103.cn ch107).cn ch112
     refine aQ (cs':=[v106,v111]) bO rfl rfl bx103 rfl nq (AllOne.all (.cons (bf o108.flat) (.cons (bf o113.flat) .nil))) rfl ?_
     intro w114 ch115 bx116
     clear bx103
     refine c6 (by kernel_rfl) ?_
     have C119:=cg [5] (ch100.n.seq (ch107.n.seq (ch112.n.seq (ch115.l rfl))))
     have C118:=hb12.n.seq (hb22.n.seq (ch23.n.seq C119))
     have C117:=ch2.n.seq (ch7.n.seq C118)
     exact mid (b101,v106,v111,g109) _ _ ⟨bH.ca C117,rfl,rfl,rfl,rfl,rfl,rfl,Rg.ca C118,Rws.ca C118,bx5.ca C119,bx10.ca C118,o108.ce ch115,o113.ce ch115,bx116⟩
    ·
     refine bK (α:=Int) (l:=g.1) (cp:=g.1) g102 (is 4) (is 4) (4,0) rfl (0:Int) bM ay rfl rfl rfl (by omega) (by omega) (by omega) (by omega) ?_
     intro g120 w121 v122 ch123 o124 _
     refine b7 2 rfl (by kernel_rfl) rfl (bK (α:=Nat) (l:=g.1) (cp:=g.1) g120 (is 3) (is 3) (3,0) rfl (0:Nat) cG aL rfl rfl rfl (by omega) (by omega) (by omega) (by omega) ?_)
     intro g125 w126 v127 ch128 o129 _
     replace o124:=o124.cn ch128
     refine xp (v:=vg [v127,v122]) 6 rfl (λw=>bC (vs:=[(0,v127),(1,v122)]) rfl (by rw[Sl.form o124.flat,Sl.form o129.flat];kernel_rfl)) (b7 8 rfl (by kernel_rfl) rfl ?_)
     replace bx103:=(bx103.cn ch123).cn ch128
     refine aQ (cs':=[v127,v122]) bO rfl rfl bx103 rfl nq (AllOne.all (.cons (bf o129.flat) (.cons (bf o124.flat) .nil))) rfl ?_
     intro w130 ch131 bx132
     clear bx103
     refine c6 (by kernel_rfl) ?_
     have C135:=cg [5] (ch100.n.seq (ch123.n.seq (ch128.n.seq (ch131.l rfl))))
     have C134:=hb12.n.seq (hb22.n.seq (ch23.n.seq C135))
     have C133:=ch2.n.seq (ch7.n.seq C134)
     exact mid (b101,v127,v122,g125) _ _ ⟨bH.ca C133,rfl,rfl,rfl,rfl,rfl,rfl,Rg.ca C134,Rws.ca C134,bx5.ca C135,bx10.ca C134,o129.ce ch131,o124.ce ch131,bx132⟩
  clear Rg Rws bx5 bx10 bH
  rintro⟨b35,v25,v30,g138⟩ f136 w137 ⟨bH,zs1,zs2,zs3,zs6,zs9,zs10,Rg,Rws,bx5,bx10,o27,o32,bx40⟩
  refine a7 (a7 (a6 rfl (ai 0 (a8 (al ?_)))))
  refine aP (σ:=Nat×(List Nat)×(List Int)×aA) (λ⟨v,far0,by0,gq⟩ f w=>aU w0 gq w/\f 1=ws_v/\f 2=vi s/\f 3=vp b3 0/\f 6=vp b8 0/\f 9=Value.float .f64 aJ/\f 10=vp b35 0/\f 11=vi ↑v/\Sl gq (is 0) w g_v g.2/\Sl gq (is 0) w ws_v ws/\Bx gq (is 1) w b3 [vi g.1,g_v]/\Bx gq (is 2) w b8 [vn,vn]/\Ow gq (is 3) (is 3) w v25 far0/\Ow gq (is 4) (is 4) w v30 by0/\Bx gq (is 5) w b35 [v25,v30]/\(v:Int)<=(g.1:Int)/\(dU g far0 by0 v)) (λ⟨v,far0,by0,gq⟩=>Int.toNat ((g.1:Int)-(v:Int))) (0,(List.replicate (Int.toNat g.1) (0:Nat)),(List.replicate (Int.toNat g.1) (0:Int)),g138) ?_ ?_
  · exact⟨bH,zs1,zs2,zs3,zs6,zs9,zs10,rfl,Rg,Rws,bx5,bx10,o27,o32,bx40,by omega,by exact dU.start hm⟩
  clear Rg Rws bx5 bx10 o27 o32 bx40 bH
  rintro⟨v,far0,by0,g141⟩ f139 w140 ⟨bH,zs1,zs2,zs3,zs6,zs9,zs10,zs11,Rg,Rws,bx5,bx10,o27,o32,bx40,hle_v,h0⟩ back9
  have h0f:=h0.lf
  have h0b:=h0.lb
  refine a7 (a7 (a6 rfl (mz zs11 (lx (ad cT rfl rfl zs3 rfl) (lx (ae ay rfl bx5 rfl) (lx (aW (m:=↑v) (n:=g.1) rfl rfl) (a8 ?_)))))))
  by_cases p9:(v:Int)<g.1
  ·
   refine af rfl (dt p9) (ak (a7 (al (a7 (a6 rfl (lx (ad ei rfl rfl zs10 rfl) (lx (ae d6 rfl bx40 rfl) (mz zs11 (mz zs9 (lx (aa (v:=v25) (i:=↑v) cG rfl rfl o27.flat rfl (by omega) (by omega)) ?_))))))))))
   refine lo (aK (i:=↑v) aJ aL rfl rfl o27 (by omega) (by omega) rfl ?_)
   intro w142 ch143 bx144
   clear o27
   refine a8 (a6 rfl (lx (ad ei rfl rfl zs10 rfl) ?_))
   replace bx40:=bx40.ce ch143
   refine lx (ae aF rfl bx40 rfl) (mz zs11 ?_)
   replace o32:=o32.ce ch143
   refine lx (aa (v:=v30) (i:=↑v) bM rfl rfl o32.flat rfl (by omega) (by omega)) (lo (aK (i:=↑v) (-1) ay rfl rfl o32 (by omega) (by omega) rfl ?_))
   intro w145 ch146 bx147
   clear o32
   refine a8 (aq (a6 rfl (mz zs11 (lx (aY (m:=↑v) (n:=1) rfl rfl (by omega)) (ai ((v:Int)+1) (a8 ?_))))))
   replace bH:=bH.ce ch143
   refine back9 (v+1,(List.set far0 (Int.toNat ↑v) aJ),(List.set by0 (Int.toNat ↑v) (-1)),g141) _ _ ⟨bH.ce ch146,zs1,zs2,zs3,zs6,zs9,zs10,rfl,(Rg.ce ch143).ce ch146,(Rws.ce ch143).ce ch146,(bx5.ce ch143).ce ch146,(bx10.ce ch143).ce ch146,bx144.ce ch146,bx147,bx40.ce ch146,by omega,?_⟩ ?_
   · show dU g (List.set far0 (Int.toNat ↑v) aJ) (List.set by0 (Int.toNat ↑v) (-1)) (v+1)
     exact h0.next (by omega)
   · show Int.toNat ((g.1:Int)-((v+1):Int))<Int.toNat ((g.1:Int)-(v:Int))
     omega
  refine ag rfl (df p9) (aD rfl (a7 (a6 rfl (lx (ad ei rfl rfl zs10 rfl) (lx (ae d6 rfl bx40 rfl) (mz zs2 (lx (aa (v:=v25) (i:=s) cG rfl rfl o27.flat rfl (by omega) (by omega)) (lo (aK (i:=s) 0 aL rfl rfl o27 (by omega) (by omega) rfl ?_)))))))))
  intro w148 ch149 bx150
  clear o27
  refine a8 (a7 (a6 rfl (lx (ad cT rfl rfl zs3 rfl) ?_)))
  replace bx5:=bx5.ce ch149
  refine lx (ae ay rfl bx5 rfl) (lo (bK (α:=Bool) (l:=g.1) (cp:=g.1) g141 (is 6) (is 6) (6,0) rfl false ml dZ rfl rfl rfl (by omega) (by omega) (by omega) (by omega) ?_))
  intro g151 w152 v153 ch154 o155 _
  refine ma v153 (a8 (a7 (a6 rfl ?_)))
  replace bx5:=bx5.cn ch154
  refine lx (aR (ds:=[vi g.1,g_v]) bP zs3 bx5 rfl rfl) ?_
  replace Rg:=(Rg.ce ch149).cn ch154
  refine lo (bq (aE (vals:=[vg [vi g.1,g_v]]) Try.func44 pn oJ rfl) (mZ w152 g g_v (Rg).ro (by exact hm)) ?_)
  rintro⟨d157,v159⟩ w156 ⟨fr158,o160⟩
  obtain⟨g161,ch162,G161⟩:=kf g151 fr158 (λn=>if n=1 then 7 else 0)
  replace o160:=o160.gl G161 7
  refine ma v159 (a8 (al ?_))
  refine aP (σ:=(List Nat)×(List Int)×(List Bool)×aA) (λ⟨far,by_,se,gq⟩ f w=>aU w0 gq w/\f 1=ws_v/\f 3=vp b3 0/\f 6=vp b8 0/\f 9=Value.float .f64 aJ/\f 10=vp b35 0/\f 12=v153/\f 13=v159/\Sl gq (is 0) w g_v g.2/\Sl gq (is 0) w ws_v ws/\Bx gq (is 1) w b3 [vi g.1,g_v]/\Bx gq (is 2) w b8 [vn,vn]/\Ow gq (is 4) (is 4) w v30 by_/\Bx gq (is 5) w b35 [v25,v30]/\Ow gq (is 3) (is 3) w v25 far/\Ow gq (is 6) (is 6) w v153 se/\cj gq 7 w v159 (ab g)/\(n3 g ws s far by_ se)) (λ⟨far,by_,se,gq⟩=>dz se) ((List.set far0 (Int.toNat s) 0),by0,(List.replicate (Int.toNat g.1) false),g161) ?_ ?_
  have C163:=cg [3] ((ch149.l rfl).seq (ch154.n.seq ch162.n))
  · exact⟨bH.ca C163,zs1,zs3,zs6,zs9,zs10,rfl,rfl,Rg.cn ch162,Rws.ca C163,bx5.cn ch162,bx10.ca C163,o32.ca C163,bx40.ca C163,(bx150.cn ch154).cn ch162,o155.cn ch162,o160,by exact n3.of (h0.done hm (by omega) (by omega) (by omega))⟩
  clear Rg Rws bx5 bx10 o32 bx40 bx150 o155 o160 bH
  rintro⟨far,by_,se,g166⟩ f164 w165 ⟨bH,zs1,zs3,zs6,zs9,zs10,zs12,zs13,Rg,Rws,bx5,bx10,o32,bx40,bx150,o155,o160,h1⟩ back16
  have h1f:=h1.lf
  have h1b:=h1.lb
  have h1s:=h1.ls
  refine al (a7 (a6 rfl (ai (-1) (a8 (a7 (a7 (a6 rfl (ai 0 (a8 (al ?_))))))))))
  refine aP (σ:=Nat×Int×aA) (λ⟨u,v,gq⟩ f w=>aU w0 gq w/\f 1=ws_v/\f 3=vp b3 0/\f 6=vp b8 0/\f 9=Value.float .f64 aJ/\f 10=vp b35 0/\f 12=v153/\f 13=v159/\f 14=vi v/\f 15=vi ↑u/\Sl gq (is 0) w g_v g.2/\Sl gq (is 0) w ws_v ws/\Bx gq (is 1) w b3 [vi g.1,g_v]/\Bx gq (is 2) w b8 [vn,vn]/\Ow gq (is 4) (is 4) w v30 by_/\Bx gq (is 5) w b35 [v25,v30]/\Ow gq (is 3) (is 3) w v25 far/\Ow gq (is 6) (is 6) w v153 se/\cj gq 7 w v159 (ab g)/\(u:Int)<=(g.1:Int)/\(v=bc far se u)) (λ⟨u,v,gq⟩=>Int.toNat ((g.1:Int)-(u:Int))) (0,-1,g166) ?_ ?_
  · exact⟨bH,zs1,zs3,zs6,zs9,zs10,zs12,zs13,rfl,rfl,Rg,Rws,bx5,bx10,o32,bx40,bx150,o155,o160,by omega,by rfl⟩
  clear Rg Rws bx5 bx10 o32 bx40 bx150 o155 o160 bH
  rintro⟨u,v,g169⟩ f167 w168 ⟨bH,zs1,zs3,zs6,zs9,zs10,zs12,zs13,zs14,zs15,Rg,Rws,bx5,bx10,o32,bx40,bx150,o155,o160,hle_u,hp⟩ back18
  have hp1:v<u:=by rw[hp];exact fO _ _ _
  have hp2: -1<=v:=by rw[hp];exact kM _ _ _
  refine a7 (a7 (a6 rfl (mz zs15 (lx (ad cT rfl rfl zs3 rfl) (lx (ae ay rfl bx5 rfl) (lx (aW (m:=↑u) (n:=g.1) rfl rfl) (a8 ?_)))))))
  by_cases p18:(u:Int)<g.1
  ·
   refine af rfl (dt p18) (ak (a7 (al (a7 (bL g169 rfl fB (by kernel_rfl) ?_)))))
   intro w171 ch170
   refine qz zs12 (qz zs15 ?_)
   replace o155:=o155.cn ch170
   refine qx (λw' hw'=>aa (v:=v153) (i:=↑u) ml rfl rfl (o155.flat.bel hw') rfl (by omega) (by omega)) (qx (λw' hw'=>az (v:=v153) (i:=↑u) dZ rfl (o155.flat.bel hw') (by omega) (by omega) (by decide) rfl) (qx (λw' hw'=>cv (b:=(gI se ↑u)) rfl) (qm (vb (!(gI se ↑u))) ?_)))
   by_cases q82:(gI se ↑u)=true
   ·
    refine aC (wn (congrArg Bool.not q82)) (aC (wn (congrArg Bool.not q82)) (aC (wn (congrArg Bool.not q82)) (aC (wn (congrArg Bool.not q82)) (aC (wn (congrArg Bool.not q82)) (aC (wn (congrArg Bool.not q82)) (aC (wn (congrArg Bool.not q82)) (qv (vb false) (λw' hw'=>aI rfl (congrArg Bool.not q82) rfl) (qm (vb false) (aC (wn rfl) ?_)))))))))
    refine aC (wn rfl) (aC (wn rfl) (aC (bj rfl rfl rfl) (aC (bj rfl rfl rfl) (aC (bj rfl rfl rfl) (aC (bj rfl rfl rfl) (aC (bj rfl rfl rfl) (aC (bj rfl rfl rfl) (aC (bj rfl rfl rfl) (aC (bj rfl rfl rfl) ?_)))))))))
    refine aC (bj rfl rfl rfl) (aC (bj rfl rfl rfl) (aC (bj rfl rfl rfl) (aC (wn rfl) (qv (vb false) (λw' hw'=>aI rfl rfl rfl) (cm ?_)))))
    intro w172 hc173
    replace hc173:=av hc173 g169
    refine ag rfl rfl (ak (aq (a6 rfl (mz zs15 (lx (aY (m:=↑u) (n:=1) rfl rfl (by omega)) (ai ((u:Int)+1) (a8 ?_)))))))
    replace bH:=bH.cn ch170
    refine back18 (u+1,v,g169) _ _ ⟨bH.cn hc173,zs1,zs3,zs6,zs9,zs10,zs12,zs13,zs14,rfl,(Rg.cn ch170).cn hc173,(Rws.cn ch170).cn hc173,(bx5.cn ch170).cn hc173,(bx10.cn ch170).cn hc173,(o32.cn ch170).cn hc173,(bx40.cn ch170).cn hc173,(bx150.cn ch170).cn hc173,o155.cn hc173,(o160.cn ch170).cn hc173,by omega,?_⟩ ?_
    · show v=bc far se (u+1)
      exact iU hp (.inl ‹_›)
    · show Int.toNat ((g.1:Int)-((u+1):Int))<Int.toNat ((g.1:Int)-(u:Int))
      omega
   refine ba (v:=vp b35 0) (wy (congrArg Bool.not (Bool.eq_false_iff.2 q82))) (λw' hw'=>ad ei rfl rfl zs10 rfl) ?_
   replace bx40:=bx40.cn ch170
   refine ba (v:=v25) (wy (congrArg Bool.not (Bool.eq_false_iff.2 q82))) (λw' hw'=>ae d6 rfl (bx40.bel hw') rfl) (ba (v:=vi ↑u) (wy (congrArg Bool.not (Bool.eq_false_iff.2 q82))) (λw' hw'=>ao zs15) ?_)
   replace bx150:=bx150.cn ch170
   refine ba (v:=Value.pointer (some (aO v25 1 (Int.toNat ↑u)))) (wy (congrArg Bool.not (Bool.eq_false_iff.2 q82))) (λw' hw'=>aa (α:=Nat) (xs:=far) (v:=v25) (i:=↑u) cG rfl rfl (bx150.flat.bel hw') rfl (by omega) (by omega)) (ba (v:=Value.float .f64 (gI far ↑u)) (wy (congrArg Bool.not (Bool.eq_false_iff.2 q82))) (λw' hw'=>az (α:=Nat) (xs:=far) (v:=v25) (i:=↑u) aL rfl (bx150.flat.bel hw') (by omega) (by omega) (by decide) rfl) (ba (v:=Value.float .f64 aJ) (wy (congrArg Bool.not (Bool.eq_false_iff.2 q82))) (λw' hw'=>ao zs9) ?_))
   refine ba (v:=vb (decide ((gI far ↑u)<aJ))) (wy (congrArg Bool.not (Bool.eq_false_iff.2 q82))) (λw' hw'=>i9 (a:=(gI far ↑u)) (b:=aJ) rfl rfl (by exact gC h1.nn _) (by decide)) (qv (vb (decide ((gI far ↑u)<aJ))) (λw' hw'=>aB rfl (congrArg Bool.not (Bool.eq_false_iff.2 q82)) rfl) (qm (vb (decide ((gI far ↑u)<aJ))) ?_))
   by_cases q91:(gI far ↑u)<aJ
   ·
    refine ba (v:=vi v) (wy (dt q91)) (λw' hw'=>ao zs14) (ba (v:=vb (decide (v<0))) (wy (dt q91)) (λw' hw'=>aW (m:=v) (n:=0) rfl rfl) (ba (v:=vb (decide (v<0))) (wy (dt q91)) (λw' hw'=>ao rfl) ?_))
    by_cases q94:v<0
    ·
     refine aC (wn (dt q94)) (aC (wn (dt q94)) (aC (wn (dt q94)) (aC (wn (dt q94)) (aC (wn (dt q94)) (aC (wn (dt q94)) (aC (wn (dt q94)) (aC (wn (dt q94)) (aC (wn (dt q94)) (aC (wn (dt q94)) ?_)))))))))
     refine aC (wn (dt q94)) (ba (v:=vb true) (wy (dt q91)) (λw' hw'=>aB rfl (dt q94) rfl) (qv (vb true) (λw' hw'=>aB rfl (dt q91) rfl) (cm ?_)))
     intro w174 hc175
     replace hc175:=av hc175 g169
     refine af rfl rfl (a6 rfl (mz zs15 (ai (u:Int) (a8 (aq (a6 rfl (mz zs15 (lx (aY (m:=↑u) (n:=1) rfl rfl (by omega)) (ai ((u:Int)+1) ?_)))))))))
     refine a8 ?_
     replace bH:=bH.cn ch170
     refine back18 (u+1,(u:Int),g169) _ _ ⟨bH.cn hc175,zs1,zs3,zs6,zs9,zs10,zs12,zs13,rfl,rfl,(Rg.cn ch170).cn hc175,(Rws.cn ch170).cn hc175,(bx5.cn ch170).cn hc175,(bx10.cn ch170).cn hc175,(o32.cn ch170).cn hc175,bx40.cn hc175,bx150.cn hc175,o155.cn hc175,(o160.cn ch170).cn hc175,by omega,?_⟩ ?_
     · show(u:Int)=bc far se (u+1)
       exact jz hp ‹_› ‹_› (.inl ‹_›)
     · show Int.toNat ((g.1:Int)-((u+1):Int))<Int.toNat ((g.1:Int)-(u:Int))
       omega
    refine ba (v:=vp b35 0) (wy (df q94)) (λw' hw'=>ad ei rfl rfl zs10 rfl) (ba (v:=v25) (wy (df q94)) (λw' hw'=>ae d6 rfl (bx40.bel hw') rfl) (ba (v:=vi ↑u) (wy (df q94)) (λw' hw'=>ao zs15) (ba (v:=Value.pointer (some (aO v25 1 (Int.toNat ↑u)))) (wy (df q94)) (λw' hw'=>aa (α:=Nat) (xs:=far) (v:=v25) (i:=↑u) cG rfl rfl (bx150.flat.bel hw') rfl (by omega) (by omega)) ?_)))
    refine ba (v:=Value.float .f64 (gI far ↑u)) (wy (df q94)) (λw' hw'=>az (α:=Nat) (xs:=far) (v:=v25) (i:=↑u) aL rfl (bx150.flat.bel hw') (by omega) (by omega) (by decide) rfl) (ba (v:=vp b35 0) (wy (df q94)) (λw' hw'=>ad ei rfl rfl zs10 rfl) (ba (v:=v25) (wy (df q94)) (λw' hw'=>ae d6 rfl (bx40.bel hw') rfl) (ba (v:=vi v) (wy (df q94)) (λw' hw'=>ao zs14) (ba (v:=Value.pointer (some (aO v25 1 (Int.toNat v)))) (wy (df q94)) (λw' hw'=>aa (α:=Nat) (xs:=far) (v:=v25) (i:=v) cG rfl rfl (bx150.flat.bel hw') rfl (by omega) (by omega)) ?_))))
    refine ba (v:=Value.float .f64 (gI far v)) (wy (df q94)) (λw' hw'=>az (α:=Nat) (xs:=far) (v:=v25) (i:=v) aL rfl (bx150.flat.bel hw') (by omega) (by omega) (by decide) rfl) (ba (v:=vb (decide ((gI far ↑u)<(gI far v)))) (wy (df q94)) (λw' hw'=>i9 (a:=(gI far ↑u)) (b:=(gI far v)) rfl rfl (by exact gC h1.nn _) (by exact gC h1.nn _)) (ba (v:=vb (decide ((gI far ↑u)<(gI far v)))) (wy (dt q91)) (λw' hw'=>aI rfl (df q94) rfl) (qv (vb (decide ((gI far ↑u)<(gI far v)))) (λw' hw'=>aB rfl (dt q91) rfl) (cm ?_))))
    intro w176 hc177
    replace hc177:=av hc177 g169
    by_cases p20:(gI far ↑u)<(gI far v)
    ·
     refine af rfl (dt p20) (a6 rfl (mz zs15 (ai (u:Int) (a8 (aq (a6 rfl (mz zs15 (lx (aY (m:=↑u) (n:=1) rfl rfl (by omega)) (ai ((u:Int)+1) ?_)))))))))
     refine a8 ?_
     replace bH:=bH.cn ch170
     refine back18 (u+1,(u:Int),g169) _ _ ⟨bH.cn hc177,zs1,zs3,zs6,zs9,zs10,zs12,zs13,rfl,rfl,(Rg.cn ch170).cn hc177,(Rws.cn ch170).cn hc177,(bx5.cn ch170).cn hc177,(bx10.cn ch170).cn hc177,(o32.cn ch170).cn hc177,bx40.cn hc177,bx150.cn hc177,o155.cn hc177,(o160.cn ch170).cn hc177,by omega,?_⟩ ?_
     · show(u:Int)=bc far se (u+1)
       exact jz hp ‹_› ‹_› (.inr ‹_›)
     · show Int.toNat ((g.1:Int)-((u+1):Int))<Int.toNat ((g.1:Int)-(u:Int))
       omega
    refine ag rfl (df p20) (ak (aq (a6 rfl (mz zs15 (lx (aY (m:=↑u) (n:=1) rfl rfl (by omega)) (ai ((u:Int)+1) (a8 ?_)))))))
    replace bH:=bH.cn ch170
    refine back18 (u+1,v,g169) _ _ ⟨bH.cn hc177,zs1,zs3,zs6,zs9,zs10,zs12,zs13,zs14,rfl,(Rg.cn ch170).cn hc177,(Rws.cn ch170).cn hc177,(bx5.cn ch170).cn hc177,(bx10.cn ch170).cn hc177,(o32.cn ch170).cn hc177,bx40.cn hc177,bx150.cn hc177,o155.cn hc177,(o160.cn ch170).cn hc177,by omega,?_⟩ ?_
    · show v=bc far se (u+1)
      exact iU hp (.inr (.inr ⟨by assumption,by assumption⟩))
    · show Int.toNat ((g.1:Int)-((u+1):Int))<Int.toNat ((g.1:Int)-(u:Int))
      omega
   refine aC (wn (df q91)) (aC (wn (df q91)) (aC (wn (df q91)) (aC (bj rfl rfl rfl) (aC (bj rfl rfl rfl) (aC (bj rfl rfl rfl) (aC (bj rfl rfl rfl) (aC (bj rfl rfl rfl) (aC (bj rfl rfl rfl) (aC (bj rfl rfl rfl) ?_)))))))))
   refine aC (bj rfl rfl rfl) (aC (bj rfl rfl rfl) (aC (bj rfl rfl rfl) (aC (bj rfl rfl rfl) (aC (wn (df q91)) (qv (vb false) (λw' hw'=>aI rfl (df q91) rfl) (cm ?_))))))
   intro w178 hc179
   replace hc179:=av hc179 g169
   refine ag rfl rfl (ak (aq (a6 rfl (mz zs15 (lx (aY (m:=↑u) (n:=1) rfl rfl (by omega)) (ai ((u:Int)+1) (a8 ?_)))))))
   replace bH:=bH.cn ch170
   refine back18 (u+1,v,g169) _ _ ⟨bH.cn hc179,zs1,zs3,zs6,zs9,zs10,zs12,zs13,zs14,rfl,(Rg.cn ch170).cn hc179,(Rws.cn ch170).cn hc179,(bx5.cn ch170).cn hc179,(bx10.cn ch170).cn hc179,(o32.cn ch170).cn hc179,bx40.cn hc179,bx150.cn hc179,o155.cn hc179,(o160.cn ch170).cn hc179,by omega,?_⟩ ?_
   · show v=bc far se (u+1)
     exact iU hp (.inr (.inl ‹_›))
   · show Int.toNat ((g.1:Int)-((u+1):Int))<Int.toNat ((g.1:Int)-(u:Int))
     omega
  refine ag rfl (df p18) (aD rfl (a7 (a7 ?_)))
  have hpk:v=bc far se g.1.toNat:=by rw[hp];congr 1;omega
  have hv1:=hp1
  refine a6 rfl (mz zs14 (lx (aW (m:=v) (n:=0) rfl rfl) (a8 ?_)))
  by_cases p22:v<0
  ·
   refine af rfl (dt p22) (a7 ?_)
   clear bx5 o155 o160
   refine a6 rfl (lx (aR (ds:=[v25,v30]) bO zs10 bx40 rfl rfl) (lo (aQ (cs':=[v25,v30]) bO zs6 rfl bx10 rfl nq (AllOne.all (.cons (bf bx150.flat) (.cons (bf o32.flat) .nil))) rfl ?_)))
   intro w180 ch181 bx182
   clear bx10
   refine ai 0 (a8 (au (vs:=[vg [v25,v30],vi 0]) Try.func13 (.cell zs6 (cX (ds:=[v25,v30]) bO bx182 rfl rfl) (.tmp rfl .nil)) ?_))
   replace bH:=bH.ce ch181
   replace bx150:=bx150.ce ch181
   replace o32:=o32.ce ch181
   have e0:((far,by_):(List Nat)×(List Int))=((aj g ws s).1):=by
     (rw[gp q25 (by omega)];exact h1.done hpk ‹_›)
   have e1:(0:Int)=((aj g ws s).2):=by
     rw[gp q25 (by omega)]
   exact⟨(fin w0 g169 (λn=>if n=3 then 1 else if n=4 then 2 else 0),v25,v30),(bD (a:=(far,by_)) (b:=0) (λ(z0:(List Nat)×(List Int)) (z1:Int)=>Ending.returned (vt [vg [v25,v30],vi z1])) e0 e1),bH.fresh _,((congrArg (λ(z:(List Nat)×(List Int))=>z.1) e0)▸(bx150.glue (γ:=c0) (ren:=(λn=>if n=3 then 1 else if n=4 then 2 else 0)) (k:=1) bH.col rfl rfl)),((congrArg (λ(z:(List Nat)×(List Int))=>z.2) e0)▸(o32.glue (γ:=c0) (ren:=(λn=>if n=3 then 1 else if n=4 then 2 else 0)) (k:=2) bH.col rfl rfl))⟩
  refine ag rfl (df p22) (ak (a7 (a6 rfl (mz zs12 (mz zs14 (lx (aa (v:=v153) (i:=v) ml rfl rfl o155.flat rfl (by omega) (by omega)) (lo (aK (i:=v) true dZ rfl rfl o155 (by omega) (by omega) rfl ?_))))))))
  intro w183 ch184 bx185
  clear o155
  refine a8 (a7 (a6 rfl (ai 0 (a8 (al ?_)))))
  refine aP (σ:=Nat×(List Nat)×(List Int)×aA) (λ⟨k,far2,by2,gq⟩ f w=>aU w0 gq w/\f 1=ws_v/\f 3=vp b3 0/\f 6=vp b8 0/\f 9=Value.float .f64 aJ/\f 10=vp b35 0/\f 12=v153/\f 13=v159/\f 14=vi v/\f 16=vi ↑k/\Sl gq (is 0) w g_v g.2/\Sl gq (is 0) w ws_v ws/\Bx gq (is 1) w b3 [vi g.1,g_v]/\Bx gq (is 2) w b8 [vn,vn]/\Ow gq (is 4) (is 4) w v30 by2/\Bx gq (is 5) w b35 [v25,v30]/\Ow gq (is 3) (is 3) w v25 far2/\cj gq 7 w v159 (ab g)/\Ow gq (is 6) (is 6) w v153 (List.set se (Int.toNat v) true)/\(k:Int)<=((List.length (gI (ab g) v):Int):Int)/\(k8 g ws far by_ v far2 by2 k)) (λ⟨k,far2,by2,gq⟩=>Int.toNat (((List.length (gI (ab g) v):Int):Int)-(k:Int))) (0,far,by_,g169) ?_ ?_
  · exact⟨bH.ce ch184,zs1,zs3,zs6,zs9,zs10,zs12,zs13,zs14,rfl,Rg.ce ch184,Rws.ce ch184,bx5.ce ch184,bx10.ce ch184,o32.ce ch184,bx40.ce ch184,bx150.ce ch184,o160.ce ch184,bx185,by omega,by exact h1.row⟩
  clear Rg Rws bx5 bx10 o32 bx40 bx150 o160 bx185 bH
  rintro⟨k,far2,by2,g188⟩ f186 w187 ⟨bH,zs1,zs3,zs6,zs9,zs10,zs12,zs13,zs14,zs16,Rg,Rws,bx5,bx10,o32,bx40,bx150,o160,bx185,hle_k,h2⟩ back26
  have h2f:=h2.lf
  have h2b:=h2.lb
  refine a7 (a7 (a6 rfl (mz zs16 (mz zs13 (mz zs14 (lx (aa (v:=v159) (i:=v) cW rfl rfl o160.sl rfl (by omega) (by omega)) ?_))))))
  obtain⟨v189,cel190,r191⟩:=bw (r:=v) o160 (by omega) (by omega)
  refine lx (bb aF rfl cel190) ?_
  have len192:=(r191.row_sl).small
  refine lx (aV bM rfl r191.row_sl) (lx (aW (m:=↑k) (n:=(List.length (gI (ab g) v):Int)) rfl rfl) (a8 ?_))
  by_cases p26:(k:Int)<(List.length (gI (ab g) v):Int)
  ·
   refine af rfl (dt p26) ?_
   have hrh:=ib hm (u:=v) (by omega) (by omega) (k:=k) ‹_›
   obtain⟨hrh0,hrh1,_⟩:=hrh
   have hto:=j7 hm hrh0 hrh1
   obtain⟨hto0,hto1⟩:=hto
   have hgw:=mO hwg hwl hrh0 hrh1
   refine ak (a7 (al (a7 ?_)))
   clear cel190 r191
   refine a6 rfl (mz zs13 (mz zs14 (lx (aa (v:=v159) (i:=v) cW rfl rfl o160.sl rfl (by omega) (by omega)) ?_)))
   obtain⟨v193,cel194,r195⟩:=bw (r:=v) o160 (by omega) (by omega)
   refine lx (bb aF rfl cel194) (mz zs16 (lx (aa (v:=v193) (i:=↑k) bM rfl rfl r195.row_sl rfl (by omega) (by omega)) (lx (az (v:=v193) (i:=↑k) ay rfl r195.row_sl (by omega) (by omega) (by decide) rfl) (ai (gI (gI (ab g) v) (k:Int)) (a8 (a7 (a7 ?_)))))))
   clear cel194 r195
   refine a6 rfl (mz zs1 (mi (gI (gI (ab g) v) (k:Int)) (lx (fo (m:=(gI (gI (ab g) v) (k:Int))) (n:=2) rfl rfl (by omega) (by omega) (by omega)) (lx (aa (v:=ws_v) (i:=(gI (gI (ab g) v) (k:Int))/2) cG rfl rfl Rws rfl (by omega) (by omega)) (lx (az (v:=ws_v) (i:=(gI (gI (ab g) v) (k:Int))/2) aL rfl Rws (by omega) (by omega) (by decide) rfl) (mz zs9 (lw (vb (decide ((zf (gI ws ((gI (gI (ab g) v) (k:Int))/2)))=aJ))) (kB (a:=(gI ws ((gI (gI (ab g) v) (k:Int))/2))) (b:=aJ) rfl rfl (qF (ft (by exact hgw)) (jv (by decide)))) (a8 ?_))))))))
   by_cases p29:(zf (gI ws ((gI (gI (ab g) v) (k:Int))/2)))=aJ
   ·
    refine af rfl (dt p29) (aD rfl (a6 rfl (mz zs16 (lx (aY (m:=↑k) (n:=1) rfl rfl (by omega)) (ai ((k:Int)+1) (a8 ?_))))))
    refine back26 (k+1,far2,by2,g188) _ _ ⟨bH,zs1,zs3,zs6,zs9,zs10,zs12,zs13,zs14,rfl,Rg,Rws,bx5,bx10,o32,bx40,bx150,o160,bx185,by omega,?_⟩ ?_
    · show k8 g ws far by_ v far2 by2 (k+1)
      exact h2.inf ‹_› ‹_›
    · show Int.toNat (((List.length (gI (ab g) v):Int):Int)-((k+1):Int))<Int.toNat (((List.length (gI (ab g) v):Int):Int)-(k:Int))
      omega
   refine ag rfl (df p29) (ak (a7 (bL g188 rfl fB (by kernel_rfl) ?_)))
   intro w197 ch196
   refine qx (λw' hw'=>ad ei rfl rfl zs10 rfl) ?_
   replace bx40:=bx40.cn ch196
   refine qx (λw' hw'=>ae d6 rfl (bx40.bel hw') rfl) (qz zs14 ?_)
   replace bx150:=bx150.cn ch196
   refine qx (λw' hw'=>aa (v:=v25) (i:=v) cG rfl rfl (bx150.flat.bel hw') rfl (by omega) (by omega)) (qx (λw' hw'=>az (v:=v25) (i:=v) aL rfl (bx150.flat.bel hw') (by omega) (by omega) (by decide) rfl) (qz zs1 (qm (vi (gI (gI (ab g) v) (k:Int))) (qx (λw' hw'=>fo (m:=(gI (gI (ab g) v) (k:Int))) (n:=2) rfl rfl (by omega) (by omega) (by omega)) ?_))))
   replace Rws:=Rws.cn ch196
   refine qx (λw' hw'=>aa (v:=ws_v) (i:=(gI (gI (ab g) v) (k:Int))/2) cG rfl rfl (Rws.bel hw') rfl (by omega) (by omega)) (qx (λw' hw'=>az (v:=ws_v) (i:=(gI (gI (ab g) v) (k:Int))/2) aL rfl (Rws.bel hw') (by omega) (by omega) (by decide) rfl) (dJ (v:=Value.float .f64 (aT (gI far2 v) (zf (gI ws ((gI (gI (ab g) v) (k:Int))/2))))) rfl (λw' hw'=>aE (vals:=[Value.float .f64 (gI far2 v),Value.float .f64 (gI ws ((gI (gI (ab g) v) (k:Int))/2))]) Try.func45 kO li rfl) (λw' hw'=>(lG w' (gI far2 v) (gI ws ((gI (gI (ab g) v) (k:Int))/2)) (by exact gC h2.nn _) (by exact hgw)).mono λe w2 h2=>⟨h2.1,hw'.trans (h2.2.mono hw'.size)⟩) (qv (Value.float .f64 (aT (gI far2 v) (zf (gI ws ((gI (gI (ab g) v) (k:Int))/2))))) (λw' hw'=>bh rfl) (cm ?_))))
   intro w198 hc199
   replace hc199:=av hc199 g188
   refine a7 (a6 rfl ?_)
   replace bx5:=(bx5.cn ch196).cn hc199
   refine lx (aR (ds:=[vi g.1,g_v]) bP zs3 bx5 rfl rfl) (mi (gI (gI (ab g) v) (k:Int)) ?_)
   replace Rg:=(Rg.cn ch196).cn hc199
   refine lo (aZ (v:=vi (dc g (gI (gI (ab g) v) (k:Int)))) (aE (vals:=[vg [vi g.1,g_v],vi (gI (gI (ab g) v) (k:Int))]) Try.func24 kW lY rfl) (nK w198 g g_v (Rg).ro (gI (gI (ab g) v) (k:Int)) (by omega) (by omega)) ?_)
   intro w200 hb201
   replace hb201:=av hb201 g188
   refine ai (dc g (gI (gI (ab g) v) (k:Int))) (a8 (a7 (a6 rfl (mv (Value.float .f64 (aT (gI far2 v) (zf (gI ws ((gI (gI (ab g) v) (k:Int))/2))))) (lx (ad ei rfl rfl zs10 rfl) ?_)))))
   replace bx40:=(bx40.cn hc199).cn hb201
   refine lx (ae d6 rfl bx40 rfl) (mi (dc g (gI (gI (ab g) v) (k:Int))) ?_)
   replace bx150:=(bx150.cn hc199).cn hb201
   refine lx (aa (v:=v25) (i:=dc g (gI (gI (ab g) v) (k:Int))) cG rfl rfl bx150.flat rfl (by omega) (by omega)) (lx (az (v:=v25) (i:=dc g (gI (gI (ab g) v) (k:Int))) aL rfl bx150.flat (by omega) (by omega) (by decide) rfl) (lw (vb (decide ((aT (gI far2 v) (zf (gI ws ((gI (gI (ab g) v) (k:Int))/2))))<(gI far2 (dc g (gI (gI (ab g) v) (k:Int))))))) (i9 (a:=(aT (gI far2 v) (zf (gI ws ((gI (gI (ab g) v) (k:Int))/2))))) (b:=(gI far2 (dc g (gI (gI (ab g) v) (k:Int))))) rfl rfl (by exact(ek (gC h2.nn _) hgw).2) (by exact gC h2.nn _)) (a8 ?_)))
   by_cases p32:(aT (gI far2 v) (zf (gI ws ((gI (gI (ab g) v) (k:Int))/2))))<(gI far2 (dc g (gI (gI (ab g) v) (k:Int))))
   ·
    refine af rfl (dt p32) (a7 (a6 rfl (lx (ad ei rfl rfl zs10 rfl) (lx (ae d6 rfl bx40 rfl) (mi (dc g (gI (gI (ab g) v) (k:Int))) (mv (Value.float .f64 (aT (gI far2 v) (zf (gI ws ((gI (gI (ab g) v) (k:Int))/2))))) (lx (aa (v:=v25) (i:=dc g (gI (gI (ab g) v) (k:Int))) cG rfl rfl bx150.flat rfl (by omega) (by omega)) (lo (aK (i:=dc g (gI (gI (ab g) v) (k:Int))) (aT (gI far2 v) (zf (gI ws ((gI (gI (ab g) v) (k:Int))/2)))) aL rfl rfl bx150 (by omega) (by omega) rfl ?_)))))))))
    intro w202 ch203 bx204
    clear bx150
    refine a8 (a6 rfl (lx (ad ei rfl rfl zs10 rfl) ?_))
    replace bx40:=bx40.ce ch203
    refine lx (ae aF rfl bx40 rfl) (mi (dc g (gI (gI (ab g) v) (k:Int))) (mi (gI (gI (ab g) v) (k:Int)) ?_))
    have C205:=cg [3] (ch196.n.seq (hc199.n.seq (hb201.n.seq (ch203.l rfl))))
    replace o32:=o32.ca C205
    refine lx (aa (v:=v30) (i:=dc g (gI (gI (ab g) v) (k:Int))) bM rfl rfl o32.flat rfl (by omega) (by omega)) (lo (aK (i:=dc g (gI (gI (ab g) v) (k:Int))) (gI (gI (ab g) v) (k:Int)) ay rfl rfl o32 (by omega) (by omega) rfl ?_))
    intro w206 ch207 bx208
    clear o32
    refine a8 (aq (a6 rfl (mz zs16 (lx (aY (m:=↑k) (n:=1) rfl rfl (by omega)) (ai ((k:Int)+1) (a8 ?_))))))
    have C210:=cg [3,4] (hb201.n.seq ((ch203.l rfl).seq (ch207.l rfl)))
    have C211:=hc199.n.seq C210
    have C209:=ch196.n.seq C211
    refine back26 (k+1,(List.set far2 (Int.toNat (dc g (gI (gI (ab g) v) (k:Int)))) (aT (gI far2 v) (zf (gI ws ((gI (gI (ab g) v) (k:Int))/2))))),(List.set by2 (Int.toNat (dc g (gI (gI (ab g) v) (k:Int)))) (gI (gI (ab g) v) (k:Int))),g188) _ _ ⟨bH.ca C209,zs1,zs3,zs6,zs9,zs10,zs12,zs13,zs14,rfl,Rg.ca C210,Rws.ca C211,bx5.ca C210,bx10.ca C209,bx208,bx40.ce ch207,bx204.ce ch207,o160.ca C209,bx185.ca C209,by omega,?_⟩ ?_
    · show k8 g ws far by_ v (List.set far2 (Int.toNat (dc g (gI (gI (ab g) v) (k:Int)))) (aT (gI far2 v) (zf (gI ws ((gI (gI (ab g) v) (k:Int))/2))))) (List.set by2 (Int.toNat (dc g (gI (gI (ab g) v) (k:Int)))) (gI (gI (ab g) v) (k:Int))) (k+1)
      exact h2.yes ‹_› rfl rfl rfl hto0 hto1 (by omega) hgw ‹_› ‹_›
    · show Int.toNat (((List.length (gI (ab g) v):Int):Int)-((k+1):Int))<Int.toNat (((List.length (gI (ab g) v):Int):Int)-(k:Int))
      omega
   refine ag rfl (df p32) (ak (aq (a6 rfl (mz zs16 (lx (aY (m:=↑k) (n:=1) rfl rfl (by omega)) (ai ((k:Int)+1) (a8 ?_)))))))
   have C212:=cg [] (ch196.n.seq (hc199.n.seq hb201.n))
   refine back26 (k+1,far2,by2,g188) _ _ ⟨bH.ca C212,zs1,zs3,zs6,zs9,zs10,zs12,zs13,zs14,rfl,Rg.cn hb201,(Rws.cn hc199).cn hb201,bx5.cn hb201,bx10.ca C212,o32.ca C212,bx40,bx150,o160.ca C212,bx185.ca C212,by omega,?_⟩ ?_
   · show k8 g ws far by_ v far2 by2 (k+1)
     exact h2.no ‹_› ‹_›
   · show Int.toNat (((List.length (gI (ab g) v):Int):Int)-((k+1):Int))<Int.toNat (((List.length (gI (ab g) v):Int):Int)-(k:Int))
     omega
  refine ag rfl (df p26) (aD rfl (aq ?_))
  refine back16 (far2,by2,(List.set se (Int.toNat v) true),g188) _ _ ⟨bH,zs1,zs3,zs6,zs9,zs10,zs12,zs13,Rg,Rws,bx5,bx10,o32,bx40,bx150,bx185,o160,?_⟩ ?_
  · show n3 g ws s far2 by2 (List.set se (Int.toNat v) true)
    exact(h2.done ‹_› h1 hpk ‹_›).1
  · show dz (List.set se (Int.toNat v) true)<dz se
    exact(h2.done ‹_› h1 hpk ‹_›).2
 refine ah (wn (df q25)) (ah (wn (df q25)) (ah (wn (df q25)) (ah (bj rfl rfl rfl) (ah (bj rfl rfl rfl) (ah (bj rfl rfl rfl) (ah (bj rfl rfl rfl) (ah (wn (df q25)) (lw (vb false) (aI rfl (df q25) rfl) (a8 ?_)))))))))
 refine ag rfl rfl (ak (a7 (a7 (a6 rfl (mi (ci g ws) (lx (ch (m:=ci g ws) (n:=0) rfl rfl) (a8 (af rfl (congrArg Bool.not (df q25)) (a7 ?_)))))))))
 clear bx5
 refine a6 rfl (lw (vg [vn,vn]) (bC (vs:=[]) rfl (by kernel_rfl)) (mi (ci g ws) (lo ?_)))
 replace bx10:=bx10.cn hb12
 refine aQ (cs':=[vn,vn]) bO rfl rfl bx10 rfl nq (AllOne.all (.cons rfl (.cons rfl .nil))) rfl ?_
 intro w213 ch214 bx215
 clear bx10
 refine ai (ci g ws) (a8 (au (vs:=[vg [vn,vn],vi (ci g ws)]) Try.func13 (.cell rfl (cX (ds:=[vn,vn]) bO bx215 rfl rfl) (.tmp rfl .nil)) ?_))
 have C216:=cg [2] (ch2.n.seq (ch7.n.seq (hb12.n.seq (ch214.l rfl))))
 replace bH:=bH.ca C216
 have e0:(([],[]):(List Nat)×(List Int))=((aj g ws s).1):=by
   rw[gj q25]
 have e1:(ci g ws:Int)=((aj g ws s).2):=by
   rw[gj q25]
 exact⟨(fin w0 g9 (λn=>0),vn,vn),(bD (a:=([],[])) (b:=ci g ws) (λ(z0:(List Nat)×(List Int)) (z1:Int)=>Ending.returned (vt [vg [vn,vn],vi z1])) e0 e1),bH.fresh _,((congrArg (λ(z:(List Nat)×(List Int))=>z.1) e0)▸Ow.nil),((congrArg (λ(z:(List Nat)×(List Int))=>z.2) e0)▸Ow.nil)⟩
end TL
