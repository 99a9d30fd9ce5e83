import Derived.Test.YtbpphaeianpdpaaPuTlP2
import Derived.Test.YtbpphaeianpdpaaPuTlGmA
import Derived.Test.YtbpphaeianpdpaaPuTlGenA
import Derived.Test.YtbpphaeianpdpaaPuTlPwA
import Derived.Test.YtbpphaeianpdpaaPuTlPwR
import Derived.Test.YtbpphaeianpdpaaProg
import Derived.Test.YtbpphaeianpdpaaPuTlAli
set_option linter.all false
set_option maxRecDepth 20000
namespace TL
open Go Go.Proofs
theorem mW:Try.prog.follows .mixedOrders=true:=by kernel_rfl
theorem ol:Try.f44.body.isNone=false:=rfl
theorem oP:(Try.f44.name== "runtime.NumGoroutine")=false:=by decide+kernel
theorem m8(w0:World)(g:(Int)×(List Pt))(g_v:Value)(hg_v:Ro w0 g_v g.2)(hmay:aV g):
    Calls Try.prog 44 #[vg [vi g.1,g_v]] w0 (λee w=>∃xx:aw×Value,ee= .returned ((λ⟨δ,rv0⟩=>rv0) xx)/\(λ(⟨δ,rv0⟩:aw×Value) (w:World)=>ej w0 δ w/\cU δ 1 w rv0 (ab g)) xx w):=by
 refine ap Try.func44 rfl nq ?_
 have bH:=aX.start w0
 have Rg:=hg_v.sl
 have hm0:=hmay
 obtain⟨hm1,hm2,hm3,hm4⟩:=hm0
 refine a7 (a6 rfl (dA rfl (cY c0 (is 1) (1,0) rfl rfl ?_)))
 intro g4 w1 b3 ch2 bx5
 replace bx5:Bx g4 (is 1) w1 b3 [vi g.1,g_v]:=bx5
 refine ma vn (a8 (a7 (a6 rfl (lx (aj cS rfl rfl rfl rfl) (lx (ah av rfl bx5 rfl) (lo (gQ (α:=Int) (n:=g.1) (cp:=g.1) g4 2 j4 br rfl rfl rfl (by omega) (by omega) (by omega) (by omega) ?_)))))))
 intro g6 w7 v8 ch9 o10
 refine ma v8 (a8 (a7 (a7 (a6 rfl (ai 0 (a8 (ao ?_)))))))
 refine aR (σ:=Nat×gT×aw) (λ⟨h,O,gq⟩ f w=>aX w0 gq w/\f 1=vp b3 0/\f 3=v8/\f 4=vi ↑h/\Sl gq (is 0) w g_v g.2/\Bx gq (is 1) w b3 [vi g.1,g_v]/\cU gq 2 w v8 O/\(h:Int)<=(2*(g.2.length:Int):Int)/\(ct O g h)) (λ⟨h,O,gq⟩=>Int.toNat ((2*(g.2.length:Int):Int)-(h:Int))) (0,(List.replicate (Int.toNat g.1) []),g6) ?_ ?_
 replace bH:=bH.cn ch2
 · exact⟨bH.cn ch9,rfl,rfl,rfl,(Rg.cn ch2).cn ch9,bx5.cn ch9,o10,by omega,by exact ct.start hm1⟩
 clear Rg bx5 o10 bH
 rintro⟨h,O,g13⟩ f11 w12 ⟨bH,zs1,zs3,zs4,Rg,bx5,o10,hle_h,hov⟩ back3
 have hol:=hov.len
 refine a7 (a7 (a6 rfl (mz zs4 (lx (aj cS rfl rfl zs1 rfl) (lx (ah bw rfl bx5 rfl) ?_)))))
 have len14:=(Rg).small
 refine lx (bl eZ rfl Rg) (lx (kJ (m:=2) (n:=(g.2.length:Int)) rfl rfl (by omega)) (lx (b9 (m:=↑h) (n:=2*(g.2.length:Int)) rfl rfl) (a8 ?_)))
 by_cases p3:(h:Int)<(2*(g.2.length:Int))
 ·
  refine ae rfl (dt p3) ?_
  obtain⟨hf1,hf2⟩:=jo hmay (h:=(h:Int)) (by omega) (by omega)
  have hbd:=hov.bd hf1 hf2
  refine al (a7 (ao ?_))
  refine g5 (σ:=aw) (λgq f w=>aX w0 gq w/\f 1=vp b3 0/\f 3=v8/\f 4=vi ↑h/\Sl gq (is 0) w g_v g.2/\Bx gq (is 1) w b3 [vi g.1,g_v]/\cU gq 2 w v8 (List.set O (Int.toNat (aB g (h:Int))) (gI O (aB g (h:Int))++[(h:Int)]))) g13 (inl [2]) mW ?_ ?_
  ·
   intro mid
   intro w16 ch15
   refine ht (v:=v8) 0 rfl (aZ.refl _ _ _) (λw' hw'=>am zs3) ?_
   replace bx5:=bx5.cn ch15
   refine ht 1 rfl (aZ.refl _ _ _) (λw' hw'=>aO (ds:=[vi g.1,g_v]) bm zs1 (bx5.chg hw' (bX rfl)) rfl rfl) (ht (v:=vi ↑h) 2 rfl (aZ.refl _ _ _) (λw' hw'=>am zs4) (ht (v:=v8) 4 rfl (aZ.refl _ _ _) (λw' hw'=>am zs3) (ht 5 rfl (aZ.refl _ _ _) (λw' hw'=>aO (ds:=[vi g.1,g_v]) bm zs1 (bx5.chg hw' (bX rfl)) rfl rfl) (ht (v:=vi ↑h) 6 rfl (aZ.refl _ _ _) (λw' hw'=>am zs4) (ht (v:=vi ↑h) 10 rfl (aZ.refl _ _ _) (λw' hw'=>am zs4) ?_)))))
   refine fg 3 [11] (by kernel_rfl) ⟨fQ 3 rfl (by kernel_rfl) rfl ?_,fQ 11 rfl (by kernel_rfl) rfl ?_,trivial⟩
   ·
    replace Rg:=Rg.cn ch15
    refine bu (v:=vi (aB g (h:Int))) (aG (vals:=[vg [vi g.1,g_v],vi ↑h]) Try.func23 fq fy rfl) (fD w16 g g_v (Rg).ro (h:Int) (by omega) (by omega)) ?_
    intro w17 hb18
    replace hb18:=ax hb18 g13
    have hs19:aZ (inl [2]) _ _ _ _:=hb18.n
    refine⟨hs19.same,?_⟩
    refine fg 7 [11] (by kernel_rfl) ⟨fQ 7 rfl (by kernel_rfl) rfl ?_,fQ 11 rfl (by kernel_rfl) rfl ?_,trivial⟩
    ·
     refine bu (v:=vi (aB g (h:Int))) (aG (vals:=[vg [vi g.1,g_v],vi ↑h]) Try.func23 fq fy rfl) (fD w17 g g_v ((Rg.ca hs19)).ro (h:Int) (by omega) (by omega)) ?_
     intro w20 hb21
     replace hb21:=ax hb21 g13
     have hs22:=hs19.seq (hb21.n)
     refine⟨hs22.same,?_⟩
     refine fg 8 [11] (by kernel_rfl) ⟨fQ 8 rfl (by kernel_rfl) rfl ?_,fQ 11 rfl (by kernel_rfl) rfl ?_,trivial⟩
     ·
      have C23:=cg [] (ch15.n.seq (hb18.n.seq hb21.n))
      replace o10:=o10.ca C23
      refine aS (v:=Value.pointer (some (aC v8 1 (Int.toNat (aB g (h:Int)))))) (aa (α:=List Int) (xs:=O) (v:=v8) (i:=aB g (h:Int)) j4 rfl rfl o10.sl rfl (by omega) (by omega)) ?_
      refine⟨hs22.same,?_⟩
      refine fg 9 [11] (by kernel_rfl) ⟨fQ 9 rfl (by kernel_rfl) rfl ?_,fQ 11 rfl (by kernel_rfl) rfl ?_,trivial⟩
      ·
       obtain⟨v24,cel25,r26⟩:=cJ (r:=aB g (h:Int)) o10 (by omega) (by omega)
       refine aS (v:=v24) (c7 br rfl cel25) ?_
       refine⟨hs22.same,?_⟩
       refine bf 11 rfl (by kernel_rfl) rfl (aI (α:=Int) g13 (is 3) (is 3) (3,0) rfl [(h:Int)] bI av (by decide) (by decide) (vs:=[(0,vi ↑h)]) rfl rfl (.cons rfl .nil) ?_)
       intro g27 w28 v29 ch30 o31
       have hs32:=hs22.seq (ch30.n)
       refine⟨hs32.same,?_⟩
       refine bf 12 rfl (by kernel_rfl) rfl ?_
       replace o10:=o10.cn ch30
       replace r26:=r26.cn ch30
       refine bG (α:=Int) (xs:=(gI O (aB g (h:Int)))) (ys:=([(h:Int)])) g27 (J:=row 2 (Int.toNat (aB g (h:Int))+1)) (S:=row 2 (Int.toNat (aB g (h:Int))+1)) (2,Int.toNat (aB g (h:Int))+1) rfl bI av (by decide) rfl rfl rfl r26 o31.flat (by decide) (by(simp;omega)) ?_
       intro g33 w34 v35 ch36 o37
       have o38:=o10.rowchg ch36
       clear o10 cel25 r26
       have hs39:=hs32.seq (ch36.lr rfl)
       refine⟨hs39.same,?_⟩
       refine bf 13 rfl (by kernel_rfl) rfl ?_
       obtain⟨us40,hl41,r42⟩:=o38.vc
       try simp only[List.length_set,List.length_append,List.length_cons,List.length_nil] at hl41
       refine aS (v:=Value.pointer (some (aC v8 1 (Int.toNat (aB g (h:Int)))))) (aa (α:=Vc) (xs:=us40) (v:=v8) (i:=aB g (h:Int)) j4 rfl rfl r42 rfl (by omega) (by omega)) ?_
       refine⟨hs39.same,?_⟩
       refine bf 14 rfl (by kernel_rfl) rfl (c5 (r:=aB g (h:Int)) br rfl rfl o38 o37 (by omega) (by omega) ?_)
       intro w46 ch47 o48
       clear o38 o37
       have hs49:=hs39.seq (ch47.l rfl)
       refine⟨hs49.same,?_⟩
       refine el (by kernel_rfl) ?_
       have C50:=cg [2] (ch15.n.seq (hb18.n.seq (hb21.n.seq (ch30.n.seq ((ch36.lr rfl).seq (ch47.l rfl))))))
       exact mid (g33) _ _ ⟨bH.ca C50,zs1,zs3,zs4,(Rg.ca hs49),(bx5.ca hs49),o48⟩
      ·
       refine aI (α:=Int) g13 (is 3) (is 3) (3,0) rfl [(h:Int)] bI av (by decide) (by decide) (vs:=[(0,vi ↑h)]) rfl rfl (.cons rfl .nil) ?_
       intro g51 w52 v53 ch54 o55
       have hs56:=hs22.seq (ch54.n)
       refine⟨hs56.same,?_⟩
       refine bf 9 rfl (by kernel_rfl) rfl ?_
       replace o10:=o10.cn ch54
       obtain⟨v57,cel58,r59⟩:=cJ (r:=aB g (h:Int)) o10 (by omega) (by omega)
       refine aS (v:=v57) (c7 br rfl cel58) ?_
       refine⟨hs56.same,?_⟩
       refine bf 12 rfl (by kernel_rfl) rfl (bG (α:=Int) (xs:=(gI O (aB g (h:Int)))) (ys:=([(h:Int)])) g51 (J:=row 2 (Int.toNat (aB g (h:Int))+1)) (S:=row 2 (Int.toNat (aB g (h:Int))+1)) (2,Int.toNat (aB g (h:Int))+1) rfl bI av (by decide) rfl rfl rfl r59 o55.flat (by decide) (by(simp;omega)) ?_)
       intro g60 w61 v62 ch63 o64
       have o65:=o10.rowchg ch63
       clear o10 cel58 r59
       have hs66:=hs56.seq (ch63.lr rfl)
       refine⟨hs66.same,?_⟩
       refine bf 13 rfl (by kernel_rfl) rfl ?_
       obtain⟨us67,hl68,r69⟩:=o65.vc
       try simp only[List.length_set,List.length_append,List.length_cons,List.length_nil] at hl68
       refine aS (v:=Value.pointer (some (aC v8 1 (Int.toNat (aB g (h:Int)))))) (aa (α:=Vc) (xs:=us67) (v:=v8) (i:=aB g (h:Int)) j4 rfl rfl r69 rfl (by omega) (by omega)) ?_
       refine⟨hs66.same,?_⟩
       refine bf 14 rfl (by kernel_rfl) rfl (c5 (r:=aB g (h:Int)) br rfl rfl o65 o64 (by omega) (by omega) ?_)
       intro w73 ch74 o75
       clear o65 o64
       have hs76:=hs66.seq (ch74.l rfl)
       refine⟨hs76.same,?_⟩
       refine el (by kernel_rfl) ?_
       have C77:=cg [2] (ch15.n.seq (hb18.n.seq (hb21.n.seq (ch54.n.seq ((ch63.lr rfl).seq (ch74.l rfl))))))
       exact mid (g60) _ _ ⟨bH.ca C77,zs1,zs3,zs4,(Rg.ca hs76),(bx5.ca hs76),o75⟩
     ·
      refine aI (α:=Int) g13 (is 3) (is 3) (3,0) rfl [(h:Int)] bI av (by decide) (by decide) (vs:=[(0,vi ↑h)]) rfl rfl (.cons rfl .nil) ?_
      intro g78 w79 v80 ch81 o82
      have hs83:=hs22.seq (ch81.n)
      refine⟨hs83.same,?_⟩
      refine bf 8 rfl (by kernel_rfl) rfl ?_
      have C84:=cg [] (ch15.n.seq (hb18.n.seq (hb21.n.seq ch81.n)))
      replace o10:=o10.ca C84
      refine aS (v:=Value.pointer (some (aC v8 1 (Int.toNat (aB g (h:Int)))))) (aa (α:=List Int) (xs:=O) (v:=v8) (i:=aB g (h:Int)) j4 rfl rfl o10.sl rfl (by omega) (by omega)) ?_
      refine⟨hs83.same,?_⟩
      refine bf 9 rfl (by kernel_rfl) rfl ?_
      obtain⟨v85,cel86,r87⟩:=cJ (r:=aB g (h:Int)) o10 (by omega) (by omega)
      refine aS (v:=v85) (c7 br rfl cel86) ?_
      refine⟨hs83.same,?_⟩
      refine bf 12 rfl (by kernel_rfl) rfl (bG (α:=Int) (xs:=(gI O (aB g (h:Int)))) (ys:=([(h:Int)])) g78 (J:=row 2 (Int.toNat (aB g (h:Int))+1)) (S:=row 2 (Int.toNat (aB g (h:Int))+1)) (2,Int.toNat (aB g (h:Int))+1) rfl bI av (by decide) rfl rfl rfl r87 o82.flat (by decide) (by(simp;omega)) ?_)
      intro g88 w89 v90 ch91 o92
      have o93:=o10.rowchg ch91
      clear o10 cel86 r87
      have hs94:=hs83.seq (ch91.lr rfl)
      refine⟨hs94.same,?_⟩
      refine bf 13 rfl (by kernel_rfl) rfl ?_
      obtain⟨us95,hl96,r97⟩:=o93.vc
      try simp only[List.length_set,List.length_append,List.length_cons,List.length_nil] at hl96
      refine aS (v:=Value.pointer (some (aC v8 1 (Int.toNat (aB g (h:Int)))))) (aa (α:=Vc) (xs:=us95) (v:=v8) (i:=aB g (h:Int)) j4 rfl rfl r97 rfl (by omega) (by omega)) ?_
      refine⟨hs94.same,?_⟩
      refine bf 14 rfl (by kernel_rfl) rfl (c5 (r:=aB g (h:Int)) br rfl rfl o93 o92 (by omega) (by omega) ?_)
      intro w101 ch102 o103
      clear o93 o92
      have hs104:=hs94.seq (ch102.l rfl)
      refine⟨hs104.same,?_⟩
      refine el (by kernel_rfl) ?_
      have C105:=cg [2] (ch15.n.seq (hb18.n.seq (hb21.n.seq (ch81.n.seq ((ch91.lr rfl).seq (ch102.l rfl))))))
      exact mid (g88) _ _ ⟨bH.ca C105,zs1,zs3,zs4,(Rg.ca hs104),(bx5.ca hs104),o103⟩
    ·
     refine aI (α:=Int) g13 (is 3) (is 3) (3,0) rfl [(h:Int)] bI av (by decide) (by decide) (vs:=[(0,vi ↑h)]) rfl rfl (.cons rfl .nil) ?_
     intro g106 w107 v108 ch109 o110
     have hs111:=hs19.seq (ch109.n)
     refine⟨hs111.same,?_⟩
     refine bf 7 rfl (by kernel_rfl) rfl (bu (v:=vi (aB g (h:Int))) (aG (vals:=[vg [vi g.1,g_v],vi ↑h]) Try.func23 fq fy rfl) (fD w107 g g_v ((Rg.ca hs111)).ro (h:Int) (by omega) (by omega)) ?_)
     intro w112 hb113
     replace hb113:=ax hb113 g106
     have hs114:=hs111.seq (hb113.n)
     refine⟨hs114.same,?_⟩
     refine bf 8 rfl (by kernel_rfl) rfl ?_
     have C115:=cg [] (ch15.n.seq (hb18.n.seq (ch109.n.seq hb113.n)))
     replace o10:=o10.ca C115
     refine aS (v:=Value.pointer (some (aC v8 1 (Int.toNat (aB g (h:Int)))))) (aa (α:=List Int) (xs:=O) (v:=v8) (i:=aB g (h:Int)) j4 rfl rfl o10.sl rfl (by omega) (by omega)) ?_
     refine⟨hs114.same,?_⟩
     refine bf 9 rfl (by kernel_rfl) rfl ?_
     obtain⟨v116,cel117,r118⟩:=cJ (r:=aB g (h:Int)) o10 (by omega) (by omega)
     refine aS (v:=v116) (c7 br rfl cel117) ?_
     refine⟨hs114.same,?_⟩
     refine bf 12 rfl (by kernel_rfl) rfl ?_
     replace o110:=o110.cn hb113
     refine bG (α:=Int) (xs:=(gI O (aB g (h:Int)))) (ys:=([(h:Int)])) g106 (J:=row 2 (Int.toNat (aB g (h:Int))+1)) (S:=row 2 (Int.toNat (aB g (h:Int))+1)) (2,Int.toNat (aB g (h:Int))+1) rfl bI av (by decide) rfl rfl rfl r118 o110.flat (by decide) (by(simp;omega)) ?_
     intro g119 w120 v121 ch122 o123
     have o124:=o10.rowchg ch122
     clear o10 cel117 r118
     have hs125:=hs114.seq (ch122.lr rfl)
     refine⟨hs125.same,?_⟩
     refine bf 13 rfl (by kernel_rfl) rfl ?_
     obtain⟨us126,hl127,r128⟩:=o124.vc
     try simp only[List.length_set,List.length_append,List.length_cons,List.length_nil] at hl127
     refine aS (v:=Value.pointer (some (aC v8 1 (Int.toNat (aB g (h:Int)))))) (aa (α:=Vc) (xs:=us126) (v:=v8) (i:=aB g (h:Int)) j4 rfl rfl r128 rfl (by omega) (by omega)) ?_
     refine⟨hs125.same,?_⟩
     refine bf 14 rfl (by kernel_rfl) rfl (c5 (r:=aB g (h:Int)) br rfl rfl o124 o123 (by omega) (by omega) ?_)
     intro w132 ch133 o134
     clear o124 o123
     have hs135:=hs125.seq (ch133.l rfl)
     refine⟨hs135.same,?_⟩
     refine el (by kernel_rfl) ?_
     have C136:=cg [2] (ch15.n.seq (hb18.n.seq (ch109.n.seq (hb113.n.seq ((ch122.lr rfl).seq (ch133.l rfl))))))
     exact mid (g119) _ _ ⟨bH.ca C136,zs1,zs3,zs4,(Rg.ca hs135),(bx5.ca hs135),o134⟩
   ·
    refine aI (α:=Int) g13 (is 3) (is 3) (3,0) rfl [(h:Int)] bI av (by decide) (by decide) (vs:=[(0,vi ↑h)]) rfl rfl (.cons rfl .nil) ?_
    intro g137 w138 v139 ch140 o141
    have hs142:aZ (inl [2]) _ _ _ _:=ch140.n
    refine⟨hs142.same,?_⟩
    refine bf 3 rfl (by kernel_rfl) rfl ?_
    replace Rg:=Rg.cn ch15
    refine bu (v:=vi (aB g (h:Int))) (aG (vals:=[vg [vi g.1,g_v],vi ↑h]) Try.func23 fq fy rfl) (fD w138 g g_v ((Rg.ca hs142)).ro (h:Int) (by omega) (by omega)) ?_
    intro w143 hb144
    replace hb144:=ax hb144 g137
    have hs145:=hs142.seq (hb144.n)
    refine⟨hs145.same,?_⟩
    refine bf 7 rfl (by kernel_rfl) rfl (bu (v:=vi (aB g (h:Int))) (aG (vals:=[vg [vi g.1,g_v],vi ↑h]) Try.func23 fq fy rfl) (fD w143 g g_v ((Rg.ca hs145)).ro (h:Int) (by omega) (by omega)) ?_)
    intro w146 hb147
    replace hb147:=ax hb147 g137
    have hs148:=hs145.seq (hb147.n)
    refine⟨hs148.same,?_⟩
    refine bf 8 rfl (by kernel_rfl) rfl ?_
    have C149:=cg [] (ch15.n.seq (ch140.n.seq (hb144.n.seq hb147.n)))
    replace o10:=o10.ca C149
    refine aS (v:=Value.pointer (some (aC v8 1 (Int.toNat (aB g (h:Int)))))) (aa (α:=List Int) (xs:=O) (v:=v8) (i:=aB g (h:Int)) j4 rfl rfl o10.sl rfl (by omega) (by omega)) ?_
    refine⟨hs148.same,?_⟩
    refine bf 9 rfl (by kernel_rfl) rfl ?_
    obtain⟨v150,cel151,r152⟩:=cJ (r:=aB g (h:Int)) o10 (by omega) (by omega)
    refine aS (v:=v150) (c7 br rfl cel151) ?_
    refine⟨hs148.same,?_⟩
    refine bf 12 rfl (by kernel_rfl) rfl ?_
    replace o141:=(o141.cn hb144).cn hb147
    refine bG (α:=Int) (xs:=(gI O (aB g (h:Int)))) (ys:=([(h:Int)])) g137 (J:=row 2 (Int.toNat (aB g (h:Int))+1)) (S:=row 2 (Int.toNat (aB g (h:Int))+1)) (2,Int.toNat (aB g (h:Int))+1) rfl bI av (by decide) rfl rfl rfl r152 o141.flat (by decide) (by(simp;omega)) ?_
    intro g153 w154 v155 ch156 o157
    have o158:=o10.rowchg ch156
    clear o10 cel151 r152
    have hs159:=hs148.seq (ch156.lr rfl)
    refine⟨hs159.same,?_⟩
    refine bf 13 rfl (by kernel_rfl) rfl ?_
    obtain⟨us160,hl161,r162⟩:=o158.vc
    try simp only[List.length_set,List.length_append,List.length_cons,List.length_nil] at hl161
    refine aS (v:=Value.pointer (some (aC v8 1 (Int.toNat (aB g (h:Int)))))) (aa (α:=Vc) (xs:=us160) (v:=v8) (i:=aB g (h:Int)) j4 rfl rfl r162 rfl (by omega) (by omega)) ?_
    refine⟨hs159.same,?_⟩
    refine bf 14 rfl (by kernel_rfl) rfl (c5 (r:=aB g (h:Int)) br rfl rfl o158 o157 (by omega) (by omega) ?_)
    intro w166 ch167 o168
    clear o158 o157
    have hs169:=hs159.seq (ch167.l rfl)
    refine⟨hs169.same,?_⟩
    refine el (by kernel_rfl) ?_
    have C170:=cg [2] (ch15.n.seq (ch140.n.seq (hb144.n.seq (hb147.n.seq ((ch156.lr rfl).seq (ch167.l rfl))))))
    exact mid (g153) _ _ ⟨bH.ca C170,zs1,zs3,zs4,(Rg.ca hs169),(bx5.ca hs169),o168⟩
  clear Rg bx5 o10 bH
  rintro g173 f171 w172 ⟨bH,zs1,zs3,zs4,Rg,bx5,o48⟩
  refine ar (a6 rfl (mz zs4 (lx (bg (m:=↑h) (n:=1) rfl rfl (by omega)) (ai ((h:Int)+1) (a8 ?_)))))
  refine back3 (h+1,(List.set O (Int.toNat (aB g (h:Int))) (gI O (aB g (h:Int))++[(h:Int)])),g173) _ _ ⟨bH,zs1,zs3,rfl,Rg,bx5,o48,by omega,?_⟩ ?_
  · show ct (List.set O (Int.toNat (aB g (h:Int))) (gI O (aB g (h:Int))++[(h:Int)])) g (h+1)
    exact hov.next hf1 hf2
  · show Int.toNat ((2*(g.2.length:Int):Int)-((h+1):Int))<Int.toNat ((2*(g.2.length:Int):Int)-(h:Int))
    omega
 refine af rfl (df p3) (aF rfl (a7 ?_))
 clear bx5
 refine a6 rfl (mz zs3 (ma v8 (a8 (aq (vs:=[v8]) Try.func44 (.tmp rfl .nil) ?_))))
 have e0:(O:gT)=(ab g):=by
   exact hov.done (by omega)
 exact⟨(fin w0 g13 (λn=>if n=2 then 1 else 0),v8),(congrArg (a₁:=O) (λ(z0:gT)=>Ending.returned (v8)) e0),bH.fresh _,(e0▸(o10.glue (γ:=c0) (ren:=(λn=>if n=2 then 1 else 0)) (k:=1) bH.col rfl rfl))⟩
end TL
