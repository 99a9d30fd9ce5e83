import Derived.Test.YtcblhagfadineaaJpTlP4
import Derived.Test.YtcblhagfadineaaJpTlGmA
import Derived.Test.YtcblhagfadineaaProg
import Derived.Test.YtcblhagfadineaaJpTlAli
set_option linter.all false
set_option maxRecDepth 20000
namespace TL
open Go Go.Proofs
theorem nW:Try.prog.follows .mixedOrders=true:=by kernel_rfl
theorem kZ:Tp Try.prog 25 false 1 24 (.slice none 0 0):=Tp.of (by kernel_rfl)
theorem qu:Try.f39.body.isNone=false:=rfl
theorem qW:(Try.f39.name== "runtime.NumGoroutine")=false:=by decide+kernel
set_option maxHeartbeats 8000000 in
theorem pW(w0:World)(i:Int)(k:Int)(ps:List Pt)(ps_v:Value)(hps_v:Ro w0 ps_v ps)(ps_b:Nat)(hps_b:Bx c0 (is 0) w0 ps_b [ps_v])(o:Pt)(o_b:Nat)(ho_b:Bx c0 (is 0) w0 o_b [vi o.1,vi o.2])(hi:0<=i/\i<ps.length)(hk:0<=k/\k<ps.length)(ho:cI o)(hps:dW ps):
    Calls Try.prog 35 #[vi i,vi k,vp ps_b 0,vp o_b 0] w0 (λee w=>ee= .returned (vi (zy o ps i k))/\dd w0.heap.size w0 w):=by
 refine av Try.func35 rfl nq ?_
 have bH:=aX.start w0
 have Rps:=hps_v.sl
 obtain⟨hi0,hi1⟩:=hi
 obtain⟨hk0,hk1⟩:=hk
 have hbi:=(hps.2 _ (aR hi0 hi1)).bd
 have hbk:=(hps.2 _ (aR hk0 hk1)).bd
 have hbo:=ho.bd
 have hwi:=kS hbo hbi
 have hwk:=kS hbo hbk
 obtain⟨hs1,hs2⟩:=xQ ho hps hi0 hi1
 obtain⟨hs3,hs4⟩:=xQ ho hps hk0 hk1
 unfold vA at hs1 hs2 hs3 hs4
 refine aa (a8 rfl (ai 0 (ab (aa ?_))))
 refine ez (σ:=Nat×Nat×aH) (λ⟨b11,b17,gq⟩ f w=>aX w0 gq w/\f 0=vi i/\f 1=vi k/\f 7=vp b11 0/\f 8=vp b17 0/\Sl gq (is 0) w ps_v ps/\Bx gq (is 0) w ps_b [ps_v]/\Bx gq (is 0) w o_b [vi o.1,vi o.2]/\Bx gq (is 1) w b11 [vi ((aG (gI ps i) o).1),vi ((aG (gI ps i) o).2)]/\Bx gq (is 2) w b17 [vi ((aG (gI ps k) o).1),vi ((aG (gI ps k) o).2)]) c0 (inl [1,2]) nW ?_ ?_
 ·
  intro mid
  intro w2 ch1
  replace hps_b:=hps_b.cn ch1
  refine ht 0 rfl (b5.refl _ _ _) (λw' hw'=>af kZ rfl (hps_b.chg hw' (bA rfl)) rfl) (ht (v:=vi i) 1 rfl (b5.refl _ _ _) (λw' hw'=>aD rfl) ?_)
  replace Rps:=Rps.cn ch1
  refine ht 2 rfl (b5.refl _ _ _) (λw' hw'=>al (v:=ps_v) (i:=i) cX rfl rfl (Rps.chg hw' (bA rfl)) rfl (by omega) (by omega)) (ht (v:=vg [vi ((gI ps i).1),vi ((gI ps i).2)]) 3 rfl (b5.refl _ _ _) (λw' hw'=>aJ (v:=ps_v) (i:=i) ah rfl (Rps.chg hw' (bA rfl)) (by omega) (by omega) rfl) ?_)
  replace ho_b:=ho_b.cn ch1
  refine ht 4 rfl (b5.refl _ _ _) (λw' hw'=>ak (ds:=[vi o.1,vi o.2]) ah rfl (ho_b.chg hw' (bA rfl)) rfl rfl) (ht 6 rfl (b5.refl _ _ _) (λw' hw'=>af kZ rfl (hps_b.chg hw' (bA rfl)) rfl) (ht (v:=vi k) 7 rfl (b5.refl _ _ _) (λw' hw'=>aD rfl) (ht 8 rfl (b5.refl _ _ _) (λw' hw'=>al (v:=ps_v) (i:=k) cX rfl rfl (Rps.chg hw' (bA rfl)) rfl (by omega) (by omega)) (ht (v:=vg [vi ((gI ps k).1),vi ((gI ps k).2)]) 9 rfl (b5.refl _ _ _) (λw' hw'=>aJ (v:=ps_v) (i:=k) ah rfl (Rps.chg hw' (bA rfl)) (by omega) (by omega) rfl) (ht 10 rfl (b5.refl _ _ _) (λw' hw'=>ak (ds:=[vi o.1,vi o.2]) ah rfl (ho_b.chg hw' (bA rfl)) rfl rfl) ?_)))))
  refine dz 5 [12,13] (by kernel_rfl) ⟨dr 5 rfl (by kernel_rfl) rfl ?_,dr 12 rfl (by kernel_rfl) rfl ?_,dr 13 rfl (by kernel_rfl) rfl ?_,trivial⟩
  ·
   refine aK (v:=vg [vi ((aG (gI ps i) o).1),vi ((aG (gI ps i) o).2)]) (aA (vals:=[vg [vi ((gI ps i).1),vi ((gI ps i).2)],vg [vi o.1,vi o.2]]) Try.func36 cQ cS rfl) (ci w2 (gI ps i) o ‹_› ‹_›) ?_
   intro w3 hb4
   replace hb4:=ar hb4 c0
   have hs5:b5 (inl [1,2]) _ _ _ _:=hb4.n
   refine⟨hs5.same,?_⟩
   refine dz 11 [12,13] (by kernel_rfl) ⟨dr 11 rfl (by kernel_rfl) rfl ?_,dr 12 rfl (by kernel_rfl) rfl ?_,dr 13 rfl (by kernel_rfl) rfl ?_,trivial⟩
   ·
    refine aK (v:=vg [vi ((aG (gI ps k) o).1),vi ((aG (gI ps k) o).2)]) (aA (vals:=[vg [vi ((gI ps k).1),vi ((gI ps k).2)],vg [vi o.1,vi o.2]]) Try.func36 cQ cS rfl) (ci w3 (gI ps k) o ‹_› ‹_›) ?_
    intro w6 hb7
    replace hb7:=ar hb7 c0
    have hs8:=hs5.seq (hb7.n)
    refine⟨hs8.same,?_⟩
    refine dz 12 [13] (by kernel_rfl) ⟨dr 12 rfl (by kernel_rfl) rfl ?_,dr 13 rfl (by kernel_rfl) rfl ?_,trivial⟩
    ·
     refine aY c0 (is 1) (1,0) rfl ah ?_
     intro g12 w9 b11 ch10 bx13
     replace bx13:Bx g12 (is 1) w9 b11 [vi 0,vi 0]:=bx13
     have hs14:=hs8.seq (ch10.n)
     refine⟨hs14.same,?_⟩
     refine aO 13 rfl (by kernel_rfl) rfl (aY g12 (is 2) (2,0) rfl ah ?_)
     intro g18 w15 b17 ch16 bx19
     replace bx19:Bx g18 (is 2) w15 b17 [vi 0,vi 0]:=bx19
     have hs20:=hs14.seq (ch16.n)
     refine⟨hs20.same,?_⟩
     refine aO 14 rfl (by kernel_rfl) rfl ?_
     replace bx13:=bx13.cn ch16
     refine aw (cs':=[vi ((aG (gI ps i) o).1),vi ((aG (gI ps i) o).2)]) ah rfl rfl bx13 rfl nq (AllOne.all (.cons rfl (.cons rfl .nil))) rfl ?_
     intro w21 ch22 bx23
     clear bx13
     have hs24:=hs20.seq (ch22.l rfl)
     refine⟨hs24.same,?_⟩
     refine aO 15 rfl (by kernel_rfl) rfl ?_
     replace bx19:=bx19.ce ch22
     refine aw (cs':=[vi ((aG (gI ps k) o).1),vi ((aG (gI ps k) o).2)]) ah rfl rfl bx19 rfl nq (AllOne.all (.cons rfl (.cons rfl .nil))) rfl ?_
     intro w25 ch26 bx27
     clear bx19
     have hs28:=hs24.seq (ch26.l rfl)
     refine⟨hs28.same,?_⟩
     refine cK (by kernel_rfl) ?_
     have C29:=cg [1,2] (ch1.n.seq (hb4.n.seq (hb7.n.seq (ch10.n.seq (ch16.n.seq ((ch22.l rfl).seq (ch26.l rfl)))))))
     exact mid (b11,b17,g18) _ _ ⟨bH.ca C29,rfl,rfl,rfl,rfl,(Rps.ca hs28),(hps_b.ca hs28),(ho_b.ca hs28),bx23.ce ch26,bx27⟩
    ·
     refine aY c0 (is 2) (2,0) rfl ah ?_
     intro g33 w30 b32 ch31 bx34
     replace bx34:Bx g33 (is 2) w30 b32 [vi 0,vi 0]:=bx34
     have hs35:=hs8.seq (ch31.n)
     refine⟨hs35.same,?_⟩
     refine aO 12 rfl (by kernel_rfl) rfl (aY g33 (is 1) (1,0) rfl ah ?_)
     intro g39 w36 b38 ch37 bx40
     replace bx40:Bx g39 (is 1) w36 b38 [vi 0,vi 0]:=bx40
     have hs41:=hs35.seq (ch37.n)
     refine⟨hs41.same,?_⟩
     refine aO 14 rfl (by kernel_rfl) rfl (aw (cs':=[vi ((aG (gI ps i) o).1),vi ((aG (gI ps i) o).2)]) ah rfl rfl bx40 rfl nq (AllOne.all (.cons rfl (.cons rfl .nil))) rfl ?_)
     intro w42 ch43 bx44
     clear bx40
     have hs45:=hs41.seq (ch43.l rfl)
     refine⟨hs45.same,?_⟩
     refine aO 15 rfl (by kernel_rfl) rfl ?_
     replace bx34:=(bx34.cn ch37).ce ch43
     refine aw (cs':=[vi ((aG (gI ps k) o).1),vi ((aG (gI ps k) o).2)]) ah rfl rfl bx34 rfl nq (AllOne.all (.cons rfl (.cons rfl .nil))) rfl ?_
     intro w46 ch47 bx48
     clear bx34
     have hs49:=hs45.seq (ch47.l rfl)
     refine⟨hs49.same,?_⟩
     refine cK (by kernel_rfl) ?_
     have C50:=cg [1,2] (ch1.n.seq (hb4.n.seq (hb7.n.seq (ch31.n.seq (ch37.n.seq ((ch43.l rfl).seq (ch47.l rfl)))))))
     exact mid (b38,b32,g39) _ _ ⟨bH.ca C50,rfl,rfl,rfl,rfl,(Rps.ca hs49),(hps_b.ca hs49),(ho_b.ca hs49),bx44.ce ch47,bx48⟩
   ·
    refine aY c0 (is 1) (1,0) rfl ah ?_
    intro g54 w51 b53 ch52 bx55
    replace bx55:Bx g54 (is 1) w51 b53 [vi 0,vi 0]:=bx55
    have hs56:=hs5.seq (ch52.n)
    refine⟨hs56.same,?_⟩
    refine dz 11 [13] (by kernel_rfl) ⟨dr 11 rfl (by kernel_rfl) rfl ?_,dr 13 rfl (by kernel_rfl) rfl ?_,trivial⟩
    ·
     refine aK (v:=vg [vi ((aG (gI ps k) o).1),vi ((aG (gI ps k) o).2)]) (aA (vals:=[vg [vi ((gI ps k).1),vi ((gI ps k).2)],vg [vi o.1,vi o.2]]) Try.func36 cQ cS rfl) (ci w51 (gI ps k) o ‹_› ‹_›) ?_
     intro w57 hb58
     replace hb58:=ar hb58 g54
     have hs59:=hs56.seq (hb58.n)
     refine⟨hs59.same,?_⟩
     refine aO 13 rfl (by kernel_rfl) rfl (aY g54 (is 2) (2,0) rfl ah ?_)
     intro g63 w60 b62 ch61 bx64
     replace bx64:Bx g63 (is 2) w60 b62 [vi 0,vi 0]:=bx64
     have hs65:=hs59.seq (ch61.n)
     refine⟨hs65.same,?_⟩
     refine aO 14 rfl (by kernel_rfl) rfl ?_
     replace bx55:=(bx55.cn hb58).cn ch61
     refine aw (cs':=[vi ((aG (gI ps i) o).1),vi ((aG (gI ps i) o).2)]) ah rfl rfl bx55 rfl nq (AllOne.all (.cons rfl (.cons rfl .nil))) rfl ?_
     intro w66 ch67 bx68
     clear bx55
     have hs69:=hs65.seq (ch67.l rfl)
     refine⟨hs69.same,?_⟩
     refine aO 15 rfl (by kernel_rfl) rfl ?_
     replace bx64:=bx64.ce ch67
     refine aw (cs':=[vi ((aG (gI ps k) o).1),vi ((aG (gI ps k) o).2)]) ah rfl rfl bx64 rfl nq (AllOne.all (.cons rfl (.cons rfl .nil))) rfl ?_
     intro w70 ch71 bx72
     clear bx64
     have hs73:=hs69.seq (ch71.l rfl)
     refine⟨hs73.same,?_⟩
     refine cK (by kernel_rfl) ?_
     have C74:=cg [1,2] (ch1.n.seq (hb4.n.seq (ch52.n.seq (hb58.n.seq (ch61.n.seq ((ch67.l rfl).seq (ch71.l rfl)))))))
     exact mid (b53,b62,g63) _ _ ⟨bH.ca C74,rfl,rfl,rfl,rfl,(Rps.ca hs73),(hps_b.ca hs73),(ho_b.ca hs73),bx68.ce ch71,bx72⟩
    ·
     refine aY g54 (is 2) (2,0) rfl ah ?_
     intro g78 w75 b77 ch76 bx79
     replace bx79:Bx g78 (is 2) w75 b77 [vi 0,vi 0]:=bx79
     have hs80:=hs56.seq (ch76.n)
     refine⟨hs80.same,?_⟩
     refine aO 11 rfl (by kernel_rfl) rfl (aK (v:=vg [vi ((aG (gI ps k) o).1),vi ((aG (gI ps k) o).2)]) (aA (vals:=[vg [vi ((gI ps k).1),vi ((gI ps k).2)],vg [vi o.1,vi o.2]]) Try.func36 cQ cS rfl) (ci w75 (gI ps k) o ‹_› ‹_›) ?_)
     intro w81 hb82
     replace hb82:=ar hb82 g78
     have hs83:=hs80.seq (hb82.n)
     refine⟨hs83.same,?_⟩
     refine aO 14 rfl (by kernel_rfl) rfl ?_
     replace bx55:=(bx55.cn ch76).cn hb82
     refine aw (cs':=[vi ((aG (gI ps i) o).1),vi ((aG (gI ps i) o).2)]) ah rfl rfl bx55 rfl nq (AllOne.all (.cons rfl (.cons rfl .nil))) rfl ?_
     intro w84 ch85 bx86
     clear bx55
     have hs87:=hs83.seq (ch85.l rfl)
     refine⟨hs87.same,?_⟩
     refine aO 15 rfl (by kernel_rfl) rfl ?_
     replace bx79:=(bx79.cn hb82).ce ch85
     refine aw (cs':=[vi ((aG (gI ps k) o).1),vi ((aG (gI ps k) o).2)]) ah rfl rfl bx79 rfl nq (AllOne.all (.cons rfl (.cons rfl .nil))) rfl ?_
     intro w88 ch89 bx90
     clear bx79
     have hs91:=hs87.seq (ch89.l rfl)
     refine⟨hs91.same,?_⟩
     refine cK (by kernel_rfl) ?_
     have C92:=cg [1,2] (ch1.n.seq (hb4.n.seq (ch52.n.seq (ch76.n.seq (hb82.n.seq ((ch85.l rfl).seq (ch89.l rfl)))))))
     exact mid (b53,b77,g78) _ _ ⟨bH.ca C92,rfl,rfl,rfl,rfl,(Rps.ca hs91),(hps_b.ca hs91),(ho_b.ca hs91),bx86.ce ch89,bx90⟩
   ·
    refine aY c0 (is 2) (2,0) rfl ah ?_
    intro g96 w93 b95 ch94 bx97
    replace bx97:Bx g96 (is 2) w93 b95 [vi 0,vi 0]:=bx97
    have hs98:=hs5.seq (ch94.n)
    refine⟨hs98.same,?_⟩
    refine dz 11 [12] (by kernel_rfl) ⟨dr 11 rfl (by kernel_rfl) rfl ?_,dr 12 rfl (by kernel_rfl) rfl ?_,trivial⟩
    ·
     refine aK (v:=vg [vi ((aG (gI ps k) o).1),vi ((aG (gI ps k) o).2)]) (aA (vals:=[vg [vi ((gI ps k).1),vi ((gI ps k).2)],vg [vi o.1,vi o.2]]) Try.func36 cQ cS rfl) (ci w93 (gI ps k) o ‹_› ‹_›) ?_
     intro w99 hb100
     replace hb100:=ar hb100 g96
     have hs101:=hs98.seq (hb100.n)
     refine⟨hs101.same,?_⟩
     refine aO 12 rfl (by kernel_rfl) rfl (aY g96 (is 1) (1,0) rfl ah ?_)
     intro g105 w102 b104 ch103 bx106
     replace bx106:Bx g105 (is 1) w102 b104 [vi 0,vi 0]:=bx106
     have hs107:=hs101.seq (ch103.n)
     refine⟨hs107.same,?_⟩
     refine aO 14 rfl (by kernel_rfl) rfl (aw (cs':=[vi ((aG (gI ps i) o).1),vi ((aG (gI ps i) o).2)]) ah rfl rfl bx106 rfl nq (AllOne.all (.cons rfl (.cons rfl .nil))) rfl ?_)
     intro w108 ch109 bx110
     clear bx106
     have hs111:=hs107.seq (ch109.l rfl)
     refine⟨hs111.same,?_⟩
     refine aO 15 rfl (by kernel_rfl) rfl ?_
     have C115:=cg [1] (hb100.n.seq (ch103.n.seq (ch109.l rfl)))
     replace bx97:=bx97.ca C115
     refine aw (cs':=[vi ((aG (gI ps k) o).1),vi ((aG (gI ps k) o).2)]) ah rfl rfl bx97 rfl nq (AllOne.all (.cons rfl (.cons rfl .nil))) rfl ?_
     intro w112 ch113 bx114
     clear bx97
     have hs116:=hs111.seq (ch113.l rfl)
     refine⟨hs116.same,?_⟩
     refine cK (by kernel_rfl) ?_
     have C117:=cg [1,2] (ch1.n.seq (hb4.n.seq (ch94.n.seq (hb100.n.seq (ch103.n.seq ((ch109.l rfl).seq (ch113.l rfl)))))))
     exact mid (b104,b95,g105) _ _ ⟨bH.ca C117,rfl,rfl,rfl,rfl,(Rps.ca hs116),(hps_b.ca hs116),(ho_b.ca hs116),bx110.ce ch113,bx114⟩
    ·
     refine aY g96 (is 1) (1,0) rfl ah ?_
     intro g121 w118 b120 ch119 bx122
     replace bx122:Bx g121 (is 1) w118 b120 [vi 0,vi 0]:=bx122
     have hs123:=hs98.seq (ch119.n)
     refine⟨hs123.same,?_⟩
     refine aO 11 rfl (by kernel_rfl) rfl (aK (v:=vg [vi ((aG (gI ps k) o).1),vi ((aG (gI ps k) o).2)]) (aA (vals:=[vg [vi ((gI ps k).1),vi ((gI ps k).2)],vg [vi o.1,vi o.2]]) Try.func36 cQ cS rfl) (ci w118 (gI ps k) o ‹_› ‹_›) ?_)
     intro w124 hb125
     replace hb125:=ar hb125 g121
     have hs126:=hs123.seq (hb125.n)
     refine⟨hs126.same,?_⟩
     refine aO 14 rfl (by kernel_rfl) rfl ?_
     replace bx122:=bx122.cn hb125
     refine aw (cs':=[vi ((aG (gI ps i) o).1),vi ((aG (gI ps i) o).2)]) ah rfl rfl bx122 rfl nq (AllOne.all (.cons rfl (.cons rfl .nil))) rfl ?_
     intro w127 ch128 bx129
     clear bx122
     have hs130:=hs126.seq (ch128.l rfl)
     refine⟨hs130.same,?_⟩
     refine aO 15 rfl (by kernel_rfl) rfl ?_
     have C134:=cg [1] (ch119.n.seq (hb125.n.seq (ch128.l rfl)))
     replace bx97:=bx97.ca C134
     refine aw (cs':=[vi ((aG (gI ps k) o).1),vi ((aG (gI ps k) o).2)]) ah rfl rfl bx97 rfl nq (AllOne.all (.cons rfl (.cons rfl .nil))) rfl ?_
     intro w131 ch132 bx133
     clear bx97
     have hs135:=hs130.seq (ch132.l rfl)
     refine⟨hs135.same,?_⟩
     refine cK (by kernel_rfl) ?_
     have C136:=cg [1,2] (ch1.n.seq (hb4.n.seq (ch94.n.seq (ch119.n.seq (hb125.n.seq ((ch128.l rfl).seq (ch132.l rfl)))))))
     exact mid (b120,b95,g121) _ _ ⟨bH.ca C136,rfl,rfl,rfl,rfl,(Rps.ca hs135),(hps_b.ca hs135),(ho_b.ca hs135),bx129.ce ch132,bx133⟩
  ·
   refine aY c0 (is 1) (1,0) rfl ah ?_
   intro g140 w137 b139 ch138 bx141
   replace bx141:Bx g140 (is 1) w137 b139 [vi 0,vi 0]:=bx141
   have hs142:b5 (inl [1,2]) _ _ _ _:=ch138.n
   refine⟨hs142.same,?_⟩
   refine dz 5 [13] (by kernel_rfl) ⟨dr 5 rfl (by kernel_rfl) rfl ?_,dr 13 rfl (by kernel_rfl) rfl ?_,trivial⟩
   ·
    refine aK (v:=vg [vi ((aG (gI ps i) o).1),vi ((aG (gI ps i) o).2)]) (aA (vals:=[vg [vi ((gI ps i).1),vi ((gI ps i).2)],vg [vi o.1,vi o.2]]) Try.func36 cQ cS rfl) (ci w137 (gI ps i) o ‹_› ‹_›) ?_
    intro w143 hb144
    replace hb144:=ar hb144 g140
    have hs145:=hs142.seq (hb144.n)
    refine⟨hs145.same,?_⟩
    refine dz 11 [13] (by kernel_rfl) ⟨dr 11 rfl (by kernel_rfl) rfl ?_,dr 13 rfl (by kernel_rfl) rfl ?_,trivial⟩
    ·
     refine aK (v:=vg [vi ((aG (gI ps k) o).1),vi ((aG (gI ps k) o).2)]) (aA (vals:=[vg [vi ((gI ps k).1),vi ((gI ps k).2)],vg [vi o.1,vi o.2]]) Try.func36 cQ cS rfl) (ci w143 (gI ps k) o ‹_› ‹_›) ?_
     intro w146 hb147
     replace hb147:=ar hb147 g140
     have hs148:=hs145.seq (hb147.n)
     refine⟨hs148.same,?_⟩
     refine aO 13 rfl (by kernel_rfl) rfl (aY g140 (is 2) (2,0) rfl ah ?_)
     intro g152 w149 b151 ch150 bx153
     replace bx153:Bx g152 (is 2) w149 b151 [vi 0,vi 0]:=bx153
     have hs154:=hs148.seq (ch150.n)
     refine⟨hs154.same,?_⟩
     refine aO 14 rfl (by kernel_rfl) rfl ?_
     have C158:=cg [] (hb144.n.seq (hb147.n.seq ch150.n))
     replace bx141:=bx141.ca C158
     refine aw (cs':=[vi ((aG (gI ps i) o).1),vi ((aG (gI ps i) o).2)]) ah rfl rfl bx141 rfl nq (AllOne.all (.cons rfl (.cons rfl .nil))) rfl ?_
     intro w155 ch156 bx157
     clear bx141
     have hs159:=hs154.seq (ch156.l rfl)
     refine⟨hs159.same,?_⟩
     refine aO 15 rfl (by kernel_rfl) rfl ?_
     replace bx153:=bx153.ce ch156
     refine aw (cs':=[vi ((aG (gI ps k) o).1),vi ((aG (gI ps k) o).2)]) ah rfl rfl bx153 rfl nq (AllOne.all (.cons rfl (.cons rfl .nil))) rfl ?_
     intro w160 ch161 bx162
     clear bx153
     have hs163:=hs159.seq (ch161.l rfl)
     refine⟨hs163.same,?_⟩
     refine cK (by kernel_rfl) ?_
     have C164:=cg [1,2] (ch1.n.seq (ch138.n.seq (hb144.n.seq (hb147.n.seq (ch150.n.seq ((ch156.l rfl).seq (ch161.l rfl)))))))
     exact mid (b139,b151,g152) _ _ ⟨bH.ca C164,rfl,rfl,rfl,rfl,(Rps.ca hs163),(hps_b.ca hs163),(ho_b.ca hs163),bx157.ce ch161,bx162⟩
    ·
     refine aY g140 (is 2) (2,0) rfl ah ?_
     intro g168 w165 b167 ch166 bx169
     replace bx169:Bx g168 (is 2) w165 b167 [vi 0,vi 0]:=bx169
     have hs170:=hs145.seq (ch166.n)
     refine⟨hs170.same,?_⟩
     refine aO 11 rfl (by kernel_rfl) rfl (aK (v:=vg [vi ((aG (gI ps k) o).1),vi ((aG (gI ps k) o).2)]) (aA (vals:=[vg [vi ((gI ps k).1),vi ((gI ps k).2)],vg [vi o.1,vi o.2]]) Try.func36 cQ cS rfl) (ci w165 (gI ps k) o ‹_› ‹_›) ?_)
     intro w171 hb172
     replace hb172:=ar hb172 g168
     have hs173:=hs170.seq (hb172.n)
     refine⟨hs173.same,?_⟩
     refine aO 14 rfl (by kernel_rfl) rfl ?_
     have C177:=cg [] (hb144.n.seq (ch166.n.seq hb172.n))
     replace bx141:=bx141.ca C177
     refine aw (cs':=[vi ((aG (gI ps i) o).1),vi ((aG (gI ps i) o).2)]) ah rfl rfl bx141 rfl nq (AllOne.all (.cons rfl (.cons rfl .nil))) rfl ?_
     intro w174 ch175 bx176
     clear bx141
     have hs178:=hs173.seq (ch175.l rfl)
     refine⟨hs178.same,?_⟩
     refine aO 15 rfl (by kernel_rfl) rfl ?_
     replace bx169:=(bx169.cn hb172).ce ch175
     refine aw (cs':=[vi ((aG (gI ps k) o).1),vi ((aG (gI ps k) o).2)]) ah rfl rfl bx169 rfl nq (AllOne.all (.cons rfl (.cons rfl .nil))) rfl ?_
     intro w179 ch180 bx181
     clear bx169
     have hs182:=hs178.seq (ch180.l rfl)
     refine⟨hs182.same,?_⟩
     refine cK (by kernel_rfl) ?_
     have C183:=cg [1,2] (ch1.n.seq (ch138.n.seq (hb144.n.seq (ch166.n.seq (hb172.n.seq ((ch175.l rfl).seq (ch180.l rfl)))))))
     exact mid (b139,b167,g168) _ _ ⟨bH.ca C183,rfl,rfl,rfl,rfl,(Rps.ca hs182),(hps_b.ca hs182),(ho_b.ca hs182),bx176.ce ch180,bx181⟩
   ·
    refine aY g140 (is 2) (2,0) rfl ah ?_
    intro g187 w184 b186 ch185 bx188
    replace bx188:Bx g187 (is 2) w184 b186 [vi 0,vi 0]:=bx188
    have hs189:=hs142.seq (ch185.n)
    refine⟨hs189.same,?_⟩
    refine aO 5 rfl (by kernel_rfl) rfl (aK (v:=vg [vi ((aG (gI ps i) o).1),vi ((aG (gI ps i) o).2)]) (aA (vals:=[vg [vi ((gI ps i).1),vi ((gI ps i).2)],vg [vi o.1,vi o.2]]) Try.func36 cQ cS rfl) (ci w184 (gI ps i) o ‹_› ‹_›) ?_)
    intro w190 hb191
    replace hb191:=ar hb191 g187
    have hs192:=hs189.seq (hb191.n)
    refine⟨hs192.same,?_⟩
    refine aO 11 rfl (by kernel_rfl) rfl (aK (v:=vg [vi ((aG (gI ps k) o).1),vi ((aG (gI ps k) o).2)]) (aA (vals:=[vg [vi ((gI ps k).1),vi ((gI ps k).2)],vg [vi o.1,vi o.2]]) Try.func36 cQ cS rfl) (ci w190 (gI ps k) o ‹_› ‹_›) ?_)
    intro w193 hb194
    replace hb194:=ar hb194 g187
    have hs195:=hs192.seq (hb194.n)
    refine⟨hs195.same,?_⟩
    refine aO 14 rfl (by kernel_rfl) rfl ?_
    have C199:=cg [] (ch185.n.seq (hb191.n.seq hb194.n))
    replace bx141:=bx141.ca C199
    refine aw (cs':=[vi ((aG (gI ps i) o).1),vi ((aG (gI ps i) o).2)]) ah rfl rfl bx141 rfl nq (AllOne.all (.cons rfl (.cons rfl .nil))) rfl ?_
    intro w196 ch197 bx198
    clear bx141
    have hs200:=hs195.seq (ch197.l rfl)
    refine⟨hs200.same,?_⟩
    refine aO 15 rfl (by kernel_rfl) rfl ?_
    have C204:=cg [1] (hb191.n.seq (hb194.n.seq (ch197.l rfl)))
    replace bx188:=bx188.ca C204
    refine aw (cs':=[vi ((aG (gI ps k) o).1),vi ((aG (gI ps k) o).2)]) ah rfl rfl bx188 rfl nq (AllOne.all (.cons rfl (.cons rfl .nil))) rfl ?_
    intro w201 ch202 bx203
    clear bx188
    have hs205:=hs200.seq (ch202.l rfl)
    refine⟨hs205.same,?_⟩
    refine cK (by kernel_rfl) ?_
    have C206:=cg [1,2] (ch1.n.seq (ch138.n.seq (ch185.n.seq (hb191.n.seq (hb194.n.seq ((ch197.l rfl).seq (ch202.l rfl)))))))
    exact mid (b139,b186,g187) _ _ ⟨bH.ca C206,rfl,rfl,rfl,rfl,(Rps.ca hs205),(hps_b.ca hs205),(ho_b.ca hs205),bx198.ce ch202,bx203⟩
  ·
   refine aY c0 (is 2) (2,0) rfl ah ?_
   intro g210 w207 b209 ch208 bx211
   replace bx211:Bx g210 (is 2) w207 b209 [vi 0,vi 0]:=bx211
   have hs212:b5 (inl [1,2]) _ _ _ _:=ch208.n
   refine⟨hs212.same,?_⟩
   refine dz 5 [12] (by kernel_rfl) ⟨dr 5 rfl (by kernel_rfl) rfl ?_,dr 12 rfl (by kernel_rfl) rfl ?_,trivial⟩
   ·
    refine aK (v:=vg [vi ((aG (gI ps i) o).1),vi ((aG (gI ps i) o).2)]) (aA (vals:=[vg [vi ((gI ps i).1),vi ((gI ps i).2)],vg [vi o.1,vi o.2]]) Try.func36 cQ cS rfl) (ci w207 (gI ps i) o ‹_› ‹_›) ?_
    intro w213 hb214
    replace hb214:=ar hb214 g210
    have hs215:=hs212.seq (hb214.n)
    refine⟨hs215.same,?_⟩
    refine dz 11 [12] (by kernel_rfl) ⟨dr 11 rfl (by kernel_rfl) rfl ?_,dr 12 rfl (by kernel_rfl) rfl ?_,trivial⟩
    ·
     refine aK (v:=vg [vi ((aG (gI ps k) o).1),vi ((aG (gI ps k) o).2)]) (aA (vals:=[vg [vi ((gI ps k).1),vi ((gI ps k).2)],vg [vi o.1,vi o.2]]) Try.func36 cQ cS rfl) (ci w213 (gI ps k) o ‹_› ‹_›) ?_
     intro w216 hb217
     replace hb217:=ar hb217 g210
     have hs218:=hs215.seq (hb217.n)
     refine⟨hs218.same,?_⟩
     refine aO 12 rfl (by kernel_rfl) rfl (aY g210 (is 1) (1,0) rfl ah ?_)
     intro g222 w219 b221 ch220 bx223
     replace bx223:Bx g222 (is 1) w219 b221 [vi 0,vi 0]:=bx223
     have hs224:=hs218.seq (ch220.n)
     refine⟨hs224.same,?_⟩
     refine aO 14 rfl (by kernel_rfl) rfl (aw (cs':=[vi ((aG (gI ps i) o).1),vi ((aG (gI ps i) o).2)]) ah rfl rfl bx223 rfl nq (AllOne.all (.cons rfl (.cons rfl .nil))) rfl ?_)
     intro w225 ch226 bx227
     clear bx223
     have hs228:=hs224.seq (ch226.l rfl)
     refine⟨hs228.same,?_⟩
     refine aO 15 rfl (by kernel_rfl) rfl ?_
     have C232:=cg [1] (hb214.n.seq (hb217.n.seq (ch220.n.seq (ch226.l rfl))))
     replace bx211:=bx211.ca C232
     refine aw (cs':=[vi ((aG (gI ps k) o).1),vi ((aG (gI ps k) o).2)]) ah rfl rfl bx211 rfl nq (AllOne.all (.cons rfl (.cons rfl .nil))) rfl ?_
     intro w229 ch230 bx231
     clear bx211
     have hs233:=hs228.seq (ch230.l rfl)
     refine⟨hs233.same,?_⟩
     refine cK (by kernel_rfl) ?_
     have C234:=cg [1,2] (ch1.n.seq (ch208.n.seq (hb214.n.seq (hb217.n.seq (ch220.n.seq ((ch226.l rfl).seq (ch230.l rfl)))))))
     exact mid (b221,b209,g222) _ _ ⟨bH.ca C234,rfl,rfl,rfl,rfl,(Rps.ca hs233),(hps_b.ca hs233),(ho_b.ca hs233),bx227.ce ch230,bx231⟩
    ·
     refine aY g210 (is 1) (1,0) rfl ah ?_
     intro g238 w235 b237 ch236 bx239
     replace bx239:Bx g238 (is 1) w235 b237 [vi 0,vi 0]:=bx239
     have hs240:=hs215.seq (ch236.n)
     refine⟨hs240.same,?_⟩
     refine aO 11 rfl (by kernel_rfl) rfl (aK (v:=vg [vi ((aG (gI ps k) o).1),vi ((aG (gI ps k) o).2)]) (aA (vals:=[vg [vi ((gI ps k).1),vi ((gI ps k).2)],vg [vi o.1,vi o.2]]) Try.func36 cQ cS rfl) (ci w235 (gI ps k) o ‹_› ‹_›) ?_)
     intro w241 hb242
     replace hb242:=ar hb242 g238
     have hs243:=hs240.seq (hb242.n)
     refine⟨hs243.same,?_⟩
     refine aO 14 rfl (by kernel_rfl) rfl ?_
     replace bx239:=bx239.cn hb242
     refine aw (cs':=[vi ((aG (gI ps i) o).1),vi ((aG (gI ps i) o).2)]) ah rfl rfl bx239 rfl nq (AllOne.all (.cons rfl (.cons rfl .nil))) rfl ?_
     intro w244 ch245 bx246
     clear bx239
     have hs247:=hs243.seq (ch245.l rfl)
     refine⟨hs247.same,?_⟩
     refine aO 15 rfl (by kernel_rfl) rfl ?_
     have C251:=cg [1] (hb214.n.seq (ch236.n.seq (hb242.n.seq (ch245.l rfl))))
     replace bx211:=bx211.ca C251
     refine aw (cs':=[vi ((aG (gI ps k) o).1),vi ((aG (gI ps k) o).2)]) ah rfl rfl bx211 rfl nq (AllOne.all (.cons rfl (.cons rfl .nil))) rfl ?_
     intro w248 ch249 bx250
     clear bx211
     have hs252:=hs247.seq (ch249.l rfl)
     refine⟨hs252.same,?_⟩
     refine cK (by kernel_rfl) ?_
     have C253:=cg [1,2] (ch1.n.seq (ch208.n.seq (hb214.n.seq (ch236.n.seq (hb242.n.seq ((ch245.l rfl).seq (ch249.l rfl)))))))
     exact mid (b237,b209,g238) _ _ ⟨bH.ca C253,rfl,rfl,rfl,rfl,(Rps.ca hs252),(hps_b.ca hs252),(ho_b.ca hs252),bx246.ce ch249,bx250⟩
   ·
    refine aY g210 (is 1) (1,0) rfl ah ?_
    intro g257 w254 b256 ch255 bx258
    replace bx258:Bx g257 (is 1) w254 b256 [vi 0,vi 0]:=bx258
    have hs259:=hs212.seq (ch255.n)
    refine⟨hs259.same,?_⟩
    refine aO 5 rfl (by kernel_rfl) rfl (aK (v:=vg [vi ((aG (gI ps i) o).1),vi ((aG (gI ps i) o).2)]) (aA (vals:=[vg [vi ((gI ps i).1),vi ((gI ps i).2)],vg [vi o.1,vi o.2]]) Try.func36 cQ cS rfl) (ci w254 (gI ps i) o ‹_› ‹_›) ?_)
    intro w260 hb261
    replace hb261:=ar hb261 g257
    have hs262:=hs259.seq (hb261.n)
    refine⟨hs262.same,?_⟩
    refine aO 11 rfl (by kernel_rfl) rfl (aK (v:=vg [vi ((aG (gI ps k) o).1),vi ((aG (gI ps k) o).2)]) (aA (vals:=[vg [vi ((gI ps k).1),vi ((gI ps k).2)],vg [vi o.1,vi o.2]]) Try.func36 cQ cS rfl) (ci w260 (gI ps k) o ‹_› ‹_›) ?_)
    intro w263 hb264
    replace hb264:=ar hb264 g257
    have hs265:=hs262.seq (hb264.n)
    refine⟨hs265.same,?_⟩
    refine aO 14 rfl (by kernel_rfl) rfl ?_
    replace bx258:=(bx258.cn hb261).cn hb264
    refine aw (cs':=[vi ((aG (gI ps i) o).1),vi ((aG (gI ps i) o).2)]) ah rfl rfl bx258 rfl nq (AllOne.all (.cons rfl (.cons rfl .nil))) rfl ?_
    intro w266 ch267 bx268
    clear bx258
    have hs269:=hs265.seq (ch267.l rfl)
    refine⟨hs269.same,?_⟩
    refine aO 15 rfl (by kernel_rfl) rfl ?_
    have C273:=cg [1] (ch255.n.seq (hb261.n.seq (hb264.n.seq (ch267.l rfl))))
    replace bx211:=bx211.ca C273
    refine aw (cs':=[vi ((aG (gI ps k) o).1),vi ((aG (gI ps k) o).2)]) ah rfl rfl bx211 rfl nq (AllOne.all (.cons rfl (.cons rfl .nil))) rfl ?_
    intro w270 ch271 bx272
    clear bx211
    have hs274:=hs269.seq (ch271.l rfl)
    refine⟨hs274.same,?_⟩
    refine cK (by kernel_rfl) ?_
    have C275:=cg [1,2] (ch1.n.seq (ch208.n.seq (ch255.n.seq (hb261.n.seq (hb264.n.seq ((ch267.l rfl).seq (ch271.l rfl)))))))
    exact mid (b256,b209,g257) _ _ ⟨bH.ca C275,rfl,rfl,rfl,rfl,(Rps.ca hs274),(hps_b.ca hs274),(ho_b.ca hs274),bx268.ce ch271,bx272⟩
 clear Rps hps_b ho_b bH
 rintro⟨b11,b17,g278⟩ f276 w277 ⟨bH,zs0,zs1,zs7,zs8,Rps,hps_b,ho_b,bx23,bx27⟩
 refine aa (dQ g278 (inl []) nW ?_)
 intro w280 ch279
 replace bx23:=bx23.cn ch279
 refine ht 0 rfl (b5.refl _ _ _) (λw' hw'=>ak (ds:=[vi ((aG (gI ps i) o).1),vi ((aG (gI ps i) o).2)]) ah zs7 (bx23.chg hw' (bA rfl)) rfl rfl) ?_
 replace bx27:=bx27.cn ch279
 refine ht 2 rfl (b5.refl _ _ _) (λw' hw'=>ak (ds:=[vi ((aG (gI ps k) o).1),vi ((aG (gI ps k) o).2)]) ah zs8 (bx27.chg hw' (bA rfl)) rfl rfl) (ht 5 rfl (b5.refl _ _ _) (λw' hw'=>ak (ds:=[vi ((aG (gI ps i) o).1),vi ((aG (gI ps i) o).2)]) ah zs7 (bx23.chg hw' (bA rfl)) rfl rfl) (ht 6 rfl (b5.refl _ _ _) (λw' hw'=>ak (ds:=[vi ((aG (gI ps k) o).1),vi ((aG (gI ps k) o).2)]) ah zs8 (bx27.chg hw' (bA rfl)) rfl rfl) (ht 9 rfl (b5.refl _ _ _) (λw' hw'=>ad dw rfl rfl zs7 rfl) (ht 10 rfl (b5.refl _ _ _) (λw' hw'=>af ba rfl (bx23.chg hw' (bA rfl)) rfl) (ht 11 rfl (b5.refl _ _ _) (λw' hw'=>ad dw rfl rfl zs7 rfl) ?_)))))
 refine ht 12 rfl (b5.refl _ _ _) (λw' hw'=>af ba rfl (bx23.chg hw' (bA rfl)) rfl) (ht 13 rfl (b5.refl _ _ _) (λw' hw'=>eK (m:=(aG (gI ps i) o).1) (n:=(aG (gI ps i) o).1) rfl rfl (by(simp only[pB];omega))) (ht 14 rfl (b5.refl _ _ _) (λw' hw'=>ad dw rfl rfl zs7 rfl) (ht 15 rfl (b5.refl _ _ _) (λw' hw'=>af ba rfl (bx23.chg hw' (bA rfl)) rfl) (ht 16 rfl (b5.refl _ _ _) (λw' hw'=>ad dw rfl rfl zs7 rfl) (ht 17 rfl (b5.refl _ _ _) (λw' hw'=>af ba rfl (bx23.chg hw' (bA rfl)) rfl) (ht 18 rfl (b5.refl _ _ _) (λw' hw'=>eK (m:=(aG (gI ps i) o).2) (n:=(aG (gI ps i) o).2) rfl rfl (by(simp only[pB];omega))) ?_))))))
 refine ht 19 rfl (b5.refl _ _ _) (λw' hw'=>aP (m:=((aG (gI ps i) o).1)*((aG (gI ps i) o).1)) (n:=((aG (gI ps i) o).2)*((aG (gI ps i) o).2)) rfl rfl (by(simp only[pB];omega))) (ht 20 rfl (b5.refl _ _ _) (λw' hw'=>ad dw rfl rfl zs8 rfl) (ht 21 rfl (b5.refl _ _ _) (λw' hw'=>af ba rfl (bx27.chg hw' (bA rfl)) rfl) (ht 22 rfl (b5.refl _ _ _) (λw' hw'=>ad dw rfl rfl zs8 rfl) (ht 23 rfl (b5.refl _ _ _) (λw' hw'=>af ba rfl (bx27.chg hw' (bA rfl)) rfl) (ht 24 rfl (b5.refl _ _ _) (λw' hw'=>eK (m:=(aG (gI ps k) o).1) (n:=(aG (gI ps k) o).1) rfl rfl (by(simp only[pB];omega))) (ht 25 rfl (b5.refl _ _ _) (λw' hw'=>ad dw rfl rfl zs8 rfl) ?_))))))
 refine ht 26 rfl (b5.refl _ _ _) (λw' hw'=>af ba rfl (bx27.chg hw' (bA rfl)) rfl) (ht 27 rfl (b5.refl _ _ _) (λw' hw'=>ad dw rfl rfl zs8 rfl) (ht 28 rfl (b5.refl _ _ _) (λw' hw'=>af ba rfl (bx27.chg hw' (bA rfl)) rfl) (ht 29 rfl (b5.refl _ _ _) (λw' hw'=>eK (m:=(aG (gI ps k) o).2) (n:=(aG (gI ps k) o).2) rfl rfl (by(simp only[pB];omega))) (ht 30 rfl (b5.refl _ _ _) (λw' hw'=>aP (m:=((aG (gI ps k) o).1)*((aG (gI ps k) o).1)) (n:=((aG (gI ps k) o).2)*((aG (gI ps k) o).2)) rfl rfl (by(simp only[pB];omega))) (ht (v:=vi i) 32 rfl (b5.refl _ _ _) (λw' hw'=>aD zs0) (ht (v:=vi k) 33 rfl (b5.refl _ _ _) (λw' hw'=>aD zs1) (aO 1 rfl (by kernel_rfl) rfl ?_)))))))
 refine aK (v:=vi (bv (aG (gI ps i) o))) (aA (vals:=[vg [vi ((aG (gI ps i) o).1),vi ((aG (gI ps i) o).2)]]) Try.func39 qu qW rfl) (qV w280 (aG (gI ps i) o)) ?_
 intro w281 hb282
 replace hb282:=ar hb282 g278
 have hs283:b5 (inl []) _ _ _ _:=hb282.n
 refine⟨hs283.same,?_⟩
 refine aO 3 rfl (by kernel_rfl) rfl (aK (v:=vi (bv (aG (gI ps k) o))) (aA (vals:=[vg [vi ((aG (gI ps k) o).1),vi ((aG (gI ps k) o).2)]]) Try.func39 qu qW rfl) (qV w281 (aG (gI ps k) o)) ?_)
 intro w284 hb285
 replace hb285:=ar hb285 g278
 have hs286:=hs283.seq (hb285.n)
 refine⟨hs286.same,?_⟩
 refine aO 4 rfl (by kernel_rfl) rfl (aK (v:=vi (bw (bv (aG (gI ps i) o)) (bv (aG (gI ps k) o)))) (aA (vals:=[vi (bv (aG (gI ps i) o)),vi (bv (aG (gI ps k) o))]) Try.func38 gG gH rfl) (eu w284 (bv (aG (gI ps i) o)) (bv (aG (gI ps k) o))) ?_)
 intro w287 hb288
 replace hb288:=ar hb288 g278
 have hs289:=hs286.seq (hb288.n)
 refine⟨hs289.same,?_⟩
 refine aO 7 rfl (by kernel_rfl) rfl (aK (v:=vi (co (aG (gI ps i) o) (aG (gI ps k) o))) (aA (vals:=[vg [vi ((aG (gI ps i) o).1),vi ((aG (gI ps i) o).2)],vg [vi ((aG (gI ps k) o).1),vi ((aG (gI ps k) o).2)]]) Try.func40 rr rc rfl) (oO w287 (aG (gI ps i) o) (aG (gI ps k) o) ‹_› ‹_›) ?_)
 intro w290 hb291
 replace hb291:=ar hb291 g278
 have hs292:=hs289.seq (hb291.n)
 refine⟨hs292.same,?_⟩
 refine aO 8 rfl (by kernel_rfl) rfl (aK (v:=vi (bw (co (aG (gI ps i) o) (aG (gI ps k) o)) 0)) (aA (vals:=[vi (co (aG (gI ps i) o) (aG (gI ps k) o)),vi 0]) Try.func38 gG gH rfl) (eu w290 (co (aG (gI ps i) o) (aG (gI ps k) o)) 0) ?_)
 intro w293 hb294
 replace hb294:=ar hb294 g278
 have hs295:=hs292.seq (hb294.n)
 refine⟨hs295.same,?_⟩
 refine aO 31 rfl (by kernel_rfl) rfl (aK (v:=vi (bw ((((aG (gI ps i) o).1)*((aG (gI ps i) o).1))+(((aG (gI ps i) o).2)*((aG (gI ps i) o).2))) ((((aG (gI ps k) o).1)*((aG (gI ps k) o).1))+(((aG (gI ps k) o).2)*((aG (gI ps k) o).2))))) (aA (vals:=[vi ((((aG (gI ps i) o).1)*((aG (gI ps i) o).1))+(((aG (gI ps i) o).2)*((aG (gI ps i) o).2))),vi ((((aG (gI ps k) o).1)*((aG (gI ps k) o).1))+(((aG (gI ps k) o).2)*((aG (gI ps k) o).2)))]) Try.func38 gG gH rfl) (eu w293 ((((aG (gI ps i) o).1)*((aG (gI ps i) o).1))+(((aG (gI ps i) o).2)*((aG (gI ps i) o).2))) ((((aG (gI ps k) o).1)*((aG (gI ps k) o).1))+(((aG (gI ps k) o).2)*((aG (gI ps k) o).2)))) ?_)
 intro w296 hb297
 replace hb297:=ar hb297 g278
 have hs298:=hs295.seq (hb297.n)
 refine⟨hs298.same,?_⟩
 refine aO 34 rfl (by kernel_rfl) rfl (aK (v:=vi (bw i k)) (aA (vals:=[vi i,vi k]) Try.func38 gG gH rfl) (eu w296 i k) ?_)
 intro w299 hb300
 replace hb300:=ar hb300 g278
 have hs301:=hs298.seq (hb300.n)
 refine⟨hs301.same,?_⟩
 refine aO 35 rfl (by kernel_rfl) rfl ?_
 refine aF (α:=Int) g278 (is 3) (is 3) (3,0) rfl ([bw (bv (aG (gI ps i) o)) (bv (aG (gI ps k) o)),bw (co (aG (gI ps i) o) (aG (gI ps k) o)) 0,bw ((((aG (gI ps i) o).1)*((aG (gI ps i) o).1))+(((aG (gI ps i) o).2)*((aG (gI ps i) o).2))) ((((aG (gI ps k) o).1)*((aG (gI ps k) o).1))+(((aG (gI ps k) o).2)*((aG (gI ps k) o).2))),bw i k]:List Int) dl ba (by decide) (by decide) (vs:=[(0,vi (bw (bv (aG (gI ps i) o)) (bv (aG (gI ps k) o)))),(1,vi (bw (co (aG (gI ps i) o) (aG (gI ps k) o)) 0)),(2,vi (bw ((((aG (gI ps i) o).1)*((aG (gI ps i) o).1))+(((aG (gI ps i) o).2)*((aG (gI ps i) o).2))) ((((aG (gI ps k) o).1)*((aG (gI ps k) o).1))+(((aG (gI ps k) o).2)*((aG (gI ps k) o).2))))),(3,vi (bw i k))]) rfl rfl (.cons rfl (.cons rfl (.cons rfl (.cons rfl .nil)))) ?_
 intro g302 w303 v304 ch305 o306
 have hs307:=hs301.seq (ch305.n)
 refine⟨hs307.same,?_⟩
 refine aO 36 rfl (by kernel_rfl) rfl (aK (v:=vi (li ([bw (bv (aG (gI ps i) o)) (bv (aG (gI ps k) o)),bw (co (aG (gI ps i) o) (aG (gI ps k) o)) 0,bw ((((aG (gI ps i) o).1)*((aG (gI ps i) o).1))+(((aG (gI ps i) o).2)*((aG (gI ps i) o).2))) ((((aG (gI ps k) o).1)*((aG (gI ps k) o).1))+(((aG (gI ps k) o).2)*((aG (gI ps k) o).2))),bw i k]:List Int))) (aA (vals:=[v304]) Try.func37 qr qo rfl) (xZ w303 ([bw (bv (aG (gI ps i) o)) (bv (aG (gI ps k) o)),bw (co (aG (gI ps i) o) (aG (gI ps k) o)) 0,bw ((((aG (gI ps i) o).1)*((aG (gI ps i) o).1))+(((aG (gI ps i) o).2)*((aG (gI ps i) o).2))) ((((aG (gI ps k) o).1)*((aG (gI ps k) o).1))+(((aG (gI ps k) o).2)*((aG (gI ps k) o).2))),bw i k]:List Int) v304 (o306.flat).ro) ?_)
 intro w308 hb309
 replace hb309:=ar hb309 g302
 have hs310:=hs307.seq (hb309.n)
 refine⟨hs310.same,?_⟩
 refine ht (v:=vi (li ([bw (bv (aG (gI ps i) o)) (bv (aG (gI ps k) o)),bw (co (aG (gI ps i) o) (aG (gI ps k) o)) 0,bw ((((aG (gI ps i) o).1)*((aG (gI ps i) o).1))+(((aG (gI ps i) o).2)*((aG (gI ps i) o).2))) ((((aG (gI ps k) o).1)*((aG (gI ps k) o).1))+(((aG (gI ps k) o).2)*((aG (gI ps k) o).2))),bw i k]:List Int))) 37 rfl hs310.same (λw' hw'=>bS rfl) (cK (by kernel_rfl) (au (vs:=[vi (li ([bw (bv (aG (gI ps i) o)) (bv (aG (gI ps k) o)),bw (co (aG (gI ps i) o) (aG (gI ps k) o)) 0,bw ((((aG (gI ps i) o).1)*((aG (gI ps i) o).1))+(((aG (gI ps i) o).2)*((aG (gI ps i) o).2))) ((((aG (gI ps k) o).1)*((aG (gI ps k) o).1))+(((aG (gI ps k) o).2)*((aG (gI ps k) o).2))),bw i k]:List Int))]) Try.func35 (.tmp rfl .nil) ?_))
 have e0:(li ([bw (bv (aG (gI ps i) o)) (bv (aG (gI ps k) o)),bw (co (aG (gI ps i) o) (aG (gI ps k) o)) 0,bw ((((aG (gI ps i) o).1)*((aG (gI ps i) o).1))+(((aG (gI ps i) o).2)*((aG (gI ps i) o).2))) ((((aG (gI ps k) o).1)*((aG (gI ps k) o).1))+(((aG (gI ps k) o).2)*((aG (gI ps k) o).2))),bw i k]:List Int):Int)=(zy o ps i k):=by
   rfl
 have C311:=cg [] (ch279.n.seq (hb282.n.seq (hb285.n.seq (hb288.n.seq (hb291.n.seq (hb294.n.seq (hb297.n.seq (hb300.n.seq (ch305.n.seq hb309.n)))))))))
 replace bH:=bH.ca C311
 exact⟨(congrArg (a₁:=li ([bw (bv (aG (gI ps i) o)) (bv (aG (gI ps k) o)),bw (co (aG (gI ps i) o) (aG (gI ps k) o)) 0,bw ((((aG (gI ps i) o).1)*((aG (gI ps i) o).1))+(((aG (gI ps i) o).2)*((aG (gI ps i) o).2))) ((((aG (gI ps k) o).1)*((aG (gI ps k) o).1))+(((aG (gI ps k) o).2)*((aG (gI ps k) o).2))),bw i k]:List Int)) (λ(z0:Int)=>Ending.returned (vi z0)) e0),bH.below⟩
end TL
