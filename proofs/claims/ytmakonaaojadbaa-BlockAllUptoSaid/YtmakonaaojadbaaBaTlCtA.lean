import Derived.Test.YtmakonaaojadbaaBaTlP4
import Derived.Test.YtmakonaaojadbaaBaTlGmA
import Derived.Test.YtmakonaaojadbaaBaTlGenA
import Derived.Test.YtmakonaaojadbaaBaTlGenD
import Derived.Test.YtmakonaaojadbaaBaTlErC
import Derived.Test.YtmakonaaojadbaaBaTlErD
import Derived.Test.YtmakonaaojadbaaBaTlCtE
import Derived.Test.YtmakonaaojadbaaBaTlCtG
import Derived.Test.YtmakonaaojadbaaProg
import Derived.Test.YtmakonaaojadbaaBaTlAli
set_option linter.all false
set_option maxRecDepth 20000
namespace TL
open Go Go.Proofs
theorem eX:Try.prog.follows .mixedOrders=true:=by kernel_rfl
theorem um:Try.f8.body.isNone=false:=rfl
theorem tZ:(Try.f8.name== "runtime.NumGoroutine")=false:=by decide+kernel
theorem ud:Try.f9.body.isNone=false:=rfl
theorem uj:(Try.f9.name== "runtime.NumGoroutine")=false:=by decide+kernel
theorem tz:Try.f10.body.isNone=false:=rfl
theorem sU:(Try.f10.name== "runtime.NumGoroutine")=false:=by decide+kernel
theorem tk:Try.f15.body.isNone=false:=rfl
theorem sN:(Try.f15.name== "runtime.NumGoroutine")=false:=by decide+kernel
theorem sW:Try.f18.body.isNone=false:=rfl
theorem sA:(Try.f18.name== "runtime.NumGoroutine")=false:=by decide+kernel
theorem tg:Try.f20.body.isNone=false:=rfl
theorem sa:(Try.f20.name== "runtime.NumGoroutine")=false:=by decide+kernel
theorem sX:Try.f22.body.isNone=false:=rfl
theorem tt:(Try.f22.name== "runtime.NumGoroutine")=false:=by decide+kernel
theorem tm:Try.f23.body.isNone=false:=rfl
theorem sr:(Try.f23.name== "runtime.NumGoroutine")=false:=by decide+kernel
theorem s5:Try.f24.body.isNone=false:=rfl
theorem tn:(Try.f24.name== "runtime.NumGoroutine")=false:=by decide+kernel
theorem sE:Try.f25.body.isNone=false:=rfl
theorem sL:(Try.f25.name== "runtime.NumGoroutine")=false:=by decide+kernel
theorem jc:Try.f46.body.isNone=false:=rfl
theorem j5:(Try.f46.name== "runtime.NumGoroutine")=false:=by decide+kernel
set_option maxHeartbeats 16000000 in
theorem mE(w0:World)(g:(Int)×(List Pt))(g_v:Value)(hg_v:Ro w0 g_v g.2)(hb:(g.2.length:Int)<=1048576):
    Calls Try.prog 3 #[vg [vi g.1,g_v]] w0 (λee w=>ee= .returned (vb true)/\dT w0.heap.size w0 w):=by
 refine aC Try.func3 rfl nq ?_
 have bH:=bv.start w0
 have Rg:=hg_v.sl
 refine ab (a8 rfl (db rfl (d4 c0 (is 1) (1,0) rfl rfl ?_)))
 intro g4 w1 b3 ch2 bx5
 replace bx5:Bx g4 (is 1) w1 b3 [vi g.1,g_v]:=bx5
 refine ma (vb false) (ag (ab (ab (a8 rfl (db rfl (cC (v:=vb true) (b9 (vals:=[]) Try.func8 um tZ rfl) (pT w1) ?_))))))
 intro w6 hb7
 replace hb7:=aS hb7 g4
 refine lx (ek (b:=true) rfl) (ag (aj rfl rfl (av (ab (ab (a8 rfl ?_))))))
 replace bx5:=bx5.cn hb7
 refine lx (aB (ds:=[vi g.1,g_v]) cR rfl bx5 rfl rfl) ?_
 replace Rg:=(Rg.cn ch2).cn hb7
 refine lo (cC (v:=vb (decide (¬bg g\/(g.1<=40/\g.2.length<=60)))) (b9 (vals:=[vg [vi g.1,g_v]]) Try.func9 ud uj rfl) (ql w6 g g_v (Rg).ro) ?_)
 intro w8 hb9
 replace hb9:=aS hb9 g4
 refine lx (ek (b:=(decide (¬bg g\/(g.1<=40/\g.2.length<=60)))) rfl) (ag ?_)
 by_cases p3:(decide (¬bg g\/(g.1<=40/\g.2.length<=60)))=true
 ·
  refine aj rfl (congrArg Bool.not p3) (av (ab (a8 rfl ?_)))
  replace bx5:=bx5.cn hb9
  refine lx (aB (ds:=[vi g.1,g_v]) cR rfl bx5 rfl rfl) ?_
  replace Rg:=Rg.cn hb9
  refine lo (ck (b9 (vals:=[vg [vi g.1,g_v]]) Try.func10 tz sU rfl) (tf w8 g g_v (Rg).ro (by omega)) ?_)
  rintro⟨d11,v13⟩ w10 ⟨fr12,o14⟩
  obtain⟨g15,ch16,G15⟩:=jh g4 fr12 (λn=>if n=1 then 2 else 0)
  replace o14:=o14.gl G15 2
  have r17:=sQ o14.flat
  refine lo (bI g15 (is 3) (3,0) rfl cR ?_)
  intro g21 w18 b20 ch19 bx22
  replace bx22:Bx g21 (is 3) w18 b20 [vi 0,vn]:=bx22
  refine lo ?_
  replace r17:=r17.cn ch19
  refine aI (cs':=[vi g.1,v13]) cR rfl rfl bx22 rfl nq (AllOne.all (.cons rfl (.cons (bQ r17) .nil))) rfl ?_
  intro w23 ch24 bx25
  clear bx22
  refine ag (ab (a8 rfl (lw (vg [vn,vi 0]) (bE (vs:=[]) rfl (by kernel_rfl)) (lo (d4 g21 (is 4) (4,0) rfl rfl ?_)))))
  intro g29 w26 b28 ch27 bx30
  replace bx30:Bx g29 (is 4) w26 b28 [vn,vi 0]:=bx30
  refine ma (vp b28 0) (ag (ab (ab (a8 rfl (ai 0 (ag (ar ?_)))))))
  refine bc (σ:=Value×gC×Int×Nat×aJ) (λ⟨b_0_v,b_0,b_1,turn,gq⟩ f w=>bv w0 gq w/\f 1=vp b3 0/\f 3=vp b20 0/\f 4=vp b28 0/\f 5=vi ↑turn/\Sl gq (is 0) w g_v g.2/\Bx gq (is 1) w b3 [vi g.1,g_v]/\Ow gq (is 2) (is 2) w (io v13) (g.2++[((-7:Int),(7:Int))])/\Sl gq (is 2) w v13 g.2/\Bx gq (is 3) w b20 [vi g.1,v13]/\Bx gq (is 4) w b28 [b_0_v,vi b_1]/\cP gq 19 w b_0_v b_0/\(turn:Int)<=(2:Int)/\(eG b_0 b_1)) (λ⟨b_0_v,b_0,b_1,turn,gq⟩=>Int.toNat ((2:Int)-(turn:Int))) (vn,[],0,0,g29) ?_ ?_
  have C33:=cg [3] (ch19.n.seq ((ch24.l rfl).seq ch27.n))
  have C32:=ch16.n.seq C33
  have C31:=ch2.n.seq (hb7.n.seq (hb9.n.seq C32))
  · exact⟨bH.ca C31,rfl,rfl,rfl,rfl,Rg.ca C32,bx5.ca C32,o14.ca C33,(r17.ce ch24).cn ch27,bx25.cn ch27,bx30,cP.nil,by omega,by exact eG.nil⟩
  clear Rg bx5 o14 r17 bx25 bx30 bH
  rintro⟨b_0_v,b_0,b_1,turn,g36⟩ f34 w35 ⟨bH,zs1,zs3,zs4,zs5,Rg,bx5,o14,r17,bx25,bx30,o_b_0,hle_turn,hk⟩ back8
  obtain⟨hka,hkb,hkc⟩:=hk.len
  refine ab (ab (a8 rfl (mz zs5 (lx (bn (m:=↑turn) (n:=2) rfl rfl) (ag ?_)))))
  by_cases p8:(turn:Int)<2
  ·
   refine al rfl (dt p8) (av (ab (ar (ab (a8 rfl (lx (aB (ds:=[vi g.1,v13]) cR zs3 bx25 rfl rfl) (lo (ck (b9 (vals:=[vg [vi g.1,v13]]) Try.func11 pb pD rfl) (kI w35 g v13 (r17).ro) ?_))))))))
   rintro⟨d38,v40,v42⟩ w37 ⟨fr39,o41,o43⟩
   obtain⟨g44,ch45,G44⟩:=jh g36 fr39 (λn=>if n=1 then 5 else if n=2 then 6 else 0)
   replace o41:=o41.gl G44 5
   replace o43:=o43.gl G44 6
   refine mv (vt [vg [v40,v42,vi ((((aA g).1).2).2)],vi ((aA g).2)]) (lx (aR rfl rfl) (lx (aR rfl rfl) (lo (bI g44 (is 7) (7,0) rfl eA ?_))))
   intro g49 w46 b48 ch47 bx50
   replace bx50:Bx g49 (is 7) w46 b48 [vn,vn,vi 0]:=bx50
   refine lo ?_
   replace o43:=o43.cn ch47
   replace o41:=o41.cn ch47
   refine aI (cs':=[v40,v42,vi ((((aA g).1).2).2)]) eA rfl rfl bx50 rfl nq (AllOne.all (.cons (bQ o41.flat) (.cons (bQ o43.flat) (.cons rfl .nil)))) rfl ?_
   intro w51 ch52 bx53
   clear bx50
   refine ai ((aA g).2) (ag (ab (a8 rfl ?_)))
   have C54:=cg [7] (ch45.n.seq (ch47.n.seq (ch52.l rfl)))
   replace bx25:=bx25.ca C54
   refine lx (aB (ds:=[vi g.1,v13]) cR zs3 bx25 rfl rfl) ?_
   replace r17:=r17.ca C54
   refine lo (ck (b9 (vals:=[vg [vi g.1,v13]]) Try.func12 pF oR rfl) (kq w51 g v13 (r17).ro) ?_)
   rintro⟨d56,v58⟩ w55 ⟨fr57,o59⟩
   obtain⟨g60,ch61,G60⟩:=jh g49 fr57 (λn=>if n=1 then 8 else 0)
   replace o59:=o59.gl G60 8
   refine mv (vt [v58,vi ((aH g).2)]) (lx (aR rfl rfl) (lx (aR rfl rfl) (ma v58 (ai ((aH g).2) (ag (ab (a8 rfl ?_)))))))
   replace bx25:=bx25.cn ch61
   refine lx (aB (ds:=[vi g.1,v13]) cR zs3 bx25 rfl rfl) ?_
   replace r17:=r17.cn ch61
   refine lo (ck (b9 (vals:=[vg [vi g.1,v13]]) Try.func13 oK ou rfl) (n8 w55 g v13 (r17).ro) ?_)
   rintro⟨d63,v65⟩ w62 ⟨fr64,o66⟩
   obtain⟨g67,ch68,G67⟩:=jh g60 fr64 (λn=>if n=1 then 9 else 0)
   replace o66:=o66.gl G67 9
   refine mv (vt [vg [vi (((aO g).1).1),v65],vi ((aO g).2)]) (lx (aR rfl rfl) (lx (aR rfl rfl) (lo (bI g67 (is 10) (10,0) rfl cR ?_))))
   intro g72 w69 b71 ch70 bx73
   replace bx73:Bx g72 (is 10) w69 b71 [vi 0,vn]:=bx73
   refine lo ?_
   replace o66:=o66.cn ch70
   refine aI (cs':=[vi (((aO g).1).1),v65]) cR rfl rfl bx73 rfl nq (AllOne.all (.cons rfl (.cons (bQ o66.flat) .nil))) rfl ?_
   intro w74 ch75 bx76
   clear bx73
   refine ai ((aO g).2) (ag (ab (a8 rfl ?_)))
   have C77:=cg [10] (ch68.n.seq (ch70.n.seq (ch75.l rfl)))
   replace bx25:=bx25.ca C77
   refine lx (aB (ds:=[vi g.1,v13]) cR zs3 bx25 rfl rfl) ?_
   replace r17:=r17.ca C77
   refine lo (cC (v:=vt [vb ((bF g).1),vi ((bF g).2)]) (b9 (vals:=[vg [vi g.1,v13]]) Try.func14 oW py rfl) (mV w74 g v13 (r17).ro) ?_)
   intro w78 hb79
   replace hb79:=aS hb79 g72
   refine mv (vt [vb ((bF g).1),vi ((bF g).2)]) (lx (aR rfl rfl) (lx (aR rfl rfl) (ma (vb ((bF g).1)) (ai ((bF g).2) (ag (ab (ab (a8 rfl ?_))))))))
   replace bx25:=bx25.cn hb79
   refine lx (aB (ds:=[vi g.1,v13]) cR zs3 bx25 rfl rfl) ?_
   have C80:=cg [7,10] (ch45.n.seq (ch47.n.seq ((ch52.l rfl).seq (ch61.n.seq (ch68.n.seq (ch70.n.seq ((ch75.l rfl).seq hb79.n)))))))
   replace bx5:=bx5.ca C80
   refine lx (aB (ds:=[vi g.1,g_v]) cR zs1 bx5 rfl rfl) ?_
   replace o14:=o14.ca C80
   replace r17:=r17.cn hb79
   replace Rg:=Rg.ca C80
   refine lo (cC (v:=vb (decide (g=g))) (b9 (vals:=[vg [vi g.1,v13],vg [vi g.1,g_v]]) Try.func15 tk sN rfl) (t6 w78 g v13 (r17).ro g g_v (Rg).ro (by exact Sl.ro (Ow.flat ‹_›))) ?_)
   intro w81 hb82
   replace hb82:=aS hb82 g72
   refine lx (ek (b:=(decide (g=g))) rfl) (ag ?_)
   have p14:(decide (g=g))=true:=by exact dt rfl
   refine aj rfl (congrArg Bool.not p14) (av (ab (ab (a8 rfl ?_))))
   replace bx5:=bx5.cn hb82
   refine lx (aB (ds:=[vi g.1,g_v]) cR zs1 bx5 rfl rfl) ?_
   replace Rg:=Rg.cn hb82
   refine lo (cC (v:=vb (d5 g)) (b9 (vals:=[vg [vi g.1,g_v]]) Try.func16 pa pA rfl) (lQ w81 g g_v (Rg).ro) ?_)
   intro w83 hb84
   replace hb84:=aS hb84 g72
   refine lx (ek (b:=(d5 g)) rfl) (ag ?_)
   by_cases p16:(d5 g)=true
   ·
    have hm:bg g:=of_decide_eq_true ‹_›
    obtain⟨hB1,hB2,hR1,hR2,hX1,hX2⟩:=ug hm
    obtain⟨hl1,hl2,hl3,hl4⟩:=tX hm
    refine aj rfl (congrArg Bool.not p16) (av (ab (a8 rfl ?_)))
    replace bx5:=bx5.cn hb84
    refine lx (aB (ds:=[vi g.1,g_v]) cR zs1 bx5 rfl rfl) ?_
    replace Rg:=Rg.cn hb84
    refine lo (ck (b9 (vals:=[vg [vi g.1,g_v]]) Try.func17 ov pE rfl) (ip w83 g g_v (Rg).ro (by exact hm)) ?_)
    rintro⟨d86,v88,v90⟩ w85 ⟨fr87,o89,o91⟩
    obtain⟨g92,ch93,G92⟩:=jh g72 fr87 (λn=>if n=1 then 11 else if n=2 then 12 else 0)
    replace o89:=o89.gl G92 11
    replace o91:=o91.gl G92 12
    refine lo (bI g92 (is 13) (13,0) rfl eA ?_)
    intro g97 w94 b96 ch95 bx98
    replace bx98:Bx g97 (is 13) w94 b96 [vn,vn,vi 0]:=bx98
    refine lo ?_
    replace o91:=o91.cn ch95
    replace o89:=o89.cn ch95
    refine aI (cs':=[v88,v90,vi (((aa g).2).2)]) eA rfl rfl bx98 rfl nq (AllOne.all (.cons (bQ o89.flat) (.cons (bQ o91.flat) (.cons rfl .nil)))) rfl ?_
    intro w99 ch100 bx101
    clear bx98
    refine ag (ab (a8 rfl ?_))
    have C102:=cg [13] (ch93.n.seq (ch95.n.seq (ch100.l rfl)))
    replace bx5:=bx5.ca C102
    refine lx (aB (ds:=[vi g.1,g_v]) cR zs1 bx5 rfl rfl) ?_
    replace Rg:=Rg.ca C102
    refine lo (ck (b9 (vals:=[vg [vi g.1,g_v]]) Try.func18 sW sA rfl) (rS w99 g g_v (Rg).ro (by exact hm)) ?_)
    rintro⟨d104,v106⟩ w103 ⟨fr105,o107⟩
    obtain⟨g108,ch109,G108⟩:=jh g97 fr105 (λn=>if n=1 then 14 else 0)
    replace o107:=o107.gl G108 14
    refine mv (vt [vg [vi (((aO g).1).1),v106],vi ((aO g).2)]) (lx (aR rfl rfl) (lx (aR rfl rfl) (lo (bI g108 (is 15) (15,0) rfl cR ?_))))
    intro g113 w110 b112 ch111 bx114
    replace bx114:Bx g113 (is 15) w110 b112 [vi 0,vn]:=bx114
    refine lo ?_
    replace o107:=o107.cn ch111
    refine aI (cs':=[vi (((aO g).1).1),v106]) cR rfl rfl bx114 rfl nq (AllOne.all (.cons rfl (.cons (bQ o107.flat) .nil))) rfl ?_
    intro w115 ch116 bx117
    clear bx114
    refine ai ((aO g).2) (ag (ab (ab (a8 rfl (mi ((aA g).2) (lx (dW (m:=(aA g).2) (n:=0) rfl rfl) (mv (vb (!(decide (((aA g).2)=0)))) ?_)))))))
    have q105:((aA g).2)=0:=by assumption
    refine lv (vi ((aH g).2)) (wy (congrArg Bool.not (dt q105))) (au rfl) (lv (vb (!(decide (((aH g).2)=0)))) (wy (congrArg Bool.not (dt q105))) (dW (m:=(aH g).2) (n:=0) rfl rfl) (lw (vb (!(decide (((aH g).2)=0)))) (aY rfl (congrArg Bool.not (dt q105)) rfl) (mv (vb (!(decide (((aH g).2)=0)))) ?_)))
    have q109:((aH g).2)=0:=by assumption
    refine lv (vi ((bF g).2)) (wy (congrArg Bool.not (dt q109))) (au rfl) (lv (vb (!(decide (((bF g).2)=0)))) (wy (congrArg Bool.not (dt q109))) (dW (m:=(bF g).2) (n:=0) rfl rfl) (lw (vb (!(decide (((bF g).2)=0)))) (aY rfl (congrArg Bool.not (dt q109)) rfl) (mv (vb (!(decide (((bF g).2)=0)))) ?_)))
    have q113:((bF g).2)=0:=by assumption
    refine lv (vi ((aO g).2)) (wy (congrArg Bool.not (dt q113))) (au rfl) (lv (vi ((aO g).2)) (wy (congrArg Bool.not (dt q113))) (au rfl) (lv (vb (!(decide (((aO g).2)=((aO g).2))))) (wy (congrArg Bool.not (dt q113))) (dW (m:=(aO g).2) (n:=(aO g).2) rfl rfl) (lw (vb (!(decide (((aO g).2)=((aO g).2))))) (aY rfl (congrArg Bool.not (dt q113)) rfl) (mv (vb (!(decide (((aO g).2)=((aO g).2))))) ?_))))
    have q118:((aO g).2)=((aO g).2):=by rfl
    refine lv (vp b48 2) (wy (congrArg Bool.not (dt q118))) (ad eD rfl rfl rfl rfl) ?_
    have C118:=cg [10,13,15] (ch61.n.seq (ch68.n.seq (ch70.n.seq ((ch75.l rfl).seq (hb79.n.seq (hb82.n.seq (hb84.n.seq (ch93.n.seq (ch95.n.seq ((ch100.l rfl).seq (ch109.n.seq (ch111.n.seq (ch116.l rfl)))))))))))))
    replace bx53:=bx53.ca C118
    refine lv (vi ((((aA g).1).2).2)) (wy (congrArg Bool.not (dt q118))) (af ah rfl bx53 rfl) (lv (vp b96 2) (wy (congrArg Bool.not (dt q118))) (ad eD rfl rfl rfl rfl) ?_)
    have C119:=cg [15] (ch109.n.seq (ch111.n.seq (ch116.l rfl)))
    replace bx101:=bx101.ca C119
    refine lv (vi (((aa g).2).2)) (wy (congrArg Bool.not (dt q118))) (af ah rfl bx101 rfl) (lv (vb (!(decide (((((aA g).1).2).2)=(((aa g).2).2))))) (wy (congrArg Bool.not (dt q118))) (dW (m:=(((aA g).1).2).2) (n:=((aa g).2).2) rfl rfl) (lw (vb (!(decide (((((aA g).1).2).2)=(((aa g).2).2))))) (aY rfl (congrArg Bool.not (dt q118)) rfl) (mv (vb (!(decide (((((aA g).1).2).2)=(((aa g).2).2))))) ?_)))
    have q125:((((aA g).1).2).2)=(((aa g).2).2):=by(rw[hB1];done)
    refine lv (vp b48 0) (wy (congrArg Bool.not (dt q125))) (ad eD rfl rfl rfl rfl) (lv (v40) (wy (congrArg Bool.not (dt q125))) (af bh rfl bx53 rfl) (lv (vp b96 0) (wy (congrArg Bool.not (dt q125))) (ad eD rfl rfl rfl rfl) (lv (v88) (wy (congrArg Bool.not (dt q125))) (af bh rfl bx101 rfl) ?_)))
    have C120:=cg [7,10,13,15] ((ch52.l rfl).seq (ch61.n.seq (ch68.n.seq (ch70.n.seq ((ch75.l rfl).seq (hb79.n.seq (hb82.n.seq (hb84.n.seq (ch93.n.seq (ch95.n.seq ((ch100.l rfl).seq (ch109.n.seq (ch111.n.seq (ch116.l rfl))))))))))))))
    have C121:=cg [13,15] ((ch100.l rfl).seq (ch109.n.seq (ch111.n.seq (ch116.l rfl))))
    replace o41:=o41.ca C120
    replace o89:=o89.ca C121
    refine db (wy (congrArg Bool.not (dt q125))) (cC (v:=vb (decide ((((aA g).1).1)=((aa g).1)))) (b9 (vals:=[v40,v88]) Try.func19 mn mc rfl) (kM w115 (((aA g).1).1) v40 (o41.flat).ro ((aa g).1) v88 (o89.flat).ro) ?_)
    intro w122 hb123
    replace hb123:=aS hb123 g113
    refine lv (vb (!(decide ((((aA g).1).1)=((aa g).1))))) (wy (congrArg Bool.not (dt q125))) (ek (b:=(decide ((((aA g).1).1)=((aa g).1)))) rfl) (lw (vb (!(decide ((((aA g).1).1)=((aa g).1))))) (aY rfl (congrArg Bool.not (dt q125)) rfl) (mv (vb (!(decide ((((aA g).1).1)=((aa g).1))))) ?_))
    have q133:(decide ((((aA g).1).1)=((aa g).1)))=true:=by exact dt (by rw[hB1])
    refine lv (vp b48 1) (wy (congrArg Bool.not q133)) (ad eD rfl rfl rfl rfl) ?_
    replace bx53:=bx53.cn hb123
    refine lv (v42) (wy (congrArg Bool.not q133)) (af bh rfl bx53 rfl) (lv (vp b96 1) (wy (congrArg Bool.not q133)) (ad eD rfl rfl rfl rfl) ?_)
    replace bx101:=bx101.cn hb123
    refine lv (v90) (wy (congrArg Bool.not q133)) (af bh rfl bx101 rfl) ?_
    have C124:=cg [7,10,13,15] ((ch52.l rfl).seq (ch61.n.seq (ch68.n.seq (ch70.n.seq ((ch75.l rfl).seq (hb79.n.seq (hb82.n.seq (hb84.n.seq (ch93.n.seq (ch95.n.seq ((ch100.l rfl).seq (ch109.n.seq (ch111.n.seq ((ch116.l rfl).seq hb123.n))))))))))))))
    have C125:=cg [13,15] ((ch100.l rfl).seq (ch109.n.seq (ch111.n.seq ((ch116.l rfl).seq hb123.n))))
    replace o43:=o43.ca C124
    replace o91:=o91.ca C125
    refine db (wy (congrArg Bool.not q133)) (cC (v:=vb (decide (((((aA g).1).2).1)=(((aa g).2).1)))) (b9 (vals:=[v42,v90]) Try.func19 mn mc rfl) (kM w122 ((((aA g).1).2).1) v42 (o43.flat).ro (((aa g).2).1) v90 (o91.flat).ro) ?_)
    intro w126 hb127
    replace hb127:=aS hb127 g113
    refine lv (vb (!(decide (((((aA g).1).2).1)=(((aa g).2).1))))) (wy (congrArg Bool.not q133)) (ek (b:=(decide (((((aA g).1).2).1)=(((aa g).2).1)))) rfl) (lw (vb (!(decide (((((aA g).1).2).1)=(((aa g).2).1))))) (aY rfl (congrArg Bool.not q133) rfl) (mv (vb (!(decide (((((aA g).1).2).1)=(((aa g).2).1))))) ?_))
    have q141:(decide (((((aA g).1).2).1)=(((aa g).2).1)))=true:=by exact dt (by rw[hB1])
    refine lv (v58) (wy (congrArg Bool.not q141)) (au rfl) ?_
    have C128:=cg [15] (ch109.n.seq (ch111.n.seq ((ch116.l rfl).seq (hb123.n.seq hb127.n))))
    replace bx5:=bx5.ca C128
    refine lv (vg [vi g.1,g_v]) (wy (congrArg Bool.not q141)) (aB (ds:=[vi g.1,g_v]) cR zs1 bx5 rfl rfl) ?_
    replace Rg:=Rg.ca C128
    refine db (wy (congrArg Bool.not q141)) (ck (b9 (vals:=[vg [vi g.1,g_v]]) Try.func20 tg sa rfl) (sG w126 g g_v (Rg).ro (by exact hm)) ?_)
    rintro⟨d130,v132⟩ w129 ⟨fr131,o133⟩
    obtain⟨g134,ch135,G134⟩:=jh g113 fr131 (λn=>if n=1 then 16 else 0)
    replace o133:=o133.gl G134 16
    have C136:=cg [10,13,15] (ch68.n.seq (ch70.n.seq ((ch75.l rfl).seq (hb79.n.seq (hb82.n.seq (hb84.n.seq (ch93.n.seq (ch95.n.seq ((ch100.l rfl).seq (ch109.n.seq (ch111.n.seq ((ch116.l rfl).seq (hb123.n.seq (hb127.n.seq ch135.n))))))))))))))
    replace o59:=o59.ca C136
    refine db (wy (congrArg Bool.not q141)) (cC (v:=vb (decide (((aH g).1)=(bN g g.2.length)))) (b9 (vals:=[v58,v132]) Try.func19 mn mc rfl) (kM w129 ((aH g).1) v58 (o59.flat).ro (bN g g.2.length) v132 (o133.flat).ro) ?_)
    intro w137 hb138
    replace hb138:=aS hb138 g134
    refine lv (vb (!(decide (((aH g).1)=(bN g g.2.length))))) (wy (congrArg Bool.not q141)) (ek (b:=(decide (((aH g).1)=(bN g g.2.length)))) rfl) (lw (vb (!(decide (((aH g).1)=(bN g g.2.length))))) (aY rfl (congrArg Bool.not q141) rfl) (mv (vb (!(decide (((aH g).1)=(bN g g.2.length))))) ?_))
    have q148:(decide (((aH g).1)=(bN g g.2.length)))=true:=by exact dt hR1
    have C139:=cg [13,15] (hb79.n.seq (hb82.n.seq (hb84.n.seq (ch93.n.seq (ch95.n.seq ((ch100.l rfl).seq (ch109.n.seq (ch111.n.seq ((ch116.l rfl).seq (hb123.n.seq (hb127.n.seq (ch135.n.seq hb138.n))))))))))))
    replace bx76:=bx76.ca C139
    refine lv (vg [vi (((aO g).1).1),v65]) (wy (congrArg Bool.not q148)) (aB (ds:=[vi (((aO g).1).1),v65]) cR rfl bx76 rfl rfl) ?_
    have C140:=cg [] (hb123.n.seq (hb127.n.seq (ch135.n.seq hb138.n)))
    replace bx117:=bx117.ca C140
    refine lv (vg [vi (((aO g).1).1),v106]) (wy (congrArg Bool.not q148)) (aB (ds:=[vi (((aO g).1).1),v106]) cR rfl bx117 rfl rfl) ?_
    have C141:=cg [10,13,15] ((ch75.l rfl).seq (hb79.n.seq (hb82.n.seq (hb84.n.seq (ch93.n.seq (ch95.n.seq ((ch100.l rfl).seq (ch109.n.seq (ch111.n.seq ((ch116.l rfl).seq (hb123.n.seq (hb127.n.seq (ch135.n.seq hb138.n)))))))))))))
    have C142:=cg [15] ((ch116.l rfl).seq (hb123.n.seq (hb127.n.seq (ch135.n.seq hb138.n))))
    replace o66:=o66.ca C141
    replace o107:=o107.ca C142
    refine db (wy (congrArg Bool.not q148)) (cC (v:=vb (decide (((aO g).1)=((aO g).1)))) (b9 (vals:=[vg [vi (((aO g).1).1),v65],vg [vi (((aO g).1).1),v106]]) Try.func21 rH qy rfl) (nf w137 ((aO g).1) v65 (o66.flat).ro ((aO g).1) v106 (o107.flat).ro) ?_)
    intro w143 hb144
    replace hb144:=aS hb144 g134
    refine lv (vb (!(decide (((aO g).1)=((aO g).1))))) (wy (congrArg Bool.not q148)) (ek (b:=(decide (((aO g).1)=((aO g).1)))) rfl) (lw (vb (!(decide (((aO g).1)=((aO g).1))))) (aY rfl (congrArg Bool.not q148) rfl) (mv (vb (!(decide (((aO g).1)=((aO g).1))))) ?_))
    have q154:(decide (((aO g).1)=((aO g).1)))=true:=by exact dt rfl
    refine lv (vb ((bF g).1)) (wy (congrArg Bool.not q154)) (au rfl) ?_
    have C145:=cg [] (ch135.n.seq (hb138.n.seq hb144.n))
    replace bx5:=bx5.ca C145
    refine lv (vg [vi g.1,g_v]) (wy (congrArg Bool.not q154)) (aB (ds:=[vi g.1,g_v]) cR zs1 bx5 rfl rfl) ?_
    replace Rg:=Rg.ca C145
    refine db (wy (congrArg Bool.not q154)) (cC (v:=vb (c9 g)) (b9 (vals:=[vg [vi g.1,g_v]]) Try.func22 sX tt rfl) (pX w143 g g_v (Rg).ro (by exact hm)) ?_)
    intro w146 hb147
    replace hb147:=aS hb147 g134
    refine lv (vb (!(decide (((bF g).1)=(c9 g))))) (wy (congrArg Bool.not q154)) (nT U4 rfl rfl) (lw (vb (!(decide (((bF g).1)=(c9 g))))) (aY rfl (congrArg Bool.not q154) rfl) (ag ?_))
    have p20:((bF g).1)=(c9 g):=by assumption
    refine aj rfl (congrArg Bool.not (dt p20)) (av (ab ?_))
    clear o89 o91 bx101 o107 bx117 o133
    refine a8 rfl (mz zs4 (lx (ad eD rfl rfl rfl rfl) ?_))
    have C148:=cg [] (hb127.n.seq (ch135.n.seq (hb138.n.seq (hb144.n.seq hb147.n))))
    replace bx53:=bx53.ca C148
    refine lx (af bh rfl bx53 rfl) (lx (ad eD rfl rfl rfl rfl) (lx (af bh rfl bx53 rfl) (mv v58 (lo ?_))))
    have C151:=cg [] (hb123.n.seq (hb127.n.seq (ch135.n.seq (hb138.n.seq (hb144.n.seq hb147.n)))))
    replace o41:=o41.ca C151
    obtain⟨c149,hv150⟩:=ky (u:=v40) (bQ o41.flat)
    replace o43:=o43.ca C148
    obtain⟨c152,hv153⟩:=ky (u:=v42) (bQ o43.flat)
    have C156:=cg [] (hb138.n.seq (hb144.n.seq hb147.n))
    replace o59:=o59.ca C156
    obtain⟨c154,hv155⟩:=ky (u:=v58) (bQ o59.flat)
    refine aM (α:=Vc) g134 (is 17) (is 17) (17,0) rfl [c149,c152,c154] dB bh (by decide) (by decide) (vs:=[(0,v40),(1,v42),(2,v58)]) rfl rfl (.cons (iC hv150 (cd o41.flat)) (.cons (iC hv153 (cd o43.flat)) (.cons (iC hv155 (cd o59.flat)) .nil))) ?_
    intro g157 w158 v159 ch160 o161
    refine lo ?_
    refine ck (σ:=Value×gC×Int×aJ) (V:=λ⟨b_0_c1_v,b_0_c1,b_1_c1,gq⟩=>vt []) (S:=λ⟨b_0_c1_v,b_0_c1,b_1_c1,gq⟩ w=>bv w0 gq w/\Sl gq (is 0) w g_v g.2/\Bx gq (is 1) w b3 [vi g.1,g_v]/\Ow gq (is 2) (is 2) w (io v13) (g.2++[((-7:Int),(7:Int))])/\Sl gq (is 2) w v13 g.2/\Bx gq (is 3) w b20 [vi g.1,v13]/\Bx gq (is 4) w b28 [b_0_c1_v,vi b_1_c1]/\Sl gq (pG 5 19) w v40 (((aA g).1).1)/\Sl gq (pG 6 19) w v42 ((((aA g).1).2).1)/\Bx gq (is 7) w b48 [v40,v42,vi ((((aA g).1).2).2)]/\Sl gq (pG 8 19) w v58 ((aH g).1)/\Ow gq (is 9) (is 9) w v65 (((aO g).1).2)/\Bx gq (is 10) w b71 [vi (((aO g).1).1),v65]/\Ow gq (is 17) (is 17) w v159 ([c149,c152,c154])/\cP gq 19 w b_0_c1_v b_0_c1/\(eG b_0_c1 b_1_c1)) (b9 (vals:=[vp b28 0,v159]) Try.func23 tm sr rfl) ?_ ?_
    ·
     refine aC Try.func23 rfl nq ?_
     have C162:=cg [7,10,13,15] (ch45.n.seq (ch47.n.seq ((ch52.l rfl).seq (ch61.n.seq (ch68.n.seq (ch70.n.seq ((ch75.l rfl).seq (hb79.n.seq (hb82.n.seq (hb84.n.seq (ch93.n.seq (ch95.n.seq ((ch100.l rfl).seq (ch109.n.seq (ch111.n.seq ((ch116.l rfl).seq (hb123.n.seq (hb127.n.seq (ch135.n.seq (hb138.n.seq (hb144.n.seq (hb147.n.seq ch160.n))))))))))))))))))))))
     replace o_b_0:=o_b_0.ca C162
     replace o59:=o59.cn ch160
     replace o43:=o43.cn ch160
     replace o41:=o41.cn ch160
     refine ab (a8 rfl (ai 0 (ag (ar (eF (ab (ab (a8 rfl (mi 0 (mv v159 (lx (bu dB rfl o161.flat) (lx (bn (m:=0) (n:=3) rfl rfl) ?_))))))))))))
     refine ag (al rfl rfl (av (ab (ar (ab ?_)))))
     refine mh [false,true,false,false,false] (σ:=Value×gC×Int×aJ) (λ⟨b_0_j4_v,b_0_j4,b_1_j4,gq⟩ f w=>bv w0 gq w/\f 0=vp b28 0/\f 1=v159/\f 4=vi 0/\Sl gq (is 0) w g_v g.2/\Bx gq (is 1) w b3 [vi g.1,g_v]/\Ow gq (is 2) (is 2) w (io v13) (g.2++[((-7:Int),(7:Int))])/\Sl gq (is 2) w v13 g.2/\Bx gq (is 3) w b20 [vi g.1,v13]/\Bx gq (is 4) w b28 [b_0_j4_v,vi b_1_j4]/\Sl gq (pG 5 19) w v40 (((aA g).1).1)/\Ow gq (is 6) (is 6) w v42 ((((aA g).1).2).1)/\Bx gq (is 7) w b48 [v40,v42,vi ((((aA g).1).2).2)]/\Ow gq (is 8) (is 8) w v58 ((aH g).1)/\Ow gq (is 9) (is 9) w v65 (((aO g).1).2)/\Bx gq (is 10) w b71 [vi (((aO g).1).1),v65]/\Ow gq (is 17) (is 17) w v159 ([c149,c152,c154])/\cP gq 19 w b_0_j4_v b_0_j4/\(eG b_0_j4 b_1_j4)) ?_ ?_
     ·
      intro mid_j4
      refine cq g157 rfl eX (by kernel_rfl) ?_
      intro w164 ch163
      refine qm v159 (qm (vi 0) ?_)
      replace o59:=o59.cn ch163
      replace o43:=o43.cn ch163
      replace o41:=o41.cn ch163
      replace o161:=o161.cn ch163
      refine qx (λw' hw'=>ae (v:=v159) (i:=0) dB rfl rfl ((iM o161 (VcR.consv hv150 (o41.flat).ro (VcR.consv hv153 (o43.flat).ro (VcR.consv hv155 (o59.flat).ro VcR.nil)))).bel hw') rfl (by omega) (by(simp only[List.length_set,List.length_append,List.length_cons,List.length_nil,List.length_replicate,List.length_map,List.length_take,List.length_drop];omega))) (qx (λw' hw'=>bB bh rfl (gA hv150 (o161.bel hw') rfl)) ?_)
      have len165:=(o41.flat).small
      refine qx (λw' hw'=>bu bf rfl (o41.flat.bel hw')) (qm v159 (qm (vi 0) (qx (λw' hw'=>ae (v:=v159) (i:=0) dB rfl rfl ((iM o161 (VcR.consv hv150 (o41.flat).ro (VcR.consv hv153 (o43.flat).ro (VcR.consv hv155 (o59.flat).ro VcR.nil)))).bel hw') rfl (by omega) (by(simp only[List.length_set,List.length_append,List.length_cons,List.length_nil,List.length_replicate,List.length_map,List.length_take,List.length_drop];omega))) (qx (λw' hw'=>bB bh rfl (gA hv150 (o161.bel hw') rfl)) ?_))))
      have cap166:=Sl.cap o41.flat
      refine qv (vi (bT v40:Int)) (λw' hw'=>ny bf rfl (o41.flat.bel hw')) (gE (v:=vi (min (bT v40:Int) ((List.length (((aA g).1).1):Int)+2000))) rfl (λw' hw'=>b9 (vals:=[vi (List.length (((aA g).1).1):Int),vi (bT v40:Int)]) Try.func46 jc j5 rfl) (λw' hw'=>(iF w' (List.length (((aA g).1).1):Int) (bT v40:Int) (by omega)).mono λe w2 h2=>⟨h2.1,hw'.trans (h2.2.mono hw'.size)⟩) (qv (vi (min (bT v40:Int) ((List.length (((aA g).1).1):Int)+2000))) (λw' hw'=>c7 rfl) (d8 ?_)))
      intro w167 hc168
      replace hc168:=aS hc168 g157
      refine ab (a8 rfl (mi (min (bT v40:Int) ((List.length (((aA g).1).1):Int)+2000)) (lx (e7 (m:=min (bT v40:Int) ((List.length (((aA g).1).1):Int)+2000)) (n:=0) rfl rfl) (mv (vb (decide (0<(min (bT v40:Int) ((List.length (((aA g).1).1):Int)+2000))))) ?_))))
      by_cases q25_c1:0<(min (bT v40:Int) ((List.length (((aA g).1).1):Int)+2000))
      ·
       refine lv (vp b28 0) (wy (dt q25_c1)) (au rfl) (lv (vp b28 0) (wy (dt q25_c1)) (ao rfl) (lv (vp b28 1) (wy (dt q25_c1)) (ad jK rfl rfl rfl rfl) ?_))
       have C169:=cg [7,10,13,15] (ch45.n.seq (ch47.n.seq ((ch52.l rfl).seq (ch61.n.seq (ch68.n.seq (ch70.n.seq ((ch75.l rfl).seq (hb79.n.seq (hb82.n.seq (hb84.n.seq (ch93.n.seq (ch95.n.seq ((ch100.l rfl).seq (ch109.n.seq (ch111.n.seq ((ch116.l rfl).seq (hb123.n.seq (hb127.n.seq (ch135.n.seq (hb138.n.seq (hb144.n.seq (hb147.n.seq (ch160.n.seq (ch163.n.seq hc168.n))))))))))))))))))))))))
       replace bx30:=bx30.ca C169
       refine lv (vi b_1) (wy (dt q25_c1)) (af ah rfl bx30 rfl) (lv (vi (min (bT v40:Int) ((List.length (((aA g).1).1):Int)+2000))) (wy (dt q25_c1)) (au rfl) (lv (vi (b_1+(min (bT v40:Int) ((List.length (((aA g).1).1):Int)+2000)))) (wy (dt q25_c1)) (aG (m:=b_1) (n:=min (bT v40:Int) ((List.length (((aA g).1).1):Int)+2000)) rfl rfl (by omega)) (lv (vb (decide ((b_1+(min (bT v40:Int) ((List.length (((aA g).1).1):Int)+2000)))<=1048576))) (wy (dt q25_c1)) (n4 (m:=b_1+(min (bT v40:Int) ((List.length (((aA g).1).1):Int)+2000))) (n:=1048576) rfl rfl) ?_)))
       refine lw (vb (decide ((b_1+(min (bT v40:Int) ((List.length (((aA g).1).1):Int)+2000)))<=1048576))) (b5 rfl (dt q25_c1) rfl) (ag ?_)
       by_cases p4_c1:(b_1+(min (bT v40:Int) ((List.length (((aA g).1).1):Int)+2000)))<=1048576
       ·
        refine al rfl (dt p4_c1) (ab (a8 rfl (mv (vp b28 0) (mv (vp b28 0) (lw (vp b28 0) (ao rfl) (lx (ad jK rfl rfl rfl rfl) (lx (af ah rfl bx30 rfl) (mi (min (bT v40:Int) ((List.length (((aA g).1).1):Int)+2000)) (lx (aG (m:=b_1) (n:=min (bT v40:Int) ((List.length (((aA g).1).1):Int)+2000)) rfl rfl (by omega)) (lw (vp b28 0) (ao rfl) ?_))))))))))
        refine lx (ad jK rfl rfl rfl rfl) (lo (aI (cs':=[b_0_v,vi (b_1+(min (bT v40:Int) ((List.length (((aA g).1).1):Int)+2000)))]) ah rfl rfl bx30 rfl nq (AllOne.all (.cons rfl .nil)) rfl ?_))
        intro w170 ch171 bx172
        clear bx30
        refine ag (bA g157 [0,1,2,3,4,5,6,7,8,11,12] eX ?_)
        intro w174 ch173
        refine xp (v:=vp b28 0) 0 rfl (λw=>au rfl) (xp (v:=vp b28 0) 1 rfl (λw=>au rfl) (xp (v:=vp b28 0) 2 rfl (λw=>ao rfl) (xp 3 rfl (λw=>ad jK rfl rfl rfl rfl) ?_)))
        replace bx172:=bx172.cn ch173
        refine xh 4 [3,2,1,0,5,6,7,8,9] rfl (λw' hw'=>af bW rfl (bx172.bel hw') rfl) (xp (v:=v159) 5 rfl (λw=>au rfl) (xp (v:=vi 0) 6 rfl (λw=>au rfl) ?_))
        have C175:=cg [4] (hc168.n.seq ((ch171.l rfl).seq ch173.n))
        replace o59:=o59.ca C175
        replace o43:=o43.ca C175
        replace o41:=o41.ca C175
        replace o161:=o161.ca C175
        refine xv 7 [6,5,4,3,2,1,0] rfl (ae (v:=v159) (i:=0) dB rfl rfl (iM o161 (VcR.consv hv150 (o41.flat).ro (VcR.consv hv153 (o43.flat).ro (VcR.consv hv155 (o59.flat).ro VcR.nil)))) rfl (by omega) (by(simp only[List.length_set,List.length_append,List.length_cons,List.length_nil,List.length_replicate,List.length_map,List.length_take,List.length_drop];omega))) (xv 8 [7,6,5,4,3,2,1,0] rfl (bB bh rfl (gA hv150 o161 rfl)) (bw 9 rfl (by kernel_rfl) rfl ?_))
        obtain⟨c176,hv177⟩:=ky (u:=v40) (bQ o41.flat)
        refine aM (α:=Vc) g157 (is 18) (is 18) (18,0) rfl [c176] dB bh (by decide) (by decide) (vs:=[(0,v40)]) rfl rfl (.cons (iC hv177 (cd o41.flat)) .nil) ?_
        intro g178 w179 v180 ch181 o182
        refine bw 10 rfl (by kernel_rfl) rfl ?_
        have C183:=cg [4] (ch163.n.seq (hc168.n.seq ((ch171.l rfl).seq (ch173.n.seq ch181.n))))
        replace o_b_0:=o_b_0.ca C183
        replace o41:=o41.cn ch181
        refine fy hv177 (α:=Int) (xss:=b_0) (i:=19) (γ:=g178) dB bh rfl rfl rfl o_b_0 (o182.flat) o41 rfl (by decide) (by omega) ?_
        intro g184 w185 v186 ch187 o188 r189
        clear o_b_0 o41
        refine xp (v:=vp b28 0) 11 rfl (λw=>ao rfl) (xp 12 rfl (λw=>ad jK rfl rfl rfl rfl) (bw 13 rfl (by kernel_rfl) rfl ?_))
        replace bx172:=(bx172.cn ch181).chg ch187 (cB rfl rfl)
        refine cj (cs':=[v186,vi (b_1+(min (bT v40:Int) ((List.length (((aA g).1).1):Int)+2000)))]) bW rfl rfl bx172 (cd o188.sl) nq (bQ o188.sl) rfl ?_
        intro w190 ch191 bx192
        clear bx172
        refine c6 (by kernel_rfl) (ak ?_)
        clear o182
        have C193:=cg [4,5,7,10,13,15,19] (ch45.n.seq (ch47.n.seq ((ch52.l rfl).seq (ch61.n.seq (ch68.n.seq (ch70.n.seq ((ch75.l rfl).seq (hb79.n.seq (hb82.n.seq (hb84.n.seq (ch93.n.seq (ch95.n.seq ((ch100.l rfl).seq (ch109.n.seq (ch111.n.seq ((ch116.l rfl).seq (hb123.n.seq (hb127.n.seq (ch135.n.seq (hb138.n.seq (hb144.n.seq (hb147.n.seq (ch160.n.seq (ch163.n.seq (hc168.n.seq ((ch171.l rfl).seq (ch173.n.seq (ch181.n.seq ((ch187.lx rfl rfl).seq (ch191.l rfl))))))))))))))))))))))))))))))
        have C196:=cg [4,5,19] (ch181.n.seq ((ch187.lx rfl rfl).seq (ch191.l rfl)))
        have C197:=ch160.n.seq (ch163.n.seq (hc168.n.seq ((ch171.l rfl).seq (ch173.n.seq C196))))
        have C194:=hb147.n.seq C197
        have C198:=hb144.n.seq C194
        have C195:=cg [4,5,13,15,19] (hb82.n.seq (hb84.n.seq (ch93.n.seq (ch95.n.seq ((ch100.l rfl).seq (ch109.n.seq (ch111.n.seq ((ch116.l rfl).seq (hb123.n.seq (hb127.n.seq (ch135.n.seq (hb138.n.seq (hb144.n.seq (hb147.n.seq (ch160.n.seq (ch163.n.seq (hc168.n.seq ((ch171.l rfl).seq (ch173.n.seq (ch181.n.seq ((ch187.lx rfl rfl).seq (ch191.l rfl))))))))))))))))))))))
        refine mid_j4 (v186,(b_0++[((aA g).1).1]),b_1+(min (bT v40:Int) ((List.length (((aA g).1).1):Int)+2000)),g184) _ _ ⟨bH.ca C193,rfl,rfl,rfl,Rg.ca C194,bx5.ca C194,o14.ca C195,r17.ca C195,bx25.ca C195,bx192,r189.chg ch191 (fZ rfl rfl),o43.ca C196,bx53.ca C197,o59.ca C196,o66.ca C198,bx76.ca C198,o161.ca C196,o188.ce ch191,?_⟩
        show eG (b_0++[((aA g).1).1]) (b_1+(min (bT v40:Int) ((List.length (((aA g).1).1):Int)+2000)))
        exact(eG.add ‹_› (by omega) (by omega) (by omega))
       refine aj rfl (df p4_c1) (av (ak ?_))
       have C201:=cg [] (ch160.n.seq (ch163.n.seq hc168.n))
       have C199:=hb147.n.seq C201
       have C202:=hb144.n.seq C199
       have C200:=cg [13,15] (hb82.n.seq (hb84.n.seq (ch93.n.seq (ch95.n.seq ((ch100.l rfl).seq (ch109.n.seq (ch111.n.seq ((ch116.l rfl).seq (hb123.n.seq (hb127.n.seq (ch135.n.seq (hb138.n.seq (hb144.n.seq (hb147.n.seq (ch160.n.seq (ch163.n.seq hc168.n))))))))))))))))
       replace o41:=o41.cn hc168
       refine mid_j4 (b_0_v,b_0,b_1,g157) _ _ ⟨bH.ca C169,rfl,rfl,rfl,Rg.ca C199,bx5.ca C199,o14.ca C200,r17.ca C200,bx25.ca C200,bx30,o41.slk,o43.cn hc168,bx53.ca C201,o59.cn hc168,o66.ca C202,bx76.ca C202,o161.cn hc168,(o_b_0.cn ch163).cn hc168,?_⟩
       show eG b_0 b_1
       assumption
      refine ax (wn (df q25_c1)) (ax (wn (df q25_c1)) (ax (wn (df q25_c1)) (ax (wn (df q25_c1)) (ax (wn (df q25_c1)) (ax (wn (df q25_c1)) (ax (wn (df q25_c1)) (lw (vb false) (aY rfl (df q25_c1) rfl) (ag (aj rfl rfl ?_)))))))))
      refine av (ak ?_)
      have C203:=cg [7,10,13,15] (ch45.n.seq (ch47.n.seq ((ch52.l rfl).seq (ch61.n.seq (ch68.n.seq (ch70.n.seq ((ch75.l rfl).seq (hb79.n.seq (hb82.n.seq (hb84.n.seq (ch93.n.seq (ch95.n.seq ((ch100.l rfl).seq (ch109.n.seq (ch111.n.seq ((ch116.l rfl).seq (hb123.n.seq (hb127.n.seq (ch135.n.seq (hb138.n.seq (hb144.n.seq (hb147.n.seq (ch160.n.seq (ch163.n.seq hc168.n))))))))))))))))))))))))
      have C206:=cg [] (ch160.n.seq (ch163.n.seq hc168.n))
      have C204:=hb147.n.seq C206
      have C207:=hb144.n.seq C204
      have C205:=cg [13,15] (hb82.n.seq (hb84.n.seq (ch93.n.seq (ch95.n.seq ((ch100.l rfl).seq (ch109.n.seq (ch111.n.seq ((ch116.l rfl).seq (hb123.n.seq (hb127.n.seq (ch135.n.seq (hb138.n.seq (hb144.n.seq (hb147.n.seq (ch160.n.seq (ch163.n.seq hc168.n))))))))))))))))
      replace o41:=o41.cn hc168
      refine mid_j4 (b_0_v,b_0,b_1,g157) _ _ ⟨bH.ca C203,rfl,rfl,rfl,Rg.ca C204,bx5.ca C204,o14.ca C205,r17.ca C205,bx25.ca C205,bx30.ca C203,o41.slk,o43.cn hc168,bx53.ca C206,o59.cn hc168,o66.ca C207,bx76.ca C207,o161.cn hc168,(o_b_0.cn ch163).cn hc168,?_⟩
      show eG b_0 b_1
      assumption
     clear Rg bx5 o14 r17 bx25 bx30 o_b_0 o41 o43 bx53 o59 o66 bx76 o161 bH
     rintro⟨b_0_j4_v,b_0_j4,b_1_j4,g210⟩ f208 w209 ⟨bH,z211_0,z211_1,z211_4,Rg,bx5,o14,r17,bx25,bx30,o41,o43,bx53,o59,o66,bx76,o161,o_b_0_j4,hj_j4⟩
     obtain⟨hja_j4,hjb_j4,hjc_j4⟩:=hj_j4.len
     refine a8 rfl (mz z211_4 (lx (aG (m:=0) (n:=1) rfl rfl (by omega)) (ai 1 (ag (bx (ab (ab (a8 rfl (mi 1 (mz z211_1 (lx (bu dB rfl o161.flat) ?_)))))))))))
     refine lx (bn (m:=1) (n:=3) rfl rfl) (ag (al rfl rfl (av (ab (ar (ab ?_))))))
     refine mh [false,true,false,false,false] (σ:=Value×gC×Int×aJ) (λ⟨b_0_j5_v,b_0_j5,b_1_j5,gq⟩ f w=>bv w0 gq w/\f 0=vp b28 0/\f 1=v159/\f 4=vi 1/\Sl gq (is 0) w g_v g.2/\Bx gq (is 1) w b3 [vi g.1,g_v]/\Ow gq (is 2) (is 2) w (io v13) (g.2++[((-7:Int),(7:Int))])/\Sl gq (is 2) w v13 g.2/\Bx gq (is 3) w b20 [vi g.1,v13]/\Bx gq (is 4) w b28 [b_0_j5_v,vi b_1_j5]/\Sl gq (pG 5 19) w v40 (((aA g).1).1)/\Sl gq (pG 6 19) w v42 ((((aA g).1).2).1)/\Bx gq (is 7) w b48 [v40,v42,vi ((((aA g).1).2).2)]/\Ow gq (is 8) (is 8) w v58 ((aH g).1)/\Ow gq (is 9) (is 9) w v65 (((aO g).1).2)/\Bx gq (is 10) w b71 [vi (((aO g).1).1),v65]/\Ow gq (is 17) (is 17) w v159 ([c149,c152,c154])/\cP gq 19 w b_0_j5_v b_0_j5/\(eG b_0_j5 b_1_j5)) ?_ ?_
     ·
      intro mid_j5
      refine cq g210 rfl eX (by kernel_rfl) ?_
      intro w213 ch212
      refine qz z211_1 (qm (vi 1) ?_)
      replace o59:=o59.cn ch212
      replace o43:=o43.cn ch212
      replace o41:=o41.cn ch212
      replace o161:=o161.cn ch212
      refine qx (λw' hw'=>ae (v:=v159) (i:=1) dB rfl rfl ((iM o161 (VcR.consv hv150 (o41).ro (VcR.consv hv153 (o43.flat).ro (VcR.consv hv155 (o59.flat).ro VcR.nil)))).bel hw') rfl (by omega) (by(simp only[List.length_set,List.length_append,List.length_cons,List.length_nil,List.length_replicate,List.length_map,List.length_take,List.length_drop];omega))) (qx (λw' hw'=>bB bh rfl (gA hv153 (o161.bel hw') rfl)) ?_)
      have len214:=(o43.flat).small
      refine qx (λw' hw'=>bu bf rfl (o43.flat.bel hw')) (qz z211_1 (qm (vi 1) (qx (λw' hw'=>ae (v:=v159) (i:=1) dB rfl rfl ((iM o161 (VcR.consv hv150 (o41).ro (VcR.consv hv153 (o43.flat).ro (VcR.consv hv155 (o59.flat).ro VcR.nil)))).bel hw') rfl (by omega) (by(simp only[List.length_set,List.length_append,List.length_cons,List.length_nil,List.length_replicate,List.length_map,List.length_take,List.length_drop];omega))) (qx (λw' hw'=>bB bh rfl (gA hv153 (o161.bel hw') rfl)) ?_))))
      have cap215:=Sl.cap o43.flat
      refine qv (vi (bT v42:Int)) (λw' hw'=>ny bf rfl (o43.flat.bel hw')) (gE (v:=vi (min (bT v42:Int) ((List.length ((((aA g).1).2).1):Int)+2000))) rfl (λw' hw'=>b9 (vals:=[vi (List.length ((((aA g).1).2).1):Int),vi (bT v42:Int)]) Try.func46 jc j5 rfl) (λw' hw'=>(iF w' (List.length ((((aA g).1).2).1):Int) (bT v42:Int) (by omega)).mono λe w2 h2=>⟨h2.1,hw'.trans (h2.2.mono hw'.size)⟩) (qv (vi (min (bT v42:Int) ((List.length ((((aA g).1).2).1):Int)+2000))) (λw' hw'=>c7 rfl) (d8 ?_)))
      intro w216 hc217
      replace hc217:=aS hc217 g210
      refine ab (a8 rfl (mi (min (bT v42:Int) ((List.length ((((aA g).1).2).1):Int)+2000)) (lx (e7 (m:=min (bT v42:Int) ((List.length ((((aA g).1).2).1):Int)+2000)) (n:=0) rfl rfl) (mv (vb (decide (0<(min (bT v42:Int) ((List.length ((((aA g).1).2).1):Int)+2000))))) ?_))))
      by_cases q25_c1:0<(min (bT v42:Int) ((List.length ((((aA g).1).2).1):Int)+2000))
      ·
       refine lv (vp b28 0) (wy (dt q25_c1)) (au z211_0) (lv (vp b28 0) (wy (dt q25_c1)) (ao rfl) (lv (vp b28 1) (wy (dt q25_c1)) (ad jK rfl rfl rfl rfl) ?_))
       replace bx30:=(bx30.cn ch212).cn hc217
       refine lv (vi b_1_j4) (wy (dt q25_c1)) (af ah rfl bx30 rfl) (lv (vi (min (bT v42:Int) ((List.length ((((aA g).1).2).1):Int)+2000))) (wy (dt q25_c1)) (au rfl) (lv (vi (b_1_j4+(min (bT v42:Int) ((List.length ((((aA g).1).2).1):Int)+2000)))) (wy (dt q25_c1)) (aG (m:=b_1_j4) (n:=min (bT v42:Int) ((List.length ((((aA g).1).2).1):Int)+2000)) rfl rfl (by omega)) (lv (vb (decide ((b_1_j4+(min (bT v42:Int) ((List.length ((((aA g).1).2).1):Int)+2000)))<=1048576))) (wy (dt q25_c1)) (n4 (m:=b_1_j4+(min (bT v42:Int) ((List.length ((((aA g).1).2).1):Int)+2000))) (n:=1048576) rfl rfl) ?_)))
       refine lw (vb (decide ((b_1_j4+(min (bT v42:Int) ((List.length ((((aA g).1).2).1):Int)+2000)))<=1048576))) (b5 rfl (dt q25_c1) rfl) (ag ?_)
       by_cases p4_c1:(b_1_j4+(min (bT v42:Int) ((List.length ((((aA g).1).2).1):Int)+2000)))<=1048576
       ·
        refine al rfl (dt p4_c1) (ab (a8 rfl (mz z211_0 (mz z211_0 (lw (vp b28 0) (ao rfl) (lx (ad jK rfl rfl rfl rfl) (lx (af ah rfl bx30 rfl) (mi (min (bT v42:Int) ((List.length ((((aA g).1).2).1):Int)+2000)) (lx (aG (m:=b_1_j4) (n:=min (bT v42:Int) ((List.length ((((aA g).1).2).1):Int)+2000)) rfl rfl (by omega)) (lw (vp b28 0) (ao rfl) ?_))))))))))
        refine lx (ad jK rfl rfl rfl rfl) (lo (aI (cs':=[b_0_j4_v,vi (b_1_j4+(min (bT v42:Int) ((List.length ((((aA g).1).2).1):Int)+2000)))]) ah rfl rfl bx30 rfl nq (AllOne.all (.cons rfl .nil)) rfl ?_))
        intro w218 ch219 bx220
        clear bx30
        refine ag (bA g210 [0,1,2,3,4,5,6,7,8,11,12] eX ?_)
        intro w222 ch221
        refine xp (v:=vp b28 0) 0 rfl (λw=>au z211_0) (xp (v:=vp b28 0) 1 rfl (λw=>au z211_0) (xp (v:=vp b28 0) 2 rfl (λw=>ao rfl) (xp 3 rfl (λw=>ad jK rfl rfl rfl rfl) ?_)))
        replace bx220:=bx220.cn ch221
        refine xh 4 [3,2,1,0,5,6,7,8,9] rfl (λw' hw'=>af bW rfl (bx220.bel hw') rfl) (xp (v:=v159) 5 rfl (λw=>au z211_1) (xp (v:=vi 1) 6 rfl (λw=>au rfl) ?_))
        have C223:=cg [4] (hc217.n.seq ((ch219.l rfl).seq ch221.n))
        replace o59:=o59.ca C223
        replace o43:=o43.ca C223
        replace o41:=((o41.cn hc217).chg ch219 (fZ rfl rfl)).cn ch221
        replace o161:=o161.ca C223
        refine xv 7 [6,5,4,3,2,1,0] rfl (ae (v:=v159) (i:=1) dB rfl rfl (iM o161 (VcR.consv hv150 (o41).ro (VcR.consv hv153 (o43.flat).ro (VcR.consv hv155 (o59.flat).ro VcR.nil)))) rfl (by omega) (by(simp only[List.length_set,List.length_append,List.length_cons,List.length_nil,List.length_replicate,List.length_map,List.length_take,List.length_drop];omega))) (xv 8 [7,6,5,4,3,2,1,0] rfl (bB bh rfl (gA hv153 o161 rfl)) (bw 9 rfl (by kernel_rfl) rfl ?_))
        obtain⟨c224,hv225⟩:=ky (u:=v42) (bQ o43.flat)
        refine aM (α:=Vc) g210 (is 18) (is 18) (18,0) rfl [c224] dB bh (by decide) (by decide) (vs:=[(0,v42)]) rfl rfl (.cons (iC hv225 (cd o43.flat)) .nil) ?_
        intro g226 w227 v228 ch229 o230
        refine bw 10 rfl (by kernel_rfl) rfl ?_
        have C231:=cg [4] (ch212.n.seq (hc217.n.seq ((ch219.l rfl).seq (ch221.n.seq ch229.n))))
        replace o_b_0_j4:=o_b_0_j4.ca C231
        replace o43:=o43.cn ch229
        refine fy hv225 (α:=Int) (xss:=b_0_j4) (i:=19) (γ:=g226) dB bh rfl rfl rfl o_b_0_j4 (o230.flat) o43 rfl (by decide) (by omega) ?_
        intro g232 w233 v234 ch235 o236 r237
        clear o43 o_b_0_j4
        refine xp (v:=vp b28 0) 11 rfl (λw=>ao rfl) (xp 12 rfl (λw=>ad jK rfl rfl rfl rfl) (bw 13 rfl (by kernel_rfl) rfl ?_))
        replace bx220:=(bx220.cn ch229).chg ch235 (cB rfl rfl)
        refine cj (cs':=[v234,vi (b_1_j4+(min (bT v42:Int) ((List.length ((((aA g).1).2).1):Int)+2000)))]) bW rfl rfl bx220 (cd o236.sl) nq (bQ o236.sl) rfl ?_
        intro w238 ch239 bx240
        clear bx220
        refine c6 (by kernel_rfl) (ak ?_)
        clear o230
        have C242:=cg [4,6,19] (ch229.n.seq ((ch235.lx rfl rfl).seq (ch239.l rfl)))
        have C241:=ch212.n.seq (hc217.n.seq ((ch219.l rfl).seq (ch221.n.seq C242)))
        refine mid_j5 (v234,(b_0_j4++[(((aA g).1).2).1]),b_1_j4+(min (bT v42:Int) ((List.length ((((aA g).1).2).1):Int)+2000)),g232) _ _ ⟨bH.ca C241,z211_0,z211_1,rfl,Rg.ca C241,bx5.ca C241,o14.ca C241,r17.ca C241,bx25.ca C241,bx240,((o41.cn ch229).chg ch235 (m6 rfl rfl rfl)).chg ch239 (fZ rfl rfl),r237.chg ch239 (fZ rfl rfl),bx53.ca C241,o59.ca C242,o66.ca C241,bx76.ca C241,o161.ca C242,o236.ce ch239,?_⟩
        show eG (b_0_j4++[(((aA g).1).2).1]) (b_1_j4+(min (bT v42:Int) ((List.length ((((aA g).1).2).1):Int)+2000)))
        exact(eG.add ‹_› (by omega) (by omega) (by omega))
       refine aj rfl (df p4_c1) (av (ak ?_))
       replace bH:=bH.cn ch212
       replace o43:=o43.cn hc217
       refine mid_j5 (b_0_j4_v,b_0_j4,b_1_j4,g210) _ _ ⟨bH.cn hc217,z211_0,z211_1,rfl,(Rg.cn ch212).cn hc217,(bx5.cn ch212).cn hc217,(o14.cn ch212).cn hc217,(r17.cn ch212).cn hc217,(bx25.cn ch212).cn hc217,bx30,o41.cn hc217,o43.slk,(bx53.cn ch212).cn hc217,o59.cn hc217,(o66.cn ch212).cn hc217,(bx76.cn ch212).cn hc217,o161.cn hc217,(o_b_0_j4.cn ch212).cn hc217,?_⟩
       show eG b_0_j4 b_1_j4
       assumption
      refine ax (wn (df q25_c1)) (ax (wn (df q25_c1)) (ax (wn (df q25_c1)) (ax (wn (df q25_c1)) (ax (wn (df q25_c1)) (ax (wn (df q25_c1)) (ax (wn (df q25_c1)) (lw (vb false) (aY rfl (df q25_c1) rfl) (ag (aj rfl rfl ?_)))))))))
      refine av (ak ?_)
      replace bH:=bH.cn ch212
      replace o43:=o43.cn hc217
      refine mid_j5 (b_0_j4_v,b_0_j4,b_1_j4,g210) _ _ ⟨bH.cn hc217,z211_0,z211_1,rfl,(Rg.cn ch212).cn hc217,(bx5.cn ch212).cn hc217,(o14.cn ch212).cn hc217,(r17.cn ch212).cn hc217,(bx25.cn ch212).cn hc217,(bx30.cn ch212).cn hc217,o41.cn hc217,o43.slk,(bx53.cn ch212).cn hc217,o59.cn hc217,(o66.cn ch212).cn hc217,(bx76.cn ch212).cn hc217,o161.cn hc217,(o_b_0_j4.cn ch212).cn hc217,?_⟩
      show eG b_0_j4 b_1_j4
      assumption
     clear Rg bx5 o14 r17 bx25 bx30 o41 o43 bx53 o59 o66 bx76 o161 o_b_0_j4 bH
     rintro⟨b_0_j5_v,b_0_j5,b_1_j5,g245⟩ f243 w244 ⟨bH,z246_0,z246_1,z246_4,Rg,bx5,o14,r17,bx25,bx30,o41,o43,bx53,o59,o66,bx76,o161,o_b_0_j5,hj_j5⟩
     obtain⟨hja_j5,hjb_j5,hjc_j5⟩:=hj_j5.len
     refine a8 rfl (mz z246_4 (lx (aG (m:=1) (n:=1) rfl rfl (by omega)) (ai 2 (ag (bx (ab (ab (a8 rfl (mi 2 (mz z246_1 (lx (bu dB rfl o161.flat) ?_)))))))))))
     refine lx (bn (m:=2) (n:=3) rfl rfl) (ag (al rfl rfl (av (ab (ar (ab ?_))))))
     refine mh [false,true,false,false,false] (σ:=Value×gC×Int×aJ) (λ⟨b_0_j6_v,b_0_j6,b_1_j6,gq⟩ f w=>bv w0 gq w/\f 0=vp b28 0/\f 1=v159/\f 4=vi 2/\Sl gq (is 0) w g_v g.2/\Bx gq (is 1) w b3 [vi g.1,g_v]/\Ow gq (is 2) (is 2) w (io v13) (g.2++[((-7:Int),(7:Int))])/\Sl gq (is 2) w v13 g.2/\Bx gq (is 3) w b20 [vi g.1,v13]/\Bx gq (is 4) w b28 [b_0_j6_v,vi b_1_j6]/\Sl gq (pG 5 19) w v40 (((aA g).1).1)/\Sl gq (pG 6 19) w v42 ((((aA g).1).2).1)/\Bx gq (is 7) w b48 [v40,v42,vi ((((aA g).1).2).2)]/\Sl gq (pG 8 19) w v58 ((aH g).1)/\Ow gq (is 9) (is 9) w v65 (((aO g).1).2)/\Bx gq (is 10) w b71 [vi (((aO g).1).1),v65]/\Ow gq (is 17) (is 17) w v159 ([c149,c152,c154])/\cP gq 19 w b_0_j6_v b_0_j6/\(eG b_0_j6 b_1_j6)) ?_ ?_
     ·
      intro mid_j6
      refine cq g245 rfl eX (by kernel_rfl) ?_
      intro w248 ch247
      refine qz z246_1 (qm (vi 2) ?_)
      replace o59:=o59.cn ch247
      replace o43:=o43.cn ch247
      replace o41:=o41.cn ch247
      replace o161:=o161.cn ch247
      refine qx (λw' hw'=>ae (v:=v159) (i:=2) dB rfl rfl ((iM o161 (VcR.consv hv150 (o41).ro (VcR.consv hv153 (o43).ro (VcR.consv hv155 (o59.flat).ro VcR.nil)))).bel hw') rfl (by omega) (by(simp only[List.length_set,List.length_append,List.length_cons,List.length_nil,List.length_replicate,List.length_map,List.length_take,List.length_drop];omega))) (qx (λw' hw'=>bB bh rfl (gA hv155 (o161.bel hw') rfl)) ?_)
      have len249:=(o59.flat).small
      refine qx (λw' hw'=>bu bf rfl (o59.flat.bel hw')) (qz z246_1 (qm (vi 2) (qx (λw' hw'=>ae (v:=v159) (i:=2) dB rfl rfl ((iM o161 (VcR.consv hv150 (o41).ro (VcR.consv hv153 (o43).ro (VcR.consv hv155 (o59.flat).ro VcR.nil)))).bel hw') rfl (by omega) (by(simp only[List.length_set,List.length_append,List.length_cons,List.length_nil,List.length_replicate,List.length_map,List.length_take,List.length_drop];omega))) (qx (λw' hw'=>bB bh rfl (gA hv155 (o161.bel hw') rfl)) ?_))))
      have cap250:=Sl.cap o59.flat
      refine qv (vi (bT v58:Int)) (λw' hw'=>ny bf rfl (o59.flat.bel hw')) (gE (v:=vi (min (bT v58:Int) ((List.length ((aH g).1):Int)+2000))) rfl (λw' hw'=>b9 (vals:=[vi (List.length ((aH g).1):Int),vi (bT v58:Int)]) Try.func46 jc j5 rfl) (λw' hw'=>(iF w' (List.length ((aH g).1):Int) (bT v58:Int) (by omega)).mono λe w2 h2=>⟨h2.1,hw'.trans (h2.2.mono hw'.size)⟩) (qv (vi (min (bT v58:Int) ((List.length ((aH g).1):Int)+2000))) (λw' hw'=>c7 rfl) (d8 ?_)))
      intro w251 hc252
      replace hc252:=aS hc252 g245
      refine ab (a8 rfl (mi (min (bT v58:Int) ((List.length ((aH g).1):Int)+2000)) (lx (e7 (m:=min (bT v58:Int) ((List.length ((aH g).1):Int)+2000)) (n:=0) rfl rfl) (mv (vb (decide (0<(min (bT v58:Int) ((List.length ((aH g).1):Int)+2000))))) ?_))))
      by_cases q25_c1:0<(min (bT v58:Int) ((List.length ((aH g).1):Int)+2000))
      ·
       refine lv (vp b28 0) (wy (dt q25_c1)) (au z246_0) (lv (vp b28 0) (wy (dt q25_c1)) (ao rfl) (lv (vp b28 1) (wy (dt q25_c1)) (ad jK rfl rfl rfl rfl) ?_))
       replace bx30:=(bx30.cn ch247).cn hc252
       refine lv (vi b_1_j5) (wy (dt q25_c1)) (af ah rfl bx30 rfl) (lv (vi (min (bT v58:Int) ((List.length ((aH g).1):Int)+2000))) (wy (dt q25_c1)) (au rfl) (lv (vi (b_1_j5+(min (bT v58:Int) ((List.length ((aH g).1):Int)+2000)))) (wy (dt q25_c1)) (aG (m:=b_1_j5) (n:=min (bT v58:Int) ((List.length ((aH g).1):Int)+2000)) rfl rfl (by omega)) (lv (vb (decide ((b_1_j5+(min (bT v58:Int) ((List.length ((aH g).1):Int)+2000)))<=1048576))) (wy (dt q25_c1)) (n4 (m:=b_1_j5+(min (bT v58:Int) ((List.length ((aH g).1):Int)+2000))) (n:=1048576) rfl rfl) ?_)))
       refine lw (vb (decide ((b_1_j5+(min (bT v58:Int) ((List.length ((aH g).1):Int)+2000)))<=1048576))) (b5 rfl (dt q25_c1) rfl) (ag ?_)
       by_cases p4_c1:(b_1_j5+(min (bT v58:Int) ((List.length ((aH g).1):Int)+2000)))<=1048576
       ·
        refine al rfl (dt p4_c1) (ab (a8 rfl (mz z246_0 (mz z246_0 (lw (vp b28 0) (ao rfl) (lx (ad jK rfl rfl rfl rfl) (lx (af ah rfl bx30 rfl) (mi (min (bT v58:Int) ((List.length ((aH g).1):Int)+2000)) (lx (aG (m:=b_1_j5) (n:=min (bT v58:Int) ((List.length ((aH g).1):Int)+2000)) rfl rfl (by omega)) (lw (vp b28 0) (ao rfl) ?_))))))))))
        refine lx (ad jK rfl rfl rfl rfl) (lo (aI (cs':=[b_0_j5_v,vi (b_1_j5+(min (bT v58:Int) ((List.length ((aH g).1):Int)+2000)))]) ah rfl rfl bx30 rfl nq (AllOne.all (.cons rfl .nil)) rfl ?_))
        intro w253 ch254 bx255
        clear bx30
        refine ag (bA g245 [0,1,2,3,4,5,6,7,8,11,12] eX ?_)
        intro w257 ch256
        refine xp (v:=vp b28 0) 0 rfl (λw=>au z246_0) (xp (v:=vp b28 0) 1 rfl (λw=>au z246_0) (xp (v:=vp b28 0) 2 rfl (λw=>ao rfl) (xp 3 rfl (λw=>ad jK rfl rfl rfl rfl) ?_)))
        replace bx255:=bx255.cn ch256
        refine xh 4 [3,2,1,0,5,6,7,8,9] rfl (λw' hw'=>af bW rfl (bx255.bel hw') rfl) (xp (v:=v159) 5 rfl (λw=>au z246_1) (xp (v:=vi 2) 6 rfl (λw=>au rfl) ?_))
        have C258:=cg [4] (hc252.n.seq ((ch254.l rfl).seq ch256.n))
        replace o59:=o59.ca C258
        replace o43:=((o43.cn hc252).chg ch254 (fZ rfl rfl)).cn ch256
        replace o41:=((o41.cn hc252).chg ch254 (fZ rfl rfl)).cn ch256
        replace o161:=o161.ca C258
        refine xv 7 [6,5,4,3,2,1,0] rfl (ae (v:=v159) (i:=2) dB rfl rfl (iM o161 (VcR.consv hv150 (o41).ro (VcR.consv hv153 (o43).ro (VcR.consv hv155 (o59.flat).ro VcR.nil)))) rfl (by omega) (by(simp only[List.length_set,List.length_append,List.length_cons,List.length_nil,List.length_replicate,List.length_map,List.length_take,List.length_drop];omega))) (xv 8 [7,6,5,4,3,2,1,0] rfl (bB bh rfl (gA hv155 o161 rfl)) (bw 9 rfl (by kernel_rfl) rfl ?_))
        obtain⟨c259,hv260⟩:=ky (u:=v58) (bQ o59.flat)
        refine aM (α:=Vc) g245 (is 18) (is 18) (18,0) rfl [c259] dB bh (by decide) (by decide) (vs:=[(0,v58)]) rfl rfl (.cons (iC hv260 (cd o59.flat)) .nil) ?_
        intro g261 w262 v263 ch264 o265
        refine bw 10 rfl (by kernel_rfl) rfl ?_
        have C266:=cg [4] (ch247.n.seq (hc252.n.seq ((ch254.l rfl).seq (ch256.n.seq ch264.n))))
        replace o_b_0_j5:=o_b_0_j5.ca C266
        replace o59:=o59.cn ch264
        refine fy hv260 (α:=Int) (xss:=b_0_j5) (i:=19) (γ:=g261) dB bh rfl rfl rfl o_b_0_j5 (o265.flat) o59 rfl (by decide) (by omega) ?_
        intro g267 w268 v269 ch270 o271 r272
        clear o59 o_b_0_j5
        refine xp (v:=vp b28 0) 11 rfl (λw=>ao rfl) (xp 12 rfl (λw=>ad jK rfl rfl rfl rfl) (bw 13 rfl (by kernel_rfl) rfl ?_))
        replace bx255:=(bx255.cn ch264).chg ch270 (cB rfl rfl)
        refine cj (cs':=[v269,vi (b_1_j5+(min (bT v58:Int) ((List.length ((aH g).1):Int)+2000)))]) bW rfl rfl bx255 (cd o271.sl) nq (bQ o271.sl) rfl ?_
        intro w273 ch274 bx275
        clear bx255
        refine c6 (by kernel_rfl) (ak ?_)
        clear o265
        have C277:=cg [4,8,19] (ch264.n.seq ((ch270.lx rfl rfl).seq (ch274.l rfl)))
        have C276:=ch247.n.seq (hc252.n.seq ((ch254.l rfl).seq (ch256.n.seq C277)))
        refine mid_j6 (v269,(b_0_j5++[(aH g).1]),b_1_j5+(min (bT v58:Int) ((List.length ((aH g).1):Int)+2000)),g267) _ _ ⟨bH.ca C276,z246_0,z246_1,rfl,Rg.ca C276,bx5.ca C276,o14.ca C276,r17.ca C276,bx25.ca C276,bx275,((o41.cn ch264).chg ch270 (m6 rfl rfl rfl)).chg ch274 (fZ rfl rfl),((o43.cn ch264).chg ch270 (m6 rfl rfl rfl)).chg ch274 (fZ rfl rfl),bx53.ca C276,r272.chg ch274 (fZ rfl rfl),o66.ca C276,bx76.ca C276,o161.ca C277,o271.ce ch274,?_⟩
        show eG (b_0_j5++[(aH g).1]) (b_1_j5+(min (bT v58:Int) ((List.length ((aH g).1):Int)+2000)))
        exact(eG.add ‹_› (by omega) (by omega) (by omega))
       refine aj rfl (df p4_c1) (av (ak ?_))
       replace bH:=bH.cn ch247
       replace o59:=o59.cn hc252
       refine mid_j6 (b_0_j5_v,b_0_j5,b_1_j5,g245) _ _ ⟨bH.cn hc252,z246_0,z246_1,rfl,(Rg.cn ch247).cn hc252,(bx5.cn ch247).cn hc252,(o14.cn ch247).cn hc252,(r17.cn ch247).cn hc252,(bx25.cn ch247).cn hc252,bx30,o41.cn hc252,o43.cn hc252,(bx53.cn ch247).cn hc252,o59.slk,(o66.cn ch247).cn hc252,(bx76.cn ch247).cn hc252,o161.cn hc252,(o_b_0_j5.cn ch247).cn hc252,?_⟩
       show eG b_0_j5 b_1_j5
       assumption
      refine ax (wn (df q25_c1)) (ax (wn (df q25_c1)) (ax (wn (df q25_c1)) (ax (wn (df q25_c1)) (ax (wn (df q25_c1)) (ax (wn (df q25_c1)) (ax (wn (df q25_c1)) (lw (vb false) (aY rfl (df q25_c1) rfl) (ag (aj rfl rfl ?_)))))))))
      refine av (ak ?_)
      replace bH:=bH.cn ch247
      replace o59:=o59.cn hc252
      refine mid_j6 (b_0_j5_v,b_0_j5,b_1_j5,g245) _ _ ⟨bH.cn hc252,z246_0,z246_1,rfl,(Rg.cn ch247).cn hc252,(bx5.cn ch247).cn hc252,(o14.cn ch247).cn hc252,(r17.cn ch247).cn hc252,(bx25.cn ch247).cn hc252,(bx30.cn ch247).cn hc252,o41.cn hc252,o43.cn hc252,(bx53.cn ch247).cn hc252,o59.slk,(o66.cn ch247).cn hc252,(bx76.cn ch247).cn hc252,o161.cn hc252,(o_b_0_j5.cn ch247).cn hc252,?_⟩
      show eG b_0_j5 b_1_j5
      assumption
     clear Rg bx5 o14 r17 bx25 bx30 o41 o43 bx53 o59 o66 bx76 o161 o_b_0_j5 bH
     rintro⟨b_0_j6_v,b_0_j6,b_1_j6,g280⟩ f278 w279 ⟨bH,z281_0,z281_1,z281_4,Rg,bx5,o14,r17,bx25,bx30,o41,o43,bx53,o59,o66,bx76,o161,o_b_0_j6,hj_j6⟩
     obtain⟨hja_j6,hjb_j6,hjc_j6⟩:=hj_j6.len
     refine a8 rfl (mz z281_4 (lx (aG (m:=2) (n:=1) rfl rfl (by omega)) (ai 3 (ag (bx (ab (ab (a8 rfl (mi 3 (mz z281_1 (lx (bu dB rfl o161.flat) ?_)))))))))))
     refine lx (bn (m:=3) (n:=3) rfl rfl) (ag (aj rfl rfl (aF rfl (dw (vs:=[]) Try.func23 .nil ?_))))
     refine⟨(b_0_j6_v,b_0_j6,b_1_j6,g280),rfl,bH,Rg,bx5,o14,r17,bx25,bx30,o41,o43,bx53,o59,o66,bx76,o161,o_b_0_j6,?_⟩
     show eG b_0_j6 b_1_j6
     assumption
    clear Rg bx5 o14 r17 bx25 bx30 o_b_0 o41 o43 bx53 o59 o66 bx76 o161 bH
    rintro⟨b_0_c1_v,b_0_c1,b_1_c1,g283⟩ w282 ⟨bH,Rg,bx5,o14,r17,bx25,bx30,o41,o43,bx53,o59,o66,bx76,o161,o_b_0_c1,hj_c1⟩
    obtain⟨hja_c1,hjb_c1,hjc_c1⟩:=hj_c1.len
    refine ag ?_
    clear o41 o43 bx53 o59 o161
    refine a8 rfl (lx (aB (ds:=[vi (((aO g).1).1),v65]) cR rfl bx76 rfl rfl) (lo (cv (b9 (vals:=[vg [vi (((aO g).1).1),v65]]) Try.func24 s5 tn rfl) (aC Try.func24 rfl nq ?_))))
    have hsp_c2:(List.length (((aO g).1).2):Int)<=10000:=by omega
    refine ab (a8 rfl (db rfl (d4 g283 (is 20) (20,0) rfl rfl ?_)))
    intro g287 w284 b286 ch285 bx288
    replace bx288:Bx g287 (is 20) w284 b286 [vi (((aO g).1).1),v65]:=bx288
    refine ag (ab (ab (a8 rfl (lx (ad cZ rfl rfl rfl rfl) (lx (af bC rfl bx288 rfl) ?_)))))
    replace o66:=o66.cn ch285
    have len289:=(o66.flat).small
    refine lx (bu dD rfl o66.flat) (lx (ad cZ rfl rfl rfl rfl) (lx (af bC rfl bx288 rfl) ?_))
    have cap290:=Sl.cap o66.flat
    refine lw (vi (bT v65:Int)) (ny dD rfl o66.flat) (lo (cC (v:=vi (min (bT v65:Int) ((List.length (((aO g).1).2):Int)+2000))) (b9 (vals:=[vi (List.length (((aO g).1).2):Int),vi (bT v65:Int)]) Try.func46 jc j5 rfl) (iF w284 (List.length (((aO g).1).2):Int) (bT v65:Int) (by omega)) ?_))
    intro w291 hb292
    replace hb292:=aS hb292 g287
    refine ai (min (bT v65:Int) ((List.length (((aO g).1).2):Int)+2000)) (ag (ar ?_))
    refine bc (σ:=Value×(List Pt)×aJ) (λ⟨g_1_c2_v,g_1_c2,gq⟩ f w=>bv w0 gq w/\f 1=vp b286 0/\f 2=vi (min (bT v65:Int) ((List.length (((aO g).1).2):Int)+2000))/\Sl gq (is 0) w g_v g.2/\Bx gq (is 1) w b3 [vi g.1,g_v]/\Ow gq (is 2) (is 2) w (io v13) (g.2++[((-7:Int),(7:Int))])/\Sl gq (is 2) w v13 g.2/\Bx gq (is 3) w b20 [vi g.1,v13]/\Bx gq (is 4) w b28 [b_0_c1_v,vi b_1_c1]/\Bx gq (is 10) w b71 [vi (((aO g).1).1),v65]/\cP gq 19 w b_0_c1_v b_0_c1/\Bx gq (is 20) w b286 [vi (((aO g).1).1),g_1_c2_v]/\Ow gq (is 9) (is 9) w g_1_c2_v g_1_c2/\((g_1_c2.length:Int)<=20000)) (λ⟨g_1_c2_v,g_1_c2,gq⟩=>Int.toNat ((min (bT v65:Int) ((List.length (((aO g).1).2):Int)+2000))-(g_1_c2.length:Int))) (v65,((aO g).1).2,g287) ?_ ?_
    replace bH:=bH.cn ch285
    · exact⟨bH.cn hb292,rfl,rfl,(Rg.cn ch285).cn hb292,(bx5.cn ch285).cn hb292,(o14.cn ch285).cn hb292,(r17.cn ch285).cn hb292,(bx25.cn ch285).cn hb292,(bx30.cn ch285).cn hb292,(bx76.cn ch285).cn hb292,(o_b_0_c1.cn ch285).cn hb292,bx288.cn hb292,o66.cn hb292,by omega⟩
    clear Rg bx5 o14 r17 bx25 bx30 o66 bx76 o_b_0_c1 bx288 bH
    rintro⟨g_1_c2_v,g_1_c2,g295⟩ f293 w294 ⟨bH,zs1_c2,zs2_c2,Rg,bx5,o14,r17,bx25,bx30,bx76,o_b_0_c1,bx288,o_g_1_c2,hg_c2⟩ back2_c2
    refine ab (ab (a8 rfl (lx (ad cZ rfl rfl zs1_c2 rfl) (lx (af bC rfl bx288 rfl) ?_))))
    have len296:=(o_g_1_c2.flat).small
    refine lx (bu dD rfl o_g_1_c2.flat) (mz zs2_c2 (lx (bn (m:=(g_1_c2.length:Int)) (n:=min (bT v65:Int) ((List.length (((aO g).1).2):Int)+2000)) rfl rfl) (ag ?_)))
    by_cases p2_c2:(g_1_c2.length:Int)<(min (bT v65:Int) ((List.length (((aO g).1).2):Int)+2000))
    ·
     refine al rfl (dt p2_c2) (av (ar (a8 rfl (lx (ad cZ rfl rfl zs1_c2 rfl) (lx (af bC rfl bx288 rfl) (lw (vg [vi 0,vi 0]) (bE (vs:=[]) rfl (by kernel_rfl)) (lo (aM (α:=Pt) g295 (is 21) (is 21) (21,0) rfl ([(0,0)]:List Pt) dD aU (by decide) (by decide) (vs:=[(0,vg [vi 0,vi 0])]) rfl rfl (.cons rfl .nil) ?_))))))))
     intro g297 w298 v299 ch300 o301
     refine lo ?_
     replace o_g_1_c2:=o_g_1_c2.cn ch300
     refine bD (α:=Pt) (xs:=g_1_c2) (ys:=([(0,0)]:List Pt)) g297 (J:=is 9) (S:=is 9) (9,0) rfl dD aU (by decide) rfl rfl rfl o_g_1_c2 o301.flat (by decide) (by(simp;omega)) ?_
     intro g302 w303 v304 ch305 o306
     clear o_g_1_c2
     refine lx (ad cZ rfl rfl zs1_c2 rfl) (lo ?_)
     replace bx288:=(bx288.cn ch300).ce ch305
     refine cj (cs':=[vi (((aO g).1).1),v304]) bC rfl rfl bx288 (cd o306.flat) nq (bQ o306.flat) rfl ?_
     intro w307 ch308 bx309
     clear bx288
     refine ag (ak ?_)
     have C310:=cg [9,20] (ch300.n.seq ((ch305.l rfl).seq (ch308.l rfl)))
     refine back2_c2 (v304,(g_1_c2++([(0,0)]:List Pt)),g302) _ _ ⟨bH.ca C310,zs1_c2,zs2_c2,Rg.ca C310,bx5.ca C310,o14.ca C310,r17.ca C310,bx25.ca C310,bx30.ca C310,bx76.ca C310,o_b_0_c1.ca C310,bx309,o306.ce ch308,?_⟩ ?_
     · show(List.length (g_1_c2++([(0,0)]:List Pt)):Int)<=20000
       (simp only[List.length_append,List.length_cons,List.length_nil];omega)
     · show Int.toNat ((min (bT v65:Int) ((List.length (((aO g).1).2):Int)+2000))-(List.length (g_1_c2++([(0,0)]:List Pt)):Int))<Int.toNat ((min (bT v65:Int) ((List.length (((aO g).1).2):Int)+2000))-(g_1_c2.length:Int))
       (simp only[List.length_append,List.length_cons,List.length_nil];omega)
    refine aj rfl (df p2_c2) (aF rfl (ab (a8 rfl (ai 0 (ag (ar ?_))))))
    refine bc (σ:=Nat×(List Pt)×aJ) (λ⟨i_c2,gs_c2,gq⟩ f w=>bv w0 gq w/\f 1=vp b286 0/\f 3=vi ↑i_c2/\Sl gq (is 0) w g_v g.2/\Bx gq (is 1) w b3 [vi g.1,g_v]/\Ow gq (is 2) (is 2) w (io v13) (g.2++[((-7:Int),(7:Int))])/\Sl gq (is 2) w v13 g.2/\Bx gq (is 3) w b20 [vi g.1,v13]/\Bx gq (is 4) w b28 [b_0_c1_v,vi b_1_c1]/\Bx gq (is 10) w b71 [vi (((aO g).1).1),v65]/\cP gq 19 w b_0_c1_v b_0_c1/\Bx gq (is 20) w b286 [vi (((aO g).1).1),g_1_c2_v]/\Ow gq (is 9) (is 9) w g_1_c2_v gs_c2/\((i_c2:Int)<=List.length gs_c2/\(gs_c2.length:Int)<=20000)) (λ⟨i_c2,gs_c2,gq⟩=>List.length gs_c2-i_c2) (0,g_1_c2,g295) ?_ ?_
    · exact⟨bH,zs1_c2,rfl,Rg,bx5,o14,r17,bx25,bx30,bx76,o_b_0_c1,bx288,o_g_1_c2,by exact⟨by simp,by omega⟩⟩
    clear Rg bx5 o14 r17 bx25 bx30 bx76 o_b_0_c1 bx288 o_g_1_c2 bH
    rintro⟨i_c2,gs_c2,g313⟩ f311 w312 ⟨bH,zs1_c2,zs3_c2,Rg,bx5,o14,r17,bx25,bx30,bx76,o_b_0_c1,bx288,o_g_1_c2,hh_c2⟩ back5_c2
    refine ab (ab (a8 rfl (mz zs3_c2 (lx (ad cZ rfl rfl zs1_c2 rfl) (lx (af bC rfl bx288 rfl) ?_)))))
    have len314:=(o_g_1_c2.flat).small
    refine lx (bu dD rfl o_g_1_c2.flat) (lx (bn (m:=↑i_c2) (n:=(gs_c2.length:Int)) rfl rfl) (ag ?_))
    by_cases p5_c2:(i_c2:Int)<(gs_c2.length:Int)
    ·
     refine al rfl (dt p5_c2) (av (ab (ar (a8 rfl (lx (ad cZ rfl rfl zs1_c2 rfl) (lx (af bC rfl bx288 rfl) (mz zs3_c2 (lw (vg [vi (-9),vi (-9)]) (bE (vs:=[(0,vi (-9)),(1,vi (-9))]) rfl (by kernel_rfl)) (lx (ae (v:=g_1_c2_v) (i:=↑i_c2) dD rfl rfl o_g_1_c2.flat rfl (by omega) (by omega)) ?_)))))))))
     refine lo (aD (i:=↑i_c2) (-9,-9) aU rfl rfl o_g_1_c2 (by omega) (by omega) rfl ?_)
     intro w315 ch316 bx317
     clear o_g_1_c2
     refine ag (ak (a8 rfl (mz zs3_c2 (lx (aG (m:=↑i_c2) (n:=1) rfl rfl (by omega)) (ai ((i_c2:Int)+1) (ag ?_))))))
     refine back5_c2 (i_c2+1,(List.set gs_c2 (Int.toNat ↑i_c2) (-9,-9)),g313) _ _ ⟨bH.ce ch316,zs1_c2,rfl,Rg.ce ch316,bx5.ce ch316,o14.ce ch316,r17.ce ch316,bx25.ce ch316,bx30.ce ch316,bx76.ce ch316,o_b_0_c1.ce ch316,bx288.ce ch316,bx317,?_⟩ ?_
     · show((i_c2+1):Int)<=List.length (List.set gs_c2 (Int.toNat ↑i_c2) (-9,-9))/\(List.length (List.set gs_c2 (Int.toNat ↑i_c2) (-9,-9)):Int)<=20000
       refine⟨by simp;omega,by simp;omega⟩
     · show List.length (List.set gs_c2 (Int.toNat ↑i_c2) (-9,-9))-(i_c2+1)<List.length gs_c2-i_c2
       simp only[List.length_set];omega
    refine aj rfl (df p5_c2) (aF rfl (dw (vs:=[]) Try.func24 .nil ?_))
    refine⟨vt [],rfl,?_⟩
    refine ag (ak ?_)
    clear bx76 bx288 o_g_1_c2
    refine a8 rfl (mz zs5 (lx (aG (m:=↑turn) (n:=1) rfl rfl (by omega)) (ai ((turn:Int)+1) (ag ?_))))
    refine back8 (b_0_c1_v,b_0_c1,b_1_c1,turn+1,g313) _ _ ⟨bH,zs1,zs3,zs4,rfl,Rg,bx5,o14,r17,bx25,bx30,o_b_0_c1,by omega,?_⟩ ?_
    · show eG b_0_c1 b_1_c1
      assumption
    · show Int.toNat ((2:Int)-((turn+1):Int))<Int.toNat ((2:Int)-(turn:Int))
      omega
   obtain⟨hN1,hN2,hN3,hN4⟩:=uI (g:=g) (λh=>absurd (dt h) ‹_›)
   have hz1:((aA g).1.1.length:Int)=0:=by rw[hN1];rfl
   have hz2:((aA g).1.2.1.length:Int)=0:=by rw[hN1];rfl
   have hz3:((aH g).1.length:Int)=0:=by rw[hN2];rfl
   have hz4:(aO g).1.1=0:=by rw[hN3]
   refine al rfl (congrArg Bool.not (Bool.eq_false_iff.2 p16)) (ab ?_)
   clear bx5 r17 bx25 bx30 o_b_0
   refine a8 rfl (mi ((aA g).2) (lx (cH (m:=(aA g).2) (n:=1) rfl rfl) (mv (vb (decide (((aA g).2)=1))) ?_)))
   have q59:((aA g).2)=1:=by(rw[hN1];done)
   refine lv (vi ((aH g).2)) (wy (dt q59)) (au rfl) (lv (vb (decide (((aH g).2)=1))) (wy (dt q59)) (cH (m:=(aH g).2) (n:=1) rfl rfl) (lw (vb (decide (((aH g).2)=1))) (b5 rfl (dt q59) rfl) (mv (vb (decide (((aH g).2)=1))) ?_)))
   have q63:((aH g).2)=1:=by(rw[hN2];done)
   refine lv (vi ((aO g).2)) (wy (dt q63)) (au rfl) (lv (vb (decide (((aO g).2)=1))) (wy (dt q63)) (cH (m:=(aO g).2) (n:=1) rfl rfl) (lw (vb (decide (((aO g).2)=1))) (b5 rfl (dt q63) rfl) (mv (vb (decide (((aO g).2)=1))) ?_)))
   have q67:((aO g).2)=1:=by(rw[hN3];done)
   refine lv (vi ((bF g).2)) (wy (dt q67)) (au rfl) (lv (vb (decide (((bF g).2)=1))) (wy (dt q67)) (cH (m:=(bF g).2) (n:=1) rfl rfl) (lw (vb (decide (((bF g).2)=1))) (b5 rfl (dt q67) rfl) (mv (vb (decide (((bF g).2)=1))) ?_)))
   have q71:((bF g).2)=1:=by(rw[hN4];done)
   refine lv (vp b48 2) (wy (dt q71)) (ad eD rfl rfl rfl rfl) ?_
   have C318:=cg [10] (ch61.n.seq (ch68.n.seq (ch70.n.seq ((ch75.l rfl).seq (hb79.n.seq (hb82.n.seq hb84.n))))))
   replace bx53:=bx53.ca C318
   refine lv (vi ((((aA g).1).2).2)) (wy (dt q71)) (af ah rfl bx53 rfl) (lv (vb (decide (((((aA g).1).2).2)=0))) (wy (dt q71)) (cH (m:=(((aA g).1).2).2) (n:=0) rfl rfl) (lw (vb (decide (((((aA g).1).2).2)=0))) (b5 rfl (dt q71) rfl) (mv (vb (decide (((((aA g).1).2).2)=0))) ?_)))
   have q76:((((aA g).1).2).2)=0:=by(rw[hN1];done)
   refine lv (vp b48 0) (wy (dt q76)) (ad eD rfl rfl rfl rfl) (lv (v40) (wy (dt q76)) (af bh rfl bx53 rfl) ?_)
   have C319:=cg [7,10] ((ch52.l rfl).seq (ch61.n.seq (ch68.n.seq (ch70.n.seq ((ch75.l rfl).seq (hb79.n.seq (hb82.n.seq hb84.n)))))))
   replace o41:=o41.ca C319
   have len320:=(o41.flat).small
   refine lv (vi (List.length (((aA g).1).1):Int)) (wy (dt q76)) (bu bf rfl o41.flat) (lv (vp b48 1) (wy (dt q76)) (ad eD rfl rfl rfl rfl) (lv (v42) (wy (dt q76)) (af bh rfl bx53 rfl) ?_))
   replace o43:=o43.ca C319
   have len321:=(o43.flat).small
   refine lv (vi (List.length ((((aA g).1).2).1):Int)) (wy (dt q76)) (bu bf rfl o43.flat) (lv (vi ((List.length (((aA g).1).1):Int)+(List.length ((((aA g).1).2).1):Int))) (wy (dt q76)) (aG (m:=(List.length (((aA g).1).1):Int)) (n:=(List.length ((((aA g).1).2).1):Int)) rfl rfl (by omega)) (lv (v58) (wy (dt q76)) (au rfl) ?_))
   have C322:=cg [10] (ch68.n.seq (ch70.n.seq ((ch75.l rfl).seq (hb79.n.seq (hb82.n.seq hb84.n)))))
   replace o59:=o59.ca C322
   have len323:=(o59.flat).small
   refine lv (vi (List.length ((aH g).1):Int)) (wy (dt q76)) (bu bf rfl o59.flat) (lv (vi (((List.length (((aA g).1).1):Int)+(List.length ((((aA g).1).2).1):Int))+(List.length ((aH g).1):Int))) (wy (dt q76)) (aG (m:=(List.length (((aA g).1).1):Int)+(List.length ((((aA g).1).2).1):Int)) (n:=(List.length ((aH g).1):Int)) rfl rfl (by omega)) (lv (vp b71 0) (wy (dt q76)) (ad cZ rfl rfl rfl rfl) ?_))
   have C324:=cg [] (hb79.n.seq (hb82.n.seq hb84.n))
   replace bx76:=bx76.ca C324
   refine lv (vi (((aO g).1).1)) (wy (dt q76)) (af ah rfl bx76 rfl) (lv (vi ((((List.length (((aA g).1).1):Int)+(List.length ((((aA g).1).2).1):Int))+(List.length ((aH g).1):Int))+(((aO g).1).1))) (wy (dt q76)) (aG (m:=((List.length (((aA g).1).1):Int)+(List.length ((((aA g).1).2).1):Int))+(List.length ((aH g).1):Int)) (n:=((aO g).1).1) rfl rfl (by omega)) ?_)
   refine lv (vb (decide (((((List.length (((aA g).1).1):Int)+(List.length ((((aA g).1).2).1):Int))+(List.length ((aH g).1):Int))+(((aO g).1).1))=0))) (wy (dt q76)) (cH (m:=(((List.length (((aA g).1).1):Int)+(List.length ((((aA g).1).2).1):Int))+(List.length ((aH g).1):Int))+(((aO g).1).1)) (n:=0) rfl rfl) (lw (vb (decide (((((List.length (((aA g).1).1):Int)+(List.length ((((aA g).1).2).1):Int))+(List.length ((aH g).1):Int))+(((aO g).1).1))=0))) (b5 rfl (dt q76) rfl) (mv (vb (decide (((((List.length (((aA g).1).1):Int)+(List.length ((((aA g).1).2).1):Int))+(List.length ((aH g).1):Int))+(((aO g).1).1))=0))) ?_))
   have q92:((((List.length (((aA g).1).1):Int)+(List.length ((((aA g).1).2).1):Int))+(List.length ((aH g).1):Int))+(((aO g).1).1))=0:=by(rw[hN1,hN2,hN3];rfl)
   refine lv (vb ((bF g).1)) (wy (dt q92)) (au rfl) (lv (vb (!((bF g).1))) (wy (dt q92)) (ek (b:=((bF g).1)) rfl) (lw (vb (!((bF g).1))) (b5 rfl (dt q92) rfl) (ma (vb (!((bF g).1))) (ag (aQ (vs:=[vb (!((bF g).1))]) Try.func3 (.tmp rfl .nil) ?_)))))
   have e0:(!((bF g).1):Bool)=(true):=by
     (rw[hN4];rfl)
   have C325:=cg [7,10] (ch45.n.seq (ch47.n.seq ((ch52.l rfl).seq (ch61.n.seq (ch68.n.seq (ch70.n.seq ((ch75.l rfl).seq (hb79.n.seq (hb82.n.seq hb84.n)))))))))
   replace bH:=bH.ca C325
   exact⟨(congrArg (a₁:= !((bF g).1)) (λ(z0:Bool)=>Ending.returned (vb z0)) e0),bH.below⟩
  refine aj rfl (df p8) (aF rfl (ab ?_))
  clear bx5 r17 bx25
  refine a8 rfl (mz zs4 (lo (cv (b9 (vals:=[vp b28 0]) Try.func25 sE sL rfl) (aC Try.func25 rfl nq (ab (a8 rfl (ma (vb false) (ag (ab (ab (a8 rfl (ai 0 (ag ?_)))))))))))))
  refine ar ?_
  refine bc (σ:=Nat×gC×aJ) (λ⟨i_c3,L_c3,gq⟩ f w=>bv w0 gq w/\f 0=vp b28 0/\f 3=vi ↑i_c3/\Sl gq (is 0) w g_v g.2/\Ow gq (is 2) (is 2) w (io v13) (g.2++[((-7:Int),(7:Int))])/\Bx gq (is 4) w b28 [b_0_v,vi b_1]/\cP gq 19 w b_0_v L_c3/\(jI L_c3 i_c3)) (λ⟨i_c3,L_c3,gq⟩=>List.length L_c3-i_c3) (0,b_0,g36) ?_ ?_
  · exact⟨bH,rfl,rfl,Rg,o14,bx30,o_b_0,by exact eG.ap ‹_›⟩
  clear Rg o14 bx30 o_b_0 bH
  rintro⟨i_c3,L_c3,g328⟩ f326 w327 ⟨bH,zs0_c3,zs3_c3,Rg,o14,bx30,o_b_0,ha_c3⟩ back2_c3
  have hale_c3:=ha_c3.le
  have hafew_c3:=ha_c3.few
  refine ab (ab (a8 rfl (mz zs3_c3 (mz zs0_c3 (lw (vp b28 0) (ao rfl) (lx (ad jK rfl rfl rfl rfl) (lx (af bW rfl bx30 rfl) ?_)))))))
  have len329:=(o_b_0.sl).small
  refine lx (bu dB rfl o_b_0.sl) (lx (bn (m:=↑i_c3) (n:=(L_c3.length:Int)) rfl rfl) (ag ?_))
  by_cases p2_c3:(i_c3:Int)<(L_c3.length:Int)
  ·
   refine al rfl (dt p2_c3) ?_
   have hares_c3:=ha_c3.rest i_c3 (Nat.le_refl _) (by omega)
   refine av (ab (ar (ab (ab (cq g328 rfl eX (by kernel_rfl) ?_)))))
   intro w331 ch330
   refine qz zs0_c3 (qv (vp b28 0) (λw' hw'=>ao rfl) (qx (λw' hw'=>ad jK rfl rfl rfl rfl) ?_))
   replace bx30:=bx30.cn ch330
   refine qx (λw' hw'=>af bW rfl (bx30.bel hw') rfl) (qz zs3_c3 ?_)
   replace o_b_0:=o_b_0.cn ch330
   refine qx (λw' hw'=>ae (v:=b_0_v) (i:=↑i_c3) dB rfl rfl (o_b_0.sl.bel hw') rfl (by omega) (by omega)) ?_
   obtain⟨v332,cel333,r334⟩:=bR (r:=(i_c3:Int)) o_b_0 (by omega) (by omega)
   refine qx (λw' hw'=>bB bh rfl (eC cel333 hw')) ?_
   have len335:=(r334.row_sl).small
   refine qx (λw' hw'=>bu bf rfl (r334.row_sl.bel hw')) (qz zs0_c3 (qv (vp b28 0) (λw' hw'=>ao rfl) (qx (λw' hw'=>ad jK rfl rfl rfl rfl) (qx (λw' hw'=>af bW rfl (bx30.bel hw') rfl) (qz zs3_c3 (qx (λw' hw'=>ae (v:=b_0_v) (i:=↑i_c3) dB rfl rfl (o_b_0.sl.bel hw') rfl (by omega) (by omega)) ?_))))))
   obtain⟨v336,cel337,r338⟩:=bR (r:=(i_c3:Int)) o_b_0 (by omega) (by omega)
   refine qx (λw' hw'=>bB bh rfl (eC cel337 hw')) ?_
   have cap339:=Sl.cap r338.row_sl
   refine qv (vi (bT v336:Int)) (λw' hw'=>ny bf rfl (r338.row_sl.bel hw')) (gE (v:=vi (min (bT v336:Int) ((List.length (gI L_c3 ↑i_c3):Int)+2000))) rfl (λw' hw'=>b9 (vals:=[vi (List.length (gI L_c3 ↑i_c3):Int),vi (bT v336:Int)]) Try.func46 jc j5 rfl) (λw' hw'=>(iF w' (List.length (gI L_c3 ↑i_c3):Int) (bT v336:Int) (by omega)).mono λe w2 h2=>⟨h2.1,hw'.trans (h2.2.mono hw'.size)⟩) (qv (vi (min (bT v336:Int) ((List.length (gI L_c3 ↑i_c3):Int)+2000))) (λw' hw'=>c7 rfl) (d8 ?_)))
   intro w340 hc341
   replace hc341:=aS hc341 g328
   refine ar ?_
   clear cel333 r334 cel337 r338
   refine bc (σ:=gC×aJ) (λ⟨L1_c3,gq⟩ f w=>bv w0 gq w/\f 0=vp b28 0/\f 3=vi ↑i_c3/\f 4=vi (min (bT v336:Int) ((List.length (gI L_c3 ↑i_c3):Int)+2000))/\Sl gq (is 0) w g_v g.2/\Ow gq (is 2) (is 2) w (io v13) (g.2++[((-7:Int),(7:Int))])/\Bx gq (is 4) w b28 [b_0_v,vi b_1]/\cP gq 19 w b_0_v L1_c3/\(gL L1_c3 L_c3 i_c3 (min (bT v336:Int) ((List.length (gI L_c3 ↑i_c3):Int)+2000)))) (λ⟨L1_c3,gq⟩=>Int.toNat ((min (bT v336:Int) ((List.length (gI L_c3 ↑i_c3):Int)+2000))-(List.length (gI L1_c3 ↑i_c3):Int))) (L_c3,g328) ?_ ?_
   replace bH:=bH.cn ch330
   · exact⟨bH.cn hc341,zs0_c3,zs3_c3,rfl,(Rg.cn ch330).cn hc341,(o14.cn ch330).cn hc341,bx30.cn hc341,o_b_0.cn hc341,by exact gL.start ha_c3 ‹_›⟩
   clear Rg o14 bx30 o_b_0 bH
   rintro⟨L1_c3,g344⟩ f342 w343 ⟨bH,zs0_c3,zs3_c3,zs4_c3,Rg,o14,bx30,o_b_0,hg_c3⟩ back5_c3
   have hgl_c3:=hg_c3.len
   have hgle_c3:=hg_c3.le
   refine ab (ab (a8 rfl (mz zs0_c3 (lw (vp b28 0) (ao rfl) (lx (ad jK rfl rfl rfl rfl) (lx (af bW rfl bx30 rfl) (mz zs3_c3 (lx (ae (v:=b_0_v) (i:=↑i_c3) dB rfl rfl o_b_0.sl rfl (by omega) (by omega)) ?_))))))))
   obtain⟨v345,cel346,r347⟩:=bR (r:=(i_c3:Int)) o_b_0 (by omega) (by omega)
   refine lx (bB bh rfl cel346) ?_
   have len348:=(r347.row_sl).small
   refine lx (bu bf rfl r347.row_sl) (mz zs4_c3 (lx (bn (m:=(List.length (gI L1_c3 ↑i_c3):Int)) (n:=min (bT v336:Int) ((List.length (gI L_c3 ↑i_c3):Int)+2000)) rfl rfl) (ag ?_)))
   by_cases p5_c3:(List.length (gI L1_c3 ↑i_c3):Int)<(min (bT v336:Int) ((List.length (gI L_c3 ↑i_c3):Int)+2000))
   ·
    refine al rfl (dt p5_c3) (av (ar ?_))
    clear cel346 r347
    refine cX (σ:=aJ) (λgq f w=>bv w0 gq w/\f 0=vp b28 0/\f 3=vi ↑i_c3/\f 4=vi (min (bT v336:Int) ((List.length (gI L_c3 ↑i_c3):Int)+2000))/\Sl gq (is 0) w g_v g.2/\Ow gq (is 2) (is 2) w (io v13) (g.2++[((-7:Int),(7:Int))])/\Bx gq (is 4) w b28 [b_0_v,vi b_1]/\cP gq 19 w b_0_v (List.set L1_c3 (Int.toNat ↑i_c3) (gI L1_c3 ↑i_c3++([0]:List Int)))) g344 [0,1,2,4,5,6,7,8,9,10,11,14] eX ?_ ?_
    ·
     intro mid
     intro w350 ch349
     refine xp (v:=vp b28 0) 0 rfl (λw=>au zs0_c3) (xp (v:=vp b28 0) 1 rfl (λw=>ao rfl) (xp 2 rfl (λw=>ad jK rfl rfl rfl rfl) (xp (v:=vi ↑i_c3) 4 rfl (λw=>au zs3_c3) (xp (v:=vp b28 0) 5 rfl (λw=>au zs0_c3) (xp (v:=vp b28 0) 6 rfl (λw=>ao rfl) (xp 7 rfl (λw=>ad jK rfl rfl rfl rfl) ?_))))))
     replace bx30:=bx30.cn ch349
     refine xh 8 [7,6,5,4,2,1,0,3,9,12] rfl (λw' hw'=>af bW rfl (bx30.bel hw') rfl) (xp (v:=vi ↑i_c3) 9 rfl (λw=>au zs3_c3) ?_)
     replace o_b_0:=o_b_0.cn ch349
     refine xh 10 [9,8,7,6,5,4,2,1,0,3,12] rfl (λw' hw'=>ae (v:=b_0_v) (i:=↑i_c3) dB rfl rfl (o_b_0.sl.bel hw') rfl (by omega) (by omega)) ?_
     obtain⟨v351,cel352,r353⟩:=bR (r:=(i_c3:Int)) o_b_0 (by omega) (by omega)
     refine xh 11 [10,9,8,7,6,5,4,2,1,0,3,12] rfl (λw' hw'=>bB bh rfl (eC cel352 hw')) ?_
     refine fV 3 12 rfl rfl (by kernel_rfl) rfl rfl ?_ ?_
     ·
      refine az (v:=b_0_v) (af bW rfl bx30 rfl) (bw 12 rfl (by kernel_rfl) rfl (aM (α:=Int) g344 (is 22) (is 22) (22,0) rfl ([0]:List Int) bf ah (by decide) (by decide) (vs:=[(0,vi 0)]) rfl rfl (.cons rfl .nil) ?_))
      intro g354 w355 v356 ch357 o358
      refine bw 13 rfl (by kernel_rfl) rfl ?_
      replace o_b_0:=o_b_0.cn ch357
      replace r353:=r353.cn ch357
      refine bD (α:=Int) (xs:=(gI L1_c3 ↑i_c3)) (ys:=([0]:List Int)) g354 (J:=row 19 (Int.toNat ↑i_c3+1)) (S:=row 19 (Int.toNat ↑i_c3+1)) (19,Int.toNat ↑i_c3+1) rfl bf ah (by decide) rfl rfl rfl r353 o358.flat (by decide) (by(simp;omega)) ?_
      intro g359 w360 v361 ch362 o363
      have o364:=o_b_0.rowchg ch362
      clear o_b_0 cel352 r353
      obtain⟨us365,hl366,r367⟩:=o364.vc
      try simp only[List.length_set,List.length_append,List.length_cons,List.length_nil] at hl366
      refine xv 14 [13,12,3,11,10,9,8,7,6,5,4,2,1,0] rfl (ae (v:=b_0_v) (i:=↑i_c3) dB rfl rfl r367 rfl (by omega) (by omega)) (bw 15 rfl (by kernel_rfl) rfl (c5 (r:=(i_c3:Int)) bh rfl rfl o364 o363 (by omega) (by omega) ?_))
      intro w371 ch372 o373
      clear o364 o363
      refine c6 (by kernel_rfl) ?_
      have C375:=cg [19] (ch357.n.seq ((ch362.lr rfl).seq (ch372.l rfl)))
      have C374:=ch349.n.seq C375
      exact mid (g359) _ _ ⟨bH.ca C374,zs0_c3,zs3_c3,zs4_c3,Rg.ca C374,o14.ca C374,bx30.ca C375,o373⟩
     ·
      refine aM (α:=Int) g344 (is 22) (is 22) (22,0) rfl ([0]:List Int) bf ah (by decide) (by decide) (vs:=[(0,vi 0)]) rfl rfl (.cons rfl .nil) ?_
      intro g376 w377 v378 ch379 o380
      refine fV 3 13 rfl rfl (by kernel_rfl) rfl rfl ?_ ?_
      ·
       replace bx30:=bx30.cn ch379
       refine az (v:=b_0_v) (af bW rfl bx30 rfl) (bw 13 rfl (by kernel_rfl) rfl ?_)
       replace o_b_0:=o_b_0.cn ch379
       replace r353:=r353.cn ch379
       refine bD (α:=Int) (xs:=(gI L1_c3 ↑i_c3)) (ys:=([0]:List Int)) g376 (J:=row 19 (Int.toNat ↑i_c3+1)) (S:=row 19 (Int.toNat ↑i_c3+1)) (19,Int.toNat ↑i_c3+1) rfl bf ah (by decide) rfl rfl rfl r353 o380.flat (by decide) (by(simp;omega)) ?_
       intro g381 w382 v383 ch384 o385
       have o386:=o_b_0.rowchg ch384
       clear o_b_0 cel352 r353
       obtain⟨us387,hl388,r389⟩:=o386.vc
       try simp only[List.length_set,List.length_append,List.length_cons,List.length_nil] at hl388
       refine xv 14 [13,3,12,11,10,9,8,7,6,5,4,2,1,0] rfl (ae (v:=b_0_v) (i:=↑i_c3) dB rfl rfl r389 rfl (by omega) (by omega)) (bw 15 rfl (by kernel_rfl) rfl (c5 (r:=(i_c3:Int)) bh rfl rfl o386 o385 (by omega) (by omega) ?_))
       intro w393 ch394 o395
       clear o386 o385
       refine c6 (by kernel_rfl) ?_
       have C396:=cg [19] (ch349.n.seq (ch379.n.seq ((ch384.lr rfl).seq (ch394.l rfl))))
       exact mid (g381) _ _ ⟨bH.ca C396,zs0_c3,zs3_c3,zs4_c3,Rg.ca C396,o14.ca C396,(bx30.chg ch384 (fK rfl)).ce ch394,o395⟩
      ·
       replace o_b_0:=o_b_0.cn ch379
       replace r353:=r353.cn ch379
       refine bD (α:=Int) (xs:=(gI L1_c3 ↑i_c3)) (ys:=([0]:List Int)) g376 (J:=row 19 (Int.toNat ↑i_c3+1)) (S:=row 19 (Int.toNat ↑i_c3+1)) (19,Int.toNat ↑i_c3+1) rfl bf ah (by decide) rfl rfl rfl r353 o380.flat (by decide) (by(simp;omega)) ?_
       intro g397 w398 v399 ch400 o401
       have o402:=o_b_0.rowchg ch400
       clear o_b_0 cel352 r353
       replace bx30:=(bx30.cn ch379).chg ch400 (fK rfl)
       refine bw 3 rfl (by kernel_rfl) rfl (az (v:=b_0_v) (af bW rfl bx30 rfl) ?_)
       obtain⟨us403,hl404,r405⟩:=o402.vc
       try simp only[List.length_set,List.length_append,List.length_cons,List.length_nil] at hl404
       refine xv 14 [3,13,12,11,10,9,8,7,6,5,4,2,1,0] rfl (ae (v:=b_0_v) (i:=↑i_c3) dB rfl rfl r405 rfl (by omega) (by omega)) (bw 15 rfl (by kernel_rfl) rfl (c5 (r:=(i_c3:Int)) bh rfl rfl o402 o401 (by omega) (by omega) ?_))
       intro w409 ch410 o411
       clear o402 o401
       refine c6 (by kernel_rfl) ?_
       have C412:=cg [19] (ch349.n.seq (ch379.n.seq ((ch400.lr rfl).seq (ch410.l rfl))))
       exact mid (g397) _ _ ⟨bH.ca C412,zs0_c3,zs3_c3,zs4_c3,Rg.ca C412,o14.ca C412,bx30.ce ch410,o411⟩
    clear Rg o14 bx30 o_b_0 bH
    rintro g415 f413 w414 ⟨bH,zs0_c3,zs3_c3,zs4_c3,Rg,o14,bx30,o371⟩
    refine ak ?_
    refine back5_c3 ((List.set L1_c3 (Int.toNat ↑i_c3) (gI L1_c3 ↑i_c3++([0]:List Int))),g415) _ _ ⟨bH,zs0_c3,zs3_c3,zs4_c3,Rg,o14,bx30,o371,?_⟩ ?_
    · show gL (List.set L1_c3 (Int.toNat ↑i_c3) (gI L1_c3 ↑i_c3++([0]:List Int))) L_c3 i_c3 (min (bT v336:Int) ((List.length (gI L_c3 ↑i_c3):Int)+2000))
      exact hg_c3.next ‹_› ‹_› (by omega)
    · show Int.toNat ((min (bT v336:Int) ((List.length (gI L_c3 ↑i_c3):Int)+2000))-(List.length (gI (List.set L1_c3 (Int.toNat ↑i_c3) (gI L1_c3 ↑i_c3++([0]:List Int))) (i_c3:Int)):Int))<Int.toNat ((min (bT v336:Int) ((List.length (gI L_c3 ↑i_c3):Int)+2000))-(List.length (gI L1_c3 ↑i_c3):Int))
      (have h1:=hg_c3.meas ‹_›;omega)
   refine aj rfl (df p5_c3) (aF rfl (ab ?_))
   clear cel346 r347
   refine a8 rfl (ai 0 (ag (ar ?_)))
   refine bc (σ:=Nat×gC×aJ) (λ⟨k_c3,L2_c3,gq⟩ f w=>bv w0 gq w/\f 0=vp b28 0/\f 3=vi ↑i_c3/\f 5=vi ↑k_c3/\Sl gq (is 0) w g_v g.2/\Ow gq (is 2) (is 2) w (io v13) (g.2++[((-7:Int),(7:Int))])/\Bx gq (is 4) w b28 [b_0_v,vi b_1]/\cP gq 19 w b_0_v L2_c3/\(jU L2_c3 L_c3 i_c3 k_c3)) (λ⟨k_c3,L2_c3,gq⟩=>List.length (gI L2_c3 ↑i_c3)-k_c3) (0,L1_c3,g344) ?_ ?_
   · exact⟨bH,zs0_c3,zs3_c3,rfl,Rg,o14,bx30,o_b_0,by exact hg_c3.wr⟩
   clear Rg o14 bx30 o_b_0 bH
   rintro⟨k_c3,L2_c3,g418⟩ f416 w417 ⟨bH,zs0_c3,zs3_c3,zs5_c3,Rg,o14,bx30,o_b_0,hw_c3⟩ back8_c3
   have hwl_c3:=hw_c3.len
   have hwle_c3:=hw_c3.le
   have hwf_c3:=hw_c3.few
   refine ab (ab (a8 rfl (mz zs5_c3 (mz zs0_c3 (lw (vp b28 0) (ao rfl) (lx (ad jK rfl rfl rfl rfl) (lx (af bW rfl bx30 rfl) (mz zs3_c3 (lx (ae (v:=b_0_v) (i:=↑i_c3) dB rfl rfl o_b_0.sl rfl (by omega) (by omega)) ?_)))))))))
   obtain⟨v419,cel420,r421⟩:=bR (r:=(i_c3:Int)) o_b_0 (by omega) (by omega)
   refine lx (bB bh rfl cel420) ?_
   have len422:=(r421.row_sl).small
   refine lx (bu bf rfl r421.row_sl) (lx (bn (m:=↑k_c3) (n:=(List.length (gI L2_c3 ↑i_c3):Int)) rfl rfl) (ag ?_))
   by_cases p8_c3:(k_c3:Int)<(List.length (gI L2_c3 ↑i_c3):Int)
   ·
    refine al rfl (dt p8_c3) (av (ab (ar ?_)))
    clear cel420 r421
    refine a8 rfl (mz zs0_c3 (lw (vp b28 0) (ao rfl) (lx (ad jK rfl rfl rfl rfl) (lx (af bW rfl bx30 rfl) (mz zs3_c3 (lx (ae (v:=b_0_v) (i:=↑i_c3) dB rfl rfl o_b_0.sl rfl (by omega) (by omega)) ?_))))))
    obtain⟨v423,cel424,r425⟩:=bR (r:=(i_c3:Int)) o_b_0 (by omega) (by omega)
    refine lx (bB bh rfl cel424) (mz zs5_c3 (mz zs3_c3 (lx (dm (m:= -1000) (n:=↑i_c3) rfl rfl (by omega)) (lx (ae (v:=v423) (i:=↑k_c3) bf rfl rfl r425.row_sl rfl (by omega) (by omega)) (lo (aD (i:=↑k_c3) ((-1000)-(i_c3:Int)) ah rfl rfl r425 (by omega) (by omega) rfl ?_))))))
    intro w429 ch430 r431
    obtain⟨o432,cel433⟩:=ul (r:=(i_c3:Int)) o_b_0 (by omega) (by omega) ch430 cel424 r431
    clear o_b_0 cel424 r425
    refine ag (ak ?_)
    clear cel433 r431
    refine a8 rfl (mz zs5_c3 (lx (aG (m:=↑k_c3) (n:=1) rfl rfl (by omega)) (ai ((k_c3:Int)+1) (ag ?_))))
    refine back8_c3 (k_c3+1,(List.set L2_c3 (Int.toNat ↑i_c3) (List.set (gI L2_c3 ↑i_c3) (Int.toNat ↑k_c3) ((-1000)-(i_c3:Int)))),g418) _ _ ⟨bH.chg ch430 (fK rfl),zs0_c3,zs3_c3,rfl,Rg.chg ch430 (fK rfl),o14.chg ch430 (fK rfl) (fK rfl),bx30.chg ch430 (fK rfl),o432,?_⟩ ?_
    · show jU (List.set L2_c3 (Int.toNat ↑i_c3) (List.set (gI L2_c3 ↑i_c3) (Int.toNat ↑k_c3) ((-1000)-(i_c3:Int)))) L_c3 i_c3 (k_c3+1)
      exact(hw_c3.next ‹_› ‹_›).1
    · show List.length (gI (List.set L2_c3 (Int.toNat ↑i_c3) (List.set (gI L2_c3 ↑i_c3) (Int.toNat ↑k_c3) ((-1000)-(i_c3:Int)))) (i_c3:Int))-(k_c3+1)<List.length (gI L2_c3 ↑i_c3)-k_c3
      (have h1:=(hw_c3.next ‹_› ‹_›).2;omega)
   refine aj rfl (df p8_c3) (aF rfl (ak ?_))
   clear cel420 r421
   refine a8 rfl (mz zs3_c3 (lx (aG (m:=↑i_c3) (n:=1) rfl rfl (by omega)) (ai ((i_c3:Int)+1) (ag ?_))))
   refine back2_c3 (i_c3+1,L2_c3,g418) _ _ ⟨bH,zs0_c3,rfl,Rg,o14,bx30,o_b_0,?_⟩ ?_
   · show jI L2_c3 (i_c3+1)
     exact hw_c3.fin ha_c3 ‹_› ‹_›
   · show List.length L2_c3-(i_c3+1)<List.length L_c3-i_c3
     (have h1:=hw_c3.len;omega)
  refine aj rfl (df p2_c3) (aF rfl (ab (ab (a8 rfl (ai 0 (ag (ar ?_)))))))
  refine bc (σ:=Nat×aJ) (λ⟨m_c3,gq⟩ f w=>bv w0 gq w/\f 0=vp b28 0/\f 6=vi ↑m_c3/\Sl gq (is 0) w g_v g.2/\Ow gq (is 2) (is 2) w (io v13) (g.2++[((-7:Int),(7:Int))])/\Bx gq (is 4) w b28 [b_0_v,vi b_1]/\cP gq 19 w b_0_v L_c3/\(m_c3:Int)<=((L_c3.length:Int):Int)/\(True)) (λ⟨m_c3,gq⟩=>Int.toNat (((L_c3.length:Int):Int)-(m_c3:Int))) (0,g328) ?_ ?_
  · exact⟨bH,zs0_c3,rfl,Rg,o14,bx30,o_b_0,by omega,by trivial⟩
  clear Rg o14 bx30 o_b_0 bH
  rintro⟨m_c3,g436⟩ f434 w435 ⟨bH,zs0_c3,zs6_c3,Rg,o14,bx30,o_b_0,hle_m_c3,hinv12_c3⟩ back12_c3
  refine ab (ab (a8 rfl (mz zs6_c3 (mz zs0_c3 (lw (vp b28 0) (ao rfl) (lx (ad jK rfl rfl rfl rfl) (lx (af bW rfl bx30 rfl) (lx (bu dB rfl o_b_0.sl) (lx (bn (m:=↑m_c3) (n:=(L_c3.length:Int)) rfl rfl) (ag ?_))))))))))
  by_cases p12_c3:(m_c3:Int)<(L_c3.length:Int)
  ·
   refine al rfl (dt p12_c3) (av (ab (ar (ab (a8 rfl (ai 0 (ag (ar ?_))))))))
   refine bc (σ:=Nat×aJ) (λ⟨n_c3,gq⟩ f w=>bv w0 gq w/\f 0=vp b28 0/\f 6=vi ↑m_c3/\f 7=vi ↑n_c3/\Sl gq (is 0) w g_v g.2/\Ow gq (is 2) (is 2) w (io v13) (g.2++[((-7:Int),(7:Int))])/\Bx gq (is 4) w b28 [b_0_v,vi b_1]/\cP gq 19 w b_0_v L_c3/\(n_c3:Int)<=((List.length (gI L_c3 ↑m_c3):Int):Int)/\(True)) (λ⟨n_c3,gq⟩=>Int.toNat (((List.length (gI L_c3 ↑m_c3):Int):Int)-(n_c3:Int))) (0,g436) ?_ ?_
   · exact⟨bH,zs0_c3,zs6_c3,rfl,Rg,o14,bx30,o_b_0,by omega,by trivial⟩
   clear Rg o14 bx30 o_b_0 bH
   rintro⟨n_c3,g439⟩ f437 w438 ⟨bH,zs0_c3,zs6_c3,zs7_c3,Rg,o14,bx30,o_b_0,hle_n_c3,hinv15_c3⟩ back15_c3
   refine ab (ab (a8 rfl (mz zs7_c3 (mz zs0_c3 (lw (vp b28 0) (ao rfl) (lx (ad jK rfl rfl rfl rfl) (lx (af bW rfl bx30 rfl) (mz zs6_c3 (lx (ae (v:=b_0_v) (i:=↑m_c3) dB rfl rfl o_b_0.sl rfl (by omega) (by omega)) ?_)))))))))
   obtain⟨v440,cel441,r442⟩:=bR (r:=(m_c3:Int)) o_b_0 (by omega) (by omega)
   refine lx (bB bh rfl cel441) ?_
   have len443:=(r442.row_sl).small
   refine lx (bu bf rfl r442.row_sl) (lx (bn (m:=↑n_c3) (n:=(List.length (gI L_c3 ↑m_c3):Int)) rfl rfl) (ag ?_))
   by_cases p15_c3:(n_c3:Int)<(List.length (gI L_c3 ↑m_c3):Int)
   ·
    refine al rfl (dt p15_c3) (av (ab (ar (ab ?_))))
    clear cel441 r442
    refine a8 rfl (mz zs0_c3 (lw (vp b28 0) (ao rfl) (lx (ad jK rfl rfl rfl rfl) (lx (af bW rfl bx30 rfl) (mz zs6_c3 (lx (ae (v:=b_0_v) (i:=↑m_c3) dB rfl rfl o_b_0.sl rfl (by omega) (by omega)) ?_))))))
    obtain⟨v444,cel445,r446⟩:=bR (r:=(m_c3:Int)) o_b_0 (by omega) (by omega)
    refine lx (bB bh rfl cel445) (mz zs7_c3 (lx (ae (v:=v444) (i:=↑n_c3) bf rfl rfl r446.row_sl rfl (by omega) (by omega)) (lx (aq (v:=v444) (i:=↑n_c3) ah rfl r446.row_sl (by omega) (by omega) (by decide) rfl) (mz zs6_c3 (lx (dm (m:= -1000) (n:=↑m_c3) rfl rfl (by omega)) (lx (dW (m:=(gI (gI L_c3 ↑m_c3) ↑n_c3)) (n:=(-1000)-(m_c3:Int)) rfl rfl) (ag ?_)))))))
    have p17_c3:(gI (gI L_c3 ↑m_c3) ↑n_c3)=((-1000)-(m_c3:Int)):=by exact ha_c3.read (by omega) ‹_› ‹_›
    refine aj rfl (congrArg Bool.not (dt p17_c3)) (av (ak ?_))
    clear cel445 r446
    refine a8 rfl (mz zs7_c3 (lx (aG (m:=↑n_c3) (n:=1) rfl rfl (by omega)) (ai ((n_c3:Int)+1) (ag ?_))))
    refine back15_c3 (n_c3+1,g439) _ _ ⟨bH,zs0_c3,zs6_c3,rfl,Rg,o14,bx30,o_b_0,by omega,?_⟩ ?_
    · show True
      trivial
    · show Int.toNat (((List.length (gI L_c3 ↑m_c3):Int):Int)-((n_c3+1):Int))<Int.toNat (((List.length (gI L_c3 ↑m_c3):Int):Int)-(n_c3:Int))
      omega
   refine aj rfl (df p15_c3) (aF rfl (ak ?_))
   clear cel441 r442
   refine a8 rfl (mz zs6_c3 (lx (aG (m:=↑m_c3) (n:=1) rfl rfl (by omega)) (ai ((m_c3:Int)+1) (ag ?_))))
   refine back12_c3 (m_c3+1,g439) _ _ ⟨bH,zs0_c3,rfl,Rg,o14,bx30,o_b_0,by omega,?_⟩ ?_
   · show True
     trivial
   · show Int.toNat (((L_c3.length:Int):Int)-((m_c3+1):Int))<Int.toNat (((L_c3.length:Int):Int)-(m_c3:Int))
     omega
  refine aj rfl (df p12_c3) (aF rfl (ab (a8 rfl (ma (vb true) (ag (aQ (vs:=[vb true]) Try.func25 (.tmp rfl .nil) ?_))))))
  refine⟨vb true,rfl,?_⟩
  refine ma (vb true) (ag (aQ (vs:=[vb true]) Try.func3 (.tmp rfl .nil) ?_))
  have e0:(true:Bool)=(true):=by
    rfl
  exact⟨rb e0,bH.below⟩
 refine al rfl (congrArg Bool.not (Bool.eq_false_iff.2 p3)) (ab ?_)
 clear bx5
 refine a8 rfl (ma (vb true) (ag (aQ (vs:=[vb true]) Try.func3 (.tmp rfl .nil) ?_)))
 have e0:(true:Bool)=(true):=by
   rfl
 have C447:=cg [] (ch2.n.seq (hb7.n.seq hb9.n))
 replace bH:=bH.ca C447
 exact⟨rb e0,bH.below⟩
end TL
