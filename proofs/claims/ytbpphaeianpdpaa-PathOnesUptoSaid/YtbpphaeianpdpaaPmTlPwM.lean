import Derived.Test.YtbpphaeianpdpaaPmTlP2
import Derived.Test.YtbpphaeianpdpaaPmTlGmA
import Derived.Test.YtbpphaeianpdpaaPmTlGenA
import Derived.Test.YtbpphaeianpdpaaPmTlPwA
import Derived.Test.YtbpphaeianpdpaaPmTlPwF
import Derived.Test.YtbpphaeianpdpaaPmTlPwR
import Derived.Test.YtbpphaeianpdpaaPmTlPwB
import Derived.Test.YtbpphaeianpdpaaPmTlPwX
import Derived.Test.YtbpphaeianpdpaaPmTlPwU
import Derived.Test.YtbpphaeianpdpaaPmTlPwV
import Derived.Test.YtbpphaeianpdpaaProg
import Derived.Test.YtbpphaeianpdpaaPmTlAli
set_option linter.all false
set_option maxRecDepth 20000
namespace TL
open Go Go.Proofs
theorem fq:Try.prog.follows .mixedOrders=true:=by kernel_rfl
theorem oo:Try.f10.body.isNone=false:=rfl
theorem oz:(Try.f10.name== "runtime.NumGoroutine")=false:=by decide+kernel
theorem lk:Try.f32.body.isNone=false:=rfl
theorem lq:(Try.f32.name== "runtime.NumGoroutine")=false:=by decide+kernel
theorem nJ:Try.f33.body.isNone=false:=rfl
theorem py:(Try.f33.name== "runtime.NumGoroutine")=false:=by decide+kernel
theorem pF:Try.f35.body.isNone=false:=rfl
theorem nD:(Try.f35.name== "runtime.NumGoroutine")=false:=by decide+kernel
theorem ks(w0:World)(x:Nat)(hx:x<=az):
    Calls Try.prog 35 #[Value.float .f64 x] w0 (λee w=>ee= .returned (vb false)/\cr w0.heap.size w0 w):=by
 refine am Try.func35 rfl nq ?_
 have bH:=b7.start w0
 have hI:az=9218868437227405312:=rfl
 refine a8 (a7 rfl (ma (vb false) (aa (a8 (a7 rfl (mv (Value.float .f64 x) (lw (Value.int .u64 ((x:Nat):Int)) (fS (a:=x) Try.func52 (by kernel_rfl) (by kernel_rfl) (by kernel_rfl) (by kernel_rfl) rfl) (lw (vi ((x:Nat):Int)) (iS (m:=((x:Nat):Int)) s7 U2 rfl (eB (by omega))) (lx (aX (m:=((x:Nat):Int)) (n:=0) rfl rfl) (ma (vb (decide (((x:Nat):Int)<0))) (aa (ar (vs:=[vb (decide (((x:Nat):Int)<0))]) Try.func35 (.tmp rfl .nil) ?_))))))))))))
 have e0:(decide (((x:Nat):Int)<0):Bool)=(false):=by
   (rw[df (by omega)])
 exact⟨(congrArg (a₁:=decide (((x:Nat):Int)<0)) (λ(z0:Bool)=>Ending.returned (vb z0)) e0),bH.below⟩
set_option maxHeartbeats 8000000 in
theorem jr(w0:World)(g:(Int)×(List Pt))(g_v:Value)(hg_v:Ro w0 g_v g.2)(s:Int)(shut:List Bool)(shut_v:Value)(hshut_v:Ro w0 shut_v shut):
    Calls Try.prog 8 #[vg [vi g.1,g_v],vi s,shut_v] w0 (λee w=>ee= .returned (vb true)/\cr w0.heap.size w0 w):=by
 refine am Try.func8 rfl nq ?_
 have bH:=b7.start w0
 have Rg:=hg_v.sl
 have Rshut:=hshut_v.sl
 refine a8 (a7 rfl (d8 rfl (cW c0 (is 1) (1,0) rfl rfl ?_)))
 intro g4 w1 b3 ch2 bx5
 replace bx5:Bx g4 (is 1) w1 b3 [vi g.1,g_v]:=bx5
 refine ma (vb false) (aa (a8 (a8 (a7 rfl (d8 rfl (bB (v:=vb true) (aE (vals:=[]) Try.func9 qU qI rfl) (lV w1) ?_))))))
 intro w6 hb7
 replace hb7:=aA hb7 g4
 refine lx (e7 (b:=true) rfl) (aa (aj rfl rfl (ap (a8 (a7 rfl ?_)))))
 replace bx5:=bx5.cn hb7
 refine lx (aN (ds:=[vi g.1,g_v]) bv rfl bx5 rfl rfl) (mi s ?_)
 replace Rg:=(Rg.cn ch2).cn hb7
 refine lo (bo (aE (vals:=[vg [vi g.1,g_v],vi s]) Try.func32 lk lq rfl) (gF w6 g g_v (Rg).ro s) ?_)
 rintro⟨d9,v11,v13,v15,v17⟩ w8 ⟨fr10,o12,o14,o16,o18⟩
 obtain⟨g19,ch20,G19⟩:=ky g4 fr10 (λn=>if n=1 then 2 else if n=2 then 3 else if n=3 then 4 else if n=4 then 5 else 0)
 replace o12:=o12.gl G19 2
 replace o14:=o14.gl G19 3
 replace o16:=o16.gl G19 4
 replace o18:=o18.gl G19 5
 refine mv (vt [vg [v11,v13,v15,v17],vi ((ag g s).2)]) (lx (bj rfl rfl) (lx (bj rfl rfl) (lo (bn g19 (is 6) (6,0) rfl bG ?_))))
 intro g24 w21 b23 ch22 bx25
 replace bx25:Bx g24 (is 6) w21 b23 [vn,vn,vn,vn]:=bx25
 refine lo ?_
 replace o18:=o18.cn ch22
 replace o16:=o16.cn ch22
 replace o14:=o14.cn ch22
 replace o12:=o12.cn ch22
 refine aG (cs':=[v11,v13,v15,v17]) bG rfl rfl bx25 rfl nq (AllOne.all (.cons (aP o12.flat) (.cons (aP o14.flat) (.cons (aP o16.flat) (.cons (aP o18.flat) .nil))))) rfl ?_
 intro w26 ch27 bx28
 clear bx25
 refine ai ((ag g s).2) (aa (a8 (a8 (a7 rfl (mi ((ag g s).2) (lx (cY (m:=(ag g s).2) (n:=0) rfl rfl) (mv (vb (!(decide (((ag g s).2)=0)))) ?_)))))))
 by_cases q34:((ag g s).2)=0
 ·
  have C29:=cg [6] (ch20.n.seq (ch22.n.seq (ch27.l rfl)))
  replace bx5:=bx5.ca C29
  refine lv (vg [vi g.1,g_v]) (wy (congrArg Bool.not (dt q34))) (aN (ds:=[vi g.1,g_v]) bv rfl bx5 rfl rfl) ?_
  replace Rg:=Rg.ca C29
  refine d8 (wy (congrArg Bool.not (dt q34))) (bB (v:=vb (decide (g.2.length<=300/\(g.1<=300\/¬aY g)))) (aE (vals:=[vg [vi g.1,g_v]]) Try.func10 oo oz rfl) (me w26 g g_v (Rg).ro) ?_)
  intro w30 hb31
  replace hb31:=aA hb31 g24
  refine lv (vb (!(decide (g.2.length<=300/\(g.1<=300\/¬aY g))))) (wy (congrArg Bool.not (dt q34))) (e7 (b:=(decide (g.2.length<=300/\(g.1<=300\/¬aY g)))) rfl) (lw (vb (!(decide (g.2.length<=300/\(g.1<=300\/¬aY g))))) (aI rfl (congrArg Bool.not (dt q34)) rfl) (aa ?_))
  by_cases p4:(decide (g.2.length<=300/\(g.1<=300\/¬aY g)))=true
  ·
   refine aj rfl (congrArg Bool.not p4) (ap (a8 ?_))
   refine dv (σ:=Value×Value×Value×ay) (λ⟨v35,v40,v45,gq⟩ f w=>b7 w0 gq w/\f 1=vi s/\f 2=shut_v/\f 3=vp b3 0/\f 7=vp b23 0/\f 9=v35/\f 10=v40/\f 11=v45/\Sl gq (is 0) w g_v g.2/\Sl gq (is 0) w shut_v shut/\Bx gq (is 1) w b3 [vi g.1,g_v]/\Ow gq (is 2) (is 2) w v11 (((ag g s).1).1)/\Ow gq (is 3) (is 3) w v13 ((((ag g s).1).2).1)/\Ow gq (is 4) (is 4) w v15 (((((ag g s).1).2).2).1)/\Ow gq (is 5) (is 5) w v17 (((((ag g s).1).2).2).2)/\Bx gq (is 6) w b23 [v11,v13,v15,v17]/\Ow gq (is 7) (is 7) w v35 (List.replicate (Int.toNat (g.2.length:Int)) (0:Nat))/\Ow gq (is 8) (is 8) w v40 (List.replicate (Int.toNat (g.2.length:Int)) (0:Nat))/\Ow gq (is 9) (is 9) w v45 (List.replicate (Int.toNat (g.2.length:Int)) (0:Nat))) g24 [0,1,2,4,5,6,8,9,10,12,13,14] fq ?_ ?_
   ·
    intro mid
    intro w33 ch32
    refine xp 0 rfl (λw=>ad d5 rfl rfl rfl rfl) ?_
    replace bx5:=(bx5.cn hb31).cn ch32
    refine xh 1 [0,4,8,5,9,6,10,7,11] rfl (λw' hw'=>ae bC rfl (bx5.bel hw') rfl) ?_
    replace Rg:=(Rg.cn hb31).cn ch32
    have len34:=(Rg).small
    refine xp 2 rfl (λw=>bA eN rfl Rg) (xp 4 rfl (λw=>ad d5 rfl rfl rfl rfl) (xh 5 [4,2,1,0,3,8,9,12,10,11] rfl (λw' hw'=>ae bC rfl (bx5.bel hw') rfl) (xp 6 rfl (λw=>bA eN rfl Rg) (xp 8 rfl (λw=>ad d5 rfl rfl rfl rfl) (xh 9 [8,6,5,4,2,1,0,3,7,12,13] rfl (λw' hw'=>ae bC rfl (bx5.bel hw') rfl) (xp 10 rfl (λw=>bA eN rfl Rg) ?_))))))
    refine mI 3 [7,11] (by kernel_rfl) ⟨lO 3 rfl (by kernel_rfl) rfl ?_,lO 7 rfl (by kernel_rfl) rfl ?_,lO 11 rfl (by kernel_rfl) rfl ?_,trivial⟩
    ·
     refine bw (α:=Nat) (l:=(g.2.length:Int)) (cp:=(g.2.length:Int)) g24 (is 7) (is 7) (7,0) rfl (0:Nat) cR aF rfl rfl rfl (by omega) (by omega) (by omega) (by omega) ?_
     intro g35 w36 v37 ch38 o39 _
     refine xp (v:=v37) 12 rfl (λw=>aR rfl) ?_
     refine el 7 11 rfl rfl (by kernel_rfl) rfl rfl ?_ ?_
     ·
      refine bw (α:=Nat) (l:=(g.2.length:Int)) (cp:=(g.2.length:Int)) g35 (is 8) (is 8) (8,0) rfl (0:Nat) cR aF rfl rfl rfl (by omega) (by omega) (by omega) (by omega) ?_
      intro g40 w41 v42 ch43 o44 _
      refine xp (v:=v42) 13 rfl (λw=>aR rfl) (aZ 11 rfl (by kernel_rfl) rfl (bw (α:=Nat) (l:=(g.2.length:Int)) (cp:=(g.2.length:Int)) g40 (is 9) (is 9) (9,0) rfl (0:Nat) cR aF rfl rfl rfl (by omega) (by omega) (by omega) (by omega) ?_))
      intro g45 w46 v47 ch48 o49 _
      refine xp (v:=v47) 14 rfl (λw=>aR rfl) (bR (by kernel_rfl) ?_)
      have C52:=cg [6] ((ch27.l rfl).seq (hb31.n.seq (ch32.n.seq (ch38.n.seq (ch43.n.seq ch48.n)))))
      have C50:=ch2.n.seq (hb7.n.seq (ch20.n.seq (ch22.n.seq C52)))
      have C51:=cg [] (ch38.n.seq (ch43.n.seq ch48.n))
      have C53:=hb31.n.seq (ch32.n.seq C51)
      exact mid (v37,v42,v47,g45) _ _ ⟨bH.ca C50,rfl,rfl,rfl,rfl,rfl,rfl,rfl,Rg.ca C51,Rshut.ca C50,bx5.ca C51,o12.ca C52,o14.ca C52,o16.ca C52,o18.ca C52,bx28.ca C53,(o39.cn ch43).cn ch48,o44.cn ch48,o49⟩
     ·
      refine bw (α:=Nat) (l:=(g.2.length:Int)) (cp:=(g.2.length:Int)) g35 (is 9) (is 9) (9,0) rfl (0:Nat) cR aF rfl rfl rfl (by omega) (by omega) (by omega) (by omega) ?_
      intro g54 w55 v56 ch57 o58 _
      refine aZ 7 rfl (by kernel_rfl) rfl (bw (α:=Nat) (l:=(g.2.length:Int)) (cp:=(g.2.length:Int)) g54 (is 8) (is 8) (8,0) rfl (0:Nat) cR aF rfl rfl rfl (by omega) (by omega) (by omega) (by omega) ?_)
      intro g59 w60 v61 ch62 o63 _
      refine xp (v:=v61) 13 rfl (λw=>aR rfl) (xp (v:=v56) 14 rfl (λw=>aR rfl) (bR (by kernel_rfl) ?_))
      have C66:=cg [6] ((ch27.l rfl).seq (hb31.n.seq (ch32.n.seq (ch38.n.seq (ch57.n.seq ch62.n)))))
      have C64:=ch2.n.seq (hb7.n.seq (ch20.n.seq (ch22.n.seq C66)))
      have C65:=cg [] (ch38.n.seq (ch57.n.seq ch62.n))
      have C67:=hb31.n.seq (ch32.n.seq C65)
      exact mid (v37,v61,v56,g59) _ _ ⟨bH.ca C64,rfl,rfl,rfl,rfl,rfl,rfl,rfl,Rg.ca C65,Rshut.ca C64,bx5.ca C65,o12.ca C66,o14.ca C66,o16.ca C66,o18.ca C66,bx28.ca C67,(o39.cn ch57).cn ch62,o63,o58.cn ch62⟩
    ·
     refine bw (α:=Nat) (l:=(g.2.length:Int)) (cp:=(g.2.length:Int)) g24 (is 8) (is 8) (8,0) rfl (0:Nat) cR aF rfl rfl rfl (by omega) (by omega) (by omega) (by omega) ?_
     intro g68 w69 v70 ch71 o72 _
     refine el 3 11 rfl rfl (by kernel_rfl) rfl rfl ?_ ?_
     ·
      refine bw (α:=Nat) (l:=(g.2.length:Int)) (cp:=(g.2.length:Int)) g68 (is 7) (is 7) (7,0) rfl (0:Nat) cR aF rfl rfl rfl (by omega) (by omega) (by omega) (by omega) ?_
      intro g73 w74 v75 ch76 o77 _
      refine xp (v:=v75) 12 rfl (λw=>aR rfl) (xp (v:=v70) 13 rfl (λw=>aR rfl) (aZ 11 rfl (by kernel_rfl) rfl (bw (α:=Nat) (l:=(g.2.length:Int)) (cp:=(g.2.length:Int)) g73 (is 9) (is 9) (9,0) rfl (0:Nat) cR aF rfl rfl rfl (by omega) (by omega) (by omega) (by omega) ?_)))
      intro g78 w79 v80 ch81 o82 _
      refine xp (v:=v80) 14 rfl (λw=>aR rfl) (bR (by kernel_rfl) ?_)
      have C85:=cg [6] ((ch27.l rfl).seq (hb31.n.seq (ch32.n.seq (ch71.n.seq (ch76.n.seq ch81.n)))))
      have C83:=ch2.n.seq (hb7.n.seq (ch20.n.seq (ch22.n.seq C85)))
      have C84:=cg [] (ch71.n.seq (ch76.n.seq ch81.n))
      have C86:=hb31.n.seq (ch32.n.seq C84)
      exact mid (v75,v70,v80,g78) _ _ ⟨bH.ca C83,rfl,rfl,rfl,rfl,rfl,rfl,rfl,Rg.ca C84,Rshut.ca C83,bx5.ca C84,o12.ca C85,o14.ca C85,o16.ca C85,o18.ca C85,bx28.ca C86,o77.cn ch81,(o72.cn ch76).cn ch81,o82⟩
     ·
      refine bw (α:=Nat) (l:=(g.2.length:Int)) (cp:=(g.2.length:Int)) g68 (is 9) (is 9) (9,0) rfl (0:Nat) cR aF rfl rfl rfl (by omega) (by omega) (by omega) (by omega) ?_
      intro g87 w88 v89 ch90 o91 _
      refine aZ 3 rfl (by kernel_rfl) rfl (bw (α:=Nat) (l:=(g.2.length:Int)) (cp:=(g.2.length:Int)) g87 (is 7) (is 7) (7,0) rfl (0:Nat) cR aF rfl rfl rfl (by omega) (by omega) (by omega) (by omega) ?_)
      intro g92 w93 v94 ch95 o96 _
      refine xp (v:=v94) 12 rfl (λw=>aR rfl) (xp (v:=v70) 13 rfl (λw=>aR rfl) (xp (v:=v89) 14 rfl (λw=>aR rfl) (bR (by kernel_rfl) ?_)))
      have C99:=cg [6] ((ch27.l rfl).seq (hb31.n.seq (ch32.n.seq (ch71.n.seq (ch90.n.seq ch95.n)))))
      have C97:=ch2.n.seq (hb7.n.seq (ch20.n.seq (ch22.n.seq C99)))
      have C98:=cg [] (ch71.n.seq (ch90.n.seq ch95.n))
      have C100:=hb31.n.seq (ch32.n.seq C98)
      exact mid (v94,v70,v89,g92) _ _ ⟨bH.ca C97,rfl,rfl,rfl,rfl,rfl,rfl,rfl,Rg.ca C98,Rshut.ca C97,bx5.ca C98,o12.ca C99,o14.ca C99,o16.ca C99,o18.ca C99,bx28.ca C100,o96,(o72.cn ch90).cn ch95,o91.cn ch95⟩
    ·
     refine bw (α:=Nat) (l:=(g.2.length:Int)) (cp:=(g.2.length:Int)) g24 (is 9) (is 9) (9,0) rfl (0:Nat) cR aF rfl rfl rfl (by omega) (by omega) (by omega) (by omega) ?_
     intro g101 w102 v103 ch104 o105 _
     refine el 3 7 rfl rfl (by kernel_rfl) rfl rfl ?_ ?_
     ·
      refine bw (α:=Nat) (l:=(g.2.length:Int)) (cp:=(g.2.length:Int)) g101 (is 7) (is 7) (7,0) rfl (0:Nat) cR aF rfl rfl rfl (by omega) (by omega) (by omega) (by omega) ?_
      intro g106 w107 v108 ch109 o110 _
      refine xp (v:=v108) 12 rfl (λw=>aR rfl) (aZ 7 rfl (by kernel_rfl) rfl (bw (α:=Nat) (l:=(g.2.length:Int)) (cp:=(g.2.length:Int)) g106 (is 8) (is 8) (8,0) rfl (0:Nat) cR aF rfl rfl rfl (by omega) (by omega) (by omega) (by omega) ?_))
      intro g111 w112 v113 ch114 o115 _
      refine xp (v:=v113) 13 rfl (λw=>aR rfl) (xp (v:=v103) 14 rfl (λw=>aR rfl) (bR (by kernel_rfl) ?_))
      have C118:=cg [6] ((ch27.l rfl).seq (hb31.n.seq (ch32.n.seq (ch104.n.seq (ch109.n.seq ch114.n)))))
      have C116:=ch2.n.seq (hb7.n.seq (ch20.n.seq (ch22.n.seq C118)))
      have C117:=cg [] (ch104.n.seq (ch109.n.seq ch114.n))
      have C119:=hb31.n.seq (ch32.n.seq C117)
      exact mid (v108,v113,v103,g111) _ _ ⟨bH.ca C116,rfl,rfl,rfl,rfl,rfl,rfl,rfl,Rg.ca C117,Rshut.ca C116,bx5.ca C117,o12.ca C118,o14.ca C118,o16.ca C118,o18.ca C118,bx28.ca C119,o110.cn ch114,o115,(o105.cn ch109).cn ch114⟩
     ·
      refine bw (α:=Nat) (l:=(g.2.length:Int)) (cp:=(g.2.length:Int)) g101 (is 8) (is 8) (8,0) rfl (0:Nat) cR aF rfl rfl rfl (by omega) (by omega) (by omega) (by omega) ?_
      intro g120 w121 v122 ch123 o124 _
      refine aZ 3 rfl (by kernel_rfl) rfl (bw (α:=Nat) (l:=(g.2.length:Int)) (cp:=(g.2.length:Int)) g120 (is 7) (is 7) (7,0) rfl (0:Nat) cR aF rfl rfl rfl (by omega) (by omega) (by omega) (by omega) ?_)
      intro g125 w126 v127 ch128 o129 _
      refine xp (v:=v127) 12 rfl (λw=>aR rfl) (xp (v:=v122) 13 rfl (λw=>aR rfl) (xp (v:=v103) 14 rfl (λw=>aR rfl) (bR (by kernel_rfl) ?_)))
      have C132:=cg [6] ((ch27.l rfl).seq (hb31.n.seq (ch32.n.seq (ch104.n.seq (ch123.n.seq ch128.n)))))
      have C130:=ch2.n.seq (hb7.n.seq (ch20.n.seq (ch22.n.seq C132)))
      have C131:=cg [] (ch104.n.seq (ch123.n.seq ch128.n))
      have C133:=hb31.n.seq (ch32.n.seq C131)
      exact mid (v127,v122,v103,g125) _ _ ⟨bH.ca C130,rfl,rfl,rfl,rfl,rfl,rfl,rfl,Rg.ca C131,Rshut.ca C130,bx5.ca C131,o12.ca C132,o14.ca C132,o16.ca C132,o18.ca C132,bx28.ca C133,o129,o124.cn ch128,(o105.cn ch123).cn ch128⟩
   clear Rg Rshut bx5 o12 o14 o16 o18 bx28 bH
   rintro⟨v35,v40,v45,g136⟩ f134 w135 ⟨bH,zs1,zs2,zs3,zs7,zs9,zs10,zs11,Rg,Rshut,bx5,o12,o14,o16,o18,bx28,o37,o42,o47⟩
   refine a8 (a7 rfl (ma vn (aa (a8 (a8 (a7 rfl (ai 0 (aa (aq ?_)))))))))
   refine ba (σ:=Nat×Value×(List Int)×(List Nat)×(List Nat)×(List Nat)×ay) (λ⟨i,open__v,open_,on,ze,so,gq⟩ f w=>b7 w0 gq w/\f 1=vi s/\f 2=shut_v/\f 3=vp b3 0/\f 7=vp b23 0/\f 9=v35/\f 10=v40/\f 11=v45/\f 12=open__v/\f 13=vi ↑i/\Sl gq (is 0) w g_v g.2/\Sl gq (is 0) w shut_v shut/\Bx gq (is 1) w b3 [vi g.1,g_v]/\Ow gq (is 2) (is 2) w v11 (((ag g s).1).1)/\Ow gq (is 3) (is 3) w v13 ((((ag g s).1).2).1)/\Ow gq (is 4) (is 4) w v15 (((((ag g s).1).2).2).1)/\Ow gq (is 5) (is 5) w v17 (((((ag g s).1).2).2).2)/\Bx gq (is 6) w b23 [v11,v13,v15,v17]/\Ow gq (is 7) (is 7) w v35 on/\Ow gq (is 8) (is 8) w v40 ze/\Ow gq (is 9) (is 9) w v45 so/\Ow gq (is 11) (is 11) w open__v open_/\(i:Int)<=((g.2.length:Int):Int)/\(gp g on ze so open_ i)) (λ⟨i,open__v,open_,on,ze,so,gq⟩=>g.2.length-i) (0,vn,[],(List.replicate (Int.toNat (g.2.length:Int)) (0:Nat)),(List.replicate (Int.toNat (g.2.length:Int)) (0:Nat)),(List.replicate (Int.toNat (g.2.length:Int)) (0:Nat)),g136) ?_ ?_
   · exact⟨bH,zs1,zs2,zs3,zs7,zs9,zs10,zs11,rfl,rfl,Rg,Rshut,bx5,o12,o14,o16,o18,bx28,o37,o42,o47,Ow.nil,by omega,by exact gp.start⟩
   clear Rg Rshut bx5 o12 o14 o16 o18 bx28 o37 o42 o47 bH
   rintro⟨i,open__v,open_,on,ze,so,g139⟩ f137 w138 ⟨bH,zs1,zs2,zs3,zs7,zs9,zs10,zs11,zs12,zs13,Rg,Rshut,bx5,o12,o14,o16,o18,bx28,o37,o42,o47,o_open_,hle_i,hon⟩ back9
   have hol1:=hon.l1
   have hol2:=hon.l2
   have hol3:=hon.l3
   have hol4:=hon.lo
   refine a8 (a8 (a7 rfl (mz zs13 (lx (ad d5 rfl rfl zs3 rfl) (lx (ae bC rfl bx5 rfl) ?_)))))
   have len140:=(Rg).small
   refine lx (bA eN rfl Rg) (lx (aX (m:=↑i) (n:=(g.2.length:Int)) rfl rfl) (aa ?_))
   by_cases p9:(i:Int)<(g.2.length:Int)
   ·
    refine ah rfl (dt p9) (ap (a8 (aq (a8 (a7 rfl (mz zs9 (mz zs13 (lx (ab (v:=v35) (i:=↑i) cR rfl rfl o37.flat rfl (by omega) (by omega)) (lo (aJ (i:=↑i) 4607182418800017408 aF rfl rfl o37 (by omega) (by omega) rfl ?_))))))))))
    intro w141 ch142 bx143
    clear o37
    refine aa (a8 (a7 rfl (mz zs11 (mz zs13 ?_))))
    replace o47:=o47.ce ch142
    refine lx (ab (v:=v45) (i:=↑i) cR rfl rfl o47.flat rfl (by omega) (by omega)) (lo (aJ (i:=↑i) 4607182418800017408 aF rfl rfl o47 (by omega) (by omega) rfl ?_))
    intro w144 ch145 bx146
    clear o47
    refine aa (a8 (a8 (a7 rfl (mz zs13 (lx (gT (m:=↑i) (n:=2) rfl rfl (by omega) (by omega)) (lx (en (m:=(i:Int)%2) (n:=0) rfl rfl) (aa ?_)))))))
    by_cases p13:((i:Int)%2)=0
    ·
     refine ah rfl (dt p13) (a7 rfl (mz zs10 (mz zs13 (lo (bl (aE (vals:=[Value.float .f64 0,Value.float .f64 13830554455654793216]) Try.func33 nJ py rfl) (am Try.func33 rfl nq (a8 (a7 rfl (ma (Value.float .f64 0) (aa (a8 (a7 rfl ?_))))))))))))
     refine mv (Value.float .f64 0) (lw (Value.int .u64 0) (fS (a:=0) Try.func52 (by kernel_rfl) (by kernel_rfl) (by kernel_rfl) (by kernel_rfl) rfl) (lw (Value.int .u64 0) (kd (op:=.andNot) (m:=0) (n:=9223372036854775808) rfl rfl rfl) (mv (Value.float .f64 13830554455654793216) (lw (Value.int .u64 13830554455654793216) (fS (a:=13830554455654793216) Try.func52 (by kernel_rfl) (by kernel_rfl) (by kernel_rfl) (by kernel_rfl) rfl) (lw (Value.int .u64 9223372036854775808) (kd (op:=.and) (m:=13830554455654793216) (n:=9223372036854775808) rfl rfl rfl) (lw (Value.int .u64 9223372036854775808) (kd (op:=.or) (m:=0) (n:=9223372036854775808) rfl rfl rfl) (lw (Value.float .f64 9223372036854775808) (eZ (n:=9223372036854775808) Try.func37 (by kernel_rfl) (by kernel_rfl) (by kernel_rfl) (by kernel_rfl) rfl) ?_)))))))
     refine ma (Value.float .f64 9223372036854775808) (aa (ar (vs:=[Value.float .f64 9223372036854775808]) Try.func33 (.tmp rfl .nil) ?_))
     refine⟨Value.float .f64 9223372036854775808,rfl,?_⟩
     replace o42:=(o42.ce ch142).ce ch145
     refine lx (ab (v:=v40) (i:=↑i) cR rfl rfl o42.flat rfl (by omega) (by omega)) (lo (aJ (i:=↑i) 9223372036854775808 aF rfl rfl o42 (by omega) (by omega) rfl ?_))
     intro w147 ch148 bx149
     clear o42
     refine aa (a8 (a7 rfl (mz zs13 (mz zs2 ?_))))
     have C150:=cg [7,8,9] ((ch142.l rfl).seq ((ch145.l rfl).seq (ch148.l rfl)))
     replace Rshut:=Rshut.ca C150
     have len151:=(Rshut).small
     refine lx (bA qf rfl Rshut) (lx (aX (m:=↑i) (n:=(shut.length:Int)) rfl rfl) (mv (vb (decide ((i:Int)<(shut.length:Int)))) ?_))
     by_cases q75:(i:Int)<(shut.length:Int)
     ·
      refine lv (shut_v) (wy (dt q75)) (al zs2) (lv (vi ↑i) (wy (dt q75)) (al zs13) (lv (Value.pointer (some (aL shut_v 1 (Int.toNat ↑i)))) (wy (dt q75)) (ab (α:=Bool) (xs:=shut) (v:=shut_v) (i:=↑i) qf rfl rfl Rshut rfl (by omega) (by omega)) (lv (vb (gI shut ↑i)) (wy (dt q75)) (aw (α:=Bool) (xs:=shut) (v:=shut_v) (i:=↑i) gV rfl Rshut (by omega) (by omega) (by decide) rfl) (lw (vb (gI shut ↑i)) (aH rfl (dt q75) rfl) (aa ?_)))))
      by_cases p15:(gI shut ↑i)=true
      ·
       refine ah rfl p15 (a7 rfl (mz zs11 (mz zs13 (lo (bB (v:=Value.float .f64 az) (aE (vals:=[vi 1]) Try.func34 iy iP rfl) (kh w147 1 (by omega)) ?_)))))
       intro w152 hb153
       replace hb153:=aA hb153 g139
       replace bx146:=(bx146.ce ch148).cn hb153
       refine lx (ab (v:=v45) (i:=↑i) cR rfl rfl bx146.flat rfl (by omega) (by(simp only[List.length_set,List.length_append,List.length_cons,List.length_nil,List.length_replicate,List.length_map,List.length_take,List.length_drop];omega))) (lo (aJ (i:=↑i) az aF rfl rfl bx146 (by omega) (by(simp only[List.length_set,List.length_append,List.length_cons,List.length_nil,List.length_replicate,List.length_map,List.length_take,List.length_drop];omega)) rfl ?_))
       intro w154 ch155 bx156
       clear bx146
       refine aa (au (a7 rfl (mz zs13 (lx (bg (m:=↑i) (n:=1) rfl rfl (by omega)) (ai ((i:Int)+1) (aa ?_))))))
       have C157:=cg [7,8,9] ((ch142.l rfl).seq ((ch145.l rfl).seq ((ch148.l rfl).seq (hb153.n.seq (ch155.l rfl)))))
       have C158:=cg [8,9] ((ch145.l rfl).seq ((ch148.l rfl).seq (hb153.n.seq (ch155.l rfl))))
       refine back9 (i+1,open__v,open_,(List.set on (Int.toNat ↑i) 4607182418800017408),(List.set ze (Int.toNat ↑i) 9223372036854775808),(List.set (List.set so (Int.toNat ↑i) 4607182418800017408) (Int.toNat ↑i) az),g139) _ _ ⟨bH.ca C157,zs1,zs2,zs3,zs7,zs9,zs10,zs11,zs12,rfl,Rg.ca C157,(Rshut.cn hb153).ce ch155,bx5.ca C157,o12.ca C157,o14.ca C157,o16.ca C157,o18.ca C157,bx28.ca C157,bx143.ca C158,(bx149.cn hb153).ce ch155,bx156,o_open_.ca C157,by omega,?_⟩ ?_
       · show gp g (List.set on (Int.toNat ↑i) 4607182418800017408) (List.set ze (Int.toNat ↑i) 9223372036854775808) (List.set (List.set so (Int.toNat ↑i) 4607182418800017408) (Int.toNat ↑i) az) open_ (i+1)
         exact hon.shut_ (hon.z1 _) ‹_›
       · show g.2.length-(i+1)<g.2.length-i
         omega
      refine aj rfl (Bool.eq_false_iff.2 p15) (a7 rfl (mz zs12 (mz zs13 (lo (aQ (α:=Int) g139 (is 10) (is 10) (10,0) rfl ([(i:Int)]:List Int) bQ ax (by decide) (by decide) (vs:=[(0,vi ↑i)]) rfl rfl (.cons rfl .nil) ?_)))))
      intro g159 w160 v161 ch162 o163
      refine lo ?_
      have C164:=cg [7,8,9] ((ch142.l rfl).seq ((ch145.l rfl).seq ((ch148.l rfl).seq ch162.n)))
      replace o_open_:=o_open_.ca C164
      refine bI (α:=Int) (xs:=open_) (ys:=([(i:Int)]:List Int)) g159 (J:=is 11) (S:=is 11) (11,0) rfl bQ ax (by decide) rfl rfl rfl o_open_ o163.flat (by decide) (by(simp;omega)) ?_
      intro g165 w166 v167 ch168 o169
      clear o_open_
      refine ma v167 (aa (au ?_))
      clear o163
      refine a7 rfl (mz zs13 (lx (bg (m:=↑i) (n:=1) rfl rfl (by omega)) (ai ((i:Int)+1) (aa ?_))))
      have C170:=cg [7,8,9,11] ((ch142.l rfl).seq ((ch145.l rfl).seq ((ch148.l rfl).seq (ch162.n.seq (ch168.l rfl)))))
      have C171:=cg [8,9,11] ((ch145.l rfl).seq ((ch148.l rfl).seq (ch162.n.seq (ch168.l rfl))))
      have C172:=cg [8,11] ((ch148.l rfl).seq (ch162.n.seq (ch168.l rfl)))
      refine back9 (i+1,v167,(open_++([(i:Int)]:List Int)),(List.set on (Int.toNat ↑i) 4607182418800017408),(List.set ze (Int.toNat ↑i) 9223372036854775808),(List.set so (Int.toNat ↑i) 4607182418800017408),g165) _ _ ⟨bH.ca C170,zs1,zs2,zs3,zs7,zs9,zs10,zs11,rfl,rfl,Rg.ca C170,(Rshut.cn ch162).ce ch168,bx5.ca C170,o12.ca C170,o14.ca C170,o16.ca C170,o18.ca C170,bx28.ca C170,bx143.ca C171,(bx149.cn ch162).ce ch168,bx146.ca C172,o169,by omega,?_⟩ ?_
      · show gp g (List.set on (Int.toNat ↑i) 4607182418800017408) (List.set ze (Int.toNat ↑i) 9223372036854775808) (List.set so (Int.toNat ↑i) 4607182418800017408) (open_++([(i:Int)]:List Int)) (i+1)
        exact hon.open_ (hon.z1 _) ‹_›
      · show g.2.length-(i+1)<g.2.length-i
        omega
     refine ak (wn (df q75)) (ak (wn (df q75)) (ak (wn (df q75)) (ak (wn (df q75)) (lw (vb false) (aI rfl (df q75) rfl) (aa (aj rfl rfl (a7 rfl (mz zs12 (mz zs13 ?_)))))))))
     refine lo (aQ (α:=Int) g139 (is 10) (is 10) (10,0) rfl ([(i:Int)]:List Int) bQ ax (by decide) (by decide) (vs:=[(0,vi ↑i)]) rfl rfl (.cons rfl .nil) ?_)
     intro g173 w174 v175 ch176 o177
     refine lo ?_
     have C178:=cg [7,8,9] ((ch142.l rfl).seq ((ch145.l rfl).seq ((ch148.l rfl).seq ch176.n)))
     replace o_open_:=o_open_.ca C178
     refine bI (α:=Int) (xs:=open_) (ys:=([(i:Int)]:List Int)) g173 (J:=is 11) (S:=is 11) (11,0) rfl bQ ax (by decide) rfl rfl rfl o_open_ o177.flat (by decide) (by(simp;omega)) ?_
     intro g179 w180 v181 ch182 o183
     clear o_open_
     refine ma v181 (aa (au ?_))
     clear o177
     refine a7 rfl (mz zs13 (lx (bg (m:=↑i) (n:=1) rfl rfl (by omega)) (ai ((i:Int)+1) (aa ?_))))
     have C184:=cg [7,8,9,11] ((ch142.l rfl).seq ((ch145.l rfl).seq ((ch148.l rfl).seq (ch176.n.seq (ch182.l rfl)))))
     have C185:=cg [8,9,11] ((ch145.l rfl).seq ((ch148.l rfl).seq (ch176.n.seq (ch182.l rfl))))
     have C186:=cg [8,11] ((ch148.l rfl).seq (ch176.n.seq (ch182.l rfl)))
     refine back9 (i+1,v181,(open_++([(i:Int)]:List Int)),(List.set on (Int.toNat ↑i) 4607182418800017408),(List.set ze (Int.toNat ↑i) 9223372036854775808),(List.set so (Int.toNat ↑i) 4607182418800017408),g179) _ _ ⟨bH.ca C184,zs1,zs2,zs3,zs7,zs9,zs10,zs11,rfl,rfl,Rg.ca C184,(Rshut.cn ch176).ce ch182,bx5.ca C184,o12.ca C184,o14.ca C184,o16.ca C184,o18.ca C184,bx28.ca C184,bx143.ca C185,(bx149.cn ch176).ce ch182,bx146.ca C186,o183,by omega,?_⟩ ?_
     · show gp g (List.set on (Int.toNat ↑i) 4607182418800017408) (List.set ze (Int.toNat ↑i) 9223372036854775808) (List.set so (Int.toNat ↑i) 4607182418800017408) (open_++([(i:Int)]:List Int)) (i+1)
       exact hon.open_ (hon.z1 _) ‹_›
     · show g.2.length-(i+1)<g.2.length-i
       omega
    refine aj rfl (df p13) (ap (a8 (a7 rfl (mz zs13 (mz zs2 ?_)))))
    replace Rshut:=(Rshut.ce ch142).ce ch145
    have len187:=(Rshut).small
    refine lx (bA qf rfl Rshut) (lx (aX (m:=↑i) (n:=(shut.length:Int)) rfl rfl) (mv (vb (decide ((i:Int)<(shut.length:Int)))) ?_))
    by_cases q75:(i:Int)<(shut.length:Int)
    ·
     refine lv (shut_v) (wy (dt q75)) (al zs2) (lv (vi ↑i) (wy (dt q75)) (al zs13) (lv (Value.pointer (some (aL shut_v 1 (Int.toNat ↑i)))) (wy (dt q75)) (ab (α:=Bool) (xs:=shut) (v:=shut_v) (i:=↑i) qf rfl rfl Rshut rfl (by omega) (by omega)) (lv (vb (gI shut ↑i)) (wy (dt q75)) (aw (α:=Bool) (xs:=shut) (v:=shut_v) (i:=↑i) gV rfl Rshut (by omega) (by omega) (by decide) rfl) (lw (vb (gI shut ↑i)) (aH rfl (dt q75) rfl) (aa ?_)))))
     by_cases p15:(gI shut ↑i)=true
     ·
      refine ah rfl p15 (a7 rfl (mz zs11 (mz zs13 (lo (bB (v:=Value.float .f64 az) (aE (vals:=[vi 1]) Try.func34 iy iP rfl) (kh w144 1 (by omega)) ?_)))))
      intro w188 hb189
      replace hb189:=aA hb189 g139
      replace bx146:=bx146.cn hb189
      refine lx (ab (v:=v45) (i:=↑i) cR rfl rfl bx146.flat rfl (by omega) (by(simp only[List.length_set,List.length_append,List.length_cons,List.length_nil,List.length_replicate,List.length_map,List.length_take,List.length_drop];omega))) (lo (aJ (i:=↑i) az aF rfl rfl bx146 (by omega) (by(simp only[List.length_set,List.length_append,List.length_cons,List.length_nil,List.length_replicate,List.length_map,List.length_take,List.length_drop];omega)) rfl ?_))
      intro w190 ch191 bx192
      clear bx146
      refine aa (au (a7 rfl (mz zs13 (lx (bg (m:=↑i) (n:=1) rfl rfl (by omega)) (ai ((i:Int)+1) (aa ?_))))))
      have C193:=cg [7,9] ((ch142.l rfl).seq ((ch145.l rfl).seq (hb189.n.seq (ch191.l rfl))))
      have C194:=cg [9] ((ch145.l rfl).seq (hb189.n.seq (ch191.l rfl)))
      refine back9 (i+1,open__v,open_,(List.set on (Int.toNat ↑i) 4607182418800017408),ze,(List.set (List.set so (Int.toNat ↑i) 4607182418800017408) (Int.toNat ↑i) az),g139) _ _ ⟨bH.ca C193,zs1,zs2,zs3,zs7,zs9,zs10,zs11,zs12,rfl,Rg.ca C193,(Rshut.cn hb189).ce ch191,bx5.ca C193,o12.ca C193,o14.ca C193,o16.ca C193,o18.ca C193,bx28.ca C193,bx143.ca C194,o42.ca C193,bx192,o_open_.ca C193,by omega,?_⟩ ?_
      · show gp g (List.set on (Int.toNat ↑i) 4607182418800017408) ze (List.set (List.set so (Int.toNat ↑i) 4607182418800017408) (Int.toNat ↑i) az) open_ (i+1)
        exact hon.shut_ hon.z0 ‹_›
      · show g.2.length-(i+1)<g.2.length-i
        omega
     refine aj rfl (Bool.eq_false_iff.2 p15) (a7 rfl (mz zs12 (mz zs13 (lo (aQ (α:=Int) g139 (is 10) (is 10) (10,0) rfl ([(i:Int)]:List Int) bQ ax (by decide) (by decide) (vs:=[(0,vi ↑i)]) rfl rfl (.cons rfl .nil) ?_)))))
     intro g195 w196 v197 ch198 o199
     refine lo ?_
     have C200:=cg [7,9] ((ch142.l rfl).seq ((ch145.l rfl).seq ch198.n))
     replace o_open_:=o_open_.ca C200
     refine bI (α:=Int) (xs:=open_) (ys:=([(i:Int)]:List Int)) g195 (J:=is 11) (S:=is 11) (11,0) rfl bQ ax (by decide) rfl rfl rfl o_open_ o199.flat (by decide) (by(simp;omega)) ?_
     intro g201 w202 v203 ch204 o205
     clear o_open_
     refine ma v203 (aa (au ?_))
     clear o199
     refine a7 rfl (mz zs13 (lx (bg (m:=↑i) (n:=1) rfl rfl (by omega)) (ai ((i:Int)+1) (aa ?_))))
     have C206:=cg [7,9,11] ((ch142.l rfl).seq ((ch145.l rfl).seq (ch198.n.seq (ch204.l rfl))))
     have C207:=cg [9,11] ((ch145.l rfl).seq (ch198.n.seq (ch204.l rfl)))
     refine back9 (i+1,v203,(open_++([(i:Int)]:List Int)),(List.set on (Int.toNat ↑i) 4607182418800017408),ze,(List.set so (Int.toNat ↑i) 4607182418800017408),g201) _ _ ⟨bH.ca C206,zs1,zs2,zs3,zs7,zs9,zs10,zs11,rfl,rfl,Rg.ca C206,(Rshut.cn ch198).ce ch204,bx5.ca C206,o12.ca C206,o14.ca C206,o16.ca C206,o18.ca C206,bx28.ca C206,bx143.ca C207,o42.ca C206,(bx146.cn ch198).ce ch204,o205,by omega,?_⟩ ?_
     · show gp g (List.set on (Int.toNat ↑i) 4607182418800017408) ze (List.set so (Int.toNat ↑i) 4607182418800017408) (open_++([(i:Int)]:List Int)) (i+1)
       exact hon.open_ hon.z0 ‹_›
     · show g.2.length-(i+1)<g.2.length-i
       omega
    refine ak (wn (df q75)) (ak (wn (df q75)) (ak (wn (df q75)) (ak (wn (df q75)) (lw (vb false) (aI rfl (df q75) rfl) (aa (aj rfl rfl (a7 rfl (mz zs12 (mz zs13 ?_)))))))))
    refine lo (aQ (α:=Int) g139 (is 10) (is 10) (10,0) rfl ([(i:Int)]:List Int) bQ ax (by decide) (by decide) (vs:=[(0,vi ↑i)]) rfl rfl (.cons rfl .nil) ?_)
    intro g208 w209 v210 ch211 o212
    refine lo ?_
    have C213:=cg [7,9] ((ch142.l rfl).seq ((ch145.l rfl).seq ch211.n))
    replace o_open_:=o_open_.ca C213
    refine bI (α:=Int) (xs:=open_) (ys:=([(i:Int)]:List Int)) g208 (J:=is 11) (S:=is 11) (11,0) rfl bQ ax (by decide) rfl rfl rfl o_open_ o212.flat (by decide) (by(simp;omega)) ?_
    intro g214 w215 v216 ch217 o218
    clear o_open_
    refine ma v216 (aa (au ?_))
    clear o212
    refine a7 rfl (mz zs13 (lx (bg (m:=↑i) (n:=1) rfl rfl (by omega)) (ai ((i:Int)+1) (aa ?_))))
    have C219:=cg [7,9,11] ((ch142.l rfl).seq ((ch145.l rfl).seq (ch211.n.seq (ch217.l rfl))))
    have C220:=cg [9,11] ((ch145.l rfl).seq (ch211.n.seq (ch217.l rfl)))
    refine back9 (i+1,v216,(open_++([(i:Int)]:List Int)),(List.set on (Int.toNat ↑i) 4607182418800017408),ze,(List.set so (Int.toNat ↑i) 4607182418800017408),g214) _ _ ⟨bH.ca C219,zs1,zs2,zs3,zs7,zs9,zs10,zs11,rfl,rfl,Rg.ca C219,(Rshut.cn ch211).ce ch217,bx5.ca C219,o12.ca C219,o14.ca C219,o16.ca C219,o18.ca C219,bx28.ca C219,bx143.ca C220,o42.ca C219,(bx146.cn ch211).ce ch217,o218,by omega,?_⟩ ?_
    · show gp g (List.set on (Int.toNat ↑i) 4607182418800017408) ze (List.set so (Int.toNat ↑i) 4607182418800017408) (open_++([(i:Int)]:List Int)) (i+1)
      exact hon.open_ hon.z0 ‹_›
    · show g.2.length-(i+1)<g.2.length-i
      omega
   refine aj rfl (df p9) (aO rfl (a8 ?_))
   have hD:=hon.done (s:=s) ‹_› (by omega) q34
   have hm:=hD.may
   have hmz:=hm
   obtain⟨hm1,hm2,hm3,hm4⟩:=hmz
   have hkk0:=hD.k0
   have hkk1:=hD.k1
   have hkk2:=hD.k2
   have hkk3:=hD.k3
   have hkk4:((ag (b9 g open_).1 s).1.2.2.1.length:Int)=g.1:=by rw[hD.sub];exact hD.k4
   refine a7 rfl (lx (aN (ds:=[vi g.1,g_v]) bv zs3 bx5 rfl rfl) (mz zs9 (mz zs1 (lo (bo (aE (vals:=[vg [vi g.1,g_v],v35,vi s]) Try.func12 gw go rfl) (fB w138 g g_v (Rg).ro on v35 (o37.flat).ro s) ?_)))))
   rintro⟨d222,v224,v226⟩ w221 ⟨fr223,o225,o227⟩
   obtain⟨g228,ch229,G228⟩:=ky g139 fr223 (λn=>if n=1 then 12 else if n=2 then 13 else 0)
   replace o225:=o225.gl G228 12
   replace o227:=o227.gl G228 13
   refine mv (vt [vg [v224,v226],vi ((av g on s).2)]) (lx (bj rfl rfl) (lx (bj rfl rfl) (lo (bn g228 (is 14) (14,0) rfl bb ?_))))
   intro g233 w230 b232 ch231 bx234
   replace bx234:Bx g233 (is 14) w230 b232 [vn,vn]:=bx234
   refine lo ?_
   replace o227:=o227.cn ch231
   replace o225:=o225.cn ch231
   refine aG (cs':=[v224,v226]) bb rfl rfl bx234 rfl nq (AllOne.all (.cons (aP o225.flat) (.cons (aP o227.flat) .nil))) rfl ?_
   intro w235 ch236 bx237
   clear bx234
   refine ai ((av g on s).2) (aa (a8 ?_))
   clear o37
   refine a7 rfl ?_
   have C238:=cg [14] (ch229.n.seq (ch231.n.seq (ch236.l rfl)))
   replace bx5:=bx5.ca C238
   refine lx (aN (ds:=[vi g.1,g_v]) bv zs3 bx5 rfl rfl) (mz zs10 (mz zs1 ?_))
   replace Rg:=Rg.ca C238
   replace o42:=o42.ca C238
   refine lo (bo (aE (vals:=[vg [vi g.1,g_v],v40,vi s]) Try.func12 gw go rfl) (fB w235 g g_v (Rg).ro ze v40 (o42.flat).ro s) ?_)
   rintro⟨d240,v242,v244⟩ w239 ⟨fr241,o243,o245⟩
   obtain⟨g246,ch247,G246⟩:=ky g233 fr241 (λn=>if n=1 then 15 else if n=2 then 16 else 0)
   replace o243:=o243.gl G246 15
   replace o245:=o245.gl G246 16
   refine mv (vt [vg [v242,v244],vi ((av g ze s).2)]) (lx (bj rfl rfl) (lx (bj rfl rfl) (lo (bn g246 (is 17) (17,0) rfl bb ?_))))
   intro g251 w248 b250 ch249 bx252
   replace bx252:Bx g251 (is 17) w248 b250 [vn,vn]:=bx252
   refine lo ?_
   replace o245:=o245.cn ch249
   replace o243:=o243.cn ch249
   refine aG (cs':=[v242,v244]) bb rfl rfl bx252 rfl nq (AllOne.all (.cons (aP o243.flat) (.cons (aP o245.flat) .nil))) rfl ?_
   intro w253 ch254 bx255
   clear bx252
   refine ai ((av g ze s).2) (aa (a8 ?_))
   clear o42
   refine a7 rfl ?_
   have C256:=cg [17] (ch247.n.seq (ch249.n.seq (ch254.l rfl)))
   replace bx5:=bx5.ca C256
   refine lx (aN (ds:=[vi g.1,g_v]) bv zs3 bx5 rfl rfl) (mz zs11 (mz zs1 ?_))
   replace Rg:=Rg.ca C256
   have C257:=cg [14,17] (ch229.n.seq (ch231.n.seq ((ch236.l rfl).seq (ch247.n.seq (ch249.n.seq (ch254.l rfl))))))
   replace o47:=o47.ca C257
   refine lo (bo (aE (vals:=[vg [vi g.1,g_v],v45,vi s]) Try.func12 gw go rfl) (fB w253 g g_v (Rg).ro so v45 (o47.flat).ro s) ?_)
   rintro⟨d259,v261,v263⟩ w258 ⟨fr260,o262,o264⟩
   obtain⟨g265,ch266,G265⟩:=ky g251 fr260 (λn=>if n=1 then 18 else if n=2 then 19 else 0)
   replace o262:=o262.gl G265 18
   replace o264:=o264.gl G265 19
   refine mv (vt [vg [v261,v263],vi ((av g so s).2)]) (lx (bj rfl rfl) (lx (bj rfl rfl) (lo (bn g265 (is 20) (20,0) rfl bb ?_))))
   intro g270 w267 b269 ch268 bx271
   replace bx271:Bx g270 (is 20) w267 b269 [vn,vn]:=bx271
   refine lo ?_
   replace o264:=o264.cn ch268
   replace o262:=o262.cn ch268
   refine aG (cs':=[v261,v263]) bb rfl rfl bx271 rfl nq (AllOne.all (.cons (aP o262.flat) (.cons (aP o264.flat) .nil))) rfl ?_
   intro w272 ch273 bx274
   clear bx271
   refine ai ((av g so s).2) (aa (a8 ?_))
   clear o47
   refine a7 rfl ?_
   have C275:=cg [20] (ch266.n.seq (ch268.n.seq (ch273.l rfl)))
   replace bx5:=bx5.ca C275
   refine lx (aN (ds:=[vi g.1,g_v]) bv zs3 bx5 rfl rfl) (mz zs12 ?_)
   replace Rg:=Rg.ca C275
   have C276:=cg [14,17,20] (ch229.n.seq (ch231.n.seq ((ch236.l rfl).seq (ch247.n.seq (ch249.n.seq ((ch254.l rfl).seq (ch266.n.seq (ch268.n.seq (ch273.l rfl)))))))))
   replace o_open_:=o_open_.ca C276
   refine lo (bo (aE (vals:=[vg [vi g.1,g_v],open__v]) Try.func30 nB o1 rfl) (pa w272 g g_v (Rg).ro open_ open__v (o_open_.flat).ro (by exact hm)) ?_)
   rintro⟨d278,v280⟩ w277 ⟨fr279,o281⟩
   obtain⟨g282,ch283,G282⟩:=ky g270 fr279 (λn=>if n=1 then 21 else 0)
   replace o281:=o281.gl G282 21
   refine mv (vt [vg [vi (((b9 g open_).1).1),v280],vi ((b9 g open_).2)]) (lx (bj rfl rfl) (lx (bj rfl rfl) (lo (bn g282 (is 22) (22,0) rfl bv ?_))))
   intro g287 w284 b286 ch285 bx288
   replace bx288:Bx g287 (is 22) w284 b286 [vi 0,vn]:=bx288
   refine lo ?_
   replace o281:=o281.cn ch285
   refine aG (cs':=[vi (((b9 g open_).1).1),v280]) bv rfl rfl bx288 rfl nq (AllOne.all (.cons rfl (.cons (aP o281.flat) .nil))) rfl ?_
   intro w289 ch290 bx291
   clear bx288
   refine ai ((b9 g open_).2) (aa (a8 ?_))
   clear o_open_
   refine a7 rfl (lx (aN (ds:=[vi (((b9 g open_).1).1),v280]) bv rfl bx291 rfl rfl) (mz zs1 ?_))
   replace o281:=o281.ce ch290
   refine lo (bo (aE (vals:=[vg [vi (((b9 g open_).1).1),v280],vi s]) Try.func32 lk lq rfl) (gF w289 ((b9 g open_).1) v280 (o281.flat).ro s) ?_)
   rintro⟨d293,v295,v297,v299,v301⟩ w292 ⟨fr294,o296,o298,o300,o302⟩
   obtain⟨g303,ch304,G303⟩:=ky g287 fr294 (λn=>if n=1 then 23 else if n=2 then 24 else if n=3 then 25 else if n=4 then 26 else 0)
   replace o296:=o296.gl G303 23
   replace o298:=o298.gl G303 24
   replace o300:=o300.gl G303 25
   replace o302:=o302.gl G303 26
   refine mv (vt [vg [v295,v297,v299,v301],vi ((ag ((b9 g open_).1) s).2)]) (lx (bj rfl rfl) (lx (bj rfl rfl) (lo (bn g303 (is 27) (27,0) rfl bG ?_))))
   intro g308 w305 b307 ch306 bx309
   replace bx309:Bx g308 (is 27) w305 b307 [vn,vn,vn,vn]:=bx309
   refine lo ?_
   replace o302:=o302.cn ch306
   replace o300:=o300.cn ch306
   replace o298:=o298.cn ch306
   replace o296:=o296.cn ch306
   refine aG (cs':=[v295,v297,v299,v301]) bG rfl rfl bx309 rfl nq (AllOne.all (.cons (aP o296.flat) (.cons (aP o298.flat) (.cons (aP o300.flat) (.cons (aP o302.flat) .nil))))) rfl ?_
   intro w310 ch311 bx312
   clear bx309
   refine ai ((ag ((b9 g open_).1) s).2) (aa (a8 (a8 ?_)))
   clear o281 bx291
   refine a7 rfl (mi ((av g on s).2) (lx (cY (m:=(av g on s).2) (n:=0) rfl rfl) (mv (vb (!(decide (((av g on s).2)=0)))) ?_)))
   have q124:((av g on s).2)=0:=by exact hD.e1
   refine lv (vi ((av g ze s).2)) (wy (congrArg Bool.not (dt q124))) (al rfl) (lv (vb (!(decide (((av g ze s).2)=0)))) (wy (congrArg Bool.not (dt q124))) (cY (m:=(av g ze s).2) (n:=0) rfl rfl) (lw (vb (!(decide (((av g ze s).2)=0)))) (aI rfl (congrArg Bool.not (dt q124)) rfl) (mv (vb (!(decide (((av g ze s).2)=0)))) ?_)))
   have q128:((av g ze s).2)=0:=by exact hD.e2
   refine lv (vi ((av g so s).2)) (wy (congrArg Bool.not (dt q128))) (al rfl) (lv (vb (!(decide (((av g so s).2)=0)))) (wy (congrArg Bool.not (dt q128))) (cY (m:=(av g so s).2) (n:=0) rfl rfl) (lw (vb (!(decide (((av g so s).2)=0)))) (aI rfl (congrArg Bool.not (dt q128)) rfl) (mv (vb (!(decide (((av g so s).2)=0)))) ?_)))
   have q132:((av g so s).2)=0:=by exact hD.e3
   refine lv (vi ((ag ((b9 g open_).1) s).2)) (wy (congrArg Bool.not (dt q132))) (al rfl) (lv (vb (!(decide (((ag ((b9 g open_).1) s).2)=0)))) (wy (congrArg Bool.not (dt q132))) (cY (m:=(ag ((b9 g open_).1) s).2) (n:=0) rfl rfl) (lw (vb (!(decide (((ag ((b9 g open_).1) s).2)=0)))) (aI rfl (congrArg Bool.not (dt q132)) rfl) (aa ?_)))
   have p23:((ag ((b9 g open_).1) s).2)=0:=by(rw[hD.sub];exact hD.e4)
   refine aj rfl (congrArg Bool.not (dt p23)) (ap (a8 (a8 (a7 rfl (ai 0 (aa (aq ?_)))))))
   refine ba (σ:=Nat×ay) (λ⟨v,gq⟩ f w=>b7 w0 gq w/\f 3=vp b3 0/\f 7=vp b23 0/\f 14=vp b232 0/\f 15=vp b250 0/\f 17=vp b269 0/\f 21=vp b307 0/\f 23=vi ↑v/\Sl gq (is 0) w g_v g.2/\Sl gq (is 0) w shut_v shut/\Bx gq (is 1) w b3 [vi g.1,g_v]/\Ow gq (is 2) (is 2) w v11 (((ag g s).1).1)/\Ow gq (is 3) (is 3) w v13 ((((ag g s).1).2).1)/\Ow gq (is 4) (is 4) w v15 (((((ag g s).1).2).2).1)/\Ow gq (is 5) (is 5) w v17 (((((ag g s).1).2).2).2)/\Bx gq (is 6) w b23 [v11,v13,v15,v17]/\Ow gq (is 12) (is 12) w v224 (((av g on s).1).1)/\Ow gq (is 13) (is 13) w v226 (((av g on s).1).2)/\Bx gq (is 14) w b232 [v224,v226]/\Ow gq (is 15) (is 15) w v242 (((av g ze s).1).1)/\Ow gq (is 16) (is 16) w v244 (((av g ze s).1).2)/\Bx gq (is 17) w b250 [v242,v244]/\Ow gq (is 18) (is 18) w v261 (((av g so s).1).1)/\Ow gq (is 19) (is 19) w v263 (((av g so s).1).2)/\Bx gq (is 20) w b269 [v261,v263]/\Ow gq (is 23) (is 23) w v295 (((ag ((b9 g open_).1) s).1).1)/\Ow gq (is 24) (is 24) w v297 ((((ag ((b9 g open_).1) s).1).2).1)/\Ow gq (is 25) (is 25) w v299 (((((ag ((b9 g open_).1) s).1).2).2).1)/\Ow gq (is 26) (is 26) w v301 (((((ag ((b9 g open_).1) s).1).2).2).2)/\Bx gq (is 27) w b307 [v295,v297,v299,v301]/\(v:Int)<=(g.1:Int)/\(True)) (λ⟨v,gq⟩=>g.1.toNat-v) (0,g308) ?_ ?_
   have C315:=cg [14,17,20,22,27] ((ch236.l rfl).seq (ch247.n.seq (ch249.n.seq ((ch254.l rfl).seq (ch266.n.seq (ch268.n.seq ((ch273.l rfl).seq (ch283.n.seq (ch285.n.seq ((ch290.l rfl).seq (ch304.n.seq (ch306.n.seq (ch311.l rfl)))))))))))))
   have C313:=ch229.n.seq (ch231.n.seq C315)
   have C314:=cg [22,27] (ch283.n.seq (ch285.n.seq ((ch290.l rfl).seq (ch304.n.seq (ch306.n.seq (ch311.l rfl))))))
   have C317:=cg [17,20,22,27] ((ch254.l rfl).seq (ch266.n.seq (ch268.n.seq ((ch273.l rfl).seq (ch283.n.seq (ch285.n.seq ((ch290.l rfl).seq (ch304.n.seq (ch306.n.seq (ch311.l rfl))))))))))
   have C316:=ch247.n.seq (ch249.n.seq C317)
   have C319:=cg [20,22,27] ((ch273.l rfl).seq (ch283.n.seq (ch285.n.seq ((ch290.l rfl).seq (ch304.n.seq (ch306.n.seq (ch311.l rfl)))))))
   have C318:=ch266.n.seq (ch268.n.seq C319)
   · exact⟨bH.ca C313,zs3,zs7,rfl,rfl,rfl,rfl,rfl,Rg.ca C314,Rshut.ca C313,bx5.ca C314,o12.ca C313,o14.ca C313,o16.ca C313,o18.ca C313,bx28.ca C313,o225.ca C315,o227.ca C315,bx237.ca C316,o243.ca C317,o245.ca C317,bx255.ca C318,o262.ca C319,o264.ca C319,bx274.ca C314,o296.ce ch311,o298.ce ch311,o300.ce ch311,o302.ce ch311,bx312,by omega,by trivial⟩
   clear Rg Rshut bx5 o12 o14 o16 o18 bx28 o225 o227 bx237 o243 o245 bx255 o262 o264 bx274 o296 o298 o300 o302 bx312 bH
   rintro⟨v,g322⟩ f320 w321 ⟨bH,zs3,zs7,zs14,zs15,zs17,zs21,zs23,Rg,Rshut,bx5,o12,o14,o16,o18,bx28,o225,o227,bx237,o243,o245,bx255,o262,o264,bx274,o296,o298,o300,o302,bx312,hle_v,hiv⟩ back26
   refine a8 (a8 (a7 rfl (mz zs23 (lx (ad d5 rfl rfl zs3 rfl) (lx (ae ax rfl bx5 rfl) (lx (aX (m:=↑v) (n:=g.1) rfl rfl) (aa ?_)))))))
   by_cases p26:(v:Int)<g.1
   ·
    refine ah rfl (dt p26) ?_
    have hv1:=hD.v1 (v:Int) ⟨by omega,by assumption⟩
    have hv2:=hD.v2 (v:Int) ⟨by omega,by assumption⟩
    have hv3:pP (gI (ag (b9 g open_).1 s).1.2.2.1 (v:Int)) (gI (av g so s).1.1 (v:Int)):=by rw[hD.sub];exact hD.v3 (v:Int) ⟨by omega,by assumption⟩
    have hn1:=hD.n1 (v:Int)
    have hn2:=hD.n2 (v:Int)
    have hn3:=hD.n3 (v:Int)
    refine ap (a8 (aq (a8 (a8 (cd g322 rfl fq (by kernel_rfl) ?_)))))
    intro w324 ch323
    refine qx (λw' hw'=>ad ji rfl rfl zs7 rfl) ?_
    replace bx28:=bx28.cn ch323
    refine qx (λw' hw'=>ae bL rfl (bx28.bel hw') rfl) (qz zs23 ?_)
    replace o16:=o16.cn ch323
    refine qx (λw' hw'=>ab (v:=v15) (i:=↑v) bQ rfl rfl (o16.flat.bel hw') rfl (by omega) (by omega)) (qx (λw' hw'=>aw (v:=v15) (i:=↑v) ax rfl (o16.flat.bel hw') (by omega) (by omega) (by decide) rfl) (qx (λw' hw'=>aX (m:=(gI (((((ag g s).1).2).2).1) (v:Int))) (n:=0) rfl rfl) (qx (λw' hw'=>ad h8 rfl rfl zs14 rfl) ?_)))
    replace bx237:=bx237.cn ch323
    refine qx (λw' hw'=>ae c9 rfl (bx237.bel hw') rfl) (qz zs23 ?_)
    replace o225:=o225.cn ch323
    refine qx (λw' hw'=>ab (v:=v224) (i:=↑v) cR rfl rfl (o225.flat.bel hw') rfl (by omega) (by omega)) (qx (λw' hw'=>aw (v:=v224) (i:=↑v) aF rfl (o225.flat.bel hw') (by omega) (by omega) (by decide) rfl) (eX (v:=vb (ck (gI (((av g on s).1).1) (v:Int)) 9218868437227405311)) rfl (λw' hw'=>aE (vals:=[Value.float .f64 (gI (((av g on s).1).1) (v:Int)),vi 1]) Try.func25 gc gm rfl) (λw' hw'=>(dK w' (gI (((av g on s).1).1) (v:Int)) 1 (by rfl)).mono λe w2 h2=>⟨h2.1,hw'.trans (h2.2.mono hw'.size)⟩) (qv (vb (!(decide ((decide ((gI (((((ag g s).1).2).2).1) (v:Int))<0))=(ck (gI (((av g on s).1).1) (v:Int)) 9218868437227405311))))) (λw' hw'=>eW U4 rfl rfl) ?_)))
    refine qm (vb (!(decide ((decide ((gI (((((ag g s).1).2).2).1) (v:Int))<0))=(ck (gI (((av g on s).1).1) (v:Int)) 9218868437227405311))))) ?_
    have q155:(decide ((gI (((((ag g s).1).2).2).1) (v:Int))<0))=(ck (gI (((av g on s).1).1) (v:Int)) 9218868437227405311):=by exact hv1.iff hn1
    refine aB (v:=vp b23 2) (wy (congrArg Bool.not (dt q155))) (λw' hw'=>ad ji rfl rfl zs7 rfl) (aB (v:=v15) (wy (congrArg Bool.not (dt q155))) (λw' hw'=>ae bL rfl (bx28.bel hw') rfl) (aB (v:=vi ↑v) (wy (congrArg Bool.not (dt q155))) (λw' hw'=>al zs23) (aB (v:=Value.pointer (some (aL v15 1 (Int.toNat ↑v)))) (wy (congrArg Bool.not (dt q155))) (λw' hw'=>ab (α:=Int) (xs:=((((ag g s).1).2).2).1) (v:=v15) (i:=↑v) bQ rfl rfl (o16.flat.bel hw') rfl (by omega) (by omega)) ?_)))
    refine aB (v:=vi (gI (((((ag g s).1).2).2).1) (v:Int))) (wy (congrArg Bool.not (dt q155))) (λw' hw'=>aw (α:=Int) (xs:=((((ag g s).1).2).2).1) (v:=v15) (i:=↑v) ax rfl (o16.flat.bel hw') (by omega) (by omega) (by decide) rfl) (aB (v:=vb (decide (0<=(gI (((((ag g s).1).2).2).1) (v:Int))))) (wy (congrArg Bool.not (dt q155))) (λw' hw'=>d7 (m:=(gI (((((ag g s).1).2).2).1) (v:Int))) (n:=0) rfl rfl) (aB (v:=vb (decide (0<=(gI (((((ag g s).1).2).2).1) (v:Int))))) (wy (congrArg Bool.not (dt q155))) (λw' hw'=>al rfl) ?_))
    by_cases q162:0<=(gI (((((ag g s).1).2).2).1) (v:Int))
    ·
     refine aB (v:=vp b232 0) (wy (dt q162)) (λw' hw'=>ad h8 rfl rfl zs14 rfl) (aB (v:=v224) (wy (dt q162)) (λw' hw'=>ae c9 rfl (bx237.bel hw') rfl) (aB (v:=vi ↑v) (wy (dt q162)) (λw' hw'=>al zs23) (aB (v:=Value.pointer (some (aL v224 1 (Int.toNat ↑v)))) (wy (dt q162)) (λw' hw'=>ab (α:=Nat) (xs:=((av g on s).1).1) (v:=v224) (i:=↑v) cR rfl rfl (o225.flat.bel hw') rfl (by omega) (by omega)) ?_)))
     refine aB (v:=Value.float .f64 (gI (((av g on s).1).1) (v:Int))) (wy (dt q162)) (λw' hw'=>aw (α:=Nat) (xs:=((av g on s).1).1) (v:=v224) (i:=↑v) aF rfl (o225.flat.bel hw') (by omega) (by omega) (by decide) rfl) (aB (v:=vp b23 2) (wy (dt q162)) (λw' hw'=>ad ji rfl rfl zs7 rfl) (aB (v:=v15) (wy (dt q162)) (λw' hw'=>ae bL rfl (bx28.bel hw') rfl) (aB (v:=vi ↑v) (wy (dt q162)) (λw' hw'=>al zs23) ?_)))
     refine aB (v:=Value.pointer (some (aL v15 1 (Int.toNat ↑v)))) (wy (dt q162)) (λw' hw'=>ab (α:=Int) (xs:=((((ag g s).1).2).2).1) (v:=v15) (i:=↑v) bQ rfl rfl (o16.flat.bel hw') rfl (by omega) (by omega)) (aB (v:=vi (gI (((((ag g s).1).2).2).1) (v:Int))) (wy (dt q162)) (λw' hw'=>aw (α:=Int) (xs:=((((ag g s).1).2).2).1) (v:=v15) (i:=↑v) ax rfl (o16.flat.bel hw') (by omega) (by omega) (by decide) rfl) (aB (v:=Value.float .f64 (cV (gI (((((ag g s).1).2).2).1) (v:Int)))) (wy (dt q162)) (λw' hw'=>mN (m:=(gI (((((ag g s).1).2).2).1) (v:Int))) U3 rP rfl) ?_))
     have nn325:cV (gI (((((ag g s).1).2).2).1) (v:Int))<=az:=iF (by omega)
     refine aB (v:=vb (!(decide ((gI (((av g on s).1).1) (v:Int))=(cV (gI (((((ag g s).1).2).2).1) (v:Int))))))) (wy (dt q162)) (λw' hw'=>gS (a:=(gI (((av g on s).1).1) (v:Int))) (b:=(cV (gI (((((ag g s).1).2).2).1) (v:Int)))) rfl rfl ‹_› ‹_›) (aB (v:=vb (!(decide ((gI (((av g on s).1).1) (v:Int))=(cV (gI (((((ag g s).1).2).2).1) (v:Int))))))) (wy (dt q162)) (λw' hw'=>al rfl) ?_)
     have q175:(gI (((av g on s).1).1) (v:Int))=(cV (gI (((((ag g s).1).2).2).1) (v:Int))):=by exact hv1.eq (by omega)
     refine aB (v:=vp b250 0) (wy (congrArg Bool.not (dt q175))) (λw' hw'=>ad h8 rfl rfl zs15 rfl) ?_
     replace bx255:=bx255.cn ch323
     refine aB (v:=v242) (wy (congrArg Bool.not (dt q175))) (λw' hw'=>ae c9 rfl (bx255.bel hw') rfl) (aB (v:=vi ↑v) (wy (congrArg Bool.not (dt q175))) (λw' hw'=>al zs23) ?_)
     replace o243:=o243.cn ch323
     refine aB (v:=Value.pointer (some (aL v242 1 (Int.toNat ↑v)))) (wy (congrArg Bool.not (dt q175))) (λw' hw'=>ab (α:=Nat) (xs:=((av g ze s).1).1) (v:=v242) (i:=↑v) cR rfl rfl (o243.flat.bel hw') rfl (by omega) (by omega)) (aB (v:=Value.float .f64 (gI (((av g ze s).1).1) (v:Int))) (wy (congrArg Bool.not (dt q175))) (λw' hw'=>aw (α:=Nat) (xs:=((av g ze s).1).1) (v:=v242) (i:=↑v) aF rfl (o243.flat.bel hw') (by omega) (by omega) (by decide) rfl) (aB (v:=vb (!(decide ((gI (((av g ze s).1).1) (v:Int))=0)))) (wy (congrArg Bool.not (dt q175))) (λw' hw'=>gS (a:=(gI (((av g ze s).1).1) (v:Int))) (b:=0) rfl rfl ‹_› (by decide)) ?_))
     refine aB (v:=vb (!(decide ((gI (((av g ze s).1).1) (v:Int))=0)))) (wy (dt q162)) (λw' hw'=>aI rfl (congrArg Bool.not (dt q175)) rfl) (aB (v:=vb (!(decide ((gI (((av g ze s).1).1) (v:Int))=0)))) (wy (dt q162)) (λw' hw'=>al rfl) ?_)
     have q183:(gI (((av g ze s).1).1) (v:Int))=0:=by exact hv2 (by omega)
     refine aB (v:=vp b250 0) (wy (congrArg Bool.not (dt q183))) (λw' hw'=>ad h8 rfl rfl zs15 rfl) (aB (v:=v242) (wy (congrArg Bool.not (dt q183))) (λw' hw'=>ae c9 rfl (bx255.bel hw') rfl) (aB (v:=vi ↑v) (wy (congrArg Bool.not (dt q183))) (λw' hw'=>al zs23) (aB (v:=Value.pointer (some (aL v242 1 (Int.toNat ↑v)))) (wy (congrArg Bool.not (dt q183))) (λw' hw'=>ab (α:=Nat) (xs:=((av g ze s).1).1) (v:=v242) (i:=↑v) cR rfl rfl (o243.flat.bel hw') rfl (by omega) (by omega)) ?_)))
     refine aB (v:=Value.float .f64 (gI (((av g ze s).1).1) (v:Int))) (wy (congrArg Bool.not (dt q183))) (λw' hw'=>aw (α:=Nat) (xs:=((av g ze s).1).1) (v:=v242) (i:=↑v) aF rfl (o243.flat.bel hw') (by omega) (by omega) (by decide) rfl) (eX (v:=vb false) (wy (congrArg Bool.not (dt q183))) (λw' hw'=>aE (vals:=[Value.float .f64 (gI (((av g ze s).1).1) (v:Int))]) Try.func35 pF nD rfl) (λw' hw'=>(ks w' (gI (((av g ze s).1).1) (v:Int)) (by exact hn2)).mono λe w2 h2=>⟨h2.1,hw'.trans (h2.2.mono hw'.size)⟩) (aB (v:=vb false) (wy (dt q162)) (λw' hw'=>aI rfl (congrArg Bool.not (dt q183)) rfl) ?_))
     refine aB (v:=vb false) (wy (congrArg Bool.not (dt q155))) (λw' hw'=>aH rfl (dt q162) rfl) (qv (vb false) (λw' hw'=>aI rfl (congrArg Bool.not (dt q155)) rfl) (d4 ?_))
     intro w326 hc327
     replace hc327:=aA hc327 g322
     refine aj rfl rfl (ap (a8 (cd g322 rfl fq (by kernel_rfl) ?_)))
     intro w329 ch328
     refine qx (λw' hw'=>ad ji rfl rfl zs21 rfl) ?_
     have C330:=cg [] (ch323.n.seq (hc327.n.seq ch328.n))
     replace bx312:=bx312.ca C330
     refine qx (λw' hw'=>ae bL rfl (bx312.bel hw') rfl) (qz zs23 ?_)
     replace o300:=o300.ca C330
     refine qx (λw' hw'=>ab (v:=v299) (i:=↑v) bQ rfl rfl (o300.flat.bel hw') rfl (by omega) (by omega)) (qx (λw' hw'=>aw (v:=v299) (i:=↑v) ax rfl (o300.flat.bel hw') (by omega) (by omega) (by decide) rfl) (qx (λw' hw'=>aX (m:=(gI (((((ag ((b9 g open_).1) s).1).2).2).1) (v:Int))) (n:=0) rfl rfl) (qx (λw' hw'=>ad h8 rfl rfl zs17 rfl) ?_)))
     replace bx274:=bx274.ca C330
     refine qx (λw' hw'=>ae c9 rfl (bx274.bel hw') rfl) (qz zs23 ?_)
     replace o262:=o262.ca C330
     refine qx (λw' hw'=>ab (v:=v261) (i:=↑v) cR rfl rfl (o262.flat.bel hw') rfl (by omega) (by omega)) (qx (λw' hw'=>aw (v:=v261) (i:=↑v) aF rfl (o262.flat.bel hw') (by omega) (by omega) (by decide) rfl) (eX (v:=vb (ck (gI (((av g so s).1).1) (v:Int)) 9218868437227405311)) rfl (λw' hw'=>aE (vals:=[Value.float .f64 (gI (((av g so s).1).1) (v:Int)),vi 1]) Try.func25 gc gm rfl) (λw' hw'=>(dK w' (gI (((av g so s).1).1) (v:Int)) 1 (by rfl)).mono λe w2 h2=>⟨h2.1,hw'.trans (h2.2.mono hw'.size)⟩) (qv (vb (!(decide ((decide ((gI (((((ag ((b9 g open_).1) s).1).2).2).1) (v:Int))<0))=(ck (gI (((av g so s).1).1) (v:Int)) 9218868437227405311))))) (λw' hw'=>eW U4 rfl rfl) ?_)))
     refine qm (vb (!(decide ((decide ((gI (((((ag ((b9 g open_).1) s).1).2).2).1) (v:Int))<0))=(ck (gI (((av g so s).1).1) (v:Int)) 9218868437227405311))))) ?_
     have q206:(decide ((gI (((((ag ((b9 g open_).1) s).1).2).2).1) (v:Int))<0))=(ck (gI (((av g so s).1).1) (v:Int)) 9218868437227405311):=by exact hv3.iff hn3
     refine aB (v:=vp b307 2) (wy (congrArg Bool.not (dt q206))) (λw' hw'=>ad ji rfl rfl zs21 rfl) (aB (v:=v299) (wy (congrArg Bool.not (dt q206))) (λw' hw'=>ae bL rfl (bx312.bel hw') rfl) (aB (v:=vi ↑v) (wy (congrArg Bool.not (dt q206))) (λw' hw'=>al zs23) (aB (v:=Value.pointer (some (aL v299 1 (Int.toNat ↑v)))) (wy (congrArg Bool.not (dt q206))) (λw' hw'=>ab (α:=Int) (xs:=((((ag ((b9 g open_).1) s).1).2).2).1) (v:=v299) (i:=↑v) bQ rfl rfl (o300.flat.bel hw') rfl (by omega) (by omega)) ?_)))
     refine aB (v:=vi (gI (((((ag ((b9 g open_).1) s).1).2).2).1) (v:Int))) (wy (congrArg Bool.not (dt q206))) (λw' hw'=>aw (α:=Int) (xs:=((((ag ((b9 g open_).1) s).1).2).2).1) (v:=v299) (i:=↑v) ax rfl (o300.flat.bel hw') (by omega) (by omega) (by decide) rfl) (aB (v:=vb (decide (0<=(gI (((((ag ((b9 g open_).1) s).1).2).2).1) (v:Int))))) (wy (congrArg Bool.not (dt q206))) (λw' hw'=>d7 (m:=(gI (((((ag ((b9 g open_).1) s).1).2).2).1) (v:Int))) (n:=0) rfl rfl) (aB (v:=vb (decide (0<=(gI (((((ag ((b9 g open_).1) s).1).2).2).1) (v:Int))))) (wy (congrArg Bool.not (dt q206))) (λw' hw'=>al rfl) ?_))
     by_cases q213:0<=(gI (((((ag ((b9 g open_).1) s).1).2).2).1) (v:Int))
     ·
      refine aB (v:=vp b269 0) (wy (dt q213)) (λw' hw'=>ad h8 rfl rfl zs17 rfl) (aB (v:=v261) (wy (dt q213)) (λw' hw'=>ae c9 rfl (bx274.bel hw') rfl) (aB (v:=vi ↑v) (wy (dt q213)) (λw' hw'=>al zs23) (aB (v:=Value.pointer (some (aL v261 1 (Int.toNat ↑v)))) (wy (dt q213)) (λw' hw'=>ab (α:=Nat) (xs:=((av g so s).1).1) (v:=v261) (i:=↑v) cR rfl rfl (o262.flat.bel hw') rfl (by omega) (by omega)) ?_)))
      refine aB (v:=Value.float .f64 (gI (((av g so s).1).1) (v:Int))) (wy (dt q213)) (λw' hw'=>aw (α:=Nat) (xs:=((av g so s).1).1) (v:=v261) (i:=↑v) aF rfl (o262.flat.bel hw') (by omega) (by omega) (by decide) rfl) (aB (v:=vp b307 2) (wy (dt q213)) (λw' hw'=>ad ji rfl rfl zs21 rfl) (aB (v:=v299) (wy (dt q213)) (λw' hw'=>ae bL rfl (bx312.bel hw') rfl) (aB (v:=vi ↑v) (wy (dt q213)) (λw' hw'=>al zs23) ?_)))
      refine aB (v:=Value.pointer (some (aL v299 1 (Int.toNat ↑v)))) (wy (dt q213)) (λw' hw'=>ab (α:=Int) (xs:=((((ag ((b9 g open_).1) s).1).2).2).1) (v:=v299) (i:=↑v) bQ rfl rfl (o300.flat.bel hw') rfl (by omega) (by omega)) (aB (v:=vi (gI (((((ag ((b9 g open_).1) s).1).2).2).1) (v:Int))) (wy (dt q213)) (λw' hw'=>aw (α:=Int) (xs:=((((ag ((b9 g open_).1) s).1).2).2).1) (v:=v299) (i:=↑v) ax rfl (o300.flat.bel hw') (by omega) (by omega) (by decide) rfl) ?_)
      refine aB (v:=Value.float .f64 (cV (gI (((((ag ((b9 g open_).1) s).1).2).2).1) (v:Int)))) (wy (dt q213)) (λw' hw'=>mN (m:=(gI (((((ag ((b9 g open_).1) s).1).2).2).1) (v:Int))) U3 rP rfl) ?_
      have nn331:cV (gI (((((ag ((b9 g open_).1) s).1).2).2).1) (v:Int))<=az:=iF (by omega)
      refine aB (v:=vb (!(decide ((gI (((av g so s).1).1) (v:Int))=(cV (gI (((((ag ((b9 g open_).1) s).1).2).2).1) (v:Int))))))) (wy (dt q213)) (λw' hw'=>gS (a:=(gI (((av g so s).1).1) (v:Int))) (b:=(cV (gI (((((ag ((b9 g open_).1) s).1).2).2).1) (v:Int)))) rfl rfl ‹_› ‹_›) (aB (v:=vb (!(decide ((gI (((av g so s).1).1) (v:Int))=(cV (gI (((((ag ((b9 g open_).1) s).1).2).2).1) (v:Int))))))) (wy (congrArg Bool.not (dt q206))) (λw' hw'=>aH rfl (dt q213) rfl) (qv (vb (!(decide ((gI (((av g so s).1).1) (v:Int))=(cV (gI (((((ag ((b9 g open_).1) s).1).2).2).1) (v:Int))))))) (λw' hw'=>aI rfl (congrArg Bool.not (dt q206)) rfl) (d4 ?_)))
      intro w332 hc333
      replace hc333:=aA hc333 g322
      have p30:(gI (((av g so s).1).1) (v:Int))=(cV (gI (((((ag ((b9 g open_).1) s).1).2).2).1) (v:Int))):=by exact hv3.eq (by omega)
      refine aj rfl (congrArg Bool.not (dt p30)) (ap (au (a7 rfl (mz zs23 (lx (bg (m:=↑v) (n:=1) rfl rfl (by omega)) (ai ((v:Int)+1) (aa ?_)))))))
      have C335:=cg [] (hc327.n.seq (ch328.n.seq hc333.n))
      have C334:=ch323.n.seq C335
      refine back26 (v+1,g322) _ _ ⟨bH.ca C334,zs3,zs7,zs14,zs15,zs17,zs21,rfl,Rg.ca C334,Rshut.ca C334,bx5.ca C334,o12.ca C334,o14.ca C334,o16.ca C335,o18.ca C334,bx28.ca C335,o225.ca C335,o227.ca C334,bx237.ca C335,o243.ca C335,o245.ca C334,bx255.ca C335,o262.cn hc333,o264.ca C334,bx274.cn hc333,o296.ca C334,o298.ca C334,o300.cn hc333,o302.ca C334,bx312.cn hc333,by omega,?_⟩ ?_
      · show True
        trivial
      · show g.1.toNat-(v+1)<g.1.toNat-v
        omega
     refine aC (wn (df q213)) (aC (wn (df q213)) (aC (wn (df q213)) (aC (wn (df q213)) (aC (wn (df q213)) (aC (wn (df q213)) (aC (wn (df q213)) (aC (wn (df q213)) (aC (wn (df q213)) (aC (wn (df q213)) ?_)))))))))
     refine aC (wn (df q213)) (aC (wn (df q213)) (aB (v:=vb false) (wy (congrArg Bool.not (dt q206))) (λw' hw'=>aI rfl (df q213) rfl) (qv (vb false) (λw' hw'=>aI rfl (congrArg Bool.not (dt q206)) rfl) (d4 ?_))))
     intro w336 hc337
     replace hc337:=aA hc337 g322
     refine aj rfl rfl (ap (au (a7 rfl (mz zs23 (lx (bg (m:=↑v) (n:=1) rfl rfl (by omega)) (ai ((v:Int)+1) (aa ?_)))))))
     have C339:=cg [] (hc327.n.seq (ch328.n.seq hc337.n))
     have C338:=ch323.n.seq C339
     refine back26 (v+1,g322) _ _ ⟨bH.ca C338,zs3,zs7,zs14,zs15,zs17,zs21,rfl,Rg.ca C338,Rshut.ca C338,bx5.ca C338,o12.ca C338,o14.ca C338,o16.ca C339,o18.ca C338,bx28.ca C339,o225.ca C339,o227.ca C338,bx237.ca C339,o243.ca C339,o245.ca C338,bx255.ca C339,o262.cn hc337,o264.ca C338,bx274.cn hc337,o296.ca C338,o298.ca C338,o300.cn hc337,o302.ca C338,bx312.cn hc337,by omega,?_⟩ ?_
     · show True
       trivial
     · show g.1.toNat-(v+1)<g.1.toNat-v
       omega
    refine aC (wn (df q162)) (aC (wn (df q162)) (aC (wn (df q162)) (aC (wn (df q162)) (aC (wn (df q162)) (aC (wn (df q162)) (aC (wn (df q162)) (aC (wn (df q162)) (aC (wn (df q162)) (aC (wn (df q162)) ?_)))))))))
    refine aC (wn (df q162)) (aC (wn (df q162)) (aC (wn (df q162)) (aC (cI rfl rfl rfl) (aC (cI rfl rfl rfl) (aC (cI rfl rfl rfl) (aC (cI rfl rfl rfl) (aC (cI rfl rfl rfl) (aC (cI rfl rfl rfl) (aC (wn (df q162)) ?_)))))))))
    refine aC (wn (df q162)) (aC (cI rfl rfl rfl) (aC (cI rfl rfl rfl) (aC (cI rfl rfl rfl) (aC (cI rfl rfl rfl) (aC (cI rfl rfl rfl) (aC (cI rfl rfl rfl) (aC (wn (df q162)) (aB (v:=vb false) (wy (congrArg Bool.not (dt q155))) (λw' hw'=>aI rfl (df q162) rfl) (qv (vb false) (λw' hw'=>aI rfl (congrArg Bool.not (dt q155)) rfl) ?_)))))))))
    refine d4 ?_
    intro w340 hc341
    replace hc341:=aA hc341 g322
    refine aj rfl rfl (ap (a8 (cd g322 rfl fq (by kernel_rfl) ?_)))
    intro w343 ch342
    refine qx (λw' hw'=>ad ji rfl rfl zs21 rfl) ?_
    have C344:=cg [] (ch323.n.seq (hc341.n.seq ch342.n))
    replace bx312:=bx312.ca C344
    refine qx (λw' hw'=>ae bL rfl (bx312.bel hw') rfl) (qz zs23 ?_)
    replace o300:=o300.ca C344
    refine qx (λw' hw'=>ab (v:=v299) (i:=↑v) bQ rfl rfl (o300.flat.bel hw') rfl (by omega) (by omega)) (qx (λw' hw'=>aw (v:=v299) (i:=↑v) ax rfl (o300.flat.bel hw') (by omega) (by omega) (by decide) rfl) (qx (λw' hw'=>aX (m:=(gI (((((ag ((b9 g open_).1) s).1).2).2).1) (v:Int))) (n:=0) rfl rfl) (qx (λw' hw'=>ad h8 rfl rfl zs17 rfl) ?_)))
    replace bx274:=bx274.ca C344
    refine qx (λw' hw'=>ae c9 rfl (bx274.bel hw') rfl) (qz zs23 ?_)
    replace o262:=o262.ca C344
    refine qx (λw' hw'=>ab (v:=v261) (i:=↑v) cR rfl rfl (o262.flat.bel hw') rfl (by omega) (by omega)) (qx (λw' hw'=>aw (v:=v261) (i:=↑v) aF rfl (o262.flat.bel hw') (by omega) (by omega) (by decide) rfl) (eX (v:=vb (ck (gI (((av g so s).1).1) (v:Int)) 9218868437227405311)) rfl (λw' hw'=>aE (vals:=[Value.float .f64 (gI (((av g so s).1).1) (v:Int)),vi 1]) Try.func25 gc gm rfl) (λw' hw'=>(dK w' (gI (((av g so s).1).1) (v:Int)) 1 (by rfl)).mono λe w2 h2=>⟨h2.1,hw'.trans (h2.2.mono hw'.size)⟩) (qv (vb (!(decide ((decide ((gI (((((ag ((b9 g open_).1) s).1).2).2).1) (v:Int))<0))=(ck (gI (((av g so s).1).1) (v:Int)) 9218868437227405311))))) (λw' hw'=>eW U4 rfl rfl) ?_)))
    refine qm (vb (!(decide ((decide ((gI (((((ag ((b9 g open_).1) s).1).2).2).1) (v:Int))<0))=(ck (gI (((av g so s).1).1) (v:Int)) 9218868437227405311))))) ?_
    have q206_345:(decide ((gI (((((ag ((b9 g open_).1) s).1).2).2).1) (v:Int))<0))=(ck (gI (((av g so s).1).1) (v:Int)) 9218868437227405311):=by exact hv3.iff hn3
    refine aB (v:=vp b307 2) (wy (congrArg Bool.not (dt q206_345))) (λw' hw'=>ad ji rfl rfl zs21 rfl) (aB (v:=v299) (wy (congrArg Bool.not (dt q206_345))) (λw' hw'=>ae bL rfl (bx312.bel hw') rfl) (aB (v:=vi ↑v) (wy (congrArg Bool.not (dt q206_345))) (λw' hw'=>al zs23) (aB (v:=Value.pointer (some (aL v299 1 (Int.toNat ↑v)))) (wy (congrArg Bool.not (dt q206_345))) (λw' hw'=>ab (α:=Int) (xs:=((((ag ((b9 g open_).1) s).1).2).2).1) (v:=v299) (i:=↑v) bQ rfl rfl (o300.flat.bel hw') rfl (by omega) (by omega)) ?_)))
    refine aB (v:=vi (gI (((((ag ((b9 g open_).1) s).1).2).2).1) (v:Int))) (wy (congrArg Bool.not (dt q206_345))) (λw' hw'=>aw (α:=Int) (xs:=((((ag ((b9 g open_).1) s).1).2).2).1) (v:=v299) (i:=↑v) ax rfl (o300.flat.bel hw') (by omega) (by omega) (by decide) rfl) (aB (v:=vb (decide (0<=(gI (((((ag ((b9 g open_).1) s).1).2).2).1) (v:Int))))) (wy (congrArg Bool.not (dt q206_345))) (λw' hw'=>d7 (m:=(gI (((((ag ((b9 g open_).1) s).1).2).2).1) (v:Int))) (n:=0) rfl rfl) (aB (v:=vb (decide (0<=(gI (((((ag ((b9 g open_).1) s).1).2).2).1) (v:Int))))) (wy (congrArg Bool.not (dt q206_345))) (λw' hw'=>al rfl) ?_))
    by_cases q213:0<=(gI (((((ag ((b9 g open_).1) s).1).2).2).1) (v:Int))
    ·
     refine aB (v:=vp b269 0) (wy (dt q213)) (λw' hw'=>ad h8 rfl rfl zs17 rfl) (aB (v:=v261) (wy (dt q213)) (λw' hw'=>ae c9 rfl (bx274.bel hw') rfl) (aB (v:=vi ↑v) (wy (dt q213)) (λw' hw'=>al zs23) (aB (v:=Value.pointer (some (aL v261 1 (Int.toNat ↑v)))) (wy (dt q213)) (λw' hw'=>ab (α:=Nat) (xs:=((av g so s).1).1) (v:=v261) (i:=↑v) cR rfl rfl (o262.flat.bel hw') rfl (by omega) (by omega)) ?_)))
     refine aB (v:=Value.float .f64 (gI (((av g so s).1).1) (v:Int))) (wy (dt q213)) (λw' hw'=>aw (α:=Nat) (xs:=((av g so s).1).1) (v:=v261) (i:=↑v) aF rfl (o262.flat.bel hw') (by omega) (by omega) (by decide) rfl) (aB (v:=vp b307 2) (wy (dt q213)) (λw' hw'=>ad ji rfl rfl zs21 rfl) (aB (v:=v299) (wy (dt q213)) (λw' hw'=>ae bL rfl (bx312.bel hw') rfl) (aB (v:=vi ↑v) (wy (dt q213)) (λw' hw'=>al zs23) ?_)))
     refine aB (v:=Value.pointer (some (aL v299 1 (Int.toNat ↑v)))) (wy (dt q213)) (λw' hw'=>ab (α:=Int) (xs:=((((ag ((b9 g open_).1) s).1).2).2).1) (v:=v299) (i:=↑v) bQ rfl rfl (o300.flat.bel hw') rfl (by omega) (by omega)) (aB (v:=vi (gI (((((ag ((b9 g open_).1) s).1).2).2).1) (v:Int))) (wy (dt q213)) (λw' hw'=>aw (α:=Int) (xs:=((((ag ((b9 g open_).1) s).1).2).2).1) (v:=v299) (i:=↑v) ax rfl (o300.flat.bel hw') (by omega) (by omega) (by decide) rfl) ?_)
     refine aB (v:=Value.float .f64 (cV (gI (((((ag ((b9 g open_).1) s).1).2).2).1) (v:Int)))) (wy (dt q213)) (λw' hw'=>mN (m:=(gI (((((ag ((b9 g open_).1) s).1).2).2).1) (v:Int))) U3 rP rfl) ?_
     have nn346:cV (gI (((((ag ((b9 g open_).1) s).1).2).2).1) (v:Int))<=az:=iF (by omega)
     refine aB (v:=vb (!(decide ((gI (((av g so s).1).1) (v:Int))=(cV (gI (((((ag ((b9 g open_).1) s).1).2).2).1) (v:Int))))))) (wy (dt q213)) (λw' hw'=>gS (a:=(gI (((av g so s).1).1) (v:Int))) (b:=(cV (gI (((((ag ((b9 g open_).1) s).1).2).2).1) (v:Int)))) rfl rfl ‹_› ‹_›) (aB (v:=vb (!(decide ((gI (((av g so s).1).1) (v:Int))=(cV (gI (((((ag ((b9 g open_).1) s).1).2).2).1) (v:Int))))))) (wy (congrArg Bool.not (dt q206_345))) (λw' hw'=>aH rfl (dt q213) rfl) (qv (vb (!(decide ((gI (((av g so s).1).1) (v:Int))=(cV (gI (((((ag ((b9 g open_).1) s).1).2).2).1) (v:Int))))))) (λw' hw'=>aI rfl (congrArg Bool.not (dt q206_345)) rfl) (d4 ?_)))
     intro w347 hc348
     replace hc348:=aA hc348 g322
     have p30_349:(gI (((av g so s).1).1) (v:Int))=(cV (gI (((((ag ((b9 g open_).1) s).1).2).2).1) (v:Int))):=by exact hv3.eq (by omega)
     refine aj rfl (congrArg Bool.not (dt p30_349)) (ap (au (a7 rfl (mz zs23 (lx (bg (m:=↑v) (n:=1) rfl rfl (by omega)) (ai ((v:Int)+1) (aa ?_)))))))
     have C351:=cg [] (hc341.n.seq (ch342.n.seq hc348.n))
     have C350:=ch323.n.seq C351
     refine back26 (v+1,g322) _ _ ⟨bH.ca C350,zs3,zs7,zs14,zs15,zs17,zs21,rfl,Rg.ca C350,Rshut.ca C350,bx5.ca C350,o12.ca C350,o14.ca C350,o16.ca C351,o18.ca C350,bx28.ca C351,o225.ca C351,o227.ca C350,bx237.ca C351,o243.ca C350,o245.ca C350,bx255.ca C350,o262.cn hc348,o264.ca C350,bx274.cn hc348,o296.ca C350,o298.ca C350,o300.cn hc348,o302.ca C350,bx312.cn hc348,by omega,?_⟩ ?_
     · show True
       trivial
     · show g.1.toNat-(v+1)<g.1.toNat-v
       omega
    refine aC (wn (df q213)) (aC (wn (df q213)) (aC (wn (df q213)) (aC (wn (df q213)) (aC (wn (df q213)) (aC (wn (df q213)) (aC (wn (df q213)) (aC (wn (df q213)) (aC (wn (df q213)) (aC (wn (df q213)) ?_)))))))))
    refine aC (wn (df q213)) (aC (wn (df q213)) (aB (v:=vb false) (wy (congrArg Bool.not (dt q206_345))) (λw' hw'=>aI rfl (df q213) rfl) (qv (vb false) (λw' hw'=>aI rfl (congrArg Bool.not (dt q206_345)) rfl) (d4 ?_))))
    intro w352 hc353
    replace hc353:=aA hc353 g322
    refine aj rfl rfl (ap (au (a7 rfl (mz zs23 (lx (bg (m:=↑v) (n:=1) rfl rfl (by omega)) (ai ((v:Int)+1) (aa ?_)))))))
    have C355:=cg [] (hc341.n.seq (ch342.n.seq hc353.n))
    have C354:=ch323.n.seq C355
    refine back26 (v+1,g322) _ _ ⟨bH.ca C354,zs3,zs7,zs14,zs15,zs17,zs21,rfl,Rg.ca C354,Rshut.ca C354,bx5.ca C354,o12.ca C354,o14.ca C354,o16.ca C355,o18.ca C354,bx28.ca C355,o225.ca C355,o227.ca C354,bx237.ca C355,o243.ca C354,o245.ca C354,bx255.ca C354,o262.cn hc353,o264.ca C354,bx274.cn hc353,o296.ca C354,o298.ca C354,o300.cn hc353,o302.ca C354,bx312.cn hc353,by omega,?_⟩ ?_
    · show True
      trivial
    · show g.1.toNat-(v+1)<g.1.toNat-v
      omega
   refine aj rfl (df p26) (aO rfl (a8 ?_))
   clear bx5 o12 o14 o16 o18 bx28 o225 o227 bx237 o243 o245 bx255 o262 o264 bx274 o296 o298 o300 o302 bx312
   refine a7 rfl (ma (vb true) (aa (ar (vs:=[vb true]) Try.func8 (.tmp rfl .nil) ?_)))
   have e0:(true:Bool)=(true):=by
     rfl
   exact⟨rb e0,bH.below⟩
  refine ah rfl (congrArg Bool.not (Bool.eq_false_iff.2 p4)) (a8 ?_)
  clear bx5 o12 o14 o16 o18 bx28
  refine a7 rfl (ma (vb true) (aa (ar (vs:=[vb true]) Try.func8 (.tmp rfl .nil) ?_)))
  have e0:(true:Bool)=(true):=by
    rfl
  have C356:=cg [6] (ch2.n.seq (hb7.n.seq (ch20.n.seq (ch22.n.seq ((ch27.l rfl).seq hb31.n)))))
  replace bH:=bH.ca C356
  exact⟨rb e0,bH.below⟩
 refine ak (wn (congrArg Bool.not (df q34))) (ak (wn (congrArg Bool.not (df q34))) (ak (wn (congrArg Bool.not (df q34))) (lw (vb true) (aH rfl (congrArg Bool.not (df q34)) rfl) (aa (ah rfl rfl (a8 ?_))))))
 clear bx5 o12 o14 o16 o18 bx28
 refine a7 rfl (ma (vb true) (aa (ar (vs:=[vb true]) Try.func8 (.tmp rfl .nil) ?_)))
 have e0:(true:Bool)=(true):=by
   rfl
 have C357:=cg [6] (ch2.n.seq (hb7.n.seq (ch20.n.seq (ch22.n.seq (ch27.l rfl)))))
 replace bH:=bH.ca C357
 exact⟨rb e0,bH.below⟩
end TL
