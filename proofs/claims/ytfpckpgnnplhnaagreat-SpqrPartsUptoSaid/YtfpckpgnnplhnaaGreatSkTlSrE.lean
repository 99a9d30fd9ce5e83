import Derived.Test.YtfpckpgnnplhnaaGreatSkTlGenA
import Derived.Test.YtfpckpgnnplhnaaGreatSkTlAli
set_option linter.all false
set_option maxRecDepth 20000
namespace TL
open Go Go.Proofs
theorem nH:Tryz.prog.follows .mixedOrders=true:=by kernel_rfl
theorem q5:Tp Tryz.prog 38 false 1 24 (.slice none 0 0):=Tp.of (by kernel_rfl)
theorem iF:Tp Tryz.prog 39 false 1 24 (.slice none 0 0):=Tp.of (by kernel_rfl)
theorem oR:Tp Tryz.prog 57 true 4 32 (.agg #[.int .i64 0,.int .i64 0,.int .i64 0,.int .i64 0]):=Tp.of (by kernel_rfl)
theorem vB:Tryz.f33.body.isNone=false:=rfl
theorem wB:(Tryz.f33.name== "runtime.NumGoroutine")=false:=by decide+kernel
theorem Ad(w0:World)(a:List ((Int)×(List Int)×(List Bd)))(a_v:Value)(ha_v:Ro w0 a_v a)(b:List ((Int)×(List Int)×(List Bd)))(b_v:Value)(hb_v:Ro w0 b_v b):
    Calls Tryz.prog 15 #[a_v,b_v] w0 (λee w=>ee= .returned (vb (decide (a=b)))/\eJ w0.heap.size w0 w):=by
 refine ap Tryz.func15 rfl nq ?_
 have bH:=b6.start w0
 have Ra:=ha_v.sl
 have Rb:=hb_v.sl
 refine a7 (a6 rfl (ma (vb false) (ab (a7 (a7 (a6 rfl (mv a_v ?_)))))))
 have len1:=(Ra).small
 refine lx (bp eb rfl Ra) (mv b_v ?_)
 have len2:=(Rb).small
 refine lx (bp eb rfl Rb) (lx (dq (m:=(a.length:Int)) (n:=(b.length:Int)) rfl rfl) (ab ?_))
 by_cases p1:(a.length:Int)=(b.length:Int)
 ·
  refine ag rfl (congrArg Bool.not (dt p1)) (ao (a7 (a7 (a6 rfl (ai 0 (ab (am ?_)))))))
  refine aV (σ:=Nat×aw) (λ⟨i,gq⟩ f w=>b6 w0 gq w/\f 0=a_v/\f 1=b_v/\f 5=vi ↑i/\Sl gq (is 0) w a_v a/\Sl gq (is 0) w b_v b/\(i:Int)<=((a.length:Int):Int)/\(a.take i=b.take i)) (λ⟨i,gq⟩=>Int.toNat (((a.length:Int):Int)-(i:Int))) (0,c0) ?_ ?_
  · exact⟨bH,rfl,rfl,rfl,Ra,Rb,by omega,by rfl⟩
  clear Ra Rb bH
  rintro⟨i,g5⟩ f3 w4 ⟨bH,zs0,zs1,zs5,Ra,Rb,hle_i,hi_⟩ back4
  refine a7 (a7 (a6 rfl (mz zs5 (mz zs0 (lx (bp eb rfl Ra) (lx (bw (m:=↑i) (n:=(a.length:Int)) rfl rfl) (ab ?_)))))))
  by_cases p4:(i:Int)<(a.length:Int)
  ·
   refine af rfl (dt p4) (ao (a7 (am (a7 (a7 (cG g5 rfl nH (by kernel_rfl) ?_))))))
   intro w7 ch6
   refine qz zs0 (qz zs5 ?_)
   replace Ra:=Ra.cn ch6
   refine qx (λw' hw'=>ad (v:=a_v) (i:=↑i) eb rfl rfl (Ra.bel hw') rfl (by omega) (by omega)) (qv (Value.pointer (some ⟨(aB a_v 3 (Int.toNat ↑i)).block,(aB a_v 3 (Int.toNat ↑i)).off+0,none⟩)) (λw' hw'=>aI fK rfl rfl rfl rfl) ?_)
   obtain⟨v8,v9,ce10,⟨r11,r12⟩,bl13⟩:=eQ (r:=(i:Int)) Ra (by omega) (by omega)
   refine qv (vi ((gI a ↑i).1)) (λw' hw'=>bg (n:=(Int.toNat ↑i)) ah rfl (gJ ce10 bl13 hw') (by decide) rfl) (qz zs1 (qz zs5 ?_))
   replace Rb:=Rb.cn ch6
   refine qx (λw' hw'=>ad (v:=b_v) (i:=↑i) eb rfl rfl (Rb.bel hw') rfl (by omega) (by omega)) (qv (Value.pointer (some ⟨(aB b_v 3 (Int.toNat ↑i)).block,(aB b_v 3 (Int.toNat ↑i)).off+0,none⟩)) (λw' hw'=>aI fK rfl rfl rfl rfl) ?_)
   obtain⟨v14,v15,ce16,⟨r17,r18⟩,bl19⟩:=eQ (r:=(i:Int)) Rb (by omega) (by omega)
   refine qv (vi ((gI b ↑i).1)) (λw' hw'=>bg (n:=(Int.toNat ↑i)) ah rfl (gJ ce16 bl19 hw') (by decide) rfl) (qx (λw' hw'=>dq (m:=(gI a ↑i).1) (n:=(gI b ↑i).1) rfl rfl) (qm (vb (!(decide (((gI a ↑i).1)=((gI b ↑i).1))))) ?_))
   by_cases q29:((gI a ↑i).1)=((gI b ↑i).1)
   ·
    refine c8 (v:=a_v) (wy (congrArg Bool.not (dt q29))) (λw' hw'=>aq zs0) (c8 (v:=vi ↑i) (wy (congrArg Bool.not (dt q29))) (λw' hw'=>aq zs5) (c8 (v:=Value.pointer (some (aB a_v 3 (Int.toNat ↑i)))) (wy (congrArg Bool.not (dt q29))) (λw' hw'=>ad (α:=(Int)×(List Int)×(List Bd)) (xs:=a) (v:=a_v) (i:=↑i) eb rfl rfl (Ra.bel hw') rfl (by omega) (by omega)) (c8 (v:=Value.pointer (some ⟨(aB a_v 3 (Int.toNat ↑i)).block,(aB a_v 3 (Int.toNat ↑i)).off+1,none⟩)) (wy (congrArg Bool.not (dt q29))) (λw' hw'=>aI fK rfl rfl rfl rfl) ?_)))
    obtain⟨v20,v21,ce22,⟨r23,r24⟩,bl25⟩:=eQ (r:=(i:Int)) Ra (by omega) (by omega)
    refine c8 (v:=v20) (wy (congrArg Bool.not (dt q29))) (λw' hw'=>bg (n:=(Int.toNat ↑i)) q5 rfl (gJ ce22 bl25 hw') (by decide) rfl) (c8 (v:=b_v) (wy (congrArg Bool.not (dt q29))) (λw' hw'=>aq zs1) (c8 (v:=vi ↑i) (wy (congrArg Bool.not (dt q29))) (λw' hw'=>aq zs5) (c8 (v:=Value.pointer (some (aB b_v 3 (Int.toNat ↑i)))) (wy (congrArg Bool.not (dt q29))) (λw' hw'=>ad (α:=(Int)×(List Int)×(List Bd)) (xs:=b) (v:=b_v) (i:=↑i) eb rfl rfl (Rb.bel hw') rfl (by omega) (by omega)) ?_)))
    refine c8 (v:=Value.pointer (some ⟨(aB b_v 3 (Int.toNat ↑i)).block,(aB b_v 3 (Int.toNat ↑i)).off+1,none⟩)) (wy (congrArg Bool.not (dt q29))) (λw' hw'=>aI fK rfl rfl rfl rfl) ?_
    obtain⟨v26,v27,ce28,⟨r29,r30⟩,bl31⟩:=eQ (r:=(i:Int)) Rb (by omega) (by omega)
    refine c8 (v:=v26) (wy (congrArg Bool.not (dt q29))) (λw' hw'=>bg (n:=(Int.toNat ↑i)) q5 rfl (gJ ce28 bl31 hw') (by decide) rfl) (qW (v:=vb (decide (((gI a ↑i).2.1)=((gI b ↑i).2.1)))) (wy (congrArg Bool.not (dt q29))) (λw' hw'=>aH (vals:=[v20,v26]) Tryz.func33 vB wB rfl) (λw' hw'=>(ux w' ((gI a ↑i).2.1) v20 ((r23.bel hw')).ro ((gI b ↑i).2.1) v26 ((r29.bel hw')).ro).mono λe w2 h2=>⟨h2.1,hw'.trans (h2.2.mono hw'.size)⟩) (c8 (v:=vb (!(decide (((gI a ↑i).2.1)=((gI b ↑i).2.1))))) (wy (congrArg Bool.not (dt q29))) (λw' hw'=>eU (b:=(decide (((gI a ↑i).2.1)=((gI b ↑i).2.1)))) rfl) ?_))
    refine qv (vb (!(decide (((gI a ↑i).2.1)=((gI b ↑i).2.1))))) (λw' hw'=>bt rfl (congrArg Bool.not (dt q29)) rfl) (qm (vb (!(decide (((gI a ↑i).2.1)=((gI b ↑i).2.1))))) ?_)
    by_cases q43:(decide (((gI a ↑i).2.1)=((gI b ↑i).2.1)))=true
    ·
     refine c8 (v:=a_v) (wy (congrArg Bool.not q43)) (λw' hw'=>aq zs0) (c8 (v:=vi ↑i) (wy (congrArg Bool.not q43)) (λw' hw'=>aq zs5) (c8 (v:=Value.pointer (some (aB a_v 3 (Int.toNat ↑i)))) (wy (congrArg Bool.not q43)) (λw' hw'=>ad (α:=(Int)×(List Int)×(List Bd)) (xs:=a) (v:=a_v) (i:=↑i) eb rfl rfl (Ra.bel hw') rfl (by omega) (by omega)) (c8 (v:=Value.pointer (some ⟨(aB a_v 3 (Int.toNat ↑i)).block,(aB a_v 3 (Int.toNat ↑i)).off+2,none⟩)) (wy (congrArg Bool.not q43)) (λw' hw'=>aI fK rfl rfl rfl rfl) ?_)))
     obtain⟨v32,v33,ce34,⟨r35,r36⟩,bl37⟩:=eQ (r:=(i:Int)) Ra (by omega) (by omega)
     refine c8 (v:=v33) (wy (congrArg Bool.not q43)) (λw' hw'=>bg (n:=(Int.toNat ↑i)) iF rfl (gJ ce34 bl37 hw') (by decide) rfl) ?_
     have len38:=(r36).small
     refine c8 (v:=vi (List.length ((gI a ↑i).2.2):Int)) (wy (congrArg Bool.not q43)) (λw' hw'=>bp jr rfl (r36.bel hw')) (c8 (v:=b_v) (wy (congrArg Bool.not q43)) (λw' hw'=>aq zs1) (c8 (v:=vi ↑i) (wy (congrArg Bool.not q43)) (λw' hw'=>aq zs5) (c8 (v:=Value.pointer (some (aB b_v 3 (Int.toNat ↑i)))) (wy (congrArg Bool.not q43)) (λw' hw'=>ad (α:=(Int)×(List Int)×(List Bd)) (xs:=b) (v:=b_v) (i:=↑i) eb rfl rfl (Rb.bel hw') rfl (by omega) (by omega)) ?_)))
     refine c8 (v:=Value.pointer (some ⟨(aB b_v 3 (Int.toNat ↑i)).block,(aB b_v 3 (Int.toNat ↑i)).off+2,none⟩)) (wy (congrArg Bool.not q43)) (λw' hw'=>aI fK rfl rfl rfl rfl) ?_
     obtain⟨v39,v40,ce41,⟨r42,r43⟩,bl44⟩:=eQ (r:=(i:Int)) Rb (by omega) (by omega)
     refine c8 (v:=v40) (wy (congrArg Bool.not q43)) (λw' hw'=>bg (n:=(Int.toNat ↑i)) iF rfl (gJ ce41 bl44 hw') (by decide) rfl) ?_
     have len45:=(r43).small
     refine c8 (v:=vi (List.length ((gI b ↑i).2.2):Int)) (wy (congrArg Bool.not q43)) (λw' hw'=>bp jr rfl (r43.bel hw')) (c8 (v:=vb (!(decide ((List.length ((gI a ↑i).2.2):Int)=(List.length ((gI b ↑i).2.2):Int))))) (wy (congrArg Bool.not q43)) (λw' hw'=>dq (m:=(List.length ((gI a ↑i).2.2):Int)) (n:=(List.length ((gI b ↑i).2.2):Int)) rfl rfl) (qv (vb (!(decide ((List.length ((gI a ↑i).2.2):Int)=(List.length ((gI b ↑i).2.2):Int))))) (λw' hw'=>bt rfl (congrArg Bool.not q43) rfl) (ep ?_)))
     intro w46 hc47
     replace hc47:=aN hc47 g5
     by_cases p6:(List.length ((gI a ↑i).2.2):Int)=(List.length ((gI b ↑i).2.2):Int)
     ·
      refine ag rfl (congrArg Bool.not (dt p6)) (ao (a7 ?_))
      clear r23 r29 r36 r43
      refine a6 rfl (ai 0 (ab (am ?_)))
      refine aV (σ:=Nat×aw) (λ⟨k,gq⟩ f w=>b6 w0 gq w/\f 0=a_v/\f 1=b_v/\f 5=vi ↑i/\f 6=vi ↑k/\Sl gq (is 0) w a_v a/\Sl gq (is 0) w b_v b/\(k:Int)<=((List.length ((gI a ↑i).2.2):Int):Int)/\((gI a ↑i).2.2.take k=(gI b ↑i).2.2.take k)) (λ⟨k,gq⟩=>Int.toNat (((List.length ((gI a ↑i).2.2):Int):Int)-(k:Int))) (0,g5) ?_ ?_
      replace bH:=bH.cn ch6
      · exact⟨bH.cn hc47,zs0,zs1,zs5,rfl,Ra.cn hc47,Rb.cn hc47,by omega,by rfl⟩
      clear Ra Rb bH
      rintro⟨k,g50⟩ f48 w49 ⟨bH,zs0,zs1,zs5,zs6,Ra,Rb,hle_k,hk_⟩ back9
      refine a7 (a7 (a6 rfl (mz zs6 (mz zs0 (mz zs5 (lx (ad (v:=a_v) (i:=↑i) eb rfl rfl Ra rfl (by omega) (by omega)) (lw (Value.pointer (some ⟨(aB a_v 3 (Int.toNat ↑i)).block,(aB a_v 3 (Int.toNat ↑i)).off+2,none⟩)) (aI fK rfl rfl rfl rfl) ?_)))))))
      obtain⟨v51,v52,ce53,⟨r54,r55⟩,bl56⟩:=eQ (r:=(i:Int)) Ra (by omega) (by omega)
      refine lw (v52) (bg (n:=(Int.toNat ↑i)) iF rfl ce53 (by decide) rfl) (lx (bp jr rfl r55) (lx (bw (m:=↑k) (n:=(List.length ((gI a ↑i).2.2):Int)) rfl rfl) (ab ?_)))
      by_cases p9:(k:Int)<(List.length ((gI a ↑i).2.2):Int)
      ·
       refine af rfl (dt p9) (ao (a7 (am (a7 ?_))))
       clear r55
       refine cG g50 rfl nH (by kernel_rfl) ?_
       intro w58 ch57
       refine qz zs0 (qz zs5 ?_)
       replace Ra:=Ra.cn ch57
       refine qx (λw' hw'=>ad (v:=a_v) (i:=↑i) eb rfl rfl (Ra.bel hw') rfl (by omega) (by omega)) (qv (Value.pointer (some ⟨(aB a_v 3 (Int.toNat ↑i)).block,(aB a_v 3 (Int.toNat ↑i)).off+2,none⟩)) (λw' hw'=>aI fK rfl rfl rfl rfl) ?_)
       obtain⟨v59,v60,ce61,⟨r62,r63⟩,bl64⟩:=eQ (r:=(i:Int)) Ra (by omega) (by omega)
       refine qv (v60) (λw' hw'=>bg (n:=(Int.toNat ↑i)) iF rfl (gJ ce61 bl64 hw') (by decide) rfl) (qz zs6 (qx (λw' hw'=>ad (v:=v60) (i:=↑k) jr rfl rfl (r63.bel hw') rfl (by omega) (by omega)) (qv (vg [vi ((gI ((gI a ↑i).2.2) (k:Int)).1),vi (((gI ((gI a ↑i).2.2) (k:Int)).2).1),vi ((((gI ((gI a ↑i).2.2) (k:Int)).2).2).1),vi ((((gI ((gI a ↑i).2.2) (k:Int)).2).2).2)]) (λw' hw'=>bJ (v:=v60) (i:=↑k) oR rfl (r63.bel hw') (by omega) (by omega) rfl) (qz zs1 (qz zs5 ?_)))))
       replace Rb:=Rb.cn ch57
       refine qx (λw' hw'=>ad (v:=b_v) (i:=↑i) eb rfl rfl (Rb.bel hw') rfl (by omega) (by omega)) (qv (Value.pointer (some ⟨(aB b_v 3 (Int.toNat ↑i)).block,(aB b_v 3 (Int.toNat ↑i)).off+2,none⟩)) (λw' hw'=>aI fK rfl rfl rfl rfl) ?_)
       obtain⟨v65,v66,ce67,⟨r68,r69⟩,bl70⟩:=eQ (r:=(i:Int)) Rb (by omega) (by omega)
       refine qv (v66) (λw' hw'=>bg (n:=(Int.toNat ↑i)) iF rfl (gJ ce67 bl70 hw') (by decide) rfl) (qz zs6 (qx (λw' hw'=>ad (v:=v66) (i:=↑k) jr rfl rfl (r69.bel hw') rfl (by omega) (by omega)) (qv (vg [vi ((gI ((gI b ↑i).2.2) (k:Int)).1),vi (((gI ((gI b ↑i).2.2) (k:Int)).2).1),vi ((((gI ((gI b ↑i).2.2) (k:Int)).2).2).1),vi ((((gI ((gI b ↑i).2.2) (k:Int)).2).2).2)]) (λw' hw'=>bJ (v:=v66) (i:=↑k) oR rfl (r69.bel hw') (by omega) (by omega) rfl) ?_)))
       refine qv (vb (!(decide (((gI ((gI a ↑i).2.2) (k:Int)).1,((gI ((gI a ↑i).2.2) (k:Int)).2).1,(((gI ((gI a ↑i).2.2) (k:Int)).2).2).1,(((gI ((gI a ↑i).2.2) (k:Int)).2).2).2)=((gI ((gI b ↑i).2.2) (k:Int)).1,((gI ((gI b ↑i).2.2) (k:Int)).2).1,(((gI ((gI b ↑i).2.2) (k:Int)).2).2).1,(((gI ((gI b ↑i).2.2) (k:Int)).2).2).2))))) (λw' hw'=>og (bs:=[decide (((gI ((gI a ↑i).2.2) (k:Int)).1)=((gI ((gI b ↑i).2.2) (k:Int)).1)),decide ((((gI ((gI a ↑i).2.2) (k:Int)).2).1)=(((gI ((gI b ↑i).2.2) (k:Int)).2).1)),decide (((((gI ((gI a ↑i).2.2) (k:Int)).2).2).1)=((((gI ((gI b ↑i).2.2) (k:Int)).2).2).1)),decide (((((gI ((gI a ↑i).2.2) (k:Int)).2).2).2)=((((gI ((gI b ↑i).2.2) (k:Int)).2).2).2))]) tM (by kernel_rfl) (by kernel_rfl) rfl rfl (.cons (by decide+kernel) ah rfl rfl (.int U3) (.cons (by decide+kernel) ah rfl rfl (.int U3) (.cons (by decide+kernel) ah rfl rfl (.int U3) (.cons (by decide+kernel) ah rfl rfl (.int U3) .nil)))) (by simp[Prod.ext_iff,Bool.decide_and,Bool.and_assoc])) ?_
       refine ep ?_
       intro w71 hc72
       replace hc72:=aN hc72 g50
       by_cases p11:((gI ((gI a ↑i).2.2) (k:Int)).1,((gI ((gI a ↑i).2.2) (k:Int)).2).1,(((gI ((gI a ↑i).2.2) (k:Int)).2).2).1,(((gI ((gI a ↑i).2.2) (k:Int)).2).2).2)=((gI ((gI b ↑i).2.2) (k:Int)).1,((gI ((gI b ↑i).2.2) (k:Int)).2).1,(((gI ((gI b ↑i).2.2) (k:Int)).2).2).1,(((gI ((gI b ↑i).2.2) (k:Int)).2).2).2)
       ·
        refine ag rfl (congrArg Bool.not (dt p11)) (ao (ak ?_))
        clear r63 r69
        refine a6 rfl (mz zs6 (lx (aS (m:=↑k) (n:=1) rfl rfl (by omega)) (ai ((k:Int)+1) (ab ?_))))
        replace bH:=bH.cn ch57
        refine back9 (k+1,g50) _ _ ⟨bH.cn hc72,zs0,zs1,zs5,rfl,Ra.cn hc72,Rb.cn hc72,by omega,?_⟩ ?_
        · show(gI a ↑i).2.2.take (k+1)=(gI b ↑i).2.2.take (k+1)
          exact m7 hk_ ‹_› (by omega) ‹_›
        · show Int.toNat (_-_)<Int.toNat (_-_)
          omega
       refine af rfl (congrArg Bool.not (df p11)) (a7 ?_)
       clear r63 r69
       refine a6 rfl (ma (vb false) (ab (au (vs:=[vb false]) Tryz.func15 (.tmp rfl .nil) ?_)))
       have e0:(false:Bool)=(decide (a=b)):=by
         (refine(df λh=>?_).symm;subst h;(exact absurd rfl ‹_›))
       replace bH:=bH.cn ch57
       replace bH:=bH.cn hc72
       exact⟨rb e0,bH.below⟩
      refine ag rfl (df p9) (aO rfl (ak ?_))
      clear r55
      refine a6 rfl (mz zs5 (lx (aS (m:=↑i) (n:=1) rfl rfl (by omega)) (ai ((i:Int)+1) (ab ?_))))
      refine back4 (i+1,g50) _ _ ⟨bH,zs0,zs1,rfl,Ra,Rb,by omega,?_⟩ ?_
      · show a.take (i+1)=b.take (i+1)
        exact m7 hi_ ‹_› (by omega) (yG ‹_› (of_decide_eq_true ‹_›) ‹_› hk_ ‹_›)
      · show Int.toNat (_-_)<Int.toNat (_-_)
        omega
     refine af rfl (congrArg Bool.not (df p6)) (a7 ?_)
     clear r23 r29 r36 r43
     refine a6 rfl (ma (vb false) (ab (au (vs:=[vb false]) Tryz.func15 (.tmp rfl .nil) ?_)))
     have e0:(false:Bool)=(decide (a=b)):=by
       (refine(df λh=>?_).symm;subst h;(exact absurd rfl ‹_›))
     replace bH:=bH.cn ch6
     replace bH:=bH.cn hc47
     exact⟨rb e0,bH.below⟩
    refine bA (wn (congrArg Bool.not (Bool.eq_false_iff.2 q43))) (bA (wn (congrArg Bool.not (Bool.eq_false_iff.2 q43))) (bA (wn (congrArg Bool.not (Bool.eq_false_iff.2 q43))) (bA (wn (congrArg Bool.not (Bool.eq_false_iff.2 q43))) (bA (wn (congrArg Bool.not (Bool.eq_false_iff.2 q43))) (bA (wn (congrArg Bool.not (Bool.eq_false_iff.2 q43))) (bA (wn (congrArg Bool.not (Bool.eq_false_iff.2 q43))) (bA (wn (congrArg Bool.not (Bool.eq_false_iff.2 q43))) (bA (wn (congrArg Bool.not (Bool.eq_false_iff.2 q43))) (bA (wn (congrArg Bool.not (Bool.eq_false_iff.2 q43))) ?_)))))))))
    refine bA (wn (congrArg Bool.not (Bool.eq_false_iff.2 q43))) (bA (wn (congrArg Bool.not (Bool.eq_false_iff.2 q43))) (bA (wn (congrArg Bool.not (Bool.eq_false_iff.2 q43))) (qv (vb true) (λw' hw'=>bj rfl (congrArg Bool.not (Bool.eq_false_iff.2 q43)) rfl) (ep ?_))))
    intro w73 hc74
    replace hc74:=aN hc74 g5
    refine af rfl rfl (a7 ?_)
    clear r23 r29
    refine a6 rfl (ma (vb false) (ab (au (vs:=[vb false]) Tryz.func15 (.tmp rfl .nil) ?_)))
    have e0:(false:Bool)=(decide (a=b)):=by
      (refine(df λh=>?_).symm;subst h;(exact absurd (dt rfl) ‹_›))
    replace bH:=bH.cn ch6
    replace bH:=bH.cn hc74
    exact⟨rb e0,bH.below⟩
   refine bA (wn (congrArg Bool.not (df q29))) (bA (wn (congrArg Bool.not (df q29))) (bA (wn (congrArg Bool.not (df q29))) (bA (wn (congrArg Bool.not (df q29))) (bA (wn (congrArg Bool.not (df q29))) (bA (wn (congrArg Bool.not (df q29))) (bA (wn (congrArg Bool.not (df q29))) (bA (wn (congrArg Bool.not (df q29))) (bA (wn (congrArg Bool.not (df q29))) (bA (wn (congrArg Bool.not (df q29))) ?_)))))))))
   refine bA (wn (congrArg Bool.not (df q29))) (bA (wn (congrArg Bool.not (df q29))) (qv (vb true) (λw' hw'=>bj rfl (congrArg Bool.not (df q29)) rfl) (qm (vb true) (bA (wn rfl) (bA (wn rfl) (bA (wn rfl) (bA (wn rfl) (bA (wn rfl) (bA (wn rfl) ?_)))))))))
   refine bA (wn rfl) (bA (wn rfl) (bA (wn rfl) (bA (wn rfl) (bA (wn rfl) (bA (wn rfl) (bA (wn rfl) (qv (vb true) (λw' hw'=>bj rfl rfl rfl) (ep ?_))))))))
   intro w75 hc76
   replace hc76:=aN hc76 g5
   refine af rfl rfl (a7 (a6 rfl (ma (vb false) (ab (au (vs:=[vb false]) Tryz.func15 (.tmp rfl .nil) ?_)))))
   have e0:(false:Bool)=(decide (a=b)):=by
     (refine(df λh=>?_).symm;subst h;(exact absurd rfl ‹_›))
   replace bH:=bH.cn ch6
   replace bH:=bH.cn hc76
   exact⟨rb e0,bH.below⟩
  refine ag rfl (df p4) (aO rfl (a7 (a6 rfl (ma (vb true) (ab (au (vs:=[vb true]) Tryz.func15 (.tmp rfl .nil) ?_))))))
  have e0:(true:Bool)=(decide (a=b)):=by
    exact yS ‹_› hi_ ‹_›
  exact⟨rb e0,bH.below⟩
 refine af rfl (congrArg Bool.not (df p1)) (a7 (a6 rfl (ma (vb false) (ab (au (vs:=[vb false]) Tryz.func15 (.tmp rfl .nil) ?_)))))
 have e0:(false:Bool)=(decide (a=b)):=by
   (refine(df λh=>?_).symm;subst h;(exact absurd rfl ‹_›))
 exact⟨rb e0,bH.below⟩
end TL
