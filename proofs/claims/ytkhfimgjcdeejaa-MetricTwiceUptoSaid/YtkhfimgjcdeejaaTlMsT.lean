import Derived.Test.YtkhfimgjcdeejaaTlP2
import Derived.Test.YtkhfimgjcdeejaaTlGmA
import Derived.Test.YtkhfimgjcdeejaaTlGmD
import Derived.Test.YtkhfimgjcdeejaaTlGenA
import Derived.Test.YtkhfimgjcdeejaaTlGjC
import Derived.Test.YtkhfimgjcdeejaaTlMmA
import Derived.Test.YtkhfimgjcdeejaaTlMmB
import Derived.Test.YtkhfimgjcdeejaaTlMmC
import Derived.Test.YtkhfimgjcdeejaaTlMsC
import Derived.Test.YtkhfimgjcdeejaaTlMsG
import Derived.Test.YtkhfimgjcdeejaaTlMsL
import Derived.Test.YtkhfimgjcdeejaaProg
import Derived.Test.YtkhfimgjcdeejaaTlAli
set_option linter.all false
set_option maxRecDepth 20000
namespace TL
open Go Go.Proofs
theorem kD:Try.prog.follows .mixedOrders=true:=by kernel_rfl
theorem rH:Try.f6.body.isNone=false:=rfl
theorem qY:(Try.f6.name== "runtime.NumGoroutine")=false:=by decide+kernel
theorem pK:Try.f11.body.isNone=false:=rfl
theorem pS:(Try.f11.name== "runtime.NumGoroutine")=false:=by decide+kernel
set_option maxHeartbeats 8000000 in
theorem ir(w0:World)(g:(Int)×(List Pt))(g_v:Value)(hg_v:Ro w0 g_v g.2)(p:(List Pt)×(List (List Pt)))(p_v p_v1:Value)(hp_v:Ro w0 p_v p.1)(hp_v1:Ro w0 p_v1 p.2)(hb:rx p):
    Calls Try.prog 5 #[vg [vi g.1,g_v],vg [p_v,p_v1]] w0 (λee w=>ee= .returned (vb true)/\cG w0.heap.size w0 w):=by
 refine aK Try.func5 rfl nq ?_
 have bH:=bu.start w0
 have Rg:=hg_v.sl
 have Rp:=hp_v.sl
 have r_p_v1:=hp_v1.sl
 obtain⟨⟨hb1,hb2,hb3⟩,hb4,hb5⟩:=hb
 refine a8 (a7 rfl (cN rfl (bC c0 (is 1) (1,0) rfl rfl ?_)))
 intro g4 w1 b3 ch2 bx5
 replace bx5:Bx g4 (is 1) w1 b3 [vi g.1,g_v]:=bx5
 refine lo (bC g4 (is 2) (2,0) rfl rfl ?_)
 intro g9 w6 b8 ch7 bx10
 replace bx10:Bx g9 (is 2) w6 b8 [p_v,p_v1]:=bx10
 refine ma (vb false) (ab (a8 (a8 (a7 rfl (cN rfl (aP (v:=vb true) (aG (vals:=[]) Try.func6 rH qY rfl) (lA w6) ?_))))))
 intro w11 hb12
 replace hb12:=am hb12 g9
 refine lx (dr (b:=true) rfl) (ab (ah rfl rfl (au (a8 (a8 (a7 rfl ?_))))))
 replace bx5:=(bx5.cn ch7).cn hb12
 refine lx (ae (ds:=[vi g.1,g_v]) bS rfl bx5 rfl rfl) ?_
 replace bx10:=bx10.cn hb12
 refine lx (ae (ds:=[p_v,p_v1]) bP rfl bx10 rfl rfl) ?_
 have C13:=cg [] (ch2.n.seq (ch7.n.seq hb12.n))
 replace Rg:=Rg.ca C13
 replace Rp:=Rp.ca C13
 replace r_p_v1:=r_p_v1.ca C13
 refine lo (aP (v:=vb (decide (cY g p))) (aG (vals:=[vg [vi g.1,g_v],vg [p_v,p_v1]]) Try.func11 pK pS rfl) (kU w11 g g_v (Rg).ro p p_v p_v1 (Rp).ro (r_p_v1).ro ‹_› ‹_› ‹_›) ?_)
 intro w14 hb15
 replace hb15:=am hb15 g9
 refine lx (dr (b:=(decide (cY g p))) rfl) (mv (vb (!(decide (cY g p)))) ?_)
 by_cases q25:(decide (cY g p))=true
 ·
  have hlt:=of_decide_eq_true q25
  obtain⟨hfew,⟨hp4,hp5⟩,hp6⟩:=n8 hlt
  replace bx5:=bx5.cn hb15
  refine lv (vg [vi g.1,g_v]) (wy (congrArg Bool.not q25)) (ae (ds:=[vi g.1,g_v]) bS rfl bx5 rfl rfl) ?_
  replace Rg:=Rg.cn hb15
  refine cN (wy (congrArg Bool.not q25)) (aP (v:=vb (cK g)) (aG (vals:=[vg [vi g.1,g_v]]) Try.func12 lY lP rfl) (mp w14 g g_v (Rg).ro) ?_)
  intro w16 hb17
  replace hb17:=am hb17 g9
  refine lv (vb (!(cK g))) (wy (congrArg Bool.not q25)) (dr (b:=(cK g)) rfl) (lw (vb (!(cK g))) (aS rfl (congrArg Bool.not q25) rfl) (mv (vb (!(cK g))) ?_))
  by_cases q30:(cK g)=true
  ·
   have hm:dd g:=of_decide_eq_true q30
   refine lv (vp b3 1) (wy (congrArg Bool.not q30)) (a9 fO rfl rfl rfl rfl) ?_
   replace bx5:=bx5.cn hb17
   refine lv (g_v) (wy (congrArg Bool.not q30)) (aa cO rfl bx5 rfl) ?_
   replace Rg:=Rg.cn hb17
   have len18:=(Rg).small
   refine lv (vi (g.2.length:Int)) (wy (congrArg Bool.not q30)) (bO iJ rfl Rg) (lv (vb (decide ((g.2.length:Int)=0))) (wy (congrArg Bool.not q30)) (d7 (m:=(g.2.length:Int)) (n:=0) rfl rfl) (lw (vb (decide ((g.2.length:Int)=0))) (aS rfl (congrArg Bool.not q30) rfl) (ab ?_)))
   by_cases p3:(g.2.length:Int)=0
   ·
    refine ag rfl (dt p3) (a8 ?_)
    clear bx5 bx10
    refine a7 rfl (ma (vb true) (ab (aw (vs:=[vb true]) Try.func5 (.tmp rfl .nil) ?_)))
    have e0:(true:Bool)=(true):=by
      rfl
    have C19:=cg [] (ch2.n.seq (ch7.n.seq (hb12.n.seq (hb15.n.seq hb17.n))))
    replace bH:=bH.ca C19
    exact⟨rb e0,bH.below⟩
   refine ah rfl (df p3) (au (a8 (a7 rfl (lw (vg [vn,vn]) (bB (vs:=[]) rfl (by kernel_rfl)) (lo (bo g9 (is 3) (3,0) rfl bP ?_))))))
   intro g23 w20 b22 ch21 bx24
   replace bx24:Bx g23 (is 3) w20 b22 [vn,vn]:=bx24
   refine lo (ao (cs':=[vn,vn]) bP rfl rfl bx24 rfl nq (AllOne.all (.cons rfl (.cons rfl .nil))) rfl ?_)
   intro w25 ch26 bx27
   clear bx24
   refine ab (a8 (a8 (a7 rfl (ai 0 (ab (aC ?_))))))
   refine bF (σ:=Value×(List Pt)×Nat×aV) (λ⟨qA_v,qA,v,gq⟩ f w=>bu w0 gq w/\f 2=vp b3 0/\f 3=vp b8 0/\f 5=vp b22 0/\f 6=vi ↑v/\Sl gq (is 0) w g_v g.2/\Sl gq (is 0) w p_v p.1/\Sl gq (is 0) w p_v1 p.2/\Bx gq (is 1) w b3 [vi g.1,g_v]/\Bx gq (is 2) w b8 [p_v,p_v1]/\Bx gq (is 3) w b22 [qA_v,vn]/\Ow gq (is 5) (is 5) w qA_v qA/\(v:Int)<=((p.1.length:Int):Int)/\(qA=(p.1.take v).map cS)) (λ⟨qA_v,qA,v,gq⟩=>Int.toNat (((p.1.length:Int):Int)-(v:Int))) (vn,[],0,g23) ?_ ?_
   have C29:=cg [3] (hb15.n.seq (hb17.n.seq (ch21.n.seq (ch26.l rfl))))
   have C28:=ch2.n.seq (ch7.n.seq (hb12.n.seq C29))
   · exact⟨bH.ca C28,rfl,rfl,rfl,rfl,(Rg.cn ch21).ce ch26,Rp.ca C29,r_p_v1.ca C29,(bx5.cn ch21).ce ch26,bx10.ca C29,bx27,Ow.nil,by omega,by rfl⟩
   clear Rg Rp r_p_v1 bx5 bx10 bx27 bH
   rintro⟨qA_v,qA,v,g32⟩ f30 w31 ⟨bH,zs2,zs3,zs5,zs6,Rg,Rp,r_p_v1,bx5,bx10,bx27,o_qA,hle_v,hqa⟩ back7
   have hal:=nT hqa
   refine a8 (a8 (a7 rfl (mz zs6 (lx (a9 eQ rfl rfl zs3 rfl) (lx (aa bD rfl bx10 rfl) ?_)))))
   have len33:=(Rp).small
   refine lx (bO cT rfl Rp) (lx (bc (m:=↑v) (n:=(p.1.length:Int)) rfl rfl) (ab ?_))
   by_cases p7:(v:Int)<(p.1.length:Int)
   ·
    refine ag rfl (dt p7) (au (a8 (aC (a8 (a8 (a7 rfl (lx (a9 eQ rfl rfl zs3 rfl) (lx (aa bD rfl bx10 rfl) (mz zs6 (lx (af (v:=p_v) (i:=↑v) cT rfl rfl Rp rfl (by omega) (by omega)) (lw (vg [vi ((gI p.1 ↑v).1),vi ((gI p.1 ↑v).2)]) (aT (v:=p_v) (i:=↑v) aj rfl Rp (by omega) (by omega) rfl) ?_)))))))))))
    refine lo (aP (v:=vb (decide (c5 (gI p.1 ↑v)))) (aG (vals:=[vg [vi ((gI p.1 ↑v).1),vi ((gI p.1 ↑v).2)]]) Try.func20 m8 lB rfl) (nG w31 (gI p.1 ↑v)) ?_)
    intro w34 hb35
    replace hb35:=am hb35 g32
    refine lx (dr (b:=(decide (c5 (gI p.1 ↑v)))) rfl) (ab ?_)
    by_cases p9:(decide (c5 (gI p.1 ↑v)))=true
    ·
     refine ah rfl (congrArg Bool.not p9) (au ?_)
     obtain⟨⟨hv1,hv2⟩,hv3,hv4⟩:=(of_decide_eq_true ‹_›:c5 (gI p.1 ↑v))
     refine l8 (σ:=Value×aV) (λ⟨v46,gq⟩ f w=>bu w0 gq w/\f 2=vp b3 0/\f 3=vp b8 0/\f 5=vp b22 0/\f 6=vi ↑v/\Sl gq (is 0) w g_v g.2/\Sl gq (is 0) w p_v p.1/\Sl gq (is 0) w p_v1 p.2/\Bx gq (is 1) w b3 [vi g.1,g_v]/\Bx gq (is 2) w b8 [p_v,p_v1]/\Ow gq (is 5) (is 5) w v46 (qA++([((2*((gI p.1 ↑v).1)),(2*((gI p.1 ↑v).2)))]:List Pt))/\Bx gq (is 3) w b22 [v46,vn]) g32 [0,2,3,4,5,6,7,8,9,10,11,12,13,14,15,19] kD ?_ ?_
     ·
      intro mid
      intro w37 ch36
      refine xp 0 rfl (λw=>a9 eQ rfl rfl zs5 rfl) (xp 2 rfl (λw=>a9 eQ rfl rfl zs3 rfl) ?_)
      replace bx10:=(bx10.cn hb35).cn ch36
      refine xh 3 [2,0,1,4,9,11,10,12,13,14,15] rfl (λw' hw'=>aa bD rfl (bx10.bel hw') rfl) (xp (v:=vi ↑v) 4 rfl (λw=>aR zs6) ?_)
      replace Rp:=(Rp.cn hb35).cn ch36
      refine xh 5 [4,3,2,0,1,9,11,10,12,13,14,15] rfl (λw' hw'=>af (v:=p_v) (i:=↑v) cT rfl rfl (Rp.bel hw') rfl (by omega) (by omega)) (xp (v:=Value.pointer (some ⟨(bb p_v 2 (Int.toNat ↑v)).block,(bb p_v 2 (Int.toNat ↑v)).off+0,none⟩)) 6 rfl (λw=>di cL rfl rfl rfl rfl) (xh 7 [6,5,4,3,2,0,1,9,11,10,12,13,14,15] rfl (λw' hw'=>cX (v:=p_v) (i:=↑v) aL rfl (Rp.bel hw') (by omega) (by omega) (by decide) rfl) (xp 8 rfl (λw=>eu (m:=2) (n:=(gI p.1 ↑v).1) rfl rfl (by omega)) (xp 9 rfl (λw=>a9 eQ rfl rfl zs3 rfl) (xh 10 [9,8,7,6,5,4,3,2,0,1,11] rfl (λw' hw'=>aa bD rfl (bx10.bel hw') rfl) (xp (v:=vi ↑v) 11 rfl (λw=>aR zs6) ?_))))))
      refine xh 12 [11,10,9,8,7,6,5,4,3,2,0,1] rfl (λw' hw'=>af (v:=p_v) (i:=↑v) cT rfl rfl (Rp.bel hw') rfl (by omega) (by omega)) (xp (v:=Value.pointer (some ⟨(bb p_v 2 (Int.toNat ↑v)).block,(bb p_v 2 (Int.toNat ↑v)).off+1,none⟩)) 13 rfl (λw=>di cL rfl rfl rfl rfl) (xh 14 [13,12,11,10,9,8,7,6,5,4,3,2,0,1] rfl (λw' hw'=>cX (v:=p_v) (i:=↑v) aL rfl (Rp.bel hw') (by omega) (by omega) (by decide) rfl) (xp 15 rfl (λw=>eu (m:=2) (n:=(gI p.1 ↑v).2) rfl rfl (by omega)) ?_)))
      refine qQ 1 16 rfl rfl (by kernel_rfl) rfl rfl ?_ ?_
      ·
       replace bx27:=(bx27.cn hb35).cn ch36
       refine aI (v:=qA_v) (aa bD rfl bx27 rfl) (ew 16 rfl (by kernel_rfl) rfl (aP (v:=vg [vi (2*((gI p.1 ↑v).1)),vi (2*((gI p.1 ↑v).2))]) (aG (vals:=[vi (2*((gI p.1 ↑v).1)),vi (2*((gI p.1 ↑v).2))]) Try.func15 eE eD rfl) (eJ w37 (2*((gI p.1 ↑v).1)) (2*((gI p.1 ↑v).2))) ?_))
       intro w38 hb39
       replace hb39:=am hb39 g32
       refine ew 17 rfl (by kernel_rfl) rfl (aH (α:=Pt) g32 (is 4) (is 4) (4,0) rfl ([((2*((gI p.1 ↑v).1)),(2*((gI p.1 ↑v).2)))]:List Pt) cT aj (by decide) (by decide) (vs:=[(0,vg [vi (2*((gI p.1 ↑v).1)),vi (2*((gI p.1 ↑v).2))])]) rfl rfl (.cons rfl .nil) ?_)
       intro g40 w41 v42 ch43 o44
       refine ew 18 rfl (by kernel_rfl) rfl ?_
       have C45:=cg [] (hb35.n.seq (ch36.n.seq (hb39.n.seq ch43.n)))
       replace o_qA:=o_qA.ca C45
       refine bj (α:=Pt) (xs:=qA) (ys:=([((2*((gI p.1 ↑v).1)),(2*((gI p.1 ↑v).2)))]:List Pt)) g40 (J:=is 5) (S:=is 5) (5,0) rfl cT aj (by decide) rfl rfl rfl o_qA o44.flat (by decide) (by(simp;omega)) ?_
       intro g46 w47 v48 ch49 o50
       clear o_qA
       refine xp 19 rfl (λw=>a9 eQ rfl rfl zs5 rfl) (ew 20 rfl (by kernel_rfl) rfl ?_)
       have C54:=cg [5] (hb39.n.seq (ch43.n.seq (ch49.l rfl)))
       replace bx27:=bx27.ca C54
       refine cB (cs':=[v48,vn]) bD rfl rfl bx27 (cI o50.flat) nq (dh o50.flat) rfl ?_
       intro w51 ch52 bx53
       clear bx27
       refine mf (by kernel_rfl) ?_
       have C56:=cg [3,5] (hb39.n.seq (ch43.n.seq ((ch49.l rfl).seq (ch52.l rfl))))
       have C55:=hb35.n.seq (ch36.n.seq C56)
       exact mid (v48,g46) _ _ ⟨bH.ca C55,zs2,zs3,zs5,zs6,Rg.ca C55,Rp.ca C56,r_p_v1.ca C55,bx5.ca C55,bx10.ca C56,o50.ce ch52,bx53⟩
      ·
       refine aP (v:=vg [vi (2*((gI p.1 ↑v).1)),vi (2*((gI p.1 ↑v).2))]) (aG (vals:=[vi (2*((gI p.1 ↑v).1)),vi (2*((gI p.1 ↑v).2))]) Try.func15 eE eD rfl) (eJ w37 (2*((gI p.1 ↑v).1)) (2*((gI p.1 ↑v).2))) ?_
       intro w57 hb58
       replace hb58:=am hb58 g32
       refine qQ 1 17 rfl rfl (by kernel_rfl) rfl rfl ?_ ?_
       ·
        have C59:=cg [] (hb35.n.seq (ch36.n.seq hb58.n))
        replace bx27:=bx27.ca C59
        refine aI (v:=qA_v) (aa bD rfl bx27 rfl) (ew 17 rfl (by kernel_rfl) rfl (aH (α:=Pt) g32 (is 4) (is 4) (4,0) rfl ([((2*((gI p.1 ↑v).1)),(2*((gI p.1 ↑v).2)))]:List Pt) cT aj (by decide) (by decide) (vs:=[(0,vg [vi (2*((gI p.1 ↑v).1)),vi (2*((gI p.1 ↑v).2))])]) rfl rfl (.cons rfl .nil) ?_))
        intro g60 w61 v62 ch63 o64
        refine ew 18 rfl (by kernel_rfl) rfl ?_
        have C65:=cg [] (hb35.n.seq (ch36.n.seq (hb58.n.seq ch63.n)))
        replace o_qA:=o_qA.ca C65
        refine bj (α:=Pt) (xs:=qA) (ys:=([((2*((gI p.1 ↑v).1)),(2*((gI p.1 ↑v).2)))]:List Pt)) g60 (J:=is 5) (S:=is 5) (5,0) rfl cT aj (by decide) rfl rfl rfl o_qA o64.flat (by decide) (by(simp;omega)) ?_
        intro g66 w67 v68 ch69 o70
        clear o_qA
        refine xp 19 rfl (λw=>a9 eQ rfl rfl zs5 rfl) (ew 20 rfl (by kernel_rfl) rfl ?_)
        replace bx27:=(bx27.cn ch63).ce ch69
        refine cB (cs':=[v68,vn]) bD rfl rfl bx27 (cI o70.flat) nq (dh o70.flat) rfl ?_
        intro w71 ch72 bx73
        clear bx27
        refine mf (by kernel_rfl) ?_
        have C75:=cg [3,5] (hb58.n.seq (ch63.n.seq ((ch69.l rfl).seq (ch72.l rfl))))
        have C74:=hb35.n.seq (ch36.n.seq C75)
        exact mid (v68,g66) _ _ ⟨bH.ca C74,zs2,zs3,zs5,zs6,Rg.ca C74,Rp.ca C75,r_p_v1.ca C74,bx5.ca C74,bx10.ca C75,o70.ce ch72,bx73⟩
       ·
        refine aH (α:=Pt) g32 (is 4) (is 4) (4,0) rfl ([((2*((gI p.1 ↑v).1)),(2*((gI p.1 ↑v).2)))]:List Pt) cT aj (by decide) (by decide) (vs:=[(0,vg [vi (2*((gI p.1 ↑v).1)),vi (2*((gI p.1 ↑v).2))])]) rfl rfl (.cons rfl .nil) ?_
        intro g76 w77 v78 ch79 o80
        have C81:=cg [] (hb35.n.seq (ch36.n.seq (hb58.n.seq ch79.n)))
        replace bx27:=bx27.ca C81
        refine ew 1 rfl (by kernel_rfl) rfl (aI (v:=qA_v) (aa bD rfl bx27 rfl) (ew 18 rfl (by kernel_rfl) rfl ?_))
        replace o_qA:=o_qA.ca C81
        refine bj (α:=Pt) (xs:=qA) (ys:=([((2*((gI p.1 ↑v).1)),(2*((gI p.1 ↑v).2)))]:List Pt)) g76 (J:=is 5) (S:=is 5) (5,0) rfl cT aj (by decide) rfl rfl rfl o_qA o80.flat (by decide) (by(simp;omega)) ?_
        intro g82 w83 v84 ch85 o86
        clear o_qA
        refine xp 19 rfl (λw=>a9 eQ rfl rfl zs5 rfl) (ew 20 rfl (by kernel_rfl) rfl ?_)
        replace bx27:=bx27.ce ch85
        refine cB (cs':=[v84,vn]) bD rfl rfl bx27 (cI o86.flat) nq (dh o86.flat) rfl ?_
        intro w87 ch88 bx89
        clear bx27
        refine mf (by kernel_rfl) ?_
        have C91:=cg [3,5] (hb58.n.seq (ch79.n.seq ((ch85.l rfl).seq (ch88.l rfl))))
        have C90:=hb35.n.seq (ch36.n.seq C91)
        exact mid (v84,g82) _ _ ⟨bH.ca C90,zs2,zs3,zs5,zs6,Rg.ca C90,Rp.ca C91,r_p_v1.ca C90,bx5.ca C90,bx10.ca C91,o86.ce ch88,bx89⟩
     clear Rg Rp r_p_v1 bx5 bx10 bx27 o_qA bH
     rintro⟨v46,g94⟩ f92 w93 ⟨bH,zs2,zs3,zs5,zs6,Rg,Rp,r_p_v1,bx5,bx10,o48,bx51⟩
     refine ap (a7 rfl (mz zs6 (lx (ba (m:=↑v) (n:=1) rfl rfl (by omega)) (ai ((v:Int)+1) (ab ?_)))))
     refine back7 (v46,(qA++([((2*((gI p.1 ↑v).1)),(2*((gI p.1 ↑v).2)))]:List Pt)),v+1,g94) _ _ ⟨bH,zs2,zs3,zs5,rfl,Rg,Rp,r_p_v1,bx5,bx10,bx51,o48,by omega,?_⟩ ?_
     · show(qA++([((2*((gI p.1 ↑v).1)),(2*((gI p.1 ↑v).2)))]:List Pt))=(p.1.take (v+1)).map cS
       exact mw hqa ‹_›
     · show Int.toNat (((p.1.length:Int):Int)-((v+1):Int))<Int.toNat (((p.1.length:Int):Int)-(v:Int))
       omega
    refine ag rfl (congrArg Bool.not (Bool.eq_false_iff.2 p9)) (a8 ?_)
    clear bx5 bx10 bx27 o_qA
    refine a7 rfl (ma (vb true) (ab (aw (vs:=[vb true]) Try.func5 (.tmp rfl .nil) ?_)))
    have e0:(true:Bool)=(true):=by
      rfl
    replace bH:=bH.cn hb35
    exact⟨rb e0,bH.below⟩
   refine ah rfl (df p7) (aQ rfl (a8 (a8 (a7 rfl (ai 0 (ab (aC ?_)))))))
   refine bF (σ:=Value×(List (List Pt))×Nat×aV) (λ⟨qL_v,qL,e,gq⟩ f w=>bu w0 gq w/\f 2=vp b3 0/\f 3=vp b8 0/\f 5=vp b22 0/\f 7=vi ↑e/\Sl gq (is 0) w g_v g.2/\Sl gq (is 0) w p_v p.1/\Sl gq (is 0) w p_v1 p.2/\Bx gq (is 1) w b3 [vi g.1,g_v]/\Bx gq (is 2) w b8 [p_v,p_v1]/\Bx gq (is 3) w b22 [qA_v,qL_v]/\Ow gq (is 5) (is 5) w qA_v qA/\dH gq 9 w qL_v qL/\(e:Int)<=((p.2.length:Int):Int)/\(qL=(p.2.take e).map (List.map cS))) (λ⟨qL_v,qL,e,gq⟩=>Int.toNat (((p.2.length:Int):Int)-(e:Int))) (vn,[],0,g32) ?_ ?_
   · exact⟨bH,zs2,zs3,zs5,rfl,Rg,Rp,r_p_v1,bx5,bx10,bx27,o_qA,dH.nil,by omega,by rfl⟩
   clear Rg Rp r_p_v1 bx5 bx10 bx27 o_qA bH
   rintro⟨qL_v,qL,e,g97⟩ f95 w96 ⟨bH,zs2,zs3,zs5,zs7,Rg,Rp,r_p_v1,bx5,bx10,bx27,o_qA,o_qL,hle_e,hql⟩ back13
   have hbl:=ry hql
   refine a8 (a8 (a7 rfl (mz zs7 (lx (a9 eQ rfl rfl zs3 rfl) (lx (aa cP rfl bx10 rfl) ?_)))))
   have len98:=(r_p_v1).small
   refine lx (bO iL rfl r_p_v1) (lx (bc (m:=↑e) (n:=(p.2.length:Int)) rfl rfl) (ab ?_))
   by_cases p13:(e:Int)<(p.2.length:Int)
   ·
    refine ag rfl (dt p13) ?_
    have hle:=hp6 (e:Int) (by omega) ‹_›
    refine au (a8 (aC (a8 (a7 rfl (ma vn (ab (a8 (a8 (a7 rfl (ai 0 (ab (aC ?_))))))))))))
    refine bF (σ:=Value×(List Pt)×Nat×aV) (λ⟨l_v,l,k,gq⟩ f w=>bu w0 gq w/\f 2=vp b3 0/\f 3=vp b8 0/\f 5=vp b22 0/\f 7=vi ↑e/\f 8=l_v/\f 9=vi ↑k/\Sl gq (is 0) w g_v g.2/\Sl gq (is 0) w p_v p.1/\Sl gq (is 0) w p_v1 p.2/\Bx gq (is 1) w b3 [vi g.1,g_v]/\Bx gq (is 2) w b8 [p_v,p_v1]/\Bx gq (is 3) w b22 [qA_v,qL_v]/\Ow gq (is 5) (is 5) w qA_v qA/\dH gq 9 w qL_v qL/\Ow gq (is 7) (is 7) w l_v l/\(k:Int)<=((List.length (gI p.2 ↑e):Int):Int)/\(l=((gI p.2 ↑e).take k).map cS)) (λ⟨l_v,l,k,gq⟩=>Int.toNat (((List.length (gI p.2 ↑e):Int):Int)-(k:Int))) (vn,[],0,g97) ?_ ?_
    · exact⟨bH,zs2,zs3,zs5,zs7,rfl,rfl,Rg,Rp,r_p_v1,bx5,bx10,bx27,o_qA,o_qL,Ow.nil,by omega,by simp⟩
    clear Rg Rp r_p_v1 bx5 bx10 bx27 o_qA o_qL bH
    rintro⟨l_v,l,k,g101⟩ f99 w100 ⟨bH,zs2,zs3,zs5,zs7,zs8,zs9,Rg,Rp,r_p_v1,bx5,bx10,bx27,o_qA,o_qL,o_l,hle_k,hqk⟩ back17
    have hcl:=nT hqk
    refine a8 (a8 (a7 rfl (mz zs9 (lx (a9 eQ rfl rfl zs3 rfl) (lx (aa cP rfl bx10 rfl) (mz zs7 (lx (af (v:=p_v1) (i:=↑e) iL rfl rfl r_p_v1 rfl (by omega) (by omega)) ?_)))))))
    obtain⟨v102,cel103,r104⟩:=dK (r:=(e:Int)) r_p_v1 (by omega) (by omega)
    refine lx (aZ bD rfl cel103) ?_
    have len105:=(r104).small
    refine lx (bO cT rfl r104) (lx (bc (m:=↑k) (n:=(List.length (gI p.2 ↑e):Int)) rfl rfl) (ab ?_))
    by_cases p17:(k:Int)<(List.length (gI p.2 ↑e):Int)
    ·
     refine ag rfl (dt p17) (au (a8 (aC (a8 (a8 ?_)))))
     clear r104
     refine a7 rfl (lx (a9 eQ rfl rfl zs3 rfl) (lx (aa cP rfl bx10 rfl) (mz zs7 (lx (af (v:=p_v1) (i:=↑e) iL rfl rfl r_p_v1 rfl (by omega) (by omega)) ?_))))
     obtain⟨v106,cel107,r108⟩:=dK (r:=(e:Int)) r_p_v1 (by omega) (by omega)
     refine lx (aZ bD rfl cel107) (mz zs9 (lx (af (v:=v106) (i:=↑k) cT rfl rfl r108 rfl (by omega) (by omega)) (lw (vg [vi ((gI (gI p.2 ↑e) ↑k).1),vi ((gI (gI p.2 ↑e) ↑k).2)]) (aT (v:=v106) (i:=↑k) aj rfl r108 (by omega) (by omega) rfl) (lo (aP (v:=vb (decide (c5 (gI (gI p.2 ↑e) ↑k)))) (aG (vals:=[vg [vi ((gI (gI p.2 ↑e) ↑k).1),vi ((gI (gI p.2 ↑e) ↑k).2)]]) Try.func20 m8 lB rfl) (nG w100 (gI (gI p.2 ↑e) ↑k)) ?_)))))
     intro w109 hb110
     replace hb110:=am hb110 g101
     refine lx (dr (b:=(decide (c5 (gI (gI p.2 ↑e) ↑k)))) rfl) (ab ?_)
     by_cases p19:(decide (c5 (gI (gI p.2 ↑e) ↑k)))=true
     ·
      refine ah rfl (congrArg Bool.not p19) (au ?_)
      clear r108
      obtain⟨⟨hv1,hv2⟩,hv3,hv4⟩:=(of_decide_eq_true ‹_›:c5 (gI (gI p.2 ↑e) ↑k))
      refine gm g101 [0,1,2,3,4,5,6,7,8,9,10,11,12,13,14,15,16,17,18,19,20,24] kD ?_
      intro w112 ch111
      refine xp (v:=l_v) 0 rfl (λw=>aR zs8) (xp 1 rfl (λw=>a9 eQ rfl rfl zs3 rfl) ?_)
      replace bx10:=(bx10.cn hb110).cn ch111
      refine xv 2 [1,0,3,6,11,13,16,12,14,15,17,18,19,20] rfl (aa cP rfl bx10 rfl) (xp (v:=vi ↑e) 3 rfl (λw=>aR zs7) ?_)
      replace r_p_v1:=(r_p_v1.cn hb110).cn ch111
      refine xv 4 [3,2,1,0,6,11,13,16,12,14,15,17,18,19,20] rfl (af (v:=p_v1) (i:=↑e) iL rfl rfl r_p_v1 rfl (by omega) (by omega)) ?_
      obtain⟨v113,cel114,r115⟩:=dK (r:=(e:Int)) r_p_v1 (by omega) (by omega)
      refine xv 5 [4,3,2,1,0,6,11,13,16,12,14,15,17,18,19,20] rfl (aZ bD rfl cel114) (xp (v:=vi ↑k) 6 rfl (λw=>aR zs9) (xv 7 [6,5,4,3,2,1,0,11,13,16,12,14,15,17,18,19,20] rfl (af (v:=v113) (i:=↑k) cT rfl rfl r115 rfl (by omega) (by omega)) (xp (v:=Value.pointer (some ⟨(bb v113 2 (Int.toNat ↑k)).block,(bb v113 2 (Int.toNat ↑k)).off+0,none⟩)) 8 rfl (λw=>di cL rfl rfl rfl rfl) (xv 9 [8,7,6,5,4,3,2,1,0,11,13,16,12,14,15,17,18,19,20] rfl (cX (v:=v113) (i:=↑k) aL rfl r115 (by omega) (by omega) (by decide) rfl) (xp 10 rfl (λw=>eu (m:=2) (n:=(gI (gI p.2 ↑e) ↑k).1) rfl rfl (by omega)) (xp 11 rfl (λw=>a9 eQ rfl rfl zs3 rfl) ?_))))))
      refine xv 12 [11,10,9,8,7,6,5,4,3,2,1,0,13,16] rfl (aa cP rfl bx10 rfl) (xp (v:=vi ↑e) 13 rfl (λw=>aR zs7) (xv 14 [13,12,11,10,9,8,7,6,5,4,3,2,1,0,16] rfl (af (v:=p_v1) (i:=↑e) iL rfl rfl r_p_v1 rfl (by omega) (by omega)) ?_))
      obtain⟨v116,cel117,r118⟩:=dK (r:=(e:Int)) r_p_v1 (by omega) (by omega)
      refine xv 15 [14,13,12,11,10,9,8,7,6,5,4,3,2,1,0,16] rfl (aZ bD rfl cel117) (xp (v:=vi ↑k) 16 rfl (λw=>aR zs9) (xv 17 [16,15,14,13,12,11,10,9,8,7,6,5,4,3,2,1,0] rfl (af (v:=v116) (i:=↑k) cT rfl rfl r118 rfl (by omega) (by omega)) (xp (v:=Value.pointer (some ⟨(bb v116 2 (Int.toNat ↑k)).block,(bb v116 2 (Int.toNat ↑k)).off+1,none⟩)) 18 rfl (λw=>di cL rfl rfl rfl rfl) (xv 19 [18,17,16,15,14,13,12,11,10,9,8,7,6,5,4,3,2,1,0] rfl (cX (v:=v116) (i:=↑k) aL rfl r118 (by omega) (by omega) (by decide) rfl) (xp 20 rfl (λw=>eu (m:=2) (n:=(gI (gI p.2 ↑e) ↑k).2) rfl rfl (by omega)) (ew 21 rfl (by kernel_rfl) rfl ?_))))))
      refine aP (v:=vg [vi (2*((gI (gI p.2 ↑e) ↑k).1)),vi (2*((gI (gI p.2 ↑e) ↑k).2))]) (aG (vals:=[vi (2*((gI (gI p.2 ↑e) ↑k).1)),vi (2*((gI (gI p.2 ↑e) ↑k).2))]) Try.func15 eE eD rfl) (eJ w112 (2*((gI (gI p.2 ↑e) ↑k).1)) (2*((gI (gI p.2 ↑e) ↑k).2))) ?_
      intro w119 hb120
      replace hb120:=am hb120 g101
      refine ew 22 rfl (by kernel_rfl) rfl (aH (α:=Pt) g101 (is 6) (is 6) (6,0) rfl ([((2*((gI (gI p.2 ↑e) ↑k).1)),(2*((gI (gI p.2 ↑e) ↑k).2)))]:List Pt) cT aj (by decide) (by decide) (vs:=[(0,vg [vi (2*((gI (gI p.2 ↑e) ↑k).1)),vi (2*((gI (gI p.2 ↑e) ↑k).2))])]) rfl rfl (.cons rfl .nil) ?_)
      intro g121 w122 v123 ch124 o125
      refine ew 23 rfl (by kernel_rfl) rfl ?_
      have C126:=cg [] (hb110.n.seq (ch111.n.seq (hb120.n.seq ch124.n)))
      replace o_l:=o_l.ca C126
      refine bj (α:=Pt) (xs:=l) (ys:=([((2*((gI (gI p.2 ↑e) ↑k).1)),(2*((gI (gI p.2 ↑e) ↑k).2)))]:List Pt)) g121 (J:=is 7) (S:=is 7) (7,0) rfl cT aj (by decide) rfl rfl rfl o_l o125.flat (by decide) (by(simp;omega)) ?_
      intro g127 w128 v129 ch130 o131
      clear o_l
      refine xp (v:=v129) 24 rfl (λw=>bw rfl) (mf (by kernel_rfl) (ap ?_))
      clear r115 r118 o125
      refine a7 rfl (mz zs9 (lx (ba (m:=↑k) (n:=1) rfl rfl (by omega)) (ai ((k:Int)+1) (ab ?_))))
      have C133:=cg [7] (hb120.n.seq (ch124.n.seq (ch130.l rfl)))
      have C132:=hb110.n.seq (ch111.n.seq C133)
      refine back17 (v129,(l++([((2*((gI (gI p.2 ↑e) ↑k).1)),(2*((gI (gI p.2 ↑e) ↑k).2)))]:List Pt)),k+1,g127) _ _ ⟨bH.ca C132,zs2,zs3,zs5,zs7,rfl,rfl,Rg.ca C132,Rp.ca C132,r_p_v1.ca C133,bx5.ca C132,bx10.ca C133,bx27.ca C132,o_qA.ca C132,o_qL.ca C132,o131,by omega,?_⟩ ?_
      · show(l++([((2*((gI (gI p.2 ↑e) ↑k).1)),(2*((gI (gI p.2 ↑e) ↑k).2)))]:List Pt))=((gI p.2 ↑e).take (k+1)).map cS
        exact mw hqk ‹_›
      · show Int.toNat (((List.length (gI p.2 ↑e):Int):Int)-((k+1):Int))<Int.toNat (((List.length (gI p.2 ↑e):Int):Int)-(k:Int))
        omega
     refine ag rfl (congrArg Bool.not (Bool.eq_false_iff.2 p19)) (a8 ?_)
     clear bx5 bx10 bx27 o_qA o_qL o_l r108
     refine a7 rfl (ma (vb true) (ab (aw (vs:=[vb true]) Try.func5 (.tmp rfl .nil) ?_)))
     have e0:(true:Bool)=(true):=by
       rfl
     replace bH:=bH.cn hb110
     exact⟨rb e0,bH.below⟩
    refine ah rfl (df p17) (aQ rfl ?_)
    clear r104
    refine a7 rfl (lx (a9 eQ rfl rfl zs5 rfl) (lx (aa cP rfl bx27 rfl) (mz zs8 (lo ?_))))
    obtain⟨c134,hv135⟩:=iT (u:=l_v) (dh o_l.flat)
    refine aH (α:=Vc) g101 (is 8) (is 8) (8,0) rfl [c134] iL bD (by decide) (by decide) (vs:=[(0,l_v)]) rfl rfl (.cons (gR hv135 (cI o_l.flat)) .nil) ?_
    intro g136 w137 v138 ch139 o140
    refine lo ?_
    replace o_qL:=o_qL.cn ch139
    replace o_l:=o_l.cn ch139
    refine jK hv135 (α:=Pt) (xss:=qL) (i:=9) (γ:=g136) iL bD rfl rfl rfl o_qL (o140.flat) o_l rfl (by decide) (by omega) ?_
    intro g141 w142 v143 ch144 o145 r146
    clear o_qL o_l
    refine lx (a9 eQ rfl rfl zs5 rfl) (lo ?_)
    replace bx27:=(bx27.cn ch139).chg ch144 (pA rfl rfl)
    refine cB (cs':=[qA_v,v143]) cP rfl rfl bx27 (cI o145.sl) nq (dh o145.sl) rfl ?_
    intro w147 ch148 bx149
    clear bx27
    refine ab (ap ?_)
    clear o140 r146
    refine a7 rfl (mz zs7 (lx (ba (m:=↑e) (n:=1) rfl rfl (by omega)) (ai ((e:Int)+1) (ab ?_))))
    have C150:=cg [3,7,9] (ch139.n.seq ((ch144.lx rfl rfl).seq (ch148.l rfl)))
    refine back13 (v143,(qL++[l]),e+1,g141) _ _ ⟨bH.ca C150,zs2,zs3,zs5,rfl,Rg.ca C150,Rp.ca C150,r_p_v1.ca C150,bx5.ca C150,bx10.ca C150,bx149,o_qA.ca C150,o145.ce ch148,by omega,?_⟩ ?_
    · show(qL++[l])=(p.2.take (e+1)).map (List.map cS)
      exact qf hql ‹_› hqk ‹_›
    · show Int.toNat (((p.2.length:Int):Int)-((e+1):Int))<Int.toNat (((p.2.length:Int):Int)-(e:Int))
      omega
   refine ah rfl (df p13) (aQ rfl (a8 ?_))
   have hqe:(qA,qL)=ck cS p:=by rw[hqa,hql,List.take_of_length_le (by omega),List.take_of_length_le (by omega)];rfl
   have hfq:aY g (qA,qL)=0->∀k:Int,gI (aD (qA,qL)) k<aJ:=by rw[hqe];exact λhf=>mN hf hp6
   refine a7 rfl (lx (ae (ds:=[vi g.1,g_v]) bS zs2 bx5 rfl rfl) (lx (ae (ds:=[p_v,p_v1]) bP zs3 bx10 rfl rfl) (lo (aP (v:=vt [vg [Value.float .f64 (((av g p).1).1),Value.float .f64 ((((av g p).1).2).1),Value.float .f64 (((((av g p).1).2).2).1),Value.float .f64 ((((((av g p).1).2).2).2).1),Value.float .f64 (((((((av g p).1).2).2).2).2).1),Value.float .f64 ((((((((av g p).1).2).2).2).2).2).1),Value.float .f64 ((((((((av g p).1).2).2).2).2).2).2)],vi ((av g p).2)]) (aG (vals:=[vg [vi g.1,g_v],vg [p_v,p_v1]]) Try.func8 kX l3 rfl) (iB w96 g g_v (Rg).ro p p_v p_v1 (Rp).ro (r_p_v1).ro (by exact λhf=>j1 (eH hf).2.1 hp6)) ?_))))
   intro w151 hb152
   replace hb152:=am hb152 g97
   refine mv (vt [vg [Value.float .f64 (((av g p).1).1),Value.float .f64 ((((av g p).1).2).1),Value.float .f64 (((((av g p).1).2).2).1),Value.float .f64 ((((((av g p).1).2).2).2).1),Value.float .f64 (((((((av g p).1).2).2).2).2).1),Value.float .f64 ((((((((av g p).1).2).2).2).2).2).1),Value.float .f64 ((((((((av g p).1).2).2).2).2).2).2)],vi ((av g p).2)]) (lx (bg rfl rfl) (lx (bg rfl rfl) (lo (bo g97 (is 10) (10,0) rfl b9 ?_))))
   intro g156 w153 b155 ch154 bx157
   replace bx157:Bx g156 (is 10) w153 b155 [Value.float .f64 0,Value.float .f64 0,Value.float .f64 0,Value.float .f64 0,Value.float .f64 0,Value.float .f64 0,Value.float .f64 0]:=bx157
   refine lo (ao (cs':=[Value.float .f64 (((av g p).1).1),Value.float .f64 ((((av g p).1).2).1),Value.float .f64 (((((av g p).1).2).2).1),Value.float .f64 ((((((av g p).1).2).2).2).1),Value.float .f64 (((((((av g p).1).2).2).2).2).1),Value.float .f64 ((((((((av g p).1).2).2).2).2).2).1),Value.float .f64 ((((((((av g p).1).2).2).2).2).2).2)]) b9 rfl rfl bx157 rfl nq (AllOne.all (.cons rfl (.cons rfl (.cons rfl (.cons rfl (.cons rfl (.cons rfl (.cons rfl .nil)))))))) rfl ?_)
   intro w158 ch159 bx160
   clear bx157
   refine ai ((av g p).2) (ab (a8 (a7 rfl ?_)))
   have C161:=cg [10] (hb152.n.seq (ch154.n.seq (ch159.l rfl)))
   replace bx5:=bx5.ca C161
   refine lx (ae (ds:=[vi g.1,g_v]) bS zs2 bx5 rfl rfl) ?_
   replace bx27:=bx27.ca C161
   refine lx (ae (ds:=[qA_v,qL_v]) bP zs5 bx27 rfl rfl) ?_
   replace Rg:=Rg.ca C161
   replace o_qA:=o_qA.ca C161
   replace o_qL:=o_qL.ca C161
   refine lo (aP (v:=vt [vg [Value.float .f64 (((av g (qA,qL)).1).1),Value.float .f64 ((((av g (qA,qL)).1).2).1),Value.float .f64 (((((av g (qA,qL)).1).2).2).1),Value.float .f64 ((((((av g (qA,qL)).1).2).2).2).1),Value.float .f64 (((((((av g (qA,qL)).1).2).2).2).2).1),Value.float .f64 ((((((((av g (qA,qL)).1).2).2).2).2).2).1),Value.float .f64 ((((((((av g (qA,qL)).1).2).2).2).2).2).2)],vi ((av g (qA,qL)).2)]) (aG (vals:=[vg [vi g.1,g_v],vg [qA_v,qL_v]]) Try.func8 kX l3 rfl) (iB w158 g g_v (Rg).ro (qA,qL) qA_v qL_v (o_qA.flat).ro (o_qL.sl).ro (by exact hfq)) ?_)
   intro w162 hb163
   replace hb163:=am hb163 g156
   refine mv (vt [vg [Value.float .f64 (((av g (qA,qL)).1).1),Value.float .f64 ((((av g (qA,qL)).1).2).1),Value.float .f64 (((((av g (qA,qL)).1).2).2).1),Value.float .f64 ((((((av g (qA,qL)).1).2).2).2).1),Value.float .f64 (((((((av g (qA,qL)).1).2).2).2).2).1),Value.float .f64 ((((((((av g (qA,qL)).1).2).2).2).2).2).1),Value.float .f64 ((((((((av g (qA,qL)).1).2).2).2).2).2).2)],vi ((av g (qA,qL)).2)]) (lx (bg rfl rfl) (lx (bg rfl rfl) (lo (bo g156 (is 11) (11,0) rfl b9 ?_))))
   intro g167 w164 b166 ch165 bx168
   replace bx168:Bx g167 (is 11) w164 b166 [Value.float .f64 0,Value.float .f64 0,Value.float .f64 0,Value.float .f64 0,Value.float .f64 0,Value.float .f64 0,Value.float .f64 0]:=bx168
   refine lo (ao (cs':=[Value.float .f64 (((av g (qA,qL)).1).1),Value.float .f64 ((((av g (qA,qL)).1).2).1),Value.float .f64 (((((av g (qA,qL)).1).2).2).1),Value.float .f64 ((((((av g (qA,qL)).1).2).2).2).1),Value.float .f64 (((((((av g (qA,qL)).1).2).2).2).2).1),Value.float .f64 ((((((((av g (qA,qL)).1).2).2).2).2).2).1),Value.float .f64 ((((((((av g (qA,qL)).1).2).2).2).2).2).2)]) b9 rfl rfl bx168 rfl nq (AllOne.all (.cons rfl (.cons rfl (.cons rfl (.cons rfl (.cons rfl (.cons rfl (.cons rfl .nil)))))))) rfl ?_)
   intro w169 ch170 bx171
   clear bx168
   refine ai ((av g (qA,qL)).2) (ab (a8 (a7 rfl ?_)))
   have C172:=cg [11] (hb163.n.seq (ch165.n.seq (ch170.l rfl)))
   replace bx5:=bx5.ca C172
   refine lx (ae (ds:=[vi g.1,g_v]) bS zs2 bx5 rfl rfl) ?_
   have C173:=cg [10,11] (hb152.n.seq (ch154.n.seq ((ch159.l rfl).seq (hb163.n.seq (ch165.n.seq (ch170.l rfl))))))
   replace bx10:=bx10.ca C173
   refine lx (ae (ds:=[p_v,p_v1]) bP zs3 bx10 rfl rfl) ?_
   replace Rg:=Rg.ca C172
   replace Rp:=Rp.ca C173
   replace r_p_v1:=r_p_v1.ca C173
   refine lo (aP (v:=vt [Value.float .f64 ((bz g p).1),vi ((bz g p).2)]) (aG (vals:=[vg [vi g.1,g_v],vg [p_v,p_v1]]) Try.func17 jq jn rfl) (ii w169 g g_v (Rg).ro p p_v p_v1 (Rp).ro (r_p_v1).ro) ?_)
   intro w174 hb175
   replace hb175:=am hb175 g167
   refine mv (vt [Value.float .f64 ((bz g p).1),vi ((bz g p).2)]) (lx (bg rfl rfl) (lx (bg rfl rfl) (ma (Value.float .f64 ((bz g p).1)) (ai ((bz g p).2) (ab (a8 ?_))))))
   clear bx10
   refine a7 rfl ?_
   replace bx5:=bx5.cn hb175
   refine lx (ae (ds:=[vi g.1,g_v]) bS zs2 bx5 rfl rfl) ?_
   have C176:=cg [11] (hb163.n.seq (ch165.n.seq ((ch170.l rfl).seq hb175.n)))
   replace bx27:=bx27.ca C176
   refine lx (ae (ds:=[qA_v,qL_v]) bP zs5 bx27 rfl rfl) ?_
   replace Rg:=Rg.cn hb175
   replace o_qA:=o_qA.ca C176
   replace o_qL:=o_qL.ca C176
   refine lo (aP (v:=vt [Value.float .f64 ((bz g (qA,qL)).1),vi ((bz g (qA,qL)).2)]) (aG (vals:=[vg [vi g.1,g_v],vg [qA_v,qL_v]]) Try.func17 jq jn rfl) (ii w174 g g_v (Rg).ro (qA,qL) qA_v qL_v (o_qA.flat).ro (o_qL.sl).ro) ?_)
   intro w177 hb178
   replace hb178:=am hb178 g167
   refine mv (vt [Value.float .f64 ((bz g (qA,qL)).1),vi ((bz g (qA,qL)).2)]) (lx (bg rfl rfl) (lx (bg rfl rfl) (ma (Value.float .f64 ((bz g (qA,qL)).1)) (ai ((bz g (qA,qL)).2) (ab (a8 (a8 ?_)))))))
   clear bx5 bx27 o_qA o_qL
   refine a7 rfl (mi ((av g p).2) (lx (fM (m:=(av g p).2) (n:=0) rfl rfl) (mv (vb (!(decide (((av g p).2)=0)))) ?_)))
   by_cases q154:((av g p).2)=0
   ·
    refine lv (vi ((av g (qA,qL)).2)) (wy (congrArg Bool.not (dt q154))) (aR rfl) (lv (vb (!(decide (((av g (qA,qL)).2)=0)))) (wy (congrArg Bool.not (dt q154))) (fM (m:=(av g (qA,qL)).2) (n:=0) rfl rfl) (lw (vb (!(decide (((av g (qA,qL)).2)=0)))) (aS rfl (congrArg Bool.not (dt q154)) rfl) (ab ?_)))
    by_cases p27:((av g (qA,qL)).2)=0
    ·
     refine ah rfl (congrArg Bool.not (dt p27)) (au (a8 ?_))
     have hT:gF g p:=gF.of hm ‹_› (by rw[<-hqe];assumption) hp6 hlt ‹_›
     refine a7 rfl (lx (a9 dR rfl rfl rfl rfl) ?_)
     have C179:=cg [11] (hb163.n.seq (ch165.n.seq ((ch170.l rfl).seq (hb175.n.seq hb178.n))))
     replace bx160:=bx160.ca C179
     refine lx (aa aF rfl bx160 rfl) (lx (a9 dR rfl rfl rfl rfl) ?_)
     replace bx171:=(bx171.cn hb175).cn hb178
     refine lx (aa aF rfl bx171 rfl) (lw (vb (oE (((((((av g p).1).2).2).2).2).1) (((((((av g (qA,qL)).1).2).2).2).2).1))) (gn (a:=(((((((av g p).1).2).2).2).2).1)) (b:=(((((((av g (qA,qL)).1).2).2).2).2).1)) rfl rfl rfl) (mv (vb (oE (((((((av g p).1).2).2).2).2).1) (((((((av g (qA,qL)).1).2).2).2).2).1))) ?_))
     by_cases q163:oE (((((((av g p).1).2).2).2).2).1) (((((((av g (qA,qL)).1).2).2).2).2).1)=true
     ·
      refine ak (wn q163) (ak (wn q163) (ak (wn q163) (ak (wn q163) (ak (wn q163) (ak (wn q163) (ak (bx rfl rfl rfl) (ak (bx rfl rfl rfl) (ak (bx rfl rfl rfl) (ak (bx rfl rfl rfl) (ak (bx rfl rfl rfl) (ak (wn q163) (lw (vb true) (aM rfl q163 rfl) (ma (vb true) (ab (a8 (a7 rfl ?_))))))))))))))))
      refine lx (a9 dR rfl rfl rfl rfl) (lx (aa aF rfl bx171 rfl) (lx (a9 dR rfl rfl rfl rfl) (lx (aa aF rfl bx160 rfl) (lw (Value.float .f64 (bi 4611686018427387904 (((av g p).1).1))) (dL (a:=4611686018427387904) (b:=(((av g p).1).1)) rfl rfl (cu (by decide) (by exact(de (hT.sum.1.u (by decide)) (by decide)))).1) ?_))))
      have nn180:bi 4611686018427387904 (((av g p).1).1)<=aJ:=(cu (x:=4611686018427387904) (y:=(((av g p).1).1)) (by decide) (by exact(de (hT.sum.1.u (by decide)) (by decide)))).2
      refine lw (vb (decide ((((av g (qA,qL)).1).1)=(bi 4611686018427387904 (((av g p).1).1))))) (dw (a:=(((av g (qA,qL)).1).1)) (b:=(bi 4611686018427387904 (((av g p).1).1))) rfl rfl (by rw[hqe];exact hT.eSum.1) ‹_›) (mv (vb (decide ((((av g (qA,qL)).1).1)=(bi 4611686018427387904 (((av g p).1).1))))) ?_)
      have q183:(((av g (qA,qL)).1).1)=(bi 4611686018427387904 (((av g p).1).1)):=by(rw[hqe];exact hT.eSum.2)
      refine lv (vp b166 1) (wy (dt q183)) (a9 dR rfl rfl rfl rfl) (lv (Value.float .f64 ((((av g (qA,qL)).1).2).1)) (wy (dt q183)) (aa aF rfl bx171 rfl) (lv (vp b155 1) (wy (dt q183)) (a9 dR rfl rfl rfl rfl) (lv (Value.float .f64 ((((av g p).1).2).1)) (wy (dt q183)) (aa aF rfl bx160 rfl) (lv (Value.float .f64 (bi 4611686018427387904 ((((av g p).1).2).1))) (wy (dt q183)) (dL (a:=4611686018427387904) (b:=((((av g p).1).2).1)) rfl rfl (cu (by decide) (by exact(de hT.mean.2.2 (by decide)))).1) ?_))))
      have nn181:bi 4611686018427387904 ((((av g p).1).2).1)<=aJ:=(cu (x:=4611686018427387904) (y:=((((av g p).1).2).1)) (by decide) (by exact(de hT.mean.2.2 (by decide)))).2
      refine lv (vb (decide (((((av g (qA,qL)).1).2).1)=(bi 4611686018427387904 ((((av g p).1).2).1))))) (wy (dt q183)) (dw (a:=((((av g (qA,qL)).1).2).1)) (b:=(bi 4611686018427387904 ((((av g p).1).2).1))) rfl rfl (by rw[hqe];exact hT.eMean.1) ‹_›) (lw (vb (decide (((((av g (qA,qL)).1).2).1)=(bi 4611686018427387904 ((((av g p).1).2).1))))) (aM rfl (dt q183) rfl) (mv (vb (decide (((((av g (qA,qL)).1).2).1)=(bi 4611686018427387904 ((((av g p).1).2).1))))) ?_))
      have q191:((((av g (qA,qL)).1).2).1)=(bi 4611686018427387904 ((((av g p).1).2).1)):=by(rw[hqe];exact hT.eMean.2)
      refine lv (vp b166 2) (wy (dt q191)) (a9 dR rfl rfl rfl rfl) (lv (Value.float .f64 (((((av g (qA,qL)).1).2).2).1)) (wy (dt q191)) (aa aF rfl bx171 rfl) (lv (vp b155 2) (wy (dt q191)) (a9 dR rfl rfl rfl rfl) (lv (Value.float .f64 (((((av g p).1).2).2).1)) (wy (dt q191)) (aa aF rfl bx160 rfl) (lv (Value.float .f64 (bi 4611686018427387904 (((((av g p).1).2).2).1))) (wy (dt q191)) (dL (a:=4611686018427387904) (b:=(((((av g p).1).2).2).1)) rfl rfl (cu (by decide) (by exact(de (hT.least.1.u (by decide)) (by decide)))).1) ?_))))
      have nn182:bi 4611686018427387904 (((((av g p).1).2).2).1)<=aJ:=(cu (x:=4611686018427387904) (y:=(((((av g p).1).2).2).1)) (by decide) (by exact(de (hT.least.1.u (by decide)) (by decide)))).2
      refine lv (vb (decide ((((((av g (qA,qL)).1).2).2).1)=(bi 4611686018427387904 (((((av g p).1).2).2).1))))) (wy (dt q191)) (dw (a:=(((((av g (qA,qL)).1).2).2).1)) (b:=(bi 4611686018427387904 (((((av g p).1).2).2).1))) rfl rfl (by rw[hqe];exact hT.eLeast.1) ‹_›) (lw (vb (decide ((((((av g (qA,qL)).1).2).2).1)=(bi 4611686018427387904 (((((av g p).1).2).2).1))))) (aM rfl (dt q191) rfl) (mv (vb (decide ((((((av g (qA,qL)).1).2).2).1)=(bi 4611686018427387904 (((((av g p).1).2).2).1))))) ?_))
      have q199:(((((av g (qA,qL)).1).2).2).1)=(bi 4611686018427387904 (((((av g p).1).2).2).1)):=by(rw[hqe];exact hT.eLeast.2)
      refine lv (vp b166 3) (wy (dt q199)) (a9 dR rfl rfl rfl rfl) (lv (Value.float .f64 ((((((av g (qA,qL)).1).2).2).2).1)) (wy (dt q199)) (aa aF rfl bx171 rfl) (lv (vp b155 3) (wy (dt q199)) (a9 dR rfl rfl rfl rfl) (lv (Value.float .f64 ((((((av g p).1).2).2).2).1)) (wy (dt q199)) (aa aF rfl bx160 rfl) (lv (Value.float .f64 (bi 4611686018427387904 ((((((av g p).1).2).2).2).1))) (wy (dt q199)) (dL (a:=4611686018427387904) (b:=((((((av g p).1).2).2).2).1)) rfl rfl (cu (by decide) (by exact(de (hT.great.1.u (by decide)) (by decide)))).1) ?_))))
      have nn183:bi 4611686018427387904 ((((((av g p).1).2).2).2).1)<=aJ:=(cu (x:=4611686018427387904) (y:=((((((av g p).1).2).2).2).1)) (by decide) (by exact(de (hT.great.1.u (by decide)) (by decide)))).2
      refine lv (vb (decide (((((((av g (qA,qL)).1).2).2).2).1)=(bi 4611686018427387904 ((((((av g p).1).2).2).2).1))))) (wy (dt q199)) (dw (a:=((((((av g (qA,qL)).1).2).2).2).1)) (b:=(bi 4611686018427387904 ((((((av g p).1).2).2).2).1))) rfl rfl (by rw[hqe];exact hT.eGreat.1) ‹_›) (lw (vb (decide (((((((av g (qA,qL)).1).2).2).2).1)=(bi 4611686018427387904 ((((((av g p).1).2).2).2).1))))) (aM rfl (dt q199) rfl) (mv (vb (decide (((((((av g (qA,qL)).1).2).2).2).1)=(bi 4611686018427387904 ((((((av g p).1).2).2).2).1))))) ?_))
      have q207:((((((av g (qA,qL)).1).2).2).2).1)=(bi 4611686018427387904 ((((((av g p).1).2).2).2).1)):=by(rw[hqe];exact hT.eGreat.2)
      refine lv (vp b166 5) (wy (dt q207)) (a9 dR rfl rfl rfl rfl) (lv (Value.float .f64 ((((((((av g (qA,qL)).1).2).2).2).2).2).1)) (wy (dt q207)) (aa aF rfl bx171 rfl) (lv (vp b155 5) (wy (dt q207)) (a9 dR rfl rfl rfl rfl) (lv (Value.float .f64 ((((((((av g p).1).2).2).2).2).2).1)) (wy (dt q207)) (aa aF rfl bx160 rfl) (lv (Value.float .f64 (bi 4616189618054758400 ((((((((av g p).1).2).2).2).2).2).1))) (wy (dt q207)) (dL (a:=4616189618054758400) (b:=((((((((av g p).1).2).2).2).2).2).1)) rfl rfl (cu (by decide) (by exact(de hT.spread.2.2 (by decide)))).1) ?_))))
      have nn184:bi 4616189618054758400 ((((((((av g p).1).2).2).2).2).2).1)<=aJ:=(cu (x:=4616189618054758400) (y:=((((((((av g p).1).2).2).2).2).2).1)) (by decide) (by exact(de hT.spread.2.2 (by decide)))).2
      refine lv (vb (decide (((((((((av g (qA,qL)).1).2).2).2).2).2).1)=(bi 4616189618054758400 ((((((((av g p).1).2).2).2).2).2).1))))) (wy (dt q207)) (dw (a:=((((((((av g (qA,qL)).1).2).2).2).2).2).1)) (b:=(bi 4616189618054758400 ((((((((av g p).1).2).2).2).2).2).1))) rfl rfl (by rw[hqe];exact hT.eSpread.1) ‹_›) (lw (vb (decide (((((((((av g (qA,qL)).1).2).2).2).2).2).1)=(bi 4616189618054758400 ((((((((av g p).1).2).2).2).2).2).1))))) (aM rfl (dt q207) rfl) (mv (vb (decide (((((((((av g (qA,qL)).1).2).2).2).2).2).1)=(bi 4616189618054758400 ((((((((av g p).1).2).2).2).2).2).1))))) ?_))
      have q215:((((((((av g (qA,qL)).1).2).2).2).2).2).1)=(bi 4616189618054758400 ((((((((av g p).1).2).2).2).2).2).1)):=by(rw[hqe];exact hT.eSpread.2)
      refine lv (vb true) (wy (dt q215)) (aR rfl) (lw (vb true) (aM rfl (dt q215) rfl) (mv (vb true) (lv (Value.float .f64 ((bz g p).1)) (wy rfl) (aR rfl) (lv (Value.float .f64 ((bz g (qA,qL)).1)) (wy rfl) (aR rfl) (lv (vb true) (wy rfl) (gn (a:=((bz g p).1)) (b:=((bz g (qA,qL)).1)) rfl rfl (by rw[hqe];exact hT.ang)) (lw (vb true) (aM rfl rfl rfl) (ma (vb true) (ab (aw (vs:=[vb true]) Try.func5 (.tmp rfl .nil) ?_)))))))))
      have e0:(true:Bool)=(true):=by
        rfl
      have C185:=cg [10,11] (hb152.n.seq (ch154.n.seq ((ch159.l rfl).seq (hb163.n.seq (ch165.n.seq ((ch170.l rfl).seq (hb175.n.seq hb178.n)))))))
      replace bH:=bH.ca C185
      exact⟨rb e0,bH.below⟩
     have hnn:bQ (av g p).1.2.2.2.2.1=true:=oR (by have hq_:=q163;rw[hqe,hT.ratio] at hq_;exact hq_)
     refine lv (vp b155 4) (wy (Bool.eq_false_iff.2 q163)) (a9 dR rfl rfl rfl rfl) (lv (Value.float .f64 (((((((av g p).1).2).2).2).2).1)) (wy (Bool.eq_false_iff.2 q163)) (aa aF rfl bx160 rfl) (lv (vp b155 4) (wy (Bool.eq_false_iff.2 q163)) (a9 dR rfl rfl rfl rfl) (lv (Value.float .f64 (((((((av g p).1).2).2).2).2).1)) (wy (Bool.eq_false_iff.2 q163)) (aa aF rfl bx160 rfl) (lv (vb (bQ (((((((av g p).1).2).2).2).2).1))) (wy (Bool.eq_false_iff.2 q163)) (cU (a:=(((((((av g p).1).2).2).2).2).1)) rfl rfl) (lv (vb (bQ (((((((av g p).1).2).2).2).2).1))) (wy (Bool.eq_false_iff.2 q163)) (aR rfl) ?_)))))
     have q169:bQ (((((((av g p).1).2).2).2).2).1)=true:=by exact hnn
     refine lv (vp b166 4) (wy q169) (a9 dR rfl rfl rfl rfl) (lv (Value.float .f64 (((((((av g (qA,qL)).1).2).2).2).2).1)) (wy q169) (aa aF rfl bx171 rfl) (lv (vp b166 4) (wy q169) (a9 dR rfl rfl rfl rfl) (lv (Value.float .f64 (((((((av g (qA,qL)).1).2).2).2).2).1)) (wy q169) (aa aF rfl bx171 rfl) (lv (vb (bQ (((((((av g (qA,qL)).1).2).2).2).2).1))) (wy q169) (cU (a:=(((((((av g (qA,qL)).1).2).2).2).2).1)) rfl rfl) (lv (vb (bQ (((((((av g (qA,qL)).1).2).2).2).2).1))) (wy (Bool.eq_false_iff.2 q163)) (aM rfl q169 rfl) (lw (vb (bQ (((((((av g (qA,qL)).1).2).2).2).2).1))) (aS rfl (Bool.eq_false_iff.2 q163) rfl) ?_))))))
     refine ma (vb (bQ (((((((av g (qA,qL)).1).2).2).2).2).1))) (ab (a8 (a7 rfl (lx (a9 dR rfl rfl rfl rfl) (lx (aa aF rfl bx171 rfl) (lx (a9 dR rfl rfl rfl rfl) (lx (aa aF rfl bx160 rfl) (lw (Value.float .f64 (bi 4611686018427387904 (((av g p).1).1))) (dL (a:=4611686018427387904) (b:=(((av g p).1).1)) rfl rfl (cu (by decide) (by exact(de (hT.sum.1.u (by decide)) (by decide)))).1) ?_))))))))
     have nn186:bi 4611686018427387904 (((av g p).1).1)<=aJ:=(cu (x:=4611686018427387904) (y:=(((av g p).1).1)) (by decide) (by exact(de (hT.sum.1.u (by decide)) (by decide)))).2
     refine lw (vb (decide ((((av g (qA,qL)).1).1)=(bi 4611686018427387904 (((av g p).1).1))))) (dw (a:=(((av g (qA,qL)).1).1)) (b:=(bi 4611686018427387904 (((av g p).1).1))) rfl rfl (by rw[hqe];exact hT.eSum.1) ‹_›) (mv (vb (decide ((((av g (qA,qL)).1).1)=(bi 4611686018427387904 (((av g p).1).1))))) ?_)
     have q183_187:(((av g (qA,qL)).1).1)=(bi 4611686018427387904 (((av g p).1).1)):=by(rw[hqe];exact hT.eSum.2)
     refine lv (vp b166 1) (wy (dt q183_187)) (a9 dR rfl rfl rfl rfl) (lv (Value.float .f64 ((((av g (qA,qL)).1).2).1)) (wy (dt q183_187)) (aa aF rfl bx171 rfl) (lv (vp b155 1) (wy (dt q183_187)) (a9 dR rfl rfl rfl rfl) (lv (Value.float .f64 ((((av g p).1).2).1)) (wy (dt q183_187)) (aa aF rfl bx160 rfl) (lv (Value.float .f64 (bi 4611686018427387904 ((((av g p).1).2).1))) (wy (dt q183_187)) (dL (a:=4611686018427387904) (b:=((((av g p).1).2).1)) rfl rfl (cu (by decide) (by exact(de hT.mean.2.2 (by decide)))).1) ?_))))
     have nn188:bi 4611686018427387904 ((((av g p).1).2).1)<=aJ:=(cu (x:=4611686018427387904) (y:=((((av g p).1).2).1)) (by decide) (by exact(de hT.mean.2.2 (by decide)))).2
     refine lv (vb (decide (((((av g (qA,qL)).1).2).1)=(bi 4611686018427387904 ((((av g p).1).2).1))))) (wy (dt q183_187)) (dw (a:=((((av g (qA,qL)).1).2).1)) (b:=(bi 4611686018427387904 ((((av g p).1).2).1))) rfl rfl (by rw[hqe];exact hT.eMean.1) ‹_›) (lw (vb (decide (((((av g (qA,qL)).1).2).1)=(bi 4611686018427387904 ((((av g p).1).2).1))))) (aM rfl (dt q183_187) rfl) (mv (vb (decide (((((av g (qA,qL)).1).2).1)=(bi 4611686018427387904 ((((av g p).1).2).1))))) ?_))
     have q191_189:((((av g (qA,qL)).1).2).1)=(bi 4611686018427387904 ((((av g p).1).2).1)):=by(rw[hqe];exact hT.eMean.2)
     refine lv (vp b166 2) (wy (dt q191_189)) (a9 dR rfl rfl rfl rfl) (lv (Value.float .f64 (((((av g (qA,qL)).1).2).2).1)) (wy (dt q191_189)) (aa aF rfl bx171 rfl) (lv (vp b155 2) (wy (dt q191_189)) (a9 dR rfl rfl rfl rfl) (lv (Value.float .f64 (((((av g p).1).2).2).1)) (wy (dt q191_189)) (aa aF rfl bx160 rfl) (lv (Value.float .f64 (bi 4611686018427387904 (((((av g p).1).2).2).1))) (wy (dt q191_189)) (dL (a:=4611686018427387904) (b:=(((((av g p).1).2).2).1)) rfl rfl (cu (by decide) (by exact(de (hT.least.1.u (by decide)) (by decide)))).1) ?_))))
     have nn190:bi 4611686018427387904 (((((av g p).1).2).2).1)<=aJ:=(cu (x:=4611686018427387904) (y:=(((((av g p).1).2).2).1)) (by decide) (by exact(de (hT.least.1.u (by decide)) (by decide)))).2
     refine lv (vb (decide ((((((av g (qA,qL)).1).2).2).1)=(bi 4611686018427387904 (((((av g p).1).2).2).1))))) (wy (dt q191_189)) (dw (a:=(((((av g (qA,qL)).1).2).2).1)) (b:=(bi 4611686018427387904 (((((av g p).1).2).2).1))) rfl rfl (by rw[hqe];exact hT.eLeast.1) ‹_›) (lw (vb (decide ((((((av g (qA,qL)).1).2).2).1)=(bi 4611686018427387904 (((((av g p).1).2).2).1))))) (aM rfl (dt q191_189) rfl) (mv (vb (decide ((((((av g (qA,qL)).1).2).2).1)=(bi 4611686018427387904 (((((av g p).1).2).2).1))))) ?_))
     have q199_191:(((((av g (qA,qL)).1).2).2).1)=(bi 4611686018427387904 (((((av g p).1).2).2).1)):=by(rw[hqe];exact hT.eLeast.2)
     refine lv (vp b166 3) (wy (dt q199_191)) (a9 dR rfl rfl rfl rfl) (lv (Value.float .f64 ((((((av g (qA,qL)).1).2).2).2).1)) (wy (dt q199_191)) (aa aF rfl bx171 rfl) (lv (vp b155 3) (wy (dt q199_191)) (a9 dR rfl rfl rfl rfl) (lv (Value.float .f64 ((((((av g p).1).2).2).2).1)) (wy (dt q199_191)) (aa aF rfl bx160 rfl) (lv (Value.float .f64 (bi 4611686018427387904 ((((((av g p).1).2).2).2).1))) (wy (dt q199_191)) (dL (a:=4611686018427387904) (b:=((((((av g p).1).2).2).2).1)) rfl rfl (cu (by decide) (by exact(de (hT.great.1.u (by decide)) (by decide)))).1) ?_))))
     have nn192:bi 4611686018427387904 ((((((av g p).1).2).2).2).1)<=aJ:=(cu (x:=4611686018427387904) (y:=((((((av g p).1).2).2).2).1)) (by decide) (by exact(de (hT.great.1.u (by decide)) (by decide)))).2
     refine lv (vb (decide (((((((av g (qA,qL)).1).2).2).2).1)=(bi 4611686018427387904 ((((((av g p).1).2).2).2).1))))) (wy (dt q199_191)) (dw (a:=((((((av g (qA,qL)).1).2).2).2).1)) (b:=(bi 4611686018427387904 ((((((av g p).1).2).2).2).1))) rfl rfl (by rw[hqe];exact hT.eGreat.1) ‹_›) (lw (vb (decide (((((((av g (qA,qL)).1).2).2).2).1)=(bi 4611686018427387904 ((((((av g p).1).2).2).2).1))))) (aM rfl (dt q199_191) rfl) (mv (vb (decide (((((((av g (qA,qL)).1).2).2).2).1)=(bi 4611686018427387904 ((((((av g p).1).2).2).2).1))))) ?_))
     have q207_193:((((((av g (qA,qL)).1).2).2).2).1)=(bi 4611686018427387904 ((((((av g p).1).2).2).2).1)):=by(rw[hqe];exact hT.eGreat.2)
     refine lv (vp b166 5) (wy (dt q207_193)) (a9 dR rfl rfl rfl rfl) (lv (Value.float .f64 ((((((((av g (qA,qL)).1).2).2).2).2).2).1)) (wy (dt q207_193)) (aa aF rfl bx171 rfl) (lv (vp b155 5) (wy (dt q207_193)) (a9 dR rfl rfl rfl rfl) (lv (Value.float .f64 ((((((((av g p).1).2).2).2).2).2).1)) (wy (dt q207_193)) (aa aF rfl bx160 rfl) (lv (Value.float .f64 (bi 4616189618054758400 ((((((((av g p).1).2).2).2).2).2).1))) (wy (dt q207_193)) (dL (a:=4616189618054758400) (b:=((((((((av g p).1).2).2).2).2).2).1)) rfl rfl (cu (by decide) (by exact(de hT.spread.2.2 (by decide)))).1) ?_))))
     have nn194:bi 4616189618054758400 ((((((((av g p).1).2).2).2).2).2).1)<=aJ:=(cu (x:=4616189618054758400) (y:=((((((((av g p).1).2).2).2).2).2).1)) (by decide) (by exact(de hT.spread.2.2 (by decide)))).2
     refine lv (vb (decide (((((((((av g (qA,qL)).1).2).2).2).2).2).1)=(bi 4616189618054758400 ((((((((av g p).1).2).2).2).2).2).1))))) (wy (dt q207_193)) (dw (a:=((((((((av g (qA,qL)).1).2).2).2).2).2).1)) (b:=(bi 4616189618054758400 ((((((((av g p).1).2).2).2).2).2).1))) rfl rfl (by rw[hqe];exact hT.eSpread.1) ‹_›) (lw (vb (decide (((((((((av g (qA,qL)).1).2).2).2).2).2).1)=(bi 4616189618054758400 ((((((((av g p).1).2).2).2).2).2).1))))) (aM rfl (dt q207_193) rfl) (mv (vb (decide (((((((((av g (qA,qL)).1).2).2).2).2).2).1)=(bi 4616189618054758400 ((((((((av g p).1).2).2).2).2).2).1))))) ?_))
     have q215_195:((((((((av g (qA,qL)).1).2).2).2).2).2).1)=(bi 4616189618054758400 ((((((((av g p).1).2).2).2).2).2).1)):=by(rw[hqe];exact hT.eSpread.2)
     refine lv (vb (bQ (((((((av g (qA,qL)).1).2).2).2).2).1))) (wy (dt q215_195)) (aR rfl) (lw (vb (bQ (((((((av g (qA,qL)).1).2).2).2).2).1))) (aM rfl (dt q215_195) rfl) (mv (vb (bQ (((((((av g (qA,qL)).1).2).2).2).2).1))) ?_))
     have q218:bQ (((((((av g (qA,qL)).1).2).2).2).2).1)=true:=by(rw[hqe,hT.ratio];assumption)
     refine lv (Value.float .f64 ((bz g p).1)) (wy q218) (aR rfl) (lv (Value.float .f64 ((bz g (qA,qL)).1)) (wy q218) (aR rfl) (lv (vb true) (wy q218) (gn (a:=((bz g p).1)) (b:=((bz g (qA,qL)).1)) rfl rfl (by rw[hqe];exact hT.ang)) (lw (vb true) (aM rfl q218 rfl) (ma (vb true) (ab (aw (vs:=[vb true]) Try.func5 (.tmp rfl .nil) ?_))))))
     have e0:(true:Bool)=(true):=by
       rfl
     have C196:=cg [10,11] (hb152.n.seq (ch154.n.seq ((ch159.l rfl).seq (hb163.n.seq (ch165.n.seq ((ch170.l rfl).seq (hb175.n.seq hb178.n)))))))
     replace bH:=bH.ca C196
     exact⟨rb e0,bH.below⟩
    refine ag rfl (congrArg Bool.not (df p27)) (a8 ?_)
    clear bx160 bx171
    refine a7 rfl (ma (vb true) (ab (aw (vs:=[vb true]) Try.func5 (.tmp rfl .nil) ?_)))
    have e0:(true:Bool)=(true):=by
      rfl
    have C197:=cg [10,11] (hb152.n.seq (ch154.n.seq ((ch159.l rfl).seq (hb163.n.seq (ch165.n.seq ((ch170.l rfl).seq (hb175.n.seq hb178.n)))))))
    replace bH:=bH.ca C197
    exact⟨rb e0,bH.below⟩
   refine ak (wn (congrArg Bool.not (df q154))) (ak (wn (congrArg Bool.not (df q154))) (lw (vb true) (aM rfl (congrArg Bool.not (df q154)) rfl) (ab (ag rfl rfl (a8 ?_)))))
   clear bx160 bx171
   refine a7 rfl (ma (vb true) (ab (aw (vs:=[vb true]) Try.func5 (.tmp rfl .nil) ?_)))
   have e0:(true:Bool)=(true):=by
     rfl
   have C198:=cg [10,11] (hb152.n.seq (ch154.n.seq ((ch159.l rfl).seq (hb163.n.seq (ch165.n.seq ((ch170.l rfl).seq (hb175.n.seq hb178.n)))))))
   replace bH:=bH.ca C198
   exact⟨rb e0,bH.below⟩
  refine ak (wn (congrArg Bool.not (Bool.eq_false_iff.2 q30))) (ak (wn (congrArg Bool.not (Bool.eq_false_iff.2 q30))) (ak (wn (congrArg Bool.not (Bool.eq_false_iff.2 q30))) (ak (wn (congrArg Bool.not (Bool.eq_false_iff.2 q30))) (lw (vb true) (aM rfl (congrArg Bool.not (Bool.eq_false_iff.2 q30)) rfl) (ab (ag rfl rfl (a8 ?_)))))))
  clear bx5 bx10
  refine a7 rfl (ma (vb true) (ab (aw (vs:=[vb true]) Try.func5 (.tmp rfl .nil) ?_)))
  have e0:(true:Bool)=(true):=by
    rfl
  have C199:=cg [] (ch2.n.seq (ch7.n.seq (hb12.n.seq (hb15.n.seq hb17.n))))
  replace bH:=bH.ca C199
  exact⟨rb e0,bH.below⟩
 refine ak (wn (congrArg Bool.not (Bool.eq_false_iff.2 q25))) (ak (wn (congrArg Bool.not (Bool.eq_false_iff.2 q25))) (ak (wn (congrArg Bool.not (Bool.eq_false_iff.2 q25))) (lw (vb true) (aM rfl (congrArg Bool.not (Bool.eq_false_iff.2 q25)) rfl) (mv (vb true) (ak (wn rfl) (ak (wn rfl) (ak (wn rfl) (ak (wn rfl) (lw (vb true) (aM rfl rfl rfl) (ab (ag rfl rfl (a8 ?_))))))))))))
 clear bx5 bx10
 refine a7 rfl (ma (vb true) (ab (aw (vs:=[vb true]) Try.func5 (.tmp rfl .nil) ?_)))
 have e0:(true:Bool)=(true):=by
   rfl
 have C200:=cg [] (ch2.n.seq (ch7.n.seq (hb12.n.seq hb15.n)))
 replace bH:=bH.ca C200
 exact⟨rb e0,bH.below⟩
end TL
