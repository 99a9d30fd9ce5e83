import Derived.Test.YtkhfimgjcdeejaaTlP2
import Derived.Test.YtkhfimgjcdeejaaTlGmA
import Derived.Test.YtkhfimgjcdeejaaTlGmM
import Derived.Test.YtkhfimgjcdeejaaTlGenA
import Derived.Test.YtkhfimgjcdeejaaTlGdA
import Derived.Test.YtkhfimgjcdeejaaTlGjC
import Derived.Test.YtkhfimgjcdeejaaTlMmA
import Derived.Test.YtkhfimgjcdeejaaTlMmB
import Derived.Test.YtkhfimgjcdeejaaTlMmW
import Derived.Test.YtkhfimgjcdeejaaProg
import Derived.Test.YtkhfimgjcdeejaaTlAli
set_option linter.all false
set_option maxRecDepth 20000
namespace TL
open Go Go.Proofs
theorem dG:Try.prog.follows .mixedOrders=true:=by kernel_rfl
theorem ib:Try.f51.body.isNone=false:=rfl
theorem i7:(Try.f51.name== "runtime.NumGoroutine")=false:=by decide+kernel
theorem ef:Try.f52.body.isNone=false:=rfl
theorem ea:(Try.f52.name== "runtime.NumGoroutine")=false:=by decide+kernel
set_option maxHeartbeats 4000000 in
theorem nd(w0:World)(g:(Int)×(List Pt))(g_v:Value)(hg_v:Ro w0 g_v g.2)(p:(List Pt)×(List (List Pt)))(p_v p_v1:Value)(hp_v:Ro w0 p_v p.1)(hp_v1:Ro w0 p_v1 p.2)(e:Int)(f:Int)(s:Pt×Pt)(t:Pt×Pt)(hm:dd g)(hs:ni g p)(he:0<=e/\e<(g.2.length:Int))(hf:0<=f/\f<(g.2.length:Int))(ho:pM s t):
    Calls Try.prog 41 #[vg [vi g.1,g_v],vg [p_v,p_v1],vi e,vi f,vg [vi s.1.1,vi s.1.2,vi s.2.1,vi s.2.2],vg [vi t.1.1,vi t.1.2,vi t.2.1,vi t.2.2]] w0 (λee w=>ee= .returned (vb (decide (dE g p e f s t)))/\cG w0.heap.size w0 w):=by
 refine aK Try.func41 rfl nq ?_
 have bH:=bu.start w0
 have Rg:=hg_v.sl
 have Rp:=hp_v.sl
 have r_p_v1:=hp_v1.sl
 obtain⟨hm1,hm2,hm3,hm4⟩:=hm
 have hs1:=hs.n
 obtain⟨he0,he1⟩:=he
 obtain⟨hf0,hf1⟩:=hf
 obtain⟨⟨e1,e2⟩,e3,e4⟩:=hm4 _ (bl (xs:=g.2) (i:=e) he0 he1)
 have hq1:=hs.pt (gI g.2 e).1 (by omega) (by omega)
 have hq2:=hs.pt (gI g.2 e).2 (by omega) (by omega)
 refine a8 (a7 rfl (cN rfl (bC c0 (is 1) (1,0) rfl rfl ?_)))
 intro g4 w1 b3 ch2 bx5
 replace bx5:Bx g4 (is 1) w1 b3 [vi g.1,g_v]:=bx5
 refine lo (bC g4 (is 2) (2,0) rfl rfl ?_)
 intro g9 w6 b8 ch7 bx10
 replace bx10:Bx g9 (is 2) w6 b8 [p_v,p_v1]:=bx10
 refine lo (bC g9 (is 3) (3,0) rfl rfl ?_)
 intro g14 w11 b13 ch12 bx15
 replace bx15:Bx g14 (is 3) w11 b13 [vi s.1.1,vi s.1.2,vi s.2.1,vi s.2.2]:=bx15
 refine lo (bC g14 (is 4) (4,0) rfl rfl ?_)
 intro g19 w16 b18 ch17 bx20
 replace bx20:Bx g19 (is 4) w16 b18 [vi t.1.1,vi t.1.2,vi t.2.1,vi t.2.2]:=bx20
 refine ma (vb false) (ab (a8 (a8 (a7 rfl (lx (a9 fO rfl rfl rfl rfl) ?_)))))
 have C21:=cg [] (ch7.n.seq (ch12.n.seq ch17.n))
 replace bx5:=bx5.ca C21
 refine lx (aa cO rfl bx5 rfl) (mi e ?_)
 have C22:=cg [] (ch2.n.seq (ch7.n.seq (ch12.n.seq ch17.n)))
 replace Rg:=Rg.ca C22
 refine lx (af (v:=g_v) (i:=e) iJ rfl rfl Rg rfl (by omega) (by omega)) (lw (vg [vi ((gI g.2 e).1),vi ((gI g.2 e).2)]) (aT (v:=g_v) (i:=e) ep rfl Rg (by omega) (by omega) rfl) (mi 0 (ab (aC (dQ (a8 (a7 rfl (lx (bc (m:=0) (n:=2) rfl rfl) (ab (a8 (ag rfl rfl ?_)))))))))))
 refine au (a8 (aC (a8 (a7 rfl (lw (vi ((gI g.2 e).1)) (cD kr aL rfl rfl (by decide) (by decide) rfl) (ai ((gI g.2 e).1) (ab (a8 (a8 (a7 rfl (lx (a9 fO rfl rfl rfl rfl) (lx (aa cO rfl bx5 rfl) (mi f ?_)))))))))))))
 refine lx (af (v:=g_v) (i:=f) iJ rfl rfl Rg rfl (by omega) (by omega)) (lw ((lh g_v (Int.toNat f))) (eb kr rfl rfl) ?_)
 have r23:=jh Rg (i:=f) (by omega) (by omega)
 refine mi ((gI g.2 e).1) (lo (aP (v:=vb (decide (((gI g.2 e).1)∈([(gI g.2 f).1,(gI g.2 f).2])))) (aG (vals:=[(lh g_v (Int.toNat f)),vi ((gI g.2 e).1)]) Try.func51 ib i7 rfl) (eh w16 ([(gI g.2 f).1,(gI g.2 f).2]) (lh g_v (Int.toNat f)) (r23).ro ((gI g.2 e).1)) ?_))
 intro w24 hb25
 replace hb25:=am hb25 g19
 refine lx (dr (b:=(decide (((gI g.2 e).1)∈([(gI g.2 f).1,(gI g.2 f).2])))) rfl) (ab ?_)
 by_cases p4:(decide (((gI g.2 e).1)∈([(gI g.2 f).1,(gI g.2 f).2])))=true
 ·
  refine ah rfl (congrArg Bool.not p4) (au (a8 ?_))
  clear r23
  refine bq g19 rfl dG (by kernel_rfl) ?_
  intro w27 ch26
  refine qx (λw' hw'=>bm kN rfl rfl rfl (by decide) (by decide) rfl) ?_
  have C28:=cg [] (ch17.n.seq (hb25.n.seq ch26.n))
  replace bx15:=bx15.ca C28
  refine qx (λw' hw'=>ae (ds:=[vi s.1.1,vi s.1.2]) aj rfl (bx15.bel hw') rfl rfl) (qx (λw' hw'=>bm kN rfl rfl rfl (by decide) (by decide) rfl) (qx (λw' hw'=>ae (ds:=[vi s.2.1,vi s.2.2]) aj rfl (bx15.bel hw') rfl rfl) (qx (λw' hw'=>a9 eQ rfl rfl rfl rfl) ?_)))
  have C29:=cg [] (ch12.n.seq (ch17.n.seq (hb25.n.seq ch26.n)))
  replace bx10:=bx10.ca C29
  refine qx (λw' hw'=>aa bD rfl (bx10.bel hw') rfl) (qm (vi ((gI g.2 e).1)) ?_)
  have C30:=cg [] (ch2.n.seq (ch7.n.seq (ch12.n.seq (ch17.n.seq (hb25.n.seq ch26.n)))))
  replace Rp:=Rp.ca C30
  refine qx (λw' hw'=>af (v:=p_v) (i:=(gI g.2 e).1) cT rfl rfl (Rp.bel hw') rfl (by omega) (by omega)) (qv (vg [vi ((gI p.1 ((gI g.2 e).1)).1),vi ((gI p.1 ((gI g.2 e).1)).2)]) (λw' hw'=>aT (v:=p_v) (i:=(gI g.2 e).1) aj rfl (Rp.bel hw') (by omega) (by omega) rfl) ?_)
  refine cv (v:=vt [vb ((cw s.1 s.2 (gI p.1 ((gI g.2 e).1))).1),vi ((cw s.1 s.2 (gI p.1 ((gI g.2 e).1))).2)]) rfl (λw' hw'=>aG (vals:=[vg [vi s.1.1,vi s.1.2],vg [vi s.2.1,vi s.2.2],vg [vi ((gI p.1 ((gI g.2 e).1)).1),vi ((gI p.1 ((gI g.2 e).1)).2)]]) Try.func52 ef ea rfl) (λw' hw'=>(fq w' s.1 s.2 (gI p.1 ((gI g.2 e).1))).mono λe w2 h2=>⟨h2.1,hw'.trans (h2.2.mono hw'.size)⟩) (qm (vt [vb ((cw s.1 s.2 (gI p.1 ((gI g.2 e).1))).1),vi ((cw s.1 s.2 (gI p.1 ((gI g.2 e).1))).2)]) (qx (λw' hw'=>bg rfl rfl) (qx (λw' hw'=>bg rfl rfl) ?_)))
  refine qv (vb ((cw s.1 s.2 (gI p.1 ((gI g.2 e).1))).1)) (λw' hw'=>bw rfl) (qv (vi ((cw s.1 s.2 (gI p.1 ((gI g.2 e).1))).2)) (λw' hw'=>bw rfl) (bT ?_))
  intro w31 hc32
  replace hc32:=am hc32 g19
  refine a8 (bq g19 rfl dG (by kernel_rfl) ?_)
  intro w34 ch33
  refine qx (λw' hw'=>bm kN rfl rfl rfl (by decide) (by decide) rfl) ?_
  have C35:=cg [] (hb25.n.seq (ch26.n.seq (hc32.n.seq ch33.n)))
  replace bx20:=bx20.ca C35
  refine qx (λw' hw'=>ae (ds:=[vi t.1.1,vi t.1.2]) aj rfl (bx20.bel hw') rfl rfl) (qx (λw' hw'=>bm kN rfl rfl rfl (by decide) (by decide) rfl) (qx (λw' hw'=>ae (ds:=[vi t.2.1,vi t.2.2]) aj rfl (bx20.bel hw') rfl rfl) (qx (λw' hw'=>a9 eQ rfl rfl rfl rfl) ?_)))
  replace bx10:=(bx10.cn hc32).cn ch33
  refine qx (λw' hw'=>aa bD rfl (bx10.bel hw') rfl) (qm (vi ((gI g.2 e).1)) ?_)
  replace Rp:=(Rp.cn hc32).cn ch33
  refine qx (λw' hw'=>af (v:=p_v) (i:=(gI g.2 e).1) cT rfl rfl (Rp.bel hw') rfl (by omega) (by omega)) (qv (vg [vi ((gI p.1 ((gI g.2 e).1)).1),vi ((gI p.1 ((gI g.2 e).1)).2)]) (λw' hw'=>aT (v:=p_v) (i:=(gI g.2 e).1) aj rfl (Rp.bel hw') (by omega) (by omega) rfl) ?_)
  refine cv (v:=vt [vb ((cw t.1 t.2 (gI p.1 ((gI g.2 e).1))).1),vi ((cw t.1 t.2 (gI p.1 ((gI g.2 e).1))).2)]) rfl (λw' hw'=>aG (vals:=[vg [vi t.1.1,vi t.1.2],vg [vi t.2.1,vi t.2.2],vg [vi ((gI p.1 ((gI g.2 e).1)).1),vi ((gI p.1 ((gI g.2 e).1)).2)]]) Try.func52 ef ea rfl) (λw' hw'=>(fq w' t.1 t.2 (gI p.1 ((gI g.2 e).1))).mono λe w2 h2=>⟨h2.1,hw'.trans (h2.2.mono hw'.size)⟩) (qm (vt [vb ((cw t.1 t.2 (gI p.1 ((gI g.2 e).1))).1),vi ((cw t.1 t.2 (gI p.1 ((gI g.2 e).1))).2)]) (qx (λw' hw'=>bg rfl rfl) (qx (λw' hw'=>bg rfl rfl) ?_)))
  refine qv (vb ((cw t.1 t.2 (gI p.1 ((gI g.2 e).1))).1)) (λw' hw'=>bw rfl) (qv (vi ((cw t.1 t.2 (gI p.1 ((gI g.2 e).1))).2)) (λw' hw'=>bw rfl) (bT ?_))
  intro w36 hc37
  replace hc37:=am hc37 g19
  refine a8 (a7 rfl (mv (vb ((cw s.1 s.2 (gI p.1 ((gI g.2 e).1))).1)) (mv (vb ((cw s.1 s.2 (gI p.1 ((gI g.2 e).1))).1)) ?_)))
  by_cases q62:((cw s.1 s.2 (gI p.1 ((gI g.2 e).1))).1)=true
  ·
   refine lv (vb ((cw t.1 t.2 (gI p.1 ((gI g.2 e).1))).1)) (wy q62) (aR rfl) (lw (vb ((cw t.1 t.2 (gI p.1 ((gI g.2 e).1))).1)) (aM rfl q62 rfl) (ab ?_))
   by_cases p7:((cw t.1 t.2 (gI p.1 ((gI g.2 e).1))).1)=true
   ·
    refine ag rfl p7 (a8 ?_)
    clear bx5 bx10 bx15 bx20
    refine a7 rfl (ma (vb true) (ab (aw (vs:=[vb true]) Try.func41 (.tmp rfl .nil) ?_)))
    have e0:(true:Bool)=(decide (dE g p e f s t)):=by
      exact m5 ho hq1 (sB ‹_›) ‹_› ‹_›
    have C38:=cg [] (ch2.n.seq (ch7.n.seq (ch12.n.seq (ch17.n.seq (hb25.n.seq (ch26.n.seq (hc32.n.seq (ch33.n.seq hc37.n))))))))
    replace bH:=bH.ca C38
    exact⟨rb e0,bH.below⟩
   refine ah rfl (Bool.eq_false_iff.2 p7) (au (ap (a7 rfl (lx (ba (m:=0) (n:=1) rfl rfl (by omega)) (mi 1 (ab (aN (a8 (a7 rfl (lx (bc (m:=1) (n:=2) rfl rfl) ?_))))))))))
   refine ab (a8 (ag rfl rfl (au (a8 (aC (a8 (a7 rfl (lw (vi ((gI g.2 e).2)) (cD kr aL rfl rfl (by decide) (by decide) rfl) (ai ((gI g.2 e).2) (ab (a8 (a8 (a7 rfl (lx (a9 fO rfl rfl rfl rfl) ?_))))))))))))))
   have C39:=cg [] (hb25.n.seq (ch26.n.seq (hc32.n.seq (ch33.n.seq hc37.n))))
   replace bx5:=bx5.ca C39
   refine lx (aa cO rfl bx5 rfl) (mi f ?_)
   replace Rg:=Rg.ca C39
   refine lx (af (v:=g_v) (i:=f) iJ rfl rfl Rg rfl (by omega) (by omega)) (lw ((lh g_v (Int.toNat f))) (eb kr rfl rfl) ?_)
   have r40:=jh Rg (i:=f) (by omega) (by omega)
   refine mi ((gI g.2 e).2) (lo (aP (v:=vb (decide (((gI g.2 e).2)∈([(gI g.2 f).1,(gI g.2 f).2])))) (aG (vals:=[(lh g_v (Int.toNat f)),vi ((gI g.2 e).2)]) Try.func51 ib i7 rfl) (eh w36 ([(gI g.2 f).1,(gI g.2 f).2]) (lh g_v (Int.toNat f)) (r40).ro ((gI g.2 e).2)) ?_))
   intro w41 hb42
   replace hb42:=am hb42 g19
   refine lx (dr (b:=(decide (((gI g.2 e).2)∈([(gI g.2 f).1,(gI g.2 f).2])))) rfl) (ab ?_)
   by_cases p4_43:(decide (((gI g.2 e).2)∈([(gI g.2 f).1,(gI g.2 f).2])))=true
   ·
    refine ah rfl (congrArg Bool.not p4_43) (au (a8 ?_))
    clear r40
    refine bq g19 rfl dG (by kernel_rfl) ?_
    intro w45 ch44
    refine qx (λw' hw'=>bm kN rfl rfl rfl (by decide) (by decide) rfl) ?_
    have C46:=cg [] (hc32.n.seq (ch33.n.seq (hc37.n.seq (hb42.n.seq ch44.n))))
    replace bx15:=bx15.ca C46
    refine qx (λw' hw'=>ae (ds:=[vi s.1.1,vi s.1.2]) aj rfl (bx15.bel hw') rfl rfl) (qx (λw' hw'=>bm kN rfl rfl rfl (by decide) (by decide) rfl) (qx (λw' hw'=>ae (ds:=[vi s.2.1,vi s.2.2]) aj rfl (bx15.bel hw') rfl rfl) (qx (λw' hw'=>a9 eQ rfl rfl rfl rfl) ?_)))
    have C47:=cg [] (hc37.n.seq (hb42.n.seq ch44.n))
    replace bx10:=bx10.ca C47
    refine qx (λw' hw'=>aa bD rfl (bx10.bel hw') rfl) (qm (vi ((gI g.2 e).2)) ?_)
    replace Rp:=Rp.ca C47
    refine qx (λw' hw'=>af (v:=p_v) (i:=(gI g.2 e).2) cT rfl rfl (Rp.bel hw') rfl (by omega) (by omega)) (qv (vg [vi ((gI p.1 ((gI g.2 e).2)).1),vi ((gI p.1 ((gI g.2 e).2)).2)]) (λw' hw'=>aT (v:=p_v) (i:=(gI g.2 e).2) aj rfl (Rp.bel hw') (by omega) (by omega) rfl) ?_)
    refine cv (v:=vt [vb ((cw s.1 s.2 (gI p.1 ((gI g.2 e).2))).1),vi ((cw s.1 s.2 (gI p.1 ((gI g.2 e).2))).2)]) rfl (λw' hw'=>aG (vals:=[vg [vi s.1.1,vi s.1.2],vg [vi s.2.1,vi s.2.2],vg [vi ((gI p.1 ((gI g.2 e).2)).1),vi ((gI p.1 ((gI g.2 e).2)).2)]]) Try.func52 ef ea rfl) (λw' hw'=>(fq w' s.1 s.2 (gI p.1 ((gI g.2 e).2))).mono λe w2 h2=>⟨h2.1,hw'.trans (h2.2.mono hw'.size)⟩) (qm (vt [vb ((cw s.1 s.2 (gI p.1 ((gI g.2 e).2))).1),vi ((cw s.1 s.2 (gI p.1 ((gI g.2 e).2))).2)]) (qx (λw' hw'=>bg rfl rfl) (qx (λw' hw'=>bg rfl rfl) ?_)))
    refine qv (vb ((cw s.1 s.2 (gI p.1 ((gI g.2 e).2))).1)) (λw' hw'=>bw rfl) (qv (vi ((cw s.1 s.2 (gI p.1 ((gI g.2 e).2))).2)) (λw' hw'=>bw rfl) (bT ?_))
    intro w48 hc49
    replace hc49:=am hc49 g19
    refine a8 (bq g19 rfl dG (by kernel_rfl) ?_)
    intro w51 ch50
    refine qx (λw' hw'=>bm kN rfl rfl rfl (by decide) (by decide) rfl) ?_
    have C52:=cg [] (hc37.n.seq (hb42.n.seq (ch44.n.seq (hc49.n.seq ch50.n))))
    replace bx20:=bx20.ca C52
    refine qx (λw' hw'=>ae (ds:=[vi t.1.1,vi t.1.2]) aj rfl (bx20.bel hw') rfl rfl) (qx (λw' hw'=>bm kN rfl rfl rfl (by decide) (by decide) rfl) (qx (λw' hw'=>ae (ds:=[vi t.2.1,vi t.2.2]) aj rfl (bx20.bel hw') rfl rfl) (qx (λw' hw'=>a9 eQ rfl rfl rfl rfl) ?_)))
    replace bx10:=(bx10.cn hc49).cn ch50
    refine qx (λw' hw'=>aa bD rfl (bx10.bel hw') rfl) (qm (vi ((gI g.2 e).2)) ?_)
    replace Rp:=(Rp.cn hc49).cn ch50
    refine qx (λw' hw'=>af (v:=p_v) (i:=(gI g.2 e).2) cT rfl rfl (Rp.bel hw') rfl (by omega) (by omega)) (qv (vg [vi ((gI p.1 ((gI g.2 e).2)).1),vi ((gI p.1 ((gI g.2 e).2)).2)]) (λw' hw'=>aT (v:=p_v) (i:=(gI g.2 e).2) aj rfl (Rp.bel hw') (by omega) (by omega) rfl) ?_)
    refine cv (v:=vt [vb ((cw t.1 t.2 (gI p.1 ((gI g.2 e).2))).1),vi ((cw t.1 t.2 (gI p.1 ((gI g.2 e).2))).2)]) rfl (λw' hw'=>aG (vals:=[vg [vi t.1.1,vi t.1.2],vg [vi t.2.1,vi t.2.2],vg [vi ((gI p.1 ((gI g.2 e).2)).1),vi ((gI p.1 ((gI g.2 e).2)).2)]]) Try.func52 ef ea rfl) (λw' hw'=>(fq w' t.1 t.2 (gI p.1 ((gI g.2 e).2))).mono λe w2 h2=>⟨h2.1,hw'.trans (h2.2.mono hw'.size)⟩) (qm (vt [vb ((cw t.1 t.2 (gI p.1 ((gI g.2 e).2))).1),vi ((cw t.1 t.2 (gI p.1 ((gI g.2 e).2))).2)]) (qx (λw' hw'=>bg rfl rfl) (qx (λw' hw'=>bg rfl rfl) ?_)))
    refine qv (vb ((cw t.1 t.2 (gI p.1 ((gI g.2 e).2))).1)) (λw' hw'=>bw rfl) (qv (vi ((cw t.1 t.2 (gI p.1 ((gI g.2 e).2))).2)) (λw' hw'=>bw rfl) (bT ?_))
    intro w53 hc54
    replace hc54:=am hc54 g19
    refine a8 (a7 rfl (mv (vb ((cw s.1 s.2 (gI p.1 ((gI g.2 e).2))).1)) (mv (vb ((cw s.1 s.2 (gI p.1 ((gI g.2 e).2))).1)) ?_)))
    by_cases q62_55:((cw s.1 s.2 (gI p.1 ((gI g.2 e).2))).1)=true
    ·
     refine lv (vb ((cw t.1 t.2 (gI p.1 ((gI g.2 e).2))).1)) (wy q62_55) (aR rfl) (lw (vb ((cw t.1 t.2 (gI p.1 ((gI g.2 e).2))).1)) (aM rfl q62_55 rfl) (ab ?_))
     by_cases p7_56:((cw t.1 t.2 (gI p.1 ((gI g.2 e).2))).1)=true
     ·
      refine ag rfl p7_56 (a8 ?_)
      clear bx5 bx10 bx15 bx20
      refine a7 rfl (ma (vb true) (ab (aw (vs:=[vb true]) Try.func41 (.tmp rfl .nil) ?_)))
      have e0:(true:Bool)=(decide (dE g p e f s t)):=by
        exact m5 ho hq2 (nv ‹_›) ‹_› ‹_›
      have C57:=cg [] (ch2.n.seq (ch7.n.seq (ch12.n.seq (ch17.n.seq (hb25.n.seq (ch26.n.seq (hc32.n.seq (ch33.n.seq (hc37.n.seq (hb42.n.seq (ch44.n.seq (hc49.n.seq (ch50.n.seq hc54.n)))))))))))))
      replace bH:=bH.ca C57
      exact⟨rb e0,bH.below⟩
     refine ah rfl (Bool.eq_false_iff.2 p7_56) (au (ap (a7 rfl (lx (ba (m:=1) (n:=1) rfl rfl (by omega)) (mi 2 (ab (aN (a8 (a7 rfl (lx (bc (m:=2) (n:=2) rfl rfl) ?_))))))))))
     refine ab (a8 (ah rfl rfl (aQ rfl (a8 ?_))))
     clear bx5 bx10 bx15 bx20
     refine a7 rfl (ma (vb false) (ab (aw (vs:=[vb false]) Try.func41 (.tmp rfl .nil) ?_)))
     have e0:(false:Bool)=(decide (dE g p e f s t)):=by
       exact gg ho hq1 hq2 (by exact .inr (.inr ‹_›)) (by exact .inr (.inr ‹_›))
     have C58:=cg [] (ch2.n.seq (ch7.n.seq (ch12.n.seq (ch17.n.seq (hb25.n.seq (ch26.n.seq (hc32.n.seq (ch33.n.seq (hc37.n.seq (hb42.n.seq (ch44.n.seq (hc49.n.seq (ch50.n.seq hc54.n)))))))))))))
     replace bH:=bH.ca C58
     exact⟨rb e0,bH.below⟩
    refine ak (wn (Bool.eq_false_iff.2 q62_55)) (lw (vb false) (aS rfl (Bool.eq_false_iff.2 q62_55) rfl) (ab (ah rfl rfl (au (ap (a7 rfl (lx (ba (m:=1) (n:=1) rfl rfl (by omega)) (mi 2 (ab ?_)))))))))
    refine aN (a8 (a7 rfl (lx (bc (m:=2) (n:=2) rfl rfl) (ab (a8 (ah rfl rfl (aQ rfl (a8 ?_))))))))
    clear bx5 bx10 bx15 bx20
    refine a7 rfl (ma (vb false) (ab (aw (vs:=[vb false]) Try.func41 (.tmp rfl .nil) ?_)))
    have e0:(false:Bool)=(decide (dE g p e f s t)):=by
      exact gg ho hq1 hq2 (by exact .inr (.inr ‹_›)) (by exact .inr (.inl ‹_›))
    have C59:=cg [] (ch2.n.seq (ch7.n.seq (ch12.n.seq (ch17.n.seq (hb25.n.seq (ch26.n.seq (hc32.n.seq (ch33.n.seq (hc37.n.seq (hb42.n.seq (ch44.n.seq (hc49.n.seq (ch50.n.seq hc54.n)))))))))))))
    replace bH:=bH.ca C59
    exact⟨rb e0,bH.below⟩
   refine ag rfl (congrArg Bool.not (Bool.eq_false_iff.2 p4_43)) (aQ rfl ?_)
   clear r40
   refine a7 rfl (lx (ba (m:=1) (n:=1) rfl rfl (by omega)) (mi 2 (ab (aN (a8 (a7 rfl (lx (bc (m:=2) (n:=2) rfl rfl) (ab (a8 (ah rfl rfl (aQ rfl ?_)))))))))))
   refine a8 ?_
   clear bx5 bx10 bx15 bx20
   refine a7 rfl (ma (vb false) (ab (aw (vs:=[vb false]) Try.func41 (.tmp rfl .nil) ?_)))
   have e0:(false:Bool)=(decide (dE g p e f s t)):=by
     exact gg ho hq1 hq2 (by exact .inr (.inr ‹_›)) (by exact .inl ‹_›)
   have C60:=cg [] (ch2.n.seq (ch7.n.seq (ch12.n.seq (ch17.n.seq (hb25.n.seq (ch26.n.seq (hc32.n.seq (ch33.n.seq (hc37.n.seq hb42.n)))))))))
   replace bH:=bH.ca C60
   exact⟨rb e0,bH.below⟩
  refine ak (wn (Bool.eq_false_iff.2 q62)) (lw (vb false) (aS rfl (Bool.eq_false_iff.2 q62) rfl) (ab (ah rfl rfl (au (ap (a7 rfl (lx (ba (m:=0) (n:=1) rfl rfl (by omega)) (mi 1 (ab ?_)))))))))
  refine aN (a8 (a7 rfl (lx (bc (m:=1) (n:=2) rfl rfl) (ab (a8 (ag rfl rfl (au (a8 (aC (a8 (a7 rfl (lw (vi ((gI g.2 e).2)) (cD kr aL rfl rfl (by decide) (by decide) rfl) ?_))))))))))))
  refine ai ((gI g.2 e).2) (ab (a8 (a8 (a7 rfl (lx (a9 fO rfl rfl rfl rfl) ?_)))))
  have C61:=cg [] (hb25.n.seq (ch26.n.seq (hc32.n.seq (ch33.n.seq hc37.n))))
  replace bx5:=bx5.ca C61
  refine lx (aa cO rfl bx5 rfl) (mi f ?_)
  replace Rg:=Rg.ca C61
  refine lx (af (v:=g_v) (i:=f) iJ rfl rfl Rg rfl (by omega) (by omega)) (lw ((lh g_v (Int.toNat f))) (eb kr rfl rfl) ?_)
  have r62:=jh Rg (i:=f) (by omega) (by omega)
  refine mi ((gI g.2 e).2) (lo (aP (v:=vb (decide (((gI g.2 e).2)∈([(gI g.2 f).1,(gI g.2 f).2])))) (aG (vals:=[(lh g_v (Int.toNat f)),vi ((gI g.2 e).2)]) Try.func51 ib i7 rfl) (eh w36 ([(gI g.2 f).1,(gI g.2 f).2]) (lh g_v (Int.toNat f)) (r62).ro ((gI g.2 e).2)) ?_))
  intro w63 hb64
  replace hb64:=am hb64 g19
  refine lx (dr (b:=(decide (((gI g.2 e).2)∈([(gI g.2 f).1,(gI g.2 f).2])))) rfl) (ab ?_)
  by_cases p4_65:(decide (((gI g.2 e).2)∈([(gI g.2 f).1,(gI g.2 f).2])))=true
  ·
   refine ah rfl (congrArg Bool.not p4_65) (au (a8 ?_))
   clear r62
   refine bq g19 rfl dG (by kernel_rfl) ?_
   intro w67 ch66
   refine qx (λw' hw'=>bm kN rfl rfl rfl (by decide) (by decide) rfl) ?_
   have C68:=cg [] (hc32.n.seq (ch33.n.seq (hc37.n.seq (hb64.n.seq ch66.n))))
   replace bx15:=bx15.ca C68
   refine qx (λw' hw'=>ae (ds:=[vi s.1.1,vi s.1.2]) aj rfl (bx15.bel hw') rfl rfl) (qx (λw' hw'=>bm kN rfl rfl rfl (by decide) (by decide) rfl) (qx (λw' hw'=>ae (ds:=[vi s.2.1,vi s.2.2]) aj rfl (bx15.bel hw') rfl rfl) (qx (λw' hw'=>a9 eQ rfl rfl rfl rfl) ?_)))
   have C69:=cg [] (hc37.n.seq (hb64.n.seq ch66.n))
   replace bx10:=bx10.ca C69
   refine qx (λw' hw'=>aa bD rfl (bx10.bel hw') rfl) (qm (vi ((gI g.2 e).2)) ?_)
   replace Rp:=Rp.ca C69
   refine qx (λw' hw'=>af (v:=p_v) (i:=(gI g.2 e).2) cT rfl rfl (Rp.bel hw') rfl (by omega) (by omega)) (qv (vg [vi ((gI p.1 ((gI g.2 e).2)).1),vi ((gI p.1 ((gI g.2 e).2)).2)]) (λw' hw'=>aT (v:=p_v) (i:=(gI g.2 e).2) aj rfl (Rp.bel hw') (by omega) (by omega) rfl) ?_)
   refine cv (v:=vt [vb ((cw s.1 s.2 (gI p.1 ((gI g.2 e).2))).1),vi ((cw s.1 s.2 (gI p.1 ((gI g.2 e).2))).2)]) rfl (λw' hw'=>aG (vals:=[vg [vi s.1.1,vi s.1.2],vg [vi s.2.1,vi s.2.2],vg [vi ((gI p.1 ((gI g.2 e).2)).1),vi ((gI p.1 ((gI g.2 e).2)).2)]]) Try.func52 ef ea rfl) (λw' hw'=>(fq w' s.1 s.2 (gI p.1 ((gI g.2 e).2))).mono λe w2 h2=>⟨h2.1,hw'.trans (h2.2.mono hw'.size)⟩) (qm (vt [vb ((cw s.1 s.2 (gI p.1 ((gI g.2 e).2))).1),vi ((cw s.1 s.2 (gI p.1 ((gI g.2 e).2))).2)]) (qx (λw' hw'=>bg rfl rfl) (qx (λw' hw'=>bg rfl rfl) ?_)))
   refine qv (vb ((cw s.1 s.2 (gI p.1 ((gI g.2 e).2))).1)) (λw' hw'=>bw rfl) (qv (vi ((cw s.1 s.2 (gI p.1 ((gI g.2 e).2))).2)) (λw' hw'=>bw rfl) (bT ?_))
   intro w70 hc71
   replace hc71:=am hc71 g19
   refine a8 (bq g19 rfl dG (by kernel_rfl) ?_)
   intro w73 ch72
   refine qx (λw' hw'=>bm kN rfl rfl rfl (by decide) (by decide) rfl) ?_
   have C74:=cg [] (hc37.n.seq (hb64.n.seq (ch66.n.seq (hc71.n.seq ch72.n))))
   replace bx20:=bx20.ca C74
   refine qx (λw' hw'=>ae (ds:=[vi t.1.1,vi t.1.2]) aj rfl (bx20.bel hw') rfl rfl) (qx (λw' hw'=>bm kN rfl rfl rfl (by decide) (by decide) rfl) (qx (λw' hw'=>ae (ds:=[vi t.2.1,vi t.2.2]) aj rfl (bx20.bel hw') rfl rfl) (qx (λw' hw'=>a9 eQ rfl rfl rfl rfl) ?_)))
   replace bx10:=(bx10.cn hc71).cn ch72
   refine qx (λw' hw'=>aa bD rfl (bx10.bel hw') rfl) (qm (vi ((gI g.2 e).2)) ?_)
   replace Rp:=(Rp.cn hc71).cn ch72
   refine qx (λw' hw'=>af (v:=p_v) (i:=(gI g.2 e).2) cT rfl rfl (Rp.bel hw') rfl (by omega) (by omega)) (qv (vg [vi ((gI p.1 ((gI g.2 e).2)).1),vi ((gI p.1 ((gI g.2 e).2)).2)]) (λw' hw'=>aT (v:=p_v) (i:=(gI g.2 e).2) aj rfl (Rp.bel hw') (by omega) (by omega) rfl) ?_)
   refine cv (v:=vt [vb ((cw t.1 t.2 (gI p.1 ((gI g.2 e).2))).1),vi ((cw t.1 t.2 (gI p.1 ((gI g.2 e).2))).2)]) rfl (λw' hw'=>aG (vals:=[vg [vi t.1.1,vi t.1.2],vg [vi t.2.1,vi t.2.2],vg [vi ((gI p.1 ((gI g.2 e).2)).1),vi ((gI p.1 ((gI g.2 e).2)).2)]]) Try.func52 ef ea rfl) (λw' hw'=>(fq w' t.1 t.2 (gI p.1 ((gI g.2 e).2))).mono λe w2 h2=>⟨h2.1,hw'.trans (h2.2.mono hw'.size)⟩) (qm (vt [vb ((cw t.1 t.2 (gI p.1 ((gI g.2 e).2))).1),vi ((cw t.1 t.2 (gI p.1 ((gI g.2 e).2))).2)]) (qx (λw' hw'=>bg rfl rfl) (qx (λw' hw'=>bg rfl rfl) ?_)))
   refine qv (vb ((cw t.1 t.2 (gI p.1 ((gI g.2 e).2))).1)) (λw' hw'=>bw rfl) (qv (vi ((cw t.1 t.2 (gI p.1 ((gI g.2 e).2))).2)) (λw' hw'=>bw rfl) (bT ?_))
   intro w75 hc76
   replace hc76:=am hc76 g19
   refine a8 (a7 rfl (mv (vb ((cw s.1 s.2 (gI p.1 ((gI g.2 e).2))).1)) (mv (vb ((cw s.1 s.2 (gI p.1 ((gI g.2 e).2))).1)) ?_)))
   by_cases q62_77:((cw s.1 s.2 (gI p.1 ((gI g.2 e).2))).1)=true
   ·
    refine lv (vb ((cw t.1 t.2 (gI p.1 ((gI g.2 e).2))).1)) (wy q62_77) (aR rfl) (lw (vb ((cw t.1 t.2 (gI p.1 ((gI g.2 e).2))).1)) (aM rfl q62_77 rfl) (ab ?_))
    by_cases p7:((cw t.1 t.2 (gI p.1 ((gI g.2 e).2))).1)=true
    ·
     refine ag rfl p7 (a8 ?_)
     clear bx5 bx10 bx15 bx20
     refine a7 rfl (ma (vb true) (ab (aw (vs:=[vb true]) Try.func41 (.tmp rfl .nil) ?_)))
     have e0:(true:Bool)=(decide (dE g p e f s t)):=by
       exact m5 ho hq2 (nv ‹_›) ‹_› ‹_›
     have C78:=cg [] (ch2.n.seq (ch7.n.seq (ch12.n.seq (ch17.n.seq (hb25.n.seq (ch26.n.seq (hc32.n.seq (ch33.n.seq (hc37.n.seq (hb64.n.seq (ch66.n.seq (hc71.n.seq (ch72.n.seq hc76.n)))))))))))))
     replace bH:=bH.ca C78
     exact⟨rb e0,bH.below⟩
    refine ah rfl (Bool.eq_false_iff.2 p7) (au (ap (a7 rfl (lx (ba (m:=1) (n:=1) rfl rfl (by omega)) (mi 2 (ab (aN (a8 (a7 rfl (lx (bc (m:=2) (n:=2) rfl rfl) ?_))))))))))
    refine ab (a8 (ah rfl rfl (aQ rfl (a8 ?_))))
    clear bx5 bx10 bx15 bx20
    refine a7 rfl (ma (vb false) (ab (aw (vs:=[vb false]) Try.func41 (.tmp rfl .nil) ?_)))
    have e0:(false:Bool)=(decide (dE g p e f s t)):=by
      exact gg ho hq1 hq2 (by exact .inr (.inl ‹_›)) (by exact .inr (.inr ‹_›))
    have C79:=cg [] (ch2.n.seq (ch7.n.seq (ch12.n.seq (ch17.n.seq (hb25.n.seq (ch26.n.seq (hc32.n.seq (ch33.n.seq (hc37.n.seq (hb64.n.seq (ch66.n.seq (hc71.n.seq (ch72.n.seq hc76.n)))))))))))))
    replace bH:=bH.ca C79
    exact⟨rb e0,bH.below⟩
   refine ak (wn (Bool.eq_false_iff.2 q62_77)) (lw (vb false) (aS rfl (Bool.eq_false_iff.2 q62_77) rfl) (ab (ah rfl rfl (au (ap (a7 rfl (lx (ba (m:=1) (n:=1) rfl rfl (by omega)) (mi 2 (ab ?_)))))))))
   refine aN (a8 (a7 rfl (lx (bc (m:=2) (n:=2) rfl rfl) (ab (a8 (ah rfl rfl (aQ rfl (a8 ?_))))))))
   clear bx5 bx10 bx15 bx20
   refine a7 rfl (ma (vb false) (ab (aw (vs:=[vb false]) Try.func41 (.tmp rfl .nil) ?_)))
   have e0:(false:Bool)=(decide (dE g p e f s t)):=by
     exact gg ho hq1 hq2 (by exact .inr (.inl ‹_›)) (by exact .inr (.inl ‹_›))
   have C80:=cg [] (ch2.n.seq (ch7.n.seq (ch12.n.seq (ch17.n.seq (hb25.n.seq (ch26.n.seq (hc32.n.seq (ch33.n.seq (hc37.n.seq (hb64.n.seq (ch66.n.seq (hc71.n.seq (ch72.n.seq hc76.n)))))))))))))
   replace bH:=bH.ca C80
   exact⟨rb e0,bH.below⟩
  refine ag rfl (congrArg Bool.not (Bool.eq_false_iff.2 p4_65)) (aQ rfl ?_)
  clear r62
  refine a7 rfl (lx (ba (m:=1) (n:=1) rfl rfl (by omega)) (mi 2 (ab (aN (a8 (a7 rfl (lx (bc (m:=2) (n:=2) rfl rfl) (ab (a8 (ah rfl rfl (aQ rfl ?_)))))))))))
  refine a8 ?_
  clear bx5 bx10 bx15 bx20
  refine a7 rfl (ma (vb false) (ab (aw (vs:=[vb false]) Try.func41 (.tmp rfl .nil) ?_)))
  have e0:(false:Bool)=(decide (dE g p e f s t)):=by
    exact gg ho hq1 hq2 (by exact .inr (.inl ‹_›)) (by exact .inl ‹_›)
  have C81:=cg [] (ch2.n.seq (ch7.n.seq (ch12.n.seq (ch17.n.seq (hb25.n.seq (ch26.n.seq (hc32.n.seq (ch33.n.seq (hc37.n.seq hb64.n)))))))))
  replace bH:=bH.ca C81
  exact⟨rb e0,bH.below⟩
 refine ag rfl (congrArg Bool.not (Bool.eq_false_iff.2 p4)) (aQ rfl ?_)
 clear r23
 refine a7 rfl (lx (ba (m:=0) (n:=1) rfl rfl (by omega)) (mi 1 (ab (aN (a8 (a7 rfl (lx (bc (m:=1) (n:=2) rfl rfl) (ab (a8 (ag rfl rfl (au ?_)))))))))))
 refine a8 (aC (a8 (a7 rfl (lw (vi ((gI g.2 e).2)) (cD kr aL rfl rfl (by decide) (by decide) rfl) (ai ((gI g.2 e).2) (ab (a8 (a8 (a7 rfl (lx (a9 fO rfl rfl rfl rfl) ?_))))))))))
 replace bx5:=bx5.cn hb25
 refine lx (aa cO rfl bx5 rfl) (mi f ?_)
 replace Rg:=Rg.cn hb25
 refine lx (af (v:=g_v) (i:=f) iJ rfl rfl Rg rfl (by omega) (by omega)) (lw ((lh g_v (Int.toNat f))) (eb kr rfl rfl) ?_)
 have r82:=jh Rg (i:=f) (by omega) (by omega)
 refine mi ((gI g.2 e).2) (lo (aP (v:=vb (decide (((gI g.2 e).2)∈([(gI g.2 f).1,(gI g.2 f).2])))) (aG (vals:=[(lh g_v (Int.toNat f)),vi ((gI g.2 e).2)]) Try.func51 ib i7 rfl) (eh w24 ([(gI g.2 f).1,(gI g.2 f).2]) (lh g_v (Int.toNat f)) (r82).ro ((gI g.2 e).2)) ?_))
 intro w83 hb84
 replace hb84:=am hb84 g19
 refine lx (dr (b:=(decide (((gI g.2 e).2)∈([(gI g.2 f).1,(gI g.2 f).2])))) rfl) (ab ?_)
 by_cases p4_85:(decide (((gI g.2 e).2)∈([(gI g.2 f).1,(gI g.2 f).2])))=true
 ·
  refine ah rfl (congrArg Bool.not p4_85) (au (a8 ?_))
  clear r82
  refine bq g19 rfl dG (by kernel_rfl) ?_
  intro w87 ch86
  refine qx (λw' hw'=>bm kN rfl rfl rfl (by decide) (by decide) rfl) ?_
  have C88:=cg [] (ch17.n.seq (hb25.n.seq (hb84.n.seq ch86.n)))
  replace bx15:=bx15.ca C88
  refine qx (λw' hw'=>ae (ds:=[vi s.1.1,vi s.1.2]) aj rfl (bx15.bel hw') rfl rfl) (qx (λw' hw'=>bm kN rfl rfl rfl (by decide) (by decide) rfl) (qx (λw' hw'=>ae (ds:=[vi s.2.1,vi s.2.2]) aj rfl (bx15.bel hw') rfl rfl) (qx (λw' hw'=>a9 eQ rfl rfl rfl rfl) ?_)))
  have C89:=cg [] (ch12.n.seq (ch17.n.seq (hb25.n.seq (hb84.n.seq ch86.n))))
  replace bx10:=bx10.ca C89
  refine qx (λw' hw'=>aa bD rfl (bx10.bel hw') rfl) (qm (vi ((gI g.2 e).2)) ?_)
  have C90:=cg [] (ch2.n.seq (ch7.n.seq (ch12.n.seq (ch17.n.seq (hb25.n.seq (hb84.n.seq ch86.n))))))
  replace Rp:=Rp.ca C90
  refine qx (λw' hw'=>af (v:=p_v) (i:=(gI g.2 e).2) cT rfl rfl (Rp.bel hw') rfl (by omega) (by omega)) (qv (vg [vi ((gI p.1 ((gI g.2 e).2)).1),vi ((gI p.1 ((gI g.2 e).2)).2)]) (λw' hw'=>aT (v:=p_v) (i:=(gI g.2 e).2) aj rfl (Rp.bel hw') (by omega) (by omega) rfl) ?_)
  refine cv (v:=vt [vb ((cw s.1 s.2 (gI p.1 ((gI g.2 e).2))).1),vi ((cw s.1 s.2 (gI p.1 ((gI g.2 e).2))).2)]) rfl (λw' hw'=>aG (vals:=[vg [vi s.1.1,vi s.1.2],vg [vi s.2.1,vi s.2.2],vg [vi ((gI p.1 ((gI g.2 e).2)).1),vi ((gI p.1 ((gI g.2 e).2)).2)]]) Try.func52 ef ea rfl) (λw' hw'=>(fq w' s.1 s.2 (gI p.1 ((gI g.2 e).2))).mono λe w2 h2=>⟨h2.1,hw'.trans (h2.2.mono hw'.size)⟩) (qm (vt [vb ((cw s.1 s.2 (gI p.1 ((gI g.2 e).2))).1),vi ((cw s.1 s.2 (gI p.1 ((gI g.2 e).2))).2)]) (qx (λw' hw'=>bg rfl rfl) (qx (λw' hw'=>bg rfl rfl) ?_)))
  refine qv (vb ((cw s.1 s.2 (gI p.1 ((gI g.2 e).2))).1)) (λw' hw'=>bw rfl) (qv (vi ((cw s.1 s.2 (gI p.1 ((gI g.2 e).2))).2)) (λw' hw'=>bw rfl) (bT ?_))
  intro w91 hc92
  replace hc92:=am hc92 g19
  refine a8 (bq g19 rfl dG (by kernel_rfl) ?_)
  intro w94 ch93
  refine qx (λw' hw'=>bm kN rfl rfl rfl (by decide) (by decide) rfl) ?_
  have C95:=cg [] (hb25.n.seq (hb84.n.seq (ch86.n.seq (hc92.n.seq ch93.n))))
  replace bx20:=bx20.ca C95
  refine qx (λw' hw'=>ae (ds:=[vi t.1.1,vi t.1.2]) aj rfl (bx20.bel hw') rfl rfl) (qx (λw' hw'=>bm kN rfl rfl rfl (by decide) (by decide) rfl) (qx (λw' hw'=>ae (ds:=[vi t.2.1,vi t.2.2]) aj rfl (bx20.bel hw') rfl rfl) (qx (λw' hw'=>a9 eQ rfl rfl rfl rfl) ?_)))
  replace bx10:=(bx10.cn hc92).cn ch93
  refine qx (λw' hw'=>aa bD rfl (bx10.bel hw') rfl) (qm (vi ((gI g.2 e).2)) ?_)
  replace Rp:=(Rp.cn hc92).cn ch93
  refine qx (λw' hw'=>af (v:=p_v) (i:=(gI g.2 e).2) cT rfl rfl (Rp.bel hw') rfl (by omega) (by omega)) (qv (vg [vi ((gI p.1 ((gI g.2 e).2)).1),vi ((gI p.1 ((gI g.2 e).2)).2)]) (λw' hw'=>aT (v:=p_v) (i:=(gI g.2 e).2) aj rfl (Rp.bel hw') (by omega) (by omega) rfl) ?_)
  refine cv (v:=vt [vb ((cw t.1 t.2 (gI p.1 ((gI g.2 e).2))).1),vi ((cw t.1 t.2 (gI p.1 ((gI g.2 e).2))).2)]) rfl (λw' hw'=>aG (vals:=[vg [vi t.1.1,vi t.1.2],vg [vi t.2.1,vi t.2.2],vg [vi ((gI p.1 ((gI g.2 e).2)).1),vi ((gI p.1 ((gI g.2 e).2)).2)]]) Try.func52 ef ea rfl) (λw' hw'=>(fq w' t.1 t.2 (gI p.1 ((gI g.2 e).2))).mono λe w2 h2=>⟨h2.1,hw'.trans (h2.2.mono hw'.size)⟩) (qm (vt [vb ((cw t.1 t.2 (gI p.1 ((gI g.2 e).2))).1),vi ((cw t.1 t.2 (gI p.1 ((gI g.2 e).2))).2)]) (qx (λw' hw'=>bg rfl rfl) (qx (λw' hw'=>bg rfl rfl) ?_)))
  refine qv (vb ((cw t.1 t.2 (gI p.1 ((gI g.2 e).2))).1)) (λw' hw'=>bw rfl) (qv (vi ((cw t.1 t.2 (gI p.1 ((gI g.2 e).2))).2)) (λw' hw'=>bw rfl) (bT ?_))
  intro w96 hc97
  replace hc97:=am hc97 g19
  refine a8 (a7 rfl (mv (vb ((cw s.1 s.2 (gI p.1 ((gI g.2 e).2))).1)) (mv (vb ((cw s.1 s.2 (gI p.1 ((gI g.2 e).2))).1)) ?_)))
  by_cases q62:((cw s.1 s.2 (gI p.1 ((gI g.2 e).2))).1)=true
  ·
   refine lv (vb ((cw t.1 t.2 (gI p.1 ((gI g.2 e).2))).1)) (wy q62) (aR rfl) (lw (vb ((cw t.1 t.2 (gI p.1 ((gI g.2 e).2))).1)) (aM rfl q62 rfl) (ab ?_))
   by_cases p7:((cw t.1 t.2 (gI p.1 ((gI g.2 e).2))).1)=true
   ·
    refine ag rfl p7 (a8 ?_)
    clear bx5 bx10 bx15 bx20
    refine a7 rfl (ma (vb true) (ab (aw (vs:=[vb true]) Try.func41 (.tmp rfl .nil) ?_)))
    have e0:(true:Bool)=(decide (dE g p e f s t)):=by
      exact m5 ho hq2 (nv ‹_›) ‹_› ‹_›
    have C98:=cg [] (ch2.n.seq (ch7.n.seq (ch12.n.seq (ch17.n.seq (hb25.n.seq (hb84.n.seq (ch86.n.seq (hc92.n.seq (ch93.n.seq hc97.n)))))))))
    replace bH:=bH.ca C98
    exact⟨rb e0,bH.below⟩
   refine ah rfl (Bool.eq_false_iff.2 p7) (au (ap (a7 rfl (lx (ba (m:=1) (n:=1) rfl rfl (by omega)) (mi 2 (ab (aN (a8 (a7 rfl (lx (bc (m:=2) (n:=2) rfl rfl) ?_))))))))))
   refine ab (a8 (ah rfl rfl (aQ rfl (a8 ?_))))
   clear bx5 bx10 bx15 bx20
   refine a7 rfl (ma (vb false) (ab (aw (vs:=[vb false]) Try.func41 (.tmp rfl .nil) ?_)))
   have e0:(false:Bool)=(decide (dE g p e f s t)):=by
     exact gg ho hq1 hq2 (by exact .inl ‹_›) (by exact .inr (.inr ‹_›))
   have C99:=cg [] (ch2.n.seq (ch7.n.seq (ch12.n.seq (ch17.n.seq (hb25.n.seq (hb84.n.seq (ch86.n.seq (hc92.n.seq (ch93.n.seq hc97.n)))))))))
   replace bH:=bH.ca C99
   exact⟨rb e0,bH.below⟩
  refine ak (wn (Bool.eq_false_iff.2 q62)) (lw (vb false) (aS rfl (Bool.eq_false_iff.2 q62) rfl) (ab (ah rfl rfl (au (ap (a7 rfl (lx (ba (m:=1) (n:=1) rfl rfl (by omega)) (mi 2 (ab ?_)))))))))
  refine aN (a8 (a7 rfl (lx (bc (m:=2) (n:=2) rfl rfl) (ab (a8 (ah rfl rfl (aQ rfl (a8 ?_))))))))
  clear bx5 bx10 bx15 bx20
  refine a7 rfl (ma (vb false) (ab (aw (vs:=[vb false]) Try.func41 (.tmp rfl .nil) ?_)))
  have e0:(false:Bool)=(decide (dE g p e f s t)):=by
    exact gg ho hq1 hq2 (by exact .inl ‹_›) (by exact .inr (.inl ‹_›))
  have C100:=cg [] (ch2.n.seq (ch7.n.seq (ch12.n.seq (ch17.n.seq (hb25.n.seq (hb84.n.seq (ch86.n.seq (hc92.n.seq (ch93.n.seq hc97.n)))))))))
  replace bH:=bH.ca C100
  exact⟨rb e0,bH.below⟩
 refine ag rfl (congrArg Bool.not (Bool.eq_false_iff.2 p4_85)) (aQ rfl ?_)
 clear r82
 refine a7 rfl (lx (ba (m:=1) (n:=1) rfl rfl (by omega)) (mi 2 (ab (aN (a8 (a7 rfl (lx (bc (m:=2) (n:=2) rfl rfl) (ab (a8 (ah rfl rfl (aQ rfl ?_)))))))))))
 refine a8 ?_
 clear bx5 bx10 bx15 bx20
 refine a7 rfl (ma (vb false) (ab (aw (vs:=[vb false]) Try.func41 (.tmp rfl .nil) ?_)))
 have e0:(false:Bool)=(decide (dE g p e f s t)):=by
   exact gg ho hq1 hq2 (by exact .inl ‹_›) (by exact .inl ‹_›)
 have C101:=cg [] (ch2.n.seq (ch7.n.seq (ch12.n.seq (ch17.n.seq (hb25.n.seq hb84.n)))))
 replace bH:=bH.ca C101
 exact⟨rb e0,bH.below⟩
end TL
