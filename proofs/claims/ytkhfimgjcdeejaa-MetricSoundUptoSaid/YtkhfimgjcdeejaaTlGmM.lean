import Derived.Test.YtkhfimgjcdeejaaTlP3
import Derived.Test.YtkhfimgjcdeejaaTlGmA
import Derived.Test.YtkhfimgjcdeejaaTlGmL
import Derived.Test.YtkhfimgjcdeejaaProg
import Derived.Test.YtkhfimgjcdeejaaTlAli
set_option linter.all false
set_option maxRecDepth 20000
namespace TL
open Go Go.Proofs
theorem mK:Try.prog.follows .mixedOrders=true:=by kernel_rfl
theorem jW:Try.f49.body.isNone=false:=rfl
theorem jY:(Try.f49.name== "runtime.NumGoroutine")=false:=by decide+kernel
theorem sL:Try.f50.body.isNone=false:=rfl
theorem tm:(Try.f50.name== "runtime.NumGoroutine")=false:=by decide+kernel
theorem uw:Try.f60.body.isNone=false:=rfl
theorem sO:(Try.f60.name== "runtime.NumGoroutine")=false:=by decide+kernel
theorem j9:Try.f61.body.isNone=false:=rfl
theorem iX:(Try.f61.name== "runtime.NumGoroutine")=false:=by decide+kernel
set_option maxHeartbeats 2000000 in
theorem sN(w0:World)(a:Pt)(b:Pt)(c:Pt)(d:Pt)(ha:cV a)(hb:cV b)(hc:cV c)(hd:cV d):
    Calls Try.prog 50 #[vg [vi a.1,vi a.2],vg [vi b.1,vi b.2],vg [vi c.1,vi c.2],vg [vi d.1,vi d.2]] w0 (λee w=>ee= .returned (vi (bL a b c d))/\cW w0.heap.size w0 w):=by
 refine aI Try.func50 rfl nq ?_
 have bH:=bo.start w0
 have k1:=fx a b c
 have k2:=fx a b d
 have k3:=fx c d a
 have k4:=fx c d b
 have m1:=gB (x:=bG a b c) (y:=bG a b d) (by omega) (by omega)
 have m2:=gB (x:=bG c d a) (y:=bG c d b) (by omega) (by omega)
 refine a6 (a5 rfl (cj rfl (bA c0 (is 1) (1,0) rfl rfl ?_)))
 intro g4 w1 b3 ch2 bx5
 replace bx5:Bx g4 (is 1) w1 b3 [vi a.1,vi a.2]:=bx5
 refine lo (bA g4 (is 2) (2,0) rfl rfl ?_)
 intro g9 w6 b8 ch7 bx10
 replace bx10:Bx g9 (is 2) w6 b8 [vi b.1,vi b.2]:=bx10
 refine lo (bA g9 (is 3) (3,0) rfl rfl ?_)
 intro g14 w11 b13 ch12 bx15
 replace bx15:Bx g14 (is 3) w11 b13 [vi c.1,vi c.2]:=bx15
 refine lo (bA g14 (is 4) (4,0) rfl rfl ?_)
 intro g19 w16 b18 ch17 bx20
 replace bx20:Bx g19 (is 4) w16 b18 [vi d.1,vi d.2]:=bx20
 refine ai 0 (a8 (a6 (bv g19 rfl mK (by kernel_rfl) ?_)))
 intro w22 ch21
 have C23:=cg [] (ch7.n.seq (ch12.n.seq (ch17.n.seq ch21.n)))
 replace bx5:=bx5.ca C23
 refine qx (λw' hw'=>ad (ds:=[vi a.1,vi a.2]) ah rfl (bx5.bel hw') rfl rfl) ?_
 have C24:=cg [] (ch12.n.seq (ch17.n.seq ch21.n))
 replace bx10:=bx10.ca C24
 refine qx (λw' hw'=>ad (ds:=[vi b.1,vi b.2]) ah rfl (bx10.bel hw') rfl rfl) ?_
 replace bx15:=(bx15.cn ch17).cn ch21
 refine qx (λw' hw'=>ad (ds:=[vi c.1,vi c.2]) ah rfl (bx15.bel hw') rfl rfl) (cb (v:=vi (bG a b c)) rfl (λw' hw'=>az (vals:=[vg [vi a.1,vi a.2],vg [vi b.1,vi b.2],vg [vi c.1,vi c.2]]) Try.func59 iT j4 rfl) (λw' hw'=>(j5 w' a b c ‹_› ‹_› ‹_›).mono λe w2 h2=>⟨h2.1,hw'.trans (h2.2.mono hw'.size)⟩) (qx (λw' hw'=>ad (ds:=[vi a.1,vi a.2]) ah rfl (bx5.bel hw') rfl rfl) (qx (λw' hw'=>ad (ds:=[vi b.1,vi b.2]) ah rfl (bx10.bel hw') rfl rfl) ?_)))
 replace bx20:=bx20.cn ch21
 refine qx (λw' hw'=>ad (ds:=[vi d.1,vi d.2]) ah rfl (bx20.bel hw') rfl rfl) (cb (v:=vi (bG a b d)) rfl (λw' hw'=>az (vals:=[vg [vi a.1,vi a.2],vg [vi b.1,vi b.2],vg [vi d.1,vi d.2]]) Try.func59 iT j4 rfl) (λw' hw'=>(j5 w' a b d ‹_› ‹_› ‹_›).mono λe w2 h2=>⟨h2.1,hw'.trans (h2.2.mono hw'.size)⟩) (qv (vi (bG a b c)) (λw' hw'=>bi rfl) (qv (vi (bG a b d)) (λw' hw'=>bi rfl) (bM ?_))))
 intro w25 hc26
 replace hc26:=aj hc26 g19
 refine a6 (bv g19 rfl mK (by kernel_rfl) ?_)
 intro w28 ch27
 replace bx15:=(bx15.cn hc26).cn ch27
 refine qx (λw' hw'=>ad (ds:=[vi c.1,vi c.2]) ah rfl (bx15.bel hw') rfl rfl) ?_
 replace bx20:=(bx20.cn hc26).cn ch27
 refine qx (λw' hw'=>ad (ds:=[vi d.1,vi d.2]) ah rfl (bx20.bel hw') rfl rfl) ?_
 replace bx5:=(bx5.cn hc26).cn ch27
 refine qx (λw' hw'=>ad (ds:=[vi a.1,vi a.2]) ah rfl (bx5.bel hw') rfl rfl) (cb (v:=vi (bG c d a)) rfl (λw' hw'=>az (vals:=[vg [vi c.1,vi c.2],vg [vi d.1,vi d.2],vg [vi a.1,vi a.2]]) Try.func59 iT j4 rfl) (λw' hw'=>(j5 w' c d a ‹_› ‹_› ‹_›).mono λe w2 h2=>⟨h2.1,hw'.trans (h2.2.mono hw'.size)⟩) (qx (λw' hw'=>ad (ds:=[vi c.1,vi c.2]) ah rfl (bx15.bel hw') rfl rfl) (qx (λw' hw'=>ad (ds:=[vi d.1,vi d.2]) ah rfl (bx20.bel hw') rfl rfl) ?_)))
 replace bx10:=(bx10.cn hc26).cn ch27
 refine qx (λw' hw'=>ad (ds:=[vi b.1,vi b.2]) ah rfl (bx10.bel hw') rfl rfl) (cb (v:=vi (bG c d b)) rfl (λw' hw'=>az (vals:=[vg [vi c.1,vi c.2],vg [vi d.1,vi d.2],vg [vi b.1,vi b.2]]) Try.func59 iT j4 rfl) (λw' hw'=>(j5 w' c d b ‹_› ‹_› ‹_›).mono λe w2 h2=>⟨h2.1,hw'.trans (h2.2.mono hw'.size)⟩) (qv (vi (bG c d a)) (λw' hw'=>bi rfl) (qv (vi (bG c d b)) (λw' hw'=>bi rfl) (bM ?_))))
 intro w29 hc30
 replace hc30:=aj hc30 g19
 refine a6 (ao (a6 ?_))
 refine nr [0,2,1] (σ:=aW) (λgq f w=>bo w0 gq w/\f 4=vp b3 0/\f 5=vp b8 0/\f 6=vp b13 0/\f 7=vp b18 0/\f 9=vi (bG a b c)/\f 10=vi (bG a b d)/\f 11=vi (bG c d a)/\f 12=vi (bG c d b)/\Bx gq (is 1) w b3 [vi a.1,vi a.2]/\Bx gq (is 2) w b8 [vi b.1,vi b.2]/\Bx gq (is 3) w b13 [vi c.1,vi c.2]/\Bx gq (is 4) w b18 [vi d.1,vi d.2]/\(¬(bG a b c=0/\bG a b d=0/\bG c d a=0/\bG c d b=0))) ?_ ?_
 ·
  intro mid_j1
  refine a5 rfl (mi (bG a b c) (lx (cu (m:=bG a b c) (n:=0) rfl rfl) (mv (vb (decide ((bG a b c)=0))) ?_)))
  by_cases q32:(bG a b c)=0
  ·
   refine lv (vi (bG a b d)) (wy (dt q32)) (aw rfl) (lv (vb (decide ((bG a b d)=0))) (wy (dt q32)) (cu (m:=bG a b d) (n:=0) rfl rfl) (lw (vb (decide ((bG a b d)=0))) (aD rfl (dt q32) rfl) (mv (vb (decide ((bG a b d)=0))) ?_)))
   by_cases q36:(bG a b d)=0
   ·
    refine lv (vi (bG c d a)) (wy (dt q36)) (aw rfl) (lv (vb (decide ((bG c d a)=0))) (wy (dt q36)) (cu (m:=bG c d a) (n:=0) rfl rfl) (lw (vb (decide ((bG c d a)=0))) (aD rfl (dt q36) rfl) (mv (vb (decide ((bG c d a)=0))) ?_)))
    by_cases q40:(bG c d a)=0
    ·
     refine lv (vi (bG c d b)) (wy (dt q40)) (aw rfl) (lv (vb (decide ((bG c d b)=0))) (wy (dt q40)) (cu (m:=bG c d b) (n:=0) rfl rfl) (lw (vb (decide ((bG c d b)=0))) (aD rfl (dt q40) rfl) (ma (vb (decide ((bG c d b)=0))) (a8 ?_))))
     by_cases p3:(bG c d b)=0
     ·
      refine ae rfl (dt p3) (a6 (a5 rfl ?_))
      replace bx5:=bx5.cn hc30
      refine lx (ad (ds:=[vi a.1,vi a.2]) ah rfl bx5 rfl rfl) ?_
      replace bx10:=bx10.cn hc30
      refine lx (ad (ds:=[vi b.1,vi b.2]) ah rfl bx10 rfl rfl) ?_
      replace bx15:=bx15.cn hc30
      refine lx (ad (ds:=[vi c.1,vi c.2]) ah rfl bx15 rfl rfl) ?_
      replace bx20:=bx20.cn hc30
      refine lx (ad (ds:=[vi d.1,vi d.2]) ah rfl bx20 rfl rfl) (lo (aN (v:=vi (dA a b c d)) (az (vals:=[vg [vi a.1,vi a.2],vg [vi b.1,vi b.2],vg [vi c.1,vi c.2],vg [vi d.1,vi d.2]]) Try.func60 uw sO rfl) (t3 w29 a b c d) ?_))
      intro w31 hb32
      replace hb32:=aj hb32 g19
      refine ai (dA a b c d) (a8 (av (vs:=[vi (dA a b c d)]) Try.func50 (.tmp rfl .nil) ?_))
      have e0:(dA a b c d:Int)=(bL a b c d):=by
        with_reducible exact nX ‹_› ‹_› ‹_› ‹_›
      have C33:=cg [] (ch2.n.seq (ch7.n.seq (ch12.n.seq (ch17.n.seq (ch21.n.seq (hc26.n.seq (ch27.n.seq (hc30.n.seq hb32.n))))))))
      replace bH:=bH.ca C33
      exact⟨ri e0,bH.below⟩
     refine af rfl (df p3) (a6 ?_)
     have C34:=cg [] (ch2.n.seq (ch7.n.seq (ch12.n.seq (ch17.n.seq (ch21.n.seq (hc26.n.seq (ch27.n.seq hc30.n)))))))
     refine mid_j1 (g19) _ _ ⟨bH.ca C34,rfl,rfl,rfl,rfl,rfl,rfl,rfl,rfl,bx5.cn hc30,bx10.cn hc30,bx15.cn hc30,bx20.cn hc30,?_⟩
     show¬(bG a b c=0/\bG a b d=0/\bG c d a=0/\bG c d b=0)
     (rintro⟨_,_,_,_⟩;contradiction)
    refine aa (wn (df q40)) (aa (wn (df q40)) (lw (vb false) (aB rfl (df q40) rfl) (ma (vb false) (a8 (af rfl rfl (a6 ?_))))))
    have C35:=cg [] (ch2.n.seq (ch7.n.seq (ch12.n.seq (ch17.n.seq (ch21.n.seq (hc26.n.seq (ch27.n.seq hc30.n)))))))
    refine mid_j1 (g19) _ _ ⟨bH.ca C35,rfl,rfl,rfl,rfl,rfl,rfl,rfl,rfl,bx5.cn hc30,bx10.cn hc30,bx15.cn hc30,bx20.cn hc30,?_⟩
    show¬(bG a b c=0/\bG a b d=0/\bG c d a=0/\bG c d b=0)
    (rintro⟨_,_,_,_⟩;contradiction)
   refine aa (wn (df q36)) (aa (wn (df q36)) (lw (vb false) (aB rfl (df q36) rfl) (mv (vb false) (aa (wn rfl) (aa (wn rfl) (lw (vb false) (aB rfl rfl rfl) (ma (vb false) (a8 (af rfl rfl (a6 ?_))))))))))
   have C36:=cg [] (ch2.n.seq (ch7.n.seq (ch12.n.seq (ch17.n.seq (ch21.n.seq (hc26.n.seq (ch27.n.seq hc30.n)))))))
   refine mid_j1 (g19) _ _ ⟨bH.ca C36,rfl,rfl,rfl,rfl,rfl,rfl,rfl,rfl,bx5.cn hc30,bx10.cn hc30,bx15.cn hc30,bx20.cn hc30,?_⟩
   show¬(bG a b c=0/\bG a b d=0/\bG c d a=0/\bG c d b=0)
   (rintro⟨_,_,_,_⟩;contradiction)
  refine aa (wn (df q32)) (aa (wn (df q32)) (lw (vb false) (aB rfl (df q32) rfl) (mv (vb false) (aa (wn rfl) (aa (wn rfl) (lw (vb false) (aB rfl rfl rfl) (mv (vb false) (aa (wn rfl) (aa (wn rfl) (lw (vb false) (aB rfl rfl rfl) (ma (vb false) ?_)))))))))))
  refine a8 (af rfl rfl (a6 ?_))
  have C37:=cg [] (ch2.n.seq (ch7.n.seq (ch12.n.seq (ch17.n.seq (ch21.n.seq (hc26.n.seq (ch27.n.seq hc30.n)))))))
  refine mid_j1 (g19) _ _ ⟨bH.ca C37,rfl,rfl,rfl,rfl,rfl,rfl,rfl,rfl,bx5.cn hc30,bx10.cn hc30,bx15.cn hc30,bx20.cn hc30,?_⟩
  show¬(bG a b c=0/\bG a b d=0/\bG c d a=0/\bG c d b=0)
  (rintro⟨_,_,_,_⟩;contradiction)
 clear bx5 bx10 bx15 bx20 bH
 rintro g40 f38 w39 ⟨bH,z41_4,z41_5,z41_6,z41_7,z41_9,z41_10,z41_11,z41_12,bx5,bx10,bx15,bx20,hn1⟩
 refine nr [0,2,1] (σ:=aW) (λgq f w=>bo w0 gq w/\f 4=vp b3 0/\f 5=vp b8 0/\f 6=vp b13 0/\f 7=vp b18 0/\Bx gq (is 1) w b3 [vi a.1,vi a.2]/\Bx gq (is 2) w b8 [vi b.1,vi b.2]/\Bx gq (is 3) w b13 [vi c.1,vi c.2]/\Bx gq (is 4) w b18 [vi d.1,vi d.2]/\(¬(bG a b c*bG a b d<0/\bG c d a*bG c d b<0))) ?_ ?_
 ·
  intro mid_j2
  refine a5 rfl (mz z41_9 (mz z41_10 (lx (fV (m:=bG a b c) (n:=bG a b d) rfl rfl (by omega)) (lx (b6 (m:=(bG a b c)*(bG a b d)) (n:=0) rfl rfl) (mv (vb (decide (((bG a b c)*(bG a b d))<0))) ?_)))))
  by_cases q54:((bG a b c)*(bG a b d))<0
  ·
   refine lv (vi (bG c d a)) (wy (dt q54)) (aw z41_11) (lv (vi (bG c d b)) (wy (dt q54)) (aw z41_12) (lv (vi ((bG c d a)*(bG c d b))) (wy (dt q54)) (fV (m:=bG c d a) (n:=bG c d b) rfl rfl (by omega)) (lv (vb (decide (((bG c d a)*(bG c d b))<0))) (wy (dt q54)) (b6 (m:=(bG c d a)*(bG c d b)) (n:=0) rfl rfl) (lw (vb (decide (((bG c d a)*(bG c d b))<0))) (aD rfl (dt q54) rfl) (ma (vb (decide (((bG c d a)*(bG c d b))<0))) (a8 ?_))))))
   by_cases p5:((bG c d a)*(bG c d b))<0
   ·
    refine ae rfl (dt p5) (a6 ?_)
    clear bx5 bx10 bx15 bx20
    refine a5 rfl (ai 1 (a8 (av (vs:=[vi 1]) Try.func50 (.tmp rfl .nil) ?_)))
    have e0:(1:Int)=(bL a b c d):=by
      with_reducible exact n6 ‹_› ‹_›
    exact⟨ri e0,bH.below⟩
   refine af rfl (df p5) (a6 ?_)
   refine mid_j2 (g40) _ _ ⟨bH,z41_4,z41_5,z41_6,z41_7,bx5,bx10,bx15,bx20,?_⟩
   show¬(bG a b c*bG a b d<0/\bG c d a*bG c d b<0)
   (rintro⟨_,_⟩;contradiction)
  refine aa (wn (df q54)) (aa (wn (df q54)) (aa (wn (df q54)) (aa (wn (df q54)) (lw (vb false) (aB rfl (df q54) rfl) (ma (vb false) (a8 (af rfl rfl (a6 ?_))))))))
  refine mid_j2 (g40) _ _ ⟨bH,z41_4,z41_5,z41_6,z41_7,bx5,bx10,bx15,bx20,?_⟩
  show¬(bG a b c*bG a b d<0/\bG c d a*bG c d b<0)
  (rintro⟨_,_⟩;contradiction)
 clear bx5 bx10 bx15 bx20 bH
 rintro g44 f42 w43 ⟨bH,z45_4,z45_5,z45_6,z45_7,bx5,bx10,bx15,bx20,hn2⟩
 refine a5 rfl (lx (ad (ds:=[vi a.1,vi a.2]) ah z45_4 bx5 rfl rfl) (lx (ad (ds:=[vi b.1,vi b.2]) ah z45_5 bx10 rfl rfl) (lx (ad (ds:=[vi c.1,vi c.2]) ah z45_6 bx15 rfl rfl) (lo (aN (v:=vb (decide (cA a b c))) (az (vals:=[vg [vi a.1,vi a.2],vg [vi b.1,vi b.2],vg [vi c.1,vi c.2]]) Try.func61 j9 iX rfl) (nh w43 a b c ‹_› ‹_› ‹_›) ?_)))))
 intro w46 hb47
 replace hb47:=aj hb47 g44
 refine mv (vb (decide (cA a b c))) ?_
 by_cases q65:(decide (cA a b c))=true
 ·
  refine aa (wn q65) (aa (wn q65) (aa (wn q65) (aa (wn q65) (lw (vb true) (aD rfl q65 rfl) (mv (vb true) (aa (wn rfl) (aa (wn rfl) (aa (wn rfl) (aa (wn rfl) (lw (vb true) (aD rfl rfl rfl) (mv (vb true) (aa (wn rfl) (aa (wn rfl) (aa (wn rfl) (aa (wn rfl) (lw (vb true) (aD rfl rfl rfl) (ma (vb true) (a8 ?_))))))))))))))))))
  refine ae rfl rfl (a6 ?_)
  clear bx5 bx10 bx15 bx20
  refine a5 rfl (ai 2 (a8 (av (vs:=[vi 2]) Try.func50 (.tmp rfl .nil) ?_)))
  have e0:(2:Int)=(bL a b c d):=by
    ((with_reducible (refine fD ?_ ?_ (by exact o1 ‹_›)))<;>(assumption))
  replace bH:=bH.cn hb47
  exact⟨ri e0,bH.below⟩
 replace bx5:=bx5.cn hb47
 refine lv (vg [vi a.1,vi a.2]) (wy (Bool.eq_false_iff.2 q65)) (ad (ds:=[vi a.1,vi a.2]) ah z45_4 bx5 rfl rfl) ?_
 replace bx10:=bx10.cn hb47
 refine lv (vg [vi b.1,vi b.2]) (wy (Bool.eq_false_iff.2 q65)) (ad (ds:=[vi b.1,vi b.2]) ah z45_5 bx10 rfl rfl) ?_
 replace bx20:=bx20.cn hb47
 refine lv (vg [vi d.1,vi d.2]) (wy (Bool.eq_false_iff.2 q65)) (ad (ds:=[vi d.1,vi d.2]) ah z45_7 bx20 rfl rfl) (cj (wy (Bool.eq_false_iff.2 q65)) (aN (v:=vb (decide (cA a b d))) (az (vals:=[vg [vi a.1,vi a.2],vg [vi b.1,vi b.2],vg [vi d.1,vi d.2]]) Try.func61 j9 iX rfl) (nh w46 a b d ‹_› ‹_› ‹_›) ?_))
 intro w48 hb49
 replace hb49:=aj hb49 g44
 refine lw (vb (decide (cA a b d))) (aB rfl (Bool.eq_false_iff.2 q65) rfl) (mv (vb (decide (cA a b d))) ?_)
 by_cases q71:(decide (cA a b d))=true
 ·
  refine aa (wn q71) (aa (wn q71) (aa (wn q71) (aa (wn q71) (lw (vb true) (aD rfl q71 rfl) (mv (vb true) (aa (wn rfl) (aa (wn rfl) (aa (wn rfl) (aa (wn rfl) (lw (vb true) (aD rfl rfl rfl) (ma (vb true) (a8 (ae rfl rfl (a6 ?_))))))))))))))
  clear bx5 bx10 bx15 bx20
  refine a5 rfl (ai 2 (a8 (av (vs:=[vi 2]) Try.func50 (.tmp rfl .nil) ?_)))
  have e0:(2:Int)=(bL a b c d):=by
    ((with_reducible (refine fD ?_ ?_ (by exact o2 ‹_›)))<;>(assumption))
  replace bH:=bH.cn hb47
  replace bH:=bH.cn hb49
  exact⟨ri e0,bH.below⟩
 replace bx15:=(bx15.cn hb47).cn hb49
 refine lv (vg [vi c.1,vi c.2]) (wy (Bool.eq_false_iff.2 q71)) (ad (ds:=[vi c.1,vi c.2]) ah z45_6 bx15 rfl rfl) ?_
 replace bx20:=bx20.cn hb49
 refine lv (vg [vi d.1,vi d.2]) (wy (Bool.eq_false_iff.2 q71)) (ad (ds:=[vi d.1,vi d.2]) ah z45_7 bx20 rfl rfl) ?_
 replace bx5:=bx5.cn hb49
 refine lv (vg [vi a.1,vi a.2]) (wy (Bool.eq_false_iff.2 q71)) (ad (ds:=[vi a.1,vi a.2]) ah z45_4 bx5 rfl rfl) (cj (wy (Bool.eq_false_iff.2 q71)) (aN (v:=vb (decide (cA c d a))) (az (vals:=[vg [vi c.1,vi c.2],vg [vi d.1,vi d.2],vg [vi a.1,vi a.2]]) Try.func61 j9 iX rfl) (nh w48 c d a ‹_› ‹_› ‹_›) ?_))
 intro w50 hb51
 replace hb51:=aj hb51 g44
 refine lw (vb (decide (cA c d a))) (aB rfl (Bool.eq_false_iff.2 q71) rfl) (mv (vb (decide (cA c d a))) ?_)
 by_cases q77:(decide (cA c d a))=true
 ·
  refine aa (wn q77) (aa (wn q77) (aa (wn q77) (aa (wn q77) (lw (vb true) (aD rfl q77 rfl) (ma (vb true) (a8 (ae rfl rfl (a6 ?_))))))))
  clear bx5 bx10 bx15 bx20
  refine a5 rfl (ai 2 (a8 (av (vs:=[vi 2]) Try.func50 (.tmp rfl .nil) ?_)))
  have e0:(2:Int)=(bL a b c d):=by
    ((with_reducible (refine fD ?_ ?_ (by exact o3 ‹_›)))<;>(assumption))
  have C52:=cg [] (hb47.n.seq (hb49.n.seq hb51.n))
  replace bH:=bH.ca C52
  exact⟨ri e0,bH.below⟩
 replace bx15:=bx15.cn hb51
 refine lv (vg [vi c.1,vi c.2]) (wy (Bool.eq_false_iff.2 q77)) (ad (ds:=[vi c.1,vi c.2]) ah z45_6 bx15 rfl rfl) ?_
 replace bx20:=bx20.cn hb51
 refine lv (vg [vi d.1,vi d.2]) (wy (Bool.eq_false_iff.2 q77)) (ad (ds:=[vi d.1,vi d.2]) ah z45_7 bx20 rfl rfl) ?_
 replace bx10:=(bx10.cn hb49).cn hb51
 refine lv (vg [vi b.1,vi b.2]) (wy (Bool.eq_false_iff.2 q77)) (ad (ds:=[vi b.1,vi b.2]) ah z45_5 bx10 rfl rfl) (cj (wy (Bool.eq_false_iff.2 q77)) (aN (v:=vb (decide (cA c d b))) (az (vals:=[vg [vi c.1,vi c.2],vg [vi d.1,vi d.2],vg [vi b.1,vi b.2]]) Try.func61 j9 iX rfl) (nh w50 c d b ‹_› ‹_› ‹_›) ?_))
 intro w53 hb54
 replace hb54:=aj hb54 g44
 refine lw (vb (decide (cA c d b))) (aB rfl (Bool.eq_false_iff.2 q77) rfl) (ma (vb (decide (cA c d b))) (a8 ?_))
 by_cases p7:(decide (cA c d b))=true
 ·
  refine ae rfl p7 (a6 ?_)
  clear bx5 bx10 bx15 bx20
  refine a5 rfl (ai 2 (a8 (av (vs:=[vi 2]) Try.func50 (.tmp rfl .nil) ?_)))
  have e0:(2:Int)=(bL a b c d):=by
    ((with_reducible (refine fD ?_ ?_ (by exact o4 ‹_›)))<;>(assumption))
  have C55:=cg [] (hb47.n.seq (hb49.n.seq (hb51.n.seq hb54.n)))
  replace bH:=bH.ca C55
  exact⟨ri e0,bH.below⟩
 refine af rfl (Bool.eq_false_iff.2 p7) (am (ak (a6 ?_)))
 clear bx5 bx10 bx15 bx20
 refine a5 rfl (ai 0 (a8 (av (vs:=[vi 0]) Try.func50 (.tmp rfl .nil) ?_)))
 have e0:(0:Int)=(bL a b c d):=by
   ((with_reducible (refine mX ?_ ?_ (o5 ‹_› ‹_› ‹_› ‹_›)))<;>(assumption))
 have C56:=cg [] (hb47.n.seq (hb49.n.seq (hb51.n.seq hb54.n)))
 replace bH:=bH.ca C56
 exact⟨ri e0,bH.below⟩
theorem gO(w0:World)(a:Pt)(b:Pt)(p:Pt):
    Calls Try.prog 52 #[vg [vi a.1,vi a.2],vg [vi b.1,vi b.2],vg [vi p.1,vi p.2]] w0 (λee w=>ee= .returned (vt [vb ((db a b p).1),vi ((db a b p).2)])/\cW w0.heap.size w0 w):=by
 refine aI Try.func52 rfl nq ?_
 have bH:=bo.start w0
 refine a6 (a5 rfl (cj rfl (bA c0 (is 1) (1,0) rfl rfl ?_)))
 intro g4 w1 b3 ch2 bx5
 replace bx5:Bx g4 (is 1) w1 b3 [vi a.1,vi a.2]:=bx5
 refine lo (bA g4 (is 2) (2,0) rfl rfl ?_)
 intro g9 w6 b8 ch7 bx10
 replace bx10:Bx g9 (is 2) w6 b8 [vi b.1,vi b.2]:=bx10
 refine lo (bA g9 (is 3) (3,0) rfl rfl ?_)
 intro g14 w11 b13 ch12 bx15
 replace bx15:Bx g14 (is 3) w11 b13 [vi p.1,vi p.2]:=bx15
 refine ma (vb false) (ai 0 (a8 (a6 (a6 (a5 rfl ?_)))))
 replace bx5:=(bx5.cn ch7).cn ch12
 refine lx (ad (ds:=[vi a.1,vi a.2]) ah rfl bx5 rfl rfl) ?_
 replace bx10:=bx10.cn ch12
 refine lx (ad (ds:=[vi b.1,vi b.2]) ah rfl bx10 rfl rfl) (lx (ad (ds:=[vi p.1,vi p.2]) ah rfl bx15 rfl rfl) (lo (aC (α:=Pt) g14 (is 4) (is 4) (4,0) rfl [a,b,p] bZ ah (by decide) (by decide) (vs:=[(0,vg [vi a.1,vi a.2]),(1,vg [vi b.1,vi b.2]),(2,vg [vi p.1,vi p.2])]) rfl rfl (.cons rfl (.cons rfl (.cons rfl .nil))) ?_)))
 intro g16 w17 v18 ch19 o20
 refine lo (aN (v:=vb (decide (dy ([a,b,p])))) (az (vals:=[v18]) Try.func49 jW jY rfl) (jR w17 ([a,b,p]) v18 (o20.flat).ro) ?_)
 intro w21 hb22
 replace hb22:=aj hb22 g16
 refine lx (cm (b:=(decide (dy ([a,b,p])))) rfl) (a8 ?_)
 by_cases p1:(decide (dy ([a,b,p])))=true
 ·
  obtain⟨h1,h2,h3⟩:=wW.1 (of_decide_eq_true p1)
  have k1:=h1.bd
  have k2:=h2.bd
  have k3:=h3.bd
  refine af rfl (congrArg Bool.not p1) (am (a6 ?_))
  clear o20
  refine a5 rfl ?_
  replace bx5:=(bx5.cn ch19).cn hb22
  refine lx (ad (ds:=[vi a.1,vi a.2]) ah rfl bx5 rfl rfl) ?_
  replace bx10:=(bx10.cn ch19).cn hb22
  refine lx (ad (ds:=[vi b.1,vi b.2]) ah rfl bx10 rfl rfl) ?_
  replace bx15:=(bx15.cn ch19).cn hb22
  refine lx (ad (ds:=[vi p.1,vi p.2]) ah rfl bx15 rfl rfl) (lo (aN (v:=vb (decide (cA a b p))) (az (vals:=[vg [vi a.1,vi a.2],vg [vi b.1,vi b.2],vg [vi p.1,vi p.2]]) Try.func61 j9 iX rfl) (nh w21 a b p ‹_› ‹_› ‹_›) ?_))
  intro w23 hb24
  replace hb24:=aj hb24 g16
  refine ma (vb (decide (cA a b p))) (ai 0 (a8 (av (vs:=[vb (decide (cA a b p)),vi 0]) Try.func52 (.tmp rfl (.tmp rfl .nil)) ?_)))
  have e0:((decide (cA a b p)):Bool)=((db a b p).1):=by
    simp only[db,if_pos (⟨h1,h2,h3⟩:ck a/\ck b/\ck p)]
  have e1:(0:Int)=((db a b p).2):=by
    simp only[db,if_pos (⟨h1,h2,h3⟩:ck a/\ck b/\ck p)]
  have C25:=cg [] (ch2.n.seq (ch7.n.seq (ch12.n.seq (ch19.n.seq (hb22.n.seq hb24.n)))))
  replace bH:=bH.ca C25
  exact⟨(co (a:=(decide (cA a b p))) (b:=0) (λ(z0:Bool) (z1:Int)=>Ending.returned (vt [vb z0,vi z1])) e0 e1),bH.below⟩
 have hno:¬(ck a/\ck b/\ck p):=λh=>p1 (dt (wW.2 h))
 refine ae rfl (congrArg Bool.not (Bool.eq_false_iff.2 p1)) (a6 ?_)
 clear bx5 bx10 bx15 o20
 refine a5 rfl (ma (vb false) (ai 1 (a8 (av (vs:=[vb false,vi 1]) Try.func52 (.tmp rfl (.tmp rfl .nil)) ?_))))
 have e0:(false:Bool)=((db a b p).1):=by
   simp only[db,if_neg hno]
 have e1:(1:Int)=((db a b p).2):=by
   simp only[db,if_neg hno]
 have C26:=cg [] (ch2.n.seq (ch7.n.seq (ch12.n.seq (ch19.n.seq hb22.n))))
 replace bH:=bH.ca C26
 exact⟨(co (a:=false) (b:=1) (λ(z0:Bool) (z1:Int)=>Ending.returned (vt [vb z0,vi z1])) e0 e1),bH.below⟩
theorem tA(w0:World)(a:Pt)(b:Pt)(c:Pt)(d:Pt):
    Calls Try.prog 40 #[vg [vi a.1,vi a.2],vg [vi b.1,vi b.2],vg [vi c.1,vi c.2],vg [vi d.1,vi d.2]] w0 (λee w=>ee= .returned (vt [vi ((cS a b c d).1),vi ((cS a b c d).2)])/\cW w0.heap.size w0 w):=by
 refine aI Try.func40 rfl nq ?_
 have bH:=bo.start w0
 refine a6 (a5 rfl (cj rfl (bA c0 (is 1) (1,0) rfl rfl ?_)))
 intro g4 w1 b3 ch2 bx5
 replace bx5:Bx g4 (is 1) w1 b3 [vi a.1,vi a.2]:=bx5
 refine lo (bA g4 (is 2) (2,0) rfl rfl ?_)
 intro g9 w6 b8 ch7 bx10
 replace bx10:Bx g9 (is 2) w6 b8 [vi b.1,vi b.2]:=bx10
 refine lo (bA g9 (is 3) (3,0) rfl rfl ?_)
 intro g14 w11 b13 ch12 bx15
 replace bx15:Bx g14 (is 3) w11 b13 [vi c.1,vi c.2]:=bx15
 refine lo (bA g14 (is 4) (4,0) rfl rfl ?_)
 intro g19 w16 b18 ch17 bx20
 replace bx20:Bx g19 (is 4) w16 b18 [vi d.1,vi d.2]:=bx20
 refine ai 0 (ai 0 (a8 (a6 (a6 (a5 rfl ?_)))))
 have C21:=cg [] (ch7.n.seq (ch12.n.seq ch17.n))
 replace bx5:=bx5.ca C21
 refine lx (ad (ds:=[vi a.1,vi a.2]) ah rfl bx5 rfl rfl) ?_
 replace bx10:=(bx10.cn ch12).cn ch17
 refine lx (ad (ds:=[vi b.1,vi b.2]) ah rfl bx10 rfl rfl) ?_
 replace bx15:=bx15.cn ch17
 refine lx (ad (ds:=[vi c.1,vi c.2]) ah rfl bx15 rfl rfl) (lx (ad (ds:=[vi d.1,vi d.2]) ah rfl bx20 rfl rfl) (lo (aC (α:=Pt) g19 (is 5) (is 5) (5,0) rfl [a,b,c,d] bZ ah (by decide) (by decide) (vs:=[(0,vg [vi a.1,vi a.2]),(1,vg [vi b.1,vi b.2]),(2,vg [vi c.1,vi c.2]),(3,vg [vi d.1,vi d.2])]) rfl rfl (.cons rfl (.cons rfl (.cons rfl (.cons rfl .nil)))) ?_)))
 intro g22 w23 v24 ch25 o26
 refine lo (aN (v:=vb (decide (dy ([a,b,c,d])))) (az (vals:=[v24]) Try.func49 jW jY rfl) (jR w23 ([a,b,c,d]) v24 (o26.flat).ro) ?_)
 intro w27 hb28
 replace hb28:=aj hb28 g22
 refine lx (cm (b:=(decide (dy ([a,b,c,d])))) rfl) (a8 ?_)
 by_cases p1:(decide (dy ([a,b,c,d])))=true
 ·
  obtain⟨⟨h1,h2⟩,h3,h4⟩:=wF.1 (of_decide_eq_true p1)
  have k1:=h1.bd
  have k2:=h2.bd
  have k3:=h3.bd
  have k4:=h4.bd
  refine af rfl (congrArg Bool.not p1) (am (a6 ?_))
  clear o26
  refine a5 rfl ?_
  replace bx5:=(bx5.cn ch25).cn hb28
  refine lx (ad (ds:=[vi a.1,vi a.2]) ah rfl bx5 rfl rfl) ?_
  replace bx10:=(bx10.cn ch25).cn hb28
  refine lx (ad (ds:=[vi b.1,vi b.2]) ah rfl bx10 rfl rfl) ?_
  replace bx15:=(bx15.cn ch25).cn hb28
  refine lx (ad (ds:=[vi c.1,vi c.2]) ah rfl bx15 rfl rfl) ?_
  replace bx20:=(bx20.cn ch25).cn hb28
  refine lx (ad (ds:=[vi d.1,vi d.2]) ah rfl bx20 rfl rfl) (lo (aN (v:=vi (bL a b c d)) (az (vals:=[vg [vi a.1,vi a.2],vg [vi b.1,vi b.2],vg [vi c.1,vi c.2],vg [vi d.1,vi d.2]]) Try.func50 sL tm rfl) (sN w27 a b c d ‹_› ‹_› ‹_› ‹_›) ?_))
  intro w29 hb30
  replace hb30:=aj hb30 g22
  refine ai (bL a b c d) (ai 0 (a8 (av (vs:=[vi (bL a b c d),vi 0]) Try.func40 (.tmp rfl (.tmp rfl .nil)) ?_)))
  have e0:(bL a b c d:Int)=((cS a b c d).1):=by
    simp only[cS,if_pos (⟨⟨h1,h2⟩,h3,h4⟩:(ck a/\ck b)/\ck c/\ck d)]
  have e1:(0:Int)=((cS a b c d).2):=by
    simp only[cS,if_pos (⟨⟨h1,h2⟩,h3,h4⟩:(ck a/\ck b)/\ck c/\ck d)]
  have C31:=cg [] (ch2.n.seq (ch7.n.seq (ch12.n.seq (ch17.n.seq (ch25.n.seq (hb28.n.seq hb30.n))))))
  replace bH:=bH.ca C31
  exact⟨(co (a:=bL a b c d) (b:=0) (λ(z0:Int) (z1:Int)=>Ending.returned (vt [vi z0,vi z1])) e0 e1),bH.below⟩
 have hno:¬((ck a/\ck b)/\ck c/\ck d):=λh=>p1 (dt (wF.2 h))
 refine ae rfl (congrArg Bool.not (Bool.eq_false_iff.2 p1)) (a6 ?_)
 clear bx5 bx10 bx15 bx20 o26
 refine a5 rfl (ai 0 (ai 1 (a8 (av (vs:=[vi 0,vi 1]) Try.func40 (.tmp rfl (.tmp rfl .nil)) ?_))))
 have e0:(0:Int)=((cS a b c d).1):=by
   simp only[cS,if_neg hno]
 have e1:(1:Int)=((cS a b c d).2):=by
   simp only[cS,if_neg hno]
 have C32:=cg [] (ch2.n.seq (ch7.n.seq (ch12.n.seq (ch17.n.seq (ch25.n.seq hb28.n)))))
 replace bH:=bH.ca C32
 exact⟨(co (a:=0) (b:=1) (λ(z0:Int) (z1:Int)=>Ending.returned (vt [vi z0,vi z1])) e0 e1),bH.below⟩
end TL
