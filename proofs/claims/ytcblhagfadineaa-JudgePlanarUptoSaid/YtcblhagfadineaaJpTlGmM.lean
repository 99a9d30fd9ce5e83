import Derived.Test.YtcblhagfadineaaJpTlP4
import Derived.Test.YtcblhagfadineaaJpTlGmA
import Derived.Test.YtcblhagfadineaaJpTlGmL
import Derived.Test.YtcblhagfadineaaProg
import Derived.Test.YtcblhagfadineaaJpTlAli
set_option linter.all false
set_option maxRecDepth 20000
namespace TL
open Go Go.Proofs
theorem oL:Try.prog.follows .mixedOrders=true:=by kernel_rfl
theorem fA:Try.f33.body.isNone=false:=rfl
theorem fF:(Try.f33.name== "runtime.NumGoroutine")=false:=by decide+kernel
theorem qS:Try.f55.body.isNone=false:=rfl
theorem qJ:(Try.f55.name== "runtime.NumGoroutine")=false:=by decide+kernel
theorem xl:Try.f71.body.isNone=false:=rfl
theorem wh:(Try.f71.name== "runtime.NumGoroutine")=false:=by decide+kernel
theorem jk:Try.f72.body.isNone=false:=rfl
theorem jr:(Try.f72.name== "runtime.NumGoroutine")=false:=by decide+kernel
set_option maxHeartbeats 2000000 in
theorem qH(w0:World)(a:Pt)(b:Pt)(c:Pt)(d:Pt)(ha:fW a)(hb:fW b)(hc:fW c)(hd:fW d):
    Calls Try.prog 55 #[vg [vi a.1,vi a.2],vg [vi b.1,vi b.2],vg [vi c.1,vi c.2],vg [vi d.1,vi d.2]] w0 (λee w=>ee= .returned (vi (aZ a b c d))/\dd w0.heap.size w0 w):=by
 refine av Try.func55 rfl nq ?_
 have bH:=aX.start w0
 have k1:=la a b c
 have k2:=la a b d
 have k3:=la c d a
 have k4:=la c d b
 have m1:=gJ (x:=bz a b c) (y:=bz a b d) (by omega) (by omega)
 have m2:=gJ (x:=bz c d a) (y:=bz c d b) (by omega) (by omega)
 refine aa (a8 rfl (cj rfl (bj c0 (is 1) (1,0) rfl rfl ?_)))
 intro g4 w1 b3 ch2 bx5
 replace bx5:Bx g4 (is 1) w1 b3 [vi a.1,vi a.2]:=bx5
 refine lo (bj g4 (is 2) (2,0) rfl rfl ?_)
 intro g9 w6 b8 ch7 bx10
 replace bx10:Bx g9 (is 2) w6 b8 [vi b.1,vi b.2]:=bx10
 refine lo (bj g9 (is 3) (3,0) rfl rfl ?_)
 intro g14 w11 b13 ch12 bx15
 replace bx15:Bx g14 (is 3) w11 b13 [vi c.1,vi c.2]:=bx15
 refine lo (bj g14 (is 4) (4,0) rfl rfl ?_)
 intro g19 w16 b18 ch17 bx20
 replace bx20:Bx g19 (is 4) w16 b18 [vi d.1,vi d.2]:=bx20
 refine ai 0 (ab (aa (cD g19 rfl oL (by kernel_rfl) ?_)))
 intro w22 ch21
 have C23:=cg [] (ch7.n.seq (ch12.n.seq (ch17.n.seq ch21.n)))
 replace bx5:=bx5.ca C23
 refine qx (λw' hw'=>ak (ds:=[vi a.1,vi a.2]) ah rfl (bx5.bel hw') rfl rfl) ?_
 have C24:=cg [] (ch12.n.seq (ch17.n.seq ch21.n))
 replace bx10:=bx10.ca C24
 refine qx (λw' hw'=>ak (ds:=[vi b.1,vi b.2]) ah rfl (bx10.bel hw') rfl rfl) ?_
 replace bx15:=(bx15.cn ch17).cn ch21
 refine qx (λw' hw'=>ak (ds:=[vi c.1,vi c.2]) ah rfl (bx15.bel hw') rfl rfl) (eZ (v:=vi (bz a b c)) rfl (λw' hw'=>aA (vals:=[vg [vi a.1,vi a.2],vg [vi b.1,vi b.2],vg [vi c.1,vi c.2]]) Try.func70 ji jK rfl) (λw' hw'=>(jD w' a b c ‹_› ‹_› ‹_›).mono λe w2 h2=>⟨h2.1,hw'.trans (h2.2.mono hw'.size)⟩) (qx (λw' hw'=>ak (ds:=[vi a.1,vi a.2]) ah rfl (bx5.bel hw') rfl rfl) (qx (λw' hw'=>ak (ds:=[vi b.1,vi b.2]) ah rfl (bx10.bel hw') rfl rfl) ?_)))
 replace bx20:=bx20.cn ch21
 refine qx (λw' hw'=>ak (ds:=[vi d.1,vi d.2]) ah rfl (bx20.bel hw') rfl rfl) (eZ (v:=vi (bz a b d)) rfl (λw' hw'=>aA (vals:=[vg [vi a.1,vi a.2],vg [vi b.1,vi b.2],vg [vi d.1,vi d.2]]) Try.func70 ji jK rfl) (λw' hw'=>(jD w' a b d ‹_› ‹_› ‹_›).mono λe w2 h2=>⟨h2.1,hw'.trans (h2.2.mono hw'.size)⟩) (qv (vi (bz a b c)) (λw' hw'=>bS rfl) (qv (vi (bz a b d)) (λw' hw'=>bS rfl) (dH ?_))))
 intro w25 hc26
 replace hc26:=ar hc26 g19
 refine aa (cD g19 rfl oL (by kernel_rfl) ?_)
 intro w28 ch27
 replace bx15:=(bx15.cn hc26).cn ch27
 refine qx (λw' hw'=>ak (ds:=[vi c.1,vi c.2]) ah rfl (bx15.bel hw') rfl rfl) ?_
 replace bx20:=(bx20.cn hc26).cn ch27
 refine qx (λw' hw'=>ak (ds:=[vi d.1,vi d.2]) ah rfl (bx20.bel hw') rfl rfl) ?_
 replace bx5:=(bx5.cn hc26).cn ch27
 refine qx (λw' hw'=>ak (ds:=[vi a.1,vi a.2]) ah rfl (bx5.bel hw') rfl rfl) (eZ (v:=vi (bz c d a)) rfl (λw' hw'=>aA (vals:=[vg [vi c.1,vi c.2],vg [vi d.1,vi d.2],vg [vi a.1,vi a.2]]) Try.func70 ji jK rfl) (λw' hw'=>(jD w' c d a ‹_› ‹_› ‹_›).mono λe w2 h2=>⟨h2.1,hw'.trans (h2.2.mono hw'.size)⟩) (qx (λw' hw'=>ak (ds:=[vi c.1,vi c.2]) ah rfl (bx15.bel hw') rfl rfl) (qx (λw' hw'=>ak (ds:=[vi d.1,vi d.2]) ah rfl (bx20.bel hw') rfl rfl) ?_)))
 replace bx10:=(bx10.cn hc26).cn ch27
 refine qx (λw' hw'=>ak (ds:=[vi b.1,vi b.2]) ah rfl (bx10.bel hw') rfl rfl) (eZ (v:=vi (bz c d b)) rfl (λw' hw'=>aA (vals:=[vg [vi c.1,vi c.2],vg [vi d.1,vi d.2],vg [vi b.1,vi b.2]]) Try.func70 ji jK rfl) (λw' hw'=>(jD w' c d b ‹_› ‹_› ‹_›).mono λe w2 h2=>⟨h2.1,hw'.trans (h2.2.mono hw'.size)⟩) (qv (vi (bz c d a)) (λw' hw'=>bS rfl) (qv (vi (bz c d b)) (λw' hw'=>bS rfl) (dH ?_))))
 intro w29 hc30
 replace hc30:=ar hc30 g19
 refine aa (aq (aa ?_))
 refine pd [0,2,1] (σ:=aH) (λgq f w=>aX w0 gq w/\f 4=vp b3 0/\f 5=vp b8 0/\f 6=vp b13 0/\f 7=vp b18 0/\f 9=vi (bz a b c)/\f 10=vi (bz a b d)/\f 11=vi (bz c d a)/\f 12=vi (bz c d b)/\Bx gq (is 1) w b3 [vi a.1,vi a.2]/\Bx gq (is 2) w b8 [vi b.1,vi b.2]/\Bx gq (is 3) w b13 [vi c.1,vi c.2]/\Bx gq (is 4) w b18 [vi d.1,vi d.2]/\(¬(bz a b c=0/\bz a b d=0/\bz c d a=0/\bz c d b=0))) ?_ ?_
 ·
  intro mid_j1
  refine a8 rfl (mi (bz a b c) (lx (cq (m:=bz a b c) (n:=0) rfl rfl) (mv (vb (decide ((bz a b c)=0))) ?_)))
  by_cases q32:(bz a b c)=0
  ·
   refine lv (vi (bz a b d)) (wy (dt q32)) (aD rfl) (lv (vb (decide ((bz a b d)=0))) (wy (dt q32)) (cq (m:=bz a b d) (n:=0) rfl rfl) (lw (vb (decide ((bz a b d)=0))) (aE rfl (dt q32) rfl) (mv (vb (decide ((bz a b d)=0))) ?_)))
   by_cases q36:(bz a b d)=0
   ·
    refine lv (vi (bz c d a)) (wy (dt q36)) (aD rfl) (lv (vb (decide ((bz c d a)=0))) (wy (dt q36)) (cq (m:=bz c d a) (n:=0) rfl rfl) (lw (vb (decide ((bz c d a)=0))) (aE rfl (dt q36) rfl) (mv (vb (decide ((bz c d a)=0))) ?_)))
    by_cases q40:(bz c d a)=0
    ·
     refine lv (vi (bz c d b)) (wy (dt q40)) (aD rfl) (lv (vb (decide ((bz c d b)=0))) (wy (dt q40)) (cq (m:=bz c d b) (n:=0) rfl rfl) (lw (vb (decide ((bz c d b)=0))) (aE rfl (dt q40) rfl) (ma (vb (decide ((bz c d b)=0))) (ab ?_))))
     by_cases p3:(bz c d b)=0
     ·
      refine ag rfl (dt p3) (aa (a8 rfl ?_))
      replace bx5:=bx5.cn hc30
      refine lx (ak (ds:=[vi a.1,vi a.2]) ah rfl bx5 rfl rfl) ?_
      replace bx10:=bx10.cn hc30
      refine lx (ak (ds:=[vi b.1,vi b.2]) ah rfl bx10 rfl rfl) ?_
      replace bx15:=bx15.cn hc30
      refine lx (ak (ds:=[vi c.1,vi c.2]) ah rfl bx15 rfl rfl) ?_
      replace bx20:=bx20.cn hc30
      refine lx (ak (ds:=[vi d.1,vi d.2]) ah rfl bx20 rfl rfl) (lo (aK (v:=vi (fo a b c d)) (aA (vals:=[vg [vi a.1,vi a.2],vg [vi b.1,vi b.2],vg [vi c.1,vi c.2],vg [vi d.1,vi d.2]]) Try.func71 xl wh rfl) (vD w29 a b c d) ?_))
      intro w31 hb32
      replace hb32:=ar hb32 g19
      refine ai (fo a b c d) (ab (au (vs:=[vi (fo a b c d)]) Try.func55 (.tmp rfl .nil) ?_))
      have e0:(fo a b c d:Int)=(aZ a b c d):=by
        with_reducible exact pP ‹_› ‹_› ‹_› ‹_›
      have C33:=cg [] (ch2.n.seq (ch7.n.seq (ch12.n.seq (ch17.n.seq (ch21.n.seq (hc26.n.seq (ch27.n.seq (hc30.n.seq hb32.n))))))))
      replace bH:=bH.ca C33
      exact⟨ri e0,bH.below⟩
     refine aj rfl (df p3) (aa ?_)
     have C34:=cg [] (ch2.n.seq (ch7.n.seq (ch12.n.seq (ch17.n.seq (ch21.n.seq (hc26.n.seq (ch27.n.seq hc30.n)))))))
     refine mid_j1 (g19) _ _ ⟨bH.ca C34,rfl,rfl,rfl,rfl,rfl,rfl,rfl,rfl,bx5.cn hc30,bx10.cn hc30,bx15.cn hc30,bx20.cn hc30,?_⟩
     show¬(bz a b c=0/\bz a b d=0/\bz c d a=0/\bz c d b=0)
     (rintro⟨_,_,_,_⟩;contradiction)
    refine ae (wn (df q40)) (ae (wn (df q40)) (lw (vb false) (aC rfl (df q40) rfl) (ma (vb false) (ab (aj rfl rfl (aa ?_))))))
    have C35:=cg [] (ch2.n.seq (ch7.n.seq (ch12.n.seq (ch17.n.seq (ch21.n.seq (hc26.n.seq (ch27.n.seq hc30.n)))))))
    refine mid_j1 (g19) _ _ ⟨bH.ca C35,rfl,rfl,rfl,rfl,rfl,rfl,rfl,rfl,bx5.cn hc30,bx10.cn hc30,bx15.cn hc30,bx20.cn hc30,?_⟩
    show¬(bz a b c=0/\bz a b d=0/\bz c d a=0/\bz c d b=0)
    (rintro⟨_,_,_,_⟩;contradiction)
   refine ae (wn (df q36)) (ae (wn (df q36)) (lw (vb false) (aC rfl (df q36) rfl) (mv (vb false) (ae (wn rfl) (ae (wn rfl) (lw (vb false) (aC rfl rfl rfl) (ma (vb false) (ab (aj rfl rfl (aa ?_))))))))))
   have C36:=cg [] (ch2.n.seq (ch7.n.seq (ch12.n.seq (ch17.n.seq (ch21.n.seq (hc26.n.seq (ch27.n.seq hc30.n)))))))
   refine mid_j1 (g19) _ _ ⟨bH.ca C36,rfl,rfl,rfl,rfl,rfl,rfl,rfl,rfl,bx5.cn hc30,bx10.cn hc30,bx15.cn hc30,bx20.cn hc30,?_⟩
   show¬(bz a b c=0/\bz a b d=0/\bz c d a=0/\bz c d b=0)
   (rintro⟨_,_,_,_⟩;contradiction)
  refine ae (wn (df q32)) (ae (wn (df q32)) (lw (vb false) (aC rfl (df q32) rfl) (mv (vb false) (ae (wn rfl) (ae (wn rfl) (lw (vb false) (aC rfl rfl rfl) (mv (vb false) (ae (wn rfl) (ae (wn rfl) (lw (vb false) (aC rfl rfl rfl) (ma (vb false) ?_)))))))))))
  refine ab (aj rfl rfl (aa ?_))
  have C37:=cg [] (ch2.n.seq (ch7.n.seq (ch12.n.seq (ch17.n.seq (ch21.n.seq (hc26.n.seq (ch27.n.seq hc30.n)))))))
  refine mid_j1 (g19) _ _ ⟨bH.ca C37,rfl,rfl,rfl,rfl,rfl,rfl,rfl,rfl,bx5.cn hc30,bx10.cn hc30,bx15.cn hc30,bx20.cn hc30,?_⟩
  show¬(bz a b c=0/\bz a b d=0/\bz c d a=0/\bz c d b=0)
  (rintro⟨_,_,_,_⟩;contradiction)
 clear bx5 bx10 bx15 bx20 bH
 rintro g40 f38 w39 ⟨bH,z41_4,z41_5,z41_6,z41_7,z41_9,z41_10,z41_11,z41_12,bx5,bx10,bx15,bx20,hn1⟩
 refine pd [0,2,1] (σ:=aH) (λgq f w=>aX w0 gq w/\f 4=vp b3 0/\f 5=vp b8 0/\f 6=vp b13 0/\f 7=vp b18 0/\Bx gq (is 1) w b3 [vi a.1,vi a.2]/\Bx gq (is 2) w b8 [vi b.1,vi b.2]/\Bx gq (is 3) w b13 [vi c.1,vi c.2]/\Bx gq (is 4) w b18 [vi d.1,vi d.2]/\(¬(bz a b c*bz a b d<0/\bz c d a*bz c d b<0))) ?_ ?_
 ·
  intro mid_j2
  refine a8 rfl (mz z41_9 (mz z41_10 (lx (eK (m:=bz a b c) (n:=bz a b d) rfl rfl (by omega)) (lx (b6 (m:=(bz a b c)*(bz a b d)) (n:=0) rfl rfl) (mv (vb (decide (((bz a b c)*(bz a b d))<0))) ?_)))))
  by_cases q54:((bz a b c)*(bz a b d))<0
  ·
   refine lv (vi (bz c d a)) (wy (dt q54)) (aD z41_11) (lv (vi (bz c d b)) (wy (dt q54)) (aD z41_12) (lv (vi ((bz c d a)*(bz c d b))) (wy (dt q54)) (eK (m:=bz c d a) (n:=bz c d b) rfl rfl (by omega)) (lv (vb (decide (((bz c d a)*(bz c d b))<0))) (wy (dt q54)) (b6 (m:=(bz c d a)*(bz c d b)) (n:=0) rfl rfl) (lw (vb (decide (((bz c d a)*(bz c d b))<0))) (aE rfl (dt q54) rfl) (ma (vb (decide (((bz c d a)*(bz c d b))<0))) (ab ?_))))))
   by_cases p5:((bz c d a)*(bz c d b))<0
   ·
    refine ag rfl (dt p5) (aa ?_)
    clear bx5 bx10 bx15 bx20
    refine a8 rfl (ai 1 (ab (au (vs:=[vi 1]) Try.func55 (.tmp rfl .nil) ?_)))
    have e0:(1:Int)=(aZ a b c d):=by
      with_reducible exact nL ‹_› ‹_›
    exact⟨ri e0,bH.below⟩
   refine aj rfl (df p5) (aa ?_)
   refine mid_j2 (g40) _ _ ⟨bH,z41_4,z41_5,z41_6,z41_7,bx5,bx10,bx15,bx20,?_⟩
   show¬(bz a b c*bz a b d<0/\bz c d a*bz c d b<0)
   (rintro⟨_,_⟩;contradiction)
  refine ae (wn (df q54)) (ae (wn (df q54)) (ae (wn (df q54)) (ae (wn (df q54)) (lw (vb false) (aC rfl (df q54) rfl) (ma (vb false) (ab (aj rfl rfl (aa ?_))))))))
  refine mid_j2 (g40) _ _ ⟨bH,z41_4,z41_5,z41_6,z41_7,bx5,bx10,bx15,bx20,?_⟩
  show¬(bz a b c*bz a b d<0/\bz c d a*bz c d b<0)
  (rintro⟨_,_⟩;contradiction)
 clear bx5 bx10 bx15 bx20 bH
 rintro g44 f42 w43 ⟨bH,z45_4,z45_5,z45_6,z45_7,bx5,bx10,bx15,bx20,hn2⟩
 refine a8 rfl (lx (ak (ds:=[vi a.1,vi a.2]) ah z45_4 bx5 rfl rfl) (lx (ak (ds:=[vi b.1,vi b.2]) ah z45_5 bx10 rfl rfl) (lx (ak (ds:=[vi c.1,vi c.2]) ah z45_6 bx15 rfl rfl) (lo (aK (v:=vb (decide (dc a b c))) (aA (vals:=[vg [vi a.1,vi a.2],vg [vi b.1,vi b.2],vg [vi c.1,vi c.2]]) Try.func72 jk jr rfl) (oR w43 a b c ‹_› ‹_› ‹_›) ?_)))))
 intro w46 hb47
 replace hb47:=ar hb47 g44
 refine mv (vb (decide (dc a b c))) ?_
 by_cases q65:(decide (dc a b c))=true
 ·
  refine ae (wn q65) (ae (wn q65) (ae (wn q65) (ae (wn q65) (lw (vb true) (aE rfl q65 rfl) (mv (vb true) (ae (wn rfl) (ae (wn rfl) (ae (wn rfl) (ae (wn rfl) (lw (vb true) (aE rfl rfl rfl) (mv (vb true) (ae (wn rfl) (ae (wn rfl) (ae (wn rfl) (ae (wn rfl) (lw (vb true) (aE rfl rfl rfl) (ma (vb true) (ab ?_))))))))))))))))))
  refine ag rfl rfl (aa ?_)
  clear bx5 bx10 bx15 bx20
  refine a8 rfl (ai 2 (ab (au (vs:=[vi 2]) Try.func55 (.tmp rfl .nil) ?_)))
  have e0:(2:Int)=(aZ a b c d):=by
    ((with_reducible (refine fZ ?_ ?_ (by exact o1 ‹_›)))<;>(assumption))
  replace bH:=bH.cn hb47
  exact⟨ri e0,bH.below⟩
 replace bx5:=bx5.cn hb47
 refine lv (vg [vi a.1,vi a.2]) (wy (Bool.eq_false_iff.2 q65)) (ak (ds:=[vi a.1,vi a.2]) ah z45_4 bx5 rfl rfl) ?_
 replace bx10:=bx10.cn hb47
 refine lv (vg [vi b.1,vi b.2]) (wy (Bool.eq_false_iff.2 q65)) (ak (ds:=[vi b.1,vi b.2]) ah z45_5 bx10 rfl rfl) ?_
 replace bx20:=bx20.cn hb47
 refine lv (vg [vi d.1,vi d.2]) (wy (Bool.eq_false_iff.2 q65)) (ak (ds:=[vi d.1,vi d.2]) ah z45_7 bx20 rfl rfl) (cj (wy (Bool.eq_false_iff.2 q65)) (aK (v:=vb (decide (dc a b d))) (aA (vals:=[vg [vi a.1,vi a.2],vg [vi b.1,vi b.2],vg [vi d.1,vi d.2]]) Try.func72 jk jr rfl) (oR w46 a b d ‹_› ‹_› ‹_›) ?_))
 intro w48 hb49
 replace hb49:=ar hb49 g44
 refine lw (vb (decide (dc a b d))) (aC rfl (Bool.eq_false_iff.2 q65) rfl) (mv (vb (decide (dc a b d))) ?_)
 by_cases q71:(decide (dc a b d))=true
 ·
  refine ae (wn q71) (ae (wn q71) (ae (wn q71) (ae (wn q71) (lw (vb true) (aE rfl q71 rfl) (mv (vb true) (ae (wn rfl) (ae (wn rfl) (ae (wn rfl) (ae (wn rfl) (lw (vb true) (aE rfl rfl rfl) (ma (vb true) (ab (ag rfl rfl (aa ?_))))))))))))))
  clear bx5 bx10 bx15 bx20
  refine a8 rfl (ai 2 (ab (au (vs:=[vi 2]) Try.func55 (.tmp rfl .nil) ?_)))
  have e0:(2:Int)=(aZ a b c d):=by
    ((with_reducible (refine fZ ?_ ?_ (by exact o2 ‹_›)))<;>(assumption))
  replace bH:=bH.cn hb47
  replace bH:=bH.cn hb49
  exact⟨ri e0,bH.below⟩
 replace bx15:=(bx15.cn hb47).cn hb49
 refine lv (vg [vi c.1,vi c.2]) (wy (Bool.eq_false_iff.2 q71)) (ak (ds:=[vi c.1,vi c.2]) ah z45_6 bx15 rfl rfl) ?_
 replace bx20:=bx20.cn hb49
 refine lv (vg [vi d.1,vi d.2]) (wy (Bool.eq_false_iff.2 q71)) (ak (ds:=[vi d.1,vi d.2]) ah z45_7 bx20 rfl rfl) ?_
 replace bx5:=bx5.cn hb49
 refine lv (vg [vi a.1,vi a.2]) (wy (Bool.eq_false_iff.2 q71)) (ak (ds:=[vi a.1,vi a.2]) ah z45_4 bx5 rfl rfl) (cj (wy (Bool.eq_false_iff.2 q71)) (aK (v:=vb (decide (dc c d a))) (aA (vals:=[vg [vi c.1,vi c.2],vg [vi d.1,vi d.2],vg [vi a.1,vi a.2]]) Try.func72 jk jr rfl) (oR w48 c d a ‹_› ‹_› ‹_›) ?_))
 intro w50 hb51
 replace hb51:=ar hb51 g44
 refine lw (vb (decide (dc c d a))) (aC rfl (Bool.eq_false_iff.2 q71) rfl) (mv (vb (decide (dc c d a))) ?_)
 by_cases q77:(decide (dc c d a))=true
 ·
  refine ae (wn q77) (ae (wn q77) (ae (wn q77) (ae (wn q77) (lw (vb true) (aE rfl q77 rfl) (ma (vb true) (ab (ag rfl rfl (aa ?_))))))))
  clear bx5 bx10 bx15 bx20
  refine a8 rfl (ai 2 (ab (au (vs:=[vi 2]) Try.func55 (.tmp rfl .nil) ?_)))
  have e0:(2:Int)=(aZ a b c d):=by
    ((with_reducible (refine fZ ?_ ?_ (by exact o3 ‹_›)))<;>(assumption))
  have C52:=cg [] (hb47.n.seq (hb49.n.seq hb51.n))
  replace bH:=bH.ca C52
  exact⟨ri e0,bH.below⟩
 replace bx15:=bx15.cn hb51
 refine lv (vg [vi c.1,vi c.2]) (wy (Bool.eq_false_iff.2 q77)) (ak (ds:=[vi c.1,vi c.2]) ah z45_6 bx15 rfl rfl) ?_
 replace bx20:=bx20.cn hb51
 refine lv (vg [vi d.1,vi d.2]) (wy (Bool.eq_false_iff.2 q77)) (ak (ds:=[vi d.1,vi d.2]) ah z45_7 bx20 rfl rfl) ?_
 replace bx10:=(bx10.cn hb49).cn hb51
 refine lv (vg [vi b.1,vi b.2]) (wy (Bool.eq_false_iff.2 q77)) (ak (ds:=[vi b.1,vi b.2]) ah z45_5 bx10 rfl rfl) (cj (wy (Bool.eq_false_iff.2 q77)) (aK (v:=vb (decide (dc c d b))) (aA (vals:=[vg [vi c.1,vi c.2],vg [vi d.1,vi d.2],vg [vi b.1,vi b.2]]) Try.func72 jk jr rfl) (oR w50 c d b ‹_› ‹_› ‹_›) ?_))
 intro w53 hb54
 replace hb54:=ar hb54 g44
 refine lw (vb (decide (dc c d b))) (aC rfl (Bool.eq_false_iff.2 q77) rfl) (ma (vb (decide (dc c d b))) (ab ?_))
 by_cases p7:(decide (dc c d b))=true
 ·
  refine ag rfl p7 (aa ?_)
  clear bx5 bx10 bx15 bx20
  refine a8 rfl (ai 2 (ab (au (vs:=[vi 2]) Try.func55 (.tmp rfl .nil) ?_)))
  have e0:(2:Int)=(aZ a b c d):=by
    ((with_reducible (refine fZ ?_ ?_ (by exact o4 ‹_›)))<;>(assumption))
  have C55:=cg [] (hb47.n.seq (hb49.n.seq (hb51.n.seq hb54.n)))
  replace bH:=bH.ca C55
  exact⟨ri e0,bH.below⟩
 refine aj rfl (Bool.eq_false_iff.2 p7) (am (ao (aa ?_)))
 clear bx5 bx10 bx15 bx20
 refine a8 rfl (ai 0 (ab (au (vs:=[vi 0]) Try.func55 (.tmp rfl .nil) ?_)))
 have e0:(0:Int)=(aZ a b c d):=by
   ((with_reducible (refine oZ ?_ ?_ (o5 ‹_› ‹_› ‹_› ‹_›)))<;>(assumption))
 have C56:=cg [] (hb47.n.seq (hb49.n.seq (hb51.n.seq hb54.n)))
 replace bH:=bH.ca C56
 exact⟨ri e0,bH.below⟩
theorem ld(w0:World)(a:Pt)(b:Pt)(p:Pt):
    Calls Try.prog 57 #[vg [vi a.1,vi a.2],vg [vi b.1,vi b.2],vg [vi p.1,vi p.2]] w0 (λee w=>ee= .returned (vt [vb ((eO a b p).1),vi ((eO a b p).2)])/\dd w0.heap.size w0 w):=by
 refine av Try.func57 rfl nq ?_
 have bH:=aX.start w0
 refine aa (a8 rfl (cj rfl (bj c0 (is 1) (1,0) rfl rfl ?_)))
 intro g4 w1 b3 ch2 bx5
 replace bx5:Bx g4 (is 1) w1 b3 [vi a.1,vi a.2]:=bx5
 refine lo (bj g4 (is 2) (2,0) rfl rfl ?_)
 intro g9 w6 b8 ch7 bx10
 replace bx10:Bx g9 (is 2) w6 b8 [vi b.1,vi b.2]:=bx10
 refine lo (bj g9 (is 3) (3,0) rfl rfl ?_)
 intro g14 w11 b13 ch12 bx15
 replace bx15:Bx g14 (is 3) w11 b13 [vi p.1,vi p.2]:=bx15
 refine ma (vb false) (ai 0 (ab (aa (aa (a8 rfl ?_)))))
 replace bx5:=(bx5.cn ch7).cn ch12
 refine lx (ak (ds:=[vi a.1,vi a.2]) ah rfl bx5 rfl rfl) ?_
 replace bx10:=bx10.cn ch12
 refine lx (ak (ds:=[vi b.1,vi b.2]) ah rfl bx10 rfl rfl) (lx (ak (ds:=[vi p.1,vi p.2]) ah rfl bx15 rfl rfl) (lo (aF (α:=Pt) g14 (is 4) (is 4) (4,0) rfl [a,b,p] cX ah (by decide) (by decide) (vs:=[(0,vg [vi a.1,vi a.2]),(1,vg [vi b.1,vi b.2]),(2,vg [vi p.1,vi p.2])]) rfl rfl (.cons rfl (.cons rfl (.cons rfl .nil))) ?_)))
 intro g16 w17 v18 ch19 o20
 refine lo (aK (v:=vb (decide (dW ([a,b,p])))) (aA (vals:=[v18]) Try.func33 fA fF rfl) (fC w17 ([a,b,p]) v18 (o20.flat).ro) ?_)
 intro w21 hb22
 replace hb22:=ar hb22 g16
 refine lx (dj (b:=(decide (dW ([a,b,p])))) rfl) (ab ?_)
 by_cases p1:(decide (dW ([a,b,p])))=true
 ·
  obtain⟨h1,h2,h3⟩:=zE.1 (of_decide_eq_true p1)
  have k1:=h1.bd
  have k2:=h2.bd
  have k3:=h3.bd
  refine aj rfl (congrArg Bool.not p1) (am (aa ?_))
  clear o20
  refine a8 rfl ?_
  replace bx5:=(bx5.cn ch19).cn hb22
  refine lx (ak (ds:=[vi a.1,vi a.2]) ah rfl bx5 rfl rfl) ?_
  replace bx10:=(bx10.cn ch19).cn hb22
  refine lx (ak (ds:=[vi b.1,vi b.2]) ah rfl bx10 rfl rfl) ?_
  replace bx15:=(bx15.cn ch19).cn hb22
  refine lx (ak (ds:=[vi p.1,vi p.2]) ah rfl bx15 rfl rfl) (lo (aK (v:=vb (decide (dc a b p))) (aA (vals:=[vg [vi a.1,vi a.2],vg [vi b.1,vi b.2],vg [vi p.1,vi p.2]]) Try.func72 jk jr rfl) (oR w21 a b p ‹_› ‹_› ‹_›) ?_))
  intro w23 hb24
  replace hb24:=ar hb24 g16
  refine ma (vb (decide (dc a b p))) (ai 0 (ab (au (vs:=[vb (decide (dc a b p)),vi 0]) Try.func57 (.tmp rfl (.tmp rfl .nil)) ?_)))
  have e0:((decide (dc a b p)):Bool)=((eO a b p).1):=by
    simp only[eO,if_pos (⟨h1,h2,h3⟩:cI a/\cI b/\cI p)]
  have e1:(0:Int)=((eO a b p).2):=by
    simp only[eO,if_pos (⟨h1,h2,h3⟩:cI a/\cI b/\cI p)]
  have C25:=cg [] (ch2.n.seq (ch7.n.seq (ch12.n.seq (ch19.n.seq (hb22.n.seq hb24.n)))))
  replace bH:=bH.ca C25
  exact⟨(bV (a:=(decide (dc a b p))) (b:=0) (λ(z0:Bool) (z1:Int)=>Ending.returned (vt [vb z0,vi z1])) e0 e1),bH.below⟩
 have hno:¬(cI a/\cI b/\cI p):=λh=>p1 (dt (zE.2 h))
 refine ag rfl (congrArg Bool.not (Bool.eq_false_iff.2 p1)) (aa ?_)
 clear bx5 bx10 bx15 o20
 refine a8 rfl (ma (vb false) (ai 1 (ab (au (vs:=[vb false,vi 1]) Try.func57 (.tmp rfl (.tmp rfl .nil)) ?_))))
 have e0:(false:Bool)=((eO a b p).1):=by
   simp only[eO,if_neg hno]
 have e1:(1:Int)=((eO a b p).2):=by
   simp only[eO,if_neg hno]
 have C26:=cg [] (ch2.n.seq (ch7.n.seq (ch12.n.seq (ch19.n.seq hb22.n))))
 replace bH:=bH.ca C26
 exact⟨(bV (a:=false) (b:=1) (λ(z0:Bool) (z1:Int)=>Ending.returned (vt [vb z0,vi z1])) e0 e1),bH.below⟩
theorem wz(w0:World)(a:Pt)(b:Pt)(c:Pt)(d:Pt):
    Calls Try.prog 74 #[vg [vi a.1,vi a.2],vg [vi b.1,vi b.2],vg [vi c.1,vi c.2],vg [vi d.1,vi d.2]] w0 (λee w=>ee= .returned (vt [vi ((db a b c d).1),vi ((db a b c d).2)])/\dd w0.heap.size w0 w):=by
 refine av Try.func74 rfl nq ?_
 have bH:=aX.start w0
 refine aa (a8 rfl (cj rfl (bj c0 (is 1) (1,0) rfl rfl ?_)))
 intro g4 w1 b3 ch2 bx5
 replace bx5:Bx g4 (is 1) w1 b3 [vi a.1,vi a.2]:=bx5
 refine lo (bj g4 (is 2) (2,0) rfl rfl ?_)
 intro g9 w6 b8 ch7 bx10
 replace bx10:Bx g9 (is 2) w6 b8 [vi b.1,vi b.2]:=bx10
 refine lo (bj g9 (is 3) (3,0) rfl rfl ?_)
 intro g14 w11 b13 ch12 bx15
 replace bx15:Bx g14 (is 3) w11 b13 [vi c.1,vi c.2]:=bx15
 refine lo (bj g14 (is 4) (4,0) rfl rfl ?_)
 intro g19 w16 b18 ch17 bx20
 replace bx20:Bx g19 (is 4) w16 b18 [vi d.1,vi d.2]:=bx20
 refine ai 0 (ai 0 (ab (aa (aa (a8 rfl ?_)))))
 have C21:=cg [] (ch7.n.seq (ch12.n.seq ch17.n))
 replace bx5:=bx5.ca C21
 refine lx (ak (ds:=[vi a.1,vi a.2]) ah rfl bx5 rfl rfl) ?_
 replace bx10:=(bx10.cn ch12).cn ch17
 refine lx (ak (ds:=[vi b.1,vi b.2]) ah rfl bx10 rfl rfl) ?_
 replace bx15:=bx15.cn ch17
 refine lx (ak (ds:=[vi c.1,vi c.2]) ah rfl bx15 rfl rfl) (lx (ak (ds:=[vi d.1,vi d.2]) ah rfl bx20 rfl rfl) (lo (aF (α:=Pt) g19 (is 5) (is 5) (5,0) rfl [a,b,c,d] cX ah (by decide) (by decide) (vs:=[(0,vg [vi a.1,vi a.2]),(1,vg [vi b.1,vi b.2]),(2,vg [vi c.1,vi c.2]),(3,vg [vi d.1,vi d.2])]) rfl rfl (.cons rfl (.cons rfl (.cons rfl (.cons rfl .nil)))) ?_)))
 intro g22 w23 v24 ch25 o26
 refine lo (aK (v:=vb (decide (dW ([a,b,c,d])))) (aA (vals:=[v24]) Try.func33 fA fF rfl) (fC w23 ([a,b,c,d]) v24 (o26.flat).ro) ?_)
 intro w27 hb28
 replace hb28:=ar hb28 g22
 refine lx (dj (b:=(decide (dW ([a,b,c,d])))) rfl) (ab ?_)
 by_cases p1:(decide (dW ([a,b,c,d])))=true
 ·
  obtain⟨⟨h1,h2⟩,h3,h4⟩:=zQ.1 (of_decide_eq_true p1)
  have k1:=h1.bd
  have k2:=h2.bd
  have k3:=h3.bd
  have k4:=h4.bd
  refine aj rfl (congrArg Bool.not p1) (am (aa ?_))
  clear o26
  refine a8 rfl ?_
  replace bx5:=(bx5.cn ch25).cn hb28
  refine lx (ak (ds:=[vi a.1,vi a.2]) ah rfl bx5 rfl rfl) ?_
  replace bx10:=(bx10.cn ch25).cn hb28
  refine lx (ak (ds:=[vi b.1,vi b.2]) ah rfl bx10 rfl rfl) ?_
  replace bx15:=(bx15.cn ch25).cn hb28
  refine lx (ak (ds:=[vi c.1,vi c.2]) ah rfl bx15 rfl rfl) ?_
  replace bx20:=(bx20.cn ch25).cn hb28
  refine lx (ak (ds:=[vi d.1,vi d.2]) ah rfl bx20 rfl rfl) (lo (aK (v:=vi (aZ a b c d)) (aA (vals:=[vg [vi a.1,vi a.2],vg [vi b.1,vi b.2],vg [vi c.1,vi c.2],vg [vi d.1,vi d.2]]) Try.func55 qS qJ rfl) (qH w27 a b c d ‹_› ‹_› ‹_› ‹_›) ?_))
  intro w29 hb30
  replace hb30:=ar hb30 g22
  refine ai (aZ a b c d) (ai 0 (ab (au (vs:=[vi (aZ a b c d),vi 0]) Try.func74 (.tmp rfl (.tmp rfl .nil)) ?_)))
  have e0:(aZ a b c d:Int)=((db a b c d).1):=by
    simp only[db,if_pos (⟨⟨h1,h2⟩,h3,h4⟩:(cI a/\cI b)/\cI c/\cI d)]
  have e1:(0:Int)=((db a b c d).2):=by
    simp only[db,if_pos (⟨⟨h1,h2⟩,h3,h4⟩:(cI a/\cI b)/\cI c/\cI d)]
  have C31:=cg [] (ch2.n.seq (ch7.n.seq (ch12.n.seq (ch17.n.seq (ch25.n.seq (hb28.n.seq hb30.n))))))
  replace bH:=bH.ca C31
  exact⟨(bV (a:=aZ a b c d) (b:=0) (λ(z0:Int) (z1:Int)=>Ending.returned (vt [vi z0,vi z1])) e0 e1),bH.below⟩
 have hno:¬((cI a/\cI b)/\cI c/\cI d):=λh=>p1 (dt (zQ.2 h))
 refine ag rfl (congrArg Bool.not (Bool.eq_false_iff.2 p1)) (aa ?_)
 clear bx5 bx10 bx15 bx20 o26
 refine a8 rfl (ai 0 (ai 1 (ab (au (vs:=[vi 0,vi 1]) Try.func74 (.tmp rfl (.tmp rfl .nil)) ?_))))
 have e0:(0:Int)=((db a b c d).1):=by
   simp only[db,if_neg hno]
 have e1:(1:Int)=((db a b c d).2):=by
   simp only[db,if_neg hno]
 have C32:=cg [] (ch2.n.seq (ch7.n.seq (ch12.n.seq (ch17.n.seq (ch25.n.seq hb28.n)))))
 replace bH:=bH.ca C32
 exact⟨(bV (a:=0) (b:=1) (λ(z0:Int) (z1:Int)=>Ending.returned (vt [vi z0,vi z1])) e0 e1),bH.below⟩
end TL
