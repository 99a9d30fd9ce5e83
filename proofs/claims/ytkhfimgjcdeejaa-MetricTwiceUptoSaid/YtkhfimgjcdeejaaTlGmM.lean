import Derived.Test.YtkhfimgjcdeejaaTlP2
import Derived.Test.YtkhfimgjcdeejaaTlGmA
import Derived.Test.YtkhfimgjcdeejaaTlGmL
import Derived.Test.YtkhfimgjcdeejaaProg
import Derived.Test.YtkhfimgjcdeejaaTlAli
set_option linter.all false
set_option maxRecDepth 20000
namespace TL
open Go Go.Proofs
theorem ku:Try.prog.follows .mixedOrders=true:=by kernel_rfl
theorem i2:Try.f49.body.isNone=false:=rfl
theorem i4:(Try.f49.name== "runtime.NumGoroutine")=false:=by decide+kernel
theorem oT:Try.f50.body.isNone=false:=rfl
theorem pW:(Try.f50.name== "runtime.NumGoroutine")=false:=by decide+kernel
theorem pT:Try.f60.body.isNone=false:=rfl
theorem qg:(Try.f60.name== "runtime.NumGoroutine")=false:=by decide+kernel
theorem gC:Try.f61.body.isNone=false:=rfl
theorem g5:(Try.f61.name== "runtime.NumGoroutine")=false:=by decide+kernel
set_option maxHeartbeats 2000000 in
theorem oY(w0:World)(a:Pt)(b:Pt)(c:Pt)(d:Pt)(ha:jO a)(hb:jO b)(hc:jO c)(hd:jO d):
    Calls Try.prog 50 #[vg [vi a.1,vi a.2],vg [vi b.1,vi b.2],vg [vi c.1,vi c.2],vg [vi d.1,vi d.2]] w0 (λee w=>ee= .returned (vi (bX a b c d))/\cG w0.heap.size w0 w):=by
 refine aK Try.func50 rfl nq ?_
 have bH:=bu.start w0
 have k1:=i1 a b c
 have k2:=i1 a b d
 have k3:=i1 c d a
 have k4:=i1 c d b
 have m1:=jd (x:=bN a b c) (y:=bN a b d) (by omega) (by omega)
 have m2:=jd (x:=bN c d a) (y:=bN c d b) (by omega) (by omega)
 refine a8 (a7 rfl (cN rfl (bC c0 (is 1) (1,0) rfl rfl ?_)))
 intro g4 w1 b3 ch2 bx5
 replace bx5:Bx g4 (is 1) w1 b3 [vi a.1,vi a.2]:=bx5
 refine lo (bC g4 (is 2) (2,0) rfl rfl ?_)
 intro g9 w6 b8 ch7 bx10
 replace bx10:Bx g9 (is 2) w6 b8 [vi b.1,vi b.2]:=bx10
 refine lo (bC g9 (is 3) (3,0) rfl rfl ?_)
 intro g14 w11 b13 ch12 bx15
 replace bx15:Bx g14 (is 3) w11 b13 [vi c.1,vi c.2]:=bx15
 refine lo (bC g14 (is 4) (4,0) rfl rfl ?_)
 intro g19 w16 b18 ch17 bx20
 replace bx20:Bx g19 (is 4) w16 b18 [vi d.1,vi d.2]:=bx20
 refine ai 0 (ab (a8 (bq g19 rfl ku (by kernel_rfl) ?_)))
 intro w22 ch21
 have C23:=cg [] (ch7.n.seq (ch12.n.seq (ch17.n.seq ch21.n)))
 replace bx5:=bx5.ca C23
 refine qx (λw' hw'=>ae (ds:=[vi a.1,vi a.2]) aj rfl (bx5.bel hw') rfl rfl) ?_
 have C24:=cg [] (ch12.n.seq (ch17.n.seq ch21.n))
 replace bx10:=bx10.ca C24
 refine qx (λw' hw'=>ae (ds:=[vi b.1,vi b.2]) aj rfl (bx10.bel hw') rfl rfl) ?_
 replace bx15:=(bx15.cn ch17).cn ch21
 refine qx (λw' hw'=>ae (ds:=[vi c.1,vi c.2]) aj rfl (bx15.bel hw') rfl rfl) (cv (v:=vi (bN a b c)) rfl (λw' hw'=>aG (vals:=[vg [vi a.1,vi a.2],vg [vi b.1,vi b.2],vg [vi c.1,vi c.2]]) Try.func59 gE gj rfl) (λw' hw'=>(gy w' a b c ‹_› ‹_› ‹_›).mono λe w2 h2=>⟨h2.1,hw'.trans (h2.2.mono hw'.size)⟩) (qx (λw' hw'=>ae (ds:=[vi a.1,vi a.2]) aj rfl (bx5.bel hw') rfl rfl) (qx (λw' hw'=>ae (ds:=[vi b.1,vi b.2]) aj rfl (bx10.bel hw') rfl rfl) ?_)))
 replace bx20:=bx20.cn ch21
 refine qx (λw' hw'=>ae (ds:=[vi d.1,vi d.2]) aj rfl (bx20.bel hw') rfl rfl) (cv (v:=vi (bN a b d)) rfl (λw' hw'=>aG (vals:=[vg [vi a.1,vi a.2],vg [vi b.1,vi b.2],vg [vi d.1,vi d.2]]) Try.func59 gE gj rfl) (λw' hw'=>(gy w' a b d ‹_› ‹_› ‹_›).mono λe w2 h2=>⟨h2.1,hw'.trans (h2.2.mono hw'.size)⟩) (qv (vi (bN a b c)) (λw' hw'=>bw rfl) (qv (vi (bN a b d)) (λw' hw'=>bw rfl) (bT ?_))))
 intro w25 hc26
 replace hc26:=am hc26 g19
 refine a8 (bq g19 rfl ku (by kernel_rfl) ?_)
 intro w28 ch27
 replace bx15:=(bx15.cn hc26).cn ch27
 refine qx (λw' hw'=>ae (ds:=[vi c.1,vi c.2]) aj rfl (bx15.bel hw') rfl rfl) ?_
 replace bx20:=(bx20.cn hc26).cn ch27
 refine qx (λw' hw'=>ae (ds:=[vi d.1,vi d.2]) aj rfl (bx20.bel hw') rfl rfl) ?_
 replace bx5:=(bx5.cn hc26).cn ch27
 refine qx (λw' hw'=>ae (ds:=[vi a.1,vi a.2]) aj rfl (bx5.bel hw') rfl rfl) (cv (v:=vi (bN c d a)) rfl (λw' hw'=>aG (vals:=[vg [vi c.1,vi c.2],vg [vi d.1,vi d.2],vg [vi a.1,vi a.2]]) Try.func59 gE gj rfl) (λw' hw'=>(gy w' c d a ‹_› ‹_› ‹_›).mono λe w2 h2=>⟨h2.1,hw'.trans (h2.2.mono hw'.size)⟩) (qx (λw' hw'=>ae (ds:=[vi c.1,vi c.2]) aj rfl (bx15.bel hw') rfl rfl) (qx (λw' hw'=>ae (ds:=[vi d.1,vi d.2]) aj rfl (bx20.bel hw') rfl rfl) ?_)))
 replace bx10:=(bx10.cn hc26).cn ch27
 refine qx (λw' hw'=>ae (ds:=[vi b.1,vi b.2]) aj rfl (bx10.bel hw') rfl rfl) (cv (v:=vi (bN c d b)) rfl (λw' hw'=>aG (vals:=[vg [vi c.1,vi c.2],vg [vi d.1,vi d.2],vg [vi b.1,vi b.2]]) Try.func59 gE gj rfl) (λw' hw'=>(gy w' c d b ‹_› ‹_› ‹_›).mono λe w2 h2=>⟨h2.1,hw'.trans (h2.2.mono hw'.size)⟩) (qv (vi (bN c d a)) (λw' hw'=>bw rfl) (qv (vi (bN c d b)) (λw' hw'=>bw rfl) (bT ?_))))
 intro w29 hc30
 replace hc30:=am hc30 g19
 refine a8 (aC (a8 ?_))
 refine jT [0,2,1] (σ:=aV) (λgq f w=>bu w0 gq w/\f 4=vp b3 0/\f 5=vp b8 0/\f 6=vp b13 0/\f 7=vp b18 0/\f 9=vi (bN a b c)/\f 10=vi (bN a b d)/\f 11=vi (bN c d a)/\f 12=vi (bN c d b)/\Bx gq (is 1) w b3 [vi a.1,vi a.2]/\Bx gq (is 2) w b8 [vi b.1,vi b.2]/\Bx gq (is 3) w b13 [vi c.1,vi c.2]/\Bx gq (is 4) w b18 [vi d.1,vi d.2]/\(¬(bN a b c=0/\bN a b d=0/\bN c d a=0/\bN c d b=0))) ?_ ?_
 ·
  intro mid_j1
  refine a7 rfl (mi (bN a b c) (lx (d7 (m:=bN a b c) (n:=0) rfl rfl) (mv (vb (decide ((bN a b c)=0))) ?_)))
  by_cases q32:(bN a b c)=0
  ·
   refine lv (vi (bN a b d)) (wy (dt q32)) (aR rfl) (lv (vb (decide ((bN a b d)=0))) (wy (dt q32)) (d7 (m:=bN a b d) (n:=0) rfl rfl) (lw (vb (decide ((bN a b d)=0))) (aM rfl (dt q32) rfl) (mv (vb (decide ((bN a b d)=0))) ?_)))
   by_cases q36:(bN a b d)=0
   ·
    refine lv (vi (bN c d a)) (wy (dt q36)) (aR rfl) (lv (vb (decide ((bN c d a)=0))) (wy (dt q36)) (d7 (m:=bN c d a) (n:=0) rfl rfl) (lw (vb (decide ((bN c d a)=0))) (aM rfl (dt q36) rfl) (mv (vb (decide ((bN c d a)=0))) ?_)))
    by_cases q40:(bN c d a)=0
    ·
     refine lv (vi (bN c d b)) (wy (dt q40)) (aR rfl) (lv (vb (decide ((bN c d b)=0))) (wy (dt q40)) (d7 (m:=bN c d b) (n:=0) rfl rfl) (lw (vb (decide ((bN c d b)=0))) (aM rfl (dt q40) rfl) (ma (vb (decide ((bN c d b)=0))) (ab ?_))))
     by_cases p3:(bN c d b)=0
     ·
      refine ag rfl (dt p3) (a8 (a7 rfl ?_))
      replace bx5:=bx5.cn hc30
      refine lx (ae (ds:=[vi a.1,vi a.2]) aj rfl bx5 rfl rfl) ?_
      replace bx10:=bx10.cn hc30
      refine lx (ae (ds:=[vi b.1,vi b.2]) aj rfl bx10 rfl rfl) ?_
      replace bx15:=bx15.cn hc30
      refine lx (ae (ds:=[vi c.1,vi c.2]) aj rfl bx15 rfl rfl) ?_
      replace bx20:=bx20.cn hc30
      refine lx (ae (ds:=[vi d.1,vi d.2]) aj rfl bx20 rfl rfl) (lo (aP (v:=vi (du a b c d)) (aG (vals:=[vg [vi a.1,vi a.2],vg [vi b.1,vi b.2],vg [vi c.1,vi c.2],vg [vi d.1,vi d.2]]) Try.func60 pT qg rfl) (oU w29 a b c d) ?_))
      intro w31 hb32
      replace hb32:=am hb32 g19
      refine ai (du a b c d) (ab (aw (vs:=[vi (du a b c d)]) Try.func50 (.tmp rfl .nil) ?_))
      have e0:(du a b c d:Int)=(bX a b c d):=by
        with_reducible exact l9 ‹_› ‹_› ‹_› ‹_›
      have C33:=cg [] (ch2.n.seq (ch7.n.seq (ch12.n.seq (ch17.n.seq (ch21.n.seq (hc26.n.seq (ch27.n.seq (hc30.n.seq hb32.n))))))))
      replace bH:=bH.ca C33
      exact⟨ri e0,bH.below⟩
     refine ah rfl (df p3) (a8 ?_)
     have C34:=cg [] (ch2.n.seq (ch7.n.seq (ch12.n.seq (ch17.n.seq (ch21.n.seq (hc26.n.seq (ch27.n.seq hc30.n)))))))
     refine mid_j1 (g19) _ _ ⟨bH.ca C34,rfl,rfl,rfl,rfl,rfl,rfl,rfl,rfl,bx5.cn hc30,bx10.cn hc30,bx15.cn hc30,bx20.cn hc30,?_⟩
     show¬(bN a b c=0/\bN a b d=0/\bN c d a=0/\bN c d b=0)
     (rintro⟨_,_,_,_⟩;contradiction)
    refine ak (wn (df q40)) (ak (wn (df q40)) (lw (vb false) (aS rfl (df q40) rfl) (ma (vb false) (ab (ah rfl rfl (a8 ?_))))))
    have C35:=cg [] (ch2.n.seq (ch7.n.seq (ch12.n.seq (ch17.n.seq (ch21.n.seq (hc26.n.seq (ch27.n.seq hc30.n)))))))
    refine mid_j1 (g19) _ _ ⟨bH.ca C35,rfl,rfl,rfl,rfl,rfl,rfl,rfl,rfl,bx5.cn hc30,bx10.cn hc30,bx15.cn hc30,bx20.cn hc30,?_⟩
    show¬(bN a b c=0/\bN a b d=0/\bN c d a=0/\bN c d b=0)
    (rintro⟨_,_,_,_⟩;contradiction)
   refine ak (wn (df q36)) (ak (wn (df q36)) (lw (vb false) (aS rfl (df q36) rfl) (mv (vb false) (ak (wn rfl) (ak (wn rfl) (lw (vb false) (aS rfl rfl rfl) (ma (vb false) (ab (ah rfl rfl (a8 ?_))))))))))
   have C36:=cg [] (ch2.n.seq (ch7.n.seq (ch12.n.seq (ch17.n.seq (ch21.n.seq (hc26.n.seq (ch27.n.seq hc30.n)))))))
   refine mid_j1 (g19) _ _ ⟨bH.ca C36,rfl,rfl,rfl,rfl,rfl,rfl,rfl,rfl,bx5.cn hc30,bx10.cn hc30,bx15.cn hc30,bx20.cn hc30,?_⟩
   show¬(bN a b c=0/\bN a b d=0/\bN c d a=0/\bN c d b=0)
   (rintro⟨_,_,_,_⟩;contradiction)
  refine ak (wn (df q32)) (ak (wn (df q32)) (lw (vb false) (aS rfl (df q32) rfl) (mv (vb false) (ak (wn rfl) (ak (wn rfl) (lw (vb false) (aS rfl rfl rfl) (mv (vb false) (ak (wn rfl) (ak (wn rfl) (lw (vb false) (aS rfl rfl rfl) (ma (vb false) ?_)))))))))))
  refine ab (ah rfl rfl (a8 ?_))
  have C37:=cg [] (ch2.n.seq (ch7.n.seq (ch12.n.seq (ch17.n.seq (ch21.n.seq (hc26.n.seq (ch27.n.seq hc30.n)))))))
  refine mid_j1 (g19) _ _ ⟨bH.ca C37,rfl,rfl,rfl,rfl,rfl,rfl,rfl,rfl,bx5.cn hc30,bx10.cn hc30,bx15.cn hc30,bx20.cn hc30,?_⟩
  show¬(bN a b c=0/\bN a b d=0/\bN c d a=0/\bN c d b=0)
  (rintro⟨_,_,_,_⟩;contradiction)
 clear bx5 bx10 bx15 bx20 bH
 rintro g40 f38 w39 ⟨bH,z41_4,z41_5,z41_6,z41_7,z41_9,z41_10,z41_11,z41_12,bx5,bx10,bx15,bx20,hn1⟩
 refine jT [0,2,1] (σ:=aV) (λgq f w=>bu w0 gq w/\f 4=vp b3 0/\f 5=vp b8 0/\f 6=vp b13 0/\f 7=vp b18 0/\Bx gq (is 1) w b3 [vi a.1,vi a.2]/\Bx gq (is 2) w b8 [vi b.1,vi b.2]/\Bx gq (is 3) w b13 [vi c.1,vi c.2]/\Bx gq (is 4) w b18 [vi d.1,vi d.2]/\(¬(bN a b c*bN a b d<0/\bN c d a*bN c d b<0))) ?_ ?_
 ·
  intro mid_j2
  refine a7 rfl (mz z41_9 (mz z41_10 (lx (eu (m:=bN a b c) (n:=bN a b d) rfl rfl (by omega)) (lx (bc (m:=(bN a b c)*(bN a b d)) (n:=0) rfl rfl) (mv (vb (decide (((bN a b c)*(bN a b d))<0))) ?_)))))
  by_cases q54:((bN a b c)*(bN a b d))<0
  ·
   refine lv (vi (bN c d a)) (wy (dt q54)) (aR z41_11) (lv (vi (bN c d b)) (wy (dt q54)) (aR z41_12) (lv (vi ((bN c d a)*(bN c d b))) (wy (dt q54)) (eu (m:=bN c d a) (n:=bN c d b) rfl rfl (by omega)) (lv (vb (decide (((bN c d a)*(bN c d b))<0))) (wy (dt q54)) (bc (m:=(bN c d a)*(bN c d b)) (n:=0) rfl rfl) (lw (vb (decide (((bN c d a)*(bN c d b))<0))) (aM rfl (dt q54) rfl) (ma (vb (decide (((bN c d a)*(bN c d b))<0))) (ab ?_))))))
   by_cases p5:((bN c d a)*(bN c d b))<0
   ·
    refine ag rfl (dt p5) (a8 ?_)
    clear bx5 bx10 bx15 bx20
    refine a7 rfl (ai 1 (ab (aw (vs:=[vi 1]) Try.func50 (.tmp rfl .nil) ?_)))
    have e0:(1:Int)=(bX a b c d):=by
      with_reducible exact k6 ‹_› ‹_›
    exact⟨ri e0,bH.below⟩
   refine ah rfl (df p5) (a8 ?_)
   refine mid_j2 (g40) _ _ ⟨bH,z41_4,z41_5,z41_6,z41_7,bx5,bx10,bx15,bx20,?_⟩
   show¬(bN a b c*bN a b d<0/\bN c d a*bN c d b<0)
   (rintro⟨_,_⟩;contradiction)
  refine ak (wn (df q54)) (ak (wn (df q54)) (ak (wn (df q54)) (ak (wn (df q54)) (lw (vb false) (aS rfl (df q54) rfl) (ma (vb false) (ab (ah rfl rfl (a8 ?_))))))))
  refine mid_j2 (g40) _ _ ⟨bH,z41_4,z41_5,z41_6,z41_7,bx5,bx10,bx15,bx20,?_⟩
  show¬(bN a b c*bN a b d<0/\bN c d a*bN c d b<0)
  (rintro⟨_,_⟩;contradiction)
 clear bx5 bx10 bx15 bx20 bH
 rintro g44 f42 w43 ⟨bH,z45_4,z45_5,z45_6,z45_7,bx5,bx10,bx15,bx20,hn2⟩
 refine a7 rfl (lx (ae (ds:=[vi a.1,vi a.2]) aj z45_4 bx5 rfl rfl) (lx (ae (ds:=[vi b.1,vi b.2]) aj z45_5 bx10 rfl rfl) (lx (ae (ds:=[vi c.1,vi c.2]) aj z45_6 bx15 rfl rfl) (lo (aP (v:=vb (decide (dJ a b c))) (aG (vals:=[vg [vi a.1,vi a.2],vg [vi b.1,vi b.2],vg [vi c.1,vi c.2]]) Try.func61 gC g5 rfl) (kk w43 a b c ‹_› ‹_› ‹_›) ?_)))))
 intro w46 hb47
 replace hb47:=am hb47 g44
 refine mv (vb (decide (dJ a b c))) ?_
 by_cases q65:(decide (dJ a b c))=true
 ·
  refine ak (wn q65) (ak (wn q65) (ak (wn q65) (ak (wn q65) (lw (vb true) (aM rfl q65 rfl) (mv (vb true) (ak (wn rfl) (ak (wn rfl) (ak (wn rfl) (ak (wn rfl) (lw (vb true) (aM rfl rfl rfl) (mv (vb true) (ak (wn rfl) (ak (wn rfl) (ak (wn rfl) (ak (wn rfl) (lw (vb true) (aM rfl rfl rfl) (ma (vb true) (ab ?_))))))))))))))))))
  refine ag rfl rfl (a8 ?_)
  clear bx5 bx10 bx15 bx20
  refine a7 rfl (ai 2 (ab (aw (vs:=[vi 2]) Try.func50 (.tmp rfl .nil) ?_)))
  have e0:(2:Int)=(bX a b c d):=by
    ((with_reducible (refine ek ?_ ?_ (by exact o1 ‹_›)))<;>(assumption))
  replace bH:=bH.cn hb47
  exact⟨ri e0,bH.below⟩
 replace bx5:=bx5.cn hb47
 refine lv (vg [vi a.1,vi a.2]) (wy (Bool.eq_false_iff.2 q65)) (ae (ds:=[vi a.1,vi a.2]) aj z45_4 bx5 rfl rfl) ?_
 replace bx10:=bx10.cn hb47
 refine lv (vg [vi b.1,vi b.2]) (wy (Bool.eq_false_iff.2 q65)) (ae (ds:=[vi b.1,vi b.2]) aj z45_5 bx10 rfl rfl) ?_
 replace bx20:=bx20.cn hb47
 refine lv (vg [vi d.1,vi d.2]) (wy (Bool.eq_false_iff.2 q65)) (ae (ds:=[vi d.1,vi d.2]) aj z45_7 bx20 rfl rfl) (cN (wy (Bool.eq_false_iff.2 q65)) (aP (v:=vb (decide (dJ a b d))) (aG (vals:=[vg [vi a.1,vi a.2],vg [vi b.1,vi b.2],vg [vi d.1,vi d.2]]) Try.func61 gC g5 rfl) (kk w46 a b d ‹_› ‹_› ‹_›) ?_))
 intro w48 hb49
 replace hb49:=am hb49 g44
 refine lw (vb (decide (dJ a b d))) (aS rfl (Bool.eq_false_iff.2 q65) rfl) (mv (vb (decide (dJ a b d))) ?_)
 by_cases q71:(decide (dJ a b d))=true
 ·
  refine ak (wn q71) (ak (wn q71) (ak (wn q71) (ak (wn q71) (lw (vb true) (aM rfl q71 rfl) (mv (vb true) (ak (wn rfl) (ak (wn rfl) (ak (wn rfl) (ak (wn rfl) (lw (vb true) (aM rfl rfl rfl) (ma (vb true) (ab (ag rfl rfl (a8 ?_))))))))))))))
  clear bx5 bx10 bx15 bx20
  refine a7 rfl (ai 2 (ab (aw (vs:=[vi 2]) Try.func50 (.tmp rfl .nil) ?_)))
  have e0:(2:Int)=(bX a b c d):=by
    ((with_reducible (refine ek ?_ ?_ (by exact o2 ‹_›)))<;>(assumption))
  replace bH:=bH.cn hb47
  replace bH:=bH.cn hb49
  exact⟨ri e0,bH.below⟩
 replace bx15:=(bx15.cn hb47).cn hb49
 refine lv (vg [vi c.1,vi c.2]) (wy (Bool.eq_false_iff.2 q71)) (ae (ds:=[vi c.1,vi c.2]) aj z45_6 bx15 rfl rfl) ?_
 replace bx20:=bx20.cn hb49
 refine lv (vg [vi d.1,vi d.2]) (wy (Bool.eq_false_iff.2 q71)) (ae (ds:=[vi d.1,vi d.2]) aj z45_7 bx20 rfl rfl) ?_
 replace bx5:=bx5.cn hb49
 refine lv (vg [vi a.1,vi a.2]) (wy (Bool.eq_false_iff.2 q71)) (ae (ds:=[vi a.1,vi a.2]) aj z45_4 bx5 rfl rfl) (cN (wy (Bool.eq_false_iff.2 q71)) (aP (v:=vb (decide (dJ c d a))) (aG (vals:=[vg [vi c.1,vi c.2],vg [vi d.1,vi d.2],vg [vi a.1,vi a.2]]) Try.func61 gC g5 rfl) (kk w48 c d a ‹_› ‹_› ‹_›) ?_))
 intro w50 hb51
 replace hb51:=am hb51 g44
 refine lw (vb (decide (dJ c d a))) (aS rfl (Bool.eq_false_iff.2 q71) rfl) (mv (vb (decide (dJ c d a))) ?_)
 by_cases q77:(decide (dJ c d a))=true
 ·
  refine ak (wn q77) (ak (wn q77) (ak (wn q77) (ak (wn q77) (lw (vb true) (aM rfl q77 rfl) (ma (vb true) (ab (ag rfl rfl (a8 ?_))))))))
  clear bx5 bx10 bx15 bx20
  refine a7 rfl (ai 2 (ab (aw (vs:=[vi 2]) Try.func50 (.tmp rfl .nil) ?_)))
  have e0:(2:Int)=(bX a b c d):=by
    ((with_reducible (refine ek ?_ ?_ (by exact o3 ‹_›)))<;>(assumption))
  have C52:=cg [] (hb47.n.seq (hb49.n.seq hb51.n))
  replace bH:=bH.ca C52
  exact⟨ri e0,bH.below⟩
 replace bx15:=bx15.cn hb51
 refine lv (vg [vi c.1,vi c.2]) (wy (Bool.eq_false_iff.2 q77)) (ae (ds:=[vi c.1,vi c.2]) aj z45_6 bx15 rfl rfl) ?_
 replace bx20:=bx20.cn hb51
 refine lv (vg [vi d.1,vi d.2]) (wy (Bool.eq_false_iff.2 q77)) (ae (ds:=[vi d.1,vi d.2]) aj z45_7 bx20 rfl rfl) ?_
 replace bx10:=(bx10.cn hb49).cn hb51
 refine lv (vg [vi b.1,vi b.2]) (wy (Bool.eq_false_iff.2 q77)) (ae (ds:=[vi b.1,vi b.2]) aj z45_5 bx10 rfl rfl) (cN (wy (Bool.eq_false_iff.2 q77)) (aP (v:=vb (decide (dJ c d b))) (aG (vals:=[vg [vi c.1,vi c.2],vg [vi d.1,vi d.2],vg [vi b.1,vi b.2]]) Try.func61 gC g5 rfl) (kk w50 c d b ‹_› ‹_› ‹_›) ?_))
 intro w53 hb54
 replace hb54:=am hb54 g44
 refine lw (vb (decide (dJ c d b))) (aS rfl (Bool.eq_false_iff.2 q77) rfl) (ma (vb (decide (dJ c d b))) (ab ?_))
 by_cases p7:(decide (dJ c d b))=true
 ·
  refine ag rfl p7 (a8 ?_)
  clear bx5 bx10 bx15 bx20
  refine a7 rfl (ai 2 (ab (aw (vs:=[vi 2]) Try.func50 (.tmp rfl .nil) ?_)))
  have e0:(2:Int)=(bX a b c d):=by
    ((with_reducible (refine ek ?_ ?_ (by exact o4 ‹_›)))<;>(assumption))
  have C55:=cg [] (hb47.n.seq (hb49.n.seq (hb51.n.seq hb54.n)))
  replace bH:=bH.ca C55
  exact⟨ri e0,bH.below⟩
 refine ah rfl (Bool.eq_false_iff.2 p7) (au (ap (a8 ?_)))
 clear bx5 bx10 bx15 bx20
 refine a7 rfl (ai 0 (ab (aw (vs:=[vi 0]) Try.func50 (.tmp rfl .nil) ?_)))
 have e0:(0:Int)=(bX a b c d):=by
   ((with_reducible (refine kG ?_ ?_ (o5 ‹_› ‹_› ‹_› ‹_›)))<;>(assumption))
 have C56:=cg [] (hb47.n.seq (hb49.n.seq (hb51.n.seq hb54.n)))
 replace bH:=bH.ca C56
 exact⟨ri e0,bH.below⟩
theorem fq(w0:World)(a:Pt)(b:Pt)(p:Pt):
    Calls Try.prog 52 #[vg [vi a.1,vi a.2],vg [vi b.1,vi b.2],vg [vi p.1,vi p.2]] w0 (λee w=>ee= .returned (vt [vb ((cw a b p).1),vi ((cw a b p).2)])/\cG w0.heap.size w0 w):=by
 refine aK Try.func52 rfl nq ?_
 have bH:=bu.start w0
 refine a8 (a7 rfl (cN rfl (bC c0 (is 1) (1,0) rfl rfl ?_)))
 intro g4 w1 b3 ch2 bx5
 replace bx5:Bx g4 (is 1) w1 b3 [vi a.1,vi a.2]:=bx5
 refine lo (bC g4 (is 2) (2,0) rfl rfl ?_)
 intro g9 w6 b8 ch7 bx10
 replace bx10:Bx g9 (is 2) w6 b8 [vi b.1,vi b.2]:=bx10
 refine lo (bC g9 (is 3) (3,0) rfl rfl ?_)
 intro g14 w11 b13 ch12 bx15
 replace bx15:Bx g14 (is 3) w11 b13 [vi p.1,vi p.2]:=bx15
 refine ma (vb false) (ai 0 (ab (a8 (a8 (a7 rfl ?_)))))
 replace bx5:=(bx5.cn ch7).cn ch12
 refine lx (ae (ds:=[vi a.1,vi a.2]) aj rfl bx5 rfl rfl) ?_
 replace bx10:=bx10.cn ch12
 refine lx (ae (ds:=[vi b.1,vi b.2]) aj rfl bx10 rfl rfl) (lx (ae (ds:=[vi p.1,vi p.2]) aj rfl bx15 rfl rfl) (lo (aH (α:=Pt) g14 (is 4) (is 4) (4,0) rfl [a,b,p] cT aj (by decide) (by decide) (vs:=[(0,vg [vi a.1,vi a.2]),(1,vg [vi b.1,vi b.2]),(2,vg [vi p.1,vi p.2])]) rfl rfl (.cons rfl (.cons rfl (.cons rfl .nil))) ?_)))
 intro g16 w17 v18 ch19 o20
 refine lo (aP (v:=vb (decide (fF ([a,b,p])))) (aG (vals:=[v18]) Try.func49 i2 i4 rfl) (i3 w17 ([a,b,p]) v18 (o20.flat).ro) ?_)
 intro w21 hb22
 replace hb22:=am hb22 g16
 refine lx (dr (b:=(decide (fF ([a,b,p])))) rfl) (ab ?_)
 by_cases p1:(decide (fF ([a,b,p])))=true
 ·
  obtain⟨h1,h2,h3⟩:=sP.1 (of_decide_eq_true p1)
  have k1:=h1.bd
  have k2:=h2.bd
  have k3:=h3.bd
  refine ah rfl (congrArg Bool.not p1) (au (a8 ?_))
  clear o20
  refine a7 rfl ?_
  replace bx5:=(bx5.cn ch19).cn hb22
  refine lx (ae (ds:=[vi a.1,vi a.2]) aj rfl bx5 rfl rfl) ?_
  replace bx10:=(bx10.cn ch19).cn hb22
  refine lx (ae (ds:=[vi b.1,vi b.2]) aj rfl bx10 rfl rfl) ?_
  replace bx15:=(bx15.cn ch19).cn hb22
  refine lx (ae (ds:=[vi p.1,vi p.2]) aj rfl bx15 rfl rfl) (lo (aP (v:=vb (decide (dJ a b p))) (aG (vals:=[vg [vi a.1,vi a.2],vg [vi b.1,vi b.2],vg [vi p.1,vi p.2]]) Try.func61 gC g5 rfl) (kk w21 a b p ‹_› ‹_› ‹_›) ?_))
  intro w23 hb24
  replace hb24:=am hb24 g16
  refine ma (vb (decide (dJ a b p))) (ai 0 (ab (aw (vs:=[vb (decide (dJ a b p)),vi 0]) Try.func52 (.tmp rfl (.tmp rfl .nil)) ?_)))
  have e0:((decide (dJ a b p)):Bool)=((cw a b p).1):=by
    simp only[cw,if_pos (⟨h1,h2,h3⟩:c5 a/\c5 b/\c5 p)]
  have e1:(0:Int)=((cw a b p).2):=by
    simp only[cw,if_pos (⟨h1,h2,h3⟩:c5 a/\c5 b/\c5 p)]
  have C25:=cg [] (ch2.n.seq (ch7.n.seq (ch12.n.seq (ch19.n.seq (hb22.n.seq hb24.n)))))
  replace bH:=bH.ca C25
  exact⟨(bR (a:=(decide (dJ a b p))) (b:=0) (λ(z0:Bool) (z1:Int)=>Ending.returned (vt [vb z0,vi z1])) e0 e1),bH.below⟩
 have hno:¬(c5 a/\c5 b/\c5 p):=λh=>p1 (dt (sP.2 h))
 refine ag rfl (congrArg Bool.not (Bool.eq_false_iff.2 p1)) (a8 ?_)
 clear bx5 bx10 bx15 o20
 refine a7 rfl (ma (vb false) (ai 1 (ab (aw (vs:=[vb false,vi 1]) Try.func52 (.tmp rfl (.tmp rfl .nil)) ?_))))
 have e0:(false:Bool)=((cw a b p).1):=by
   simp only[cw,if_neg hno]
 have e1:(1:Int)=((cw a b p).2):=by
   simp only[cw,if_neg hno]
 have C26:=cg [] (ch2.n.seq (ch7.n.seq (ch12.n.seq (ch19.n.seq hb22.n))))
 replace bH:=bH.ca C26
 exact⟨(bR (a:=false) (b:=1) (λ(z0:Bool) (z1:Int)=>Ending.returned (vt [vb z0,vi z1])) e0 e1),bH.below⟩
theorem pd(w0:World)(a:Pt)(b:Pt)(c:Pt)(d:Pt):
    Calls Try.prog 40 #[vg [vi a.1,vi a.2],vg [vi b.1,vi b.2],vg [vi c.1,vi c.2],vg [vi d.1,vi d.2]] w0 (λee w=>ee= .returned (vt [vi ((cd a b c d).1),vi ((cd a b c d).2)])/\cG w0.heap.size w0 w):=by
 refine aK Try.func40 rfl nq ?_
 have bH:=bu.start w0
 refine a8 (a7 rfl (cN rfl (bC c0 (is 1) (1,0) rfl rfl ?_)))
 intro g4 w1 b3 ch2 bx5
 replace bx5:Bx g4 (is 1) w1 b3 [vi a.1,vi a.2]:=bx5
 refine lo (bC g4 (is 2) (2,0) rfl rfl ?_)
 intro g9 w6 b8 ch7 bx10
 replace bx10:Bx g9 (is 2) w6 b8 [vi b.1,vi b.2]:=bx10
 refine lo (bC g9 (is 3) (3,0) rfl rfl ?_)
 intro g14 w11 b13 ch12 bx15
 replace bx15:Bx g14 (is 3) w11 b13 [vi c.1,vi c.2]:=bx15
 refine lo (bC g14 (is 4) (4,0) rfl rfl ?_)
 intro g19 w16 b18 ch17 bx20
 replace bx20:Bx g19 (is 4) w16 b18 [vi d.1,vi d.2]:=bx20
 refine ai 0 (ai 0 (ab (a8 (a8 (a7 rfl ?_)))))
 have C21:=cg [] (ch7.n.seq (ch12.n.seq ch17.n))
 replace bx5:=bx5.ca C21
 refine lx (ae (ds:=[vi a.1,vi a.2]) aj rfl bx5 rfl rfl) ?_
 replace bx10:=(bx10.cn ch12).cn ch17
 refine lx (ae (ds:=[vi b.1,vi b.2]) aj rfl bx10 rfl rfl) ?_
 replace bx15:=bx15.cn ch17
 refine lx (ae (ds:=[vi c.1,vi c.2]) aj rfl bx15 rfl rfl) (lx (ae (ds:=[vi d.1,vi d.2]) aj rfl bx20 rfl rfl) (lo (aH (α:=Pt) g19 (is 5) (is 5) (5,0) rfl [a,b,c,d] cT aj (by decide) (by decide) (vs:=[(0,vg [vi a.1,vi a.2]),(1,vg [vi b.1,vi b.2]),(2,vg [vi c.1,vi c.2]),(3,vg [vi d.1,vi d.2])]) rfl rfl (.cons rfl (.cons rfl (.cons rfl (.cons rfl .nil)))) ?_)))
 intro g22 w23 v24 ch25 o26
 refine lo (aP (v:=vb (decide (fF ([a,b,c,d])))) (aG (vals:=[v24]) Try.func49 i2 i4 rfl) (i3 w23 ([a,b,c,d]) v24 (o26.flat).ro) ?_)
 intro w27 hb28
 replace hb28:=am hb28 g22
 refine lx (dr (b:=(decide (fF ([a,b,c,d])))) rfl) (ab ?_)
 by_cases p1:(decide (fF ([a,b,c,d])))=true
 ·
  obtain⟨⟨h1,h2⟩,h3,h4⟩:=s8.1 (of_decide_eq_true p1)
  have k1:=h1.bd
  have k2:=h2.bd
  have k3:=h3.bd
  have k4:=h4.bd
  refine ah rfl (congrArg Bool.not p1) (au (a8 ?_))
  clear o26
  refine a7 rfl ?_
  replace bx5:=(bx5.cn ch25).cn hb28
  refine lx (ae (ds:=[vi a.1,vi a.2]) aj rfl bx5 rfl rfl) ?_
  replace bx10:=(bx10.cn ch25).cn hb28
  refine lx (ae (ds:=[vi b.1,vi b.2]) aj rfl bx10 rfl rfl) ?_
  replace bx15:=(bx15.cn ch25).cn hb28
  refine lx (ae (ds:=[vi c.1,vi c.2]) aj rfl bx15 rfl rfl) ?_
  replace bx20:=(bx20.cn ch25).cn hb28
  refine lx (ae (ds:=[vi d.1,vi d.2]) aj rfl bx20 rfl rfl) (lo (aP (v:=vi (bX a b c d)) (aG (vals:=[vg [vi a.1,vi a.2],vg [vi b.1,vi b.2],vg [vi c.1,vi c.2],vg [vi d.1,vi d.2]]) Try.func50 oT pW rfl) (oY w27 a b c d ‹_› ‹_› ‹_› ‹_›) ?_))
  intro w29 hb30
  replace hb30:=am hb30 g22
  refine ai (bX a b c d) (ai 0 (ab (aw (vs:=[vi (bX a b c d),vi 0]) Try.func40 (.tmp rfl (.tmp rfl .nil)) ?_)))
  have e0:(bX a b c d:Int)=((cd a b c d).1):=by
    simp only[cd,if_pos (⟨⟨h1,h2⟩,h3,h4⟩:(c5 a/\c5 b)/\c5 c/\c5 d)]
  have e1:(0:Int)=((cd a b c d).2):=by
    simp only[cd,if_pos (⟨⟨h1,h2⟩,h3,h4⟩:(c5 a/\c5 b)/\c5 c/\c5 d)]
  have C31:=cg [] (ch2.n.seq (ch7.n.seq (ch12.n.seq (ch17.n.seq (ch25.n.seq (hb28.n.seq hb30.n))))))
  replace bH:=bH.ca C31
  exact⟨(bR (a:=bX a b c d) (b:=0) (λ(z0:Int) (z1:Int)=>Ending.returned (vt [vi z0,vi z1])) e0 e1),bH.below⟩
 have hno:¬((c5 a/\c5 b)/\c5 c/\c5 d):=λh=>p1 (dt (s8.2 h))
 refine ag rfl (congrArg Bool.not (Bool.eq_false_iff.2 p1)) (a8 ?_)
 clear bx5 bx10 bx15 bx20 o26
 refine a7 rfl (ai 0 (ai 1 (ab (aw (vs:=[vi 0,vi 1]) Try.func40 (.tmp rfl (.tmp rfl .nil)) ?_))))
 have e0:(0:Int)=((cd a b c d).1):=by
   simp only[cd,if_neg hno]
 have e1:(1:Int)=((cd a b c d).2):=by
   simp only[cd,if_neg hno]
 have C32:=cg [] (ch2.n.seq (ch7.n.seq (ch12.n.seq (ch17.n.seq (ch25.n.seq hb28.n)))))
 replace bH:=bH.ca C32
 exact⟨(bR (a:=0) (b:=1) (λ(z0:Int) (z1:Int)=>Ending.returned (vt [vi z0,vi z1])) e0 e1),bH.below⟩
end TL
