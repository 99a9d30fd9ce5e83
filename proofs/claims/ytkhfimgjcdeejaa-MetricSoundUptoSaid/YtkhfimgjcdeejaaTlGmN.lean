import Derived.Test.YtkhfimgjcdeejaaTlP3
import Derived.Test.YtkhfimgjcdeejaaTlGmA
import Derived.Test.YtkhfimgjcdeejaaProg
import Derived.Test.YtkhfimgjcdeejaaTlAli
set_option linter.all false
set_option maxRecDepth 20000
namespace TL
open Go Go.Proofs
theorem nc:Try.prog.follows .mixedOrders=true:=by kernel_rfl
theorem gj:Try.f43.body.isNone=false:=rfl
theorem gp:(Try.f43.name== "runtime.NumGoroutine")=false:=by decide+kernel
theorem j1:Try.f53.body.isNone=false:=rfl
theorem jm:(Try.f53.name== "runtime.NumGoroutine")=false:=by decide+kernel
theorem qd:Try.f54.body.isNone=false:=rfl
theorem oW:(Try.f54.name== "runtime.NumGoroutine")=false:=by decide+kernel
theorem u4:Try.f63.body.isNone=false:=rfl
theorem ub:(Try.f63.name== "runtime.NumGoroutine")=false:=by decide+kernel
theorem tP(w0:World)(n:Int):
    Calls Try.prog 63 #[vi n] w0 (λee w=>ee= .returned (vi (ct n 0))/\cW w0.heap.size w0 w):=by
 refine aI Try.func63 rfl nq ?_
 have bH:=bo.start w0
 refine a6 (a5 rfl (ai 0 (a8 (a6 (ao (a6 (a5 rfl (mi n (lx (dZ (m:=n) (n:=0) rfl rfl) (ma (vb (decide (0<n))) (a8 ?_)))))))))))
 by_cases p1:0<n
 ·
  refine ae rfl (dt p1) (a6 (a5 rfl (ai 1 (a8 (av (vs:=[vi 1]) Try.func63 (.tmp rfl .nil) ?_)))))
  have e0:(1:Int)=(ct n 0):=by
    unfold ct
    rw[if_neg (by omega),if_pos (by omega)]
  exact⟨ri e0,bH.below⟩
 refine af rfl (df p1) (a6 (a5 rfl (mi n (lx (b6 (m:=n) (n:=0) rfl rfl) (ma (vb (decide (n<0))) (a8 ?_))))))
 by_cases p3:n<0
 ·
  refine ae rfl (dt p3) (a6 (a5 rfl (ai (-1) (a8 (av (vs:=[vi (-1)]) Try.func63 (.tmp rfl .nil) ?_)))))
  have e0:(-1:Int)=(ct n 0):=by
    unfold ct
    rw[if_pos (by omega)]
  exact⟨ri e0,bH.below⟩
 refine af rfl (df p3) (am (ak (a6 (a5 rfl (ai 0 (a8 (av (vs:=[vi 0]) Try.func63 (.tmp rfl .nil) ?_)))))))
 have e0:(0:Int)=(ct n 0):=by
   unfold ct
   rw[if_neg (by omega),if_neg (by omega)]
 exact⟨ri e0,bH.below⟩
theorem jn(w0:World)(a:Pt)(b:Pt)(c:Pt)(ha:cV a)(hb:cV b)(hc:cV c):
    Calls Try.prog 53 #[vg [vi a.1,vi a.2],vg [vi b.1,vi b.2],vg [vi c.1,vi c.2]] w0 (λee w=>ee= .returned (vi (bG a b c))/\cW w0.heap.size w0 w):=by
 refine aI Try.func53 rfl nq ?_
 have bH:=bo.start w0
 have hba:=jX ha hb
 have hca:=jX ha hc
 unfold wB cH at hba hca
 unfold cV at ha hb hc
 have h1:=gB hba.1 hca.2
 have h2:=gB hba.2 hca.1
 simp only at h1 h2
 refine a6 (a5 rfl (cj rfl (bA c0 (is 1) (1,0) rfl rfl ?_)))
 intro g4 w1 b3 ch2 bx5
 replace bx5:Bx g4 (is 1) w1 b3 [vi a.1,vi a.2]:=bx5
 refine lo (bA g4 (is 2) (2,0) rfl rfl ?_)
 intro g9 w6 b8 ch7 bx10
 replace bx10:Bx g9 (is 2) w6 b8 [vi b.1,vi b.2]:=bx10
 refine lo (bA g9 (is 3) (3,0) rfl rfl ?_)
 intro g14 w11 b13 ch12 bx15
 replace bx15:Bx g14 (is 3) w11 b13 [vi c.1,vi c.2]:=bx15
 refine ai 0 (a8 (a6 (a5 rfl (lx (a7 cq rfl rfl rfl rfl) ?_))))
 replace bx10:=bx10.cn ch12
 refine lx (a9 aG rfl bx10 rfl) (lx (a7 cq rfl rfl rfl rfl) ?_)
 replace bx5:=(bx5.cn ch7).cn ch12
 refine lx (a9 aG rfl bx5 rfl) (lx (cX (m:=b.1) (n:=a.1) rfl rfl (by omega)) (lx (a7 cq rfl rfl rfl rfl) (lx (a9 aG rfl bx15 rfl) (lx (a7 cq rfl rfl rfl rfl) (lx (a9 aG rfl bx5 rfl) (lx (cX (m:=c.2) (n:=a.2) rfl rfl (by omega)) (lx (fV (m:=b.1-a.1) (n:=c.2-a.2) rfl rfl (by omega)) (lx (a7 cq rfl rfl rfl rfl) (lx (a9 aG rfl bx10 rfl) ?_)))))))))
 refine lx (a7 cq rfl rfl rfl rfl) (lx (a9 aG rfl bx5 rfl) (lx (cX (m:=b.2) (n:=a.2) rfl rfl (by omega)) (lx (a7 cq rfl rfl rfl rfl) (lx (a9 aG rfl bx15 rfl) (lx (a7 cq rfl rfl rfl rfl) (lx (a9 aG rfl bx5 rfl) (lx (cX (m:=c.1) (n:=a.1) rfl rfl (by omega)) (lx (fV (m:=b.2-a.2) (n:=c.1-a.1) rfl rfl (by omega)) (lx (cX (m:=(b.1-a.1)*(c.2-a.2)) (n:=(b.2-a.2)*(c.1-a.1)) rfl rfl (by omega)) ?_)))))))))
 refine lo (aN (v:=vi (ct (((b.1-a.1)*(c.2-a.2))-((b.2-a.2)*(c.1-a.1))) 0)) (az (vals:=[vi (((b.1-a.1)*(c.2-a.2))-((b.2-a.2)*(c.1-a.1)))]) Try.func63 u4 ub rfl) (tP w11 (((b.1-a.1)*(c.2-a.2))-((b.2-a.2)*(c.1-a.1)))) ?_)
 intro w16 hb17
 replace hb17:=aj hb17 g14
 refine ai (ct (((b.1-a.1)*(c.2-a.2))-((b.2-a.2)*(c.1-a.1))) 0) (a8 (av (vs:=[vi (ct (((b.1-a.1)*(c.2-a.2))-((b.2-a.2)*(c.1-a.1))) 0)]) Try.func53 (.tmp rfl .nil) ?_))
 have e0:(ct (((b.1-a.1)*(c.2-a.2))-((b.2-a.2)*(c.1-a.1))) 0:Int)=(bG a b c):=by
   rfl
 have C18:=cg [] (ch2.n.seq (ch7.n.seq (ch12.n.seq hb17.n)))
 replace bH:=bH.ca C18
 exact⟨(congrArg (a₁:=ct (((b.1-a.1)*(c.2-a.2))-((b.2-a.2)*(c.1-a.1))) 0) (λ(z0:Int)=>Ending.returned (vi z0)) e0),bH.below⟩
theorem l7(w0:World)(a:Int)(b:Int)(n:Int):
    Calls Try.prog 54 #[vi a,vi b,vi n] w0 (λee w=>ee= .returned (vb (decide (min a b<=n/\n<=max a b)))/\cW w0.heap.size w0 w):=by
 refine aI Try.func54 rfl nq ?_
 have bH:=bo.start w0
 refine a6 (a5 rfl (ma (vb false) (a8 (a6 (a5 rfl (mi a (mi b (lw (vi (min a b)) (nl rfl rfl) (mi n (lx (gU (m:=min a b) (n:=n) rfl rfl) (mv (vb (decide ((min a b)<=n))) ?_)))))))))))
 by_cases q12:(min a b)<=n
 ·
  refine lv (vi n) (wy (dt q12)) (aw rfl) (lv (vi a) (wy (dt q12)) (aw rfl) (lv (vi b) (wy (dt q12)) (aw rfl) (lv (vi (max a b)) (wy (dt q12)) (kI rfl rfl) (lv (vb (decide (n<=(max a b)))) (wy (dt q12)) (gU (m:=n) (n:=max a b) rfl rfl) (lw (vb (decide (n<=(max a b)))) (aD rfl (dt q12) rfl) (ma (vb (decide (n<=(max a b)))) (a8 (av (vs:=[vb (decide (n<=(max a b)))]) Try.func54 (.tmp rfl .nil) ?_))))))))
  have e0:(decide (n<=(max a b)):Bool)=(decide (min a b<=n/\n<=max a b)):=by
    (rw[decide_eq_decide];omega)
  exact⟨(congrArg (a₁:=decide (n<=(max a b))) (λ(z0:Bool)=>Ending.returned (vb z0)) e0),bH.below⟩
 refine aa (wn (df q12)) (aa (wn (df q12)) (aa (wn (df q12)) (aa (wn (df q12)) (aa (wn (df q12)) (lw (vb false) (aB rfl (df q12) rfl) (ma (vb false) (a8 (av (vs:=[vb false]) Try.func54 (.tmp rfl .nil) ?_))))))))
 have e0:(false:Bool)=(decide (min a b<=n/\n<=max a b)):=by
   exact(df (by omega)).symm
 exact⟨rb e0,bH.below⟩
theorem gc(w0:World)(a:Pt)(b:Pt)(p:Pt)(ha:cV a)(hb:cV b)(hp:cV p):
    Calls Try.prog 43 #[vg [vi a.1,vi a.2],vg [vi b.1,vi b.2],vg [vi p.1,vi p.2]] w0 (λee w=>ee= .returned (vb (decide (cA a b p)))/\cW w0.heap.size w0 w):=by
 refine aI Try.func43 rfl nq ?_
 have bH:=bo.start w0
 refine a6 (a5 rfl (cj rfl (bA c0 (is 1) (1,0) rfl rfl ?_)))
 intro g4 w1 b3 ch2 bx5
 replace bx5:Bx g4 (is 1) w1 b3 [vi a.1,vi a.2]:=bx5
 refine lo (bA g4 (is 2) (2,0) rfl rfl ?_)
 intro g9 w6 b8 ch7 bx10
 replace bx10:Bx g9 (is 2) w6 b8 [vi b.1,vi b.2]:=bx10
 refine lo (bA g9 (is 3) (3,0) rfl rfl ?_)
 intro g14 w11 b13 ch12 bx15
 replace bx15:Bx g14 (is 3) w11 b13 [vi p.1,vi p.2]:=bx15
 refine ma (vb false) (a8 (a6 (a5 rfl ?_)))
 replace bx5:=(bx5.cn ch7).cn ch12
 refine lx (ad (ds:=[vi a.1,vi a.2]) ah rfl bx5 rfl rfl) ?_
 replace bx10:=bx10.cn ch12
 refine lx (ad (ds:=[vi b.1,vi b.2]) ah rfl bx10 rfl rfl) (lx (ad (ds:=[vi p.1,vi p.2]) ah rfl bx15 rfl rfl) (lo (aN (v:=vi (bG a b p)) (az (vals:=[vg [vi a.1,vi a.2],vg [vi b.1,vi b.2],vg [vi p.1,vi p.2]]) Try.func53 j1 jm rfl) (jn w11 a b p ‹_› ‹_› ‹_›) ?_)))
 intro w16 hb17
 replace hb17:=aj hb17 g14
 refine lx (cu (m:=bG a b p) (n:=0) rfl rfl) (mv (vb (decide ((bG a b p)=0))) ?_)
 by_cases q12:(bG a b p)=0
 ·
  refine lv (vp b3 0) (wy (dt q12)) (a7 cq rfl rfl rfl rfl) ?_
  replace bx5:=bx5.cn hb17
  refine lv (vi a.1) (wy (dt q12)) (a9 aG rfl bx5 rfl) (lv (vp b8 0) (wy (dt q12)) (a7 cq rfl rfl rfl rfl) ?_)
  replace bx10:=bx10.cn hb17
  refine lv (vi b.1) (wy (dt q12)) (a9 aG rfl bx10 rfl) (lv (vp b13 0) (wy (dt q12)) (a7 cq rfl rfl rfl rfl) ?_)
  replace bx15:=bx15.cn hb17
  refine lv (vi p.1) (wy (dt q12)) (a9 aG rfl bx15 rfl) (cj (wy (dt q12)) (aN (v:=vb (decide (min a.1 b.1<=p.1/\p.1<=max a.1 b.1))) (az (vals:=[vi a.1,vi b.1,vi p.1]) Try.func54 qd oW rfl) (l7 w16 a.1 b.1 p.1) ?_))
  intro w18 hb19
  replace hb19:=aj hb19 g14
  refine lw (vb (decide (min a.1 b.1<=p.1/\p.1<=max a.1 b.1))) (aD rfl (dt q12) rfl) (mv (vb (decide (min a.1 b.1<=p.1/\p.1<=max a.1 b.1))) ?_)
  by_cases q21:(decide (min a.1 b.1<=p.1/\p.1<=max a.1 b.1))=true
  ·
   refine lv (vp b3 1) (wy q21) (a7 cq rfl rfl rfl rfl) ?_
   replace bx5:=bx5.cn hb19
   refine lv (vi a.2) (wy q21) (a9 aG rfl bx5 rfl) (lv (vp b8 1) (wy q21) (a7 cq rfl rfl rfl rfl) ?_)
   replace bx10:=bx10.cn hb19
   refine lv (vi b.2) (wy q21) (a9 aG rfl bx10 rfl) (lv (vp b13 1) (wy q21) (a7 cq rfl rfl rfl rfl) ?_)
   replace bx15:=bx15.cn hb19
   refine lv (vi p.2) (wy q21) (a9 aG rfl bx15 rfl) (cj (wy q21) (aN (v:=vb (decide (min a.2 b.2<=p.2/\p.2<=max a.2 b.2))) (az (vals:=[vi a.2,vi b.2,vi p.2]) Try.func54 qd oW rfl) (l7 w18 a.2 b.2 p.2) ?_))
   intro w20 hb21
   replace hb21:=aj hb21 g14
   refine lw (vb (decide (min a.2 b.2<=p.2/\p.2<=max a.2 b.2))) (aD rfl q21 rfl) (ma (vb (decide (min a.2 b.2<=p.2/\p.2<=max a.2 b.2))) (a8 (av (vs:=[vb (decide (min a.2 b.2<=p.2/\p.2<=max a.2 b.2))]) Try.func43 (.tmp rfl .nil) ?_)))
   have e0:((decide (min a.2 b.2<=p.2/\p.2<=max a.2 b.2)):Bool)=(decide (cA a b p)):=by
     (rw[decide_eq_decide];exact⟨λh=>⟨by assumption,of_decide_eq_true ‹_›,h⟩,λh=>h.2.2⟩)
   have C22:=cg [] (ch2.n.seq (ch7.n.seq (ch12.n.seq (hb17.n.seq (hb19.n.seq hb21.n)))))
   replace bH:=bH.ca C22
   exact⟨(congrArg (a₁:=(decide (min a.2 b.2<=p.2/\p.2<=max a.2 b.2))) (λ(z0:Bool)=>Ending.returned (vb z0)) e0),bH.below⟩
  refine aa (wn (Bool.eq_false_iff.2 q21)) (aa (wn (Bool.eq_false_iff.2 q21)) (aa (wn (Bool.eq_false_iff.2 q21)) (aa (wn (Bool.eq_false_iff.2 q21)) (aa (wn (Bool.eq_false_iff.2 q21)) (aa (wn (Bool.eq_false_iff.2 q21)) (aa (wn (Bool.eq_false_iff.2 q21)) (lw (vb false) (aB rfl (Bool.eq_false_iff.2 q21) rfl) (ma (vb false) (a8 ?_)))))))))
  refine av (vs:=[vb false]) Try.func43 (.tmp rfl .nil) ?_
  have e0:(false:Bool)=(decide (cA a b p)):=by
    exact(df (λh=>absurd (dt h.2.1) ‹_›)).symm
  have C23:=cg [] (ch2.n.seq (ch7.n.seq (ch12.n.seq (hb17.n.seq hb19.n))))
  replace bH:=bH.ca C23
  exact⟨rb e0,bH.below⟩
 refine aa (wn (df q12)) (aa (wn (df q12)) (aa (wn (df q12)) (aa (wn (df q12)) (aa (wn (df q12)) (aa (wn (df q12)) (aa (wn (df q12)) (lw (vb false) (aB rfl (df q12) rfl) (mv (vb false) (aa (wn rfl) (aa (wn rfl) (aa (wn rfl) (aa (wn rfl) (aa (wn rfl) (aa (wn rfl) (aa (wn rfl) ?_)))))))))))))))
 refine lw (vb false) (aB rfl rfl rfl) (ma (vb false) (a8 (av (vs:=[vb false]) Try.func43 (.tmp rfl .nil) ?_)))
 have e0:(false:Bool)=(decide (cA a b p)):=by
   exact(df (λh=>absurd h.1 ‹_›)).symm
 have C24:=cg [] (ch2.n.seq (ch7.n.seq (ch12.n.seq hb17.n)))
 replace bH:=bH.ca C24
 exact⟨rb e0,bH.below⟩
set_option maxHeartbeats 4000000 in
theorem ll(w0:World)(a:Pt)(b:Pt)(c:Pt)(d:Pt)(ha:cV a)(hb:cV b)(hc:cV c)(hd:cV d):
    Calls Try.prog 42 #[vg [vi a.1,vi a.2],vg [vi b.1,vi b.2],vg [vi c.1,vi c.2],vg [vi d.1,vi d.2]] w0 (λee w=>ee= .returned (vi (bU a b c d))/\cW w0.heap.size w0 w):=by
 refine aI Try.func42 rfl nq ?_
 have bH:=bo.start w0
 have k1:=fx a b c
 have k2:=fx a b d
 have k3:=fx c d a
 have k4:=fx c d b
 have m1:=gB (x:=bG a b c) (y:=bG a b d) (by omega) (by omega)
 have m2:=gB (x:=bG c d a) (y:=bG c d b) (by omega) (by omega)
 refine a6 (a5 rfl (cj rfl (bA c0 (is 1) (1,0) rfl rfl ?_)))
 intro g4 w1 b3 ch2 bx5
 replace bx5:Bx g4 (is 1) w1 b3 [vi a.1,vi a.2]:=bx5
 refine lo (bA g4 (is 2) (2,0) rfl rfl ?_)
 intro g9 w6 b8 ch7 bx10
 replace bx10:Bx g9 (is 2) w6 b8 [vi b.1,vi b.2]:=bx10
 refine lo (bA g9 (is 3) (3,0) rfl rfl ?_)
 intro g14 w11 b13 ch12 bx15
 replace bx15:Bx g14 (is 3) w11 b13 [vi c.1,vi c.2]:=bx15
 refine lo (bA g14 (is 4) (4,0) rfl rfl ?_)
 intro g19 w16 b18 ch17 bx20
 replace bx20:Bx g19 (is 4) w16 b18 [vi d.1,vi d.2]:=bx20
 refine ai 0 (a8 (a6 (a6 ?_)))
 refine iI [false,false,true] (σ:=aW) (λgq f w=>bo w0 gq w/\f 4=vp b3 0/\f 5=vp b8 0/\f 6=vp b13 0/\f 7=vp b18 0/\Bx gq (is 1) w b3 [vi a.1,vi a.2]/\Bx gq (is 2) w b8 [vi b.1,vi b.2]/\Bx gq (is 3) w b13 [vi c.1,vi c.2]/\Bx gq (is 4) w b18 [vi d.1,vi d.2]/\(¬(bG a b c*bG a b d<0/\bG c d a*bG c d b<0))) ?_ ?_
 ·
  intro mid_j1
  refine bv g19 rfl nc (by kernel_rfl) ?_
  intro w22 ch21
  have C23:=cg [] (ch7.n.seq (ch12.n.seq (ch17.n.seq ch21.n)))
  replace bx5:=bx5.ca C23
  refine qx (λw' hw'=>ad (ds:=[vi a.1,vi a.2]) ah rfl (bx5.bel hw') rfl rfl) ?_
  have C24:=cg [] (ch12.n.seq (ch17.n.seq ch21.n))
  replace bx10:=bx10.ca C24
  refine qx (λw' hw'=>ad (ds:=[vi b.1,vi b.2]) ah rfl (bx10.bel hw') rfl rfl) ?_
  replace bx15:=(bx15.cn ch17).cn ch21
  refine qx (λw' hw'=>ad (ds:=[vi c.1,vi c.2]) ah rfl (bx15.bel hw') rfl rfl) (cb (v:=vi (bG a b c)) rfl (λw' hw'=>az (vals:=[vg [vi a.1,vi a.2],vg [vi b.1,vi b.2],vg [vi c.1,vi c.2]]) Try.func53 j1 jm rfl) (λw' hw'=>(jn w' a b c ‹_› ‹_› ‹_›).mono λe w2 h2=>⟨h2.1,hw'.trans (h2.2.mono hw'.size)⟩) (qx (λw' hw'=>ad (ds:=[vi a.1,vi a.2]) ah rfl (bx5.bel hw') rfl rfl) (qx (λw' hw'=>ad (ds:=[vi b.1,vi b.2]) ah rfl (bx10.bel hw') rfl rfl) ?_)))
  replace bx20:=bx20.cn ch21
  refine qx (λw' hw'=>ad (ds:=[vi d.1,vi d.2]) ah rfl (bx20.bel hw') rfl rfl) (cb (v:=vi (bG a b d)) rfl (λw' hw'=>az (vals:=[vg [vi a.1,vi a.2],vg [vi b.1,vi b.2],vg [vi d.1,vi d.2]]) Try.func53 j1 jm rfl) (λw' hw'=>(jn w' a b d ‹_› ‹_› ‹_›).mono λe w2 h2=>⟨h2.1,hw'.trans (h2.2.mono hw'.size)⟩) (qx (λw' hw'=>fV (m:=bG a b c) (n:=bG a b d) rfl rfl (by omega)) (qx (λw' hw'=>b6 (m:=(bG a b c)*(bG a b d)) (n:=0) rfl rfl) (qm (vb (decide (((bG a b c)*(bG a b d))<0))) ?_))))
  by_cases q25:((bG a b c)*(bG a b d))<0
  ·
   refine aR (v:=vg [vi c.1,vi c.2]) (wy (dt q25)) (λw' hw'=>ad (ds:=[vi c.1,vi c.2]) ah rfl (bx15.bel hw') rfl rfl) (aR (v:=vg [vi d.1,vi d.2]) (wy (dt q25)) (λw' hw'=>ad (ds:=[vi d.1,vi d.2]) ah rfl (bx20.bel hw') rfl rfl) (aR (v:=vg [vi a.1,vi a.2]) (wy (dt q25)) (λw' hw'=>ad (ds:=[vi a.1,vi a.2]) ah rfl (bx5.bel hw') rfl rfl) ?_))
   refine cb (v:=vi (bG c d a)) (wy (dt q25)) (λw' hw'=>az (vals:=[vg [vi c.1,vi c.2],vg [vi d.1,vi d.2],vg [vi a.1,vi a.2]]) Try.func53 j1 jm rfl) (λw' hw'=>(jn w' c d a ‹_› ‹_› ‹_›).mono λe w2 h2=>⟨h2.1,hw'.trans (h2.2.mono hw'.size)⟩) (aR (v:=vg [vi c.1,vi c.2]) (wy (dt q25)) (λw' hw'=>ad (ds:=[vi c.1,vi c.2]) ah rfl (bx15.bel hw') rfl rfl) ?_)
   refine aR (v:=vg [vi d.1,vi d.2]) (wy (dt q25)) (λw' hw'=>ad (ds:=[vi d.1,vi d.2]) ah rfl (bx20.bel hw') rfl rfl) (aR (v:=vg [vi b.1,vi b.2]) (wy (dt q25)) (λw' hw'=>ad (ds:=[vi b.1,vi b.2]) ah rfl (bx10.bel hw') rfl rfl) ?_)
   refine cb (v:=vi (bG c d b)) (wy (dt q25)) (λw' hw'=>az (vals:=[vg [vi c.1,vi c.2],vg [vi d.1,vi d.2],vg [vi b.1,vi b.2]]) Try.func53 j1 jm rfl) (λw' hw'=>(jn w' c d b ‹_› ‹_› ‹_›).mono λe w2 h2=>⟨h2.1,hw'.trans (h2.2.mono hw'.size)⟩) (aR (v:=vi ((bG c d a)*(bG c d b))) (wy (dt q25)) (λw' hw'=>fV (m:=bG c d a) (n:=bG c d b) rfl rfl (by omega)) (aR (v:=vb (decide (((bG c d a)*(bG c d b))<0))) (wy (dt q25)) (λw' hw'=>b6 (m:=(bG c d a)*(bG c d b)) (n:=0) rfl rfl) ?_))
   refine qv (vb (decide (((bG c d a)*(bG c d b))<0))) (λw' hw'=>aD rfl (dt q25) rfl) (bM ?_)
   intro w25 hc26
   replace hc26:=aj hc26 g19
   by_cases p1:((bG c d a)*(bG c d b))<0
   ·
    refine ae rfl (dt p1) (a6 ?_)
    clear bx5 bx10 bx15 bx20
    refine a5 rfl (ai 1 (a8 (av (vs:=[vi 1]) Try.func42 (.tmp rfl .nil) ?_)))
    have e0:(1:Int)=(bU a b c d):=by
      with_reducible exact oH ‹_› ‹_›
    have C27:=cg [] (ch2.n.seq (ch7.n.seq (ch12.n.seq (ch17.n.seq (ch21.n.seq hc26.n)))))
    replace bH:=bH.ca C27
    exact⟨ri e0,bH.below⟩
   refine af rfl (df p1) (am (a6 ?_))
   have C28:=cg [] (ch2.n.seq (ch7.n.seq (ch12.n.seq (ch17.n.seq (ch21.n.seq hc26.n)))))
   refine mid_j1 (g19) _ _ ⟨bH.ca C28,rfl,rfl,rfl,rfl,bx5.cn hc26,bx10.cn hc26,bx15.cn hc26,bx20.cn hc26,?_⟩
   show¬(bG a b c*bG a b d<0/\bG c d a*bG c d b<0)
   (rintro⟨_,_⟩;contradiction)
  refine aq (wn (df q25)) (aq (wn (df q25)) (aq (wn (df q25)) (aq (wn (df q25)) (aq (wn (df q25)) (aq (wn (df q25)) (aq (wn (df q25)) (aq (wn (df q25)) (aq (wn (df q25)) (aq (wn (df q25)) ?_)))))))))
  refine qv (vb false) (λw' hw'=>aB rfl (df q25) rfl) (bM ?_)
  intro w29 hc30
  replace hc30:=aj hc30 g19
  refine af rfl rfl (am (a6 ?_))
  have C31:=cg [] (ch2.n.seq (ch7.n.seq (ch12.n.seq (ch17.n.seq (ch21.n.seq hc30.n)))))
  refine mid_j1 (g19) _ _ ⟨bH.ca C31,rfl,rfl,rfl,rfl,bx5.cn hc30,bx10.cn hc30,bx15.cn hc30,bx20.cn hc30,?_⟩
  show¬(bG a b c*bG a b d<0/\bG c d a*bG c d b<0)
  (rintro⟨_,_⟩;contradiction)
 clear bx5 bx10 bx15 bx20 bH
 rintro g34 f32 w33 ⟨bH,z35_4,z35_5,z35_6,z35_7,bx5,bx10,bx15,bx20,hn1⟩
 refine a5 rfl (ma vn (a8 (a6 (a5 rfl (lx (ad (ds:=[vi a.1,vi a.2]) ah z35_4 bx5 rfl rfl) (lx (ad (ds:=[vi b.1,vi b.2]) ah z35_5 bx10 rfl rfl) (lx (ad (ds:=[vi c.1,vi c.2]) ah z35_6 bx15 rfl rfl) (lx (ad (ds:=[vi d.1,vi d.2]) ah z35_7 bx20 rfl rfl) (lo ?_)))))))))
 refine aC (α:=Pt) g34 (is 5) (is 5) (5,0) rfl ([a,b,c,d]:List Pt) bZ ah (by decide) (by decide) (vs:=[(0,vg [vi a.1,vi a.2]),(1,vg [vi b.1,vi b.2]),(2,vg [vi c.1,vi c.2]),(3,vg [vi d.1,vi d.2])]) rfl rfl (.cons rfl (.cons rfl (.cons rfl (.cons rfl .nil)))) ?_
 intro g36 w37 v38 ch39 o40
 refine ma v38 (a8 (a6 (a6 (a5 rfl (ai 0 (a8 (ao ?_)))))))
 refine bf (σ:=Value×(List Pt)×Nat×aW) (λ⟨l_v,l,i,gq⟩ f w=>bo w0 gq w/\f 4=vp b3 0/\f 5=vp b8 0/\f 6=vp b13 0/\f 7=vp b18 0/\f 9=l_v/\f 10=v38/\f 11=vi ↑i/\Bx gq (is 1) w b3 [vi a.1,vi a.2]/\Bx gq (is 2) w b8 [vi b.1,vi b.2]/\Bx gq (is 3) w b13 [vi c.1,vi c.2]/\Bx gq (is 4) w b18 [vi d.1,vi d.2]/\Ow gq (is 5) (is 5) w v38 ([a,b,c,d]:List Pt)/\Ow gq (is 8) (is 8) w l_v l/\(i:Int)<=(4:Int)/\(l=dK a b c d [a,b,c,d] i/\i<=4)) (λ⟨l_v,l,i,gq⟩=>4-i) (vn,[],0,g36) ?_ ?_
 · exact⟨bH.cn ch39,z35_4,z35_5,z35_6,z35_7,rfl,rfl,rfl,bx5.cn ch39,bx10.cn ch39,bx15.cn ch39,bx20.cn ch39,o40,Ow.nil,by omega,by exact⟨rfl,by omega⟩⟩
 clear bx5 bx10 bx15 bx20 o40 bH
 rintro⟨l_v,l,i,g43⟩ f41 w42 ⟨bH,zs4,zs5,zs6,zs7,zs9,zs10,zs11,bx5,bx10,bx15,bx20,o40,o_l,hle_i,hinv⟩ back6
 obtain⟨hl,hi4⟩:=hinv
 have hll:l.length<=i:=by rw[hl];exact mY i
 refine a6 (a6 (a5 rfl (mz zs11 (lx (b6 (m:=↑i) (n:=4) rfl rfl) (a8 ?_)))))
 by_cases p6:(i:Int)<4
 ·
  refine ae rfl (dt p6) ?_
  have hei:=qh ha hb hc hd (i:=i) ‹_›
  refine am (a6 (ao (a6 (a5 rfl (mz zs10 (mz zs11 (lx (ab (v:=v38) (i:=↑i) bZ rfl rfl o40.flat rfl (by omega) (by omega)) (lw (vg [vi ((gI ([a,b,c,d]:List Pt) (i:Int)).1),vi ((gI ([a,b,c,d]:List Pt) (i:Int)).2)]) (aM (v:=v38) (i:=↑i) ah rfl o40.flat (by omega) (by omega) rfl) (lo (bB g43 (is 6) (6,0) rfl ah ?_))))))))))
  intro g47 w44 b46 ch45 bx48
  replace bx48:Bx g47 (is 6) w44 b46 [vi 0,vi 0]:=bx48
  refine lo (au (cs':=[vi ((gI ([a,b,c,d]:List Pt) (i:Int)).1),vi ((gI ([a,b,c,d]:List Pt) (i:Int)).2)]) ah rfl rfl bx48 rfl nq (AllOne.all (.cons rfl (.cons rfl .nil))) rfl ?_)
  intro w49 ch50 bx51
  clear bx48
  refine a8 (a6 (a6 (a5 rfl ?_)))
  replace bx5:=(bx5.cn ch45).ce ch50
  refine lx (ad (ds:=[vi a.1,vi a.2]) ah zs4 bx5 rfl rfl) ?_
  replace bx10:=(bx10.cn ch45).ce ch50
  refine lx (ad (ds:=[vi b.1,vi b.2]) ah zs5 bx10 rfl rfl) (lx (ad (ds:=[vi ((gI ([a,b,c,d]:List Pt) (i:Int)).1),vi ((gI ([a,b,c,d]:List Pt) (i:Int)).2)]) ah rfl bx51 rfl rfl) (lo (aN (v:=vb (decide (cA a b (gI ([a,b,c,d]:List Pt) (i:Int))))) (az (vals:=[vg [vi a.1,vi a.2],vg [vi b.1,vi b.2],vg [vi ((gI ([a,b,c,d]:List Pt) (i:Int)).1),vi ((gI ([a,b,c,d]:List Pt) (i:Int)).2)]]) Try.func43 gj gp rfl) (gc w49 a b (gI ([a,b,c,d]:List Pt) (i:Int)) ‹_› ‹_› ‹_›) ?_)))
  intro w52 hb53
  replace hb53:=aj hb53 g47
  refine lx (cm (b:=(decide (cA a b (gI ([a,b,c,d]:List Pt) (i:Int))))) rfl) (mv (vb (!(decide (cA a b (gI ([a,b,c,d]:List Pt) (i:Int)))))) ?_)
  by_cases q55:(decide (cA a b (gI ([a,b,c,d]:List Pt) (i:Int))))=true
  ·
   have C54:=cg [6] (ch45.n.seq ((ch50.l rfl).seq hb53.n))
   replace bx15:=bx15.ca C54
   refine lv (vg [vi c.1,vi c.2]) (wy (congrArg Bool.not q55)) (ad (ds:=[vi c.1,vi c.2]) ah zs6 bx15 rfl rfl) ?_
   replace bx20:=bx20.ca C54
   refine lv (vg [vi d.1,vi d.2]) (wy (congrArg Bool.not q55)) (ad (ds:=[vi d.1,vi d.2]) ah zs7 bx20 rfl rfl) ?_
   replace bx51:=bx51.cn hb53
   refine lv (vg [vi ((gI ([a,b,c,d]:List Pt) (i:Int)).1),vi ((gI ([a,b,c,d]:List Pt) (i:Int)).2)]) (wy (congrArg Bool.not q55)) (ad (ds:=[vi ((gI ([a,b,c,d]:List Pt) (i:Int)).1),vi ((gI ([a,b,c,d]:List Pt) (i:Int)).2)]) ah rfl bx51 rfl rfl) (cj (wy (congrArg Bool.not q55)) ?_)
   refine aN (v:=vb (decide (cA c d (gI ([a,b,c,d]:List Pt) (i:Int))))) (az (vals:=[vg [vi c.1,vi c.2],vg [vi d.1,vi d.2],vg [vi ((gI ([a,b,c,d]:List Pt) (i:Int)).1),vi ((gI ([a,b,c,d]:List Pt) (i:Int)).2)]]) Try.func43 gj gp rfl) (gc w52 c d (gI ([a,b,c,d]:List Pt) (i:Int)) ‹_› ‹_› ‹_›) ?_
   intro w55 hb56
   replace hb56:=aj hb56 g47
   refine lv (vb (!(decide (cA c d (gI ([a,b,c,d]:List Pt) (i:Int)))))) (wy (congrArg Bool.not q55)) (cm (b:=(decide (cA c d (gI ([a,b,c,d]:List Pt) (i:Int))))) rfl) (lw (vb (!(decide (cA c d (gI ([a,b,c,d]:List Pt) (i:Int)))))) (aB rfl (congrArg Bool.not q55) rfl) (a8 ?_))
   by_cases p9:(decide (cA c d (gI ([a,b,c,d]:List Pt) (i:Int))))=true
   ·
    refine af rfl (congrArg Bool.not p9) (am (a6 (a5 rfl (ma (vb true) (a8 (a6 (a6 (a5 rfl (ai 0 (a8 (ao ?_)))))))))))
    refine bf (σ:=Bool×Nat×aW) (λ⟨fr,k,gq⟩ f w=>bo w0 gq w/\f 4=vp b3 0/\f 5=vp b8 0/\f 6=vp b13 0/\f 7=vp b18 0/\f 9=l_v/\f 10=v38/\f 11=vi ↑i/\f 12=vp b46 0/\f 13=vb fr/\f 14=vi ↑k/\Bx gq (is 1) w b3 [vi a.1,vi a.2]/\Bx gq (is 2) w b8 [vi b.1,vi b.2]/\Bx gq (is 3) w b13 [vi c.1,vi c.2]/\Bx gq (is 4) w b18 [vi d.1,vi d.2]/\Ow gq (is 5) (is 5) w v38 ([a,b,c,d]:List Pt)/\Ow gq (is 8) (is 8) w l_v l/\Bx gq (is 6) w b46 [vi ((gI ([a,b,c,d]:List Pt) (i:Int)).1),vi ((gI ([a,b,c,d]:List Pt) (i:Int)).2)]/\(k:Int)<=((l.length:Int):Int)/\(fr=sI l (gI [a,b,c,d] (i:Int)) k/\k<=l.length)) (λ⟨fr,k,gq⟩=>Int.toNat (((l.length:Int):Int)-(k:Int))) (true,0,g47) ?_ ?_
    have C57:=cg [6] (ch45.n.seq ((ch50.l rfl).seq (hb53.n.seq hb56.n)))
    · exact⟨bH.ca C57,zs4,zs5,zs6,zs7,zs9,zs10,zs11,rfl,rfl,rfl,(bx5.cn hb53).cn hb56,(bx10.cn hb53).cn hb56,bx15.cn hb56,bx20.cn hb56,o40.ca C57,o_l.ca C57,bx51.cn hb56,by omega,by exact⟨rfl,by omega⟩⟩
    clear bx5 bx10 bx15 bx20 o40 o_l bx51 bH
    rintro⟨fr,k,g60⟩ f58 w59 ⟨bH,zs4,zs5,zs6,zs7,zs9,zs10,zs11,zs12,zs13,zs14,bx5,bx10,bx15,bx20,o40,o_l,bx51,hle_k,hfk⟩ back12
    obtain⟨hfr,hk2⟩:=hfk
    refine a6 (a6 (a5 rfl (mz zs14 (mz zs9 ?_))))
    have len61:=(o_l.flat).small
    refine lx (bE bZ rfl o_l.flat) (lx (b6 (m:=↑k) (n:=(l.length:Int)) rfl rfl) (a8 ?_))
    by_cases p12:(k:Int)<(l.length:Int)
    ·
     refine ae rfl (dt p12) (am (a6 (ao (bv g60 rfl nc (by kernel_rfl) ?_))))
     intro w63 ch62
     refine qz zs13 (qm (vb fr) ?_)
     by_cases q69:fr=true
     ·
      refine aR (v:=l_v) (wy q69) (λw' hw'=>aw zs9) (aR (v:=vi ↑k) (wy q69) (λw' hw'=>aw zs14) ?_)
      replace o_l:=o_l.cn ch62
      refine aR (v:=Value.pointer (some (aU l_v 2 (Int.toNat ↑k)))) (wy q69) (λw' hw'=>ab (α:=Pt) (xs:=l) (v:=l_v) (i:=↑k) bZ rfl rfl (o_l.flat.bel hw') rfl (by omega) (by omega)) (aR (v:=vg [vi ((gI l ↑k).1),vi ((gI l ↑k).2)]) (wy q69) (λw' hw'=>aM (α:=Pt) (xs:=l) (v:=l_v) (i:=↑k) ah rfl (o_l.flat.bel hw') (by omega) (by omega) rfl) ?_)
      replace bx51:=bx51.cn ch62
      refine aR (v:=vg [vi ((gI ([a,b,c,d]:List Pt) (i:Int)).1),vi ((gI ([a,b,c,d]:List Pt) (i:Int)).2)]) (wy q69) (λw' hw'=>ad (ds:=[vi ((gI ([a,b,c,d]:List Pt) (i:Int)).1),vi ((gI ([a,b,c,d]:List Pt) (i:Int)).2)]) ah zs12 (bx51.bel hw') rfl rfl) ?_
      refine aR (v:=vb (!(decide ((gI l ↑k)=(gI ([a,b,c,d]:List Pt) (i:Int)))))) (wy q69) (λw' hw'=>dD (bs:=[decide (((gI l ↑k).1)=((gI ([a,b,c,d]:List Pt) (i:Int)).1)),decide (((gI l ↑k).2)=((gI ([a,b,c,d]:List Pt) (i:Int)).2))]) cq (by kernel_rfl) (by kernel_rfl) rfl rfl (.cons (by decide+kernel) aG rfl rfl (.int U3) (.cons (by decide+kernel) aG rfl rfl (.int U3) .nil)) (by simp[Prod.ext_iff,Bool.decide_and,Bool.and_assoc])) (qv (vb (!(decide ((gI l ↑k)=(gI ([a,b,c,d]:List Pt) (i:Int)))))) (λw' hw'=>aD rfl q69 rfl) (qv (vb (!(decide ((gI l ↑k)=(gI ([a,b,c,d]:List Pt) (i:Int)))))) (λw' hw'=>bi rfl) (bM ?_)))
      intro w64 hc65
      replace hc65:=aj hc65 g60
      refine ak (a5 rfl (mz zs14 (lx (aQ (m:=↑k) (n:=1) rfl rfl (by omega)) (ai ((k:Int)+1) (a8 ?_)))))
      replace bH:=bH.cn ch62
      refine back12 (!(decide ((gI l ↑k)=(gI ([a,b,c,d]:List Pt) (i:Int)))),k+1,g60) _ _ ⟨bH.cn hc65,zs4,zs5,zs6,zs7,zs9,zs10,zs11,zs12,rfl,rfl,(bx5.cn ch62).cn hc65,(bx10.cn ch62).cn hc65,(bx15.cn ch62).cn hc65,(bx20.cn ch62).cn hc65,(o40.cn ch62).cn hc65,o_l.cn hc65,bx51.cn hc65,by omega,?_⟩ ?_
      · show(!(decide ((gI l ↑k)=(gI ([a,b,c,d]:List Pt) (i:Int)))))=sI l (gI [a,b,c,d] (i:Int)) (k+1)/\(k+1)<=l.length
        refine⟨?_,by omega⟩
        (rw[sI,<-hfr,(show fr=true by assumption)];rfl)
      · show Int.toNat (((l.length:Int):Int)-((k+1):Int))<Int.toNat (((l.length:Int):Int)-(k:Int))
        omega
     refine aq (wn (Bool.eq_false_iff.2 q69)) (aq (wn (Bool.eq_false_iff.2 q69)) (aq (wn (Bool.eq_false_iff.2 q69)) (aq (wn (Bool.eq_false_iff.2 q69)) (aq (wn (Bool.eq_false_iff.2 q69)) (aq (wn (Bool.eq_false_iff.2 q69)) (qv (vb false) (λw' hw'=>aB rfl (Bool.eq_false_iff.2 q69) rfl) (qv (vb false) (λw' hw'=>bi rfl) (bM ?_))))))))
     intro w66 hc67
     replace hc67:=aj hc67 g60
     refine ak (a5 rfl (mz zs14 (lx (aQ (m:=↑k) (n:=1) rfl rfl (by omega)) (ai ((k:Int)+1) (a8 ?_)))))
     replace bH:=bH.cn ch62
     refine back12 (false,k+1,g60) _ _ ⟨bH.cn hc67,zs4,zs5,zs6,zs7,zs9,zs10,zs11,zs12,rfl,rfl,(bx5.cn ch62).cn hc67,(bx10.cn ch62).cn hc67,(bx15.cn ch62).cn hc67,(bx20.cn ch62).cn hc67,(o40.cn ch62).cn hc67,(o_l.cn ch62).cn hc67,(bx51.cn ch62).cn hc67,by omega,?_⟩ ?_
     · show false=sI l (gI [a,b,c,d] (i:Int)) (k+1)/\(k+1)<=l.length
       refine⟨?_,by omega⟩
       (rw[sI,<-hfr,Bool.eq_false_iff.2 (show¬fr=true by assumption)];rfl)
     · show Int.toNat (((l.length:Int):Int)-((k+1):Int))<Int.toNat (((l.length:Int):Int)-(k:Int))
       omega
    refine af rfl (df p12) (aO rfl (a6 (a5 rfl (mz zs13 (a8 ?_)))))
    by_cases p15:fr=true
    ·
     refine ae rfl p15 (a5 rfl (mz zs9 (lx (ad (ds:=[vi ((gI ([a,b,c,d]:List Pt) (i:Int)).1),vi ((gI ([a,b,c,d]:List Pt) (i:Int)).2)]) ah zs12 bx51 rfl rfl) (lo (aC (α:=Pt) g60 (is 7) (is 7) (7,0) rfl ([(gI ([a,b,c,d]:List Pt) (i:Int))]:List Pt) bZ ah (by decide) (by decide) (vs:=[(0,vg [vi ((gI ([a,b,c,d]:List Pt) (i:Int)).1),vi ((gI ([a,b,c,d]:List Pt) (i:Int)).2)])]) rfl rfl (.cons rfl .nil) ?_)))))
     intro g68 w69 v70 ch71 o72
     refine lo ?_
     replace o_l:=o_l.cn ch71
     refine b9 (α:=Pt) (xs:=l) (ys:=([(gI ([a,b,c,d]:List Pt) (i:Int))]:List Pt)) g68 (J:=is 8) (S:=is 8) (8,0) rfl bZ ah (by decide) rfl rfl rfl o_l o72.flat (by decide) (by(simp;omega)) ?_
     intro g73 w74 v75 ch76 o77
     clear o_l
     refine ma v75 (a8 (ak ?_))
     clear bx51 o72
     refine a5 rfl (mz zs11 (lx (aQ (m:=↑i) (n:=1) rfl rfl (by omega)) (ai ((i:Int)+1) (a8 ?_))))
     replace bH:=bH.cn ch71
     refine back6 (v75,(l++([(gI ([a,b,c,d]:List Pt) (i:Int))]:List Pt)),i+1,g73) _ _ ⟨bH.ce ch76,zs4,zs5,zs6,zs7,rfl,zs10,rfl,(bx5.cn ch71).ce ch76,(bx10.cn ch71).ce ch76,(bx15.cn ch71).ce ch76,(bx20.cn ch71).ce ch76,(o40.cn ch71).ce ch76,o77,by omega,?_⟩ ?_
     · show(l++([(gI ([a,b,c,d]:List Pt) (i:Int))]:List Pt))=dK a b c d [a,b,c,d] (i+1)/\(i+1)<=4
       refine⟨?_,by omega⟩
       exact qI hl ⟨of_decide_eq_true ‹_›,of_decide_eq_true ‹_›⟩ ((v5 ‹_› hk2).1 (by rw[<-hfr];assumption))
     · show 4-(i+1)<4-i
       omega
    refine af rfl (Bool.eq_false_iff.2 p15) (am (ak ?_))
    clear bx51
    refine a5 rfl (mz zs11 (lx (aQ (m:=↑i) (n:=1) rfl rfl (by omega)) (ai ((i:Int)+1) (a8 ?_))))
    refine back6 (l_v,l,i+1,g60) _ _ ⟨bH,zs4,zs5,zs6,zs7,zs9,zs10,rfl,bx5,bx10,bx15,bx20,o40,o_l,by omega,?_⟩ ?_
    · show l=dK a b c d [a,b,c,d] (i+1)/\(i+1)<=4
      refine⟨?_,by omega⟩
      exact rF hl (Classical.byContradiction λhm=>absurd (hfr.trans ((v5 ‹_› hk2).2 hm)) ‹_›)
    · show 4-(i+1)<4-i
      omega
   refine ae rfl (congrArg Bool.not (Bool.eq_false_iff.2 p9)) (aO rfl ?_)
   clear bx51
   refine a5 rfl (mz zs11 (lx (aQ (m:=↑i) (n:=1) rfl rfl (by omega)) (ai ((i:Int)+1) (a8 ?_))))
   have C78:=cg [6] (ch45.n.seq ((ch50.l rfl).seq (hb53.n.seq hb56.n)))
   refine back6 (l_v,l,i+1,g47) _ _ ⟨bH.ca C78,zs4,zs5,zs6,zs7,zs9,zs10,rfl,(bx5.cn hb53).cn hb56,(bx10.cn hb53).cn hb56,bx15.cn hb56,bx20.cn hb56,o40.ca C78,o_l.ca C78,by omega,?_⟩ ?_
   · show l=dK a b c d [a,b,c,d] (i+1)/\(i+1)<=4
     refine⟨?_,by omega⟩
     exact mJ hl (λh=>absurd (dt h.2) ‹_›)
   · show 4-(i+1)<4-i
     omega
  refine aa (wn (congrArg Bool.not (Bool.eq_false_iff.2 q55))) (aa (wn (congrArg Bool.not (Bool.eq_false_iff.2 q55))) (aa (wn (congrArg Bool.not (Bool.eq_false_iff.2 q55))) (aa (wn (congrArg Bool.not (Bool.eq_false_iff.2 q55))) (aa (wn (congrArg Bool.not (Bool.eq_false_iff.2 q55))) (lw (vb true) (aD rfl (congrArg Bool.not (Bool.eq_false_iff.2 q55)) rfl) (a8 (ae rfl rfl (aO rfl ?_))))))))
  clear bx51
  refine a5 rfl (mz zs11 (lx (aQ (m:=↑i) (n:=1) rfl rfl (by omega)) (ai ((i:Int)+1) (a8 ?_))))
  have C79:=cg [6] (ch45.n.seq ((ch50.l rfl).seq hb53.n))
  refine back6 (l_v,l,i+1,g47) _ _ ⟨bH.ca C79,zs4,zs5,zs6,zs7,zs9,zs10,rfl,bx5.cn hb53,bx10.cn hb53,bx15.ca C79,bx20.ca C79,o40.ca C79,o_l.ca C79,by omega,?_⟩ ?_
  · show l=dK a b c d [a,b,c,d] (i+1)/\(i+1)<=4
    refine⟨?_,by omega⟩
    exact mJ hl (λh=>absurd (dt h.1) ‹_›)
  · show 4-(i+1)<4-i
    omega
 refine af rfl (df p6) (aO rfl (a6 (a6 ?_)))
 clear bx5 bx10 bx15 bx20 o40
 have hE:l=dK a b c d [a,b,c,d] 4:=by rw[hl,show i=4 by omega]
 have hnc:¬eO a b c d:=hn1
 obtain⟨hr1,hr2,hr3⟩:=ta hE hnc
 refine a5 rfl (mz zs9 ?_)
 have len80:=(o_l.flat).small
 refine lx (bE bZ rfl o_l.flat) (a8 (ao (a6 ?_)))
 clear o_l
 refine a5 rfl (lx (cu (m:=(l.length:Int)) (n:=0) rfl rfl) (ma (vb (decide ((l.length:Int)=0))) (a8 ?_)))
 by_cases p18:(l.length:Int)=0
 ·
  refine ae rfl (dt p18) (a6 (a5 rfl (ai 0 (a8 (av (vs:=[vi 0]) Try.func42 (.tmp rfl .nil) ?_)))))
  have e0:(0:Int)=(bU a b c d):=by
    exact hr1 (by omega)
  exact⟨ri e0,bH.below⟩
 refine af rfl (df p18) (a6 (a5 rfl (lx (cu (m:=(l.length:Int)) (n:=1) rfl rfl) (ma (vb (decide ((l.length:Int)=1))) (a8 ?_)))))
 by_cases p20:(l.length:Int)=1
 ·
  refine ae rfl (dt p20) (a6 (a5 rfl (ai 2 (a8 (av (vs:=[vi 2]) Try.func42 (.tmp rfl .nil) ?_)))))
  have e0:(2:Int)=(bU a b c d):=by
    exact hr2 (by omega)
  exact⟨ri e0,bH.below⟩
 refine af rfl (df p20) (am (ak (a6 (a5 rfl (ai 3 (a8 (av (vs:=[vi 3]) Try.func42 (.tmp rfl .nil) ?_)))))))
 have e0:(3:Int)=(bU a b c d):=by
   exact hr3 (by omega) (by omega)
 exact⟨ri e0,bH.below⟩
end TL
