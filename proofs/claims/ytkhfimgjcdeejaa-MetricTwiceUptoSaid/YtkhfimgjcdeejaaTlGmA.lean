import Derived.Test.YtkhfimgjcdeejaaTlP2
import Derived.Test.YtkhfimgjcdeejaaProg
import Derived.Test.YtkhfimgjcdeejaaTlAli
set_option linter.all false
set_option maxRecDepth 20000
namespace TL
open Go Go.Proofs
theorem kC:Try.prog.follows .mixedOrders=true:=by kernel_rfl
theorem aL:Tp Try.prog 3 false 1 8 (.int .i64 0):=Tp.of (by kernel_rfl)
theorem aj:Tp Try.prog 26 true 2 16 (.agg #[.int .i64 0,.int .i64 0]):=Tp.of (by kernel_rfl)
theorem oK:Try.f58.body.isNone=false:=rfl
theorem oZ:(Try.f58.name== "runtime.NumGoroutine")=false:=by decide+kernel
theorem gE:Try.f59.body.isNone=false:=rfl
theorem gj:(Try.f59.name== "runtime.NumGoroutine")=false:=by decide+kernel
theorem js:Try.f64.body.isNone=false:=rfl
theorem jL:(Try.f64.name== "runtime.NumGoroutine")=false:=by decide+kernel
theorem qi:Try.f65.body.isNone=false:=rfl
theorem oX:(Try.f65.name== "runtime.NumGoroutine")=false:=by decide+kernel
theorem mh:Try.f66.body.isNone=false:=rfl
theorem mC:(Try.f66.name== "runtime.NumGoroutine")=false:=by decide+kernel
theorem mc:Try.f68.body.isNone=false:=rfl
theorem lT:(Try.f68.name== "runtime.NumGoroutine")=false:=by decide+kernel
theorem pC:Try.f69.body.isNone=false:=rfl
theorem pP:(Try.f69.name== "runtime.NumGoroutine")=false:=by decide+kernel
theorem kB(w0:World)(x:Int):
    Calls Try.prog 68 #[vi x] w0 (λee w=>ee= .returned (vb false)/\cG w0.heap.size w0 w):=by
 refine aK Try.func68 rfl nq ?_
 have bH:=bu.start w0
 refine a8 (a7 rfl (ma (vb false) (ab (a8 (a7 rfl (mi x (mi x (lx (fM (m:=x) (n:=x) rfl rfl) (ma (vb (!(decide (x=x)))) (ab (aw (vs:=[vb (!(decide (x=x)))]) Try.func68 (.tmp rfl .nil) ?_)))))))))))
 have e0:(!(decide (x=x)):Bool)=(false):=by
   simp
 exact⟨(congrArg (a₁:= !(decide (x=x))) (λ(z0:Bool)=>Ending.returned (vb z0)) e0),bH.below⟩
theorem fP(w0:World)(x:Int)(y:Int):
    Calls Try.prog 64 #[vi x,vi y] w0 (λee w=>ee= .returned (vi (cV x y))/\cG w0.heap.size w0 w):=by
 refine aK Try.func64 rfl nq ?_
 have bH:=bu.start w0
 refine a8 (a7 rfl (ai 0 (ab (a8 (a7 rfl (mi x (lo (aP (v:=vb false) (aG (vals:=[vi x]) Try.func68 mc lT rfl) (kB w0 x) ?_))))))))
 intro w1 hb2
 replace hb2:=am hb2 c0
 refine ma (vb false) (ab (a8 (a7 rfl (mi y (lo (aP (v:=vb false) (aG (vals:=[vi y]) Try.func68 mc lT rfl) (kB w1 y) ?_))))))
 intro w3 hb4
 replace hb4:=am hb4 c0
 refine ma (vb false) (ab (a8 (a8 (a7 rfl (mv (vb false) (ab (ah rfl rfl (au (a8 (a8 (a7 rfl (mv (vb false) (ab (ah rfl rfl ?_))))))))))))))
 refine au (a8 (a8 (a7 rfl (mi x (mi y (lx (bc (m:=x) (n:=y) rfl rfl) (ab ?_)))))))
 by_cases p9:x<y
 ·
  refine ag rfl (dt p9) (a8 (a7 rfl (ai (-1) (ab (aw (vs:=[vi (-1)]) Try.func64 (.tmp rfl .nil) ?_)))))
  have e0:(-1:Int)=(cV x y):=by
    unfold cV
    rw[if_pos ‹_›]
  replace bH:=bH.cn hb2
  replace bH:=bH.cn hb4
  exact⟨ri e0,bH.below⟩
 refine ah rfl (df p9) (au (a8 (a8 (a7 rfl (mi x (mi y (lx (ez (m:=x) (n:=y) rfl rfl) (ab ?_))))))))
 by_cases p11:y<x
 ·
  refine ag rfl (dt p11) (a8 (a7 rfl (ai 1 (ab (aw (vs:=[vi 1]) Try.func64 (.tmp rfl .nil) ?_)))))
  have e0:(1:Int)=(cV x y):=by
    unfold cV
    rw[if_neg ‹_›,if_pos ‹_›]
  replace bH:=bH.cn hb2
  replace bH:=bH.cn hb4
  exact⟨ri e0,bH.below⟩
 refine ah rfl (df p11) (au (a8 (a7 rfl (ai 0 (ab (aw (vs:=[vi 0]) Try.func64 (.tmp rfl .nil) ?_))))))
 have e0:(0:Int)=(cV x y):=by
   unfold cV
   rw[if_neg ‹_›,if_neg ‹_›]
 replace bH:=bH.cn hb2
 replace bH:=bH.cn hb4
 exact⟨ri e0,bH.below⟩
theorem sr(w0:World)(vals:List Int)(vals_v:Value)(hvals_v:Ro w0 vals_v vals):
    Calls Try.prog 69 #[vals_v] w0 (λee w=>ee= .returned (vi (kO vals))/\cG w0.heap.size w0 w):=by
 refine aK Try.func69 rfl nq ?_
 have bH:=bu.start w0
 have Rvals:=hvals_v.sl
 refine a8 (a7 rfl (ai 0 (ab (a8 (a7 rfl (ai 0 (ab (a8 (a8 (a7 rfl (mv vals_v ?_)))))))))))
 have len1:=(Rvals).small
 refine lx (bO sn rfl Rvals) (mi 0 (ab (aC ?_)))
 refine bF (σ:=Nat×aV) (λ⟨k,gq⟩ f w=>bu w0 gq w/\f 3=vi 0/\f 6=vals_v/\f 7=vi (vals.length:Int)/\f 8=vi ↑k/\Sl gq (is 0) w vals_v vals/\(k:Int)<=((vals.length:Int):Int)/\(∀j:Nat,j<k->gI vals ↑j=0)) (λ⟨k,gq⟩=>Int.toNat (((vals.length:Int):Int)-(k:Int))) (0,c0) ?_ ?_
 · exact⟨bH,rfl,rfl,rfl,rfl,Rvals,by omega,by intro j hj;omega⟩
 clear Rvals bH
 rintro⟨k,g4⟩ f2 w3 ⟨bH,zs3,zs6,zs7,zs8,Rvals,hle_k,hinv⟩ back3
 refine a8 (a7 rfl (lx (bc (m:=↑k) (n:=(vals.length:Int)) zs8 zs7) (ab (a8 ?_))))
 by_cases p3:(k:Int)<(vals.length:Int)
 ·
  refine ag rfl (dt p3) (au (a8 (aC (a8 (a7 rfl (lx (af (v:=vals_v) (i:=↑k) sn rfl zs6 Rvals zs8 (by omega) (by omega)) (lx (e6 (v:=vals_v) (i:=↑k) aL rfl Rvals (by omega) (by omega) (by decide) rfl) (ai (gI vals ↑k) (ab (a8 (a7 rfl (mi (gI vals ↑k) ?_))))))))))))
  refine mz zs3 (lx (fM (m:=(gI vals ↑k)) (n:=0) rfl rfl) (ab ?_))
  by_cases p5:(gI vals ↑k)=0
  ·
   refine ah rfl (congrArg Bool.not (dt p5)) (au (ap (a7 rfl (lx (ba (m:=↑k) (n:=1) zs8 rfl (by omega)) (mi ((k:Int)+1) (ab ?_))))))
   refine back3 (k+1,g4) _ _ ⟨bH,zs3,zs6,zs7,rfl,Rvals,by omega,?_⟩ ?_
   · show∀j:Nat,j<(k+1)->gI vals ↑j=0
     intro j hj
     by_cases e0:j=k
     · subst e0;assumption
     · exact hinv j (by omega)
   · show Int.toNat (((vals.length:Int):Int)-((k+1):Int))<Int.toNat (((vals.length:Int):Int)-(k:Int))
     omega
  refine ag rfl (congrArg Bool.not (df p5)) (a8 (a7 rfl (mi (gI vals ↑k) (ai (gI vals ↑k) (ab (aw (vs:=[vi (gI vals ↑k)]) Try.func69 (.tmp rfl .nil) ?_))))))
  have e0:((gI vals ↑k):Int)=(kO vals):=by
    exact nS hinv ‹_› ‹_›
  exact⟨ri e0,bH.below⟩
 refine ah rfl (df p3) (aQ rfl (a8 (a7 rfl (mz zs3 (ai 0 (ab (aw (vs:=[vi 0]) Try.func69 (.tmp rfl .nil) ?_)))))))
 have e0:(0:Int)=(kO vals):=by
   exact nM hinv ‹_›
 exact⟨ri e0,bH.below⟩
theorem kh(w0:World)(b:Pt)(a:Pt)(hb:jO b)(ha:jO a):
    Calls Try.prog 66 #[vg [vi b.1,vi b.2],vg [vi a.1,vi a.2]] w0 (λee w=>ee= .returned (vg [vi ((eR b a).1),vi ((eR b a).2)])/\cG w0.heap.size w0 w):=by
 refine aK Try.func66 rfl nq ?_
 have bH:=bu.start w0
 unfold jO at hb ha
 refine a8 (a7 rfl (cN rfl (bC c0 (is 1) (1,0) rfl rfl ?_)))
 intro g4 w1 b3 ch2 bx5
 replace bx5:Bx g4 (is 1) w1 b3 [vi b.1,vi b.2]:=bx5
 refine lo (bC g4 (is 2) (2,0) rfl rfl ?_)
 intro g9 w6 b8 ch7 bx10
 replace bx10:Bx g9 (is 2) w6 b8 [vi a.1,vi a.2]:=bx10
 refine lo (bo g9 (is 3) (3,0) rfl aj ?_)
 intro g14 w11 b13 ch12 bx15
 replace bx15:Bx g14 (is 3) w11 b13 [vi 0,vi 0]:=bx15
 refine ab (a8 (a7 rfl (lx (a9 cL rfl rfl rfl rfl) ?_)))
 replace bx5:=(bx5.cn ch7).cn ch12
 refine lx (aa aL rfl bx5 rfl) (lx (a9 cL rfl rfl rfl rfl) ?_)
 replace bx10:=bx10.cn ch12
 refine lx (aa aL rfl bx10 rfl) (lx (cW (m:=b.1) (n:=a.1) rfl rfl (by omega)) (lx (a9 cL rfl rfl rfl rfl) (lx (aa aL rfl bx5 rfl) (lx (a9 cL rfl rfl rfl rfl) (lx (aa aL rfl bx10 rfl) (lx (cW (m:=b.2) (n:=a.2) rfl rfl (by omega)) (lw (vg [vi (b.1-a.1),vi (b.2-a.2)]) (bB (vs:=[(0,vi (b.1-a.1)),(1,vi (b.2-a.2))]) rfl (by kernel_rfl)) (lo (ao (cs':=[vi (b.1-a.1),vi (b.2-a.2)]) aj rfl rfl bx15 rfl nq (AllOne.all (.cons rfl (.cons rfl .nil))) rfl ?_)))))))))
 intro w16 ch17 bx18
 clear bx15
 refine ab (aw (vs:=[vg [vi (b.1-a.1),vi (b.2-a.2)]]) Try.func66 (.cell rfl (bM (ds:=[vi (b.1-a.1),vi (b.2-a.2)]) aj bx18 rfl rfl) .nil) ?_)
 have e0:((b.1-a.1,b.2-a.2):Pt)=(eR b a):=by
   rfl
 have C19:=cg [3] (ch2.n.seq (ch7.n.seq (ch12.n.seq (ch17.l rfl))))
 replace bH:=bH.ca C19
 exact⟨(congrArg (a₁:=(b.1-a.1,b.2-a.2)) (λ(z0:Pt)=>Ending.returned (vg [vi z0.1,vi z0.2])) e0),bH.below⟩
theorem nD(w0:World)(a:Pt)(b:Pt)(ha:sA a)(hb:sA b):
    Calls Try.prog 65 #[vg [vi a.1,vi a.2],vg [vi b.1,vi b.2]] w0 (λee w=>ee= .returned (vi (ms a b))/\cG w0.heap.size w0 w):=by
 refine aK Try.func65 rfl nq ?_
 have bH:=bu.start w0
 unfold sA at hb ha
 have h1:=jd ha.1 hb.2
 have h2:=jd ha.2 hb.1
 refine a8 (a7 rfl (cN rfl (bC c0 (is 1) (1,0) rfl rfl ?_)))
 intro g4 w1 b3 ch2 bx5
 replace bx5:Bx g4 (is 1) w1 b3 [vi a.1,vi a.2]:=bx5
 refine lo (bC g4 (is 2) (2,0) rfl rfl ?_)
 intro g9 w6 b8 ch7 bx10
 replace bx10:Bx g9 (is 2) w6 b8 [vi b.1,vi b.2]:=bx10
 refine ai 0 (ab (a8 (a7 rfl (lx (a9 cL rfl rfl rfl rfl) ?_))))
 replace bx5:=bx5.cn ch7
 refine lx (aa aL rfl bx5 rfl) (lx (a9 cL rfl rfl rfl rfl) (lx (aa aL rfl bx10 rfl) (lx (eu (m:=a.1) (n:=b.2) rfl rfl (by omega)) (lx (a9 cL rfl rfl rfl rfl) (lx (aa aL rfl bx5 rfl) (lx (a9 cL rfl rfl rfl rfl) (lx (aa aL rfl bx10 rfl) (lx (eu (m:=a.2) (n:=b.1) rfl rfl (by omega)) (lx (cW (m:=a.1*b.2) (n:=a.2*b.1) rfl rfl (by omega)) ?_)))))))))
 refine ai ((a.1*b.2)-(a.2*b.1)) (ab (aw (vs:=[vi ((a.1*b.2)-(a.2*b.1))]) Try.func65 (.tmp rfl .nil) ?_))
 have e0:((a.1*b.2)-(a.2*b.1):Int)=(ms a b):=by
   rfl
 replace bH:=bH.cn ch2
 replace bH:=bH.cn ch7
 exact⟨ri e0,bH.below⟩
theorem gy(w0:World)(a:Pt)(b:Pt)(c:Pt)(ha:jO a)(hb:jO b)(hc:jO c):
    Calls Try.prog 59 #[vg [vi a.1,vi a.2],vg [vi b.1,vi b.2],vg [vi c.1,vi c.2]] w0 (λee w=>ee= .returned (vi (bN a b c))/\cG w0.heap.size w0 w):=by
 refine aK Try.func59 rfl nq ?_
 have bH:=bu.start w0
 have hba:=lK ha hb
 have hca:=lK ha hc
 refine a8 (a7 rfl (cN rfl (bC c0 (is 1) (1,0) rfl rfl ?_)))
 intro g4 w1 b3 ch2 bx5
 replace bx5:Bx g4 (is 1) w1 b3 [vi a.1,vi a.2]:=bx5
 refine lo (bC g4 (is 2) (2,0) rfl rfl ?_)
 intro g9 w6 b8 ch7 bx10
 replace bx10:Bx g9 (is 2) w6 b8 [vi b.1,vi b.2]:=bx10
 refine lo (bC g9 (is 3) (3,0) rfl rfl ?_)
 intro g14 w11 b13 ch12 bx15
 replace bx15:Bx g14 (is 3) w11 b13 [vi c.1,vi c.2]:=bx15
 refine ai 0 (ab (a8 (bq g14 rfl kC (by kernel_rfl) ?_)))
 intro w17 ch16
 replace bx10:=(bx10.cn ch12).cn ch16
 refine qx (λw' hw'=>ae (ds:=[vi b.1,vi b.2]) aj rfl (bx10.bel hw') rfl rfl) ?_
 have C18:=cg [] (ch7.n.seq (ch12.n.seq ch16.n))
 replace bx5:=bx5.ca C18
 refine qx (λw' hw'=>ae (ds:=[vi a.1,vi a.2]) aj rfl (bx5.bel hw') rfl rfl) (cv (v:=vg [vi ((eR b a).1),vi ((eR b a).2)]) rfl (λw' hw'=>aG (vals:=[vg [vi b.1,vi b.2],vg [vi a.1,vi a.2]]) Try.func66 mh mC rfl) (λw' hw'=>(kh w' b a ‹_› ‹_›).mono λe w2 h2=>⟨h2.1,hw'.trans (h2.2.mono hw'.size)⟩) ?_)
 replace bx15:=bx15.cn ch16
 refine qx (λw' hw'=>ae (ds:=[vi c.1,vi c.2]) aj rfl (bx15.bel hw') rfl rfl) (qx (λw' hw'=>ae (ds:=[vi a.1,vi a.2]) aj rfl (bx5.bel hw') rfl rfl) (cv (v:=vg [vi ((eR c a).1),vi ((eR c a).2)]) rfl (λw' hw'=>aG (vals:=[vg [vi c.1,vi c.2],vg [vi a.1,vi a.2]]) Try.func66 mh mC rfl) (λw' hw'=>(kh w' c a ‹_› ‹_›).mono λe w2 h2=>⟨h2.1,hw'.trans (h2.2.mono hw'.size)⟩) ?_))
 refine cv (v:=vi (ms (eR b a) (eR c a))) rfl (λw' hw'=>aG (vals:=[vg [vi ((eR b a).1),vi ((eR b a).2)],vg [vi ((eR c a).1),vi ((eR c a).2)]]) Try.func65 qi oX rfl) (λw' hw'=>(nD w' (eR b a) (eR c a) ‹_› ‹_›).mono λe w2 h2=>⟨h2.1,hw'.trans (h2.2.mono hw'.size)⟩) (cv (v:=vi (cV (ms (eR b a) (eR c a)) 0)) rfl (λw' hw'=>aG (vals:=[vi (ms (eR b a) (eR c a)),vi 0]) Try.func64 js jL rfl) (λw' hw'=>(fP w' (ms (eR b a) (eR c a)) 0).mono λe w2 h2=>⟨h2.1,hw'.trans (h2.2.mono hw'.size)⟩) (qv (vi (cV (ms (eR b a) (eR c a)) 0)) (λw' hw'=>bw rfl) (bT ?_)))
 intro w19 hc20
 replace hc20:=am hc20 g14
 refine aw (vs:=[vi (cV (ms (eR b a) (eR c a)) 0)]) Try.func59 (.tmp rfl .nil) ?_
 have e0:(cV (ms (eR b a) (eR c a)) 0:Int)=(bN a b c):=by
   rfl
 have C21:=cg [] (ch2.n.seq (ch7.n.seq (ch12.n.seq (ch16.n.seq hc20.n))))
 replace bH:=bH.ca C21
 exact⟨(congrArg (a₁:=cV (ms (eR b a) (eR c a)) 0) (λ(z0:Int)=>Ending.returned (vi z0)) e0),bH.below⟩
theorem r7(w0:World)(p:Pt):
    Calls Try.prog 58 #[vg [vi p.1,vi p.2]] w0 (λee w=>ee= .returned (vb (decide (c5 p)))/\cG w0.heap.size w0 w):=by
 refine aK Try.func58 rfl nq ?_
 have bH:=bu.start w0
 refine a8 (a7 rfl (cN rfl (bC c0 (is 1) (1,0) rfl rfl ?_)))
 intro g4 w1 b3 ch2 bx5
 replace bx5:Bx g4 (is 1) w1 b3 [vi p.1,vi p.2]:=bx5
 refine ma (vb false) (ab (a8 (a7 rfl (lx (a9 cL rfl rfl rfl rfl) (lx (aa aL rfl bx5 rfl) (lx (eL (m:=p.1) (n:= -1048576) rfl rfl) (mv (vb (decide ((-1048576)<=p.1))) ?_)))))))
 by_cases q6:(-1048576)<=p.1
 ·
  refine lv (vp b3 0) (wy (dt q6)) (a9 cL rfl rfl rfl rfl) (lv (vi p.1) (wy (dt q6)) (aa aL rfl bx5 rfl) (lv (vb (decide (p.1<=1048576))) (wy (dt q6)) (fZ (m:=p.1) (n:=1048576) rfl rfl) (lw (vb (decide (p.1<=1048576))) (aM rfl (dt q6) rfl) (mv (vb (decide (p.1<=1048576))) ?_))))
  by_cases q11:p.1<=1048576
  ·
   refine lv (vp b3 1) (wy (dt q11)) (a9 cL rfl rfl rfl rfl) (lv (vi p.2) (wy (dt q11)) (aa aL rfl bx5 rfl) (lv (vb (decide ((-1048576)<=p.2))) (wy (dt q11)) (eL (m:=p.2) (n:= -1048576) rfl rfl) (lw (vb (decide ((-1048576)<=p.2))) (aM rfl (dt q11) rfl) (mv (vb (decide ((-1048576)<=p.2))) ?_))))
   by_cases q16:(-1048576)<=p.2
   ·
    refine lv (vp b3 1) (wy (dt q16)) (a9 cL rfl rfl rfl rfl) (lv (vi p.2) (wy (dt q16)) (aa aL rfl bx5 rfl) (lv (vb (decide (p.2<=1048576))) (wy (dt q16)) (fZ (m:=p.2) (n:=1048576) rfl rfl) (lw (vb (decide (p.2<=1048576))) (aM rfl (dt q16) rfl) (ma (vb (decide (p.2<=1048576))) (ab (aw (vs:=[vb (decide (p.2<=1048576))]) Try.func58 (.tmp rfl .nil) ?_))))))
    have e0:(decide (p.2<=1048576):Bool)=(decide (c5 p)):=by
      (rw[decide_eq_decide];unfold c5;omega)
    replace bH:=bH.cn ch2
    exact⟨rb e0,bH.below⟩
   refine ak (wn (df q16)) (ak (wn (df q16)) (ak (wn (df q16)) (lw (vb false) (aS rfl (df q16) rfl) (ma (vb false) (ab (aw (vs:=[vb false]) Try.func58 (.tmp rfl .nil) ?_))))))
   have e0:(false:Bool)=(decide (c5 p)):=by
     exact(df (by unfold c5;omega)).symm
   replace bH:=bH.cn ch2
   exact⟨rb e0,bH.below⟩
  refine ak (wn (df q11)) (ak (wn (df q11)) (ak (wn (df q11)) (lw (vb false) (aS rfl (df q11) rfl) (mv (vb false) (ak (wn rfl) (ak (wn rfl) (ak (wn rfl) (lw (vb false) (aS rfl rfl rfl) (ma (vb false) (ab (aw (vs:=[vb false]) Try.func58 (.tmp rfl .nil) ?_)))))))))))
  have e0:(false:Bool)=(decide (c5 p)):=by
    exact(df (by unfold c5;omega)).symm
  replace bH:=bH.cn ch2
  exact⟨rb e0,bH.below⟩
 refine ak (wn (df q6)) (ak (wn (df q6)) (ak (wn (df q6)) (lw (vb false) (aS rfl (df q6) rfl) (mv (vb false) (ak (wn rfl) (ak (wn rfl) (ak (wn rfl) (lw (vb false) (aS rfl rfl rfl) (mv (vb false) (ak (wn rfl) (ak (wn rfl) (ak (wn rfl) (lw (vb false) (aS rfl rfl rfl) ?_)))))))))))))
 refine ma (vb false) (ab (aw (vs:=[vb false]) Try.func58 (.tmp rfl .nil) ?_))
 have e0:(false:Bool)=(decide (c5 p)):=by
   exact(df (by unfold c5;omega)).symm
 replace bH:=bH.cn ch2
 exact⟨rb e0,bH.below⟩
theorem i3(w0:World)(ps:List Pt)(ps_v:Value)(hps_v:Ro w0 ps_v ps):
    Calls Try.prog 49 #[ps_v] w0 (λee w=>ee= .returned (vb (decide (fF ps)))/\cG w0.heap.size w0 w):=by
 refine aK Try.func49 rfl nq ?_
 have bH:=bu.start w0
 have Rps:=hps_v.sl
 refine a8 (a7 rfl (ma (vb false) (ab (a8 (a8 (a7 rfl (mv ps_v ?_)))))))
 have len1:=(Rps).small
 refine lx (bO cT rfl Rps) (lx (ez (m:=(ps.length:Int)) (n:=4096) rfl rfl) (ab ?_))
 by_cases p1:4096<(ps.length:Int)
 ·
  refine ag rfl (dt p1) (a8 (a7 rfl (ma (vb false) (ab (aw (vs:=[vb false]) Try.func49 (.tmp rfl .nil) ?_)))))
  have e0:(false:Bool)=(decide (fF ps)):=by
    exact(df (λh=>by have:=h.1;omega)).symm
  exact⟨rb e0,bH.below⟩
 refine ah rfl (df p1) (au (a8 (a8 (a7 rfl (mv ps_v (lx (bO cT rfl Rps) (mi 0 (ab (aC ?_)))))))))
 refine bF (σ:=Nat×aV) (λ⟨k,gq⟩ f w=>bu w0 gq w/\f 8=ps_v/\f 9=vi (ps.length:Int)/\f 10=vi ↑k/\Sl gq (is 0) w ps_v ps/\(k:Int)<=((ps.length:Int):Int)/\(∀j:Nat,j<k->c5 (gI ps ↑j))) (λ⟨k,gq⟩=>Int.toNat (((ps.length:Int):Int)-(k:Int))) (0,c0) ?_ ?_
 · exact⟨bH,rfl,rfl,rfl,Rps,by omega,by intro j hj;omega⟩
 clear Rps bH
 rintro⟨k,g4⟩ f2 w3 ⟨bH,zs8,zs9,zs10,Rps,hle_k,hinv⟩ back4
 refine a8 (a7 rfl (lx (bc (m:=↑k) (n:=(ps.length:Int)) zs10 zs9) (ab (a8 ?_))))
 by_cases p4:(k:Int)<(ps.length:Int)
 ·
  refine ag rfl (dt p4) (au (a8 (aC (a8 (a7 rfl (lx (af (v:=ps_v) (i:=↑k) cT rfl zs8 Rps zs10 (by omega) (by omega)) (lw (vg [vi ((gI ps ↑k).1),vi ((gI ps ↑k).2)]) (aT (v:=ps_v) (i:=↑k) aj rfl Rps (by omega) (by omega) rfl) (lo (bo g4 (is 1) (1,0) rfl aj ?_)))))))))
  intro g8 w5 b7 ch6 bx9
  replace bx9:Bx g8 (is 1) w5 b7 [vi 0,vi 0]:=bx9
  refine lo (ao (cs':=[vi ((gI ps ↑k).1),vi ((gI ps ↑k).2)]) aj rfl rfl bx9 rfl nq (AllOne.all (.cons rfl (.cons rfl .nil))) rfl ?_)
  intro w10 ch11 bx12
  clear bx9
  refine ab (a8 (a7 rfl (lx (ae (ds:=[vi ((gI ps ↑k).1),vi ((gI ps ↑k).2)]) aj rfl bx12 rfl rfl) (lo (aP (v:=vb (decide (c5 (gI ps ↑k)))) (aG (vals:=[vg [vi ((gI ps ↑k).1),vi ((gI ps ↑k).2)]]) Try.func58 oK oZ rfl) (r7 w10 (gI ps ↑k)) ?_)))))
  intro w13 hb14
  replace hb14:=am hb14 g8
  refine lx (dr (b:=(decide (c5 (gI ps ↑k)))) rfl) (ab ?_)
  by_cases p6:(decide (c5 (gI ps ↑k)))=true
  ·
   refine ah rfl (congrArg Bool.not p6) (au (ap ?_))
   clear bx12
   refine a7 rfl (lx (ba (m:=↑k) (n:=1) zs10 rfl (by omega)) (mi ((k:Int)+1) (ab ?_)))
   have C15:=cg [1] (ch6.n.seq ((ch11.l rfl).seq hb14.n))
   refine back4 (k+1,g8) _ _ ⟨bH.ca C15,zs8,zs9,rfl,Rps.ca C15,by omega,?_⟩ ?_
   · show∀j:Nat,j<(k+1)->c5 (gI ps ↑j)
     intro j hj
     by_cases e0:j=k
     · subst e0;simpa using of_decide_eq_true ‹_›
     · exact hinv j (by omega)
   · show Int.toNat (((ps.length:Int):Int)-((k+1):Int))<Int.toNat (((ps.length:Int):Int)-(k:Int))
     omega
  refine ag rfl (congrArg Bool.not (Bool.eq_false_iff.2 p6)) (a8 ?_)
  clear bx12
  refine a7 rfl (ma (vb false) (ab (aw (vs:=[vb false]) Try.func49 (.tmp rfl .nil) ?_)))
  have e0:(false:Bool)=(decide (fF ps)):=by
    (refine(df (λh=>?_)).symm
     have h1:=h.2 _ (bl (xs:=ps) (i:=↑k) (by omega) (by omega))
     simp_all;done)
  have C16:=cg [1] (ch6.n.seq ((ch11.l rfl).seq hb14.n))
  replace bH:=bH.ca C16
  exact⟨rb e0,bH.below⟩
 refine ah rfl (df p4) (aQ rfl (a8 (a7 rfl (ma (vb true) (ab (aw (vs:=[vb true]) Try.func49 (.tmp rfl .nil) ?_))))))
 have e0:(true:Bool)=(decide (fF ps)):=by
   exact(dt ⟨by omega,rj (λj hj=>hinv j (by omega))⟩).symm
 exact⟨rb e0,bH.below⟩
theorem kk(w0:World)(a:Pt)(b:Pt)(p:Pt)(ha:jO a)(hb:jO b)(hp:jO p):
    Calls Try.prog 61 #[vg [vi a.1,vi a.2],vg [vi b.1,vi b.2],vg [vi p.1,vi p.2]] w0 (λee w=>ee= .returned (vb (decide (dJ a b p)))/\cG w0.heap.size w0 w):=by
 refine aK Try.func61 rfl nq ?_
 have bH:=bu.start w0
 refine a8 (a7 rfl (cN rfl (bC c0 (is 1) (1,0) rfl rfl ?_)))
 intro g4 w1 b3 ch2 bx5
 replace bx5:Bx g4 (is 1) w1 b3 [vi a.1,vi a.2]:=bx5
 refine lo (bC g4 (is 2) (2,0) rfl rfl ?_)
 intro g9 w6 b8 ch7 bx10
 replace bx10:Bx g9 (is 2) w6 b8 [vi b.1,vi b.2]:=bx10
 refine lo (bC g9 (is 3) (3,0) rfl rfl ?_)
 intro g14 w11 b13 ch12 bx15
 replace bx15:Bx g14 (is 3) w11 b13 [vi p.1,vi p.2]:=bx15
 refine ma (vb false) (ab (a8 (a7 rfl ?_)))
 replace bx5:=(bx5.cn ch7).cn ch12
 refine lx (ae (ds:=[vi a.1,vi a.2]) aj rfl bx5 rfl rfl) ?_
 replace bx10:=bx10.cn ch12
 refine lx (ae (ds:=[vi b.1,vi b.2]) aj rfl bx10 rfl rfl) (lx (ae (ds:=[vi p.1,vi p.2]) aj rfl bx15 rfl rfl) (lo (aP (v:=vi (bN a b p)) (aG (vals:=[vg [vi a.1,vi a.2],vg [vi b.1,vi b.2],vg [vi p.1,vi p.2]]) Try.func59 gE gj rfl) (gy w11 a b p ‹_› ‹_› ‹_›) ?_)))
 intro w16 hb17
 replace hb17:=am hb17 g14
 refine lx (d7 (m:=bN a b p) (n:=0) rfl rfl) (mv (vb (decide ((bN a b p)=0))) ?_)
 by_cases q12:(bN a b p)=0
 ·
  refine lv (vp b13 0) (wy (dt q12)) (a9 cL rfl rfl rfl rfl) ?_
  replace bx15:=bx15.cn hb17
  refine lv (vi p.1) (wy (dt q12)) (aa aL rfl bx15 rfl) (lv (vp b3 0) (wy (dt q12)) (a9 cL rfl rfl rfl rfl) ?_)
  replace bx5:=bx5.cn hb17
  refine lv (vi a.1) (wy (dt q12)) (aa aL rfl bx5 rfl) (lv (vp b8 0) (wy (dt q12)) (a9 cL rfl rfl rfl rfl) ?_)
  replace bx10:=bx10.cn hb17
  refine lv (vi b.1) (wy (dt q12)) (aa aL rfl bx10 rfl) (lv (vi (min a.1 b.1)) (wy (dt q12)) (lO rfl rfl) (lv (vb (decide ((min a.1 b.1)<=p.1))) (wy (dt q12)) (eL (m:=p.1) (n:=min a.1 b.1) rfl rfl) (lw (vb (decide ((min a.1 b.1)<=p.1))) (aM rfl (dt q12) rfl) (mv (vb (decide ((min a.1 b.1)<=p.1))) ?_))))
  by_cases q22:(min a.1 b.1)<=p.1
  ·
   refine lv (vp b13 0) (wy (dt q22)) (a9 cL rfl rfl rfl rfl) (lv (vi p.1) (wy (dt q22)) (aa aL rfl bx15 rfl) (lv (vp b3 0) (wy (dt q22)) (a9 cL rfl rfl rfl rfl) (lv (vi a.1) (wy (dt q22)) (aa aL rfl bx5 rfl) (lv (vp b8 0) (wy (dt q22)) (a9 cL rfl rfl rfl rfl) (lv (vi b.1) (wy (dt q22)) (aa aL rfl bx10 rfl) (lv (vi (max a.1 b.1)) (wy (dt q22)) (iV rfl rfl) ?_))))))
   refine lv (vb (decide (p.1<=(max a.1 b.1)))) (wy (dt q22)) (fZ (m:=p.1) (n:=max a.1 b.1) rfl rfl) (lw (vb (decide (p.1<=(max a.1 b.1)))) (aM rfl (dt q22) rfl) (mv (vb (decide (p.1<=(max a.1 b.1)))) ?_))
   by_cases q32:p.1<=(max a.1 b.1)
   ·
    refine lv (vp b13 1) (wy (dt q32)) (a9 cL rfl rfl rfl rfl) (lv (vi p.2) (wy (dt q32)) (aa aL rfl bx15 rfl) (lv (vp b3 1) (wy (dt q32)) (a9 cL rfl rfl rfl rfl) (lv (vi a.2) (wy (dt q32)) (aa aL rfl bx5 rfl) (lv (vp b8 1) (wy (dt q32)) (a9 cL rfl rfl rfl rfl) (lv (vi b.2) (wy (dt q32)) (aa aL rfl bx10 rfl) (lv (vi (min a.2 b.2)) (wy (dt q32)) (lO rfl rfl) ?_))))))
    refine lv (vb (decide ((min a.2 b.2)<=p.2))) (wy (dt q32)) (eL (m:=p.2) (n:=min a.2 b.2) rfl rfl) (lw (vb (decide ((min a.2 b.2)<=p.2))) (aM rfl (dt q32) rfl) (mv (vb (decide ((min a.2 b.2)<=p.2))) ?_))
    by_cases q42:(min a.2 b.2)<=p.2
    ·
     refine lv (vp b13 1) (wy (dt q42)) (a9 cL rfl rfl rfl rfl) (lv (vi p.2) (wy (dt q42)) (aa aL rfl bx15 rfl) (lv (vp b3 1) (wy (dt q42)) (a9 cL rfl rfl rfl rfl) (lv (vi a.2) (wy (dt q42)) (aa aL rfl bx5 rfl) (lv (vp b8 1) (wy (dt q42)) (a9 cL rfl rfl rfl rfl) (lv (vi b.2) (wy (dt q42)) (aa aL rfl bx10 rfl) (lv (vi (max a.2 b.2)) (wy (dt q42)) (iV rfl rfl) ?_))))))
     refine lv (vb (decide (p.2<=(max a.2 b.2)))) (wy (dt q42)) (fZ (m:=p.2) (n:=max a.2 b.2) rfl rfl) (lw (vb (decide (p.2<=(max a.2 b.2)))) (aM rfl (dt q42) rfl) (ma (vb (decide (p.2<=(max a.2 b.2)))) (ab (aw (vs:=[vb (decide (p.2<=(max a.2 b.2)))]) Try.func61 (.tmp rfl .nil) ?_))))
     have e0:(decide (p.2<=(max a.2 b.2)):Bool)=(decide (dJ a b p)):=by
       (rw[decide_eq_decide];unfold dJ kE;omega)
     have C18:=cg [] (ch2.n.seq (ch7.n.seq (ch12.n.seq hb17.n)))
     replace bH:=bH.ca C18
     exact⟨(congrArg (a₁:=decide (p.2<=(max a.2 b.2))) (λ(z0:Bool)=>Ending.returned (vb z0)) e0),bH.below⟩
    refine ak (wn (df q42)) (ak (wn (df q42)) (ak (wn (df q42)) (ak (wn (df q42)) (ak (wn (df q42)) (ak (wn (df q42)) (ak (wn (df q42)) (ak (wn (df q42)) (lw (vb false) (aS rfl (df q42) rfl) (ma (vb false) ?_)))))))))
    refine ab (aw (vs:=[vb false]) Try.func61 (.tmp rfl .nil) ?_)
    have e0:(false:Bool)=(decide (dJ a b p)):=by
      exact(df (by unfold dJ kE;omega)).symm
    have C19:=cg [] (ch2.n.seq (ch7.n.seq (ch12.n.seq hb17.n)))
    replace bH:=bH.ca C19
    exact⟨rb e0,bH.below⟩
   refine ak (wn (df q32)) (ak (wn (df q32)) (ak (wn (df q32)) (ak (wn (df q32)) (ak (wn (df q32)) (ak (wn (df q32)) (ak (wn (df q32)) (ak (wn (df q32)) (lw (vb false) (aS rfl (df q32) rfl) (mv (vb false) ?_)))))))))
   refine ak (wn rfl) (ak (wn rfl) (ak (wn rfl) (ak (wn rfl) (ak (wn rfl) (ak (wn rfl) (ak (wn rfl) (ak (wn rfl) (lw (vb false) (aS rfl rfl rfl) (ma (vb false) (ab (aw (vs:=[vb false]) Try.func61 (.tmp rfl .nil) ?_)))))))))))
   have e0:(false:Bool)=(decide (dJ a b p)):=by
     exact(df (by unfold dJ kE;omega)).symm
   have C20:=cg [] (ch2.n.seq (ch7.n.seq (ch12.n.seq hb17.n)))
   replace bH:=bH.ca C20
   exact⟨rb e0,bH.below⟩
  refine ak (wn (df q22)) (ak (wn (df q22)) (ak (wn (df q22)) (ak (wn (df q22)) (ak (wn (df q22)) (ak (wn (df q22)) (ak (wn (df q22)) (ak (wn (df q22)) (lw (vb false) (aS rfl (df q22) rfl) (mv (vb false) ?_)))))))))
  refine ak (wn rfl) (ak (wn rfl) (ak (wn rfl) (ak (wn rfl) (ak (wn rfl) (ak (wn rfl) (ak (wn rfl) (ak (wn rfl) (lw (vb false) (aS rfl rfl rfl) (mv (vb false) (ak (wn rfl) (ak (wn rfl) (ak (wn rfl) (ak (wn rfl) (ak (wn rfl) (ak (wn rfl) (ak (wn rfl) (ak (wn rfl) (lw (vb false) (aS rfl rfl rfl) (ma (vb false) (ab (aw (vs:=[vb false]) Try.func61 (.tmp rfl .nil) ?_)))))))))))))))))))))
  have e0:(false:Bool)=(decide (dJ a b p)):=by
    exact(df (by unfold dJ kE;omega)).symm
  have C21:=cg [] (ch2.n.seq (ch7.n.seq (ch12.n.seq hb17.n)))
  replace bH:=bH.ca C21
  exact⟨rb e0,bH.below⟩
 refine ak (wn (df q12)) (ak (wn (df q12)) (ak (wn (df q12)) (ak (wn (df q12)) (ak (wn (df q12)) (ak (wn (df q12)) (ak (wn (df q12)) (ak (wn (df q12)) (lw (vb false) (aS rfl (df q12) rfl) (mv (vb false) ?_)))))))))
 refine ak (wn rfl) (ak (wn rfl) (ak (wn rfl) (ak (wn rfl) (ak (wn rfl) (ak (wn rfl) (ak (wn rfl) (ak (wn rfl) (lw (vb false) (aS rfl rfl rfl) (mv (vb false) (ak (wn rfl) (ak (wn rfl) (ak (wn rfl) (ak (wn rfl) (ak (wn rfl) (ak (wn rfl) (ak (wn rfl) (ak (wn rfl) (lw (vb false) (aS rfl rfl rfl) (mv (vb false) ?_)))))))))))))))))))
 refine ak (wn rfl) (ak (wn rfl) (ak (wn rfl) (ak (wn rfl) (ak (wn rfl) (ak (wn rfl) (ak (wn rfl) (ak (wn rfl) (lw (vb false) (aS rfl rfl rfl) (ma (vb false) (ab (aw (vs:=[vb false]) Try.func61 (.tmp rfl .nil) ?_)))))))))))
 have e0:(false:Bool)=(decide (dJ a b p)):=by
   exact(df (by unfold dJ kE;omega)).symm
 have C22:=cg [] (ch2.n.seq (ch7.n.seq (ch12.n.seq hb17.n)))
 replace bH:=bH.ca C22
 exact⟨rb e0,bH.below⟩
theorem f3(w0:World)(a:Pt)(b:Pt):
    Calls Try.prog 67 #[vg [vi a.1,vi a.2],vg [vi b.1,vi b.2]] w0 (λee w=>ee= .returned (vi (c6 a b))/\cG w0.heap.size w0 w):=by
 refine aK Try.func67 rfl nq ?_
 have bH:=bu.start w0
 refine a8 (a7 rfl (cN rfl (bC c0 (is 1) (1,0) rfl rfl ?_)))
 intro g4 w1 b3 ch2 bx5
 replace bx5:Bx g4 (is 1) w1 b3 [vi a.1,vi a.2]:=bx5
 refine lo (bC g4 (is 2) (2,0) rfl rfl ?_)
 intro g9 w6 b8 ch7 bx10
 replace bx10:Bx g9 (is 2) w6 b8 [vi b.1,vi b.2]:=bx10
 refine ai 0 (ab (a8 (dl g9 (inl []) kC ?_)))
 intro w12 ch11
 refine ht 0 rfl (bh.refl _ _ _) (λw' hw'=>a9 cL rfl rfl rfl rfl) ?_
 replace bx5:=(bx5.cn ch7).cn ch11
 refine ht 1 rfl (bh.refl _ _ _) (λw' hw'=>aa aL rfl (bx5.chg hw' (bt rfl)) rfl) (ht 2 rfl (bh.refl _ _ _) (λw' hw'=>a9 cL rfl rfl rfl rfl) ?_)
 replace bx10:=bx10.cn ch11
 refine ht 3 rfl (bh.refl _ _ _) (λw' hw'=>aa aL rfl (bx10.chg hw' (bt rfl)) rfl) (ht 5 rfl (bh.refl _ _ _) (λw' hw'=>a9 cL rfl rfl rfl rfl) (ht 6 rfl (bh.refl _ _ _) (λw' hw'=>aa aL rfl (bx5.chg hw' (bt rfl)) rfl) (ht 7 rfl (bh.refl _ _ _) (λw' hw'=>a9 cL rfl rfl rfl rfl) (ht 8 rfl (bh.refl _ _ _) (λw' hw'=>aa aL rfl (bx10.chg hw' (bt rfl)) rfl) (aE 4 rfl (by kernel_rfl) rfl (aP (v:=vi (cV a.1 b.1)) (aG (vals:=[vi a.1,vi b.1]) Try.func64 js jL rfl) (fP w12 a.1 b.1) ?_))))))
 intro w13 hb14
 replace hb14:=am hb14 g9
 have hs15:bh (inl []) _ _ _ _:=hb14.n
 refine⟨hs15.same,?_⟩
 refine aE 9 rfl (by kernel_rfl) rfl (aP (v:=vi (cV a.2 b.2)) (aG (vals:=[vi a.2,vi b.2]) Try.func64 js jL rfl) (fP w13 a.2 b.2) ?_)
 intro w16 hb17
 replace hb17:=am hb17 g9
 have hs18:=hs15.seq (hb17.n)
 refine⟨hs18.same,?_⟩
 refine aE 10 rfl (by kernel_rfl) rfl (aH (α:=Int) g9 (is 3) (is 3) (3,0) rfl [cV a.1 b.1,cV a.2 b.2] sn aL (by decide) (by decide) (vs:=[(0,vi (cV a.1 b.1)),(1,vi (cV a.2 b.2))]) rfl rfl (.cons rfl (.cons rfl .nil)) ?_)
 intro g19 w20 v21 ch22 o23
 have hs24:=hs18.seq (ch22.n)
 refine⟨hs24.same,?_⟩
 refine aE 11 rfl (by kernel_rfl) rfl (aP (v:=vi (kO ([cV a.1 b.1,cV a.2 b.2]))) (aG (vals:=[v21]) Try.func69 pC pP rfl) (sr w20 ([cV a.1 b.1,cV a.2 b.2]) v21 (o23.flat).ro) ?_)
 intro w25 hb26
 replace hb26:=am hb26 g19
 have hs27:=hs24.seq (hb26.n)
 refine⟨hs27.same,?_⟩
 refine ht (v:=vi (kO ([cV a.1 b.1,cV a.2 b.2]))) 12 rfl hs27.same (λw' hw'=>bw rfl) (bI (by kernel_rfl) (aw (vs:=[vi (kO ([cV a.1 b.1,cV a.2 b.2]))]) Try.func67 (.tmp rfl .nil) ?_))
 have e0:(kO ([cV a.1 b.1,cV a.2 b.2]):Int)=(c6 a b):=by
   exact(nt _ _).symm
 have C28:=cg [] (ch2.n.seq (ch7.n.seq (ch11.n.seq (hb14.n.seq (hb17.n.seq (ch22.n.seq hb26.n))))))
 replace bH:=bH.ca C28
 exact⟨ri e0,bH.below⟩
end TL
