import Derived.Test.YtkhfimgjcdeejaaTlP3
import Derived.Test.YtkhfimgjcdeejaaProg
import Derived.Test.YtkhfimgjcdeejaaTlAli
set_option linter.all false
set_option maxRecDepth 20000
namespace TL
open Go Go.Proofs
theorem n5:Try.prog.follows .mixedOrders=true:=by kernel_rfl
theorem aG:Tp Try.prog 3 false 1 8 (.int .i64 0):=Tp.of (by kernel_rfl)
theorem ah:Tp Try.prog 26 true 2 16 (.agg #[.int .i64 0,.int .i64 0]):=Tp.of (by kernel_rfl)
theorem uq:Try.f58.body.isNone=false:=rfl
theorem uL:(Try.f58.name== "runtime.NumGoroutine")=false:=by decide+kernel
theorem iT:Try.f59.body.isNone=false:=rfl
theorem j4:(Try.f59.name== "runtime.NumGoroutine")=false:=by decide+kernel
theorem lW:Try.f64.body.isNone=false:=rfl
theorem mu:(Try.f64.name== "runtime.NumGoroutine")=false:=by decide+kernel
theorem tY:Try.f65.body.isNone=false:=rfl
theorem ti:(Try.f65.name== "runtime.NumGoroutine")=false:=by decide+kernel
theorem pq:Try.f66.body.isNone=false:=rfl
theorem pn:(Try.f66.name== "runtime.NumGoroutine")=false:=by decide+kernel
theorem pW:Try.f68.body.isNone=false:=rfl
theorem pB:(Try.f68.name== "runtime.NumGoroutine")=false:=by decide+kernel
theorem tc:Try.f69.body.isNone=false:=rfl
theorem tp:(Try.f69.name== "runtime.NumGoroutine")=false:=by decide+kernel
theorem nj(w0:World)(x:Int):
    Calls Try.prog 68 #[vi x] w0 (λee w=>ee= .returned (vb false)/\cW w0.heap.size w0 w):=by
 refine aI Try.func68 rfl nq ?_
 have bH:=bo.start w0
 refine a6 (a5 rfl (ma (vb false) (a8 (a6 (a5 rfl (mi x (mi x (lx (dz (m:=x) (n:=x) rfl rfl) (ma (vb (!(decide (x=x)))) (a8 (av (vs:=[vb (!(decide (x=x)))]) Try.func68 (.tmp rfl .nil) ?_)))))))))))
 have e0:(!(decide (x=x)):Bool)=(false):=by
   simp
 exact⟨(congrArg (a₁:= !(decide (x=x))) (λ(z0:Bool)=>Ending.returned (vb z0)) e0),bH.below⟩
theorem ik(w0:World)(x:Int)(y:Int):
    Calls Try.prog 64 #[vi x,vi y] w0 (λee w=>ee= .returned (vi (ct x y))/\cW w0.heap.size w0 w):=by
 refine aI Try.func64 rfl nq ?_
 have bH:=bo.start w0
 refine a6 (a5 rfl (ai 0 (a8 (a6 (a5 rfl (mi x (lo (aN (v:=vb false) (az (vals:=[vi x]) Try.func68 pW pB rfl) (nj w0 x) ?_))))))))
 intro w1 hb2
 replace hb2:=aj hb2 c0
 refine ma (vb false) (a8 (a6 (a5 rfl (mi y (lo (aN (v:=vb false) (az (vals:=[vi y]) Try.func68 pW pB rfl) (nj w1 y) ?_))))))
 intro w3 hb4
 replace hb4:=aj hb4 c0
 refine ma (vb false) (a8 (a6 (a6 (a5 rfl (mv (vb false) (a8 (af rfl rfl (am (a6 (a6 (a5 rfl (mv (vb false) (a8 (af rfl rfl ?_))))))))))))))
 refine am (a6 (a6 (a5 rfl (mi x (mi y (lx (b6 (m:=x) (n:=y) rfl rfl) (a8 ?_)))))))
 by_cases p9:x<y
 ·
  refine ae rfl (dt p9) (a6 (a5 rfl (ai (-1) (a8 (av (vs:=[vi (-1)]) Try.func64 (.tmp rfl .nil) ?_)))))
  have e0:(-1:Int)=(ct x y):=by
    unfold ct
    rw[if_pos ‹_›]
  replace bH:=bH.cn hb2
  replace bH:=bH.cn hb4
  exact⟨ri e0,bH.below⟩
 refine af rfl (df p9) (am (a6 (a6 (a5 rfl (mi x (mi y (lx (dZ (m:=x) (n:=y) rfl rfl) (a8 ?_))))))))
 by_cases p11:y<x
 ·
  refine ae rfl (dt p11) (a6 (a5 rfl (ai 1 (a8 (av (vs:=[vi 1]) Try.func64 (.tmp rfl .nil) ?_)))))
  have e0:(1:Int)=(ct x y):=by
    unfold ct
    rw[if_neg ‹_›,if_pos ‹_›]
  replace bH:=bH.cn hb2
  replace bH:=bH.cn hb4
  exact⟨ri e0,bH.below⟩
 refine af rfl (df p11) (am (a6 (a5 rfl (ai 0 (a8 (av (vs:=[vi 0]) Try.func64 (.tmp rfl .nil) ?_))))))
 have e0:(0:Int)=(ct x y):=by
   unfold ct
   rw[if_neg ‹_›,if_neg ‹_›]
 replace bH:=bH.cn hb2
 replace bH:=bH.cn hb4
 exact⟨ri e0,bH.below⟩
theorem wD(w0:World)(vals:List Int)(vals_v:Value)(hvals_v:Ro w0 vals_v vals):
    Calls Try.prog 69 #[vals_v] w0 (λee w=>ee= .returned (vi (nP vals))/\cW w0.heap.size w0 w):=by
 refine aI Try.func69 rfl nq ?_
 have bH:=bo.start w0
 have Rvals:=hvals_v.sl
 refine a6 (a5 rfl (ai 0 (a8 (a6 (a5 rfl (ai 0 (a8 (a6 (a6 (a5 rfl (mv vals_v ?_)))))))))))
 have len1:=(Rvals).small
 refine lx (bE wP rfl Rvals) (mi 0 (a8 (ao ?_)))
 refine bf (σ:=Nat×aW) (λ⟨k,gq⟩ f w=>bo w0 gq w/\f 3=vi 0/\f 6=vals_v/\f 7=vi (vals.length:Int)/\f 8=vi ↑k/\Sl gq (is 0) w vals_v vals/\(k:Int)<=((vals.length:Int):Int)/\(∀j:Nat,j<k->gI vals ↑j=0)) (λ⟨k,gq⟩=>Int.toNat (((vals.length:Int):Int)-(k:Int))) (0,c0) ?_ ?_
 · exact⟨bH,rfl,rfl,rfl,rfl,Rvals,by omega,by intro j hj;omega⟩
 clear Rvals bH
 rintro⟨k,g4⟩ f2 w3 ⟨bH,zs3,zs6,zs7,zs8,Rvals,hle_k,hinv⟩ back3
 refine a6 (a5 rfl (lx (b6 (m:=↑k) (n:=(vals.length:Int)) zs8 zs7) (a8 (a6 ?_))))
 by_cases p3:(k:Int)<(vals.length:Int)
 ·
  refine ae rfl (dt p3) (am (a6 (ao (a6 (a5 rfl (lx (ab (v:=vals_v) (i:=↑k) wP rfl zs6 Rvals zs8 (by omega) (by omega)) (lx (fk (v:=vals_v) (i:=↑k) aG rfl Rvals (by omega) (by omega) (by decide) rfl) (ai (gI vals ↑k) (a8 (a6 (a5 rfl (mi (gI vals ↑k) ?_))))))))))))
  refine mz zs3 (lx (dz (m:=(gI vals ↑k)) (n:=0) rfl rfl) (a8 ?_))
  by_cases p5:(gI vals ↑k)=0
  ·
   refine af rfl (congrArg Bool.not (dt p5)) (am (ak (a5 rfl (lx (aQ (m:=↑k) (n:=1) zs8 rfl (by omega)) (mi ((k:Int)+1) (a8 ?_))))))
   refine back3 (k+1,g4) _ _ ⟨bH,zs3,zs6,zs7,rfl,Rvals,by omega,?_⟩ ?_
   · show∀j:Nat,j<(k+1)->gI vals ↑j=0
     intro j hj
     by_cases e0:j=k
     · subst e0;assumption
     · exact hinv j (by omega)
   · show Int.toNat (((vals.length:Int):Int)-((k+1):Int))<Int.toNat (((vals.length:Int):Int)-(k:Int))
     omega
  refine ae rfl (congrArg Bool.not (df p5)) (a6 (a5 rfl (mi (gI vals ↑k) (ai (gI vals ↑k) (a8 (av (vs:=[vi (gI vals ↑k)]) Try.func69 (.tmp rfl .nil) ?_))))))
  have e0:((gI vals ↑k):Int)=(nP vals):=by
    exact rV hinv ‹_› ‹_›
  exact⟨ri e0,bH.below⟩
 refine af rfl (df p3) (aO rfl (a6 (a5 rfl (mz zs3 (ai 0 (a8 (av (vs:=[vi 0]) Try.func69 (.tmp rfl .nil) ?_)))))))
 have e0:(0:Int)=(nP vals):=by
   exact sc hinv ‹_›
 exact⟨ri e0,bH.below⟩
theorem nL(w0:World)(b:Pt)(a:Pt)(hb:cV b)(ha:cV a):
    Calls Try.prog 66 #[vg [vi b.1,vi b.2],vg [vi a.1,vi a.2]] w0 (λee w=>ee= .returned (vg [vi ((cH b a).1),vi ((cH b a).2)])/\cW w0.heap.size w0 w):=by
 refine aI Try.func66 rfl nq ?_
 have bH:=bo.start w0
 unfold cV at hb ha
 refine a6 (a5 rfl (cj rfl (bA c0 (is 1) (1,0) rfl rfl ?_)))
 intro g4 w1 b3 ch2 bx5
 replace bx5:Bx g4 (is 1) w1 b3 [vi b.1,vi b.2]:=bx5
 refine lo (bA g4 (is 2) (2,0) rfl rfl ?_)
 intro g9 w6 b8 ch7 bx10
 replace bx10:Bx g9 (is 2) w6 b8 [vi a.1,vi a.2]:=bx10
 refine lo (bB g9 (is 3) (3,0) rfl ah ?_)
 intro g14 w11 b13 ch12 bx15
 replace bx15:Bx g14 (is 3) w11 b13 [vi 0,vi 0]:=bx15
 refine a8 (a6 (a5 rfl (lx (a7 cq rfl rfl rfl rfl) ?_)))
 replace bx5:=(bx5.cn ch7).cn ch12
 refine lx (a9 aG rfl bx5 rfl) (lx (a7 cq rfl rfl rfl rfl) ?_)
 replace bx10:=bx10.cn ch12
 refine lx (a9 aG rfl bx10 rfl) (lx (cX (m:=b.1) (n:=a.1) rfl rfl (by omega)) (lx (a7 cq rfl rfl rfl rfl) (lx (a9 aG rfl bx5 rfl) (lx (a7 cq rfl rfl rfl rfl) (lx (a9 aG rfl bx10 rfl) (lx (cX (m:=b.2) (n:=a.2) rfl rfl (by omega)) (lw (vg [vi (b.1-a.1),vi (b.2-a.2)]) (bz (vs:=[(0,vi (b.1-a.1)),(1,vi (b.2-a.2))]) rfl (by kernel_rfl)) (lo (au (cs':=[vi (b.1-a.1),vi (b.2-a.2)]) ah rfl rfl bx15 rfl nq (AllOne.all (.cons rfl (.cons rfl .nil))) rfl ?_)))))))))
 intro w16 ch17 bx18
 clear bx15
 refine a8 (av (vs:=[vg [vi (b.1-a.1),vi (b.2-a.2)]]) Try.func66 (.cell rfl (cd (ds:=[vi (b.1-a.1),vi (b.2-a.2)]) ah bx18 rfl rfl) .nil) ?_)
 have e0:((b.1-a.1,b.2-a.2):Pt)=(cH b a):=by
   rfl
 have C19:=cg [3] (ch2.n.seq (ch7.n.seq (ch12.n.seq (ch17.l rfl))))
 replace bH:=bH.ca C19
 exact⟨(congrArg (a₁:=(b.1-a.1,b.2-a.2)) (λ(z0:Pt)=>Ending.returned (vg [vi z0.1,vi z0.2])) e0),bH.below⟩
theorem rP(w0:World)(a:Pt)(b:Pt)(ha:wB a)(hb:wB b):
    Calls Try.prog 65 #[vg [vi a.1,vi a.2],vg [vi b.1,vi b.2]] w0 (λee w=>ee= .returned (vi (nO a b))/\cW w0.heap.size w0 w):=by
 refine aI Try.func65 rfl nq ?_
 have bH:=bo.start w0
 unfold wB at hb ha
 have h1:=gB ha.1 hb.2
 have h2:=gB ha.2 hb.1
 refine a6 (a5 rfl (cj rfl (bA c0 (is 1) (1,0) rfl rfl ?_)))
 intro g4 w1 b3 ch2 bx5
 replace bx5:Bx g4 (is 1) w1 b3 [vi a.1,vi a.2]:=bx5
 refine lo (bA g4 (is 2) (2,0) rfl rfl ?_)
 intro g9 w6 b8 ch7 bx10
 replace bx10:Bx g9 (is 2) w6 b8 [vi b.1,vi b.2]:=bx10
 refine ai 0 (a8 (a6 (a5 rfl (lx (a7 cq rfl rfl rfl rfl) ?_))))
 replace bx5:=bx5.cn ch7
 refine lx (a9 aG rfl bx5 rfl) (lx (a7 cq rfl rfl rfl rfl) (lx (a9 aG rfl bx10 rfl) (lx (fV (m:=a.1) (n:=b.2) rfl rfl (by omega)) (lx (a7 cq rfl rfl rfl rfl) (lx (a9 aG rfl bx5 rfl) (lx (a7 cq rfl rfl rfl rfl) (lx (a9 aG rfl bx10 rfl) (lx (fV (m:=a.2) (n:=b.1) rfl rfl (by omega)) (lx (cX (m:=a.1*b.2) (n:=a.2*b.1) rfl rfl (by omega)) ?_)))))))))
 refine ai ((a.1*b.2)-(a.2*b.1)) (a8 (av (vs:=[vi ((a.1*b.2)-(a.2*b.1))]) Try.func65 (.tmp rfl .nil) ?_))
 have e0:((a.1*b.2)-(a.2*b.1):Int)=(nO a b):=by
   rfl
 replace bH:=bH.cn ch2
 replace bH:=bH.cn ch7
 exact⟨ri e0,bH.below⟩
theorem j5(w0:World)(a:Pt)(b:Pt)(c:Pt)(ha:cV a)(hb:cV b)(hc:cV c):
    Calls Try.prog 59 #[vg [vi a.1,vi a.2],vg [vi b.1,vi b.2],vg [vi c.1,vi c.2]] w0 (λee w=>ee= .returned (vi (bG a b c))/\cW w0.heap.size w0 w):=by
 refine aI Try.func59 rfl nq ?_
 have bH:=bo.start w0
 have hba:=jX ha hb
 have hca:=jX ha hc
 refine a6 (a5 rfl (cj rfl (bA c0 (is 1) (1,0) rfl rfl ?_)))
 intro g4 w1 b3 ch2 bx5
 replace bx5:Bx g4 (is 1) w1 b3 [vi a.1,vi a.2]:=bx5
 refine lo (bA g4 (is 2) (2,0) rfl rfl ?_)
 intro g9 w6 b8 ch7 bx10
 replace bx10:Bx g9 (is 2) w6 b8 [vi b.1,vi b.2]:=bx10
 refine lo (bA g9 (is 3) (3,0) rfl rfl ?_)
 intro g14 w11 b13 ch12 bx15
 replace bx15:Bx g14 (is 3) w11 b13 [vi c.1,vi c.2]:=bx15
 refine ai 0 (a8 (a6 (bv g14 rfl n5 (by kernel_rfl) ?_)))
 intro w17 ch16
 replace bx10:=(bx10.cn ch12).cn ch16
 refine qx (λw' hw'=>ad (ds:=[vi b.1,vi b.2]) ah rfl (bx10.bel hw') rfl rfl) ?_
 have C18:=cg [] (ch7.n.seq (ch12.n.seq ch16.n))
 replace bx5:=bx5.ca C18
 refine qx (λw' hw'=>ad (ds:=[vi a.1,vi a.2]) ah rfl (bx5.bel hw') rfl rfl) (cb (v:=vg [vi ((cH b a).1),vi ((cH b a).2)]) rfl (λw' hw'=>az (vals:=[vg [vi b.1,vi b.2],vg [vi a.1,vi a.2]]) Try.func66 pq pn rfl) (λw' hw'=>(nL w' b a ‹_› ‹_›).mono λe w2 h2=>⟨h2.1,hw'.trans (h2.2.mono hw'.size)⟩) ?_)
 replace bx15:=bx15.cn ch16
 refine qx (λw' hw'=>ad (ds:=[vi c.1,vi c.2]) ah rfl (bx15.bel hw') rfl rfl) (qx (λw' hw'=>ad (ds:=[vi a.1,vi a.2]) ah rfl (bx5.bel hw') rfl rfl) (cb (v:=vg [vi ((cH c a).1),vi ((cH c a).2)]) rfl (λw' hw'=>az (vals:=[vg [vi c.1,vi c.2],vg [vi a.1,vi a.2]]) Try.func66 pq pn rfl) (λw' hw'=>(nL w' c a ‹_› ‹_›).mono λe w2 h2=>⟨h2.1,hw'.trans (h2.2.mono hw'.size)⟩) ?_))
 refine cb (v:=vi (nO (cH b a) (cH c a))) rfl (λw' hw'=>az (vals:=[vg [vi ((cH b a).1),vi ((cH b a).2)],vg [vi ((cH c a).1),vi ((cH c a).2)]]) Try.func65 tY ti rfl) (λw' hw'=>(rP w' (cH b a) (cH c a) ‹_› ‹_›).mono λe w2 h2=>⟨h2.1,hw'.trans (h2.2.mono hw'.size)⟩) (cb (v:=vi (ct (nO (cH b a) (cH c a)) 0)) rfl (λw' hw'=>az (vals:=[vi (nO (cH b a) (cH c a)),vi 0]) Try.func64 lW mu rfl) (λw' hw'=>(ik w' (nO (cH b a) (cH c a)) 0).mono λe w2 h2=>⟨h2.1,hw'.trans (h2.2.mono hw'.size)⟩) (qv (vi (ct (nO (cH b a) (cH c a)) 0)) (λw' hw'=>bi rfl) (bM ?_)))
 intro w19 hc20
 replace hc20:=aj hc20 g14
 refine av (vs:=[vi (ct (nO (cH b a) (cH c a)) 0)]) Try.func59 (.tmp rfl .nil) ?_
 have e0:(ct (nO (cH b a) (cH c a)) 0:Int)=(bG a b c):=by
   rfl
 have C21:=cg [] (ch2.n.seq (ch7.n.seq (ch12.n.seq (ch16.n.seq hc20.n))))
 replace bH:=bH.ca C21
 exact⟨(congrArg (a₁:=ct (nO (cH b a) (cH c a)) 0) (λ(z0:Int)=>Ending.returned (vi z0)) e0),bH.below⟩
theorem vM(w0:World)(p:Pt):
    Calls Try.prog 58 #[vg [vi p.1,vi p.2]] w0 (λee w=>ee= .returned (vb (decide (ck p)))/\cW w0.heap.size w0 w):=by
 refine aI Try.func58 rfl nq ?_
 have bH:=bo.start w0
 refine a6 (a5 rfl (cj rfl (bA c0 (is 1) (1,0) rfl rfl ?_)))
 intro g4 w1 b3 ch2 bx5
 replace bx5:Bx g4 (is 1) w1 b3 [vi p.1,vi p.2]:=bx5
 refine ma (vb false) (a8 (a6 (a5 rfl (lx (a7 cq rfl rfl rfl rfl) (lx (a9 aG rfl bx5 rfl) (lx (fW (m:=p.1) (n:= -1048576) rfl rfl) (mv (vb (decide ((-1048576)<=p.1))) ?_)))))))
 by_cases q6:(-1048576)<=p.1
 ·
  refine lv (vp b3 0) (wy (dt q6)) (a7 cq rfl rfl rfl rfl) (lv (vi p.1) (wy (dt q6)) (a9 aG rfl bx5 rfl) (lv (vb (decide (p.1<=1048576))) (wy (dt q6)) (gU (m:=p.1) (n:=1048576) rfl rfl) (lw (vb (decide (p.1<=1048576))) (aD rfl (dt q6) rfl) (mv (vb (decide (p.1<=1048576))) ?_))))
  by_cases q11:p.1<=1048576
  ·
   refine lv (vp b3 1) (wy (dt q11)) (a7 cq rfl rfl rfl rfl) (lv (vi p.2) (wy (dt q11)) (a9 aG rfl bx5 rfl) (lv (vb (decide ((-1048576)<=p.2))) (wy (dt q11)) (fW (m:=p.2) (n:= -1048576) rfl rfl) (lw (vb (decide ((-1048576)<=p.2))) (aD rfl (dt q11) rfl) (mv (vb (decide ((-1048576)<=p.2))) ?_))))
   by_cases q16:(-1048576)<=p.2
   ·
    refine lv (vp b3 1) (wy (dt q16)) (a7 cq rfl rfl rfl rfl) (lv (vi p.2) (wy (dt q16)) (a9 aG rfl bx5 rfl) (lv (vb (decide (p.2<=1048576))) (wy (dt q16)) (gU (m:=p.2) (n:=1048576) rfl rfl) (lw (vb (decide (p.2<=1048576))) (aD rfl (dt q16) rfl) (ma (vb (decide (p.2<=1048576))) (a8 (av (vs:=[vb (decide (p.2<=1048576))]) Try.func58 (.tmp rfl .nil) ?_))))))
    have e0:(decide (p.2<=1048576):Bool)=(decide (ck p)):=by
      (rw[decide_eq_decide];unfold ck;omega)
    replace bH:=bH.cn ch2
    exact⟨rb e0,bH.below⟩
   refine aa (wn (df q16)) (aa (wn (df q16)) (aa (wn (df q16)) (lw (vb false) (aB rfl (df q16) rfl) (ma (vb false) (a8 (av (vs:=[vb false]) Try.func58 (.tmp rfl .nil) ?_))))))
   have e0:(false:Bool)=(decide (ck p)):=by
     exact(df (by unfold ck;omega)).symm
   replace bH:=bH.cn ch2
   exact⟨rb e0,bH.below⟩
  refine aa (wn (df q11)) (aa (wn (df q11)) (aa (wn (df q11)) (lw (vb false) (aB rfl (df q11) rfl) (mv (vb false) (aa (wn rfl) (aa (wn rfl) (aa (wn rfl) (lw (vb false) (aB rfl rfl rfl) (ma (vb false) (a8 (av (vs:=[vb false]) Try.func58 (.tmp rfl .nil) ?_)))))))))))
  have e0:(false:Bool)=(decide (ck p)):=by
    exact(df (by unfold ck;omega)).symm
  replace bH:=bH.cn ch2
  exact⟨rb e0,bH.below⟩
 refine aa (wn (df q6)) (aa (wn (df q6)) (aa (wn (df q6)) (lw (vb false) (aB rfl (df q6) rfl) (mv (vb false) (aa (wn rfl) (aa (wn rfl) (aa (wn rfl) (lw (vb false) (aB rfl rfl rfl) (mv (vb false) (aa (wn rfl) (aa (wn rfl) (aa (wn rfl) (lw (vb false) (aB rfl rfl rfl) ?_)))))))))))))
 refine ma (vb false) (a8 (av (vs:=[vb false]) Try.func58 (.tmp rfl .nil) ?_))
 have e0:(false:Bool)=(decide (ck p)):=by
   exact(df (by unfold ck;omega)).symm
 replace bH:=bH.cn ch2
 exact⟨rb e0,bH.below⟩
theorem jR(w0:World)(ps:List Pt)(ps_v:Value)(hps_v:Ro w0 ps_v ps):
    Calls Try.prog 49 #[ps_v] w0 (λee w=>ee= .returned (vb (decide (dy ps)))/\cW w0.heap.size w0 w):=by
 refine aI Try.func49 rfl nq ?_
 have bH:=bo.start w0
 have Rps:=hps_v.sl
 refine a6 (a5 rfl (ma (vb false) (a8 (a6 (a6 (a5 rfl (mv ps_v ?_)))))))
 have len1:=(Rps).small
 refine lx (bE bZ rfl Rps) (lx (dZ (m:=(ps.length:Int)) (n:=4096) rfl rfl) (a8 ?_))
 by_cases p1:4096<(ps.length:Int)
 ·
  refine ae rfl (dt p1) (a6 (a5 rfl (ma (vb false) (a8 (av (vs:=[vb false]) Try.func49 (.tmp rfl .nil) ?_)))))
  have e0:(false:Bool)=(decide (dy ps)):=by
    exact(df (λh=>by have:=h.1;omega)).symm
  exact⟨rb e0,bH.below⟩
 refine af rfl (df p1) (am (a6 (a6 (a5 rfl (mv ps_v (lx (bE bZ rfl Rps) (mi 0 (a8 (ao ?_)))))))))
 refine bf (σ:=Nat×aW) (λ⟨k,gq⟩ f w=>bo w0 gq w/\f 8=ps_v/\f 9=vi (ps.length:Int)/\f 10=vi ↑k/\Sl gq (is 0) w ps_v ps/\(k:Int)<=((ps.length:Int):Int)/\(∀j:Nat,j<k->ck (gI ps ↑j))) (λ⟨k,gq⟩=>Int.toNat (((ps.length:Int):Int)-(k:Int))) (0,c0) ?_ ?_
 · exact⟨bH,rfl,rfl,rfl,Rps,by omega,by intro j hj;omega⟩
 clear Rps bH
 rintro⟨k,g4⟩ f2 w3 ⟨bH,zs8,zs9,zs10,Rps,hle_k,hinv⟩ back4
 refine a6 (a5 rfl (lx (b6 (m:=↑k) (n:=(ps.length:Int)) zs10 zs9) (a8 (a6 ?_))))
 by_cases p4:(k:Int)<(ps.length:Int)
 ·
  refine ae rfl (dt p4) (am (a6 (ao (a6 (a5 rfl (lx (ab (v:=ps_v) (i:=↑k) bZ rfl zs8 Rps zs10 (by omega) (by omega)) (lw (vg [vi ((gI ps ↑k).1),vi ((gI ps ↑k).2)]) (aM (v:=ps_v) (i:=↑k) ah rfl Rps (by omega) (by omega) rfl) (lo (bB g4 (is 1) (1,0) rfl ah ?_)))))))))
  intro g8 w5 b7 ch6 bx9
  replace bx9:Bx g8 (is 1) w5 b7 [vi 0,vi 0]:=bx9
  refine lo (au (cs':=[vi ((gI ps ↑k).1),vi ((gI ps ↑k).2)]) ah rfl rfl bx9 rfl nq (AllOne.all (.cons rfl (.cons rfl .nil))) rfl ?_)
  intro w10 ch11 bx12
  clear bx9
  refine a8 (a6 (a5 rfl (lx (ad (ds:=[vi ((gI ps ↑k).1),vi ((gI ps ↑k).2)]) ah rfl bx12 rfl rfl) (lo (aN (v:=vb (decide (ck (gI ps ↑k)))) (az (vals:=[vg [vi ((gI ps ↑k).1),vi ((gI ps ↑k).2)]]) Try.func58 uq uL rfl) (vM w10 (gI ps ↑k)) ?_)))))
  intro w13 hb14
  replace hb14:=aj hb14 g8
  refine lx (cm (b:=(decide (ck (gI ps ↑k)))) rfl) (a8 ?_)
  by_cases p6:(decide (ck (gI ps ↑k)))=true
  ·
   refine af rfl (congrArg Bool.not p6) (am (ak ?_))
   clear bx12
   refine a5 rfl (lx (aQ (m:=↑k) (n:=1) zs10 rfl (by omega)) (mi ((k:Int)+1) (a8 ?_)))
   have C15:=cg [1] (ch6.n.seq ((ch11.l rfl).seq hb14.n))
   refine back4 (k+1,g8) _ _ ⟨bH.ca C15,zs8,zs9,rfl,Rps.ca C15,by omega,?_⟩ ?_
   · show∀j:Nat,j<(k+1)->ck (gI ps ↑j)
     intro j hj
     by_cases e0:j=k
     · subst e0;simpa using of_decide_eq_true ‹_›
     · exact hinv j (by omega)
   · show Int.toNat (((ps.length:Int):Int)-((k+1):Int))<Int.toNat (((ps.length:Int):Int)-(k:Int))
     omega
  refine ae rfl (congrArg Bool.not (Bool.eq_false_iff.2 p6)) (a6 ?_)
  clear bx12
  refine a5 rfl (ma (vb false) (a8 (av (vs:=[vb false]) Try.func49 (.tmp rfl .nil) ?_)))
  have e0:(false:Bool)=(decide (dy ps)):=by
    (refine(df (λh=>?_)).symm
     have h1:=h.2 _ (ba (xs:=ps) (i:=↑k) (by omega) (by omega))
     simp_all;done)
  have C16:=cg [1] (ch6.n.seq ((ch11.l rfl).seq hb14.n))
  replace bH:=bH.ca C16
  exact⟨rb e0,bH.below⟩
 refine af rfl (df p4) (aO rfl (a6 (a5 rfl (ma (vb true) (a8 (av (vs:=[vb true]) Try.func49 (.tmp rfl .nil) ?_))))))
 have e0:(true:Bool)=(decide (dy ps)):=by
   exact(dt ⟨by omega,rv (λj hj=>hinv j (by omega))⟩).symm
 exact⟨rb e0,bH.below⟩
theorem nh(w0:World)(a:Pt)(b:Pt)(p:Pt)(ha:cV a)(hb:cV b)(hp:cV p):
    Calls Try.prog 61 #[vg [vi a.1,vi a.2],vg [vi b.1,vi b.2],vg [vi p.1,vi p.2]] w0 (λee w=>ee= .returned (vb (decide (cA a b p)))/\cW w0.heap.size w0 w):=by
 refine aI Try.func61 rfl nq ?_
 have bH:=bo.start w0
 refine a6 (a5 rfl (cj rfl (bA c0 (is 1) (1,0) rfl rfl ?_)))
 intro g4 w1 b3 ch2 bx5
 replace bx5:Bx g4 (is 1) w1 b3 [vi a.1,vi a.2]:=bx5
 refine lo (bA g4 (is 2) (2,0) rfl rfl ?_)
 intro g9 w6 b8 ch7 bx10
 replace bx10:Bx g9 (is 2) w6 b8 [vi b.1,vi b.2]:=bx10
 refine lo (bA g9 (is 3) (3,0) rfl rfl ?_)
 intro g14 w11 b13 ch12 bx15
 replace bx15:Bx g14 (is 3) w11 b13 [vi p.1,vi p.2]:=bx15
 refine ma (vb false) (a8 (a6 (a5 rfl ?_)))
 replace bx5:=(bx5.cn ch7).cn ch12
 refine lx (ad (ds:=[vi a.1,vi a.2]) ah rfl bx5 rfl rfl) ?_
 replace bx10:=bx10.cn ch12
 refine lx (ad (ds:=[vi b.1,vi b.2]) ah rfl bx10 rfl rfl) (lx (ad (ds:=[vi p.1,vi p.2]) ah rfl bx15 rfl rfl) (lo (aN (v:=vi (bG a b p)) (az (vals:=[vg [vi a.1,vi a.2],vg [vi b.1,vi b.2],vg [vi p.1,vi p.2]]) Try.func59 iT j4 rfl) (j5 w11 a b p ‹_› ‹_› ‹_›) ?_)))
 intro w16 hb17
 replace hb17:=aj hb17 g14
 refine lx (cu (m:=bG a b p) (n:=0) rfl rfl) (mv (vb (decide ((bG a b p)=0))) ?_)
 by_cases q12:(bG a b p)=0
 ·
  refine lv (vp b13 0) (wy (dt q12)) (a7 cq rfl rfl rfl rfl) ?_
  replace bx15:=bx15.cn hb17
  refine lv (vi p.1) (wy (dt q12)) (a9 aG rfl bx15 rfl) (lv (vp b3 0) (wy (dt q12)) (a7 cq rfl rfl rfl rfl) ?_)
  replace bx5:=bx5.cn hb17
  refine lv (vi a.1) (wy (dt q12)) (a9 aG rfl bx5 rfl) (lv (vp b8 0) (wy (dt q12)) (a7 cq rfl rfl rfl rfl) ?_)
  replace bx10:=bx10.cn hb17
  refine lv (vi b.1) (wy (dt q12)) (a9 aG rfl bx10 rfl) (lv (vi (min a.1 b.1)) (wy (dt q12)) (nl rfl rfl) (lv (vb (decide ((min a.1 b.1)<=p.1))) (wy (dt q12)) (fW (m:=p.1) (n:=min a.1 b.1) rfl rfl) (lw (vb (decide ((min a.1 b.1)<=p.1))) (aD rfl (dt q12) rfl) (mv (vb (decide ((min a.1 b.1)<=p.1))) ?_))))
  by_cases q22:(min a.1 b.1)<=p.1
  ·
   refine lv (vp b13 0) (wy (dt q22)) (a7 cq rfl rfl rfl rfl) (lv (vi p.1) (wy (dt q22)) (a9 aG rfl bx15 rfl) (lv (vp b3 0) (wy (dt q22)) (a7 cq rfl rfl rfl rfl) (lv (vi a.1) (wy (dt q22)) (a9 aG rfl bx5 rfl) (lv (vp b8 0) (wy (dt q22)) (a7 cq rfl rfl rfl rfl) (lv (vi b.1) (wy (dt q22)) (a9 aG rfl bx10 rfl) (lv (vi (max a.1 b.1)) (wy (dt q22)) (kI rfl rfl) ?_))))))
   refine lv (vb (decide (p.1<=(max a.1 b.1)))) (wy (dt q22)) (gU (m:=p.1) (n:=max a.1 b.1) rfl rfl) (lw (vb (decide (p.1<=(max a.1 b.1)))) (aD rfl (dt q22) rfl) (mv (vb (decide (p.1<=(max a.1 b.1)))) ?_))
   by_cases q32:p.1<=(max a.1 b.1)
   ·
    refine lv (vp b13 1) (wy (dt q32)) (a7 cq rfl rfl rfl rfl) (lv (vi p.2) (wy (dt q32)) (a9 aG rfl bx15 rfl) (lv (vp b3 1) (wy (dt q32)) (a7 cq rfl rfl rfl rfl) (lv (vi a.2) (wy (dt q32)) (a9 aG rfl bx5 rfl) (lv (vp b8 1) (wy (dt q32)) (a7 cq rfl rfl rfl rfl) (lv (vi b.2) (wy (dt q32)) (a9 aG rfl bx10 rfl) (lv (vi (min a.2 b.2)) (wy (dt q32)) (nl rfl rfl) ?_))))))
    refine lv (vb (decide ((min a.2 b.2)<=p.2))) (wy (dt q32)) (fW (m:=p.2) (n:=min a.2 b.2) rfl rfl) (lw (vb (decide ((min a.2 b.2)<=p.2))) (aD rfl (dt q32) rfl) (mv (vb (decide ((min a.2 b.2)<=p.2))) ?_))
    by_cases q42:(min a.2 b.2)<=p.2
    ·
     refine lv (vp b13 1) (wy (dt q42)) (a7 cq rfl rfl rfl rfl) (lv (vi p.2) (wy (dt q42)) (a9 aG rfl bx15 rfl) (lv (vp b3 1) (wy (dt q42)) (a7 cq rfl rfl rfl rfl) (lv (vi a.2) (wy (dt q42)) (a9 aG rfl bx5 rfl) (lv (vp b8 1) (wy (dt q42)) (a7 cq rfl rfl rfl rfl) (lv (vi b.2) (wy (dt q42)) (a9 aG rfl bx10 rfl) (lv (vi (max a.2 b.2)) (wy (dt q42)) (kI rfl rfl) ?_))))))
     refine lv (vb (decide (p.2<=(max a.2 b.2)))) (wy (dt q42)) (gU (m:=p.2) (n:=max a.2 b.2) rfl rfl) (lw (vb (decide (p.2<=(max a.2 b.2)))) (aD rfl (dt q42) rfl) (ma (vb (decide (p.2<=(max a.2 b.2)))) (a8 (av (vs:=[vb (decide (p.2<=(max a.2 b.2)))]) Try.func61 (.tmp rfl .nil) ?_))))
     have e0:(decide (p.2<=(max a.2 b.2)):Bool)=(decide (cA a b p)):=by
       (rw[decide_eq_decide];unfold cA i8;omega)
     have C18:=cg [] (ch2.n.seq (ch7.n.seq (ch12.n.seq hb17.n)))
     replace bH:=bH.ca C18
     exact⟨(congrArg (a₁:=decide (p.2<=(max a.2 b.2))) (λ(z0:Bool)=>Ending.returned (vb z0)) e0),bH.below⟩
    refine aa (wn (df q42)) (aa (wn (df q42)) (aa (wn (df q42)) (aa (wn (df q42)) (aa (wn (df q42)) (aa (wn (df q42)) (aa (wn (df q42)) (aa (wn (df q42)) (lw (vb false) (aB rfl (df q42) rfl) (ma (vb false) ?_)))))))))
    refine a8 (av (vs:=[vb false]) Try.func61 (.tmp rfl .nil) ?_)
    have e0:(false:Bool)=(decide (cA a b p)):=by
      exact(df (by unfold cA i8;omega)).symm
    have C19:=cg [] (ch2.n.seq (ch7.n.seq (ch12.n.seq hb17.n)))
    replace bH:=bH.ca C19
    exact⟨rb e0,bH.below⟩
   refine aa (wn (df q32)) (aa (wn (df q32)) (aa (wn (df q32)) (aa (wn (df q32)) (aa (wn (df q32)) (aa (wn (df q32)) (aa (wn (df q32)) (aa (wn (df q32)) (lw (vb false) (aB rfl (df q32) rfl) (mv (vb false) ?_)))))))))
   refine aa (wn rfl) (aa (wn rfl) (aa (wn rfl) (aa (wn rfl) (aa (wn rfl) (aa (wn rfl) (aa (wn rfl) (aa (wn rfl) (lw (vb false) (aB rfl rfl rfl) (ma (vb false) (a8 (av (vs:=[vb false]) Try.func61 (.tmp rfl .nil) ?_)))))))))))
   have e0:(false:Bool)=(decide (cA a b p)):=by
     exact(df (by unfold cA i8;omega)).symm
   have C20:=cg [] (ch2.n.seq (ch7.n.seq (ch12.n.seq hb17.n)))
   replace bH:=bH.ca C20
   exact⟨rb e0,bH.below⟩
  refine aa (wn (df q22)) (aa (wn (df q22)) (aa (wn (df q22)) (aa (wn (df q22)) (aa (wn (df q22)) (aa (wn (df q22)) (aa (wn (df q22)) (aa (wn (df q22)) (lw (vb false) (aB rfl (df q22) rfl) (mv (vb false) ?_)))))))))
  refine aa (wn rfl) (aa (wn rfl) (aa (wn rfl) (aa (wn rfl) (aa (wn rfl) (aa (wn rfl) (aa (wn rfl) (aa (wn rfl) (lw (vb false) (aB rfl rfl rfl) (mv (vb false) (aa (wn rfl) (aa (wn rfl) (aa (wn rfl) (aa (wn rfl) (aa (wn rfl) (aa (wn rfl) (aa (wn rfl) (aa (wn rfl) (lw (vb false) (aB rfl rfl rfl) (ma (vb false) (a8 (av (vs:=[vb false]) Try.func61 (.tmp rfl .nil) ?_)))))))))))))))))))))
  have e0:(false:Bool)=(decide (cA a b p)):=by
    exact(df (by unfold cA i8;omega)).symm
  have C21:=cg [] (ch2.n.seq (ch7.n.seq (ch12.n.seq hb17.n)))
  replace bH:=bH.ca C21
  exact⟨rb e0,bH.below⟩
 refine aa (wn (df q12)) (aa (wn (df q12)) (aa (wn (df q12)) (aa (wn (df q12)) (aa (wn (df q12)) (aa (wn (df q12)) (aa (wn (df q12)) (aa (wn (df q12)) (lw (vb false) (aB rfl (df q12) rfl) (mv (vb false) ?_)))))))))
 refine aa (wn rfl) (aa (wn rfl) (aa (wn rfl) (aa (wn rfl) (aa (wn rfl) (aa (wn rfl) (aa (wn rfl) (aa (wn rfl) (lw (vb false) (aB rfl rfl rfl) (mv (vb false) (aa (wn rfl) (aa (wn rfl) (aa (wn rfl) (aa (wn rfl) (aa (wn rfl) (aa (wn rfl) (aa (wn rfl) (aa (wn rfl) (lw (vb false) (aB rfl rfl rfl) (mv (vb false) ?_)))))))))))))))))))
 refine aa (wn rfl) (aa (wn rfl) (aa (wn rfl) (aa (wn rfl) (aa (wn rfl) (aa (wn rfl) (aa (wn rfl) (aa (wn rfl) (lw (vb false) (aB rfl rfl rfl) (ma (vb false) (a8 (av (vs:=[vb false]) Try.func61 (.tmp rfl .nil) ?_)))))))))))
 have e0:(false:Bool)=(decide (cA a b p)):=by
   exact(df (by unfold cA i8;omega)).symm
 have C22:=cg [] (ch2.n.seq (ch7.n.seq (ch12.n.seq hb17.n)))
 replace bH:=bH.ca C22
 exact⟨rb e0,bH.below⟩
theorem gL(w0:World)(a:Pt)(b:Pt):
    Calls Try.prog 67 #[vg [vi a.1,vi a.2],vg [vi b.1,vi b.2]] w0 (λee w=>ee= .returned (vi (c7 a b))/\cW w0.heap.size w0 w):=by
 refine aI Try.func67 rfl nq ?_
 have bH:=bo.start w0
 refine a6 (a5 rfl (cj rfl (bA c0 (is 1) (1,0) rfl rfl ?_)))
 intro g4 w1 b3 ch2 bx5
 replace bx5:Bx g4 (is 1) w1 b3 [vi a.1,vi a.2]:=bx5
 refine lo (bA g4 (is 2) (2,0) rfl rfl ?_)
 intro g9 w6 b8 ch7 bx10
 replace bx10:Bx g9 (is 2) w6 b8 [vi b.1,vi b.2]:=bx10
 refine ai 0 (a8 (a6 (dY g9 (bY []) n5 ?_)))
 intro w12 ch11
 refine ht 0 rfl (bu.refl _ _ _) (λw' hw'=>a7 cq rfl rfl rfl rfl) ?_
 replace bx5:=(bx5.cn ch7).cn ch11
 refine ht 1 rfl (bu.refl _ _ _) (λw' hw'=>a9 aG rfl (bx5.chg hw' (bD rfl)) rfl) (ht 2 rfl (bu.refl _ _ _) (λw' hw'=>a7 cq rfl rfl rfl rfl) ?_)
 replace bx10:=bx10.cn ch11
 refine ht 3 rfl (bu.refl _ _ _) (λw' hw'=>a9 aG rfl (bx10.chg hw' (bD rfl)) rfl) (ht 5 rfl (bu.refl _ _ _) (λw' hw'=>a7 cq rfl rfl rfl rfl) (ht 6 rfl (bu.refl _ _ _) (λw' hw'=>a9 aG rfl (bx5.chg hw' (bD rfl)) rfl) (ht 7 rfl (bu.refl _ _ _) (λw' hw'=>a7 cq rfl rfl rfl rfl) (ht 8 rfl (bu.refl _ _ _) (λw' hw'=>a9 aG rfl (bx10.chg hw' (bD rfl)) rfl) (aL 4 rfl (by kernel_rfl) rfl (aN (v:=vi (ct a.1 b.1)) (az (vals:=[vi a.1,vi b.1]) Try.func64 lW mu rfl) (ik w12 a.1 b.1) ?_))))))
 intro w13 hb14
 replace hb14:=aj hb14 g9
 have hs15:bu (bY []) _ _ _ _:=hb14.n
 refine⟨hs15.same,?_⟩
 refine aL 9 rfl (by kernel_rfl) rfl (aN (v:=vi (ct a.2 b.2)) (az (vals:=[vi a.2,vi b.2]) Try.func64 lW mu rfl) (ik w13 a.2 b.2) ?_)
 intro w16 hb17
 replace hb17:=aj hb17 g9
 have hs18:=hs15.seq (hb17.n)
 refine⟨hs18.same,?_⟩
 refine aL 10 rfl (by kernel_rfl) rfl (aC (α:=Int) g9 (is 3) (is 3) (3,0) rfl [ct a.1 b.1,ct a.2 b.2] wP aG (by decide) (by decide) (vs:=[(0,vi (ct a.1 b.1)),(1,vi (ct a.2 b.2))]) rfl rfl (.cons rfl (.cons rfl .nil)) ?_)
 intro g19 w20 v21 ch22 o23
 have hs24:=hs18.seq (ch22.n)
 refine⟨hs24.same,?_⟩
 refine aL 11 rfl (by kernel_rfl) rfl (aN (v:=vi (nP ([ct a.1 b.1,ct a.2 b.2]))) (az (vals:=[v21]) Try.func69 tc tp rfl) (wD w20 ([ct a.1 b.1,ct a.2 b.2]) v21 (o23.flat).ro) ?_)
 intro w25 hb26
 replace hb26:=aj hb26 g19
 have hs27:=hs24.seq (hb26.n)
 refine⟨hs27.same,?_⟩
 refine ht (v:=vi (nP ([ct a.1 b.1,ct a.2 b.2]))) 12 rfl hs27.same (λw' hw'=>bi rfl) (bQ (by kernel_rfl) (av (vs:=[vi (nP ([ct a.1 b.1,ct a.2 b.2]))]) Try.func67 (.tmp rfl .nil) ?_))
 have e0:(nP ([ct a.1 b.1,ct a.2 b.2]):Int)=(c7 a b):=by
   exact(sj _ _).symm
 have C28:=cg [] (ch2.n.seq (ch7.n.seq (ch11.n.seq (hb14.n.seq (hb17.n.seq (ch22.n.seq hb26.n))))))
 replace bH:=bH.ca C28
 exact⟨ri e0,bH.below⟩
end TL
