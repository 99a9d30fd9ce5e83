import Derived.Test.YtbadiajeohbpcaaGreatTlP3
import Derived.Test.YtbadiajeohbpcaaGreatProg
import Derived.Test.YtbadiajeohbpcaaGreatTlAli
set_option linter.all false
set_option maxRecDepth 20000
namespace TL
open Go Go.Proofs
theorem oO:Tryz.prog.follows .mixedOrders=true:=by kernel_rfl
theorem az:Tp Tryz.prog 3 false 1 8 (.int .i64 0):=Tp.of (by kernel_rfl)
theorem ah:Tp Tryz.prog 63 true 2 16 (.agg #[.int .i64 0,.int .i64 0]):=Tp.of (by kernel_rfl)
theorem dp:Tryz.f65.body.isNone=false:=rfl
theorem dn:(Tryz.f65.name== "runtime.NumGoroutine")=false:=by decide+kernel
theorem rM:Tryz.f66.body.isNone=false:=rfl
theorem rP:(Tryz.f66.name== "runtime.NumGoroutine")=false:=by decide+kernel
theorem i5:Tryz.f67.body.isNone=false:=rfl
theorem i3:(Tryz.f67.name== "runtime.NumGoroutine")=false:=by decide+kernel
theorem r4:Tryz.f69.body.isNone=false:=rfl
theorem rZ:(Tryz.f69.name== "runtime.NumGoroutine")=false:=by decide+kernel
theorem yB:Tryz.f86.body.isNone=false:=rfl
theorem yx:(Tryz.f86.name== "runtime.NumGoroutine")=false:=by decide+kernel
theorem qO:Tryz.f89.body.isNone=false:=rfl
theorem sb:(Tryz.f89.name== "runtime.NumGoroutine")=false:=by decide+kernel
theorem iM:Tryz.f113.body.isNone=false:=rfl
theorem iL:(Tryz.f113.name== "runtime.NumGoroutine")=false:=by decide+kernel
theorem yN(w0:World)(x:Int)(y:Int):
    Calls Tryz.prog 57 #[vi x,vi y] w0 (λee w=>ee= .returned (vg [vi x,vi y])/\cE w0.heap.size w0 w):=by
 refine au Tryz.func57 rfl nq ?_
 have bH:=aT.start w0
 refine a7 (a6 rfl (bW rfl (aS c0 (is 1) (1,0) rfl ah ?_)))
 intro g4 w1 b3 ch2 bx5
 replace bx5:Bx g4 (is 1) w1 b3 [vi 0,vi 0]:=bx5
 refine aa (a7 (a6 rfl (mi x (mi y (lw (vg [vi x,vi y]) (bw (vs:=[(0,vi x),(1,vi y)]) rfl (by kernel_rfl)) (lo (aw (cs':=[vi x,vi y]) ah rfl rfl bx5 rfl nq (AllOne.all (.cons rfl (.cons rfl .nil))) rfl ?_)))))))
 intro w6 ch7 bx8
 clear bx5
 refine aa (ar (vs:=[vg [vi x,vi y]]) Tryz.func57 (.cell rfl (cB (ds:=[vi x,vi y]) ah bx8 rfl rfl) .nil) ?_)
 have e0:((x,y):Pt)=((x,y)):=by
   rfl
 replace bH:=bH.cn ch2
 replace bH:=bH.ce ch7
 exact⟨(congrArg (a₁:=(x,y)) (λ(z0:Pt)=>Ending.returned (vg [vi z0.1,vi z0.2])) e0),bH.below⟩
theorem pB(w0:World)(x:Int):
    Calls Tryz.prog 89 #[vi x] w0 (λee w=>ee= .returned (vb false)/\cE w0.heap.size w0 w):=by
 refine au Tryz.func89 rfl nq ?_
 have bH:=aT.start w0
 refine a7 (a6 rfl (ma (vb false) (aa (a7 (a6 rfl (mi x (mi x (lx (c5 (m:=x) (n:=x) rfl rfl) (ma (vb (!(decide (x=x)))) (aa (ar (vs:=[vb (!(decide (x=x)))]) Tryz.func89 (.tmp rfl .nil) ?_)))))))))))
 have e0:(!(decide (x=x)):Bool)=(false):=by
   simp
 exact⟨(congrArg (a₁:= !(decide (x=x))) (λ(z0:Bool)=>Ending.returned (vb z0)) e0),bH.below⟩
theorem eR(w0:World)(x:Int)(y:Int):
    Calls Tryz.prog 67 #[vi x,vi y] w0 (λee w=>ee= .returned (vi (bE x y))/\cE w0.heap.size w0 w):=by
 refine au Tryz.func67 rfl nq ?_
 have bH:=aT.start w0
 refine a7 (a6 rfl (ai 0 (aa (a7 (a6 rfl (mi x (lo (aO (v:=vb false) (aA (vals:=[vi x]) Tryz.func89 qO sb rfl) (pB w0 x) ?_))))))))
 intro w1 hb2
 replace hb2:=ao hb2 c0
 refine ma (vb false) (aa (a7 (a6 rfl (mi y (lo (aO (v:=vb false) (aA (vals:=[vi y]) Tryz.func89 qO sb rfl) (pB w1 y) ?_))))))
 intro w3 hb4
 replace hb4:=ao hb4 c0
 refine ma (vb false) (aa (a7 (a7 (a6 rfl (mv (vb false) (aa (ag rfl rfl (ak (a7 (a7 (a6 rfl (mv (vb false) (aa (ag rfl rfl ?_))))))))))))))
 refine ak (a7 (a7 (a6 rfl (mi x (mi y (lx (aZ (m:=x) (n:=y) rfl rfl) (aa ?_)))))))
 by_cases p9:x<y
 ·
  refine af rfl (dt p9) (a7 (a6 rfl (ai (-1) (aa (ar (vs:=[vi (-1)]) Tryz.func67 (.tmp rfl .nil) ?_)))))
  have e0:(-1:Int)=(bE x y):=by
    unfold bE
    rw[if_pos ‹_›]
  replace bH:=bH.cn hb2
  replace bH:=bH.cn hb4
  exact⟨ri e0,bH.below⟩
 refine ag rfl (df p9) (ak (a7 (a7 (a6 rfl (mi x (mi y (lx (d8 (m:=x) (n:=y) rfl rfl) (aa ?_))))))))
 by_cases p11:y<x
 ·
  refine af rfl (dt p11) (a7 (a6 rfl (ai 1 (aa (ar (vs:=[vi 1]) Tryz.func67 (.tmp rfl .nil) ?_)))))
  have e0:(1:Int)=(bE x y):=by
    unfold bE
    rw[if_neg ‹_›,if_pos ‹_›]
  replace bH:=bH.cn hb2
  replace bH:=bH.cn hb4
  exact⟨ri e0,bH.below⟩
 refine ag rfl (df p11) (ak (a7 (a6 rfl (ai 0 (aa (ar (vs:=[vi 0]) Tryz.func67 (.tmp rfl .nil) ?_))))))
 have e0:(0:Int)=(bE x y):=by
   unfold bE
   rw[if_neg ‹_›,if_neg ‹_›]
 replace bH:=bH.cn hb2
 replace bH:=bH.cn hb4
 exact⟨ri e0,bH.below⟩
theorem yL(w0:World)(vals:List Int)(vals_v:Value)(hvals_v:Ro w0 vals_v vals):
    Calls Tryz.prog 66 #[vals_v] w0 (λee w=>ee= .returned (vi (ls vals))/\cE w0.heap.size w0 w):=by
 refine au Tryz.func66 rfl nq ?_
 have bH:=aT.start w0
 have Rvals:=hvals_v.sl
 refine a7 (a6 rfl (ai 0 (aa (a7 (a6 rfl (ai 0 (aa (a7 (a7 (a6 rfl (mv vals_v ?_)))))))))))
 have len1:=(Rvals).small
 refine lx (aQ cS rfl Rvals) (mi 0 (aa (am ?_)))
 refine aN (σ:=Nat×aK) (λ⟨k,gq⟩ f w=>aT w0 gq w/\f 3=vi 0/\f 6=vals_v/\f 7=vi (vals.length:Int)/\f 8=vi ↑k/\Sl gq (is 0) w vals_v vals/\(k:Int)<=((vals.length:Int):Int)/\(∀j:Nat,j<k->gI vals ↑j=0)) (λ⟨k,gq⟩=>Int.toNat (((vals.length:Int):Int)-(k:Int))) (0,c0) ?_ ?_
 · exact⟨bH,rfl,rfl,rfl,rfl,Rvals,by omega,by intro j hj;omega⟩
 clear Rvals bH
 rintro⟨k,g4⟩ f2 w3 ⟨bH,zs3,zs6,zs7,zs8,Rvals,hle_k,hinv⟩ back3
 refine a7 (a6 rfl (lx (aZ (m:=↑k) (n:=(vals.length:Int)) zs8 zs7) (aa (a7 ?_))))
 by_cases p3:(k:Int)<(vals.length:Int)
 ·
  refine af rfl (dt p3) (ak (a7 (am (a7 (a6 rfl (lx (ad (v:=vals_v) (i:=↑k) cS rfl zs6 Rvals zs8 (by omega) (by omega)) (lx (bA (v:=vals_v) (i:=↑k) az rfl Rvals (by omega) (by omega) (by decide) rfl) (ai (gI vals ↑k) (aa (a7 (a6 rfl (mi (gI vals ↑k) ?_))))))))))))
  refine mz zs3 (lx (c5 (m:=(gI vals ↑k)) (n:=0) rfl rfl) (aa ?_))
  by_cases p5:(gI vals ↑k)=0
  ·
   refine ag rfl (congrArg Bool.not (dt p5)) (ak (al (a6 rfl (lx (aM (m:=↑k) (n:=1) zs8 rfl (by omega)) (mi ((k:Int)+1) (aa ?_))))))
   refine back3 (k+1,g4) _ _ ⟨bH,zs3,zs6,zs7,rfl,Rvals,by omega,?_⟩ ?_
   · show∀j:Nat,j<(k+1)->gI vals ↑j=0
     intro j hj
     by_cases e0:j=k
     · subst e0;assumption
     · exact hinv j (by omega)
   · show Int.toNat (((vals.length:Int):Int)-((k+1):Int))<Int.toNat (((vals.length:Int):Int)-(k:Int))
     omega
  refine af rfl (congrArg Bool.not (df p5)) (a7 (a6 rfl (mi (gI vals ↑k) (ai (gI vals ↑k) (aa (ar (vs:=[vi (gI vals ↑k)]) Tryz.func66 (.tmp rfl .nil) ?_))))))
  have e0:((gI vals ↑k):Int)=(ls vals):=by
    exact vf hinv ‹_› ‹_›
  exact⟨ri e0,bH.below⟩
 refine ag rfl (df p3) (aJ rfl (a7 (a6 rfl (mz zs3 (ai 0 (aa (ar (vs:=[vi 0]) Tryz.func66 (.tmp rfl .nil) ?_)))))))
 have e0:(0:Int)=(ls vals):=by
   exact uD hinv ‹_›
 exact⟨ri e0,bH.below⟩
theorem cV(w0:World)(b:Pt)(a:Pt)(hb:dH b)(ha:dH a):
    Calls Tryz.prog 65 #[vg [vi b.1,vi b.2],vg [vi a.1,vi a.2]] w0 (λee w=>ee= .returned (vg [vi ((aY b a).1),vi ((aY b a).2)])/\cE w0.heap.size w0 w):=by
 refine au Tryz.func65 rfl nq ?_
 have bH:=aT.start w0
 unfold dH at hb ha
 refine a7 (a6 rfl (bW rfl (bh c0 (is 1) (1,0) rfl rfl ?_)))
 intro g4 w1 b3 ch2 bx5
 replace bx5:Bx g4 (is 1) w1 b3 [vi b.1,vi b.2]:=bx5
 refine lo (bh g4 (is 2) (2,0) rfl rfl ?_)
 intro g9 w6 b8 ch7 bx10
 replace bx10:Bx g9 (is 2) w6 b8 [vi a.1,vi a.2]:=bx10
 refine lo (aS g9 (is 3) (3,0) rfl ah ?_)
 intro g14 w11 b13 ch12 bx15
 replace bx15:Bx g14 (is 3) w11 b13 [vi 0,vi 0]:=bx15
 refine aa (a7 (a6 rfl (lx (a8 cj rfl rfl rfl rfl) ?_)))
 replace bx5:=(bx5.cn ch7).cn ch12
 refine lx (ab az rfl bx5 rfl) (lx (a8 cj rfl rfl rfl rfl) ?_)
 replace bx10:=bx10.cn ch12
 refine lx (ab az rfl bx10 rfl) (lx (c3 (m:=b.1) (n:=a.1) rfl rfl (by omega)) (lx (a8 cj rfl rfl rfl rfl) (lx (ab az rfl bx5 rfl) (lx (a8 cj rfl rfl rfl rfl) (lx (ab az rfl bx10 rfl) (lx (c3 (m:=b.2) (n:=a.2) rfl rfl (by omega)) (lw (vg [vi (b.1-a.1),vi (b.2-a.2)]) (bw (vs:=[(0,vi (b.1-a.1)),(1,vi (b.2-a.2))]) rfl (by kernel_rfl)) (lo (aw (cs':=[vi (b.1-a.1),vi (b.2-a.2)]) ah rfl rfl bx15 rfl nq (AllOne.all (.cons rfl (.cons rfl .nil))) rfl ?_)))))))))
 intro w16 ch17 bx18
 clear bx15
 refine aa (ar (vs:=[vg [vi (b.1-a.1),vi (b.2-a.2)]]) Tryz.func65 (.cell rfl (cB (ds:=[vi (b.1-a.1),vi (b.2-a.2)]) ah bx18 rfl rfl) .nil) ?_)
 have e0:((b.1-a.1,b.2-a.2):Pt)=(aY b a):=by
   rfl
 have C19:=cg [3] (ch2.n.seq (ch7.n.seq (ch12.n.seq (ch17.l rfl))))
 replace bH:=bH.ca C19
 exact⟨(congrArg (a₁:=(b.1-a.1,b.2-a.2)) (λ(z0:Pt)=>Ending.returned (vg [vi z0.1,vi z0.2])) e0),bH.below⟩
theorem po(w0:World)(a:Pt)(b:Pt)(ha:sG a)(hb:sG b):
    Calls Tryz.prog 69 #[vg [vi a.1,vi a.2],vg [vi b.1,vi b.2]] w0 (λee w=>ee= .returned (vi (dQ a b))/\cE w0.heap.size w0 w):=by
 refine au Tryz.func69 rfl nq ?_
 have bH:=aT.start w0
 unfold sG at hb ha
 have h1:=eT ha.1 hb.2
 have h2:=eT ha.2 hb.1
 refine a7 (a6 rfl (bW rfl (bh c0 (is 1) (1,0) rfl rfl ?_)))
 intro g4 w1 b3 ch2 bx5
 replace bx5:Bx g4 (is 1) w1 b3 [vi a.1,vi a.2]:=bx5
 refine lo (bh g4 (is 2) (2,0) rfl rfl ?_)
 intro g9 w6 b8 ch7 bx10
 replace bx10:Bx g9 (is 2) w6 b8 [vi b.1,vi b.2]:=bx10
 refine ai 0 (aa (a7 (a6 rfl (lx (a8 cj rfl rfl rfl rfl) ?_))))
 replace bx5:=bx5.cn ch7
 refine lx (ab az rfl bx5 rfl) (lx (a8 cj rfl rfl rfl rfl) (lx (ab az rfl bx10 rfl) (lx (dI (m:=a.1) (n:=b.2) rfl rfl (by omega)) (lx (a8 cj rfl rfl rfl rfl) (lx (ab az rfl bx5 rfl) (lx (a8 cj rfl rfl rfl rfl) (lx (ab az rfl bx10 rfl) (lx (dI (m:=a.2) (n:=b.1) rfl rfl (by omega)) (lx (c3 (m:=a.1*b.2) (n:=a.2*b.1) rfl rfl (by omega)) ?_)))))))))
 refine ai ((a.1*b.2)-(a.2*b.1)) (aa (ar (vs:=[vi ((a.1*b.2)-(a.2*b.1))]) Tryz.func69 (.tmp rfl .nil) ?_))
 have e0:((a.1*b.2)-(a.2*b.1):Int)=(dQ a b):=by
   rfl
 replace bH:=bH.cn ch2
 replace bH:=bH.cn ch7
 exact⟨ri e0,bH.below⟩
theorem k6(w0:World)(a:Pt)(b:Pt)(c:Pt)(ha:dH a)(hb:dH b)(hc:dH c):
    Calls Tryz.prog 113 #[vg [vi a.1,vi a.2],vg [vi b.1,vi b.2],vg [vi c.1,vi c.2]] w0 (λee w=>ee= .returned (vi (bG a b c))/\cE w0.heap.size w0 w):=by
 refine au Tryz.func113 rfl nq ?_
 have bH:=aT.start w0
 have hba:=iU ha hb
 have hca:=iU ha hc
 refine a7 (a6 rfl (bW rfl (bh c0 (is 1) (1,0) rfl rfl ?_)))
 intro g4 w1 b3 ch2 bx5
 replace bx5:Bx g4 (is 1) w1 b3 [vi a.1,vi a.2]:=bx5
 refine lo (bh g4 (is 2) (2,0) rfl rfl ?_)
 intro g9 w6 b8 ch7 bx10
 replace bx10:Bx g9 (is 2) w6 b8 [vi b.1,vi b.2]:=bx10
 refine lo (bh g9 (is 3) (3,0) rfl rfl ?_)
 intro g14 w11 b13 ch12 bx15
 replace bx15:Bx g14 (is 3) w11 b13 [vi c.1,vi c.2]:=bx15
 refine ai 0 (aa (a7 (bz g14 rfl oO (by kernel_rfl) ?_)))
 intro w17 ch16
 replace bx10:=(bx10.cn ch12).cn ch16
 refine qx (λw' hw'=>aj (ds:=[vi b.1,vi b.2]) ah rfl (bx10.bel hw') rfl rfl) ?_
 have C18:=cg [] (ch7.n.seq (ch12.n.seq ch16.n))
 replace bx5:=bx5.ca C18
 refine qx (λw' hw'=>aj (ds:=[vi a.1,vi a.2]) ah rfl (bx5.bel hw') rfl rfl) (cl (v:=vg [vi ((aY b a).1),vi ((aY b a).2)]) rfl (λw' hw'=>aA (vals:=[vg [vi b.1,vi b.2],vg [vi a.1,vi a.2]]) Tryz.func65 dp dn rfl) (λw' hw'=>(cV w' b a ‹_› ‹_›).mono λe w2 h2=>⟨h2.1,hw'.trans (h2.2.mono hw'.size)⟩) ?_)
 replace bx15:=bx15.cn ch16
 refine qx (λw' hw'=>aj (ds:=[vi c.1,vi c.2]) ah rfl (bx15.bel hw') rfl rfl) (qx (λw' hw'=>aj (ds:=[vi a.1,vi a.2]) ah rfl (bx5.bel hw') rfl rfl) (cl (v:=vg [vi ((aY c a).1),vi ((aY c a).2)]) rfl (λw' hw'=>aA (vals:=[vg [vi c.1,vi c.2],vg [vi a.1,vi a.2]]) Tryz.func65 dp dn rfl) (λw' hw'=>(cV w' c a ‹_› ‹_›).mono λe w2 h2=>⟨h2.1,hw'.trans (h2.2.mono hw'.size)⟩) ?_))
 refine cl (v:=vi (dQ (aY b a) (aY c a))) rfl (λw' hw'=>aA (vals:=[vg [vi ((aY b a).1),vi ((aY b a).2)],vg [vi ((aY c a).1),vi ((aY c a).2)]]) Tryz.func69 r4 rZ rfl) (λw' hw'=>(po w' (aY b a) (aY c a) ‹_› ‹_›).mono λe w2 h2=>⟨h2.1,hw'.trans (h2.2.mono hw'.size)⟩) (cl (v:=vi (bE (dQ (aY b a) (aY c a)) 0)) rfl (λw' hw'=>aA (vals:=[vi (dQ (aY b a) (aY c a)),vi 0]) Tryz.func67 i5 i3 rfl) (λw' hw'=>(eR w' (dQ (aY b a) (aY c a)) 0).mono λe w2 h2=>⟨h2.1,hw'.trans (h2.2.mono hw'.size)⟩) (qv (vi (bE (dQ (aY b a) (aY c a)) 0)) (λw' hw'=>br rfl) (bN ?_)))
 intro w19 hc20
 replace hc20:=ao hc20 g14
 refine ar (vs:=[vi (bE (dQ (aY b a) (aY c a)) 0)]) Tryz.func113 (.tmp rfl .nil) ?_
 have e0:(bE (dQ (aY b a) (aY c a)) 0:Int)=(bG a b c):=by
   rfl
 have C21:=cg [] (ch2.n.seq (ch7.n.seq (ch12.n.seq (ch16.n.seq hc20.n))))
 replace bH:=bH.ca C21
 exact⟨(congrArg (a₁:=bE (dQ (aY b a) (aY c a)) 0) (λ(z0:Int)=>Ending.returned (vi z0)) e0),bH.below⟩
theorem yX(w0:World)(p:Pt):
    Calls Tryz.prog 86 #[vg [vi p.1,vi p.2]] w0 (λee w=>ee= .returned (vb (decide (cC p)))/\cE w0.heap.size w0 w):=by
 refine au Tryz.func86 rfl nq ?_
 have bH:=aT.start w0
 refine a7 (a6 rfl (bW rfl (bh c0 (is 1) (1,0) rfl rfl ?_)))
 intro g4 w1 b3 ch2 bx5
 replace bx5:Bx g4 (is 1) w1 b3 [vi p.1,vi p.2]:=bx5
 refine ma (vb false) (aa (a7 (a6 rfl (lx (a8 cj rfl rfl rfl rfl) (lx (ab az rfl bx5 rfl) (lx (fN (m:=p.1) (n:= -1048576) rfl rfl) (mv (vb (decide ((-1048576)<=p.1))) ?_)))))))
 by_cases q6:(-1048576)<=p.1
 ·
  refine lv (vp b3 0) (wy (dt q6)) (a8 cj rfl rfl rfl rfl) (lv (vi p.1) (wy (dt q6)) (ab az rfl bx5 rfl) (lv (vb (decide (p.1<=1048576))) (wy (dt q6)) (gB (m:=p.1) (n:=1048576) rfl rfl) (lw (vb (decide (p.1<=1048576))) (aD rfl (dt q6) rfl) (mv (vb (decide (p.1<=1048576))) ?_))))
  by_cases q11:p.1<=1048576
  ·
   refine lv (vp b3 1) (wy (dt q11)) (a8 cj rfl rfl rfl rfl) (lv (vi p.2) (wy (dt q11)) (ab az rfl bx5 rfl) (lv (vb (decide ((-1048576)<=p.2))) (wy (dt q11)) (fN (m:=p.2) (n:= -1048576) rfl rfl) (lw (vb (decide ((-1048576)<=p.2))) (aD rfl (dt q11) rfl) (mv (vb (decide ((-1048576)<=p.2))) ?_))))
   by_cases q16:(-1048576)<=p.2
   ·
    refine lv (vp b3 1) (wy (dt q16)) (a8 cj rfl rfl rfl rfl) (lv (vi p.2) (wy (dt q16)) (ab az rfl bx5 rfl) (lv (vb (decide (p.2<=1048576))) (wy (dt q16)) (gB (m:=p.2) (n:=1048576) rfl rfl) (lw (vb (decide (p.2<=1048576))) (aD rfl (dt q16) rfl) (ma (vb (decide (p.2<=1048576))) (aa (ar (vs:=[vb (decide (p.2<=1048576))]) Tryz.func86 (.tmp rfl .nil) ?_))))))
    have e0:(decide (p.2<=1048576):Bool)=(decide (cC p)):=by
      (rw[decide_eq_decide];unfold cC;omega)
    replace bH:=bH.cn ch2
    exact⟨rb e0,bH.below⟩
   refine ae (wn (df q16)) (ae (wn (df q16)) (ae (wn (df q16)) (lw (vb false) (aB rfl (df q16) rfl) (ma (vb false) (aa (ar (vs:=[vb false]) Tryz.func86 (.tmp rfl .nil) ?_))))))
   have e0:(false:Bool)=(decide (cC p)):=by
     exact(df (by unfold cC;omega)).symm
   replace bH:=bH.cn ch2
   exact⟨rb e0,bH.below⟩
  refine ae (wn (df q11)) (ae (wn (df q11)) (ae (wn (df q11)) (lw (vb false) (aB rfl (df q11) rfl) (mv (vb false) (ae (wn rfl) (ae (wn rfl) (ae (wn rfl) (lw (vb false) (aB rfl rfl rfl) (ma (vb false) (aa (ar (vs:=[vb false]) Tryz.func86 (.tmp rfl .nil) ?_)))))))))))
  have e0:(false:Bool)=(decide (cC p)):=by
    exact(df (by unfold cC;omega)).symm
  replace bH:=bH.cn ch2
  exact⟨rb e0,bH.below⟩
 refine ae (wn (df q6)) (ae (wn (df q6)) (ae (wn (df q6)) (lw (vb false) (aB rfl (df q6) rfl) (mv (vb false) (ae (wn rfl) (ae (wn rfl) (ae (wn rfl) (lw (vb false) (aB rfl rfl rfl) (mv (vb false) (ae (wn rfl) (ae (wn rfl) (ae (wn rfl) (lw (vb false) (aB rfl rfl rfl) ?_)))))))))))))
 refine ma (vb false) (aa (ar (vs:=[vb false]) Tryz.func86 (.tmp rfl .nil) ?_))
 have e0:(false:Bool)=(decide (cC p)):=by
   exact(df (by unfold cC;omega)).symm
 replace bH:=bH.cn ch2
 exact⟨rb e0,bH.below⟩
theorem fO(w0:World)(ps:List Pt)(ps_v:Value)(hps_v:Ro w0 ps_v ps):
    Calls Tryz.prog 62 #[ps_v] w0 (λee w=>ee= .returned (vb (decide (dy ps)))/\cE w0.heap.size w0 w):=by
 refine au Tryz.func62 rfl nq ?_
 have bH:=aT.start w0
 have Rps:=hps_v.sl
 refine a7 (a6 rfl (ma (vb false) (aa (a7 (a7 (a6 rfl (mv ps_v ?_)))))))
 have len1:=(Rps).small
 refine lx (aQ bS rfl Rps) (lx (d8 (m:=(ps.length:Int)) (n:=4096) rfl rfl) (aa ?_))
 by_cases p1:4096<(ps.length:Int)
 ·
  refine af rfl (dt p1) (a7 (a6 rfl (ma (vb false) (aa (ar (vs:=[vb false]) Tryz.func62 (.tmp rfl .nil) ?_)))))
  have e0:(false:Bool)=(decide (dy ps)):=by
    exact(df (λh=>by have:=h.1;omega)).symm
  exact⟨rb e0,bH.below⟩
 refine ag rfl (df p1) (ak (a7 (a7 (a6 rfl (mv ps_v (lx (aQ bS rfl Rps) (mi 0 (aa (am ?_)))))))))
 refine aN (σ:=Nat×aK) (λ⟨k,gq⟩ f w=>aT w0 gq w/\f 8=ps_v/\f 9=vi (ps.length:Int)/\f 10=vi ↑k/\Sl gq (is 0) w ps_v ps/\(k:Int)<=((ps.length:Int):Int)/\(∀j:Nat,j<k->cC (gI ps ↑j))) (λ⟨k,gq⟩=>Int.toNat (((ps.length:Int):Int)-(k:Int))) (0,c0) ?_ ?_
 · exact⟨bH,rfl,rfl,rfl,Rps,by omega,by intro j hj;omega⟩
 clear Rps bH
 rintro⟨k,g4⟩ f2 w3 ⟨bH,zs8,zs9,zs10,Rps,hle_k,hinv⟩ back4
 refine a7 (a6 rfl (lx (aZ (m:=↑k) (n:=(ps.length:Int)) zs10 zs9) (aa (a7 ?_))))
 by_cases p4:(k:Int)<(ps.length:Int)
 ·
  refine af rfl (dt p4) (ak (a7 (am (a7 (a6 rfl (lx (ad (v:=ps_v) (i:=↑k) bS rfl zs8 Rps zs10 (by omega) (by omega)) (lw (vg [vi ((gI ps ↑k).1),vi ((gI ps ↑k).2)]) (aF (v:=ps_v) (i:=↑k) ah rfl Rps (by omega) (by omega) rfl) (lo (aS g4 (is 1) (1,0) rfl ah ?_)))))))))
  intro g8 w5 b7 ch6 bx9
  replace bx9:Bx g8 (is 1) w5 b7 [vi 0,vi 0]:=bx9
  refine lo (aw (cs':=[vi ((gI ps ↑k).1),vi ((gI ps ↑k).2)]) ah rfl rfl bx9 rfl nq (AllOne.all (.cons rfl (.cons rfl .nil))) rfl ?_)
  intro w10 ch11 bx12
  clear bx9
  refine aa (a7 (a6 rfl (lx (aj (ds:=[vi ((gI ps ↑k).1),vi ((gI ps ↑k).2)]) ah rfl bx12 rfl rfl) (lo (aO (v:=vb (decide (cC (gI ps ↑k)))) (aA (vals:=[vg [vi ((gI ps ↑k).1),vi ((gI ps ↑k).2)]]) Tryz.func86 yB yx rfl) (yX w10 (gI ps ↑k)) ?_)))))
  intro w13 hb14
  replace hb14:=ao hb14 g8
  refine lx (bZ (b:=(decide (cC (gI ps ↑k)))) rfl) (aa ?_)
  by_cases p6:(decide (cC (gI ps ↑k)))=true
  ·
   refine ag rfl (congrArg Bool.not p6) (ak (al ?_))
   clear bx12
   refine a6 rfl (lx (aM (m:=↑k) (n:=1) zs10 rfl (by omega)) (mi ((k:Int)+1) (aa ?_)))
   have C15:=cg [1] (ch6.n.seq ((ch11.l rfl).seq hb14.n))
   refine back4 (k+1,g8) _ _ ⟨bH.ca C15,zs8,zs9,rfl,Rps.ca C15,by omega,?_⟩ ?_
   · show∀j:Nat,j<(k+1)->cC (gI ps ↑j)
     intro j hj
     by_cases e0:j=k
     · subst e0;simpa using of_decide_eq_true ‹_›
     · exact hinv j (by omega)
   · show Int.toNat (((ps.length:Int):Int)-((k+1):Int))<Int.toNat (((ps.length:Int):Int)-(k:Int))
     omega
  refine af rfl (congrArg Bool.not (Bool.eq_false_iff.2 p6)) (a7 ?_)
  clear bx12
  refine a6 rfl (ma (vb false) (aa (ar (vs:=[vb false]) Tryz.func62 (.tmp rfl .nil) ?_)))
  have e0:(false:Bool)=(decide (dy ps)):=by
    (refine(df (λh=>?_)).symm
     have h1:=h.2 _ (bk (xs:=ps) (i:=↑k) (by omega) (by omega))
     simp_all;done)
  have C16:=cg [1] (ch6.n.seq ((ch11.l rfl).seq hb14.n))
  replace bH:=bH.ca C16
  exact⟨rb e0,bH.below⟩
 refine ag rfl (df p4) (aJ rfl (a7 (a6 rfl (ma (vb true) (aa (ar (vs:=[vb true]) Tryz.func62 (.tmp rfl .nil) ?_))))))
 have e0:(true:Bool)=(decide (dy ps)):=by
   exact(dt ⟨by omega,vR (λj hj=>hinv j (by omega))⟩).symm
 exact⟨rb e0,bH.below⟩
theorem ow(w0:World)(a:Pt)(b:Pt)(p:Pt)(ha:dH a)(hb:dH b)(hp:dH p):
    Calls Tryz.prog 115 #[vg [vi a.1,vi a.2],vg [vi b.1,vi b.2],vg [vi p.1,vi p.2]] w0 (λee w=>ee= .returned (vb (decide (cF a b p)))/\cE w0.heap.size w0 w):=by
 refine au Tryz.func115 rfl nq ?_
 have bH:=aT.start w0
 refine a7 (a6 rfl (bW rfl (bh c0 (is 1) (1,0) rfl rfl ?_)))
 intro g4 w1 b3 ch2 bx5
 replace bx5:Bx g4 (is 1) w1 b3 [vi a.1,vi a.2]:=bx5
 refine lo (bh g4 (is 2) (2,0) rfl rfl ?_)
 intro g9 w6 b8 ch7 bx10
 replace bx10:Bx g9 (is 2) w6 b8 [vi b.1,vi b.2]:=bx10
 refine lo (bh g9 (is 3) (3,0) rfl rfl ?_)
 intro g14 w11 b13 ch12 bx15
 replace bx15:Bx g14 (is 3) w11 b13 [vi p.1,vi p.2]:=bx15
 refine ma (vb false) (aa (a7 (a6 rfl ?_)))
 replace bx5:=(bx5.cn ch7).cn ch12
 refine lx (aj (ds:=[vi a.1,vi a.2]) ah rfl bx5 rfl rfl) ?_
 replace bx10:=bx10.cn ch12
 refine lx (aj (ds:=[vi b.1,vi b.2]) ah rfl bx10 rfl rfl) (lx (aj (ds:=[vi p.1,vi p.2]) ah rfl bx15 rfl rfl) (lo (aO (v:=vi (bG a b p)) (aA (vals:=[vg [vi a.1,vi a.2],vg [vi b.1,vi b.2],vg [vi p.1,vi p.2]]) Tryz.func113 iM iL rfl) (k6 w11 a b p ‹_› ‹_› ‹_›) ?_)))
 intro w16 hb17
 replace hb17:=ao hb17 g14
 refine lx (c7 (m:=bG a b p) (n:=0) rfl rfl) (mv (vb (decide ((bG a b p)=0))) ?_)
 by_cases q12:(bG a b p)=0
 ·
  refine lv (vp b13 0) (wy (dt q12)) (a8 cj rfl rfl rfl rfl) ?_
  replace bx15:=bx15.cn hb17
  refine lv (vi p.1) (wy (dt q12)) (ab az rfl bx15 rfl) (lv (vp b3 0) (wy (dt q12)) (a8 cj rfl rfl rfl rfl) ?_)
  replace bx5:=bx5.cn hb17
  refine lv (vi a.1) (wy (dt q12)) (ab az rfl bx5 rfl) (lv (vp b8 0) (wy (dt q12)) (a8 cj rfl rfl rfl rfl) ?_)
  replace bx10:=bx10.cn hb17
  refine lv (vi b.1) (wy (dt q12)) (ab az rfl bx10 rfl) (lv (vi (min a.1 b.1)) (wy (dt q12)) (kj rfl rfl) (lv (vb (decide ((min a.1 b.1)<=p.1))) (wy (dt q12)) (fN (m:=p.1) (n:=min a.1 b.1) rfl rfl) (lw (vb (decide ((min a.1 b.1)<=p.1))) (aD rfl (dt q12) rfl) (mv (vb (decide ((min a.1 b.1)<=p.1))) ?_))))
  by_cases q22:(min a.1 b.1)<=p.1
  ·
   refine lv (vp b13 0) (wy (dt q22)) (a8 cj rfl rfl rfl rfl) (lv (vi p.1) (wy (dt q22)) (ab az rfl bx15 rfl) (lv (vp b3 0) (wy (dt q22)) (a8 cj rfl rfl rfl rfl) (lv (vi a.1) (wy (dt q22)) (ab az rfl bx5 rfl) (lv (vp b8 0) (wy (dt q22)) (a8 cj rfl rfl rfl rfl) (lv (vi b.1) (wy (dt q22)) (ab az rfl bx10 rfl) (lv (vi (max a.1 b.1)) (wy (dt q22)) (jM rfl rfl) ?_))))))
   refine lv (vb (decide (p.1<=(max a.1 b.1)))) (wy (dt q22)) (gB (m:=p.1) (n:=max a.1 b.1) rfl rfl) (lw (vb (decide (p.1<=(max a.1 b.1)))) (aD rfl (dt q22) rfl) (mv (vb (decide (p.1<=(max a.1 b.1)))) ?_))
   by_cases q32:p.1<=(max a.1 b.1)
   ·
    refine lv (vp b13 1) (wy (dt q32)) (a8 cj rfl rfl rfl rfl) (lv (vi p.2) (wy (dt q32)) (ab az rfl bx15 rfl) (lv (vp b3 1) (wy (dt q32)) (a8 cj rfl rfl rfl rfl) (lv (vi a.2) (wy (dt q32)) (ab az rfl bx5 rfl) (lv (vp b8 1) (wy (dt q32)) (a8 cj rfl rfl rfl rfl) (lv (vi b.2) (wy (dt q32)) (ab az rfl bx10 rfl) (lv (vi (min a.2 b.2)) (wy (dt q32)) (kj rfl rfl) ?_))))))
    refine lv (vb (decide ((min a.2 b.2)<=p.2))) (wy (dt q32)) (fN (m:=p.2) (n:=min a.2 b.2) rfl rfl) (lw (vb (decide ((min a.2 b.2)<=p.2))) (aD rfl (dt q32) rfl) (mv (vb (decide ((min a.2 b.2)<=p.2))) ?_))
    by_cases q42:(min a.2 b.2)<=p.2
    ·
     refine lv (vp b13 1) (wy (dt q42)) (a8 cj rfl rfl rfl rfl) (lv (vi p.2) (wy (dt q42)) (ab az rfl bx15 rfl) (lv (vp b3 1) (wy (dt q42)) (a8 cj rfl rfl rfl rfl) (lv (vi a.2) (wy (dt q42)) (ab az rfl bx5 rfl) (lv (vp b8 1) (wy (dt q42)) (a8 cj rfl rfl rfl rfl) (lv (vi b.2) (wy (dt q42)) (ab az rfl bx10 rfl) (lv (vi (max a.2 b.2)) (wy (dt q42)) (jM rfl rfl) ?_))))))
     refine lv (vb (decide (p.2<=(max a.2 b.2)))) (wy (dt q42)) (gB (m:=p.2) (n:=max a.2 b.2) rfl rfl) (lw (vb (decide (p.2<=(max a.2 b.2)))) (aD rfl (dt q42) rfl) (ma (vb (decide (p.2<=(max a.2 b.2)))) (aa (ar (vs:=[vb (decide (p.2<=(max a.2 b.2)))]) Tryz.func115 (.tmp rfl .nil) ?_))))
     have e0:(decide (p.2<=(max a.2 b.2)):Bool)=(decide (cF a b p)):=by
       (rw[decide_eq_decide];unfold cF jy;omega)
     have C18:=cg [] (ch2.n.seq (ch7.n.seq (ch12.n.seq hb17.n)))
     replace bH:=bH.ca C18
     exact⟨(congrArg (a₁:=decide (p.2<=(max a.2 b.2))) (λ(z0:Bool)=>Ending.returned (vb z0)) e0),bH.below⟩
    refine ae (wn (df q42)) (ae (wn (df q42)) (ae (wn (df q42)) (ae (wn (df q42)) (ae (wn (df q42)) (ae (wn (df q42)) (ae (wn (df q42)) (ae (wn (df q42)) (lw (vb false) (aB rfl (df q42) rfl) (ma (vb false) ?_)))))))))
    refine aa (ar (vs:=[vb false]) Tryz.func115 (.tmp rfl .nil) ?_)
    have e0:(false:Bool)=(decide (cF a b p)):=by
      exact(df (by unfold cF jy;omega)).symm
    have C19:=cg [] (ch2.n.seq (ch7.n.seq (ch12.n.seq hb17.n)))
    replace bH:=bH.ca C19
    exact⟨rb e0,bH.below⟩
   refine ae (wn (df q32)) (ae (wn (df q32)) (ae (wn (df q32)) (ae (wn (df q32)) (ae (wn (df q32)) (ae (wn (df q32)) (ae (wn (df q32)) (ae (wn (df q32)) (lw (vb false) (aB rfl (df q32) rfl) (mv (vb false) ?_)))))))))
   refine ae (wn rfl) (ae (wn rfl) (ae (wn rfl) (ae (wn rfl) (ae (wn rfl) (ae (wn rfl) (ae (wn rfl) (ae (wn rfl) (lw (vb false) (aB rfl rfl rfl) (ma (vb false) (aa (ar (vs:=[vb false]) Tryz.func115 (.tmp rfl .nil) ?_)))))))))))
   have e0:(false:Bool)=(decide (cF a b p)):=by
     exact(df (by unfold cF jy;omega)).symm
   have C20:=cg [] (ch2.n.seq (ch7.n.seq (ch12.n.seq hb17.n)))
   replace bH:=bH.ca C20
   exact⟨rb e0,bH.below⟩
  refine ae (wn (df q22)) (ae (wn (df q22)) (ae (wn (df q22)) (ae (wn (df q22)) (ae (wn (df q22)) (ae (wn (df q22)) (ae (wn (df q22)) (ae (wn (df q22)) (lw (vb false) (aB rfl (df q22) rfl) (mv (vb false) ?_)))))))))
  refine ae (wn rfl) (ae (wn rfl) (ae (wn rfl) (ae (wn rfl) (ae (wn rfl) (ae (wn rfl) (ae (wn rfl) (ae (wn rfl) (lw (vb false) (aB rfl rfl rfl) (mv (vb false) (ae (wn rfl) (ae (wn rfl) (ae (wn rfl) (ae (wn rfl) (ae (wn rfl) (ae (wn rfl) (ae (wn rfl) (ae (wn rfl) (lw (vb false) (aB rfl rfl rfl) (ma (vb false) (aa (ar (vs:=[vb false]) Tryz.func115 (.tmp rfl .nil) ?_)))))))))))))))))))))
  have e0:(false:Bool)=(decide (cF a b p)):=by
    exact(df (by unfold cF jy;omega)).symm
  have C21:=cg [] (ch2.n.seq (ch7.n.seq (ch12.n.seq hb17.n)))
  replace bH:=bH.ca C21
  exact⟨rb e0,bH.below⟩
 refine ae (wn (df q12)) (ae (wn (df q12)) (ae (wn (df q12)) (ae (wn (df q12)) (ae (wn (df q12)) (ae (wn (df q12)) (ae (wn (df q12)) (ae (wn (df q12)) (lw (vb false) (aB rfl (df q12) rfl) (mv (vb false) ?_)))))))))
 refine ae (wn rfl) (ae (wn rfl) (ae (wn rfl) (ae (wn rfl) (ae (wn rfl) (ae (wn rfl) (ae (wn rfl) (ae (wn rfl) (lw (vb false) (aB rfl rfl rfl) (mv (vb false) (ae (wn rfl) (ae (wn rfl) (ae (wn rfl) (ae (wn rfl) (ae (wn rfl) (ae (wn rfl) (ae (wn rfl) (ae (wn rfl) (lw (vb false) (aB rfl rfl rfl) (mv (vb false) ?_)))))))))))))))))))
 refine ae (wn rfl) (ae (wn rfl) (ae (wn rfl) (ae (wn rfl) (ae (wn rfl) (ae (wn rfl) (ae (wn rfl) (ae (wn rfl) (lw (vb false) (aB rfl rfl rfl) (ma (vb false) (aa (ar (vs:=[vb false]) Tryz.func115 (.tmp rfl .nil) ?_)))))))))))
 have e0:(false:Bool)=(decide (cF a b p)):=by
   exact(df (by unfold cF jy;omega)).symm
 have C22:=cg [] (ch2.n.seq (ch7.n.seq (ch12.n.seq hb17.n)))
 replace bH:=bH.ca C22
 exact⟨rb e0,bH.below⟩
theorem iq(w0:World)(a:Pt)(b:Pt):
    Calls Tryz.prog 123 #[vg [vi a.1,vi a.2],vg [vi b.1,vi b.2]] w0 (λee w=>ee= .returned (vi (cr a b))/\cE w0.heap.size w0 w):=by
 refine au Tryz.func123 rfl nq ?_
 have bH:=aT.start w0
 refine a7 (a6 rfl (bW rfl (bh c0 (is 1) (1,0) rfl rfl ?_)))
 intro g4 w1 b3 ch2 bx5
 replace bx5:Bx g4 (is 1) w1 b3 [vi a.1,vi a.2]:=bx5
 refine lo (bh g4 (is 2) (2,0) rfl rfl ?_)
 intro g9 w6 b8 ch7 bx10
 replace bx10:Bx g9 (is 2) w6 b8 [vi b.1,vi b.2]:=bx10
 refine ai 0 (aa (a7 (eu g9 (bV []) oO ?_)))
 intro w12 ch11
 refine ht 0 rfl (bj.refl _ _ _) (λw' hw'=>a8 cj rfl rfl rfl rfl) ?_
 replace bx5:=(bx5.cn ch7).cn ch11
 refine ht 1 rfl (bj.refl _ _ _) (λw' hw'=>ab az rfl (bx5.chg hw' (bD rfl)) rfl) (ht 2 rfl (bj.refl _ _ _) (λw' hw'=>a8 cj rfl rfl rfl rfl) ?_)
 replace bx10:=bx10.cn ch11
 refine ht 3 rfl (bj.refl _ _ _) (λw' hw'=>ab az rfl (bx10.chg hw' (bD rfl)) rfl) (ht 5 rfl (bj.refl _ _ _) (λw' hw'=>a8 cj rfl rfl rfl rfl) (ht 6 rfl (bj.refl _ _ _) (λw' hw'=>ab az rfl (bx5.chg hw' (bD rfl)) rfl) (ht 7 rfl (bj.refl _ _ _) (λw' hw'=>a8 cj rfl rfl rfl rfl) (ht 8 rfl (bj.refl _ _ _) (λw' hw'=>ab az rfl (bx10.chg hw' (bD rfl)) rfl) (aP 4 rfl (by kernel_rfl) rfl (aO (v:=vi (bE a.1 b.1)) (aA (vals:=[vi a.1,vi b.1]) Tryz.func67 i5 i3 rfl) (eR w12 a.1 b.1) ?_))))))
 intro w13 hb14
 replace hb14:=ao hb14 g9
 have hs15:bj (bV []) _ _ _ _:=hb14.n
 refine⟨hs15.same,?_⟩
 refine aP 9 rfl (by kernel_rfl) rfl (aO (v:=vi (bE a.2 b.2)) (aA (vals:=[vi a.2,vi b.2]) Tryz.func67 i5 i3 rfl) (eR w13 a.2 b.2) ?_)
 intro w16 hb17
 replace hb17:=ao hb17 g9
 have hs18:=hs15.seq (hb17.n)
 refine⟨hs18.same,?_⟩
 refine aP 10 rfl (by kernel_rfl) rfl (aG (α:=Int) g9 (is 3) (is 3) (3,0) rfl [bE a.1 b.1,bE a.2 b.2] cS az (by decide) (by decide) (vs:=[(0,vi (bE a.1 b.1)),(1,vi (bE a.2 b.2))]) rfl rfl (.cons rfl (.cons rfl .nil)) ?_)
 intro g19 w20 v21 ch22 o23
 have hs24:=hs18.seq (ch22.n)
 refine⟨hs24.same,?_⟩
 refine aP 11 rfl (by kernel_rfl) rfl (aO (v:=vi (ls ([bE a.1 b.1,bE a.2 b.2]))) (aA (vals:=[v21]) Tryz.func66 rM rP rfl) (yL w20 ([bE a.1 b.1,bE a.2 b.2]) v21 (o23.flat).ro) ?_)
 intro w25 hb26
 replace hb26:=ao hb26 g19
 have hs27:=hs24.seq (hb26.n)
 refine⟨hs27.same,?_⟩
 refine ht (v:=vi (ls ([bE a.1 b.1,bE a.2 b.2]))) 12 rfl hs27.same (λw' hw'=>br rfl) (c9 (by kernel_rfl) (ar (vs:=[vi (ls ([bE a.1 b.1,bE a.2 b.2]))]) Tryz.func123 (.tmp rfl .nil) ?_))
 have e0:(ls ([bE a.1 b.1,bE a.2 b.2]):Int)=(cr a b):=by
   exact(uS _ _).symm
 have C28:=cg [] (ch2.n.seq (ch7.n.seq (ch11.n.seq (hb14.n.seq (hb17.n.seq (ch22.n.seq hb26.n))))))
 replace bH:=bH.ca C28
 exact⟨ri e0,bH.below⟩
theorem rz(w0:World)(p:Pt):
    Calls Tryz.prog 68 #[vg [vi p.1,vi p.2]] w0 (λee w=>ee= .returned (vi (bm p))/\cE w0.heap.size w0 w):=by
 refine au Tryz.func68 rfl nq ?_
 have bH:=aT.start w0
 refine a7 (a6 rfl (bW rfl (bh c0 (is 1) (1,0) rfl rfl ?_)))
 intro g4 w1 b3 ch2 bx5
 replace bx5:Bx g4 (is 1) w1 b3 [vi p.1,vi p.2]:=bx5
 refine ai 0 (aa (a7 (a7 (a6 rfl (lx (a8 cj rfl rfl rfl rfl) (lx (ab az rfl bx5 rfl) (lx (d8 (m:=p.1) (n:=0) rfl rfl) (mv (vb (decide (0<p.1))) ?_))))))))
 by_cases q6:0<p.1
 ·
  refine ae (wn (dt q6)) (ae (wn (dt q6)) (ae (wn (dt q6)) (ae (wn (dt q6)) (ae (aW rfl rfl rfl) (ae (aW rfl rfl rfl) (ae (aW rfl rfl rfl) (ae (wn (dt q6)) (lw (vb true) (aD rfl (dt q6) rfl) (aa ?_)))))))))
  refine af rfl rfl (a7 ?_)
  clear bx5
  refine a6 rfl (ai 0 (aa (ar (vs:=[vi 0]) Tryz.func68 (.tmp rfl .nil) ?_)))
  have e0:(0:Int)=(bm p):=by
    unfold bm
    rw[if_pos (by omega)]
  replace bH:=bH.cn ch2
  exact⟨ri e0,bH.below⟩
 refine lv (vp b3 0) (wy (df q6)) (a8 cj rfl rfl rfl rfl) (lv (vi p.1) (wy (df q6)) (ab az rfl bx5 rfl) (lv (vb (decide (p.1=0))) (wy (df q6)) (c7 (m:=p.1) (n:=0) rfl rfl) (lv (vb (decide (p.1=0))) (wy (df q6)) (aq rfl) ?_)))
 by_cases q10:p.1=0
 ·
  refine lv (vp b3 1) (wy (dt q10)) (a8 cj rfl rfl rfl rfl) (lv (vi p.2) (wy (dt q10)) (ab az rfl bx5 rfl) (lv (vb (decide (0<p.2))) (wy (dt q10)) (d8 (m:=p.2) (n:=0) rfl rfl) (lv (vb (decide (0<p.2))) (wy (df q6)) (aD rfl (dt q10) rfl) (lw (vb (decide (0<p.2))) (aB rfl (df q6) rfl) (aa ?_)))))
  by_cases p1:0<p.2
  ·
   refine af rfl (dt p1) (a7 ?_)
   clear bx5
   refine a6 rfl (ai 0 (aa (ar (vs:=[vi 0]) Tryz.func68 (.tmp rfl .nil) ?_)))
   have e0:(0:Int)=(bm p):=by
     unfold bm
     rw[if_pos (by omega)]
   replace bH:=bH.cn ch2
   exact⟨ri e0,bH.below⟩
  refine ag rfl (df p1) (ak (a7 ?_))
  clear bx5
  refine a6 rfl (ai 1 (aa (ar (vs:=[vi 1]) Tryz.func68 (.tmp rfl .nil) ?_)))
  have e0:(1:Int)=(bm p):=by
    unfold bm
    rw[if_neg (by omega)]
  replace bH:=bH.cn ch2
  exact⟨ri e0,bH.below⟩
 refine ae (wn (df q10)) (ae (wn (df q10)) (ae (wn (df q10)) (lv (vb false) (wy (df q6)) (aB rfl (df q10) rfl) (lw (vb false) (aB rfl (df q6) rfl) (aa (ag rfl rfl (ak (a7 ?_))))))))
 clear bx5
 refine a6 rfl (ai 1 (aa (ar (vs:=[vi 1]) Tryz.func68 (.tmp rfl .nil) ?_)))
 have e0:(1:Int)=(bm p):=by
   unfold bm
   rw[if_neg (by omega)]
 replace bH:=bH.cn ch2
 exact⟨ri e0,bH.below⟩
end TL
