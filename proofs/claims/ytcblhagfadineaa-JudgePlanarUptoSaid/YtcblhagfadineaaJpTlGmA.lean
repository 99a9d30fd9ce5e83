import Derived.Test.YtcblhagfadineaaJpTlP4
import Derived.Test.YtcblhagfadineaaProg
import Derived.Test.YtcblhagfadineaaJpTlAli
set_option linter.all false
set_option maxRecDepth 20000
namespace TL
open Go Go.Proofs
theorem nP:Try.prog.follows .mixedOrders=true:=by kernel_rfl
theorem ba:Tp Try.prog 3 false 1 8 (.int .i64 0):=Tp.of (by kernel_rfl)
theorem ah:Tp Try.prog 51 true 2 16 (.agg #[.int .i64 0,.int .i64 0]):=Tp.of (by kernel_rfl)
theorem cQ:Try.f36.body.isNone=false:=rfl
theorem cS:(Try.f36.name== "runtime.NumGoroutine")=false:=by decide+kernel
theorem qr:Try.f37.body.isNone=false:=rfl
theorem qo:(Try.f37.name== "runtime.NumGoroutine")=false:=by decide+kernel
theorem gG:Try.f38.body.isNone=false:=rfl
theorem gH:(Try.f38.name== "runtime.NumGoroutine")=false:=by decide+kernel
theorem rr:Try.f40.body.isNone=false:=rfl
theorem rc:(Try.f40.name== "runtime.NumGoroutine")=false:=by decide+kernel
theorem wY:Try.f48.body.isNone=false:=rfl
theorem vF:(Try.f48.name== "runtime.NumGoroutine")=false:=by decide+kernel
theorem qZ:Try.f51.body.isNone=false:=rfl
theorem rq:(Try.f51.name== "runtime.NumGoroutine")=false:=by decide+kernel
theorem ji:Try.f70.body.isNone=false:=rfl
theorem jK:(Try.f70.name== "runtime.NumGoroutine")=false:=by decide+kernel
theorem ot(w0:World)(x:Int):
    Calls Try.prog 51 #[vi x] w0 (λee w=>ee= .returned (vb false)/\dd w0.heap.size w0 w):=by
 refine av Try.func51 rfl nq ?_
 have bH:=aX.start w0
 refine aa (a8 rfl (ma (vb false) (ab (aa (a8 rfl (mi x (mi x (lx (dU (m:=x) (n:=x) rfl rfl) (ma (vb (!(decide (x=x)))) (ab (au (vs:=[vb (!(decide (x=x)))]) Try.func51 (.tmp rfl .nil) ?_)))))))))))
 have e0:(!(decide (x=x)):Bool)=(false):=by
   simp
 exact⟨(congrArg (a₁:= !(decide (x=x))) (λ(z0:Bool)=>Ending.returned (vb z0)) e0),bH.below⟩
theorem eu(w0:World)(x:Int)(y:Int):
    Calls Try.prog 38 #[vi x,vi y] w0 (λee w=>ee= .returned (vi (bw x y))/\dd w0.heap.size w0 w):=by
 refine av Try.func38 rfl nq ?_
 have bH:=aX.start w0
 refine aa (a8 rfl (ai 0 (ab (aa (a8 rfl (mi x (lo (aK (v:=vb false) (aA (vals:=[vi x]) Try.func51 qZ rq rfl) (ot w0 x) ?_))))))))
 intro w1 hb2
 replace hb2:=ar hb2 c0
 refine ma (vb false) (ab (aa (a8 rfl (mi y (lo (aK (v:=vb false) (aA (vals:=[vi y]) Try.func51 qZ rq rfl) (ot w1 y) ?_))))))
 intro w3 hb4
 replace hb4:=ar hb4 c0
 refine ma (vb false) (ab (aa (aa (a8 rfl (mv (vb false) (ab (aj rfl rfl (am (aa (aa (a8 rfl (mv (vb false) (ab (aj rfl rfl ?_))))))))))))))
 refine am (aa (aa (a8 rfl (mi x (mi y (lx (b6 (m:=x) (n:=y) rfl rfl) (ab ?_)))))))
 by_cases p9:x<y
 ·
  refine ag rfl (dt p9) (aa (a8 rfl (ai (-1) (ab (au (vs:=[vi (-1)]) Try.func38 (.tmp rfl .nil) ?_)))))
  have e0:(-1:Int)=(bw x y):=by
    unfold bw
    rw[if_pos ‹_›]
  replace bH:=bH.cn hb2
  replace bH:=bH.cn hb4
  exact⟨ri e0,bH.below⟩
 refine aj rfl (df p9) (am (aa (aa (a8 rfl (mi x (mi y (lx (e8 (m:=x) (n:=y) rfl rfl) (ab ?_))))))))
 by_cases p11:y<x
 ·
  refine ag rfl (dt p11) (aa (a8 rfl (ai 1 (ab (au (vs:=[vi 1]) Try.func38 (.tmp rfl .nil) ?_)))))
  have e0:(1:Int)=(bw x y):=by
    unfold bw
    rw[if_neg ‹_›,if_pos ‹_›]
  replace bH:=bH.cn hb2
  replace bH:=bH.cn hb4
  exact⟨ri e0,bH.below⟩
 refine aj rfl (df p11) (am (aa (a8 rfl (ai 0 (ab (au (vs:=[vi 0]) Try.func38 (.tmp rfl .nil) ?_))))))
 have e0:(0:Int)=(bw x y):=by
   unfold bw
   rw[if_neg ‹_›,if_neg ‹_›]
 replace bH:=bH.cn hb2
 replace bH:=bH.cn hb4
 exact⟨ri e0,bH.below⟩
theorem xZ(w0:World)(vals:List Int)(vals_v:Value)(hvals_v:Ro w0 vals_v vals):
    Calls Try.prog 37 #[vals_v] w0 (λee w=>ee= .returned (vi (li vals))/\dd w0.heap.size w0 w):=by
 refine av Try.func37 rfl nq ?_
 have bH:=aX.start w0
 have Rvals:=hvals_v.sl
 refine aa (a8 rfl (ai 0 (ab (aa (a8 rfl (ai 0 (ab (aa (aa (a8 rfl (mv vals_v ?_)))))))))))
 have len1:=(Rvals).small
 refine lx (aT dl rfl Rvals) (mi 0 (ab (aq ?_)))
 refine aQ (σ:=Nat×aH) (λ⟨k,gq⟩ f w=>aX w0 gq w/\f 3=vi 0/\f 6=vals_v/\f 7=vi (vals.length:Int)/\f 8=vi ↑k/\Sl gq (is 0) w vals_v vals/\(k:Int)<=((vals.length:Int):Int)/\(∀j:Nat,j<k->gI vals ↑j=0)) (λ⟨k,gq⟩=>Int.toNat (((vals.length:Int):Int)-(k:Int))) (0,c0) ?_ ?_
 · exact⟨bH,rfl,rfl,rfl,rfl,Rvals,by omega,by intro j hj;omega⟩
 clear Rvals bH
 rintro⟨k,g4⟩ f2 w3 ⟨bH,zs3,zs6,zs7,zs8,Rvals,hle_k,hinv⟩ back3
 refine aa (a8 rfl (lx (b6 (m:=↑k) (n:=(vals.length:Int)) zs8 zs7) (ab (aa ?_))))
 by_cases p3:(k:Int)<(vals.length:Int)
 ·
  refine ag rfl (dt p3) (am (aa (aq (aa (a8 rfl (lx (al (v:=vals_v) (i:=↑k) dl rfl zs6 Rvals zs8 (by omega) (by omega)) (lx (br (v:=vals_v) (i:=↑k) ba rfl Rvals (by omega) (by omega) (by decide) rfl) (ai (gI vals ↑k) (ab (aa (a8 rfl (mi (gI vals ↑k) ?_))))))))))))
  refine mz zs3 (lx (dU (m:=(gI vals ↑k)) (n:=0) rfl rfl) (ab ?_))
  by_cases p5:(gI vals ↑k)=0
  ·
   refine aj rfl (congrArg Bool.not (dt p5)) (am (ao (a8 rfl (lx (aP (m:=↑k) (n:=1) zs8 rfl (by omega)) (mi ((k:Int)+1) (ab ?_))))))
   refine back3 (k+1,g4) _ _ ⟨bH,zs3,zs6,zs7,rfl,Rvals,by omega,?_⟩ ?_
   · show∀j:Nat,j<(k+1)->gI vals ↑j=0
     intro j hj
     by_cases e0:j=k
     · subst e0;assumption
     · exact hinv j (by omega)
   · show Int.toNat (((vals.length:Int):Int)-((k+1):Int))<Int.toNat (((vals.length:Int):Int)-(k:Int))
     omega
  refine ag rfl (congrArg Bool.not (df p5)) (aa (a8 rfl (mi (gI vals ↑k) (ai (gI vals ↑k) (ab (au (vs:=[vi (gI vals ↑k)]) Try.func37 (.tmp rfl .nil) ?_))))))
  have e0:((gI vals ↑k):Int)=(li vals):=by
    exact tW hinv ‹_› ‹_›
  exact⟨ri e0,bH.below⟩
 refine aj rfl (df p3) (aM rfl (aa (a8 rfl (mz zs3 (ai 0 (ab (au (vs:=[vi 0]) Try.func37 (.tmp rfl .nil) ?_)))))))
 have e0:(0:Int)=(li vals):=by
   exact u7 hinv ‹_›
 exact⟨ri e0,bH.below⟩
theorem ci(w0:World)(b:Pt)(a:Pt)(hb:fW b)(ha:fW a):
    Calls Try.prog 36 #[vg [vi b.1,vi b.2],vg [vi a.1,vi a.2]] w0 (λee w=>ee= .returned (vg [vi ((aG b a).1),vi ((aG b a).2)])/\dd w0.heap.size w0 w):=by
 refine av Try.func36 rfl nq ?_
 have bH:=aX.start w0
 unfold fW at hb ha
 refine aa (a8 rfl (cj rfl (bj c0 (is 1) (1,0) rfl rfl ?_)))
 intro g4 w1 b3 ch2 bx5
 replace bx5:Bx g4 (is 1) w1 b3 [vi b.1,vi b.2]:=bx5
 refine lo (bj g4 (is 2) (2,0) rfl rfl ?_)
 intro g9 w6 b8 ch7 bx10
 replace bx10:Bx g9 (is 2) w6 b8 [vi a.1,vi a.2]:=bx10
 refine lo (aY g9 (is 3) (3,0) rfl ah ?_)
 intro g14 w11 b13 ch12 bx15
 replace bx15:Bx g14 (is 3) w11 b13 [vi 0,vi 0]:=bx15
 refine ab (aa (a8 rfl (lx (ad dw rfl rfl rfl rfl) ?_)))
 replace bx5:=(bx5.cn ch7).cn ch12
 refine lx (af ba rfl bx5 rfl) (lx (ad dw rfl rfl rfl rfl) ?_)
 replace bx10:=bx10.cn ch12
 refine lx (af ba rfl bx10 rfl) (lx (dD (m:=b.1) (n:=a.1) rfl rfl (by omega)) (lx (ad dw rfl rfl rfl rfl) (lx (af ba rfl bx5 rfl) (lx (ad dw rfl rfl rfl rfl) (lx (af ba rfl bx10 rfl) (lx (dD (m:=b.2) (n:=a.2) rfl rfl (by omega)) (lw (vg [vi (b.1-a.1),vi (b.2-a.2)]) (bQ (vs:=[(0,vi (b.1-a.1)),(1,vi (b.2-a.2))]) rfl (by kernel_rfl)) (lo (aw (cs':=[vi (b.1-a.1),vi (b.2-a.2)]) ah rfl rfl bx15 rfl nq (AllOne.all (.cons rfl (.cons rfl .nil))) rfl ?_)))))))))
 intro w16 ch17 bx18
 clear bx15
 refine ab (au (vs:=[vg [vi (b.1-a.1),vi (b.2-a.2)]]) Try.func36 (.cell rfl (eb (ds:=[vi (b.1-a.1),vi (b.2-a.2)]) ah bx18 rfl rfl) .nil) ?_)
 have e0:((b.1-a.1,b.2-a.2):Pt)=(aG b a):=by
   rfl
 have C19:=cg [3] (ch2.n.seq (ch7.n.seq (ch12.n.seq (ch17.l rfl))))
 replace bH:=bH.ca C19
 exact⟨(congrArg (a₁:=(b.1-a.1,b.2-a.2)) (λ(z0:Pt)=>Ending.returned (vg [vi z0.1,vi z0.2])) e0),bH.below⟩
theorem oO(w0:World)(a:Pt)(b:Pt)(ha:A4 a)(hb:A4 b):
    Calls Try.prog 40 #[vg [vi a.1,vi a.2],vg [vi b.1,vi b.2]] w0 (λee w=>ee= .returned (vi (co a b))/\dd w0.heap.size w0 w):=by
 refine av Try.func40 rfl nq ?_
 have bH:=aX.start w0
 unfold A4 at hb ha
 have h1:=gJ ha.1 hb.2
 have h2:=gJ ha.2 hb.1
 refine aa (a8 rfl (cj rfl (bj c0 (is 1) (1,0) rfl rfl ?_)))
 intro g4 w1 b3 ch2 bx5
 replace bx5:Bx g4 (is 1) w1 b3 [vi a.1,vi a.2]:=bx5
 refine lo (bj g4 (is 2) (2,0) rfl rfl ?_)
 intro g9 w6 b8 ch7 bx10
 replace bx10:Bx g9 (is 2) w6 b8 [vi b.1,vi b.2]:=bx10
 refine ai 0 (ab (aa (a8 rfl (lx (ad dw rfl rfl rfl rfl) ?_))))
 replace bx5:=bx5.cn ch7
 refine lx (af ba rfl bx5 rfl) (lx (ad dw rfl rfl rfl rfl) (lx (af ba rfl bx10 rfl) (lx (eK (m:=a.1) (n:=b.2) rfl rfl (by omega)) (lx (ad dw rfl rfl rfl rfl) (lx (af ba rfl bx5 rfl) (lx (ad dw rfl rfl rfl rfl) (lx (af ba rfl bx10 rfl) (lx (eK (m:=a.2) (n:=b.1) rfl rfl (by omega)) (lx (dD (m:=a.1*b.2) (n:=a.2*b.1) rfl rfl (by omega)) ?_)))))))))
 refine ai ((a.1*b.2)-(a.2*b.1)) (ab (au (vs:=[vi ((a.1*b.2)-(a.2*b.1))]) Try.func40 (.tmp rfl .nil) ?_))
 have e0:((a.1*b.2)-(a.2*b.1):Int)=(co a b):=by
   rfl
 replace bH:=bH.cn ch2
 replace bH:=bH.cn ch7
 exact⟨ri e0,bH.below⟩
theorem jD(w0:World)(a:Pt)(b:Pt)(c:Pt)(ha:fW a)(hb:fW b)(hc:fW c):
    Calls Try.prog 70 #[vg [vi a.1,vi a.2],vg [vi b.1,vi b.2],vg [vi c.1,vi c.2]] w0 (λee w=>ee= .returned (vi (bz a b c))/\dd w0.heap.size w0 w):=by
 refine av Try.func70 rfl nq ?_
 have bH:=aX.start w0
 have hba:=kS ha hb
 have hca:=kS ha hc
 refine aa (a8 rfl (cj rfl (bj c0 (is 1) (1,0) rfl rfl ?_)))
 intro g4 w1 b3 ch2 bx5
 replace bx5:Bx g4 (is 1) w1 b3 [vi a.1,vi a.2]:=bx5
 refine lo (bj g4 (is 2) (2,0) rfl rfl ?_)
 intro g9 w6 b8 ch7 bx10
 replace bx10:Bx g9 (is 2) w6 b8 [vi b.1,vi b.2]:=bx10
 refine lo (bj g9 (is 3) (3,0) rfl rfl ?_)
 intro g14 w11 b13 ch12 bx15
 replace bx15:Bx g14 (is 3) w11 b13 [vi c.1,vi c.2]:=bx15
 refine ai 0 (ab (aa (cD g14 rfl nP (by kernel_rfl) ?_)))
 intro w17 ch16
 replace bx10:=(bx10.cn ch12).cn ch16
 refine qx (λw' hw'=>ak (ds:=[vi b.1,vi b.2]) ah rfl (bx10.bel hw') rfl rfl) ?_
 have C18:=cg [] (ch7.n.seq (ch12.n.seq ch16.n))
 replace bx5:=bx5.ca C18
 refine qx (λw' hw'=>ak (ds:=[vi a.1,vi a.2]) ah rfl (bx5.bel hw') rfl rfl) (eZ (v:=vg [vi ((aG b a).1),vi ((aG b a).2)]) rfl (λw' hw'=>aA (vals:=[vg [vi b.1,vi b.2],vg [vi a.1,vi a.2]]) Try.func36 cQ cS rfl) (λw' hw'=>(ci w' b a ‹_› ‹_›).mono λe w2 h2=>⟨h2.1,hw'.trans (h2.2.mono hw'.size)⟩) ?_)
 replace bx15:=bx15.cn ch16
 refine qx (λw' hw'=>ak (ds:=[vi c.1,vi c.2]) ah rfl (bx15.bel hw') rfl rfl) (qx (λw' hw'=>ak (ds:=[vi a.1,vi a.2]) ah rfl (bx5.bel hw') rfl rfl) (eZ (v:=vg [vi ((aG c a).1),vi ((aG c a).2)]) rfl (λw' hw'=>aA (vals:=[vg [vi c.1,vi c.2],vg [vi a.1,vi a.2]]) Try.func36 cQ cS rfl) (λw' hw'=>(ci w' c a ‹_› ‹_›).mono λe w2 h2=>⟨h2.1,hw'.trans (h2.2.mono hw'.size)⟩) ?_))
 refine eZ (v:=vi (co (aG b a) (aG c a))) rfl (λw' hw'=>aA (vals:=[vg [vi ((aG b a).1),vi ((aG b a).2)],vg [vi ((aG c a).1),vi ((aG c a).2)]]) Try.func40 rr rc rfl) (λw' hw'=>(oO w' (aG b a) (aG c a) ‹_› ‹_›).mono λe w2 h2=>⟨h2.1,hw'.trans (h2.2.mono hw'.size)⟩) (eZ (v:=vi (bw (co (aG b a) (aG c a)) 0)) rfl (λw' hw'=>aA (vals:=[vi (co (aG b a) (aG c a)),vi 0]) Try.func38 gG gH rfl) (λw' hw'=>(eu w' (co (aG b a) (aG c a)) 0).mono λe w2 h2=>⟨h2.1,hw'.trans (h2.2.mono hw'.size)⟩) (qv (vi (bw (co (aG b a) (aG c a)) 0)) (λw' hw'=>bS rfl) (dH ?_)))
 intro w19 hc20
 replace hc20:=ar hc20 g14
 refine au (vs:=[vi (bw (co (aG b a) (aG c a)) 0)]) Try.func70 (.tmp rfl .nil) ?_
 have e0:(bw (co (aG b a) (aG c a)) 0:Int)=(bz a b c):=by
   rfl
 have C21:=cg [] (ch2.n.seq (ch7.n.seq (ch12.n.seq (ch16.n.seq hc20.n))))
 replace bH:=bH.ca C21
 exact⟨(congrArg (a₁:=bw (co (aG b a) (aG c a)) 0) (λ(z0:Int)=>Ending.returned (vi z0)) e0),bH.below⟩
theorem yw(w0:World)(p:Pt):
    Calls Try.prog 48 #[vg [vi p.1,vi p.2]] w0 (λee w=>ee= .returned (vb (decide (cI p)))/\dd w0.heap.size w0 w):=by
 refine av Try.func48 rfl nq ?_
 have bH:=aX.start w0
 refine aa (a8 rfl (cj rfl (bj c0 (is 1) (1,0) rfl rfl ?_)))
 intro g4 w1 b3 ch2 bx5
 replace bx5:Bx g4 (is 1) w1 b3 [vi p.1,vi p.2]:=bx5
 refine ma (vb false) (ab (aa (a8 rfl (lx (ad dw rfl rfl rfl rfl) (lx (af ba rfl bx5 rfl) (lx (gh (m:=p.1) (n:= -1048576) rfl rfl) (mv (vb (decide ((-1048576)<=p.1))) ?_)))))))
 by_cases q6:(-1048576)<=p.1
 ·
  refine lv (vp b3 0) (wy (dt q6)) (ad dw rfl rfl rfl rfl) (lv (vi p.1) (wy (dt q6)) (af ba rfl bx5 rfl) (lv (vb (decide (p.1<=1048576))) (wy (dt q6)) (jq (m:=p.1) (n:=1048576) rfl rfl) (lw (vb (decide (p.1<=1048576))) (aE rfl (dt q6) rfl) (mv (vb (decide (p.1<=1048576))) ?_))))
  by_cases q11:p.1<=1048576
  ·
   refine lv (vp b3 1) (wy (dt q11)) (ad dw rfl rfl rfl rfl) (lv (vi p.2) (wy (dt q11)) (af ba rfl bx5 rfl) (lv (vb (decide ((-1048576)<=p.2))) (wy (dt q11)) (gh (m:=p.2) (n:= -1048576) rfl rfl) (lw (vb (decide ((-1048576)<=p.2))) (aE rfl (dt q11) rfl) (mv (vb (decide ((-1048576)<=p.2))) ?_))))
   by_cases q16:(-1048576)<=p.2
   ·
    refine lv (vp b3 1) (wy (dt q16)) (ad dw rfl rfl rfl rfl) (lv (vi p.2) (wy (dt q16)) (af ba rfl bx5 rfl) (lv (vb (decide (p.2<=1048576))) (wy (dt q16)) (jq (m:=p.2) (n:=1048576) rfl rfl) (lw (vb (decide (p.2<=1048576))) (aE rfl (dt q16) rfl) (ma (vb (decide (p.2<=1048576))) (ab (au (vs:=[vb (decide (p.2<=1048576))]) Try.func48 (.tmp rfl .nil) ?_))))))
    have e0:(decide (p.2<=1048576):Bool)=(decide (cI p)):=by
      (rw[decide_eq_decide];unfold cI;omega)
    replace bH:=bH.cn ch2
    exact⟨rb e0,bH.below⟩
   refine ae (wn (df q16)) (ae (wn (df q16)) (ae (wn (df q16)) (lw (vb false) (aC rfl (df q16) rfl) (ma (vb false) (ab (au (vs:=[vb false]) Try.func48 (.tmp rfl .nil) ?_))))))
   have e0:(false:Bool)=(decide (cI p)):=by
     exact(df (by unfold cI;omega)).symm
   replace bH:=bH.cn ch2
   exact⟨rb e0,bH.below⟩
  refine ae (wn (df q11)) (ae (wn (df q11)) (ae (wn (df q11)) (lw (vb false) (aC rfl (df q11) rfl) (mv (vb false) (ae (wn rfl) (ae (wn rfl) (ae (wn rfl) (lw (vb false) (aC rfl rfl rfl) (ma (vb false) (ab (au (vs:=[vb false]) Try.func48 (.tmp rfl .nil) ?_)))))))))))
  have e0:(false:Bool)=(decide (cI p)):=by
    exact(df (by unfold cI;omega)).symm
  replace bH:=bH.cn ch2
  exact⟨rb e0,bH.below⟩
 refine ae (wn (df q6)) (ae (wn (df q6)) (ae (wn (df q6)) (lw (vb false) (aC rfl (df q6) rfl) (mv (vb false) (ae (wn rfl) (ae (wn rfl) (ae (wn rfl) (lw (vb false) (aC rfl rfl rfl) (mv (vb false) (ae (wn rfl) (ae (wn rfl) (ae (wn rfl) (lw (vb false) (aC rfl rfl rfl) ?_)))))))))))))
 refine ma (vb false) (ab (au (vs:=[vb false]) Try.func48 (.tmp rfl .nil) ?_))
 have e0:(false:Bool)=(decide (cI p)):=by
   exact(df (by unfold cI;omega)).symm
 replace bH:=bH.cn ch2
 exact⟨rb e0,bH.below⟩
theorem fC(w0:World)(ps:List Pt)(ps_v:Value)(hps_v:Ro w0 ps_v ps):
    Calls Try.prog 33 #[ps_v] w0 (λee w=>ee= .returned (vb (decide (dW ps)))/\dd w0.heap.size w0 w):=by
 refine av Try.func33 rfl nq ?_
 have bH:=aX.start w0
 have Rps:=hps_v.sl
 refine aa (a8 rfl (ma (vb false) (ab (aa (aa (a8 rfl (mv ps_v ?_)))))))
 have len1:=(Rps).small
 refine lx (aT cX rfl Rps) (lx (e8 (m:=(ps.length:Int)) (n:=4096) rfl rfl) (ab ?_))
 by_cases p1:4096<(ps.length:Int)
 ·
  refine ag rfl (dt p1) (aa (a8 rfl (ma (vb false) (ab (au (vs:=[vb false]) Try.func33 (.tmp rfl .nil) ?_)))))
  have e0:(false:Bool)=(decide (dW ps)):=by
    exact(df (λh=>by have:=h.1;omega)).symm
  exact⟨rb e0,bH.below⟩
 refine aj rfl (df p1) (am (aa (aa (a8 rfl (mv ps_v (lx (aT cX rfl Rps) (mi 0 (ab (aq ?_)))))))))
 refine aQ (σ:=Nat×aH) (λ⟨k,gq⟩ f w=>aX w0 gq w/\f 8=ps_v/\f 9=vi (ps.length:Int)/\f 10=vi ↑k/\Sl gq (is 0) w ps_v ps/\(k:Int)<=((ps.length:Int):Int)/\(∀j:Nat,j<k->cI (gI ps ↑j))) (λ⟨k,gq⟩=>Int.toNat (((ps.length:Int):Int)-(k:Int))) (0,c0) ?_ ?_
 · exact⟨bH,rfl,rfl,rfl,Rps,by omega,by intro j hj;omega⟩
 clear Rps bH
 rintro⟨k,g4⟩ f2 w3 ⟨bH,zs8,zs9,zs10,Rps,hle_k,hinv⟩ back4
 refine aa (a8 rfl (lx (b6 (m:=↑k) (n:=(ps.length:Int)) zs10 zs9) (ab (aa ?_))))
 by_cases p4:(k:Int)<(ps.length:Int)
 ·
  refine ag rfl (dt p4) (am (aa (aq (aa (a8 rfl (lx (al (v:=ps_v) (i:=↑k) cX rfl zs8 Rps zs10 (by omega) (by omega)) (lw (vg [vi ((gI ps ↑k).1),vi ((gI ps ↑k).2)]) (aJ (v:=ps_v) (i:=↑k) ah rfl Rps (by omega) (by omega) rfl) (lo (aY g4 (is 1) (1,0) rfl ah ?_)))))))))
  intro g8 w5 b7 ch6 bx9
  replace bx9:Bx g8 (is 1) w5 b7 [vi 0,vi 0]:=bx9
  refine lo (aw (cs':=[vi ((gI ps ↑k).1),vi ((gI ps ↑k).2)]) ah rfl rfl bx9 rfl nq (AllOne.all (.cons rfl (.cons rfl .nil))) rfl ?_)
  intro w10 ch11 bx12
  clear bx9
  refine ab (aa (a8 rfl (lx (ak (ds:=[vi ((gI ps ↑k).1),vi ((gI ps ↑k).2)]) ah rfl bx12 rfl rfl) (lo (aK (v:=vb (decide (cI (gI ps ↑k)))) (aA (vals:=[vg [vi ((gI ps ↑k).1),vi ((gI ps ↑k).2)]]) Try.func48 wY vF rfl) (yw w10 (gI ps ↑k)) ?_)))))
  intro w13 hb14
  replace hb14:=ar hb14 g8
  refine lx (dj (b:=(decide (cI (gI ps ↑k)))) rfl) (ab ?_)
  by_cases p6:(decide (cI (gI ps ↑k)))=true
  ·
   refine aj rfl (congrArg Bool.not p6) (am (ao ?_))
   clear bx12
   refine a8 rfl (lx (aP (m:=↑k) (n:=1) zs10 rfl (by omega)) (mi ((k:Int)+1) (ab ?_)))
   have C15:=cg [1] (ch6.n.seq ((ch11.l rfl).seq hb14.n))
   refine back4 (k+1,g8) _ _ ⟨bH.ca C15,zs8,zs9,rfl,Rps.ca C15,by omega,?_⟩ ?_
   · show∀j:Nat,j<(k+1)->cI (gI ps ↑j)
     intro j hj
     by_cases e0:j=k
     · subst e0;simpa using of_decide_eq_true ‹_›
     · exact hinv j (by omega)
   · show Int.toNat (((ps.length:Int):Int)-((k+1):Int))<Int.toNat (((ps.length:Int):Int)-(k:Int))
     omega
  refine ag rfl (congrArg Bool.not (Bool.eq_false_iff.2 p6)) (aa ?_)
  clear bx12
  refine a8 rfl (ma (vb false) (ab (au (vs:=[vb false]) Try.func33 (.tmp rfl .nil) ?_)))
  have e0:(false:Bool)=(decide (dW ps)):=by
    (refine(df (λh=>?_)).symm
     have h1:=h.2 _ (aR (xs:=ps) (i:=↑k) (by omega) (by omega))
     simp_all;done)
  have C16:=cg [1] (ch6.n.seq ((ch11.l rfl).seq hb14.n))
  replace bH:=bH.ca C16
  exact⟨rb e0,bH.below⟩
 refine aj rfl (df p4) (aM rfl (aa (a8 rfl (ma (vb true) (ab (au (vs:=[vb true]) Try.func33 (.tmp rfl .nil) ?_))))))
 have e0:(true:Bool)=(decide (dW ps)):=by
   exact(dt ⟨by omega,yq (λj hj=>hinv j (by omega))⟩).symm
 exact⟨rb e0,bH.below⟩
theorem oR(w0:World)(a:Pt)(b:Pt)(p:Pt)(ha:fW a)(hb:fW b)(hp:fW p):
    Calls Try.prog 72 #[vg [vi a.1,vi a.2],vg [vi b.1,vi b.2],vg [vi p.1,vi p.2]] w0 (λee w=>ee= .returned (vb (decide (dc a b p)))/\dd w0.heap.size w0 w):=by
 refine av Try.func72 rfl nq ?_
 have bH:=aX.start w0
 refine aa (a8 rfl (cj rfl (bj c0 (is 1) (1,0) rfl rfl ?_)))
 intro g4 w1 b3 ch2 bx5
 replace bx5:Bx g4 (is 1) w1 b3 [vi a.1,vi a.2]:=bx5
 refine lo (bj g4 (is 2) (2,0) rfl rfl ?_)
 intro g9 w6 b8 ch7 bx10
 replace bx10:Bx g9 (is 2) w6 b8 [vi b.1,vi b.2]:=bx10
 refine lo (bj g9 (is 3) (3,0) rfl rfl ?_)
 intro g14 w11 b13 ch12 bx15
 replace bx15:Bx g14 (is 3) w11 b13 [vi p.1,vi p.2]:=bx15
 refine ma (vb false) (ab (aa (a8 rfl ?_)))
 replace bx5:=(bx5.cn ch7).cn ch12
 refine lx (ak (ds:=[vi a.1,vi a.2]) ah rfl bx5 rfl rfl) ?_
 replace bx10:=bx10.cn ch12
 refine lx (ak (ds:=[vi b.1,vi b.2]) ah rfl bx10 rfl rfl) (lx (ak (ds:=[vi p.1,vi p.2]) ah rfl bx15 rfl rfl) (lo (aK (v:=vi (bz a b p)) (aA (vals:=[vg [vi a.1,vi a.2],vg [vi b.1,vi b.2],vg [vi p.1,vi p.2]]) Try.func70 ji jK rfl) (jD w11 a b p ‹_› ‹_› ‹_›) ?_)))
 intro w16 hb17
 replace hb17:=ar hb17 g14
 refine lx (cq (m:=bz a b p) (n:=0) rfl rfl) (mv (vb (decide ((bz a b p)=0))) ?_)
 by_cases q12:(bz a b p)=0
 ·
  refine lv (vp b13 0) (wy (dt q12)) (ad dw rfl rfl rfl rfl) ?_
  replace bx15:=bx15.cn hb17
  refine lv (vi p.1) (wy (dt q12)) (af ba rfl bx15 rfl) (lv (vp b3 0) (wy (dt q12)) (ad dw rfl rfl rfl rfl) ?_)
  replace bx5:=bx5.cn hb17
  refine lv (vi a.1) (wy (dt q12)) (af ba rfl bx5 rfl) (lv (vp b8 0) (wy (dt q12)) (ad dw rfl rfl rfl rfl) ?_)
  replace bx10:=bx10.cn hb17
  refine lv (vi b.1) (wy (dt q12)) (af ba rfl bx10 rfl) (lv (vi (min a.1 b.1)) (wy (dt q12)) (oz rfl rfl) (lv (vb (decide ((min a.1 b.1)<=p.1))) (wy (dt q12)) (gh (m:=p.1) (n:=min a.1 b.1) rfl rfl) (lw (vb (decide ((min a.1 b.1)<=p.1))) (aE rfl (dt q12) rfl) (mv (vb (decide ((min a.1 b.1)<=p.1))) ?_))))
  by_cases q22:(min a.1 b.1)<=p.1
  ·
   refine lv (vp b13 0) (wy (dt q22)) (ad dw rfl rfl rfl rfl) (lv (vi p.1) (wy (dt q22)) (af ba rfl bx15 rfl) (lv (vp b3 0) (wy (dt q22)) (ad dw rfl rfl rfl rfl) (lv (vi a.1) (wy (dt q22)) (af ba rfl bx5 rfl) (lv (vp b8 0) (wy (dt q22)) (ad dw rfl rfl rfl rfl) (lv (vi b.1) (wy (dt q22)) (af ba rfl bx10 rfl) (lv (vi (max a.1 b.1)) (wy (dt q22)) (mj rfl rfl) ?_))))))
   refine lv (vb (decide (p.1<=(max a.1 b.1)))) (wy (dt q22)) (jq (m:=p.1) (n:=max a.1 b.1) rfl rfl) (lw (vb (decide (p.1<=(max a.1 b.1)))) (aE rfl (dt q22) rfl) (mv (vb (decide (p.1<=(max a.1 b.1)))) ?_))
   by_cases q32:p.1<=(max a.1 b.1)
   ·
    refine lv (vp b13 1) (wy (dt q32)) (ad dw rfl rfl rfl rfl) (lv (vi p.2) (wy (dt q32)) (af ba rfl bx15 rfl) (lv (vp b3 1) (wy (dt q32)) (ad dw rfl rfl rfl rfl) (lv (vi a.2) (wy (dt q32)) (af ba rfl bx5 rfl) (lv (vp b8 1) (wy (dt q32)) (ad dw rfl rfl rfl rfl) (lv (vi b.2) (wy (dt q32)) (af ba rfl bx10 rfl) (lv (vi (min a.2 b.2)) (wy (dt q32)) (oz rfl rfl) ?_))))))
    refine lv (vb (decide ((min a.2 b.2)<=p.2))) (wy (dt q32)) (gh (m:=p.2) (n:=min a.2 b.2) rfl rfl) (lw (vb (decide ((min a.2 b.2)<=p.2))) (aE rfl (dt q32) rfl) (mv (vb (decide ((min a.2 b.2)<=p.2))) ?_))
    by_cases q42:(min a.2 b.2)<=p.2
    ·
     refine lv (vp b13 1) (wy (dt q42)) (ad dw rfl rfl rfl rfl) (lv (vi p.2) (wy (dt q42)) (af ba rfl bx15 rfl) (lv (vp b3 1) (wy (dt q42)) (ad dw rfl rfl rfl rfl) (lv (vi a.2) (wy (dt q42)) (af ba rfl bx5 rfl) (lv (vp b8 1) (wy (dt q42)) (ad dw rfl rfl rfl rfl) (lv (vi b.2) (wy (dt q42)) (af ba rfl bx10 rfl) (lv (vi (max a.2 b.2)) (wy (dt q42)) (mj rfl rfl) ?_))))))
     refine lv (vb (decide (p.2<=(max a.2 b.2)))) (wy (dt q42)) (jq (m:=p.2) (n:=max a.2 b.2) rfl rfl) (lw (vb (decide (p.2<=(max a.2 b.2)))) (aE rfl (dt q42) rfl) (ma (vb (decide (p.2<=(max a.2 b.2)))) (ab (au (vs:=[vb (decide (p.2<=(max a.2 b.2)))]) Try.func72 (.tmp rfl .nil) ?_))))
     have e0:(decide (p.2<=(max a.2 b.2)):Bool)=(decide (dc a b p)):=by
       (rw[decide_eq_decide];unfold dc iS;omega)
     have C18:=cg [] (ch2.n.seq (ch7.n.seq (ch12.n.seq hb17.n)))
     replace bH:=bH.ca C18
     exact⟨(congrArg (a₁:=decide (p.2<=(max a.2 b.2))) (λ(z0:Bool)=>Ending.returned (vb z0)) e0),bH.below⟩
    refine ae (wn (df q42)) (ae (wn (df q42)) (ae (wn (df q42)) (ae (wn (df q42)) (ae (wn (df q42)) (ae (wn (df q42)) (ae (wn (df q42)) (ae (wn (df q42)) (lw (vb false) (aC rfl (df q42) rfl) (ma (vb false) ?_)))))))))
    refine ab (au (vs:=[vb false]) Try.func72 (.tmp rfl .nil) ?_)
    have e0:(false:Bool)=(decide (dc a b p)):=by
      exact(df (by unfold dc iS;omega)).symm
    have C19:=cg [] (ch2.n.seq (ch7.n.seq (ch12.n.seq hb17.n)))
    replace bH:=bH.ca C19
    exact⟨rb e0,bH.below⟩
   refine ae (wn (df q32)) (ae (wn (df q32)) (ae (wn (df q32)) (ae (wn (df q32)) (ae (wn (df q32)) (ae (wn (df q32)) (ae (wn (df q32)) (ae (wn (df q32)) (lw (vb false) (aC rfl (df q32) rfl) (mv (vb false) ?_)))))))))
   refine ae (wn rfl) (ae (wn rfl) (ae (wn rfl) (ae (wn rfl) (ae (wn rfl) (ae (wn rfl) (ae (wn rfl) (ae (wn rfl) (lw (vb false) (aC rfl rfl rfl) (ma (vb false) (ab (au (vs:=[vb false]) Try.func72 (.tmp rfl .nil) ?_)))))))))))
   have e0:(false:Bool)=(decide (dc a b p)):=by
     exact(df (by unfold dc iS;omega)).symm
   have C20:=cg [] (ch2.n.seq (ch7.n.seq (ch12.n.seq hb17.n)))
   replace bH:=bH.ca C20
   exact⟨rb e0,bH.below⟩
  refine ae (wn (df q22)) (ae (wn (df q22)) (ae (wn (df q22)) (ae (wn (df q22)) (ae (wn (df q22)) (ae (wn (df q22)) (ae (wn (df q22)) (ae (wn (df q22)) (lw (vb false) (aC rfl (df q22) rfl) (mv (vb false) ?_)))))))))
  refine ae (wn rfl) (ae (wn rfl) (ae (wn rfl) (ae (wn rfl) (ae (wn rfl) (ae (wn rfl) (ae (wn rfl) (ae (wn rfl) (lw (vb false) (aC rfl rfl rfl) (mv (vb false) (ae (wn rfl) (ae (wn rfl) (ae (wn rfl) (ae (wn rfl) (ae (wn rfl) (ae (wn rfl) (ae (wn rfl) (ae (wn rfl) (lw (vb false) (aC rfl rfl rfl) (ma (vb false) (ab (au (vs:=[vb false]) Try.func72 (.tmp rfl .nil) ?_)))))))))))))))))))))
  have e0:(false:Bool)=(decide (dc a b p)):=by
    exact(df (by unfold dc iS;omega)).symm
  have C21:=cg [] (ch2.n.seq (ch7.n.seq (ch12.n.seq hb17.n)))
  replace bH:=bH.ca C21
  exact⟨rb e0,bH.below⟩
 refine ae (wn (df q12)) (ae (wn (df q12)) (ae (wn (df q12)) (ae (wn (df q12)) (ae (wn (df q12)) (ae (wn (df q12)) (ae (wn (df q12)) (ae (wn (df q12)) (lw (vb false) (aC rfl (df q12) rfl) (mv (vb false) ?_)))))))))
 refine ae (wn rfl) (ae (wn rfl) (ae (wn rfl) (ae (wn rfl) (ae (wn rfl) (ae (wn rfl) (ae (wn rfl) (ae (wn rfl) (lw (vb false) (aC rfl rfl rfl) (mv (vb false) (ae (wn rfl) (ae (wn rfl) (ae (wn rfl) (ae (wn rfl) (ae (wn rfl) (ae (wn rfl) (ae (wn rfl) (ae (wn rfl) (lw (vb false) (aC rfl rfl rfl) (mv (vb false) ?_)))))))))))))))))))
 refine ae (wn rfl) (ae (wn rfl) (ae (wn rfl) (ae (wn rfl) (ae (wn rfl) (ae (wn rfl) (ae (wn rfl) (ae (wn rfl) (lw (vb false) (aC rfl rfl rfl) (ma (vb false) (ab (au (vs:=[vb false]) Try.func72 (.tmp rfl .nil) ?_)))))))))))
 have e0:(false:Bool)=(decide (dc a b p)):=by
   exact(df (by unfold dc iS;omega)).symm
 have C22:=cg [] (ch2.n.seq (ch7.n.seq (ch12.n.seq hb17.n)))
 replace bH:=bH.ca C22
 exact⟨rb e0,bH.below⟩
theorem im(w0:World)(a:Pt)(b:Pt):
    Calls Try.prog 80 #[vg [vi a.1,vi a.2],vg [vi b.1,vi b.2]] w0 (λee w=>ee= .returned (vi (bN a b))/\dd w0.heap.size w0 w):=by
 refine av Try.func80 rfl nq ?_
 have bH:=aX.start w0
 refine aa (a8 rfl (cj rfl (bj c0 (is 1) (1,0) rfl rfl ?_)))
 intro g4 w1 b3 ch2 bx5
 replace bx5:Bx g4 (is 1) w1 b3 [vi a.1,vi a.2]:=bx5
 refine lo (bj g4 (is 2) (2,0) rfl rfl ?_)
 intro g9 w6 b8 ch7 bx10
 replace bx10:Bx g9 (is 2) w6 b8 [vi b.1,vi b.2]:=bx10
 refine ai 0 (ab (aa (dQ g9 (inl []) nP ?_)))
 intro w12 ch11
 refine ht 0 rfl (b5.refl _ _ _) (λw' hw'=>ad dw rfl rfl rfl rfl) ?_
 replace bx5:=(bx5.cn ch7).cn ch11
 refine ht 1 rfl (b5.refl _ _ _) (λw' hw'=>af ba rfl (bx5.chg hw' (bA rfl)) rfl) (ht 2 rfl (b5.refl _ _ _) (λw' hw'=>ad dw rfl rfl rfl rfl) ?_)
 replace bx10:=bx10.cn ch11
 refine ht 3 rfl (b5.refl _ _ _) (λw' hw'=>af ba rfl (bx10.chg hw' (bA rfl)) rfl) (ht 5 rfl (b5.refl _ _ _) (λw' hw'=>ad dw rfl rfl rfl rfl) (ht 6 rfl (b5.refl _ _ _) (λw' hw'=>af ba rfl (bx5.chg hw' (bA rfl)) rfl) (ht 7 rfl (b5.refl _ _ _) (λw' hw'=>ad dw rfl rfl rfl rfl) (ht 8 rfl (b5.refl _ _ _) (λw' hw'=>af ba rfl (bx10.chg hw' (bA rfl)) rfl) (aO 4 rfl (by kernel_rfl) rfl (aK (v:=vi (bw a.1 b.1)) (aA (vals:=[vi a.1,vi b.1]) Try.func38 gG gH rfl) (eu w12 a.1 b.1) ?_))))))
 intro w13 hb14
 replace hb14:=ar hb14 g9
 have hs15:b5 (inl []) _ _ _ _:=hb14.n
 refine⟨hs15.same,?_⟩
 refine aO 9 rfl (by kernel_rfl) rfl (aK (v:=vi (bw a.2 b.2)) (aA (vals:=[vi a.2,vi b.2]) Try.func38 gG gH rfl) (eu w13 a.2 b.2) ?_)
 intro w16 hb17
 replace hb17:=ar hb17 g9
 have hs18:=hs15.seq (hb17.n)
 refine⟨hs18.same,?_⟩
 refine aO 10 rfl (by kernel_rfl) rfl (aF (α:=Int) g9 (is 3) (is 3) (3,0) rfl [bw a.1 b.1,bw a.2 b.2] dl ba (by decide) (by decide) (vs:=[(0,vi (bw a.1 b.1)),(1,vi (bw a.2 b.2))]) rfl rfl (.cons rfl (.cons rfl .nil)) ?_)
 intro g19 w20 v21 ch22 o23
 have hs24:=hs18.seq (ch22.n)
 refine⟨hs24.same,?_⟩
 refine aO 11 rfl (by kernel_rfl) rfl (aK (v:=vi (li ([bw a.1 b.1,bw a.2 b.2]))) (aA (vals:=[v21]) Try.func37 qr qo rfl) (xZ w20 ([bw a.1 b.1,bw a.2 b.2]) v21 (o23.flat).ro) ?_)
 intro w25 hb26
 replace hb26:=ar hb26 g19
 have hs27:=hs24.seq (hb26.n)
 refine⟨hs27.same,?_⟩
 refine ht (v:=vi (li ([bw a.1 b.1,bw a.2 b.2]))) 12 rfl hs27.same (λw' hw'=>bS rfl) (cK (by kernel_rfl) (au (vs:=[vi (li ([bw a.1 b.1,bw a.2 b.2]))]) Try.func80 (.tmp rfl .nil) ?_))
 have e0:(li ([bw a.1 b.1,bw a.2 b.2]):Int)=(bN a b):=by
   exact(tD _ _).symm
 have C28:=cg [] (ch2.n.seq (ch7.n.seq (ch11.n.seq (hb14.n.seq (hb17.n.seq (ch22.n.seq hb26.n))))))
 replace bH:=bH.ca C28
 exact⟨ri e0,bH.below⟩
theorem qV(w0:World)(p:Pt):
    Calls Try.prog 39 #[vg [vi p.1,vi p.2]] w0 (λee w=>ee= .returned (vi (bv p))/\dd w0.heap.size w0 w):=by
 refine av Try.func39 rfl nq ?_
 have bH:=aX.start w0
 refine aa (a8 rfl (cj rfl (bj c0 (is 1) (1,0) rfl rfl ?_)))
 intro g4 w1 b3 ch2 bx5
 replace bx5:Bx g4 (is 1) w1 b3 [vi p.1,vi p.2]:=bx5
 refine ai 0 (ab (aa (aa (a8 rfl (lx (ad dw rfl rfl rfl rfl) (lx (af ba rfl bx5 rfl) (lx (e8 (m:=p.1) (n:=0) rfl rfl) (mv (vb (decide (0<p.1))) ?_))))))))
 by_cases q6:0<p.1
 ·
  refine ae (wn (dt q6)) (ae (wn (dt q6)) (ae (wn (dt q6)) (ae (wn (dt q6)) (ae (bt rfl rfl rfl) (ae (bt rfl rfl rfl) (ae (bt rfl rfl rfl) (ae (wn (dt q6)) (lw (vb true) (aE rfl (dt q6) rfl) (ab ?_)))))))))
  refine ag rfl rfl (aa ?_)
  clear bx5
  refine a8 rfl (ai 0 (ab (au (vs:=[vi 0]) Try.func39 (.tmp rfl .nil) ?_)))
  have e0:(0:Int)=(bv p):=by
    unfold bv
    rw[if_pos (by omega)]
  replace bH:=bH.cn ch2
  exact⟨ri e0,bH.below⟩
 refine lv (vp b3 0) (wy (df q6)) (ad dw rfl rfl rfl rfl) (lv (vi p.1) (wy (df q6)) (af ba rfl bx5 rfl) (lv (vb (decide (p.1=0))) (wy (df q6)) (cq (m:=p.1) (n:=0) rfl rfl) (lv (vb (decide (p.1=0))) (wy (df q6)) (aD rfl) ?_)))
 by_cases q10:p.1=0
 ·
  refine lv (vp b3 1) (wy (dt q10)) (ad dw rfl rfl rfl rfl) (lv (vi p.2) (wy (dt q10)) (af ba rfl bx5 rfl) (lv (vb (decide (0<p.2))) (wy (dt q10)) (e8 (m:=p.2) (n:=0) rfl rfl) (lv (vb (decide (0<p.2))) (wy (df q6)) (aE rfl (dt q10) rfl) (lw (vb (decide (0<p.2))) (aC rfl (df q6) rfl) (ab ?_)))))
  by_cases p1:0<p.2
  ·
   refine ag rfl (dt p1) (aa ?_)
   clear bx5
   refine a8 rfl (ai 0 (ab (au (vs:=[vi 0]) Try.func39 (.tmp rfl .nil) ?_)))
   have e0:(0:Int)=(bv p):=by
     unfold bv
     rw[if_pos (by omega)]
   replace bH:=bH.cn ch2
   exact⟨ri e0,bH.below⟩
  refine aj rfl (df p1) (am (aa ?_))
  clear bx5
  refine a8 rfl (ai 1 (ab (au (vs:=[vi 1]) Try.func39 (.tmp rfl .nil) ?_)))
  have e0:(1:Int)=(bv p):=by
    unfold bv
    rw[if_neg (by omega)]
  replace bH:=bH.cn ch2
  exact⟨ri e0,bH.below⟩
 refine ae (wn (df q10)) (ae (wn (df q10)) (ae (wn (df q10)) (lv (vb false) (wy (df q6)) (aC rfl (df q10) rfl) (lw (vb false) (aC rfl (df q6) rfl) (ab (aj rfl rfl (am (aa ?_))))))))
 clear bx5
 refine a8 rfl (ai 1 (ab (au (vs:=[vi 1]) Try.func39 (.tmp rfl .nil) ?_)))
 have e0:(1:Int)=(bv p):=by
   unfold bv
   rw[if_neg (by omega)]
 replace bH:=bH.cn ch2
 exact⟨ri e0,bH.below⟩
end TL
