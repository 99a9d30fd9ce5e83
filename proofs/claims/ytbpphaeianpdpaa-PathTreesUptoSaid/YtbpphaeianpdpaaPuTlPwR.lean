import Derived.Test.YtbpphaeianpdpaaPuTlP2
import Derived.Test.YtbpphaeianpdpaaPuTlGmA
import Derived.Test.YtbpphaeianpdpaaPuTlGenA
import Derived.Test.YtbpphaeianpdpaaPuTlPwA
import Derived.Test.YtbpphaeianpdpaaProg
import Derived.Test.YtbpphaeianpdpaaPuTlAli
set_option linter.all false
set_option maxRecDepth 20000
namespace TL
open Go Go.Proofs
theorem fq:Try.f23.body.isNone=false:=rfl
theorem fy:(Try.f23.name== "runtime.NumGoroutine")=false:=by decide+kernel
theorem o4:Try.f24.body.isNone=false:=rfl
theorem nG:(Try.f24.name== "runtime.NumGoroutine")=false:=by decide+kernel
theorem fD(w0:World)(g:(Int)×(List Pt))(g_v:Value)(hg_v:Ro w0 g_v g.2)(h:Int)(hh:0<=h/\h<2*(g.2.length:Int))(hlen:g.2.length<=1000000):
    Calls Try.prog 23 #[vg [vi g.1,g_v],vi h] w0 (λee w=>ee= .returned (vi (aB g h))/\ch w0.heap.size w0 w):=by
 refine ap Try.func23 rfl nq ?_
 have bH:=aX.start w0
 have Rg:=hg_v.sl
 obtain⟨hh1,hh2⟩:=hh
 refine a7 (a6 rfl (dA rfl (cY c0 (is 1) (1,0) rfl rfl ?_)))
 intro g4 w1 b3 ch2 bx5
 replace bx5:Bx g4 (is 1) w1 b3 [vi g.1,g_v]:=bx5
 refine ai 0 (a8 (a7 (a6 rfl (lx (aj cS rfl rfl rfl rfl) (lx (ah bw rfl bx5 rfl) (mi h (lx (g0 (m:=h) (n:=2) rfl rfl (by omega) (by omega) (by omega)) (mi h (lx (jy (m:=h) (n:=2) rfl rfl (by omega) (by omega)) ?_)))))))))
 replace Rg:=Rg.cn ch2
 refine lx (aa (v:=g_v) (i:=h/2) eZ rfl rfl Rg rfl (by omega) (by omega)) (lx (aK (i:=h%2) ik rfl rfl rfl (by omega) (by omega) (Nat.mul_one _)) (lx (aP (v:=g_v) (i:=h/2) av rfl Rg (by omega) (by omega) (show Int.toNat (h%2)<2 by omega) (e7 _ (by omega) (by omega))) (ai (pI (gI g.2 (h/2)) (h%2)) (a8 (aq (vs:=[vi (pI (gI g.2 (h/2)) (h%2))]) Try.func23 (.tmp rfl .nil) ?_)))))
 have e0:(pI (gI g.2 (h/2)) (h%2):Int)=(aB g h):=by
   rfl
 replace bH:=bH.cn ch2
 exact⟨(congrArg (a₁:=pI (gI g.2 (h/2)) (h%2)) (λ(z0:Int)=>Ending.returned (vi z0)) e0),bH.below⟩
theorem qd(w0:World)(g:(Int)×(List Pt))(g_v:Value)(hg_v:Ro w0 g_v g.2)(h:Int)(hh:0<=h/\h<2*(g.2.length:Int))(hlen:g.2.length<=1000000):
    Calls Try.prog 24 #[vg [vi g.1,g_v],vi h] w0 (λee w=>ee= .returned (vi (bU g h))/\ch w0.heap.size w0 w):=by
 refine ap Try.func24 rfl nq ?_
 have bH:=aX.start w0
 have Rg:=hg_v.sl
 obtain⟨hh1,hh2⟩:=hh
 refine a7 (a6 rfl (dA rfl (cY c0 (is 1) (1,0) rfl rfl ?_)))
 intro g4 w1 b3 ch2 bx5
 replace bx5:Bx g4 (is 1) w1 b3 [vi g.1,g_v]:=bx5
 refine ai 0 (a8 (a7 (a6 rfl (lx (aj cS rfl rfl rfl rfl) (lx (ah bw rfl bx5 rfl) (mi h (lx (g0 (m:=h) (n:=2) rfl rfl (by omega) (by omega) (by omega)) (mi h (lx (jy (m:=h) (n:=2) rfl rfl (by omega) (by omega)) (lx (dL (m:=1) (n:=h%2) rfl rfl (by omega)) ?_))))))))))
 replace Rg:=Rg.cn ch2
 refine lx (aa (v:=g_v) (i:=h/2) eZ rfl rfl Rg rfl (by omega) (by omega)) (lx (aK (i:=1-(h%2)) ik rfl rfl rfl (by omega) (by omega) (Nat.mul_one _)) (lx (aP (v:=g_v) (i:=h/2) av rfl Rg (by omega) (by omega) (show Int.toNat (1-(h%2))<2 by omega) (e7 _ (by omega) (by omega))) (ai (pI (gI g.2 (h/2)) (1-(h%2))) (a8 (aq (vs:=[vi (pI (gI g.2 (h/2)) (1-(h%2)))]) Try.func24 (.tmp rfl .nil) ?_)))))
 have e0:(pI (gI g.2 (h/2)) (1-(h%2)):Int)=(bU g h):=by
   rfl
 replace bH:=bH.cn ch2
 exact⟨(congrArg (a₁:=pI (gI g.2 (h/2)) (1-(h%2))) (λ(z0:Int)=>Ending.returned (vi z0)) e0),bH.below⟩
theorem jN(w0:World):
    Calls Try.prog 36 #[] w0 (λee w=>∃xx:aw×Value,ee= .returned ((λ⟨δ,rv0⟩=>vg [vi (((3,[(0,1),(1,2),(0,2)]):aD).1),rv0]) xx)/\(λ(⟨δ,rv0⟩:aw×Value) (w:World)=>ej w0 δ w/\Ow δ (is 1) (is 1) w rv0 (((3,[(0,1),(1,2),(0,2)]):aD).2)) xx w):=by
 refine ap Try.func36 rfl nq ?_
 have bH:=aX.start w0
 refine a7 (a6 rfl (dA rfl (bP c0 (is 1) (1,0) rfl bm ?_)))
 intro g4 w1 b3 ch2 bx5
 replace bx5:Bx g4 (is 1) w1 b3 [vi 0,vn]:=bx5
 refine a8 (a7 (a6 rfl (lw (vg [vi 0,vi 1]) (bM (vs:=[(0,vi 0),(1,vi 1)]) rfl (by kernel_rfl)) (lw (vg [vi 1,vi 2]) (bM (vs:=[(0,vi 1),(1,vi 2)]) rfl (by kernel_rfl)) (lw (vg [vi 0,vi 2]) (bM (vs:=[(0,vi 0),(1,vi 2)]) rfl (by kernel_rfl)) (lo ?_))))))
 refine aI (α:=Pt) g4 (is 2) (is 2) (2,0) rfl [(0,1),(1,2),(0,2)] eZ cT (by decide) (by decide) (vs:=[(0,vg [vi 0,vi 1]),(1,vg [vi 1,vi 2]),(2,vg [vi 0,vi 2])]) rfl rfl (.cons rfl (.cons rfl (.cons rfl .nil))) ?_
 intro g6 w7 v8 ch9 o10
 refine lw (vg [vi 3,v8]) (bM (vs:=[(0,vi 3),(1,v8)]) rfl (by rw[Sl.form o10.flat];kernel_rfl)) (lo ?_)
 replace bx5:=bx5.cn ch9
 refine aQ (cs':=[vi 3,v8]) bm rfl rfl bx5 rfl nq (AllOne.all (.cons rfl (.cons (bD o10.flat) .nil))) rfl ?_
 intro w11 ch12 bx13
 clear bx5
 refine a8 (aq (vs:=[vg [vi 3,v8]]) Try.func36 (.cell rfl (dd (ds:=[vi 3,v8]) bm bx13 rfl rfl) .nil) ?_)
 have C14:=cg [1] (ch2.n.seq (ch9.n.seq (ch12.l rfl)))
 replace bH:=bH.ca C14
 replace o10:=o10.ce ch12
 have e0:((3,[(0,1),(1,2),(0,2)]):(Int)×(List Pt))=(((3,[(0,1),(1,2),(0,2)]):aD)):=by
   rfl
 exact⟨(fin w0 g6 (λn=>if n=2 then 1 else 0),v8),(congrArg (a₁:=(3,[(0,1),(1,2),(0,2)])) (λ(z0:(Int)×(List Pt))=>Ending.returned (vg [vi z0.1,v8])) e0),bH.fresh _,((congrArg (λ(z:(Int)×(List Pt))=>z.2) e0)▸(o10.glue (γ:=c0) (ren:=(λn=>if n=2 then 1 else 0)) (k:=1) bH.col rfl rfl))⟩
end TL
