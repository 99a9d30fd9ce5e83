import Derived.Test.YtbpphaeianpdpaaPnTlP2
import Derived.Test.YtbpphaeianpdpaaPnTlGmA
import Derived.Test.YtbpphaeianpdpaaPnTlGenA
import Derived.Test.YtbpphaeianpdpaaPnTlPwA
import Derived.Test.YtbpphaeianpdpaaProg
import Derived.Test.YtbpphaeianpdpaaPnTlAli
set_option linter.all false
set_option maxRecDepth 20000
namespace TL
open Go Go.Proofs
theorem n3:Tp Try.prog 74 false 1 8 (.int .u64 0):=Tp.of (by kernel_rfl)
theorem gV:Try.f23.body.isNone=false:=rfl
theorem gW:(Try.f23.name== "runtime.NumGoroutine")=false:=by decide+kernel
theorem gN:Try.f24.body.isNone=false:=rfl
theorem i5:(Try.f24.name== "runtime.NumGoroutine")=false:=by decide+kernel
theorem gF(w0:World)(g:(Int)×(List Pt))(g_v:Value)(hg_v:Ro w0 g_v g.2)(h:Int)(hh:0<=h/\h<2*(g.2.length:Int))(hlen:g.2.length<=1000000):
    Calls Try.prog 23 #[vg [vi g.1,g_v],vi h] w0 (λee w=>ee= .returned (vi (aH g h))/\bR w0.heap.size w0 w):=by
 refine ap Try.func23 rfl nq ?_
 have bH:=aX.start w0
 have Rg:=hg_v.sl
 obtain⟨hh1,hh2⟩:=hh
 refine a8 (a7 rfl (cS rfl (cM c0 (is 1) (1,0) rfl rfl ?_)))
 intro g4 w1 b3 ch2 bx5
 replace bx5:Bx g4 (is 1) w1 b3 [vi g.1,g_v]:=bx5
 refine ai 0 (aa (a8 (a7 rfl (lx (ah db rfl rfl rfl rfl) (lx (ag bv rfl bx5 rfl) (mi h (lx (dD (m:=h) (n:=2) rfl rfl (by omega) (by omega) (by omega)) (mi h (lx (iJ (m:=h) (n:=2) rfl rfl (by omega) (by omega)) ?_)))))))))
 replace Rg:=Rg.cn ch2
 refine lx (ad (v:=g_v) (i:=h/2) fg rfl rfl Rg rfl (by omega) (by omega)) (lx (aP (i:=h%2) il rfl rfl rfl (by omega) (by omega) (Nat.mul_one _)) (lx (aR (v:=g_v) (i:=h/2) aB rfl Rg (by omega) (by omega) (show Int.toNat (h%2)<2 by omega) (dM _ (by omega) (by omega))) (ai (pI (gI g.2 (h/2)) (h%2)) (aa (aq (vs:=[vi (pI (gI g.2 (h/2)) (h%2))]) Try.func23 (.tmp rfl .nil) ?_)))))
 have e0:(pI (gI g.2 (h/2)) (h%2):Int)=(aH g h):=by
   rfl
 replace bH:=bH.cn ch2
 exact⟨(congrArg (a₁:=pI (gI g.2 (h/2)) (h%2)) (λ(z0:Int)=>Ending.returned (vi z0)) e0),bH.below⟩
theorem jc(w0:World)(g:(Int)×(List Pt))(g_v:Value)(hg_v:Ro w0 g_v g.2)(h:Int)(hh:0<=h/\h<2*(g.2.length:Int))(hlen:g.2.length<=1000000):
    Calls Try.prog 24 #[vg [vi g.1,g_v],vi h] w0 (λee w=>ee= .returned (vi (cz g h))/\bR w0.heap.size w0 w):=by
 refine ap Try.func24 rfl nq ?_
 have bH:=aX.start w0
 have Rg:=hg_v.sl
 obtain⟨hh1,hh2⟩:=hh
 refine a8 (a7 rfl (cS rfl (cM c0 (is 1) (1,0) rfl rfl ?_)))
 intro g4 w1 b3 ch2 bx5
 replace bx5:Bx g4 (is 1) w1 b3 [vi g.1,g_v]:=bx5
 refine ai 0 (aa (a8 (a7 rfl (lx (ah db rfl rfl rfl rfl) (lx (ag bv rfl bx5 rfl) (mi h (lx (dD (m:=h) (n:=2) rfl rfl (by omega) (by omega) (by omega)) (mi h (lx (iJ (m:=h) (n:=2) rfl rfl (by omega) (by omega)) (lx (dH (m:=1) (n:=h%2) rfl rfl (by omega)) ?_))))))))))
 replace Rg:=Rg.cn ch2
 refine lx (ad (v:=g_v) (i:=h/2) fg rfl rfl Rg rfl (by omega) (by omega)) (lx (aP (i:=1-(h%2)) il rfl rfl rfl (by omega) (by omega) (Nat.mul_one _)) (lx (aR (v:=g_v) (i:=h/2) aB rfl Rg (by omega) (by omega) (show Int.toNat (1-(h%2))<2 by omega) (dM _ (by omega) (by omega))) (ai (pI (gI g.2 (h/2)) (1-(h%2))) (aa (aq (vs:=[vi (pI (gI g.2 (h/2)) (1-(h%2)))]) Try.func24 (.tmp rfl .nil) ?_)))))
 have e0:(pI (gI g.2 (h/2)) (1-(h%2)):Int)=(cz g h):=by
   rfl
 replace bH:=bH.cn ch2
 exact⟨(congrArg (a₁:=pI (gI g.2 (h/2)) (1-(h%2))) (λ(z0:Int)=>Ending.returned (vi z0)) e0),bH.below⟩
set_option maxHeartbeats 2000000 in
theorem lO(w0:World)(a:Nat)(b:Nat):
    Calls Try.prog 18 #[Value.float .f64 a,Value.float .f64 b] w0 (λee w=>ee= .returned (vb (decide (a=b)))/\bR w0.heap.size w0 w):=by
 refine ap Try.func18 rfl nq ?_
 have bH:=aX.start w0
 refine a8 (a7 rfl (ma (vb false) (aa (a8 (a7 rfl (mv (Value.float .f64 a) (lw (Value.int .u64 ((a:Nat):Int)) (gA (a:=a) Try.func52 (by kernel_rfl) (by kernel_rfl) (by kernel_rfl) (by kernel_rfl) rfl) (mv (Value.float .f64 b) (lw (Value.int .u64 ((b:Nat):Int)) (gA (a:=b) Try.func52 (by kernel_rfl) (by kernel_rfl) (by kernel_rfl) (by kernel_rfl) rfl) (lx (cI (m:=((a:Nat):Int)) (n:=((b:Nat):Int)) rfl rfl) (ma (vb (decide (((a:Nat):Int)=((b:Nat):Int)))) (aa ?_))))))))))))
 refine aq (vs:=[vb (decide (((a:Nat):Int)=((b:Nat):Int)))]) Try.func18 (.tmp rfl .nil) ?_
 have e0:(decide (((a:Nat):Int)=((b:Nat):Int)):Bool)=(decide (a=b)):=by
   (rw[decide_eq_decide];omega)
 exact⟨(congrArg (a₁:=decide (((a:Nat):Int)=((b:Nat):Int))) (λ(z0:Bool)=>Ending.returned (vb z0)) e0),bH.below⟩
theorem pv(w0:World)(us:List Wd)(us_v:Value)(hus_v:Ro w0 us_v us):
    Calls Try.prog 11 #[us_v] w0 (λee w=>∃xx:ay×Value,ee= .returned ((λ⟨δ,rv0⟩=>rv0) xx)/\(λ(⟨δ,rv0⟩:ay×Value) (w:World)=>eZ w0 δ w/\Ow δ (is 1) (is 1) w rv0 (au us)) xx w):=by
 refine ap Try.func11 rfl nq ?_
 have bH:=aX.start w0
 have Rus:=hus_v.sl
 refine a8 (a7 rfl (ma vn (aa (a8 (a7 rfl (ma vn (aa (a8 (a8 (a7 rfl (ai 0 (aa (ar ?_)))))))))))))
 refine b7 (σ:=Value×(List Nat)×Nat×ay) (λ⟨l_v,l,k,gq⟩ f w=>aX w0 gq w/\f 0=us_v/\f 3=l_v/\f 4=vi ↑k/\Sl gq (is 0) w us_v us/\Ow gq (is 2) (is 2) w l_v l/\(k:Int)<=((us.length:Int):Int)/\(l=au (us.take k))) (λ⟨l_v,l,k,gq⟩=>Int.toNat (((us.length:Int):Int)-(k:Int))) (vn,[],0,c0) ?_ ?_
 · exact⟨bH,rfl,rfl,rfl,Rus,Ow.nil,by omega,by rfl⟩
 clear Rus bH
 rintro⟨l_v,l,k,g3⟩ f1 w2 ⟨bH,zs0,zs3,zs4,Rus,o_l,hle_k,hinv⟩ back3
 have hll:l.length<=k:=by rw[hinv,o8,List.length_take];omega
 refine a8 (a8 (a7 rfl (mz zs4 (mz zs0 ?_))))
 have len4:=(Rus).small
 refine lx (bc pV rfl Rus) (lx (b6 (m:=↑k) (n:=(us.length:Int)) rfl rfl) (aa ?_))
 by_cases p3:(k:Int)<(us.length:Int)
 ·
  refine ae rfl (dt p3) (ao (a8 (ar (a7 rfl (mz zs3 (mz zs0 (mz zs4 (lx (ad (v:=us_v) (i:=↑k) pV rfl rfl Rus rfl (by omega) (by omega)) (lx (ax (v:=us_v) (i:=↑k) n3 rfl Rus (by omega) (by omega) (by decide) rfl) ?_)))))))))
  refine lw (Value.float .f64 (((gI us ↑k)).n)) (ej (n:=((((gI us ↑k)).n:Nat):Int)) Try.func37 (by kernel_rfl) (by kernel_rfl) (by kernel_rfl) (by kernel_rfl) rfl) (lo (bl (α:=Nat) g3 (is 1) (is 1) (1,0) rfl [((gI us ↑k)).n] dw aM (by decide) (by decide) (vs:=[(0,Value.float .f64 (((gI us ↑k)).n))]) rfl rfl (.cons rfl .nil) ?_))
  intro g5 w6 v7 ch8 o9
  refine lo ?_
  replace o_l:=o_l.cn ch8
  refine dh (α:=Nat) (xs:=l) (ys:=([((gI us ↑k)).n])) g5 (J:=is 2) (S:=is 2) (2,0) rfl dw aM (by decide) rfl rfl rfl o_l o9.flat (by decide) (by(simp;omega)) ?_
  intro g10 w11 v12 ch13 o14
  clear o_l
  refine ma v12 (aa (aw ?_))
  clear o9
  refine a7 rfl (mz zs4 (lx (bf (m:=↑k) (n:=1) rfl rfl (by omega)) (ai ((k:Int)+1) (aa ?_))))
  replace bH:=bH.cn ch8
  refine back3 (v12,(l++[((gI us ↑k)).n]),k+1,g10) _ _ ⟨bH.ce ch13,zs0,rfl,rfl,(Rus.cn ch8).ce ch13,o14,by omega,?_⟩ ?_
  · show(l++[((gI us ↑k)).n])=au (us.take (k+1))
    exact m0 hinv ‹_›
  · show Int.toNat (((us.length:Int):Int)-((k+1):Int))<Int.toNat (((us.length:Int):Int)-(k:Int))
    omega
 refine af rfl (df p3) (aI rfl (a8 (a7 rfl (mz zs3 (ma l_v (aa (aq (vs:=[l_v]) Try.func11 (.tmp rfl .nil) ?_)))))))
 have e0:(l:List Nat)=(au us):=by
   exact nu hinv ‹_›
 exact⟨(fin w0 g3 (λn=>if n=2 then 1 else 0),l_v),(congrArg (a₁:=l) (λ(z0:List Nat)=>Ending.returned (l_v)) e0),bH.fresh _,(e0▸(o_l.glue (γ:=c0) (ren:=(λn=>if n=2 then 1 else 0)) (k:=1) bH.col rfl rfl))⟩
theorem ji(w0:World):
    Calls Try.prog 36 #[] w0 (λee w=>∃xx:ay×Value,ee= .returned ((λ⟨δ,rv0⟩=>vg [vi (((3,[(0,1),(1,2),(0,2)]):aL).1),rv0]) xx)/\(λ(⟨δ,rv0⟩:ay×Value) (w:World)=>eZ w0 δ w/\Ow δ (is 1) (is 1) w rv0 (((3,[(0,1),(1,2),(0,2)]):aL).2)) xx w):=by
 refine ap Try.func36 rfl nq ?_
 have bH:=aX.start w0
 refine a8 (a7 rfl (cS rfl (bU c0 (is 1) (1,0) rfl bu ?_)))
 intro g4 w1 b3 ch2 bx5
 replace bx5:Bx g4 (is 1) w1 b3 [vi 0,vn]:=bx5
 refine aa (a8 (a7 rfl (lw (vg [vi 0,vi 1]) (bK (vs:=[(0,vi 0),(1,vi 1)]) rfl (by kernel_rfl)) (lw (vg [vi 1,vi 2]) (bK (vs:=[(0,vi 1),(1,vi 2)]) rfl (by kernel_rfl)) (lw (vg [vi 0,vi 2]) (bK (vs:=[(0,vi 0),(1,vi 2)]) rfl (by kernel_rfl)) (lo ?_))))))
 refine bl (α:=Pt) g4 (is 2) (is 2) (2,0) rfl [(0,1),(1,2),(0,2)] fg du (by decide) (by decide) (vs:=[(0,vg [vi 0,vi 1]),(1,vg [vi 1,vi 2]),(2,vg [vi 0,vi 2])]) rfl rfl (.cons rfl (.cons rfl (.cons rfl .nil))) ?_
 intro g6 w7 v8 ch9 o10
 refine lw (vg [vi 3,v8]) (bK (vs:=[(0,vi 3),(1,v8)]) rfl (by rw[Sl.form o10.flat];kernel_rfl)) (lo ?_)
 replace bx5:=bx5.cn ch9
 refine aT (cs':=[vi 3,v8]) bu rfl rfl bx5 rfl nq (AllOne.all (.cons rfl (.cons (bD o10.flat) .nil))) rfl ?_
 intro w11 ch12 bx13
 clear bx5
 refine aa (aq (vs:=[vg [vi 3,v8]]) Try.func36 (.cell rfl (dA (ds:=[vi 3,v8]) bu bx13 rfl rfl) .nil) ?_)
 have C14:=cg [1] (ch2.n.seq (ch9.n.seq (ch12.l rfl)))
 replace bH:=bH.ca C14
 replace o10:=o10.ce ch12
 have e0:((3,[(0,1),(1,2),(0,2)]):(Int)×(List Pt))=(((3,[(0,1),(1,2),(0,2)]):aL)):=by
   rfl
 exact⟨(fin w0 g6 (λn=>if n=2 then 1 else 0),v8),(congrArg (a₁:=(3,[(0,1),(1,2),(0,2)])) (λ(z0:(Int)×(List Pt))=>Ending.returned (vg [vi z0.1,v8])) e0),bH.fresh _,((congrArg (λ(z:(Int)×(List Pt))=>z.2) e0)▸(o10.glue (γ:=c0) (ren:=(λn=>if n=2 then 1 else 0)) (k:=1) bH.col rfl rfl))⟩
end TL
