import Derived.Test.YtbpphaeianpdpaaPnTlP2
import Derived.Test.YtbpphaeianpdpaaPnTlGmA
import Derived.Test.YtbpphaeianpdpaaPnTlGenA
import Derived.Test.YtbpphaeianpdpaaPnTlPwA
import Derived.Test.YtbpphaeianpdpaaPnTlPwR
import Derived.Test.YtbpphaeianpdpaaProg
import Derived.Test.YtbpphaeianpdpaaPnTlAli
set_option linter.all false
set_option maxRecDepth 20000
namespace TL
open Go Go.Proofs
theorem gB:Try.prog.follows .mixedOrders=true:=by kernel_rfl
theorem eu(w0:World)(g:(Int)×(List Pt))(g_v:Value)(hg_v:Ro w0 g_v g.2)(l:List Int)(l_v:Value)(hl_v:Ro w0 l_v l)(round_:Bool)(hm:bj g)(hr:round_=false)(hc:ja g l):
    Calls Try.prog 28 #[vg [vi g.1,g_v],l_v,vb round_] w0 (λee w=>ee= .returned (vb true)/\bR w0.heap.size w0 w):=by
 refine ap Try.func28 rfl nq ?_
 have bH:=aX.start w0
 have Rg:=hg_v.sl
 have Rl:=hl_v.sl
 have hm0:=hm
 obtain⟨hm1,hm2,hm3,hm4⟩:=hm0
 refine a8 (a7 rfl (cS rfl (cM c0 (is 1) (1,0) rfl rfl ?_)))
 intro g4 w1 b3 ch2 bx5
 replace bx5:Bx g4 (is 1) w1 b3 [vi g.1,g_v]:=bx5
 refine ma (vb false) (aa (a8 (a8 (a7 rfl (ai 0 (aa (ar ?_)))))))
 refine b7 (σ:=Nat×ay) (λ⟨i,gq⟩ f w=>aX w0 gq w/\f 1=l_v/\f 2=vb round_/\f 3=vp b3 0/\f 7=vi ↑i/\Sl gq (is 0) w g_v g.2/\Sl gq (is 0) w l_v l/\Bx gq (is 1) w b3 [vi g.1,g_v]/\(i:Int)<=((l.length:Int):Int)/\(True)) (λ⟨i,gq⟩=>l.length-i) (0,g4) ?_ ?_
 · exact⟨bH.cn ch2,rfl,rfl,rfl,rfl,Rg.cn ch2,Rl.cn ch2,bx5,by omega,by trivial⟩
 clear Rg Rl bx5 bH
 rintro⟨i,g8⟩ f6 w7 ⟨bH,zs1,zs2,zs3,zs7,Rg,Rl,bx5,hle_i,hinv⟩ back2
 refine a8 (a8 (a7 rfl (mz zs7 (mz zs1 ?_))))
 have len9:=(Rl).small
 refine lx (bc cm rfl Rl) (lx (b6 (m:=↑i) (n:=(l.length:Int)) rfl rfl) (aa ?_))
 by_cases p2:(i:Int)<(l.length:Int)
 ·
  refine ae rfl (dt p2) ?_
  obtain⟨hc1,hc2,hc3⟩:=lB hc (i:=i) ‹_›
  refine ao (a8 (ar (a8 (a8 (bG g8 rfl gB (by kernel_rfl) ?_)))))
  intro w11 ch10
  refine qz zs1 (qz zs7 ?_)
  replace Rl:=Rl.cn ch10
  refine qx (λw' hw'=>ad (v:=l_v) (i:=↑i) cm rfl rfl (Rl.bel hw') rfl (by omega) (by omega)) (qx (λw' hw'=>ax (v:=l_v) (i:=↑i) aB rfl (Rl.bel hw') (by omega) (by omega) (by decide) rfl) (qx (λw' hw'=>b6 (m:=(gI l ↑i)) (n:=0) rfl rfl) (qm (vb (decide ((gI l ↑i)<0))) ?_)))
  by_cases q20:(gI l ↑i)<0
  ·
   omega
  refine av (v:=l_v) (wy (df q20)) (λw' hw'=>al zs1) (av (v:=vi ↑i) (wy (df q20)) (λw' hw'=>al zs7) (av (v:=Value.pointer (some (aG l_v 1 (Int.toNat ↑i)))) (wy (df q20)) (λw' hw'=>ad (α:=Int) (xs:=l) (v:=l_v) (i:=↑i) cm rfl rfl (Rl.bel hw') rfl (by omega) (by omega)) (av (v:=vi (gI l ↑i)) (wy (df q20)) (λw' hw'=>ax (α:=Int) (xs:=l) (v:=l_v) (i:=↑i) aB rfl (Rl.bel hw') (by omega) (by omega) (by decide) rfl) (av (v:=vp b3 1) (wy (df q20)) (λw' hw'=>ah db rfl rfl zs3 rfl) ?_))))
  replace bx5:=bx5.cn ch10
  refine av (v:=g_v) (wy (df q20)) (λw' hw'=>ag bv rfl (bx5.bel hw') rfl) ?_
  replace Rg:=Rg.cn ch10
  have len12:=(Rg).small
  refine av (v:=vi (g.2.length:Int)) (wy (df q20)) (λw' hw'=>bc fg rfl (Rg.bel hw')) (av (v:=vi (2*(g.2.length:Int))) (wy (df q20)) (λw' hw'=>gu (m:=2) (n:=(g.2.length:Int)) rfl rfl (by omega)) (av (v:=vb (decide ((2*(g.2.length:Int))<=(gI l ↑i)))) (wy (df q20)) (λw' hw'=>cZ (m:=(gI l ↑i)) (n:=2*(g.2.length:Int)) rfl rfl) (qv (vb (decide ((2*(g.2.length:Int))<=(gI l ↑i)))) (λw' hw'=>aA rfl (df q20) rfl) (cr ?_))))
  intro w13 hc14
  replace hc14:=az hc14 g8
  by_cases p4:(2*(g.2.length:Int))<=(gI l ↑i)
  ·
   omega
  refine af rfl (df p4) (ao (a8 (a7 rfl (mz zs7 (lx (bf (m:=↑i) (n:=1) rfl rfl (by omega)) (ai ((i:Int)+1) (aa (a8 (a8 (a7 rfl (mi ((i:Int)+1) (mz zs1 ?_))))))))))))
  replace Rl:=Rl.cn hc14
  refine lx (bc cm rfl Rl) (lx (cI (m:=(i:Int)+1) (n:=(l.length:Int)) rfl rfl) (aa ?_))
  by_cases p7:((i:Int)+1)=(l.length:Int)
  ·
   refine ae rfl (dt p7) (a8 (a8 (a7 rfl (mz zs2 (lx (cB (b:=round_) rfl) (aa ?_))))))
   by_cases p8:round_=true
   ·
    (rw[hr] at p8;cases p8)
   refine ae rfl (congrArg Bool.not (Bool.eq_false_iff.2 p8)) (aI rfl (a7 rfl (mz zs7 (lx (bf (m:=↑i) (n:=1) rfl rfl (by omega)) (ai ((i:Int)+1) (aa ?_))))))
   replace bH:=bH.cn ch10
   refine back2 (i+1,g8) _ _ ⟨bH.cn hc14,zs1,zs2,zs3,rfl,Rg.cn hc14,Rl,bx5.cn hc14,by omega,?_⟩ ?_
   · show True
     trivial
   · show l.length-(i+1)<l.length-i
     omega
  obtain⟨hc4,hc5,hc6⟩:=hc3 (by omega)
  refine af rfl (df p7) (ao (a8 (bG g8 rfl gB (by kernel_rfl) ?_)))
  intro w16 ch15
  refine qz zs1 (qm (vi ((i:Int)+1)) ?_)
  replace Rl:=Rl.cn ch15
  refine qx (λw' hw'=>ad (v:=l_v) (i:=(i:Int)+1) cm rfl rfl (Rl.bel hw') rfl (by omega) (by omega)) (qx (λw' hw'=>ax (v:=l_v) (i:=(i:Int)+1) aB rfl (Rl.bel hw') (by omega) (by omega) (by decide) rfl) (qx (λw' hw'=>b6 (m:=(gI l ((i:Int)+1))) (n:=0) rfl rfl) (qm (vb (decide ((gI l ((i:Int)+1))<0))) ?_)))
  by_cases q44:(gI l ((i:Int)+1))<0
  ·
   omega
  refine av (v:=l_v) (wy (df q44)) (λw' hw'=>al zs1) (av (v:=vi ((i:Int)+1)) (wy (df q44)) (λw' hw'=>al rfl) (av (v:=Value.pointer (some (aG l_v 1 (Int.toNat ((i:Int)+1))))) (wy (df q44)) (λw' hw'=>ad (α:=Int) (xs:=l) (v:=l_v) (i:=(i:Int)+1) cm rfl rfl (Rl.bel hw') rfl (by omega) (by omega)) (av (v:=vi (gI l ((i:Int)+1))) (wy (df q44)) (λw' hw'=>ax (α:=Int) (xs:=l) (v:=l_v) (i:=(i:Int)+1) aB rfl (Rl.bel hw') (by omega) (by omega) (by decide) rfl) (av (v:=vp b3 1) (wy (df q44)) (λw' hw'=>ah db rfl rfl zs3 rfl) ?_))))
  replace bx5:=(bx5.cn hc14).cn ch15
  refine av (v:=g_v) (wy (df q44)) (λw' hw'=>ag bv rfl (bx5.bel hw') rfl) ?_
  replace Rg:=(Rg.cn hc14).cn ch15
  refine av (v:=vi (g.2.length:Int)) (wy (df q44)) (λw' hw'=>bc fg rfl (Rg.bel hw')) (av (v:=vi (2*(g.2.length:Int))) (wy (df q44)) (λw' hw'=>gu (m:=2) (n:=(g.2.length:Int)) rfl rfl (by omega)) (av (v:=vb (decide ((2*(g.2.length:Int))<=(gI l ((i:Int)+1))))) (wy (df q44)) (λw' hw'=>cZ (m:=(gI l ((i:Int)+1))) (n:=2*(g.2.length:Int)) rfl rfl) (qv (vb (decide ((2*(g.2.length:Int))<=(gI l ((i:Int)+1))))) (λw' hw'=>aA rfl (df q44) rfl) (qm (vb (decide ((2*(g.2.length:Int))<=(gI l ((i:Int)+1))))) ?_))))
  by_cases q55:(2*(g.2.length:Int))<=(gI l ((i:Int)+1))
  ·
   omega
  refine av (v:=vg [vi g.1,g_v]) (wy (df q55)) (λw' hw'=>aJ (ds:=[vi g.1,g_v]) bu zs3 (bx5.bel hw') rfl rfl) (av (v:=l_v) (wy (df q55)) (λw' hw'=>al zs1) (av (v:=vi ↑i) (wy (df q55)) (λw' hw'=>al zs7) (av (v:=Value.pointer (some (aG l_v 1 (Int.toNat ↑i)))) (wy (df q55)) (λw' hw'=>ad (α:=Int) (xs:=l) (v:=l_v) (i:=↑i) cm rfl rfl (Rl.bel hw') rfl (by omega) (by omega)) ?_)))
  refine av (v:=vi (gI l ↑i)) (wy (df q55)) (λw' hw'=>ax (α:=Int) (xs:=l) (v:=l_v) (i:=↑i) aB rfl (Rl.bel hw') (by omega) (by omega) (by decide) rfl) (bY (v:=vi (cz g (gI l ↑i))) (wy (df q55)) (λw' hw'=>aC (vals:=[vg [vi g.1,g_v],vi (gI l ↑i)]) Try.func24 gN i5 rfl) (λw' hw'=>(jc w' g g_v ((Rg.bel hw')).ro (gI l ↑i) (by omega) (by omega)).mono λe w2 h2=>⟨h2.1,hw'.trans (h2.2.mono hw'.size)⟩) (av (v:=vg [vi g.1,g_v]) (wy (df q55)) (λw' hw'=>aJ (ds:=[vi g.1,g_v]) bu zs3 (bx5.bel hw') rfl rfl) ?_))
  refine av (v:=l_v) (wy (df q55)) (λw' hw'=>al zs1) (av (v:=vi ((i:Int)+1)) (wy (df q55)) (λw' hw'=>al rfl) (av (v:=Value.pointer (some (aG l_v 1 (Int.toNat ((i:Int)+1))))) (wy (df q55)) (λw' hw'=>ad (α:=Int) (xs:=l) (v:=l_v) (i:=(i:Int)+1) cm rfl rfl (Rl.bel hw') rfl (by omega) (by omega)) (av (v:=vi (gI l ((i:Int)+1))) (wy (df q55)) (λw' hw'=>ax (α:=Int) (xs:=l) (v:=l_v) (i:=(i:Int)+1) aB rfl (Rl.bel hw') (by omega) (by omega) (by decide) rfl) ?_)))
  refine bY (v:=vi (aH g (gI l ((i:Int)+1)))) (wy (df q55)) (λw' hw'=>aC (vals:=[vg [vi g.1,g_v],vi (gI l ((i:Int)+1))]) Try.func23 gV gW rfl) (λw' hw'=>(gF w' g g_v ((Rg.bel hw')).ro (gI l ((i:Int)+1)) (by omega) (by omega)).mono λe w2 h2=>⟨h2.1,hw'.trans (h2.2.mono hw'.size)⟩) (av (v:=vb (!(decide ((cz g (gI l ↑i))=(aH g (gI l ((i:Int)+1))))))) (wy (df q55)) (λw' hw'=>ct (m:=cz g (gI l ↑i)) (n:=aH g (gI l ((i:Int)+1))) rfl rfl) (qv (vb (!(decide ((cz g (gI l ↑i))=(aH g (gI l ((i:Int)+1))))))) (λw' hw'=>aA rfl (df q55) rfl) (cr ?_)))
  intro w17 hc18
  replace hc18:=az hc18 g8
  by_cases p10:(cz g (gI l ↑i))=(aH g (gI l ((i:Int)+1)))
  ·
   refine af rfl (congrArg Bool.not (dt p10)) (ao (aw (a7 rfl (mz zs7 (lx (bf (m:=↑i) (n:=1) rfl rfl (by omega)) (ai ((i:Int)+1) (aa ?_)))))))
   have C19:=cg [] (ch10.n.seq (hc14.n.seq (ch15.n.seq hc18.n)))
   refine back2 (i+1,g8) _ _ ⟨bH.ca C19,zs1,zs2,zs3,rfl,Rg.cn hc18,Rl.cn hc18,bx5.cn hc18,by omega,?_⟩ ?_
   · show True
     trivial
   · show l.length-(i+1)<l.length-i
     omega
  exact absurd hc4 ‹_›
 refine af rfl (df p2) (aI rfl (a8 ?_))
 clear bx5
 refine a7 rfl (ma (vb true) (aa (aq (vs:=[vb true]) Try.func28 (.tmp rfl .nil) ?_)))
 have e0:(true:Bool)=(true):=by
   rfl
 exact⟨rb e0,bH.below⟩
end TL
