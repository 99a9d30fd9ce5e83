import Derived.Test.YtbadiajeohbpcaaGreatTlP3
import Derived.Test.YtbadiajeohbpcaaGreatTlGmA
import Derived.Test.YtbadiajeohbpcaaGreatTlGmV
import Derived.Test.YtbadiajeohbpcaaGreatProg
import Derived.Test.YtbadiajeohbpcaaGreatTlAli
set_option linter.all false
set_option maxRecDepth 20000
namespace TL
open Go Go.Proofs
theorem tq:Tryz.prog.follows .mixedOrders=true:=by kernel_rfl
theorem l6:Tp Tryz.prog 25 false 1 24 (.slice none 0 0):=Tp.of (by kernel_rfl)
theorem jL:Tp Tryz.prog 26 false 1 24 (.slice none 0 0):=Tp.of (by kernel_rfl)
theorem rV:Tryz.f40.body.isNone=false:=rfl
theorem rC:(Tryz.f40.name== "runtime.NumGoroutine")=false:=by decide+kernel
theorem tA(w0:World)(t:(List Pt)×(List (List Pt)))(t_v t_v1:Value)(ht_v:Ro w0 t_v t.1)(ht_v1:Ro w0 t_v1 t.2)(p:(List Pt)×(List (List Pt)))(p_v p_v1:Value)(hp_v:Ro w0 p_v p.1)(hp_v1:Ro w0 p_v1 p.2)(hmark:Ro w0 (fS t_v) (t.1++[((-7:Int),(7:Int))]))(hmark2:Ro w0 (u5 t_v1) (kV t.2))(he:t=p):
    Calls Tryz.prog 14 #[vg [t_v,t_v1],vg [p_v,p_v1]] w0 (λee w=>ee= .returned (vb true)/\cE w0.heap.size w0 w):=by
 refine au Tryz.func14 rfl nq ?_
 have bH:=aT.start w0
 have Rt:=ht_v.sl
 have r_t_v1:=ht_v1.sl
 have Rp:=hp_v.sl
 have r_p_v1:=hp_v1.sl
 have r_up:=hmark.sl
 have r_tp:=hmark2.sl
 have hta:t.1=p.1:=by rw[he]
 have htl:t.2=p.2:=by rw[he]
 have htn:t.2.length=p.2.length:=by rw[he]
 refine a7 (a6 rfl (bW rfl (bh c0 (is 1) (1,0) rfl rfl ?_)))
 intro g4 w1 b3 ch2 bx5
 replace bx5:Bx g4 (is 1) w1 b3 [t_v,t_v1]:=bx5
 refine lo (bh g4 (is 2) (2,0) rfl rfl ?_)
 intro g9 w6 b8 ch7 bx10
 replace bx10:Bx g9 (is 2) w6 b8 [p_v,p_v1]:=bx10
 refine ma (vb false) (aa (a7 (a7 (a6 rfl (lx (a8 ef rfl rfl rfl rfl) ?_)))))
 replace bx5:=bx5.cn ch7
 refine lx (ab l6 rfl bx5 rfl) (lx (a8 ef rfl rfl rfl rfl) (lx (ab l6 rfl bx10 rfl) ?_))
 replace r_up:=(r_up.cn ch2).cn ch7
 replace r_tp:=(r_tp.cn ch2).cn ch7
 replace Rt:=(Rt.cn ch2).cn ch7
 replace Rp:=(Rp.cn ch2).cn ch7
 refine lo (aO (v:=vb true) (aA (vals:=[t_v,p_v]) Tryz.func40 rV rC rfl) (py w6 t.1 t_v (Rt).ro p.1 p_v (Rp).ro (by exact r_up.ro) (by exact hta)) ?_)
 intro w11 hb12
 replace hb12:=ao hb12 g9
 refine lx (bZ (b:=true) rfl) (mv (vb false) (lv (vp b3 1) (wy rfl) (a8 ef rfl rfl rfl rfl) ?_))
 replace bx5:=bx5.cn hb12
 refine lv (t_v1) (wy rfl) (ab jL rfl bx5 rfl) ?_
 have C13:=cg [] (ch2.n.seq (ch7.n.seq hb12.n))
 replace r_t_v1:=r_t_v1.ca C13
 have len14:=(r_t_v1).small
 refine lv (vi (t.2.length:Int)) (wy rfl) (aQ fg rfl r_t_v1) (lv (vp b8 1) (wy rfl) (a8 ef rfl rfl rfl rfl) ?_)
 replace bx10:=bx10.cn hb12
 refine lv (p_v1) (wy rfl) (ab jL rfl bx10 rfl) ?_
 replace r_p_v1:=r_p_v1.ca C13
 have len15:=(r_p_v1).small
 refine lv (vi (p.2.length:Int)) (wy rfl) (aQ fg rfl r_p_v1) (lv (vb (!(decide ((t.2.length:Int)=(p.2.length:Int))))) (wy rfl) (c5 (m:=(t.2.length:Int)) (n:=(p.2.length:Int)) rfl rfl) (lw (vb (!(decide ((t.2.length:Int)=(p.2.length:Int))))) (aB rfl rfl rfl) (aa ?_)))
 have p1:(t.2.length:Int)=(p.2.length:Int):=by omega
 refine ag rfl (congrArg Bool.not (dt p1)) (ak (a7 (a7 (a6 rfl (ai 0 (aa (am ?_)))))))
 refine aN (σ:=Nat×aK) (λ⟨e,gq⟩ f w=>aT w0 gq w/\f 2=vp b3 0/\f 3=vp b8 0/\f 5=vi ↑e/\Sl gq (is 0) w t_v t.1/\Sl gq (is 0) w t_v1 t.2/\Sl gq (is 0) w p_v p.1/\Sl gq (is 0) w p_v1 p.2/\Sl gq (is 0) w (fS t_v) (t.1++[((-7:Int),(7:Int))])/\Sl gq (is 0) w (u5 t_v1) (kV t.2)/\Bx gq (is 1) w b3 [t_v,t_v1]/\Bx gq (is 2) w b8 [p_v,p_v1]/\(e:Int)<=((p.2.length:Int):Int)/\(True)) (λ⟨e,gq⟩=>Int.toNat (((p.2.length:Int):Int)-(e:Int))) (0,g9) ?_ ?_
 · exact⟨bH.ca C13,rfl,rfl,rfl,Rt.cn hb12,r_t_v1,Rp.cn hb12,r_p_v1,r_up.cn hb12,r_tp.cn hb12,bx5,bx10,by omega,by trivial⟩
 clear Rt r_t_v1 Rp r_p_v1 r_up r_tp bx5 bx10 bH
 rintro⟨e,g18⟩ f16 w17 ⟨bH,zs2,zs3,zs5,Rt,r_t_v1,Rp,r_p_v1,r_up,r_tp,bx5,bx10,hle_e,hinv4⟩ back4
 refine a7 (a7 (a6 rfl (mz zs5 (lx (a8 ef rfl rfl zs3 rfl) (lx (ab jL rfl bx10 rfl) (lx (aQ fg rfl r_p_v1) (lx (aZ (m:=↑e) (n:=(p.2.length:Int)) rfl rfl) (aa ?_))))))))
 by_cases p4:(e:Int)<(p.2.length:Int)
 ·
  refine af rfl (dt p4) (ak (a7 (am (a7 (bz g18 rfl tq (by kernel_rfl) ?_)))))
  intro w20 ch19
  refine qx (λw' hw'=>a8 ef rfl rfl zs2 rfl) ?_
  replace bx5:=bx5.cn ch19
  refine qx (λw' hw'=>ab jL rfl (bx5.bel hw') rfl) (qz zs5 ?_)
  replace r_t_v1:=r_t_v1.cn ch19
  refine qx (λw' hw'=>ad (v:=t_v1) (i:=↑e) fg rfl rfl (r_t_v1.bel hw') rfl (by omega) (by omega)) ?_
  obtain⟨v21,cel22,r23⟩:=cA (r:=(e:Int)) r_t_v1 (by omega) (by omega)
  refine qx (λw' hw'=>ba l6 rfl (e7 cel22 hw')) (qx (λw' hw'=>a8 ef rfl rfl zs3 rfl) ?_)
  replace bx10:=bx10.cn ch19
  refine qx (λw' hw'=>ab jL rfl (bx10.bel hw') rfl) (qz zs5 ?_)
  replace r_p_v1:=r_p_v1.cn ch19
  refine qx (λw' hw'=>ad (v:=p_v1) (i:=↑e) fg rfl rfl (r_p_v1.bel hw') rfl (by omega) (by omega)) ?_
  obtain⟨v24,cel25,r26⟩:=cA (r:=(e:Int)) r_p_v1 (by omega) (by omega)
  refine qx (λw' hw'=>ba l6 rfl (e7 cel25 hw')) ?_
  replace r_up:=r_up.cn ch19
  replace r_tp:=r_tp.cn ch19
  refine cl (v:=vb true) rfl (λw' hw'=>aA (vals:=[v21,v24]) Tryz.func40 rV rC rfl) (λw' hw'=>(py w' (gI t.2 ↑e) v21 ((r23.bel hw')).ro (gI p.2 ↑e) v24 ((r26.bel hw')).ro (by exact uy (h:=r_tp.bel ‹_›) (by omega) (by omega) (e7 ‹_› ‹_›)) (by(rw[htl];done))).mono λe w2 h2=>⟨h2.1,hw'.trans (h2.2.mono hw'.size)⟩) (qx (λw' hw'=>bZ (b:=true) rfl) (bN ?_))
  intro w27 hc28
  replace hc28:=ao hc28 g18
  refine ag rfl rfl (ak (al ?_))
  clear r23 r26
  refine a6 rfl (mz zs5 (lx (aM (m:=↑e) (n:=1) rfl rfl (by omega)) (ai ((e:Int)+1) (aa ?_))))
  replace bH:=bH.cn ch19
  refine back4 (e+1,g18) _ _ ⟨bH.cn hc28,zs2,zs3,rfl,(Rt.cn ch19).cn hc28,r_t_v1.cn hc28,(Rp.cn ch19).cn hc28,r_p_v1.cn hc28,r_up.cn hc28,r_tp.cn hc28,bx5.cn hc28,bx10.cn hc28,by omega,?_⟩ ?_
  · show True
    trivial
  · show Int.toNat (((p.2.length:Int):Int)-((e+1):Int))<Int.toNat (((p.2.length:Int):Int)-(e:Int))
    omega
 refine ag rfl (df p4) (aJ rfl (a7 ?_))
 clear bx5 bx10
 refine a6 rfl (ma (vb true) (aa (ar (vs:=[vb true]) Tryz.func14 (.tmp rfl .nil) ?_)))
 have e0:(true:Bool)=(true):=by
   rfl
 exact⟨rb e0,bH.below⟩
end TL
