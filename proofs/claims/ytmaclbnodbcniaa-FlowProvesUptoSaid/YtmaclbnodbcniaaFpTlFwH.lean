import Derived.Test.YtmaclbnodbcniaaFpTlP2
import Derived.Test.YtmaclbnodbcniaaFpTlFwG
import Derived.Test.YtmaclbnodbcniaaFpTlFwQ
import Derived.Test.YtmaclbnodbcniaaProg
import Derived.Test.YtmaclbnodbcniaaFpTlAli
set_option linter.all false
set_option maxRecDepth 20000
namespace TL
open Go Go.Proofs
theorem mG:Try.prog.follows .mixedOrders=true:=by kernel_rfl
theorem qc:Try.f8.body.isNone=false:=rfl
theorem pO:(Try.f8.name== "runtime.NumGoroutine")=false:=by decide+kernel
theorem pL:Try.f9.body.isNone=false:=rfl
theorem pQ:(Try.f9.name== "runtime.NumGoroutine")=false:=by decide+kernel
theorem oL:Try.f17.body.isNone=false:=rfl
theorem oR:(Try.f17.name== "runtime.NumGoroutine")=false:=by decide+kernel
theorem iW(w0:World)(t:(Int)×(List ((Int)×(Int)×(Int)×(Int)))×(List Int))(t_v t_v1:Value)(ht_v:Ro w0 t_v t.2.1)(ht_v1:Ro w0 t_v1 t.2.2)(fw:(List Int)×(List Int)×(Int))(fw_v fw_v1:Value)(hfw_v:Ro w0 fw_v fw.1)(hfw_v1:Ro w0 fw_v1 fw.2.1):
    Calls Try.prog 4 #[vg [vi t.1,t_v,t_v1],vg [fw_v,fw_v1,vi fw.2.2]] w0 (λee w=>ee= .returned (vb true)/\de w0.heap.size w0 w):=by
 refine az Try.func4 rfl nq ?_
 have bH:=aR.start w0
 have Rt:=ht_v.sl
 have r_t_v1:=ht_v1.sl
 have Rfw:=hfw_v.sl
 have r_fw_v1:=hfw_v1.sl
 refine a9 (a6 rfl (dc rfl (dd c0 (is 1) (1,0) rfl rfl ?_)))
 intro g4 w1 b3 ch2 bx5
 replace bx5:Bx g4 (is 1) w1 b3 [vi t.1,t_v,t_v1]:=bx5
 refine lo (dd g4 (is 2) (2,0) rfl rfl ?_)
 intro g9 w6 b8 ch7 bx10
 replace bx10:Bx g9 (is 2) w6 b8 [fw_v,fw_v1,vi fw.2.2]:=bx10
 refine ma (vb false) (ag (a9 (a9 (a6 rfl (dc rfl (bB (v:=vb true) (aT (vals:=[]) Try.func8 qc pO rfl) (m5 w6) ?_))))))
 intro w11 hb12
 replace hb12:=aD hb12 g9
 refine lx (cD (b:=true) rfl) (ag (am rfl rfl (aq (a9 (a9 (a6 rfl ?_))))))
 replace bx5:=(bx5.cn ch7).cn hb12
 refine lx (bu (ds:=[vi t.1,t_v,t_v1]) cX rfl bx5 rfl rfl) ?_
 have C13:=cg [] (ch2.n.seq (ch7.n.seq hb12.n))
 replace Rt:=Rt.ca C13
 replace r_t_v1:=r_t_v1.ca C13
 refine lo (bB (v:=vb (decide (t.2.1.length<=200/\t.2.2.length<=1000/\(t.1<=60\/¬cM t)))) (aT (vals:=[vg [vi t.1,t_v,t_v1]]) Try.func9 pL pQ rfl) (lU w11 t t_v t_v1 (Rt).ro (r_t_v1).ro) ?_)
 intro w14 hb15
 replace hb15:=aD hb15 g9
 refine lx (cD (b:=(decide (t.2.1.length<=200/\t.2.2.length<=1000/\(t.1<=60\/¬cM t)))) rfl) (mv (vb (!(decide (t.2.1.length<=200/\t.2.2.length<=1000/\(t.1<=60\/¬cM t))))) ?_)
 by_cases q10:(decide (t.2.1.length<=200/\t.2.2.length<=1000/\(t.1<=60\/¬cM t)))=true
 ·
  refine lv (vp b8 0) (wy (congrArg Bool.not q10)) (a7 il rfl rfl rfl rfl) ?_
  replace bx10:=(bx10.cn hb12).cn hb15
  refine lv (fw_v) (wy (congrArg Bool.not q10)) (a8 ao rfl bx10 rfl) ?_
  have C16:=cg [] (ch2.n.seq (ch7.n.seq (hb12.n.seq hb15.n)))
  replace Rfw:=Rfw.ca C16
  have len17:=(Rfw).small
  refine lv (vi (fw.1.length:Int)) (wy (congrArg Bool.not q10)) (bi aW rfl Rfw) (lv (vp b8 1) (wy (congrArg Bool.not q10)) (a7 il rfl rfl rfl rfl) (lv (fw_v1) (wy (congrArg Bool.not q10)) (a8 ao rfl bx10 rfl) ?_))
  replace r_fw_v1:=r_fw_v1.ca C16
  have len18:=(r_fw_v1).small
  refine lv (vi (fw.2.1.length:Int)) (wy (congrArg Bool.not q10)) (bi aW rfl r_fw_v1) (lv (vi ((fw.1.length:Int)+(fw.2.1.length:Int))) (wy (congrArg Bool.not q10)) (aQ (m:=(fw.1.length:Int)) (n:=(fw.2.1.length:Int)) rfl rfl (by omega)) (lv (vb (decide (1000<((fw.1.length:Int)+(fw.2.1.length:Int))))) (wy (congrArg Bool.not q10)) (bR (m:=(fw.1.length:Int)+(fw.2.1.length:Int)) (n:=1000) rfl rfl) (lw (vb (decide (1000<((fw.1.length:Int)+(fw.2.1.length:Int))))) (aI rfl (congrArg Bool.not q10) rfl) (ag ?_))))
  by_cases p3:1000<((fw.1.length:Int)+(fw.2.1.length:Int))
  ·
   refine aj rfl (dt p3) (a9 ?_)
   clear bx5 bx10
   refine a6 rfl (ma (vb true) (ag (aC (vs:=[vb true]) Try.func4 (.tmp rfl .nil) ?_)))
   have e0:(true:Bool)=(true):=by
     rfl
   replace bH:=bH.ca C16
   exact⟨rb e0,bH.below⟩
  refine am rfl (df p3) (aq (a9 (bA g9 rfl mG (by kernel_rfl) ?_)))
  intro w20 ch19
  replace bx5:=(bx5.cn hb15).cn ch19
  refine qx (λw' hw'=>bu (ds:=[vi t.1,t_v,t_v1]) cX rfl (bx5.bel hw') rfl rfl) ?_
  replace bx10:=bx10.cn ch19
  refine qx (λw' hw'=>bu (ds:=[fw_v,fw_v1,vi fw.2.2]) bJ rfl (bx10.bel hw') rfl rfl) ?_
  replace Rt:=(Rt.cn hb15).cn ch19
  replace r_t_v1:=(r_t_v1.cn hb15).cn ch19
  replace Rfw:=Rfw.cn ch19
  replace r_fw_v1:=r_fw_v1.cn ch19
  refine fq (v:=vb (dB t fw)) rfl (λw' hw'=>aT (vals:=[vg [vi t.1,t_v,t_v1],vg [fw_v,fw_v1,vi fw.2.2]]) Try.func18 lp l8 rfl) (λw' hw'=>(kX w' t t_v t_v1 ((Rt.bel hw')).ro ((r_t_v1.bel hw')).ro fw fw_v fw_v1 ((Rfw.bel hw')).ro ((r_fw_v1.bel hw')).ro).mono λe w2 h2=>⟨h2.1,hw'.trans (h2.2.mono hw'.size)⟩) (qx (λw' hw'=>bu (ds:=[vi t.1,t_v,t_v1]) cX rfl (bx5.bel hw') rfl rfl) (qx (λw' hw'=>bu (ds:=[fw_v,fw_v1,vi fw.2.2]) bJ rfl (bx10.bel hw') rfl rfl) ?_))
  refine fq (v:=vb (dB t fw)) rfl (λw' hw'=>aT (vals:=[vg [vi t.1,t_v,t_v1],vg [fw_v,fw_v1,vi fw.2.2]]) Try.func17 oL oR rfl) (λw' hw'=>(nO w' t t_v t_v1 ((Rt.bel hw')).ro ((r_t_v1.bel hw')).ro fw fw_v fw_v1 ((Rfw.bel hw')).ro ((r_fw_v1.bel hw')).ro).mono λe w2 h2=>⟨h2.1,hw'.trans (h2.2.mono hw'.size)⟩) (qv (vb (decide ((dB t fw)=(dB t fw)))) (λw' hw'=>kF U4 rfl rfl) (qv (vb (decide ((dB t fw)=(dB t fw)))) (λw' hw'=>bz rfl) (cf ?_)))
  intro w21 hc22
  replace hc22:=aD hc22 g9
  refine aC (vs:=[vb (decide ((dB t fw)=(dB t fw)))]) Try.func4 (.tmp rfl .nil) ?_
  have e0:(decide ((dB t fw)=(dB t fw)):Bool)=(true):=by
    simp
  have C23:=cg [] (ch2.n.seq (ch7.n.seq (hb12.n.seq (hb15.n.seq (ch19.n.seq hc22.n)))))
  replace bH:=bH.ca C23
  exact⟨(congrArg (a₁:=decide ((dB t fw)=(dB t fw))) (λ(z0:Bool)=>Ending.returned (vb z0)) e0),bH.below⟩
 refine ae (wn (congrArg Bool.not (Bool.eq_false_iff.2 q10))) (ae (wn (congrArg Bool.not (Bool.eq_false_iff.2 q10))) (ae (wn (congrArg Bool.not (Bool.eq_false_iff.2 q10))) (ae (wn (congrArg Bool.not (Bool.eq_false_iff.2 q10))) (ae (wn (congrArg Bool.not (Bool.eq_false_iff.2 q10))) (ae (wn (congrArg Bool.not (Bool.eq_false_iff.2 q10))) (ae (wn (congrArg Bool.not (Bool.eq_false_iff.2 q10))) (ae (wn (congrArg Bool.not (Bool.eq_false_iff.2 q10))) (lw (vb true) (ay rfl (congrArg Bool.not (Bool.eq_false_iff.2 q10)) rfl) (ag ?_)))))))))
 refine aj rfl rfl (a9 ?_)
 clear bx5 bx10
 refine a6 rfl (ma (vb true) (ag (aC (vs:=[vb true]) Try.func4 (.tmp rfl .nil) ?_)))
 have e0:(true:Bool)=(true):=by
   rfl
 have C24:=cg [] (ch2.n.seq (ch7.n.seq (hb12.n.seq hb15.n)))
 replace bH:=bH.ca C24
 exact⟨rb e0,bH.below⟩
end TL
