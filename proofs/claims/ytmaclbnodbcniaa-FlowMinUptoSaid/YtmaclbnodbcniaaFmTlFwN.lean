import Derived.Test.YtmaclbnodbcniaaFmTlP3
import Derived.Test.YtmaclbnodbcniaaFmTlFwG
import Derived.Test.YtmaclbnodbcniaaFmTlFwQ
import Derived.Test.YtmaclbnodbcniaaFmTlFwK
import Derived.Test.YtmaclbnodbcniaaFmTlFwT
import Derived.Test.YtmaclbnodbcniaaFmTlFwC
import Derived.Test.YtmaclbnodbcniaaProg
import Derived.Test.YtmaclbnodbcniaaFmTlAli
set_option linter.all false
set_option maxRecDepth 20000
namespace TL
open Go Go.Proofs
theorem cx:Try.prog.follows .mixedOrders=true:=by kernel_rfl
theorem s9:Try.f8.body.isNone=false:=rfl
theorem s3:(Try.f8.name== "runtime.NumGoroutine")=false:=by decide+kernel
theorem rU:Try.f9.body.isNone=false:=rfl
theorem sf:(Try.f9.name== "runtime.NumGoroutine")=false:=by decide+kernel
theorem rh:Try.f11.body.isNone=false:=rfl
theorem qJ:(Try.f11.name== "runtime.NumGoroutine")=false:=by decide+kernel
theorem r5:Try.f15.body.isNone=false:=rfl
theorem qd:(Try.f15.name== "runtime.NumGoroutine")=false:=by decide+kernel
theorem r7:Try.f17.body.isNone=false:=rfl
theorem qH:(Try.f17.name== "runtime.NumGoroutine")=false:=by decide+kernel
theorem qX:Try.f19.body.isNone=false:=rfl
theorem rp:(Try.f19.name== "runtime.NumGoroutine")=false:=by decide+kernel
theorem r6:Try.f20.body.isNone=false:=rfl
theorem qI:(Try.f20.name== "runtime.NumGoroutine")=false:=by decide+kernel
theorem rj:Try.f21.body.isNone=false:=rfl
theorem qG:(Try.f21.name== "runtime.NumGoroutine")=false:=by decide+kernel
theorem mA:Try.f22.body.isNone=false:=rfl
theorem mN:(Try.f22.name== "runtime.NumGoroutine")=false:=by decide+kernel
theorem eA:Try.f28.body.isNone=false:=rfl
theorem eD:(Try.f28.name== "runtime.NumGoroutine")=false:=by decide+kernel
theorem ex(w0:World)(n:Int)(all:Int)(hn:0<=n/\n<=1099511627776):
    Calls Try.prog 28 #[vi n,vi all] w0 (λee w=>ee= .returned (vi (min all (n+2000)))/\dC w0.heap.size w0 w):=by
 refine aC Try.func28 rfl nq ?_
 have bH:=b9.start w0
 obtain⟨hn1,hn2⟩:=hn
 refine a9 (a6 rfl (ai 0 (af (a9 (a6 rfl (mi all (mi n (lx (aP (m:=n) (n:=2000) rfl rfl (by omega)) (lw (vi (min all (n+2000))) (lD rfl rfl) (ai (min all (n+2000)) (af (aF (vs:=[vi (min all (n+2000))]) Try.func28 (.tmp rfl .nil) ?_))))))))))))
 have e0:(min all (n+2000):Int)=(min all (n+2000)):=by
   rfl
 exact⟨ri e0,bH.below⟩
set_option maxHeartbeats 16000000 in
theorem m8(w0:World)(t:(Int)×(List ((Int)×(Int)×(Int)×(Int)))×(List Int))(t_v t_v1:Value)(ht_v:Ro w0 t_v t.2.1)(ht_v1:Ro w0 t_v1 t.2.2):
    Calls Try.prog 3 #[vg [vi t.1,t_v,t_v1]] w0 (λee w=>ee= .returned (vb true)/\dC w0.heap.size w0 w):=by
 refine aC Try.func3 rfl nq ?_
 have bH:=b9.start w0
 have Rt:=ht_v.sl
 have r_t_v1:=ht_v1.sl
 refine a9 (a6 rfl (cQ rfl (d4 c0 (is 1) (1,0) rfl rfl ?_)))
 intro g4 w1 b3 ch2 bx5
 replace bx5:Bx g4 (is 1) w1 b3 [vi t.1,t_v,t_v1]:=bx5
 refine ma (vb false) (af (a9 (a9 (a6 rfl (cQ rfl (bE (v:=vb true) (aU (vals:=[]) Try.func8 s9 s3 rfl) (nG w1) ?_))))))
 intro w6 hb7
 replace hb7:=aB hb7 g4
 refine lx (cz (b:=true) rfl) (af (am rfl rfl (au (a9 (a9 (a6 rfl ?_))))))
 replace bx5:=bx5.cn hb7
 refine lx (bm (ds:=[vi t.1,t_v,t_v1]) c9 rfl bx5 rfl rfl) ?_
 replace Rt:=(Rt.cn ch2).cn hb7
 replace r_t_v1:=(r_t_v1.cn ch2).cn hb7
 refine lo (bE (v:=vb (decide (t.2.1.length<=200/\t.2.2.length<=1000/\(t.1<=60\/¬cB t)))) (aU (vals:=[vg [vi t.1,t_v,t_v1]]) Try.func9 rU sf rfl) (nw w6 t t_v t_v1 (Rt).ro (r_t_v1).ro) ?_)
 intro w8 hb9
 replace hb9:=aB hb9 g4
 refine lx (cz (b:=(decide (t.2.1.length<=200/\t.2.2.length<=1000/\(t.1<=60\/¬cB t)))) rfl) (af ?_)
 by_cases p3:(decide (t.2.1.length<=200/\t.2.2.length<=1000/\(t.1<=60\/¬cB t)))=true
 ·
  refine am rfl (congrArg Bool.not p3) (au (a9 ?_))
  have hli:t.2.1.length<=200/\t.2.2.length<=1000/\(t.1<=60\/¬cB t):=of_decide_eq_true ‹_›
  obtain⟨hl200,hl1000,hN⟩:=hli
  obtain⟨hy1,hy2,hy3⟩:=sc hl200 hN
  refine a6 rfl ?_
  replace bx5:=bx5.cn hb9
  refine lx (bm (ds:=[vi t.1,t_v,t_v1]) c9 rfl bx5 rfl rfl) ?_
  replace Rt:=Rt.cn hb9
  replace r_t_v1:=r_t_v1.cn hb9
  refine lo (bE (v:=vb (bQ t)) (aU (vals:=[vg [vi t.1,t_v,t_v1]]) Try.func10 kY kr rfl) (jA w8 t t_v t_v1 (Rt).ro (r_t_v1).ro) ?_)
  intro w10 hb11
  replace hb11:=aB hb11 g4
  refine ma (vb (bQ t)) (af (a9 (a6 rfl ?_)))
  replace bx5:=bx5.cn hb11
  refine lx (bm (ds:=[vi t.1,t_v,t_v1]) c9 rfl bx5 rfl rfl) ?_
  replace Rt:=Rt.cn hb11
  replace r_t_v1:=r_t_v1.cn hb11
  refine lo (bF (aU (vals:=[vg [vi t.1,t_v,t_v1]]) Try.func11 rh qJ rfl) (pA w10 t t_v t_v1 (Rt).ro (r_t_v1).ro (by omega) (by omega)) ?_)
  rintro⟨d13,v15,v17⟩ w12 ⟨fr14,o16,o18⟩
  obtain⟨g19,ch20,G19⟩:=oU g4 fr14 (λn=>if n=1 then 2 else if n=2 then 3 else 0)
  replace o16:=o16.gl G19 2
  have r21:=nh o16.flat
  replace o18:=o18.gl G19 3
  have r22:=nh o18.flat
  refine lo (cd g19 (is 4) (4,0) rfl c9 ?_)
  intro g26 w23 b25 ch24 bx27
  replace bx27:Bx g26 (is 4) w23 b25 [vi 0,vn,vn]:=bx27
  refine lo ?_
  replace r22:=r22.cn ch24
  replace r21:=r21.cn ch24
  refine aR (cs':=[vi t.1,v15,v17]) c9 rfl rfl bx27 rfl nq (AllOne.all (.cons rfl (.cons (aZ r21) (.cons (aZ r22) .nil)))) rfl ?_
  intro w28 ch29 bx30
  clear bx27
  refine af (a9 (a6 rfl (lx (bm (ds:=[vi t.1,v15,v17]) c9 rfl bx30 rfl rfl) ?_)))
  replace r21:=r21.ce ch29
  replace r22:=r22.ce ch29
  refine lo (bF (aU (vals:=[vg [vi t.1,v15,v17]]) Try.func12 l7 l9 rfl) (kC w28 t v15 v17 (r21).ro (r22).ro (by exact hN)) ?_)
  rintro⟨d32,v34,v36⟩ w31 ⟨fr33,o35,o37⟩
  obtain⟨g38,ch39,G38⟩:=oU g26 fr33 (λn=>if n=1 then 5 else if n=2 then 6 else 0)
  replace o35:=o35.gl G38 5
  replace o37:=o37.gl G38 6
  refine mv (vt [vg [v34,v36,vi ((((ax t).1).2).2)],vi ((ax t).2)]) (lx (cE rfl rfl) (lx (cE rfl rfl) (lo (cd g38 (is 7) (7,0) rfl bP ?_))))
  intro g43 w40 b42 ch41 bx44
  replace bx44:Bx g43 (is 7) w40 b42 [vn,vn,vi 0]:=bx44
  refine lo ?_
  replace o37:=o37.cn ch41
  replace o35:=o35.cn ch41
  refine aR (cs':=[v34,v36,vi ((((ax t).1).2).2)]) bP rfl rfl bx44 rfl nq (AllOne.all (.cons (aZ o35.flat) (.cons (aZ o37.flat) (.cons rfl .nil)))) rfl ?_
  intro w45 ch46 bx47
  clear bx44
  refine ai ((ax t).2) (af (a9 (a6 rfl ?_)))
  have C48:=cg [7] (ch39.n.seq (ch41.n.seq (ch46.l rfl)))
  replace bx30:=bx30.ca C48
  refine lx (bm (ds:=[vi t.1,v15,v17]) c9 rfl bx30 rfl rfl) ?_
  replace r21:=r21.ca C48
  replace r22:=r22.ca C48
  refine lo (bF (aU (vals:=[vg [vi t.1,v15,v17]]) Try.func12 l7 l9 rfl) (kC w45 t v15 v17 (r21).ro (r22).ro (by exact hN)) ?_)
  rintro⟨d50,v52,v54⟩ w49 ⟨fr51,o53,o55⟩
  obtain⟨g56,ch57,G56⟩:=oU g43 fr51 (λn=>if n=1 then 8 else if n=2 then 9 else 0)
  replace o53:=o53.gl G56 8
  replace o55:=o55.gl G56 9
  refine mv (vt [vg [v52,v54,vi ((((ax t).1).2).2)],vi ((ax t).2)]) (lx (cE rfl rfl) (lx (cE rfl rfl) (lo (cd g56 (is 10) (10,0) rfl bP ?_))))
  intro g61 w58 b60 ch59 bx62
  replace bx62:Bx g61 (is 10) w58 b60 [vn,vn,vi 0]:=bx62
  refine lo ?_
  replace o55:=o55.cn ch59
  replace o53:=o53.cn ch59
  refine aR (cs':=[v52,v54,vi ((((ax t).1).2).2)]) bP rfl rfl bx62 rfl nq (AllOne.all (.cons (aZ o53.flat) (.cons (aZ o55.flat) (.cons rfl .nil)))) rfl ?_
  intro w63 ch64 bx65
  clear bx62
  refine ai ((ax t).2) (af (a9 (a6 rfl ?_)))
  have C66:=cg [10] (ch57.n.seq (ch59.n.seq (ch64.l rfl)))
  replace bx30:=bx30.ca C66
  refine lx (bm (ds:=[vi t.1,v15,v17]) c9 rfl bx30 rfl rfl) ?_
  replace r21:=r21.ca C66
  replace r22:=r22.ca C66
  refine lo (bF (aU (vals:=[vg [vi t.1,v15,v17]]) Try.func13 ks kp rfl) (kK w63 t v15 v17 (r21).ro (r22).ro (by exact hN)) ?_)
  rintro⟨d68,v70⟩ w67 ⟨fr69,o71⟩
  obtain⟨g72,ch73,G72⟩:=oU g61 fr69 (λn=>if n=1 then 11 else 0)
  replace o71:=o71.gl G72 11
  refine mv (vt [v70,vi ((aS t).2)]) (lx (cE rfl rfl) (lx (cE rfl rfl) (ma v70 (ai ((aS t).2) (af (a9 (a6 rfl ?_)))))))
  replace bx30:=bx30.cn ch73
  refine lx (bm (ds:=[vi t.1,v15,v17]) c9 rfl bx30 rfl rfl) ?_
  replace r21:=r21.cn ch73
  replace r22:=r22.cn ch73
  refine lo (bF (aU (vals:=[vg [vi t.1,v15,v17]]) Try.func13 ks kp rfl) (kK w67 t v15 v17 (r21).ro (r22).ro (by exact hN)) ?_)
  rintro⟨d75,v77⟩ w74 ⟨fr76,o78⟩
  obtain⟨g79,ch80,G79⟩:=oU g72 fr76 (λn=>if n=1 then 12 else 0)
  replace o78:=o78.gl G79 12
  refine mv (vt [v77,vi ((aS t).2)]) (lx (cE rfl rfl) (lx (cE rfl rfl) (ma v77 (ai ((aS t).2) (af (a9 (a9 (a6 rfl ?_))))))))
  replace bx30:=bx30.cn ch80
  refine lx (bm (ds:=[vi t.1,v15,v17]) c9 rfl bx30 rfl rfl) ?_
  replace r21:=r21.cn ch80
  replace r22:=r22.cn ch80
  refine lo (bE (v:=vb (bQ t)) (aU (vals:=[vg [vi t.1,v15,v17]]) Try.func14 kz kS rfl) (gO w74 t v15 v17 (r21).ro (r22).ro) ?_)
  intro w81 hb82
  replace hb82:=aB hb82 g79
  refine mv (vb (bQ t)) (lw (vb (!(decide ((bQ t)=(bQ t))))) (mq U4 rfl rfl) (mv (vb (!(decide ((bQ t)=(bQ t))))) ?_))
  have q48:(bQ t)=(bQ t):=by rfl
  replace bx30:=bx30.cn hb82
  refine lv (vg [vi t.1,v15,v17]) (wy (congrArg Bool.not (dt q48))) (bm (ds:=[vi t.1,v15,v17]) c9 rfl bx30 rfl rfl) ?_
  have C83:=cg [4,7,10] (ch20.n.seq (ch24.n.seq ((ch29.l rfl).seq (ch39.n.seq (ch41.n.seq ((ch46.l rfl).seq (ch57.n.seq (ch59.n.seq ((ch64.l rfl).seq (ch73.n.seq (ch80.n.seq hb82.n)))))))))))
  replace bx5:=bx5.ca C83
  refine lv (vg [vi t.1,t_v,t_v1]) (wy (congrArg Bool.not (dt q48))) (bm (ds:=[vi t.1,t_v,t_v1]) c9 rfl bx5 rfl rfl) ?_
  have C84:=cg [4,7,10] (ch24.n.seq ((ch29.l rfl).seq (ch39.n.seq (ch41.n.seq ((ch46.l rfl).seq (ch57.n.seq (ch59.n.seq ((ch64.l rfl).seq (ch73.n.seq (ch80.n.seq hb82.n))))))))))
  replace o16:=o16.ca C84
  replace o18:=o18.ca C84
  replace r21:=r21.cn hb82
  replace r22:=r22.cn hb82
  replace Rt:=Rt.ca C83
  replace r_t_v1:=r_t_v1.ca C83
  refine cQ (wy (congrArg Bool.not (dt q48))) (bE (v:=vb true) (aU (vals:=[vg [vi t.1,v15,v17],vg [vi t.1,t_v,t_v1]]) Try.func15 r5 qd rfl) (o4 w81 t v15 v17 (r21).ro (r22).ro t t_v t_v1 (Rt).ro (r_t_v1).ro (by exact Sl.ro (Ow.flat ‹_›)) (by exact Sl.ro (Ow.flat ‹_›)) (by rfl)) ?_)
  intro w85 hb86
  replace hb86:=aB hb86 g79
  refine lv (vb false) (wy (congrArg Bool.not (dt q48))) (cz (b:=true) rfl) (lw (vb false) (aH rfl (congrArg Bool.not (dt q48)) rfl) (mv (vb false) (lv (vi ((ax t).2)) (wy rfl) (ah rfl) (lv (vi ((ax t).2)) (wy rfl) (ah rfl) (lv (vb (!(decide (((ax t).2)=((ax t).2))))) (wy rfl) (cY (m:=(ax t).2) (n:=(ax t).2) rfl rfl) (lw (vb (!(decide (((ax t).2)=((ax t).2))))) (aH rfl rfl rfl) (mv (vb (!(decide (((ax t).2)=((ax t).2))))) ?_)))))))
  have q59:((ax t).2)=((ax t).2):=by rfl
  refine lv (vp b42 2) (wy (congrArg Bool.not (dt q59))) (a7 ff rfl rfl rfl rfl) ?_
  have C87:=cg [10] (ch57.n.seq (ch59.n.seq ((ch64.l rfl).seq (ch73.n.seq (ch80.n.seq (hb82.n.seq hb86.n))))))
  replace bx47:=bx47.ca C87
  refine lv (vi ((((ax t).1).2).2)) (wy (congrArg Bool.not (dt q59))) (a8 gu rfl bx47 rfl) (lv (vp b60 2) (wy (congrArg Bool.not (dt q59))) (a7 ff rfl rfl rfl rfl) ?_)
  have C88:=cg [] (ch73.n.seq (ch80.n.seq (hb82.n.seq hb86.n)))
  replace bx65:=bx65.ca C88
  refine lv (vi ((((ax t).1).2).2)) (wy (congrArg Bool.not (dt q59))) (a8 gu rfl bx65 rfl) (lv (vb (!(decide (((((ax t).1).2).2)=((((ax t).1).2).2))))) (wy (congrArg Bool.not (dt q59))) (cY (m:=(((ax t).1).2).2) (n:=(((ax t).1).2).2) rfl rfl) (lw (vb (!(decide (((((ax t).1).2).2)=((((ax t).1).2).2))))) (aH rfl (congrArg Bool.not (dt q59)) rfl) (mv (vb (!(decide (((((ax t).1).2).2)=((((ax t).1).2).2))))) ?_)))
  have q66:((((ax t).1).2).2)=((((ax t).1).2).2):=by rfl
  refine lv (vp b42 0) (wy (congrArg Bool.not (dt q66))) (a7 ff rfl rfl rfl rfl) (lv (v34) (wy (congrArg Bool.not (dt q66))) (a8 ao rfl bx47 rfl) (lv (vp b60 0) (wy (congrArg Bool.not (dt q66))) (a7 ff rfl rfl rfl rfl) (lv (v52) (wy (congrArg Bool.not (dt q66))) (a8 ao rfl bx65 rfl) ?_)))
  have C89:=cg [7,10] ((ch46.l rfl).seq (ch57.n.seq (ch59.n.seq ((ch64.l rfl).seq (ch73.n.seq (ch80.n.seq (hb82.n.seq hb86.n)))))))
  have C90:=cg [10] ((ch64.l rfl).seq (ch73.n.seq (ch80.n.seq (hb82.n.seq hb86.n))))
  replace o35:=o35.ca C89
  replace o53:=o53.ca C90
  refine cQ (wy (congrArg Bool.not (dt q66))) (bE (v:=vb (decide ((((ax t).1).1)=(((ax t).1).1)))) (aU (vals:=[v34,v52]) Try.func16 iH iL rfl) (gy w85 (((ax t).1).1) v34 (o35.flat).ro (((ax t).1).1) v52 (o53.flat).ro) ?_)
  intro w91 hb92
  replace hb92:=aB hb92 g79
  refine lv (vb (!(decide ((((ax t).1).1)=(((ax t).1).1))))) (wy (congrArg Bool.not (dt q66))) (cz (b:=(decide ((((ax t).1).1)=(((ax t).1).1)))) rfl) (lw (vb (!(decide ((((ax t).1).1)=(((ax t).1).1))))) (aH rfl (congrArg Bool.not (dt q66)) rfl) (mv (vb (!(decide ((((ax t).1).1)=(((ax t).1).1))))) ?_))
  have q74:(decide ((((ax t).1).1)=(((ax t).1).1)))=true:=by exact dt rfl
  refine lv (vp b42 1) (wy (congrArg Bool.not q74)) (a7 ff rfl rfl rfl rfl) ?_
  replace bx47:=bx47.cn hb92
  refine lv (v36) (wy (congrArg Bool.not q74)) (a8 ao rfl bx47 rfl) (lv (vp b60 1) (wy (congrArg Bool.not q74)) (a7 ff rfl rfl rfl rfl) ?_)
  replace bx65:=bx65.cn hb92
  refine lv (v54) (wy (congrArg Bool.not q74)) (a8 ao rfl bx65 rfl) ?_
  have C93:=cg [7,10] ((ch46.l rfl).seq (ch57.n.seq (ch59.n.seq ((ch64.l rfl).seq (ch73.n.seq (ch80.n.seq (hb82.n.seq (hb86.n.seq hb92.n))))))))
  have C94:=cg [10] ((ch64.l rfl).seq (ch73.n.seq (ch80.n.seq (hb82.n.seq (hb86.n.seq hb92.n)))))
  replace o37:=o37.ca C93
  replace o55:=o55.ca C94
  refine cQ (wy (congrArg Bool.not q74)) (bE (v:=vb (decide (((((ax t).1).2).1)=((((ax t).1).2).1)))) (aU (vals:=[v36,v54]) Try.func16 iH iL rfl) (gy w91 ((((ax t).1).2).1) v36 (o37.flat).ro ((((ax t).1).2).1) v54 (o55.flat).ro) ?_)
  intro w95 hb96
  replace hb96:=aB hb96 g79
  refine lv (vb (!(decide (((((ax t).1).2).1)=((((ax t).1).2).1))))) (wy (congrArg Bool.not q74)) (cz (b:=(decide (((((ax t).1).2).1)=((((ax t).1).2).1)))) rfl) (lw (vb (!(decide (((((ax t).1).2).1)=((((ax t).1).2).1))))) (aH rfl (congrArg Bool.not q74) rfl) (mv (vb (!(decide (((((ax t).1).2).1)=((((ax t).1).2).1))))) ?_))
  have q82:(decide (((((ax t).1).2).1)=((((ax t).1).2).1)))=true:=by exact dt rfl
  refine lv (v70) (wy (congrArg Bool.not q82)) (ah rfl) (lv (v77) (wy (congrArg Bool.not q82)) (ah rfl) ?_)
  have C98:=cg [] (hb82.n.seq (hb86.n.seq (hb92.n.seq hb96.n)))
  have C97:=ch80.n.seq C98
  replace o71:=o71.ca C97
  replace o78:=o78.ca C98
  refine cQ (wy (congrArg Bool.not q82)) (bE (v:=vb (decide (((aS t).1)=((aS t).1)))) (aU (vals:=[v70,v77]) Try.func16 iH iL rfl) (gy w95 ((aS t).1) v70 (o71.flat).ro ((aS t).1) v77 (o78.flat).ro) ?_)
  intro w99 hb100
  replace hb100:=aB hb100 g79
  refine lv (vb (!(decide (((aS t).1)=((aS t).1))))) (wy (congrArg Bool.not q82)) (cz (b:=(decide (((aS t).1)=((aS t).1)))) rfl) (lw (vb (!(decide (((aS t).1)=((aS t).1))))) (aH rfl (congrArg Bool.not q82) rfl) (af ?_))
  have p11:(decide (((aS t).1)=((aS t).1)))=true:=by exact dt rfl
  refine am rfl (congrArg Bool.not p11) (au (a9 ?_))
  clear r21 r22 bx30
  refine a6 rfl (lw (vg [vn,vi 0]) (bp (vs:=[]) rfl (by kernel_rfl)) (lo (d4 g79 (is 13) (13,0) rfl rfl ?_)))
  intro g104 w101 b103 ch102 bx105
  replace bx105:Bx g104 (is 13) w101 b103 [vn,vi 0]:=bx105
  refine ma (vp b103 0) (af (a9 (a6 rfl (ma (vb true) (af (a9 (av (a9 ?_))))))))
  refine eW [false,false,false,true] (σ:=Bool×aG) (λ⟨s14_j1,gq⟩ f w=>b9 w0 gq w/\f 5=vp b42 0/\f 6=vi ((ax t).2)/\f 7=vp b60 0/\f 9=v70/\f 11=v77/\f 13=vp b103 0/\f 14=vb s14_j1/\Sl gq (is 0) w t_v t.2.1/\Sl gq (is 0) w t_v1 t.2.2/\Ow gq (is 2) (is 2) w (db v15) (t.2.1++[((-7:Int),(0:Int),(0:Int),(0:Int))])/\Ow gq (is 3) (is 3) w (db v17) (t.2.2++[(-7:Int)])/\Ow gq (is 5) (is 5) w v34 (((ax t).1).1)/\Ow gq (is 6) (is 6) w v36 ((((ax t).1).2).1)/\Bx gq (is 7) w b42 [v34,v36,vi ((((ax t).1).2).2)]/\Ow gq (is 8) (is 8) w v52 (((ax t).1).1)/\Ow gq (is 9) (is 9) w v54 ((((ax t).1).2).1)/\Bx gq (is 10) w b60 [v52,v54,vi ((((ax t).1).2).2)]/\Ow gq (is 11) (is 11) w v70 ((aS t).1)/\Ow gq (is 12) (is 12) w v77 ((aS t).1)/\Bx gq (is 13) w b103 [vn,vi 0]/\(s14_j1=true)) ?_ ?_
  ·
   intro mid_j1
   refine a6 rfl (mv (vb (bQ t)) (lx (cz (b:=(bQ t)) rfl) (ma (vb (!(bQ t))) (af ?_))))
   by_cases p16:(bQ t)=true
   ·
    have hm:cB t:=of_decide_eq_true ‹_›
    refine am rfl (congrArg Bool.not p16) (a9 (a6 rfl (mi ((ax t).2) (lx (cw (m:=(ax t).2) (n:=0) rfl rfl) (ma (vb (decide (((ax t).2)=0))) (af ?_))))))
    by_cases p18:((ax t).2)=0
    ·
     obtain⟨hg1,hg2,hg3⟩:=td hm ‹_›
     refine aj rfl (dt p18) (a6 rfl ?_)
     have C106:=cg [] (hb86.n.seq (hb92.n.seq (hb96.n.seq (hb100.n.seq ch102.n))))
     replace bx5:=bx5.ca C106
     refine lx (bm (ds:=[vi t.1,t_v,t_v1]) c9 rfl bx5 rfl rfl) ?_
     have C107:=cg [] (hb96.n.seq (hb100.n.seq ch102.n))
     replace bx47:=bx47.ca C107
     refine lx (bm (ds:=[v34,v36,vi ((((ax t).1).2).2)]) bP rfl bx47 rfl rfl) ?_
     replace Rt:=Rt.ca C106
     replace r_t_v1:=r_t_v1.ca C106
     have C108:=cg [] (hb92.n.seq (hb96.n.seq (hb100.n.seq ch102.n)))
     replace o35:=o35.ca C108
     replace o37:=o37.ca C107
     refine lo (bE (v:=vb (et t (((ax t).1).1,(((ax t).1).2).1,(((ax t).1).2).2))) (aU (vals:=[vg [vi t.1,t_v,t_v1],vg [v34,v36,vi ((((ax t).1).2).2)]]) Try.func17 r7 qH rfl) (oZ w101 t t_v t_v1 (Rt).ro (r_t_v1).ro (((ax t).1).1,(((ax t).1).2).1,(((ax t).1).2).2) v34 v36 (o35.flat).ro (o37.flat).ro) ?_)
     intro w109 hb110
     replace hb110:=aB hb110 g104
     refine mv (vb (et t (((ax t).1).1,(((ax t).1).2).1,(((ax t).1).2).2))) ?_
     have q134:(et t (((ax t).1).1,(((ax t).1).2).1,(((ax t).1).2).2))=true:=by assumption
     replace bx5:=bx5.cn hb110
     refine lv (vg [vi t.1,t_v,t_v1]) (wy q134) (bm (ds:=[vi t.1,t_v,t_v1]) c9 rfl bx5 rfl rfl) ?_
     replace bx47:=bx47.cn hb110
     refine lv (vg [v34,v36,vi ((((ax t).1).2).2)]) (wy q134) (bm (ds:=[v34,v36,vi ((((ax t).1).2).2)]) bP rfl bx47 rfl rfl) ?_
     replace Rt:=Rt.cn hb110
     replace r_t_v1:=r_t_v1.cn hb110
     replace o35:=o35.cn hb110
     replace o37:=o37.cn hb110
     refine cQ (wy q134) (bE (v:=vb (et t (((ax t).1).1,(((ax t).1).2).1,(((ax t).1).2).2))) (aU (vals:=[vg [vi t.1,t_v,t_v1],vg [v34,v36,vi ((((ax t).1).2).2)]]) Try.func18 mF n5 rfl) (mS w109 t t_v t_v1 (Rt).ro (r_t_v1).ro (((ax t).1).1,(((ax t).1).2).1,(((ax t).1).2).2) v34 v36 (o35.flat).ro (o37.flat).ro) ?_)
     intro w111 hb112
     replace hb112:=aB hb112 g104
     refine lw (vb (et t (((ax t).1).1,(((ax t).1).2).1,(((ax t).1).2).2))) (az rfl q134 rfl) (mv (vb (et t (((ax t).1).1,(((ax t).1).2).1,(((ax t).1).2).2))) (lv (vi ((aS t).2)) (wy q134) (ah rfl) (lv (vb (decide (((aS t).2)=14))) (wy q134) (cw (m:=(aS t).2) (n:=14) rfl rfl) (lw (vb (decide (((aS t).2)=14))) (az rfl q134 rfl) (mv (vb (decide (((aS t).2)=14))) ?_)))))
     have q143:((aS t).2)=14:=by assumption
     refine lv (v70) (wy (dt q143)) (ah rfl) ?_
     have C113:=cg [] (hb100.n.seq (ch102.n.seq (hb110.n.seq hb112.n)))
     replace o71:=o71.ca C113
     have len114:=(o71.flat).small
     refine lv (vi (List.length ((aS t).1):Int)) (wy (dt q143)) (ba aW rfl o71.flat) (lv (vb (decide ((List.length ((aS t).1):Int)=0))) (wy (dt q143)) (cw (m:=(List.length ((aS t).1):Int)) (n:=0) rfl rfl) (lw (vb (decide ((List.length ((aS t).1):Int)=0))) (az rfl (dt q143) rfl) (ma (vb (decide ((List.length ((aS t).1):Int)=0))) (af (aq (a9 ?_))))))
     clear bx5
     have C115:=cg [4,7,10] (ch2.n.seq (hb7.n.seq (hb9.n.seq (hb11.n.seq (ch20.n.seq (ch24.n.seq ((ch29.l rfl).seq (ch39.n.seq (ch41.n.seq ((ch46.l rfl).seq (ch57.n.seq (ch59.n.seq ((ch64.l rfl).seq (ch73.n.seq (ch80.n.seq (hb82.n.seq (hb86.n.seq (hb92.n.seq (hb96.n.seq (hb100.n.seq (ch102.n.seq (hb110.n.seq hb112.n))))))))))))))))))))))
     have C118:=cg [] (hb96.n.seq (hb100.n.seq (ch102.n.seq (hb110.n.seq hb112.n))))
     have C117:=hb92.n.seq C118
     have C116:=hb86.n.seq C117
     refine mid_j1 (decide ((List.length ((aS t).1):Int)=0),g104) _ _ ⟨bH.ca C115,rfl,rfl,rfl,rfl,rfl,rfl,rfl,Rt.cn hb112,r_t_v1.cn hb112,o16.ca C116,o18.ca C116,o35.cn hb112,o37.cn hb112,bx47.cn hb112,o53.ca C117,o55.ca C118,bx65.ca C118,o71,o78.ca C113,(bx105.cn hb110).cn hb112,?_⟩
     show(decide ((List.length ((aS t).1):Int)=0))=true
     exact dt (by omega)
    obtain⟨hh1,hh2,hh3,hh4⟩:=nT hm ‹_›
    refine am rfl (df p18) (a9 (a6 rfl ?_))
    have C119:=cg [] (hb86.n.seq (hb92.n.seq (hb96.n.seq (hb100.n.seq ch102.n))))
    replace bx5:=bx5.ca C119
    refine lx (bm (ds:=[vi t.1,t_v,t_v1]) c9 rfl bx5 rfl rfl) ?_
    replace Rt:=Rt.ca C119
    replace r_t_v1:=r_t_v1.ca C119
    refine lo (bE (v:=vi (dd t.2.2)) (aU (vals:=[vg [vi t.1,t_v,t_v1]]) Try.func19 qX rp rfl) (pG w101 t t_v t_v1 (Rt).ro (r_t_v1).ro (by exact hm)) ?_)
    intro w120 hb121
    replace hb121:=aB hb121 g104
    refine lx (cY (m:=dd t.2.2) (n:=0) rfl rfl) (ma (vb (!(decide ((dd t.2.2)=0)))) (af ?_))
    by_cases p20:(dd t.2.2)=0
    ·
     obtain⟨hk1,hk2,hk3,hk4⟩:=rT hm ‹_› ‹_›
     refine am rfl (congrArg Bool.not (dt p20)) (a6 rfl (mi ((ax t).2) (lx (cw (m:=(ax t).2) (n:=20) rfl rfl) (mv (vb (decide (((ax t).2)=20))) ?_))))
     have q92:((ax t).2)=20:=by assumption
     refine lv (vi ((aS t).2)) (wy (dt q92)) (ah rfl) (lv (vb (decide (((aS t).2)=0))) (wy (dt q92)) (cw (m:=(aS t).2) (n:=0) rfl rfl) (lw (vb (decide (((aS t).2)=0))) (az rfl (dt q92) rfl) (mv (vb (decide (((aS t).2)=0))) ?_)))
     have q96:((aS t).2)=0:=by assumption
     replace bx5:=bx5.cn hb121
     refine lv (vg [vi t.1,t_v,t_v1]) (wy (dt q96)) (bm (ds:=[vi t.1,t_v,t_v1]) c9 rfl bx5 rfl rfl) (lv (v70) (wy (dt q96)) (ah rfl) ?_)
     replace Rt:=Rt.cn hb121
     replace r_t_v1:=r_t_v1.cn hb121
     have C122:=cg [] (hb100.n.seq (ch102.n.seq hb121.n))
     replace o71:=o71.ca C122
     refine cQ (wy (dt q96)) (bE (v:=vb (decide (gY t ((aS t).1) t.2.1.length<kH t ((aS t).1) ((aS t).1).length))) (aU (vals:=[vg [vi t.1,t_v,t_v1],v70]) Try.func20 r6 qI rfl) (qf w120 t t_v t_v1 (Rt).ro (r_t_v1).ro ((aS t).1) v70 (o71.flat).ro (by exact hm) (by exact hk2) (by exact hk3)) ?_)
     intro w123 hb124
     replace hb124:=aB hb124 g104
     refine lw (vb (decide (gY t ((aS t).1) t.2.1.length<kH t ((aS t).1) ((aS t).1).length))) (az rfl (dt q96) rfl) (ma (vb (decide (gY t ((aS t).1) t.2.1.length<kH t ((aS t).1) ((aS t).1).length))) (af (aq (a9 ?_))))
     clear bx5
     have C125:=cg [4,7,10] (ch2.n.seq (hb7.n.seq (hb9.n.seq (hb11.n.seq (ch20.n.seq (ch24.n.seq ((ch29.l rfl).seq (ch39.n.seq (ch41.n.seq ((ch46.l rfl).seq (ch57.n.seq (ch59.n.seq ((ch64.l rfl).seq (ch73.n.seq (ch80.n.seq (hb82.n.seq (hb86.n.seq (hb92.n.seq (hb96.n.seq (hb100.n.seq (ch102.n.seq (hb121.n.seq hb124.n))))))))))))))))))))))
     have C129:=cg [] (hb100.n.seq (ch102.n.seq (hb121.n.seq hb124.n)))
     have C128:=hb96.n.seq C129
     have C127:=hb92.n.seq C128
     have C126:=hb86.n.seq C127
     refine mid_j1 ((decide (gY t ((aS t).1) t.2.1.length<kH t ((aS t).1) ((aS t).1).length)),g104) _ _ ⟨bH.ca C125,rfl,rfl,rfl,rfl,rfl,rfl,rfl,Rt.cn hb124,r_t_v1.cn hb124,o16.ca C126,o18.ca C126,o35.ca C127,o37.ca C128,bx47.ca C128,o53.ca C127,o55.ca C128,bx65.ca C128,o71.cn hb124,o78.ca C129,(bx105.cn hb121).cn hb124,?_⟩
     show(decide (gY t ((aS t).1) t.2.1.length<kH t ((aS t).1) ((aS t).1).length))=true
     exact dt (by omega)
    obtain⟨hi1,hi2⟩:=rQ hm ‹_›
    refine aj rfl (congrArg Bool.not (df p20)) ?_
    clear bx5
    refine a6 rfl (mi ((ax t).2) (lx (cw (m:=(ax t).2) (n:=20) rfl rfl) (mv (vb (decide (((ax t).2)=20))) ?_)))
    have q154:((ax t).2)=20:=by assumption
    refine lv (vi ((aS t).2)) (wy (dt q154)) (ah rfl) (lv (vb (decide (((aS t).2)=0))) (wy (dt q154)) (cw (m:=(aS t).2) (n:=0) rfl rfl) (lw (vb (decide (((aS t).2)=0))) (az rfl (dt q154) rfl) (mv (vb (decide (((aS t).2)=0))) ?_)))
    have q158:((aS t).2)=0:=by assumption
    refine lv (v70) (wy (dt q158)) (ah rfl) ?_
    have C130:=cg [] (hb100.n.seq (ch102.n.seq hb121.n))
    replace o71:=o71.ca C130
    have len131:=(o71.flat).small
    refine lv (vi (List.length ((aS t).1):Int)) (wy (dt q158)) (ba aW rfl o71.flat) (lv (vb (decide ((List.length ((aS t).1):Int)=0))) (wy (dt q158)) (cw (m:=(List.length ((aS t).1):Int)) (n:=0) rfl rfl) (lw (vb (decide ((List.length ((aS t).1):Int)=0))) (az rfl (dt q158) rfl) (ma (vb (decide ((List.length ((aS t).1):Int)=0))) (af (aq (a9 ?_))))))
    have C132:=cg [4,7,10] (ch2.n.seq (hb7.n.seq (hb9.n.seq (hb11.n.seq (ch20.n.seq (ch24.n.seq ((ch29.l rfl).seq (ch39.n.seq (ch41.n.seq ((ch46.l rfl).seq (ch57.n.seq (ch59.n.seq ((ch64.l rfl).seq (ch73.n.seq (ch80.n.seq (hb82.n.seq (hb86.n.seq (hb92.n.seq (hb96.n.seq (hb100.n.seq (ch102.n.seq hb121.n)))))))))))))))))))))
    have C135:=cg [] (hb96.n.seq (hb100.n.seq (ch102.n.seq hb121.n)))
    have C134:=hb92.n.seq C135
    have C133:=hb86.n.seq C134
    refine mid_j1 (decide ((List.length ((aS t).1):Int)=0),g104) _ _ ⟨bH.ca C132,rfl,rfl,rfl,rfl,rfl,rfl,rfl,Rt.cn hb121,r_t_v1.cn hb121,o16.ca C133,o18.ca C133,o35.ca C134,o37.ca C135,bx47.ca C135,o53.ca C134,o55.ca C135,bx65.ca C135,o71,o78.ca C130,bx105.cn hb121,?_⟩
    show(decide ((List.length ((aS t).1):Int)=0))=true
    exact dt (by omega)
   obtain⟨⟨hf1,hf2⟩,hf3,hf4,hf5,hf6⟩:=pg (λh=>absurd (dI h) ‹_›)
   refine aj rfl (congrArg Bool.not (Bool.eq_false_iff.2 p16)) ?_
   clear bx5
   refine a6 rfl (mi ((ax t).2) (lx (cw (m:=(ax t).2) (n:=1) rfl rfl) (mv (vb (decide (((ax t).2)=1))) ?_)))
   have q106:((ax t).2)=1:=by assumption
   refine lv (vi ((aS t).2)) (wy (dt q106)) (ah rfl) (lv (vb (decide (((aS t).2)=1))) (wy (dt q106)) (cw (m:=(aS t).2) (n:=1) rfl rfl) (lw (vb (decide (((aS t).2)=1))) (az rfl (dt q106) rfl) (mv (vb (decide (((aS t).2)=1))) ?_)))
   have q110:((aS t).2)=1:=by assumption
   refine lv (vp b42 0) (wy (dt q110)) (a7 ff rfl rfl rfl rfl) ?_
   have C136:=cg [] (hb96.n.seq (hb100.n.seq ch102.n))
   replace bx47:=bx47.ca C136
   refine lv (v34) (wy (dt q110)) (a8 ao rfl bx47 rfl) ?_
   have C137:=cg [] (hb92.n.seq (hb96.n.seq (hb100.n.seq ch102.n)))
   replace o35:=o35.ca C137
   have len138:=(o35.flat).small
   refine lv (vi (List.length (((ax t).1).1):Int)) (wy (dt q110)) (ba aW rfl o35.flat) (lv (vp b42 1) (wy (dt q110)) (a7 ff rfl rfl rfl rfl) (lv (v36) (wy (dt q110)) (a8 ao rfl bx47 rfl) ?_))
   replace o37:=o37.ca C136
   have len139:=(o37.flat).small
   refine lv (vi (List.length ((((ax t).1).2).1):Int)) (wy (dt q110)) (ba aW rfl o37.flat) (lv (vi ((List.length (((ax t).1).1):Int)+(List.length ((((ax t).1).2).1):Int))) (wy (dt q110)) (aP (m:=(List.length (((ax t).1).1):Int)) (n:=(List.length ((((ax t).1).2).1):Int)) rfl rfl (by omega)) (lv (v70) (wy (dt q110)) (ah rfl) ?_))
   replace o71:=(o71.cn hb100).cn ch102
   have len140:=(o71.flat).small
   refine lv (vi (List.length ((aS t).1):Int)) (wy (dt q110)) (ba aW rfl o71.flat) (lv (vi (((List.length (((ax t).1).1):Int)+(List.length ((((ax t).1).2).1):Int))+(List.length ((aS t).1):Int))) (wy (dt q110)) (aP (m:=(List.length (((ax t).1).1):Int)+(List.length ((((ax t).1).2).1):Int)) (n:=(List.length ((aS t).1):Int)) rfl rfl (by omega)) (lv (vb (decide ((((List.length (((ax t).1).1):Int)+(List.length ((((ax t).1).2).1):Int))+(List.length ((aS t).1):Int))=0))) (wy (dt q110)) (cw (m:=((List.length (((ax t).1).1):Int)+(List.length ((((ax t).1).2).1):Int))+(List.length ((aS t).1):Int)) (n:=0) rfl rfl) ?_))
   refine lw (vb (decide ((((List.length (((ax t).1).1):Int)+(List.length ((((ax t).1).2).1):Int))+(List.length ((aS t).1):Int))=0))) (az rfl (dt q110) rfl) (mv (vb (decide ((((List.length (((ax t).1).1):Int)+(List.length ((((ax t).1).2).1):Int))+(List.length ((aS t).1):Int))=0))) ?_)
   have q123:(((List.length (((ax t).1).1):Int)+(List.length ((((ax t).1).2).1):Int))+(List.length ((aS t).1):Int))=0:=by omega
   refine lv (vp b42 2) (wy (dt q123)) (a7 ff rfl rfl rfl rfl) (lv (vi ((((ax t).1).2).2)) (wy (dt q123)) (a8 gu rfl bx47 rfl) (lv (vb (decide (((((ax t).1).2).2)=0))) (wy (dt q123)) (cw (m:=(((ax t).1).2).2) (n:=0) rfl rfl) (lw (vb (decide (((((ax t).1).2).2)=0))) (az rfl (dt q123) rfl) (ma (vb (decide (((((ax t).1).2).2)=0))) (af (aq (a9 ?_)))))))
   have C141:=cg [4,7,10] (ch2.n.seq (hb7.n.seq (hb9.n.seq (hb11.n.seq (ch20.n.seq (ch24.n.seq ((ch29.l rfl).seq (ch39.n.seq (ch41.n.seq ((ch46.l rfl).seq (ch57.n.seq (ch59.n.seq ((ch64.l rfl).seq (ch73.n.seq (ch80.n.seq (hb82.n.seq (hb86.n.seq (hb92.n.seq (hb96.n.seq (hb100.n.seq ch102.n))))))))))))))))))))
   have C142:=cg [] (hb86.n.seq (hb92.n.seq (hb96.n.seq (hb100.n.seq ch102.n))))
   refine mid_j1 (decide (((((ax t).1).2).2)=0),g104) _ _ ⟨bH.ca C141,rfl,rfl,rfl,rfl,rfl,rfl,rfl,Rt.ca C142,r_t_v1.ca C142,o16.ca C142,o18.ca C142,o35,o37,bx47,o53.ca C137,o55.ca C136,bx65.ca C136,o71,(o78.cn hb100).cn ch102,bx105,?_⟩
   show(decide (((((ax t).1).2).2)=0))=true
   exact dt (by omega)
  clear Rt r_t_v1 bx5 o16 o18 o35 o37 bx47 o53 o55 bx65 o71 o78 bx105 bH
  rintro⟨s14_j1,g145⟩ f143 w144 ⟨bH,z146_5,z146_6,z146_7,z146_9,z146_11,z146_13,z146_14,Rt,r_t_v1,o16,o18,o35,o37,bx47,o53,o55,bx65,o71,o78,bx105,hjn_j1⟩
  refine a6 rfl (mz z146_13 (lx (a7 ff rfl rfl z146_5 rfl) (lx (a8 ao rfl bx47 rfl) (lx (a7 ff rfl rfl z146_5 rfl) (lx (a8 ao rfl bx47 rfl) (lx (a7 ff rfl rfl z146_7 rfl) (lx (a8 ao rfl bx65 rfl) (lx (a7 ff rfl rfl z146_7 rfl) (lx (a8 ao rfl bx65 rfl) ?_)))))))))
  refine mz z146_9 (mz z146_11 (lo ?_))
  obtain⟨c147,hv148⟩:=f5 (u:=v34) (aZ o35.flat)
  obtain⟨c149,hv150⟩:=f5 (u:=v36) (aZ o37.flat)
  obtain⟨c151,hv152⟩:=f5 (u:=v52) (aZ o53.flat)
  obtain⟨c153,hv154⟩:=f5 (u:=v54) (aZ o55.flat)
  obtain⟨c155,hv156⟩:=f5 (u:=v70) (aZ o71.flat)
  obtain⟨c157,hv158⟩:=f5 (u:=v77) (aZ o78.flat)
  refine aw (α:=Vc) g145 (is 14) (is 14) (14,0) rfl [c147,c149,c151,c153,c155,c157] c5 ao (by decide) (by decide) (vs:=[(0,v34),(1,v36),(2,v52),(3,v54),(4,v70),(5,v77)]) rfl rfl (.cons (e8 hv148 (bf o35.flat)) (.cons (e8 hv150 (bf o37.flat)) (.cons (e8 hv152 (bf o53.flat)) (.cons (e8 hv154 (bf o55.flat)) (.cons (e8 hv156 (bf o71.flat)) (.cons (e8 hv158 (bf o78.flat)) .nil)))))) ?_
  intro g159 w160 v161 ch162 o163
  refine lo ?_
  refine bF (σ:=Value×eZ×Int×aG) (V:=λ⟨b_0_c1_v,b_0_c1,b_1_c1,gq⟩=>vt []) (S:=λ⟨b_0_c1_v,b_0_c1,b_1_c1,gq⟩ w=>b9 w0 gq w/\Sl gq (is 0) w t_v t.2.1/\Sl gq (is 0) w t_v1 t.2.2/\Ow gq (is 2) (is 2) w (db v15) (t.2.1++[((-7:Int),(0:Int),(0:Int),(0:Int))])/\Ow gq (is 3) (is 3) w (db v17) (t.2.2++[(-7:Int)])/\Sl gq (gr 5 16) w v34 (((ax t).1).1)/\Sl gq (gr 6 16) w v36 ((((ax t).1).2).1)/\Bx gq (is 7) w b42 [v34,v36,vi ((((ax t).1).2).2)]/\Sl gq (gr 8 16) w v52 (((ax t).1).1)/\Sl gq (gr 9 16) w v54 ((((ax t).1).2).1)/\Bx gq (is 10) w b60 [v52,v54,vi ((((ax t).1).2).2)]/\Sl gq (gr 11 16) w v70 ((aS t).1)/\Sl gq (gr 12 16) w v77 ((aS t).1)/\Bx gq (is 13) w b103 [b_0_c1_v,vi b_1_c1]/\Ow gq (is 14) (is 14) w v161 ([c147,c149,c151,c153,c155,c157])/\bN gq 16 w b_0_c1_v b_0_c1/\(cA b_0_c1 b_1_c1)) (aU (vals:=[vp b103 0,v161]) Try.func21 rj qG rfl) ?_ ?_
  ·
   refine aC Try.func21 rfl nq ?_
   replace o78:=o78.cn ch162
   replace o71:=o71.cn ch162
   replace o55:=o55.cn ch162
   replace o53:=o53.cn ch162
   replace o37:=o37.cn ch162
   replace o35:=o35.cn ch162
   refine a9 (a6 rfl (ai 0 (af (av (jZ (a9 (a9 (a6 rfl (mi 0 (mv v161 (lx (ba c5 rfl o163.flat) (lx (bo (m:=0) (n:=6) rfl rfl) ?_))))))))))))
   refine af (aj rfl rfl (au (a9 (av (a9 ?_)))))
   refine eW [false,true,false,false,false] (σ:=Value×eZ×Int×aG) (λ⟨b_0_j8_v,b_0_j8,b_1_j8,gq⟩ f w=>b9 w0 gq w/\f 0=vp b103 0/\f 1=v161/\f 4=vi 0/\Sl gq (is 0) w t_v t.2.1/\Sl gq (is 0) w t_v1 t.2.2/\Ow gq (is 2) (is 2) w (db v15) (t.2.1++[((-7:Int),(0:Int),(0:Int),(0:Int))])/\Ow gq (is 3) (is 3) w (db v17) (t.2.2++[(-7:Int)])/\Sl gq (gr 5 16) w v34 (((ax t).1).1)/\Ow gq (is 6) (is 6) w v36 ((((ax t).1).2).1)/\Bx gq (is 7) w b42 [v34,v36,vi ((((ax t).1).2).2)]/\Ow gq (is 8) (is 8) w v52 (((ax t).1).1)/\Ow gq (is 9) (is 9) w v54 ((((ax t).1).2).1)/\Bx gq (is 10) w b60 [v52,v54,vi ((((ax t).1).2).2)]/\Ow gq (is 11) (is 11) w v70 ((aS t).1)/\Ow gq (is 12) (is 12) w v77 ((aS t).1)/\Bx gq (is 13) w b103 [b_0_j8_v,vi b_1_j8]/\Ow gq (is 14) (is 14) w v161 ([c147,c149,c151,c153,c155,c157])/\bN gq 16 w b_0_j8_v b_0_j8/\(cA b_0_j8 b_1_j8)) ?_ ?_
   ·
    intro mid_j8
    refine bt g159 rfl cx (by kernel_rfl) ?_
    intro w165 ch164
    refine qm v161 (qm (vi 0) ?_)
    replace o78:=o78.cn ch164
    replace o71:=o71.cn ch164
    replace o55:=o55.cn ch164
    replace o53:=o53.cn ch164
    replace o37:=o37.cn ch164
    replace o35:=o35.cn ch164
    replace o163:=o163.cn ch164
    refine qx (λw' hw'=>aa (v:=v161) (i:=0) c5 rfl rfl ((dM o163 (VcR.consv hv148 (o35.flat).ro (VcR.consv hv150 (o37.flat).ro (VcR.consv hv152 (o53.flat).ro (VcR.consv hv154 (o55.flat).ro (VcR.consv hv156 (o71.flat).ro (VcR.consv hv158 (o78.flat).ro VcR.nil))))))).bel hw') rfl (by omega) (by(simp only[List.length_set,List.length_append,List.length_cons,List.length_nil,List.length_replicate,List.length_map,List.length_take,List.length_drop];omega))) (qx (λw' hw'=>bb ao rfl (cX hv148 (o163.bel hw') rfl)) ?_)
    have len166:=(o35.flat).small
    refine qx (λw' hw'=>ba aW rfl (o35.flat.bel hw')) (qm v161 (qm (vi 0) (qx (λw' hw'=>aa (v:=v161) (i:=0) c5 rfl rfl ((dM o163 (VcR.consv hv148 (o35.flat).ro (VcR.consv hv150 (o37.flat).ro (VcR.consv hv152 (o53.flat).ro (VcR.consv hv154 (o55.flat).ro (VcR.consv hv156 (o71.flat).ro (VcR.consv hv158 (o78.flat).ro VcR.nil))))))).bel hw') rfl (by omega) (by(simp only[List.length_set,List.length_append,List.length_cons,List.length_nil,List.length_replicate,List.length_map,List.length_take,List.length_drop];omega))) (qx (λw' hw'=>bb ao rfl (cX hv148 (o163.bel hw') rfl)) ?_))))
    have cap167:=Sl.cap o35.flat
    refine qv (vi (b7 v34:Int)) (λw' hw'=>ic aW rfl (o35.flat.bel hw')) (dJ (v:=vi (min (b7 v34:Int) ((List.length (((ax t).1).1):Int)+2000))) rfl (λw' hw'=>aU (vals:=[vi (List.length (((ax t).1).1):Int),vi (b7 v34:Int)]) Try.func28 eA eD rfl) (λw' hw'=>(ex w' (List.length (((ax t).1).1):Int) (b7 v34:Int) (by omega)).mono λe w2 h2=>⟨h2.1,hw'.trans (h2.2.mono hw'.size)⟩) (qv (vi (min (b7 v34:Int) ((List.length (((ax t).1).1):Int)+2000))) (λw' hw'=>bD rfl) (bX ?_)))
    intro w168 hc169
    replace hc169:=aB hc169 g159
    refine a9 (a6 rfl (mi (min (b7 v34:Int) ((List.length (((ax t).1).1):Int)+2000)) (lx (bY (m:=min (b7 v34:Int) ((List.length (((ax t).1).1):Int)+2000)) (n:=0) rfl rfl) (mv (vb (decide (0<(min (b7 v34:Int) ((List.length (((ax t).1).1):Int)+2000))))) ?_))))
    by_cases q25_c1:0<(min (b7 v34:Int) ((List.length (((ax t).1).1):Int)+2000))
    ·
     refine lv (vp b103 0) (wy (dt q25_c1)) (ah rfl) (lv (vp b103 0) (wy (dt q25_c1)) (ad rfl) (lv (vp b103 1) (wy (dt q25_c1)) (a7 e6 rfl rfl rfl rfl) ?_))
     have C170:=cg [] (ch162.n.seq (ch164.n.seq hc169.n))
     replace bx105:=bx105.ca C170
     refine lv (vi 0) (wy (dt q25_c1)) (a8 ae rfl bx105 rfl) (lv (vi (min (b7 v34:Int) ((List.length (((ax t).1).1):Int)+2000))) (wy (dt q25_c1)) (ah rfl) (lv (vi (0+(min (b7 v34:Int) ((List.length (((ax t).1).1):Int)+2000)))) (wy (dt q25_c1)) (aP (m:=0) (n:=min (b7 v34:Int) ((List.length (((ax t).1).1):Int)+2000)) rfl rfl (by omega)) (lv (vb (decide ((0+(min (b7 v34:Int) ((List.length (((ax t).1).1):Int)+2000)))<=1048576))) (wy (dt q25_c1)) (fB (m:=0+(min (b7 v34:Int) ((List.length (((ax t).1).1):Int)+2000))) (n:=1048576) rfl rfl) ?_)))
     refine lw (vb (decide ((0+(min (b7 v34:Int) ((List.length (((ax t).1).1):Int)+2000)))<=1048576))) (az rfl (dt q25_c1) rfl) (af ?_)
     by_cases p4_c1:(0+(min (b7 v34:Int) ((List.length (((ax t).1).1):Int)+2000)))<=1048576
     ·
      refine aj rfl (dt p4_c1) (a9 (a6 rfl (mv (vp b103 0) (mv (vp b103 0) (lw (vp b103 0) (ad rfl) (lx (a7 e6 rfl rfl rfl rfl) (lx (a8 ae rfl bx105 rfl) (mi (min (b7 v34:Int) ((List.length (((ax t).1).1):Int)+2000)) (lx (aP (m:=0) (n:=min (b7 v34:Int) ((List.length (((ax t).1).1):Int)+2000)) rfl rfl (by omega)) (lw (vp b103 0) (ad rfl) ?_))))))))))
      refine lx (a7 e6 rfl rfl rfl rfl) (lo (aR (cs':=[vn,vi (0+(min (b7 v34:Int) ((List.length (((ax t).1).1):Int)+2000)))]) ae rfl rfl bx105 rfl nq (AllOne.all (.cons rfl .nil)) rfl ?_))
      intro w171 ch172 bx173
      clear bx105
      refine af (aL g159 [0,1,2,3,4,5,6,7,8,11,12] cx ?_)
      intro w175 ch174
      refine xp (v:=vp b103 0) 0 rfl (λw=>ah rfl) (xp (v:=vp b103 0) 1 rfl (λw=>ah rfl) (xp (v:=vp b103 0) 2 rfl (λw=>ad rfl) (xp 3 rfl (λw=>a7 e6 rfl rfl rfl rfl) ?_)))
      replace bx173:=bx173.cn ch174
      refine xh 4 [3,2,1,0,5,6,7,8,9] rfl (λw' hw'=>a8 aN rfl (bx173.bel hw') rfl) (xp (v:=v161) 5 rfl (λw=>ah rfl) (xp (v:=vi 0) 6 rfl (λw=>ah rfl) ?_))
      have C176:=cg [13] (hc169.n.seq ((ch172.l rfl).seq ch174.n))
      replace o78:=o78.ca C176
      replace o71:=o71.ca C176
      replace o55:=o55.ca C176
      replace o53:=o53.ca C176
      replace o37:=o37.ca C176
      replace o35:=o35.ca C176
      replace o163:=o163.ca C176
      refine xv 7 [6,5,4,3,2,1,0] rfl (aa (v:=v161) (i:=0) c5 rfl rfl (dM o163 (VcR.consv hv148 (o35.flat).ro (VcR.consv hv150 (o37.flat).ro (VcR.consv hv152 (o53.flat).ro (VcR.consv hv154 (o55.flat).ro (VcR.consv hv156 (o71.flat).ro (VcR.consv hv158 (o78.flat).ro VcR.nil))))))) rfl (by omega) (by(simp only[List.length_set,List.length_append,List.length_cons,List.length_nil,List.length_replicate,List.length_map,List.length_take,List.length_drop];omega))) (xv 8 [7,6,5,4,3,2,1,0] rfl (bb ao rfl (cX hv148 o163 rfl)) (aD 9 rfl (by kernel_rfl) rfl ?_))
      obtain⟨c177,hv178⟩:=f5 (u:=v34) (aZ o35.flat)
      refine aw (α:=Vc) g159 (is 15) (is 15) (15,0) rfl [c177] c5 ao (by decide) (by decide) (vs:=[(0,v34)]) rfl rfl (.cons (e8 hv178 (bf o35.flat)) .nil) ?_
      intro g179 w180 v181 ch182 o183
      refine aD 10 rfl (by kernel_rfl) rfl ?_
      replace o35:=o35.cn ch182
      refine da hv178 (α:=Int) (xss:=([])) (i:=16) (γ:=g179) c5 ao rfl rfl rfl bN.nil (o183.flat) o35 rfl (by decide) (by(simp;done)) ?_
      intro g184 w185 v186 ch187 o188 r189
      clear o35
      replace o188:bN g184 16 w185 v186 [((ax t).1).1]:=o188
      refine xp (v:=vp b103 0) 11 rfl (λw=>ad rfl) (xp 12 rfl (λw=>a7 e6 rfl rfl rfl rfl) (aD 13 rfl (by kernel_rfl) rfl ?_))
      replace bx173:=(bx173.cn ch182).chg ch187 (fO rfl rfl)
      refine bj (cs':=[v186,vi (0+(min (b7 v34:Int) ((List.length (((ax t).1).1):Int)+2000)))]) aN rfl rfl bx173 (bf o188.sl) nq (aZ o188.sl) rfl ?_
      intro w190 ch191 bx192
      clear bx173
      refine bc (by kernel_rfl) (aq ?_)
      clear o183
      have C194:=cg [5,13,16] (ch182.n.seq ((ch187.lx rfl rfl).seq (ch191.l rfl)))
      have C193:=ch162.n.seq (ch164.n.seq (hc169.n.seq ((ch172.l rfl).seq (ch174.n.seq C194))))
      refine mid_j8 (v186,[((ax t).1).1],0+(min (b7 v34:Int) ((List.length (((ax t).1).1):Int)+2000)),g184) _ _ ⟨bH.ca C193,rfl,rfl,rfl,Rt.ca C193,r_t_v1.ca C193,o16.ca C193,o18.ca C193,r189.chg ch191 (bR rfl rfl),o37.ca C194,bx47.ca C193,o53.ca C194,o55.ca C194,bx65.ca C193,o71.ca C194,o78.ca C194,bx192,o163.ca C194,o188.ce ch191,?_⟩
      show cA ([((ax t).1).1]) (0+(min (b7 v34:Int) ((List.length (((ax t).1).1):Int)+2000)))
      exact cA.one (by omega) (by omega) (by omega)
     refine am rfl (df p4_c1) (au (aq ?_))
     replace o35:=o35.cn hc169
     refine mid_j8 (vn,[],0,g159) _ _ ⟨bH.ca C170,rfl,rfl,rfl,Rt.ca C170,r_t_v1.ca C170,o16.ca C170,o18.ca C170,o35.slk,o37.cn hc169,bx47.ca C170,o53.cn hc169,o55.cn hc169,bx65.ca C170,o71.cn hc169,o78.cn hc169,bx105,o163.cn hc169,bN.nil,?_⟩
     show cA ([]) 0
     exact cA.nil
    refine ag (wn (df q25_c1)) (ag (wn (df q25_c1)) (ag (wn (df q25_c1)) (ag (wn (df q25_c1)) (ag (wn (df q25_c1)) (ag (wn (df q25_c1)) (ag (wn (df q25_c1)) (lw (vb false) (aH rfl (df q25_c1) rfl) (af (am rfl rfl ?_)))))))))
    refine au (aq ?_)
    have C195:=cg [] (ch162.n.seq (ch164.n.seq hc169.n))
    replace o35:=o35.cn hc169
    refine mid_j8 (vn,[],0,g159) _ _ ⟨bH.ca C195,rfl,rfl,rfl,Rt.ca C195,r_t_v1.ca C195,o16.ca C195,o18.ca C195,o35.slk,o37.cn hc169,bx47.ca C195,o53.cn hc169,o55.cn hc169,bx65.ca C195,o71.cn hc169,o78.cn hc169,bx105.ca C195,o163.cn hc169,bN.nil,?_⟩
    show cA ([]) 0
    exact cA.nil
   clear Rt r_t_v1 o16 o18 o35 o37 bx47 o53 o55 bx65 o71 o78 bx105 o163 bH
   rintro⟨b_0_j8_v,b_0_j8,b_1_j8,g198⟩ f196 w197 ⟨bH,z199_0,z199_1,z199_4,Rt,r_t_v1,o16,o18,o35,o37,bx47,o53,o55,bx65,o71,o78,bx105,o163,o_b_0_j8,hj_j8⟩
   obtain⟨hja_j8,hjb_j8,hjc_j8⟩:=hj_j8.len
   refine a6 rfl (mz z199_4 (lx (aP (m:=0) (n:=1) rfl rfl (by omega)) (ai 1 (af (dy (a9 (a9 (a6 rfl (mi 1 (mz z199_1 (lx (ba c5 rfl o163.flat) ?_)))))))))))
   refine lx (bo (m:=1) (n:=6) rfl rfl) (af (aj rfl rfl (au (a9 (av (a9 ?_))))))
   refine eW [false,true,false,false,false] (σ:=Value×eZ×Int×aG) (λ⟨b_0_j9_v,b_0_j9,b_1_j9,gq⟩ f w=>b9 w0 gq w/\f 0=vp b103 0/\f 1=v161/\f 4=vi 1/\Sl gq (is 0) w t_v t.2.1/\Sl gq (is 0) w t_v1 t.2.2/\Ow gq (is 2) (is 2) w (db v15) (t.2.1++[((-7:Int),(0:Int),(0:Int),(0:Int))])/\Ow gq (is 3) (is 3) w (db v17) (t.2.2++[(-7:Int)])/\Sl gq (gr 5 16) w v34 (((ax t).1).1)/\Sl gq (gr 6 16) w v36 ((((ax t).1).2).1)/\Bx gq (is 7) w b42 [v34,v36,vi ((((ax t).1).2).2)]/\Ow gq (is 8) (is 8) w v52 (((ax t).1).1)/\Ow gq (is 9) (is 9) w v54 ((((ax t).1).2).1)/\Bx gq (is 10) w b60 [v52,v54,vi ((((ax t).1).2).2)]/\Ow gq (is 11) (is 11) w v70 ((aS t).1)/\Ow gq (is 12) (is 12) w v77 ((aS t).1)/\Bx gq (is 13) w b103 [b_0_j9_v,vi b_1_j9]/\Ow gq (is 14) (is 14) w v161 ([c147,c149,c151,c153,c155,c157])/\bN gq 16 w b_0_j9_v b_0_j9/\(cA b_0_j9 b_1_j9)) ?_ ?_
   ·
    intro mid_j9
    refine bt g198 rfl cx (by kernel_rfl) ?_
    intro w201 ch200
    refine qz z199_1 (qm (vi 1) ?_)
    replace o78:=o78.cn ch200
    replace o71:=o71.cn ch200
    replace o55:=o55.cn ch200
    replace o53:=o53.cn ch200
    replace o37:=o37.cn ch200
    replace o35:=o35.cn ch200
    replace o163:=o163.cn ch200
    refine qx (λw' hw'=>aa (v:=v161) (i:=1) c5 rfl rfl ((dM o163 (VcR.consv hv148 (o35).ro (VcR.consv hv150 (o37.flat).ro (VcR.consv hv152 (o53.flat).ro (VcR.consv hv154 (o55.flat).ro (VcR.consv hv156 (o71.flat).ro (VcR.consv hv158 (o78.flat).ro VcR.nil))))))).bel hw') rfl (by omega) (by(simp only[List.length_set,List.length_append,List.length_cons,List.length_nil,List.length_replicate,List.length_map,List.length_take,List.length_drop];omega))) (qx (λw' hw'=>bb ao rfl (cX hv150 (o163.bel hw') rfl)) ?_)
    have len202:=(o37.flat).small
    refine qx (λw' hw'=>ba aW rfl (o37.flat.bel hw')) (qz z199_1 (qm (vi 1) (qx (λw' hw'=>aa (v:=v161) (i:=1) c5 rfl rfl ((dM o163 (VcR.consv hv148 (o35).ro (VcR.consv hv150 (o37.flat).ro (VcR.consv hv152 (o53.flat).ro (VcR.consv hv154 (o55.flat).ro (VcR.consv hv156 (o71.flat).ro (VcR.consv hv158 (o78.flat).ro VcR.nil))))))).bel hw') rfl (by omega) (by(simp only[List.length_set,List.length_append,List.length_cons,List.length_nil,List.length_replicate,List.length_map,List.length_take,List.length_drop];omega))) (qx (λw' hw'=>bb ao rfl (cX hv150 (o163.bel hw') rfl)) ?_))))
    have cap203:=Sl.cap o37.flat
    refine qv (vi (b7 v36:Int)) (λw' hw'=>ic aW rfl (o37.flat.bel hw')) (dJ (v:=vi (min (b7 v36:Int) ((List.length ((((ax t).1).2).1):Int)+2000))) rfl (λw' hw'=>aU (vals:=[vi (List.length ((((ax t).1).2).1):Int),vi (b7 v36:Int)]) Try.func28 eA eD rfl) (λw' hw'=>(ex w' (List.length ((((ax t).1).2).1):Int) (b7 v36:Int) (by omega)).mono λe w2 h2=>⟨h2.1,hw'.trans (h2.2.mono hw'.size)⟩) (qv (vi (min (b7 v36:Int) ((List.length ((((ax t).1).2).1):Int)+2000))) (λw' hw'=>bD rfl) (bX ?_)))
    intro w204 hc205
    replace hc205:=aB hc205 g198
    refine a9 (a6 rfl (mi (min (b7 v36:Int) ((List.length ((((ax t).1).2).1):Int)+2000)) (lx (bY (m:=min (b7 v36:Int) ((List.length ((((ax t).1).2).1):Int)+2000)) (n:=0) rfl rfl) (mv (vb (decide (0<(min (b7 v36:Int) ((List.length ((((ax t).1).2).1):Int)+2000))))) ?_))))
    by_cases q25_c1:0<(min (b7 v36:Int) ((List.length ((((ax t).1).2).1):Int)+2000))
    ·
     refine lv (vp b103 0) (wy (dt q25_c1)) (ah z199_0) (lv (vp b103 0) (wy (dt q25_c1)) (ad rfl) (lv (vp b103 1) (wy (dt q25_c1)) (a7 e6 rfl rfl rfl rfl) ?_))
     replace bx105:=(bx105.cn ch200).cn hc205
     refine lv (vi b_1_j8) (wy (dt q25_c1)) (a8 ae rfl bx105 rfl) (lv (vi (min (b7 v36:Int) ((List.length ((((ax t).1).2).1):Int)+2000))) (wy (dt q25_c1)) (ah rfl) (lv (vi (b_1_j8+(min (b7 v36:Int) ((List.length ((((ax t).1).2).1):Int)+2000)))) (wy (dt q25_c1)) (aP (m:=b_1_j8) (n:=min (b7 v36:Int) ((List.length ((((ax t).1).2).1):Int)+2000)) rfl rfl (by omega)) (lv (vb (decide ((b_1_j8+(min (b7 v36:Int) ((List.length ((((ax t).1).2).1):Int)+2000)))<=1048576))) (wy (dt q25_c1)) (fB (m:=b_1_j8+(min (b7 v36:Int) ((List.length ((((ax t).1).2).1):Int)+2000))) (n:=1048576) rfl rfl) ?_)))
     refine lw (vb (decide ((b_1_j8+(min (b7 v36:Int) ((List.length ((((ax t).1).2).1):Int)+2000)))<=1048576))) (az rfl (dt q25_c1) rfl) (af ?_)
     by_cases p4_c1:(b_1_j8+(min (b7 v36:Int) ((List.length ((((ax t).1).2).1):Int)+2000)))<=1048576
     ·
      refine aj rfl (dt p4_c1) (a9 (a6 rfl (mz z199_0 (mz z199_0 (lw (vp b103 0) (ad rfl) (lx (a7 e6 rfl rfl rfl rfl) (lx (a8 ae rfl bx105 rfl) (mi (min (b7 v36:Int) ((List.length ((((ax t).1).2).1):Int)+2000)) (lx (aP (m:=b_1_j8) (n:=min (b7 v36:Int) ((List.length ((((ax t).1).2).1):Int)+2000)) rfl rfl (by omega)) (lw (vp b103 0) (ad rfl) ?_))))))))))
      refine lx (a7 e6 rfl rfl rfl rfl) (lo (aR (cs':=[b_0_j8_v,vi (b_1_j8+(min (b7 v36:Int) ((List.length ((((ax t).1).2).1):Int)+2000)))]) ae rfl rfl bx105 rfl nq (AllOne.all (.cons rfl .nil)) rfl ?_))
      intro w206 ch207 bx208
      clear bx105
      refine af (aL g198 [0,1,2,3,4,5,6,7,8,11,12] cx ?_)
      intro w210 ch209
      refine xp (v:=vp b103 0) 0 rfl (λw=>ah z199_0) (xp (v:=vp b103 0) 1 rfl (λw=>ah z199_0) (xp (v:=vp b103 0) 2 rfl (λw=>ad rfl) (xp 3 rfl (λw=>a7 e6 rfl rfl rfl rfl) ?_)))
      replace bx208:=bx208.cn ch209
      refine xh 4 [3,2,1,0,5,6,7,8,9] rfl (λw' hw'=>a8 aN rfl (bx208.bel hw') rfl) (xp (v:=v161) 5 rfl (λw=>ah z199_1) (xp (v:=vi 1) 6 rfl (λw=>ah rfl) ?_))
      have C211:=cg [13] (hc205.n.seq ((ch207.l rfl).seq ch209.n))
      replace o78:=o78.ca C211
      replace o71:=o71.ca C211
      replace o55:=o55.ca C211
      replace o53:=o53.ca C211
      replace o37:=o37.ca C211
      replace o35:=((o35.cn hc205).chg ch207 (bR rfl rfl)).cn ch209
      replace o163:=o163.ca C211
      refine xv 7 [6,5,4,3,2,1,0] rfl (aa (v:=v161) (i:=1) c5 rfl rfl (dM o163 (VcR.consv hv148 (o35).ro (VcR.consv hv150 (o37.flat).ro (VcR.consv hv152 (o53.flat).ro (VcR.consv hv154 (o55.flat).ro (VcR.consv hv156 (o71.flat).ro (VcR.consv hv158 (o78.flat).ro VcR.nil))))))) rfl (by omega) (by(simp only[List.length_set,List.length_append,List.length_cons,List.length_nil,List.length_replicate,List.length_map,List.length_take,List.length_drop];omega))) (xv 8 [7,6,5,4,3,2,1,0] rfl (bb ao rfl (cX hv150 o163 rfl)) (aD 9 rfl (by kernel_rfl) rfl ?_))
      obtain⟨c212,hv213⟩:=f5 (u:=v36) (aZ o37.flat)
      refine aw (α:=Vc) g198 (is 15) (is 15) (15,0) rfl [c212] c5 ao (by decide) (by decide) (vs:=[(0,v36)]) rfl rfl (.cons (e8 hv213 (bf o37.flat)) .nil) ?_
      intro g214 w215 v216 ch217 o218
      refine aD 10 rfl (by kernel_rfl) rfl ?_
      have C219:=cg [13] (ch200.n.seq (hc205.n.seq ((ch207.l rfl).seq (ch209.n.seq ch217.n))))
      replace o_b_0_j8:=o_b_0_j8.ca C219
      replace o37:=o37.cn ch217
      refine da hv213 (α:=Int) (xss:=b_0_j8) (i:=16) (γ:=g214) c5 ao rfl rfl rfl o_b_0_j8 (o218.flat) o37 rfl (by decide) (by omega) ?_
      intro g220 w221 v222 ch223 o224 r225
      clear o37 o_b_0_j8
      refine xp (v:=vp b103 0) 11 rfl (λw=>ad rfl) (xp 12 rfl (λw=>a7 e6 rfl rfl rfl rfl) (aD 13 rfl (by kernel_rfl) rfl ?_))
      replace bx208:=(bx208.cn ch217).chg ch223 (fO rfl rfl)
      refine bj (cs':=[v222,vi (b_1_j8+(min (b7 v36:Int) ((List.length ((((ax t).1).2).1):Int)+2000)))]) aN rfl rfl bx208 (bf o224.sl) nq (aZ o224.sl) rfl ?_
      intro w226 ch227 bx228
      clear bx208
      refine bc (by kernel_rfl) (aq ?_)
      clear o218
      have C230:=cg [6,13,16] (ch217.n.seq ((ch223.lx rfl rfl).seq (ch227.l rfl)))
      have C229:=ch200.n.seq (hc205.n.seq ((ch207.l rfl).seq (ch209.n.seq C230)))
      refine mid_j9 (v222,(b_0_j8++[(((ax t).1).2).1]),b_1_j8+(min (b7 v36:Int) ((List.length ((((ax t).1).2).1):Int)+2000)),g220) _ _ ⟨bH.ca C229,z199_0,z199_1,rfl,Rt.ca C229,r_t_v1.ca C229,o16.ca C229,o18.ca C229,((o35.cn ch217).chg ch223 (cU rfl rfl rfl)).chg ch227 (bR rfl rfl),r225.chg ch227 (bR rfl rfl),bx47.ca C229,o53.ca C230,o55.ca C230,bx65.ca C229,o71.ca C230,o78.ca C230,bx228,o163.ca C230,o224.ce ch227,?_⟩
      show cA (b_0_j8++[(((ax t).1).2).1]) (b_1_j8+(min (b7 v36:Int) ((List.length ((((ax t).1).2).1):Int)+2000)))
      exact(cA.add ‹_› (by omega) (by omega) (by omega))
     refine am rfl (df p4_c1) (au (aq ?_))
     replace bH:=bH.cn ch200
     replace o37:=o37.cn hc205
     refine mid_j9 (b_0_j8_v,b_0_j8,b_1_j8,g198) _ _ ⟨bH.cn hc205,z199_0,z199_1,rfl,(Rt.cn ch200).cn hc205,(r_t_v1.cn ch200).cn hc205,(o16.cn ch200).cn hc205,(o18.cn ch200).cn hc205,o35.cn hc205,o37.slk,(bx47.cn ch200).cn hc205,o53.cn hc205,o55.cn hc205,(bx65.cn ch200).cn hc205,o71.cn hc205,o78.cn hc205,bx105,o163.cn hc205,(o_b_0_j8.cn ch200).cn hc205,?_⟩
     show cA b_0_j8 b_1_j8
     assumption
    refine ag (wn (df q25_c1)) (ag (wn (df q25_c1)) (ag (wn (df q25_c1)) (ag (wn (df q25_c1)) (ag (wn (df q25_c1)) (ag (wn (df q25_c1)) (ag (wn (df q25_c1)) (lw (vb false) (aH rfl (df q25_c1) rfl) (af (am rfl rfl ?_)))))))))
    refine au (aq ?_)
    replace bH:=bH.cn ch200
    replace o37:=o37.cn hc205
    refine mid_j9 (b_0_j8_v,b_0_j8,b_1_j8,g198) _ _ ⟨bH.cn hc205,z199_0,z199_1,rfl,(Rt.cn ch200).cn hc205,(r_t_v1.cn ch200).cn hc205,(o16.cn ch200).cn hc205,(o18.cn ch200).cn hc205,o35.cn hc205,o37.slk,(bx47.cn ch200).cn hc205,o53.cn hc205,o55.cn hc205,(bx65.cn ch200).cn hc205,o71.cn hc205,o78.cn hc205,(bx105.cn ch200).cn hc205,o163.cn hc205,(o_b_0_j8.cn ch200).cn hc205,?_⟩
    show cA b_0_j8 b_1_j8
    assumption
   clear Rt r_t_v1 o16 o18 o35 o37 bx47 o53 o55 bx65 o71 o78 bx105 o163 o_b_0_j8 bH
   rintro⟨b_0_j9_v,b_0_j9,b_1_j9,g233⟩ f231 w232 ⟨bH,z234_0,z234_1,z234_4,Rt,r_t_v1,o16,o18,o35,o37,bx47,o53,o55,bx65,o71,o78,bx105,o163,o_b_0_j9,hj_j9⟩
   obtain⟨hja_j9,hjb_j9,hjc_j9⟩:=hj_j9.len
   refine a6 rfl (mz z234_4 (lx (aP (m:=1) (n:=1) rfl rfl (by omega)) (ai 2 (af (dy (a9 (a9 (a6 rfl (mi 2 (mz z234_1 (lx (ba c5 rfl o163.flat) ?_)))))))))))
   refine lx (bo (m:=2) (n:=6) rfl rfl) (af (aj rfl rfl (au (a9 (av (a9 ?_))))))
   refine eW [false,true,false,false,false] (σ:=Value×eZ×Int×aG) (λ⟨b_0_j10_v,b_0_j10,b_1_j10,gq⟩ f w=>b9 w0 gq w/\f 0=vp b103 0/\f 1=v161/\f 4=vi 2/\Sl gq (is 0) w t_v t.2.1/\Sl gq (is 0) w t_v1 t.2.2/\Ow gq (is 2) (is 2) w (db v15) (t.2.1++[((-7:Int),(0:Int),(0:Int),(0:Int))])/\Ow gq (is 3) (is 3) w (db v17) (t.2.2++[(-7:Int)])/\Sl gq (gr 5 16) w v34 (((ax t).1).1)/\Sl gq (gr 6 16) w v36 ((((ax t).1).2).1)/\Bx gq (is 7) w b42 [v34,v36,vi ((((ax t).1).2).2)]/\Sl gq (gr 8 16) w v52 (((ax t).1).1)/\Ow gq (is 9) (is 9) w v54 ((((ax t).1).2).1)/\Bx gq (is 10) w b60 [v52,v54,vi ((((ax t).1).2).2)]/\Ow gq (is 11) (is 11) w v70 ((aS t).1)/\Ow gq (is 12) (is 12) w v77 ((aS t).1)/\Bx gq (is 13) w b103 [b_0_j10_v,vi b_1_j10]/\Ow gq (is 14) (is 14) w v161 ([c147,c149,c151,c153,c155,c157])/\bN gq 16 w b_0_j10_v b_0_j10/\(cA b_0_j10 b_1_j10)) ?_ ?_
   ·
    intro mid_j10
    refine bt g233 rfl cx (by kernel_rfl) ?_
    intro w236 ch235
    refine qz z234_1 (qm (vi 2) ?_)
    replace o78:=o78.cn ch235
    replace o71:=o71.cn ch235
    replace o55:=o55.cn ch235
    replace o53:=o53.cn ch235
    replace o37:=o37.cn ch235
    replace o35:=o35.cn ch235
    replace o163:=o163.cn ch235
    refine qx (λw' hw'=>aa (v:=v161) (i:=2) c5 rfl rfl ((dM o163 (VcR.consv hv148 (o35).ro (VcR.consv hv150 (o37).ro (VcR.consv hv152 (o53.flat).ro (VcR.consv hv154 (o55.flat).ro (VcR.consv hv156 (o71.flat).ro (VcR.consv hv158 (o78.flat).ro VcR.nil))))))).bel hw') rfl (by omega) (by(simp only[List.length_set,List.length_append,List.length_cons,List.length_nil,List.length_replicate,List.length_map,List.length_take,List.length_drop];omega))) (qx (λw' hw'=>bb ao rfl (cX hv152 (o163.bel hw') rfl)) ?_)
    have len237:=(o53.flat).small
    refine qx (λw' hw'=>ba aW rfl (o53.flat.bel hw')) (qz z234_1 (qm (vi 2) (qx (λw' hw'=>aa (v:=v161) (i:=2) c5 rfl rfl ((dM o163 (VcR.consv hv148 (o35).ro (VcR.consv hv150 (o37).ro (VcR.consv hv152 (o53.flat).ro (VcR.consv hv154 (o55.flat).ro (VcR.consv hv156 (o71.flat).ro (VcR.consv hv158 (o78.flat).ro VcR.nil))))))).bel hw') rfl (by omega) (by(simp only[List.length_set,List.length_append,List.length_cons,List.length_nil,List.length_replicate,List.length_map,List.length_take,List.length_drop];omega))) (qx (λw' hw'=>bb ao rfl (cX hv152 (o163.bel hw') rfl)) ?_))))
    have cap238:=Sl.cap o53.flat
    refine qv (vi (b7 v52:Int)) (λw' hw'=>ic aW rfl (o53.flat.bel hw')) (dJ (v:=vi (min (b7 v52:Int) ((List.length (((ax t).1).1):Int)+2000))) rfl (λw' hw'=>aU (vals:=[vi (List.length (((ax t).1).1):Int),vi (b7 v52:Int)]) Try.func28 eA eD rfl) (λw' hw'=>(ex w' (List.length (((ax t).1).1):Int) (b7 v52:Int) (by omega)).mono λe w2 h2=>⟨h2.1,hw'.trans (h2.2.mono hw'.size)⟩) (qv (vi (min (b7 v52:Int) ((List.length (((ax t).1).1):Int)+2000))) (λw' hw'=>bD rfl) (bX ?_)))
    intro w239 hc240
    replace hc240:=aB hc240 g233
    refine a9 (a6 rfl (mi (min (b7 v52:Int) ((List.length (((ax t).1).1):Int)+2000)) (lx (bY (m:=min (b7 v52:Int) ((List.length (((ax t).1).1):Int)+2000)) (n:=0) rfl rfl) (mv (vb (decide (0<(min (b7 v52:Int) ((List.length (((ax t).1).1):Int)+2000))))) ?_))))
    by_cases q25_c1:0<(min (b7 v52:Int) ((List.length (((ax t).1).1):Int)+2000))
    ·
     refine lv (vp b103 0) (wy (dt q25_c1)) (ah z234_0) (lv (vp b103 0) (wy (dt q25_c1)) (ad rfl) (lv (vp b103 1) (wy (dt q25_c1)) (a7 e6 rfl rfl rfl rfl) ?_))
     replace bx105:=(bx105.cn ch235).cn hc240
     refine lv (vi b_1_j9) (wy (dt q25_c1)) (a8 ae rfl bx105 rfl) (lv (vi (min (b7 v52:Int) ((List.length (((ax t).1).1):Int)+2000))) (wy (dt q25_c1)) (ah rfl) (lv (vi (b_1_j9+(min (b7 v52:Int) ((List.length (((ax t).1).1):Int)+2000)))) (wy (dt q25_c1)) (aP (m:=b_1_j9) (n:=min (b7 v52:Int) ((List.length (((ax t).1).1):Int)+2000)) rfl rfl (by omega)) (lv (vb (decide ((b_1_j9+(min (b7 v52:Int) ((List.length (((ax t).1).1):Int)+2000)))<=1048576))) (wy (dt q25_c1)) (fB (m:=b_1_j9+(min (b7 v52:Int) ((List.length (((ax t).1).1):Int)+2000))) (n:=1048576) rfl rfl) ?_)))
     refine lw (vb (decide ((b_1_j9+(min (b7 v52:Int) ((List.length (((ax t).1).1):Int)+2000)))<=1048576))) (az rfl (dt q25_c1) rfl) (af ?_)
     by_cases p4_c1:(b_1_j9+(min (b7 v52:Int) ((List.length (((ax t).1).1):Int)+2000)))<=1048576
     ·
      refine aj rfl (dt p4_c1) (a9 (a6 rfl (mz z234_0 (mz z234_0 (lw (vp b103 0) (ad rfl) (lx (a7 e6 rfl rfl rfl rfl) (lx (a8 ae rfl bx105 rfl) (mi (min (b7 v52:Int) ((List.length (((ax t).1).1):Int)+2000)) (lx (aP (m:=b_1_j9) (n:=min (b7 v52:Int) ((List.length (((ax t).1).1):Int)+2000)) rfl rfl (by omega)) (lw (vp b103 0) (ad rfl) ?_))))))))))
      refine lx (a7 e6 rfl rfl rfl rfl) (lo (aR (cs':=[b_0_j9_v,vi (b_1_j9+(min (b7 v52:Int) ((List.length (((ax t).1).1):Int)+2000)))]) ae rfl rfl bx105 rfl nq (AllOne.all (.cons rfl .nil)) rfl ?_))
      intro w241 ch242 bx243
      clear bx105
      refine af (aL g233 [0,1,2,3,4,5,6,7,8,11,12] cx ?_)
      intro w245 ch244
      refine xp (v:=vp b103 0) 0 rfl (λw=>ah z234_0) (xp (v:=vp b103 0) 1 rfl (λw=>ah z234_0) (xp (v:=vp b103 0) 2 rfl (λw=>ad rfl) (xp 3 rfl (λw=>a7 e6 rfl rfl rfl rfl) ?_)))
      replace bx243:=bx243.cn ch244
      refine xh 4 [3,2,1,0,5,6,7,8,9] rfl (λw' hw'=>a8 aN rfl (bx243.bel hw') rfl) (xp (v:=v161) 5 rfl (λw=>ah z234_1) (xp (v:=vi 2) 6 rfl (λw=>ah rfl) ?_))
      have C246:=cg [13] (hc240.n.seq ((ch242.l rfl).seq ch244.n))
      replace o78:=o78.ca C246
      replace o71:=o71.ca C246
      replace o55:=o55.ca C246
      replace o53:=o53.ca C246
      replace o37:=((o37.cn hc240).chg ch242 (bR rfl rfl)).cn ch244
      replace o35:=((o35.cn hc240).chg ch242 (bR rfl rfl)).cn ch244
      replace o163:=o163.ca C246
      refine xv 7 [6,5,4,3,2,1,0] rfl (aa (v:=v161) (i:=2) c5 rfl rfl (dM o163 (VcR.consv hv148 (o35).ro (VcR.consv hv150 (o37).ro (VcR.consv hv152 (o53.flat).ro (VcR.consv hv154 (o55.flat).ro (VcR.consv hv156 (o71.flat).ro (VcR.consv hv158 (o78.flat).ro VcR.nil))))))) rfl (by omega) (by(simp only[List.length_set,List.length_append,List.length_cons,List.length_nil,List.length_replicate,List.length_map,List.length_take,List.length_drop];omega))) (xv 8 [7,6,5,4,3,2,1,0] rfl (bb ao rfl (cX hv152 o163 rfl)) (aD 9 rfl (by kernel_rfl) rfl ?_))
      obtain⟨c247,hv248⟩:=f5 (u:=v52) (aZ o53.flat)
      refine aw (α:=Vc) g233 (is 15) (is 15) (15,0) rfl [c247] c5 ao (by decide) (by decide) (vs:=[(0,v52)]) rfl rfl (.cons (e8 hv248 (bf o53.flat)) .nil) ?_
      intro g249 w250 v251 ch252 o253
      refine aD 10 rfl (by kernel_rfl) rfl ?_
      have C254:=cg [13] (ch235.n.seq (hc240.n.seq ((ch242.l rfl).seq (ch244.n.seq ch252.n))))
      replace o_b_0_j9:=o_b_0_j9.ca C254
      replace o53:=o53.cn ch252
      refine da hv248 (α:=Int) (xss:=b_0_j9) (i:=16) (γ:=g249) c5 ao rfl rfl rfl o_b_0_j9 (o253.flat) o53 rfl (by decide) (by omega) ?_
      intro g255 w256 v257 ch258 o259 r260
      clear o53 o_b_0_j9
      refine xp (v:=vp b103 0) 11 rfl (λw=>ad rfl) (xp 12 rfl (λw=>a7 e6 rfl rfl rfl rfl) (aD 13 rfl (by kernel_rfl) rfl ?_))
      replace bx243:=(bx243.cn ch252).chg ch258 (fO rfl rfl)
      refine bj (cs':=[v257,vi (b_1_j9+(min (b7 v52:Int) ((List.length (((ax t).1).1):Int)+2000)))]) aN rfl rfl bx243 (bf o259.sl) nq (aZ o259.sl) rfl ?_
      intro w261 ch262 bx263
      clear bx243
      refine bc (by kernel_rfl) (aq ?_)
      clear o253
      have C265:=cg [8,13,16] (ch252.n.seq ((ch258.lx rfl rfl).seq (ch262.l rfl)))
      have C264:=ch235.n.seq (hc240.n.seq ((ch242.l rfl).seq (ch244.n.seq C265)))
      refine mid_j10 (v257,(b_0_j9++[((ax t).1).1]),b_1_j9+(min (b7 v52:Int) ((List.length (((ax t).1).1):Int)+2000)),g255) _ _ ⟨bH.ca C264,z234_0,z234_1,rfl,Rt.ca C264,r_t_v1.ca C264,o16.ca C264,o18.ca C264,((o35.cn ch252).chg ch258 (cU rfl rfl rfl)).chg ch262 (bR rfl rfl),((o37.cn ch252).chg ch258 (cU rfl rfl rfl)).chg ch262 (bR rfl rfl),bx47.ca C264,r260.chg ch262 (bR rfl rfl),o55.ca C265,bx65.ca C264,o71.ca C265,o78.ca C265,bx263,o163.ca C265,o259.ce ch262,?_⟩
      show cA (b_0_j9++[((ax t).1).1]) (b_1_j9+(min (b7 v52:Int) ((List.length (((ax t).1).1):Int)+2000)))
      exact(cA.add ‹_› (by omega) (by omega) (by omega))
     refine am rfl (df p4_c1) (au (aq ?_))
     replace bH:=bH.cn ch235
     replace o53:=o53.cn hc240
     refine mid_j10 (b_0_j9_v,b_0_j9,b_1_j9,g233) _ _ ⟨bH.cn hc240,z234_0,z234_1,rfl,(Rt.cn ch235).cn hc240,(r_t_v1.cn ch235).cn hc240,(o16.cn ch235).cn hc240,(o18.cn ch235).cn hc240,o35.cn hc240,o37.cn hc240,(bx47.cn ch235).cn hc240,o53.slk,o55.cn hc240,(bx65.cn ch235).cn hc240,o71.cn hc240,o78.cn hc240,bx105,o163.cn hc240,(o_b_0_j9.cn ch235).cn hc240,?_⟩
     show cA b_0_j9 b_1_j9
     assumption
    refine ag (wn (df q25_c1)) (ag (wn (df q25_c1)) (ag (wn (df q25_c1)) (ag (wn (df q25_c1)) (ag (wn (df q25_c1)) (ag (wn (df q25_c1)) (ag (wn (df q25_c1)) (lw (vb false) (aH rfl (df q25_c1) rfl) (af (am rfl rfl ?_)))))))))
    refine au (aq ?_)
    replace bH:=bH.cn ch235
    replace o53:=o53.cn hc240
    refine mid_j10 (b_0_j9_v,b_0_j9,b_1_j9,g233) _ _ ⟨bH.cn hc240,z234_0,z234_1,rfl,(Rt.cn ch235).cn hc240,(r_t_v1.cn ch235).cn hc240,(o16.cn ch235).cn hc240,(o18.cn ch235).cn hc240,o35.cn hc240,o37.cn hc240,(bx47.cn ch235).cn hc240,o53.slk,o55.cn hc240,(bx65.cn ch235).cn hc240,o71.cn hc240,o78.cn hc240,(bx105.cn ch235).cn hc240,o163.cn hc240,(o_b_0_j9.cn ch235).cn hc240,?_⟩
    show cA b_0_j9 b_1_j9
    assumption
   clear Rt r_t_v1 o16 o18 o35 o37 bx47 o53 o55 bx65 o71 o78 bx105 o163 o_b_0_j9 bH
   rintro⟨b_0_j10_v,b_0_j10,b_1_j10,g268⟩ f266 w267 ⟨bH,z269_0,z269_1,z269_4,Rt,r_t_v1,o16,o18,o35,o37,bx47,o53,o55,bx65,o71,o78,bx105,o163,o_b_0_j10,hj_j10⟩
   obtain⟨hja_j10,hjb_j10,hjc_j10⟩:=hj_j10.len
   refine a6 rfl (mz z269_4 (lx (aP (m:=2) (n:=1) rfl rfl (by omega)) (ai 3 (af (dy (a9 (a9 (a6 rfl (mi 3 (mz z269_1 (lx (ba c5 rfl o163.flat) ?_)))))))))))
   refine lx (bo (m:=3) (n:=6) rfl rfl) (af (aj rfl rfl (au (a9 (av (a9 ?_))))))
   refine eW [false,true,false,false,false] (σ:=Value×eZ×Int×aG) (λ⟨b_0_j11_v,b_0_j11,b_1_j11,gq⟩ f w=>b9 w0 gq w/\f 0=vp b103 0/\f 1=v161/\f 4=vi 3/\Sl gq (is 0) w t_v t.2.1/\Sl gq (is 0) w t_v1 t.2.2/\Ow gq (is 2) (is 2) w (db v15) (t.2.1++[((-7:Int),(0:Int),(0:Int),(0:Int))])/\Ow gq (is 3) (is 3) w (db v17) (t.2.2++[(-7:Int)])/\Sl gq (gr 5 16) w v34 (((ax t).1).1)/\Sl gq (gr 6 16) w v36 ((((ax t).1).2).1)/\Bx gq (is 7) w b42 [v34,v36,vi ((((ax t).1).2).2)]/\Sl gq (gr 8 16) w v52 (((ax t).1).1)/\Sl gq (gr 9 16) w v54 ((((ax t).1).2).1)/\Bx gq (is 10) w b60 [v52,v54,vi ((((ax t).1).2).2)]/\Ow gq (is 11) (is 11) w v70 ((aS t).1)/\Ow gq (is 12) (is 12) w v77 ((aS t).1)/\Bx gq (is 13) w b103 [b_0_j11_v,vi b_1_j11]/\Ow gq (is 14) (is 14) w v161 ([c147,c149,c151,c153,c155,c157])/\bN gq 16 w b_0_j11_v b_0_j11/\(cA b_0_j11 b_1_j11)) ?_ ?_
   ·
    intro mid_j11
    refine bt g268 rfl cx (by kernel_rfl) ?_
    intro w271 ch270
    refine qz z269_1 (qm (vi 3) ?_)
    replace o78:=o78.cn ch270
    replace o71:=o71.cn ch270
    replace o55:=o55.cn ch270
    replace o53:=o53.cn ch270
    replace o37:=o37.cn ch270
    replace o35:=o35.cn ch270
    replace o163:=o163.cn ch270
    refine qx (λw' hw'=>aa (v:=v161) (i:=3) c5 rfl rfl ((dM o163 (VcR.consv hv148 (o35).ro (VcR.consv hv150 (o37).ro (VcR.consv hv152 (o53).ro (VcR.consv hv154 (o55.flat).ro (VcR.consv hv156 (o71.flat).ro (VcR.consv hv158 (o78.flat).ro VcR.nil))))))).bel hw') rfl (by omega) (by(simp only[List.length_set,List.length_append,List.length_cons,List.length_nil,List.length_replicate,List.length_map,List.length_take,List.length_drop];omega))) (qx (λw' hw'=>bb ao rfl (cX hv154 (o163.bel hw') rfl)) ?_)
    have len272:=(o55.flat).small
    refine qx (λw' hw'=>ba aW rfl (o55.flat.bel hw')) (qz z269_1 (qm (vi 3) (qx (λw' hw'=>aa (v:=v161) (i:=3) c5 rfl rfl ((dM o163 (VcR.consv hv148 (o35).ro (VcR.consv hv150 (o37).ro (VcR.consv hv152 (o53).ro (VcR.consv hv154 (o55.flat).ro (VcR.consv hv156 (o71.flat).ro (VcR.consv hv158 (o78.flat).ro VcR.nil))))))).bel hw') rfl (by omega) (by(simp only[List.length_set,List.length_append,List.length_cons,List.length_nil,List.length_replicate,List.length_map,List.length_take,List.length_drop];omega))) (qx (λw' hw'=>bb ao rfl (cX hv154 (o163.bel hw') rfl)) ?_))))
    have cap273:=Sl.cap o55.flat
    refine qv (vi (b7 v54:Int)) (λw' hw'=>ic aW rfl (o55.flat.bel hw')) (dJ (v:=vi (min (b7 v54:Int) ((List.length ((((ax t).1).2).1):Int)+2000))) rfl (λw' hw'=>aU (vals:=[vi (List.length ((((ax t).1).2).1):Int),vi (b7 v54:Int)]) Try.func28 eA eD rfl) (λw' hw'=>(ex w' (List.length ((((ax t).1).2).1):Int) (b7 v54:Int) (by omega)).mono λe w2 h2=>⟨h2.1,hw'.trans (h2.2.mono hw'.size)⟩) (qv (vi (min (b7 v54:Int) ((List.length ((((ax t).1).2).1):Int)+2000))) (λw' hw'=>bD rfl) (bX ?_)))
    intro w274 hc275
    replace hc275:=aB hc275 g268
    refine a9 (a6 rfl (mi (min (b7 v54:Int) ((List.length ((((ax t).1).2).1):Int)+2000)) (lx (bY (m:=min (b7 v54:Int) ((List.length ((((ax t).1).2).1):Int)+2000)) (n:=0) rfl rfl) (mv (vb (decide (0<(min (b7 v54:Int) ((List.length ((((ax t).1).2).1):Int)+2000))))) ?_))))
    by_cases q25_c1:0<(min (b7 v54:Int) ((List.length ((((ax t).1).2).1):Int)+2000))
    ·
     refine lv (vp b103 0) (wy (dt q25_c1)) (ah z269_0) (lv (vp b103 0) (wy (dt q25_c1)) (ad rfl) (lv (vp b103 1) (wy (dt q25_c1)) (a7 e6 rfl rfl rfl rfl) ?_))
     replace bx105:=(bx105.cn ch270).cn hc275
     refine lv (vi b_1_j10) (wy (dt q25_c1)) (a8 ae rfl bx105 rfl) (lv (vi (min (b7 v54:Int) ((List.length ((((ax t).1).2).1):Int)+2000))) (wy (dt q25_c1)) (ah rfl) (lv (vi (b_1_j10+(min (b7 v54:Int) ((List.length ((((ax t).1).2).1):Int)+2000)))) (wy (dt q25_c1)) (aP (m:=b_1_j10) (n:=min (b7 v54:Int) ((List.length ((((ax t).1).2).1):Int)+2000)) rfl rfl (by omega)) (lv (vb (decide ((b_1_j10+(min (b7 v54:Int) ((List.length ((((ax t).1).2).1):Int)+2000)))<=1048576))) (wy (dt q25_c1)) (fB (m:=b_1_j10+(min (b7 v54:Int) ((List.length ((((ax t).1).2).1):Int)+2000))) (n:=1048576) rfl rfl) ?_)))
     refine lw (vb (decide ((b_1_j10+(min (b7 v54:Int) ((List.length ((((ax t).1).2).1):Int)+2000)))<=1048576))) (az rfl (dt q25_c1) rfl) (af ?_)
     by_cases p4_c1:(b_1_j10+(min (b7 v54:Int) ((List.length ((((ax t).1).2).1):Int)+2000)))<=1048576
     ·
      refine aj rfl (dt p4_c1) (a9 (a6 rfl (mz z269_0 (mz z269_0 (lw (vp b103 0) (ad rfl) (lx (a7 e6 rfl rfl rfl rfl) (lx (a8 ae rfl bx105 rfl) (mi (min (b7 v54:Int) ((List.length ((((ax t).1).2).1):Int)+2000)) (lx (aP (m:=b_1_j10) (n:=min (b7 v54:Int) ((List.length ((((ax t).1).2).1):Int)+2000)) rfl rfl (by omega)) (lw (vp b103 0) (ad rfl) ?_))))))))))
      refine lx (a7 e6 rfl rfl rfl rfl) (lo (aR (cs':=[b_0_j10_v,vi (b_1_j10+(min (b7 v54:Int) ((List.length ((((ax t).1).2).1):Int)+2000)))]) ae rfl rfl bx105 rfl nq (AllOne.all (.cons rfl .nil)) rfl ?_))
      intro w276 ch277 bx278
      clear bx105
      refine af (aL g268 [0,1,2,3,4,5,6,7,8,11,12] cx ?_)
      intro w280 ch279
      refine xp (v:=vp b103 0) 0 rfl (λw=>ah z269_0) (xp (v:=vp b103 0) 1 rfl (λw=>ah z269_0) (xp (v:=vp b103 0) 2 rfl (λw=>ad rfl) (xp 3 rfl (λw=>a7 e6 rfl rfl rfl rfl) ?_)))
      replace bx278:=bx278.cn ch279
      refine xh 4 [3,2,1,0,5,6,7,8,9] rfl (λw' hw'=>a8 aN rfl (bx278.bel hw') rfl) (xp (v:=v161) 5 rfl (λw=>ah z269_1) (xp (v:=vi 3) 6 rfl (λw=>ah rfl) ?_))
      have C281:=cg [13] (hc275.n.seq ((ch277.l rfl).seq ch279.n))
      replace o78:=o78.ca C281
      replace o71:=o71.ca C281
      replace o55:=o55.ca C281
      replace o53:=((o53.cn hc275).chg ch277 (bR rfl rfl)).cn ch279
      replace o37:=((o37.cn hc275).chg ch277 (bR rfl rfl)).cn ch279
      replace o35:=((o35.cn hc275).chg ch277 (bR rfl rfl)).cn ch279
      replace o163:=o163.ca C281
      refine xv 7 [6,5,4,3,2,1,0] rfl (aa (v:=v161) (i:=3) c5 rfl rfl (dM o163 (VcR.consv hv148 (o35).ro (VcR.consv hv150 (o37).ro (VcR.consv hv152 (o53).ro (VcR.consv hv154 (o55.flat).ro (VcR.consv hv156 (o71.flat).ro (VcR.consv hv158 (o78.flat).ro VcR.nil))))))) rfl (by omega) (by(simp only[List.length_set,List.length_append,List.length_cons,List.length_nil,List.length_replicate,List.length_map,List.length_take,List.length_drop];omega))) (xv 8 [7,6,5,4,3,2,1,0] rfl (bb ao rfl (cX hv154 o163 rfl)) (aD 9 rfl (by kernel_rfl) rfl ?_))
      obtain⟨c282,hv283⟩:=f5 (u:=v54) (aZ o55.flat)
      refine aw (α:=Vc) g268 (is 15) (is 15) (15,0) rfl [c282] c5 ao (by decide) (by decide) (vs:=[(0,v54)]) rfl rfl (.cons (e8 hv283 (bf o55.flat)) .nil) ?_
      intro g284 w285 v286 ch287 o288
      refine aD 10 rfl (by kernel_rfl) rfl ?_
      have C289:=cg [13] (ch270.n.seq (hc275.n.seq ((ch277.l rfl).seq (ch279.n.seq ch287.n))))
      replace o_b_0_j10:=o_b_0_j10.ca C289
      replace o55:=o55.cn ch287
      refine da hv283 (α:=Int) (xss:=b_0_j10) (i:=16) (γ:=g284) c5 ao rfl rfl rfl o_b_0_j10 (o288.flat) o55 rfl (by decide) (by omega) ?_
      intro g290 w291 v292 ch293 o294 r295
      clear o55 o_b_0_j10
      refine xp (v:=vp b103 0) 11 rfl (λw=>ad rfl) (xp 12 rfl (λw=>a7 e6 rfl rfl rfl rfl) (aD 13 rfl (by kernel_rfl) rfl ?_))
      replace bx278:=(bx278.cn ch287).chg ch293 (fO rfl rfl)
      refine bj (cs':=[v292,vi (b_1_j10+(min (b7 v54:Int) ((List.length ((((ax t).1).2).1):Int)+2000)))]) aN rfl rfl bx278 (bf o294.sl) nq (aZ o294.sl) rfl ?_
      intro w296 ch297 bx298
      clear bx278
      refine bc (by kernel_rfl) (aq ?_)
      clear o288
      have C300:=cg [9,13,16] (ch287.n.seq ((ch293.lx rfl rfl).seq (ch297.l rfl)))
      have C299:=ch270.n.seq (hc275.n.seq ((ch277.l rfl).seq (ch279.n.seq C300)))
      refine mid_j11 (v292,(b_0_j10++[(((ax t).1).2).1]),b_1_j10+(min (b7 v54:Int) ((List.length ((((ax t).1).2).1):Int)+2000)),g290) _ _ ⟨bH.ca C299,z269_0,z269_1,rfl,Rt.ca C299,r_t_v1.ca C299,o16.ca C299,o18.ca C299,((o35.cn ch287).chg ch293 (cU rfl rfl rfl)).chg ch297 (bR rfl rfl),((o37.cn ch287).chg ch293 (cU rfl rfl rfl)).chg ch297 (bR rfl rfl),bx47.ca C299,((o53.cn ch287).chg ch293 (cU rfl rfl rfl)).chg ch297 (bR rfl rfl),r295.chg ch297 (bR rfl rfl),bx65.ca C299,o71.ca C300,o78.ca C300,bx298,o163.ca C300,o294.ce ch297,?_⟩
      show cA (b_0_j10++[(((ax t).1).2).1]) (b_1_j10+(min (b7 v54:Int) ((List.length ((((ax t).1).2).1):Int)+2000)))
      exact(cA.add ‹_› (by omega) (by omega) (by omega))
     refine am rfl (df p4_c1) (au (aq ?_))
     replace bH:=bH.cn ch270
     replace o55:=o55.cn hc275
     refine mid_j11 (b_0_j10_v,b_0_j10,b_1_j10,g268) _ _ ⟨bH.cn hc275,z269_0,z269_1,rfl,(Rt.cn ch270).cn hc275,(r_t_v1.cn ch270).cn hc275,(o16.cn ch270).cn hc275,(o18.cn ch270).cn hc275,o35.cn hc275,o37.cn hc275,(bx47.cn ch270).cn hc275,o53.cn hc275,o55.slk,(bx65.cn ch270).cn hc275,o71.cn hc275,o78.cn hc275,bx105,o163.cn hc275,(o_b_0_j10.cn ch270).cn hc275,?_⟩
     show cA b_0_j10 b_1_j10
     assumption
    refine ag (wn (df q25_c1)) (ag (wn (df q25_c1)) (ag (wn (df q25_c1)) (ag (wn (df q25_c1)) (ag (wn (df q25_c1)) (ag (wn (df q25_c1)) (ag (wn (df q25_c1)) (lw (vb false) (aH rfl (df q25_c1) rfl) (af (am rfl rfl ?_)))))))))
    refine au (aq ?_)
    replace bH:=bH.cn ch270
    replace o55:=o55.cn hc275
    refine mid_j11 (b_0_j10_v,b_0_j10,b_1_j10,g268) _ _ ⟨bH.cn hc275,z269_0,z269_1,rfl,(Rt.cn ch270).cn hc275,(r_t_v1.cn ch270).cn hc275,(o16.cn ch270).cn hc275,(o18.cn ch270).cn hc275,o35.cn hc275,o37.cn hc275,(bx47.cn ch270).cn hc275,o53.cn hc275,o55.slk,(bx65.cn ch270).cn hc275,o71.cn hc275,o78.cn hc275,(bx105.cn ch270).cn hc275,o163.cn hc275,(o_b_0_j10.cn ch270).cn hc275,?_⟩
    show cA b_0_j10 b_1_j10
    assumption
   clear Rt r_t_v1 o16 o18 o35 o37 bx47 o53 o55 bx65 o71 o78 bx105 o163 o_b_0_j10 bH
   rintro⟨b_0_j11_v,b_0_j11,b_1_j11,g303⟩ f301 w302 ⟨bH,z304_0,z304_1,z304_4,Rt,r_t_v1,o16,o18,o35,o37,bx47,o53,o55,bx65,o71,o78,bx105,o163,o_b_0_j11,hj_j11⟩
   obtain⟨hja_j11,hjb_j11,hjc_j11⟩:=hj_j11.len
   refine a6 rfl (mz z304_4 (lx (aP (m:=3) (n:=1) rfl rfl (by omega)) (ai 4 (af (dy (a9 (a9 (a6 rfl (mi 4 (mz z304_1 (lx (ba c5 rfl o163.flat) ?_)))))))))))
   refine lx (bo (m:=4) (n:=6) rfl rfl) (af (aj rfl rfl (au (a9 (av (a9 ?_))))))
   refine eW [false,true,false,false,false] (σ:=Value×eZ×Int×aG) (λ⟨b_0_j12_v,b_0_j12,b_1_j12,gq⟩ f w=>b9 w0 gq w/\f 0=vp b103 0/\f 1=v161/\f 4=vi 4/\Sl gq (is 0) w t_v t.2.1/\Sl gq (is 0) w t_v1 t.2.2/\Ow gq (is 2) (is 2) w (db v15) (t.2.1++[((-7:Int),(0:Int),(0:Int),(0:Int))])/\Ow gq (is 3) (is 3) w (db v17) (t.2.2++[(-7:Int)])/\Sl gq (gr 5 16) w v34 (((ax t).1).1)/\Sl gq (gr 6 16) w v36 ((((ax t).1).2).1)/\Bx gq (is 7) w b42 [v34,v36,vi ((((ax t).1).2).2)]/\Sl gq (gr 8 16) w v52 (((ax t).1).1)/\Sl gq (gr 9 16) w v54 ((((ax t).1).2).1)/\Bx gq (is 10) w b60 [v52,v54,vi ((((ax t).1).2).2)]/\Sl gq (gr 11 16) w v70 ((aS t).1)/\Ow gq (is 12) (is 12) w v77 ((aS t).1)/\Bx gq (is 13) w b103 [b_0_j12_v,vi b_1_j12]/\Ow gq (is 14) (is 14) w v161 ([c147,c149,c151,c153,c155,c157])/\bN gq 16 w b_0_j12_v b_0_j12/\(cA b_0_j12 b_1_j12)) ?_ ?_
   ·
    intro mid_j12
    refine bt g303 rfl cx (by kernel_rfl) ?_
    intro w306 ch305
    refine qz z304_1 (qm (vi 4) ?_)
    replace o78:=o78.cn ch305
    replace o71:=o71.cn ch305
    replace o55:=o55.cn ch305
    replace o53:=o53.cn ch305
    replace o37:=o37.cn ch305
    replace o35:=o35.cn ch305
    replace o163:=o163.cn ch305
    refine qx (λw' hw'=>aa (v:=v161) (i:=4) c5 rfl rfl ((dM o163 (VcR.consv hv148 (o35).ro (VcR.consv hv150 (o37).ro (VcR.consv hv152 (o53).ro (VcR.consv hv154 (o55).ro (VcR.consv hv156 (o71.flat).ro (VcR.consv hv158 (o78.flat).ro VcR.nil))))))).bel hw') rfl (by omega) (by(simp only[List.length_set,List.length_append,List.length_cons,List.length_nil,List.length_replicate,List.length_map,List.length_take,List.length_drop];omega))) (qx (λw' hw'=>bb ao rfl (cX hv156 (o163.bel hw') rfl)) ?_)
    have len307:=(o71.flat).small
    refine qx (λw' hw'=>ba aW rfl (o71.flat.bel hw')) (qz z304_1 (qm (vi 4) (qx (λw' hw'=>aa (v:=v161) (i:=4) c5 rfl rfl ((dM o163 (VcR.consv hv148 (o35).ro (VcR.consv hv150 (o37).ro (VcR.consv hv152 (o53).ro (VcR.consv hv154 (o55).ro (VcR.consv hv156 (o71.flat).ro (VcR.consv hv158 (o78.flat).ro VcR.nil))))))).bel hw') rfl (by omega) (by(simp only[List.length_set,List.length_append,List.length_cons,List.length_nil,List.length_replicate,List.length_map,List.length_take,List.length_drop];omega))) (qx (λw' hw'=>bb ao rfl (cX hv156 (o163.bel hw') rfl)) ?_))))
    have cap308:=Sl.cap o71.flat
    refine qv (vi (b7 v70:Int)) (λw' hw'=>ic aW rfl (o71.flat.bel hw')) (dJ (v:=vi (min (b7 v70:Int) ((List.length ((aS t).1):Int)+2000))) rfl (λw' hw'=>aU (vals:=[vi (List.length ((aS t).1):Int),vi (b7 v70:Int)]) Try.func28 eA eD rfl) (λw' hw'=>(ex w' (List.length ((aS t).1):Int) (b7 v70:Int) (by omega)).mono λe w2 h2=>⟨h2.1,hw'.trans (h2.2.mono hw'.size)⟩) (qv (vi (min (b7 v70:Int) ((List.length ((aS t).1):Int)+2000))) (λw' hw'=>bD rfl) (bX ?_)))
    intro w309 hc310
    replace hc310:=aB hc310 g303
    refine a9 (a6 rfl (mi (min (b7 v70:Int) ((List.length ((aS t).1):Int)+2000)) (lx (bY (m:=min (b7 v70:Int) ((List.length ((aS t).1):Int)+2000)) (n:=0) rfl rfl) (mv (vb (decide (0<(min (b7 v70:Int) ((List.length ((aS t).1):Int)+2000))))) ?_))))
    by_cases q25_c1:0<(min (b7 v70:Int) ((List.length ((aS t).1):Int)+2000))
    ·
     refine lv (vp b103 0) (wy (dt q25_c1)) (ah z304_0) (lv (vp b103 0) (wy (dt q25_c1)) (ad rfl) (lv (vp b103 1) (wy (dt q25_c1)) (a7 e6 rfl rfl rfl rfl) ?_))
     replace bx105:=(bx105.cn ch305).cn hc310
     refine lv (vi b_1_j11) (wy (dt q25_c1)) (a8 ae rfl bx105 rfl) (lv (vi (min (b7 v70:Int) ((List.length ((aS t).1):Int)+2000))) (wy (dt q25_c1)) (ah rfl) (lv (vi (b_1_j11+(min (b7 v70:Int) ((List.length ((aS t).1):Int)+2000)))) (wy (dt q25_c1)) (aP (m:=b_1_j11) (n:=min (b7 v70:Int) ((List.length ((aS t).1):Int)+2000)) rfl rfl (by omega)) (lv (vb (decide ((b_1_j11+(min (b7 v70:Int) ((List.length ((aS t).1):Int)+2000)))<=1048576))) (wy (dt q25_c1)) (fB (m:=b_1_j11+(min (b7 v70:Int) ((List.length ((aS t).1):Int)+2000))) (n:=1048576) rfl rfl) ?_)))
     refine lw (vb (decide ((b_1_j11+(min (b7 v70:Int) ((List.length ((aS t).1):Int)+2000)))<=1048576))) (az rfl (dt q25_c1) rfl) (af ?_)
     by_cases p4_c1:(b_1_j11+(min (b7 v70:Int) ((List.length ((aS t).1):Int)+2000)))<=1048576
     ·
      refine aj rfl (dt p4_c1) (a9 (a6 rfl (mz z304_0 (mz z304_0 (lw (vp b103 0) (ad rfl) (lx (a7 e6 rfl rfl rfl rfl) (lx (a8 ae rfl bx105 rfl) (mi (min (b7 v70:Int) ((List.length ((aS t).1):Int)+2000)) (lx (aP (m:=b_1_j11) (n:=min (b7 v70:Int) ((List.length ((aS t).1):Int)+2000)) rfl rfl (by omega)) (lw (vp b103 0) (ad rfl) ?_))))))))))
      refine lx (a7 e6 rfl rfl rfl rfl) (lo (aR (cs':=[b_0_j11_v,vi (b_1_j11+(min (b7 v70:Int) ((List.length ((aS t).1):Int)+2000)))]) ae rfl rfl bx105 rfl nq (AllOne.all (.cons rfl .nil)) rfl ?_))
      intro w311 ch312 bx313
      clear bx105
      refine af (aL g303 [0,1,2,3,4,5,6,7,8,11,12] cx ?_)
      intro w315 ch314
      refine xp (v:=vp b103 0) 0 rfl (λw=>ah z304_0) (xp (v:=vp b103 0) 1 rfl (λw=>ah z304_0) (xp (v:=vp b103 0) 2 rfl (λw=>ad rfl) (xp 3 rfl (λw=>a7 e6 rfl rfl rfl rfl) ?_)))
      replace bx313:=bx313.cn ch314
      refine xh 4 [3,2,1,0,5,6,7,8,9] rfl (λw' hw'=>a8 aN rfl (bx313.bel hw') rfl) (xp (v:=v161) 5 rfl (λw=>ah z304_1) (xp (v:=vi 4) 6 rfl (λw=>ah rfl) ?_))
      have C316:=cg [13] (hc310.n.seq ((ch312.l rfl).seq ch314.n))
      replace o78:=o78.ca C316
      replace o71:=o71.ca C316
      replace o55:=((o55.cn hc310).chg ch312 (bR rfl rfl)).cn ch314
      replace o53:=((o53.cn hc310).chg ch312 (bR rfl rfl)).cn ch314
      replace o37:=((o37.cn hc310).chg ch312 (bR rfl rfl)).cn ch314
      replace o35:=((o35.cn hc310).chg ch312 (bR rfl rfl)).cn ch314
      replace o163:=o163.ca C316
      refine xv 7 [6,5,4,3,2,1,0] rfl (aa (v:=v161) (i:=4) c5 rfl rfl (dM o163 (VcR.consv hv148 (o35).ro (VcR.consv hv150 (o37).ro (VcR.consv hv152 (o53).ro (VcR.consv hv154 (o55).ro (VcR.consv hv156 (o71.flat).ro (VcR.consv hv158 (o78.flat).ro VcR.nil))))))) rfl (by omega) (by(simp only[List.length_set,List.length_append,List.length_cons,List.length_nil,List.length_replicate,List.length_map,List.length_take,List.length_drop];omega))) (xv 8 [7,6,5,4,3,2,1,0] rfl (bb ao rfl (cX hv156 o163 rfl)) (aD 9 rfl (by kernel_rfl) rfl ?_))
      obtain⟨c317,hv318⟩:=f5 (u:=v70) (aZ o71.flat)
      refine aw (α:=Vc) g303 (is 15) (is 15) (15,0) rfl [c317] c5 ao (by decide) (by decide) (vs:=[(0,v70)]) rfl rfl (.cons (e8 hv318 (bf o71.flat)) .nil) ?_
      intro g319 w320 v321 ch322 o323
      refine aD 10 rfl (by kernel_rfl) rfl ?_
      have C324:=cg [13] (ch305.n.seq (hc310.n.seq ((ch312.l rfl).seq (ch314.n.seq ch322.n))))
      replace o_b_0_j11:=o_b_0_j11.ca C324
      replace o71:=o71.cn ch322
      refine da hv318 (α:=Int) (xss:=b_0_j11) (i:=16) (γ:=g319) c5 ao rfl rfl rfl o_b_0_j11 (o323.flat) o71 rfl (by decide) (by omega) ?_
      intro g325 w326 v327 ch328 o329 r330
      clear o71 o_b_0_j11
      refine xp (v:=vp b103 0) 11 rfl (λw=>ad rfl) (xp 12 rfl (λw=>a7 e6 rfl rfl rfl rfl) (aD 13 rfl (by kernel_rfl) rfl ?_))
      replace bx313:=(bx313.cn ch322).chg ch328 (fO rfl rfl)
      refine bj (cs':=[v327,vi (b_1_j11+(min (b7 v70:Int) ((List.length ((aS t).1):Int)+2000)))]) aN rfl rfl bx313 (bf o329.sl) nq (aZ o329.sl) rfl ?_
      intro w331 ch332 bx333
      clear bx313
      refine bc (by kernel_rfl) (aq ?_)
      clear o323
      have C335:=cg [11,13,16] (ch322.n.seq ((ch328.lx rfl rfl).seq (ch332.l rfl)))
      have C334:=ch305.n.seq (hc310.n.seq ((ch312.l rfl).seq (ch314.n.seq C335)))
      refine mid_j12 (v327,(b_0_j11++[(aS t).1]),b_1_j11+(min (b7 v70:Int) ((List.length ((aS t).1):Int)+2000)),g325) _ _ ⟨bH.ca C334,z304_0,z304_1,rfl,Rt.ca C334,r_t_v1.ca C334,o16.ca C334,o18.ca C334,((o35.cn ch322).chg ch328 (cU rfl rfl rfl)).chg ch332 (bR rfl rfl),((o37.cn ch322).chg ch328 (cU rfl rfl rfl)).chg ch332 (bR rfl rfl),bx47.ca C334,((o53.cn ch322).chg ch328 (cU rfl rfl rfl)).chg ch332 (bR rfl rfl),((o55.cn ch322).chg ch328 (cU rfl rfl rfl)).chg ch332 (bR rfl rfl),bx65.ca C334,r330.chg ch332 (bR rfl rfl),o78.ca C335,bx333,o163.ca C335,o329.ce ch332,?_⟩
      show cA (b_0_j11++[(aS t).1]) (b_1_j11+(min (b7 v70:Int) ((List.length ((aS t).1):Int)+2000)))
      exact(cA.add ‹_› (by omega) (by omega) (by omega))
     refine am rfl (df p4_c1) (au (aq ?_))
     replace bH:=bH.cn ch305
     replace o71:=o71.cn hc310
     refine mid_j12 (b_0_j11_v,b_0_j11,b_1_j11,g303) _ _ ⟨bH.cn hc310,z304_0,z304_1,rfl,(Rt.cn ch305).cn hc310,(r_t_v1.cn ch305).cn hc310,(o16.cn ch305).cn hc310,(o18.cn ch305).cn hc310,o35.cn hc310,o37.cn hc310,(bx47.cn ch305).cn hc310,o53.cn hc310,o55.cn hc310,(bx65.cn ch305).cn hc310,o71.slk,o78.cn hc310,bx105,o163.cn hc310,(o_b_0_j11.cn ch305).cn hc310,?_⟩
     show cA b_0_j11 b_1_j11
     assumption
    refine ag (wn (df q25_c1)) (ag (wn (df q25_c1)) (ag (wn (df q25_c1)) (ag (wn (df q25_c1)) (ag (wn (df q25_c1)) (ag (wn (df q25_c1)) (ag (wn (df q25_c1)) (lw (vb false) (aH rfl (df q25_c1) rfl) (af (am rfl rfl ?_)))))))))
    refine au (aq ?_)
    replace bH:=bH.cn ch305
    replace o71:=o71.cn hc310
    refine mid_j12 (b_0_j11_v,b_0_j11,b_1_j11,g303) _ _ ⟨bH.cn hc310,z304_0,z304_1,rfl,(Rt.cn ch305).cn hc310,(r_t_v1.cn ch305).cn hc310,(o16.cn ch305).cn hc310,(o18.cn ch305).cn hc310,o35.cn hc310,o37.cn hc310,(bx47.cn ch305).cn hc310,o53.cn hc310,o55.cn hc310,(bx65.cn ch305).cn hc310,o71.slk,o78.cn hc310,(bx105.cn ch305).cn hc310,o163.cn hc310,(o_b_0_j11.cn ch305).cn hc310,?_⟩
    show cA b_0_j11 b_1_j11
    assumption
   clear Rt r_t_v1 o16 o18 o35 o37 bx47 o53 o55 bx65 o71 o78 bx105 o163 o_b_0_j11 bH
   rintro⟨b_0_j12_v,b_0_j12,b_1_j12,g338⟩ f336 w337 ⟨bH,z339_0,z339_1,z339_4,Rt,r_t_v1,o16,o18,o35,o37,bx47,o53,o55,bx65,o71,o78,bx105,o163,o_b_0_j12,hj_j12⟩
   obtain⟨hja_j12,hjb_j12,hjc_j12⟩:=hj_j12.len
   refine a6 rfl (mz z339_4 (lx (aP (m:=4) (n:=1) rfl rfl (by omega)) (ai 5 (af (dy (a9 (a9 (a6 rfl (mi 5 (mz z339_1 (lx (ba c5 rfl o163.flat) ?_)))))))))))
   refine lx (bo (m:=5) (n:=6) rfl rfl) (af (aj rfl rfl (au (a9 (av (a9 ?_))))))
   refine eW [false,true,false,false,false] (σ:=Value×eZ×Int×aG) (λ⟨b_0_j13_v,b_0_j13,b_1_j13,gq⟩ f w=>b9 w0 gq w/\f 0=vp b103 0/\f 1=v161/\f 4=vi 5/\Sl gq (is 0) w t_v t.2.1/\Sl gq (is 0) w t_v1 t.2.2/\Ow gq (is 2) (is 2) w (db v15) (t.2.1++[((-7:Int),(0:Int),(0:Int),(0:Int))])/\Ow gq (is 3) (is 3) w (db v17) (t.2.2++[(-7:Int)])/\Sl gq (gr 5 16) w v34 (((ax t).1).1)/\Sl gq (gr 6 16) w v36 ((((ax t).1).2).1)/\Bx gq (is 7) w b42 [v34,v36,vi ((((ax t).1).2).2)]/\Sl gq (gr 8 16) w v52 (((ax t).1).1)/\Sl gq (gr 9 16) w v54 ((((ax t).1).2).1)/\Bx gq (is 10) w b60 [v52,v54,vi ((((ax t).1).2).2)]/\Sl gq (gr 11 16) w v70 ((aS t).1)/\Sl gq (gr 12 16) w v77 ((aS t).1)/\Bx gq (is 13) w b103 [b_0_j13_v,vi b_1_j13]/\Ow gq (is 14) (is 14) w v161 ([c147,c149,c151,c153,c155,c157])/\bN gq 16 w b_0_j13_v b_0_j13/\(cA b_0_j13 b_1_j13)) ?_ ?_
   ·
    intro mid_j13
    refine bt g338 rfl cx (by kernel_rfl) ?_
    intro w341 ch340
    refine qz z339_1 (qm (vi 5) ?_)
    replace o78:=o78.cn ch340
    replace o71:=o71.cn ch340
    replace o55:=o55.cn ch340
    replace o53:=o53.cn ch340
    replace o37:=o37.cn ch340
    replace o35:=o35.cn ch340
    replace o163:=o163.cn ch340
    refine qx (λw' hw'=>aa (v:=v161) (i:=5) c5 rfl rfl ((dM o163 (VcR.consv hv148 (o35).ro (VcR.consv hv150 (o37).ro (VcR.consv hv152 (o53).ro (VcR.consv hv154 (o55).ro (VcR.consv hv156 (o71).ro (VcR.consv hv158 (o78.flat).ro VcR.nil))))))).bel hw') rfl (by omega) (by(simp only[List.length_set,List.length_append,List.length_cons,List.length_nil,List.length_replicate,List.length_map,List.length_take,List.length_drop];omega))) (qx (λw' hw'=>bb ao rfl (cX hv158 (o163.bel hw') rfl)) ?_)
    have len342:=(o78.flat).small
    refine qx (λw' hw'=>ba aW rfl (o78.flat.bel hw')) (qz z339_1 (qm (vi 5) (qx (λw' hw'=>aa (v:=v161) (i:=5) c5 rfl rfl ((dM o163 (VcR.consv hv148 (o35).ro (VcR.consv hv150 (o37).ro (VcR.consv hv152 (o53).ro (VcR.consv hv154 (o55).ro (VcR.consv hv156 (o71).ro (VcR.consv hv158 (o78.flat).ro VcR.nil))))))).bel hw') rfl (by omega) (by(simp only[List.length_set,List.length_append,List.length_cons,List.length_nil,List.length_replicate,List.length_map,List.length_take,List.length_drop];omega))) (qx (λw' hw'=>bb ao rfl (cX hv158 (o163.bel hw') rfl)) ?_))))
    have cap343:=Sl.cap o78.flat
    refine qv (vi (b7 v77:Int)) (λw' hw'=>ic aW rfl (o78.flat.bel hw')) (dJ (v:=vi (min (b7 v77:Int) ((List.length ((aS t).1):Int)+2000))) rfl (λw' hw'=>aU (vals:=[vi (List.length ((aS t).1):Int),vi (b7 v77:Int)]) Try.func28 eA eD rfl) (λw' hw'=>(ex w' (List.length ((aS t).1):Int) (b7 v77:Int) (by omega)).mono λe w2 h2=>⟨h2.1,hw'.trans (h2.2.mono hw'.size)⟩) (qv (vi (min (b7 v77:Int) ((List.length ((aS t).1):Int)+2000))) (λw' hw'=>bD rfl) (bX ?_)))
    intro w344 hc345
    replace hc345:=aB hc345 g338
    refine a9 (a6 rfl (mi (min (b7 v77:Int) ((List.length ((aS t).1):Int)+2000)) (lx (bY (m:=min (b7 v77:Int) ((List.length ((aS t).1):Int)+2000)) (n:=0) rfl rfl) (mv (vb (decide (0<(min (b7 v77:Int) ((List.length ((aS t).1):Int)+2000))))) ?_))))
    by_cases q25_c1:0<(min (b7 v77:Int) ((List.length ((aS t).1):Int)+2000))
    ·
     refine lv (vp b103 0) (wy (dt q25_c1)) (ah z339_0) (lv (vp b103 0) (wy (dt q25_c1)) (ad rfl) (lv (vp b103 1) (wy (dt q25_c1)) (a7 e6 rfl rfl rfl rfl) ?_))
     replace bx105:=(bx105.cn ch340).cn hc345
     refine lv (vi b_1_j12) (wy (dt q25_c1)) (a8 ae rfl bx105 rfl) (lv (vi (min (b7 v77:Int) ((List.length ((aS t).1):Int)+2000))) (wy (dt q25_c1)) (ah rfl) (lv (vi (b_1_j12+(min (b7 v77:Int) ((List.length ((aS t).1):Int)+2000)))) (wy (dt q25_c1)) (aP (m:=b_1_j12) (n:=min (b7 v77:Int) ((List.length ((aS t).1):Int)+2000)) rfl rfl (by omega)) (lv (vb (decide ((b_1_j12+(min (b7 v77:Int) ((List.length ((aS t).1):Int)+2000)))<=1048576))) (wy (dt q25_c1)) (fB (m:=b_1_j12+(min (b7 v77:Int) ((List.length ((aS t).1):Int)+2000))) (n:=1048576) rfl rfl) ?_)))
     refine lw (vb (decide ((b_1_j12+(min (b7 v77:Int) ((List.length ((aS t).1):Int)+2000)))<=1048576))) (az rfl (dt q25_c1) rfl) (af ?_)
     by_cases p4_c1:(b_1_j12+(min (b7 v77:Int) ((List.length ((aS t).1):Int)+2000)))<=1048576
     ·
      refine aj rfl (dt p4_c1) (a9 (a6 rfl (mz z339_0 (mz z339_0 (lw (vp b103 0) (ad rfl) (lx (a7 e6 rfl rfl rfl rfl) (lx (a8 ae rfl bx105 rfl) (mi (min (b7 v77:Int) ((List.length ((aS t).1):Int)+2000)) (lx (aP (m:=b_1_j12) (n:=min (b7 v77:Int) ((List.length ((aS t).1):Int)+2000)) rfl rfl (by omega)) (lw (vp b103 0) (ad rfl) ?_))))))))))
      refine lx (a7 e6 rfl rfl rfl rfl) (lo (aR (cs':=[b_0_j12_v,vi (b_1_j12+(min (b7 v77:Int) ((List.length ((aS t).1):Int)+2000)))]) ae rfl rfl bx105 rfl nq (AllOne.all (.cons rfl .nil)) rfl ?_))
      intro w346 ch347 bx348
      clear bx105
      refine af (aL g338 [0,1,2,3,4,5,6,7,8,11,12] cx ?_)
      intro w350 ch349
      refine xp (v:=vp b103 0) 0 rfl (λw=>ah z339_0) (xp (v:=vp b103 0) 1 rfl (λw=>ah z339_0) (xp (v:=vp b103 0) 2 rfl (λw=>ad rfl) (xp 3 rfl (λw=>a7 e6 rfl rfl rfl rfl) ?_)))
      replace bx348:=bx348.cn ch349
      refine xh 4 [3,2,1,0,5,6,7,8,9] rfl (λw' hw'=>a8 aN rfl (bx348.bel hw') rfl) (xp (v:=v161) 5 rfl (λw=>ah z339_1) (xp (v:=vi 5) 6 rfl (λw=>ah rfl) ?_))
      have C351:=cg [13] (hc345.n.seq ((ch347.l rfl).seq ch349.n))
      replace o78:=o78.ca C351
      replace o71:=((o71.cn hc345).chg ch347 (bR rfl rfl)).cn ch349
      replace o55:=((o55.cn hc345).chg ch347 (bR rfl rfl)).cn ch349
      replace o53:=((o53.cn hc345).chg ch347 (bR rfl rfl)).cn ch349
      replace o37:=((o37.cn hc345).chg ch347 (bR rfl rfl)).cn ch349
      replace o35:=((o35.cn hc345).chg ch347 (bR rfl rfl)).cn ch349
      replace o163:=o163.ca C351
      refine xv 7 [6,5,4,3,2,1,0] rfl (aa (v:=v161) (i:=5) c5 rfl rfl (dM o163 (VcR.consv hv148 (o35).ro (VcR.consv hv150 (o37).ro (VcR.consv hv152 (o53).ro (VcR.consv hv154 (o55).ro (VcR.consv hv156 (o71).ro (VcR.consv hv158 (o78.flat).ro VcR.nil))))))) rfl (by omega) (by(simp only[List.length_set,List.length_append,List.length_cons,List.length_nil,List.length_replicate,List.length_map,List.length_take,List.length_drop];omega))) (xv 8 [7,6,5,4,3,2,1,0] rfl (bb ao rfl (cX hv158 o163 rfl)) (aD 9 rfl (by kernel_rfl) rfl ?_))
      obtain⟨c352,hv353⟩:=f5 (u:=v77) (aZ o78.flat)
      refine aw (α:=Vc) g338 (is 15) (is 15) (15,0) rfl [c352] c5 ao (by decide) (by decide) (vs:=[(0,v77)]) rfl rfl (.cons (e8 hv353 (bf o78.flat)) .nil) ?_
      intro g354 w355 v356 ch357 o358
      refine aD 10 rfl (by kernel_rfl) rfl ?_
      have C359:=cg [13] (ch340.n.seq (hc345.n.seq ((ch347.l rfl).seq (ch349.n.seq ch357.n))))
      replace o_b_0_j12:=o_b_0_j12.ca C359
      replace o78:=o78.cn ch357
      refine da hv353 (α:=Int) (xss:=b_0_j12) (i:=16) (γ:=g354) c5 ao rfl rfl rfl o_b_0_j12 (o358.flat) o78 rfl (by decide) (by omega) ?_
      intro g360 w361 v362 ch363 o364 r365
      clear o78 o_b_0_j12
      refine xp (v:=vp b103 0) 11 rfl (λw=>ad rfl) (xp 12 rfl (λw=>a7 e6 rfl rfl rfl rfl) (aD 13 rfl (by kernel_rfl) rfl ?_))
      replace bx348:=(bx348.cn ch357).chg ch363 (fO rfl rfl)
      refine bj (cs':=[v362,vi (b_1_j12+(min (b7 v77:Int) ((List.length ((aS t).1):Int)+2000)))]) aN rfl rfl bx348 (bf o364.sl) nq (aZ o364.sl) rfl ?_
      intro w366 ch367 bx368
      clear bx348
      refine bc (by kernel_rfl) (aq ?_)
      clear o358
      have C370:=cg [12,13,16] (ch357.n.seq ((ch363.lx rfl rfl).seq (ch367.l rfl)))
      have C369:=ch340.n.seq (hc345.n.seq ((ch347.l rfl).seq (ch349.n.seq C370)))
      refine mid_j13 (v362,(b_0_j12++[(aS t).1]),b_1_j12+(min (b7 v77:Int) ((List.length ((aS t).1):Int)+2000)),g360) _ _ ⟨bH.ca C369,z339_0,z339_1,rfl,Rt.ca C369,r_t_v1.ca C369,o16.ca C369,o18.ca C369,((o35.cn ch357).chg ch363 (cU rfl rfl rfl)).chg ch367 (bR rfl rfl),((o37.cn ch357).chg ch363 (cU rfl rfl rfl)).chg ch367 (bR rfl rfl),bx47.ca C369,((o53.cn ch357).chg ch363 (cU rfl rfl rfl)).chg ch367 (bR rfl rfl),((o55.cn ch357).chg ch363 (cU rfl rfl rfl)).chg ch367 (bR rfl rfl),bx65.ca C369,((o71.cn ch357).chg ch363 (cU rfl rfl rfl)).chg ch367 (bR rfl rfl),r365.chg ch367 (bR rfl rfl),bx368,o163.ca C370,o364.ce ch367,?_⟩
      show cA (b_0_j12++[(aS t).1]) (b_1_j12+(min (b7 v77:Int) ((List.length ((aS t).1):Int)+2000)))
      exact(cA.add ‹_› (by omega) (by omega) (by omega))
     refine am rfl (df p4_c1) (au (aq ?_))
     replace bH:=bH.cn ch340
     replace o78:=o78.cn hc345
     refine mid_j13 (b_0_j12_v,b_0_j12,b_1_j12,g338) _ _ ⟨bH.cn hc345,z339_0,z339_1,rfl,(Rt.cn ch340).cn hc345,(r_t_v1.cn ch340).cn hc345,(o16.cn ch340).cn hc345,(o18.cn ch340).cn hc345,o35.cn hc345,o37.cn hc345,(bx47.cn ch340).cn hc345,o53.cn hc345,o55.cn hc345,(bx65.cn ch340).cn hc345,o71.cn hc345,o78.slk,bx105,o163.cn hc345,(o_b_0_j12.cn ch340).cn hc345,?_⟩
     show cA b_0_j12 b_1_j12
     assumption
    refine ag (wn (df q25_c1)) (ag (wn (df q25_c1)) (ag (wn (df q25_c1)) (ag (wn (df q25_c1)) (ag (wn (df q25_c1)) (ag (wn (df q25_c1)) (ag (wn (df q25_c1)) (lw (vb false) (aH rfl (df q25_c1) rfl) (af (am rfl rfl ?_)))))))))
    refine au (aq ?_)
    replace bH:=bH.cn ch340
    replace o78:=o78.cn hc345
    refine mid_j13 (b_0_j12_v,b_0_j12,b_1_j12,g338) _ _ ⟨bH.cn hc345,z339_0,z339_1,rfl,(Rt.cn ch340).cn hc345,(r_t_v1.cn ch340).cn hc345,(o16.cn ch340).cn hc345,(o18.cn ch340).cn hc345,o35.cn hc345,o37.cn hc345,(bx47.cn ch340).cn hc345,o53.cn hc345,o55.cn hc345,(bx65.cn ch340).cn hc345,o71.cn hc345,o78.slk,(bx105.cn ch340).cn hc345,o163.cn hc345,(o_b_0_j12.cn ch340).cn hc345,?_⟩
    show cA b_0_j12 b_1_j12
    assumption
   clear Rt r_t_v1 o16 o18 o35 o37 bx47 o53 o55 bx65 o71 o78 bx105 o163 o_b_0_j12 bH
   rintro⟨b_0_j13_v,b_0_j13,b_1_j13,g373⟩ f371 w372 ⟨bH,z374_0,z374_1,z374_4,Rt,r_t_v1,o16,o18,o35,o37,bx47,o53,o55,bx65,o71,o78,bx105,o163,o_b_0_j13,hj_j13⟩
   obtain⟨hja_j13,hjb_j13,hjc_j13⟩:=hj_j13.len
   refine a6 rfl (mz z374_4 (lx (aP (m:=5) (n:=1) rfl rfl (by omega)) (ai 6 (af (dy (a9 (a9 (a6 rfl (mi 6 (mz z374_1 (lx (ba c5 rfl o163.flat) ?_)))))))))))
   refine lx (bo (m:=6) (n:=6) rfl rfl) (af (am rfl rfl (aM rfl (bU (vs:=[]) Try.func21 .nil ?_))))
   refine⟨(b_0_j13_v,b_0_j13,b_1_j13,g373),rfl,bH,Rt,r_t_v1,o16,o18,o35,o37,bx47,o53,o55,bx65,o71,o78,bx105,o163,o_b_0_j13,?_⟩
   show cA b_0_j13 b_1_j13
   assumption
  clear Rt r_t_v1 o16 o18 o35 o37 bx47 o53 o55 bx65 o71 o78 bx105 o163 bH
  rintro⟨b_0_c1_v,b_0_c1,b_1_c1,g376⟩ w375 ⟨bH,Rt,r_t_v1,o16,o18,o35,o37,bx47,o53,o55,bx65,o71,o78,bx105,o163,o_b_0_c1,hj_c1⟩
  obtain⟨hja_c1,hjb_c1,hjc_c1⟩:=hj_c1.len
  refine af (a9 ?_)
  clear o53 o55 bx65 o71 o78 o163
  refine a6 rfl (mz z146_14 (mv (vb s14_j1) ?_))
  have q177:s14_j1=true:=by assumption
  refine lv (vi ((ax t).2)) (wy q177) (ah z146_6) (lv (vb (decide (((ax t).2)=0))) (wy q177) (cw (m:=(ax t).2) (n:=0) rfl rfl) (lv (vb (decide (((ax t).2)=0))) (wy q177) (ah rfl) ?_))
  by_cases q180:((ax t).2)=0
  ·
   refine ag (wn (dt q180)) (ag (wn (dt q180)) (ag (wn (dt q180)) (ag (wn (dt q180)) (ag (wn (dt q180)) (ag (wn (dt q180)) (ag (wn (dt q180)) (ag (wn (dt q180)) (ag (wn (dt q180)) (ag (bA rfl rfl rfl) ?_)))))))))
   refine ag (bA rfl rfl rfl) (ag (bA rfl rfl rfl) (ag (wn (dt q180)) (lv (vb true) (wy q177) (az rfl (dt q180) rfl) (lw (vb true) (az rfl q177 rfl) (mv (vb true) (lv (vp b103 0) (wy rfl) (ah z146_13) (cQ (wy rfl) (c6 (aU (vals:=[vp b103 0]) Try.func22 mA mN rfl) (aC Try.func22 rfl nq ?_)))))))))
   refine a9 (a6 rfl (ma (vb false) (af (a9 (a9 (a6 rfl (ai 0 (af (av ?_)))))))))
   refine aX (σ:=Nat×eZ×aG) (λ⟨i_c2,L_c2,gq⟩ f w=>b9 w0 gq w/\f 0=vp b103 0/\f 3=vi ↑i_c2/\Sl gq (is 0) w t_v t.2.1/\Sl gq (is 0) w t_v1 t.2.2/\Ow gq (is 2) (is 2) w (db v15) (t.2.1++[((-7:Int),(0:Int),(0:Int),(0:Int))])/\Ow gq (is 3) (is 3) w (db v17) (t.2.2++[(-7:Int)])/\Bx gq (is 7) w b42 [v34,v36,vi ((((ax t).1).2).2)]/\Bx gq (is 13) w b103 [b_0_c1_v,vi b_1_c1]/\bN gq 16 w b_0_c1_v L_c2/\(gg L_c2 i_c2)) (λ⟨i_c2,L_c2,gq⟩=>List.length L_c2-i_c2) (0,b_0_c1,g376) ?_ ?_
   · exact⟨bH,rfl,rfl,Rt,r_t_v1,o16,o18,bx47,bx105,o_b_0_c1,by exact cA.ap ‹_›⟩
   clear Rt r_t_v1 o16 o18 o35 o37 bx47 bx105 o_b_0_c1 bH
   rintro⟨i_c2,L_c2,g379⟩ f377 w378 ⟨bH,zs0_c2,zs3_c2,Rt,r_t_v1,o16,o18,bx47,bx105,o_b_0_c1,ha_c2⟩ back2_c2
   have hale_c2:=ha_c2.le
   have hafew_c2:=ha_c2.few
   refine a9 (a9 (a6 rfl (mz zs3_c2 (mz zs0_c2 (lw (vp b103 0) (ad rfl) (lx (a7 e6 rfl rfl rfl rfl) (lx (a8 aN rfl bx105 rfl) ?_)))))))
   have len380:=(o_b_0_c1.sl).small
   refine lx (ba c5 rfl o_b_0_c1.sl) (lx (bo (m:=↑i_c2) (n:=(L_c2.length:Int)) rfl rfl) (af ?_))
   by_cases p2_c2:(i_c2:Int)<(L_c2.length:Int)
   ·
    refine aj rfl (dt p2_c2) ?_
    have hares_c2:=ha_c2.rest i_c2 (Nat.le_refl _) (by omega)
    refine au (a9 (av (a9 (a9 (bt g379 rfl cx (by kernel_rfl) ?_)))))
    intro w382 ch381
    refine qz zs0_c2 (qv (vp b103 0) (λw' hw'=>ad rfl) (qx (λw' hw'=>a7 e6 rfl rfl rfl rfl) ?_))
    replace bx105:=bx105.cn ch381
    refine qx (λw' hw'=>a8 aN rfl (bx105.bel hw') rfl) (qz zs3_c2 ?_)
    replace o_b_0_c1:=o_b_0_c1.cn ch381
    refine qx (λw' hw'=>aa (v:=b_0_c1_v) (i:=↑i_c2) c5 rfl rfl (o_b_0_c1.sl.bel hw') rfl (by omega) (by omega)) ?_
    obtain⟨v383,cel384,r385⟩:=bC (r:=(i_c2:Int)) o_b_0_c1 (by omega) (by omega)
    refine qx (λw' hw'=>bb ao rfl (bW cel384 hw')) ?_
    have len386:=(r385.row_sl).small
    refine qx (λw' hw'=>ba aW rfl (r385.row_sl.bel hw')) (qz zs0_c2 (qv (vp b103 0) (λw' hw'=>ad rfl) (qx (λw' hw'=>a7 e6 rfl rfl rfl rfl) (qx (λw' hw'=>a8 aN rfl (bx105.bel hw') rfl) (qz zs3_c2 (qx (λw' hw'=>aa (v:=b_0_c1_v) (i:=↑i_c2) c5 rfl rfl (o_b_0_c1.sl.bel hw') rfl (by omega) (by omega)) ?_))))))
    obtain⟨v387,cel388,r389⟩:=bC (r:=(i_c2:Int)) o_b_0_c1 (by omega) (by omega)
    refine qx (λw' hw'=>bb ao rfl (bW cel388 hw')) ?_
    have cap390:=Sl.cap r389.row_sl
    refine qv (vi (b7 v387:Int)) (λw' hw'=>ic aW rfl (r389.row_sl.bel hw')) (dJ (v:=vi (min (b7 v387:Int) ((List.length (gI L_c2 ↑i_c2):Int)+2000))) rfl (λw' hw'=>aU (vals:=[vi (List.length (gI L_c2 ↑i_c2):Int),vi (b7 v387:Int)]) Try.func28 eA eD rfl) (λw' hw'=>(ex w' (List.length (gI L_c2 ↑i_c2):Int) (b7 v387:Int) (by omega)).mono λe w2 h2=>⟨h2.1,hw'.trans (h2.2.mono hw'.size)⟩) (qv (vi (min (b7 v387:Int) ((List.length (gI L_c2 ↑i_c2):Int)+2000))) (λw' hw'=>bD rfl) (bX ?_)))
    intro w391 hc392
    replace hc392:=aB hc392 g379
    refine av ?_
    clear cel384 r385 cel388 r389
    refine aX (σ:=eZ×aG) (λ⟨L1_c2,gq⟩ f w=>b9 w0 gq w/\f 0=vp b103 0/\f 3=vi ↑i_c2/\f 4=vi (min (b7 v387:Int) ((List.length (gI L_c2 ↑i_c2):Int)+2000))/\Sl gq (is 0) w t_v t.2.1/\Sl gq (is 0) w t_v1 t.2.2/\Ow gq (is 2) (is 2) w (db v15) (t.2.1++[((-7:Int),(0:Int),(0:Int),(0:Int))])/\Ow gq (is 3) (is 3) w (db v17) (t.2.2++[(-7:Int)])/\Bx gq (is 7) w b42 [v34,v36,vi ((((ax t).1).2).2)]/\Bx gq (is 13) w b103 [b_0_c1_v,vi b_1_c1]/\bN gq 16 w b_0_c1_v L1_c2/\(eh L1_c2 L_c2 i_c2 (min (b7 v387:Int) ((List.length (gI L_c2 ↑i_c2):Int)+2000)))) (λ⟨L1_c2,gq⟩=>Int.toNat ((min (b7 v387:Int) ((List.length (gI L_c2 ↑i_c2):Int)+2000))-(List.length (gI L1_c2 ↑i_c2):Int))) (L_c2,g379) ?_ ?_
    replace bH:=bH.cn ch381
    · exact⟨bH.cn hc392,zs0_c2,zs3_c2,rfl,(Rt.cn ch381).cn hc392,(r_t_v1.cn ch381).cn hc392,(o16.cn ch381).cn hc392,(o18.cn ch381).cn hc392,(bx47.cn ch381).cn hc392,bx105.cn hc392,o_b_0_c1.cn hc392,by exact eh.start ha_c2 ‹_›⟩
    clear Rt r_t_v1 o16 o18 bx47 bx105 o_b_0_c1 bH
    rintro⟨L1_c2,g395⟩ f393 w394 ⟨bH,zs0_c2,zs3_c2,zs4_c2,Rt,r_t_v1,o16,o18,bx47,bx105,o_b_0_c1,hg_c2⟩ back5_c2
    have hgl_c2:=hg_c2.len
    have hgle_c2:=hg_c2.le
    refine a9 (a9 (a6 rfl (mz zs0_c2 (lw (vp b103 0) (ad rfl) (lx (a7 e6 rfl rfl rfl rfl) (lx (a8 aN rfl bx105 rfl) (mz zs3_c2 (lx (aa (v:=b_0_c1_v) (i:=↑i_c2) c5 rfl rfl o_b_0_c1.sl rfl (by omega) (by omega)) ?_))))))))
    obtain⟨v396,cel397,r398⟩:=bC (r:=(i_c2:Int)) o_b_0_c1 (by omega) (by omega)
    refine lx (bb ao rfl cel397) ?_
    have len399:=(r398.row_sl).small
    refine lx (ba aW rfl r398.row_sl) (mz zs4_c2 (lx (bo (m:=(List.length (gI L1_c2 ↑i_c2):Int)) (n:=min (b7 v387:Int) ((List.length (gI L_c2 ↑i_c2):Int)+2000)) rfl rfl) (af ?_)))
    by_cases p5_c2:(List.length (gI L1_c2 ↑i_c2):Int)<(min (b7 v387:Int) ((List.length (gI L_c2 ↑i_c2):Int)+2000))
    ·
     refine aj rfl (dt p5_c2) (au (av ?_))
     clear cel397 r398
     refine bS (σ:=aG) (λgq f w=>b9 w0 gq w/\f 0=vp b103 0/\f 3=vi ↑i_c2/\f 4=vi (min (b7 v387:Int) ((List.length (gI L_c2 ↑i_c2):Int)+2000))/\Sl gq (is 0) w t_v t.2.1/\Sl gq (is 0) w t_v1 t.2.2/\Ow gq (is 2) (is 2) w (db v15) (t.2.1++[((-7:Int),(0:Int),(0:Int),(0:Int))])/\Ow gq (is 3) (is 3) w (db v17) (t.2.2++[(-7:Int)])/\Bx gq (is 7) w b42 [v34,v36,vi ((((ax t).1).2).2)]/\Bx gq (is 13) w b103 [b_0_c1_v,vi b_1_c1]/\bN gq 16 w b_0_c1_v (List.set L1_c2 (Int.toNat ↑i_c2) (gI L1_c2 ↑i_c2++([0]:List Int)))) g395 [0,1,2,4,5,6,7,8,9,10,11,14] cx ?_ ?_
     ·
      intro mid
      intro w401 ch400
      refine xp (v:=vp b103 0) 0 rfl (λw=>ah zs0_c2) (xp (v:=vp b103 0) 1 rfl (λw=>ad rfl) (xp 2 rfl (λw=>a7 e6 rfl rfl rfl rfl) (xp (v:=vi ↑i_c2) 4 rfl (λw=>ah zs3_c2) (xp (v:=vp b103 0) 5 rfl (λw=>ah zs0_c2) (xp (v:=vp b103 0) 6 rfl (λw=>ad rfl) (xp 7 rfl (λw=>a7 e6 rfl rfl rfl rfl) ?_))))))
      replace bx105:=bx105.cn ch400
      refine xh 8 [7,6,5,4,2,1,0,3,9,12] rfl (λw' hw'=>a8 aN rfl (bx105.bel hw') rfl) (xp (v:=vi ↑i_c2) 9 rfl (λw=>ah zs3_c2) ?_)
      replace o_b_0_c1:=o_b_0_c1.cn ch400
      refine xh 10 [9,8,7,6,5,4,2,1,0,3,12] rfl (λw' hw'=>aa (v:=b_0_c1_v) (i:=↑i_c2) c5 rfl rfl (o_b_0_c1.sl.bel hw') rfl (by omega) (by omega)) ?_
      obtain⟨v402,cel403,r404⟩:=bC (r:=(i_c2:Int)) o_b_0_c1 (by omega) (by omega)
      refine xh 11 [10,9,8,7,6,5,4,2,1,0,3,12] rfl (λw' hw'=>bb ao rfl (bW cel403 hw')) ?_
      refine cq 3 12 rfl rfl (by kernel_rfl) rfl rfl ?_ ?_
      ·
       refine aV (v:=b_0_c1_v) (a8 aN rfl bx105 rfl) (aD 12 rfl (by kernel_rfl) rfl (aw (α:=Int) g395 (is 17) (is 17) (17,0) rfl ([0]:List Int) aW ae (by decide) (by decide) (vs:=[(0,vi 0)]) rfl rfl (.cons rfl .nil) ?_))
       intro g405 w406 v407 ch408 o409
       refine aD 13 rfl (by kernel_rfl) rfl ?_
       replace o_b_0_c1:=o_b_0_c1.cn ch408
       replace r404:=r404.cn ch408
       refine aA (α:=Int) (xs:=(gI L1_c2 ↑i_c2)) (ys:=([0]:List Int)) g405 (J:=row 16 (Int.toNat ↑i_c2+1)) (S:=row 16 (Int.toNat ↑i_c2+1)) (16,Int.toNat ↑i_c2+1) rfl aW ae (by decide) rfl rfl rfl r404 o409.flat (by decide) (by(simp;omega)) ?_
       intro g410 w411 v412 ch413 o414
       have o415:=o_b_0_c1.rowchg ch413
       clear o_b_0_c1 cel403 r404
       obtain⟨us416,hl417,r418⟩:=o415.vc
       try simp only[List.length_set,List.length_append,List.length_cons,List.length_nil] at hl417
       refine xv 14 [13,12,3,11,10,9,8,7,6,5,4,2,1,0] rfl (aa (v:=b_0_c1_v) (i:=↑i_c2) c5 rfl rfl r418 rfl (by omega) (by omega)) (aD 15 rfl (by kernel_rfl) rfl (aJ (r:=(i_c2:Int)) ao rfl rfl o415 o414 (by omega) (by omega) ?_))
       intro w422 ch423 o424
       clear o415 o414
       refine bc (by kernel_rfl) ?_
       have C426:=cg [16] (ch408.n.seq ((ch413.lr rfl).seq (ch423.l rfl)))
       have C425:=ch400.n.seq C426
       exact mid (g410) _ _ ⟨bH.ca C425,zs0_c2,zs3_c2,zs4_c2,Rt.ca C425,r_t_v1.ca C425,o16.ca C425,o18.ca C425,bx47.ca C425,bx105.ca C426,o424⟩
      ·
       refine aw (α:=Int) g395 (is 17) (is 17) (17,0) rfl ([0]:List Int) aW ae (by decide) (by decide) (vs:=[(0,vi 0)]) rfl rfl (.cons rfl .nil) ?_
       intro g427 w428 v429 ch430 o431
       refine cq 3 13 rfl rfl (by kernel_rfl) rfl rfl ?_ ?_
       ·
        replace bx105:=bx105.cn ch430
        refine aV (v:=b_0_c1_v) (a8 aN rfl bx105 rfl) (aD 13 rfl (by kernel_rfl) rfl ?_)
        replace o_b_0_c1:=o_b_0_c1.cn ch430
        replace r404:=r404.cn ch430
        refine aA (α:=Int) (xs:=(gI L1_c2 ↑i_c2)) (ys:=([0]:List Int)) g427 (J:=row 16 (Int.toNat ↑i_c2+1)) (S:=row 16 (Int.toNat ↑i_c2+1)) (16,Int.toNat ↑i_c2+1) rfl aW ae (by decide) rfl rfl rfl r404 o431.flat (by decide) (by(simp;omega)) ?_
        intro g432 w433 v434 ch435 o436
        have o437:=o_b_0_c1.rowchg ch435
        clear o_b_0_c1 cel403 r404
        obtain⟨us438,hl439,r440⟩:=o437.vc
        try simp only[List.length_set,List.length_append,List.length_cons,List.length_nil] at hl439
        refine xv 14 [13,3,12,11,10,9,8,7,6,5,4,2,1,0] rfl (aa (v:=b_0_c1_v) (i:=↑i_c2) c5 rfl rfl r440 rfl (by omega) (by omega)) (aD 15 rfl (by kernel_rfl) rfl (aJ (r:=(i_c2:Int)) ao rfl rfl o437 o436 (by omega) (by omega) ?_))
        intro w444 ch445 o446
        clear o437 o436
        refine bc (by kernel_rfl) ?_
        have C447:=cg [16] (ch400.n.seq (ch430.n.seq ((ch435.lr rfl).seq (ch445.l rfl))))
        exact mid (g432) _ _ ⟨bH.ca C447,zs0_c2,zs3_c2,zs4_c2,Rt.ca C447,r_t_v1.ca C447,o16.ca C447,o18.ca C447,bx47.ca C447,(bx105.chg ch435 (br rfl)).ce ch445,o446⟩
       ·
        replace o_b_0_c1:=o_b_0_c1.cn ch430
        replace r404:=r404.cn ch430
        refine aA (α:=Int) (xs:=(gI L1_c2 ↑i_c2)) (ys:=([0]:List Int)) g427 (J:=row 16 (Int.toNat ↑i_c2+1)) (S:=row 16 (Int.toNat ↑i_c2+1)) (16,Int.toNat ↑i_c2+1) rfl aW ae (by decide) rfl rfl rfl r404 o431.flat (by decide) (by(simp;omega)) ?_
        intro g448 w449 v450 ch451 o452
        have o453:=o_b_0_c1.rowchg ch451
        clear o_b_0_c1 cel403 r404
        replace bx105:=(bx105.cn ch430).chg ch451 (br rfl)
        refine aD 3 rfl (by kernel_rfl) rfl (aV (v:=b_0_c1_v) (a8 aN rfl bx105 rfl) ?_)
        obtain⟨us454,hl455,r456⟩:=o453.vc
        try simp only[List.length_set,List.length_append,List.length_cons,List.length_nil] at hl455
        refine xv 14 [3,13,12,11,10,9,8,7,6,5,4,2,1,0] rfl (aa (v:=b_0_c1_v) (i:=↑i_c2) c5 rfl rfl r456 rfl (by omega) (by omega)) (aD 15 rfl (by kernel_rfl) rfl (aJ (r:=(i_c2:Int)) ao rfl rfl o453 o452 (by omega) (by omega) ?_))
        intro w460 ch461 o462
        clear o453 o452
        refine bc (by kernel_rfl) ?_
        have C463:=cg [16] (ch400.n.seq (ch430.n.seq ((ch451.lr rfl).seq (ch461.l rfl))))
        exact mid (g448) _ _ ⟨bH.ca C463,zs0_c2,zs3_c2,zs4_c2,Rt.ca C463,r_t_v1.ca C463,o16.ca C463,o18.ca C463,bx47.ca C463,bx105.ce ch461,o462⟩
     clear Rt r_t_v1 o16 o18 bx47 bx105 o_b_0_c1 bH
     rintro g466 f464 w465 ⟨bH,zs0_c2,zs3_c2,zs4_c2,Rt,r_t_v1,o16,o18,bx47,bx105,o422⟩
     refine aq ?_
     refine back5_c2 ((List.set L1_c2 (Int.toNat ↑i_c2) (gI L1_c2 ↑i_c2++([0]:List Int))),g466) _ _ ⟨bH,zs0_c2,zs3_c2,zs4_c2,Rt,r_t_v1,o16,o18,bx47,bx105,o422,?_⟩ ?_
     · show eh (List.set L1_c2 (Int.toNat ↑i_c2) (gI L1_c2 ↑i_c2++([0]:List Int))) L_c2 i_c2 (min (b7 v387:Int) ((List.length (gI L_c2 ↑i_c2):Int)+2000))
       exact hg_c2.next ‹_› ‹_› (by omega)
     · show Int.toNat ((min (b7 v387:Int) ((List.length (gI L_c2 ↑i_c2):Int)+2000))-(List.length (gI (List.set L1_c2 (Int.toNat ↑i_c2) (gI L1_c2 ↑i_c2++([0]:List Int))) (i_c2:Int)):Int))<Int.toNat ((min (b7 v387:Int) ((List.length (gI L_c2 ↑i_c2):Int)+2000))-(List.length (gI L1_c2 ↑i_c2):Int))
       (have h1:=hg_c2.meas ‹_›;omega)
    refine am rfl (df p5_c2) (aM rfl (a9 ?_))
    clear cel397 r398
    refine a6 rfl (ai 0 (af (av ?_)))
    refine aX (σ:=Nat×eZ×aG) (λ⟨k_c2,L2_c2,gq⟩ f w=>b9 w0 gq w/\f 0=vp b103 0/\f 3=vi ↑i_c2/\f 5=vi ↑k_c2/\Sl gq (is 0) w t_v t.2.1/\Sl gq (is 0) w t_v1 t.2.2/\Ow gq (is 2) (is 2) w (db v15) (t.2.1++[((-7:Int),(0:Int),(0:Int),(0:Int))])/\Ow gq (is 3) (is 3) w (db v17) (t.2.2++[(-7:Int)])/\Bx gq (is 7) w b42 [v34,v36,vi ((((ax t).1).2).2)]/\Bx gq (is 13) w b103 [b_0_c1_v,vi b_1_c1]/\bN gq 16 w b_0_c1_v L2_c2/\(gf L2_c2 L_c2 i_c2 k_c2)) (λ⟨k_c2,L2_c2,gq⟩=>List.length (gI L2_c2 ↑i_c2)-k_c2) (0,L1_c2,g395) ?_ ?_
    · exact⟨bH,zs0_c2,zs3_c2,rfl,Rt,r_t_v1,o16,o18,bx47,bx105,o_b_0_c1,by exact hg_c2.wr⟩
    clear Rt r_t_v1 o16 o18 bx47 bx105 o_b_0_c1 bH
    rintro⟨k_c2,L2_c2,g469⟩ f467 w468 ⟨bH,zs0_c2,zs3_c2,zs5_c2,Rt,r_t_v1,o16,o18,bx47,bx105,o_b_0_c1,hw_c2⟩ back8_c2
    have hwl_c2:=hw_c2.len
    have hwle_c2:=hw_c2.le
    have hwf_c2:=hw_c2.few
    refine a9 (a9 (a6 rfl (mz zs5_c2 (mz zs0_c2 (lw (vp b103 0) (ad rfl) (lx (a7 e6 rfl rfl rfl rfl) (lx (a8 aN rfl bx105 rfl) (mz zs3_c2 (lx (aa (v:=b_0_c1_v) (i:=↑i_c2) c5 rfl rfl o_b_0_c1.sl rfl (by omega) (by omega)) ?_)))))))))
    obtain⟨v470,cel471,r472⟩:=bC (r:=(i_c2:Int)) o_b_0_c1 (by omega) (by omega)
    refine lx (bb ao rfl cel471) ?_
    have len473:=(r472.row_sl).small
    refine lx (ba aW rfl r472.row_sl) (lx (bo (m:=↑k_c2) (n:=(List.length (gI L2_c2 ↑i_c2):Int)) rfl rfl) (af ?_))
    by_cases p8_c2:(k_c2:Int)<(List.length (gI L2_c2 ↑i_c2):Int)
    ·
     refine aj rfl (dt p8_c2) (au (a9 (av ?_)))
     clear cel471 r472
     refine a6 rfl (mz zs0_c2 (lw (vp b103 0) (ad rfl) (lx (a7 e6 rfl rfl rfl rfl) (lx (a8 aN rfl bx105 rfl) (mz zs3_c2 (lx (aa (v:=b_0_c1_v) (i:=↑i_c2) c5 rfl rfl o_b_0_c1.sl rfl (by omega) (by omega)) ?_))))))
     obtain⟨v474,cel475,r476⟩:=bC (r:=(i_c2:Int)) o_b_0_c1 (by omega) (by omega)
     refine lx (bb ao rfl cel475) (mz zs5_c2 (mz zs3_c2 (lx (cV (m:= -1000) (n:=↑i_c2) rfl rfl (by omega)) (lx (aa (v:=v474) (i:=↑k_c2) aW rfl rfl r476.row_sl rfl (by omega) (by omega)) (lo (aK (i:=↑k_c2) ((-1000)-(i_c2:Int)) ae rfl rfl r476 (by omega) (by omega) rfl ?_))))))
     intro w480 ch481 r482
     obtain⟨o483,cel484⟩:=oo (r:=(i_c2:Int)) o_b_0_c1 (by omega) (by omega) ch481 cel475 r482
     clear o_b_0_c1 cel475 r476
     refine af (aq ?_)
     clear cel484 r482
     refine a6 rfl (mz zs5_c2 (lx (aP (m:=↑k_c2) (n:=1) rfl rfl (by omega)) (ai ((k_c2:Int)+1) (af ?_))))
     refine back8_c2 (k_c2+1,(List.set L2_c2 (Int.toNat ↑i_c2) (List.set (gI L2_c2 ↑i_c2) (Int.toNat ↑k_c2) ((-1000)-(i_c2:Int)))),g469) _ _ ⟨bH.chg ch481 (br rfl),zs0_c2,zs3_c2,rfl,Rt.chg ch481 (br rfl),r_t_v1.chg ch481 (br rfl),o16.chg ch481 (br rfl) (br rfl),o18.chg ch481 (br rfl) (br rfl),bx47.chg ch481 (br rfl),bx105.chg ch481 (br rfl),o483,?_⟩ ?_
     · show gf (List.set L2_c2 (Int.toNat ↑i_c2) (List.set (gI L2_c2 ↑i_c2) (Int.toNat ↑k_c2) ((-1000)-(i_c2:Int)))) L_c2 i_c2 (k_c2+1)
       exact(hw_c2.next ‹_› ‹_›).1
     · show List.length (gI (List.set L2_c2 (Int.toNat ↑i_c2) (List.set (gI L2_c2 ↑i_c2) (Int.toNat ↑k_c2) ((-1000)-(i_c2:Int)))) (i_c2:Int))-(k_c2+1)<List.length (gI L2_c2 ↑i_c2)-k_c2
       (have h1:=(hw_c2.next ‹_› ‹_›).2;omega)
    refine am rfl (df p8_c2) (aM rfl (aq ?_))
    clear cel471 r472
    refine a6 rfl (mz zs3_c2 (lx (aP (m:=↑i_c2) (n:=1) rfl rfl (by omega)) (ai ((i_c2:Int)+1) (af ?_))))
    refine back2_c2 (i_c2+1,L2_c2,g469) _ _ ⟨bH,zs0_c2,rfl,Rt,r_t_v1,o16,o18,bx47,bx105,o_b_0_c1,?_⟩ ?_
    · show gg L2_c2 (i_c2+1)
      exact hw_c2.fin ha_c2 ‹_› ‹_›
    · show List.length L2_c2-(i_c2+1)<List.length L_c2-i_c2
      (have h1:=hw_c2.len;omega)
   refine am rfl (df p2_c2) (aM rfl (a9 (a9 (a6 rfl (ai 0 (af (av ?_)))))))
   refine aX (σ:=Nat×aG) (λ⟨m_c2,gq⟩ f w=>b9 w0 gq w/\f 0=vp b103 0/\f 6=vi ↑m_c2/\Sl gq (is 0) w t_v t.2.1/\Sl gq (is 0) w t_v1 t.2.2/\Ow gq (is 2) (is 2) w (db v15) (t.2.1++[((-7:Int),(0:Int),(0:Int),(0:Int))])/\Ow gq (is 3) (is 3) w (db v17) (t.2.2++[(-7:Int)])/\Bx gq (is 7) w b42 [v34,v36,vi ((((ax t).1).2).2)]/\Bx gq (is 13) w b103 [b_0_c1_v,vi b_1_c1]/\bN gq 16 w b_0_c1_v L_c2/\(m_c2:Int)<=((L_c2.length:Int):Int)/\(True)) (λ⟨m_c2,gq⟩=>Int.toNat (((L_c2.length:Int):Int)-(m_c2:Int))) (0,g379) ?_ ?_
   · exact⟨bH,zs0_c2,rfl,Rt,r_t_v1,o16,o18,bx47,bx105,o_b_0_c1,by omega,by trivial⟩
   clear Rt r_t_v1 o16 o18 bx47 bx105 o_b_0_c1 bH
   rintro⟨m_c2,g487⟩ f485 w486 ⟨bH,zs0_c2,zs6_c2,Rt,r_t_v1,o16,o18,bx47,bx105,o_b_0_c1,hle_m_c2,hinv12_c2⟩ back12_c2
   refine a9 (a9 (a6 rfl (mz zs6_c2 (mz zs0_c2 (lw (vp b103 0) (ad rfl) (lx (a7 e6 rfl rfl rfl rfl) (lx (a8 aN rfl bx105 rfl) (lx (ba c5 rfl o_b_0_c1.sl) (lx (bo (m:=↑m_c2) (n:=(L_c2.length:Int)) rfl rfl) (af ?_))))))))))
   by_cases p12_c2:(m_c2:Int)<(L_c2.length:Int)
   ·
    refine aj rfl (dt p12_c2) (au (a9 (av (a9 (a6 rfl (ai 0 (af (av ?_))))))))
    refine aX (σ:=Nat×aG) (λ⟨n_c2,gq⟩ f w=>b9 w0 gq w/\f 0=vp b103 0/\f 6=vi ↑m_c2/\f 7=vi ↑n_c2/\Sl gq (is 0) w t_v t.2.1/\Sl gq (is 0) w t_v1 t.2.2/\Ow gq (is 2) (is 2) w (db v15) (t.2.1++[((-7:Int),(0:Int),(0:Int),(0:Int))])/\Ow gq (is 3) (is 3) w (db v17) (t.2.2++[(-7:Int)])/\Bx gq (is 7) w b42 [v34,v36,vi ((((ax t).1).2).2)]/\Bx gq (is 13) w b103 [b_0_c1_v,vi b_1_c1]/\bN gq 16 w b_0_c1_v L_c2/\(n_c2:Int)<=((List.length (gI L_c2 ↑m_c2):Int):Int)/\(True)) (λ⟨n_c2,gq⟩=>Int.toNat (((List.length (gI L_c2 ↑m_c2):Int):Int)-(n_c2:Int))) (0,g487) ?_ ?_
    · exact⟨bH,zs0_c2,zs6_c2,rfl,Rt,r_t_v1,o16,o18,bx47,bx105,o_b_0_c1,by omega,by trivial⟩
    clear Rt r_t_v1 o16 o18 bx47 bx105 o_b_0_c1 bH
    rintro⟨n_c2,g490⟩ f488 w489 ⟨bH,zs0_c2,zs6_c2,zs7_c2,Rt,r_t_v1,o16,o18,bx47,bx105,o_b_0_c1,hle_n_c2,hinv15_c2⟩ back15_c2
    refine a9 (a9 (a6 rfl (mz zs7_c2 (mz zs0_c2 (lw (vp b103 0) (ad rfl) (lx (a7 e6 rfl rfl rfl rfl) (lx (a8 aN rfl bx105 rfl) (mz zs6_c2 (lx (aa (v:=b_0_c1_v) (i:=↑m_c2) c5 rfl rfl o_b_0_c1.sl rfl (by omega) (by omega)) ?_)))))))))
    obtain⟨v491,cel492,r493⟩:=bC (r:=(m_c2:Int)) o_b_0_c1 (by omega) (by omega)
    refine lx (bb ao rfl cel492) ?_
    have len494:=(r493.row_sl).small
    refine lx (ba aW rfl r493.row_sl) (lx (bo (m:=↑n_c2) (n:=(List.length (gI L_c2 ↑m_c2):Int)) rfl rfl) (af ?_))
    by_cases p15_c2:(n_c2:Int)<(List.length (gI L_c2 ↑m_c2):Int)
    ·
     refine aj rfl (dt p15_c2) (au (a9 (av (a9 ?_))))
     clear cel492 r493
     refine a6 rfl (mz zs0_c2 (lw (vp b103 0) (ad rfl) (lx (a7 e6 rfl rfl rfl rfl) (lx (a8 aN rfl bx105 rfl) (mz zs6_c2 (lx (aa (v:=b_0_c1_v) (i:=↑m_c2) c5 rfl rfl o_b_0_c1.sl rfl (by omega) (by omega)) ?_))))))
     obtain⟨v495,cel496,r497⟩:=bC (r:=(m_c2:Int)) o_b_0_c1 (by omega) (by omega)
     refine lx (bb ao rfl cel496) (mz zs7_c2 (lx (aa (v:=v495) (i:=↑n_c2) aW rfl rfl r497.row_sl rfl (by omega) (by omega)) (lx (ay (v:=v495) (i:=↑n_c2) ae rfl r497.row_sl (by omega) (by omega) (by decide) rfl) (mz zs6_c2 (lx (cV (m:= -1000) (n:=↑m_c2) rfl rfl (by omega)) (lx (cY (m:=(gI (gI L_c2 ↑m_c2) ↑n_c2)) (n:=(-1000)-(m_c2:Int)) rfl rfl) (af ?_)))))))
     have p17_c2:(gI (gI L_c2 ↑m_c2) ↑n_c2)=((-1000)-(m_c2:Int)):=by exact ha_c2.read (by omega) ‹_› ‹_›
     refine am rfl (congrArg Bool.not (dt p17_c2)) (au (aq ?_))
     clear cel496 r497
     refine a6 rfl (mz zs7_c2 (lx (aP (m:=↑n_c2) (n:=1) rfl rfl (by omega)) (ai ((n_c2:Int)+1) (af ?_))))
     refine back15_c2 (n_c2+1,g490) _ _ ⟨bH,zs0_c2,zs6_c2,rfl,Rt,r_t_v1,o16,o18,bx47,bx105,o_b_0_c1,by omega,?_⟩ ?_
     · show True
       trivial
     · show Int.toNat (((List.length (gI L_c2 ↑m_c2):Int):Int)-((n_c2+1):Int))<Int.toNat (((List.length (gI L_c2 ↑m_c2):Int):Int)-(n_c2:Int))
       omega
    refine am rfl (df p15_c2) (aM rfl (aq ?_))
    clear cel492 r493
    refine a6 rfl (mz zs6_c2 (lx (aP (m:=↑m_c2) (n:=1) rfl rfl (by omega)) (ai ((m_c2:Int)+1) (af ?_))))
    refine back12_c2 (m_c2+1,g490) _ _ ⟨bH,zs0_c2,rfl,Rt,r_t_v1,o16,o18,bx47,bx105,o_b_0_c1,by omega,?_⟩ ?_
    · show True
      trivial
    · show Int.toNat (((L_c2.length:Int):Int)-((m_c2+1):Int))<Int.toNat (((L_c2.length:Int):Int)-(m_c2:Int))
      omega
   refine am rfl (df p12_c2) (aM rfl (a9 (a6 rfl (ma (vb true) (af (aF (vs:=[vb true]) Try.func22 (.tmp rfl .nil) ?_))))))
   refine⟨vb true,rfl,?_⟩
   refine lw (vb true) (az rfl rfl rfl) (ma (vb true) (af (aF (vs:=[vb true]) Try.func3 (.tmp rfl .nil) ?_)))
   have e0:(true:Bool)=(true):=by
     rfl
   exact⟨rb e0,bH.below⟩
  obtain⟨hl1,hl2,hl3⟩:=qt (T:=t) ‹_›
  refine lv (vp b42 0) (wy (df q180)) (a7 ff rfl rfl z146_5 rfl) (lv (v34) (wy (df q180)) (a8 ao rfl bx47 rfl) ?_)
  have len498:=(o35).small
  refine lv (vi (List.length (((ax t).1).1):Int)) (wy (df q180)) (ba aW rfl o35) (lv (vp b42 1) (wy (df q180)) (a7 ff rfl rfl z146_5 rfl) (lv (v36) (wy (df q180)) (a8 ao rfl bx47 rfl) ?_))
  have len499:=(o37).small
  refine lv (vi (List.length ((((ax t).1).2).1):Int)) (wy (df q180)) (ba aW rfl o37) (lv (vi ((List.length (((ax t).1).1):Int)+(List.length ((((ax t).1).2).1):Int))) (wy (df q180)) (aP (m:=(List.length (((ax t).1).1):Int)) (n:=(List.length ((((ax t).1).2).1):Int)) rfl rfl (by omega)) (lv (vb (decide (((List.length (((ax t).1).1):Int)+(List.length ((((ax t).1).2).1):Int))=0))) (wy (df q180)) (cw (m:=(List.length (((ax t).1).1):Int)+(List.length ((((ax t).1).2).1):Int)) (n:=0) rfl rfl) (lv (vb (decide (((List.length (((ax t).1).1):Int)+(List.length ((((ax t).1).2).1):Int))=0))) (wy (df q180)) (ah rfl) ?_)))
  have q189:((List.length (((ax t).1).1):Int)+(List.length ((((ax t).1).2).1):Int))=0:=by omega
  refine lv (vp b42 2) (wy (dt q189)) (a7 ff rfl rfl z146_5 rfl) (lv (vi ((((ax t).1).2).2)) (wy (dt q189)) (a8 gu rfl bx47 rfl) (lv (vb (decide (((((ax t).1).2).2)=0))) (wy (dt q189)) (cw (m:=(((ax t).1).2).2) (n:=0) rfl rfl) (lv (vb (decide (((((ax t).1).2).2)=0))) (wy (df q180)) (az rfl (dt q189) rfl) (lv (vb (decide (((((ax t).1).2).2)=0))) (wy q177) (aH rfl (df q180) rfl) (lw (vb (decide (((((ax t).1).2).2)=0))) (az rfl q177 rfl) (mv (vb (decide (((((ax t).1).2).2)=0))) ?_))))))
  have q196:((((ax t).1).2).2)=0:=by assumption
  refine lv (vp b103 0) (wy (dt q196)) (ah z146_13) (cQ (wy (dt q196)) (c6 (aU (vals:=[vp b103 0]) Try.func22 mA mN rfl) (aC Try.func22 rfl nq (a9 (a6 rfl (ma (vb false) (af (a9 (a9 (a6 rfl (ai 0 (af (av ?_)))))))))))))
  refine aX (σ:=Nat×eZ×aG) (λ⟨i_c3,L_c3,gq⟩ f w=>b9 w0 gq w/\f 0=vp b103 0/\f 3=vi ↑i_c3/\Sl gq (is 0) w t_v t.2.1/\Sl gq (is 0) w t_v1 t.2.2/\Ow gq (is 2) (is 2) w (db v15) (t.2.1++[((-7:Int),(0:Int),(0:Int),(0:Int))])/\Ow gq (is 3) (is 3) w (db v17) (t.2.2++[(-7:Int)])/\Bx gq (is 7) w b42 [v34,v36,vi ((((ax t).1).2).2)]/\Bx gq (is 13) w b103 [b_0_c1_v,vi b_1_c1]/\bN gq 16 w b_0_c1_v L_c3/\(gg L_c3 i_c3)) (λ⟨i_c3,L_c3,gq⟩=>List.length L_c3-i_c3) (0,b_0_c1,g376) ?_ ?_
  · exact⟨bH,rfl,rfl,Rt,r_t_v1,o16,o18,bx47,bx105,o_b_0_c1,by exact cA.ap ‹_›⟩
  clear Rt r_t_v1 o16 o18 o35 o37 bx47 bx105 o_b_0_c1 bH
  rintro⟨i_c3,L_c3,g502⟩ f500 w501 ⟨bH,zs0_c3,zs3_c3,Rt,r_t_v1,o16,o18,bx47,bx105,o_b_0_c1,ha_c3⟩ back2_c3
  have hale_c3:=ha_c3.le
  have hafew_c3:=ha_c3.few
  refine a9 (a9 (a6 rfl (mz zs3_c3 (mz zs0_c3 (lw (vp b103 0) (ad rfl) (lx (a7 e6 rfl rfl rfl rfl) (lx (a8 aN rfl bx105 rfl) ?_)))))))
  have len503:=(o_b_0_c1.sl).small
  refine lx (ba c5 rfl o_b_0_c1.sl) (lx (bo (m:=↑i_c3) (n:=(L_c3.length:Int)) rfl rfl) (af ?_))
  by_cases p2_c3:(i_c3:Int)<(L_c3.length:Int)
  ·
   refine aj rfl (dt p2_c3) ?_
   have hares_c3:=ha_c3.rest i_c3 (Nat.le_refl _) (by omega)
   refine au (a9 (av (a9 (a9 (bt g502 rfl cx (by kernel_rfl) ?_)))))
   intro w505 ch504
   refine qz zs0_c3 (qv (vp b103 0) (λw' hw'=>ad rfl) (qx (λw' hw'=>a7 e6 rfl rfl rfl rfl) ?_))
   replace bx105:=bx105.cn ch504
   refine qx (λw' hw'=>a8 aN rfl (bx105.bel hw') rfl) (qz zs3_c3 ?_)
   replace o_b_0_c1:=o_b_0_c1.cn ch504
   refine qx (λw' hw'=>aa (v:=b_0_c1_v) (i:=↑i_c3) c5 rfl rfl (o_b_0_c1.sl.bel hw') rfl (by omega) (by omega)) ?_
   obtain⟨v506,cel507,r508⟩:=bC (r:=(i_c3:Int)) o_b_0_c1 (by omega) (by omega)
   refine qx (λw' hw'=>bb ao rfl (bW cel507 hw')) ?_
   have len509:=(r508.row_sl).small
   refine qx (λw' hw'=>ba aW rfl (r508.row_sl.bel hw')) (qz zs0_c3 (qv (vp b103 0) (λw' hw'=>ad rfl) (qx (λw' hw'=>a7 e6 rfl rfl rfl rfl) (qx (λw' hw'=>a8 aN rfl (bx105.bel hw') rfl) (qz zs3_c3 (qx (λw' hw'=>aa (v:=b_0_c1_v) (i:=↑i_c3) c5 rfl rfl (o_b_0_c1.sl.bel hw') rfl (by omega) (by omega)) ?_))))))
   obtain⟨v510,cel511,r512⟩:=bC (r:=(i_c3:Int)) o_b_0_c1 (by omega) (by omega)
   refine qx (λw' hw'=>bb ao rfl (bW cel511 hw')) ?_
   have cap513:=Sl.cap r512.row_sl
   refine qv (vi (b7 v510:Int)) (λw' hw'=>ic aW rfl (r512.row_sl.bel hw')) (dJ (v:=vi (min (b7 v510:Int) ((List.length (gI L_c3 ↑i_c3):Int)+2000))) rfl (λw' hw'=>aU (vals:=[vi (List.length (gI L_c3 ↑i_c3):Int),vi (b7 v510:Int)]) Try.func28 eA eD rfl) (λw' hw'=>(ex w' (List.length (gI L_c3 ↑i_c3):Int) (b7 v510:Int) (by omega)).mono λe w2 h2=>⟨h2.1,hw'.trans (h2.2.mono hw'.size)⟩) (qv (vi (min (b7 v510:Int) ((List.length (gI L_c3 ↑i_c3):Int)+2000))) (λw' hw'=>bD rfl) (bX ?_)))
   intro w514 hc515
   replace hc515:=aB hc515 g502
   refine av ?_
   clear cel507 r508 cel511 r512
   refine aX (σ:=eZ×aG) (λ⟨L1_c3,gq⟩ f w=>b9 w0 gq w/\f 0=vp b103 0/\f 3=vi ↑i_c3/\f 4=vi (min (b7 v510:Int) ((List.length (gI L_c3 ↑i_c3):Int)+2000))/\Sl gq (is 0) w t_v t.2.1/\Sl gq (is 0) w t_v1 t.2.2/\Ow gq (is 2) (is 2) w (db v15) (t.2.1++[((-7:Int),(0:Int),(0:Int),(0:Int))])/\Ow gq (is 3) (is 3) w (db v17) (t.2.2++[(-7:Int)])/\Bx gq (is 7) w b42 [v34,v36,vi ((((ax t).1).2).2)]/\Bx gq (is 13) w b103 [b_0_c1_v,vi b_1_c1]/\bN gq 16 w b_0_c1_v L1_c3/\(eh L1_c3 L_c3 i_c3 (min (b7 v510:Int) ((List.length (gI L_c3 ↑i_c3):Int)+2000)))) (λ⟨L1_c3,gq⟩=>Int.toNat ((min (b7 v510:Int) ((List.length (gI L_c3 ↑i_c3):Int)+2000))-(List.length (gI L1_c3 ↑i_c3):Int))) (L_c3,g502) ?_ ?_
   replace bH:=bH.cn ch504
   · exact⟨bH.cn hc515,zs0_c3,zs3_c3,rfl,(Rt.cn ch504).cn hc515,(r_t_v1.cn ch504).cn hc515,(o16.cn ch504).cn hc515,(o18.cn ch504).cn hc515,(bx47.cn ch504).cn hc515,bx105.cn hc515,o_b_0_c1.cn hc515,by exact eh.start ha_c3 ‹_›⟩
   clear Rt r_t_v1 o16 o18 bx47 bx105 o_b_0_c1 bH
   rintro⟨L1_c3,g518⟩ f516 w517 ⟨bH,zs0_c3,zs3_c3,zs4_c3,Rt,r_t_v1,o16,o18,bx47,bx105,o_b_0_c1,hg_c3⟩ back5_c3
   have hgl_c3:=hg_c3.len
   have hgle_c3:=hg_c3.le
   refine a9 (a9 (a6 rfl (mz zs0_c3 (lw (vp b103 0) (ad rfl) (lx (a7 e6 rfl rfl rfl rfl) (lx (a8 aN rfl bx105 rfl) (mz zs3_c3 (lx (aa (v:=b_0_c1_v) (i:=↑i_c3) c5 rfl rfl o_b_0_c1.sl rfl (by omega) (by omega)) ?_))))))))
   obtain⟨v519,cel520,r521⟩:=bC (r:=(i_c3:Int)) o_b_0_c1 (by omega) (by omega)
   refine lx (bb ao rfl cel520) ?_
   have len522:=(r521.row_sl).small
   refine lx (ba aW rfl r521.row_sl) (mz zs4_c3 (lx (bo (m:=(List.length (gI L1_c3 ↑i_c3):Int)) (n:=min (b7 v510:Int) ((List.length (gI L_c3 ↑i_c3):Int)+2000)) rfl rfl) (af ?_)))
   by_cases p5_c3:(List.length (gI L1_c3 ↑i_c3):Int)<(min (b7 v510:Int) ((List.length (gI L_c3 ↑i_c3):Int)+2000))
   ·
    refine aj rfl (dt p5_c3) (au (av ?_))
    clear cel520 r521
    refine bS (σ:=aG) (λgq f w=>b9 w0 gq w/\f 0=vp b103 0/\f 3=vi ↑i_c3/\f 4=vi (min (b7 v510:Int) ((List.length (gI L_c3 ↑i_c3):Int)+2000))/\Sl gq (is 0) w t_v t.2.1/\Sl gq (is 0) w t_v1 t.2.2/\Ow gq (is 2) (is 2) w (db v15) (t.2.1++[((-7:Int),(0:Int),(0:Int),(0:Int))])/\Ow gq (is 3) (is 3) w (db v17) (t.2.2++[(-7:Int)])/\Bx gq (is 7) w b42 [v34,v36,vi ((((ax t).1).2).2)]/\Bx gq (is 13) w b103 [b_0_c1_v,vi b_1_c1]/\bN gq 16 w b_0_c1_v (List.set L1_c3 (Int.toNat ↑i_c3) (gI L1_c3 ↑i_c3++([0]:List Int)))) g518 [0,1,2,4,5,6,7,8,9,10,11,14] cx ?_ ?_
    ·
     intro mid
     intro w524 ch523
     refine xp (v:=vp b103 0) 0 rfl (λw=>ah zs0_c3) (xp (v:=vp b103 0) 1 rfl (λw=>ad rfl) (xp 2 rfl (λw=>a7 e6 rfl rfl rfl rfl) (xp (v:=vi ↑i_c3) 4 rfl (λw=>ah zs3_c3) (xp (v:=vp b103 0) 5 rfl (λw=>ah zs0_c3) (xp (v:=vp b103 0) 6 rfl (λw=>ad rfl) (xp 7 rfl (λw=>a7 e6 rfl rfl rfl rfl) ?_))))))
     replace bx105:=bx105.cn ch523
     refine xh 8 [7,6,5,4,2,1,0,3,9,12] rfl (λw' hw'=>a8 aN rfl (bx105.bel hw') rfl) (xp (v:=vi ↑i_c3) 9 rfl (λw=>ah zs3_c3) ?_)
     replace o_b_0_c1:=o_b_0_c1.cn ch523
     refine xh 10 [9,8,7,6,5,4,2,1,0,3,12] rfl (λw' hw'=>aa (v:=b_0_c1_v) (i:=↑i_c3) c5 rfl rfl (o_b_0_c1.sl.bel hw') rfl (by omega) (by omega)) ?_
     obtain⟨v525,cel526,r527⟩:=bC (r:=(i_c3:Int)) o_b_0_c1 (by omega) (by omega)
     refine xh 11 [10,9,8,7,6,5,4,2,1,0,3,12] rfl (λw' hw'=>bb ao rfl (bW cel526 hw')) ?_
     refine cq 3 12 rfl rfl (by kernel_rfl) rfl rfl ?_ ?_
     ·
      refine aV (v:=b_0_c1_v) (a8 aN rfl bx105 rfl) (aD 12 rfl (by kernel_rfl) rfl (aw (α:=Int) g518 (is 18) (is 18) (18,0) rfl ([0]:List Int) aW ae (by decide) (by decide) (vs:=[(0,vi 0)]) rfl rfl (.cons rfl .nil) ?_))
      intro g528 w529 v530 ch531 o532
      refine aD 13 rfl (by kernel_rfl) rfl ?_
      replace o_b_0_c1:=o_b_0_c1.cn ch531
      replace r527:=r527.cn ch531
      refine aA (α:=Int) (xs:=(gI L1_c3 ↑i_c3)) (ys:=([0]:List Int)) g528 (J:=row 16 (Int.toNat ↑i_c3+1)) (S:=row 16 (Int.toNat ↑i_c3+1)) (16,Int.toNat ↑i_c3+1) rfl aW ae (by decide) rfl rfl rfl r527 o532.flat (by decide) (by(simp;omega)) ?_
      intro g533 w534 v535 ch536 o537
      have o538:=o_b_0_c1.rowchg ch536
      clear o_b_0_c1 cel526 r527
      obtain⟨us539,hl540,r541⟩:=o538.vc
      try simp only[List.length_set,List.length_append,List.length_cons,List.length_nil] at hl540
      refine xv 14 [13,12,3,11,10,9,8,7,6,5,4,2,1,0] rfl (aa (v:=b_0_c1_v) (i:=↑i_c3) c5 rfl rfl r541 rfl (by omega) (by omega)) (aD 15 rfl (by kernel_rfl) rfl (aJ (r:=(i_c3:Int)) ao rfl rfl o538 o537 (by omega) (by omega) ?_))
      intro w545 ch546 o547
      clear o538 o537
      refine bc (by kernel_rfl) ?_
      have C549:=cg [16] (ch531.n.seq ((ch536.lr rfl).seq (ch546.l rfl)))
      have C548:=ch523.n.seq C549
      exact mid (g533) _ _ ⟨bH.ca C548,zs0_c3,zs3_c3,zs4_c3,Rt.ca C548,r_t_v1.ca C548,o16.ca C548,o18.ca C548,bx47.ca C548,bx105.ca C549,o547⟩
     ·
      refine aw (α:=Int) g518 (is 18) (is 18) (18,0) rfl ([0]:List Int) aW ae (by decide) (by decide) (vs:=[(0,vi 0)]) rfl rfl (.cons rfl .nil) ?_
      intro g550 w551 v552 ch553 o554
      refine cq 3 13 rfl rfl (by kernel_rfl) rfl rfl ?_ ?_
      ·
       replace bx105:=bx105.cn ch553
       refine aV (v:=b_0_c1_v) (a8 aN rfl bx105 rfl) (aD 13 rfl (by kernel_rfl) rfl ?_)
       replace o_b_0_c1:=o_b_0_c1.cn ch553
       replace r527:=r527.cn ch553
       refine aA (α:=Int) (xs:=(gI L1_c3 ↑i_c3)) (ys:=([0]:List Int)) g550 (J:=row 16 (Int.toNat ↑i_c3+1)) (S:=row 16 (Int.toNat ↑i_c3+1)) (16,Int.toNat ↑i_c3+1) rfl aW ae (by decide) rfl rfl rfl r527 o554.flat (by decide) (by(simp;omega)) ?_
       intro g555 w556 v557 ch558 o559
       have o560:=o_b_0_c1.rowchg ch558
       clear o_b_0_c1 cel526 r527
       obtain⟨us561,hl562,r563⟩:=o560.vc
       try simp only[List.length_set,List.length_append,List.length_cons,List.length_nil] at hl562
       refine xv 14 [13,3,12,11,10,9,8,7,6,5,4,2,1,0] rfl (aa (v:=b_0_c1_v) (i:=↑i_c3) c5 rfl rfl r563 rfl (by omega) (by omega)) (aD 15 rfl (by kernel_rfl) rfl (aJ (r:=(i_c3:Int)) ao rfl rfl o560 o559 (by omega) (by omega) ?_))
       intro w567 ch568 o569
       clear o560 o559
       refine bc (by kernel_rfl) ?_
       have C570:=cg [16] (ch523.n.seq (ch553.n.seq ((ch558.lr rfl).seq (ch568.l rfl))))
       exact mid (g555) _ _ ⟨bH.ca C570,zs0_c3,zs3_c3,zs4_c3,Rt.ca C570,r_t_v1.ca C570,o16.ca C570,o18.ca C570,bx47.ca C570,(bx105.chg ch558 (br rfl)).ce ch568,o569⟩
      ·
       replace o_b_0_c1:=o_b_0_c1.cn ch553
       replace r527:=r527.cn ch553
       refine aA (α:=Int) (xs:=(gI L1_c3 ↑i_c3)) (ys:=([0]:List Int)) g550 (J:=row 16 (Int.toNat ↑i_c3+1)) (S:=row 16 (Int.toNat ↑i_c3+1)) (16,Int.toNat ↑i_c3+1) rfl aW ae (by decide) rfl rfl rfl r527 o554.flat (by decide) (by(simp;omega)) ?_
       intro g571 w572 v573 ch574 o575
       have o576:=o_b_0_c1.rowchg ch574
       clear o_b_0_c1 cel526 r527
       replace bx105:=(bx105.cn ch553).chg ch574 (br rfl)
       refine aD 3 rfl (by kernel_rfl) rfl (aV (v:=b_0_c1_v) (a8 aN rfl bx105 rfl) ?_)
       obtain⟨us577,hl578,r579⟩:=o576.vc
       try simp only[List.length_set,List.length_append,List.length_cons,List.length_nil] at hl578
       refine xv 14 [3,13,12,11,10,9,8,7,6,5,4,2,1,0] rfl (aa (v:=b_0_c1_v) (i:=↑i_c3) c5 rfl rfl r579 rfl (by omega) (by omega)) (aD 15 rfl (by kernel_rfl) rfl (aJ (r:=(i_c3:Int)) ao rfl rfl o576 o575 (by omega) (by omega) ?_))
       intro w583 ch584 o585
       clear o576 o575
       refine bc (by kernel_rfl) ?_
       have C586:=cg [16] (ch523.n.seq (ch553.n.seq ((ch574.lr rfl).seq (ch584.l rfl))))
       exact mid (g571) _ _ ⟨bH.ca C586,zs0_c3,zs3_c3,zs4_c3,Rt.ca C586,r_t_v1.ca C586,o16.ca C586,o18.ca C586,bx47.ca C586,bx105.ce ch584,o585⟩
    clear Rt r_t_v1 o16 o18 bx47 bx105 o_b_0_c1 bH
    rintro g589 f587 w588 ⟨bH,zs0_c3,zs3_c3,zs4_c3,Rt,r_t_v1,o16,o18,bx47,bx105,o545⟩
    refine aq ?_
    refine back5_c3 ((List.set L1_c3 (Int.toNat ↑i_c3) (gI L1_c3 ↑i_c3++([0]:List Int))),g589) _ _ ⟨bH,zs0_c3,zs3_c3,zs4_c3,Rt,r_t_v1,o16,o18,bx47,bx105,o545,?_⟩ ?_
    · show eh (List.set L1_c3 (Int.toNat ↑i_c3) (gI L1_c3 ↑i_c3++([0]:List Int))) L_c3 i_c3 (min (b7 v510:Int) ((List.length (gI L_c3 ↑i_c3):Int)+2000))
      exact hg_c3.next ‹_› ‹_› (by omega)
    · show Int.toNat ((min (b7 v510:Int) ((List.length (gI L_c3 ↑i_c3):Int)+2000))-(List.length (gI (List.set L1_c3 (Int.toNat ↑i_c3) (gI L1_c3 ↑i_c3++([0]:List Int))) (i_c3:Int)):Int))<Int.toNat ((min (b7 v510:Int) ((List.length (gI L_c3 ↑i_c3):Int)+2000))-(List.length (gI L1_c3 ↑i_c3):Int))
      (have h1:=hg_c3.meas ‹_›;omega)
   refine am rfl (df p5_c3) (aM rfl (a9 ?_))
   clear cel520 r521
   refine a6 rfl (ai 0 (af (av ?_)))
   refine aX (σ:=Nat×eZ×aG) (λ⟨k_c3,L2_c3,gq⟩ f w=>b9 w0 gq w/\f 0=vp b103 0/\f 3=vi ↑i_c3/\f 5=vi ↑k_c3/\Sl gq (is 0) w t_v t.2.1/\Sl gq (is 0) w t_v1 t.2.2/\Ow gq (is 2) (is 2) w (db v15) (t.2.1++[((-7:Int),(0:Int),(0:Int),(0:Int))])/\Ow gq (is 3) (is 3) w (db v17) (t.2.2++[(-7:Int)])/\Bx gq (is 7) w b42 [v34,v36,vi ((((ax t).1).2).2)]/\Bx gq (is 13) w b103 [b_0_c1_v,vi b_1_c1]/\bN gq 16 w b_0_c1_v L2_c3/\(gf L2_c3 L_c3 i_c3 k_c3)) (λ⟨k_c3,L2_c3,gq⟩=>List.length (gI L2_c3 ↑i_c3)-k_c3) (0,L1_c3,g518) ?_ ?_
   · exact⟨bH,zs0_c3,zs3_c3,rfl,Rt,r_t_v1,o16,o18,bx47,bx105,o_b_0_c1,by exact hg_c3.wr⟩
   clear Rt r_t_v1 o16 o18 bx47 bx105 o_b_0_c1 bH
   rintro⟨k_c3,L2_c3,g592⟩ f590 w591 ⟨bH,zs0_c3,zs3_c3,zs5_c3,Rt,r_t_v1,o16,o18,bx47,bx105,o_b_0_c1,hw_c3⟩ back8_c3
   have hwl_c3:=hw_c3.len
   have hwle_c3:=hw_c3.le
   have hwf_c3:=hw_c3.few
   refine a9 (a9 (a6 rfl (mz zs5_c3 (mz zs0_c3 (lw (vp b103 0) (ad rfl) (lx (a7 e6 rfl rfl rfl rfl) (lx (a8 aN rfl bx105 rfl) (mz zs3_c3 (lx (aa (v:=b_0_c1_v) (i:=↑i_c3) c5 rfl rfl o_b_0_c1.sl rfl (by omega) (by omega)) ?_)))))))))
   obtain⟨v593,cel594,r595⟩:=bC (r:=(i_c3:Int)) o_b_0_c1 (by omega) (by omega)
   refine lx (bb ao rfl cel594) ?_
   have len596:=(r595.row_sl).small
   refine lx (ba aW rfl r595.row_sl) (lx (bo (m:=↑k_c3) (n:=(List.length (gI L2_c3 ↑i_c3):Int)) rfl rfl) (af ?_))
   by_cases p8_c3:(k_c3:Int)<(List.length (gI L2_c3 ↑i_c3):Int)
   ·
    refine aj rfl (dt p8_c3) (au (a9 (av ?_)))
    clear cel594 r595
    refine a6 rfl (mz zs0_c3 (lw (vp b103 0) (ad rfl) (lx (a7 e6 rfl rfl rfl rfl) (lx (a8 aN rfl bx105 rfl) (mz zs3_c3 (lx (aa (v:=b_0_c1_v) (i:=↑i_c3) c5 rfl rfl o_b_0_c1.sl rfl (by omega) (by omega)) ?_))))))
    obtain⟨v597,cel598,r599⟩:=bC (r:=(i_c3:Int)) o_b_0_c1 (by omega) (by omega)
    refine lx (bb ao rfl cel598) (mz zs5_c3 (mz zs3_c3 (lx (cV (m:= -1000) (n:=↑i_c3) rfl rfl (by omega)) (lx (aa (v:=v597) (i:=↑k_c3) aW rfl rfl r599.row_sl rfl (by omega) (by omega)) (lo (aK (i:=↑k_c3) ((-1000)-(i_c3:Int)) ae rfl rfl r599 (by omega) (by omega) rfl ?_))))))
    intro w603 ch604 r605
    obtain⟨o606,cel607⟩:=oo (r:=(i_c3:Int)) o_b_0_c1 (by omega) (by omega) ch604 cel598 r605
    clear o_b_0_c1 cel598 r599
    refine af (aq ?_)
    clear cel607 r605
    refine a6 rfl (mz zs5_c3 (lx (aP (m:=↑k_c3) (n:=1) rfl rfl (by omega)) (ai ((k_c3:Int)+1) (af ?_))))
    refine back8_c3 (k_c3+1,(List.set L2_c3 (Int.toNat ↑i_c3) (List.set (gI L2_c3 ↑i_c3) (Int.toNat ↑k_c3) ((-1000)-(i_c3:Int)))),g592) _ _ ⟨bH.chg ch604 (br rfl),zs0_c3,zs3_c3,rfl,Rt.chg ch604 (br rfl),r_t_v1.chg ch604 (br rfl),o16.chg ch604 (br rfl) (br rfl),o18.chg ch604 (br rfl) (br rfl),bx47.chg ch604 (br rfl),bx105.chg ch604 (br rfl),o606,?_⟩ ?_
    · show gf (List.set L2_c3 (Int.toNat ↑i_c3) (List.set (gI L2_c3 ↑i_c3) (Int.toNat ↑k_c3) ((-1000)-(i_c3:Int)))) L_c3 i_c3 (k_c3+1)
      exact(hw_c3.next ‹_› ‹_›).1
    · show List.length (gI (List.set L2_c3 (Int.toNat ↑i_c3) (List.set (gI L2_c3 ↑i_c3) (Int.toNat ↑k_c3) ((-1000)-(i_c3:Int)))) (i_c3:Int))-(k_c3+1)<List.length (gI L2_c3 ↑i_c3)-k_c3
      (have h1:=(hw_c3.next ‹_› ‹_›).2;omega)
   refine am rfl (df p8_c3) (aM rfl (aq ?_))
   clear cel594 r595
   refine a6 rfl (mz zs3_c3 (lx (aP (m:=↑i_c3) (n:=1) rfl rfl (by omega)) (ai ((i_c3:Int)+1) (af ?_))))
   refine back2_c3 (i_c3+1,L2_c3,g592) _ _ ⟨bH,zs0_c3,rfl,Rt,r_t_v1,o16,o18,bx47,bx105,o_b_0_c1,?_⟩ ?_
   · show gg L2_c3 (i_c3+1)
     exact hw_c3.fin ha_c3 ‹_› ‹_›
   · show List.length L2_c3-(i_c3+1)<List.length L_c3-i_c3
     (have h1:=hw_c3.len;omega)
  refine am rfl (df p2_c3) (aM rfl (a9 (a9 (a6 rfl (ai 0 (af (av ?_)))))))
  refine aX (σ:=Nat×aG) (λ⟨m_c3,gq⟩ f w=>b9 w0 gq w/\f 0=vp b103 0/\f 6=vi ↑m_c3/\Sl gq (is 0) w t_v t.2.1/\Sl gq (is 0) w t_v1 t.2.2/\Ow gq (is 2) (is 2) w (db v15) (t.2.1++[((-7:Int),(0:Int),(0:Int),(0:Int))])/\Ow gq (is 3) (is 3) w (db v17) (t.2.2++[(-7:Int)])/\Bx gq (is 7) w b42 [v34,v36,vi ((((ax t).1).2).2)]/\Bx gq (is 13) w b103 [b_0_c1_v,vi b_1_c1]/\bN gq 16 w b_0_c1_v L_c3/\(m_c3:Int)<=((L_c3.length:Int):Int)/\(True)) (λ⟨m_c3,gq⟩=>Int.toNat (((L_c3.length:Int):Int)-(m_c3:Int))) (0,g502) ?_ ?_
  · exact⟨bH,zs0_c3,rfl,Rt,r_t_v1,o16,o18,bx47,bx105,o_b_0_c1,by omega,by trivial⟩
  clear Rt r_t_v1 o16 o18 bx47 bx105 o_b_0_c1 bH
  rintro⟨m_c3,g610⟩ f608 w609 ⟨bH,zs0_c3,zs6_c3,Rt,r_t_v1,o16,o18,bx47,bx105,o_b_0_c1,hle_m_c3,hinv12_c3⟩ back12_c3
  refine a9 (a9 (a6 rfl (mz zs6_c3 (mz zs0_c3 (lw (vp b103 0) (ad rfl) (lx (a7 e6 rfl rfl rfl rfl) (lx (a8 aN rfl bx105 rfl) (lx (ba c5 rfl o_b_0_c1.sl) (lx (bo (m:=↑m_c3) (n:=(L_c3.length:Int)) rfl rfl) (af ?_))))))))))
  by_cases p12_c3:(m_c3:Int)<(L_c3.length:Int)
  ·
   refine aj rfl (dt p12_c3) (au (a9 (av (a9 (a6 rfl (ai 0 (af (av ?_))))))))
   refine aX (σ:=Nat×aG) (λ⟨n_c3,gq⟩ f w=>b9 w0 gq w/\f 0=vp b103 0/\f 6=vi ↑m_c3/\f 7=vi ↑n_c3/\Sl gq (is 0) w t_v t.2.1/\Sl gq (is 0) w t_v1 t.2.2/\Ow gq (is 2) (is 2) w (db v15) (t.2.1++[((-7:Int),(0:Int),(0:Int),(0:Int))])/\Ow gq (is 3) (is 3) w (db v17) (t.2.2++[(-7:Int)])/\Bx gq (is 7) w b42 [v34,v36,vi ((((ax t).1).2).2)]/\Bx gq (is 13) w b103 [b_0_c1_v,vi b_1_c1]/\bN gq 16 w b_0_c1_v L_c3/\(n_c3:Int)<=((List.length (gI L_c3 ↑m_c3):Int):Int)/\(True)) (λ⟨n_c3,gq⟩=>Int.toNat (((List.length (gI L_c3 ↑m_c3):Int):Int)-(n_c3:Int))) (0,g610) ?_ ?_
   · exact⟨bH,zs0_c3,zs6_c3,rfl,Rt,r_t_v1,o16,o18,bx47,bx105,o_b_0_c1,by omega,by trivial⟩
   clear Rt r_t_v1 o16 o18 bx47 bx105 o_b_0_c1 bH
   rintro⟨n_c3,g613⟩ f611 w612 ⟨bH,zs0_c3,zs6_c3,zs7_c3,Rt,r_t_v1,o16,o18,bx47,bx105,o_b_0_c1,hle_n_c3,hinv15_c3⟩ back15_c3
   refine a9 (a9 (a6 rfl (mz zs7_c3 (mz zs0_c3 (lw (vp b103 0) (ad rfl) (lx (a7 e6 rfl rfl rfl rfl) (lx (a8 aN rfl bx105 rfl) (mz zs6_c3 (lx (aa (v:=b_0_c1_v) (i:=↑m_c3) c5 rfl rfl o_b_0_c1.sl rfl (by omega) (by omega)) ?_)))))))))
   obtain⟨v614,cel615,r616⟩:=bC (r:=(m_c3:Int)) o_b_0_c1 (by omega) (by omega)
   refine lx (bb ao rfl cel615) ?_
   have len617:=(r616.row_sl).small
   refine lx (ba aW rfl r616.row_sl) (lx (bo (m:=↑n_c3) (n:=(List.length (gI L_c3 ↑m_c3):Int)) rfl rfl) (af ?_))
   by_cases p15_c3:(n_c3:Int)<(List.length (gI L_c3 ↑m_c3):Int)
   ·
    refine aj rfl (dt p15_c3) (au (a9 (av (a9 ?_))))
    clear cel615 r616
    refine a6 rfl (mz zs0_c3 (lw (vp b103 0) (ad rfl) (lx (a7 e6 rfl rfl rfl rfl) (lx (a8 aN rfl bx105 rfl) (mz zs6_c3 (lx (aa (v:=b_0_c1_v) (i:=↑m_c3) c5 rfl rfl o_b_0_c1.sl rfl (by omega) (by omega)) ?_))))))
    obtain⟨v618,cel619,r620⟩:=bC (r:=(m_c3:Int)) o_b_0_c1 (by omega) (by omega)
    refine lx (bb ao rfl cel619) (mz zs7_c3 (lx (aa (v:=v618) (i:=↑n_c3) aW rfl rfl r620.row_sl rfl (by omega) (by omega)) (lx (ay (v:=v618) (i:=↑n_c3) ae rfl r620.row_sl (by omega) (by omega) (by decide) rfl) (mz zs6_c3 (lx (cV (m:= -1000) (n:=↑m_c3) rfl rfl (by omega)) (lx (cY (m:=(gI (gI L_c3 ↑m_c3) ↑n_c3)) (n:=(-1000)-(m_c3:Int)) rfl rfl) (af ?_)))))))
    have p17_c3:(gI (gI L_c3 ↑m_c3) ↑n_c3)=((-1000)-(m_c3:Int)):=by exact ha_c3.read (by omega) ‹_› ‹_›
    refine am rfl (congrArg Bool.not (dt p17_c3)) (au (aq ?_))
    clear cel619 r620
    refine a6 rfl (mz zs7_c3 (lx (aP (m:=↑n_c3) (n:=1) rfl rfl (by omega)) (ai ((n_c3:Int)+1) (af ?_))))
    refine back15_c3 (n_c3+1,g613) _ _ ⟨bH,zs0_c3,zs6_c3,rfl,Rt,r_t_v1,o16,o18,bx47,bx105,o_b_0_c1,by omega,?_⟩ ?_
    · show True
      trivial
    · show Int.toNat (((List.length (gI L_c3 ↑m_c3):Int):Int)-((n_c3+1):Int))<Int.toNat (((List.length (gI L_c3 ↑m_c3):Int):Int)-(n_c3:Int))
      omega
   refine am rfl (df p15_c3) (aM rfl (aq ?_))
   clear cel615 r616
   refine a6 rfl (mz zs6_c3 (lx (aP (m:=↑m_c3) (n:=1) rfl rfl (by omega)) (ai ((m_c3:Int)+1) (af ?_))))
   refine back12_c3 (m_c3+1,g613) _ _ ⟨bH,zs0_c3,rfl,Rt,r_t_v1,o16,o18,bx47,bx105,o_b_0_c1,by omega,?_⟩ ?_
   · show True
     trivial
   · show Int.toNat (((L_c3.length:Int):Int)-((m_c3+1):Int))<Int.toNat (((L_c3.length:Int):Int)-(m_c3:Int))
     omega
  refine am rfl (df p12_c3) (aM rfl (a9 (a6 rfl (ma (vb true) (af (aF (vs:=[vb true]) Try.func22 (.tmp rfl .nil) ?_))))))
  refine⟨vb true,rfl,?_⟩
  refine lw (vb true) (az rfl (dt q196) rfl) (ma (vb true) (af (aF (vs:=[vb true]) Try.func3 (.tmp rfl .nil) ?_)))
  have e0:(true:Bool)=(true):=by
    rfl
  exact⟨rb e0,bH.below⟩
 refine aj rfl (congrArg Bool.not (Bool.eq_false_iff.2 p3)) (a9 ?_)
 clear bx5
 refine a6 rfl (ma (vb true) (af (aF (vs:=[vb true]) Try.func3 (.tmp rfl .nil) ?_)))
 have e0:(true:Bool)=(true):=by
   rfl
 have C621:=cg [] (ch2.n.seq (hb7.n.seq hb9.n))
 replace bH:=bH.ca C621
 exact⟨rb e0,bH.below⟩
end TL
