import Derived.Test.YtbpphaeianpdpaaPkTlP2
import Derived.Test.YtbpphaeianpdpaaPkTlGmA
import Derived.Test.YtbpphaeianpdpaaPkTlGenA
import Derived.Test.YtbpphaeianpdpaaPkTlPwA
import Derived.Test.YtbpphaeianpdpaaPkTlPwF
import Derived.Test.YtbpphaeianpdpaaPkTlPwT
import Derived.Test.YtbpphaeianpdpaaPkTlPwR
import Derived.Test.YtbpphaeianpdpaaPkTlPwB
import Derived.Test.YtbpphaeianpdpaaProg
import Derived.Test.YtbpphaeianpdpaaPkTlAli
set_option linter.all false
set_option maxRecDepth 20000
namespace TL
open Go Go.Proofs
theorem ns:Try.f9.body.isNone=false:=rfl
theorem o4:(Try.f9.name== "runtime.NumGoroutine")=false:=by decide+kernel
theorem ly:Try.f10.body.isNone=false:=rfl
theorem mo:(Try.f10.name== "runtime.NumGoroutine")=false:=by decide+kernel
theorem l7:Try.f11.body.isNone=false:=rfl
theorem mO:(Try.f11.name== "runtime.NumGoroutine")=false:=by decide+kernel
theorem iO:Try.f17.body.isNone=false:=rfl
theorem jg:(Try.f17.name== "runtime.NumGoroutine")=false:=by decide+kernel
theorem lp:Try.f21.body.isNone=false:=rfl
theorem lK:(Try.f21.name== "runtime.NumGoroutine")=false:=by decide+kernel
set_option maxHeartbeats 4000000 in
theorem gE(w0:World)(g:(Int)×(List Pt))(g_v:Value)(hg_v:Ro w0 g_v g.2)(us:List Wd)(us_v:Value)(hus_v:Ro w0 us_v us)(by_:List Int)(by__v:Value)(hby__v:Ro w0 by__v by_)(t:Int)(hby:∀x∈by_,jd x):
    Calls Try.prog 4 #[vg [vi g.1,g_v],us_v,by__v,vi t] w0 (λee w=>ee= .returned (vb true)/\bM w0.heap.size w0 w):=by
 refine al Try.func4 rfl nq ?_
 have bH:=aS.start w0
 have Rg:=hg_v.sl
 have Rus:=hus_v.sl
 have Rby_:=hby__v.sl
 refine a7 (a6 rfl (cu rfl (co c0 (is 1) (1,0) rfl rfl ?_)))
 intro g4 w1 b3 ch2 bx5
 replace bx5:Bx g4 (is 1) w1 b3 [vi g.1,g_v]:=bx5
 refine ma (vb false) (a8 (a7 (a7 (a6 rfl (cu rfl (aX (v:=vb true) (az (vals:=[]) Try.func9 ns o4 rfl) (jz w1) ?_))))))
 intro w6 hb7
 replace hb7:=av hb7 g4
 refine lx (di (b:=true) rfl) (a8 (ah rfl rfl (ao (a7 (a7 (a6 rfl ?_))))))
 replace bx5:=bx5.cn hb7
 refine lx (aI (ds:=[vi g.1,g_v]) bY rfl bx5 rfl rfl) ?_
 replace Rg:=(Rg.cn ch2).cn hb7
 refine lo (aX (v:=vb (decide (g.2.length<=300/\(g.1<=300\/¬bC g)))) (az (vals:=[vg [vi g.1,g_v]]) Try.func10 ly mo rfl) (jP w6 g g_v (Rg).ro) ?_)
 intro w8 hb9
 replace hb9:=av hb9 g4
 refine lx (di (b:=(decide (g.2.length<=300/\(g.1<=300\/¬bC g)))) rfl) (mv (vb (!(decide (g.2.length<=300/\(g.1<=300\/¬bC g))))) ?_)
 by_cases q19:(decide (g.2.length<=300/\(g.1<=300\/¬bC g)))=true
 ·
  refine lv (us_v) (wy (congrArg Bool.not q19)) (am rfl) ?_
  have C10:=cg [] (ch2.n.seq (hb7.n.seq hb9.n))
  replace Rus:=Rus.ca C10
  have len11:=(Rus).small
  refine lv (vi (us.length:Int)) (wy (congrArg Bool.not q19)) (bc oV rfl Rus) (lv (vb (decide (400<(us.length:Int)))) (wy (congrArg Bool.not q19)) (dg (m:=(us.length:Int)) (n:=400) rfl rfl) (lw (vb (decide (400<(us.length:Int)))) (aC rfl (congrArg Bool.not q19) rfl) (mv (vb (decide (400<(us.length:Int)))) ?_)))
  by_cases q24:400<(us.length:Int)
  ·
   refine ab (wn (dt q24)) (ab (wn (dt q24)) (ab (wn (dt q24)) (lw (vb true) (ar rfl (dt q24) rfl) (a8 (ae rfl rfl (a7 ?_))))))
   clear bx5
   refine a6 rfl (ma (vb true) (a8 (ak (vs:=[vb true]) Try.func4 (.tmp rfl .nil) ?_)))
   have e0:(true:Bool)=(true):=by
     rfl
   replace bH:=bH.ca C10
   exact⟨rb e0,bH.below⟩
  refine lv (by__v) (wy (df q24)) (am rfl) ?_
  replace Rby_:=Rby_.ca C10
  have len12:=(Rby_).small
  refine lv (vi (by_.length:Int)) (wy (df q24)) (bc ch rfl Rby_) (lv (vb (decide (400<(by_.length:Int)))) (wy (df q24)) (dg (m:=(by_.length:Int)) (n:=400) rfl rfl) (lw (vb (decide (400<(by_.length:Int)))) (aC rfl (df q24) rfl) (a8 ?_)))
  by_cases p3:400<(by_.length:Int)
  ·
   refine ae rfl (dt p3) (a7 ?_)
   clear bx5
   refine a6 rfl (ma (vb true) (a8 (ak (vs:=[vb true]) Try.func4 (.tmp rfl .nil) ?_)))
   have e0:(true:Bool)=(true):=by
     rfl
   replace bH:=bH.ca C10
   exact⟨rb e0,bH.below⟩
  refine ah rfl (df p3) (ao (a7 (a6 rfl (mv us_v (lo (bf (az (vals:=[us_v]) Try.func11 l7 mO rfl) (ow w8 us us_v (Rus).ro) ?_))))))
  rintro⟨d14,v16⟩ w13 ⟨fr15,o17⟩
  obtain⟨g18,ch19,G18⟩:=kT g4 fr15 (λn=>if n=1 then 2 else 0)
  replace o17:=o17.gl G18 2
  refine mv by__v (lo ?_)
  replace Rby_:=Rby_.cn ch19
  refine cl (α:=Int) (xs:=([])) (ys:=by_) g18 (J:=is 3) (S:=is 3) (3,0) rfl ch aw (by decide) rfl rfl rfl Ow.nil Rby_ (by decide) (by(simp;omega)) ?_
  intro g20 w21 v22 ch23 o24
  replace o24:Ow g20 (is 3) (is 3) w21 v22 (by_:List Int):=o24
  replace o17:=o17.ce ch23
  refine lw (vg [v16,v22]) (bw (vs:=[(0,v16),(1,v22)]) rfl (by rw[Sl.form o17.flat,Sl.form o24.flat];kernel_rfl)) (lo (bJ g20 (is 4) (4,0) rfl aQ ?_))
  intro g28 w25 b27 ch26 bx29
  replace bx29:Bx g28 (is 4) w25 b27 [vn,vn]:=bx29
  refine lo ?_
  replace o24:=o24.cn ch26
  replace o17:=o17.cn ch26
  refine aM (cs':=[v16,v22]) aQ rfl rfl bx29 rfl nq (AllOne.all (.cons (bv o17.flat) (.cons (bv o24.flat) .nil))) rfl ?_
  intro w30 ch31 bx32
  clear bx29
  refine a8 (a7 (a6 rfl (lx (aI (ds:=[v16,v22]) aQ rfl bx32 rfl rfl) ?_)))
  have C33:=cg [3,4] (hb9.n.seq (ch19.n.seq ((ch23.l rfl).seq (ch26.n.seq (ch31.l rfl)))))
  replace bx5:=bx5.ca C33
  refine lx (aI (ds:=[vi g.1,g_v]) bY rfl bx5 rfl rfl) (mi t ?_)
  replace o17:=o17.ce ch31
  replace o24:=o24.ce ch31
  replace Rg:=Rg.ca C33
  refine lo (bf (az (vals:=[vg [v16,v22],vg [vi g.1,g_v],vi t]) Try.func20 iH iF rfl) (jL w30 (bI us,by_) v16 v22 (o17.flat).ro (o24.flat).ro g g_v (Rg).ro t (by exact hby)) ?_)
  rintro⟨d35,v37⟩ w34 ⟨fr36,o38⟩
  obtain⟨g39,ch40,G39⟩:=kT g28 fr36 (λn=>if n=1 then 5 else 0)
  replace o38:=o38.gl G39 5
  refine mv (vt [v37,vi ((bl (bI us,by_) g t).2)]) (lx (bz rfl rfl) (lx (bz rfl rfl) (ma v37 (ai ((bl (bI us,by_) g t).2) (a8 (a7 (a6 rfl ?_)))))))
  replace bx32:=bx32.cn ch40
  refine lx (aI (ds:=[v16,v22]) aQ rfl bx32 rfl rfl) ?_
  replace bx5:=bx5.cn ch40
  refine lx (aI (ds:=[vi g.1,g_v]) bY rfl bx5 rfl rfl) (mi t ?_)
  replace o17:=o17.cn ch40
  replace o24:=o24.cn ch40
  replace Rg:=Rg.cn ch40
  refine lo (bf (az (vals:=[vg [v16,v22],vg [vi g.1,g_v],vi t]) Try.func21 lp lK rfl) (lP w34 (bI us,by_) v16 v22 (o17.flat).ro (o24.flat).ro g g_v (Rg).ro t (by exact hby)) ?_)
  rintro⟨d42,v44⟩ w41 ⟨fr43,o45⟩
  obtain⟨g46,ch47,G46⟩:=kT g39 fr43 (λn=>if n=1 then 6 else 0)
  replace o45:=o45.gl G46 6
  refine mv (vt [v44,vi ((bl (bI us,by_) g t).2)]) (lx (bz rfl rfl) (lx (bz rfl rfl) (ma v44 (ai ((bl (bI us,by_) g t).2) (a8 (a7 ?_))))))
  clear bx5
  refine a6 rfl (mi ((bl (bI us,by_) g t).2) (mi ((bl (bI us,by_) g t).2) (lx (dh (m:=(bl (bI us,by_) g t).2) (n:=(bl (bI us,by_) g t).2) rfl rfl) (mv (vb (decide (((bl (bI us,by_) g t).2)=((bl (bI us,by_) g t).2)))) ?_))))
  have q51:((bl (bI us,by_) g t).2)=((bl (bI us,by_) g t).2):=by rfl
  refine lv (v37) (wy (dt q51)) (am rfl) (lv (v44) (wy (dt q51)) (am rfl) ?_)
  replace o38:=o38.cn ch47
  refine cu (wy (dt q51)) (aX (v:=vb (decide (((bl (bI us,by_) g t).1)=((bl (bI us,by_) g t).1)))) (az (vals:=[v37,v44]) Try.func17 iO jg rfl) (gW w41 ((bl (bI us,by_) g t).1) v37 (o38.flat).ro ((bl (bI us,by_) g t).1) v44 (o45.flat).ro) ?_)
  intro w48 hb49
  replace hb49:=av hb49 g46
  refine lw (vb (decide (((bl (bI us,by_) g t).1)=((bl (bI us,by_) g t).1)))) (ar rfl (dt q51) rfl) (mv (vb (decide (((bl (bI us,by_) g t).1)=((bl (bI us,by_) g t).1)))) ?_)
  have q56:(decide (((bl (bI us,by_) g t).1)=((bl (bI us,by_) g t).1)))=true:=by exact dt rfl
  refine lv (vp b27 1) (wy q56) (ag gp rfl rfl rfl rfl) ?_
  replace bx32:=(bx32.cn ch47).cn hb49
  refine lv (v22) (wy q56) (af bE rfl bx32 rfl) (lv (by__v) (wy q56) (am rfl) ?_)
  replace o24:=(o24.cn ch47).cn hb49
  have C50:=cg [3,4] ((ch23.l rfl).seq (ch26.n.seq ((ch31.l rfl).seq (ch40.n.seq (ch47.n.seq hb49.n)))))
  replace Rby_:=Rby_.ca C50
  refine cu (wy q56) (aX (v:=vb (decide (by_=by_))) (az (vals:=[v22,by__v]) Try.func17 iO jg rfl) (gW w48 by_ v22 (o24.flat).ro by_ by__v (Rby_).ro) ?_)
  intro w51 hb52
  replace hb52:=av hb52 g46
  refine lw (vb (decide (by_=by_))) (ar rfl q56 rfl) (ma (vb (decide (by_=by_))) (a8 (ak (vs:=[vb (decide (by_=by_))]) Try.func4 (.tmp rfl .nil) ?_)))
  have e0:((decide (by_=by_)):Bool)=(true):=by
    simp
  have C53:=cg [3,4] (ch2.n.seq (hb7.n.seq (hb9.n.seq (ch19.n.seq ((ch23.l rfl).seq (ch26.n.seq ((ch31.l rfl).seq (ch40.n.seq (ch47.n.seq (hb49.n.seq hb52.n))))))))))
  replace bH:=bH.ca C53
  exact⟨(congrArg (a₁:=(decide (by_=by_))) (λ(z0:Bool)=>Ending.returned (vb z0)) e0),bH.below⟩
 refine ab (wn (congrArg Bool.not (Bool.eq_false_iff.2 q19))) (ab (wn (congrArg Bool.not (Bool.eq_false_iff.2 q19))) (ab (wn (congrArg Bool.not (Bool.eq_false_iff.2 q19))) (lw (vb true) (ar rfl (congrArg Bool.not (Bool.eq_false_iff.2 q19)) rfl) (mv (vb true) (ab (wn rfl) (ab (wn rfl) (ab (wn rfl) (lw (vb true) (ar rfl rfl rfl) (a8 (ae rfl rfl (a7 ?_)))))))))))
 clear bx5
 refine a6 rfl (ma (vb true) (a8 (ak (vs:=[vb true]) Try.func4 (.tmp rfl .nil) ?_)))
 have e0:(true:Bool)=(true):=by
   rfl
 have C54:=cg [] (ch2.n.seq (hb7.n.seq hb9.n))
 replace bH:=bH.ca C54
 exact⟨rb e0,bH.below⟩
end TL
