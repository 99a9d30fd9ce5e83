import Derived.Test.YtmaclbnodbcniaaFmTlP3
import Derived.Test.YtmaclbnodbcniaaFmTlFwA
import Derived.Test.YtmaclbnodbcniaaProg
import Derived.Test.YtmaclbnodbcniaaFmTlAli
set_option linter.all false
set_option maxRecDepth 20000
namespace TL
open Go Go.Proofs
theorem c9:Tp Try.prog 25 true 3 56 (.agg #[.int .i64 0,.slice none 0 0,.slice none 0 0]):=Tp.of (by kernel_rfl)
theorem kY:Try.f10.body.isNone=false:=rfl
theorem kr:(Try.f10.name== "runtime.NumGoroutine")=false:=by decide+kernel
theorem jA(w0:World)(t:(Int)×(List ((Int)×(Int)×(Int)×(Int)))×(List Int))(t_v t_v1:Value)(ht_v:Ro w0 t_v t.2.1)(ht_v1:Ro w0 t_v1 t.2.2):
    Calls Try.prog 10 #[vg [vi t.1,t_v,t_v1]] w0 (λee w=>ee= .returned (vb (bQ t))/\dC w0.heap.size w0 w):=by
 refine aC Try.func10 rfl nq ?_
 have bH:=b9.start w0
 have Rt:=ht_v.sl
 have r_t_v1:=ht_v1.sl
 refine a9 (a6 rfl (cQ rfl (d4 c0 (is 1) (1,0) rfl rfl ?_)))
 intro g4 w1 b3 ch2 bx5
 replace bx5:Bx g4 (is 1) w1 b3 [vi t.1,t_v,t_v1]:=bx5
 refine ma (vb false) (af (a9 (a9 (a6 rfl (lx (a7 cP rfl rfl rfl rfl) (lx (a8 ae rfl bx5 rfl) (lx (bo (m:=t.1) (n:=0) rfl rfl) (mv (vb (decide (t.1<0))) ?_))))))))
 by_cases q9:t.1<0
 ·
  refine ag (wn (dt q9)) (ag (wn (dt q9)) (ag (wn (dt q9)) (lw (vb true) (az rfl (dt q9) rfl) (mv (vb true) (ag (wn rfl) (ag (wn rfl) (ag (wn rfl) (ag (wn rfl) (lw (vb true) (az rfl rfl rfl) (mv (vb true) (ag (wn rfl) (ag (wn rfl) (ag (wn rfl) (ag (wn rfl) (ag (wn rfl) (ag (wn rfl) (lw (vb true) (az rfl rfl rfl) ?_)))))))))))))))))
  refine af (aj rfl rfl (a9 ?_))
  clear bx5
  refine a6 rfl (ma (vb false) (af (aF (vs:=[vb false]) Try.func10 (.tmp rfl .nil) ?_)))
  have e0:(false:Bool)=(bQ t):=by
    try simp only[decide_eq_true_eq] at*
    exact(ec (λh=>by obtain⟨⟨h0,h1⟩,h2,h3,_,_⟩:=h;omega)).symm
  replace bH:=bH.cn ch2
  exact⟨rb e0,bH.below⟩
 refine lv (vp b3 0) (wy (df q9)) (a7 cP rfl rfl rfl rfl) (lv (vi t.1) (wy (df q9)) (a8 ae rfl bx5 rfl) (lv (vb (decide (4096<t.1))) (wy (df q9)) (bY (m:=t.1) (n:=4096) rfl rfl) (lw (vb (decide (4096<t.1))) (aH rfl (df q9) rfl) (mv (vb (decide (4096<t.1))) ?_))))
 by_cases q14:4096<t.1
 ·
  refine ag (wn (dt q14)) (ag (wn (dt q14)) (ag (wn (dt q14)) (ag (wn (dt q14)) (lw (vb true) (az rfl (dt q14) rfl) (mv (vb true) (ag (wn rfl) (ag (wn rfl) (ag (wn rfl) (ag (wn rfl) (ag (wn rfl) (ag (wn rfl) (lw (vb true) (az rfl rfl rfl) (af (aj rfl rfl ?_))))))))))))))
  refine a9 ?_
  clear bx5
  refine a6 rfl (ma (vb false) (af (aF (vs:=[vb false]) Try.func10 (.tmp rfl .nil) ?_)))
  have e0:(false:Bool)=(bQ t):=by
    try simp only[decide_eq_true_eq] at*
    exact(ec (λh=>by obtain⟨⟨h0,h1⟩,h2,h3,_,_⟩:=h;omega)).symm
  replace bH:=bH.cn ch2
  exact⟨rb e0,bH.below⟩
 refine lv (vp b3 1) (wy (df q14)) (a7 cP rfl rfl rfl rfl) (lv (t_v) (wy (df q14)) (a8 bT rfl bx5 rfl) ?_)
 replace Rt:=Rt.cn ch2
 have len6:=(Rt).small
 refine lv (vi (t.2.1.length:Int)) (wy (df q14)) (ba dB rfl Rt) (lv (vb (decide (16384<(t.2.1.length:Int)))) (wy (df q14)) (bY (m:=(t.2.1.length:Int)) (n:=16384) rfl rfl) (lw (vb (decide (16384<(t.2.1.length:Int)))) (aH rfl (df q14) rfl) (mv (vb (decide (16384<(t.2.1.length:Int)))) ?_)))
 by_cases q20:16384<(t.2.1.length:Int)
 ·
  refine ag (wn (dt q20)) (ag (wn (dt q20)) (ag (wn (dt q20)) (ag (wn (dt q20)) (ag (wn (dt q20)) (ag (wn (dt q20)) (lw (vb true) (az rfl (dt q20) rfl) (af (aj rfl rfl (a9 ?_)))))))))
  clear bx5
  refine a6 rfl (ma (vb false) (af (aF (vs:=[vb false]) Try.func10 (.tmp rfl .nil) ?_)))
  have e0:(false:Bool)=(bQ t):=by
    try simp only[decide_eq_true_eq] at*
    exact(ec (λh=>by obtain⟨⟨h0,h1⟩,h2,h3,_,_⟩:=h;omega)).symm
  replace bH:=bH.cn ch2
  exact⟨rb e0,bH.below⟩
 refine lv (vp b3 2) (wy (df q20)) (a7 cP rfl rfl rfl rfl) (lv (t_v1) (wy (df q20)) (a8 ao rfl bx5 rfl) ?_)
 replace r_t_v1:=r_t_v1.cn ch2
 have len7:=(r_t_v1).small
 refine lv (vi (t.2.2.length:Int)) (wy (df q20)) (ba aW rfl r_t_v1) (lv (vp b3 0) (wy (df q20)) (a7 cP rfl rfl rfl rfl) (lv (vi t.1) (wy (df q20)) (a8 ae rfl bx5 rfl) (lv (vb (!(decide ((t.2.2.length:Int)=t.1)))) (wy (df q20)) (cY (m:=(t.2.2.length:Int)) (n:=t.1) rfl rfl) (lw (vb (!(decide ((t.2.2.length:Int)=t.1)))) (aH rfl (df q20) rfl) (af ?_)))))
 by_cases p1:(t.2.2.length:Int)=t.1
 ·
  refine am rfl (congrArg Bool.not (dt p1)) (au (a9 (a9 (a6 rfl (ai 0 (af (av ?_)))))))
  refine aX (σ:=Nat×aG) (λ⟨k,gq⟩ f w=>b9 w0 gq w/\f 1=vp b3 0/\f 3=vi ↑k/\Sl gq (is 0) w t_v t.2.1/\Sl gq (is 0) w t_v1 t.2.2/\Bx gq (is 1) w b3 [vi t.1,t_v,t_v1]/\(k:Int)<=((t.2.1.length:Int):Int)/\(∀a∈List.take k t.2.1,ij t.1 a)) (λ⟨k,gq⟩=>Int.toNat (((t.2.1.length:Int):Int)-(k:Int))) (0,g4) ?_ ?_
  · exact⟨bH.cn ch2,rfl,rfl,Rt,r_t_v1,bx5,by omega,by simp⟩
  clear Rt r_t_v1 bx5 bH
  rintro⟨k,g10⟩ f8 w9 ⟨bH,zs1,zs3,Rt,r_t_v1,bx5,hle_k,hka⟩ back4
  refine a9 (a9 (a6 rfl (mz zs3 (lx (a7 cP rfl rfl zs1 rfl) (lx (a8 bT rfl bx5 rfl) (lx (ba dB rfl Rt) (lx (bo (m:=↑k) (n:=(t.2.1.length:Int)) rfl rfl) (af ?_))))))))
  by_cases p4:(k:Int)<(t.2.1.length:Int)
  ·
   refine aj rfl (dt p4) (au (a9 (av (a9 (a6 rfl (lx (a7 cP rfl rfl zs1 rfl) (lx (a8 bT rfl bx5 rfl) (mz zs3 (lx (aa (v:=t_v) (i:=↑k) dB rfl rfl Rt rfl (by omega) (by omega)) (lw (vg [vi ((gI t.2.1 ↑k).1),vi (((gI t.2.1 ↑k).2).1),vi ((((gI t.2.1 ↑k).2).2).1),vi ((((gI t.2.1 ↑k).2).2).2)]) (bh (v:=t_v) (i:=↑k) bz rfl Rt (by omega) (by omega) rfl) ?_))))))))))
   refine lo (cd g10 (is 2) (2,0) rfl bz ?_)
   intro g14 w11 b13 ch12 bx15
   replace bx15:Bx g14 (is 2) w11 b13 [vi 0,vi 0,vi 0,vi 0]:=bx15
   refine lo (aR (cs':=[vi ((gI t.2.1 ↑k).1),vi (((gI t.2.1 ↑k).2).1),vi ((((gI t.2.1 ↑k).2).2).1),vi ((((gI t.2.1 ↑k).2).2).2)]) bz rfl rfl bx15 rfl nq (AllOne.all (.cons rfl (.cons rfl (.cons rfl (.cons rfl .nil))))) rfl ?_)
   intro w16 ch17 bx18
   clear bx15
   refine af (a9 (a6 rfl (lx (a7 dK rfl rfl rfl rfl) (lx (a8 ae rfl bx18 rfl) (lx (bo (m:=(gI t.2.1 ↑k).1) (n:=0) rfl rfl) (mv (vb (decide (((gI t.2.1 ↑k).1)<0))) ?_))))))
   by_cases q43:((gI t.2.1 ↑k).1)<0
   ·
    refine ag (wn (dt q43)) (ag (wn (dt q43)) (ag (wn (dt q43)) (lw (vb true) (az rfl (dt q43) rfl) (mv (vb true) (ag (wn rfl) (ag (wn rfl) (ag (wn rfl) (ag (wn rfl) (ag (wn rfl) (lw (vb true) (az rfl rfl rfl) (mv (vb true) (ag (wn rfl) (ag (wn rfl) (ag (wn rfl) (ag (wn rfl) (ag (wn rfl) (lw (vb true) (az rfl rfl rfl) ?_)))))))))))))))))
    refine mv (vb true) (ag (wn rfl) (ag (wn rfl) (ag (wn rfl) (lw (vb true) (az rfl rfl rfl) (mv (vb true) (ag (wn rfl) (ag (wn rfl) (ag (wn rfl) (lw (vb true) (az rfl rfl rfl) (mv (vb true) (ag (wn rfl) (ag (wn rfl) (ag (wn rfl) (lw (vb true) (az rfl rfl rfl) (mv (vb true) ?_)))))))))))))))
    refine ag (wn rfl) (ag (wn rfl) (ag (wn rfl) (lw (vb true) (az rfl rfl rfl) (af (aj rfl rfl (a9 ?_))))))
    clear bx5 bx18
    refine a6 rfl (ma (vb false) (af (aF (vs:=[vb false]) Try.func10 (.tmp rfl .nil) ?_)))
    have e0:(false:Bool)=(bQ t):=by
      try simp only[decide_eq_true_eq] at*
      exact(cW (T:=t) (k:=k) ‹_› (λh=>by unfold ij at h;omega)).symm
    replace bH:=bH.cn ch12
    replace bH:=bH.ce ch17
    exact⟨rb e0,bH.below⟩
   refine lv (vp b13 1) (wy (df q43)) (a7 dK rfl rfl rfl rfl) (lv (vi (((gI t.2.1 ↑k).2).1)) (wy (df q43)) (a8 ae rfl bx18 rfl) (lv (vb (decide ((((gI t.2.1 ↑k).2).1)<0))) (wy (df q43)) (bo (m:=((gI t.2.1 ↑k).2).1) (n:=0) rfl rfl) (lw (vb (decide ((((gI t.2.1 ↑k).2).1)<0))) (aH rfl (df q43) rfl) (mv (vb (decide ((((gI t.2.1 ↑k).2).1)<0))) ?_))))
   by_cases q48:(((gI t.2.1 ↑k).2).1)<0
   ·
    refine ag (wn (dt q48)) (ag (wn (dt q48)) (ag (wn (dt q48)) (ag (wn (dt q48)) (ag (wn (dt q48)) (lw (vb true) (az rfl (dt q48) rfl) (mv (vb true) (ag (wn rfl) (ag (wn rfl) (ag (wn rfl) (ag (wn rfl) (ag (wn rfl) (lw (vb true) (az rfl rfl rfl) (mv (vb true) ?_)))))))))))))
    refine ag (wn rfl) (ag (wn rfl) (ag (wn rfl) (lw (vb true) (az rfl rfl rfl) (mv (vb true) (ag (wn rfl) (ag (wn rfl) (ag (wn rfl) (lw (vb true) (az rfl rfl rfl) (mv (vb true) (ag (wn rfl) (ag (wn rfl) (ag (wn rfl) (lw (vb true) (az rfl rfl rfl) (mv (vb true) (ag (wn rfl) (ag (wn rfl) (ag (wn rfl) ?_)))))))))))))))))
    refine lw (vb true) (az rfl rfl rfl) (af (aj rfl rfl (a9 ?_)))
    clear bx5 bx18
    refine a6 rfl (ma (vb false) (af (aF (vs:=[vb false]) Try.func10 (.tmp rfl .nil) ?_)))
    have e0:(false:Bool)=(bQ t):=by
      try simp only[decide_eq_true_eq] at*
      exact(cW (T:=t) (k:=k) ‹_› (λh=>by unfold ij at h;omega)).symm
    replace bH:=bH.cn ch12
    replace bH:=bH.ce ch17
    exact⟨rb e0,bH.below⟩
   refine lv (vp b13 0) (wy (df q48)) (a7 dK rfl rfl rfl rfl) (lv (vi ((gI t.2.1 ↑k).1)) (wy (df q48)) (a8 ae rfl bx18 rfl) (lv (vp b3 0) (wy (df q48)) (a7 cP rfl rfl zs1 rfl) ?_))
   replace bx5:=(bx5.cn ch12).ce ch17
   refine lv (vi t.1) (wy (df q48)) (a8 ae rfl bx5 rfl) (lv (vb (decide (t.1<=((gI t.2.1 ↑k).1)))) (wy (df q48)) (ib (m:=(gI t.2.1 ↑k).1) (n:=t.1) rfl rfl) (lw (vb (decide (t.1<=((gI t.2.1 ↑k).1)))) (aH rfl (df q48) rfl) (mv (vb (decide (t.1<=((gI t.2.1 ↑k).1)))) ?_)))
   by_cases q55:t.1<=((gI t.2.1 ↑k).1)
   ·
    refine ag (wn (dt q55)) (ag (wn (dt q55)) (ag (wn (dt q55)) (ag (wn (dt q55)) (ag (wn (dt q55)) (lw (vb true) (az rfl (dt q55) rfl) (mv (vb true) (ag (wn rfl) (ag (wn rfl) (ag (wn rfl) (lw (vb true) (az rfl rfl rfl) (mv (vb true) ?_)))))))))))
    refine ag (wn rfl) (ag (wn rfl) (ag (wn rfl) (lw (vb true) (az rfl rfl rfl) (mv (vb true) (ag (wn rfl) (ag (wn rfl) (ag (wn rfl) (lw (vb true) (az rfl rfl rfl) (mv (vb true) (ag (wn rfl) (ag (wn rfl) (ag (wn rfl) (lw (vb true) (az rfl rfl rfl) (af (aj rfl rfl ?_)))))))))))))))
    refine a9 ?_
    clear bx5 bx18
    refine a6 rfl (ma (vb false) (af (aF (vs:=[vb false]) Try.func10 (.tmp rfl .nil) ?_)))
    have e0:(false:Bool)=(bQ t):=by
      try simp only[decide_eq_true_eq] at*
      exact(cW (T:=t) (k:=k) ‹_› (λh=>by unfold ij at h;omega)).symm
    replace bH:=bH.cn ch12
    replace bH:=bH.ce ch17
    exact⟨rb e0,bH.below⟩
   refine lv (vp b13 1) (wy (df q55)) (a7 dK rfl rfl rfl rfl) (lv (vi (((gI t.2.1 ↑k).2).1)) (wy (df q55)) (a8 ae rfl bx18 rfl) (lv (vp b3 0) (wy (df q55)) (a7 cP rfl rfl zs1 rfl) (lv (vi t.1) (wy (df q55)) (a8 ae rfl bx5 rfl) (lv (vb (decide (t.1<=(((gI t.2.1 ↑k).2).1)))) (wy (df q55)) (ib (m:=((gI t.2.1 ↑k).2).1) (n:=t.1) rfl rfl) (lw (vb (decide (t.1<=(((gI t.2.1 ↑k).2).1)))) (aH rfl (df q55) rfl) (mv (vb (decide (t.1<=(((gI t.2.1 ↑k).2).1)))) ?_))))))
   by_cases q62:t.1<=(((gI t.2.1 ↑k).2).1)
   ·
    refine ag (wn (dt q62)) (ag (wn (dt q62)) (ag (wn (dt q62)) (lw (vb true) (az rfl (dt q62) rfl) (mv (vb true) (ag (wn rfl) (ag (wn rfl) (ag (wn rfl) (lw (vb true) (az rfl rfl rfl) (mv (vb true) (ag (wn rfl) (ag (wn rfl) (ag (wn rfl) (lw (vb true) (az rfl rfl rfl) ?_)))))))))))))
    refine mv (vb true) (ag (wn rfl) (ag (wn rfl) (ag (wn rfl) (lw (vb true) (az rfl rfl rfl) (af (aj rfl rfl (a9 ?_)))))))
    clear bx5 bx18
    refine a6 rfl (ma (vb false) (af (aF (vs:=[vb false]) Try.func10 (.tmp rfl .nil) ?_)))
    have e0:(false:Bool)=(bQ t):=by
      try simp only[decide_eq_true_eq] at*
      exact(cW (T:=t) (k:=k) ‹_› (λh=>by unfold ij at h;omega)).symm
    replace bH:=bH.cn ch12
    replace bH:=bH.ce ch17
    exact⟨rb e0,bH.below⟩
   refine lv (vp b13 2) (wy (df q62)) (a7 dK rfl rfl rfl rfl) (lv (vi ((((gI t.2.1 ↑k).2).2).1)) (wy (df q62)) (a8 ae rfl bx18 rfl) (lv (vb (decide (((((gI t.2.1 ↑k).2).2).1)<0))) (wy (df q62)) (bo (m:=(((gI t.2.1 ↑k).2).2).1) (n:=0) rfl rfl) (lw (vb (decide (((((gI t.2.1 ↑k).2).2).1)<0))) (aH rfl (df q62) rfl) (mv (vb (decide (((((gI t.2.1 ↑k).2).2).1)<0))) ?_))))
   by_cases q67:((((gI t.2.1 ↑k).2).2).1)<0
   ·
    refine ag (wn (dt q67)) (ag (wn (dt q67)) (ag (wn (dt q67)) (lw (vb true) (az rfl (dt q67) rfl) (mv (vb true) (ag (wn rfl) (ag (wn rfl) (ag (wn rfl) (lw (vb true) (az rfl rfl rfl) (mv (vb true) (ag (wn rfl) (ag (wn rfl) (ag (wn rfl) (lw (vb true) (az rfl rfl rfl) ?_)))))))))))))
    refine af (aj rfl rfl (a9 ?_))
    clear bx5 bx18
    refine a6 rfl (ma (vb false) (af (aF (vs:=[vb false]) Try.func10 (.tmp rfl .nil) ?_)))
    have e0:(false:Bool)=(bQ t):=by
      try simp only[decide_eq_true_eq] at*
      exact(cW (T:=t) (k:=k) ‹_› (λh=>by unfold ij at h;omega)).symm
    replace bH:=bH.cn ch12
    replace bH:=bH.ce ch17
    exact⟨rb e0,bH.below⟩
   refine lv (vp b13 2) (wy (df q67)) (a7 dK rfl rfl rfl rfl) (lv (vi ((((gI t.2.1 ↑k).2).2).1)) (wy (df q67)) (a8 ae rfl bx18 rfl) (lv (vb (decide (1048576<((((gI t.2.1 ↑k).2).2).1)))) (wy (df q67)) (bY (m:=(((gI t.2.1 ↑k).2).2).1) (n:=1048576) rfl rfl) (lw (vb (decide (1048576<((((gI t.2.1 ↑k).2).2).1)))) (aH rfl (df q67) rfl) (mv (vb (decide (1048576<((((gI t.2.1 ↑k).2).2).1)))) ?_))))
   by_cases q72:1048576<((((gI t.2.1 ↑k).2).2).1)
   ·
    refine ag (wn (dt q72)) (ag (wn (dt q72)) (ag (wn (dt q72)) (lw (vb true) (az rfl (dt q72) rfl) (mv (vb true) (ag (wn rfl) (ag (wn rfl) (ag (wn rfl) (lw (vb true) (az rfl rfl rfl) (af (aj rfl rfl (a9 ?_)))))))))))
    clear bx5 bx18
    refine a6 rfl (ma (vb false) (af (aF (vs:=[vb false]) Try.func10 (.tmp rfl .nil) ?_)))
    have e0:(false:Bool)=(bQ t):=by
      try simp only[decide_eq_true_eq] at*
      exact(cW (T:=t) (k:=k) ‹_› (λh=>by unfold ij at h;omega)).symm
    replace bH:=bH.cn ch12
    replace bH:=bH.ce ch17
    exact⟨rb e0,bH.below⟩
   refine lv (vp b13 3) (wy (df q72)) (a7 dK rfl rfl rfl rfl) (lv (vi ((((gI t.2.1 ↑k).2).2).2)) (wy (df q72)) (a8 ae rfl bx18 rfl) (lv (vb (decide (((((gI t.2.1 ↑k).2).2).2)<0))) (wy (df q72)) (bo (m:=(((gI t.2.1 ↑k).2).2).2) (n:=0) rfl rfl) (lw (vb (decide (((((gI t.2.1 ↑k).2).2).2)<0))) (aH rfl (df q72) rfl) (mv (vb (decide (((((gI t.2.1 ↑k).2).2).2)<0))) ?_))))
   by_cases q77:((((gI t.2.1 ↑k).2).2).2)<0
   ·
    refine ag (wn (dt q77)) (ag (wn (dt q77)) (ag (wn (dt q77)) (lw (vb true) (az rfl (dt q77) rfl) (af (aj rfl rfl (a9 ?_))))))
    clear bx5 bx18
    refine a6 rfl (ma (vb false) (af (aF (vs:=[vb false]) Try.func10 (.tmp rfl .nil) ?_)))
    have e0:(false:Bool)=(bQ t):=by
      try simp only[decide_eq_true_eq] at*
      exact(cW (T:=t) (k:=k) ‹_› (λh=>by unfold ij at h;omega)).symm
    replace bH:=bH.cn ch12
    replace bH:=bH.ce ch17
    exact⟨rb e0,bH.below⟩
   refine lv (vp b13 3) (wy (df q77)) (a7 dK rfl rfl rfl rfl) (lv (vi ((((gI t.2.1 ↑k).2).2).2)) (wy (df q77)) (a8 ae rfl bx18 rfl) (lv (vb (decide (1048576<((((gI t.2.1 ↑k).2).2).2)))) (wy (df q77)) (bY (m:=(((gI t.2.1 ↑k).2).2).2) (n:=1048576) rfl rfl) (lw (vb (decide (1048576<((((gI t.2.1 ↑k).2).2).2)))) (aH rfl (df q77) rfl) (af ?_))))
   by_cases p7:1048576<((((gI t.2.1 ↑k).2).2).2)
   ·
    refine aj rfl (dt p7) (a9 ?_)
    clear bx5 bx18
    refine a6 rfl (ma (vb false) (af (aF (vs:=[vb false]) Try.func10 (.tmp rfl .nil) ?_)))
    have e0:(false:Bool)=(bQ t):=by
      try simp only[decide_eq_true_eq] at*
      exact(cW (T:=t) (k:=k) ‹_› (λh=>by unfold ij at h;omega)).symm
    replace bH:=bH.cn ch12
    replace bH:=bH.ce ch17
    exact⟨rb e0,bH.below⟩
   refine am rfl (df p7) (au (aq ?_))
   clear bx18
   refine a6 rfl (mz zs3 (lx (aP (m:=↑k) (n:=1) rfl rfl (by omega)) (ai ((k:Int)+1) (af ?_))))
   replace bH:=bH.cn ch12
   refine back4 (k+1,g14) _ _ ⟨bH.ce ch17,zs1,rfl,(Rt.cn ch12).ce ch17,(r_t_v1.cn ch12).ce ch17,bx5,by omega,?_⟩ ?_
   · show∀a∈List.take (k+1) t.2.1,ij t.1 a
     try simp only[decide_eq_true_eq] at*
     exact ly hka ‹_› (by unfold ij;omega)
   · show Int.toNat (((t.2.1.length:Int):Int)-((k+1):Int))<Int.toNat (((t.2.1.length:Int):Int)-(k:Int))
     omega
  refine am rfl (df p4) (aM rfl (a9 (a9 (a6 rfl (ai 0 (af (av ?_)))))))
  refine aX (σ:=Nat×aG) (λ⟨j,gq⟩ f w=>b9 w0 gq w/\f 1=vp b3 0/\f 5=vi ↑j/\Sl gq (is 0) w t_v t.2.1/\Sl gq (is 0) w t_v1 t.2.2/\Bx gq (is 1) w b3 [vi t.1,t_v,t_v1]/\(j:Int)<=(t.1:Int)/\(∀x∈List.take j t.2.2,jP x)) (λ⟨j,gq⟩=>Int.toNat ((t.1:Int)-(j:Int))) (0,g10) ?_ ?_
  · exact⟨bH,zs1,rfl,Rt,r_t_v1,bx5,by omega,by simp⟩
  clear Rt r_t_v1 bx5 bH
  rintro⟨j,g21⟩ f19 w20 ⟨bH,zs1,zs5,Rt,r_t_v1,bx5,hle_j,hkd⟩ back10
  refine a9 (a9 (a6 rfl (mz zs5 (lx (a7 cP rfl rfl zs1 rfl) (lx (a8 ae rfl bx5 rfl) (lx (bo (m:=↑j) (n:=t.1) rfl rfl) (af ?_)))))))
  by_cases p10:(j:Int)<t.1
  ·
   refine aj rfl (dt p10) (au (a9 (av (a9 (a6 rfl (lx (a7 cP rfl rfl zs1 rfl) (lx (a8 ao rfl bx5 rfl) (mz zs5 (lx (aa (v:=t_v1) (i:=↑j) aW rfl rfl r_t_v1 rfl (by omega) (by omega)) (lx (ay (v:=t_v1) (i:=↑j) ae rfl r_t_v1 (by omega) (by omega) (by decide) rfl) ?_))))))))))
   refine lx (bo (m:=(gI t.2.2 ↑j)) (n:= -1048576) rfl rfl) (mv (vb (decide ((gI t.2.2 ↑j)<(-1048576)))) ?_)
   by_cases q94:(gI t.2.2 ↑j)<(-1048576)
   ·
    refine ag (wn (dt q94)) (ag (wn (dt q94)) (ag (wn (dt q94)) (ag (wn (dt q94)) (ag (wn (dt q94)) (ag (wn (dt q94)) (lw (vb true) (az rfl (dt q94) rfl) (af (aj rfl rfl (a9 ?_)))))))))
    clear bx5
    refine a6 rfl (ma (vb false) (af (aF (vs:=[vb false]) Try.func10 (.tmp rfl .nil) ?_)))
    have e0:(false:Bool)=(bQ t):=by
      try simp only[decide_eq_true_eq] at*
      exact(hH (T:=t) (k:=j) (by omega) (λh=>by omega)).symm
    exact⟨rb e0,bH.below⟩
   refine lv (vp b3 2) (wy (df q94)) (a7 cP rfl rfl zs1 rfl) (lv (t_v1) (wy (df q94)) (a8 ao rfl bx5 rfl) (lv (vi ↑j) (wy (df q94)) (ah zs5) (lv (Value.pointer (some (aT t_v1 1 (Int.toNat ↑j)))) (wy (df q94)) (aa (α:=Int) (xs:=t.2.2) (v:=t_v1) (i:=↑j) aW rfl rfl r_t_v1 rfl (by omega) (by omega)) (lv (vi (gI t.2.2 ↑j)) (wy (df q94)) (ay (α:=Int) (xs:=t.2.2) (v:=t_v1) (i:=↑j) ae rfl r_t_v1 (by omega) (by omega) (by decide) rfl) ?_))))
   refine lv (vb (decide (1048576<(gI t.2.2 ↑j)))) (wy (df q94)) (bY (m:=(gI t.2.2 ↑j)) (n:=1048576) rfl rfl) (lw (vb (decide (1048576<(gI t.2.2 ↑j)))) (aH rfl (df q94) rfl) (af ?_))
   by_cases p12:1048576<(gI t.2.2 ↑j)
   ·
    refine aj rfl (dt p12) (a9 ?_)
    clear bx5
    refine a6 rfl (ma (vb false) (af (aF (vs:=[vb false]) Try.func10 (.tmp rfl .nil) ?_)))
    have e0:(false:Bool)=(bQ t):=by
      try simp only[decide_eq_true_eq] at*
      exact(hH (T:=t) (k:=j) (by omega) (λh=>by omega)).symm
    exact⟨rb e0,bH.below⟩
   refine am rfl (df p12) (au (aq (a6 rfl (mz zs5 (lx (aP (m:=↑j) (n:=1) rfl rfl (by omega)) (ai ((j:Int)+1) (af ?_)))))))
   refine back10 (j+1,g21) _ _ ⟨bH,zs1,rfl,Rt,r_t_v1,bx5,by omega,?_⟩ ?_
   · show∀x∈List.take (j+1) t.2.2,jP x
     try simp only[decide_eq_true_eq] at*
     exact lp hkd (by omega) (by unfold jP;omega)
   · show Int.toNat ((t.1:Int)-((j+1):Int))<Int.toNat ((t.1:Int)-(j:Int))
     omega
  refine am rfl (df p10) (aM rfl (a9 ?_))
  clear bx5
  refine a6 rfl (ma (vb true) (af (aF (vs:=[vb true]) Try.func10 (.tmp rfl .nil) ?_)))
  have e0:(true:Bool)=(bQ t):=by
    try simp only[decide_eq_true_eq] at*
    exact(lP (T:=t) (by omega) hka ‹_› hkd (by omega)).symm
  exact⟨rb e0,bH.below⟩
 refine aj rfl (congrArg Bool.not (df p1)) (a9 ?_)
 clear bx5
 refine a6 rfl (ma (vb false) (af (aF (vs:=[vb false]) Try.func10 (.tmp rfl .nil) ?_)))
 have e0:(false:Bool)=(bQ t):=by
   try simp only[decide_eq_true_eq] at*
   exact(ec (λh=>by obtain⟨⟨h0,h1⟩,h2,h3,_,_⟩:=h;omega)).symm
 replace bH:=bH.cn ch2
 exact⟨rb e0,bH.below⟩
theorem pG(w0:World)(t:(Int)×(List ((Int)×(Int)×(Int)×(Int)))×(List Int))(t_v t_v1:Value)(ht_v:Ro w0 t_v t.2.1)(ht_v1:Ro w0 t_v1 t.2.2)(hm:cB t):
    Calls Try.prog 19 #[vg [vi t.1,t_v,t_v1]] w0 (λee w=>ee= .returned (vi (dd t.2.2))/\dC w0.heap.size w0 w):=by
 refine aC Try.func19 rfl nq ?_
 have bH:=b9.start w0
 have Rt:=ht_v.sl
 have r_t_v1:=ht_v1.sl
 refine a9 (a6 rfl (cQ rfl (d4 c0 (is 1) (1,0) rfl rfl ?_)))
 intro g4 w1 b3 ch2 bx5
 replace bx5:Bx g4 (is 1) w1 b3 [vi t.1,t_v,t_v1]:=bx5
 refine ai 0 (af (a9 (a6 rfl (ai 0 (af (a9 (a9 (a6 rfl (ai 0 (af (av ?_)))))))))))
 refine aX (σ:=Int×Nat×aG) (λ⟨n,k,gq⟩ f w=>b9 w0 gq w/\f 1=vp b3 0/\f 3=vi n/\f 4=vi ↑k/\Sl gq (is 0) w t_v t.2.1/\Sl gq (is 0) w t_v1 t.2.2/\Bx gq (is 1) w b3 [vi t.1,t_v,t_v1]/\(k:Int)<=((t.2.2.length:Int):Int)/\(n=SP k λv=>gI t.2.2 ↑v)) (λ⟨n,k,gq⟩=>Int.toNat (((t.2.2.length:Int):Int)-(k:Int))) (0,0,g4) ?_ ?_
 · exact⟨bH.cn ch2,rfl,rfl,rfl,Rt.cn ch2,r_t_v1.cn ch2,bx5,by omega,by rfl⟩
 clear Rt r_t_v1 bx5 bH
 rintro⟨n,k,g8⟩ f6 w7 ⟨bH,zs1,zs3,zs4,Rt,r_t_v1,bx5,hle_k,hn⟩ back3
 have hnd:=hm.2.2.2.2
 have hdl:=hm.2.2.1
 have hn1:=hm.1.2
 have hnb:=lb hnd k (by omega)
 rw[<-hn] at hnb
 refine a9 (a9 (a6 rfl (mz zs4 (lx (a7 cP rfl rfl zs1 rfl) (lx (a8 ao rfl bx5 rfl) ?_)))))
 have len9:=(r_t_v1).small
 refine lx (ba aW rfl r_t_v1) (lx (bo (m:=↑k) (n:=(t.2.2.length:Int)) rfl rfl) (af ?_))
 by_cases p3:(k:Int)<(t.2.2.length:Int)
 ·
  refine aj rfl (dt p3) ?_
  have hdb:=hnd _ (bx (xs:=t.2.2) (i:=↑k) (by omega) ‹_›)
  refine au (a9 (av (a6 rfl (mz zs3 (lx (a7 cP rfl rfl zs1 rfl) (lx (a8 ao rfl bx5 rfl) (mz zs4 (lx (aa (v:=t_v1) (i:=↑k) aW rfl rfl r_t_v1 rfl (by omega) (by omega)) (lx (ay (v:=t_v1) (i:=↑k) ae rfl r_t_v1 (by omega) (by omega) (by decide) rfl) ?_)))))))))
  refine lx (aP (m:=n) (n:=(gI t.2.2 ↑k)) rfl rfl (by omega)) (ai (n+(gI t.2.2 ↑k)) (af (aq (a6 rfl (mz zs4 (lx (aP (m:=↑k) (n:=1) rfl rfl (by omega)) (ai ((k:Int)+1) (af ?_))))))))
  refine back3 (n+(gI t.2.2 ↑k),k+1,g8) _ _ ⟨bH,zs1,rfl,rfl,Rt,r_t_v1,bx5,by omega,?_⟩ ?_
  · show(n+(gI t.2.2 ↑k))=SP (k+1) λv=>gI t.2.2 ↑v
    exact k8 hn
  · show Int.toNat (((t.2.2.length:Int):Int)-((k+1):Int))<Int.toNat (((t.2.2.length:Int):Int)-(k:Int))
    omega
 refine am rfl (df p3) (aM rfl (a9 ?_))
 clear bx5
 refine a6 rfl (mz zs3 (ai n (af (aF (vs:=[vi n]) Try.func19 (.tmp rfl .nil) ?_))))
 have e0:(n:Int)=(dd t.2.2):=by
   (rw[jW hn (by omega) ‹_›])
 exact⟨ri e0,bH.below⟩
theorem nw(w0:World)(t:(Int)×(List ((Int)×(Int)×(Int)×(Int)))×(List Int))(t_v t_v1:Value)(ht_v:Ro w0 t_v t.2.1)(ht_v1:Ro w0 t_v1 t.2.2):
    Calls Try.prog 9 #[vg [vi t.1,t_v,t_v1]] w0 (λee w=>ee= .returned (vb (decide (t.2.1.length<=200/\t.2.2.length<=1000/\(t.1<=60\/¬cB t))))/\dC w0.heap.size w0 w):=by
 refine aC Try.func9 rfl nq ?_
 have bH:=b9.start w0
 have Rt:=ht_v.sl
 have r_t_v1:=ht_v1.sl
 refine a9 (a6 rfl (cQ rfl (d4 c0 (is 1) (1,0) rfl rfl ?_)))
 intro g4 w1 b3 ch2 bx5
 replace bx5:Bx g4 (is 1) w1 b3 [vi t.1,t_v,t_v1]:=bx5
 refine ma (vb false) (af (a9 (a6 rfl (lx (a7 cP rfl rfl rfl rfl) (lx (a8 bT rfl bx5 rfl) ?_)))))
 replace Rt:=Rt.cn ch2
 have len6:=(Rt).small
 refine lx (ba dB rfl Rt) (lx (fB (m:=(t.2.1.length:Int)) (n:=200) rfl rfl) (mv (vb (decide ((t.2.1.length:Int)<=200))) ?_))
 by_cases q7:(t.2.1.length:Int)<=200
 ·
  refine lv (vp b3 2) (wy (dt q7)) (a7 cP rfl rfl rfl rfl) (lv (t_v1) (wy (dt q7)) (a8 ao rfl bx5 rfl) ?_)
  replace r_t_v1:=r_t_v1.cn ch2
  have len7:=(r_t_v1).small
  refine lv (vi (t.2.2.length:Int)) (wy (dt q7)) (ba aW rfl r_t_v1) (lv (vb (decide ((t.2.2.length:Int)<=1000))) (wy (dt q7)) (fB (m:=(t.2.2.length:Int)) (n:=1000) rfl rfl) (lw (vb (decide ((t.2.2.length:Int)<=1000))) (az rfl (dt q7) rfl) (mv (vb (decide ((t.2.2.length:Int)<=1000))) ?_)))
  by_cases q13:(t.2.2.length:Int)<=1000
  ·
   refine lv (vp b3 0) (wy (dt q13)) (a7 cP rfl rfl rfl rfl) (lv (vi t.1) (wy (dt q13)) (a8 ae rfl bx5 rfl) (lv (vb (decide (t.1<=60))) (wy (dt q13)) (fB (m:=t.1) (n:=60) rfl rfl) (lv (vb (decide (t.1<=60))) (wy (dt q13)) (ah rfl) ?_)))
   by_cases q17:t.1<=60
   ·
    refine ag (wn (dt q17)) (ag (wn (dt q17)) (ag (wn (dt q17)) (lv (vb true) (wy (dt q13)) (az rfl (dt q17) rfl) (lw (vb true) (az rfl (dt q13) rfl) (ma (vb true) (af (aF (vs:=[vb true]) Try.func9 (.tmp rfl .nil) ?_)))))))
    have e0:(true:Bool)=(decide (t.2.1.length<=200/\t.2.2.length<=1000/\(t.1<=60\/¬cB t))):=by
      (try simp only[bQ] at*)
      by_cases h:cB t<;>simp_all<;>omega
    replace bH:=bH.cn ch2
    exact⟨rb e0,bH.below⟩
   refine lv (vg [vi t.1,t_v,t_v1]) (wy (df q17)) (bm (ds:=[vi t.1,t_v,t_v1]) c9 rfl bx5 rfl rfl) (cQ (wy (df q17)) (bE (v:=vb (bQ t)) (aU (vals:=[vg [vi t.1,t_v,t_v1]]) Try.func10 kY kr rfl) (jA w1 t t_v t_v1 (Rt).ro (r_t_v1).ro) ?_))
   intro w8 hb9
   replace hb9:=aB hb9 g4
   refine lv (vb (!(bQ t))) (wy (df q17)) (cz (b:=(bQ t)) rfl) (lv (vb (!(bQ t))) (wy (dt q13)) (aH rfl (df q17) rfl) (lw (vb (!(bQ t))) (az rfl (dt q13) rfl) (ma (vb (!(bQ t))) (af (aF (vs:=[vb (!(bQ t))]) Try.func9 (.tmp rfl .nil) ?_)))))
   have e0:(!(bQ t):Bool)=(decide (t.2.1.length<=200/\t.2.2.length<=1000/\(t.1<=60\/¬cB t))):=by
     (try simp only[bQ] at*)
     by_cases h:cB t<;>simp_all<;>omega
   replace bH:=bH.cn ch2
   replace bH:=bH.cn hb9
   exact⟨rb e0,bH.below⟩
  refine ag (wn (df q13)) (ag (wn (df q13)) (ag (wn (df q13)) (ag (wn (df q13)) (ag (bA rfl rfl rfl) (ag (bA rfl rfl rfl) (ag (bA rfl rfl rfl) (ag (wn (df q13)) (lw (vb false) (aH rfl (df q13) rfl) (ma (vb false) ?_)))))))))
  refine af (aF (vs:=[vb false]) Try.func9 (.tmp rfl .nil) ?_)
  have e0:(false:Bool)=(decide (t.2.1.length<=200/\t.2.2.length<=1000/\(t.1<=60\/¬cB t))):=by
    (try simp only[bQ] at*)
    by_cases h:cB t<;>simp_all<;>omega
  replace bH:=bH.cn ch2
  exact⟨rb e0,bH.below⟩
 refine ag (wn (df q7)) (ag (wn (df q7)) (ag (wn (df q7)) (ag (wn (df q7)) (lw (vb false) (aH rfl (df q7) rfl) (mv (vb false) (ag (wn rfl) (ag (wn rfl) (ag (wn rfl) (ag (wn rfl) (ag (bA rfl rfl rfl) (ag (bA rfl rfl rfl) (ag (bA rfl rfl rfl) ?_))))))))))))
 refine ag (wn rfl) (lw (vb false) (aH rfl rfl rfl) (ma (vb false) (af (aF (vs:=[vb false]) Try.func9 (.tmp rfl .nil) ?_))))
 have e0:(false:Bool)=(decide (t.2.1.length<=200/\t.2.2.length<=1000/\(t.1<=60\/¬cB t))):=by
   (try simp only[bQ] at*)
   by_cases h:cB t<;>simp_all<;>omega
 replace bH:=bH.cn ch2
 exact⟨rb e0,bH.below⟩
theorem eT(w0:World):
    Calls Try.prog 23 #[] w0 (λee w=>∃xx:aG×Value×Value,ee= .returned ((λ⟨δ,rv0,rv1⟩=>vg [vi ct.1,rv0,rv1]) xx)/\(λ(⟨δ,rv0,rv1⟩:aG×Value×Value) (w:World)=>jY w0 δ w/\Ow δ (is 1) (is 1) w rv0 ct.2.1/\Ow δ (is 2) (is 2) w rv1 ct.2.2) xx w):=by
 refine aC Try.func23 rfl nq ?_
 have bH:=b9.start w0
 refine a9 (a6 rfl (cQ rfl (cd c0 (is 1) (1,0) rfl c9 ?_)))
 intro g4 w1 b3 ch2 bx5
 replace bx5:Bx g4 (is 1) w1 b3 [vi 0,vn,vn]:=bx5
 refine af (a9 (a6 rfl (lw (vg [vi 0,vi 1,vi 2,vi 1]) (bp (vs:=[(0,vi 0),(1,vi 1),(2,vi 2),(3,vi 1)]) rfl (by kernel_rfl)) (lw (vg [vi 1,vi 2,vi 2,vi 1]) (bp (vs:=[(0,vi 1),(1,vi 2),(2,vi 2),(3,vi 1)]) rfl (by kernel_rfl)) (lw (vg [vi 0,vi 2,vi 1,vi 5]) (bp (vs:=[(0,vi 0),(1,vi 2),(2,vi 1),(3,vi 5)]) rfl (by kernel_rfl)) (lo ?_))))))
 refine aw (α:=(Int)×(Int)×(Int)×(Int)) g4 (is 2) (is 2) (2,0) rfl [(0,1,2,1),(1,2,2,1),(0,2,1,5)] dB bz (by decide) (by decide) (vs:=[(0,vg [vi 0,vi 1,vi 2,vi 1]),(1,vg [vi 1,vi 2,vi 2,vi 1]),(2,vg [vi 0,vi 2,vi 1,vi 5])]) rfl rfl (.cons rfl (.cons rfl (.cons rfl .nil))) ?_
 intro g6 w7 v8 ch9 o10
 refine lo (aw (α:=Int) g6 (is 3) (is 3) (3,0) rfl [3,0,-3] aW ae (by decide) (by decide) (vs:=[(0,vi 3),(1,vi 0),(2,vi (-3))]) rfl rfl (.cons rfl (.cons rfl (.cons rfl .nil))) ?_)
 intro g11 w12 v13 ch14 o15
 replace o10:=o10.cn ch14
 refine lw (vg [vi 3,v8,v13]) (bp (vs:=[(0,vi 3),(1,v8),(2,v13)]) rfl (by rw[Sl.form o15.flat,Sl.form o10.flat];kernel_rfl)) (lo ?_)
 replace bx5:=(bx5.cn ch9).cn ch14
 refine aR (cs':=[vi 3,v8,v13]) c9 rfl rfl bx5 rfl nq (AllOne.all (.cons rfl (.cons (aZ o10.flat) (.cons (aZ o15.flat) .nil)))) rfl ?_
 intro w16 ch17 bx18
 clear bx5
 refine af (aF (vs:=[vg [vi 3,v8,v13]]) Try.func23 (.cell rfl (eL (ds:=[vi 3,v8,v13]) c9 bx18 rfl rfl) .nil) ?_)
 have C19:=cg [1] (ch2.n.seq (ch9.n.seq (ch14.n.seq (ch17.l rfl))))
 replace bH:=bH.ca C19
 replace o10:=o10.ce ch17
 replace o15:=o15.ce ch17
 have e0:((3,[(0,1,2,1),(1,2,2,1),(0,2,1,5)],[3,0,-3]):(Int)×(List ((Int)×(Int)×(Int)×(Int)))×(List Int))=(ct):=by
   rfl
 exact⟨(fin w0 g11 (λn=>if n=2 then 1 else if n=3 then 2 else 0),v8,v13),(congrArg (a₁:=(3,[(0,1,2,1),(1,2,2,1),(0,2,1,5)],[3,0,-3])) (λ(z0:(Int)×(List ((Int)×(Int)×(Int)×(Int)))×(List Int))=>Ending.returned (vg [vi z0.1,v8,v13])) e0),bH.fresh _,((congrArg (λ(z:(Int)×(List ((Int)×(Int)×(Int)×(Int)))×(List Int))=>z.2.1) e0)▸(o10.glue (γ:=c0) (ren:=(λn=>if n=2 then 1 else if n=3 then 2 else 0)) (k:=1) bH.col rfl rfl)),((congrArg (λ(z:(Int)×(List ((Int)×(Int)×(Int)×(Int)))×(List Int))=>z.2.2) e0)▸(o15.glue (γ:=c0) (ren:=(λn=>if n=2 then 1 else if n=3 then 2 else 0)) (k:=2) bH.col rfl rfl))⟩
end TL
