import Derived.Test.YtmaclbnodbcniaaFmTlP3
import Derived.Test.YtmaclbnodbcniaaProg
import Derived.Test.YtmaclbnodbcniaaFmTlAli
set_option linter.all false
set_option maxRecDepth 20000
namespace TL
open Go Go.Proofs
theorem ae:Tp Try.prog 3 false 1 8 (.int .i64 0):=Tp.of (by kernel_rfl)
theorem bT:Tp Try.prog 22 false 1 24 (.slice none 0 0):=Tp.of (by kernel_rfl)
theorem ao:Tp Try.prog 23 false 1 24 (.slice none 0 0):=Tp.of (by kernel_rfl)
theorem bz:Tp Try.prog 47 true 4 32 (.agg #[.int .i64 0,.int .i64 0,.int .i64 0,.int .i64 0]):=Tp.of (by kernel_rfl)
theorem eE:Try.f27.body.isNone=false:=rfl
theorem ew:(Try.f27.name== "runtime.NumGoroutine")=false:=by decide+kernel
theorem dz(w0:World)(x:Int)(low:Int)(high:Int):
    Calls Try.prog 27 #[vi x,vi low,vi high] w0 (λee w=>ee= .returned (vb (decide (low<=x/\x<=high)))/\dC w0.heap.size w0 w):=by
 refine aC Try.func27 rfl nq ?_
 have bH:=b9.start w0
 refine a9 (a6 rfl (ma (vb false) (af (a9 (a6 rfl (mi low (mi x (lx (fB (m:=low) (n:=x) rfl rfl) (mv (vb (decide (low<=x))) ?_)))))))))
 by_cases q10:low<=x
 ·
  refine lv (vi x) (wy (dt q10)) (ah rfl) (lv (vi high) (wy (dt q10)) (ah rfl) (lv (vb (decide (x<=high))) (wy (dt q10)) (fB (m:=x) (n:=high) rfl rfl) (lw (vb (decide (x<=high))) (az rfl (dt q10) rfl) (ma (vb (decide (x<=high))) (af (aF (vs:=[vb (decide (x<=high))]) Try.func27 (.tmp rfl .nil) ?_))))))
  have e0:(decide (x<=high):Bool)=(decide (low<=x/\x<=high)):=by
    simp_all<;>omega
  exact⟨rb e0,bH.below⟩
 refine ag (wn (df q10)) (ag (wn (df q10)) (ag (wn (df q10)) (lw (vb false) (aH rfl (df q10) rfl) (ma (vb false) (af (aF (vs:=[vb false]) Try.func27 (.tmp rfl .nil) ?_))))))
 have e0:(false:Bool)=(decide (low<=x/\x<=high)):=by
   simp_all<;>omega
 exact⟨rb e0,bH.below⟩
theorem gO(w0:World)(t:(Int)×(List ((Int)×(Int)×(Int)×(Int)))×(List Int))(t_v t_v1:Value)(ht_v:Ro w0 t_v t.2.1)(ht_v1:Ro w0 t_v1 t.2.2):
    Calls Try.prog 14 #[vg [vi t.1,t_v,t_v1]] w0 (λee w=>ee= .returned (vb (bQ t))/\dC w0.heap.size w0 w):=by
 refine aC Try.func14 rfl nq ?_
 have bH:=b9.start w0
 have Rt:=ht_v.sl
 have r_t_v1:=ht_v1.sl
 refine a9 (a6 rfl (cQ rfl (d4 c0 (is 1) (1,0) rfl rfl ?_)))
 intro g4 w1 b3 ch2 bx5
 replace bx5:Bx g4 (is 1) w1 b3 [vi t.1,t_v,t_v1]:=bx5
 refine ma (vb false) (af (a9 (a9 (a6 rfl (lx (a7 cP rfl rfl rfl rfl) (lx (a8 ae rfl bx5 rfl) (lo (bE (v:=vb (decide (0<=t.1/\t.1<=4096))) (aU (vals:=[vi t.1,vi 0,vi 4096]) Try.func27 eE ew rfl) (dz w1 t.1 0 4096) ?_))))))))
 intro w6 hb7
 replace hb7:=aB hb7 g4
 refine lx (cz (b:=(decide (0<=t.1/\t.1<=4096))) rfl) (mv (vb (!(decide (0<=t.1/\t.1<=4096)))) ?_)
 by_cases q11:(decide (0<=t.1/\t.1<=4096))=true
 ·
  refine lv (vp b3 1) (wy (congrArg Bool.not q11)) (a7 cP rfl rfl rfl rfl) ?_
  replace bx5:=bx5.cn hb7
  refine lv (t_v) (wy (congrArg Bool.not q11)) (a8 bT rfl bx5 rfl) ?_
  replace Rt:=(Rt.cn ch2).cn hb7
  have len8:=(Rt).small
  refine lv (vi (t.2.1.length:Int)) (wy (congrArg Bool.not q11)) (ba dB rfl Rt) (lv (vb (decide (16384<(t.2.1.length:Int)))) (wy (congrArg Bool.not q11)) (bY (m:=(t.2.1.length:Int)) (n:=16384) rfl rfl) (lw (vb (decide (16384<(t.2.1.length:Int)))) (aH rfl (congrArg Bool.not q11) rfl) (mv (vb (decide (16384<(t.2.1.length:Int)))) ?_)))
  by_cases q17:16384<(t.2.1.length:Int)
  ·
   refine ag (wn (dt q17)) (ag (wn (dt q17)) (ag (wn (dt q17)) (ag (wn (dt q17)) (ag (wn (dt q17)) (ag (wn (dt q17)) (lw (vb true) (az rfl (dt q17) rfl) (af (aj rfl rfl (a9 ?_)))))))))
   clear bx5
   refine a6 rfl (ma (vb false) (af (aF (vs:=[vb false]) Try.func14 (.tmp rfl .nil) ?_)))
   have e0:(false:Bool)=(bQ t):=by
     try simp only[decide_eq_true_eq] at*
     exact(ec (λh=>by obtain⟨⟨h0,h1⟩,h2,h3,_,_⟩:=h;omega)).symm
   replace bH:=bH.cn ch2
   replace bH:=bH.cn hb7
   exact⟨rb e0,bH.below⟩
  refine lv (vp b3 2) (wy (df q17)) (a7 cP rfl rfl rfl rfl) (lv (t_v1) (wy (df q17)) (a8 ao rfl bx5 rfl) ?_)
  replace r_t_v1:=(r_t_v1.cn ch2).cn hb7
  have len9:=(r_t_v1).small
  refine lv (vi (t.2.2.length:Int)) (wy (df q17)) (ba aW rfl r_t_v1) (lv (vp b3 0) (wy (df q17)) (a7 cP rfl rfl rfl rfl) (lv (vi t.1) (wy (df q17)) (a8 ae rfl bx5 rfl) (lv (vb (!(decide ((t.2.2.length:Int)=t.1)))) (wy (df q17)) (cY (m:=(t.2.2.length:Int)) (n:=t.1) rfl rfl) (lw (vb (!(decide ((t.2.2.length:Int)=t.1)))) (aH rfl (df q17) rfl) (af ?_)))))
  by_cases p1:(t.2.2.length:Int)=t.1
  ·
   refine am rfl (congrArg Bool.not (dt p1)) (au (a9 (a9 (a6 rfl (lx (a7 cP rfl rfl rfl rfl) (lx (a8 bT rfl bx5 rfl) (lx (ba dB rfl Rt) (mi 0 (af (av ?_))))))))))
   refine aX (σ:=Nat×aG) (λ⟨k,gq⟩ f w=>b9 w0 gq w/\f 1=vp b3 0/\f 26=t_v/\f 27=vi (t.2.1.length:Int)/\f 28=vi ↑k/\Sl gq (is 0) w t_v t.2.1/\Sl gq (is 0) w t_v1 t.2.2/\Bx gq (is 1) w b3 [vi t.1,t_v,t_v1]/\(k:Int)<=((t.2.1.length:Int):Int)/\(∀a∈List.take k t.2.1,ij t.1 a)) (λ⟨k,gq⟩=>Int.toNat (((t.2.1.length:Int):Int)-(k:Int))) (0,g4) ?_ ?_
   replace bH:=bH.cn ch2
   · exact⟨bH.cn hb7,rfl,rfl,rfl,rfl,Rt,r_t_v1,bx5,by omega,by simp⟩
   clear Rt r_t_v1 bx5 bH
   rintro⟨k,g12⟩ f10 w11 ⟨bH,zs1,zs26,zs27,zs28,Rt,r_t_v1,bx5,hle_k,hka⟩ back4
   refine a9 (a6 rfl (lx (bo (m:=↑k) (n:=(t.2.1.length:Int)) zs28 zs27) (af (a9 ?_))))
   by_cases p4:(k:Int)<(t.2.1.length:Int)
   ·
    refine aj rfl (dt p4) (au (a9 (av (a9 (a6 rfl (lx (aa (v:=t_v) (i:=↑k) dB rfl zs26 Rt zs28 (by omega) (by omega)) (lw (vg [vi ((gI t.2.1 ↑k).1),vi (((gI t.2.1 ↑k).2).1),vi ((((gI t.2.1 ↑k).2).2).1),vi ((((gI t.2.1 ↑k).2).2).2)]) (bh (v:=t_v) (i:=↑k) bz rfl Rt (by omega) (by omega) rfl) (lo (cd g12 (is 2) (2,0) rfl bz ?_)))))))))
    intro g16 w13 b15 ch14 bx17
    replace bx17:Bx g16 (is 2) w13 b15 [vi 0,vi 0,vi 0,vi 0]:=bx17
    refine lo (aR (cs':=[vi ((gI t.2.1 ↑k).1),vi (((gI t.2.1 ↑k).2).1),vi ((((gI t.2.1 ↑k).2).2).1),vi ((((gI t.2.1 ↑k).2).2).2)]) bz rfl rfl bx17 rfl nq (AllOne.all (.cons rfl (.cons rfl (.cons rfl (.cons rfl .nil))))) rfl ?_)
    intro w18 ch19 bx20
    clear bx17
    refine af (a9 (a6 rfl (lx (a7 dK rfl rfl rfl rfl) (lx (a8 ae rfl bx20 rfl) (lx (a7 cP rfl rfl zs1 rfl) ?_)))))
    replace bx5:=(bx5.cn ch14).ce ch19
    refine lx (a8 ae rfl bx5 rfl) (lx (cV (m:=t.1) (n:=1) rfl rfl (by omega)) (lo (bE (v:=vb (decide (0<=((gI t.2.1 ↑k).1)/\((gI t.2.1 ↑k).1)<=(t.1-1)))) (aU (vals:=[vi ((gI t.2.1 ↑k).1),vi 0,vi (t.1-1)]) Try.func27 eE ew rfl) (dz w18 ((gI t.2.1 ↑k).1) 0 (t.1-1)) ?_)))
    intro w21 hb22
    replace hb22:=aB hb22 g16
    refine lx (cz (b:=(decide (0<=((gI t.2.1 ↑k).1)/\((gI t.2.1 ↑k).1)<=(t.1-1)))) rfl) (mv (vb (!(decide (0<=((gI t.2.1 ↑k).1)/\((gI t.2.1 ↑k).1)<=(t.1-1))))) ?_)
    by_cases q39:(decide (0<=((gI t.2.1 ↑k).1)/\((gI t.2.1 ↑k).1)<=(t.1-1)))=true
    ·
     refine lv (vp b15 1) (wy (congrArg Bool.not q39)) (a7 dK rfl rfl rfl rfl) ?_
     replace bx20:=bx20.cn hb22
     refine lv (vi (((gI t.2.1 ↑k).2).1)) (wy (congrArg Bool.not q39)) (a8 ae rfl bx20 rfl) (lv (vp b3 0) (wy (congrArg Bool.not q39)) (a7 cP rfl rfl zs1 rfl) ?_)
     replace bx5:=bx5.cn hb22
     refine lv (vi t.1) (wy (congrArg Bool.not q39)) (a8 ae rfl bx5 rfl) (lv (vi (t.1-1)) (wy (congrArg Bool.not q39)) (cV (m:=t.1) (n:=1) rfl rfl (by omega)) (cQ (wy (congrArg Bool.not q39)) (bE (v:=vb (decide (0<=(((gI t.2.1 ↑k).2).1)/\(((gI t.2.1 ↑k).2).1)<=(t.1-1)))) (aU (vals:=[vi (((gI t.2.1 ↑k).2).1),vi 0,vi (t.1-1)]) Try.func27 eE ew rfl) (dz w21 (((gI t.2.1 ↑k).2).1) 0 (t.1-1)) ?_)))
     intro w23 hb24
     replace hb24:=aB hb24 g16
     refine lv (vb (!(decide (0<=(((gI t.2.1 ↑k).2).1)/\(((gI t.2.1 ↑k).2).1)<=(t.1-1))))) (wy (congrArg Bool.not q39)) (cz (b:=(decide (0<=(((gI t.2.1 ↑k).2).1)/\(((gI t.2.1 ↑k).2).1)<=(t.1-1)))) rfl) (lw (vb (!(decide (0<=(((gI t.2.1 ↑k).2).1)/\(((gI t.2.1 ↑k).2).1)<=(t.1-1))))) (aH rfl (congrArg Bool.not q39) rfl) (mv (vb (!(decide (0<=(((gI t.2.1 ↑k).2).1)/\(((gI t.2.1 ↑k).2).1)<=(t.1-1))))) ?_))
     by_cases q48:(decide (0<=(((gI t.2.1 ↑k).2).1)/\(((gI t.2.1 ↑k).2).1)<=(t.1-1)))=true
     ·
      refine lv (vp b15 2) (wy (congrArg Bool.not q48)) (a7 dK rfl rfl rfl rfl) ?_
      replace bx20:=bx20.cn hb24
      refine lv (vi ((((gI t.2.1 ↑k).2).2).1)) (wy (congrArg Bool.not q48)) (a8 ae rfl bx20 rfl) (cQ (wy (congrArg Bool.not q48)) (bE (v:=vb (decide (0<=((((gI t.2.1 ↑k).2).2).1)/\((((gI t.2.1 ↑k).2).2).1)<=1048576))) (aU (vals:=[vi ((((gI t.2.1 ↑k).2).2).1),vi 0,vi 1048576]) Try.func27 eE ew rfl) (dz w23 ((((gI t.2.1 ↑k).2).2).1) 0 1048576) ?_))
      intro w25 hb26
      replace hb26:=aB hb26 g16
      refine lv (vb (!(decide (0<=((((gI t.2.1 ↑k).2).2).1)/\((((gI t.2.1 ↑k).2).2).1)<=1048576)))) (wy (congrArg Bool.not q48)) (cz (b:=(decide (0<=((((gI t.2.1 ↑k).2).2).1)/\((((gI t.2.1 ↑k).2).2).1)<=1048576))) rfl) (lw (vb (!(decide (0<=((((gI t.2.1 ↑k).2).2).1)/\((((gI t.2.1 ↑k).2).2).1)<=1048576)))) (aH rfl (congrArg Bool.not q48) rfl) (mv (vb (!(decide (0<=((((gI t.2.1 ↑k).2).2).1)/\((((gI t.2.1 ↑k).2).2).1)<=1048576)))) ?_))
      by_cases q54:(decide (0<=((((gI t.2.1 ↑k).2).2).1)/\((((gI t.2.1 ↑k).2).2).1)<=1048576))=true
      ·
       refine lv (vp b15 3) (wy (congrArg Bool.not q54)) (a7 dK rfl rfl rfl rfl) ?_
       replace bx20:=bx20.cn hb26
       refine lv (vi ((((gI t.2.1 ↑k).2).2).2)) (wy (congrArg Bool.not q54)) (a8 ae rfl bx20 rfl) (cQ (wy (congrArg Bool.not q54)) (bE (v:=vb (decide (0<=((((gI t.2.1 ↑k).2).2).2)/\((((gI t.2.1 ↑k).2).2).2)<=1048576))) (aU (vals:=[vi ((((gI t.2.1 ↑k).2).2).2),vi 0,vi 1048576]) Try.func27 eE ew rfl) (dz w25 ((((gI t.2.1 ↑k).2).2).2) 0 1048576) ?_))
       intro w27 hb28
       replace hb28:=aB hb28 g16
       refine lv (vb (!(decide (0<=((((gI t.2.1 ↑k).2).2).2)/\((((gI t.2.1 ↑k).2).2).2)<=1048576)))) (wy (congrArg Bool.not q54)) (cz (b:=(decide (0<=((((gI t.2.1 ↑k).2).2).2)/\((((gI t.2.1 ↑k).2).2).2)<=1048576))) rfl) (lw (vb (!(decide (0<=((((gI t.2.1 ↑k).2).2).2)/\((((gI t.2.1 ↑k).2).2).2)<=1048576)))) (aH rfl (congrArg Bool.not q54) rfl) (af ?_))
       by_cases p6:(decide (0<=((((gI t.2.1 ↑k).2).2).2)/\((((gI t.2.1 ↑k).2).2).2)<=1048576))=true
       ·
        refine am rfl (congrArg Bool.not p6) (au (aq ?_))
        clear bx20
        refine a6 rfl (lx (aP (m:=↑k) (n:=1) zs28 rfl (by omega)) (mi ((k:Int)+1) (af ?_)))
        have C29:=cg [2] (ch14.n.seq ((ch19.l rfl).seq (hb22.n.seq (hb24.n.seq (hb26.n.seq hb28.n)))))
        have C30:=cg [] (hb24.n.seq (hb26.n.seq hb28.n))
        refine back4 (k+1,g16) _ _ ⟨bH.ca C29,zs1,zs26,zs27,rfl,Rt.ca C29,r_t_v1.ca C29,bx5.ca C30,by omega,?_⟩ ?_
        · show∀a∈List.take (k+1) t.2.1,ij t.1 a
          try simp only[decide_eq_true_eq] at*
          exact ly hka ‹_› (by unfold ij;omega)
        · show Int.toNat (((t.2.1.length:Int):Int)-((k+1):Int))<Int.toNat (((t.2.1.length:Int):Int)-(k:Int))
          omega
       refine aj rfl (congrArg Bool.not (Bool.eq_false_iff.2 p6)) (a9 ?_)
       clear bx5 bx20
       refine a6 rfl (ma (vb false) (af (aF (vs:=[vb false]) Try.func14 (.tmp rfl .nil) ?_)))
       have e0:(false:Bool)=(bQ t):=by
         try simp only[decide_eq_true_eq] at*
         exact(cW (T:=t) (k:=k) ‹_› (λh=>by unfold ij at h;omega)).symm
       have C31:=cg [2] (ch14.n.seq ((ch19.l rfl).seq (hb22.n.seq (hb24.n.seq (hb26.n.seq hb28.n)))))
       replace bH:=bH.ca C31
       exact⟨rb e0,bH.below⟩
      refine ag (wn (congrArg Bool.not (Bool.eq_false_iff.2 q54))) (ag (wn (congrArg Bool.not (Bool.eq_false_iff.2 q54))) (ag (wn (congrArg Bool.not (Bool.eq_false_iff.2 q54))) (ag (wn (congrArg Bool.not (Bool.eq_false_iff.2 q54))) (lw (vb true) (az rfl (congrArg Bool.not (Bool.eq_false_iff.2 q54)) rfl) (af (aj rfl rfl (a9 ?_)))))))
      clear bx5 bx20
      refine a6 rfl (ma (vb false) (af (aF (vs:=[vb false]) Try.func14 (.tmp rfl .nil) ?_)))
      have e0:(false:Bool)=(bQ t):=by
        try simp only[decide_eq_true_eq] at*
        exact(cW (T:=t) (k:=k) ‹_› (λh=>by unfold ij at h;omega)).symm
      have C32:=cg [2] (ch14.n.seq ((ch19.l rfl).seq (hb22.n.seq (hb24.n.seq hb26.n))))
      replace bH:=bH.ca C32
      exact⟨rb e0,bH.below⟩
     refine ag (wn (congrArg Bool.not (Bool.eq_false_iff.2 q48))) (ag (wn (congrArg Bool.not (Bool.eq_false_iff.2 q48))) (ag (wn (congrArg Bool.not (Bool.eq_false_iff.2 q48))) (ag (wn (congrArg Bool.not (Bool.eq_false_iff.2 q48))) (lw (vb true) (az rfl (congrArg Bool.not (Bool.eq_false_iff.2 q48)) rfl) (mv (vb true) (ag (wn rfl) (ag (wn rfl) (ag (wn rfl) (ag (wn rfl) (lw (vb true) (az rfl rfl rfl) (af (aj rfl rfl ?_))))))))))))
     refine a9 ?_
     clear bx5 bx20
     refine a6 rfl (ma (vb false) (af (aF (vs:=[vb false]) Try.func14 (.tmp rfl .nil) ?_)))
     have e0:(false:Bool)=(bQ t):=by
       try simp only[decide_eq_true_eq] at*
       exact(cW (T:=t) (k:=k) ‹_› (λh=>by unfold ij at h;omega)).symm
     have C33:=cg [2] (ch14.n.seq ((ch19.l rfl).seq (hb22.n.seq hb24.n)))
     replace bH:=bH.ca C33
     exact⟨rb e0,bH.below⟩
    refine ag (wn (congrArg Bool.not (Bool.eq_false_iff.2 q39))) (ag (wn (congrArg Bool.not (Bool.eq_false_iff.2 q39))) (ag (wn (congrArg Bool.not (Bool.eq_false_iff.2 q39))) (ag (wn (congrArg Bool.not (Bool.eq_false_iff.2 q39))) (ag (wn (congrArg Bool.not (Bool.eq_false_iff.2 q39))) (ag (wn (congrArg Bool.not (Bool.eq_false_iff.2 q39))) (ag (wn (congrArg Bool.not (Bool.eq_false_iff.2 q39))) (lw (vb true) (az rfl (congrArg Bool.not (Bool.eq_false_iff.2 q39)) rfl) (mv (vb true) (ag (wn rfl) (ag (wn rfl) (ag (wn rfl) (ag (wn rfl) ?_))))))))))))
    refine lw (vb true) (az rfl rfl rfl) (mv (vb true) (ag (wn rfl) (ag (wn rfl) (ag (wn rfl) (ag (wn rfl) (lw (vb true) (az rfl rfl rfl) (af (aj rfl rfl (a9 ?_)))))))))
    clear bx5 bx20
    refine a6 rfl (ma (vb false) (af (aF (vs:=[vb false]) Try.func14 (.tmp rfl .nil) ?_)))
    have e0:(false:Bool)=(bQ t):=by
      try simp only[decide_eq_true_eq] at*
      exact(cW (T:=t) (k:=k) ‹_› (λh=>by unfold ij at h;omega)).symm
    have C34:=cg [2] (ch14.n.seq ((ch19.l rfl).seq hb22.n))
    replace bH:=bH.ca C34
    exact⟨rb e0,bH.below⟩
   refine am rfl (df p4) (aM rfl (a9 (a9 (a6 rfl (lx (a7 cP rfl rfl zs1 rfl) (lx (a8 ao rfl bx5 rfl) (lx (ba aW rfl r_t_v1) (mi 0 (af (av ?_))))))))))
   clear bx5
   refine aX (σ:=Nat×aG) (λ⟨j,gq⟩ f w=>b9 w0 gq w/\f 62=t_v1/\f 63=vi (t.2.2.length:Int)/\f 64=vi ↑j/\Sl gq (is 0) w t_v t.2.1/\Sl gq (is 0) w t_v1 t.2.2/\(j:Int)<=((t.2.2.length:Int):Int)/\(∀x∈List.take j t.2.2,jP x)) (λ⟨j,gq⟩=>Int.toNat (((t.2.2.length:Int):Int)-(j:Int))) (0,g12) ?_ ?_
   · exact⟨bH,rfl,rfl,rfl,Rt,r_t_v1,by omega,by simp⟩
   clear Rt r_t_v1 bH
   rintro⟨j,g37⟩ f35 w36 ⟨bH,zs62,zs63,zs64,Rt,r_t_v1,hle_j,hkd⟩ back10
   refine a9 (a6 rfl (lx (bo (m:=↑j) (n:=(t.2.2.length:Int)) zs64 zs63) (af (a9 ?_))))
   by_cases p10:(j:Int)<(t.2.2.length:Int)
   ·
    refine aj rfl (dt p10) (au (a9 (av (a9 (a6 rfl (lx (aa (v:=t_v1) (i:=↑j) aW rfl zs62 r_t_v1 zs64 (by omega) (by omega)) (lx (ay (v:=t_v1) (i:=↑j) ae rfl r_t_v1 (by omega) (by omega) (by decide) rfl) (ai (gI t.2.2 ↑j) (af (a9 (a6 rfl (mi (gI t.2.2 ↑j) ?_))))))))))))
    refine lo (bE (v:=vb (decide ((-1048576)<=(gI t.2.2 ↑j)/\(gI t.2.2 ↑j)<=1048576))) (aU (vals:=[vi (gI t.2.2 ↑j),vi (-1048576),vi 1048576]) Try.func27 eE ew rfl) (dz w36 (gI t.2.2 ↑j) (-1048576) 1048576) ?_)
    intro w38 hb39
    replace hb39:=aB hb39 g37
    refine lx (cz (b:=(decide ((-1048576)<=(gI t.2.2 ↑j)/\(gI t.2.2 ↑j)<=1048576))) rfl) (af ?_)
    by_cases p12:(decide ((-1048576)<=(gI t.2.2 ↑j)/\(gI t.2.2 ↑j)<=1048576))=true
    ·
     refine am rfl (congrArg Bool.not p12) (au (aq (a6 rfl (lx (aP (m:=↑j) (n:=1) zs64 rfl (by omega)) (mi ((j:Int)+1) (af ?_))))))
     refine back10 (j+1,g37) _ _ ⟨bH.cn hb39,zs62,zs63,rfl,Rt.cn hb39,r_t_v1.cn hb39,by omega,?_⟩ ?_
     · show∀x∈List.take (j+1) t.2.2,jP x
       try simp only[decide_eq_true_eq] at*
       exact lp hkd ‹_› (by unfold jP;omega)
     · show Int.toNat (((t.2.2.length:Int):Int)-((j+1):Int))<Int.toNat (((t.2.2.length:Int):Int)-(j:Int))
       omega
    refine aj rfl (congrArg Bool.not (Bool.eq_false_iff.2 p12)) (a9 (a6 rfl (ma (vb false) (af (aF (vs:=[vb false]) Try.func14 (.tmp rfl .nil) ?_)))))
    have e0:(false:Bool)=(bQ t):=by
      try simp only[decide_eq_true_eq] at*
      exact(hH (T:=t) (k:=j) ‹_› (λh=>by omega)).symm
    replace bH:=bH.cn hb39
    exact⟨rb e0,bH.below⟩
   refine am rfl (df p10) (aM rfl (a9 (a6 rfl (ma (vb true) (af (aF (vs:=[vb true]) Try.func14 (.tmp rfl .nil) ?_))))))
   have e0:(true:Bool)=(bQ t):=by
     try simp only[decide_eq_true_eq] at*
     exact(lP (T:=t) (by omega) hka ‹_› hkd ‹_›).symm
   exact⟨rb e0,bH.below⟩
  refine aj rfl (congrArg Bool.not (df p1)) (a9 ?_)
  clear bx5
  refine a6 rfl (ma (vb false) (af (aF (vs:=[vb false]) Try.func14 (.tmp rfl .nil) ?_)))
  have e0:(false:Bool)=(bQ t):=by
    try simp only[decide_eq_true_eq] at*
    exact(ec (λh=>by obtain⟨⟨h0,h1⟩,h2,h3,_,_⟩:=h;omega)).symm
  replace bH:=bH.cn ch2
  replace bH:=bH.cn hb7
  exact⟨rb e0,bH.below⟩
 refine ag (wn (congrArg Bool.not (Bool.eq_false_iff.2 q11))) (ag (wn (congrArg Bool.not (Bool.eq_false_iff.2 q11))) (ag (wn (congrArg Bool.not (Bool.eq_false_iff.2 q11))) (ag (wn (congrArg Bool.not (Bool.eq_false_iff.2 q11))) (lw (vb true) (az rfl (congrArg Bool.not (Bool.eq_false_iff.2 q11)) rfl) (mv (vb true) (ag (wn rfl) (ag (wn rfl) (ag (wn rfl) (ag (wn rfl) (ag (wn rfl) (ag (wn rfl) (lw (vb true) (az rfl rfl rfl) (af (aj rfl rfl ?_))))))))))))))
 refine a9 ?_
 clear bx5
 refine a6 rfl (ma (vb false) (af (aF (vs:=[vb false]) Try.func14 (.tmp rfl .nil) ?_)))
 have e0:(false:Bool)=(bQ t):=by
   try simp only[decide_eq_true_eq] at*
   exact(ec (λh=>by obtain⟨⟨h0,h1⟩,h2,h3,_,_⟩:=h;omega)).symm
 replace bH:=bH.cn ch2
 replace bH:=bH.cn hb7
 exact⟨rb e0,bH.below⟩
theorem ip(w0:World)(t:(Int)×(List ((Int)×(Int)×(Int)×(Int)))×(List Int))(t_v t_v1:Value)(ht_v:Ro w0 t_v t.2.1)(ht_v1:Ro w0 t_v1 t.2.2)(hm:cB t):
    Calls Try.prog 26 #[vg [vi t.1,t_v,t_v1]] w0 (λee w=>ee= .returned (vb (decide (dd t.2.2=0)))/\dC w0.heap.size w0 w):=by
 refine aC Try.func26 rfl nq ?_
 have bH:=b9.start w0
 have Rt:=ht_v.sl
 have r_t_v1:=ht_v1.sl
 refine a9 (a6 rfl (cQ rfl (d4 c0 (is 1) (1,0) rfl rfl ?_)))
 intro g4 w1 b3 ch2 bx5
 replace bx5:Bx g4 (is 1) w1 b3 [vi t.1,t_v,t_v1]:=bx5
 refine ma (vb false) (af (a9 (a6 rfl (ai 0 (af (a9 (a9 (a6 rfl (lx (a7 cP rfl rfl rfl rfl) (lx (a8 ao rfl bx5 rfl) ?_))))))))))
 replace r_t_v1:=r_t_v1.cn ch2
 have len6:=(r_t_v1).small
 refine lx (ba aW rfl r_t_v1) (mi 0 (af (av ?_)))
 clear bx5
 refine aX (σ:=Int×Nat×aG) (λ⟨n,k,gq⟩ f w=>b9 w0 gq w/\f 3=vi n/\f 7=t_v1/\f 8=vi (t.2.2.length:Int)/\f 9=vi ↑k/\Sl gq (is 0) w t_v t.2.1/\Sl gq (is 0) w t_v1 t.2.2/\(k:Int)<=((t.2.2.length:Int):Int)/\(n=SP k λv=>gI t.2.2 ↑v)) (λ⟨n,k,gq⟩=>Int.toNat (((t.2.2.length:Int):Int)-(k:Int))) (0,0,g4) ?_ ?_
 · exact⟨bH.cn ch2,rfl,rfl,rfl,rfl,Rt.cn ch2,r_t_v1,by omega,by rfl⟩
 clear Rt r_t_v1 bH
 rintro⟨n,k,g9⟩ f7 w8 ⟨bH,zs3,zs7,zs8,zs9,Rt,r_t_v1,hle_k,hn⟩ back3
 have hnd:=hm.2.2.2.2
 have hdl:=hm.2.2.1
 have hn1:=hm.1.2
 have hnb:=lb hnd k (by omega)
 rw[<-hn] at hnb
 refine a9 (a6 rfl (lx (bo (m:=↑k) (n:=(t.2.2.length:Int)) zs9 zs8) (af (a9 ?_))))
 by_cases p3:(k:Int)<(t.2.2.length:Int)
 ·
  refine aj rfl (dt p3) ?_
  have hdb:=hnd _ (bx (xs:=t.2.2) (i:=↑k) (by omega) ‹_›)
  refine au (a9 (av (a9 (a6 rfl (lx (aa (v:=t_v1) (i:=↑k) aW rfl zs7 r_t_v1 zs9 (by omega) (by omega)) (lx (ay (v:=t_v1) (i:=↑k) ae rfl r_t_v1 (by omega) (by omega) (by decide) rfl) (ai (gI t.2.2 ↑k) (af (a6 rfl (mz zs3 (mi (gI t.2.2 ↑k) ?_)))))))))))
  refine lx (aP (m:=n) (n:=(gI t.2.2 ↑k)) rfl rfl (by omega)) (ai (n+(gI t.2.2 ↑k)) (af (aq (a6 rfl (lx (aP (m:=↑k) (n:=1) zs9 rfl (by omega)) (mi ((k:Int)+1) (af ?_)))))))
  refine back3 (n+(gI t.2.2 ↑k),k+1,g9) _ _ ⟨bH,rfl,zs7,zs8,rfl,Rt,r_t_v1,by omega,?_⟩ ?_
  · show(n+(gI t.2.2 ↑k))=SP (k+1) λv=>gI t.2.2 ↑v
    exact k8 hn
  · show Int.toNat (((t.2.2.length:Int):Int)-((k+1):Int))<Int.toNat (((t.2.2.length:Int):Int)-(k:Int))
    omega
 refine am rfl (df p3) (aM rfl (a9 (a6 rfl (mz zs3 (lx (cw (m:=n) (n:=0) rfl rfl) (ma (vb (decide (n=0))) (af (aF (vs:=[vb (decide (n=0))]) Try.func26 (.tmp rfl .nil) ?_))))))))
 have e0:(decide (n=0):Bool)=(decide (dd t.2.2=0)):=by
   (rw[jW hn (by omega) ‹_›])
 exact⟨rb e0,bH.below⟩
end TL
