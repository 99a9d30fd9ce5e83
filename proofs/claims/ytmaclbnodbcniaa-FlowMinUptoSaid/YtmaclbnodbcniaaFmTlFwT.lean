import Derived.Test.YtmaclbnodbcniaaFmTlP3
import Derived.Test.YtmaclbnodbcniaaFmTlFwA
import Derived.Test.YtmaclbnodbcniaaProg
import Derived.Test.YtmaclbnodbcniaaFmTlAli
set_option linter.all false
set_option maxRecDepth 20000
namespace TL
open Go Go.Proofs
theorem iV:Try.prog.follows .mixedOrders=true:=by kernel_rfl
theorem iH:Try.f16.body.isNone=false:=rfl
theorem iL:(Try.f16.name== "runtime.NumGoroutine")=false:=by decide+kernel
theorem gy(w0:World)(a:List Int)(a_v:Value)(ha_v:Ro w0 a_v a)(b:List Int)(b_v:Value)(hb_v:Ro w0 b_v b):
    Calls Try.prog 16 #[a_v,b_v] w0 (λee w=>ee= .returned (vb (decide (a=b)))/\dC w0.heap.size w0 w):=by
 refine aC Try.func16 rfl nq ?_
 have bH:=b9.start w0
 have Ra:=ha_v.sl
 have Rb:=hb_v.sl
 refine a9 (a6 rfl (ma (vb false) (af (a9 (a9 (a6 rfl (mv a_v ?_)))))))
 have len1:=(Ra).small
 refine lx (ba aW rfl Ra) (mv b_v ?_)
 have len2:=(Rb).small
 refine lx (ba aW rfl Rb) (lx (cY (m:=(a.length:Int)) (n:=(b.length:Int)) rfl rfl) (af ?_))
 by_cases p1:(a.length:Int)=(b.length:Int)
 ·
  refine am rfl (congrArg Bool.not (dt p1)) (au (a9 (a9 (a6 rfl (ai 0 (af (av ?_)))))))
  refine aX (σ:=Nat×aG) (λ⟨k,gq⟩ f w=>b9 w0 gq w/\f 0=a_v/\f 1=b_v/\f 5=vi ↑k/\Sl gq (is 0) w a_v a/\Sl gq (is 0) w b_v b/\(k:Int)<=((a.length:Int):Int)/\(List.take k a=List.take k b)) (λ⟨k,gq⟩=>Int.toNat (((a.length:Int):Int)-(k:Int))) (0,c0) ?_ ?_
  · exact⟨bH,rfl,rfl,rfl,Ra,Rb,by omega,by simp⟩
  clear Ra Rb bH
  rintro⟨k,g5⟩ f3 w4 ⟨bH,zs0,zs1,zs5,Ra,Rb,hle_k,hinv4⟩ back4
  refine a9 (a9 (a6 rfl (mz zs5 (mz zs0 (lx (ba aW rfl Ra) (lx (bo (m:=↑k) (n:=(a.length:Int)) rfl rfl) (af ?_)))))))
  by_cases p4:(k:Int)<(a.length:Int)
  ·
   refine aj rfl (dt p4) (au (a9 (av (a9 (bt g5 rfl iV (by kernel_rfl) ?_)))))
   intro w7 ch6
   refine qz zs0 (qz zs5 ?_)
   replace Ra:=Ra.cn ch6
   refine qx (λw' hw'=>aa (v:=a_v) (i:=↑k) aW rfl rfl (Ra.bel hw') rfl (by omega) (by omega)) (qx (λw' hw'=>ay (v:=a_v) (i:=↑k) ae rfl (Ra.bel hw') (by omega) (by omega) (by decide) rfl) (qz zs1 (qz zs5 ?_)))
   replace Rb:=Rb.cn ch6
   refine qx (λw' hw'=>aa (v:=b_v) (i:=↑k) aW rfl rfl (Rb.bel hw') rfl (by omega) (by omega)) (qx (λw' hw'=>ay (v:=b_v) (i:=↑k) ae rfl (Rb.bel hw') (by omega) (by omega) (by decide) rfl) (qx (λw' hw'=>cY (m:=(gI a ↑k)) (n:=(gI b ↑k)) rfl rfl) (bX ?_)))
   intro w8 hc9
   replace hc9:=aB hc9 g5
   by_cases p6:(gI a ↑k)=(gI b ↑k)
   ·
    refine am rfl (congrArg Bool.not (dt p6)) (au (aq (a6 rfl (mz zs5 (lx (aP (m:=↑k) (n:=1) rfl rfl (by omega)) (ai ((k:Int)+1) (af ?_)))))))
    replace bH:=bH.cn ch6
    refine back4 (k+1,g5) _ _ ⟨bH.cn hc9,zs0,zs1,rfl,Ra.cn hc9,Rb.cn hc9,by omega,?_⟩ ?_
    · show List.take (k+1) a=List.take (k+1) b
      rw[cy ‹_›,cy (by omega),hinv4];simp_all
    · show Int.toNat (((a.length:Int):Int)-((k+1):Int))<Int.toNat (((a.length:Int):Int)-(k:Int))
      omega
   refine aj rfl (congrArg Bool.not (df p6)) (a9 (a6 rfl (ma (vb false) (af (aF (vs:=[vb false]) Try.func16 (.tmp rfl .nil) ?_)))))
   have e0:(false:Bool)=(decide (a=b)):=by
     exact(df (λh=>by subst h;simp_all)).symm
   replace bH:=bH.cn ch6
   replace bH:=bH.cn hc9
   exact⟨rb e0,bH.below⟩
  refine am rfl (df p4) (aM rfl (a9 (a6 rfl (ma (vb true) (af (aF (vs:=[vb true]) Try.func16 (.tmp rfl .nil) ?_))))))
  have e0:(true:Bool)=(decide (a=b)):=by
    (have e:=hinv4;rw[List.take_of_length_le (by omega),List.take_of_length_le (by omega)] at e;exact(dt e).symm)
  exact⟨rb e0,bH.below⟩
 refine aj rfl (congrArg Bool.not (df p1)) (a9 (a6 rfl (ma (vb false) (af (aF (vs:=[vb false]) Try.func16 (.tmp rfl .nil) ?_)))))
 have e0:(false:Bool)=(decide (a=b)):=by
   exact(df (λh=>by subst h;simp_all)).symm
 exact⟨rb e0,bH.below⟩
set_option maxHeartbeats 8000000 in
theorem o4(w0:World)(c:(Int)×(List ((Int)×(Int)×(Int)×(Int)))×(List Int))(c_v c_v1:Value)(hc_v:Ro w0 c_v c.2.1)(hc_v1:Ro w0 c_v1 c.2.2)(t:(Int)×(List ((Int)×(Int)×(Int)×(Int)))×(List Int))(t_v t_v1:Value)(ht_v:Ro w0 t_v t.2.1)(ht_v1:Ro w0 t_v1 t.2.2)(hmark:Ro w0 (db c_v) (c.2.1++[((-7:Int),(0:Int),(0:Int),(0:Int))]))(hmark2:Ro w0 (db c_v1) (c.2.2++[(-7:Int)]))(he:c=t):
    Calls Try.prog 15 #[vg [vi c.1,c_v,c_v1],vg [vi t.1,t_v,t_v1]] w0 (λee w=>ee= .returned (vb true)/\dC w0.heap.size w0 w):=by
 refine aC Try.func15 rfl nq ?_
 have bH:=b9.start w0
 have Rc:=hc_v.sl
 have r_c_v1:=hc_v1.sl
 have Rt:=ht_v.sl
 have r_t_v1:=ht_v1.sl
 have r_up:=hmark.sl
 have r_up2:=hmark2.sl
 have hk0:c.1=t.1:=by rw[he]
 have hk1:c.2.1=t.2.1:=by rw[he]
 have hk2:c.2.2=t.2.2:=by rw[he]
 have hk3:c.2.1.length=t.2.1.length:=by rw[he]
 have hk4:c.2.2.length=t.2.2.length:=by rw[he]
 have hk5:(gI (c.2.1++[((-7:Int),(0:Int),(0:Int),(0:Int))]) (t.2.1.length:Int)).1= -7:=by rw[<-hk3,mH]
 have hk6:gI (c.2.2++[(-7:Int)]) (t.2.2.length:Int)= -7:=by rw[<-hk4,mH]
 refine a9 (a6 rfl (cQ rfl (d4 c0 (is 1) (1,0) rfl rfl ?_)))
 intro g4 w1 b3 ch2 bx5
 replace bx5:Bx g4 (is 1) w1 b3 [vi c.1,c_v,c_v1]:=bx5
 refine lo (d4 g4 (is 2) (2,0) rfl rfl ?_)
 intro g9 w6 b8 ch7 bx10
 replace bx10:Bx g9 (is 2) w6 b8 [vi t.1,t_v,t_v1]:=bx10
 refine ma (vb false) (af (a9 (a9 (bt g9 rfl iV (by kernel_rfl) ?_))))
 intro w12 ch11
 refine qx (λw' hw'=>a7 cP rfl rfl rfl rfl) ?_
 replace bx5:=(bx5.cn ch7).cn ch11
 refine qx (λw' hw'=>a8 ae rfl (bx5.bel hw') rfl) (qx (λw' hw'=>a7 cP rfl rfl rfl rfl) ?_)
 replace bx10:=bx10.cn ch11
 refine qx (λw' hw'=>a8 ae rfl (bx10.bel hw') rfl) (qx (λw' hw'=>cY (m:=c.1) (n:=t.1) rfl rfl) (qm (vb (!(decide (c.1=t.1)))) ?_))
 have q11:c.1=t.1:=by assumption
 refine aQ (v:=vp b3 1) (wy (congrArg Bool.not (dt q11))) (λw' hw'=>a7 cP rfl rfl rfl rfl) (aQ (v:=c_v) (wy (congrArg Bool.not (dt q11))) (λw' hw'=>a8 bT rfl (bx5.bel hw') rfl) ?_)
 have C13:=cg [] (ch2.n.seq (ch7.n.seq ch11.n))
 replace Rc:=Rc.ca C13
 have len14:=(Rc).small
 refine aQ (v:=vi (c.2.1.length:Int)) (wy (congrArg Bool.not (dt q11))) (λw' hw'=>ba dB rfl (Rc.bel hw')) (aQ (v:=vp b8 1) (wy (congrArg Bool.not (dt q11))) (λw' hw'=>a7 cP rfl rfl rfl rfl) (aQ (v:=t_v) (wy (congrArg Bool.not (dt q11))) (λw' hw'=>a8 bT rfl (bx10.bel hw') rfl) ?_))
 replace Rt:=Rt.ca C13
 have len15:=(Rt).small
 refine aQ (v:=vi (t.2.1.length:Int)) (wy (congrArg Bool.not (dt q11))) (λw' hw'=>ba dB rfl (Rt.bel hw')) (aQ (v:=vb (!(decide ((c.2.1.length:Int)=(t.2.1.length:Int))))) (wy (congrArg Bool.not (dt q11))) (λw' hw'=>cY (m:=(c.2.1.length:Int)) (n:=(t.2.1.length:Int)) rfl rfl) (qv (vb (!(decide ((c.2.1.length:Int)=(t.2.1.length:Int))))) (λw' hw'=>aH rfl (congrArg Bool.not (dt q11)) rfl) (qm (vb (!(decide ((c.2.1.length:Int)=(t.2.1.length:Int))))) ?_)))
 have q20:(c.2.1.length:Int)=(t.2.1.length:Int):=by(rw[hk1];done)
 refine aQ (v:=vp b3 2) (wy (congrArg Bool.not (dt q20))) (λw' hw'=>a7 cP rfl rfl rfl rfl) (aQ (v:=c_v1) (wy (congrArg Bool.not (dt q20))) (λw' hw'=>a8 ao rfl (bx5.bel hw') rfl) (aQ (v:=vp b8 2) (wy (congrArg Bool.not (dt q20))) (λw' hw'=>a7 cP rfl rfl rfl rfl) (aQ (v:=t_v1) (wy (congrArg Bool.not (dt q20))) (λw' hw'=>a8 ao rfl (bx10.bel hw') rfl) ?_)))
 replace r_c_v1:=r_c_v1.ca C13
 replace r_t_v1:=r_t_v1.ca C13
 refine dJ (v:=vb (decide (c.2.2=t.2.2))) (wy (congrArg Bool.not (dt q20))) (λw' hw'=>aU (vals:=[c_v1,t_v1]) Try.func16 iH iL rfl) (λw' hw'=>(gy w' c.2.2 c_v1 ((r_c_v1.bel hw')).ro t.2.2 t_v1 ((r_t_v1.bel hw')).ro).mono λe w2 h2=>⟨h2.1,hw'.trans (h2.2.mono hw'.size)⟩) (aQ (v:=vb (!(decide (c.2.2=t.2.2)))) (wy (congrArg Bool.not (dt q20))) (λw' hw'=>cz (b:=(decide (c.2.2=t.2.2))) rfl) (qv (vb (!(decide (c.2.2=t.2.2)))) (λw' hw'=>aH rfl (congrArg Bool.not (dt q20)) rfl) (qm (vb (!(decide (c.2.2=t.2.2)))) ?_)))
 have q28:(decide (c.2.2=t.2.2))=true:=by exact dt hk2
 refine aQ (v:=vp b3 1) (wy (congrArg Bool.not q28)) (λw' hw'=>a7 cP rfl rfl rfl rfl) (aQ (v:=c_v) (wy (congrArg Bool.not q28)) (λw' hw'=>a8 bT rfl (bx5.bel hw') rfl) (aQ (v:=vp b8 1) (wy (congrArg Bool.not q28)) (λw' hw'=>a7 cP rfl rfl rfl rfl) (aQ (v:=t_v) (wy (congrArg Bool.not q28)) (λw' hw'=>a8 bT rfl (bx10.bel hw') rfl) (aQ (v:=vi (t.2.1.length:Int)) (wy (congrArg Bool.not q28)) (λw' hw'=>ba dB rfl (Rt.bel hw')) ?_))))
 refine aQ (v:=vi ((t.2.1.length:Int)+1)) (wy (congrArg Bool.not q28)) (λw' hw'=>aP (m:=(t.2.1.length:Int)) (n:=1) rfl rfl (by omega)) ?_
 replace r_up:=r_up.ca C13
 refine aQ (v:=(db c_v)) (wy (congrArg Bool.not q28)) (λw' hw'=>jk (α:=Int×Int×Int×Int) dB rfl rfl (r_up.bel hw') rfl (by omega)) (aQ (v:=vp b8 1) (wy (congrArg Bool.not q28)) (λw' hw'=>a7 cP rfl rfl rfl rfl) (aQ (v:=t_v) (wy (congrArg Bool.not q28)) (λw' hw'=>a8 bT rfl (bx10.bel hw') rfl) (aQ (v:=vi (t.2.1.length:Int)) (wy (congrArg Bool.not q28)) (λw' hw'=>ba dB rfl (Rt.bel hw')) ?_)))
 refine aQ (v:=Value.pointer (some (aT (db c_v) 4 (Int.toNat (t.2.1.length:Int))))) (wy (congrArg Bool.not q28)) (λw' hw'=>aa (α:=(Int)×(Int)×(Int)×(Int)) (xs:=c.2.1++[((-7:Int),(0:Int),(0:Int),(0:Int))]) (v:=(db c_v)) (i:=(t.2.1.length:Int)) dB rfl rfl (r_up.bel hw') rfl (by(omega)) (by((simp only[List.length_append,List.length_cons,List.length_nil];omega)))) (aQ (v:=Value.pointer (some ⟨(aT (db c_v) 4 (Int.toNat (t.2.1.length:Int))).block,(aT (db c_v) 4 (Int.toNat (t.2.1.length:Int))).off+0,none⟩)) (wy (congrArg Bool.not q28)) (λw' hw'=>aO dK rfl rfl rfl rfl) ?_)
 refine aQ (v:=vi ((gI (c.2.1++[((-7:Int),(0:Int),(0:Int),(0:Int))]) (t.2.1.length:Int)).1)) (wy (congrArg Bool.not q28)) (λw' hw'=>bi (α:=(Int)×(Int)×(Int)×(Int)) (xs:=c.2.1++[((-7:Int),(0:Int),(0:Int),(0:Int))]) (v:=(db c_v)) (i:=(t.2.1.length:Int)) ae rfl (r_up.bel hw') (by(omega)) (by((simp only[List.length_append,List.length_cons,List.length_nil];omega))) (by decide) rfl) (aQ (v:=vb (!(decide (((gI (c.2.1++[((-7:Int),(0:Int),(0:Int),(0:Int))]) (t.2.1.length:Int)).1)=(-7))))) (wy (congrArg Bool.not q28)) (λw' hw'=>cY (m:=(gI (c.2.1++[((-7:Int),(0:Int),(0:Int),(0:Int))]) (t.2.1.length:Int)).1) (n:= -7) rfl rfl) ?_)
 refine qv (vb (!(decide (((gI (c.2.1++[((-7:Int),(0:Int),(0:Int),(0:Int))]) (t.2.1.length:Int)).1)=(-7))))) (λw' hw'=>aH rfl (congrArg Bool.not q28) rfl) (qm (vb (!(decide (((gI (c.2.1++[((-7:Int),(0:Int),(0:Int),(0:Int))]) (t.2.1.length:Int)).1)=(-7))))) ?_)
 have q44:((gI (c.2.1++[((-7:Int),(0:Int),(0:Int),(0:Int))]) (t.2.1.length:Int)).1)=(-7):=by assumption
 refine aQ (v:=vp b3 2) (wy (congrArg Bool.not (dt q44))) (λw' hw'=>a7 cP rfl rfl rfl rfl) (aQ (v:=c_v1) (wy (congrArg Bool.not (dt q44))) (λw' hw'=>a8 ao rfl (bx5.bel hw') rfl) (aQ (v:=vp b8 2) (wy (congrArg Bool.not (dt q44))) (λw' hw'=>a7 cP rfl rfl rfl rfl) (aQ (v:=t_v1) (wy (congrArg Bool.not (dt q44))) (λw' hw'=>a8 ao rfl (bx10.bel hw') rfl) ?_)))
 have len16:=(r_t_v1).small
 refine aQ (v:=vi (t.2.2.length:Int)) (wy (congrArg Bool.not (dt q44))) (λw' hw'=>ba aW rfl (r_t_v1.bel hw')) (aQ (v:=vi ((t.2.2.length:Int)+1)) (wy (congrArg Bool.not (dt q44))) (λw' hw'=>aP (m:=(t.2.2.length:Int)) (n:=1) rfl rfl (by omega)) ?_)
 replace r_up2:=r_up2.ca C13
 refine aQ (v:=(db c_v1)) (wy (congrArg Bool.not (dt q44))) (λw' hw'=>jk (α:=Int) aW rfl rfl (r_up2.bel hw') rfl (by omega)) (aQ (v:=vp b8 2) (wy (congrArg Bool.not (dt q44))) (λw' hw'=>a7 cP rfl rfl rfl rfl) (aQ (v:=t_v1) (wy (congrArg Bool.not (dt q44))) (λw' hw'=>a8 ao rfl (bx10.bel hw') rfl) (aQ (v:=vi (t.2.2.length:Int)) (wy (congrArg Bool.not (dt q44))) (λw' hw'=>ba aW rfl (r_t_v1.bel hw')) ?_)))
 refine aQ (v:=Value.pointer (some (aT (db c_v1) 1 (Int.toNat (t.2.2.length:Int))))) (wy (congrArg Bool.not (dt q44))) (λw' hw'=>aa (α:=Int) (xs:=c.2.2++[(-7:Int)]) (v:=(db c_v1)) (i:=(t.2.2.length:Int)) aW rfl rfl (r_up2.bel hw') rfl (by(omega)) (by((simp only[List.length_append,List.length_cons,List.length_nil];omega)))) (aQ (v:=vi (gI (c.2.2++[(-7:Int)]) (t.2.2.length:Int))) (wy (congrArg Bool.not (dt q44))) (λw' hw'=>ay (α:=Int) (xs:=c.2.2++[(-7:Int)]) (v:=(db c_v1)) (i:=(t.2.2.length:Int)) ae rfl (r_up2.bel hw') (by(omega)) (by((simp only[List.length_append,List.length_cons,List.length_nil];omega))) (by decide) rfl) ?_)
 refine aQ (v:=vb (!(decide ((gI (c.2.2++[(-7:Int)]) (t.2.2.length:Int))=(-7))))) (wy (congrArg Bool.not (dt q44))) (λw' hw'=>cY (m:=(gI (c.2.2++[(-7:Int)]) (t.2.2.length:Int))) (n:= -7) rfl rfl) (qv (vb (!(decide ((gI (c.2.2++[(-7:Int)]) (t.2.2.length:Int))=(-7))))) (λw' hw'=>aH rfl (congrArg Bool.not (dt q44)) rfl) (bX ?_))
 intro w17 hc18
 replace hc18:=aB hc18 g9
 have p1:(gI (c.2.2++[(-7:Int)]) (t.2.2.length:Int))=(-7):=by assumption
 refine am rfl (congrArg Bool.not (dt p1)) (au (a9 (a9 (a6 rfl (ai 0 (af (av ?_)))))))
 refine aX (σ:=Nat×aG) (λ⟨i,gq⟩ f w=>b9 w0 gq w/\f 2=vp b3 0/\f 3=vp b8 0/\f 5=vi ↑i/\Sl gq (is 0) w c_v c.2.1/\Sl gq (is 0) w c_v1 c.2.2/\Sl gq (is 0) w t_v t.2.1/\Sl gq (is 0) w t_v1 t.2.2/\Sl gq (is 0) w (db c_v) (c.2.1++[((-7:Int),(0:Int),(0:Int),(0:Int))])/\Sl gq (is 0) w (db c_v1) (c.2.2++[(-7:Int)])/\Bx gq (is 1) w b3 [vi c.1,c_v,c_v1]/\Bx gq (is 2) w b8 [vi t.1,t_v,t_v1]/\(i:Int)<=((t.2.1.length:Int):Int)/\(True)) (λ⟨i,gq⟩=>Int.toNat (((t.2.1.length:Int):Int)-(i:Int))) (0,g9) ?_ ?_
 have C19:=cg [] (ch2.n.seq (ch7.n.seq (ch11.n.seq hc18.n)))
 · exact⟨bH.ca C19,rfl,rfl,rfl,Rc.cn hc18,r_c_v1.cn hc18,Rt.cn hc18,r_t_v1.cn hc18,r_up.cn hc18,r_up2.cn hc18,bx5.cn hc18,bx10.cn hc18,by omega,by trivial⟩
 clear Rc r_c_v1 Rt r_t_v1 r_up r_up2 bx5 bx10 bH
 rintro⟨i,g22⟩ f20 w21 ⟨bH,zs2,zs3,zs5,Rc,r_c_v1,Rt,r_t_v1,r_up,r_up2,bx5,bx10,hle_i,hinv4⟩ back4
 refine a9 (a9 (a6 rfl (mz zs5 (lx (a7 cP rfl rfl zs3 rfl) (lx (a8 bT rfl bx10 rfl) (lx (ba dB rfl Rt) (lx (bo (m:=↑i) (n:=(t.2.1.length:Int)) rfl rfl) (af ?_))))))))
 by_cases p4:(i:Int)<(t.2.1.length:Int)
 ·
  refine aj rfl (dt p4) (au (a9 (av (a9 (bt g22 rfl iV (by kernel_rfl) ?_)))))
  intro w24 ch23
  refine qx (λw' hw'=>a7 cP rfl rfl zs2 rfl) ?_
  replace bx5:=bx5.cn ch23
  refine qx (λw' hw'=>a8 bT rfl (bx5.bel hw') rfl) (qz zs5 ?_)
  replace Rc:=Rc.cn ch23
  refine qx (λw' hw'=>aa (v:=c_v) (i:=↑i) dB rfl rfl (Rc.bel hw') rfl (by omega) (by omega)) (qv (vg [vi ((gI c.2.1 ↑i).1),vi (((gI c.2.1 ↑i).2).1),vi ((((gI c.2.1 ↑i).2).2).1),vi ((((gI c.2.1 ↑i).2).2).2)]) (λw' hw'=>bh (v:=c_v) (i:=↑i) bz rfl (Rc.bel hw') (by omega) (by omega) rfl) (qx (λw' hw'=>a7 cP rfl rfl zs3 rfl) ?_))
  replace bx10:=bx10.cn ch23
  refine qx (λw' hw'=>a8 bT rfl (bx10.bel hw') rfl) (qz zs5 ?_)
  replace Rt:=Rt.cn ch23
  refine qx (λw' hw'=>aa (v:=t_v) (i:=↑i) dB rfl rfl (Rt.bel hw') rfl (by omega) (by omega)) (qv (vg [vi ((gI t.2.1 ↑i).1),vi (((gI t.2.1 ↑i).2).1),vi ((((gI t.2.1 ↑i).2).2).1),vi ((((gI t.2.1 ↑i).2).2).2)]) (λw' hw'=>bh (v:=t_v) (i:=↑i) bz rfl (Rt.bel hw') (by omega) (by omega) rfl) ?_)
  refine qv (vb (!(decide (((gI c.2.1 ↑i).1,((gI c.2.1 ↑i).2).1,(((gI c.2.1 ↑i).2).2).1,(((gI c.2.1 ↑i).2).2).2)=((gI t.2.1 ↑i).1,((gI t.2.1 ↑i).2).1,(((gI t.2.1 ↑i).2).2).1,(((gI t.2.1 ↑i).2).2).2))))) (λw' hw'=>l3 (bs:=[decide (((gI c.2.1 ↑i).1)=((gI t.2.1 ↑i).1)),decide ((((gI c.2.1 ↑i).2).1)=(((gI t.2.1 ↑i).2).1)),decide (((((gI c.2.1 ↑i).2).2).1)=((((gI t.2.1 ↑i).2).2).1)),decide (((((gI c.2.1 ↑i).2).2).2)=((((gI t.2.1 ↑i).2).2).2))]) dK (by kernel_rfl) (by kernel_rfl) rfl rfl (.cons (by decide+kernel) ae rfl rfl (.int U3) (.cons (by decide+kernel) ae rfl rfl (.int U3) (.cons (by decide+kernel) ae rfl rfl (.int U3) (.cons (by decide+kernel) ae rfl rfl (.int U3) .nil)))) (by simp[Prod.ext_iff,Bool.decide_and,Bool.and_assoc])) ?_
  refine bX ?_
  intro w25 hc26
  replace hc26:=aB hc26 g22
  have p6:((gI c.2.1 ↑i).1,((gI c.2.1 ↑i).2).1,(((gI c.2.1 ↑i).2).2).1,(((gI c.2.1 ↑i).2).2).2)=((gI t.2.1 ↑i).1,((gI t.2.1 ↑i).2).1,(((gI t.2.1 ↑i).2).2).1,(((gI t.2.1 ↑i).2).2).2):=by(rw[hk1];done)
  refine am rfl (congrArg Bool.not (dt p6)) (au (aq (a6 rfl (mz zs5 (lx (aP (m:=↑i) (n:=1) rfl rfl (by omega)) (ai ((i:Int)+1) (af ?_)))))))
  replace bH:=bH.cn ch23
  refine back4 (i+1,g22) _ _ ⟨bH.cn hc26,zs2,zs3,rfl,Rc.cn hc26,(r_c_v1.cn ch23).cn hc26,Rt.cn hc26,(r_t_v1.cn ch23).cn hc26,(r_up.cn ch23).cn hc26,(r_up2.cn ch23).cn hc26,bx5.cn hc26,bx10.cn hc26,by omega,?_⟩ ?_
  · show True
    trivial
  · show Int.toNat (((t.2.1.length:Int):Int)-((i+1):Int))<Int.toNat (((t.2.1.length:Int):Int)-(i:Int))
    omega
 refine am rfl (df p4) (aM rfl (a9 ?_))
 clear bx5 bx10
 refine a6 rfl (ma (vb true) (af (aF (vs:=[vb true]) Try.func15 (.tmp rfl .nil) ?_)))
 have e0:(true:Bool)=(true):=by
   rfl
 exact⟨rb e0,bH.below⟩
end TL
