import Derived.Test.YtbpphaeianpdpaaPuTlP2
import Derived.Test.YtbpphaeianpdpaaPuTlGmA
import Derived.Test.YtbpphaeianpdpaaPuTlGenA
import Derived.Test.YtbpphaeianpdpaaPuTlPwA
import Derived.Test.YtbpphaeianpdpaaProg
import Derived.Test.YtbpphaeianpdpaaPuTlAli
set_option linter.all false
set_option maxRecDepth 20000
namespace TL
open Go Go.Proofs
theorem lK:Try.prog.follows .mixedOrders=true:=by kernel_rfl
theorem kN:Tp Try.prog 29 false 1 24 (.slice none 0 0):=Tp.of (by kernel_rfl)
theorem nF:Try.f25.body.isNone=false:=rfl
theorem nP:(Try.f25.name== "runtime.NumGoroutine")=false:=by decide+kernel
theorem oX:Try.f55.body.isNone=false:=rfl
theorem oE:(Try.f55.name== "runtime.NumGoroutine")=false:=by decide+kernel
set_option maxHeartbeats 4000000 in
theorem pC(w0:World)(fs:(List Nat)×(List Int))(fs_v fs_v1:Value)(hfs_v:Ro w0 fs_v fs.1)(hfs_v1:Ro w0 fs_v1 fs.2)(g:(Int)×(List Pt))(g_v:Value)(hg_v:Ro w0 g_v g.2)(t:Int)(hby:∀x∈fs.2,mD x):
    Calls Try.prog 20 #[vg [fs_v,fs_v1],vg [vi g.1,g_v],vi t] w0 (λee w=>∃xx:aw×Value,ee= .returned ((λ⟨δ,rv0⟩=>vt [rv0,vi ((dl fs g t).2)]) xx)/\(λ(⟨δ,rv0⟩:aw×Value) (w:World)=>ej w0 δ w/\Ow δ (is 1) (is 1) w rv0 ((dl fs g t).1)) xx w):=by
 refine ap Try.func20 rfl nq ?_
 have bH:=aX.start w0
 have Rfs:=hfs_v.sl
 have r_fs_v1:=hfs_v1.sl
 have Rg:=hg_v.sl
 refine a7 (a6 rfl (dA rfl (cY c0 (is 1) (1,0) rfl rfl ?_)))
 intro g4 w1 b3 ch2 bx5
 replace bx5:Bx g4 (is 1) w1 b3 [fs_v,fs_v1]:=bx5
 refine lo (cY g4 (is 2) (2,0) rfl rfl ?_)
 intro g9 w6 b8 ch7 bx10
 replace bx10:Bx g9 (is 2) w6 b8 [vi g.1,g_v]:=bx10
 refine ma vn (ai 0 (a8 (a7 (ao (a7 (a6 rfl (lx (aO (ds:=[vi g.1,g_v]) bm rfl bx10 rfl rfl) ?_)))))))
 replace Rg:=(Rg.cn ch2).cn ch7
 refine lo (bu (v:=vb (cl g)) (aG (vals:=[vg [vi g.1,g_v]]) Try.func54 kb kM rfl) (mw w6 g g_v (Rg).ro) ?_)
 intro w11 hb12
 replace hb12:=ax hb12 g9
 refine lx (e9 (b:=(cl g)) rfl) (mv (vb (!(cl g))) ?_)
 by_cases q15:(cl g)=true
 ·
  refine lv (vp b3 0) (wy (congrArg Bool.not q15)) (aj kP rfl rfl rfl rfl) ?_
  replace bx5:=(bx5.cn ch7).cn hb12
  refine lv (fs_v) (wy (congrArg Bool.not q15)) (ah kN rfl bx5 rfl) ?_
  have C13:=cg [] (ch2.n.seq (ch7.n.seq hb12.n))
  replace Rfs:=Rfs.ca C13
  have len14:=(Rfs).small
  refine lv (vi (fs.1.length:Int)) (wy (congrArg Bool.not q15)) (bl eD rfl Rfs) (lv (vp b8 0) (wy (congrArg Bool.not q15)) (aj cS rfl rfl rfl rfl) ?_)
  replace bx10:=bx10.cn hb12
  refine lv (vi g.1) (wy (congrArg Bool.not q15)) (ah av rfl bx10 rfl) (lv (vb (!(decide ((fs.1.length:Int)=g.1)))) (wy (congrArg Bool.not q15)) (cM (m:=(fs.1.length:Int)) (n:=g.1) rfl rfl) (lw (vb (!(decide ((fs.1.length:Int)=g.1)))) (aH rfl (congrArg Bool.not q15) rfl) (mv (vb (!(decide ((fs.1.length:Int)=g.1)))) ?_)))
  by_cases q23:(fs.1.length:Int)=g.1
  ·
   refine lv (vp b3 1) (wy (congrArg Bool.not (dt q23))) (aj kP rfl rfl rfl rfl) (lv (fs_v1) (wy (congrArg Bool.not (dt q23))) (ah br rfl bx5 rfl) ?_)
   replace r_fs_v1:=r_fs_v1.ca C13
   have len15:=(r_fs_v1).small
   refine lv (vi (fs.2.length:Int)) (wy (congrArg Bool.not (dt q23))) (bl bI rfl r_fs_v1) (lv (vp b8 0) (wy (congrArg Bool.not (dt q23))) (aj cS rfl rfl rfl rfl) (lv (vi g.1) (wy (congrArg Bool.not (dt q23))) (ah av rfl bx10 rfl) (lv (vb (!(decide ((fs.2.length:Int)=g.1)))) (wy (congrArg Bool.not (dt q23))) (cM (m:=(fs.2.length:Int)) (n:=g.1) rfl rfl) (lw (vb (!(decide ((fs.2.length:Int)=g.1)))) (aH rfl (congrArg Bool.not (dt q23)) rfl) (ma (vb (!(decide ((fs.2.length:Int)=g.1)))) (a8 ?_))))))
   by_cases p1:(fs.2.length:Int)=g.1
   ·
    refine af rfl (congrArg Bool.not (dt p1)) (a7 ?_)
    have hsh:es fs g:=⟨of_decide_eq_true ‹_›,by assumption,by assumption⟩
    have hm:=hsh.1
    have hm0:=hm
    obtain⟨hm1,hm2,hm3,hm4⟩:=hm0
    have hbl:=hsh.2.2
    have hfl:=hsh.2.1
    refine a6 rfl (mi t (lx (b9 (m:=t) (n:=0) rfl rfl) (mv (vb (decide (t<0))) ?_)))
    by_cases q34:t<0
    ·
     refine ad (wn (dt q34)) (ad (wn (dt q34)) (ad (wn (dt q34)) (ad (wn (dt q34)) (lw (vb true) (aA rfl (dt q34) rfl) (ma (vb true) (a8 (ae rfl rfl (a7 ?_))))))))
     clear bx5 bx10
     refine a6 rfl (ma vn (ai 2 (a8 (aq (vs:=[vn,vi 2]) Try.func20 (.tmp rfl (.tmp rfl .nil)) ?_))))
     replace bH:=bH.ca C13
     have e0:([]:List Int)=((dl fs g t).1):=by
       rw[nE hsh (by omega)]
     have e1:(2:Int)=((dl fs g t).2):=by
       rw[nE hsh (by omega)]
     exact⟨(fin w0 g9 (λn=>0),vn),(bV (a:=[]) (b:=2) (λ(z0:List Int) (z1:Int)=>Ending.returned (vt [vn,vi z1])) e0 e1),bH.fresh _,(e0▸Ow.nil)⟩
    refine lv (vi t) (wy (df q34)) (am rfl) (lv (vp b8 0) (wy (df q34)) (aj cS rfl rfl rfl rfl) (lv (vi g.1) (wy (df q34)) (ah av rfl bx10 rfl) (lv (vb (decide (g.1<=t))) (wy (df q34)) (da (m:=t) (n:=g.1) rfl rfl) (lw (vb (decide (g.1<=t))) (aH rfl (df q34) rfl) (ma (vb (decide (g.1<=t))) (a8 ?_))))))
    by_cases p3:g.1<=t
    ·
     refine ae rfl (dt p3) (a7 ?_)
     clear bx5 bx10
     refine a6 rfl (ma vn (ai 2 (a8 (aq (vs:=[vn,vi 2]) Try.func20 (.tmp rfl (.tmp rfl .nil)) ?_))))
     replace bH:=bH.ca C13
     have e0:([]:List Int)=((dl fs g t).1):=by
       rw[nE hsh (by omega)]
     have e1:(2:Int)=((dl fs g t).2):=by
       rw[nE hsh (by omega)]
     exact⟨(fin w0 g9 (λn=>0),vn),(bV (a:=[]) (b:=2) (λ(z0:List Int) (z1:Int)=>Ending.returned (vt [vn,vi z1])) e0 e1),bH.fresh _,(e0▸Ow.nil)⟩
    refine af rfl (df p3) (a7 (a6 rfl (lx (aj kP rfl rfl rfl rfl) (lx (ah kN rfl bx5 rfl) (mi t (lx (aa (v:=fs_v) (i:=t) eD rfl rfl Rfs rfl (by omega) (by omega)) (lx (au (v:=fs_v) (i:=t) aT rfl Rfs (by omega) (by omega) (by decide) rfl) (lo (bu (v:=vb (dz (gI fs.1 t) 9218868437227405311)) (aG (vals:=[Value.float .f64 (gI fs.1 t),vi 1]) Try.func25 nF nP rfl) (hX w11 (gI fs.1 t) 1 (by rfl)) ?_)))))))))
    intro w16 hb17
    replace hb17:=ax hb17 g9
    refine ma (vb (dz (gI fs.1 t) 9218868437227405311)) (a8 ?_)
    by_cases p5:(dz (gI fs.1 t) 9218868437227405311)=true
    ·
     refine ae rfl p5 (a7 ?_)
     clear bx5 bx10
     refine a6 rfl (ma vn (ai 14 (a8 (aq (vs:=[vn,vi 14]) Try.func20 (.tmp rfl (.tmp rfl .nil)) ?_))))
     have C18:=cg [] (ch2.n.seq (ch7.n.seq (hb12.n.seq hb17.n)))
     replace bH:=bH.ca C18
     have e0:([]:List Int)=((dl fs g t).1):=by
       rw[qI hsh (by omega) ‹_›]
     have e1:(14:Int)=((dl fs g t).2):=by
       rw[qI hsh (by omega) ‹_›]
     exact⟨(fin w0 g9 (λn=>0),vn),(bV (a:=[]) (b:=14) (λ(z0:List Int) (z1:Int)=>Ending.returned (vt [vn,vi z1])) e0 e1),bH.fresh _,(e0▸Ow.nil)⟩
    refine af rfl (Bool.eq_false_iff.2 p5) (al (ar (a7 (a6 rfl (ma vn (a8 (a7 (a7 (a6 rfl (mi t (ai t (a8 (ao ?_)))))))))))))
    refine aR (σ:=Value×(List Int)×Int×aw) (λ⟨l_v,l,v,gq⟩ f w=>aX w0 gq w/\f 3=vp b3 0/\f 4=vp b8 0/\f 8=l_v/\f 9=vi v/\Sl gq (is 0) w fs_v fs.1/\Sl gq (is 0) w fs_v1 fs.2/\Sl gq (is 0) w g_v g.2/\Bx gq (is 1) w b3 [fs_v,fs_v1]/\Bx gq (is 2) w b8 [vi g.1,g_v]/\Ow gq (is 4) (is 4) w l_v l/\(lF g fs.2 t v l.reverse l.length)) (λ⟨l_v,l,v,gq⟩=>g.1.toNat-l.length) (vn,[],t,g9) ?_ ?_
    have C19:=cg [] (ch2.n.seq (ch7.n.seq (hb12.n.seq hb17.n)))
    · exact⟨bH.ca C19,rfl,rfl,rfl,rfl,Rfs.cn hb17,r_fs_v1.cn hb17,(Rg.cn hb12).cn hb17,bx5.cn hb17,bx10.cn hb17,Ow.nil,by exact lF.start (by omega) (by omega)⟩
    clear Rfs r_fs_v1 Rg bx5 bx10 bH
    rintro⟨l_v,l,v,g22⟩ f20 w21 ⟨bH,zs3,zs4,zs8,zs9,Rfs,r_fs_v1,Rg,bx5,bx10,o_l,hb⟩ back9
    have hv0:=hb.v0
    have hv1:=hb.v1
    have hln:=hb.ln
    refine a7 (a7 (a6 rfl (lx (aj kP rfl rfl zs3 rfl) (lx (ah br rfl bx5 rfl) (mz zs9 (lx (aa (v:=fs_v1) (i:=v) bI rfl rfl r_fs_v1 rfl (by omega) (by omega)) (lx (au (v:=fs_v1) (i:=v) av rfl r_fs_v1 (by omega) (by omega) (by decide) rfl) (lx (cM (m:=(gI fs.2 v)) (n:= -1) rfl rfl) (a8 ?_)))))))))
    by_cases p9:(gI fs.2 v)=(-1)
    ·
     refine af rfl (congrArg Bool.not (dt p9)) (aF rfl (a7 ?_))
     clear bx5 bx10
     refine a6 rfl (mz zs8 (lo (bL (aG (vals:=[l_v]) Try.func55 oX oE rfl) (ap Try.func55 rfl nq (a7 (a6 rfl (mv l_v ?_)))))))
     have len23:=(o_l.flat).small
     refine lx (bl bI rfl o_l.flat) (lx (dL (m:=(l.length:Int)) (n:=1) rfl rfl (by omega)) (ai 0 (ai ((l.length:Int)-1) (a8 (ao ?_)))))
     refine aR (σ:=Nat×Int×(List Int)×aw) (λ⟨i_c1,j_c1,s_c1,gq⟩ f w=>aX w0 gq w/\f 0=l_v/\f 2=vi ↑i_c1/\f 3=vi j_c1/\Sl gq (is 0) w fs_v fs.1/\Sl gq (is 0) w fs_v1 fs.2/\Sl gq (is 0) w g_v g.2/\Ow gq (is 4) (is 4) w l_v s_c1/\(dD s_c1 l i_c1 j_c1)) (λ⟨i_c1,j_c1,s_c1,gq⟩=>Int.toNat (j_c1-(i_c1:Int))) (0,(l.length:Int)-1,l,g22) ?_ ?_
     · exact⟨bH,rfl,rfl,rfl,Rfs,r_fs_v1,Rg,o_l,by exact dD.start _⟩
     clear Rfs r_fs_v1 Rg o_l bH
     rintro⟨i_c1,j_c1,s_c1,g26⟩ f24 w25 ⟨bH,zs0_c1,zs2_c1,zs3_c1,Rfs,r_fs_v1,Rg,o_l,hrv_c1⟩ back1_c1
     have hsl:=hrv_c1.len
     have hjj:=hrv_c1.jj
     refine a7 (a7 (a6 rfl (mz zs2_c1 (mz zs3_c1 (lx (b9 (m:=↑i_c1) (n:=j_c1) rfl rfl) (a8 ?_))))))
     by_cases p1_c1:(i_c1:Int)<j_c1
     ·
      refine ae rfl (dt p1_c1) (al (a7 (ao (bC g26 [0,1,2,3,4,5,6,7,8,9,10,11,12,14] lK ?_))))
      intro w28 ch27
      refine xp (v:=l_v) 0 rfl (λw=>am zs0_c1) (xp (v:=vi ↑i_c1) 1 rfl (λw=>am zs2_c1) (xp (v:=l_v) 2 rfl (λw=>am zs0_c1) (xp (v:=vi j_c1) 3 rfl (λw=>am zs3_c1) (xp (v:=l_v) 4 rfl (λw=>am zs0_c1) (xp (v:=vi j_c1) 5 rfl (λw=>am zs3_c1) ?_)))))
      replace o_l:=o_l.cn ch27
      refine xv 6 [5,4,3,2,1,0,8,9,10,11] rfl (aa (v:=l_v) (i:=j_c1) bI rfl rfl o_l.flat rfl (by omega) (by omega)) (xv 7 [6,5,4,3,2,1,0,8,9,10,11] rfl (au (v:=l_v) (i:=j_c1) av rfl o_l.flat (by omega) (by omega) (by decide) rfl) (xp (v:=l_v) 8 rfl (λw=>am zs0_c1) (xp (v:=vi ↑i_c1) 9 rfl (λw=>am zs2_c1) (xv 10 [9,8,7,6,5,4,3,2,1,0] rfl (aa (v:=l_v) (i:=↑i_c1) bI rfl rfl o_l.flat rfl (by omega) (by omega)) (xv 11 [10,9,8,7,6,5,4,3,2,1,0] rfl (au (v:=l_v) (i:=↑i_c1) av rfl o_l.flat (by omega) (by omega) (by decide) rfl) (xv 12 [11,10,9,8,7,6,5,4,3,2,1,0] rfl (aa (v:=l_v) (i:=↑i_c1) bI rfl rfl o_l.flat rfl (by omega) (by omega)) ?_))))))
      refine bJ 13 rfl (by kernel_rfl) rfl (aJ (i:=↑i_c1) (gI s_c1 j_c1) av rfl rfl o_l (by omega) (by omega) rfl ?_)
      intro w29 ch30 bx31
      clear o_l
      refine xv 14 [13,12,11,10,9,8,7,6,5,4,3,2,1,0] rfl (aa (v:=l_v) (i:=j_c1) bI rfl rfl bx31.flat rfl (by omega) (by(simp only[List.length_set,List.length_append,List.length_cons,List.length_nil,List.length_replicate,List.length_map,List.length_take,List.length_drop];omega))) (bJ 15 rfl (by kernel_rfl) rfl (aJ (i:=j_c1) (gI s_c1 ↑i_c1) av rfl rfl bx31 (by omega) (by(simp only[List.length_set,List.length_append,List.length_cons,List.length_nil,List.length_replicate,List.length_map,List.length_take,List.length_drop];omega)) rfl ?_))
      intro w32 ch33 bx34
      clear bx31
      refine dw (by kernel_rfl) (ar (a6 rfl (mz zs2_c1 (lx (bg (m:=↑i_c1) (n:=1) rfl rfl (by omega)) (mz zs3_c1 (lx (dL (m:=j_c1) (n:=1) rfl rfl (by omega)) (ai ((i_c1:Int)+1) (ai (j_c1-1) (a8 ?_)))))))))
      have C35:=cg [4] (ch27.n.seq ((ch30.l rfl).seq (ch33.l rfl)))
      refine back1_c1 (i_c1+1,j_c1-1,(List.set (List.set s_c1 (Int.toNat ↑i_c1) (gI s_c1 j_c1)) (Int.toNat j_c1) (gI s_c1 ↑i_c1)),g26) _ _ ⟨bH.ca C35,zs0_c1,rfl,rfl,Rfs.ca C35,r_fs_v1.ca C35,Rg.ca C35,bx34,?_⟩ ?_
      · show dD (List.set (List.set s_c1 (Int.toNat ↑i_c1) (gI s_c1 j_c1)) (Int.toNat j_c1) (gI s_c1 ↑i_c1)) l (i_c1+1) (j_c1-1)
        exact hrv_c1.next ‹_›
      · show Int.toNat ((j_c1-1)-((i_c1+1):Int))<Int.toNat (j_c1-(i_c1:Int))
        omega
     refine af rfl (df p1_c1) (aF rfl (cq (vs:=[]) Try.func55 .nil ?_))
     refine⟨vt [],rfl,?_⟩
     refine a8 (a7 (a6 rfl (mz zs8 (ma l_v (ai 0 (a8 (aq (vs:=[l_v,vi 0]) Try.func20 (.tmp rfl (.tmp rfl .nil)) ?_)))))))
     have e0:(s_c1:List Int)=((dl fs g t).1):=by
       (rw[gW hsh (by omega) ‹_›,hb.fin ‹_›];(exact hrv_c1.done ‹_›))
     have e1:(0:Int)=((dl fs g t).2):=by
       (rw[gW hsh (by omega) ‹_›,hb.fin ‹_›];(done))
     exact⟨(fin w0 g26 (λn=>if n=4 then 1 else 0),l_v),(bV (a:=s_c1) (b:=0) (λ(z0:List Int) (z1:Int)=>Ending.returned (vt [l_v,vi z1])) e0 e1),bH.fresh _,(e0▸(o_l.glue (γ:=c0) (ren:=(λn=>if n=4 then 1 else 0)) (k:=1) bH.col rfl rfl))⟩
    refine ae rfl (congrArg Bool.not (df p9)) ?_
    have hbv:=hby _ (aU (xs:=fs.2) (i:=v) (by omega) (by omega))
    unfold mD at hbv
    refine al (ao (a7 (a6 rfl (lx (aj kP rfl rfl zs3 rfl) (lx (ah br rfl bx5 rfl) (mz zs9 (lx (aa (v:=fs_v1) (i:=v) bI rfl rfl r_fs_v1 rfl (by omega) (by omega)) (lx (au (v:=fs_v1) (i:=v) av rfl r_fs_v1 (by omega) (by omega) (by decide) rfl) (ai (gI fs.2 v) (a8 (a7 (a7 (a6 rfl ?_)))))))))))))
    refine mz zs8 ?_
    have len36:=(o_l.flat).small
    refine lx (bl bI rfl o_l.flat) (lx (aj cS rfl rfl zs4 rfl) (lx (ah av rfl bx10 rfl) (lx (eh (m:=(l.length:Int)) (n:=g.1) rfl rfl) (mv (vb (decide ((l.length:Int)=g.1))) ?_))))
    by_cases q64:(l.length:Int)=g.1
    ·
     refine ad (wn (dt q64)) (ad (wn (dt q64)) (lw (vb true) (aA rfl (dt q64) rfl) (mv (vb true) (ad (wn rfl) (ad (wn rfl) (ad (wn rfl) (ad (wn rfl) (ad (wn rfl) (ad (wn rfl) (lw (vb true) (aA rfl rfl rfl) (mv (vb true) (ad (wn rfl) (ad (wn rfl) (ad (wn rfl) (ad (wn rfl) (ad (wn rfl) (ad (wn rfl) (ad (wn rfl) (ad (wn rfl) (ad (wn rfl) (ad (wn rfl) (ad (wn rfl) (ad (wn rfl) ?_)))))))))))))))))))))))
     refine lw (vb true) (aA rfl rfl rfl) (a8 (ae rfl rfl (a7 ?_)))
     clear bx5 bx10 o_l
     refine a6 rfl (ma vn (ai 14 (a8 (aq (vs:=[vn,vi 14]) Try.func20 (.tmp rfl (.tmp rfl .nil)) ?_))))
     have e0:([]:List Int)=((dl fs g t).1):=by
       rw[gW hsh (by omega) ‹_›,hb.no ‹_› (by exact .inl (by omega))]
     have e1:(14:Int)=((dl fs g t).2):=by
       rw[gW hsh (by omega) ‹_›,hb.no ‹_› (by exact .inl (by omega))]
     exact⟨(fin w0 g22 (λn=>0),vn),(bV (a:=[]) (b:=14) (λ(z0:List Int) (z1:Int)=>Ending.returned (vt [vn,vi z1])) e0 e1),bH.fresh _,(e0▸Ow.nil)⟩
    refine lv (vi (gI fs.2 v)) (wy (df q64)) (am rfl) (lv (vb (decide ((gI fs.2 v)<0))) (wy (df q64)) (b9 (m:=(gI fs.2 v)) (n:=0) rfl rfl) (lw (vb (decide ((gI fs.2 v)<0))) (aH rfl (df q64) rfl) (mv (vb (decide ((gI fs.2 v)<0))) ?_)))
    by_cases q68:(gI fs.2 v)<0
    ·
     refine ad (wn (dt q68)) (ad (wn (dt q68)) (ad (wn (dt q68)) (ad (wn (dt q68)) (ad (wn (dt q68)) (ad (wn (dt q68)) (lw (vb true) (aA rfl (dt q68) rfl) (mv (vb true) (ad (wn rfl) (ad (wn rfl) (ad (wn rfl) (ad (wn rfl) (ad (wn rfl) (ad (wn rfl) (ad (wn rfl) (ad (wn rfl) (ad (wn rfl) (ad (wn rfl) (ad (wn rfl) (ad (wn rfl) (lw (vb true) (aA rfl rfl rfl) ?_))))))))))))))))))))
     refine a8 (ae rfl rfl (a7 ?_))
     clear bx5 bx10 o_l
     refine a6 rfl (ma vn (ai 14 (a8 (aq (vs:=[vn,vi 14]) Try.func20 (.tmp rfl (.tmp rfl .nil)) ?_))))
     have e0:([]:List Int)=((dl fs g t).1):=by
       rw[gW hsh (by omega) ‹_›,hb.no ‹_› (by exact .inr (.inl ‹_›))]
     have e1:(14:Int)=((dl fs g t).2):=by
       rw[gW hsh (by omega) ‹_›,hb.no ‹_› (by exact .inr (.inl ‹_›))]
     exact⟨(fin w0 g22 (λn=>0),vn),(bV (a:=[]) (b:=14) (λ(z0:List Int) (z1:Int)=>Ending.returned (vt [vn,vi z1])) e0 e1),bH.fresh _,(e0▸Ow.nil)⟩
    refine lv (vi (gI fs.2 v)) (wy (df q68)) (am rfl) (lv (vi ((gI fs.2 v)/2)) (wy (df q68)) (g0 (m:=(gI fs.2 v)) (n:=2) rfl rfl (by omega) (by omega) (by omega)) (lv (vp b8 1) (wy (df q68)) (aj cS rfl rfl zs4 rfl) (lv (g_v) (wy (df q68)) (ah bw rfl bx10 rfl) ?_)))
    have len37:=(Rg).small
    refine lv (vi (g.2.length:Int)) (wy (df q68)) (bl eZ rfl Rg) (lv (vb (decide ((g.2.length:Int)<=((gI fs.2 v)/2)))) (wy (df q68)) (da (m:=(gI fs.2 v)/2) (n:=(g.2.length:Int)) rfl rfl) (lw (vb (decide ((g.2.length:Int)<=((gI fs.2 v)/2)))) (aH rfl (df q68) rfl) (mv (vb (decide ((g.2.length:Int)<=((gI fs.2 v)/2)))) ?_)))
    by_cases q76:(g.2.length:Int)<=((gI fs.2 v)/2)
    ·
     refine ad (wn (dt q76)) (ad (wn (dt q76)) (ad (wn (dt q76)) (ad (wn (dt q76)) (ad (wn (dt q76)) (ad (wn (dt q76)) (ad (wn (dt q76)) (ad (wn (dt q76)) (ad (wn (dt q76)) (ad (wn (dt q76)) ?_)))))))))
     refine ad (wn (dt q76)) (ad (wn (dt q76)) (lw (vb true) (aA rfl (dt q76) rfl) (a8 (ae rfl rfl (a7 ?_)))))
     clear bx5 bx10 o_l
     refine a6 rfl (ma vn (ai 14 (a8 (aq (vs:=[vn,vi 14]) Try.func20 (.tmp rfl (.tmp rfl .nil)) ?_))))
     have e0:([]:List Int)=((dl fs g t).1):=by
       rw[gW hsh (by omega) ‹_›,hb.no ‹_› (by exact .inr (.inr (.inl (by omega))))]
     have e1:(14:Int)=((dl fs g t).2):=by
       rw[gW hsh (by omega) ‹_›,hb.no ‹_› (by exact .inr (.inr (.inl (by omega))))]
     exact⟨(fin w0 g22 (λn=>0),vn),(bV (a:=[]) (b:=14) (λ(z0:List Int) (z1:Int)=>Ending.returned (vt [vn,vi z1])) e0 e1),bH.fresh _,(e0▸Ow.nil)⟩
    refine lv (vp b8 1) (wy (df q76)) (aj cS rfl rfl zs4 rfl) (lv (g_v) (wy (df q76)) (ah bw rfl bx10 rfl) (lv (vi (gI fs.2 v)) (wy (df q76)) (am rfl) (lv (vi ((gI fs.2 v)/2)) (wy (df q76)) (g0 (m:=(gI fs.2 v)) (n:=2) rfl rfl (by omega) (by omega) (by omega)) (lv (vi (gI fs.2 v)) (wy (df q76)) (am rfl) (lv (vi ((gI fs.2 v)%2)) (wy (df q76)) (jy (m:=(gI fs.2 v)) (n:=2) rfl rfl (by omega) (by omega)) (lv (vi (1-((gI fs.2 v)%2))) (wy (df q76)) (dL (m:=1) (n:=(gI fs.2 v)%2) rfl rfl (by omega)) ?_))))))
    refine lv (Value.pointer (some (aC g_v 2 (Int.toNat ((gI fs.2 v)/2))))) (wy (df q76)) (aa (α:=Pt) (xs:=g.2) (v:=g_v) (i:=(gI fs.2 v)/2) eZ rfl rfl Rg rfl (by omega) (by omega)) (lv (Value.pointer (some ⟨(aC g_v 2 (Int.toNat ((gI fs.2 v)/2))).block,(aC g_v 2 (Int.toNat ((gI fs.2 v)/2))).off+(Int.toNat (1-((gI fs.2 v)%2))),none⟩)) (wy (df q76)) (aK (i:=1-((gI fs.2 v)%2)) ik rfl rfl rfl (by omega) (by omega) (Nat.mul_one _)) ?_)
    refine lv (vi (pI (gI g.2 ((gI fs.2 v)/2)) (1-((gI fs.2 v)%2)))) (wy (df q76)) (aP (α:=Pt) (xs:=g.2) (v:=g_v) (i:=(gI fs.2 v)/2) av rfl Rg (by omega) (by omega) (show Int.toNat (1-((gI fs.2 v)%2))<2 by omega) (e7 _ (by omega) (by omega))) (lv (vi v) (wy (df q76)) (am zs9) (lv (vb (!(decide ((pI (gI g.2 ((gI fs.2 v)/2)) (1-((gI fs.2 v)%2)))=v)))) (wy (df q76)) (cM (m:=pI (gI g.2 ((gI fs.2 v)/2)) (1-((gI fs.2 v)%2))) (n:=v) rfl rfl) (lw (vb (!(decide ((pI (gI g.2 ((gI fs.2 v)/2)) (1-((gI fs.2 v)%2)))=v)))) (aH rfl (df q76) rfl) (a8 ?_))))
    by_cases p11:(pI (gI g.2 ((gI fs.2 v)/2)) (1-((gI fs.2 v)%2)))=v
    ·
     refine af rfl (congrArg Bool.not (dt p11)) (al (a7 (a6 rfl (mz zs8 (mi (gI fs.2 v) (lo (aI (α:=Int) g22 (is 3) (is 3) (3,0) rfl ([(gI fs.2 v)]:List Int) bI av (by decide) (by decide) (vs:=[(0,vi (gI fs.2 v))]) rfl rfl (.cons rfl .nil) ?_)))))))
     intro g38 w39 v40 ch41 o42
     refine lo ?_
     replace o_l:=o_l.cn ch41
     refine bG (α:=Int) (xs:=l) (ys:=([(gI fs.2 v)]:List Int)) g38 (J:=is 4) (S:=is 4) (4,0) rfl bI av (by decide) rfl rfl rfl o_l o42.flat (by decide) (by(simp;omega)) ?_
     intro g43 w44 v45 ch46 o47
     clear o_l
     refine ma v45 (a8 ?_)
     clear o42
     refine a6 rfl (lx (aj cS rfl rfl zs4 rfl) ?_)
     replace bx10:=(bx10.cn ch41).ce ch46
     refine lx (ah bw rfl bx10 rfl) (mi (gI fs.2 v) (lx (g0 (m:=(gI fs.2 v)) (n:=2) rfl rfl (by omega) (by omega) (by omega)) (mi (gI fs.2 v) (lx (jy (m:=(gI fs.2 v)) (n:=2) rfl rfl (by omega) (by omega)) ?_))))
     replace Rg:=(Rg.cn ch41).ce ch46
     refine lx (aa (v:=g_v) (i:=(gI fs.2 v)/2) eZ rfl rfl Rg rfl (by omega) (by omega)) (lx (aK (i:=(gI fs.2 v)%2) ik rfl rfl rfl (by omega) (by omega) (Nat.mul_one _)) (lx (aP (v:=g_v) (i:=(gI fs.2 v)/2) av rfl Rg (by omega) (by omega) (show Int.toNat ((gI fs.2 v)%2)<2 by omega) (e7 _ (by omega) (by omega))) (ai (pI (gI g.2 ((gI fs.2 v)/2)) ((gI fs.2 v)%2)) (a8 (ar ?_)))))
     replace bH:=bH.cn ch41
     refine back9 (v45,(l++([(gI fs.2 v)]:List Int)),pI (gI g.2 ((gI fs.2 v)/2)) ((gI fs.2 v)%2),g43) _ _ ⟨bH.ce ch46,zs3,zs4,rfl,rfl,(Rfs.cn ch41).ce ch46,(r_fs_v1.cn ch41).ce ch46,Rg,(bx5.cn ch41).ce ch46,bx10,o47,?_⟩ ?_
     · show lF g fs.2 t (pI (gI g.2 ((gI fs.2 v)/2)) ((gI fs.2 v)%2)) (l++([(gI fs.2 v)]:List Int)).reverse (l++([(gI fs.2 v)]:List Int)).length
       (rw[List.reverse_append,List.length_append];exact hb.next hm ‹_› ‹_› ‹_› (by omega) ‹_›)
     · show g.1.toNat-(l++([(gI fs.2 v)]:List Int)).length<g.1.toNat-l.length
       (simp only[List.length_append,List.length_singleton];omega)
    refine ae rfl (congrArg Bool.not (df p11)) (a7 ?_)
    clear bx5 bx10 o_l
    refine a6 rfl (ma vn (ai 14 (a8 (aq (vs:=[vn,vi 14]) Try.func20 (.tmp rfl (.tmp rfl .nil)) ?_))))
    have e0:([]:List Int)=((dl fs g t).1):=by
      rw[gW hsh (by omega) ‹_›,hb.no ‹_› (by exact .inr (.inr (.inr ‹_›)))]
    have e1:(14:Int)=((dl fs g t).2):=by
      rw[gW hsh (by omega) ‹_›,hb.no ‹_› (by exact .inr (.inr (.inr ‹_›)))]
    exact⟨(fin w0 g22 (λn=>0),vn),(bV (a:=[]) (b:=14) (λ(z0:List Int) (z1:Int)=>Ending.returned (vt [vn,vi z1])) e0 e1),bH.fresh _,(e0▸Ow.nil)⟩
   refine ae rfl (congrArg Bool.not (df p1)) (a7 ?_)
   clear bx5 bx10
   refine a6 rfl (ma vn (ai 1 (a8 (aq (vs:=[vn,vi 1]) Try.func20 (.tmp rfl (.tmp rfl .nil)) ?_))))
   replace bH:=bH.ca C13
   have e0:([]:List Int)=((dl fs g t).1):=by
     rw[l4 (λh=>absurd h.2.2 ‹_›)]
   have e1:(1:Int)=((dl fs g t).2):=by
     rw[l4 (λh=>absurd h.2.2 ‹_›)]
   exact⟨(fin w0 g9 (λn=>0),vn),(bV (a:=[]) (b:=1) (λ(z0:List Int) (z1:Int)=>Ending.returned (vt [vn,vi z1])) e0 e1),bH.fresh _,(e0▸Ow.nil)⟩
  refine ad (wn (congrArg Bool.not (df q23))) (ad (wn (congrArg Bool.not (df q23))) (ad (wn (congrArg Bool.not (df q23))) (ad (wn (congrArg Bool.not (df q23))) (ad (wn (congrArg Bool.not (df q23))) (ad (wn (congrArg Bool.not (df q23))) (lw (vb true) (aA rfl (congrArg Bool.not (df q23)) rfl) (ma (vb true) (a8 (ae rfl rfl ?_)))))))))
  refine a7 ?_
  clear bx5 bx10
  refine a6 rfl (ma vn (ai 1 (a8 (aq (vs:=[vn,vi 1]) Try.func20 (.tmp rfl (.tmp rfl .nil)) ?_))))
  replace bH:=bH.ca C13
  have e0:([]:List Int)=((dl fs g t).1):=by
    rw[l4 (λh=>absurd h.2.1 ‹_›)]
  have e1:(1:Int)=((dl fs g t).2):=by
    rw[l4 (λh=>absurd h.2.1 ‹_›)]
  exact⟨(fin w0 g9 (λn=>0),vn),(bV (a:=[]) (b:=1) (λ(z0:List Int) (z1:Int)=>Ending.returned (vt [vn,vi z1])) e0 e1),bH.fresh _,(e0▸Ow.nil)⟩
 refine ad (wn (congrArg Bool.not (Bool.eq_false_iff.2 q15))) (ad (wn (congrArg Bool.not (Bool.eq_false_iff.2 q15))) (ad (wn (congrArg Bool.not (Bool.eq_false_iff.2 q15))) (ad (wn (congrArg Bool.not (Bool.eq_false_iff.2 q15))) (ad (wn (congrArg Bool.not (Bool.eq_false_iff.2 q15))) (ad (wn (congrArg Bool.not (Bool.eq_false_iff.2 q15))) (lw (vb true) (aA rfl (congrArg Bool.not (Bool.eq_false_iff.2 q15)) rfl) (mv (vb true) (ad (wn rfl) (ad (wn rfl) (ad (wn rfl) (ad (wn rfl) (ad (wn rfl) (ad (wn rfl) (lw (vb true) (aA rfl rfl rfl) ?_))))))))))))))
 refine ma (vb true) (a8 (ae rfl rfl (a7 ?_)))
 clear bx5 bx10
 refine a6 rfl (ma vn (ai 1 (a8 (aq (vs:=[vn,vi 1]) Try.func20 (.tmp rfl (.tmp rfl .nil)) ?_))))
 have C48:=cg [] (ch2.n.seq (ch7.n.seq hb12.n))
 replace bH:=bH.ca C48
 have e0:([]:List Int)=((dl fs g t).1):=by
   rw[l4 (λh=>absurd (dt h.1) ‹_›)]
 have e1:(1:Int)=((dl fs g t).2):=by
   rw[l4 (λh=>absurd (dt h.1) ‹_›)]
 exact⟨(fin w0 g9 (λn=>0),vn),(bV (a:=[]) (b:=1) (λ(z0:List Int) (z1:Int)=>Ending.returned (vt [vn,vi z1])) e0 e1),bH.fresh _,(e0▸Ow.nil)⟩
end TL
