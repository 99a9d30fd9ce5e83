import Derived.Test.YtbpphaeianpdpaaPmTlP2
import Derived.Test.YtbpphaeianpdpaaPmTlGmA
import Derived.Test.YtbpphaeianpdpaaPmTlGenA
import Derived.Test.YtbpphaeianpdpaaPmTlPwA
import Derived.Test.YtbpphaeianpdpaaProg
import Derived.Test.YtbpphaeianpdpaaPmTlAli
set_option linter.all false
set_option maxRecDepth 20000
namespace TL
open Go Go.Proofs
theorem m7:Try.prog.follows .mixedOrders=true:=by kernel_rfl
theorem kZ:Tp Try.prog 29 false 1 24 (.slice none 0 0):=Tp.of (by kernel_rfl)
theorem og:Try.f25.body.isNone=false:=rfl
theorem nT:(Try.f25.name== "runtime.NumGoroutine")=false:=by decide+kernel
theorem pw:Try.f55.body.isNone=false:=rfl
theorem oZ:(Try.f55.name== "runtime.NumGoroutine")=false:=by decide+kernel
set_option maxHeartbeats 4000000 in
theorem qA(w0:World)(fs:(List Nat)×(List Int))(fs_v fs_v1:Value)(hfs_v:Ro w0 fs_v fs.1)(hfs_v1:Ro w0 fs_v1 fs.2)(g:(Int)×(List Pt))(g_v:Value)(hg_v:Ro w0 g_v g.2)(t:Int)(hby:∀x∈fs.2,mK x):
    Calls Try.prog 20 #[vg [fs_v,fs_v1],vg [vi g.1,g_v],vi t] w0 (λee w=>∃xx:ay×Value,ee= .returned ((λ⟨δ,rv0⟩=>vt [rv0,vi ((dw fs g t).2)]) xx)/\(λ(⟨δ,rv0⟩:ay×Value) (w:World)=>eQ w0 δ w/\Ow δ (is 1) (is 1) w rv0 ((dw fs g t).1)) xx w):=by
 refine am Try.func20 rfl nq ?_
 have bH:=b7.start w0
 have Rfs:=hfs_v.sl
 have r_fs_v1:=hfs_v1.sl
 have Rg:=hg_v.sl
 refine a8 (a7 rfl (d8 rfl (cW c0 (is 1) (1,0) rfl rfl ?_)))
 intro g4 w1 b3 ch2 bx5
 replace bx5:Bx g4 (is 1) w1 b3 [fs_v,fs_v1]:=bx5
 refine lo (cW g4 (is 2) (2,0) rfl rfl ?_)
 intro g9 w6 b8 ch7 bx10
 replace bx10:Bx g9 (is 2) w6 b8 [vi g.1,g_v]:=bx10
 refine ma vn (ai 0 (aa (a8 (aq (a8 (a7 rfl (lx (aN (ds:=[vi g.1,g_v]) bv rfl bx10 rfl rfl) ?_)))))))
 replace Rg:=(Rg.cn ch2).cn ch7
 refine lo (bB (v:=vb (bX g)) (aE (vals:=[vg [vi g.1,g_v]]) Try.func54 kW lp rfl) (jX w6 g g_v (Rg).ro) ?_)
 intro w11 hb12
 replace hb12:=aA hb12 g9
 refine lx (e7 (b:=(bX g)) rfl) (mv (vb (!(bX g))) ?_)
 by_cases q15:(bX g)=true
 ·
  refine lv (vp b3 0) (wy (congrArg Bool.not q15)) (ad h8 rfl rfl rfl rfl) ?_
  replace bx5:=(bx5.cn ch7).cn hb12
  refine lv (fs_v) (wy (congrArg Bool.not q15)) (ae kZ rfl bx5 rfl) ?_
  have C13:=cg [] (ch2.n.seq (ch7.n.seq hb12.n))
  replace Rfs:=Rfs.ca C13
  have len14:=(Rfs).small
  refine lv (vi (fs.1.length:Int)) (wy (congrArg Bool.not q15)) (bA cR rfl Rfs) (lv (vp b8 0) (wy (congrArg Bool.not q15)) (ad d5 rfl rfl rfl rfl) ?_)
  replace bx10:=bx10.cn hb12
  refine lv (vi g.1) (wy (congrArg Bool.not q15)) (ae ax rfl bx10 rfl) (lv (vb (!(decide ((fs.1.length:Int)=g.1)))) (wy (congrArg Bool.not q15)) (cY (m:=(fs.1.length:Int)) (n:=g.1) rfl rfl) (lw (vb (!(decide ((fs.1.length:Int)=g.1)))) (aI rfl (congrArg Bool.not q15) rfl) (mv (vb (!(decide ((fs.1.length:Int)=g.1)))) ?_)))
  by_cases q23:(fs.1.length:Int)=g.1
  ·
   refine lv (vp b3 1) (wy (congrArg Bool.not (dt q23))) (ad h8 rfl rfl rfl rfl) (lv (fs_v1) (wy (congrArg Bool.not (dt q23))) (ae bL rfl bx5 rfl) ?_)
   replace r_fs_v1:=r_fs_v1.ca C13
   have len15:=(r_fs_v1).small
   refine lv (vi (fs.2.length:Int)) (wy (congrArg Bool.not (dt q23))) (bA bQ rfl r_fs_v1) (lv (vp b8 0) (wy (congrArg Bool.not (dt q23))) (ad d5 rfl rfl rfl rfl) (lv (vi g.1) (wy (congrArg Bool.not (dt q23))) (ae ax rfl bx10 rfl) (lv (vb (!(decide ((fs.2.length:Int)=g.1)))) (wy (congrArg Bool.not (dt q23))) (cY (m:=(fs.2.length:Int)) (n:=g.1) rfl rfl) (lw (vb (!(decide ((fs.2.length:Int)=g.1)))) (aI rfl (congrArg Bool.not (dt q23)) rfl) (ma (vb (!(decide ((fs.2.length:Int)=g.1)))) (aa ?_))))))
   by_cases p1:(fs.2.length:Int)=g.1
   ·
    refine aj rfl (congrArg Bool.not (dt p1)) (a8 ?_)
    have hsh:eA fs g:=⟨of_decide_eq_true ‹_›,by assumption,by assumption⟩
    have hm:=hsh.1
    have hm0:=hm
    obtain⟨hm1,hm2,hm3,hm4⟩:=hm0
    have hbl:=hsh.2.2
    have hfl:=hsh.2.1
    refine a7 rfl (mi t (lx (aX (m:=t) (n:=0) rfl rfl) (mv (vb (decide (t<0))) ?_)))
    by_cases q34:t<0
    ·
     refine ak (wn (dt q34)) (ak (wn (dt q34)) (ak (wn (dt q34)) (ak (wn (dt q34)) (lw (vb true) (aH rfl (dt q34) rfl) (ma (vb true) (aa (ah rfl rfl (a8 ?_))))))))
     clear bx5 bx10
     refine a7 rfl (ma vn (ai 2 (aa (ar (vs:=[vn,vi 2]) Try.func20 (.tmp rfl (.tmp rfl .nil)) ?_))))
     replace bH:=bH.ca C13
     have e0:([]:List Int)=((dw fs g t).1):=by
       rw[pt hsh (by omega)]
     have e1:(2:Int)=((dw fs g t).2):=by
       rw[pt hsh (by omega)]
     exact⟨(fin w0 g9 (λn=>0),vn),(c6 (a:=[]) (b:=2) (λ(z0:List Int) (z1:Int)=>Ending.returned (vt [vn,vi z1])) e0 e1),bH.fresh _,(e0▸Ow.nil)⟩
    refine lv (vi t) (wy (df q34)) (al rfl) (lv (vp b8 0) (wy (df q34)) (ad d5 rfl rfl rfl rfl) (lv (vi g.1) (wy (df q34)) (ae ax rfl bx10 rfl) (lv (vb (decide (g.1<=t))) (wy (df q34)) (d7 (m:=t) (n:=g.1) rfl rfl) (lw (vb (decide (g.1<=t))) (aI rfl (df q34) rfl) (ma (vb (decide (g.1<=t))) (aa ?_))))))
    by_cases p3:g.1<=t
    ·
     refine ah rfl (dt p3) (a8 ?_)
     clear bx5 bx10
     refine a7 rfl (ma vn (ai 2 (aa (ar (vs:=[vn,vi 2]) Try.func20 (.tmp rfl (.tmp rfl .nil)) ?_))))
     replace bH:=bH.ca C13
     have e0:([]:List Int)=((dw fs g t).1):=by
       rw[pt hsh (by omega)]
     have e1:(2:Int)=((dw fs g t).2):=by
       rw[pt hsh (by omega)]
     exact⟨(fin w0 g9 (λn=>0),vn),(c6 (a:=[]) (b:=2) (λ(z0:List Int) (z1:Int)=>Ending.returned (vt [vn,vi z1])) e0 e1),bH.fresh _,(e0▸Ow.nil)⟩
    refine aj rfl (df p3) (a8 (a7 rfl (lx (ad h8 rfl rfl rfl rfl) (lx (ae kZ rfl bx5 rfl) (mi t (lx (ab (v:=fs_v) (i:=t) cR rfl rfl Rfs rfl (by omega) (by omega)) (lx (aw (v:=fs_v) (i:=t) aF rfl Rfs (by omega) (by omega) (by decide) rfl) (lo (bB (v:=vb (ck (gI fs.1 t) 9218868437227405311)) (aE (vals:=[Value.float .f64 (gI fs.1 t),vi 1]) Try.func25 og nT rfl) (dK w11 (gI fs.1 t) 1 (by rfl)) ?_)))))))))
    intro w16 hb17
    replace hb17:=aA hb17 g9
    refine ma (vb (ck (gI fs.1 t) 9218868437227405311)) (aa ?_)
    by_cases p5:(ck (gI fs.1 t) 9218868437227405311)=true
    ·
     refine ah rfl p5 (a8 ?_)
     clear bx5 bx10
     refine a7 rfl (ma vn (ai 14 (aa (ar (vs:=[vn,vi 14]) Try.func20 (.tmp rfl (.tmp rfl .nil)) ?_))))
     have C18:=cg [] (ch2.n.seq (ch7.n.seq (hb12.n.seq hb17.n)))
     replace bH:=bH.ca C18
     have e0:([]:List Int)=((dw fs g t).1):=by
       rw[rH hsh (by omega) ‹_›]
     have e1:(14:Int)=((dw fs g t).2):=by
       rw[rH hsh (by omega) ‹_›]
     exact⟨(fin w0 g9 (λn=>0),vn),(c6 (a:=[]) (b:=14) (λ(z0:List Int) (z1:Int)=>Ending.returned (vt [vn,vi z1])) e0 e1),bH.fresh _,(e0▸Ow.nil)⟩
    refine aj rfl (Bool.eq_false_iff.2 p5) (ap (au (a8 (a7 rfl (ma vn (aa (a8 (a8 (a7 rfl (mi t (ai t (aa (aq ?_)))))))))))))
    refine ba (σ:=Value×(List Int)×Int×ay) (λ⟨l_v,l,v,gq⟩ f w=>b7 w0 gq w/\f 3=vp b3 0/\f 4=vp b8 0/\f 8=l_v/\f 9=vi v/\Sl gq (is 0) w fs_v fs.1/\Sl gq (is 0) w fs_v1 fs.2/\Sl gq (is 0) w g_v g.2/\Bx gq (is 1) w b3 [fs_v,fs_v1]/\Bx gq (is 2) w b8 [vi g.1,g_v]/\Ow gq (is 4) (is 4) w l_v l/\(lZ g fs.2 t v l.reverse l.length)) (λ⟨l_v,l,v,gq⟩=>g.1.toNat-l.length) (vn,[],t,g9) ?_ ?_
    have C19:=cg [] (ch2.n.seq (ch7.n.seq (hb12.n.seq hb17.n)))
    · exact⟨bH.ca C19,rfl,rfl,rfl,rfl,Rfs.cn hb17,r_fs_v1.cn hb17,(Rg.cn hb12).cn hb17,bx5.cn hb17,bx10.cn hb17,Ow.nil,by exact lZ.start (by omega) (by omega)⟩
    clear Rfs r_fs_v1 Rg bx5 bx10 bH
    rintro⟨l_v,l,v,g22⟩ f20 w21 ⟨bH,zs3,zs4,zs8,zs9,Rfs,r_fs_v1,Rg,bx5,bx10,o_l,hb⟩ back9
    have hv0:=hb.v0
    have hv1:=hb.v1
    have hln:=hb.ln
    refine a8 (a8 (a7 rfl (lx (ad h8 rfl rfl zs3 rfl) (lx (ae bL rfl bx5 rfl) (mz zs9 (lx (ab (v:=fs_v1) (i:=v) bQ rfl rfl r_fs_v1 rfl (by omega) (by omega)) (lx (aw (v:=fs_v1) (i:=v) ax rfl r_fs_v1 (by omega) (by omega) (by decide) rfl) (lx (cY (m:=(gI fs.2 v)) (n:= -1) rfl rfl) (aa ?_)))))))))
    by_cases p9:(gI fs.2 v)=(-1)
    ·
     refine aj rfl (congrArg Bool.not (dt p9)) (aO rfl (a8 ?_))
     clear bx5 bx10
     refine a7 rfl (mz zs8 (lo (bl (aE (vals:=[l_v]) Try.func55 pw oZ rfl) (am Try.func55 rfl nq (a8 (a7 rfl (mv l_v ?_)))))))
     have len23:=(o_l.flat).small
     refine lx (bA bQ rfl o_l.flat) (lx (dZ (m:=(l.length:Int)) (n:=1) rfl rfl (by omega)) (ai 0 (ai ((l.length:Int)-1) (aa (aq ?_)))))
     refine ba (σ:=Nat×Int×(List Int)×ay) (λ⟨i_c1,j_c1,s_c1,gq⟩ f w=>b7 w0 gq w/\f 0=l_v/\f 2=vi ↑i_c1/\f 3=vi j_c1/\Sl gq (is 0) w fs_v fs.1/\Sl gq (is 0) w fs_v1 fs.2/\Sl gq (is 0) w g_v g.2/\Ow gq (is 4) (is 4) w l_v s_c1/\(dE s_c1 l i_c1 j_c1)) (λ⟨i_c1,j_c1,s_c1,gq⟩=>Int.toNat (j_c1-(i_c1:Int))) (0,(l.length:Int)-1,l,g22) ?_ ?_
     · exact⟨bH,rfl,rfl,rfl,Rfs,r_fs_v1,Rg,o_l,by exact dE.start _⟩
     clear Rfs r_fs_v1 Rg o_l bH
     rintro⟨i_c1,j_c1,s_c1,g26⟩ f24 w25 ⟨bH,zs0_c1,zs2_c1,zs3_c1,Rfs,r_fs_v1,Rg,o_l,hrv_c1⟩ back1_c1
     have hsl:=hrv_c1.len
     have hjj:=hrv_c1.jj
     refine a8 (a8 (a7 rfl (mz zs2_c1 (mz zs3_c1 (lx (aX (m:=↑i_c1) (n:=j_c1) rfl rfl) (aa ?_))))))
     by_cases p1_c1:(i_c1:Int)<j_c1
     ·
      refine ah rfl (dt p1_c1) (ap (a8 (aq (bD g26 [0,1,2,3,4,5,6,7,8,9,10,11,12,14] m7 ?_))))
      intro w28 ch27
      refine xp (v:=l_v) 0 rfl (λw=>al zs0_c1) (xp (v:=vi ↑i_c1) 1 rfl (λw=>al zs2_c1) (xp (v:=l_v) 2 rfl (λw=>al zs0_c1) (xp (v:=vi j_c1) 3 rfl (λw=>al zs3_c1) (xp (v:=l_v) 4 rfl (λw=>al zs0_c1) (xp (v:=vi j_c1) 5 rfl (λw=>al zs3_c1) ?_)))))
      replace o_l:=o_l.cn ch27
      refine xv 6 [5,4,3,2,1,0,8,9,10,11] rfl (ab (v:=l_v) (i:=j_c1) bQ rfl rfl o_l.flat rfl (by omega) (by omega)) (xv 7 [6,5,4,3,2,1,0,8,9,10,11] rfl (aw (v:=l_v) (i:=j_c1) ax rfl o_l.flat (by omega) (by omega) (by decide) rfl) (xp (v:=l_v) 8 rfl (λw=>al zs0_c1) (xp (v:=vi ↑i_c1) 9 rfl (λw=>al zs2_c1) (xv 10 [9,8,7,6,5,4,3,2,1,0] rfl (ab (v:=l_v) (i:=↑i_c1) bQ rfl rfl o_l.flat rfl (by omega) (by omega)) (xv 11 [10,9,8,7,6,5,4,3,2,1,0] rfl (aw (v:=l_v) (i:=↑i_c1) ax rfl o_l.flat (by omega) (by omega) (by decide) rfl) (xv 12 [11,10,9,8,7,6,5,4,3,2,1,0] rfl (ab (v:=l_v) (i:=↑i_c1) bQ rfl rfl o_l.flat rfl (by omega) (by omega)) ?_))))))
      refine aZ 13 rfl (by kernel_rfl) rfl (aJ (i:=↑i_c1) (gI s_c1 j_c1) ax rfl rfl o_l (by omega) (by omega) rfl ?_)
      intro w29 ch30 bx31
      clear o_l
      refine xv 14 [13,12,11,10,9,8,7,6,5,4,3,2,1,0] rfl (ab (v:=l_v) (i:=j_c1) bQ rfl rfl bx31.flat rfl (by omega) (by(simp only[List.length_set,List.length_append,List.length_cons,List.length_nil,List.length_replicate,List.length_map,List.length_take,List.length_drop];omega))) (aZ 15 rfl (by kernel_rfl) rfl (aJ (i:=j_c1) (gI s_c1 ↑i_c1) ax rfl rfl bx31 (by omega) (by(simp only[List.length_set,List.length_append,List.length_cons,List.length_nil,List.length_replicate,List.length_map,List.length_take,List.length_drop];omega)) rfl ?_))
      intro w32 ch33 bx34
      clear bx31
      refine bR (by kernel_rfl) (au (a7 rfl (mz zs2_c1 (lx (bg (m:=↑i_c1) (n:=1) rfl rfl (by omega)) (mz zs3_c1 (lx (dZ (m:=j_c1) (n:=1) rfl rfl (by omega)) (ai ((i_c1:Int)+1) (ai (j_c1-1) (aa ?_)))))))))
      have C35:=cg [4] (ch27.n.seq ((ch30.l rfl).seq (ch33.l rfl)))
      refine back1_c1 (i_c1+1,j_c1-1,(List.set (List.set s_c1 (Int.toNat ↑i_c1) (gI s_c1 j_c1)) (Int.toNat j_c1) (gI s_c1 ↑i_c1)),g26) _ _ ⟨bH.ca C35,zs0_c1,rfl,rfl,Rfs.ca C35,r_fs_v1.ca C35,Rg.ca C35,bx34,?_⟩ ?_
      · show dE (List.set (List.set s_c1 (Int.toNat ↑i_c1) (gI s_c1 j_c1)) (Int.toNat j_c1) (gI s_c1 ↑i_c1)) l (i_c1+1) (j_c1-1)
        exact hrv_c1.next ‹_›
      · show Int.toNat ((j_c1-1)-((i_c1+1):Int))<Int.toNat (j_c1-(i_c1:Int))
        omega
     refine aj rfl (df p1_c1) (aO rfl (cu (vs:=[]) Try.func55 .nil ?_))
     refine⟨vt [],rfl,?_⟩
     refine aa (a8 (a7 rfl (mz zs8 (ma l_v (ai 0 (aa (ar (vs:=[l_v,vi 0]) Try.func20 (.tmp rfl (.tmp rfl .nil)) ?_)))))))
     have e0:(s_c1:List Int)=((dw fs g t).1):=by
       (rw[hG hsh (by omega) ‹_›,hb.fin ‹_›];(exact hrv_c1.done ‹_›))
     have e1:(0:Int)=((dw fs g t).2):=by
       (rw[hG hsh (by omega) ‹_›,hb.fin ‹_›];(done))
     exact⟨(fin w0 g26 (λn=>if n=4 then 1 else 0),l_v),(c6 (a:=s_c1) (b:=0) (λ(z0:List Int) (z1:Int)=>Ending.returned (vt [l_v,vi z1])) e0 e1),bH.fresh _,(e0▸(o_l.glue (γ:=c0) (ren:=(λn=>if n=4 then 1 else 0)) (k:=1) bH.col rfl rfl))⟩
    refine ah rfl (congrArg Bool.not (df p9)) ?_
    have hbv:=hby _ (bh (xs:=fs.2) (i:=v) (by omega) (by omega))
    unfold mK at hbv
    refine ap (aq (a8 (a7 rfl (lx (ad h8 rfl rfl zs3 rfl) (lx (ae bL rfl bx5 rfl) (mz zs9 (lx (ab (v:=fs_v1) (i:=v) bQ rfl rfl r_fs_v1 rfl (by omega) (by omega)) (lx (aw (v:=fs_v1) (i:=v) ax rfl r_fs_v1 (by omega) (by omega) (by decide) rfl) (ai (gI fs.2 v) (aa (a8 (a8 (a7 rfl ?_)))))))))))))
    refine mz zs8 ?_
    have len36:=(o_l.flat).small
    refine lx (bA bQ rfl o_l.flat) (lx (ad d5 rfl rfl zs4 rfl) (lx (ae ax rfl bx10 rfl) (lx (en (m:=(l.length:Int)) (n:=g.1) rfl rfl) (mv (vb (decide ((l.length:Int)=g.1))) ?_))))
    by_cases q64:(l.length:Int)=g.1
    ·
     refine ak (wn (dt q64)) (ak (wn (dt q64)) (lw (vb true) (aH rfl (dt q64) rfl) (mv (vb true) (ak (wn rfl) (ak (wn rfl) (ak (wn rfl) (ak (wn rfl) (ak (wn rfl) (ak (wn rfl) (lw (vb true) (aH rfl rfl rfl) (mv (vb true) (ak (wn rfl) (ak (wn rfl) (ak (wn rfl) (ak (wn rfl) (ak (wn rfl) (ak (wn rfl) (ak (wn rfl) (ak (wn rfl) (ak (wn rfl) (ak (wn rfl) (ak (wn rfl) (ak (wn rfl) ?_)))))))))))))))))))))))
     refine lw (vb true) (aH rfl rfl rfl) (aa (ah rfl rfl (a8 ?_)))
     clear bx5 bx10 o_l
     refine a7 rfl (ma vn (ai 14 (aa (ar (vs:=[vn,vi 14]) Try.func20 (.tmp rfl (.tmp rfl .nil)) ?_))))
     have e0:([]:List Int)=((dw fs g t).1):=by
       rw[hG hsh (by omega) ‹_›,hb.no ‹_› (by exact .inl (by omega))]
     have e1:(14:Int)=((dw fs g t).2):=by
       rw[hG hsh (by omega) ‹_›,hb.no ‹_› (by exact .inl (by omega))]
     exact⟨(fin w0 g22 (λn=>0),vn),(c6 (a:=[]) (b:=14) (λ(z0:List Int) (z1:Int)=>Ending.returned (vt [vn,vi z1])) e0 e1),bH.fresh _,(e0▸Ow.nil)⟩
    refine lv (vi (gI fs.2 v)) (wy (df q64)) (al rfl) (lv (vb (decide ((gI fs.2 v)<0))) (wy (df q64)) (aX (m:=(gI fs.2 v)) (n:=0) rfl rfl) (lw (vb (decide ((gI fs.2 v)<0))) (aI rfl (df q64) rfl) (mv (vb (decide ((gI fs.2 v)<0))) ?_)))
    by_cases q68:(gI fs.2 v)<0
    ·
     refine ak (wn (dt q68)) (ak (wn (dt q68)) (ak (wn (dt q68)) (ak (wn (dt q68)) (ak (wn (dt q68)) (ak (wn (dt q68)) (lw (vb true) (aH rfl (dt q68) rfl) (mv (vb true) (ak (wn rfl) (ak (wn rfl) (ak (wn rfl) (ak (wn rfl) (ak (wn rfl) (ak (wn rfl) (ak (wn rfl) (ak (wn rfl) (ak (wn rfl) (ak (wn rfl) (ak (wn rfl) (ak (wn rfl) (lw (vb true) (aH rfl rfl rfl) ?_))))))))))))))))))))
     refine aa (ah rfl rfl (a8 ?_))
     clear bx5 bx10 o_l
     refine a7 rfl (ma vn (ai 14 (aa (ar (vs:=[vn,vi 14]) Try.func20 (.tmp rfl (.tmp rfl .nil)) ?_))))
     have e0:([]:List Int)=((dw fs g t).1):=by
       rw[hG hsh (by omega) ‹_›,hb.no ‹_› (by exact .inr (.inl ‹_›))]
     have e1:(14:Int)=((dw fs g t).2):=by
       rw[hG hsh (by omega) ‹_›,hb.no ‹_› (by exact .inr (.inl ‹_›))]
     exact⟨(fin w0 g22 (λn=>0),vn),(c6 (a:=[]) (b:=14) (λ(z0:List Int) (z1:Int)=>Ending.returned (vt [vn,vi z1])) e0 e1),bH.fresh _,(e0▸Ow.nil)⟩
    refine lv (vi (gI fs.2 v)) (wy (df q68)) (al rfl) (lv (vi ((gI fs.2 v)/2)) (wy (df q68)) (fz (m:=(gI fs.2 v)) (n:=2) rfl rfl (by omega) (by omega) (by omega)) (lv (vp b8 1) (wy (df q68)) (ad d5 rfl rfl zs4 rfl) (lv (g_v) (wy (df q68)) (ae bC rfl bx10 rfl) ?_)))
    have len37:=(Rg).small
    refine lv (vi (g.2.length:Int)) (wy (df q68)) (bA eN rfl Rg) (lv (vb (decide ((g.2.length:Int)<=((gI fs.2 v)/2)))) (wy (df q68)) (d7 (m:=(gI fs.2 v)/2) (n:=(g.2.length:Int)) rfl rfl) (lw (vb (decide ((g.2.length:Int)<=((gI fs.2 v)/2)))) (aI rfl (df q68) rfl) (mv (vb (decide ((g.2.length:Int)<=((gI fs.2 v)/2)))) ?_)))
    by_cases q76:(g.2.length:Int)<=((gI fs.2 v)/2)
    ·
     refine ak (wn (dt q76)) (ak (wn (dt q76)) (ak (wn (dt q76)) (ak (wn (dt q76)) (ak (wn (dt q76)) (ak (wn (dt q76)) (ak (wn (dt q76)) (ak (wn (dt q76)) (ak (wn (dt q76)) (ak (wn (dt q76)) ?_)))))))))
     refine ak (wn (dt q76)) (ak (wn (dt q76)) (lw (vb true) (aH rfl (dt q76) rfl) (aa (ah rfl rfl (a8 ?_)))))
     clear bx5 bx10 o_l
     refine a7 rfl (ma vn (ai 14 (aa (ar (vs:=[vn,vi 14]) Try.func20 (.tmp rfl (.tmp rfl .nil)) ?_))))
     have e0:([]:List Int)=((dw fs g t).1):=by
       rw[hG hsh (by omega) ‹_›,hb.no ‹_› (by exact .inr (.inr (.inl (by omega))))]
     have e1:(14:Int)=((dw fs g t).2):=by
       rw[hG hsh (by omega) ‹_›,hb.no ‹_› (by exact .inr (.inr (.inl (by omega))))]
     exact⟨(fin w0 g22 (λn=>0),vn),(c6 (a:=[]) (b:=14) (λ(z0:List Int) (z1:Int)=>Ending.returned (vt [vn,vi z1])) e0 e1),bH.fresh _,(e0▸Ow.nil)⟩
    refine lv (vp b8 1) (wy (df q76)) (ad d5 rfl rfl zs4 rfl) (lv (g_v) (wy (df q76)) (ae bC rfl bx10 rfl) (lv (vi (gI fs.2 v)) (wy (df q76)) (al rfl) (lv (vi ((gI fs.2 v)/2)) (wy (df q76)) (fz (m:=(gI fs.2 v)) (n:=2) rfl rfl (by omega) (by omega) (by omega)) (lv (vi (gI fs.2 v)) (wy (df q76)) (al rfl) (lv (vi ((gI fs.2 v)%2)) (wy (df q76)) (gT (m:=(gI fs.2 v)) (n:=2) rfl rfl (by omega) (by omega)) (lv (vi (1-((gI fs.2 v)%2))) (wy (df q76)) (dZ (m:=1) (n:=(gI fs.2 v)%2) rfl rfl (by omega)) ?_))))))
    refine lv (Value.pointer (some (aL g_v 2 (Int.toNat ((gI fs.2 v)/2))))) (wy (df q76)) (ab (α:=Pt) (xs:=g.2) (v:=g_v) (i:=(gI fs.2 v)/2) eN rfl rfl Rg rfl (by omega) (by omega)) (lv (Value.pointer (some ⟨(aL g_v 2 (Int.toNat ((gI fs.2 v)/2))).block,(aL g_v 2 (Int.toNat ((gI fs.2 v)/2))).off+(Int.toNat (1-((gI fs.2 v)%2))),none⟩)) (wy (df q76)) (aS (i:=1-((gI fs.2 v)%2)) i4 rfl rfl rfl (by omega) (by omega) (Nat.mul_one _)) ?_)
    refine lv (vi (pI (gI g.2 ((gI fs.2 v)/2)) (1-((gI fs.2 v)%2)))) (wy (df q76)) (aW (α:=Pt) (xs:=g.2) (v:=g_v) (i:=(gI fs.2 v)/2) ax rfl Rg (by omega) (by omega) (show Int.toNat (1-((gI fs.2 v)%2))<2 by omega) (dQ _ (by omega) (by omega))) (lv (vi v) (wy (df q76)) (al zs9) (lv (vb (!(decide ((pI (gI g.2 ((gI fs.2 v)/2)) (1-((gI fs.2 v)%2)))=v)))) (wy (df q76)) (cY (m:=pI (gI g.2 ((gI fs.2 v)/2)) (1-((gI fs.2 v)%2))) (n:=v) rfl rfl) (lw (vb (!(decide ((pI (gI g.2 ((gI fs.2 v)/2)) (1-((gI fs.2 v)%2)))=v)))) (aI rfl (df q76) rfl) (aa ?_))))
    by_cases p11:(pI (gI g.2 ((gI fs.2 v)/2)) (1-((gI fs.2 v)%2)))=v
    ·
     refine aj rfl (congrArg Bool.not (dt p11)) (ap (a8 (a7 rfl (mz zs8 (mi (gI fs.2 v) (lo (aQ (α:=Int) g22 (is 3) (is 3) (3,0) rfl ([(gI fs.2 v)]:List Int) bQ ax (by decide) (by decide) (vs:=[(0,vi (gI fs.2 v))]) rfl rfl (.cons rfl .nil) ?_)))))))
     intro g38 w39 v40 ch41 o42
     refine lo ?_
     replace o_l:=o_l.cn ch41
     refine bI (α:=Int) (xs:=l) (ys:=([(gI fs.2 v)]:List Int)) g38 (J:=is 4) (S:=is 4) (4,0) rfl bQ ax (by decide) rfl rfl rfl o_l o42.flat (by decide) (by(simp;omega)) ?_
     intro g43 w44 v45 ch46 o47
     clear o_l
     refine ma v45 (aa ?_)
     clear o42
     refine a7 rfl (lx (ad d5 rfl rfl zs4 rfl) ?_)
     replace bx10:=(bx10.cn ch41).ce ch46
     refine lx (ae bC rfl bx10 rfl) (mi (gI fs.2 v) (lx (fz (m:=(gI fs.2 v)) (n:=2) rfl rfl (by omega) (by omega) (by omega)) (mi (gI fs.2 v) (lx (gT (m:=(gI fs.2 v)) (n:=2) rfl rfl (by omega) (by omega)) ?_))))
     replace Rg:=(Rg.cn ch41).ce ch46
     refine lx (ab (v:=g_v) (i:=(gI fs.2 v)/2) eN rfl rfl Rg rfl (by omega) (by omega)) (lx (aS (i:=(gI fs.2 v)%2) i4 rfl rfl rfl (by omega) (by omega) (Nat.mul_one _)) (lx (aW (v:=g_v) (i:=(gI fs.2 v)/2) ax rfl Rg (by omega) (by omega) (show Int.toNat ((gI fs.2 v)%2)<2 by omega) (dQ _ (by omega) (by omega))) (ai (pI (gI g.2 ((gI fs.2 v)/2)) ((gI fs.2 v)%2)) (aa (au ?_)))))
     replace bH:=bH.cn ch41
     refine back9 (v45,(l++([(gI fs.2 v)]:List Int)),pI (gI g.2 ((gI fs.2 v)/2)) ((gI fs.2 v)%2),g43) _ _ ⟨bH.ce ch46,zs3,zs4,rfl,rfl,(Rfs.cn ch41).ce ch46,(r_fs_v1.cn ch41).ce ch46,Rg,(bx5.cn ch41).ce ch46,bx10,o47,?_⟩ ?_
     · show lZ g fs.2 t (pI (gI g.2 ((gI fs.2 v)/2)) ((gI fs.2 v)%2)) (l++([(gI fs.2 v)]:List Int)).reverse (l++([(gI fs.2 v)]:List Int)).length
       (rw[List.reverse_append,List.length_append];exact hb.next hm ‹_› ‹_› ‹_› (by omega) ‹_›)
     · show g.1.toNat-(l++([(gI fs.2 v)]:List Int)).length<g.1.toNat-l.length
       (simp only[List.length_append,List.length_singleton];omega)
    refine ah rfl (congrArg Bool.not (df p11)) (a8 ?_)
    clear bx5 bx10 o_l
    refine a7 rfl (ma vn (ai 14 (aa (ar (vs:=[vn,vi 14]) Try.func20 (.tmp rfl (.tmp rfl .nil)) ?_))))
    have e0:([]:List Int)=((dw fs g t).1):=by
      rw[hG hsh (by omega) ‹_›,hb.no ‹_› (by exact .inr (.inr (.inr ‹_›)))]
    have e1:(14:Int)=((dw fs g t).2):=by
      rw[hG hsh (by omega) ‹_›,hb.no ‹_› (by exact .inr (.inr (.inr ‹_›)))]
    exact⟨(fin w0 g22 (λn=>0),vn),(c6 (a:=[]) (b:=14) (λ(z0:List Int) (z1:Int)=>Ending.returned (vt [vn,vi z1])) e0 e1),bH.fresh _,(e0▸Ow.nil)⟩
   refine ah rfl (congrArg Bool.not (df p1)) (a8 ?_)
   clear bx5 bx10
   refine a7 rfl (ma vn (ai 1 (aa (ar (vs:=[vn,vi 1]) Try.func20 (.tmp rfl (.tmp rfl .nil)) ?_))))
   replace bH:=bH.ca C13
   have e0:([]:List Int)=((dw fs g t).1):=by
     rw[lW (λh=>absurd h.2.2 ‹_›)]
   have e1:(1:Int)=((dw fs g t).2):=by
     rw[lW (λh=>absurd h.2.2 ‹_›)]
   exact⟨(fin w0 g9 (λn=>0),vn),(c6 (a:=[]) (b:=1) (λ(z0:List Int) (z1:Int)=>Ending.returned (vt [vn,vi z1])) e0 e1),bH.fresh _,(e0▸Ow.nil)⟩
  refine ak (wn (congrArg Bool.not (df q23))) (ak (wn (congrArg Bool.not (df q23))) (ak (wn (congrArg Bool.not (df q23))) (ak (wn (congrArg Bool.not (df q23))) (ak (wn (congrArg Bool.not (df q23))) (ak (wn (congrArg Bool.not (df q23))) (lw (vb true) (aH rfl (congrArg Bool.not (df q23)) rfl) (ma (vb true) (aa (ah rfl rfl ?_)))))))))
  refine a8 ?_
  clear bx5 bx10
  refine a7 rfl (ma vn (ai 1 (aa (ar (vs:=[vn,vi 1]) Try.func20 (.tmp rfl (.tmp rfl .nil)) ?_))))
  replace bH:=bH.ca C13
  have e0:([]:List Int)=((dw fs g t).1):=by
    rw[lW (λh=>absurd h.2.1 ‹_›)]
  have e1:(1:Int)=((dw fs g t).2):=by
    rw[lW (λh=>absurd h.2.1 ‹_›)]
  exact⟨(fin w0 g9 (λn=>0),vn),(c6 (a:=[]) (b:=1) (λ(z0:List Int) (z1:Int)=>Ending.returned (vt [vn,vi z1])) e0 e1),bH.fresh _,(e0▸Ow.nil)⟩
 refine ak (wn (congrArg Bool.not (Bool.eq_false_iff.2 q15))) (ak (wn (congrArg Bool.not (Bool.eq_false_iff.2 q15))) (ak (wn (congrArg Bool.not (Bool.eq_false_iff.2 q15))) (ak (wn (congrArg Bool.not (Bool.eq_false_iff.2 q15))) (ak (wn (congrArg Bool.not (Bool.eq_false_iff.2 q15))) (ak (wn (congrArg Bool.not (Bool.eq_false_iff.2 q15))) (lw (vb true) (aH rfl (congrArg Bool.not (Bool.eq_false_iff.2 q15)) rfl) (mv (vb true) (ak (wn rfl) (ak (wn rfl) (ak (wn rfl) (ak (wn rfl) (ak (wn rfl) (ak (wn rfl) (lw (vb true) (aH rfl rfl rfl) ?_))))))))))))))
 refine ma (vb true) (aa (ah rfl rfl (a8 ?_)))
 clear bx5 bx10
 refine a7 rfl (ma vn (ai 1 (aa (ar (vs:=[vn,vi 1]) Try.func20 (.tmp rfl (.tmp rfl .nil)) ?_))))
 have C48:=cg [] (ch2.n.seq (ch7.n.seq hb12.n))
 replace bH:=bH.ca C48
 have e0:([]:List Int)=((dw fs g t).1):=by
   rw[lW (λh=>absurd (dt h.1) ‹_›)]
 have e1:(1:Int)=((dw fs g t).2):=by
   rw[lW (λh=>absurd (dt h.1) ‹_›)]
 exact⟨(fin w0 g9 (λn=>0),vn),(c6 (a:=[]) (b:=1) (λ(z0:List Int) (z1:Int)=>Ending.returned (vt [vn,vi z1])) e0 e1),bH.fresh _,(e0▸Ow.nil)⟩
end TL
