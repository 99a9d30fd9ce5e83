import Derived.Test.YtmaclbnodbcniaaFmTlP3
import Derived.Test.YtmaclbnodbcniaaFmTlFwA
import Derived.Test.YtmaclbnodbcniaaFmTlFwL
import Derived.Test.YtmaclbnodbcniaaFmTlFwR
import Derived.Test.YtmaclbnodbcniaaProg
import Derived.Test.YtmaclbnodbcniaaFmTlAli
set_option linter.all false
set_option maxRecDepth 20000
namespace TL
open Go Go.Proofs
theorem cF:Try.prog.follows .mixedOrders=true:=by kernel_rfl
theorem bv:Tp Try.prog 39 false 1 24 (.slice none 0 0):=Tp.of (by kernel_rfl)
theorem bI:Tp Try.prog 64 true 2 16 (.agg #[.int .i64 0,.int .i64 0]):=Tp.of (by kernel_rfl)
theorem ci:Tp Try.prog 66 false 1 24 (.slice none 0 0):=Tp.of (by kernel_rfl)
theorem ga:gH Try.prog 62 "Len" =some (33,false,66):=by kernel_rfl
theorem d6:gH Try.prog 62 "Less" =some (55,false,66):=by kernel_rfl
theorem jN:gH Try.prog 62 "Pop" =some (56,true,66):=by kernel_rfl
theorem jw:gH Try.prog 62 "Push" =some (57,true,66):=by kernel_rfl
theorem d5:gH Try.prog 62 "Swap" =some (58,false,66):=by kernel_rfl
theorem jt:Try.f33.body.isNone=false:=rfl
theorem jd:(Try.f33.name== "runtime.NumGoroutine")=false:=by decide+kernel
theorem pU:Try.f34.body.isNone=false:=rfl
theorem pz:(Try.f34.name== "runtime.NumGoroutine")=false:=by decide+kernel
theorem jp:Try.f35.body.isNone=false:=rfl
theorem ja:(Try.f35.name== "runtime.NumGoroutine")=false:=by decide+kernel
theorem nQ:Try.f36.body.isNone=false:=rfl
theorem po:(Try.f36.name== "runtime.NumGoroutine")=false:=by decide+kernel
theorem pK:Try.f37.body.isNone=false:=rfl
theorem p8:(Try.f37.name== "runtime.NumGoroutine")=false:=by decide+kernel
theorem oM:Try.f38.body.isNone=false:=rfl
theorem nW:(Try.f38.name== "runtime.NumGoroutine")=false:=by decide+kernel
theorem fG:Try.f55.body.isNone=false:=rfl
theorem fp:(Try.f55.name== "runtime.NumGoroutine")=false:=by decide+kernel
theorem nP:Try.f56.body.isNone=false:=rfl
theorem pp:(Try.f56.name== "runtime.NumGoroutine")=false:=by decide+kernel
theorem pj:Try.f57.body.isNone=false:=rfl
theorem od:(Try.f57.name== "runtime.NumGoroutine")=false:=by decide+kernel
theorem fF:Try.f58.body.isNone=false:=rfl
theorem fk:(Try.f58.name== "runtime.NumGoroutine")=false:=by decide+kernel
set_option maxHeartbeats 8000000 in
theorem jE{b30:Nat}{w0:World}{t_v:Value}{t:(Int)×(List ((Int)×(Int)×(Int)×(Int)))×(List Int)}{t_v1:Value}{b3:Nat}{v24:Value}{O2_c1:eZ}{v25:Value}{v26:Value}{v27:Value}{Nf:List Int}{W2_c1_v:Value}{ak_c1:Int}{fl:Int}{Wf:List bq}{Pf:List Int}{g743:aG}{w742:World}{Ff:List Int}(bH:b9 w0 g743 w742)(Rt:Sl g743 (is 0) w742 t_v t.2.1)(r_t_v1:Sl g743 (is 0) w742 t_v1 t.2.2)(bx5:Bx g743 (is 1) w742 b3 [vi t.1,t_v,t_v1])(o20:bN g743 3 w742 v24 O2_c1)(o21:Ow g743 (is 4) (is 4) w742 v25 Pf)(o22:Ow g743 (is 5) (is 5) w742 v26 Ff)(o23:Ow g743 (is 6) (is 6) w742 v27 Nf)(bx32:Bx g743 (is 7) w742 b30 [W2_c1_v,v24,v25,v26,v27,vi t.1,vi (t.1+1),vi ak_c1,vi fl])(o_W2_c1:Ow g743 (is 11) (is 11) w742 W2_c1_v Wf)(hm:cB t)(hN60:t.1<=60)(hbd:gk (t.1+2) t.1 ((t.1+2)*1048576) (1048576+(t.1+2)*1048576) Wf O2_c1 Pf)(hff:((Ff).length:Int)=t.1+2):
    Calls Try.prog 30 (List.toArray [vp b30 0]) w742 (λee w=>∃xx:(List Int)×(List Int)×Bool×aG,ee= .returned ((λ⟨xF,xP,rR,gq⟩=>vb rR) xx)/\(λ(⟨xF,xP,rR,gq⟩:(List Int)×(List Int)×Bool×aG) (w:World)=>b9 w0 gq w/\Sl gq (is 0) w t_v t.2.1/\Sl gq (is 0) w t_v1 t.2.2/\Bx gq (is 1) w b3 [vi t.1,t_v,t_v1]/\bN gq 3 w v24 O2_c1/\Ow gq (is 4) (is 4) w v25 xP/\Ow gq (is 5) (is 5) w v26 xF/\Ow gq (is 6) (is 6) w v27 Nf/\Bx gq (is 7) w b30 [W2_c1_v,v24,v25,v26,v27,vi t.1,vi (t.1+1),vi ak_c1,vi fl]/\Ow gq (is 11) (is 11) w W2_c1_v Wf/\(nL (t.1+2) t.1 (t.1+1) Wf O2_c1 Pf rR xF xP)) xx w):=by
 refine aC Try.func30 rfl nq ?_
 have hbp:=hbd.pt.pl
 have hm0:=hm
 obtain⟨⟨hm1,hm2⟩,hm3,hm4,hm5,hm6⟩:=hm0
 have hol:=hbd.sh.ol
 have hwl:=hbd.sh.len
 refine a9 (a6 rfl (ma (vb false) (af (a9 (a9 (a6 rfl (mv (vp b30 0) (lw (vp b30 0) (ad rfl) (lx (a7 bB rfl rfl rfl rfl) ?_)))))))))
 refine lx (a8 ao rfl bx32 rfl) ?_
 have len744:=(o22.flat).small
 refine lx (ba aW rfl o22.flat) (mi 0 (af (av ?_)))
 refine aX (σ:=Nat×(List Int)×aG) (λ⟨v0,fr0,gq⟩ f w=>b9 w0 gq w/\f 0=vp b30 0/\f 15=vi (Ff.length:Int)/\f 16=vi ↑v0/\Sl gq (is 0) w t_v t.2.1/\Sl gq (is 0) w t_v1 t.2.2/\Bx gq (is 1) w b3 [vi t.1,t_v,t_v1]/\bN gq 3 w v24 O2_c1/\Ow gq (is 4) (is 4) w v25 Pf/\Ow gq (is 5) (is 5) w v26 fr0/\Ow gq (is 6) (is 6) w v27 Nf/\Bx gq (is 7) w b30 [W2_c1_v,v24,v25,v26,v27,vi t.1,vi (t.1+1),vi ak_c1,vi fl]/\Ow gq (is 11) (is 11) w W2_c1_v Wf/\(v0:Int)<=((Ff.length:Int):Int)/\(mO (t.1+2) v0 fr0)) (λ⟨v0,fr0,gq⟩=>Int.toNat (((Ff.length:Int):Int)-(v0:Int))) (0,Ff,g743) ?_ ?_
 · exact⟨bH,rfl,rfl,rfl,Rt,r_t_v1,bx5,o20,o21,o22,o23,bx32,o_W2_c1,by omega,by exact mO.start (by omega)⟩
 clear Rt r_t_v1 bx5 o20 o21 o22 o23 bx32 o_W2_c1 bH
 rintro⟨v0,fr0,g747⟩ f745 w746 ⟨bH,zs0_c7,zs15_c7,zs16_c7,Rt,r_t_v1,bx5,o20,o21,o22,o23,bx32,o_W2_c1,hle_v0,hfa⟩ back2_c7
 have hfal:=hfa.ln
 refine a9 (a6 rfl (lx (bo (m:=↑v0) (n:=(Ff.length:Int)) zs16_c7 zs15_c7) (af (a9 ?_))))
 by_cases p2_c7:(v0:Int)<(Ff.length:Int)
 ·
  refine aj rfl (dt p2_c7) (au (a9 (av (a9 (a6 rfl (mz zs16_c7 (ai (v0:Int) (af (a6 rfl ?_)))))))))
  refine mz zs0_c7 (lw (vp b30 0) (ad rfl) (lx (a7 bB rfl rfl rfl rfl) (lx (a8 ao rfl bx32 rfl) (mi ↑v0 (lx (aa (v:=v26) (i:=↑v0) aW rfl rfl o22.flat rfl (by omega) (by omega)) (lo (aK (i:=↑v0) 1152921504606846976 ae rfl rfl o22 (by omega) (by omega) rfl ?_)))))))
  intro w748 ch749 bx750
  clear o22
  refine af (aq (a6 rfl (lx (aP (m:=↑v0) (n:=1) zs16_c7 rfl (by omega)) (mi ((v0:Int)+1) (af ?_)))))
  refine back2_c7 (v0+1,(List.set fr0 (Int.toNat ↑v0) 1152921504606846976),g747) _ _ ⟨bH.ce ch749,zs0_c7,zs15_c7,rfl,Rt.ce ch749,r_t_v1.ce ch749,bx5.ce ch749,o20.ce ch749,o21.ce ch749,bx750,o23.ce ch749,bx32.ce ch749,o_W2_c1.ce ch749,by omega,?_⟩ ?_
  · show mO (t.1+2) (v0+1) (List.set fr0 (Int.toNat ↑v0) 1152921504606846976)
    exact hfa.next (by omega)
  · show Int.toNat (((Ff.length:Int):Int)-((v0+1):Int))<Int.toNat (((Ff.length:Int):Int)-(v0:Int))
    omega
 refine am rfl (df p2_c7) (aM rfl (a9 (aL g747 [0,1,2,3,4,5,6,7,8] cF ?_)))
 intro w752 ch751
 refine xp (v:=vp b30 0) 0 rfl (λw=>ah zs0_c7) (xp (v:=vp b30 0) 1 rfl (λw=>ad rfl) (xp 2 rfl (λw=>a7 bB rfl rfl rfl rfl) ?_))
 replace bx32:=bx32.cn ch751
 refine xv 3 [2,1,0,4,5,6,7] rfl (a8 ao rfl bx32 rfl) (xp (v:=vp b30 0) 4 rfl (λw=>ah zs0_c7) (xp (v:=vp b30 0) 5 rfl (λw=>ad rfl) (xp 6 rfl (λw=>a7 bB rfl rfl rfl rfl) (xv 7 [6,5,4,3,2,1,0] rfl (a8 ae rfl bx32 rfl) ?_))))
 replace o22:=o22.cn ch751
 refine xv 8 [7,6,5,4,3,2,1,0] rfl (aa (v:=v26) (i:=t.1) aW rfl rfl o22.flat rfl (by omega) (by omega)) (aD 9 rfl (by kernel_rfl) rfl (aK (i:=t.1) 0 ae rfl rfl o22 (by omega) (by omega) rfl ?_))
 intro w753 ch754 bx755
 clear o22
 refine bc (by kernel_rfl) (a9 (a9 (a6 rfl (mz zs0_c7 (lw (vp b30 0) (ad rfl) (lx (a7 bB rfl rfl rfl rfl) ?_))))))
 replace bx32:=bx32.ce ch754
 refine lx (a8 ae rfl bx32 rfl) (lw (vg [vi 0,vi t.1]) (bp (vs:=[(0,vi 0),(1,vi t.1)]) rfl (by kernel_rfl)) (lo (aw (α:=Pt) g747 (is 26) (is 26) (26,0) rfl ([(0,t.1)]:List Pt) dD bI (by decide) (by decide) (vs:=[(0,vg [vi 0,vi t.1])]) rfl rfl (.cons rfl .nil) ?_)))
 intro g756 w757 v758 ch759 o760
 refine lo ?_
 have hc766:=bf o760.flat
 refine d4 (v:=v758) g756 (is 27) (27,0) rfl rfl ?_
 intro g764 w761 b763 ch762 bx765
 rw[hc766] at bx765
 replace bx765:Bx g764 (is 27) w761 b763 [v758]:=bx765
 refine ma (vp b763 0) (af (av ?_))
 refine aX (σ:=Value×(List Pt)×(List Int)×aG) (λ⟨qq_v,qq,fr,gq⟩ f w=>b9 w0 gq w/\f 0=vp b30 0/\f 4=vp b763 0/\Sl gq (is 0) w t_v t.2.1/\Sl gq (is 0) w t_v1 t.2.2/\Bx gq (is 1) w b3 [vi t.1,t_v,t_v1]/\bN gq 3 w v24 O2_c1/\Ow gq (is 4) (is 4) w v25 Pf/\Ow gq (is 6) (is 6) w v27 Nf/\Bx gq (is 7) w b30 [W2_c1_v,v24,v25,v26,v27,vi t.1,vi (t.1+1),vi ak_c1,vi fl]/\Ow gq (is 11) (is 11) w W2_c1_v Wf/\Ow gq (is 5) (is 5) w v26 fr/\Bx gq (is 27) w b763 [qq_v]/\Ow gq (is 26) (is 26) w qq_v qq/\(iW (t.1+2) t.1 (1048576+(t.1+2)*1048576) Wf O2_c1 Pf (dc (t.1+2) t.1 Wf O2_c1 Pf) fr qq)) (λ⟨qq_v,qq,fr,gq⟩=>ek (fr,qq)) (v758,([(0,t.1)]:List Pt),(List.set fr0 (Int.toNat t.1) 0),g764) ?_ ?_
 have C767:=cg [5] (ch751.n.seq ((ch754.l rfl).seq (ch759.n.seq ch762.n)))
 · exact⟨bH.ca C767,zs0_c7,rfl,Rt.ca C767,r_t_v1.ca C767,bx5.ca C767,o20.ca C767,o21.ca C767,o23.ca C767,(bx32.cn ch759).cn ch762,o_W2_c1.ca C767,(bx755.cn ch759).cn ch762,bx765,o760.cn ch762,by exact rN hbd hfa (by omega) (by omega)⟩
 clear Rt r_t_v1 bx5 o20 o21 o23 bx32 o_W2_c1 bx755 o760 bx765 bH
 rintro⟨qq_v,qq,fr,g770⟩ f768 w769 ⟨bH,zs0_c7,zs4_c7,Rt,r_t_v1,bx5,o20,o21,o23,bx32,o_W2_c1,bx755,bx765,o_qq,hrc⟩ back8_c7
 have hrcl:=hrc.a.i.fl
 have hqz:=hrc.a.i.ql2 hbd rfl (by omega)
 refine a9 (a9 (a6 rfl (mz zs4_c7 (lw (vp b763 0) (ad rfl) (lx (a8 ci rfl bx765 rfl) (lo (bE (v:=vi (qq.length:Int)) (aU (vals:=[qq_v]) Try.func33 jt jd rfl) (fL w769 qq qq_v (o_qq.flat).ro) ?_)))))))
 intro w771 hb772
 replace hb772:=aB hb772 g770
 refine lx (bY (m:=(qq.length:Int)) (n:=0) rfl rfl) (af ?_)
 by_cases p8_c7:0<(qq.length:Int)
 ·
  refine aj rfl (dt p8_c7) (au (av (a9 (a6 rfl (mz zs4_c7 (lw (Value.iface 62 (vp b763 0)) (fD tn rfl rfl) (lo (c6 (aU (vals:=[Value.iface 62 (vp b763 0)]) Try.func34 pU pz rfl) (aC Try.func34 rfl nq ?_)))))))))
  replace o_qq:=o_qq.cn hb772
  refine a9 (a6 rfl (ma (Value.nilIface) (af (a9 (a6 rfl (mv (Value.iface 62 (vp b763 0)) ?_))))))
  replace bx765:=bx765.cn hb772
  refine lo (bE (v:=vi (qq.length:Int)) (bK (T:=62) (v:=vp b763 0) (u:=qq_v) (vals:=[]) rfl (λn=>bk ga (bg ci (by rw[bx765.cell];rfl))) Try.func33 jt jd rfl) (fL w771 qq qq_v (o_qq.flat).ro) ?_)
  intro w773 hb774
  replace hb774:=aB hb774 g770
  refine lx (cV (m:=(qq.length:Int)) (n:=1) rfl rfl (by omega)) (ai ((qq.length:Int)-1) (af (a9 (a6 rfl (mv (Value.iface 62 (vp b763 0)) (mi ((qq.length:Int)-1) (lo ?_)))))))
  replace bx765:=bx765.cn hb774
  refine c6 (bK (T:=62) (v:=vp b763 0) (u:=qq_v) (vals:=[vi 0,vi ((qq.length:Int)-1)]) rfl (λn=>bk d5 (bg ci (by rw[bx765.cell];rfl))) Try.func58 fF fk rfl) (aC Try.func58 rfl nq ?_)
  replace o_qq:=o_qq.cn hb774
  refine aL g770 [0,1,2,3,4,5,6,7,8,9,10,11,12,14] cF ?_
  intro w776 ch775
  refine xp (v:=qq_v) 0 rfl (λw=>ah rfl) (xp (v:=vi 0) 1 rfl (λw=>ah rfl) (xp (v:=qq_v) 2 rfl (λw=>ah rfl) (xp (v:=vi ((qq.length:Int)-1)) 3 rfl (λw=>ah rfl) (xp (v:=qq_v) 4 rfl (λw=>ah rfl) (xp (v:=vi ((qq.length:Int)-1)) 5 rfl (λw=>ah rfl) ?_)))))
  replace o_qq:=o_qq.cn ch775
  refine xv 6 [5,4,3,2,1,0,8,9,10,11] rfl (aa (v:=qq_v) (i:=(qq.length:Int)-1) dD rfl rfl o_qq.flat rfl (by omega) (by omega)) (xv (v:=vg [vi ((gI qq ((qq.length:Int)-1)).1),vi ((gI qq ((qq.length:Int)-1)).2)]) 7 [6,5,4,3,2,1,0,8,9,10,11] rfl (bh (v:=qq_v) (i:=(qq.length:Int)-1) bI rfl o_qq.flat (by omega) (by omega) rfl) (xp (v:=qq_v) 8 rfl (λw=>ah rfl) (xp (v:=vi 0) 9 rfl (λw=>ah rfl) (xv 10 [9,8,7,6,5,4,3,2,1,0] rfl (aa (v:=qq_v) (i:=0) dD rfl rfl o_qq.flat rfl (by omega) (by omega)) ?_))))
  refine xv (v:=vg [vi ((gI qq 0).1),vi ((gI qq 0).2)]) 11 [10,9,8,7,6,5,4,3,2,1,0] rfl (bh (v:=qq_v) (i:=0) bI rfl o_qq.flat (by omega) (by omega) rfl) (xv 12 [11,10,9,8,7,6,5,4,3,2,1,0] rfl (aa (v:=qq_v) (i:=0) dD rfl rfl o_qq.flat rfl (by omega) (by omega)) (aD 13 rfl (by kernel_rfl) rfl (aK (i:=0) (gI qq ((qq.length:Int)-1)) bI rfl rfl o_qq (by omega) (by omega) rfl ?_)))
  intro w777 ch778 bx779
  clear o_qq
  refine xv 14 [13,12,11,10,9,8,7,6,5,4,3,2,1,0] rfl (aa (v:=qq_v) (i:=(qq.length:Int)-1) dD rfl rfl bx779.flat rfl (by omega) (by(simp only[List.length_set,List.length_append,List.length_cons,List.length_nil,List.length_replicate,List.length_map,List.length_take,List.length_drop];omega))) (aD 15 rfl (by kernel_rfl) rfl (aK (i:=(qq.length:Int)-1) (gI qq 0) bI rfl rfl bx779 (by omega) (by(simp only[List.length_set,List.length_append,List.length_cons,List.length_nil,List.length_replicate,List.length_map,List.length_take,List.length_drop];omega)) rfl ?_))
  intro w780 ch781 bx782
  clear bx779
  refine bc (by kernel_rfl) (bU (vs:=[]) Try.func58 .nil ?_)
  refine⟨vt [],rfl,?_⟩
  refine af (a9 (a6 rfl (mv (Value.iface 62 (vp b763 0)) (mi ((qq.length:Int)-1) (lo ?_)))))
  refine bF (σ:=(List Pt)×Bool×aG) (V:=λ⟨xj,rdn,gq⟩=>vb rdn) (S:=λ⟨xj,rdn,gq⟩ w=>b9 w0 gq w/\Sl gq (is 0) w t_v t.2.1/\Sl gq (is 0) w t_v1 t.2.2/\Bx gq (is 1) w b3 [vi t.1,t_v,t_v1]/\bN gq 3 w v24 O2_c1/\Ow gq (is 4) (is 4) w v25 Pf/\Ow gq (is 6) (is 6) w v27 Nf/\Bx gq (is 7) w b30 [W2_c1_v,v24,v25,v26,v27,vi t.1,vi (t.1+1),vi ak_c1,vi fl]/\Ow gq (is 11) (is 11) w W2_c1_v Wf/\Ow gq (is 5) (is 5) w v26 fr/\Bx gq (is 27) w b763 [qq_v]/\Ow gq (is 26) (is 26) w qq_v xj/\(xj=c8 qq)) (aU (vals:=[Value.iface 62 (vp b763 0),vi 0,vi ((qq.length:Int)-1)]) Try.func37 pK p8 rfl) ?_ ?_
  ·
   refine aC Try.func37 rfl nq (a9 (a6 rfl (ma (vb false) (af (a9 (a6 rfl (mi 0 (ai 0 (af ?_)))))))))
   refine a9 (av ?_)
   refine aX (σ:=Int×(List Pt)×aG) (λ⟨iD,xd,gq⟩ f w=>b9 w0 gq w/\f 0=Value.iface 62 (vp b763 0)/\f 1=vi 0/\f 2=vi ((qq.length:Int)-1)/\f 7=vi iD/\Sl gq (is 0) w t_v t.2.1/\Sl gq (is 0) w t_v1 t.2.2/\Bx gq (is 1) w b3 [vi t.1,t_v,t_v1]/\bN gq 3 w v24 O2_c1/\Ow gq (is 4) (is 4) w v25 Pf/\Ow gq (is 6) (is 6) w v27 Nf/\Bx gq (is 7) w b30 [W2_c1_v,v24,v25,v26,v27,vi t.1,vi (t.1+1),vi ak_c1,vi fl]/\Ow gq (is 11) (is 11) w W2_c1_v Wf/\Ow gq (is 5) (is 5) w v26 fr/\Bx gq (is 27) w b763 [qq_v]/\Ow gq (is 26) (is 26) w qq_v xd/\(eN qq xd iD)) (λ⟨iD,xd,gq⟩=>qq.length-iD.toNat) (0,(List.set (List.set qq (Int.toNat 0) (gI qq ((qq.length:Int)-1))) (Int.toNat ((qq.length:Int)-1)) (gI qq 0)),g770) ?_ ?_
   have C784:=cg [26] (ch775.n.seq ((ch778.l rfl).seq (ch781.l rfl)))
   have C783:=hb772.n.seq (hb774.n.seq C784)
   · exact⟨bH.ca C783,rfl,rfl,rfl,rfl,Rt.ca C783,r_t_v1.ca C783,bx5.ca C783,o20.ca C783,o21.ca C783,o23.ca C783,bx32.ca C783,o_W2_c1.ca C783,bx755.ca C783,bx765.ca C784,bx782,by exact eN.start (by omega)⟩
   clear Rt r_t_v1 bx5 o20 o21 o23 bx32 o_W2_c1 bx755 bx765 bx782 bH
   rintro⟨iD,xd,g787⟩ f785 w786 ⟨bH,zs0_c10,zs1_c10,zs2_c10,zs7_c10,Rt,r_t_v1,bx5,o20,o21,o23,bx32,o_W2_c1,bx755,bx765,bx782,hD⟩ back2_c10
   have hD0:=hD.i0
   have hD1:=hD.i1
   have hDl:=hD.len
   refine av (a9 (a6 rfl (mz zs7_c10 (lx (gM (m:=2) (n:=iD) rfl rfl (by omega)) (lx (aP (m:=2*iD) (n:=1) rfl rfl (by omega)) (ai ((2*iD)+1) (af (a9 (a9 ?_)))))))))
   refine a6 rfl (mi ((2*iD)+1) (mz zs2_c10 (lx (ib (m:=(2*iD)+1) (n:=(qq.length:Int)-1) rfl rfl) (mv (vb (decide (((qq.length:Int)-1)<=((2*iD)+1)))) ?_))))
   by_cases q18_c10:((qq.length:Int)-1)<=((2*iD)+1)
   ·
    refine ag (wn (dt q18_c10)) (ag (wn (dt q18_c10)) (lw (vb true) (az rfl (dt q18_c10) rfl) (af (aj rfl rfl (aM rfl (a9 (a6 rfl (mz zs7_c10 (mz zs1_c10 ?_)))))))))
    refine lx (bY (m:=iD) (n:=0) rfl rfl) (ma (vb (decide (0<iD))) (af (aF (vs:=[vb (decide (0<iD))]) Try.func37 (.tmp rfl .nil) ?_)))
    refine⟨(xd,decide (0<iD),g787),rfl,bH,Rt,r_t_v1,bx5,o20,o21,o23,bx32,o_W2_c1,bx755,bx765,bx782,?_⟩
    show xd=c8 qq
    exact hD.end1 ‹_›
   refine lv (vi ((2*iD)+1)) (wy (df q18_c10)) (ah rfl) (lv (vb (decide (((2*iD)+1)<0))) (wy (df q18_c10)) (bo (m:=(2*iD)+1) (n:=0) rfl rfl) (lw (vb (decide (((2*iD)+1)<0))) (aH rfl (df q18_c10) rfl) (af ?_)))
   by_cases p3_c10:((2*iD)+1)<0
   ·
    exact absurd p3_c10 (by omega)
   refine am rfl (df p3_c10) (au (a9 (a6 rfl (mi ((2*iD)+1) (ai ((2*iD)+1) (af (a9 (a9 (a6 rfl ?_)))))))))
   refine mi ((2*iD)+1) (lx (aP (m:=(2*iD)+1) (n:=1) rfl rfl (by omega)) (ai (((2*iD)+1)+1) (af (a9 (a6 rfl (mi (((2*iD)+1)+1) (mz zs2_c10 (lx (bo (m:=((2*iD)+1)+1) (n:=(qq.length:Int)-1) rfl rfl) (mv (vb (decide ((((2*iD)+1)+1)<((qq.length:Int)-1)))) ?_)))))))))
   by_cases q28_c10:(((2*iD)+1)+1)<((qq.length:Int)-1)
   ·
    refine lv (Value.iface 62 (vp b763 0)) (wy (dt q28_c10)) (ah zs0_c10) (lv (vi (((2*iD)+1)+1)) (wy (dt q28_c10)) (ah rfl) (lv (vi ((2*iD)+1)) (wy (dt q28_c10)) (ah rfl) (cQ (wy (dt q28_c10)) (bE (v:=vb (decide (cf (gI xd (((2*iD)+1)+1)) (gI xd ((2*iD)+1))))) (bK (T:=62) (v:=vp b763 0) (u:=qq_v) (vals:=[vi (((2*iD)+1)+1),vi ((2*iD)+1)]) rfl (λn=>bk d6 (bg ci (by rw[bx765.cell];rfl))) Try.func55 fG fp rfl) (dr w786 xd qq_v (bx782.flat).ro (((2*iD)+1)+1) ((2*iD)+1) (by omega) (by omega)) ?_))))
    intro w788 hb789
    replace hb789:=aB hb789 g787
    refine lw (vb (decide (cf (gI xd (((2*iD)+1)+1)) (gI xd ((2*iD)+1))))) (az rfl (dt q28_c10) rfl) (af ?_)
    by_cases p6_c10:(decide (cf (gI xd (((2*iD)+1)+1)) (gI xd ((2*iD)+1))))=true
    ·
     refine aj rfl p6_c10 (a6 rfl (mi (((2*iD)+1)+1) (ai (((2*iD)+1)+1) (af (a9 (a9 (a6 rfl (mz zs0_c10 (mi (((2*iD)+1)+1) ?_)))))))))
     refine mz zs7_c10 ?_
     replace bx765:=bx765.cn hb789
     replace bx782:=bx782.cn hb789
     refine lo (bE (v:=vb (decide (cf (gI xd (((2*iD)+1)+1)) (gI xd iD)))) (bK (T:=62) (v:=vp b763 0) (u:=qq_v) (vals:=[vi (((2*iD)+1)+1),vi iD]) rfl (λn=>bk d6 (bg ci (by rw[bx765.cell];rfl))) Try.func55 fG fp rfl) (dr w788 xd qq_v (bx782.flat).ro (((2*iD)+1)+1) iD (by omega) (by omega)) ?_)
     intro w790 hb791
     replace hb791:=aB hb791 g787
     refine lx (cz (b:=(decide (cf (gI xd (((2*iD)+1)+1)) (gI xd iD)))) rfl) (af ?_)
     by_cases p8_c10:(decide (cf (gI xd (((2*iD)+1)+1)) (gI xd iD)))=true
     ·
      refine am rfl (congrArg Bool.not p8_c10) (au (a9 (a6 rfl (mz zs0_c10 (mz zs7_c10 (mi (((2*iD)+1)+1) (lo ?_)))))))
      replace bx765:=bx765.cn hb791
      refine c6 (bK (T:=62) (v:=vp b763 0) (u:=qq_v) (vals:=[vi iD,vi (((2*iD)+1)+1)]) rfl (λn=>bk d5 (bg ci (by rw[bx765.cell];rfl))) Try.func58 fF fk rfl) (aC Try.func58 rfl nq ?_)
      replace bx782:=bx782.cn hb791
      refine aL g787 [0,1,2,3,4,5,6,7,8,9,10,11,12,14] cF ?_
      intro w793 ch792
      refine xp (v:=qq_v) 0 rfl (λw=>ah rfl) (xp (v:=vi iD) 1 rfl (λw=>ah rfl) (xp (v:=qq_v) 2 rfl (λw=>ah rfl) (xp (v:=vi (((2*iD)+1)+1)) 3 rfl (λw=>ah rfl) (xp (v:=qq_v) 4 rfl (λw=>ah rfl) (xp (v:=vi (((2*iD)+1)+1)) 5 rfl (λw=>ah rfl) ?_)))))
      replace bx782:=bx782.cn ch792
      refine xv 6 [5,4,3,2,1,0,8,9,10,11] rfl (aa (v:=qq_v) (i:=((2*iD)+1)+1) dD rfl rfl bx782.flat rfl (by omega) (by omega)) (xv (v:=vg [vi ((gI xd (((2*iD)+1)+1)).1),vi ((gI xd (((2*iD)+1)+1)).2)]) 7 [6,5,4,3,2,1,0,8,9,10,11] rfl (bh (v:=qq_v) (i:=((2*iD)+1)+1) bI rfl bx782.flat (by omega) (by omega) rfl) (xp (v:=qq_v) 8 rfl (λw=>ah rfl) (xp (v:=vi iD) 9 rfl (λw=>ah rfl) (xv 10 [9,8,7,6,5,4,3,2,1,0] rfl (aa (v:=qq_v) (i:=iD) dD rfl rfl bx782.flat rfl (by omega) (by omega)) ?_))))
      refine xv (v:=vg [vi ((gI xd iD).1),vi ((gI xd iD).2)]) 11 [10,9,8,7,6,5,4,3,2,1,0] rfl (bh (v:=qq_v) (i:=iD) bI rfl bx782.flat (by omega) (by omega) rfl) (xv 12 [11,10,9,8,7,6,5,4,3,2,1,0] rfl (aa (v:=qq_v) (i:=iD) dD rfl rfl bx782.flat rfl (by omega) (by omega)) (aD 13 rfl (by kernel_rfl) rfl (aK (i:=iD) (gI xd (((2*iD)+1)+1)) bI rfl rfl bx782 (by omega) (by omega) rfl ?_)))
      intro w794 ch795 bx796
      clear bx782
      refine xv 14 [13,12,11,10,9,8,7,6,5,4,3,2,1,0] rfl (aa (v:=qq_v) (i:=((2*iD)+1)+1) dD rfl rfl bx796.flat rfl (by omega) (by(simp only[List.length_set,List.length_append,List.length_cons,List.length_nil,List.length_replicate,List.length_map,List.length_take,List.length_drop];omega))) (aD 15 rfl (by kernel_rfl) rfl (aK (i:=((2*iD)+1)+1) (gI xd iD) bI rfl rfl bx796 (by omega) (by(simp only[List.length_set,List.length_append,List.length_cons,List.length_nil,List.length_replicate,List.length_map,List.length_take,List.length_drop];omega)) rfl ?_))
      intro w797 ch798 bx799
      clear bx796
      refine bc (by kernel_rfl) (bU (vs:=[]) Try.func58 .nil ?_)
      refine⟨vt [],rfl,?_⟩
      refine af (a6 rfl (mi (((2*iD)+1)+1) (ai (((2*iD)+1)+1) (af (aq ?_)))))
      have C801:=cg [26] (ch792.n.seq ((ch795.l rfl).seq (ch798.l rfl)))
      have C800:=hb789.n.seq (hb791.n.seq C801)
      refine back2_c10 (((2*iD)+1)+1,(List.set (List.set xd (Int.toNat iD) (gI xd (((2*iD)+1)+1))) (Int.toNat (((2*iD)+1)+1)) (gI xd iD)),g787) _ _ ⟨bH.ca C800,zs0_c10,zs1_c10,zs2_c10,rfl,Rt.ca C800,r_t_v1.ca C800,bx5.ca C800,o20.ca C800,o21.ca C800,o23.ca C800,bx32.ca C800,o_W2_c1.ca C800,bx755.ca C800,bx765.ca C801,bx799,?_⟩ ?_
      · show eN qq (List.set (List.set xd (Int.toNat iD) (gI xd (((2*iD)+1)+1))) (Int.toNat (((2*iD)+1)+1)) (gI xd iD)) (((2*iD)+1)+1)
        exact hD.next ‹_› (by exact kk hD0 ‹_› ‹_›) ‹_›
      · show qq.length-(((2*iD)+1)+1).toNat<qq.length-iD.toNat
        omega
     refine aj rfl (congrArg Bool.not (Bool.eq_false_iff.2 p8_c10)) (aM rfl (a9 (a6 rfl (mz zs7_c10 (mz zs1_c10 (lx (bY (m:=iD) (n:=0) rfl rfl) (ma (vb (decide (0<iD))) (af (aF (vs:=[vb (decide (0<iD))]) Try.func37 (.tmp rfl .nil) ?_)))))))))
     replace bH:=bH.cn hb789
     replace bH:=bH.cn hb791
     replace Rt:=(Rt.cn hb789).cn hb791
     replace r_t_v1:=(r_t_v1.cn hb789).cn hb791
     replace bx5:=(bx5.cn hb789).cn hb791
     replace o20:=(o20.cn hb789).cn hb791
     replace o21:=(o21.cn hb789).cn hb791
     replace o23:=(o23.cn hb789).cn hb791
     replace bx32:=(bx32.cn hb789).cn hb791
     replace o_W2_c1:=(o_W2_c1.cn hb789).cn hb791
     replace bx755:=(bx755.cn hb789).cn hb791
     replace bx765:=bx765.cn hb791
     replace bx782:=bx782.cn hb791
     refine⟨(xd,decide (0<iD),g787),rfl,bH,Rt,r_t_v1,bx5,o20,o21,o23,bx32,o_W2_c1,bx755,bx765,bx782,?_⟩
     show xd=c8 qq
     exact hD.end2 ‹_› (by exact kk hD0 ‹_› ‹_›) ‹_›
    refine am rfl (Bool.eq_false_iff.2 p6_c10) (au (a9 (a9 (a6 rfl (mz zs0_c10 (mi ((2*iD)+1) (mz zs7_c10 ?_)))))))
    replace bx765:=bx765.cn hb789
    replace bx782:=bx782.cn hb789
    refine lo (bE (v:=vb (decide (cf (gI xd ((2*iD)+1)) (gI xd iD)))) (bK (T:=62) (v:=vp b763 0) (u:=qq_v) (vals:=[vi ((2*iD)+1),vi iD]) rfl (λn=>bk d6 (bg ci (by rw[bx765.cell];rfl))) Try.func55 fG fp rfl) (dr w788 xd qq_v (bx782.flat).ro ((2*iD)+1) iD (by omega) (by omega)) ?_)
    intro w802 hb803
    replace hb803:=aB hb803 g787
    refine lx (cz (b:=(decide (cf (gI xd ((2*iD)+1)) (gI xd iD)))) rfl) (af ?_)
    by_cases p8_c10:(decide (cf (gI xd ((2*iD)+1)) (gI xd iD)))=true
    ·
     refine am rfl (congrArg Bool.not p8_c10) (au (a9 (a6 rfl (mz zs0_c10 (mz zs7_c10 (mi ((2*iD)+1) (lo ?_)))))))
     replace bx765:=bx765.cn hb803
     refine c6 (bK (T:=62) (v:=vp b763 0) (u:=qq_v) (vals:=[vi iD,vi ((2*iD)+1)]) rfl (λn=>bk d5 (bg ci (by rw[bx765.cell];rfl))) Try.func58 fF fk rfl) (aC Try.func58 rfl nq ?_)
     replace bx782:=bx782.cn hb803
     refine aL g787 [0,1,2,3,4,5,6,7,8,9,10,11,12,14] cF ?_
     intro w805 ch804
     refine xp (v:=qq_v) 0 rfl (λw=>ah rfl) (xp (v:=vi iD) 1 rfl (λw=>ah rfl) (xp (v:=qq_v) 2 rfl (λw=>ah rfl) (xp (v:=vi ((2*iD)+1)) 3 rfl (λw=>ah rfl) (xp (v:=qq_v) 4 rfl (λw=>ah rfl) (xp (v:=vi ((2*iD)+1)) 5 rfl (λw=>ah rfl) ?_)))))
     replace bx782:=bx782.cn ch804
     refine xv 6 [5,4,3,2,1,0,8,9,10,11] rfl (aa (v:=qq_v) (i:=(2*iD)+1) dD rfl rfl bx782.flat rfl (by omega) (by omega)) (xv (v:=vg [vi ((gI xd ((2*iD)+1)).1),vi ((gI xd ((2*iD)+1)).2)]) 7 [6,5,4,3,2,1,0,8,9,10,11] rfl (bh (v:=qq_v) (i:=(2*iD)+1) bI rfl bx782.flat (by omega) (by omega) rfl) (xp (v:=qq_v) 8 rfl (λw=>ah rfl) (xp (v:=vi iD) 9 rfl (λw=>ah rfl) (xv 10 [9,8,7,6,5,4,3,2,1,0] rfl (aa (v:=qq_v) (i:=iD) dD rfl rfl bx782.flat rfl (by omega) (by omega)) (xv (v:=vg [vi ((gI xd iD).1),vi ((gI xd iD).2)]) 11 [10,9,8,7,6,5,4,3,2,1,0] rfl (bh (v:=qq_v) (i:=iD) bI rfl bx782.flat (by omega) (by omega) rfl) ?_)))))
     refine xv 12 [11,10,9,8,7,6,5,4,3,2,1,0] rfl (aa (v:=qq_v) (i:=iD) dD rfl rfl bx782.flat rfl (by omega) (by omega)) (aD 13 rfl (by kernel_rfl) rfl (aK (i:=iD) (gI xd ((2*iD)+1)) bI rfl rfl bx782 (by omega) (by omega) rfl ?_))
     intro w806 ch807 bx808
     clear bx782
     refine xv 14 [13,12,11,10,9,8,7,6,5,4,3,2,1,0] rfl (aa (v:=qq_v) (i:=(2*iD)+1) dD rfl rfl bx808.flat rfl (by omega) (by(simp only[List.length_set,List.length_append,List.length_cons,List.length_nil,List.length_replicate,List.length_map,List.length_take,List.length_drop];omega))) (aD 15 rfl (by kernel_rfl) rfl (aK (i:=(2*iD)+1) (gI xd iD) bI rfl rfl bx808 (by omega) (by(simp only[List.length_set,List.length_append,List.length_cons,List.length_nil,List.length_replicate,List.length_map,List.length_take,List.length_drop];omega)) rfl ?_))
     intro w809 ch810 bx811
     clear bx808
     refine bc (by kernel_rfl) (bU (vs:=[]) Try.func58 .nil ?_)
     refine⟨vt [],rfl,?_⟩
     refine af (a6 rfl (mi ((2*iD)+1) (ai ((2*iD)+1) (af (aq ?_)))))
     have C813:=cg [26] (ch804.n.seq ((ch807.l rfl).seq (ch810.l rfl)))
     have C812:=hb789.n.seq (hb803.n.seq C813)
     refine back2_c10 ((2*iD)+1,(List.set (List.set xd (Int.toNat iD) (gI xd ((2*iD)+1))) (Int.toNat ((2*iD)+1)) (gI xd iD)),g787) _ _ ⟨bH.ca C812,zs0_c10,zs1_c10,zs2_c10,rfl,Rt.ca C812,r_t_v1.ca C812,bx5.ca C812,o20.ca C812,o21.ca C812,o23.ca C812,bx32.ca C812,o_W2_c1.ca C812,bx755.ca C812,bx765.ca C813,bx811,?_⟩ ?_
     · show eN qq (List.set (List.set xd (Int.toNat iD) (gI xd ((2*iD)+1))) (Int.toNat ((2*iD)+1)) (gI xd iD)) ((2*iD)+1)
       exact hD.next ‹_› (by exact fm hD0 (.inr ‹_›)) ‹_›
     · show qq.length-((2*iD)+1).toNat<qq.length-iD.toNat
       omega
    refine aj rfl (congrArg Bool.not (Bool.eq_false_iff.2 p8_c10)) (aM rfl (a9 (a6 rfl (mz zs7_c10 (mz zs1_c10 (lx (bY (m:=iD) (n:=0) rfl rfl) (ma (vb (decide (0<iD))) (af (aF (vs:=[vb (decide (0<iD))]) Try.func37 (.tmp rfl .nil) ?_)))))))))
    replace bH:=bH.cn hb789
    replace bH:=bH.cn hb803
    replace Rt:=(Rt.cn hb789).cn hb803
    replace r_t_v1:=(r_t_v1.cn hb789).cn hb803
    replace bx5:=(bx5.cn hb789).cn hb803
    replace o20:=(o20.cn hb789).cn hb803
    replace o21:=(o21.cn hb789).cn hb803
    replace o23:=(o23.cn hb789).cn hb803
    replace bx32:=(bx32.cn hb789).cn hb803
    replace o_W2_c1:=(o_W2_c1.cn hb789).cn hb803
    replace bx755:=(bx755.cn hb789).cn hb803
    replace bx765:=bx765.cn hb803
    replace bx782:=bx782.cn hb803
    refine⟨(xd,decide (0<iD),g787),rfl,bH,Rt,r_t_v1,bx5,o20,o21,o23,bx32,o_W2_c1,bx755,bx765,bx782,?_⟩
    show xd=c8 qq
    exact hD.end2 ‹_› (by exact fm hD0 (.inr ‹_›)) ‹_›
   refine ag (wn (df q28_c10)) (ag (wn (df q28_c10)) (ag (wn (df q28_c10)) (ag (wn (df q28_c10)) (lw (vb false) (aH rfl (df q28_c10) rfl) (af (am rfl rfl (au (a9 (a9 ?_)))))))))
   refine a6 rfl (mz zs0_c10 (mi ((2*iD)+1) (mz zs7_c10 (lo (bE (v:=vb (decide (cf (gI xd ((2*iD)+1)) (gI xd iD)))) (bK (T:=62) (v:=vp b763 0) (u:=qq_v) (vals:=[vi ((2*iD)+1),vi iD]) rfl (λn=>bk d6 (bg ci (by rw[bx765.cell];rfl))) Try.func55 fG fp rfl) (dr w786 xd qq_v (bx782.flat).ro ((2*iD)+1) iD (by omega) (by omega)) ?_)))))
   intro w814 hb815
   replace hb815:=aB hb815 g787
   refine lx (cz (b:=(decide (cf (gI xd ((2*iD)+1)) (gI xd iD)))) rfl) (af ?_)
   by_cases p8_c10:(decide (cf (gI xd ((2*iD)+1)) (gI xd iD)))=true
   ·
    refine am rfl (congrArg Bool.not p8_c10) (au (a9 (a6 rfl (mz zs0_c10 (mz zs7_c10 (mi ((2*iD)+1) (lo ?_)))))))
    replace bx765:=bx765.cn hb815
    refine c6 (bK (T:=62) (v:=vp b763 0) (u:=qq_v) (vals:=[vi iD,vi ((2*iD)+1)]) rfl (λn=>bk d5 (bg ci (by rw[bx765.cell];rfl))) Try.func58 fF fk rfl) (aC Try.func58 rfl nq ?_)
    replace bx782:=bx782.cn hb815
    refine aL g787 [0,1,2,3,4,5,6,7,8,9,10,11,12,14] cF ?_
    intro w817 ch816
    refine xp (v:=qq_v) 0 rfl (λw=>ah rfl) (xp (v:=vi iD) 1 rfl (λw=>ah rfl) (xp (v:=qq_v) 2 rfl (λw=>ah rfl) (xp (v:=vi ((2*iD)+1)) 3 rfl (λw=>ah rfl) (xp (v:=qq_v) 4 rfl (λw=>ah rfl) (xp (v:=vi ((2*iD)+1)) 5 rfl (λw=>ah rfl) ?_)))))
    replace bx782:=bx782.cn ch816
    refine xv 6 [5,4,3,2,1,0,8,9,10,11] rfl (aa (v:=qq_v) (i:=(2*iD)+1) dD rfl rfl bx782.flat rfl (by omega) (by omega)) (xv (v:=vg [vi ((gI xd ((2*iD)+1)).1),vi ((gI xd ((2*iD)+1)).2)]) 7 [6,5,4,3,2,1,0,8,9,10,11] rfl (bh (v:=qq_v) (i:=(2*iD)+1) bI rfl bx782.flat (by omega) (by omega) rfl) (xp (v:=qq_v) 8 rfl (λw=>ah rfl) (xp (v:=vi iD) 9 rfl (λw=>ah rfl) (xv 10 [9,8,7,6,5,4,3,2,1,0] rfl (aa (v:=qq_v) (i:=iD) dD rfl rfl bx782.flat rfl (by omega) (by omega)) (xv (v:=vg [vi ((gI xd iD).1),vi ((gI xd iD).2)]) 11 [10,9,8,7,6,5,4,3,2,1,0] rfl (bh (v:=qq_v) (i:=iD) bI rfl bx782.flat (by omega) (by omega) rfl) ?_)))))
    refine xv 12 [11,10,9,8,7,6,5,4,3,2,1,0] rfl (aa (v:=qq_v) (i:=iD) dD rfl rfl bx782.flat rfl (by omega) (by omega)) (aD 13 rfl (by kernel_rfl) rfl (aK (i:=iD) (gI xd ((2*iD)+1)) bI rfl rfl bx782 (by omega) (by omega) rfl ?_))
    intro w818 ch819 bx820
    clear bx782
    refine xv 14 [13,12,11,10,9,8,7,6,5,4,3,2,1,0] rfl (aa (v:=qq_v) (i:=(2*iD)+1) dD rfl rfl bx820.flat rfl (by omega) (by(simp only[List.length_set,List.length_append,List.length_cons,List.length_nil,List.length_replicate,List.length_map,List.length_take,List.length_drop];omega))) (aD 15 rfl (by kernel_rfl) rfl (aK (i:=(2*iD)+1) (gI xd iD) bI rfl rfl bx820 (by omega) (by(simp only[List.length_set,List.length_append,List.length_cons,List.length_nil,List.length_replicate,List.length_map,List.length_take,List.length_drop];omega)) rfl ?_))
    intro w821 ch822 bx823
    clear bx820
    refine bc (by kernel_rfl) (bU (vs:=[]) Try.func58 .nil ?_)
    refine⟨vt [],rfl,?_⟩
    refine af (a6 rfl (mi ((2*iD)+1) (ai ((2*iD)+1) (af (aq ?_)))))
    have C825:=cg [26] (ch816.n.seq ((ch819.l rfl).seq (ch822.l rfl)))
    have C824:=hb815.n.seq C825
    refine back2_c10 ((2*iD)+1,(List.set (List.set xd (Int.toNat iD) (gI xd ((2*iD)+1))) (Int.toNat ((2*iD)+1)) (gI xd iD)),g787) _ _ ⟨bH.ca C824,zs0_c10,zs1_c10,zs2_c10,rfl,Rt.ca C824,r_t_v1.ca C824,bx5.ca C824,o20.ca C824,o21.ca C824,o23.ca C824,bx32.ca C824,o_W2_c1.ca C824,bx755.ca C824,bx765.ca C825,bx823,?_⟩ ?_
    · show eN qq (List.set (List.set xd (Int.toNat iD) (gI xd ((2*iD)+1))) (Int.toNat ((2*iD)+1)) (gI xd iD)) ((2*iD)+1)
      exact hD.next ‹_› (by exact fm hD0 (.inl ‹_›)) ‹_›
    · show qq.length-((2*iD)+1).toNat<qq.length-iD.toNat
      omega
   refine aj rfl (congrArg Bool.not (Bool.eq_false_iff.2 p8_c10)) (aM rfl (a9 (a6 rfl (mz zs7_c10 (mz zs1_c10 (lx (bY (m:=iD) (n:=0) rfl rfl) (ma (vb (decide (0<iD))) (af (aF (vs:=[vb (decide (0<iD))]) Try.func37 (.tmp rfl .nil) ?_)))))))))
   replace bH:=bH.cn hb815
   replace Rt:=Rt.cn hb815
   replace r_t_v1:=r_t_v1.cn hb815
   replace bx5:=bx5.cn hb815
   replace o20:=o20.cn hb815
   replace o21:=o21.cn hb815
   replace o23:=o23.cn hb815
   replace bx32:=bx32.cn hb815
   replace o_W2_c1:=o_W2_c1.cn hb815
   replace bx755:=bx755.cn hb815
   replace bx765:=bx765.cn hb815
   replace bx782:=bx782.cn hb815
   refine⟨(xd,decide (0<iD),g787),rfl,bH,Rt,r_t_v1,bx5,o20,o21,o23,bx32,o_W2_c1,bx755,bx765,bx782,?_⟩
   show xd=c8 qq
   exact hD.end2 ‹_› (by exact fm hD0 (.inl ‹_›)) ‹_›
  clear Rt r_t_v1 bx5 o20 o21 o23 bx32 o_W2_c1 bx755 bx765 bx782 bH
  rintro⟨xj,rdn,g827⟩ w826 ⟨bH,Rt,r_t_v1,bx5,o20,o21,o23,bx32,o_W2_c1,bx755,bx765,bx782,hxj⟩
  have hxl:xj.length=qq.length:=by rw[hxj];exact(kE (by omega)).1
  refine af (a9 (a6 rfl (mv (Value.iface 62 (vp b763 0)) (lo (c6 (bK (T:=62) (v:=vp b763 0) (u:=vp b763 0) (vals:=[]) rfl (λn=>ea jN) Try.func56 nP pp rfl) (aC Try.func56 rfl nq (a9 (a6 rfl (ma (Value.nilIface) ?_)))))))))
  refine af (a9 (a6 rfl (mv (vp b763 0) (lw (vp b763 0) (ad rfl) (lx (a8 ci rfl bx765 rfl) ?_)))))
  have len828:=(bx782.flat).small
  refine lx (ba dD rfl bx782.flat) (lx (cV (m:=(xj.length:Int)) (n:=1) rfl rfl (by omega)) (ai ((xj.length:Int)-1) (af (a9 (a6 rfl (mv (vp b763 0) (lw (vp b763 0) (ad rfl) (lx (a8 ci rfl bx765 rfl) (mi ((xj.length:Int)-1) ?_)))))))))
  refine lx (aa (v:=qq_v) (i:=(xj.length:Int)-1) dD rfl rfl bx782.flat rfl (by omega) (by omega)) (lw (vg [vi ((gI xj ((xj.length:Int)-1)).1),vi ((gI xj ((xj.length:Int)-1)).2)]) (bh (v:=qq_v) (i:=(xj.length:Int)-1) bI rfl bx782.flat (by omega) (by omega) rfl) (lo (cd g827 (is 33) (33,0) rfl bI ?_)))
  intro g832 w829 b831 ch830 bx833
  replace bx833:Bx g832 (is 33) w829 b831 [vi 0,vi 0]:=bx833
  refine lo (aR (cs':=[vi ((gI xj ((xj.length:Int)-1)).1),vi ((gI xj ((xj.length:Int)-1)).2)]) bI rfl rfl bx833 rfl nq (AllOne.all (.cons rfl (.cons rfl .nil))) rfl ?_)
  intro w834 ch835 bx836
  clear bx833
  refine af (a9 (a6 rfl (mv (vp b763 0) (mv (vp b763 0) (lw (vp b763 0) (ad rfl) ?_)))))
  replace bx765:=(bx765.cn ch830).ce ch835
  refine lx (a8 ci rfl bx765 rfl) (mi ((xj.length:Int)-1) ?_)
  replace bx782:=(bx782.cn ch830).ce ch835
  refine lw ((bu qq_v 2 (Int.toNat 0) (Int.toNat ((xj.length:Int)-1)))) (cr (v:=qq_v) (l:=0) (h:=(xj.length:Int)-1) dD rfl rfl bx782.flat (.inr ⟨rfl,rfl⟩) (.inl (congrArg some rfl)) (by omega) (by omega) (by omega)) ?_
  have r838:=pF bx782 (show Int.toNat ((xj.length:Int)-1)<=List.length _ by omega)
  refine lw (vp b763 0) (ad rfl) (lo (bj (cs':=[(bu qq_v 2 (Int.toNat 0) (Int.toNat ((xj.length:Int)-1)))]) ci rfl rfl bx765 (bf r838.flat) nq (aZ r838.flat) rfl ?_))
  intro w839 ch840 bx841
  clear bx765
  refine af (a9 (a6 rfl ?_))
  replace bx836:=bx836.ce ch840
  refine lx (bm (ds:=[vi ((gI xj ((xj.length:Int)-1)).1),vi ((gI xj ((xj.length:Int)-1)).2)]) bI rfl bx836 rfl rfl) (lw (Value.iface 64 (vg [vi ((gI xj ((xj.length:Int)-1)).1),vi ((gI xj ((xj.length:Int)-1)).2)])) (fD iI rfl rfl) (ma (Value.iface 64 (vg [vi ((gI xj ((xj.length:Int)-1)).1),vi ((gI xj ((xj.length:Int)-1)).2)])) (af (aF (vs:=[Value.iface 64 (vg [vi ((gI xj ((xj.length:Int)-1)).1),vi ((gI xj ((xj.length:Int)-1)).2)])]) Try.func56 (.tmp rfl .nil) ?_))))
  refine⟨Value.iface 64 (vg [vi ((gI xj ((xj.length:Int)-1)).1),vi ((gI xj ((xj.length:Int)-1)).2)]),rfl,?_⟩
  refine ma (Value.iface 64 (vg [vi ((gI xj ((xj.length:Int)-1)).1),vi ((gI xj ((xj.length:Int)-1)).2)])) (af (aF (vs:=[Value.iface 64 (vg [vi ((gI xj ((xj.length:Int)-1)).1),vi ((gI xj ((xj.length:Int)-1)).2)])]) Try.func34 (.tmp rfl .nil) ?_))
  refine⟨Value.iface 64 (vg [vi ((gI xj ((xj.length:Int)-1)).1),vi ((gI xj ((xj.length:Int)-1)).2)]),rfl,?_⟩
  refine lw (vg [vi ((gI xj ((xj.length:Int)-1)).1),vi ((gI xj ((xj.length:Int)-1)).2)]) (gU iI rfl rfl) (lo (cd g832 (is 29) (29,0) rfl bI ?_))
  intro g845 w842 b844 ch843 bx846
  replace bx846:Bx g845 (is 29) w842 b844 [vi 0,vi 0]:=bx846
  refine lo (aR (cs':=[vi ((gI xj ((xj.length:Int)-1)).1),vi ((gI xj ((xj.length:Int)-1)).2)]) bI rfl rfl bx846 rfl nq (AllOne.all (.cons rfl (.cons rfl .nil))) rfl ?_)
  intro w847 ch848 bx849
  clear bx846
  refine af (a9 (a9 ?_))
  clear bx782 bx836
  obtain⟨hpj,⟨⟨hp0,hp1⟩,hp2,hp3⟩,_⟩:=hrc.a.pop (by omega) hxj
  have hrl:=hbd.sh.rl hp0 hp1
  refine bt g845 rfl cF (by kernel_rfl) ?_
  intro w851 ch850
  refine qx (λw' hw'=>a7 iI rfl rfl rfl rfl) ?_
  replace bx849:=bx849.cn ch850
  refine qx (λw' hw'=>a8 ae rfl (bx849.bel hw') rfl) (qz zs0_c7 (qv (vp b30 0) (λw' hw'=>ad rfl) (qx (λw' hw'=>a7 bB rfl rfl rfl rfl) ?_)))
  have C852:=cg [27,29,33] (ch830.n.seq ((ch835.l rfl).seq ((ch840.l rfl).seq (ch843.n.seq ((ch848.l rfl).seq ch850.n)))))
  replace bx32:=bx32.ca C852
  refine qx (λw' hw'=>a8 ao rfl (bx32.bel hw') rfl) (qx (λw' hw'=>a7 iI rfl rfl rfl rfl) (qx (λw' hw'=>a8 ae rfl (bx849.bel hw') rfl) ?_))
  replace bx755:=bx755.ca C852
  refine qx (λw' hw'=>aa (v:=v26) (i:=(gI xj ((xj.length:Int)-1)).2) aW rfl rfl (bx755.flat.bel hw') rfl (by omega) (by omega)) (qx (λw' hw'=>ay (v:=v26) (i:=(gI xj ((xj.length:Int)-1)).2) ae rfl (bx755.flat.bel hw') (by omega) (by omega) (by decide) rfl) (qx (λw' hw'=>bY (m:=(gI xj ((xj.length:Int)-1)).1) (n:=(gI fr ((gI xj ((xj.length:Int)-1)).2))) rfl rfl) (bX ?_)))
  intro w853 hc854
  replace hc854:=aB hc854 g845
  by_cases p10_c7:(gI fr ((gI xj ((xj.length:Int)-1)).2))<((gI xj ((xj.length:Int)-1)).1)
  ·
   refine aj rfl (dt p10_c7) (aM rfl ?_)
   have C855:=cg [27,29,33] (ch830.n.seq ((ch835.l rfl).seq ((ch840.l rfl).seq (ch843.n.seq ((ch848.l rfl).seq (ch850.n.seq hc854.n))))))
   have C856:=cg [29] (ch843.n.seq ((ch848.l rfl).seq (ch850.n.seq hc854.n)))
   have C857:=cg [27,29] ((ch840.l rfl).seq (ch843.n.seq ((ch848.l rfl).seq (ch850.n.seq hc854.n))))
   refine back8_c7 ((bu qq_v 2 (Int.toNat 0) (Int.toNat ((xj.length:Int)-1))),(List.take (Int.toNat ((xj.length:Int)-1)) xj),fr,g845) _ _ ⟨bH.ca C855,zs0_c7,zs4_c7,Rt.ca C855,r_t_v1.ca C855,bx5.ca C855,o20.ca C855,o21.ca C855,o23.ca C855,bx32.cn hc854,o_W2_c1.ca C855,bx755.cn hc854,bx841.ca C856,r838.ca C857,?_⟩ ?_
   · show iW (t.1+2) t.1 (1048576+(t.1+2)*1048576) Wf O2_c1 Pf (dc (t.1+2) t.1 Wf O2_c1 Pf) fr (List.take (Int.toNat ((xj.length:Int)-1)) xj)
     exact(hrc.skip hbd (by omega) hxj ‹_› (eK hxl)).1
   · show ek (fr,(List.take (Int.toNat ((xj.length:Int)-1)) xj))<ek (fr,qq)
     exact(hrc.skip hbd (by omega) hxj ‹_› (eK hxl)).2
  refine am rfl (df p10_c7) (au (a9 (bt g845 rfl cF (by kernel_rfl) ?_)))
  intro w859 ch858
  refine qz zs0_c7 (qv (vp b30 0) (λw' hw'=>ad rfl) (qx (λw' hw'=>a7 bB rfl rfl rfl rfl) ?_))
  replace bx32:=(bx32.cn hc854).cn ch858
  refine qx (λw' hw'=>a8 bv rfl (bx32.bel hw') rfl) (qx (λw' hw'=>a7 iI rfl rfl rfl rfl) ?_)
  replace bx849:=(bx849.cn hc854).cn ch858
  refine qx (λw' hw'=>a8 ae rfl (bx849.bel hw') rfl) ?_
  have C860:=cg [27,29,33] (ch830.n.seq ((ch835.l rfl).seq ((ch840.l rfl).seq (ch843.n.seq ((ch848.l rfl).seq (ch850.n.seq (hc854.n.seq ch858.n)))))))
  replace o20:=o20.ca C860
  refine qx (λw' hw'=>aa (v:=v24) (i:=(gI xj ((xj.length:Int)-1)).2) c5 rfl rfl (o20.sl.bel hw') rfl (by omega) (by omega)) ?_
  obtain⟨v861,cel862,r863⟩:=bC (r:=(gI xj ((xj.length:Int)-1)).2) o20 (by omega) (by omega)
  refine qx (λw' hw'=>bb ao rfl (bW cel862 hw')) ?_
  have len864:=(r863.row_sl).small
  refine qx (λw' hw'=>ba aW rfl (r863.row_sl.bel hw')) (qm (vi 0) (bX ?_))
  intro w865 hc866
  replace hc866:=aB hc866 g845
  refine av ?_
  refine aX (σ:=Value×(List Pt)×Nat×(List Int)×aG) (λ⟨q2_v,q2,k,fr2,gq⟩ f w=>b9 w0 gq w/\f 0=vp b30 0/\f 4=vp b763 0/\f 5=vp b844 0/\f 69=v861/\f 70=vi (List.length (gI O2_c1 ((gI xj ((xj.length:Int)-1)).2)):Int)/\f 71=vi ↑k/\Sl gq (is 0) w t_v t.2.1/\Sl gq (is 0) w t_v1 t.2.2/\Bx gq (is 1) w b3 [vi t.1,t_v,t_v1]/\bN gq 3 w v24 O2_c1/\Ow gq (is 4) (is 4) w v25 Pf/\Ow gq (is 6) (is 6) w v27 Nf/\Bx gq (is 7) w b30 [W2_c1_v,v24,v25,v26,v27,vi t.1,vi (t.1+1),vi ak_c1,vi fl]/\Ow gq (is 11) (is 11) w W2_c1_v Wf/\Ow gq (is 5) (is 5) w v26 fr2/\Bx gq (is 27) w b763 [q2_v]/\Bx gq (is 29) w b844 [vi ((gI xj ((xj.length:Int)-1)).1),vi ((gI xj ((xj.length:Int)-1)).2)]/\Ow gq (row 3 (Int.toNat ((gI xj ((xj.length:Int)-1)).2)+1)) (row 3 (Int.toNat ((gI xj ((xj.length:Int)-1)).2)+1)) w v861 (gI O2_c1 ((gI xj ((xj.length:Int)-1)).2))/\Ow gq (is 26) (is 26) w q2_v q2/\(k:Int)<=((List.length (gI O2_c1 ((gI xj ((xj.length:Int)-1)).2)):Int):Int)/\(kt (t.1+2) t.1 (1048576+(t.1+2)*1048576) Wf O2_c1 Pf (dc (t.1+2) t.1 Wf O2_c1 Pf) fr2 q2 (gI xj ((xj.length:Int)-1)) k (ek (fr,qq)))) (λ⟨q2_v,q2,k,fr2,gq⟩=>Int.toNat (((List.length (gI O2_c1 ((gI xj ((xj.length:Int)-1)).2)):Int):Int)-(k:Int))) ((bu qq_v 2 (Int.toNat 0) (Int.toNat ((xj.length:Int)-1))),(List.take (Int.toNat ((xj.length:Int)-1)) xj),0,fr,g845) ?_ ?_
  have C867:=cg [27,29,33] (ch830.n.seq ((ch835.l rfl).seq ((ch840.l rfl).seq (ch843.n.seq ((ch848.l rfl).seq (ch850.n.seq (hc854.n.seq (ch858.n.seq hc866.n))))))))
  have C868:=cg [] (hc854.n.seq (ch858.n.seq hc866.n))
  have C869:=cg [29] (ch843.n.seq ((ch848.l rfl).seq (ch850.n.seq (hc854.n.seq (ch858.n.seq hc866.n)))))
  have C870:=cg [27,29] ((ch840.l rfl).seq (ch843.n.seq ((ch848.l rfl).seq (ch850.n.seq (hc854.n.seq (ch858.n.seq hc866.n))))))
  · exact⟨bH.ca C867,zs0_c7,zs4_c7,rfl,rfl,rfl,rfl,Rt.ca C867,r_t_v1.ca C867,bx5.ca C867,o20.cn hc866,o21.ca C867,o23.ca C867,bx32.cn hc866,o_W2_c1.ca C867,bx755.ca C868,bx841.ca C869,bx849.cn hc866,r863.cn hc866,r838.ca C870,by omega,by exact hrc.take hbd (by omega) hxj ‹_› (eK hxl)⟩
  clear Rt r_t_v1 bx5 o20 o21 o23 bx32 o_W2_c1 bx755 r838 bx841 bx849 cel862 r863 bH
  rintro⟨q2_v,q2,k,fr2,g873⟩ f871 w872 ⟨bH,zs0_c7,zs4_c7,zs5_c7,zs69_c7,zs70_c7,zs71_c7,Rt,r_t_v1,bx5,o20,o21,o23,bx32,o_W2_c1,bx755,bx841,bx849,r863,o_q2,hle_k,hrv⟩ back12_c7
  have hrvl:=hrv.r.i.fl
  have hqz2:=hrv.r.i.ql2 hbd rfl (by omega)
  obtain⟨hx0,hx1⟩:=hrv.bd hbd
  refine a9 (a6 rfl (lx (bo (m:=↑k) (n:=(List.length (gI O2_c1 ((gI xj ((xj.length:Int)-1)).2)):Int)) zs71_c7 zs70_c7) (af (a9 ?_))))
  by_cases p12_c7:(k:Int)<(List.length (gI O2_c1 ((gI xj ((xj.length:Int)-1)).2)):Int)
  ·
   refine aj rfl (dt p12_c7) ?_
   have hmw_c7:=bx (xs:=gI O2_c1 (gI xj ((xj.length:Int)-1)).2) (i:=↑k) (by omega) ‹_›
   obtain⟨⟨hw0_c7,hw1_c7⟩,⟨hw2_c7,hw3_c7⟩,hw4_c7,hw5_c7⟩:=mZ hbd.sh hp0 hp1 hmw_c7
   have hpo1:=hbd.pot (by omega) hp0 hp1
   have hpo2:=hbd.pot (by omega) hw2_c7 hw3_c7
   refine au (a9 (av (a9 (a6 rfl (lx (aa (v:=v861) (i:=↑k) aW rfl zs69_c7 r863.row_sl zs71_c7 (by omega) (by omega)) (lx (ay (v:=v861) (i:=↑k) ae rfl r863.row_sl (by omega) (by omega) (by decide) rfl) (ai (gI (gI O2_c1 ((gI xj ((xj.length:Int)-1)).2)) (k:Int)) (af (a9 ?_)))))))))
   refine bt g873 rfl cF (by kernel_rfl) ?_
   intro w875 ch874
   refine qz zs0_c7 (qv (vp b30 0) (λw' hw'=>ad rfl) (qx (λw' hw'=>a7 bB rfl rfl rfl rfl) ?_))
   replace bx32:=bx32.cn ch874
   refine qx (λw' hw'=>a8 aY rfl (bx32.bel hw') rfl) (qm (vi (gI (gI O2_c1 ((gI xj ((xj.length:Int)-1)).2)) (k:Int))) ?_)
   replace o_W2_c1:=o_W2_c1.cn ch874
   refine qx (λw' hw'=>aa (v:=W2_c1_v) (i:=(gI (gI O2_c1 ((gI xj ((xj.length:Int)-1)).2)) (k:Int))) cZ rfl rfl (o_W2_c1.flat.bel hw') rfl (by omega) (by omega)) (qv (Value.pointer (some ⟨(aT W2_c1_v 3 (Int.toNat (gI (gI O2_c1 ((gI xj ((xj.length:Int)-1)).2)) (k:Int)))).block,(aT W2_c1_v 3 (Int.toNat (gI (gI O2_c1 ((gI xj ((xj.length:Int)-1)).2)) (k:Int)))).off+0,none⟩)) (λw' hw'=>aO ir rfl rfl rfl rfl) (qx (λw' hw'=>bi (v:=W2_c1_v) (i:=(gI (gI O2_c1 ((gI xj ((xj.length:Int)-1)).2)) (k:Int))) ae rfl (o_W2_c1.flat.bel hw') (by omega) (by omega) (by decide) rfl) (qx (λw' hw'=>a7 iI rfl rfl zs5_c7 rfl) ?_)))
   replace bx849:=bx849.cn ch874
   refine qx (λw' hw'=>a8 ae rfl (bx849.bel hw') rfl) (qz zs0_c7 (qx (λw' hw'=>a7 iI rfl rfl zs5_c7 rfl) (qx (λw' hw'=>a8 ae rfl (bx849.bel hw') rfl) (qm (vi (gI (gI O2_c1 ((gI xj ((xj.length:Int)-1)).2)) (k:Int))) ?_))))
   replace o21:=o21.cn ch874
   refine dJ (v:=vi ((gI Wf (gI (gI O2_c1 ((gI xj ((xj.length:Int)-1)).2)) (k:Int))).2.2+gI Pf ((gI xj ((xj.length:Int)-1)).2)-gI Pf (gI Wf (gI (gI O2_c1 ((gI xj ((xj.length:Int)-1)).2)) (k:Int))).1)) rfl (λw' hw'=>aU (vals:=[vp b30 0,vi ((gI xj ((xj.length:Int)-1)).2),vi (gI (gI O2_c1 ((gI xj ((xj.length:Int)-1)).2)) (k:Int))]) Try.func35 jp ja rfl) (λw' hw'=>(dO w' b30 W2_c1_v Wf ((o_W2_c1.flat.bel hw')).ro v24 v25 Pf ((o21.flat.bel hw')).ro v26 v27 (vi t.1) (vi (t.1+1)) (vi ak_c1) (vi fl) (jX ((bx32.bel hw'))) ((gI xj ((xj.length:Int)-1)).2) (gI (gI O2_c1 ((gI xj ((xj.length:Int)-1)).2)) (k:Int)) (by omega) (by omega) (by omega) (by omega) (by omega) (by omega)).mono λe w2 h2=>⟨h2.1,hw'.trans (h2.2.mono hw'.size)⟩) ?_
   refine qx (λw' hw'=>aP (m:=(gI xj ((xj.length:Int)-1)).1) (n:=(gI Wf (gI (gI O2_c1 ((gI xj ((xj.length:Int)-1)).2)) (k:Int))).2.2+gI Pf ((gI xj ((xj.length:Int)-1)).2)-gI Pf (gI Wf (gI (gI O2_c1 ((gI xj ((xj.length:Int)-1)).2)) (k:Int))).1) rfl rfl (by omega)) (qv (vi ((gI Wf (gI (gI O2_c1 ((gI xj ((xj.length:Int)-1)).2)) (k:Int))).1)) (λw' hw'=>bD rfl) (qv (vi (((gI xj ((xj.length:Int)-1)).1)+((gI Wf (gI (gI O2_c1 ((gI xj ((xj.length:Int)-1)).2)) (k:Int))).2.2+gI Pf ((gI xj ((xj.length:Int)-1)).2)-gI Pf (gI Wf (gI (gI O2_c1 ((gI xj ((xj.length:Int)-1)).2)) (k:Int))).1))) (λw' hw'=>bD rfl) (bX ?_)))
   intro w876 hc877
   replace hc877:=aB hc877 g873
   refine a9 (a6 rfl (mz zs0_c7 (lw (vp b30 0) (ad rfl) (lx (a7 bB rfl rfl rfl rfl) ?_))))
   replace bx32:=bx32.cn hc877
   refine lx (a8 aY rfl bx32 rfl) (mi (gI (gI O2_c1 ((gI xj ((xj.length:Int)-1)).2)) (k:Int)) ?_)
   replace o_W2_c1:=o_W2_c1.cn hc877
   refine lx (aa (v:=W2_c1_v) (i:=(gI (gI O2_c1 ((gI xj ((xj.length:Int)-1)).2)) (k:Int))) cZ rfl rfl o_W2_c1.flat rfl (by omega) (by omega)) (lw (Value.pointer (some ⟨(aT W2_c1_v 3 (Int.toNat (gI (gI O2_c1 ((gI xj ((xj.length:Int)-1)).2)) (k:Int)))).block,(aT W2_c1_v 3 (Int.toNat (gI (gI O2_c1 ((gI xj ((xj.length:Int)-1)).2)) (k:Int)))).off+1,none⟩)) (aO ir rfl rfl rfl rfl) (lx (bi (v:=W2_c1_v) (i:=(gI (gI O2_c1 ((gI xj ((xj.length:Int)-1)).2)) (k:Int))) ae rfl o_W2_c1.flat (by omega) (by omega) (by decide) rfl) (lx (bY (m:=((gI Wf (gI (gI O2_c1 ((gI xj ((xj.length:Int)-1)).2)) (k:Int))).2).1) (n:=0) rfl rfl) (mv (vb (decide (0<(((gI Wf (gI (gI O2_c1 ((gI xj ((xj.length:Int)-1)).2)) (k:Int))).2).1)))) ?_))))
   by_cases q100_c7:0<(((gI Wf (gI (gI O2_c1 ((gI xj ((xj.length:Int)-1)).2)) (k:Int))).2).1)
   ·
    refine lv (vi (((gI xj ((xj.length:Int)-1)).1)+((gI Wf (gI (gI O2_c1 ((gI xj ((xj.length:Int)-1)).2)) (k:Int))).2.2+gI Pf ((gI xj ((xj.length:Int)-1)).2)-gI Pf (gI Wf (gI (gI O2_c1 ((gI xj ((xj.length:Int)-1)).2)) (k:Int))).1))) (wy (dt q100_c7)) (ah rfl) (lv (vp b30 0) (wy (dt q100_c7)) (ah zs0_c7) (lv (vp b30 0) (wy (dt q100_c7)) (ad rfl) (lv (vp b30 3) (wy (dt q100_c7)) (a7 bB rfl rfl rfl rfl) (lv (v26) (wy (dt q100_c7)) (a8 ao rfl bx32 rfl) ?_))))
    refine lv (vi ((gI Wf (gI (gI O2_c1 ((gI xj ((xj.length:Int)-1)).2)) (k:Int))).1)) (wy (dt q100_c7)) (ah rfl) ?_
    replace bx755:=(bx755.cn ch874).cn hc877
    refine lv (Value.pointer (some (aT v26 1 (Int.toNat ((gI Wf (gI (gI O2_c1 ((gI xj ((xj.length:Int)-1)).2)) (k:Int))).1))))) (wy (dt q100_c7)) (aa (α:=Int) (xs:=fr2) (v:=v26) (i:=(gI Wf (gI (gI O2_c1 ((gI xj ((xj.length:Int)-1)).2)) (k:Int))).1) aW rfl rfl bx755.flat rfl (by omega) (by omega)) (lv (vi (gI fr2 ((gI Wf (gI (gI O2_c1 ((gI xj ((xj.length:Int)-1)).2)) (k:Int))).1))) (wy (dt q100_c7)) (ay (α:=Int) (xs:=fr2) (v:=v26) (i:=(gI Wf (gI (gI O2_c1 ((gI xj ((xj.length:Int)-1)).2)) (k:Int))).1) ae rfl bx755.flat (by omega) (by omega) (by decide) rfl) ?_)
    refine lv (vb (decide ((((gI xj ((xj.length:Int)-1)).1)+((gI Wf (gI (gI O2_c1 ((gI xj ((xj.length:Int)-1)).2)) (k:Int))).2.2+gI Pf ((gI xj ((xj.length:Int)-1)).2)-gI Pf (gI Wf (gI (gI O2_c1 ((gI xj ((xj.length:Int)-1)).2)) (k:Int))).1))<(gI fr2 ((gI Wf (gI (gI O2_c1 ((gI xj ((xj.length:Int)-1)).2)) (k:Int))).1))))) (wy (dt q100_c7)) (bo (m:=((gI xj ((xj.length:Int)-1)).1)+((gI Wf (gI (gI O2_c1 ((gI xj ((xj.length:Int)-1)).2)) (k:Int))).2.2+gI Pf ((gI xj ((xj.length:Int)-1)).2)-gI Pf (gI Wf (gI (gI O2_c1 ((gI xj ((xj.length:Int)-1)).2)) (k:Int))).1)) (n:=(gI fr2 ((gI Wf (gI (gI O2_c1 ((gI xj ((xj.length:Int)-1)).2)) (k:Int))).1))) rfl rfl) ?_
    refine lw (vb (decide ((((gI xj ((xj.length:Int)-1)).1)+((gI Wf (gI (gI O2_c1 ((gI xj ((xj.length:Int)-1)).2)) (k:Int))).2.2+gI Pf ((gI xj ((xj.length:Int)-1)).2)-gI Pf (gI Wf (gI (gI O2_c1 ((gI xj ((xj.length:Int)-1)).2)) (k:Int))).1))<(gI fr2 ((gI Wf (gI (gI O2_c1 ((gI xj ((xj.length:Int)-1)).2)) (k:Int))).1))))) (az rfl (dt q100_c7) rfl) (af ?_)
    by_cases p15_c7:(((gI xj ((xj.length:Int)-1)).1)+((gI Wf (gI (gI O2_c1 ((gI xj ((xj.length:Int)-1)).2)) (k:Int))).2.2+gI Pf ((gI xj ((xj.length:Int)-1)).2)-gI Pf (gI Wf (gI (gI O2_c1 ((gI xj ((xj.length:Int)-1)).2)) (k:Int))).1))<(gI fr2 ((gI Wf (gI (gI O2_c1 ((gI xj ((xj.length:Int)-1)).2)) (k:Int))).1))
    ·
     refine aj rfl (dt p15_c7) (a9 (a6 rfl (mz zs0_c7 (lw (vp b30 0) (ad rfl) (lx (a7 bB rfl rfl rfl rfl) (lx (a8 ao rfl bx32 rfl) (mi ((gI Wf (gI (gI O2_c1 ((gI xj ((xj.length:Int)-1)).2)) (k:Int))).1) (mi (((gI xj ((xj.length:Int)-1)).1)+((gI Wf (gI (gI O2_c1 ((gI xj ((xj.length:Int)-1)).2)) (k:Int))).2.2+gI Pf ((gI xj ((xj.length:Int)-1)).2)-gI Pf (gI Wf (gI (gI O2_c1 ((gI xj ((xj.length:Int)-1)).2)) (k:Int))).1)) (lx (aa (v:=v26) (i:=(gI Wf (gI (gI O2_c1 ((gI xj ((xj.length:Int)-1)).2)) (k:Int))).1) aW rfl rfl bx755.flat rfl (by omega) (by omega)) ?_)))))))))
     refine lo (aK (i:=(gI Wf (gI (gI O2_c1 ((gI xj ((xj.length:Int)-1)).2)) (k:Int))).1) (((gI xj ((xj.length:Int)-1)).1)+((gI Wf (gI (gI O2_c1 ((gI xj ((xj.length:Int)-1)).2)) (k:Int))).2.2+gI Pf ((gI xj ((xj.length:Int)-1)).2)-gI Pf (gI Wf (gI (gI O2_c1 ((gI xj ((xj.length:Int)-1)).2)) (k:Int))).1)) ae rfl rfl bx755 (by omega) (by omega) rfl ?_)
     intro w878 ch879 bx880
     clear bx755
     refine af (a6 rfl (mz zs4_c7 (lw (Value.iface 62 (vp b763 0)) (fD tn rfl rfl) (mi (((gI xj ((xj.length:Int)-1)).1)+((gI Wf (gI (gI O2_c1 ((gI xj ((xj.length:Int)-1)).2)) (k:Int))).2.2+gI Pf ((gI xj ((xj.length:Int)-1)).2)-gI Pf (gI Wf (gI (gI O2_c1 ((gI xj ((xj.length:Int)-1)).2)) (k:Int))).1)) (mi ((gI Wf (gI (gI O2_c1 ((gI xj ((xj.length:Int)-1)).2)) (k:Int))).1) ?_)))))
     refine lw (vg [vi (((gI xj ((xj.length:Int)-1)).1)+((gI Wf (gI (gI O2_c1 ((gI xj ((xj.length:Int)-1)).2)) (k:Int))).2.2+gI Pf ((gI xj ((xj.length:Int)-1)).2)-gI Pf (gI Wf (gI (gI O2_c1 ((gI xj ((xj.length:Int)-1)).2)) (k:Int))).1)),vi ((gI Wf (gI (gI O2_c1 ((gI xj ((xj.length:Int)-1)).2)) (k:Int))).1)]) (bp (vs:=[(0,vi (((gI xj ((xj.length:Int)-1)).1)+((gI Wf (gI (gI O2_c1 ((gI xj ((xj.length:Int)-1)).2)) (k:Int))).2.2+gI Pf ((gI xj ((xj.length:Int)-1)).2)-gI Pf (gI Wf (gI (gI O2_c1 ((gI xj ((xj.length:Int)-1)).2)) (k:Int))).1))),(1,vi ((gI Wf (gI (gI O2_c1 ((gI xj ((xj.length:Int)-1)).2)) (k:Int))).1))]) rfl (by kernel_rfl)) ?_
     refine lw (Value.iface 64 (vg [vi (((gI xj ((xj.length:Int)-1)).1)+((gI Wf (gI (gI O2_c1 ((gI xj ((xj.length:Int)-1)).2)) (k:Int))).2.2+gI Pf ((gI xj ((xj.length:Int)-1)).2)-gI Pf (gI Wf (gI (gI O2_c1 ((gI xj ((xj.length:Int)-1)).2)) (k:Int))).1)),vi ((gI Wf (gI (gI O2_c1 ((gI xj ((xj.length:Int)-1)).2)) (k:Int))).1)])) (fD iI rfl rfl) (lo ?_)
     refine c6 (aU (vals:=[Value.iface 62 (vp b763 0),Value.iface 64 (vg [vi (((gI xj ((xj.length:Int)-1)).1)+((gI Wf (gI (gI O2_c1 ((gI xj ((xj.length:Int)-1)).2)) (k:Int))).2.2+gI Pf ((gI xj ((xj.length:Int)-1)).2)-gI Pf (gI Wf (gI (gI O2_c1 ((gI xj ((xj.length:Int)-1)).2)) (k:Int))).1)),vi ((gI Wf (gI (gI O2_c1 ((gI xj ((xj.length:Int)-1)).2)) (k:Int))).1)])]) Try.func36 nQ po rfl) (aC Try.func36 rfl nq ?_)
     have C881:=cg [5] (ch874.n.seq (hc877.n.seq (ch879.l rfl)))
     replace o_q2:=o_q2.ca C881
     refine a9 (a6 rfl (mv (Value.iface 62 (vp b763 0)) (mv (Value.iface 64 (vg [vi (((gI xj ((xj.length:Int)-1)).1)+((gI Wf (gI (gI O2_c1 ((gI xj ((xj.length:Int)-1)).2)) (k:Int))).2.2+gI Pf ((gI xj ((xj.length:Int)-1)).2)-gI Pf (gI Wf (gI (gI O2_c1 ((gI xj ((xj.length:Int)-1)).2)) (k:Int))).1)),vi ((gI Wf (gI (gI O2_c1 ((gI xj ((xj.length:Int)-1)).2)) (k:Int))).1)])) (lo ?_))))
     refine c6 (bK (T:=62) (v:=vp b763 0) (u:=vp b763 0) (vals:=[Value.iface 64 (vg [vi (((gI xj ((xj.length:Int)-1)).1)+((gI Wf (gI (gI O2_c1 ((gI xj ((xj.length:Int)-1)).2)) (k:Int))).2.2+gI Pf ((gI xj ((xj.length:Int)-1)).2)-gI Pf (gI Wf (gI (gI O2_c1 ((gI xj ((xj.length:Int)-1)).2)) (k:Int))).1)),vi ((gI Wf (gI (gI O2_c1 ((gI xj ((xj.length:Int)-1)).2)) (k:Int))).1)])]) rfl (λn=>ea jw) Try.func57 pj od rfl) (aC Try.func57 rfl nq (aL g873 [0,1,2,3,4,5,8] cF ?_))
     intro w883 ch882
     refine xp (v:=vp b763 0) 0 rfl (λw=>ah rfl) (xp (v:=vp b763 0) 1 rfl (λw=>ah rfl) (xp (v:=vp b763 0) 2 rfl (λw=>ad rfl) ?_))
     have C884:=cg [5] (ch874.n.seq (hc877.n.seq ((ch879.l rfl).seq ch882.n)))
     replace bx841:=bx841.ca C884
     refine xh 3 [2,1,0,4,5,6] rfl (λw' hw'=>a8 ci rfl (bx841.bel hw') rfl) (xp (v:=Value.iface 64 (vg [vi (((gI xj ((xj.length:Int)-1)).1)+((gI Wf (gI (gI O2_c1 ((gI xj ((xj.length:Int)-1)).2)) (k:Int))).2.2+gI Pf ((gI xj ((xj.length:Int)-1)).2)-gI Pf (gI Wf (gI (gI O2_c1 ((gI xj ((xj.length:Int)-1)).2)) (k:Int))).1)),vi ((gI Wf (gI (gI O2_c1 ((gI xj ((xj.length:Int)-1)).2)) (k:Int))).1)])) 4 rfl (λw=>ah rfl) ?_)
     refine xv (v:=vg [vi (((gI xj ((xj.length:Int)-1)).1)+((gI Wf (gI (gI O2_c1 ((gI xj ((xj.length:Int)-1)).2)) (k:Int))).2.2+gI Pf ((gI xj ((xj.length:Int)-1)).2)-gI Pf (gI Wf (gI (gI O2_c1 ((gI xj ((xj.length:Int)-1)).2)) (k:Int))).1)),vi ((gI Wf (gI (gI O2_c1 ((gI xj ((xj.length:Int)-1)).2)) (k:Int))).1)]) 5 [4,3,2,1,0] rfl (gU iI rfl rfl) (aD 6 rfl (by kernel_rfl) rfl ?_)
     refine aw (α:=Pt) g873 (is 34) (is 34) (34,0) rfl ([(((gI xj ((xj.length:Int)-1)).1)+((gI Wf (gI (gI O2_c1 ((gI xj ((xj.length:Int)-1)).2)) (k:Int))).2.2+gI Pf ((gI xj ((xj.length:Int)-1)).2)-gI Pf (gI Wf (gI (gI O2_c1 ((gI xj ((xj.length:Int)-1)).2)) (k:Int))).1),(gI Wf (gI (gI O2_c1 ((gI xj ((xj.length:Int)-1)).2)) (k:Int))).1)]:List Pt) dD bI (by decide) (by decide) (vs:=[(0,vg [vi (((gI xj ((xj.length:Int)-1)).1)+((gI Wf (gI (gI O2_c1 ((gI xj ((xj.length:Int)-1)).2)) (k:Int))).2.2+gI Pf ((gI xj ((xj.length:Int)-1)).2)-gI Pf (gI Wf (gI (gI O2_c1 ((gI xj ((xj.length:Int)-1)).2)) (k:Int))).1)),vi ((gI Wf (gI (gI O2_c1 ((gI xj ((xj.length:Int)-1)).2)) (k:Int))).1)])]) rfl rfl (.cons rfl .nil) ?_
     intro g885 w886 v887 ch888 o889
     refine aD 7 rfl (by kernel_rfl) rfl ?_
     replace o_q2:=(o_q2.cn ch882).cn ch888
     refine aA (α:=Pt) (xs:=q2) (ys:=([(((gI xj ((xj.length:Int)-1)).1)+((gI Wf (gI (gI O2_c1 ((gI xj ((xj.length:Int)-1)).2)) (k:Int))).2.2+gI Pf ((gI xj ((xj.length:Int)-1)).2)-gI Pf (gI Wf (gI (gI O2_c1 ((gI xj ((xj.length:Int)-1)).2)) (k:Int))).1),(gI Wf (gI (gI O2_c1 ((gI xj ((xj.length:Int)-1)).2)) (k:Int))).1)]:List Pt)) g885 (J:=is 26) (S:=is 26) (26,0) rfl dD bI (by decide) rfl rfl rfl o_q2 o889.flat (by decide) (by(simp;omega)) ?_
     intro g890 w891 v892 ch893 o894
     clear o_q2
     refine xp (v:=vp b763 0) 8 rfl (λw=>ad rfl) (aD 9 rfl (by kernel_rfl) rfl ?_)
     replace bx841:=(bx841.cn ch888).ce ch893
     refine bj (cs':=[v892]) ci rfl rfl bx841 (bf o894.flat) nq (aZ o894.flat) rfl ?_
     intro w895 ch896 bx897
     clear bx841
     refine bc (by kernel_rfl) (bU (vs:=[]) Try.func57 .nil ?_)
     refine⟨vt [],rfl,?_⟩
     refine af ?_
     clear o889
     refine a6 rfl (mv (Value.iface 62 (vp b763 0)) (mv (Value.iface 62 (vp b763 0)) ?_))
     replace o894:=o894.ce ch896
     refine lo ?_
     refine bE (v:=vi ((q2++([(((gI xj ((xj.length:Int)-1)).1)+((gI Wf (gI (gI O2_c1 ((gI xj ((xj.length:Int)-1)).2)) (k:Int))).2.2+gI Pf ((gI xj ((xj.length:Int)-1)).2)-gI Pf (gI Wf (gI (gI O2_c1 ((gI xj ((xj.length:Int)-1)).2)) (k:Int))).1),(gI Wf (gI (gI O2_c1 ((gI xj ((xj.length:Int)-1)).2)) (k:Int))).1)]:List Pt)).length:Int)) (bK (T:=62) (v:=vp b763 0) (u:=v892) (vals:=[]) rfl (λn=>bk ga (bg ci (by rw[bx897.cell];rfl))) Try.func33 jt jd rfl) (fL w895 (q2++([(((gI xj ((xj.length:Int)-1)).1)+((gI Wf (gI (gI O2_c1 ((gI xj ((xj.length:Int)-1)).2)) (k:Int))).2.2+gI Pf ((gI xj ((xj.length:Int)-1)).2)-gI Pf (gI Wf (gI (gI O2_c1 ((gI xj ((xj.length:Int)-1)).2)) (k:Int))).1),(gI Wf (gI (gI O2_c1 ((gI xj ((xj.length:Int)-1)).2)) (k:Int))).1)]:List Pt)) v892 (o894.flat).ro) ?_
     intro w898 hb899
     replace hb899:=aB hb899 g890
     refine lx (cV (m:=((q2++([(((gI xj ((xj.length:Int)-1)).1)+((gI Wf (gI (gI O2_c1 ((gI xj ((xj.length:Int)-1)).2)) (k:Int))).2.2+gI Pf ((gI xj ((xj.length:Int)-1)).2)-gI Pf (gI Wf (gI (gI O2_c1 ((gI xj ((xj.length:Int)-1)).2)) (k:Int))).1),(gI Wf (gI (gI O2_c1 ((gI xj ((xj.length:Int)-1)).2)) (k:Int))).1)]:List Pt)).length:Int)) (n:=1) rfl rfl (by(rw[List.length_append];simp only[List.length_cons,List.length_nil];omega))) (lo ?_)
     refine bF (σ:=(List Pt)×aG) (V:=λ⟨xpU,gq⟩=>vt []) (S:=λ⟨xpU,gq⟩ w=>b9 w0 gq w/\Sl gq (is 0) w t_v t.2.1/\Sl gq (is 0) w t_v1 t.2.2/\Bx gq (is 1) w b3 [vi t.1,t_v,t_v1]/\bN gq 3 w v24 O2_c1/\Ow gq (is 4) (is 4) w v25 Pf/\Ow gq (is 6) (is 6) w v27 Nf/\Bx gq (is 7) w b30 [W2_c1_v,v24,v25,v26,v27,vi t.1,vi (t.1+1),vi ak_c1,vi fl]/\Ow gq (is 11) (is 11) w W2_c1_v Wf/\Bx gq (is 29) w b844 [vi ((gI xj ((xj.length:Int)-1)).1),vi ((gI xj ((xj.length:Int)-1)).2)]/\Ow gq (row 3 (Int.toNat ((gI xj ((xj.length:Int)-1)).2)+1)) (row 3 (Int.toNat ((gI xj ((xj.length:Int)-1)).2)+1)) w v861 (gI O2_c1 ((gI xj ((xj.length:Int)-1)).2))/\Ow gq (is 5) (is 5) w v26 (List.set fr2 (Int.toNat ((gI Wf (gI (gI O2_c1 ((gI xj ((xj.length:Int)-1)).2)) (k:Int))).1)) (((gI xj ((xj.length:Int)-1)).1)+((gI Wf (gI (gI O2_c1 ((gI xj ((xj.length:Int)-1)).2)) (k:Int))).2.2+gI Pf ((gI xj ((xj.length:Int)-1)).2)-gI Pf (gI Wf (gI (gI O2_c1 ((gI xj ((xj.length:Int)-1)).2)) (k:Int))).1)))/\Ow gq (is 26) (is 26) w v892 xpU/\Bx gq (is 27) w b763 [v892]/\(xpU=jz (q2++([(((gI xj ((xj.length:Int)-1)).1)+((gI Wf (gI (gI O2_c1 ((gI xj ((xj.length:Int)-1)).2)) (k:Int))).2.2+gI Pf ((gI xj ((xj.length:Int)-1)).2)-gI Pf (gI Wf (gI (gI O2_c1 ((gI xj ((xj.length:Int)-1)).2)) (k:Int))).1),(gI Wf (gI (gI O2_c1 ((gI xj ((xj.length:Int)-1)).2)) (k:Int))).1)]:List Pt)))) (aU (vals:=[Value.iface 62 (vp b763 0),vi (((q2++([(((gI xj ((xj.length:Int)-1)).1)+((gI Wf (gI (gI O2_c1 ((gI xj ((xj.length:Int)-1)).2)) (k:Int))).2.2+gI Pf ((gI xj ((xj.length:Int)-1)).2)-gI Pf (gI Wf (gI (gI O2_c1 ((gI xj ((xj.length:Int)-1)).2)) (k:Int))).1),(gI Wf (gI (gI O2_c1 ((gI xj ((xj.length:Int)-1)).2)) (k:Int))).1)]:List Pt)).length:Int)-1)]) Try.func38 oM nW rfl) ?_ ?_
     ·
      refine aC Try.func38 rfl nq ?_
      replace o894:=o894.cn hb899
      have hlul:(((q2++([(((gI xj ((xj.length:Int)-1)).1)+((gI Wf (gI (gI O2_c1 ((gI xj ((xj.length:Int)-1)).2)) (k:Int))).2.2+gI Pf ((gI xj ((xj.length:Int)-1)).2)-gI Pf (gI Wf (gI (gI O2_c1 ((gI xj ((xj.length:Int)-1)).2)) (k:Int))).1),(gI Wf (gI (gI O2_c1 ((gI xj ((xj.length:Int)-1)).2)) (k:Int))).1)]:List Pt))).length:Int)=q2.length+1:=by rw[List.length_append];rfl
      refine av ?_
      refine aX (σ:=Int×(List Pt)×aG) (λ⟨jU,xu,gq⟩ f w=>b9 w0 gq w/\f 0=Value.iface 62 (vp b763 0)/\f 1=vi jU/\Sl gq (is 0) w t_v t.2.1/\Sl gq (is 0) w t_v1 t.2.2/\Bx gq (is 1) w b3 [vi t.1,t_v,t_v1]/\bN gq 3 w v24 O2_c1/\Ow gq (is 4) (is 4) w v25 Pf/\Ow gq (is 6) (is 6) w v27 Nf/\Bx gq (is 7) w b30 [W2_c1_v,v24,v25,v26,v27,vi t.1,vi (t.1+1),vi ak_c1,vi fl]/\Ow gq (is 11) (is 11) w W2_c1_v Wf/\Bx gq (is 29) w b844 [vi ((gI xj ((xj.length:Int)-1)).1),vi ((gI xj ((xj.length:Int)-1)).2)]/\Ow gq (row 3 (Int.toNat ((gI xj ((xj.length:Int)-1)).2)+1)) (row 3 (Int.toNat ((gI xj ((xj.length:Int)-1)).2)+1)) w v861 (gI O2_c1 ((gI xj ((xj.length:Int)-1)).2))/\Ow gq (is 5) (is 5) w v26 (List.set fr2 (Int.toNat ((gI Wf (gI (gI O2_c1 ((gI xj ((xj.length:Int)-1)).2)) (k:Int))).1)) (((gI xj ((xj.length:Int)-1)).1)+((gI Wf (gI (gI O2_c1 ((gI xj ((xj.length:Int)-1)).2)) (k:Int))).2.2+gI Pf ((gI xj ((xj.length:Int)-1)).2)-gI Pf (gI Wf (gI (gI O2_c1 ((gI xj ((xj.length:Int)-1)).2)) (k:Int))).1)))/\Ow gq (is 26) (is 26) w v892 xu/\Bx gq (is 27) w b763 [v892]/\(gn (q2++([(((gI xj ((xj.length:Int)-1)).1)+((gI Wf (gI (gI O2_c1 ((gI xj ((xj.length:Int)-1)).2)) (k:Int))).2.2+gI Pf ((gI xj ((xj.length:Int)-1)).2)-gI Pf (gI Wf (gI (gI O2_c1 ((gI xj ((xj.length:Int)-1)).2)) (k:Int))).1),(gI Wf (gI (gI O2_c1 ((gI xj ((xj.length:Int)-1)).2)) (k:Int))).1)]:List Pt)) xu jU)) (λ⟨jU,xu,gq⟩=>jU.toNat) (((q2++([(((gI xj ((xj.length:Int)-1)).1)+((gI Wf (gI (gI O2_c1 ((gI xj ((xj.length:Int)-1)).2)) (k:Int))).2.2+gI Pf ((gI xj ((xj.length:Int)-1)).2)-gI Pf (gI Wf (gI (gI O2_c1 ((gI xj ((xj.length:Int)-1)).2)) (k:Int))).1),(gI Wf (gI (gI O2_c1 ((gI xj ((xj.length:Int)-1)).2)) (k:Int))).1)]:List Pt)).length:Int)-1,(q2++([(((gI xj ((xj.length:Int)-1)).1)+((gI Wf (gI (gI O2_c1 ((gI xj ((xj.length:Int)-1)).2)) (k:Int))).2.2+gI Pf ((gI xj ((xj.length:Int)-1)).2)-gI Pf (gI Wf (gI (gI O2_c1 ((gI xj ((xj.length:Int)-1)).2)) (k:Int))).1),(gI Wf (gI (gI O2_c1 ((gI xj ((xj.length:Int)-1)).2)) (k:Int))).1)]:List Pt)),g890) ?_ ?_
      have C902:=cg [5,26,27] ((ch879.l rfl).seq (ch882.n.seq (ch888.n.seq ((ch893.l rfl).seq ((ch896.l rfl).seq hb899.n)))))
      have C901:=hc877.n.seq C902
      have C900:=ch874.n.seq C901
      have C903:=cg [26,27] (ch882.n.seq (ch888.n.seq ((ch893.l rfl).seq ((ch896.l rfl).seq hb899.n))))
      · exact⟨bH.ca C900,rfl,rfl,Rt.ca C900,r_t_v1.ca C900,bx5.ca C900,o20.ca C900,o21.ca C901,o23.ca C900,bx32.ca C902,o_W2_c1.ca C902,bx849.ca C901,r863.chg C900 (e7 rfl) (e7 rfl),bx880.ca C903,o894,bx897.cn hb899,by exact gn.start (by rw[List.length_append];exact Int.ofNat_lt.2 (Nat.succ_pos _))⟩
      clear Rt r_t_v1 bx5 o20 o21 o23 bx32 o_W2_c1 bx849 r863 bx880 o894 bx897 bH
      rintro⟨jU,xu,g906⟩ f904 w905 ⟨bH,zs0_c17,zs1_c17,Rt,r_t_v1,bx5,o20,o21,o23,bx32,o_W2_c1,bx849,r863,bx880,o894,bx897,hU⟩ back0_c17
      have hU0:=hU.j0
      have hU1:=hU.j1
      have hUl:=hU.len
      refine av (a9 (a6 rfl (mz zs1_c17 (lx (cV (m:=jU) (n:=1) rfl rfl (by omega)) (lx (nS (m:=jU-1) (n:=2) rfl rfl (by omega) (by omega)) (ai (Int.tdiv (jU-1) 2) (af (a9 (a9 ?_)))))))))
      refine a6 rfl (mi (Int.tdiv (jU-1) 2) (mz zs1_c17 (lx (cw (m:=Int.tdiv (jU-1) 2) (n:=jU) rfl rfl) (mv (vb (decide ((Int.tdiv (jU-1) 2)=jU))) ?_))))
      by_cases q11_c17:(Int.tdiv (jU-1) 2)=jU
      ·
       refine ag (wn (dt q11_c17)) (ag (wn (dt q11_c17)) (ag (wn (dt q11_c17)) (ag (wn (dt q11_c17)) (ag (wn (dt q11_c17)) (lw (vb true) (az rfl (dt q11_c17) rfl) (af (aj rfl rfl (aM rfl (bU (vs:=[]) Try.func38 .nil ?_)))))))))
       refine⟨(xu,g906),rfl,bH,Rt,r_t_v1,bx5,o20,o21,o23,bx32,o_W2_c1,bx849,r863,bx880,o894,bx897,?_⟩
       show xu=jz (q2++([(((gI xj ((xj.length:Int)-1)).1)+((gI Wf (gI (gI O2_c1 ((gI xj ((xj.length:Int)-1)).2)) (k:Int))).2.2+gI Pf ((gI xj ((xj.length:Int)-1)).2)-gI Pf (gI Wf (gI (gI O2_c1 ((gI xj ((xj.length:Int)-1)).2)) (k:Int))).1),(gI Wf (gI (gI O2_c1 ((gI xj ((xj.length:Int)-1)).2)) (k:Int))).1)]:List Pt))
       exact hU.end1 ‹_›
      have htd_c17:=dA hU0 q11_c17
      refine lv (Value.iface 62 (vp b763 0)) (wy (df q11_c17)) (ah zs0_c17) (lv (vi jU) (wy (df q11_c17)) (ah zs1_c17) (lv (vi (Int.tdiv (jU-1) 2)) (wy (df q11_c17)) (ah rfl) (cQ (wy (df q11_c17)) (bE (v:=vb (decide (cf (gI xu jU) (gI xu (Int.tdiv (jU-1) 2))))) (bK (T:=62) (v:=vp b763 0) (u:=v892) (vals:=[vi jU,vi (Int.tdiv (jU-1) 2)]) rfl (λn=>bk d6 (bg ci (by rw[bx897.cell];rfl))) Try.func55 fG fp rfl) (dr w905 xu v892 (o894.flat).ro jU (Int.tdiv (jU-1) 2) (by omega) (by(have:=dA hU0 ‹_›;omega))) ?_))))
      intro w907 hb908
      replace hb908:=aB hb908 g906
      refine lv (vb (!(decide (cf (gI xu jU) (gI xu (Int.tdiv (jU-1) 2)))))) (wy (df q11_c17)) (cz (b:=(decide (cf (gI xu jU) (gI xu (Int.tdiv (jU-1) 2))))) rfl) (lw (vb (!(decide (cf (gI xu jU) (gI xu (Int.tdiv (jU-1) 2)))))) (aH rfl (df q11_c17) rfl) (af ?_))
      by_cases p1_c17:(decide (cf (gI xu jU) (gI xu (Int.tdiv (jU-1) 2))))=true
      ·
       refine am rfl (congrArg Bool.not p1_c17) (au (a9 (a6 rfl (mz zs0_c17 (mi (Int.tdiv (jU-1) 2) (mz zs1_c17 (lo ?_)))))))
       replace bx897:=bx897.cn hb908
       refine c6 (bK (T:=62) (v:=vp b763 0) (u:=v892) (vals:=[vi (Int.tdiv (jU-1) 2),vi jU]) rfl (λn=>bk d5 (bg ci (by rw[bx897.cell];rfl))) Try.func58 fF fk rfl) (aC Try.func58 rfl nq ?_)
       replace o894:=o894.cn hb908
       refine aL g906 [0,1,2,3,4,5,6,7,8,9,10,11,12,14] cF ?_
       intro w910 ch909
       refine xp (v:=v892) 0 rfl (λw=>ah rfl) (xp (v:=vi (Int.tdiv (jU-1) 2)) 1 rfl (λw=>ah rfl) (xp (v:=v892) 2 rfl (λw=>ah rfl) (xp (v:=vi jU) 3 rfl (λw=>ah rfl) (xp (v:=v892) 4 rfl (λw=>ah rfl) (xp (v:=vi jU) 5 rfl (λw=>ah rfl) ?_)))))
       replace o894:=o894.cn ch909
       refine xv 6 [5,4,3,2,1,0,8,9,10,11] rfl (aa (v:=v892) (i:=jU) dD rfl rfl o894.flat rfl (by omega) (by omega)) (xv (v:=vg [vi ((gI xu jU).1),vi ((gI xu jU).2)]) 7 [6,5,4,3,2,1,0,8,9,10,11] rfl (bh (v:=v892) (i:=jU) bI rfl o894.flat (by omega) (by omega) rfl) (xp (v:=v892) 8 rfl (λw=>ah rfl) (xp (v:=vi (Int.tdiv (jU-1) 2)) 9 rfl (λw=>ah rfl) (xv 10 [9,8,7,6,5,4,3,2,1,0] rfl (aa (v:=v892) (i:=Int.tdiv (jU-1) 2) dD rfl rfl o894.flat rfl (by omega) (by omega)) ?_))))
       refine xv (v:=vg [vi ((gI xu (Int.tdiv (jU-1) 2)).1),vi ((gI xu (Int.tdiv (jU-1) 2)).2)]) 11 [10,9,8,7,6,5,4,3,2,1,0] rfl (bh (v:=v892) (i:=Int.tdiv (jU-1) 2) bI rfl o894.flat (by omega) (by omega) rfl) (xv 12 [11,10,9,8,7,6,5,4,3,2,1,0] rfl (aa (v:=v892) (i:=Int.tdiv (jU-1) 2) dD rfl rfl o894.flat rfl (by omega) (by omega)) (aD 13 rfl (by kernel_rfl) rfl (aK (i:=Int.tdiv (jU-1) 2) (gI xu jU) bI rfl rfl o894 (by omega) (by omega) rfl ?_)))
       intro w911 ch912 bx913
       clear o894
       refine xv 14 [13,12,11,10,9,8,7,6,5,4,3,2,1,0] rfl (aa (v:=v892) (i:=jU) dD rfl rfl bx913.flat rfl (by omega) (by(simp only[List.length_set,List.length_append,List.length_cons,List.length_nil,List.length_replicate,List.length_map,List.length_take,List.length_drop];omega))) (aD 15 rfl (by kernel_rfl) rfl (aK (i:=jU) (gI xu (Int.tdiv (jU-1) 2)) bI rfl rfl bx913 (by omega) (by(simp only[List.length_set,List.length_append,List.length_cons,List.length_nil,List.length_replicate,List.length_map,List.length_take,List.length_drop];omega)) rfl ?_))
       intro w914 ch915 bx916
       clear bx913
       refine bc (by kernel_rfl) (bU (vs:=[]) Try.func58 .nil ?_)
       refine⟨vt [],rfl,?_⟩
       refine af (a6 rfl (mi (Int.tdiv (jU-1) 2) (ai (Int.tdiv (jU-1) 2) (af (aq ?_)))))
       have C918:=cg [26] (ch909.n.seq ((ch912.l rfl).seq (ch915.l rfl)))
       have C917:=hb908.n.seq C918
       refine back0_c17 (Int.tdiv (jU-1) 2,(List.set (List.set xu (Int.toNat (Int.tdiv (jU-1) 2)) (gI xu jU)) (Int.toNat jU) (gI xu (Int.tdiv (jU-1) 2))),g906) _ _ ⟨bH.ca C917,zs0_c17,rfl,Rt.ca C917,r_t_v1.ca C917,bx5.ca C917,o20.ca C917,o21.ca C917,o23.ca C917,bx32.ca C917,o_W2_c1.ca C917,bx849.ca C917,r863.chg C917 (e7 rfl) (e7 rfl),bx880.ca C917,bx916,bx897.ca C918,?_⟩ ?_
       · show gn (q2++([(((gI xj ((xj.length:Int)-1)).1)+((gI Wf (gI (gI O2_c1 ((gI xj ((xj.length:Int)-1)).2)) (k:Int))).2.2+gI Pf ((gI xj ((xj.length:Int)-1)).2)-gI Pf (gI Wf (gI (gI O2_c1 ((gI xj ((xj.length:Int)-1)).2)) (k:Int))).1),(gI Wf (gI (gI O2_c1 ((gI xj ((xj.length:Int)-1)).2)) (k:Int))).1)]:List Pt)) (List.set (List.set xu (Int.toNat (Int.tdiv (jU-1) 2)) (gI xu jU)) (Int.toNat jU) (gI xu (Int.tdiv (jU-1) 2))) (Int.tdiv (jU-1) 2)
         exact hU.next ‹_› ‹_›
       · show(Int.tdiv (jU-1) 2).toNat<jU.toNat
         (have:=dA hU0 ‹_›;omega)
      refine aj rfl (congrArg Bool.not (Bool.eq_false_iff.2 p1_c17)) (aM rfl (bU (vs:=[]) Try.func38 .nil ?_))
      replace bH:=bH.cn hb908
      replace Rt:=Rt.cn hb908
      replace r_t_v1:=r_t_v1.cn hb908
      replace bx5:=bx5.cn hb908
      replace o20:=o20.cn hb908
      replace o21:=o21.cn hb908
      replace o23:=o23.cn hb908
      replace bx32:=bx32.cn hb908
      replace o_W2_c1:=o_W2_c1.cn hb908
      replace bx849:=bx849.cn hb908
      replace r863:=r863.cn hb908
      replace bx880:=bx880.cn hb908
      replace o894:=o894.cn hb908
      replace bx897:=bx897.cn hb908
      refine⟨(xu,g906),rfl,bH,Rt,r_t_v1,bx5,o20,o21,o23,bx32,o_W2_c1,bx849,r863,bx880,o894,bx897,?_⟩
      show xu=jz (q2++([(((gI xj ((xj.length:Int)-1)).1)+((gI Wf (gI (gI O2_c1 ((gI xj ((xj.length:Int)-1)).2)) (k:Int))).2.2+gI Pf ((gI xj ((xj.length:Int)-1)).2)-gI Pf (gI Wf (gI (gI O2_c1 ((gI xj ((xj.length:Int)-1)).2)) (k:Int))).1),(gI Wf (gI (gI O2_c1 ((gI xj ((xj.length:Int)-1)).2)) (k:Int))).1)]:List Pt))
      exact hU.end2 ‹_› ‹_›
     clear Rt r_t_v1 bx5 o20 o21 o23 bx32 o_W2_c1 bx849 r863 bx880 o894 bx897 bH
     rintro⟨xpU,g920⟩ w919 ⟨bH,Rt,r_t_v1,bx5,o20,o21,o23,bx32,o_W2_c1,bx849,r863,bx880,o894,bx897,hxp⟩
     refine af (bU (vs:=[]) Try.func36 .nil ?_)
     refine⟨vt [],rfl,?_⟩
     refine af (aq (a6 rfl (lx (aP (m:=↑k) (n:=1) zs71_c7 rfl (by omega)) (mi ((k:Int)+1) (af ?_)))))
     refine back12_c7 (v892,xpU,k+1,(List.set fr2 (Int.toNat ((gI Wf (gI (gI O2_c1 ((gI xj ((xj.length:Int)-1)).2)) (k:Int))).1)) (((gI xj ((xj.length:Int)-1)).1)+((gI Wf (gI (gI O2_c1 ((gI xj ((xj.length:Int)-1)).2)) (k:Int))).2.2+gI Pf ((gI xj ((xj.length:Int)-1)).2)-gI Pf (gI Wf (gI (gI O2_c1 ((gI xj ((xj.length:Int)-1)).2)) (k:Int))).1))),g920) _ _ ⟨bH,zs0_c7,zs4_c7,zs5_c7,zs69_c7,zs70_c7,rfl,Rt,r_t_v1,bx5,o20,o21,o23,bx32,o_W2_c1,bx880,bx897,bx849,r863,o894,by omega,?_⟩ ?_
     · show kt (t.1+2) t.1 (1048576+(t.1+2)*1048576) Wf O2_c1 Pf (dc (t.1+2) t.1 Wf O2_c1 Pf) (List.set fr2 (Int.toNat ((gI Wf (gI (gI O2_c1 ((gI xj ((xj.length:Int)-1)).2)) (k:Int))).1)) (((gI xj ((xj.length:Int)-1)).1)+((gI Wf (gI (gI O2_c1 ((gI xj ((xj.length:Int)-1)).2)) (k:Int))).2.2+gI Pf ((gI xj ((xj.length:Int)-1)).2)-gI Pf (gI Wf (gI (gI O2_c1 ((gI xj ((xj.length:Int)-1)).2)) (k:Int))).1))) xpU (gI xj ((xj.length:Int)-1)) (k+1) (ek (fr,qq))
       exact hrv.yes hbd ‹_› ‹_› ‹_› rfl rfl (hxp.trans (lB _ _).symm)
     · show Int.toNat (((List.length (gI O2_c1 ((gI xj ((xj.length:Int)-1)).2)):Int):Int)-((k+1):Int))<Int.toNat (((List.length (gI O2_c1 ((gI xj ((xj.length:Int)-1)).2)):Int):Int)-(k:Int))
       omega
    refine am rfl (df p15_c7) (au (aq (a6 rfl (lx (aP (m:=↑k) (n:=1) zs71_c7 rfl (by omega)) (mi ((k:Int)+1) (af ?_))))))
    replace bH:=bH.cn ch874
    refine back12_c7 (q2_v,q2,k+1,fr2,g873) _ _ ⟨bH.cn hc877,zs0_c7,zs4_c7,zs5_c7,zs69_c7,zs70_c7,rfl,(Rt.cn ch874).cn hc877,(r_t_v1.cn ch874).cn hc877,(bx5.cn ch874).cn hc877,(o20.cn ch874).cn hc877,o21.cn hc877,(o23.cn ch874).cn hc877,bx32,o_W2_c1,bx755,(bx841.cn ch874).cn hc877,bx849.cn hc877,(r863.cn ch874).cn hc877,(o_q2.cn ch874).cn hc877,by omega,?_⟩ ?_
    · show kt (t.1+2) t.1 (1048576+(t.1+2)*1048576) Wf O2_c1 Pf (dc (t.1+2) t.1 Wf O2_c1 Pf) fr2 q2 (gI xj ((xj.length:Int)-1)) (k+1) (ek (fr,qq))
      exact hrv.no ‹_› (λh=>absurd h.2 ‹_›)
    · show Int.toNat (((List.length (gI O2_c1 ((gI xj ((xj.length:Int)-1)).2)):Int):Int)-((k+1):Int))<Int.toNat (((List.length (gI O2_c1 ((gI xj ((xj.length:Int)-1)).2)):Int):Int)-(k:Int))
      omega
   refine ag (wn (df q100_c7)) (ag (wn (df q100_c7)) (ag (wn (df q100_c7)) (ag (wn (df q100_c7)) (ag (wn (df q100_c7)) (ag (wn (df q100_c7)) (ag (wn (df q100_c7)) (ag (wn (df q100_c7)) (ag (wn (df q100_c7)) (lw (vb false) (aH rfl (df q100_c7) rfl) ?_)))))))))
   refine af (am rfl rfl (au (aq (a6 rfl (lx (aP (m:=↑k) (n:=1) zs71_c7 rfl (by omega)) (mi ((k:Int)+1) (af ?_)))))))
   replace bH:=bH.cn ch874
   refine back12_c7 (q2_v,q2,k+1,fr2,g873) _ _ ⟨bH.cn hc877,zs0_c7,zs4_c7,zs5_c7,zs69_c7,zs70_c7,rfl,(Rt.cn ch874).cn hc877,(r_t_v1.cn ch874).cn hc877,(bx5.cn ch874).cn hc877,(o20.cn ch874).cn hc877,o21.cn hc877,(o23.cn ch874).cn hc877,bx32,o_W2_c1,(bx755.cn ch874).cn hc877,(bx841.cn ch874).cn hc877,bx849.cn hc877,(r863.cn ch874).cn hc877,(o_q2.cn ch874).cn hc877,by omega,?_⟩ ?_
   · show kt (t.1+2) t.1 (1048576+(t.1+2)*1048576) Wf O2_c1 Pf (dc (t.1+2) t.1 Wf O2_c1 Pf) fr2 q2 (gI xj ((xj.length:Int)-1)) (k+1) (ek (fr,qq))
     exact hrv.no ‹_› (λh=>absurd h.1 ‹_›)
   · show Int.toNat (((List.length (gI O2_c1 ((gI xj ((xj.length:Int)-1)).2)):Int):Int)-((k+1):Int))<Int.toNat (((List.length (gI O2_c1 ((gI xj ((xj.length:Int)-1)).2)):Int):Int)-(k:Int))
     omega
  refine am rfl (df p12_c7) (aM rfl (aq ?_))
  refine back8_c7 (q2_v,q2,fr2,g873) _ _ ⟨bH,zs0_c7,zs4_c7,Rt,r_t_v1,bx5,o20,o21,o23,bx32,o_W2_c1,bx755,bx841,o_q2,?_⟩ ?_
  · show iW (t.1+2) t.1 (1048576+(t.1+2)*1048576) Wf O2_c1 Pf (dc (t.1+2) t.1 Wf O2_c1 Pf) fr2 q2
    exact(hrv.done (by omega)).1
  · show ek (fr2,q2)<ek (fr,qq)
    exact(hrv.done (by omega)).2
 refine am rfl (df p8_c7) (aM rfl (a9 (a9 ?_)))
 clear bx765 o_qq
 refine bt g770 rfl cF (by kernel_rfl) ?_
 intro w922 ch921
 refine qz zs0_c7 (qv (vp b30 0) (λw' hw'=>ad rfl) (qx (λw' hw'=>a7 bB rfl rfl rfl rfl) ?_))
 replace bx32:=(bx32.cn hb772).cn ch921
 refine qx (λw' hw'=>a8 ao rfl (bx32.bel hw') rfl) (qz zs0_c7 (qv (vp b30 0) (λw' hw'=>ad rfl) (qx (λw' hw'=>a7 bB rfl rfl rfl rfl) (qx (λw' hw'=>a8 ae rfl (bx32.bel hw') rfl) ?_))))
 replace bx755:=(bx755.cn hb772).cn ch921
 refine qx (λw' hw'=>aa (v:=v26) (i:=t.1+1) aW rfl rfl (bx755.flat.bel hw') rfl (by omega) (by omega)) (qx (λw' hw'=>ay (v:=v26) (i:=t.1+1) ae rfl (bx755.flat.bel hw') (by omega) (by omega) (by decide) rfl) (qx (λw' hw'=>cw (m:=(gI fr (t.1+1))) (n:=1152921504606846976) rfl rfl) (bX ?_)))
 intro w923 hc924
 replace hc924:=aB hc924 g770
 by_cases p19_c7:(gI fr (t.1+1))=1152921504606846976
 ·
  refine aj rfl (dt p19_c7) (a9 (a6 rfl (ma (vb false) (af (aF (vs:=[vb false]) Try.func30 (.tmp rfl .nil) ?_)))))
  have C925:=cg [] (hb772.n.seq (ch921.n.seq hc924.n))
  replace bH:=bH.ca C925
  replace Rt:=Rt.ca C925
  replace r_t_v1:=r_t_v1.ca C925
  replace bx5:=bx5.ca C925
  replace o20:=o20.ca C925
  replace o21:=o21.ca C925
  replace bx755:=bx755.cn hc924
  replace o23:=o23.ca C925
  replace bx32:=bx32.cn hc924
  replace o_W2_c1:=o_W2_c1.ca C925
  refine⟨(fr,Pf,false,g770),rfl,bH,Rt,r_t_v1,bx5,o20,o21,bx755,o23,bx32,o_W2_c1,?_⟩
  show nL (t.1+2) t.1 (t.1+1) Wf O2_c1 Pf false fr Pf
  exact⟨hrc.end_ (by omega),.inr ⟨rfl,by assumption,rfl⟩⟩
 refine am rfl (df p19_c7) (au (a9 (a9 (a6 rfl (mz zs0_c7 (lw (vp b30 0) (ad rfl) (lx (a7 bB rfl rfl rfl rfl) ?_)))))))
 replace bx32:=bx32.cn hc924
 refine lx (a8 ao rfl bx32 rfl) ?_
 have C926:=cg [] (hb772.n.seq (ch921.n.seq hc924.n))
 replace o21:=o21.ca C926
 have len927:=(o21.flat).small
 refine lx (ba aW rfl o21.flat) (mi 0 (af (av ?_)))
 refine aX (σ:=Nat×(List Int)×aG) (λ⟨v3,pt3,gq⟩ f w=>b9 w0 gq w/\f 0=vp b30 0/\f 141=vi (Pf.length:Int)/\f 142=vi ↑v3/\Sl gq (is 0) w t_v t.2.1/\Sl gq (is 0) w t_v1 t.2.2/\Bx gq (is 1) w b3 [vi t.1,t_v,t_v1]/\bN gq 3 w v24 O2_c1/\Ow gq (is 4) (is 4) w v25 pt3/\Ow gq (is 6) (is 6) w v27 Nf/\Bx gq (is 7) w b30 [W2_c1_v,v24,v25,v26,v27,vi t.1,vi (t.1+1),vi ak_c1,vi fl]/\Ow gq (is 11) (is 11) w W2_c1_v Wf/\Ow gq (is 5) (is 5) w v26 fr/\(v3:Int)<=((Pf.length:Int):Int)/\(me Pf fr (gI fr (t.1+1)) v3 pt3)) (λ⟨v3,pt3,gq⟩=>Int.toNat (((Pf.length:Int):Int)-(v3:Int))) (0,Pf,g770) ?_ ?_
 · exact⟨bH.ca C926,zs0_c7,rfl,rfl,Rt.ca C926,r_t_v1.ca C926,bx5.ca C926,o20.ca C926,o21,o23.ca C926,bx32,o_W2_c1.ca C926,bx755.cn hc924,by omega,by exact me.start⟩
 clear Rt r_t_v1 bx5 o20 o21 o23 bx32 o_W2_c1 bx755 bH
 rintro⟨v3,pt3,g930⟩ f928 w929 ⟨bH,zs0_c7,zs141_c7,zs142_c7,Rt,r_t_v1,bx5,o20,o21,o23,bx32,o_W2_c1,bx755,hle_v3,htu⟩ back22_c7
 have htul:=htu.ln
 refine a9 (a6 rfl (lx (bo (m:=↑v3) (n:=(Pf.length:Int)) zs142_c7 zs141_c7) (af (a9 ?_))))
 by_cases p22_c7:(v3:Int)<(Pf.length:Int)
 ·
  refine aj rfl (dt p22_c7) ?_
  have hfv1:=hrc.a.i.fb hbd (v:=(v3:Int)) (by omega) (by omega)
  have hfv2:=hrc.a.i.fb hbd (v:=t.1+1) (by omega) (by omega)
  have hpo3:=hbd.pot (by omega) (v:=(v3:Int)) (by omega) (by omega)
  have hnow:=htu.now (by omega)
  refine au (a9 (av (a9 (a6 rfl (mz zs142_c7 (ai (v3:Int) (af (aL g930 [0,1,2,3,4,5,6,7,8,9,10,11,12,13,14,15,16,17,18,19,20,21,22,23,24,25,26] cF ?_))))))))
  intro w932 ch931
  refine xp (v:=vp b30 0) 0 rfl (λw=>ah zs0_c7) (xp (v:=vp b30 0) 1 rfl (λw=>ad rfl) (xp 2 rfl (λw=>a7 bB rfl rfl rfl rfl) ?_))
  replace bx32:=bx32.cn ch931
  refine xv 3 [2,1,0,4,7,11,14,18,8,15,19,9,16,20,10,17,21,12,22,13,23,24] rfl (a8 ao rfl bx32 rfl) (xp (v:=vi ↑v3) 4 rfl (λw=>ah rfl) ?_)
  replace o21:=o21.cn ch931
  refine xv 5 [4,3,2,1,0,7,11,14,18,8,15,19,9,16,20,10,17,21,12,22,13,23,24] rfl (aa (v:=v25) (i:=↑v3) aW rfl rfl o21.flat rfl (by omega) (by omega)) (xv 6 [5,4,3,2,1,0,7,11,14,18,8,15,19,9,16,20,10,17,21,12,22,13,23,24] rfl (ay (v:=v25) (i:=↑v3) ae rfl o21.flat (by omega) (by omega) (by decide) rfl) (xp (v:=vp b30 0) 7 rfl (λw=>ah zs0_c7) (xp (v:=vp b30 0) 8 rfl (λw=>ad rfl) (xp 9 rfl (λw=>a7 bB rfl rfl rfl rfl) (xv 10 [9,8,7,6,5,4,3,2,1,0,11,14,18,15,19,16,20,17,21,22,23] rfl (a8 ao rfl bx32 rfl) (xp (v:=vi ↑v3) 11 rfl (λw=>ah rfl) ?_))))))
  replace bx755:=bx755.cn ch931
  refine xv 12 [11,10,9,8,7,6,5,4,3,2,1,0,14,18,15,19,16,20,17,21,22,23] rfl (aa (v:=v26) (i:=↑v3) aW rfl rfl bx755.flat rfl (by omega) (by omega)) (xv 13 [12,11,10,9,8,7,6,5,4,3,2,1,0,14,18,15,19,16,20,17,21,22,23] rfl (ay (v:=v26) (i:=↑v3) ae rfl bx755.flat (by omega) (by omega) (by decide) rfl) (xp (v:=vp b30 0) 14 rfl (λw=>ah zs0_c7) (xp (v:=vp b30 0) 15 rfl (λw=>ad rfl) (xp 16 rfl (λw=>a7 bB rfl rfl rfl rfl) (xv 17 [16,15,14,13,12,11,10,9,8,7,6,5,4,3,2,1,0,18,19,20,21] rfl (a8 ao rfl bx32 rfl) (xp (v:=vp b30 0) 18 rfl (λw=>ah zs0_c7) ?_))))))
  refine xp (v:=vp b30 0) 19 rfl (λw=>ad rfl) (xp 20 rfl (λw=>a7 bB rfl rfl rfl rfl) (xv 21 [20,19,18,17,16,15,14,13,12,11,10,9,8,7,6,5,4,3,2,1,0] rfl (a8 ae rfl bx32 rfl) (xv 22 [21,20,19,18,17,16,15,14,13,12,11,10,9,8,7,6,5,4,3,2,1,0] rfl (aa (v:=v26) (i:=t.1+1) aW rfl rfl bx755.flat rfl (by omega) (by omega)) (xv 23 [22,21,20,19,18,17,16,15,14,13,12,11,10,9,8,7,6,5,4,3,2,1,0] rfl (ay (v:=v26) (i:=t.1+1) ae rfl bx755.flat (by omega) (by omega) (by decide) rfl) (xp (v:=vi (min (gI fr ↑v3) (gI fr (t.1+1)))) 24 rfl (λw=>lD rfl rfl) (xp 25 rfl (λw=>aP (m:=(gI pt3 ↑v3)) (n:=min (gI fr ↑v3) (gI fr (t.1+1))) rfl rfl (by omega)) ?_))))))
  refine xv 26 [25,24,23,22,21,20,19,18,17,16,15,14,13,12,11,10,9,8,7,6,5,4,3,2,1,0] rfl (aa (v:=v25) (i:=↑v3) aW rfl rfl o21.flat rfl (by omega) (by omega)) (aD 27 rfl (by kernel_rfl) rfl (aK (i:=↑v3) ((gI pt3 ↑v3)+(min (gI fr ↑v3) (gI fr (t.1+1)))) ae rfl rfl o21 (by omega) (by omega) rfl ?_))
  intro w933 ch934 bx935
  clear o21
  refine bc (by kernel_rfl) (aq (a6 rfl (lx (aP (m:=↑v3) (n:=1) zs142_c7 rfl (by omega)) (mi ((v3:Int)+1) (af ?_)))))
  replace bH:=bH.cn ch931
  refine back22_c7 (v3+1,(List.set pt3 (Int.toNat ↑v3) ((gI pt3 ↑v3)+(min (gI fr ↑v3) (gI fr (t.1+1))))),g930) _ _ ⟨bH.ce ch934,zs0_c7,zs141_c7,rfl,(Rt.cn ch931).ce ch934,(r_t_v1.cn ch931).ce ch934,(bx5.cn ch931).ce ch934,(o20.cn ch931).ce ch934,bx935,(o23.cn ch931).ce ch934,bx32.ce ch934,(o_W2_c1.cn ch931).ce ch934,bx755.ce ch934,by omega,?_⟩ ?_
  · show me Pf fr (gI fr (t.1+1)) (v3+1) (List.set pt3 (Int.toNat ↑v3) ((gI pt3 ↑v3)+(min (gI fr ↑v3) (gI fr (t.1+1)))))
    exact htu.next (by omega) rfl
  · show Int.toNat (((Pf.length:Int):Int)-((v3+1):Int))<Int.toNat (((Pf.length:Int):Int)-(v3:Int))
    omega
 refine am rfl (df p22_c7) (aM rfl (a9 (a6 rfl (ma (vb true) (af (aF (vs:=[vb true]) Try.func30 (.tmp rfl .nil) ?_))))))
 refine⟨(fr,pt3,true,g930),rfl,bH,Rt,r_t_v1,bx5,o20,o21,bx755,o23,bx32,o_W2_c1,?_⟩
 show nL (t.1+2) t.1 (t.1+1) Wf O2_c1 Pf true fr pt3
 exact⟨hrc.end_ (by omega),.inl ⟨rfl,by assumption,htu.done (by omega)⟩⟩
end TL
