import Derived.Test.YtmaclbnodbcniaaFmTlP3
import Derived.Test.YtmaclbnodbcniaaFmTlFwA
import Derived.Test.YtmaclbnodbcniaaFmTlFwL
import Derived.Test.YtmaclbnodbcniaaFmTlFwR
import Derived.Test.YtmaclbnodbcniaaProg
import Derived.Test.YtmaclbnodbcniaaFmTlAli
set_option linter.all false
set_option maxRecDepth 20000
namespace TL
open Go Go.Proofs
theorem cD:Try.prog.follows .mixedOrders=true:=by kernel_rfl
theorem aN:Tp Try.prog 39 false 1 24 (.slice none 0 0):=Tp.of (by kernel_rfl)
theorem bG:Tp Try.prog 64 true 2 16 (.agg #[.int .i64 0,.int .i64 0]):=Tp.of (by kernel_rfl)
theorem ch:Tp Try.prog 66 false 1 24 (.slice none 0 0):=Tp.of (by kernel_rfl)
theorem gc:gH Try.prog 62 "Len" =some (33,false,66):=by kernel_rfl
theorem d9:gH Try.prog 62 "Less" =some (55,false,66):=by kernel_rfl
theorem jO:gH Try.prog 62 "Pop" =some (56,true,66):=by kernel_rfl
theorem iZ:gH Try.prog 62 "Push" =some (57,true,66):=by kernel_rfl
theorem d7:gH Try.prog 62 "Swap" =some (58,false,66):=by kernel_rfl
theorem jq:Try.f33.body.isNone=false:=rfl
theorem j9:(Try.f33.name== "runtime.NumGoroutine")=false:=by decide+kernel
theorem pr:Try.f34.body.isNone=false:=rfl
theorem nO:(Try.f34.name== "runtime.NumGoroutine")=false:=by decide+kernel
theorem jm:Try.f35.body.isNone=false:=rfl
theorem iU:(Try.f35.name== "runtime.NumGoroutine")=false:=by decide+kernel
theorem ot:Try.f36.body.isNone=false:=rfl
theorem pP:(Try.f36.name== "runtime.NumGoroutine")=false:=by decide+kernel
theorem pV:Try.f37.body.isNone=false:=rfl
theorem pd:(Try.f37.name== "runtime.NumGoroutine")=false:=by decide+kernel
theorem pT:Try.f38.body.isNone=false:=rfl
theorem ox:(Try.f38.name== "runtime.NumGoroutine")=false:=by decide+kernel
theorem fx:Try.f55.body.isNone=false:=rfl
theorem fH:(Try.f55.name== "runtime.NumGoroutine")=false:=by decide+kernel
theorem oE:Try.f56.body.isNone=false:=rfl
theorem oc:(Try.f56.name== "runtime.NumGoroutine")=false:=by decide+kernel
theorem oz:Try.f57.body.isNone=false:=rfl
theorem oe:(Try.f57.name== "runtime.NumGoroutine")=false:=by decide+kernel
theorem fA:Try.f58.body.isNone=false:=rfl
theorem fC:(Try.f58.name== "runtime.NumGoroutine")=false:=by decide+kernel
set_option maxHeartbeats 8000000 in
theorem jG{b33:Nat}{w0:World}{t_v:Value}{t:(Int)×(List ((Int)×(Int)×(Int)×(Int)))×(List Int)}{t_v1:Value}{b3:Nat}{b8:Nat}{v27:Value}{O2_c1:eZ}{v28:Value}{v29:Value}{v30:Value}{Nf:List Int}{W2_c1_v:Value}{ak_c1:Int}{fl:Int}{Wf:List bq}{Pf:List Int}{g747:aG}{w746:World}{Ff:List Int}(bH:b9 w0 g747 w746)(Rt:Sl g747 (is 0) w746 t_v t.2.1)(r_t_v1:Sl g747 (is 0) w746 t_v1 t.2.2)(bx5:Bx g747 (is 1) w746 b3 [vi t.1,t_v,t_v1])(bx10:Bx g747 (is 2) w746 b8 [vn,vn,vi 0])(o23:bN g747 4 w746 v27 O2_c1)(o24:Ow g747 (is 5) (is 5) w746 v28 Pf)(o25:Ow g747 (is 6) (is 6) w746 v29 Ff)(o26:Ow g747 (is 7) (is 7) w746 v30 Nf)(bx35:Bx g747 (is 8) w746 b33 [W2_c1_v,v27,v28,v29,v30,vi t.1,vi (t.1+1),vi ak_c1,vi fl])(o_W2_c1:Ow g747 (is 12) (is 12) w746 W2_c1_v Wf)(hm:cB t)(hN60:t.1<=60)(hbd:gk (t.1+2) t.1 ((t.1+2)*1048576) (1048576+(t.1+2)*1048576) Wf O2_c1 Pf)(hff:((Ff).length:Int)=t.1+2):
    Calls Try.prog 30 (List.toArray [vp b33 0]) w746 (λee w=>∃xx:(List Int)×(List Int)×Bool×aG,ee= .returned ((λ⟨xF,xP,rR,gq⟩=>vb rR) xx)/\(λ(⟨xF,xP,rR,gq⟩:(List Int)×(List Int)×Bool×aG) (w:World)=>b9 w0 gq w/\Sl gq (is 0) w t_v t.2.1/\Sl gq (is 0) w t_v1 t.2.2/\Bx gq (is 1) w b3 [vi t.1,t_v,t_v1]/\Bx gq (is 2) w b8 [vn,vn,vi 0]/\bN gq 4 w v27 O2_c1/\Ow gq (is 5) (is 5) w v28 xP/\Ow gq (is 6) (is 6) w v29 xF/\Ow gq (is 7) (is 7) w v30 Nf/\Bx gq (is 8) w b33 [W2_c1_v,v27,v28,v29,v30,vi t.1,vi (t.1+1),vi ak_c1,vi fl]/\Ow gq (is 12) (is 12) w W2_c1_v Wf/\(nL (t.1+2) t.1 (t.1+1) Wf O2_c1 Pf rR xF xP)) xx w):=by
 refine aC Try.func30 rfl nq ?_
 have hbp:=hbd.pt.pl
 have hm0:=hm
 obtain⟨⟨hm1,hm2⟩,hm3,hm4,hm5,hm6⟩:=hm0
 have hol:=hbd.sh.ol
 have hwl:=hbd.sh.len
 refine a9 (a6 rfl (ma (vb false) (af (a9 (a9 (a6 rfl (mv (vp b33 0) (lw (vp b33 0) (ad rfl) (lx (a7 bB rfl rfl rfl rfl) ?_)))))))))
 refine lx (a8 ao rfl bx35 rfl) ?_
 have len748:=(o25.flat).small
 refine lx (ba aW rfl o25.flat) (mi 0 (af (av ?_)))
 refine aX (σ:=Nat×(List Int)×aG) (λ⟨v0,fr0,gq⟩ f w=>b9 w0 gq w/\f 0=vp b33 0/\f 15=vi (Ff.length:Int)/\f 16=vi ↑v0/\Sl gq (is 0) w t_v t.2.1/\Sl gq (is 0) w t_v1 t.2.2/\Bx gq (is 1) w b3 [vi t.1,t_v,t_v1]/\Bx gq (is 2) w b8 [vn,vn,vi 0]/\bN gq 4 w v27 O2_c1/\Ow gq (is 5) (is 5) w v28 Pf/\Ow gq (is 6) (is 6) w v29 fr0/\Ow gq (is 7) (is 7) w v30 Nf/\Bx gq (is 8) w b33 [W2_c1_v,v27,v28,v29,v30,vi t.1,vi (t.1+1),vi ak_c1,vi fl]/\Ow gq (is 12) (is 12) w W2_c1_v Wf/\(v0:Int)<=((Ff.length:Int):Int)/\(mO (t.1+2) v0 fr0)) (λ⟨v0,fr0,gq⟩=>Int.toNat (((Ff.length:Int):Int)-(v0:Int))) (0,Ff,g747) ?_ ?_
 · exact⟨bH,rfl,rfl,rfl,Rt,r_t_v1,bx5,bx10,o23,o24,o25,o26,bx35,o_W2_c1,by omega,by exact mO.start (by omega)⟩
 clear Rt r_t_v1 bx5 bx10 o23 o24 o25 o26 bx35 o_W2_c1 bH
 rintro⟨v0,fr0,g751⟩ f749 w750 ⟨bH,zs0_c7,zs15_c7,zs16_c7,Rt,r_t_v1,bx5,bx10,o23,o24,o25,o26,bx35,o_W2_c1,hle_v0,hfa⟩ back2_c7
 have hfal:=hfa.ln
 refine a9 (a6 rfl (lx (bo (m:=↑v0) (n:=(Ff.length:Int)) zs16_c7 zs15_c7) (af (a9 ?_))))
 by_cases p2_c7:(v0:Int)<(Ff.length:Int)
 ·
  refine aj rfl (dt p2_c7) (au (a9 (av (a9 (a6 rfl (mz zs16_c7 (ai (v0:Int) (af (a6 rfl ?_)))))))))
  refine mz zs0_c7 (lw (vp b33 0) (ad rfl) (lx (a7 bB rfl rfl rfl rfl) (lx (a8 ao rfl bx35 rfl) (mi ↑v0 (lx (aa (v:=v29) (i:=↑v0) aW rfl rfl o25.flat rfl (by omega) (by omega)) (lo (aK (i:=↑v0) 1152921504606846976 ae rfl rfl o25 (by omega) (by omega) rfl ?_)))))))
  intro w752 ch753 bx754
  clear o25
  refine af (aq (a6 rfl (lx (aP (m:=↑v0) (n:=1) zs16_c7 rfl (by omega)) (mi ((v0:Int)+1) (af ?_)))))
  refine back2_c7 (v0+1,(List.set fr0 (Int.toNat ↑v0) 1152921504606846976),g751) _ _ ⟨bH.ce ch753,zs0_c7,zs15_c7,rfl,Rt.ce ch753,r_t_v1.ce ch753,bx5.ce ch753,bx10.ce ch753,o23.ce ch753,o24.ce ch753,bx754,o26.ce ch753,bx35.ce ch753,o_W2_c1.ce ch753,by omega,?_⟩ ?_
  · show mO (t.1+2) (v0+1) (List.set fr0 (Int.toNat ↑v0) 1152921504606846976)
    exact hfa.next (by omega)
  · show Int.toNat (((Ff.length:Int):Int)-((v0+1):Int))<Int.toNat (((Ff.length:Int):Int)-(v0:Int))
    omega
 refine am rfl (df p2_c7) (aM rfl (a9 (aL g751 [0,1,2,3,4,5,6,7,8] cD ?_)))
 intro w756 ch755
 refine xp (v:=vp b33 0) 0 rfl (λw=>ah zs0_c7) (xp (v:=vp b33 0) 1 rfl (λw=>ad rfl) (xp 2 rfl (λw=>a7 bB rfl rfl rfl rfl) ?_))
 replace bx35:=bx35.cn ch755
 refine xv 3 [2,1,0,4,5,6,7] rfl (a8 ao rfl bx35 rfl) (xp (v:=vp b33 0) 4 rfl (λw=>ah zs0_c7) (xp (v:=vp b33 0) 5 rfl (λw=>ad rfl) (xp 6 rfl (λw=>a7 bB rfl rfl rfl rfl) (xv 7 [6,5,4,3,2,1,0] rfl (a8 ae rfl bx35 rfl) ?_))))
 replace o25:=o25.cn ch755
 refine xv 8 [7,6,5,4,3,2,1,0] rfl (aa (v:=v29) (i:=t.1) aW rfl rfl o25.flat rfl (by omega) (by omega)) (aD 9 rfl (by kernel_rfl) rfl (aK (i:=t.1) 0 ae rfl rfl o25 (by omega) (by omega) rfl ?_))
 intro w757 ch758 bx759
 clear o25
 refine bc (by kernel_rfl) (a9 (a9 (a6 rfl (mz zs0_c7 (lw (vp b33 0) (ad rfl) (lx (a7 bB rfl rfl rfl rfl) ?_))))))
 replace bx35:=bx35.ce ch758
 refine lx (a8 ae rfl bx35 rfl) (lw (vg [vi 0,vi t.1]) (bp (vs:=[(0,vi 0),(1,vi t.1)]) rfl (by kernel_rfl)) (lo (aw (α:=Pt) g751 (is 27) (is 27) (27,0) rfl ([(0,t.1)]:List Pt) dD bG (by decide) (by decide) (vs:=[(0,vg [vi 0,vi t.1])]) rfl rfl (.cons rfl .nil) ?_)))
 intro g760 w761 v762 ch763 o764
 refine lo ?_
 have hc770:=bf o764.flat
 refine d4 (v:=v762) g760 (is 28) (28,0) rfl rfl ?_
 intro g768 w765 b767 ch766 bx769
 rw[hc770] at bx769
 replace bx769:Bx g768 (is 28) w765 b767 [v762]:=bx769
 refine ma (vp b767 0) (af (av ?_))
 refine aX (σ:=Value×(List Pt)×(List Int)×aG) (λ⟨qq_v,qq,fr,gq⟩ f w=>b9 w0 gq w/\f 0=vp b33 0/\f 4=vp b767 0/\Sl gq (is 0) w t_v t.2.1/\Sl gq (is 0) w t_v1 t.2.2/\Bx gq (is 1) w b3 [vi t.1,t_v,t_v1]/\Bx gq (is 2) w b8 [vn,vn,vi 0]/\bN gq 4 w v27 O2_c1/\Ow gq (is 5) (is 5) w v28 Pf/\Ow gq (is 7) (is 7) w v30 Nf/\Bx gq (is 8) w b33 [W2_c1_v,v27,v28,v29,v30,vi t.1,vi (t.1+1),vi ak_c1,vi fl]/\Ow gq (is 12) (is 12) w W2_c1_v Wf/\Ow gq (is 6) (is 6) w v29 fr/\Bx gq (is 28) w b767 [qq_v]/\Ow gq (is 27) (is 27) w qq_v qq/\(iW (t.1+2) t.1 (1048576+(t.1+2)*1048576) Wf O2_c1 Pf (dc (t.1+2) t.1 Wf O2_c1 Pf) fr qq)) (λ⟨qq_v,qq,fr,gq⟩=>ek (fr,qq)) (v762,([(0,t.1)]:List Pt),(List.set fr0 (Int.toNat t.1) 0),g768) ?_ ?_
 have C771:=cg [6] (ch755.n.seq ((ch758.l rfl).seq (ch763.n.seq ch766.n)))
 · exact⟨bH.ca C771,zs0_c7,rfl,Rt.ca C771,r_t_v1.ca C771,bx5.ca C771,bx10.ca C771,o23.ca C771,o24.ca C771,o26.ca C771,(bx35.cn ch763).cn ch766,o_W2_c1.ca C771,(bx759.cn ch763).cn ch766,bx769,o764.cn ch766,by exact rN hbd hfa (by omega) (by omega)⟩
 clear Rt r_t_v1 bx5 bx10 o23 o24 o26 bx35 o_W2_c1 bx759 o764 bx769 bH
 rintro⟨qq_v,qq,fr,g774⟩ f772 w773 ⟨bH,zs0_c7,zs4_c7,Rt,r_t_v1,bx5,bx10,o23,o24,o26,bx35,o_W2_c1,bx759,bx769,o_qq,hrc⟩ back8_c7
 have hrcl:=hrc.a.i.fl
 have hqz:=hrc.a.i.ql2 hbd rfl (by omega)
 refine a9 (a9 (a6 rfl (mz zs4_c7 (lw (vp b767 0) (ad rfl) (lx (a8 ch rfl bx769 rfl) (lo (bE (v:=vi (qq.length:Int)) (aU (vals:=[qq_v]) Try.func33 jq j9 rfl) (fL w773 qq qq_v (o_qq.flat).ro) ?_)))))))
 intro w775 hb776
 replace hb776:=aB hb776 g774
 refine lx (bY (m:=(qq.length:Int)) (n:=0) rfl rfl) (af ?_)
 by_cases p8_c7:0<(qq.length:Int)
 ·
  refine aj rfl (dt p8_c7) (au (av (a9 (a6 rfl (mz zs4_c7 (lw (Value.iface 62 (vp b767 0)) (fD tn rfl rfl) (lo (c6 (aU (vals:=[Value.iface 62 (vp b767 0)]) Try.func34 pr nO rfl) (aC Try.func34 rfl nq ?_)))))))))
  replace o_qq:=o_qq.cn hb776
  refine a9 (a6 rfl (ma (Value.nilIface) (af (a9 (a6 rfl (mv (Value.iface 62 (vp b767 0)) ?_))))))
  replace bx769:=bx769.cn hb776
  refine lo (bE (v:=vi (qq.length:Int)) (bK (T:=62) (v:=vp b767 0) (u:=qq_v) (vals:=[]) rfl (λn=>bk gc (bg ch (by rw[bx769.cell];rfl))) Try.func33 jq j9 rfl) (fL w775 qq qq_v (o_qq.flat).ro) ?_)
  intro w777 hb778
  replace hb778:=aB hb778 g774
  refine lx (cV (m:=(qq.length:Int)) (n:=1) rfl rfl (by omega)) (ai ((qq.length:Int)-1) (af (a9 (a6 rfl (mv (Value.iface 62 (vp b767 0)) (mi ((qq.length:Int)-1) (lo ?_)))))))
  replace bx769:=bx769.cn hb778
  refine c6 (bK (T:=62) (v:=vp b767 0) (u:=qq_v) (vals:=[vi 0,vi ((qq.length:Int)-1)]) rfl (λn=>bk d7 (bg ch (by rw[bx769.cell];rfl))) Try.func58 fA fC rfl) (aC Try.func58 rfl nq ?_)
  replace o_qq:=o_qq.cn hb778
  refine aL g774 [0,1,2,3,4,5,6,7,8,9,10,11,12,14] cD ?_
  intro w780 ch779
  refine xp (v:=qq_v) 0 rfl (λw=>ah rfl) (xp (v:=vi 0) 1 rfl (λw=>ah rfl) (xp (v:=qq_v) 2 rfl (λw=>ah rfl) (xp (v:=vi ((qq.length:Int)-1)) 3 rfl (λw=>ah rfl) (xp (v:=qq_v) 4 rfl (λw=>ah rfl) (xp (v:=vi ((qq.length:Int)-1)) 5 rfl (λw=>ah rfl) ?_)))))
  replace o_qq:=o_qq.cn ch779
  refine xv 6 [5,4,3,2,1,0,8,9,10,11] rfl (aa (v:=qq_v) (i:=(qq.length:Int)-1) dD rfl rfl o_qq.flat rfl (by omega) (by omega)) (xv (v:=vg [vi ((gI qq ((qq.length:Int)-1)).1),vi ((gI qq ((qq.length:Int)-1)).2)]) 7 [6,5,4,3,2,1,0,8,9,10,11] rfl (bh (v:=qq_v) (i:=(qq.length:Int)-1) bG rfl o_qq.flat (by omega) (by omega) rfl) (xp (v:=qq_v) 8 rfl (λw=>ah rfl) (xp (v:=vi 0) 9 rfl (λw=>ah rfl) (xv 10 [9,8,7,6,5,4,3,2,1,0] rfl (aa (v:=qq_v) (i:=0) dD rfl rfl o_qq.flat rfl (by omega) (by omega)) ?_))))
  refine xv (v:=vg [vi ((gI qq 0).1),vi ((gI qq 0).2)]) 11 [10,9,8,7,6,5,4,3,2,1,0] rfl (bh (v:=qq_v) (i:=0) bG rfl o_qq.flat (by omega) (by omega) rfl) (xv 12 [11,10,9,8,7,6,5,4,3,2,1,0] rfl (aa (v:=qq_v) (i:=0) dD rfl rfl o_qq.flat rfl (by omega) (by omega)) (aD 13 rfl (by kernel_rfl) rfl (aK (i:=0) (gI qq ((qq.length:Int)-1)) bG rfl rfl o_qq (by omega) (by omega) rfl ?_)))
  intro w781 ch782 bx783
  clear o_qq
  refine xv 14 [13,12,11,10,9,8,7,6,5,4,3,2,1,0] rfl (aa (v:=qq_v) (i:=(qq.length:Int)-1) dD rfl rfl bx783.flat rfl (by omega) (by(simp only[List.length_set,List.length_append,List.length_cons,List.length_nil,List.length_replicate,List.length_map,List.length_take,List.length_drop];omega))) (aD 15 rfl (by kernel_rfl) rfl (aK (i:=(qq.length:Int)-1) (gI qq 0) bG rfl rfl bx783 (by omega) (by(simp only[List.length_set,List.length_append,List.length_cons,List.length_nil,List.length_replicate,List.length_map,List.length_take,List.length_drop];omega)) rfl ?_))
  intro w784 ch785 bx786
  clear bx783
  refine bc (by kernel_rfl) (bU (vs:=[]) Try.func58 .nil ?_)
  refine⟨vt [],rfl,?_⟩
  refine af (a9 (a6 rfl (mv (Value.iface 62 (vp b767 0)) (mi ((qq.length:Int)-1) (lo ?_)))))
  refine bF (σ:=(List Pt)×Bool×aG) (V:=λ⟨xj,rdn,gq⟩=>vb rdn) (S:=λ⟨xj,rdn,gq⟩ w=>b9 w0 gq w/\Sl gq (is 0) w t_v t.2.1/\Sl gq (is 0) w t_v1 t.2.2/\Bx gq (is 1) w b3 [vi t.1,t_v,t_v1]/\Bx gq (is 2) w b8 [vn,vn,vi 0]/\bN gq 4 w v27 O2_c1/\Ow gq (is 5) (is 5) w v28 Pf/\Ow gq (is 7) (is 7) w v30 Nf/\Bx gq (is 8) w b33 [W2_c1_v,v27,v28,v29,v30,vi t.1,vi (t.1+1),vi ak_c1,vi fl]/\Ow gq (is 12) (is 12) w W2_c1_v Wf/\Ow gq (is 6) (is 6) w v29 fr/\Bx gq (is 28) w b767 [qq_v]/\Ow gq (is 27) (is 27) w qq_v xj/\(xj=c8 qq)) (aU (vals:=[Value.iface 62 (vp b767 0),vi 0,vi ((qq.length:Int)-1)]) Try.func37 pV pd rfl) ?_ ?_
  ·
   refine aC Try.func37 rfl nq (a9 (a6 rfl (ma (vb false) (af (a9 (a6 rfl (mi 0 (ai 0 (af ?_)))))))))
   refine a9 (av ?_)
   refine aX (σ:=Int×(List Pt)×aG) (λ⟨iD,xd,gq⟩ f w=>b9 w0 gq w/\f 0=Value.iface 62 (vp b767 0)/\f 1=vi 0/\f 2=vi ((qq.length:Int)-1)/\f 7=vi iD/\Sl gq (is 0) w t_v t.2.1/\Sl gq (is 0) w t_v1 t.2.2/\Bx gq (is 1) w b3 [vi t.1,t_v,t_v1]/\Bx gq (is 2) w b8 [vn,vn,vi 0]/\bN gq 4 w v27 O2_c1/\Ow gq (is 5) (is 5) w v28 Pf/\Ow gq (is 7) (is 7) w v30 Nf/\Bx gq (is 8) w b33 [W2_c1_v,v27,v28,v29,v30,vi t.1,vi (t.1+1),vi ak_c1,vi fl]/\Ow gq (is 12) (is 12) w W2_c1_v Wf/\Ow gq (is 6) (is 6) w v29 fr/\Bx gq (is 28) w b767 [qq_v]/\Ow gq (is 27) (is 27) w qq_v xd/\(eN qq xd iD)) (λ⟨iD,xd,gq⟩=>qq.length-iD.toNat) (0,(List.set (List.set qq (Int.toNat 0) (gI qq ((qq.length:Int)-1))) (Int.toNat ((qq.length:Int)-1)) (gI qq 0)),g774) ?_ ?_
   have C788:=cg [27] (ch779.n.seq ((ch782.l rfl).seq (ch785.l rfl)))
   have C787:=hb776.n.seq (hb778.n.seq C788)
   · exact⟨bH.ca C787,rfl,rfl,rfl,rfl,Rt.ca C787,r_t_v1.ca C787,bx5.ca C787,bx10.ca C787,o23.ca C787,o24.ca C787,o26.ca C787,bx35.ca C787,o_W2_c1.ca C787,bx759.ca C787,bx769.ca C788,bx786,by exact eN.start (by omega)⟩
   clear Rt r_t_v1 bx5 bx10 o23 o24 o26 bx35 o_W2_c1 bx759 bx769 bx786 bH
   rintro⟨iD,xd,g791⟩ f789 w790 ⟨bH,zs0_c10,zs1_c10,zs2_c10,zs7_c10,Rt,r_t_v1,bx5,bx10,o23,o24,o26,bx35,o_W2_c1,bx759,bx769,bx786,hD⟩ back2_c10
   have hD0:=hD.i0
   have hD1:=hD.i1
   have hDl:=hD.len
   refine av (a9 (a6 rfl (mz zs7_c10 (lx (gM (m:=2) (n:=iD) rfl rfl (by omega)) (lx (aP (m:=2*iD) (n:=1) rfl rfl (by omega)) (ai ((2*iD)+1) (af (a9 (a9 ?_)))))))))
   refine a6 rfl (mi ((2*iD)+1) (mz zs2_c10 (lx (ib (m:=(2*iD)+1) (n:=(qq.length:Int)-1) rfl rfl) (mv (vb (decide (((qq.length:Int)-1)<=((2*iD)+1)))) ?_))))
   by_cases q18_c10:((qq.length:Int)-1)<=((2*iD)+1)
   ·
    refine ag (wn (dt q18_c10)) (ag (wn (dt q18_c10)) (lw (vb true) (az rfl (dt q18_c10) rfl) (af (aj rfl rfl (aM rfl (a9 (a6 rfl (mz zs7_c10 (mz zs1_c10 ?_)))))))))
    refine lx (bY (m:=iD) (n:=0) rfl rfl) (ma (vb (decide (0<iD))) (af (aF (vs:=[vb (decide (0<iD))]) Try.func37 (.tmp rfl .nil) ?_)))
    refine⟨(xd,decide (0<iD),g791),rfl,bH,Rt,r_t_v1,bx5,bx10,o23,o24,o26,bx35,o_W2_c1,bx759,bx769,bx786,?_⟩
    show xd=c8 qq
    exact hD.end1 ‹_›
   refine lv (vi ((2*iD)+1)) (wy (df q18_c10)) (ah rfl) (lv (vb (decide (((2*iD)+1)<0))) (wy (df q18_c10)) (bo (m:=(2*iD)+1) (n:=0) rfl rfl) (lw (vb (decide (((2*iD)+1)<0))) (aH rfl (df q18_c10) rfl) (af ?_)))
   by_cases p3_c10:((2*iD)+1)<0
   ·
    exact absurd p3_c10 (by omega)
   refine am rfl (df p3_c10) (au (a9 (a6 rfl (mi ((2*iD)+1) (ai ((2*iD)+1) (af (a9 (a9 (a6 rfl ?_)))))))))
   refine mi ((2*iD)+1) (lx (aP (m:=(2*iD)+1) (n:=1) rfl rfl (by omega)) (ai (((2*iD)+1)+1) (af (a9 (a6 rfl (mi (((2*iD)+1)+1) (mz zs2_c10 (lx (bo (m:=((2*iD)+1)+1) (n:=(qq.length:Int)-1) rfl rfl) (mv (vb (decide ((((2*iD)+1)+1)<((qq.length:Int)-1)))) ?_)))))))))
   by_cases q28_c10:(((2*iD)+1)+1)<((qq.length:Int)-1)
   ·
    refine lv (Value.iface 62 (vp b767 0)) (wy (dt q28_c10)) (ah zs0_c10) (lv (vi (((2*iD)+1)+1)) (wy (dt q28_c10)) (ah rfl) (lv (vi ((2*iD)+1)) (wy (dt q28_c10)) (ah rfl) (cQ (wy (dt q28_c10)) (bE (v:=vb (decide (cf (gI xd (((2*iD)+1)+1)) (gI xd ((2*iD)+1))))) (bK (T:=62) (v:=vp b767 0) (u:=qq_v) (vals:=[vi (((2*iD)+1)+1),vi ((2*iD)+1)]) rfl (λn=>bk d9 (bg ch (by rw[bx769.cell];rfl))) Try.func55 fx fH rfl) (dr w790 xd qq_v (bx786.flat).ro (((2*iD)+1)+1) ((2*iD)+1) (by omega) (by omega)) ?_))))
    intro w792 hb793
    replace hb793:=aB hb793 g791
    refine lw (vb (decide (cf (gI xd (((2*iD)+1)+1)) (gI xd ((2*iD)+1))))) (az rfl (dt q28_c10) rfl) (af ?_)
    by_cases p6_c10:(decide (cf (gI xd (((2*iD)+1)+1)) (gI xd ((2*iD)+1))))=true
    ·
     refine aj rfl p6_c10 (a6 rfl (mi (((2*iD)+1)+1) (ai (((2*iD)+1)+1) (af (a9 (a9 (a6 rfl (mz zs0_c10 (mi (((2*iD)+1)+1) ?_)))))))))
     refine mz zs7_c10 ?_
     replace bx769:=bx769.cn hb793
     replace bx786:=bx786.cn hb793
     refine lo (bE (v:=vb (decide (cf (gI xd (((2*iD)+1)+1)) (gI xd iD)))) (bK (T:=62) (v:=vp b767 0) (u:=qq_v) (vals:=[vi (((2*iD)+1)+1),vi iD]) rfl (λn=>bk d9 (bg ch (by rw[bx769.cell];rfl))) Try.func55 fx fH rfl) (dr w792 xd qq_v (bx786.flat).ro (((2*iD)+1)+1) iD (by omega) (by omega)) ?_)
     intro w794 hb795
     replace hb795:=aB hb795 g791
     refine lx (cz (b:=(decide (cf (gI xd (((2*iD)+1)+1)) (gI xd iD)))) rfl) (af ?_)
     by_cases p8_c10:(decide (cf (gI xd (((2*iD)+1)+1)) (gI xd iD)))=true
     ·
      refine am rfl (congrArg Bool.not p8_c10) (au (a9 (a6 rfl (mz zs0_c10 (mz zs7_c10 (mi (((2*iD)+1)+1) (lo ?_)))))))
      replace bx769:=bx769.cn hb795
      refine c6 (bK (T:=62) (v:=vp b767 0) (u:=qq_v) (vals:=[vi iD,vi (((2*iD)+1)+1)]) rfl (λn=>bk d7 (bg ch (by rw[bx769.cell];rfl))) Try.func58 fA fC rfl) (aC Try.func58 rfl nq ?_)
      replace bx786:=bx786.cn hb795
      refine aL g791 [0,1,2,3,4,5,6,7,8,9,10,11,12,14] cD ?_
      intro w797 ch796
      refine xp (v:=qq_v) 0 rfl (λw=>ah rfl) (xp (v:=vi iD) 1 rfl (λw=>ah rfl) (xp (v:=qq_v) 2 rfl (λw=>ah rfl) (xp (v:=vi (((2*iD)+1)+1)) 3 rfl (λw=>ah rfl) (xp (v:=qq_v) 4 rfl (λw=>ah rfl) (xp (v:=vi (((2*iD)+1)+1)) 5 rfl (λw=>ah rfl) ?_)))))
      replace bx786:=bx786.cn ch796
      refine xv 6 [5,4,3,2,1,0,8,9,10,11] rfl (aa (v:=qq_v) (i:=((2*iD)+1)+1) dD rfl rfl bx786.flat rfl (by omega) (by omega)) (xv (v:=vg [vi ((gI xd (((2*iD)+1)+1)).1),vi ((gI xd (((2*iD)+1)+1)).2)]) 7 [6,5,4,3,2,1,0,8,9,10,11] rfl (bh (v:=qq_v) (i:=((2*iD)+1)+1) bG rfl bx786.flat (by omega) (by omega) rfl) (xp (v:=qq_v) 8 rfl (λw=>ah rfl) (xp (v:=vi iD) 9 rfl (λw=>ah rfl) (xv 10 [9,8,7,6,5,4,3,2,1,0] rfl (aa (v:=qq_v) (i:=iD) dD rfl rfl bx786.flat rfl (by omega) (by omega)) ?_))))
      refine xv (v:=vg [vi ((gI xd iD).1),vi ((gI xd iD).2)]) 11 [10,9,8,7,6,5,4,3,2,1,0] rfl (bh (v:=qq_v) (i:=iD) bG rfl bx786.flat (by omega) (by omega) rfl) (xv 12 [11,10,9,8,7,6,5,4,3,2,1,0] rfl (aa (v:=qq_v) (i:=iD) dD rfl rfl bx786.flat rfl (by omega) (by omega)) (aD 13 rfl (by kernel_rfl) rfl (aK (i:=iD) (gI xd (((2*iD)+1)+1)) bG rfl rfl bx786 (by omega) (by omega) rfl ?_)))
      intro w798 ch799 bx800
      clear bx786
      refine xv 14 [13,12,11,10,9,8,7,6,5,4,3,2,1,0] rfl (aa (v:=qq_v) (i:=((2*iD)+1)+1) dD rfl rfl bx800.flat rfl (by omega) (by(simp only[List.length_set,List.length_append,List.length_cons,List.length_nil,List.length_replicate,List.length_map,List.length_take,List.length_drop];omega))) (aD 15 rfl (by kernel_rfl) rfl (aK (i:=((2*iD)+1)+1) (gI xd iD) bG rfl rfl bx800 (by omega) (by(simp only[List.length_set,List.length_append,List.length_cons,List.length_nil,List.length_replicate,List.length_map,List.length_take,List.length_drop];omega)) rfl ?_))
      intro w801 ch802 bx803
      clear bx800
      refine bc (by kernel_rfl) (bU (vs:=[]) Try.func58 .nil ?_)
      refine⟨vt [],rfl,?_⟩
      refine af (a6 rfl (mi (((2*iD)+1)+1) (ai (((2*iD)+1)+1) (af (aq ?_)))))
      have C805:=cg [27] (ch796.n.seq ((ch799.l rfl).seq (ch802.l rfl)))
      have C804:=hb793.n.seq (hb795.n.seq C805)
      refine back2_c10 (((2*iD)+1)+1,(List.set (List.set xd (Int.toNat iD) (gI xd (((2*iD)+1)+1))) (Int.toNat (((2*iD)+1)+1)) (gI xd iD)),g791) _ _ ⟨bH.ca C804,zs0_c10,zs1_c10,zs2_c10,rfl,Rt.ca C804,r_t_v1.ca C804,bx5.ca C804,bx10.ca C804,o23.ca C804,o24.ca C804,o26.ca C804,bx35.ca C804,o_W2_c1.ca C804,bx759.ca C804,bx769.ca C805,bx803,?_⟩ ?_
      · show eN qq (List.set (List.set xd (Int.toNat iD) (gI xd (((2*iD)+1)+1))) (Int.toNat (((2*iD)+1)+1)) (gI xd iD)) (((2*iD)+1)+1)
        exact hD.next ‹_› (by exact kk hD0 ‹_› ‹_›) ‹_›
      · show qq.length-(((2*iD)+1)+1).toNat<qq.length-iD.toNat
        omega
     refine aj rfl (congrArg Bool.not (Bool.eq_false_iff.2 p8_c10)) (aM rfl (a9 (a6 rfl (mz zs7_c10 (mz zs1_c10 (lx (bY (m:=iD) (n:=0) rfl rfl) (ma (vb (decide (0<iD))) (af (aF (vs:=[vb (decide (0<iD))]) Try.func37 (.tmp rfl .nil) ?_)))))))))
     replace bH:=bH.cn hb793
     replace bH:=bH.cn hb795
     replace Rt:=(Rt.cn hb793).cn hb795
     replace r_t_v1:=(r_t_v1.cn hb793).cn hb795
     replace bx5:=(bx5.cn hb793).cn hb795
     replace bx10:=(bx10.cn hb793).cn hb795
     replace o23:=(o23.cn hb793).cn hb795
     replace o24:=(o24.cn hb793).cn hb795
     replace o26:=(o26.cn hb793).cn hb795
     replace bx35:=(bx35.cn hb793).cn hb795
     replace o_W2_c1:=(o_W2_c1.cn hb793).cn hb795
     replace bx759:=(bx759.cn hb793).cn hb795
     replace bx769:=bx769.cn hb795
     replace bx786:=bx786.cn hb795
     refine⟨(xd,decide (0<iD),g791),rfl,bH,Rt,r_t_v1,bx5,bx10,o23,o24,o26,bx35,o_W2_c1,bx759,bx769,bx786,?_⟩
     show xd=c8 qq
     exact hD.end2 ‹_› (by exact kk hD0 ‹_› ‹_›) ‹_›
    refine am rfl (Bool.eq_false_iff.2 p6_c10) (au (a9 (a9 (a6 rfl (mz zs0_c10 (mi ((2*iD)+1) (mz zs7_c10 ?_)))))))
    replace bx769:=bx769.cn hb793
    replace bx786:=bx786.cn hb793
    refine lo (bE (v:=vb (decide (cf (gI xd ((2*iD)+1)) (gI xd iD)))) (bK (T:=62) (v:=vp b767 0) (u:=qq_v) (vals:=[vi ((2*iD)+1),vi iD]) rfl (λn=>bk d9 (bg ch (by rw[bx769.cell];rfl))) Try.func55 fx fH rfl) (dr w792 xd qq_v (bx786.flat).ro ((2*iD)+1) iD (by omega) (by omega)) ?_)
    intro w806 hb807
    replace hb807:=aB hb807 g791
    refine lx (cz (b:=(decide (cf (gI xd ((2*iD)+1)) (gI xd iD)))) rfl) (af ?_)
    by_cases p8_c10:(decide (cf (gI xd ((2*iD)+1)) (gI xd iD)))=true
    ·
     refine am rfl (congrArg Bool.not p8_c10) (au (a9 (a6 rfl (mz zs0_c10 (mz zs7_c10 (mi ((2*iD)+1) (lo ?_)))))))
     replace bx769:=bx769.cn hb807
     refine c6 (bK (T:=62) (v:=vp b767 0) (u:=qq_v) (vals:=[vi iD,vi ((2*iD)+1)]) rfl (λn=>bk d7 (bg ch (by rw[bx769.cell];rfl))) Try.func58 fA fC rfl) (aC Try.func58 rfl nq ?_)
     replace bx786:=bx786.cn hb807
     refine aL g791 [0,1,2,3,4,5,6,7,8,9,10,11,12,14] cD ?_
     intro w809 ch808
     refine xp (v:=qq_v) 0 rfl (λw=>ah rfl) (xp (v:=vi iD) 1 rfl (λw=>ah rfl) (xp (v:=qq_v) 2 rfl (λw=>ah rfl) (xp (v:=vi ((2*iD)+1)) 3 rfl (λw=>ah rfl) (xp (v:=qq_v) 4 rfl (λw=>ah rfl) (xp (v:=vi ((2*iD)+1)) 5 rfl (λw=>ah rfl) ?_)))))
     replace bx786:=bx786.cn ch808
     refine xv 6 [5,4,3,2,1,0,8,9,10,11] rfl (aa (v:=qq_v) (i:=(2*iD)+1) dD rfl rfl bx786.flat rfl (by omega) (by omega)) (xv (v:=vg [vi ((gI xd ((2*iD)+1)).1),vi ((gI xd ((2*iD)+1)).2)]) 7 [6,5,4,3,2,1,0,8,9,10,11] rfl (bh (v:=qq_v) (i:=(2*iD)+1) bG rfl bx786.flat (by omega) (by omega) rfl) (xp (v:=qq_v) 8 rfl (λw=>ah rfl) (xp (v:=vi iD) 9 rfl (λw=>ah rfl) (xv 10 [9,8,7,6,5,4,3,2,1,0] rfl (aa (v:=qq_v) (i:=iD) dD rfl rfl bx786.flat rfl (by omega) (by omega)) (xv (v:=vg [vi ((gI xd iD).1),vi ((gI xd iD).2)]) 11 [10,9,8,7,6,5,4,3,2,1,0] rfl (bh (v:=qq_v) (i:=iD) bG rfl bx786.flat (by omega) (by omega) rfl) ?_)))))
     refine xv 12 [11,10,9,8,7,6,5,4,3,2,1,0] rfl (aa (v:=qq_v) (i:=iD) dD rfl rfl bx786.flat rfl (by omega) (by omega)) (aD 13 rfl (by kernel_rfl) rfl (aK (i:=iD) (gI xd ((2*iD)+1)) bG rfl rfl bx786 (by omega) (by omega) rfl ?_))
     intro w810 ch811 bx812
     clear bx786
     refine xv 14 [13,12,11,10,9,8,7,6,5,4,3,2,1,0] rfl (aa (v:=qq_v) (i:=(2*iD)+1) dD rfl rfl bx812.flat rfl (by omega) (by(simp only[List.length_set,List.length_append,List.length_cons,List.length_nil,List.length_replicate,List.length_map,List.length_take,List.length_drop];omega))) (aD 15 rfl (by kernel_rfl) rfl (aK (i:=(2*iD)+1) (gI xd iD) bG rfl rfl bx812 (by omega) (by(simp only[List.length_set,List.length_append,List.length_cons,List.length_nil,List.length_replicate,List.length_map,List.length_take,List.length_drop];omega)) rfl ?_))
     intro w813 ch814 bx815
     clear bx812
     refine bc (by kernel_rfl) (bU (vs:=[]) Try.func58 .nil ?_)
     refine⟨vt [],rfl,?_⟩
     refine af (a6 rfl (mi ((2*iD)+1) (ai ((2*iD)+1) (af (aq ?_)))))
     have C817:=cg [27] (ch808.n.seq ((ch811.l rfl).seq (ch814.l rfl)))
     have C816:=hb793.n.seq (hb807.n.seq C817)
     refine back2_c10 ((2*iD)+1,(List.set (List.set xd (Int.toNat iD) (gI xd ((2*iD)+1))) (Int.toNat ((2*iD)+1)) (gI xd iD)),g791) _ _ ⟨bH.ca C816,zs0_c10,zs1_c10,zs2_c10,rfl,Rt.ca C816,r_t_v1.ca C816,bx5.ca C816,bx10.ca C816,o23.ca C816,o24.ca C816,o26.ca C816,bx35.ca C816,o_W2_c1.ca C816,bx759.ca C816,bx769.ca C817,bx815,?_⟩ ?_
     · show eN qq (List.set (List.set xd (Int.toNat iD) (gI xd ((2*iD)+1))) (Int.toNat ((2*iD)+1)) (gI xd iD)) ((2*iD)+1)
       exact hD.next ‹_› (by exact fm hD0 (.inr ‹_›)) ‹_›
     · show qq.length-((2*iD)+1).toNat<qq.length-iD.toNat
       omega
    refine aj rfl (congrArg Bool.not (Bool.eq_false_iff.2 p8_c10)) (aM rfl (a9 (a6 rfl (mz zs7_c10 (mz zs1_c10 (lx (bY (m:=iD) (n:=0) rfl rfl) (ma (vb (decide (0<iD))) (af (aF (vs:=[vb (decide (0<iD))]) Try.func37 (.tmp rfl .nil) ?_)))))))))
    replace bH:=bH.cn hb793
    replace bH:=bH.cn hb807
    replace Rt:=(Rt.cn hb793).cn hb807
    replace r_t_v1:=(r_t_v1.cn hb793).cn hb807
    replace bx5:=(bx5.cn hb793).cn hb807
    replace bx10:=(bx10.cn hb793).cn hb807
    replace o23:=(o23.cn hb793).cn hb807
    replace o24:=(o24.cn hb793).cn hb807
    replace o26:=(o26.cn hb793).cn hb807
    replace bx35:=(bx35.cn hb793).cn hb807
    replace o_W2_c1:=(o_W2_c1.cn hb793).cn hb807
    replace bx759:=(bx759.cn hb793).cn hb807
    replace bx769:=bx769.cn hb807
    replace bx786:=bx786.cn hb807
    refine⟨(xd,decide (0<iD),g791),rfl,bH,Rt,r_t_v1,bx5,bx10,o23,o24,o26,bx35,o_W2_c1,bx759,bx769,bx786,?_⟩
    show xd=c8 qq
    exact hD.end2 ‹_› (by exact fm hD0 (.inr ‹_›)) ‹_›
   refine ag (wn (df q28_c10)) (ag (wn (df q28_c10)) (ag (wn (df q28_c10)) (ag (wn (df q28_c10)) (lw (vb false) (aH rfl (df q28_c10) rfl) (af (am rfl rfl (au (a9 (a9 ?_)))))))))
   refine a6 rfl (mz zs0_c10 (mi ((2*iD)+1) (mz zs7_c10 (lo (bE (v:=vb (decide (cf (gI xd ((2*iD)+1)) (gI xd iD)))) (bK (T:=62) (v:=vp b767 0) (u:=qq_v) (vals:=[vi ((2*iD)+1),vi iD]) rfl (λn=>bk d9 (bg ch (by rw[bx769.cell];rfl))) Try.func55 fx fH rfl) (dr w790 xd qq_v (bx786.flat).ro ((2*iD)+1) iD (by omega) (by omega)) ?_)))))
   intro w818 hb819
   replace hb819:=aB hb819 g791
   refine lx (cz (b:=(decide (cf (gI xd ((2*iD)+1)) (gI xd iD)))) rfl) (af ?_)
   by_cases p8_c10:(decide (cf (gI xd ((2*iD)+1)) (gI xd iD)))=true
   ·
    refine am rfl (congrArg Bool.not p8_c10) (au (a9 (a6 rfl (mz zs0_c10 (mz zs7_c10 (mi ((2*iD)+1) (lo ?_)))))))
    replace bx769:=bx769.cn hb819
    refine c6 (bK (T:=62) (v:=vp b767 0) (u:=qq_v) (vals:=[vi iD,vi ((2*iD)+1)]) rfl (λn=>bk d7 (bg ch (by rw[bx769.cell];rfl))) Try.func58 fA fC rfl) (aC Try.func58 rfl nq ?_)
    replace bx786:=bx786.cn hb819
    refine aL g791 [0,1,2,3,4,5,6,7,8,9,10,11,12,14] cD ?_
    intro w821 ch820
    refine xp (v:=qq_v) 0 rfl (λw=>ah rfl) (xp (v:=vi iD) 1 rfl (λw=>ah rfl) (xp (v:=qq_v) 2 rfl (λw=>ah rfl) (xp (v:=vi ((2*iD)+1)) 3 rfl (λw=>ah rfl) (xp (v:=qq_v) 4 rfl (λw=>ah rfl) (xp (v:=vi ((2*iD)+1)) 5 rfl (λw=>ah rfl) ?_)))))
    replace bx786:=bx786.cn ch820
    refine xv 6 [5,4,3,2,1,0,8,9,10,11] rfl (aa (v:=qq_v) (i:=(2*iD)+1) dD rfl rfl bx786.flat rfl (by omega) (by omega)) (xv (v:=vg [vi ((gI xd ((2*iD)+1)).1),vi ((gI xd ((2*iD)+1)).2)]) 7 [6,5,4,3,2,1,0,8,9,10,11] rfl (bh (v:=qq_v) (i:=(2*iD)+1) bG rfl bx786.flat (by omega) (by omega) rfl) (xp (v:=qq_v) 8 rfl (λw=>ah rfl) (xp (v:=vi iD) 9 rfl (λw=>ah rfl) (xv 10 [9,8,7,6,5,4,3,2,1,0] rfl (aa (v:=qq_v) (i:=iD) dD rfl rfl bx786.flat rfl (by omega) (by omega)) (xv (v:=vg [vi ((gI xd iD).1),vi ((gI xd iD).2)]) 11 [10,9,8,7,6,5,4,3,2,1,0] rfl (bh (v:=qq_v) (i:=iD) bG rfl bx786.flat (by omega) (by omega) rfl) ?_)))))
    refine xv 12 [11,10,9,8,7,6,5,4,3,2,1,0] rfl (aa (v:=qq_v) (i:=iD) dD rfl rfl bx786.flat rfl (by omega) (by omega)) (aD 13 rfl (by kernel_rfl) rfl (aK (i:=iD) (gI xd ((2*iD)+1)) bG rfl rfl bx786 (by omega) (by omega) rfl ?_))
    intro w822 ch823 bx824
    clear bx786
    refine xv 14 [13,12,11,10,9,8,7,6,5,4,3,2,1,0] rfl (aa (v:=qq_v) (i:=(2*iD)+1) dD rfl rfl bx824.flat rfl (by omega) (by(simp only[List.length_set,List.length_append,List.length_cons,List.length_nil,List.length_replicate,List.length_map,List.length_take,List.length_drop];omega))) (aD 15 rfl (by kernel_rfl) rfl (aK (i:=(2*iD)+1) (gI xd iD) bG rfl rfl bx824 (by omega) (by(simp only[List.length_set,List.length_append,List.length_cons,List.length_nil,List.length_replicate,List.length_map,List.length_take,List.length_drop];omega)) rfl ?_))
    intro w825 ch826 bx827
    clear bx824
    refine bc (by kernel_rfl) (bU (vs:=[]) Try.func58 .nil ?_)
    refine⟨vt [],rfl,?_⟩
    refine af (a6 rfl (mi ((2*iD)+1) (ai ((2*iD)+1) (af (aq ?_)))))
    have C829:=cg [27] (ch820.n.seq ((ch823.l rfl).seq (ch826.l rfl)))
    have C828:=hb819.n.seq C829
    refine back2_c10 ((2*iD)+1,(List.set (List.set xd (Int.toNat iD) (gI xd ((2*iD)+1))) (Int.toNat ((2*iD)+1)) (gI xd iD)),g791) _ _ ⟨bH.ca C828,zs0_c10,zs1_c10,zs2_c10,rfl,Rt.ca C828,r_t_v1.ca C828,bx5.ca C828,bx10.ca C828,o23.ca C828,o24.ca C828,o26.ca C828,bx35.ca C828,o_W2_c1.ca C828,bx759.ca C828,bx769.ca C829,bx827,?_⟩ ?_
    · show eN qq (List.set (List.set xd (Int.toNat iD) (gI xd ((2*iD)+1))) (Int.toNat ((2*iD)+1)) (gI xd iD)) ((2*iD)+1)
      exact hD.next ‹_› (by exact fm hD0 (.inl ‹_›)) ‹_›
    · show qq.length-((2*iD)+1).toNat<qq.length-iD.toNat
      omega
   refine aj rfl (congrArg Bool.not (Bool.eq_false_iff.2 p8_c10)) (aM rfl (a9 (a6 rfl (mz zs7_c10 (mz zs1_c10 (lx (bY (m:=iD) (n:=0) rfl rfl) (ma (vb (decide (0<iD))) (af (aF (vs:=[vb (decide (0<iD))]) Try.func37 (.tmp rfl .nil) ?_)))))))))
   replace bH:=bH.cn hb819
   replace Rt:=Rt.cn hb819
   replace r_t_v1:=r_t_v1.cn hb819
   replace bx5:=bx5.cn hb819
   replace bx10:=bx10.cn hb819
   replace o23:=o23.cn hb819
   replace o24:=o24.cn hb819
   replace o26:=o26.cn hb819
   replace bx35:=bx35.cn hb819
   replace o_W2_c1:=o_W2_c1.cn hb819
   replace bx759:=bx759.cn hb819
   replace bx769:=bx769.cn hb819
   replace bx786:=bx786.cn hb819
   refine⟨(xd,decide (0<iD),g791),rfl,bH,Rt,r_t_v1,bx5,bx10,o23,o24,o26,bx35,o_W2_c1,bx759,bx769,bx786,?_⟩
   show xd=c8 qq
   exact hD.end2 ‹_› (by exact fm hD0 (.inl ‹_›)) ‹_›
  clear Rt r_t_v1 bx5 bx10 o23 o24 o26 bx35 o_W2_c1 bx759 bx769 bx786 bH
  rintro⟨xj,rdn,g831⟩ w830 ⟨bH,Rt,r_t_v1,bx5,bx10,o23,o24,o26,bx35,o_W2_c1,bx759,bx769,bx786,hxj⟩
  have hxl:xj.length=qq.length:=by rw[hxj];exact(kE (by omega)).1
  refine af (a9 (a6 rfl (mv (Value.iface 62 (vp b767 0)) (lo (c6 (bK (T:=62) (v:=vp b767 0) (u:=vp b767 0) (vals:=[]) rfl (λn=>ea jO) Try.func56 oE oc rfl) (aC Try.func56 rfl nq (a9 (a6 rfl (ma (Value.nilIface) ?_)))))))))
  refine af (a9 (a6 rfl (mv (vp b767 0) (lw (vp b767 0) (ad rfl) (lx (a8 ch rfl bx769 rfl) ?_)))))
  have len832:=(bx786.flat).small
  refine lx (ba dD rfl bx786.flat) (lx (cV (m:=(xj.length:Int)) (n:=1) rfl rfl (by omega)) (ai ((xj.length:Int)-1) (af (a9 (a6 rfl (mv (vp b767 0) (lw (vp b767 0) (ad rfl) (lx (a8 ch rfl bx769 rfl) (mi ((xj.length:Int)-1) ?_)))))))))
  refine lx (aa (v:=qq_v) (i:=(xj.length:Int)-1) dD rfl rfl bx786.flat rfl (by omega) (by omega)) (lw (vg [vi ((gI xj ((xj.length:Int)-1)).1),vi ((gI xj ((xj.length:Int)-1)).2)]) (bh (v:=qq_v) (i:=(xj.length:Int)-1) bG rfl bx786.flat (by omega) (by omega) rfl) (lo (cd g831 (is 34) (34,0) rfl bG ?_)))
  intro g836 w833 b835 ch834 bx837
  replace bx837:Bx g836 (is 34) w833 b835 [vi 0,vi 0]:=bx837
  refine lo (aR (cs':=[vi ((gI xj ((xj.length:Int)-1)).1),vi ((gI xj ((xj.length:Int)-1)).2)]) bG rfl rfl bx837 rfl nq (AllOne.all (.cons rfl (.cons rfl .nil))) rfl ?_)
  intro w838 ch839 bx840
  clear bx837
  refine af (a9 (a6 rfl (mv (vp b767 0) (mv (vp b767 0) (lw (vp b767 0) (ad rfl) ?_)))))
  replace bx769:=(bx769.cn ch834).ce ch839
  refine lx (a8 ch rfl bx769 rfl) (mi ((xj.length:Int)-1) ?_)
  replace bx786:=(bx786.cn ch834).ce ch839
  refine lw ((bu qq_v 2 (Int.toNat 0) (Int.toNat ((xj.length:Int)-1)))) (cr (v:=qq_v) (l:=0) (h:=(xj.length:Int)-1) dD rfl rfl bx786.flat (.inr ⟨rfl,rfl⟩) (.inl (congrArg some rfl)) (by omega) (by omega) (by omega)) ?_
  have r842:=pF bx786 (show Int.toNat ((xj.length:Int)-1)<=List.length _ by omega)
  refine lw (vp b767 0) (ad rfl) (lo (bj (cs':=[(bu qq_v 2 (Int.toNat 0) (Int.toNat ((xj.length:Int)-1)))]) ch rfl rfl bx769 (bf r842.flat) nq (aZ r842.flat) rfl ?_))
  intro w843 ch844 bx845
  clear bx769
  refine af (a9 (a6 rfl ?_))
  replace bx840:=bx840.ce ch844
  refine lx (bm (ds:=[vi ((gI xj ((xj.length:Int)-1)).1),vi ((gI xj ((xj.length:Int)-1)).2)]) bG rfl bx840 rfl rfl) (lw (Value.iface 64 (vg [vi ((gI xj ((xj.length:Int)-1)).1),vi ((gI xj ((xj.length:Int)-1)).2)])) (fD iI rfl rfl) (ma (Value.iface 64 (vg [vi ((gI xj ((xj.length:Int)-1)).1),vi ((gI xj ((xj.length:Int)-1)).2)])) (af (aF (vs:=[Value.iface 64 (vg [vi ((gI xj ((xj.length:Int)-1)).1),vi ((gI xj ((xj.length:Int)-1)).2)])]) Try.func56 (.tmp rfl .nil) ?_))))
  refine⟨Value.iface 64 (vg [vi ((gI xj ((xj.length:Int)-1)).1),vi ((gI xj ((xj.length:Int)-1)).2)]),rfl,?_⟩
  refine ma (Value.iface 64 (vg [vi ((gI xj ((xj.length:Int)-1)).1),vi ((gI xj ((xj.length:Int)-1)).2)])) (af (aF (vs:=[Value.iface 64 (vg [vi ((gI xj ((xj.length:Int)-1)).1),vi ((gI xj ((xj.length:Int)-1)).2)])]) Try.func34 (.tmp rfl .nil) ?_))
  refine⟨Value.iface 64 (vg [vi ((gI xj ((xj.length:Int)-1)).1),vi ((gI xj ((xj.length:Int)-1)).2)]),rfl,?_⟩
  refine lw (vg [vi ((gI xj ((xj.length:Int)-1)).1),vi ((gI xj ((xj.length:Int)-1)).2)]) (gU iI rfl rfl) (lo (cd g836 (is 30) (30,0) rfl bG ?_))
  intro g849 w846 b848 ch847 bx850
  replace bx850:Bx g849 (is 30) w846 b848 [vi 0,vi 0]:=bx850
  refine lo (aR (cs':=[vi ((gI xj ((xj.length:Int)-1)).1),vi ((gI xj ((xj.length:Int)-1)).2)]) bG rfl rfl bx850 rfl nq (AllOne.all (.cons rfl (.cons rfl .nil))) rfl ?_)
  intro w851 ch852 bx853
  clear bx850
  refine af (a9 (a9 ?_))
  clear bx786 bx840
  obtain⟨hpj,⟨⟨hp0,hp1⟩,hp2,hp3⟩,_⟩:=hrc.a.pop (by omega) hxj
  have hrl:=hbd.sh.rl hp0 hp1
  refine bt g849 rfl cD (by kernel_rfl) ?_
  intro w855 ch854
  refine qx (λw' hw'=>a7 iI rfl rfl rfl rfl) ?_
  replace bx853:=bx853.cn ch854
  refine qx (λw' hw'=>a8 ae rfl (bx853.bel hw') rfl) (qz zs0_c7 (qv (vp b33 0) (λw' hw'=>ad rfl) (qx (λw' hw'=>a7 bB rfl rfl rfl rfl) ?_)))
  have C856:=cg [28,30,34] (ch834.n.seq ((ch839.l rfl).seq ((ch844.l rfl).seq (ch847.n.seq ((ch852.l rfl).seq ch854.n)))))
  replace bx35:=bx35.ca C856
  refine qx (λw' hw'=>a8 ao rfl (bx35.bel hw') rfl) (qx (λw' hw'=>a7 iI rfl rfl rfl rfl) (qx (λw' hw'=>a8 ae rfl (bx853.bel hw') rfl) ?_))
  replace bx759:=bx759.ca C856
  refine qx (λw' hw'=>aa (v:=v29) (i:=(gI xj ((xj.length:Int)-1)).2) aW rfl rfl (bx759.flat.bel hw') rfl (by omega) (by omega)) (qx (λw' hw'=>ay (v:=v29) (i:=(gI xj ((xj.length:Int)-1)).2) ae rfl (bx759.flat.bel hw') (by omega) (by omega) (by decide) rfl) (qx (λw' hw'=>bY (m:=(gI xj ((xj.length:Int)-1)).1) (n:=(gI fr ((gI xj ((xj.length:Int)-1)).2))) rfl rfl) (bX ?_)))
  intro w857 hc858
  replace hc858:=aB hc858 g849
  by_cases p10_c7:(gI fr ((gI xj ((xj.length:Int)-1)).2))<((gI xj ((xj.length:Int)-1)).1)
  ·
   refine aj rfl (dt p10_c7) (aM rfl ?_)
   have C859:=cg [28,30,34] (ch834.n.seq ((ch839.l rfl).seq ((ch844.l rfl).seq (ch847.n.seq ((ch852.l rfl).seq (ch854.n.seq hc858.n))))))
   have C860:=cg [30] (ch847.n.seq ((ch852.l rfl).seq (ch854.n.seq hc858.n)))
   have C861:=cg [28,30] ((ch844.l rfl).seq (ch847.n.seq ((ch852.l rfl).seq (ch854.n.seq hc858.n))))
   refine back8_c7 ((bu qq_v 2 (Int.toNat 0) (Int.toNat ((xj.length:Int)-1))),(List.take (Int.toNat ((xj.length:Int)-1)) xj),fr,g849) _ _ ⟨bH.ca C859,zs0_c7,zs4_c7,Rt.ca C859,r_t_v1.ca C859,bx5.ca C859,bx10.ca C859,o23.ca C859,o24.ca C859,o26.ca C859,bx35.cn hc858,o_W2_c1.ca C859,bx759.cn hc858,bx845.ca C860,r842.ca C861,?_⟩ ?_
   · show iW (t.1+2) t.1 (1048576+(t.1+2)*1048576) Wf O2_c1 Pf (dc (t.1+2) t.1 Wf O2_c1 Pf) fr (List.take (Int.toNat ((xj.length:Int)-1)) xj)
     exact(hrc.skip hbd (by omega) hxj ‹_› (eK hxl)).1
   · show ek (fr,(List.take (Int.toNat ((xj.length:Int)-1)) xj))<ek (fr,qq)
     exact(hrc.skip hbd (by omega) hxj ‹_› (eK hxl)).2
  refine am rfl (df p10_c7) (au (a9 (bt g849 rfl cD (by kernel_rfl) ?_)))
  intro w863 ch862
  refine qz zs0_c7 (qv (vp b33 0) (λw' hw'=>ad rfl) (qx (λw' hw'=>a7 bB rfl rfl rfl rfl) ?_))
  replace bx35:=(bx35.cn hc858).cn ch862
  refine qx (λw' hw'=>a8 aN rfl (bx35.bel hw') rfl) (qx (λw' hw'=>a7 iI rfl rfl rfl rfl) ?_)
  replace bx853:=(bx853.cn hc858).cn ch862
  refine qx (λw' hw'=>a8 ae rfl (bx853.bel hw') rfl) ?_
  have C864:=cg [28,30,34] (ch834.n.seq ((ch839.l rfl).seq ((ch844.l rfl).seq (ch847.n.seq ((ch852.l rfl).seq (ch854.n.seq (hc858.n.seq ch862.n)))))))
  replace o23:=o23.ca C864
  refine qx (λw' hw'=>aa (v:=v27) (i:=(gI xj ((xj.length:Int)-1)).2) c5 rfl rfl (o23.sl.bel hw') rfl (by omega) (by omega)) ?_
  obtain⟨v865,cel866,r867⟩:=bC (r:=(gI xj ((xj.length:Int)-1)).2) o23 (by omega) (by omega)
  refine qx (λw' hw'=>bb ao rfl (bW cel866 hw')) ?_
  have len868:=(r867.row_sl).small
  refine qx (λw' hw'=>ba aW rfl (r867.row_sl.bel hw')) (qm (vi 0) (bX ?_))
  intro w869 hc870
  replace hc870:=aB hc870 g849
  refine av ?_
  refine aX (σ:=Value×(List Pt)×Nat×(List Int)×aG) (λ⟨q2_v,q2,k,fr2,gq⟩ f w=>b9 w0 gq w/\f 0=vp b33 0/\f 4=vp b767 0/\f 5=vp b848 0/\f 69=v865/\f 70=vi (List.length (gI O2_c1 ((gI xj ((xj.length:Int)-1)).2)):Int)/\f 71=vi ↑k/\Sl gq (is 0) w t_v t.2.1/\Sl gq (is 0) w t_v1 t.2.2/\Bx gq (is 1) w b3 [vi t.1,t_v,t_v1]/\Bx gq (is 2) w b8 [vn,vn,vi 0]/\bN gq 4 w v27 O2_c1/\Ow gq (is 5) (is 5) w v28 Pf/\Ow gq (is 7) (is 7) w v30 Nf/\Bx gq (is 8) w b33 [W2_c1_v,v27,v28,v29,v30,vi t.1,vi (t.1+1),vi ak_c1,vi fl]/\Ow gq (is 12) (is 12) w W2_c1_v Wf/\Ow gq (is 6) (is 6) w v29 fr2/\Bx gq (is 28) w b767 [q2_v]/\Bx gq (is 30) w b848 [vi ((gI xj ((xj.length:Int)-1)).1),vi ((gI xj ((xj.length:Int)-1)).2)]/\Ow gq (row 4 (Int.toNat ((gI xj ((xj.length:Int)-1)).2)+1)) (row 4 (Int.toNat ((gI xj ((xj.length:Int)-1)).2)+1)) w v865 (gI O2_c1 ((gI xj ((xj.length:Int)-1)).2))/\Ow gq (is 27) (is 27) w q2_v q2/\(k:Int)<=((List.length (gI O2_c1 ((gI xj ((xj.length:Int)-1)).2)):Int):Int)/\(kt (t.1+2) t.1 (1048576+(t.1+2)*1048576) Wf O2_c1 Pf (dc (t.1+2) t.1 Wf O2_c1 Pf) fr2 q2 (gI xj ((xj.length:Int)-1)) k (ek (fr,qq)))) (λ⟨q2_v,q2,k,fr2,gq⟩=>Int.toNat (((List.length (gI O2_c1 ((gI xj ((xj.length:Int)-1)).2)):Int):Int)-(k:Int))) ((bu qq_v 2 (Int.toNat 0) (Int.toNat ((xj.length:Int)-1))),(List.take (Int.toNat ((xj.length:Int)-1)) xj),0,fr,g849) ?_ ?_
  have C871:=cg [28,30,34] (ch834.n.seq ((ch839.l rfl).seq ((ch844.l rfl).seq (ch847.n.seq ((ch852.l rfl).seq (ch854.n.seq (hc858.n.seq (ch862.n.seq hc870.n))))))))
  have C872:=cg [] (hc858.n.seq (ch862.n.seq hc870.n))
  have C873:=cg [30] (ch847.n.seq ((ch852.l rfl).seq (ch854.n.seq (hc858.n.seq (ch862.n.seq hc870.n)))))
  have C874:=cg [28,30] ((ch844.l rfl).seq (ch847.n.seq ((ch852.l rfl).seq (ch854.n.seq (hc858.n.seq (ch862.n.seq hc870.n))))))
  · exact⟨bH.ca C871,zs0_c7,zs4_c7,rfl,rfl,rfl,rfl,Rt.ca C871,r_t_v1.ca C871,bx5.ca C871,bx10.ca C871,o23.cn hc870,o24.ca C871,o26.ca C871,bx35.cn hc870,o_W2_c1.ca C871,bx759.ca C872,bx845.ca C873,bx853.cn hc870,r867.cn hc870,r842.ca C874,by omega,by exact hrc.take hbd (by omega) hxj ‹_› (eK hxl)⟩
  clear Rt r_t_v1 bx5 bx10 o23 o24 o26 bx35 o_W2_c1 bx759 r842 bx845 bx853 cel866 r867 bH
  rintro⟨q2_v,q2,k,fr2,g877⟩ f875 w876 ⟨bH,zs0_c7,zs4_c7,zs5_c7,zs69_c7,zs70_c7,zs71_c7,Rt,r_t_v1,bx5,bx10,o23,o24,o26,bx35,o_W2_c1,bx759,bx845,bx853,r867,o_q2,hle_k,hrv⟩ back12_c7
  have hrvl:=hrv.r.i.fl
  have hqz2:=hrv.r.i.ql2 hbd rfl (by omega)
  obtain⟨hx0,hx1⟩:=hrv.bd hbd
  refine a9 (a6 rfl (lx (bo (m:=↑k) (n:=(List.length (gI O2_c1 ((gI xj ((xj.length:Int)-1)).2)):Int)) zs71_c7 zs70_c7) (af (a9 ?_))))
  by_cases p12_c7:(k:Int)<(List.length (gI O2_c1 ((gI xj ((xj.length:Int)-1)).2)):Int)
  ·
   refine aj rfl (dt p12_c7) ?_
   have hmw_c7:=bx (xs:=gI O2_c1 (gI xj ((xj.length:Int)-1)).2) (i:=↑k) (by omega) ‹_›
   obtain⟨⟨hw0_c7,hw1_c7⟩,⟨hw2_c7,hw3_c7⟩,hw4_c7,hw5_c7⟩:=mZ hbd.sh hp0 hp1 hmw_c7
   have hpo1:=hbd.pot (by omega) hp0 hp1
   have hpo2:=hbd.pot (by omega) hw2_c7 hw3_c7
   refine au (a9 (av (a9 (a6 rfl (lx (aa (v:=v865) (i:=↑k) aW rfl zs69_c7 r867.row_sl zs71_c7 (by omega) (by omega)) (lx (ay (v:=v865) (i:=↑k) ae rfl r867.row_sl (by omega) (by omega) (by decide) rfl) (ai (gI (gI O2_c1 ((gI xj ((xj.length:Int)-1)).2)) (k:Int)) (af (a9 ?_)))))))))
   refine bt g877 rfl cD (by kernel_rfl) ?_
   intro w879 ch878
   refine qz zs0_c7 (qv (vp b33 0) (λw' hw'=>ad rfl) (qx (λw' hw'=>a7 bB rfl rfl rfl rfl) ?_))
   replace bx35:=bx35.cn ch878
   refine qx (λw' hw'=>a8 aY rfl (bx35.bel hw') rfl) (qm (vi (gI (gI O2_c1 ((gI xj ((xj.length:Int)-1)).2)) (k:Int))) ?_)
   replace o_W2_c1:=o_W2_c1.cn ch878
   refine qx (λw' hw'=>aa (v:=W2_c1_v) (i:=(gI (gI O2_c1 ((gI xj ((xj.length:Int)-1)).2)) (k:Int))) cZ rfl rfl (o_W2_c1.flat.bel hw') rfl (by omega) (by omega)) (qv (Value.pointer (some ⟨(aT W2_c1_v 3 (Int.toNat (gI (gI O2_c1 ((gI xj ((xj.length:Int)-1)).2)) (k:Int)))).block,(aT W2_c1_v 3 (Int.toNat (gI (gI O2_c1 ((gI xj ((xj.length:Int)-1)).2)) (k:Int)))).off+0,none⟩)) (λw' hw'=>aO ir rfl rfl rfl rfl) (qx (λw' hw'=>bi (v:=W2_c1_v) (i:=(gI (gI O2_c1 ((gI xj ((xj.length:Int)-1)).2)) (k:Int))) ae rfl (o_W2_c1.flat.bel hw') (by omega) (by omega) (by decide) rfl) (qx (λw' hw'=>a7 iI rfl rfl zs5_c7 rfl) ?_)))
   replace bx853:=bx853.cn ch878
   refine qx (λw' hw'=>a8 ae rfl (bx853.bel hw') rfl) (qz zs0_c7 (qx (λw' hw'=>a7 iI rfl rfl zs5_c7 rfl) (qx (λw' hw'=>a8 ae rfl (bx853.bel hw') rfl) (qm (vi (gI (gI O2_c1 ((gI xj ((xj.length:Int)-1)).2)) (k:Int))) ?_))))
   replace o24:=o24.cn ch878
   refine dJ (v:=vi ((gI Wf (gI (gI O2_c1 ((gI xj ((xj.length:Int)-1)).2)) (k:Int))).2.2+gI Pf ((gI xj ((xj.length:Int)-1)).2)-gI Pf (gI Wf (gI (gI O2_c1 ((gI xj ((xj.length:Int)-1)).2)) (k:Int))).1)) rfl (λw' hw'=>aU (vals:=[vp b33 0,vi ((gI xj ((xj.length:Int)-1)).2),vi (gI (gI O2_c1 ((gI xj ((xj.length:Int)-1)).2)) (k:Int))]) Try.func35 jm iU rfl) (λw' hw'=>(dO w' b33 W2_c1_v Wf ((o_W2_c1.flat.bel hw')).ro v27 v28 Pf ((o24.flat.bel hw')).ro v29 v30 (vi t.1) (vi (t.1+1)) (vi ak_c1) (vi fl) (jX ((bx35.bel hw'))) ((gI xj ((xj.length:Int)-1)).2) (gI (gI O2_c1 ((gI xj ((xj.length:Int)-1)).2)) (k:Int)) (by omega) (by omega) (by omega) (by omega) (by omega) (by omega)).mono λe w2 h2=>⟨h2.1,hw'.trans (h2.2.mono hw'.size)⟩) ?_
   refine qx (λw' hw'=>aP (m:=(gI xj ((xj.length:Int)-1)).1) (n:=(gI Wf (gI (gI O2_c1 ((gI xj ((xj.length:Int)-1)).2)) (k:Int))).2.2+gI Pf ((gI xj ((xj.length:Int)-1)).2)-gI Pf (gI Wf (gI (gI O2_c1 ((gI xj ((xj.length:Int)-1)).2)) (k:Int))).1) rfl rfl (by omega)) (qv (vi ((gI Wf (gI (gI O2_c1 ((gI xj ((xj.length:Int)-1)).2)) (k:Int))).1)) (λw' hw'=>bD rfl) (qv (vi (((gI xj ((xj.length:Int)-1)).1)+((gI Wf (gI (gI O2_c1 ((gI xj ((xj.length:Int)-1)).2)) (k:Int))).2.2+gI Pf ((gI xj ((xj.length:Int)-1)).2)-gI Pf (gI Wf (gI (gI O2_c1 ((gI xj ((xj.length:Int)-1)).2)) (k:Int))).1))) (λw' hw'=>bD rfl) (bX ?_)))
   intro w880 hc881
   replace hc881:=aB hc881 g877
   refine a9 (a6 rfl (mz zs0_c7 (lw (vp b33 0) (ad rfl) (lx (a7 bB rfl rfl rfl rfl) ?_))))
   replace bx35:=bx35.cn hc881
   refine lx (a8 aY rfl bx35 rfl) (mi (gI (gI O2_c1 ((gI xj ((xj.length:Int)-1)).2)) (k:Int)) ?_)
   replace o_W2_c1:=o_W2_c1.cn hc881
   refine lx (aa (v:=W2_c1_v) (i:=(gI (gI O2_c1 ((gI xj ((xj.length:Int)-1)).2)) (k:Int))) cZ rfl rfl o_W2_c1.flat rfl (by omega) (by omega)) (lw (Value.pointer (some ⟨(aT W2_c1_v 3 (Int.toNat (gI (gI O2_c1 ((gI xj ((xj.length:Int)-1)).2)) (k:Int)))).block,(aT W2_c1_v 3 (Int.toNat (gI (gI O2_c1 ((gI xj ((xj.length:Int)-1)).2)) (k:Int)))).off+1,none⟩)) (aO ir rfl rfl rfl rfl) (lx (bi (v:=W2_c1_v) (i:=(gI (gI O2_c1 ((gI xj ((xj.length:Int)-1)).2)) (k:Int))) ae rfl o_W2_c1.flat (by omega) (by omega) (by decide) rfl) (lx (bY (m:=((gI Wf (gI (gI O2_c1 ((gI xj ((xj.length:Int)-1)).2)) (k:Int))).2).1) (n:=0) rfl rfl) (mv (vb (decide (0<(((gI Wf (gI (gI O2_c1 ((gI xj ((xj.length:Int)-1)).2)) (k:Int))).2).1)))) ?_))))
   by_cases q100_c7:0<(((gI Wf (gI (gI O2_c1 ((gI xj ((xj.length:Int)-1)).2)) (k:Int))).2).1)
   ·
    refine lv (vi (((gI xj ((xj.length:Int)-1)).1)+((gI Wf (gI (gI O2_c1 ((gI xj ((xj.length:Int)-1)).2)) (k:Int))).2.2+gI Pf ((gI xj ((xj.length:Int)-1)).2)-gI Pf (gI Wf (gI (gI O2_c1 ((gI xj ((xj.length:Int)-1)).2)) (k:Int))).1))) (wy (dt q100_c7)) (ah rfl) (lv (vp b33 0) (wy (dt q100_c7)) (ah zs0_c7) (lv (vp b33 0) (wy (dt q100_c7)) (ad rfl) (lv (vp b33 3) (wy (dt q100_c7)) (a7 bB rfl rfl rfl rfl) (lv (v29) (wy (dt q100_c7)) (a8 ao rfl bx35 rfl) ?_))))
    refine lv (vi ((gI Wf (gI (gI O2_c1 ((gI xj ((xj.length:Int)-1)).2)) (k:Int))).1)) (wy (dt q100_c7)) (ah rfl) ?_
    replace bx759:=(bx759.cn ch878).cn hc881
    refine lv (Value.pointer (some (aT v29 1 (Int.toNat ((gI Wf (gI (gI O2_c1 ((gI xj ((xj.length:Int)-1)).2)) (k:Int))).1))))) (wy (dt q100_c7)) (aa (α:=Int) (xs:=fr2) (v:=v29) (i:=(gI Wf (gI (gI O2_c1 ((gI xj ((xj.length:Int)-1)).2)) (k:Int))).1) aW rfl rfl bx759.flat rfl (by omega) (by omega)) (lv (vi (gI fr2 ((gI Wf (gI (gI O2_c1 ((gI xj ((xj.length:Int)-1)).2)) (k:Int))).1))) (wy (dt q100_c7)) (ay (α:=Int) (xs:=fr2) (v:=v29) (i:=(gI Wf (gI (gI O2_c1 ((gI xj ((xj.length:Int)-1)).2)) (k:Int))).1) ae rfl bx759.flat (by omega) (by omega) (by decide) rfl) ?_)
    refine lv (vb (decide ((((gI xj ((xj.length:Int)-1)).1)+((gI Wf (gI (gI O2_c1 ((gI xj ((xj.length:Int)-1)).2)) (k:Int))).2.2+gI Pf ((gI xj ((xj.length:Int)-1)).2)-gI Pf (gI Wf (gI (gI O2_c1 ((gI xj ((xj.length:Int)-1)).2)) (k:Int))).1))<(gI fr2 ((gI Wf (gI (gI O2_c1 ((gI xj ((xj.length:Int)-1)).2)) (k:Int))).1))))) (wy (dt q100_c7)) (bo (m:=((gI xj ((xj.length:Int)-1)).1)+((gI Wf (gI (gI O2_c1 ((gI xj ((xj.length:Int)-1)).2)) (k:Int))).2.2+gI Pf ((gI xj ((xj.length:Int)-1)).2)-gI Pf (gI Wf (gI (gI O2_c1 ((gI xj ((xj.length:Int)-1)).2)) (k:Int))).1)) (n:=(gI fr2 ((gI Wf (gI (gI O2_c1 ((gI xj ((xj.length:Int)-1)).2)) (k:Int))).1))) rfl rfl) ?_
    refine lw (vb (decide ((((gI xj ((xj.length:Int)-1)).1)+((gI Wf (gI (gI O2_c1 ((gI xj ((xj.length:Int)-1)).2)) (k:Int))).2.2+gI Pf ((gI xj ((xj.length:Int)-1)).2)-gI Pf (gI Wf (gI (gI O2_c1 ((gI xj ((xj.length:Int)-1)).2)) (k:Int))).1))<(gI fr2 ((gI Wf (gI (gI O2_c1 ((gI xj ((xj.length:Int)-1)).2)) (k:Int))).1))))) (az rfl (dt q100_c7) rfl) (af ?_)
    by_cases p15_c7:(((gI xj ((xj.length:Int)-1)).1)+((gI Wf (gI (gI O2_c1 ((gI xj ((xj.length:Int)-1)).2)) (k:Int))).2.2+gI Pf ((gI xj ((xj.length:Int)-1)).2)-gI Pf (gI Wf (gI (gI O2_c1 ((gI xj ((xj.length:Int)-1)).2)) (k:Int))).1))<(gI fr2 ((gI Wf (gI (gI O2_c1 ((gI xj ((xj.length:Int)-1)).2)) (k:Int))).1))
    ·
     refine aj rfl (dt p15_c7) (a9 (a6 rfl (mz zs0_c7 (lw (vp b33 0) (ad rfl) (lx (a7 bB rfl rfl rfl rfl) (lx (a8 ao rfl bx35 rfl) (mi ((gI Wf (gI (gI O2_c1 ((gI xj ((xj.length:Int)-1)).2)) (k:Int))).1) (mi (((gI xj ((xj.length:Int)-1)).1)+((gI Wf (gI (gI O2_c1 ((gI xj ((xj.length:Int)-1)).2)) (k:Int))).2.2+gI Pf ((gI xj ((xj.length:Int)-1)).2)-gI Pf (gI Wf (gI (gI O2_c1 ((gI xj ((xj.length:Int)-1)).2)) (k:Int))).1)) (lx (aa (v:=v29) (i:=(gI Wf (gI (gI O2_c1 ((gI xj ((xj.length:Int)-1)).2)) (k:Int))).1) aW rfl rfl bx759.flat rfl (by omega) (by omega)) ?_)))))))))
     refine lo (aK (i:=(gI Wf (gI (gI O2_c1 ((gI xj ((xj.length:Int)-1)).2)) (k:Int))).1) (((gI xj ((xj.length:Int)-1)).1)+((gI Wf (gI (gI O2_c1 ((gI xj ((xj.length:Int)-1)).2)) (k:Int))).2.2+gI Pf ((gI xj ((xj.length:Int)-1)).2)-gI Pf (gI Wf (gI (gI O2_c1 ((gI xj ((xj.length:Int)-1)).2)) (k:Int))).1)) ae rfl rfl bx759 (by omega) (by omega) rfl ?_)
     intro w882 ch883 bx884
     clear bx759
     refine af (a6 rfl (mz zs4_c7 (lw (Value.iface 62 (vp b767 0)) (fD tn rfl rfl) (mi (((gI xj ((xj.length:Int)-1)).1)+((gI Wf (gI (gI O2_c1 ((gI xj ((xj.length:Int)-1)).2)) (k:Int))).2.2+gI Pf ((gI xj ((xj.length:Int)-1)).2)-gI Pf (gI Wf (gI (gI O2_c1 ((gI xj ((xj.length:Int)-1)).2)) (k:Int))).1)) (mi ((gI Wf (gI (gI O2_c1 ((gI xj ((xj.length:Int)-1)).2)) (k:Int))).1) ?_)))))
     refine lw (vg [vi (((gI xj ((xj.length:Int)-1)).1)+((gI Wf (gI (gI O2_c1 ((gI xj ((xj.length:Int)-1)).2)) (k:Int))).2.2+gI Pf ((gI xj ((xj.length:Int)-1)).2)-gI Pf (gI Wf (gI (gI O2_c1 ((gI xj ((xj.length:Int)-1)).2)) (k:Int))).1)),vi ((gI Wf (gI (gI O2_c1 ((gI xj ((xj.length:Int)-1)).2)) (k:Int))).1)]) (bp (vs:=[(0,vi (((gI xj ((xj.length:Int)-1)).1)+((gI Wf (gI (gI O2_c1 ((gI xj ((xj.length:Int)-1)).2)) (k:Int))).2.2+gI Pf ((gI xj ((xj.length:Int)-1)).2)-gI Pf (gI Wf (gI (gI O2_c1 ((gI xj ((xj.length:Int)-1)).2)) (k:Int))).1))),(1,vi ((gI Wf (gI (gI O2_c1 ((gI xj ((xj.length:Int)-1)).2)) (k:Int))).1))]) rfl (by kernel_rfl)) ?_
     refine lw (Value.iface 64 (vg [vi (((gI xj ((xj.length:Int)-1)).1)+((gI Wf (gI (gI O2_c1 ((gI xj ((xj.length:Int)-1)).2)) (k:Int))).2.2+gI Pf ((gI xj ((xj.length:Int)-1)).2)-gI Pf (gI Wf (gI (gI O2_c1 ((gI xj ((xj.length:Int)-1)).2)) (k:Int))).1)),vi ((gI Wf (gI (gI O2_c1 ((gI xj ((xj.length:Int)-1)).2)) (k:Int))).1)])) (fD iI rfl rfl) (lo ?_)
     refine c6 (aU (vals:=[Value.iface 62 (vp b767 0),Value.iface 64 (vg [vi (((gI xj ((xj.length:Int)-1)).1)+((gI Wf (gI (gI O2_c1 ((gI xj ((xj.length:Int)-1)).2)) (k:Int))).2.2+gI Pf ((gI xj ((xj.length:Int)-1)).2)-gI Pf (gI Wf (gI (gI O2_c1 ((gI xj ((xj.length:Int)-1)).2)) (k:Int))).1)),vi ((gI Wf (gI (gI O2_c1 ((gI xj ((xj.length:Int)-1)).2)) (k:Int))).1)])]) Try.func36 ot pP rfl) (aC Try.func36 rfl nq ?_)
     have C885:=cg [6] (ch878.n.seq (hc881.n.seq (ch883.l rfl)))
     replace o_q2:=o_q2.ca C885
     refine a9 (a6 rfl (mv (Value.iface 62 (vp b767 0)) (mv (Value.iface 64 (vg [vi (((gI xj ((xj.length:Int)-1)).1)+((gI Wf (gI (gI O2_c1 ((gI xj ((xj.length:Int)-1)).2)) (k:Int))).2.2+gI Pf ((gI xj ((xj.length:Int)-1)).2)-gI Pf (gI Wf (gI (gI O2_c1 ((gI xj ((xj.length:Int)-1)).2)) (k:Int))).1)),vi ((gI Wf (gI (gI O2_c1 ((gI xj ((xj.length:Int)-1)).2)) (k:Int))).1)])) (lo ?_))))
     refine c6 (bK (T:=62) (v:=vp b767 0) (u:=vp b767 0) (vals:=[Value.iface 64 (vg [vi (((gI xj ((xj.length:Int)-1)).1)+((gI Wf (gI (gI O2_c1 ((gI xj ((xj.length:Int)-1)).2)) (k:Int))).2.2+gI Pf ((gI xj ((xj.length:Int)-1)).2)-gI Pf (gI Wf (gI (gI O2_c1 ((gI xj ((xj.length:Int)-1)).2)) (k:Int))).1)),vi ((gI Wf (gI (gI O2_c1 ((gI xj ((xj.length:Int)-1)).2)) (k:Int))).1)])]) rfl (λn=>ea iZ) Try.func57 oz oe rfl) (aC Try.func57 rfl nq (aL g877 [0,1,2,3,4,5,8] cD ?_))
     intro w887 ch886
     refine xp (v:=vp b767 0) 0 rfl (λw=>ah rfl) (xp (v:=vp b767 0) 1 rfl (λw=>ah rfl) (xp (v:=vp b767 0) 2 rfl (λw=>ad rfl) ?_))
     have C888:=cg [6] (ch878.n.seq (hc881.n.seq ((ch883.l rfl).seq ch886.n)))
     replace bx845:=bx845.ca C888
     refine xh 3 [2,1,0,4,5,6] rfl (λw' hw'=>a8 ch rfl (bx845.bel hw') rfl) (xp (v:=Value.iface 64 (vg [vi (((gI xj ((xj.length:Int)-1)).1)+((gI Wf (gI (gI O2_c1 ((gI xj ((xj.length:Int)-1)).2)) (k:Int))).2.2+gI Pf ((gI xj ((xj.length:Int)-1)).2)-gI Pf (gI Wf (gI (gI O2_c1 ((gI xj ((xj.length:Int)-1)).2)) (k:Int))).1)),vi ((gI Wf (gI (gI O2_c1 ((gI xj ((xj.length:Int)-1)).2)) (k:Int))).1)])) 4 rfl (λw=>ah rfl) ?_)
     refine xv (v:=vg [vi (((gI xj ((xj.length:Int)-1)).1)+((gI Wf (gI (gI O2_c1 ((gI xj ((xj.length:Int)-1)).2)) (k:Int))).2.2+gI Pf ((gI xj ((xj.length:Int)-1)).2)-gI Pf (gI Wf (gI (gI O2_c1 ((gI xj ((xj.length:Int)-1)).2)) (k:Int))).1)),vi ((gI Wf (gI (gI O2_c1 ((gI xj ((xj.length:Int)-1)).2)) (k:Int))).1)]) 5 [4,3,2,1,0] rfl (gU iI rfl rfl) (aD 6 rfl (by kernel_rfl) rfl ?_)
     refine aw (α:=Pt) g877 (is 35) (is 35) (35,0) rfl ([(((gI xj ((xj.length:Int)-1)).1)+((gI Wf (gI (gI O2_c1 ((gI xj ((xj.length:Int)-1)).2)) (k:Int))).2.2+gI Pf ((gI xj ((xj.length:Int)-1)).2)-gI Pf (gI Wf (gI (gI O2_c1 ((gI xj ((xj.length:Int)-1)).2)) (k:Int))).1),(gI Wf (gI (gI O2_c1 ((gI xj ((xj.length:Int)-1)).2)) (k:Int))).1)]:List Pt) dD bG (by decide) (by decide) (vs:=[(0,vg [vi (((gI xj ((xj.length:Int)-1)).1)+((gI Wf (gI (gI O2_c1 ((gI xj ((xj.length:Int)-1)).2)) (k:Int))).2.2+gI Pf ((gI xj ((xj.length:Int)-1)).2)-gI Pf (gI Wf (gI (gI O2_c1 ((gI xj ((xj.length:Int)-1)).2)) (k:Int))).1)),vi ((gI Wf (gI (gI O2_c1 ((gI xj ((xj.length:Int)-1)).2)) (k:Int))).1)])]) rfl rfl (.cons rfl .nil) ?_
     intro g889 w890 v891 ch892 o893
     refine aD 7 rfl (by kernel_rfl) rfl ?_
     replace o_q2:=(o_q2.cn ch886).cn ch892
     refine aA (α:=Pt) (xs:=q2) (ys:=([(((gI xj ((xj.length:Int)-1)).1)+((gI Wf (gI (gI O2_c1 ((gI xj ((xj.length:Int)-1)).2)) (k:Int))).2.2+gI Pf ((gI xj ((xj.length:Int)-1)).2)-gI Pf (gI Wf (gI (gI O2_c1 ((gI xj ((xj.length:Int)-1)).2)) (k:Int))).1),(gI Wf (gI (gI O2_c1 ((gI xj ((xj.length:Int)-1)).2)) (k:Int))).1)]:List Pt)) g889 (J:=is 27) (S:=is 27) (27,0) rfl dD bG (by decide) rfl rfl rfl o_q2 o893.flat (by decide) (by(simp;omega)) ?_
     intro g894 w895 v896 ch897 o898
     clear o_q2
     refine xp (v:=vp b767 0) 8 rfl (λw=>ad rfl) (aD 9 rfl (by kernel_rfl) rfl ?_)
     replace bx845:=(bx845.cn ch892).ce ch897
     refine bj (cs':=[v896]) ch rfl rfl bx845 (bf o898.flat) nq (aZ o898.flat) rfl ?_
     intro w899 ch900 bx901
     clear bx845
     refine bc (by kernel_rfl) (bU (vs:=[]) Try.func57 .nil ?_)
     refine⟨vt [],rfl,?_⟩
     refine af ?_
     clear o893
     refine a6 rfl (mv (Value.iface 62 (vp b767 0)) (mv (Value.iface 62 (vp b767 0)) ?_))
     replace o898:=o898.ce ch900
     refine lo ?_
     refine bE (v:=vi ((q2++([(((gI xj ((xj.length:Int)-1)).1)+((gI Wf (gI (gI O2_c1 ((gI xj ((xj.length:Int)-1)).2)) (k:Int))).2.2+gI Pf ((gI xj ((xj.length:Int)-1)).2)-gI Pf (gI Wf (gI (gI O2_c1 ((gI xj ((xj.length:Int)-1)).2)) (k:Int))).1),(gI Wf (gI (gI O2_c1 ((gI xj ((xj.length:Int)-1)).2)) (k:Int))).1)]:List Pt)).length:Int)) (bK (T:=62) (v:=vp b767 0) (u:=v896) (vals:=[]) rfl (λn=>bk gc (bg ch (by rw[bx901.cell];rfl))) Try.func33 jq j9 rfl) (fL w899 (q2++([(((gI xj ((xj.length:Int)-1)).1)+((gI Wf (gI (gI O2_c1 ((gI xj ((xj.length:Int)-1)).2)) (k:Int))).2.2+gI Pf ((gI xj ((xj.length:Int)-1)).2)-gI Pf (gI Wf (gI (gI O2_c1 ((gI xj ((xj.length:Int)-1)).2)) (k:Int))).1),(gI Wf (gI (gI O2_c1 ((gI xj ((xj.length:Int)-1)).2)) (k:Int))).1)]:List Pt)) v896 (o898.flat).ro) ?_
     intro w902 hb903
     replace hb903:=aB hb903 g894
     refine lx (cV (m:=((q2++([(((gI xj ((xj.length:Int)-1)).1)+((gI Wf (gI (gI O2_c1 ((gI xj ((xj.length:Int)-1)).2)) (k:Int))).2.2+gI Pf ((gI xj ((xj.length:Int)-1)).2)-gI Pf (gI Wf (gI (gI O2_c1 ((gI xj ((xj.length:Int)-1)).2)) (k:Int))).1),(gI Wf (gI (gI O2_c1 ((gI xj ((xj.length:Int)-1)).2)) (k:Int))).1)]:List Pt)).length:Int)) (n:=1) rfl rfl (by(rw[List.length_append];simp only[List.length_cons,List.length_nil];omega))) (lo ?_)
     refine bF (σ:=(List Pt)×aG) (V:=λ⟨xpU,gq⟩=>vt []) (S:=λ⟨xpU,gq⟩ w=>b9 w0 gq w/\Sl gq (is 0) w t_v t.2.1/\Sl gq (is 0) w t_v1 t.2.2/\Bx gq (is 1) w b3 [vi t.1,t_v,t_v1]/\Bx gq (is 2) w b8 [vn,vn,vi 0]/\bN gq 4 w v27 O2_c1/\Ow gq (is 5) (is 5) w v28 Pf/\Ow gq (is 7) (is 7) w v30 Nf/\Bx gq (is 8) w b33 [W2_c1_v,v27,v28,v29,v30,vi t.1,vi (t.1+1),vi ak_c1,vi fl]/\Ow gq (is 12) (is 12) w W2_c1_v Wf/\Bx gq (is 30) w b848 [vi ((gI xj ((xj.length:Int)-1)).1),vi ((gI xj ((xj.length:Int)-1)).2)]/\Ow gq (row 4 (Int.toNat ((gI xj ((xj.length:Int)-1)).2)+1)) (row 4 (Int.toNat ((gI xj ((xj.length:Int)-1)).2)+1)) w v865 (gI O2_c1 ((gI xj ((xj.length:Int)-1)).2))/\Ow gq (is 6) (is 6) w v29 (List.set fr2 (Int.toNat ((gI Wf (gI (gI O2_c1 ((gI xj ((xj.length:Int)-1)).2)) (k:Int))).1)) (((gI xj ((xj.length:Int)-1)).1)+((gI Wf (gI (gI O2_c1 ((gI xj ((xj.length:Int)-1)).2)) (k:Int))).2.2+gI Pf ((gI xj ((xj.length:Int)-1)).2)-gI Pf (gI Wf (gI (gI O2_c1 ((gI xj ((xj.length:Int)-1)).2)) (k:Int))).1)))/\Ow gq (is 27) (is 27) w v896 xpU/\Bx gq (is 28) w b767 [v896]/\(xpU=jz (q2++([(((gI xj ((xj.length:Int)-1)).1)+((gI Wf (gI (gI O2_c1 ((gI xj ((xj.length:Int)-1)).2)) (k:Int))).2.2+gI Pf ((gI xj ((xj.length:Int)-1)).2)-gI Pf (gI Wf (gI (gI O2_c1 ((gI xj ((xj.length:Int)-1)).2)) (k:Int))).1),(gI Wf (gI (gI O2_c1 ((gI xj ((xj.length:Int)-1)).2)) (k:Int))).1)]:List Pt)))) (aU (vals:=[Value.iface 62 (vp b767 0),vi (((q2++([(((gI xj ((xj.length:Int)-1)).1)+((gI Wf (gI (gI O2_c1 ((gI xj ((xj.length:Int)-1)).2)) (k:Int))).2.2+gI Pf ((gI xj ((xj.length:Int)-1)).2)-gI Pf (gI Wf (gI (gI O2_c1 ((gI xj ((xj.length:Int)-1)).2)) (k:Int))).1),(gI Wf (gI (gI O2_c1 ((gI xj ((xj.length:Int)-1)).2)) (k:Int))).1)]:List Pt)).length:Int)-1)]) Try.func38 pT ox rfl) ?_ ?_
     ·
      refine aC Try.func38 rfl nq ?_
      replace o898:=o898.cn hb903
      have hlul:(((q2++([(((gI xj ((xj.length:Int)-1)).1)+((gI Wf (gI (gI O2_c1 ((gI xj ((xj.length:Int)-1)).2)) (k:Int))).2.2+gI Pf ((gI xj ((xj.length:Int)-1)).2)-gI Pf (gI Wf (gI (gI O2_c1 ((gI xj ((xj.length:Int)-1)).2)) (k:Int))).1),(gI Wf (gI (gI O2_c1 ((gI xj ((xj.length:Int)-1)).2)) (k:Int))).1)]:List Pt))).length:Int)=q2.length+1:=by rw[List.length_append];rfl
      refine av ?_
      refine aX (σ:=Int×(List Pt)×aG) (λ⟨jU,xu,gq⟩ f w=>b9 w0 gq w/\f 0=Value.iface 62 (vp b767 0)/\f 1=vi jU/\Sl gq (is 0) w t_v t.2.1/\Sl gq (is 0) w t_v1 t.2.2/\Bx gq (is 1) w b3 [vi t.1,t_v,t_v1]/\Bx gq (is 2) w b8 [vn,vn,vi 0]/\bN gq 4 w v27 O2_c1/\Ow gq (is 5) (is 5) w v28 Pf/\Ow gq (is 7) (is 7) w v30 Nf/\Bx gq (is 8) w b33 [W2_c1_v,v27,v28,v29,v30,vi t.1,vi (t.1+1),vi ak_c1,vi fl]/\Ow gq (is 12) (is 12) w W2_c1_v Wf/\Bx gq (is 30) w b848 [vi ((gI xj ((xj.length:Int)-1)).1),vi ((gI xj ((xj.length:Int)-1)).2)]/\Ow gq (row 4 (Int.toNat ((gI xj ((xj.length:Int)-1)).2)+1)) (row 4 (Int.toNat ((gI xj ((xj.length:Int)-1)).2)+1)) w v865 (gI O2_c1 ((gI xj ((xj.length:Int)-1)).2))/\Ow gq (is 6) (is 6) w v29 (List.set fr2 (Int.toNat ((gI Wf (gI (gI O2_c1 ((gI xj ((xj.length:Int)-1)).2)) (k:Int))).1)) (((gI xj ((xj.length:Int)-1)).1)+((gI Wf (gI (gI O2_c1 ((gI xj ((xj.length:Int)-1)).2)) (k:Int))).2.2+gI Pf ((gI xj ((xj.length:Int)-1)).2)-gI Pf (gI Wf (gI (gI O2_c1 ((gI xj ((xj.length:Int)-1)).2)) (k:Int))).1)))/\Ow gq (is 27) (is 27) w v896 xu/\Bx gq (is 28) w b767 [v896]/\(gn (q2++([(((gI xj ((xj.length:Int)-1)).1)+((gI Wf (gI (gI O2_c1 ((gI xj ((xj.length:Int)-1)).2)) (k:Int))).2.2+gI Pf ((gI xj ((xj.length:Int)-1)).2)-gI Pf (gI Wf (gI (gI O2_c1 ((gI xj ((xj.length:Int)-1)).2)) (k:Int))).1),(gI Wf (gI (gI O2_c1 ((gI xj ((xj.length:Int)-1)).2)) (k:Int))).1)]:List Pt)) xu jU)) (λ⟨jU,xu,gq⟩=>jU.toNat) (((q2++([(((gI xj ((xj.length:Int)-1)).1)+((gI Wf (gI (gI O2_c1 ((gI xj ((xj.length:Int)-1)).2)) (k:Int))).2.2+gI Pf ((gI xj ((xj.length:Int)-1)).2)-gI Pf (gI Wf (gI (gI O2_c1 ((gI xj ((xj.length:Int)-1)).2)) (k:Int))).1),(gI Wf (gI (gI O2_c1 ((gI xj ((xj.length:Int)-1)).2)) (k:Int))).1)]:List Pt)).length:Int)-1,(q2++([(((gI xj ((xj.length:Int)-1)).1)+((gI Wf (gI (gI O2_c1 ((gI xj ((xj.length:Int)-1)).2)) (k:Int))).2.2+gI Pf ((gI xj ((xj.length:Int)-1)).2)-gI Pf (gI Wf (gI (gI O2_c1 ((gI xj ((xj.length:Int)-1)).2)) (k:Int))).1),(gI Wf (gI (gI O2_c1 ((gI xj ((xj.length:Int)-1)).2)) (k:Int))).1)]:List Pt)),g894) ?_ ?_
      have C906:=cg [6,27,28] ((ch883.l rfl).seq (ch886.n.seq (ch892.n.seq ((ch897.l rfl).seq ((ch900.l rfl).seq hb903.n)))))
      have C905:=hc881.n.seq C906
      have C904:=ch878.n.seq C905
      have C907:=cg [27,28] (ch886.n.seq (ch892.n.seq ((ch897.l rfl).seq ((ch900.l rfl).seq hb903.n))))
      · exact⟨bH.ca C904,rfl,rfl,Rt.ca C904,r_t_v1.ca C904,bx5.ca C904,bx10.ca C904,o23.ca C904,o24.ca C905,o26.ca C904,bx35.ca C906,o_W2_c1.ca C906,bx853.ca C905,r867.chg C904 (e7 rfl) (e7 rfl),bx884.ca C907,o898,bx901.cn hb903,by exact gn.start (by rw[List.length_append];exact Int.ofNat_lt.2 (Nat.succ_pos _))⟩
      clear Rt r_t_v1 bx5 bx10 o23 o24 o26 bx35 o_W2_c1 bx853 r867 bx884 o898 bx901 bH
      rintro⟨jU,xu,g910⟩ f908 w909 ⟨bH,zs0_c17,zs1_c17,Rt,r_t_v1,bx5,bx10,o23,o24,o26,bx35,o_W2_c1,bx853,r867,bx884,o898,bx901,hU⟩ back0_c17
      have hU0:=hU.j0
      have hU1:=hU.j1
      have hUl:=hU.len
      refine av (a9 (a6 rfl (mz zs1_c17 (lx (cV (m:=jU) (n:=1) rfl rfl (by omega)) (lx (nS (m:=jU-1) (n:=2) rfl rfl (by omega) (by omega)) (ai (Int.tdiv (jU-1) 2) (af (a9 (a9 ?_)))))))))
      refine a6 rfl (mi (Int.tdiv (jU-1) 2) (mz zs1_c17 (lx (cw (m:=Int.tdiv (jU-1) 2) (n:=jU) rfl rfl) (mv (vb (decide ((Int.tdiv (jU-1) 2)=jU))) ?_))))
      by_cases q11_c17:(Int.tdiv (jU-1) 2)=jU
      ·
       refine ag (wn (dt q11_c17)) (ag (wn (dt q11_c17)) (ag (wn (dt q11_c17)) (ag (wn (dt q11_c17)) (ag (wn (dt q11_c17)) (lw (vb true) (az rfl (dt q11_c17) rfl) (af (aj rfl rfl (aM rfl (bU (vs:=[]) Try.func38 .nil ?_)))))))))
       refine⟨(xu,g910),rfl,bH,Rt,r_t_v1,bx5,bx10,o23,o24,o26,bx35,o_W2_c1,bx853,r867,bx884,o898,bx901,?_⟩
       show xu=jz (q2++([(((gI xj ((xj.length:Int)-1)).1)+((gI Wf (gI (gI O2_c1 ((gI xj ((xj.length:Int)-1)).2)) (k:Int))).2.2+gI Pf ((gI xj ((xj.length:Int)-1)).2)-gI Pf (gI Wf (gI (gI O2_c1 ((gI xj ((xj.length:Int)-1)).2)) (k:Int))).1),(gI Wf (gI (gI O2_c1 ((gI xj ((xj.length:Int)-1)).2)) (k:Int))).1)]:List Pt))
       exact hU.end1 ‹_›
      have htd_c17:=dA hU0 q11_c17
      refine lv (Value.iface 62 (vp b767 0)) (wy (df q11_c17)) (ah zs0_c17) (lv (vi jU) (wy (df q11_c17)) (ah zs1_c17) (lv (vi (Int.tdiv (jU-1) 2)) (wy (df q11_c17)) (ah rfl) (cQ (wy (df q11_c17)) (bE (v:=vb (decide (cf (gI xu jU) (gI xu (Int.tdiv (jU-1) 2))))) (bK (T:=62) (v:=vp b767 0) (u:=v896) (vals:=[vi jU,vi (Int.tdiv (jU-1) 2)]) rfl (λn=>bk d9 (bg ch (by rw[bx901.cell];rfl))) Try.func55 fx fH rfl) (dr w909 xu v896 (o898.flat).ro jU (Int.tdiv (jU-1) 2) (by omega) (by(have:=dA hU0 ‹_›;omega))) ?_))))
      intro w911 hb912
      replace hb912:=aB hb912 g910
      refine lv (vb (!(decide (cf (gI xu jU) (gI xu (Int.tdiv (jU-1) 2)))))) (wy (df q11_c17)) (cz (b:=(decide (cf (gI xu jU) (gI xu (Int.tdiv (jU-1) 2))))) rfl) (lw (vb (!(decide (cf (gI xu jU) (gI xu (Int.tdiv (jU-1) 2)))))) (aH rfl (df q11_c17) rfl) (af ?_))
      by_cases p1_c17:(decide (cf (gI xu jU) (gI xu (Int.tdiv (jU-1) 2))))=true
      ·
       refine am rfl (congrArg Bool.not p1_c17) (au (a9 (a6 rfl (mz zs0_c17 (mi (Int.tdiv (jU-1) 2) (mz zs1_c17 (lo ?_)))))))
       replace bx901:=bx901.cn hb912
       refine c6 (bK (T:=62) (v:=vp b767 0) (u:=v896) (vals:=[vi (Int.tdiv (jU-1) 2),vi jU]) rfl (λn=>bk d7 (bg ch (by rw[bx901.cell];rfl))) Try.func58 fA fC rfl) (aC Try.func58 rfl nq ?_)
       replace o898:=o898.cn hb912
       refine aL g910 [0,1,2,3,4,5,6,7,8,9,10,11,12,14] cD ?_
       intro w914 ch913
       refine xp (v:=v896) 0 rfl (λw=>ah rfl) (xp (v:=vi (Int.tdiv (jU-1) 2)) 1 rfl (λw=>ah rfl) (xp (v:=v896) 2 rfl (λw=>ah rfl) (xp (v:=vi jU) 3 rfl (λw=>ah rfl) (xp (v:=v896) 4 rfl (λw=>ah rfl) (xp (v:=vi jU) 5 rfl (λw=>ah rfl) ?_)))))
       replace o898:=o898.cn ch913
       refine xv 6 [5,4,3,2,1,0,8,9,10,11] rfl (aa (v:=v896) (i:=jU) dD rfl rfl o898.flat rfl (by omega) (by omega)) (xv (v:=vg [vi ((gI xu jU).1),vi ((gI xu jU).2)]) 7 [6,5,4,3,2,1,0,8,9,10,11] rfl (bh (v:=v896) (i:=jU) bG rfl o898.flat (by omega) (by omega) rfl) (xp (v:=v896) 8 rfl (λw=>ah rfl) (xp (v:=vi (Int.tdiv (jU-1) 2)) 9 rfl (λw=>ah rfl) (xv 10 [9,8,7,6,5,4,3,2,1,0] rfl (aa (v:=v896) (i:=Int.tdiv (jU-1) 2) dD rfl rfl o898.flat rfl (by omega) (by omega)) ?_))))
       refine xv (v:=vg [vi ((gI xu (Int.tdiv (jU-1) 2)).1),vi ((gI xu (Int.tdiv (jU-1) 2)).2)]) 11 [10,9,8,7,6,5,4,3,2,1,0] rfl (bh (v:=v896) (i:=Int.tdiv (jU-1) 2) bG rfl o898.flat (by omega) (by omega) rfl) (xv 12 [11,10,9,8,7,6,5,4,3,2,1,0] rfl (aa (v:=v896) (i:=Int.tdiv (jU-1) 2) dD rfl rfl o898.flat rfl (by omega) (by omega)) (aD 13 rfl (by kernel_rfl) rfl (aK (i:=Int.tdiv (jU-1) 2) (gI xu jU) bG rfl rfl o898 (by omega) (by omega) rfl ?_)))
       intro w915 ch916 bx917
       clear o898
       refine xv 14 [13,12,11,10,9,8,7,6,5,4,3,2,1,0] rfl (aa (v:=v896) (i:=jU) dD rfl rfl bx917.flat rfl (by omega) (by(simp only[List.length_set,List.length_append,List.length_cons,List.length_nil,List.length_replicate,List.length_map,List.length_take,List.length_drop];omega))) (aD 15 rfl (by kernel_rfl) rfl (aK (i:=jU) (gI xu (Int.tdiv (jU-1) 2)) bG rfl rfl bx917 (by omega) (by(simp only[List.length_set,List.length_append,List.length_cons,List.length_nil,List.length_replicate,List.length_map,List.length_take,List.length_drop];omega)) rfl ?_))
       intro w918 ch919 bx920
       clear bx917
       refine bc (by kernel_rfl) (bU (vs:=[]) Try.func58 .nil ?_)
       refine⟨vt [],rfl,?_⟩
       refine af (a6 rfl (mi (Int.tdiv (jU-1) 2) (ai (Int.tdiv (jU-1) 2) (af (aq ?_)))))
       have C922:=cg [27] (ch913.n.seq ((ch916.l rfl).seq (ch919.l rfl)))
       have C921:=hb912.n.seq C922
       refine back0_c17 (Int.tdiv (jU-1) 2,(List.set (List.set xu (Int.toNat (Int.tdiv (jU-1) 2)) (gI xu jU)) (Int.toNat jU) (gI xu (Int.tdiv (jU-1) 2))),g910) _ _ ⟨bH.ca C921,zs0_c17,rfl,Rt.ca C921,r_t_v1.ca C921,bx5.ca C921,bx10.ca C921,o23.ca C921,o24.ca C921,o26.ca C921,bx35.ca C921,o_W2_c1.ca C921,bx853.ca C921,r867.chg C921 (e7 rfl) (e7 rfl),bx884.ca C921,bx920,bx901.ca C922,?_⟩ ?_
       · show gn (q2++([(((gI xj ((xj.length:Int)-1)).1)+((gI Wf (gI (gI O2_c1 ((gI xj ((xj.length:Int)-1)).2)) (k:Int))).2.2+gI Pf ((gI xj ((xj.length:Int)-1)).2)-gI Pf (gI Wf (gI (gI O2_c1 ((gI xj ((xj.length:Int)-1)).2)) (k:Int))).1),(gI Wf (gI (gI O2_c1 ((gI xj ((xj.length:Int)-1)).2)) (k:Int))).1)]:List Pt)) (List.set (List.set xu (Int.toNat (Int.tdiv (jU-1) 2)) (gI xu jU)) (Int.toNat jU) (gI xu (Int.tdiv (jU-1) 2))) (Int.tdiv (jU-1) 2)
         exact hU.next ‹_› ‹_›
       · show(Int.tdiv (jU-1) 2).toNat<jU.toNat
         (have:=dA hU0 ‹_›;omega)
      refine aj rfl (congrArg Bool.not (Bool.eq_false_iff.2 p1_c17)) (aM rfl (bU (vs:=[]) Try.func38 .nil ?_))
      replace bH:=bH.cn hb912
      replace Rt:=Rt.cn hb912
      replace r_t_v1:=r_t_v1.cn hb912
      replace bx5:=bx5.cn hb912
      replace bx10:=bx10.cn hb912
      replace o23:=o23.cn hb912
      replace o24:=o24.cn hb912
      replace o26:=o26.cn hb912
      replace bx35:=bx35.cn hb912
      replace o_W2_c1:=o_W2_c1.cn hb912
      replace bx853:=bx853.cn hb912
      replace r867:=r867.cn hb912
      replace bx884:=bx884.cn hb912
      replace o898:=o898.cn hb912
      replace bx901:=bx901.cn hb912
      refine⟨(xu,g910),rfl,bH,Rt,r_t_v1,bx5,bx10,o23,o24,o26,bx35,o_W2_c1,bx853,r867,bx884,o898,bx901,?_⟩
      show xu=jz (q2++([(((gI xj ((xj.length:Int)-1)).1)+((gI Wf (gI (gI O2_c1 ((gI xj ((xj.length:Int)-1)).2)) (k:Int))).2.2+gI Pf ((gI xj ((xj.length:Int)-1)).2)-gI Pf (gI Wf (gI (gI O2_c1 ((gI xj ((xj.length:Int)-1)).2)) (k:Int))).1),(gI Wf (gI (gI O2_c1 ((gI xj ((xj.length:Int)-1)).2)) (k:Int))).1)]:List Pt))
      exact hU.end2 ‹_› ‹_›
     clear Rt r_t_v1 bx5 bx10 o23 o24 o26 bx35 o_W2_c1 bx853 r867 bx884 o898 bx901 bH
     rintro⟨xpU,g924⟩ w923 ⟨bH,Rt,r_t_v1,bx5,bx10,o23,o24,o26,bx35,o_W2_c1,bx853,r867,bx884,o898,bx901,hxp⟩
     refine af (bU (vs:=[]) Try.func36 .nil ?_)
     refine⟨vt [],rfl,?_⟩
     refine af (aq (a6 rfl (lx (aP (m:=↑k) (n:=1) zs71_c7 rfl (by omega)) (mi ((k:Int)+1) (af ?_)))))
     refine back12_c7 (v896,xpU,k+1,(List.set fr2 (Int.toNat ((gI Wf (gI (gI O2_c1 ((gI xj ((xj.length:Int)-1)).2)) (k:Int))).1)) (((gI xj ((xj.length:Int)-1)).1)+((gI Wf (gI (gI O2_c1 ((gI xj ((xj.length:Int)-1)).2)) (k:Int))).2.2+gI Pf ((gI xj ((xj.length:Int)-1)).2)-gI Pf (gI Wf (gI (gI O2_c1 ((gI xj ((xj.length:Int)-1)).2)) (k:Int))).1))),g924) _ _ ⟨bH,zs0_c7,zs4_c7,zs5_c7,zs69_c7,zs70_c7,rfl,Rt,r_t_v1,bx5,bx10,o23,o24,o26,bx35,o_W2_c1,bx884,bx901,bx853,r867,o898,by omega,?_⟩ ?_
     · show kt (t.1+2) t.1 (1048576+(t.1+2)*1048576) Wf O2_c1 Pf (dc (t.1+2) t.1 Wf O2_c1 Pf) (List.set fr2 (Int.toNat ((gI Wf (gI (gI O2_c1 ((gI xj ((xj.length:Int)-1)).2)) (k:Int))).1)) (((gI xj ((xj.length:Int)-1)).1)+((gI Wf (gI (gI O2_c1 ((gI xj ((xj.length:Int)-1)).2)) (k:Int))).2.2+gI Pf ((gI xj ((xj.length:Int)-1)).2)-gI Pf (gI Wf (gI (gI O2_c1 ((gI xj ((xj.length:Int)-1)).2)) (k:Int))).1))) xpU (gI xj ((xj.length:Int)-1)) (k+1) (ek (fr,qq))
       exact hrv.yes hbd ‹_› ‹_› ‹_› rfl rfl (hxp.trans (lB _ _).symm)
     · show Int.toNat (((List.length (gI O2_c1 ((gI xj ((xj.length:Int)-1)).2)):Int):Int)-((k+1):Int))<Int.toNat (((List.length (gI O2_c1 ((gI xj ((xj.length:Int)-1)).2)):Int):Int)-(k:Int))
       omega
    refine am rfl (df p15_c7) (au (aq (a6 rfl (lx (aP (m:=↑k) (n:=1) zs71_c7 rfl (by omega)) (mi ((k:Int)+1) (af ?_))))))
    replace bH:=bH.cn ch878
    refine back12_c7 (q2_v,q2,k+1,fr2,g877) _ _ ⟨bH.cn hc881,zs0_c7,zs4_c7,zs5_c7,zs69_c7,zs70_c7,rfl,(Rt.cn ch878).cn hc881,(r_t_v1.cn ch878).cn hc881,(bx5.cn ch878).cn hc881,(bx10.cn ch878).cn hc881,(o23.cn ch878).cn hc881,o24.cn hc881,(o26.cn ch878).cn hc881,bx35,o_W2_c1,bx759,(bx845.cn ch878).cn hc881,bx853.cn hc881,(r867.cn ch878).cn hc881,(o_q2.cn ch878).cn hc881,by omega,?_⟩ ?_
    · show kt (t.1+2) t.1 (1048576+(t.1+2)*1048576) Wf O2_c1 Pf (dc (t.1+2) t.1 Wf O2_c1 Pf) fr2 q2 (gI xj ((xj.length:Int)-1)) (k+1) (ek (fr,qq))
      exact hrv.no ‹_› (λh=>absurd h.2 ‹_›)
    · show Int.toNat (((List.length (gI O2_c1 ((gI xj ((xj.length:Int)-1)).2)):Int):Int)-((k+1):Int))<Int.toNat (((List.length (gI O2_c1 ((gI xj ((xj.length:Int)-1)).2)):Int):Int)-(k:Int))
      omega
   refine ag (wn (df q100_c7)) (ag (wn (df q100_c7)) (ag (wn (df q100_c7)) (ag (wn (df q100_c7)) (ag (wn (df q100_c7)) (ag (wn (df q100_c7)) (ag (wn (df q100_c7)) (ag (wn (df q100_c7)) (ag (wn (df q100_c7)) (lw (vb false) (aH rfl (df q100_c7) rfl) ?_)))))))))
   refine af (am rfl rfl (au (aq (a6 rfl (lx (aP (m:=↑k) (n:=1) zs71_c7 rfl (by omega)) (mi ((k:Int)+1) (af ?_)))))))
   replace bH:=bH.cn ch878
   refine back12_c7 (q2_v,q2,k+1,fr2,g877) _ _ ⟨bH.cn hc881,zs0_c7,zs4_c7,zs5_c7,zs69_c7,zs70_c7,rfl,(Rt.cn ch878).cn hc881,(r_t_v1.cn ch878).cn hc881,(bx5.cn ch878).cn hc881,(bx10.cn ch878).cn hc881,(o23.cn ch878).cn hc881,o24.cn hc881,(o26.cn ch878).cn hc881,bx35,o_W2_c1,(bx759.cn ch878).cn hc881,(bx845.cn ch878).cn hc881,bx853.cn hc881,(r867.cn ch878).cn hc881,(o_q2.cn ch878).cn hc881,by omega,?_⟩ ?_
   · show kt (t.1+2) t.1 (1048576+(t.1+2)*1048576) Wf O2_c1 Pf (dc (t.1+2) t.1 Wf O2_c1 Pf) fr2 q2 (gI xj ((xj.length:Int)-1)) (k+1) (ek (fr,qq))
     exact hrv.no ‹_› (λh=>absurd h.1 ‹_›)
   · show Int.toNat (((List.length (gI O2_c1 ((gI xj ((xj.length:Int)-1)).2)):Int):Int)-((k+1):Int))<Int.toNat (((List.length (gI O2_c1 ((gI xj ((xj.length:Int)-1)).2)):Int):Int)-(k:Int))
     omega
  refine am rfl (df p12_c7) (aM rfl (aq ?_))
  refine back8_c7 (q2_v,q2,fr2,g877) _ _ ⟨bH,zs0_c7,zs4_c7,Rt,r_t_v1,bx5,bx10,o23,o24,o26,bx35,o_W2_c1,bx759,bx845,o_q2,?_⟩ ?_
  · show iW (t.1+2) t.1 (1048576+(t.1+2)*1048576) Wf O2_c1 Pf (dc (t.1+2) t.1 Wf O2_c1 Pf) fr2 q2
    exact(hrv.done (by omega)).1
  · show ek (fr2,q2)<ek (fr,qq)
    exact(hrv.done (by omega)).2
 refine am rfl (df p8_c7) (aM rfl (a9 (a9 ?_)))
 clear bx769 o_qq
 refine bt g774 rfl cD (by kernel_rfl) ?_
 intro w926 ch925
 refine qz zs0_c7 (qv (vp b33 0) (λw' hw'=>ad rfl) (qx (λw' hw'=>a7 bB rfl rfl rfl rfl) ?_))
 replace bx35:=(bx35.cn hb776).cn ch925
 refine qx (λw' hw'=>a8 ao rfl (bx35.bel hw') rfl) (qz zs0_c7 (qv (vp b33 0) (λw' hw'=>ad rfl) (qx (λw' hw'=>a7 bB rfl rfl rfl rfl) (qx (λw' hw'=>a8 ae rfl (bx35.bel hw') rfl) ?_))))
 replace bx759:=(bx759.cn hb776).cn ch925
 refine qx (λw' hw'=>aa (v:=v29) (i:=t.1+1) aW rfl rfl (bx759.flat.bel hw') rfl (by omega) (by omega)) (qx (λw' hw'=>ay (v:=v29) (i:=t.1+1) ae rfl (bx759.flat.bel hw') (by omega) (by omega) (by decide) rfl) (qx (λw' hw'=>cw (m:=(gI fr (t.1+1))) (n:=1152921504606846976) rfl rfl) (bX ?_)))
 intro w927 hc928
 replace hc928:=aB hc928 g774
 by_cases p19_c7:(gI fr (t.1+1))=1152921504606846976
 ·
  refine aj rfl (dt p19_c7) (a9 (a6 rfl (ma (vb false) (af (aF (vs:=[vb false]) Try.func30 (.tmp rfl .nil) ?_)))))
  have C929:=cg [] (hb776.n.seq (ch925.n.seq hc928.n))
  replace bH:=bH.ca C929
  replace Rt:=Rt.ca C929
  replace r_t_v1:=r_t_v1.ca C929
  replace bx5:=bx5.ca C929
  replace bx10:=bx10.ca C929
  replace o23:=o23.ca C929
  replace o24:=o24.ca C929
  replace bx759:=bx759.cn hc928
  replace o26:=o26.ca C929
  replace bx35:=bx35.cn hc928
  replace o_W2_c1:=o_W2_c1.ca C929
  refine⟨(fr,Pf,false,g774),rfl,bH,Rt,r_t_v1,bx5,bx10,o23,o24,bx759,o26,bx35,o_W2_c1,?_⟩
  show nL (t.1+2) t.1 (t.1+1) Wf O2_c1 Pf false fr Pf
  exact⟨hrc.end_ (by omega),.inr ⟨rfl,by assumption,rfl⟩⟩
 refine am rfl (df p19_c7) (au (a9 (a9 (a6 rfl (mz zs0_c7 (lw (vp b33 0) (ad rfl) (lx (a7 bB rfl rfl rfl rfl) ?_)))))))
 replace bx35:=bx35.cn hc928
 refine lx (a8 ao rfl bx35 rfl) ?_
 have C930:=cg [] (hb776.n.seq (ch925.n.seq hc928.n))
 replace o24:=o24.ca C930
 have len931:=(o24.flat).small
 refine lx (ba aW rfl o24.flat) (mi 0 (af (av ?_)))
 refine aX (σ:=Nat×(List Int)×aG) (λ⟨v3,pt3,gq⟩ f w=>b9 w0 gq w/\f 0=vp b33 0/\f 141=vi (Pf.length:Int)/\f 142=vi ↑v3/\Sl gq (is 0) w t_v t.2.1/\Sl gq (is 0) w t_v1 t.2.2/\Bx gq (is 1) w b3 [vi t.1,t_v,t_v1]/\Bx gq (is 2) w b8 [vn,vn,vi 0]/\bN gq 4 w v27 O2_c1/\Ow gq (is 5) (is 5) w v28 pt3/\Ow gq (is 7) (is 7) w v30 Nf/\Bx gq (is 8) w b33 [W2_c1_v,v27,v28,v29,v30,vi t.1,vi (t.1+1),vi ak_c1,vi fl]/\Ow gq (is 12) (is 12) w W2_c1_v Wf/\Ow gq (is 6) (is 6) w v29 fr/\(v3:Int)<=((Pf.length:Int):Int)/\(me Pf fr (gI fr (t.1+1)) v3 pt3)) (λ⟨v3,pt3,gq⟩=>Int.toNat (((Pf.length:Int):Int)-(v3:Int))) (0,Pf,g774) ?_ ?_
 · exact⟨bH.ca C930,zs0_c7,rfl,rfl,Rt.ca C930,r_t_v1.ca C930,bx5.ca C930,bx10.ca C930,o23.ca C930,o24,o26.ca C930,bx35,o_W2_c1.ca C930,bx759.cn hc928,by omega,by exact me.start⟩
 clear Rt r_t_v1 bx5 bx10 o23 o24 o26 bx35 o_W2_c1 bx759 bH
 rintro⟨v3,pt3,g934⟩ f932 w933 ⟨bH,zs0_c7,zs141_c7,zs142_c7,Rt,r_t_v1,bx5,bx10,o23,o24,o26,bx35,o_W2_c1,bx759,hle_v3,htu⟩ back22_c7
 have htul:=htu.ln
 refine a9 (a6 rfl (lx (bo (m:=↑v3) (n:=(Pf.length:Int)) zs142_c7 zs141_c7) (af (a9 ?_))))
 by_cases p22_c7:(v3:Int)<(Pf.length:Int)
 ·
  refine aj rfl (dt p22_c7) ?_
  have hfv1:=hrc.a.i.fb hbd (v:=(v3:Int)) (by omega) (by omega)
  have hfv2:=hrc.a.i.fb hbd (v:=t.1+1) (by omega) (by omega)
  have hpo3:=hbd.pot (by omega) (v:=(v3:Int)) (by omega) (by omega)
  have hnow:=htu.now (by omega)
  refine au (a9 (av (a9 (a6 rfl (mz zs142_c7 (ai (v3:Int) (af (aL g934 [0,1,2,3,4,5,6,7,8,9,10,11,12,13,14,15,16,17,18,19,20,21,22,23,24,25,26] cD ?_))))))))
  intro w936 ch935
  refine xp (v:=vp b33 0) 0 rfl (λw=>ah zs0_c7) (xp (v:=vp b33 0) 1 rfl (λw=>ad rfl) (xp 2 rfl (λw=>a7 bB rfl rfl rfl rfl) ?_))
  replace bx35:=bx35.cn ch935
  refine xv 3 [2,1,0,4,7,11,14,18,8,15,19,9,16,20,10,17,21,12,22,13,23,24] rfl (a8 ao rfl bx35 rfl) (xp (v:=vi ↑v3) 4 rfl (λw=>ah rfl) ?_)
  replace o24:=o24.cn ch935
  refine xv 5 [4,3,2,1,0,7,11,14,18,8,15,19,9,16,20,10,17,21,12,22,13,23,24] rfl (aa (v:=v28) (i:=↑v3) aW rfl rfl o24.flat rfl (by omega) (by omega)) (xv 6 [5,4,3,2,1,0,7,11,14,18,8,15,19,9,16,20,10,17,21,12,22,13,23,24] rfl (ay (v:=v28) (i:=↑v3) ae rfl o24.flat (by omega) (by omega) (by decide) rfl) (xp (v:=vp b33 0) 7 rfl (λw=>ah zs0_c7) (xp (v:=vp b33 0) 8 rfl (λw=>ad rfl) (xp 9 rfl (λw=>a7 bB rfl rfl rfl rfl) (xv 10 [9,8,7,6,5,4,3,2,1,0,11,14,18,15,19,16,20,17,21,22,23] rfl (a8 ao rfl bx35 rfl) (xp (v:=vi ↑v3) 11 rfl (λw=>ah rfl) ?_))))))
  replace bx759:=bx759.cn ch935
  refine xv 12 [11,10,9,8,7,6,5,4,3,2,1,0,14,18,15,19,16,20,17,21,22,23] rfl (aa (v:=v29) (i:=↑v3) aW rfl rfl bx759.flat rfl (by omega) (by omega)) (xv 13 [12,11,10,9,8,7,6,5,4,3,2,1,0,14,18,15,19,16,20,17,21,22,23] rfl (ay (v:=v29) (i:=↑v3) ae rfl bx759.flat (by omega) (by omega) (by decide) rfl) (xp (v:=vp b33 0) 14 rfl (λw=>ah zs0_c7) (xp (v:=vp b33 0) 15 rfl (λw=>ad rfl) (xp 16 rfl (λw=>a7 bB rfl rfl rfl rfl) (xv 17 [16,15,14,13,12,11,10,9,8,7,6,5,4,3,2,1,0,18,19,20,21] rfl (a8 ao rfl bx35 rfl) (xp (v:=vp b33 0) 18 rfl (λw=>ah zs0_c7) ?_))))))
  refine xp (v:=vp b33 0) 19 rfl (λw=>ad rfl) (xp 20 rfl (λw=>a7 bB rfl rfl rfl rfl) (xv 21 [20,19,18,17,16,15,14,13,12,11,10,9,8,7,6,5,4,3,2,1,0] rfl (a8 ae rfl bx35 rfl) (xv 22 [21,20,19,18,17,16,15,14,13,12,11,10,9,8,7,6,5,4,3,2,1,0] rfl (aa (v:=v29) (i:=t.1+1) aW rfl rfl bx759.flat rfl (by omega) (by omega)) (xv 23 [22,21,20,19,18,17,16,15,14,13,12,11,10,9,8,7,6,5,4,3,2,1,0] rfl (ay (v:=v29) (i:=t.1+1) ae rfl bx759.flat (by omega) (by omega) (by decide) rfl) (xp (v:=vi (min (gI fr ↑v3) (gI fr (t.1+1)))) 24 rfl (λw=>lD rfl rfl) (xp 25 rfl (λw=>aP (m:=(gI pt3 ↑v3)) (n:=min (gI fr ↑v3) (gI fr (t.1+1))) rfl rfl (by omega)) ?_))))))
  refine xv 26 [25,24,23,22,21,20,19,18,17,16,15,14,13,12,11,10,9,8,7,6,5,4,3,2,1,0] rfl (aa (v:=v28) (i:=↑v3) aW rfl rfl o24.flat rfl (by omega) (by omega)) (aD 27 rfl (by kernel_rfl) rfl (aK (i:=↑v3) ((gI pt3 ↑v3)+(min (gI fr ↑v3) (gI fr (t.1+1)))) ae rfl rfl o24 (by omega) (by omega) rfl ?_))
  intro w937 ch938 bx939
  clear o24
  refine bc (by kernel_rfl) (aq (a6 rfl (lx (aP (m:=↑v3) (n:=1) zs142_c7 rfl (by omega)) (mi ((v3:Int)+1) (af ?_)))))
  replace bH:=bH.cn ch935
  refine back22_c7 (v3+1,(List.set pt3 (Int.toNat ↑v3) ((gI pt3 ↑v3)+(min (gI fr ↑v3) (gI fr (t.1+1))))),g934) _ _ ⟨bH.ce ch938,zs0_c7,zs141_c7,rfl,(Rt.cn ch935).ce ch938,(r_t_v1.cn ch935).ce ch938,(bx5.cn ch935).ce ch938,(bx10.cn ch935).ce ch938,(o23.cn ch935).ce ch938,bx939,(o26.cn ch935).ce ch938,bx35.ce ch938,(o_W2_c1.cn ch935).ce ch938,bx759.ce ch938,by omega,?_⟩ ?_
  · show me Pf fr (gI fr (t.1+1)) (v3+1) (List.set pt3 (Int.toNat ↑v3) ((gI pt3 ↑v3)+(min (gI fr ↑v3) (gI fr (t.1+1)))))
    exact htu.next (by omega) rfl
  · show Int.toNat (((Pf.length:Int):Int)-((v3+1):Int))<Int.toNat (((Pf.length:Int):Int)-(v3:Int))
    omega
 refine am rfl (df p22_c7) (aM rfl (a9 (a6 rfl (ma (vb true) (af (aF (vs:=[vb true]) Try.func30 (.tmp rfl .nil) ?_))))))
 refine⟨(fr,pt3,true,g934),rfl,bH,Rt,r_t_v1,bx5,bx10,o23,o24,bx759,o26,bx35,o_W2_c1,?_⟩
 show nL (t.1+2) t.1 (t.1+1) Wf O2_c1 Pf true fr pt3
 exact⟨hrc.end_ (by omega),.inl ⟨rfl,by assumption,htu.done (by omega)⟩⟩
end TL
