import Derived.Test.YtbadiajeohbpcaaGreatTlP3
import Derived.Test.YtbadiajeohbpcaaGreatTlGmA
import Derived.Test.YtbadiajeohbpcaaGreatTlGmN
import Derived.Test.YtbadiajeohbpcaaGreatProg
import Derived.Test.YtbadiajeohbpcaaGreatTlAli
set_option linter.all false
set_option maxRecDepth 20000
namespace TL
open Go Go.Proofs
theorem jJ:Tryz.prog.follows .mixedOrders=true:=by kernel_rfl
theorem rJ:Tryz.f75.body.isNone=false:=rfl
theorem sa:(Tryz.f75.name== "runtime.NumGoroutine")=false:=by decide+kernel
theorem kZ:Tryz.f92.body.isNone=false:=rfl
theorem lg:(Tryz.f92.name== "runtime.NumGoroutine")=false:=by decide+kernel
theorem j8(w0:World)(p:Pt):
    Calls Tryz.prog 92 #[vg [vi p.1,vi p.2]] w0 (λee w=>ee= .returned (vi (bm p))/\cE w0.heap.size w0 w):=by
 refine au Tryz.func92 rfl nq ?_
 have bH:=aT.start w0
 refine a7 (a6 rfl (bW rfl (bh c0 (is 1) (1,0) rfl rfl ?_)))
 intro g4 w1 b3 ch2 bx5
 replace bx5:Bx g4 (is 1) w1 b3 [vi p.1,vi p.2]:=bx5
 refine ai 0 (aa (a7 (a7 (a6 rfl (lx (a8 cj rfl rfl rfl rfl) (lx (ab az rfl bx5 rfl) (lx (d8 (m:=p.1) (n:=0) rfl rfl) (mv (vb (decide (0<p.1))) ?_))))))))
 by_cases q6:0<p.1
 ·
  refine ae (wn (dt q6)) (ae (wn (dt q6)) (ae (wn (dt q6)) (ae (wn (dt q6)) (ae (aW rfl rfl rfl) (ae (aW rfl rfl rfl) (ae (aW rfl rfl rfl) (ae (wn (dt q6)) (lw (vb true) (aD rfl (dt q6) rfl) (aa ?_)))))))))
  refine af rfl rfl (a7 ?_)
  clear bx5
  refine a6 rfl (ai 0 (aa (ar (vs:=[vi 0]) Tryz.func92 (.tmp rfl .nil) ?_)))
  have e0:(0:Int)=(bm p):=by
    unfold bm
    rw[if_pos (by omega)]
  replace bH:=bH.cn ch2
  exact⟨ri e0,bH.below⟩
 refine lv (vp b3 0) (wy (df q6)) (a8 cj rfl rfl rfl rfl) (lv (vi p.1) (wy (df q6)) (ab az rfl bx5 rfl) (lv (vb (decide (p.1=0))) (wy (df q6)) (c7 (m:=p.1) (n:=0) rfl rfl) (lv (vb (decide (p.1=0))) (wy (df q6)) (aq rfl) ?_)))
 by_cases q10:p.1=0
 ·
  refine lv (vp b3 1) (wy (dt q10)) (a8 cj rfl rfl rfl rfl) (lv (vi p.2) (wy (dt q10)) (ab az rfl bx5 rfl) (lv (vb (decide (0<p.2))) (wy (dt q10)) (d8 (m:=p.2) (n:=0) rfl rfl) (lv (vb (decide (0<p.2))) (wy (df q6)) (aD rfl (dt q10) rfl) (lw (vb (decide (0<p.2))) (aB rfl (df q6) rfl) (aa ?_)))))
  by_cases p1:0<p.2
  ·
   refine af rfl (dt p1) (a7 ?_)
   clear bx5
   refine a6 rfl (ai 0 (aa (ar (vs:=[vi 0]) Tryz.func92 (.tmp rfl .nil) ?_)))
   have e0:(0:Int)=(bm p):=by
     unfold bm
     rw[if_pos (by omega)]
   replace bH:=bH.cn ch2
   exact⟨ri e0,bH.below⟩
  refine ag rfl (df p1) (ak (a7 ?_))
  clear bx5
  refine a6 rfl (ai 1 (aa (ar (vs:=[vi 1]) Tryz.func92 (.tmp rfl .nil) ?_)))
  have e0:(1:Int)=(bm p):=by
    unfold bm
    rw[if_neg (by omega)]
  replace bH:=bH.cn ch2
  exact⟨ri e0,bH.below⟩
 refine ae (wn (df q10)) (ae (wn (df q10)) (ae (wn (df q10)) (lv (vb false) (wy (df q6)) (aB rfl (df q10) rfl) (lw (vb false) (aB rfl (df q6) rfl) (aa (ag rfl rfl (ak (a7 ?_))))))))
 clear bx5
 refine a6 rfl (ai 1 (aa (ar (vs:=[vi 1]) Tryz.func92 (.tmp rfl .nil) ?_)))
 have e0:(1:Int)=(bm p):=by
   unfold bm
   rw[if_neg (by omega)]
 replace bH:=bH.cn ch2
 exact⟨ri e0,bH.below⟩
theorem kT(w0:World)(a:Pt)(b:Pt)(ha:sG a)(hb:sG b):
    Calls Tryz.prog 75 #[vg [vi a.1,vi a.2],vg [vi b.1,vi b.2]] w0 (λee w=>ee= .returned (vi (eJ a b))/\cE w0.heap.size w0 w):=by
 refine au Tryz.func75 rfl nq ?_
 have bH:=aT.start w0
 unfold sG at ha hb
 have h1:=eT ha.1 hb.2
 have h2:=eT ha.2 hb.1
 have h3:bm a=0\/bm a=1:=by unfold bm;split<;>simp
 have h4:bm b=0\/bm b=1:=by unfold bm;split<;>simp
 refine a7 (a6 rfl (bW rfl (bh c0 (is 1) (1,0) rfl rfl ?_)))
 intro g4 w1 b3 ch2 bx5
 replace bx5:Bx g4 (is 1) w1 b3 [vi a.1,vi a.2]:=bx5
 refine lo (bh g4 (is 2) (2,0) rfl rfl ?_)
 intro g9 w6 b8 ch7 bx10
 replace bx10:Bx g9 (is 2) w6 b8 [vi b.1,vi b.2]:=bx10
 refine ai 0 (aa (a7 (a7 (bz g9 rfl jJ (by kernel_rfl) ?_))))
 intro w12 ch11
 replace bx5:=(bx5.cn ch7).cn ch11
 refine qx (λw' hw'=>aj (ds:=[vi a.1,vi a.2]) ah rfl (bx5.bel hw') rfl rfl) (cl (v:=vi (bm a)) rfl (λw' hw'=>aA (vals:=[vg [vi a.1,vi a.2]]) Tryz.func92 kZ lg rfl) (λw' hw'=>(j8 w' a).mono λe w2 h2=>⟨h2.1,hw'.trans (h2.2.mono hw'.size)⟩) ?_)
 replace bx10:=bx10.cn ch11
 refine qx (λw' hw'=>aj (ds:=[vi b.1,vi b.2]) ah rfl (bx10.bel hw') rfl rfl) (cl (v:=vi (bm b)) rfl (λw' hw'=>aA (vals:=[vg [vi b.1,vi b.2]]) Tryz.func92 kZ lg rfl) (λw' hw'=>(j8 w' b).mono λe w2 h2=>⟨h2.1,hw'.trans (h2.2.mono hw'.size)⟩) (qx (λw' hw'=>c5 (m:=bm a) (n:=bm b) rfl rfl) (bN ?_)))
 intro w13 hc14
 replace hc14:=ao hc14 g9
 by_cases p1:(bm a)=(bm b)
 ·
  refine ag rfl (congrArg Bool.not (dt p1)) (ak (a7 (a6 rfl (lx (a8 cj rfl rfl rfl rfl) ?_))))
  replace bx5:=bx5.cn hc14
  refine lx (ab az rfl bx5 rfl) (lx (a8 cj rfl rfl rfl rfl) ?_)
  replace bx10:=bx10.cn hc14
  refine lx (ab az rfl bx10 rfl) (lx (dI (m:=a.1) (n:=b.2) rfl rfl (by omega)) (lx (a8 cj rfl rfl rfl rfl) (lx (ab az rfl bx5 rfl) (lx (a8 cj rfl rfl rfl rfl) (lx (ab az rfl bx10 rfl) (lx (dI (m:=a.2) (n:=b.1) rfl rfl (by omega)) (lx (c3 (m:=a.1*b.2) (n:=a.2*b.1) rfl rfl (by omega)) (lo (aO (v:=vi (bE ((a.1*b.2)-(a.2*b.1)) 0)) (aA (vals:=[vi ((a.1*b.2)-(a.2*b.1))]) Tryz.func93 nU nS rfl) (n4 w13 ((a.1*b.2)-(a.2*b.1))) ?_)))))))))
  intro w15 hb16
  replace hb16:=ao hb16 g9
  refine ai (bE ((a.1*b.2)-(a.2*b.1)) 0) (aa (ar (vs:=[vi (bE ((a.1*b.2)-(a.2*b.1)) 0)]) Tryz.func75 (.tmp rfl .nil) ?_))
  have e0:(bE ((a.1*b.2)-(a.2*b.1)) 0:Int)=(eJ a b):=by
    unfold eJ
    (rw[if_pos ‹_›];rfl)
  have C17:=cg [] (ch2.n.seq (ch7.n.seq (ch11.n.seq (hc14.n.seq hb16.n))))
  replace bH:=bH.ca C17
  exact⟨(congrArg (a₁:=bE ((a.1*b.2)-(a.2*b.1)) 0) (λ(z0:Int)=>Ending.returned (vi z0)) e0),bH.below⟩
 refine af rfl (congrArg Bool.not (df p1)) (a7 (bz g9 rfl jJ (by kernel_rfl) ?_))
 intro w19 ch18
 replace bx5:=(bx5.cn hc14).cn ch18
 refine qx (λw' hw'=>aj (ds:=[vi a.1,vi a.2]) ah rfl (bx5.bel hw') rfl rfl) (cl (v:=vi (bm a)) rfl (λw' hw'=>aA (vals:=[vg [vi a.1,vi a.2]]) Tryz.func92 kZ lg rfl) (λw' hw'=>(j8 w' a).mono λe w2 h2=>⟨h2.1,hw'.trans (h2.2.mono hw'.size)⟩) ?_)
 replace bx10:=(bx10.cn hc14).cn ch18
 refine qx (λw' hw'=>aj (ds:=[vi b.1,vi b.2]) ah rfl (bx10.bel hw') rfl rfl) (cl (v:=vi (bm b)) rfl (λw' hw'=>aA (vals:=[vg [vi b.1,vi b.2]]) Tryz.func92 kZ lg rfl) (λw' hw'=>(j8 w' b).mono λe w2 h2=>⟨h2.1,hw'.trans (h2.2.mono hw'.size)⟩) (qx (λw' hw'=>c3 (m:=bm a) (n:=bm b) rfl rfl (by omega)) (cl (v:=vi (bE ((bm a)-(bm b)) 0)) rfl (λw' hw'=>aA (vals:=[vi ((bm a)-(bm b))]) Tryz.func93 nU nS rfl) (λw' hw'=>(n4 w' ((bm a)-(bm b))).mono λe w2 h2=>⟨h2.1,hw'.trans (h2.2.mono hw'.size)⟩) (qv (vi (bE ((bm a)-(bm b)) 0)) (λw' hw'=>br rfl) (bN ?_)))))
 intro w20 hc21
 replace hc21:=ao hc21 g9
 refine ar (vs:=[vi (bE ((bm a)-(bm b)) 0)]) Tryz.func75 (.tmp rfl .nil) ?_
 have e0:(bE ((bm a)-(bm b)) 0:Int)=(eJ a b):=by
   unfold eJ
   rw[if_neg ‹_›]
 have C22:=cg [] (ch2.n.seq (ch7.n.seq (ch11.n.seq (hc14.n.seq (ch18.n.seq hc21.n)))))
 replace bH:=bH.ca C22
 exact⟨(congrArg (a₁:=bE ((bm a)-(bm b)) 0) (λ(z0:Int)=>Ending.returned (vi z0)) e0),bH.below⟩
set_option maxHeartbeats 8000000 in
theorem ov(w0:World)(o:Pt)(ps:List Pt)(ps_v:Value)(hps_v:Ro w0 ps_v ps)(ho:cC o)(hps:dy ps)(hz:jn o ps):
    Calls Tryz.prog 43 #[vg [vi o.1,vi o.2],ps_v] w0 (λee w=>∃xx:aK×Value,ee= .returned ((λ⟨δ,rv0⟩=>rv0) xx)/\(λ(⟨δ,rv0⟩:aK×Value) (w:World)=>em w0 δ w/\Ow δ (is 1) (is 1) w rv0 (arL o ps)) xx w):=by
 refine au Tryz.func43 rfl nq ?_
 have bH:=aT.start w0
 have Rps:=hps_v.sl
 have hob:=ho
 unfold cC at hob
 refine a7 (a6 rfl (bW rfl (bh c0 (is 1) (1,0) rfl rfl ?_)))
 intro g4 w1 b3 ch2 bx5
 replace bx5:Bx g4 (is 1) w1 b3 [vi o.1,vi o.2]:=bx5
 refine ma vn (aa (a7 (a6 rfl (ma vn (aa (a7 (a7 (a6 rfl (ai 0 (aa (am ?_)))))))))))
 refine aN (σ:=Value×(List Int)×Nat×aK) (λ⟨l1_v,l1,i,gq⟩ f w=>aT w0 gq w/\f 1=ps_v/\f 2=vp b3 0/\f 5=l1_v/\f 6=vi ↑i/\Sl gq (is 0) w ps_v ps/\Bx gq (is 1) w b3 [vi o.1,vi o.2]/\Ow gq (is 4) (is 4) w l1_v l1/\(i:Int)<=((ps.length:Int):Int)/\(qK o ps i l1)) (λ⟨l1_v,l1,i,gq⟩=>Int.toNat (((ps.length:Int):Int)-(i:Int))) (vn,[],0,g4) ?_ ?_
 · exact⟨bH.cn ch2,rfl,rfl,rfl,rfl,Rps.cn ch2,bx5,Ow.nil,by omega,by exact⟨.nil,λx=>by simp⟩⟩
 clear Rps bx5 bH
 rintro⟨l1_v,l1,i,g8⟩ f6 w7 ⟨bH,zs1,zs2,zs5,zs6,Rps,bx5,o_l1,hle_i,har⟩ back3
 refine a7 (a7 (a6 rfl (mz zs6 (mz zs1 ?_))))
 have len9:=(Rps).small
 refine lx (aQ bS rfl Rps) (lx (aZ (m:=↑i) (n:=(ps.length:Int)) rfl rfl) (aa ?_))
 by_cases p3:(i:Int)<(ps.length:Int)
 ·
  refine af rfl (dt p3) ?_
  have hll:=ny hz (by omega) har
  obtain⟨⟨va1,va2⟩,va3,va4⟩:=un (i:=↑i) ho hps (by omega) (by omega)
  obtain⟨va5,va6⟩:=qN (i:=↑i) ho hps (by omega) (by omega)
  have va7:=hps.2 _ (bk (xs:=ps) (i:=↑i) (by omega) (by omega))
  simp only[vA,aY] at va1 va2 va3 va4 va5 va6
  unfold cC at va7
  refine ak (a7 (am (a7 (c6 g8 [0,1,2,3,4,5,6,7,8,9,10,11,12,13,14,15,16] jJ ?_))))
  intro w11 ch10
  refine xp (v:=ps_v) 0 rfl (λw=>aq zs1) (xp (v:=vi ↑i) 1 rfl (λw=>aq zs6) ?_)
  replace Rps:=Rps.cn ch10
  refine xh 2 [1,0,5,8,9,13,17,6,10,14,11,12,15] rfl (λw' hw'=>ad (v:=ps_v) (i:=↑i) bS rfl rfl (Rps.bel hw') rfl (by omega) (by omega)) (xp (v:=Value.pointer (some ⟨(aR ps_v 2 (Int.toNat ↑i)).block,(aR ps_v 2 (Int.toNat ↑i)).off+0,none⟩)) 3 rfl (λw=>ch cj rfl rfl rfl rfl) (xh 4 [3,2,1,0,5,8,9,13,17,6,10,14,11,12,15] rfl (λw' hw'=>bJ (v:=ps_v) (i:=↑i) az rfl (Rps.bel hw') (by omega) (by omega) (by decide) rfl) (xp 5 rfl (λw=>a8 cj rfl rfl zs2 rfl) ?_)))
  replace bx5:=bx5.cn ch10
  refine xh 6 [5,4,3,2,1,0,8,9,13,17,10,14,11,12,15] rfl (λw' hw'=>ab az rfl (bx5.bel hw') rfl) (xp 7 rfl (λw=>c3 (m:=(gI ps ↑i).1) (n:=o.1) rfl rfl (by omega)) (xp (v:=ps_v) 8 rfl (λw=>aq zs1) (xp (v:=vi ↑i) 9 rfl (λw=>aq zs6) (xh 10 [9,8,7,6,5,4,3,2,1,0,13,17,14] rfl (λw' hw'=>ad (v:=ps_v) (i:=↑i) bS rfl rfl (Rps.bel hw') rfl (by omega) (by omega)) (xp (v:=Value.pointer (some ⟨(aR ps_v 2 (Int.toNat ↑i)).block,(aR ps_v 2 (Int.toNat ↑i)).off+1,none⟩)) 11 rfl (λw=>ch cj rfl rfl rfl rfl) (xh 12 [11,10,9,8,7,6,5,4,3,2,1,0,13,17,14] rfl (λw' hw'=>bJ (v:=ps_v) (i:=↑i) az rfl (Rps.bel hw') (by omega) (by omega) (by decide) rfl) ?_))))))
  refine xp 13 rfl (λw=>a8 cj rfl rfl zs2 rfl) (xh 14 [13,12,11,10,9,8,7,6,5,4,3,2,1,0,17] rfl (λw' hw'=>ab az rfl (bx5.bel hw') rfl) (xp 15 rfl (λw=>c3 (m:=(gI ps ↑i).2) (n:=o.2) rfl rfl (by omega)) (xp (v:=vg [vi (((gI ps ↑i).1)-o.1),vi (((gI ps ↑i).2)-o.2)]) 16 rfl (λw=>bw (vs:=[(0,vi (((gI ps ↑i).1)-o.1)),(1,vi (((gI ps ↑i).2)-o.2))]) rfl (by kernel_rfl)) (ct 17 rfl (by kernel_rfl) rfl (aS g8 (is 2) (2,0) rfl ah ?_)))))
  intro g15 w12 b14 ch13 bx16
  replace bx16:Bx g15 (is 2) w12 b14 [vi 0,vi 0]:=bx16
  refine ct 18 rfl (by kernel_rfl) rfl (aw (cs':=[vi (((gI ps ↑i).1)-o.1),vi (((gI ps ↑i).2)-o.2)]) ah rfl rfl bx16 rfl nq (AllOne.all (.cons rfl (.cons rfl .nil))) rfl ?_)
  intro w17 ch18 bx19
  clear bx16
  refine ec (by kernel_rfl) (a7 (a6 rfl (mz zs5 ?_)))
  have C20:=cg [2] (ch10.n.seq (ch13.n.seq (ch18.l rfl)))
  replace o_l1:=o_l1.ca C20
  have len21:=(o_l1.flat).small
  refine lx (aQ cS rfl o_l1.flat) (ai (l1.length:Int) (aa (a7 (am ?_))))
  refine aN (σ:=Int×aK) (λ⟨m,gq⟩ f w=>aT w0 gq w/\f 1=ps_v/\f 2=vp b3 0/\f 5=l1_v/\f 6=vi ↑i/\f 7=vp b14 0/\f 8=vi m/\Sl gq (is 0) w ps_v ps/\Bx gq (is 1) w b3 [vi o.1,vi o.2]/\Ow gq (is 4) (is 4) w l1_v l1/\Bx gq (is 2) w b14 [vi (((gI ps ↑i).1)-o.1),vi (((gI ps ↑i).2)-o.2)]/\((0<=m/\m<=l1.length)/\∀j:Nat,m<=(j:Int)->j<l1.length->jW o ps (i:Int) (gI l1 ↑j))) (λ⟨m,gq⟩=>Int.toNat m) ((l1.length:Int),g15) ?_ ?_
  · exact⟨bH.ca C20,zs1,zs2,zs5,zs6,rfl,rfl,(Rps.cn ch13).ce ch18,(bx5.cn ch13).ce ch18,o_l1,bx19,by exact⟨by omega,λj hj hl=>by omega⟩⟩
  clear Rps bx5 o_l1 bx19 bH
  rintro⟨m,g24⟩ f22 w23 ⟨bH,zs1,zs2,zs5,zs6,zs7,zs8,Rps,bx5,o_l1,bx19,hro⟩ back7
  obtain⟨⟨hm0,hm1⟩,hm2⟩:=hro
  refine a7 (a7 (a6 rfl (mz zs8 (lx (d8 (m:=m) (n:=0) rfl rfl) (aa ?_)))))
  by_cases p7:0<m
  ·
   refine af rfl (dt p7) ?_
   have hg:=(har.2 _).1 (bk (xs:=l1) (i:=m-1) (by omega) (by omega))
   obtain⟨⟨vb1,vb2⟩,vb3,vb4⟩:=un (i:=gI l1 (m-1)) ho hps (by omega) (by omega)
   obtain⟨vb5,vb6⟩:=qN (i:=gI l1 (m-1)) ho hps (by omega) (by omega)
   have vb7:=hps.2 _ (bk (xs:=ps) (i:=gI l1 (m-1)) (by omega) (by omega))
   simp only[vA,aY] at vb1 vb2 vb3 vb4 vb5 vb6
   unfold cC at vb7
   refine ak (am (a7 (c6 g24 [0,1,2,3,4,5,6,7,8,9,10,11,12,13,14,15,16,17,18,19,20,21,22,23,24] jJ ?_)))
   intro w26 ch25
   refine xp (v:=ps_v) 0 rfl (λw=>aq zs1) (xp (v:=l1_v) 1 rfl (λw=>aq zs5) (xp (v:=vi m) 2 rfl (λw=>aq zs8) (xp 3 rfl (λw=>c3 (m:=m) (n:=1) rfl rfl (by omega)) ?_)))
   replace o_l1:=o_l1.cn ch25
   refine xh 4 [3,2,1,0,9,12,13,14,21,25,10,15,22,16,17,18,19,20,23] rfl (λw' hw'=>ad (v:=l1_v) (i:=m-1) cS rfl rfl (o_l1.flat.bel hw') rfl (by omega) (by omega)) (xh 5 [4,3,2,1,0,9,12,13,14,21,25,10,15,22,16,17,18,19,20,23] rfl (λw' hw'=>bA (v:=l1_v) (i:=m-1) az rfl (o_l1.flat.bel hw') (by omega) (by omega) (by decide) rfl) ?_)
   replace Rps:=Rps.cn ch25
   refine xh 6 [5,4,3,2,1,0,9,12,13,14,21,25,10,15,22,16,17,18,19,20,23] rfl (λw' hw'=>ad (v:=ps_v) (i:=(gI l1 (m-1))) bS rfl rfl (Rps.bel hw') rfl (by omega) (by omega)) (xp (v:=Value.pointer (some ⟨(aR ps_v 2 (Int.toNat (gI l1 (m-1)))).block,(aR ps_v 2 (Int.toNat (gI l1 (m-1)))).off+0,none⟩)) 7 rfl (λw=>ch cj rfl rfl rfl rfl) (xh 8 [7,6,5,4,3,2,1,0,9,12,13,14,21,25,10,15,22,16,17,18,19,20,23] rfl (λw' hw'=>bJ (v:=ps_v) (i:=(gI l1 (m-1))) az rfl (Rps.bel hw') (by omega) (by omega) (by decide) rfl) (xp 9 rfl (λw=>a8 cj rfl rfl zs2 rfl) ?_)))
   replace bx5:=bx5.cn ch25
   refine xh 10 [9,8,7,6,5,4,3,2,1,0,12,13,14,21,25,15,22,16,17,18,19,20,23] rfl (λw' hw'=>ab az rfl (bx5.bel hw') rfl) (xp 11 rfl (λw=>c3 (m:=(gI ps (gI l1 (m-1))).1) (n:=o.1) rfl rfl (by omega)) (xp (v:=ps_v) 12 rfl (λw=>aq zs1) (xp (v:=l1_v) 13 rfl (λw=>aq zs5) (xp (v:=vi m) 14 rfl (λw=>aq zs8) (xp 15 rfl (λw=>c3 (m:=m) (n:=1) rfl rfl (by omega)) (xh 16 [15,14,13,12,11,10,9,8,7,6,5,4,3,2,1,0,21,25,22] rfl (λw' hw'=>ad (v:=l1_v) (i:=m-1) cS rfl rfl (o_l1.flat.bel hw') rfl (by omega) (by omega)) (xh 17 [16,15,14,13,12,11,10,9,8,7,6,5,4,3,2,1,0,21,25,22] rfl (λw' hw'=>bA (v:=l1_v) (i:=m-1) az rfl (o_l1.flat.bel hw') (by omega) (by omega) (by decide) rfl) ?_)))))))
   refine xh 18 [17,16,15,14,13,12,11,10,9,8,7,6,5,4,3,2,1,0,21,25,22] rfl (λw' hw'=>ad (v:=ps_v) (i:=(gI l1 (m-1))) bS rfl rfl (Rps.bel hw') rfl (by omega) (by omega)) (xp (v:=Value.pointer (some ⟨(aR ps_v 2 (Int.toNat (gI l1 (m-1)))).block,(aR ps_v 2 (Int.toNat (gI l1 (m-1)))).off+1,none⟩)) 19 rfl (λw=>ch cj rfl rfl rfl rfl) (xh 20 [19,18,17,16,15,14,13,12,11,10,9,8,7,6,5,4,3,2,1,0,21,25,22] rfl (λw' hw'=>bJ (v:=ps_v) (i:=(gI l1 (m-1))) az rfl (Rps.bel hw') (by omega) (by omega) (by decide) rfl) (xp 21 rfl (λw=>a8 cj rfl rfl zs2 rfl) (xh 22 [21,20,19,18,17,16,15,14,13,12,11,10,9,8,7,6,5,4,3,2,1,0,25] rfl (λw' hw'=>ab az rfl (bx5.bel hw') rfl) ?_))))
   refine xp 23 rfl (λw=>c3 (m:=(gI ps (gI l1 (m-1))).2) (n:=o.2) rfl rfl (by omega)) (xp (v:=vg [vi (((gI ps (gI l1 (m-1))).1)-o.1),vi (((gI ps (gI l1 (m-1))).2)-o.2)]) 24 rfl (λw=>bw (vs:=[(0,vi (((gI ps (gI l1 (m-1))).1)-o.1)),(1,vi (((gI ps (gI l1 (m-1))).2)-o.2))]) rfl (by kernel_rfl)) (ct 25 rfl (by kernel_rfl) rfl (aS g24 (is 5) (5,0) rfl ah ?_)))
   intro g30 w27 b29 ch28 bx31
   replace bx31:Bx g30 (is 5) w27 b29 [vi 0,vi 0]:=bx31
   refine ct 26 rfl (by kernel_rfl) rfl (aw (cs':=[vi (((gI ps (gI l1 (m-1))).1)-o.1),vi (((gI ps (gI l1 (m-1))).2)-o.2)]) ah rfl rfl bx31 rfl nq (AllOne.all (.cons rfl (.cons rfl .nil))) rfl ?_)
   intro w32 ch33 bx34
   clear bx31
   refine ec (by kernel_rfl) (a7 (a6 rfl ?_))
   have C35:=cg [5] (ch25.n.seq (ch28.n.seq (ch33.l rfl)))
   replace bx19:=bx19.ca C35
   refine lx (aj (ds:=[vi (((gI ps ↑i).1)-o.1),vi (((gI ps ↑i).2)-o.2)]) ah zs7 bx19 rfl rfl) (lx (aj (ds:=[vi (((gI ps (gI l1 (m-1))).1)-o.1),vi (((gI ps (gI l1 (m-1))).2)-o.2)]) ah rfl bx34 rfl rfl) (lo ?_))
   refine aO (v:=vi (eJ (((gI ps ↑i).1)-o.1,((gI ps ↑i).2)-o.2) (((gI ps (gI l1 (m-1))).1)-o.1,((gI ps (gI l1 (m-1))).2)-o.2))) (aA (vals:=[vg [vi (((gI ps ↑i).1)-o.1),vi (((gI ps ↑i).2)-o.2)],vg [vi (((gI ps (gI l1 (m-1))).1)-o.1),vi (((gI ps (gI l1 (m-1))).2)-o.2)]]) Tryz.func75 rJ sa rfl) (kT w32 (((gI ps ↑i).1)-o.1,((gI ps ↑i).2)-o.2) (((gI ps (gI l1 (m-1))).1)-o.1,((gI ps (gI l1 (m-1))).2)-o.2) (by(unfold sG;simp only;omega)) (by(unfold sG;simp only;omega))) ?_
   intro w36 hb37
   replace hb37:=ao hb37 g30
   refine ai (eJ (((gI ps ↑i).1)-o.1,((gI ps ↑i).2)-o.2) (((gI ps (gI l1 (m-1))).1)-o.1,((gI ps (gI l1 (m-1))).2)-o.2)) (aa (a7 (a7 (a6 rfl (mi (eJ (((gI ps ↑i).1)-o.1,((gI ps ↑i).2)-o.2) (((gI ps (gI l1 (m-1))).1)-o.1,((gI ps (gI l1 (m-1))).2)-o.2)) (lx (d8 (m:=eJ (((gI ps ↑i).1)-o.1,((gI ps ↑i).2)-o.2) (((gI ps (gI l1 (m-1))).1)-o.1,((gI ps (gI l1 (m-1))).2)-o.2)) (n:=0) rfl rfl) (mv (vb (decide (0<(eJ (((gI ps ↑i).1)-o.1,((gI ps ↑i).2)-o.2) (((gI ps (gI l1 (m-1))).1)-o.1,((gI ps (gI l1 (m-1))).2)-o.2))))) ?_)))))))
   by_cases q69:0<(eJ (((gI ps ↑i).1)-o.1,((gI ps ↑i).2)-o.2) (((gI ps (gI l1 (m-1))).1)-o.1,((gI ps (gI l1 (m-1))).2)-o.2))
   ·
    refine ae (wn (dt q69)) (ae (wn (dt q69)) (ae (wn (dt q69)) (ae (aW rfl rfl rfl) (ae (aW rfl rfl rfl) (ae (aW rfl rfl rfl) (ae (aW rfl rfl rfl) (ae (aW rfl rfl rfl) (ae (aW rfl rfl rfl) (ae (aW rfl rfl rfl) ?_)))))))))
    refine ae (aW rfl rfl rfl) (ae (aW rfl rfl rfl) (ae (aW rfl rfl rfl) (ae (aW rfl rfl rfl) (ae (aW rfl rfl rfl) (ae (aW rfl rfl rfl) (ae (aW rfl rfl rfl) (ae (aW rfl rfl rfl) (ae (aW rfl rfl rfl) (ae (aW rfl rfl rfl) ?_)))))))))
    refine ae (aW rfl rfl rfl) (ae (aW rfl rfl rfl) (ae (aW rfl rfl rfl) (ae (aW rfl rfl rfl) (ae (aW rfl rfl rfl) (ae (aW rfl rfl rfl) (ae (wn (dt q69)) (lw (vb true) (aD rfl (dt q69) rfl) (aa (af rfl rfl ?_)))))))))
    refine aJ rfl (a7 ?_)
    clear bx19 bx34
    refine a6 rfl (mz zs5 (lo (aG (α:=Int) g30 (is 3) (is 3) (3,0) rfl ([0]:List Int) cS az (by decide) (by decide) (vs:=[(0,vi 0)]) rfl rfl (.cons rfl .nil) ?_)))
    intro g38 w39 v40 ch41 o42
    refine lo ?_
    have C43:=cg [5] (ch28.n.seq ((ch33.l rfl).seq (hb37.n.seq ch41.n)))
    replace o_l1:=o_l1.ca C43
    refine aV (α:=Int) (xs:=l1) (ys:=([0]:List Int)) g38 (J:=is 4) (S:=is 4) (4,0) rfl cS az (by decide) rfl rfl rfl o_l1 o42.flat (by decide) (by(simp;omega)) ?_
    intro g44 w45 v46 ch47 o48
    clear o_l1
    refine ma v46 (aa (a7 (a7 ?_)))
    clear o42
    refine a6 rfl (mv v46 ?_)
    have len49:=(o48.flat).small
    refine lx (aQ cS rfl o48.flat) (lx (c3 (m:=(List.length (l1++([0]:List Int)):Int)) (n:=1) rfl rfl (by omega)) (ai ((List.length (l1++([0]:List Int)):Int)-1) (aa (am ?_))))
    refine aN (σ:=Int×(List Int)×aK) (λ⟨k,X,gq⟩ f w=>aT w0 gq w/\f 1=ps_v/\f 2=vp b3 0/\f 5=v46/\f 6=vi ↑i/\f 8=vi m/\f 11=vi k/\Sl gq (is 0) w ps_v ps/\Bx gq (is 1) w b3 [vi o.1,vi o.2]/\Ow gq (is 4) (is 4) w v46 X/\(yq l1 m k X)) (λ⟨k,X,gq⟩=>Int.toNat k) ((List.length (l1++([0]:List Int)):Int)-1,(l1++([0]:List Int)),g44) ?_ ?_
    have C51:=cg [4,5] (ch28.n.seq ((ch33.l rfl).seq (hb37.n.seq (ch41.n.seq (ch47.l rfl)))))
    have C50:=ch25.n.seq C51
    · exact⟨bH.ca C50,zs1,zs2,rfl,zs6,zs8,rfl,Rps.ca C51,bx5.ca C51,o48,by exact jv (by omega) (by simp)⟩
    clear Rps bx5 o48 bH
    rintro⟨k,X,g54⟩ f52 w53 ⟨bH,zs1,zs2,zs5,zs6,zs8,zs11,Rps,bx5,o48,hsh⟩ back14
    obtain⟨⟨hk0,hk1⟩,hXl,hk2,hk3⟩:=hsh
    refine a7 (a7 (a6 rfl (mz zs11 (mz zs8 (lx (d8 (m:=k) (n:=m) rfl rfl) (aa ?_))))))
    by_cases p14:m<k
    ·
     refine af rfl (dt p14) (ak (a7 (am (a6 rfl (mz zs5 (mz zs11 (mz zs5 (mz zs11 (lx (c3 (m:=k) (n:=1) rfl rfl (by omega)) ?_)))))))))
     refine lx (ad (v:=v46) (i:=k-1) cS rfl rfl o48.flat rfl (by omega) (by omega)) (lx (bA (v:=v46) (i:=k-1) az rfl o48.flat (by omega) (by omega) (by decide) rfl) (lx (ad (v:=v46) (i:=k) cS rfl rfl o48.flat rfl (by omega) (by omega)) (lo (dz (i:=k) (gI X (k-1)) az rfl rfl o48 (by omega) (by omega) rfl ?_))))
     intro w55 ch56 bx57
     clear o48
     refine aa (al (a6 rfl (mz zs11 (lx (c3 (m:=k) (n:=1) rfl rfl (by omega)) (ai (k-1) (aa ?_))))))
     refine back14 (k-1,(List.set X (Int.toNat k) (gI X (k-1))),g54) _ _ ⟨bH.ce ch56,zs1,zs2,zs5,zs6,zs8,rfl,Rps.ce ch56,bx5.ce ch56,bx57,?_⟩ ?_
     · show yq l1 m (k-1) (List.set X (Int.toNat k) (gI X (k-1)))
       exact jt (by omega) ⟨⟨hk0,hk1⟩,hXl,hk2,hk3⟩ (by omega)
     · show Int.toNat (k-1)<Int.toNat k
       omega
    refine ag rfl (df p14) (aJ rfl (a6 rfl (mz zs5 (mz zs8 (mz zs6 (lx (ad (v:=v46) (i:=m) cS rfl rfl o48.flat rfl (by omega) (by omega)) (lo (dz (i:=m) (i:Int) az rfl rfl o48 (by omega) (by omega) rfl ?_))))))))
    intro w58 ch59 bx60
    clear o48
    refine aa (al (a6 rfl (mz zs6 (lx (aM (m:=↑i) (n:=1) rfl rfl (by omega)) (ai ((i:Int)+1) (aa ?_))))))
    refine back3 (v46,(List.set X (Int.toNat m) (i:Int)),i+1,g54) _ _ ⟨bH.ce ch59,zs1,zs2,zs5,rfl,Rps.ce ch59,bx5.ce ch59,bx60,by omega,?_⟩ ?_
    · show qK o ps (i+1) (List.set X (Int.toNat m) (i:Int))
      exact lu hz (by omega) har (by omega) (by omega) hm2 (by exact .inr (λh=>(kr hg.2).1 h (.inl q69))) hXl (λj hj=>hk2 j (by omega)) (λj hj hl=>hk3 j (by omega) hl)
    · show Int.toNat (((ps.length:Int):Int)-((i+1):Int))<Int.toNat (((ps.length:Int):Int)-(i:Int))
      omega
   refine lv (vi (eJ (((gI ps ↑i).1)-o.1,((gI ps ↑i).2)-o.2) (((gI ps (gI l1 (m-1))).1)-o.1,((gI ps (gI l1 (m-1))).2)-o.2))) (wy (df q69)) (aq rfl) (lv (vb (decide ((eJ (((gI ps ↑i).1)-o.1,((gI ps ↑i).2)-o.2) (((gI ps (gI l1 (m-1))).1)-o.1,((gI ps (gI l1 (m-1))).2)-o.2))=0))) (wy (df q69)) (c7 (m:=eJ (((gI ps ↑i).1)-o.1,((gI ps ↑i).2)-o.2) (((gI ps (gI l1 (m-1))).1)-o.1,((gI ps (gI l1 (m-1))).2)-o.2)) (n:=0) rfl rfl) (lv (vb (decide ((eJ (((gI ps ↑i).1)-o.1,((gI ps ↑i).2)-o.2) (((gI ps (gI l1 (m-1))).1)-o.1,((gI ps (gI l1 (m-1))).2)-o.2))=0))) (wy (df q69)) (aq rfl) ?_))
   by_cases q72:(eJ (((gI ps ↑i).1)-o.1,((gI ps ↑i).2)-o.2) (((gI ps (gI l1 (m-1))).1)-o.1,((gI ps (gI l1 (m-1))).2)-o.2))=0
   ·
    refine lv (vp b14 0) (wy (dt q72)) (a8 cj rfl rfl zs7 rfl) ?_
    replace bx19:=bx19.cn hb37
    refine lv (vi (((gI ps ↑i).1)-o.1)) (wy (dt q72)) (ab az rfl bx19 rfl) (lv (vp b14 0) (wy (dt q72)) (a8 cj rfl rfl zs7 rfl) (lv (vi (((gI ps ↑i).1)-o.1)) (wy (dt q72)) (ab az rfl bx19 rfl) (lv (vi ((((gI ps ↑i).1)-o.1)*(((gI ps ↑i).1)-o.1))) (wy (dt q72)) (dI (m:=((gI ps ↑i).1)-o.1) (n:=((gI ps ↑i).1)-o.1) rfl rfl (by omega)) (lv (vp b14 1) (wy (dt q72)) (a8 cj rfl rfl zs7 rfl) (lv (vi (((gI ps ↑i).2)-o.2)) (wy (dt q72)) (ab az rfl bx19 rfl) ?_)))))
    refine lv (vp b14 1) (wy (dt q72)) (a8 cj rfl rfl zs7 rfl) (lv (vi (((gI ps ↑i).2)-o.2)) (wy (dt q72)) (ab az rfl bx19 rfl) (lv (vi ((((gI ps ↑i).2)-o.2)*(((gI ps ↑i).2)-o.2))) (wy (dt q72)) (dI (m:=((gI ps ↑i).2)-o.2) (n:=((gI ps ↑i).2)-o.2) rfl rfl (by omega)) (lv (vi (((((gI ps ↑i).1)-o.1)*(((gI ps ↑i).1)-o.1))+((((gI ps ↑i).2)-o.2)*(((gI ps ↑i).2)-o.2)))) (wy (dt q72)) (aM (m:=(((gI ps ↑i).1)-o.1)*(((gI ps ↑i).1)-o.1)) (n:=(((gI ps ↑i).2)-o.2)*(((gI ps ↑i).2)-o.2)) rfl rfl (by omega)) ?_)))
    refine lv (vp b29 0) (wy (dt q72)) (a8 cj rfl rfl rfl rfl) ?_
    replace bx34:=bx34.cn hb37
    refine lv (vi (((gI ps (gI l1 (m-1))).1)-o.1)) (wy (dt q72)) (ab az rfl bx34 rfl) (lv (vp b29 0) (wy (dt q72)) (a8 cj rfl rfl rfl rfl) (lv (vi (((gI ps (gI l1 (m-1))).1)-o.1)) (wy (dt q72)) (ab az rfl bx34 rfl) (lv (vi ((((gI ps (gI l1 (m-1))).1)-o.1)*(((gI ps (gI l1 (m-1))).1)-o.1))) (wy (dt q72)) (dI (m:=((gI ps (gI l1 (m-1))).1)-o.1) (n:=((gI ps (gI l1 (m-1))).1)-o.1) rfl rfl (by omega)) (lv (vp b29 1) (wy (dt q72)) (a8 cj rfl rfl rfl rfl) ?_))))
    refine lv (vi (((gI ps (gI l1 (m-1))).2)-o.2)) (wy (dt q72)) (ab az rfl bx34 rfl) (lv (vp b29 1) (wy (dt q72)) (a8 cj rfl rfl rfl rfl) (lv (vi (((gI ps (gI l1 (m-1))).2)-o.2)) (wy (dt q72)) (ab az rfl bx34 rfl) (lv (vi ((((gI ps (gI l1 (m-1))).2)-o.2)*(((gI ps (gI l1 (m-1))).2)-o.2))) (wy (dt q72)) (dI (m:=((gI ps (gI l1 (m-1))).2)-o.2) (n:=((gI ps (gI l1 (m-1))).2)-o.2) rfl rfl (by omega)) ?_)))
    refine lv (vi (((((gI ps (gI l1 (m-1))).1)-o.1)*(((gI ps (gI l1 (m-1))).1)-o.1))+((((gI ps (gI l1 (m-1))).2)-o.2)*(((gI ps (gI l1 (m-1))).2)-o.2)))) (wy (dt q72)) (aM (m:=(((gI ps (gI l1 (m-1))).1)-o.1)*(((gI ps (gI l1 (m-1))).1)-o.1)) (n:=(((gI ps (gI l1 (m-1))).2)-o.2)*(((gI ps (gI l1 (m-1))).2)-o.2)) rfl rfl (by omega)) ?_
    refine lv (vb (decide ((((((gI ps (gI l1 (m-1))).1)-o.1)*(((gI ps (gI l1 (m-1))).1)-o.1))+((((gI ps (gI l1 (m-1))).2)-o.2)*(((gI ps (gI l1 (m-1))).2)-o.2)))<=(((((gI ps ↑i).1)-o.1)*(((gI ps ↑i).1)-o.1))+((((gI ps ↑i).2)-o.2)*(((gI ps ↑i).2)-o.2)))))) (wy (dt q72)) (fN (m:=((((gI ps ↑i).1)-o.1)*(((gI ps ↑i).1)-o.1))+((((gI ps ↑i).2)-o.2)*(((gI ps ↑i).2)-o.2))) (n:=((((gI ps (gI l1 (m-1))).1)-o.1)*(((gI ps (gI l1 (m-1))).1)-o.1))+((((gI ps (gI l1 (m-1))).2)-o.2)*(((gI ps (gI l1 (m-1))).2)-o.2))) rfl rfl) ?_
    refine lv (vb (decide ((((((gI ps (gI l1 (m-1))).1)-o.1)*(((gI ps (gI l1 (m-1))).1)-o.1))+((((gI ps (gI l1 (m-1))).2)-o.2)*(((gI ps (gI l1 (m-1))).2)-o.2)))<=(((((gI ps ↑i).1)-o.1)*(((gI ps ↑i).1)-o.1))+((((gI ps ↑i).2)-o.2)*(((gI ps ↑i).2)-o.2)))))) (wy (df q69)) (aD rfl (dt q72) rfl) (lw (vb (decide ((((((gI ps (gI l1 (m-1))).1)-o.1)*(((gI ps (gI l1 (m-1))).1)-o.1))+((((gI ps (gI l1 (m-1))).2)-o.2)*(((gI ps (gI l1 (m-1))).2)-o.2)))<=(((((gI ps ↑i).1)-o.1)*(((gI ps ↑i).1)-o.1))+((((gI ps ↑i).2)-o.2)*(((gI ps ↑i).2)-o.2)))))) (aB rfl (df q69) rfl) (aa ?_))
    by_cases p10:(((((gI ps (gI l1 (m-1))).1)-o.1)*(((gI ps (gI l1 (m-1))).1)-o.1))+((((gI ps (gI l1 (m-1))).2)-o.2)*(((gI ps (gI l1 (m-1))).2)-o.2)))<=(((((gI ps ↑i).1)-o.1)*(((gI ps ↑i).1)-o.1))+((((gI ps ↑i).2)-o.2)*(((gI ps ↑i).2)-o.2)))
    ·
     refine af rfl (dt p10) (aJ rfl (a7 ?_))
     clear bx19 bx34
     refine a6 rfl (mz zs5 (lo (aG (α:=Int) g30 (is 3) (is 3) (3,0) rfl ([0]:List Int) cS az (by decide) (by decide) (vs:=[(0,vi 0)]) rfl rfl (.cons rfl .nil) ?_)))
     intro g61 w62 v63 ch64 o65
     refine lo ?_
     have C66:=cg [5] (ch28.n.seq ((ch33.l rfl).seq (hb37.n.seq ch64.n)))
     replace o_l1:=o_l1.ca C66
     refine aV (α:=Int) (xs:=l1) (ys:=([0]:List Int)) g61 (J:=is 4) (S:=is 4) (4,0) rfl cS az (by decide) rfl rfl rfl o_l1 o65.flat (by decide) (by(simp;omega)) ?_
     intro g67 w68 v69 ch70 o71
     clear o_l1
     refine ma v69 (aa (a7 (a7 ?_)))
     clear o65
     refine a6 rfl (mv v69 ?_)
     have len72:=(o71.flat).small
     refine lx (aQ cS rfl o71.flat) (lx (c3 (m:=(List.length (l1++([0]:List Int)):Int)) (n:=1) rfl rfl (by omega)) (ai ((List.length (l1++([0]:List Int)):Int)-1) (aa (am ?_))))
     refine aN (σ:=Int×(List Int)×aK) (λ⟨k,X,gq⟩ f w=>aT w0 gq w/\f 1=ps_v/\f 2=vp b3 0/\f 5=v69/\f 6=vi ↑i/\f 8=vi m/\f 11=vi k/\Sl gq (is 0) w ps_v ps/\Bx gq (is 1) w b3 [vi o.1,vi o.2]/\Ow gq (is 4) (is 4) w v69 X/\(yq l1 m k X)) (λ⟨k,X,gq⟩=>Int.toNat k) ((List.length (l1++([0]:List Int)):Int)-1,(l1++([0]:List Int)),g67) ?_ ?_
     have C74:=cg [4,5] (ch28.n.seq ((ch33.l rfl).seq (hb37.n.seq (ch64.n.seq (ch70.l rfl)))))
     have C73:=ch25.n.seq C74
     · exact⟨bH.ca C73,zs1,zs2,rfl,zs6,zs8,rfl,Rps.ca C74,bx5.ca C74,o71,by exact jv (by omega) (by simp)⟩
     clear Rps bx5 o71 bH
     rintro⟨k,X,g77⟩ f75 w76 ⟨bH,zs1,zs2,zs5,zs6,zs8,zs11,Rps,bx5,o71,hsh⟩ back14
     obtain⟨⟨hk0,hk1⟩,hXl,hk2,hk3⟩:=hsh
     refine a7 (a7 (a6 rfl (mz zs11 (mz zs8 (lx (d8 (m:=k) (n:=m) rfl rfl) (aa ?_))))))
     by_cases p14:m<k
     ·
      refine af rfl (dt p14) (ak (a7 (am (a6 rfl (mz zs5 (mz zs11 (mz zs5 (mz zs11 (lx (c3 (m:=k) (n:=1) rfl rfl (by omega)) ?_)))))))))
      refine lx (ad (v:=v69) (i:=k-1) cS rfl rfl o71.flat rfl (by omega) (by omega)) (lx (bA (v:=v69) (i:=k-1) az rfl o71.flat (by omega) (by omega) (by decide) rfl) (lx (ad (v:=v69) (i:=k) cS rfl rfl o71.flat rfl (by omega) (by omega)) (lo (dz (i:=k) (gI X (k-1)) az rfl rfl o71 (by omega) (by omega) rfl ?_))))
      intro w78 ch79 bx80
      clear o71
      refine aa (al (a6 rfl (mz zs11 (lx (c3 (m:=k) (n:=1) rfl rfl (by omega)) (ai (k-1) (aa ?_))))))
      refine back14 (k-1,(List.set X (Int.toNat k) (gI X (k-1))),g77) _ _ ⟨bH.ce ch79,zs1,zs2,zs5,zs6,zs8,rfl,Rps.ce ch79,bx5.ce ch79,bx80,?_⟩ ?_
      · show yq l1 m (k-1) (List.set X (Int.toNat k) (gI X (k-1)))
        exact jt (by omega) ⟨⟨hk0,hk1⟩,hXl,hk2,hk3⟩ (by omega)
      · show Int.toNat (k-1)<Int.toNat k
        omega
     refine ag rfl (df p14) (aJ rfl (a6 rfl (mz zs5 (mz zs8 (mz zs6 (lx (ad (v:=v69) (i:=m) cS rfl rfl o71.flat rfl (by omega) (by omega)) (lo (dz (i:=m) (i:Int) az rfl rfl o71 (by omega) (by omega) rfl ?_))))))))
     intro w81 ch82 bx83
     clear o71
     refine aa (al (a6 rfl (mz zs6 (lx (aM (m:=↑i) (n:=1) rfl rfl (by omega)) (ai ((i:Int)+1) (aa ?_))))))
     refine back3 (v69,(List.set X (Int.toNat m) (i:Int)),i+1,g77) _ _ ⟨bH.ce ch82,zs1,zs2,zs5,rfl,Rps.ce ch82,bx5.ce ch82,bx83,by omega,?_⟩ ?_
     · show qK o ps (i+1) (List.set X (Int.toNat m) (i:Int))
       exact lu hz (by omega) har (by omega) (by omega) hm2 (by exact .inr (λh=>(kr hg.2).1 h (.inr ⟨q72,p10⟩))) hXl (λj hj=>hk2 j (by omega)) (λj hj hl=>hk3 j (by omega) hl)
     · show Int.toNat (((ps.length:Int):Int)-((i+1):Int))<Int.toNat (((ps.length:Int):Int)-(i:Int))
       omega
    refine ag rfl (df p10) (ak ?_)
    clear bx34
    refine a6 rfl (mz zs8 (lx (c3 (m:=m) (n:=1) rfl rfl (by omega)) (ai (m-1) (aa (al ?_)))))
    have C85:=cg [5] (ch28.n.seq ((ch33.l rfl).seq hb37.n))
    have C84:=ch25.n.seq C85
    refine back7 (m-1,g30) _ _ ⟨bH.ca C84,zs1,zs2,zs5,zs6,zs7,rfl,Rps.ca C85,bx5.ca C85,o_l1.ca C85,bx19,?_⟩ ?_
    · show(0<=(m-1)/\(m-1)<=l1.length)/\∀j:Nat,(m-1)<=(j:Int)->j<l1.length->jW o ps (i:Int) (gI l1 ↑j)
      refine⟨by omega,λj hj hl=>?_⟩
      by_cases e:(j:Int)=m-1
      · rw[e]
        first
        |exact(kr hg.2).2 λh=>h.elim q69 λh=>q72 h.1
        |exact(kr hg.2).2 λh=>h.elim q69 λh=>p10 h.2
      · exact hm2 j (by omega) hl
    · show Int.toNat (m-1)<Int.toNat m
      omega
   refine ae (wn (df q72)) (ae (wn (df q72)) (ae (wn (df q72)) (ae (wn (df q72)) (ae (wn (df q72)) (ae (wn (df q72)) (ae (wn (df q72)) (ae (wn (df q72)) (ae (wn (df q72)) (ae (wn (df q72)) ?_)))))))))
   refine ae (wn (df q72)) (ae (wn (df q72)) (ae (wn (df q72)) (ae (wn (df q72)) (ae (wn (df q72)) (ae (wn (df q72)) (ae (wn (df q72)) (ae (wn (df q72)) (ae (wn (df q72)) (ae (wn (df q72)) ?_)))))))))
   refine ae (wn (df q72)) (ae (wn (df q72)) (ae (wn (df q72)) (lv (vb false) (wy (df q69)) (aB rfl (df q72) rfl) (lw (vb false) (aB rfl (df q69) rfl) (aa (ag rfl rfl (ak ?_)))))))
   clear bx34
   refine a6 rfl (mz zs8 (lx (c3 (m:=m) (n:=1) rfl rfl (by omega)) (ai (m-1) (aa (al ?_)))))
   have C87:=cg [5] (ch28.n.seq ((ch33.l rfl).seq hb37.n))
   have C86:=ch25.n.seq C87
   refine back7 (m-1,g30) _ _ ⟨bH.ca C86,zs1,zs2,zs5,zs6,zs7,rfl,Rps.ca C87,bx5.ca C87,o_l1.ca C87,bx19.cn hb37,?_⟩ ?_
   · show(0<=(m-1)/\(m-1)<=l1.length)/\∀j:Nat,(m-1)<=(j:Int)->j<l1.length->jW o ps (i:Int) (gI l1 ↑j)
     refine⟨by omega,λj hj hl=>?_⟩
     by_cases e:(j:Int)=m-1
     · rw[e]
       first
       |exact(kr hg.2).2 λh=>h.elim q69 λh=>q72 h.1
       |exact(kr hg.2).2 λh=>h.elim q69 λh=>p10 h.2
     · exact hm2 j (by omega) hl
   · show Int.toNat (m-1)<Int.toNat m
     omega
  refine ag rfl (df p7) (aJ rfl (a7 ?_))
  clear bx19
  refine a6 rfl (mz zs5 (lo (aG (α:=Int) g24 (is 3) (is 3) (3,0) rfl ([0]:List Int) cS az (by decide) (by decide) (vs:=[(0,vi 0)]) rfl rfl (.cons rfl .nil) ?_)))
  intro g88 w89 v90 ch91 o92
  refine lo ?_
  replace o_l1:=o_l1.cn ch91
  refine aV (α:=Int) (xs:=l1) (ys:=([0]:List Int)) g88 (J:=is 4) (S:=is 4) (4,0) rfl cS az (by decide) rfl rfl rfl o_l1 o92.flat (by decide) (by(simp;omega)) ?_
  intro g93 w94 v95 ch96 o97
  clear o_l1
  refine ma v95 (aa (a7 (a7 ?_)))
  clear o92
  refine a6 rfl (mv v95 ?_)
  have len98:=(o97.flat).small
  refine lx (aQ cS rfl o97.flat) (lx (c3 (m:=(List.length (l1++([0]:List Int)):Int)) (n:=1) rfl rfl (by omega)) (ai ((List.length (l1++([0]:List Int)):Int)-1) (aa (am ?_))))
  refine aN (σ:=Int×(List Int)×aK) (λ⟨k,X,gq⟩ f w=>aT w0 gq w/\f 1=ps_v/\f 2=vp b3 0/\f 5=v95/\f 6=vi ↑i/\f 8=vi m/\f 11=vi k/\Sl gq (is 0) w ps_v ps/\Bx gq (is 1) w b3 [vi o.1,vi o.2]/\Ow gq (is 4) (is 4) w v95 X/\(yq l1 m k X)) (λ⟨k,X,gq⟩=>Int.toNat k) ((List.length (l1++([0]:List Int)):Int)-1,(l1++([0]:List Int)),g93) ?_ ?_
  replace bH:=bH.cn ch91
  · exact⟨bH.ce ch96,zs1,zs2,rfl,zs6,zs8,rfl,(Rps.cn ch91).ce ch96,(bx5.cn ch91).ce ch96,o97,by exact jv (by omega) (by simp)⟩
  clear Rps bx5 o97 bH
  rintro⟨k,X,g101⟩ f99 w100 ⟨bH,zs1,zs2,zs5,zs6,zs8,zs11,Rps,bx5,o97,hsh⟩ back14
  obtain⟨⟨hk0,hk1⟩,hXl,hk2,hk3⟩:=hsh
  refine a7 (a7 (a6 rfl (mz zs11 (mz zs8 (lx (d8 (m:=k) (n:=m) rfl rfl) (aa ?_))))))
  by_cases p14:m<k
  ·
   refine af rfl (dt p14) (ak (a7 (am (a6 rfl (mz zs5 (mz zs11 (mz zs5 (mz zs11 (lx (c3 (m:=k) (n:=1) rfl rfl (by omega)) ?_)))))))))
   refine lx (ad (v:=v95) (i:=k-1) cS rfl rfl o97.flat rfl (by omega) (by omega)) (lx (bA (v:=v95) (i:=k-1) az rfl o97.flat (by omega) (by omega) (by decide) rfl) (lx (ad (v:=v95) (i:=k) cS rfl rfl o97.flat rfl (by omega) (by omega)) (lo (dz (i:=k) (gI X (k-1)) az rfl rfl o97 (by omega) (by omega) rfl ?_))))
   intro w102 ch103 bx104
   clear o97
   refine aa (al (a6 rfl (mz zs11 (lx (c3 (m:=k) (n:=1) rfl rfl (by omega)) (ai (k-1) (aa ?_))))))
   refine back14 (k-1,(List.set X (Int.toNat k) (gI X (k-1))),g101) _ _ ⟨bH.ce ch103,zs1,zs2,zs5,zs6,zs8,rfl,Rps.ce ch103,bx5.ce ch103,bx104,?_⟩ ?_
   · show yq l1 m (k-1) (List.set X (Int.toNat k) (gI X (k-1)))
     exact jt (by omega) ⟨⟨hk0,hk1⟩,hXl,hk2,hk3⟩ (by omega)
   · show Int.toNat (k-1)<Int.toNat k
     omega
  refine ag rfl (df p14) (aJ rfl (a6 rfl (mz zs5 (mz zs8 (mz zs6 (lx (ad (v:=v95) (i:=m) cS rfl rfl o97.flat rfl (by omega) (by omega)) (lo (dz (i:=m) (i:Int) az rfl rfl o97 (by omega) (by omega) rfl ?_))))))))
  intro w105 ch106 bx107
  clear o97
  refine aa (al (a6 rfl (mz zs6 (lx (aM (m:=↑i) (n:=1) rfl rfl (by omega)) (ai ((i:Int)+1) (aa ?_))))))
  refine back3 (v95,(List.set X (Int.toNat m) (i:Int)),i+1,g101) _ _ ⟨bH.ce ch106,zs1,zs2,zs5,rfl,Rps.ce ch106,bx5.ce ch106,bx107,by omega,?_⟩ ?_
  · show qK o ps (i+1) (List.set X (Int.toNat m) (i:Int))
    exact lu hz (by omega) har (by omega) (by omega) hm2 (by exact .inl (by omega)) hXl (λj hj=>hk2 j (by omega)) (λj hj hl=>hk3 j (by omega) hl)
  · show Int.toNat (((ps.length:Int):Int)-((i+1):Int))<Int.toNat (((ps.length:Int):Int)-(i:Int))
    omega
 refine ag rfl (df p3) (aJ rfl (a7 ?_))
 clear bx5
 refine a6 rfl (mz zs5 (ma l1_v (aa (ar (vs:=[l1_v]) Tryz.func43 (.tmp rfl .nil) ?_))))
 have e0:(l1:List Int)=(arL o ps):=by
   exact uW hz (by rwa[show i=ps.length by omega] at har)
 exact⟨(fin w0 g8 (λn=>if n=4 then 1 else 0),l1_v),(congrArg (a₁:=l1) (λ(z0:List Int)=>Ending.returned (l1_v)) e0),bH.fresh _,(e0▸(o_l1.glue (γ:=c0) (ren:=(λn=>if n=4 then 1 else 0)) (k:=1) bH.col rfl rfl))⟩
end TL
