import Derived.Test.YtfpckpgnnplhnaaGreatSwTlSortS
import Derived.Test.YtfpckpgnnplhnaaGreatSwTlSqN
import Derived.Test.YtfpckpgnnplhnaaGreatSwTlAli
set_option linter.all false
set_option maxRecDepth 20000
namespace TL
open Go Go.Proofs
theorem oT:Tryz.prog.follows .mixedOrders=true:=by kernel_rfl
theorem rU:Tp Tryz.prog 23 false 1 24 (.slice none 0 0):=Tp.of (by kernel_rfl)
theorem iw:Tp Tryz.prog 25 true 2 32 (.agg #[.int .i64 0,.slice none 0 0]):=Tp.of (by kernel_rfl)
theorem iI:Tp Tryz.prog 59 true 2 16 (.agg #[.int .i64 0,.int .i64 0]):=Tp.of (by kernel_rfl)
theorem r4:Tryz.f57.body.isNone=false:=rfl
theorem r9:(Tryz.f57.name== "runtime.NumGoroutine")=false:=by decide+kernel
theorem rT:Tryz.f86.body.isNone=false:=rfl
theorem qr:(Tryz.f86.name== "runtime.NumGoroutine")=false:=by decide+kernel
theorem zF(w0:World)(p_b:Nat)(p0_v:Value)(p1_v:Value)(PB:List Bd)(hp1_v:Ro w0 p1_v PB)(hp_b:Bx c0 (is 0) w0 p_b [p0_v,p1_v])(h0:0<(PB.length:Int))(hl:(PB.length:Int)<=100000):
    Calls Tryz.prog 59 #[vp p_b 0] w0 (λee w=>ee= .returned (vb (gZ PB))/\eK w0.heap.size w0 w):=by
 refine ah Tryz.func59 rfl nq ?_
 have bH:=aW.start w0
 have Rp1:=hp1_v.sl
 refine a7 (a6 rfl (ma (vb false) (ab (a7 (a6 rfl (cy rfl (ep (K:=Int) c0 (is 1) (1,0) rfl ?_)))))))
 intro g1 w2 v3 ch4 m5
 refine ma v3 (ab (a7 (a7 (a6 rfl (mv (vp p_b 0) (lw (vp p_b 0) (ae rfl) (lx (aa dV rfl rfl rfl rfl) ?_)))))))
 refine lx (a8 bD rfl hp_b.t rfl) ?_
 have len6:=(Rp1).small
 refine lx (bG cM rfl Rp1.t) (mi 0 (ab (aj ?_)))
 refine aR (σ:=Nat×((Int->Int)×List Int)×ax) (λ⟨k,mp,gq⟩ f w=>aW w0 gq w/\f 3=v3/\f 12=p1_v/\f 13=vi (PB.length:Int)/\f 14=vi ↑k/\Sl gq (is 0) w p1_v PB/\Bx gq (is 0) w p_b [p0_v,p1_v]/\Md gq (is 1) w v3 mp.1 mp.2/\(k:Int)<=((PB.length:Int):Int)/\(qn PB k mp)) (λ⟨k,mp,gq⟩=>Int.toNat (((PB.length:Int):Int)-(k:Int))) (0,((λ_=>0,[]):(Int->Int)×List (Int)),g1) ?_ ?_
 · exact⟨bH.t,rfl,rfl,rfl,rfl,Rp1.t,hp_b.t,m5,by omega,by exact qn.start⟩
 rintro⟨k,mp,g9⟩ f7 w8 ⟨bH,zs3,zs12,zs13,zs14,Rp1,hp_b,m5,hle_k,hri⟩ back3
 have hrb:=hri.bd
 refine a7 (a6 rfl (lx (br (m:=↑k) (n:=(PB.length:Int)) zs14 zs13) (ab (a7 ?_))))
 by_cases p3:(k:Int)<(PB.length:Int)
 ·
  refine ag rfl (dt p3) ?_
  have hrb1:=hrb (gI PB ↑k).1
  have hrb2:=hri.bdd (gI PB ↑k).1 (gI PB ↑k).2.1
  unfold o3 at hrb2
  refine am (a7 (aj (a7 (a6 rfl (lx (ad (v:=p1_v) (i:=↑k) cM rfl zs12 Rp1 zs14 (by omega) (by omega)) (lw (vg [vi ((gI PB ↑k).1),vi (((gI PB ↑k).2).1),vi ((((gI PB ↑k).2).2).1),vi ((((gI PB ↑k).2).2).2)]) (bW (v:=p1_v) (i:=↑k) aI rfl Rp1 (by omega) (by omega) rfl) (lo (aZ g9 (is 2) (2,0) rfl aI ?_))))))))
  intro g13 w10 b12 ch11 bx14
  refine lo (aA (cs':=[vi ((gI PB ↑k).1),vi (((gI PB ↑k).2).1),vi ((((gI PB ↑k).2).2).1),vi ((((gI PB ↑k).2).2).2)]) aI rfl rfl bx14 rfl nq (AllOne.all (.cons rfl (.cons rfl (.cons rfl (.cons rfl .nil))))) rfl ?_)
  intro w15 ch16 bx17
  refine ab (a7 (a6 rfl (mz zs3 (lx (aa jg rfl rfl rfl rfl) (lx (a8 cS rfl bx17 rfl) ?_)))))
  refine lw (vi (mp.1 ((gI PB ↑k).1))) (dx ((gI PB ↑k).1) pV (be U3) cS rfl m5.t.mp rfl rfl) (lx (aJ (m:=mp.1 ((gI PB ↑k).1)) (n:=1) rfl rfl (by omega)) (lo (eQ (m:=(mp.1 ((gI PB ↑k).1))+1) ((gI PB ↑k).1) pV (be U3) rfl m5.t rfl rfl rfl ?_)))
  intro w18 ch19 m20
  refine ab (a6 rfl (mz zs3 (lx (aa jg rfl rfl rfl rfl) ?_)))
  refine lx (a8 cS rfl bx17.t rfl) (lw (vi (((λq=>if q=((gI PB ↑k).1) then((mp.1 ((gI PB ↑k).1))+1) else mp.1 q),if((gI PB ↑k).1)∈mp.2 then mp.2 else mp.2++[((gI PB ↑k).1)]).1 (((gI PB ↑k).2).1))) (dx (((gI PB ↑k).2).1) pV (be U3) cS rfl m20.mp rfl rfl) (lx (aJ (m:=((λq=>if q=((gI PB ↑k).1) then((mp.1 ((gI PB ↑k).1))+1) else mp.1 q),if((gI PB ↑k).1)∈mp.2 then mp.2 else mp.2++[((gI PB ↑k).1)]).1 (((gI PB ↑k).2).1)) (n:=1) rfl rfl (by omega)) (lo ?_)))
  refine eQ (m:=(((λq=>if q=((gI PB ↑k).1) then((mp.1 ((gI PB ↑k).1))+1) else mp.1 q),if((gI PB ↑k).1)∈mp.2 then mp.2 else mp.2++[((gI PB ↑k).1)]).1 (((gI PB ↑k).2).1))+1) (((gI PB ↑k).2).1) pV (be U3) rfl m20 rfl rfl rfl ?_
  intro w21 ch22 m23
  refine ab (ak ?_)
  refine a6 rfl (lx (aJ (m:=↑k) (n:=1) zs14 rfl (by omega)) (mi ((k:Int)+1) (ab ?_)))
  refine back3 (k+1,((λq=>if q=(((gI PB ↑k).2).1) then((((λq=>if q=((gI PB ↑k).1) then((mp.1 ((gI PB ↑k).1))+1) else mp.1 q),if((gI PB ↑k).1)∈mp.2 then mp.2 else mp.2++[((gI PB ↑k).1)]).1 (((gI PB ↑k).2).1))+1) else((λq=>if q=((gI PB ↑k).1) then((mp.1 ((gI PB ↑k).1))+1) else mp.1 q),if((gI PB ↑k).1)∈mp.2 then mp.2 else mp.2++[((gI PB ↑k).1)]).1 q),if(((gI PB ↑k).2).1)∈((λq=>if q=((gI PB ↑k).1) then((mp.1 ((gI PB ↑k).1))+1) else mp.1 q),if((gI PB ↑k).1)∈mp.2 then mp.2 else mp.2++[((gI PB ↑k).1)]).2 then((λq=>if q=((gI PB ↑k).1) then((mp.1 ((gI PB ↑k).1))+1) else mp.1 q),if((gI PB ↑k).1)∈mp.2 then mp.2 else mp.2++[((gI PB ↑k).1)]).2 else((λq=>if q=((gI PB ↑k).1) then((mp.1 ((gI PB ↑k).1))+1) else mp.1 q),if((gI PB ↑k).1)∈mp.2 then mp.2 else mp.2++[((gI PB ↑k).1)]).2++[(((gI PB ↑k).2).1)]),g13) _ _ ⟨bH.t,zs3,zs12,zs13,rfl,Rp1.t,hp_b.t,m23,by omega,?_⟩ ?_
  · show qn PB (k+1) ((λq=>if q=(((gI PB ↑k).2).1) then((((λq=>if q=((gI PB ↑k).1) then((mp.1 ((gI PB ↑k).1))+1) else mp.1 q),if((gI PB ↑k).1)∈mp.2 then mp.2 else mp.2++[((gI PB ↑k).1)]).1 (((gI PB ↑k).2).1))+1) else((λq=>if q=((gI PB ↑k).1) then((mp.1 ((gI PB ↑k).1))+1) else mp.1 q),if((gI PB ↑k).1)∈mp.2 then mp.2 else mp.2++[((gI PB ↑k).1)]).1 q),if(((gI PB ↑k).2).1)∈((λq=>if q=((gI PB ↑k).1) then((mp.1 ((gI PB ↑k).1))+1) else mp.1 q),if((gI PB ↑k).1)∈mp.2 then mp.2 else mp.2++[((gI PB ↑k).1)]).2 then((λq=>if q=((gI PB ↑k).1) then((mp.1 ((gI PB ↑k).1))+1) else mp.1 q),if((gI PB ↑k).1)∈mp.2 then mp.2 else mp.2++[((gI PB ↑k).1)]).2 else((λq=>if q=((gI PB ↑k).1) then((mp.1 ((gI PB ↑k).1))+1) else mp.1 q),if((gI PB ↑k).1)∈mp.2 then mp.2 else mp.2++[((gI PB ↑k).1)]).2++[(((gI PB ↑k).2).1)])
    exact hri.next ‹_›
  · show Int.toNat (_-_)<Int.toNat (_-_)
    omega
 refine af rfl (df p3) (aF rfl (a7 (a7 (a6 rfl (mz zs3 (lo (C7 (J:=is 1) (1,0) rfl pV rfl m5 ?_)))))))
 intro g25 w26 v27 ch28 m29
 refine ab (aj ?_)
 refine aR (σ:=(List Int)×ax) (λ⟨SS,gq⟩ f w=>aW w0 gq w/\f 30=v27/\Sl gq (is 0) w p1_v PB/\Bx gq (is 0) w p_b [p0_v,p1_v]/\Mi gq (is 1) w v3 v27 mp.1 mp.2 SS/\(∀v∈SS,mp.1 v=2)) (λ⟨SS,gq⟩=>(mp.2.length-SS.length)) (([]:List Int),g25) ?_ ?_
 · exact⟨bH.t,rfl,Rp1.t,hp_b.t,m29,by intro v hv;cases hv⟩
 rintro⟨SS,g32⟩ f30 w31 ⟨bH,zs30,Rp1,hp_b,m29,hss⟩ back9
 refine a7 (a6 rfl (cy rfl (cC zs30 m29 ?_)))
 intro w33 nv34 nb35 ky36 ch37 hn38 hy39 hz40 m41
 refine lw (vb nb35) (CM rfl hn38) (ab (a7 ?_))
 by_cases p9:nb35=true
 ·
  refine ag rfl p9 (am (aj (a7 (a6 rfl (lw (vt [vi ky36,vi (mp.1 ky36)]) (Cv (by exact zs30) m41 p9) (lx (ay rfl rfl) (ai (mp.1 ky36) (ab (a7 (a6 rfl (mi (mp.1 ky36) (lx (du (m:=mp.1 ky36) (n:=2) rfl rfl) ?_))))))))))))
  refine ab ?_
  by_cases p11:(mp.1 ky36)=2
  ·
   refine af rfl (congrArg Bool.not (dt p11)) (am (ak ?_))
   refine back9 ((Dp nb35 SS ky36),g32) _ _ ⟨bH.t,zs30,Rp1.t,hp_b.t,m41,?_⟩ ?_
   · show∀v∈(Dp nb35 SS ky36),mp.1 v=2
     exact C3 hss ‹_› ‹_›
   · show(mp.2.length-(Dp nb35 SS ky36).length)<(mp.2.length-SS.length)
     (rw[zt ‹_›,List.length_append];have hq:SS.length+1<=mp.2.length:=DP ‹_› ‹_›;simp only[List.length_cons,List.length_nil];omega)
  refine ag rfl (congrArg Bool.not (df p11)) (a7 ?_)
  refine a6 rfl (ma (vb false) (ab (az (vs:=[vb false]) Tryz.func59 (.tmp rfl .nil) ?_)))
  have e0:(false:Bool)=(gZ PB):=by
    exact hri.no ‹_› ‹_› ‹_› ‹_›
  exact⟨rb e0,bH.t.below⟩
 refine af rfl (Bool.eq_false_iff.2 p9) (aF rfl (a7 ?_))
 refine a6 rfl (ma (vb true) (ab (az (vs:=[vb true]) Tryz.func59 (.tmp rfl .nil) ?_)))
 have e0:(true:Bool)=(gZ PB):=by
   exact hri.yes ‹_› hss ‹_› ‹_›
 exact⟨rb e0,bH.t.below⟩
theorem vr(w0:World)(p_b:Nat)(p0_v:Value)(p1_v:Value)(PB:List Bd)(hp1_v:Ro w0 p1_v PB)(hp_b:Bx c0 (is 0) w0 p_b [p0_v,p1_v])(h0:0<(PB.length:Int))(hl:(PB.length:Int)<=100000):
    Calls Tryz.prog 60 #[vp p_b 0] w0 (λee w=>ee= .returned (vt [vi ((cD PB).1),vi ((cD PB).2.1),vb ((cD PB).2.2)])/\eK w0.heap.size w0 w):=by
 refine ah Tryz.func60 rfl nq ?_
 have bH:=aW.start w0
 have Rp1:=hp1_v.sl
 refine a7 (a6 rfl (ai 0 (ai 0 (ma (vb false) (ab (a7 (a6 rfl (cy rfl (pf (K:=Pt) c0 (is 1) (1,0) rfl ?_)))))))))
 intro g1 w2 v3 ch4 m5
 refine ma v3 (ab (a7 (a7 (a6 rfl (mv (vp p_b 0) (lw (vp p_b 0) (ae rfl) (lx (aa dV rfl rfl rfl rfl) ?_)))))))
 refine lx (a8 bD rfl hp_b.t rfl) ?_
 have len6:=(Rp1).small
 refine lx (bG cM rfl Rp1.t) (mi 0 (ab (aj ?_)))
 refine aR (σ:=Nat×(Pt->Int)×ax) (λ⟨k,F,gq⟩ f w=>aW w0 gq w/\f 5=v3/\f 13=p1_v/\f 14=vi (PB.length:Int)/\f 15=vi ↑k/\Sl gq (is 0) w p1_v PB/\Bx gq (is 0) w p_b [p0_v,p1_v]/\Mp gq (is 1) w v3 F/\(k:Int)<=((PB.length:Int):Int)/\(u3 PB k F)) (λ⟨k,F,gq⟩=>Int.toNat (((PB.length:Int):Int)-(k:Int))) (0,(λ_=>0),g1) ?_ ?_
 · exact⟨bH.t,rfl,rfl,rfl,rfl,Rp1.t,hp_b.t,m5,by omega,by exact u3.start⟩
 rintro⟨k,F,g9⟩ f7 w8 ⟨bH,zs5,zs13,zs14,zs15,Rp1,hp_b,m5,hle_k,htw⟩ back3
 have htb:=htw.bd
 refine a7 (a6 rfl (lx (br (m:=↑k) (n:=(PB.length:Int)) zs15 zs14) (ab (a7 ?_))))
 by_cases p3:(k:Int)<(PB.length:Int)
 ·
  refine ag rfl (dt p3) ?_
  have htb1:=htb ((gI PB ↑k).1,(gI PB ↑k).2.1)
  refine am (a7 (aj (a7 (a6 rfl (lx (ad (v:=p1_v) (i:=↑k) cM rfl zs13 Rp1 zs15 (by omega) (by omega)) (lw (vg [vi ((gI PB ↑k).1),vi (((gI PB ↑k).2).1),vi ((((gI PB ↑k).2).2).1),vi ((((gI PB ↑k).2).2).2)]) (bW (v:=p1_v) (i:=↑k) aI rfl Rp1 (by omega) (by omega) rfl) (lo (aZ g9 (is 2) (2,0) rfl aI ?_))))))))
  intro g13 w10 b12 ch11 bx14
  refine lo (aA (cs':=[vi ((gI PB ↑k).1),vi (((gI PB ↑k).2).1),vi ((((gI PB ↑k).2).2).1),vi ((((gI PB ↑k).2).2).2)]) aI rfl rfl bx14 rfl nq (AllOne.all (.cons rfl (.cons rfl (.cons rfl (.cons rfl .nil))))) rfl ?_)
  intro w15 ch16 bx17
  refine ab (a7 (a6 rfl (lx (aa jg rfl rfl rfl rfl) (lx (a8 cS rfl bx17 rfl) (lx (aa jg rfl rfl rfl rfl) (lx (a8 cS rfl bx17 rfl) (lw (vg [vi ((gI PB ↑k).1),vi (((gI PB ↑k).2).1)]) (bn (vs:=[(0,vi ((gI PB ↑k).1)),(1,vi (((gI PB ↑k).2).1))]) rfl (by kernel_rfl)) (lo (aZ g13 (is 3) (3,0) rfl iI ?_)))))))))
  intro g21 w18 b20 ch19 bx22
  refine lo (aA (cs':=[vi ((gI PB ↑k).1),vi (((gI PB ↑k).2).1)]) iI rfl rfl bx22 rfl nq (AllOne.all (.cons rfl (.cons rfl .nil))) rfl ?_)
  intro w23 ch24 bx25
  refine ab (a7 ?_)
  refine dw (σ:=ax) (λgq f w=>aW w0 gq w/\f 5=v3/\f 7=vp b12 0/\f 8=vp b20 0/\f 13=p1_v/\f 14=vi (PB.length:Int)/\f 15=vi ↑k/\Sl gq (is 0) w p1_v PB/\Bx gq (is 0) w p_b [p0_v,p1_v]/\Bx gq (is 2) w b12 [vi ((gI PB ↑k).1),vi (((gI PB ↑k).2).1),vi ((((gI PB ↑k).2).2).1),vi ((((gI PB ↑k).2).2).2)]/\Bx gq (is 3) w b20 [vi ((gI PB ↑k).1),vi (((gI PB ↑k).2).1)]/\Mp gq (is 1) w v3 (λq=>if q=((gI PB ↑k).1,((gI PB ↑k).2).1) then((F ((gI PB ↑k).1,((gI PB ↑k).2).1))+1) else F q)) g21 [0,1,3,5] oT ?_ ?_
  ·
   intro mid
   intro w27 ch26
   refine xp (v:=v3) 0 rfl (λw=>ar zs5) ?_
   refine xv 1 [0] rfl (av (ds:=[vi ((gI PB ↑k).1),vi (((gI PB ↑k).2).1)]) iI rfl bx25.t rfl rfl) ?_
   refine de 2 4 rfl rfl (by kernel_rfl) rfl rfl ?_ ?_
   ·
    refine ao (v:=vi (F ((gI PB ↑k).1,((gI PB ↑k).2).1))) (dx ((gI PB ↑k).1,((gI PB ↑k).2).1) oR (cq eS U3 cS) cS rfl m5.t rfl rfl) (xp 3 rfl (λw=>aJ (m:=F ((gI PB ↑k).1,((gI PB ↑k).2).1)) (n:=1) rfl rfl (by omega)) (cE 4 rfl (eO ((gI PB ↑k).1,((gI PB ↑k).2).1) oR (cq eS U3 cS) cS rfl m5.t rfl rfl ?_)))
    intro w29 s32 ch30 m31
    refine xp 5 rfl (λw=>ay rfl rfl) (cE 6 rfl (dR rfl m31 rfl rfl ?_))
    intro w33 ch34 m35
    refine bV (by kernel_rfl) ?_
    exact mid (g21) _ _ ⟨bH.t,zs5,rfl,rfl,zs13,zs14,zs15,Rp1.t,hp_b.t,bx17.t,bx25.t,m35⟩
   ·
    refine eO ((gI PB ↑k).1,((gI PB ↑k).2).1) oR (cq eS U3 cS) cS rfl m5.t rfl rfl ?_
    intro w38 s41 ch39 m40
    refine xp 5 rfl (λw=>ay rfl rfl) (cE 2 rfl (ao (v:=vi (F ((gI PB ↑k).1,((gI PB ↑k).2).1))) (dx ((gI PB ↑k).1,((gI PB ↑k).2).1) oR (cq eS U3 cS) cS rfl m40.mp rfl rfl) (xp 3 rfl (λw=>aJ (m:=F ((gI PB ↑k).1,((gI PB ↑k).2).1)) (n:=1) rfl rfl (by omega)) (cE 6 rfl (dR rfl m40 rfl rfl ?_)))))
    intro w43 ch44 m45
    refine bV (by kernel_rfl) ?_
    exact mid (g21) _ _ ⟨bH.t,zs5,rfl,rfl,zs13,zs14,zs15,Rp1.t,hp_b.t,bx17.t,bx25.t,m45⟩
  rintro g50 f48 w49 ⟨bH,zs5,zs7,zs8,zs13,zs14,zs15,Rp1,hp_b,bx17,bx25,m33⟩
  refine a7 (a6 rfl (mz zs5 (lx (av (ds:=[vi ((gI PB ↑k).1),vi (((gI PB ↑k).2).1)]) iI zs8 bx25 rfl rfl) (lw (vi ((λq=>if q=((gI PB ↑k).1,((gI PB ↑k).2).1) then((F ((gI PB ↑k).1,((gI PB ↑k).2).1))+1) else F q) ((gI PB ↑k).1,((gI PB ↑k).2).1))) (dx (F:=(λq=>if q=((gI PB ↑k).1,((gI PB ↑k).2).1) then((F ((gI PB ↑k).1,((gI PB ↑k).2).1))+1) else F q)) ((gI PB ↑k).1,((gI PB ↑k).2).1) oR (cq eS U3 cS) cS rfl m33 rfl rfl) ?_))))
  refine lx (eX (m:=(λq=>if q=((gI PB ↑k).1,((gI PB ↑k).2).1) then((F ((gI PB ↑k).1,((gI PB ↑k).2).1))+1) else F q) ((gI PB ↑k).1,((gI PB ↑k).2).1)) (n:=1) rfl rfl) (ab ?_)
  by_cases p7:1<((λq=>if q=((gI PB ↑k).1,((gI PB ↑k).2).1) then((F ((gI PB ↑k).1,((gI PB ↑k).2).1))+1) else F q) ((gI PB ↑k).1,((gI PB ↑k).2).1))
  ·
   refine ag rfl (dt p7) (a7 ?_)
   refine dy g50 rfl oT (by kernel_rfl) ?_
   intro w52 ch51
   refine qx (λw' hw'=>aa jg rfl rfl zs7 rfl) ?_
   refine qx (λw' hw'=>a8 cS rfl (bx17.t.bel hw') rfl) (qx (λw' hw'=>aa jg rfl rfl zs7 rfl) (qx (λw' hw'=>a8 cS rfl (bx17.t.bel hw') rfl) (qv (vi ((gI PB ↑k).1)) (λw' hw'=>bK rfl) (qv (vi (((gI PB ↑k).2).1)) (λw' hw'=>bK rfl) (qv (vb true) (λw' hw'=>bK rfl) (gf ?_))))))
   intro w53 hc54
   replace hc54:=aG hc54 g50
   refine az (vs:=[vi ((gI PB ↑k).1),vi (((gI PB ↑k).2).1),vb true]) Tryz.func60 (.tmp rfl (.tmp rfl (.tmp rfl .nil))) ?_
   have e0:((gI PB ↑k).1:Int)=((cD PB).1):=by
     rw[htw.yes ‹_› ‹_›]
   have e1:(((gI PB ↑k).2).1:Int)=((cD PB).2.1):=by
     rw[htw.yes ‹_› ‹_›]
   have e2:(true:Bool)=((cD PB).2.2):=by
     rw[htw.yes ‹_› ‹_›]
   exact⟨(iZ (a:=(gI PB ↑k).1) (b:=((gI PB ↑k).2).1) (c:=true) (λ(z0:Int) (z1:Int) (z2:Bool)=>Ending.returned (vt [vi z0,vi z1,vb z2])) e0 e1 e2),bH.t.below⟩
  refine af rfl (df p7) (am (ak ?_))
  refine a6 rfl (lx (aJ (m:=↑k) (n:=1) zs15 rfl (by omega)) (mi ((k:Int)+1) (ab ?_)))
  refine back3 (k+1,(λq=>if q=((gI PB ↑k).1,((gI PB ↑k).2).1) then((F ((gI PB ↑k).1,((gI PB ↑k).2).1))+1) else F q),g50) _ _ ⟨bH,zs5,zs13,zs14,rfl,Rp1,hp_b,m33,by omega,?_⟩ ?_
  · show u3 PB (k+1) (λq=>if q=((gI PB ↑k).1,((gI PB ↑k).2).1) then((F ((gI PB ↑k).1,((gI PB ↑k).2).1))+1) else F q)
    exact htw.next ‹_› ‹_›
  · show Int.toNat (_-_)<Int.toNat (_-_)
    omega
 refine af rfl (df p3) (aF rfl (a7 ?_))
 refine a6 rfl (ai 0 (ai 0 (ma (vb false) (ab (az (vs:=[vi 0,vi 0,vb false]) Tryz.func60 (.tmp rfl (.tmp rfl (.tmp rfl .nil))) ?_)))))
 have e0:(0:Int)=((cD PB).1):=by
   rw[htw.none ‹_›]
 have e1:(0:Int)=((cD PB).2.1):=by
   rw[htw.none ‹_›]
 have e2:(false:Bool)=((cD PB).2.2):=by
   rw[htw.none ‹_›]
 exact⟨(iZ (a:=0) (b:=0) (c:=false) (λ(z0:Int) (z1:Int) (z2:Bool)=>Ending.returned (vt [vi z0,vi z1,vb z2])) e0 e1 e2),bH.below⟩
theorem BD(w0:World)(p_b:Nat)(p0_v:Value)(p1_v:Value)(PB:List Bd)(hp1_v:Ro w0 p1_v PB)(hp_b:Bx c0 (is 0) w0 p_b [p0_v,p1_v])(h0:0<(PB.length:Int))(hl:(PB.length:Int)<=100000):
    Calls Tryz.prog 63 #[vp p_b 0] w0 (λee w=>∃xx:ax×Value×Value,ee= .returned ((λ⟨δ,rv0,rv1⟩=>vt [vg [vi ((ba PB).1),rv0],rv1]) xx)/\(λ(⟨δ,rv0,rv1⟩:ax×Value×Value) (w:World)=>dz w0 δ w/\Ow δ (is 1) (is 1) w rv0 ((ba PB).2)/\Ow δ (is 2) (is 2) w rv1 (cz PB)) xx w):=by
 refine ah Tryz.func63 rfl nq ?_
 have bH:=aW.start w0
 have Rp1:=hp1_v.sl
 have hnp:=DT h0
 have hnl:=Du (bs:=PB)
 refine a7 (a6 rfl (cy rfl (aZ c0 (is 1) (1,0) rfl iw ?_)))
 intro g4 w1 b3 ch2 bx5
 refine ma vn (ab (a7 (a6 rfl (mv (vp p_b 0) ?_))))
 refine lo (bB (aB (vals:=[vp p_b 0]) Tryz.func57 r4 r9 rfl) (jN w1 p_b p0_v p1_v PB Rp1.t.ro (jF hp_b.t) ‹_› ‹_›) ?_)
 rintro⟨d7,v9⟩ w6 ⟨fr8,o10⟩
 obtain⟨g11,ch12,G11⟩:=hU g4 fr8 (λn=>if n=1 then 2 else 0)
 replace o10:=o10.gl G11 2
 refine ma v9 (ab (a7 (a6 rfl (mv v9 ?_))))
 have len13:=(o10.flat).small
 refine lx (bG bF rfl o10.flat) (lw (vg [vi (List.length (cz PB):Int),vn]) (bn (vs:=[(0,vi (List.length (cz PB):Int))]) rfl (by kernel_rfl)) (lo (aZ g11 (is 3) (3,0) rfl iw ?_)))
 intro g17 w14 b16 ch15 bx18
 refine lo (aA (cs':=[vi (List.length (cz PB):Int),vn]) iw rfl rfl bx18 rfl nq (AllOne.all (.cons rfl (.cons rfl .nil))) rfl ?_)
 intro w19 ch20 bx21
 refine ab (a7 (a7 (a6 rfl (mv (vp p_b 0) (lw (vp p_b 0) (ae rfl) (lx (aa dV rfl rfl rfl rfl) ?_))))))
 refine lx (a8 bD rfl hp_b.t rfl) ?_
 have len23:=(Rp1).small
 refine lx (bG cM rfl Rp1.t) (mi 0 (ab (aj ?_)))
 refine aR (σ:=Value×(List Pt)×Nat×ax) (λ⟨ie_v,ie,k,gq⟩ f w=>aW w0 gq w/\f 2=vp b3 0/\f 4=v9/\f 5=vp b16 0/\f 20=p1_v/\f 21=vi (PB.length:Int)/\f 22=vi ↑k/\Sl gq (is 0) w p1_v PB/\Bx gq (is 0) w p_b [p0_v,p1_v]/\Bx gq (is 1) w b3 [vi 0,vn]/\Ow gq (is 2) (is 2) w v9 (cz PB)/\Bx gq (is 3) w b16 [vi (List.length (cz PB):Int),ie_v]/\Ow gq (is 6) (is 6) w ie_v ie/\(k:Int)<=((PB.length:Int):Int)/\(ie=(PB.take k).map λb=>(eH (cz PB) b.1,eH (cz PB) b.2.1))) (λ⟨ie_v,ie,k,gq⟩=>Int.toNat (((PB.length:Int):Int)-(k:Int))) (vn,[],0,g17) ?_ ?_
 · exact⟨bH.t,rfl,rfl,rfl,rfl,rfl,rfl,Rp1.t,hp_b.t,bx5.t,o10.t,bx21,Ow.nil,by omega,by rfl⟩
 rintro⟨ie_v,ie,k,g27⟩ f25 w26 ⟨bH,zs2,zs4,zs5,zs20,zs21,zs22,Rp1,hp_b,bx5,o10,bx21,o_ie,hle_k,hie⟩ back4
 have hiel:ie.length<=k:=by rw[hie,List.length_map,List.length_take];omega
 refine a7 (a6 rfl (lx (br (m:=↑k) (n:=(PB.length:Int)) zs22 zs21) (ab (a7 ?_))))
 by_cases p4:(k:Int)<(PB.length:Int)
 ·
  refine ag rfl (dt p4) (am (a7 (aj (a7 (a6 rfl (lx (ad (v:=p1_v) (i:=↑k) cM rfl zs20 Rp1 zs22 (by omega) (by omega)) (lw (vg [vi ((gI PB ↑k).1),vi (((gI PB ↑k).2).1),vi ((((gI PB ↑k).2).2).1),vi ((((gI PB ↑k).2).2).2)]) (bW (v:=p1_v) (i:=↑k) aI rfl Rp1 (by omega) (by omega) rfl) (lo (aZ g27 (is 4) (4,0) rfl aI ?_)))))))))
  intro g31 w28 b30 ch29 bx32
  refine lo (aA (cs':=[vi ((gI PB ↑k).1),vi (((gI PB ↑k).2).1),vi ((((gI PB ↑k).2).2).1),vi ((((gI PB ↑k).2).2).2)]) aI rfl rfl bx32 rfl nq (AllOne.all (.cons rfl (.cons rfl (.cons rfl (.cons rfl .nil))))) rfl ?_)
  intro w33 ch34 bx35
  refine ab (a7 (a6 rfl (mz zs4 (lx (aa jg rfl rfl rfl rfl) (lx (a8 cS rfl bx35 rfl) ?_)))))
  refine lo (bI (v:=vt [vi (eH (cz PB) ((gI PB ↑k).1)),vb (decide (((gI PB ↑k).1)∈(cz PB)))]) (aB (vals:=[v9,vi ((gI PB ↑k).1)]) Tryz.func86 rT qr rfl) (Ac w33 (cz PB) v9 (o10.t.flat).ro ((gI PB ↑k).1) (by exact hnp) (by exact CX PB)) ?_)
  intro w36 hb37
  replace hb37:=aG hb37 g31
  refine mv (vt [vi (eH (cz PB) ((gI PB ↑k).1)),vb (decide (((gI PB ↑k).1)∈(cz PB)))]) (lx (ay rfl rfl) (lx (ay rfl rfl) (ai (eH (cz PB) ((gI PB ↑k).1)) (ma (vb (decide (((gI PB ↑k).1)∈(cz PB)))) (ab (a7 (a6 rfl (mz zs4 (lx (aa jg rfl rfl rfl rfl) ?_)))))))))
  refine lx (a8 cS rfl bx35.t rfl) ?_
  refine lo (bI (v:=vt [vi (eH (cz PB) (((gI PB ↑k).2).1)),vb (decide ((((gI PB ↑k).2).1)∈(cz PB)))]) (aB (vals:=[v9,vi (((gI PB ↑k).2).1)]) Tryz.func86 rT qr rfl) (Ac w36 (cz PB) v9 (o10.t.flat).ro (((gI PB ↑k).2).1) (by exact hnp) (by exact CX PB)) ?_)
  intro w38 hb39
  replace hb39:=aG hb39 g31
  refine mv (vt [vi (eH (cz PB) (((gI PB ↑k).2).1)),vb (decide ((((gI PB ↑k).2).1)∈(cz PB)))]) (lx (ay rfl rfl) (lx (ay rfl rfl) (ai (eH (cz PB) (((gI PB ↑k).2).1)) (ma (vb (decide ((((gI PB ↑k).2).1)∈(cz PB)))) (ab ?_)))))
  refine a6 rfl (lx (aa dK rfl rfl zs5 rfl) ?_)
  refine lx (a8 rU rfl bx21.t rfl) (mi (eH (cz PB) ((gI PB ↑k).1)) (mi (eH (cz PB) (((gI PB ↑k).2).1)) (lw (vg [vi (eH (cz PB) ((gI PB ↑k).1)),vi (eH (cz PB) (((gI PB ↑k).2).1))]) (bn (vs:=[(0,vi (eH (cz PB) ((gI PB ↑k).1))),(1,vi (eH (cz PB) (((gI PB ↑k).2).1)))]) rfl (by kernel_rfl)) (lo (aq (α:=Pt) g31 (is 5) (is 5) (5,0) rfl [(eH (cz PB) ((gI PB ↑k).1),eH (cz PB) (((gI PB ↑k).2).1))] eG iI (by decide) (by decide) (vs:=[(0,vg [vi (eH (cz PB) ((gI PB ↑k).1)),vi (eH (cz PB) (((gI PB ↑k).2).1))])]) rfl rfl (.cons rfl .nil) ?_)))))
  intro g41 w42 v43 ch44 o45
  refine lo ?_
  refine aS (α:=Pt) (xs:=ie) (ys:=([(eH (cz PB) ((gI PB ↑k).1),eH (cz PB) (((gI PB ↑k).2).1))])) g41 (J:=is 6) (S:=is 6) (6,0) rfl eG iI (by decide) rfl rfl rfl o_ie.t o45.flat (by decide) (by(simp;omega)) ?_
  intro g47 w48 v49 ch50 o51
  refine lx (aa dK rfl rfl zs5 rfl) (lo ?_)
  refine aC (cs':=[vi (List.length (cz PB):Int),v49]) rU rfl rfl bx21.t (aL o51.flat) nq (aM o51.flat) rfl ?_
  intro w52 ch53 bx54
  refine ab (ak ?_)
  refine a6 rfl (lx (aJ (m:=↑k) (n:=1) zs22 rfl (by omega)) (mi ((k:Int)+1) (ab ?_)))
  refine back4 (v49,(ie++[(eH (cz PB) ((gI PB ↑k).1),eH (cz PB) (((gI PB ↑k).2).1))]),k+1,g47) _ _ ⟨bH.t,zs2,zs4,zs5,zs20,zs21,rfl,Rp1.t,hp_b.t,bx5.t,o10.t,bx54,o51.t,by omega,?_⟩ ?_
  · show(ie++[(eH (cz PB) ((gI PB ↑k).1),eH (cz PB) (((gI PB ↑k).2).1))])=(PB.take (k+1)).map λb=>(eH (cz PB) b.1,eH (cz PB) b.2.1)
    exact ww hie ‹_›
  · show Int.toNat (_-_)<Int.toNat (_-_)
    omega
 refine af rfl (df p4) (aF rfl (a7 (a6 rfl (lx (av (ds:=[vi (List.length (cz PB):Int),ie_v]) iw zs5 bx21 rfl rfl) (mz zs4 (lo (aA (cs':=[vi (List.length (cz PB):Int),ie_v]) iw zs2 rfl bx5 rfl nq (AllOne.all (.cons rfl (.cons (aM o_ie.flat) .nil))) rfl ?_)))))))
 intro w57 ch58 bx59
 refine ma v9 (ab (az (vs:=[vg [vi (List.length (cz PB):Int),ie_v],v9]) Tryz.func63 (.cell zs2 (cd (ds:=[vi (List.length (cz PB):Int),ie_v]) iw bx59 rfl rfl) (.tmp rfl .nil)) ?_))
 have e0:(((List.length (cz PB):Int),ie):(Int)×(List Pt))=(ba PB):=by
   exact zY hie ‹_›
 have e1:(cz PB:List Int)=(cz PB):=by
   rfl
 exact⟨(fin w0 g27 (λn=>if n=6 then 1 else if n=2 then 2 else 0),ie_v,v9),(cP (a:=((List.length (cz PB):Int),ie)) (b:=cz PB) (λ(z0:(Int)×(List Pt)) (z1:List Int)=>Ending.returned (vt [vg [vi z0.1,ie_v],v9])) e0 e1),bH.t.fresh _,((congrArg (λ(z:(Int)×(List Pt))=>z.2) e0)▸(o_ie.t.glue (γ:=c0) (ren:=(λn=>if n=6 then 1 else if n=2 then 2 else 0)) (k:=1) bH.t.col rfl rfl)),(e1▸(o10.t.glue (γ:=c0) (ren:=(λn=>if n=6 then 1 else if n=2 then 2 else 0)) (k:=2) bH.t.col rfl rfl))⟩
end TL
