import Derived.Test.YtfpckpgnnplhnaaGreatSkTlSortS
import Derived.Test.YtfpckpgnnplhnaaGreatSkTlSqN
import Derived.Test.YtfpckpgnnplhnaaGreatSkTlAli
set_option linter.all false
set_option maxRecDepth 20000
namespace TL
open Go Go.Proofs
theorem np:Tryz.prog.follows .mixedOrders=true:=by kernel_rfl
theorem oZ:Tp Tryz.prog 23 false 1 24 (.slice none 0 0):=Tp.of (by kernel_rfl)
theorem gT:Tp Tryz.prog 25 true 2 32 (.agg #[.int .i64 0,.slice none 0 0]):=Tp.of (by kernel_rfl)
theorem hU:Tp Tryz.prog 59 true 2 16 (.agg #[.int .i64 0,.int .i64 0]):=Tp.of (by kernel_rfl)
theorem qr:Tryz.f57.body.isNone=false:=rfl
theorem pp:(Tryz.f57.name== "runtime.NumGoroutine")=false:=by decide+kernel
theorem pu:Tryz.f86.body.isNone=false:=rfl
theorem py:(Tryz.f86.name== "runtime.NumGoroutine")=false:=by decide+kernel
theorem wF(w0:World)(p_b:Nat)(p0_v:Value)(p1_v:Value)(PB:List Bd)(hp1_v:Ro w0 p1_v PB)(hp_b:Bx c0 (is 0) w0 p_b [p0_v,p1_v])(h0:0<(PB.length:Int))(hl:(PB.length:Int)<=100000):
    Calls Tryz.prog 59 #[vp p_b 0] w0 (λee w=>ee= .returned (vb (i5 PB))/\eJ w0.heap.size w0 w):=by
 refine ap Tryz.func59 rfl nq ?_
 have bH:=b6.start w0
 have Rp1:=hp1_v.sl
 refine a7 (a6 rfl (ma (vb false) (ab (a7 (a6 rfl (cN rfl (eA (K:=Int) c0 (is 1) (1,0) rfl ?_)))))))
 intro g1 w2 v3 ch4 m5
 refine ma v3 (ab (a7 (a7 (a6 rfl (mv (vp p_b 0) (lw (vp p_b 0) (ae rfl) (lx (aa dR rfl rfl rfl rfl) ?_)))))))
 replace hp_b:=hp_b.cn ch4
 refine lx (a8 bB rfl hp_b rfl) ?_
 replace Rp1:=Rp1.cn ch4
 have len6:=(Rp1).small
 refine lx (bp cJ rfl Rp1) (mi 0 (ab (am ?_)))
 refine aV (σ:=Nat×((Int->Int)×List Int)×aw) (λ⟨k,mp,gq⟩ f w=>b6 w0 gq w/\f 3=v3/\f 12=p1_v/\f 13=vi (PB.length:Int)/\f 14=vi ↑k/\Sl gq (is 0) w p1_v PB/\Bx gq (is 0) w p_b [p0_v,p1_v]/\Md gq (is 1) w v3 mp.1 mp.2/\(k:Int)<=((PB.length:Int):Int)/\(oI PB k mp)) (λ⟨k,mp,gq⟩=>Int.toNat (((PB.length:Int):Int)-(k:Int))) (0,((λ_=>0,[]):(Int->Int)×List (Int)),g1) ?_ ?_
 · exact⟨bH.cn ch4,rfl,rfl,rfl,rfl,Rp1,hp_b,m5,by omega,by exact oI.start⟩
 clear Rp1 hp_b m5 bH
 rintro⟨k,mp,g9⟩ f7 w8 ⟨bH,zs3,zs12,zs13,zs14,Rp1,hp_b,m5,hle_k,hri⟩ back3
 have hrb:=hri.bd
 refine a7 (a6 rfl (lx (bw (m:=↑k) (n:=(PB.length:Int)) zs14 zs13) (ab (a7 ?_))))
 by_cases p3:(k:Int)<(PB.length:Int)
 ·
  refine af rfl (dt p3) ?_
  have hrb1:=hrb (gI PB ↑k).1
  have hrb2:=hri.bdd (gI PB ↑k).1 (gI PB ↑k).2.1
  unfold mO at hrb2
  refine ao (a7 (am (a7 (a6 rfl (lx (ad (v:=p1_v) (i:=↑k) cJ rfl zs12 Rp1 zs14 (by omega) (by omega)) (lw (vg [vi ((gI PB ↑k).1),vi (((gI PB ↑k).2).1),vi ((((gI PB ↑k).2).2).1),vi ((((gI PB ↑k).2).2).2)]) (bJ (v:=p1_v) (i:=↑k) aF rfl Rp1 (by omega) (by omega) rfl) (lo (bi g9 (is 2) (2,0) rfl aF ?_))))))))
  intro g13 w10 b12 ch11 bx14
  refine lo (ax (cs':=[vi ((gI PB ↑k).1),vi (((gI PB ↑k).2).1),vi ((((gI PB ↑k).2).2).1),vi ((((gI PB ↑k).2).2).2)]) aF rfl rfl bx14 rfl nq (AllOne.all (.cons rfl (.cons rfl (.cons rfl (.cons rfl .nil))))) rfl ?_)
  intro w15 ch16 bx17
  clear bx14
  refine ab (a7 (a6 rfl (mz zs3 (lx (aa iL rfl rfl rfl rfl) (lx (a8 cM rfl bx17 rfl) ?_)))))
  replace m5:=(m5.cn ch11).ce ch16
  refine lw (vi (mp.1 ((gI PB ↑k).1))) (dp ((gI PB ↑k).1) o7 (be U3) cM rfl m5.mp rfl rfl) (lx (aS (m:=mp.1 ((gI PB ↑k).1)) (n:=1) rfl rfl (by omega)) (lo (eP (m:=(mp.1 ((gI PB ↑k).1))+1) ((gI PB ↑k).1) o7 (be U3) rfl m5 rfl rfl rfl ?_)))
  intro w18 ch19 m20
  clear m5
  refine ab (a6 rfl (mz zs3 (lx (aa iL rfl rfl rfl rfl) ?_)))
  replace bx17:=bx17.ce ch19
  refine lx (a8 cM rfl bx17 rfl) (lw (vi (((λq=>if q=((gI PB ↑k).1) then((mp.1 ((gI PB ↑k).1))+1) else mp.1 q),if((gI PB ↑k).1)∈mp.2 then mp.2 else mp.2++[((gI PB ↑k).1)]).1 (((gI PB ↑k).2).1))) (dp (((gI PB ↑k).2).1) o7 (be U3) cM rfl m20.mp rfl rfl) (lx (aS (m:=((λq=>if q=((gI PB ↑k).1) then((mp.1 ((gI PB ↑k).1))+1) else mp.1 q),if((gI PB ↑k).1)∈mp.2 then mp.2 else mp.2++[((gI PB ↑k).1)]).1 (((gI PB ↑k).2).1)) (n:=1) rfl rfl (by omega)) (lo ?_)))
  refine eP (m:=(((λq=>if q=((gI PB ↑k).1) then((mp.1 ((gI PB ↑k).1))+1) else mp.1 q),if((gI PB ↑k).1)∈mp.2 then mp.2 else mp.2++[((gI PB ↑k).1)]).1 (((gI PB ↑k).2).1))+1) (((gI PB ↑k).2).1) o7 (be U3) rfl m20 rfl rfl rfl ?_
  intro w21 ch22 m23
  clear m20
  refine ab (ak ?_)
  clear bx17
  refine a6 rfl (lx (aS (m:=↑k) (n:=1) zs14 rfl (by omega)) (mi ((k:Int)+1) (ab ?_)))
  have C24:=cg [1,2] (ch11.n.seq ((ch16.l rfl).seq ((ch19.l rfl).seq (ch22.l rfl))))
  refine back3 (k+1,((λq=>if q=(((gI PB ↑k).2).1) then((((λq=>if q=((gI PB ↑k).1) then((mp.1 ((gI PB ↑k).1))+1) else mp.1 q),if((gI PB ↑k).1)∈mp.2 then mp.2 else mp.2++[((gI PB ↑k).1)]).1 (((gI PB ↑k).2).1))+1) else((λq=>if q=((gI PB ↑k).1) then((mp.1 ((gI PB ↑k).1))+1) else mp.1 q),if((gI PB ↑k).1)∈mp.2 then mp.2 else mp.2++[((gI PB ↑k).1)]).1 q),if(((gI PB ↑k).2).1)∈((λq=>if q=((gI PB ↑k).1) then((mp.1 ((gI PB ↑k).1))+1) else mp.1 q),if((gI PB ↑k).1)∈mp.2 then mp.2 else mp.2++[((gI PB ↑k).1)]).2 then((λq=>if q=((gI PB ↑k).1) then((mp.1 ((gI PB ↑k).1))+1) else mp.1 q),if((gI PB ↑k).1)∈mp.2 then mp.2 else mp.2++[((gI PB ↑k).1)]).2 else((λq=>if q=((gI PB ↑k).1) then((mp.1 ((gI PB ↑k).1))+1) else mp.1 q),if((gI PB ↑k).1)∈mp.2 then mp.2 else mp.2++[((gI PB ↑k).1)]).2++[(((gI PB ↑k).2).1)]),g13) _ _ ⟨bH.ca C24,zs3,zs12,zs13,rfl,Rp1.ca C24,hp_b.ca C24,m23,by omega,?_⟩ ?_
  · show oI PB (k+1) ((λq=>if q=(((gI PB ↑k).2).1) then((((λq=>if q=((gI PB ↑k).1) then((mp.1 ((gI PB ↑k).1))+1) else mp.1 q),if((gI PB ↑k).1)∈mp.2 then mp.2 else mp.2++[((gI PB ↑k).1)]).1 (((gI PB ↑k).2).1))+1) else((λq=>if q=((gI PB ↑k).1) then((mp.1 ((gI PB ↑k).1))+1) else mp.1 q),if((gI PB ↑k).1)∈mp.2 then mp.2 else mp.2++[((gI PB ↑k).1)]).1 q),if(((gI PB ↑k).2).1)∈((λq=>if q=((gI PB ↑k).1) then((mp.1 ((gI PB ↑k).1))+1) else mp.1 q),if((gI PB ↑k).1)∈mp.2 then mp.2 else mp.2++[((gI PB ↑k).1)]).2 then((λq=>if q=((gI PB ↑k).1) then((mp.1 ((gI PB ↑k).1))+1) else mp.1 q),if((gI PB ↑k).1)∈mp.2 then mp.2 else mp.2++[((gI PB ↑k).1)]).2 else((λq=>if q=((gI PB ↑k).1) then((mp.1 ((gI PB ↑k).1))+1) else mp.1 q),if((gI PB ↑k).1)∈mp.2 then mp.2 else mp.2++[((gI PB ↑k).1)]).2++[(((gI PB ↑k).2).1)])
    exact hri.next ‹_›
  · show Int.toNat (_-_)<Int.toNat (_-_)
    omega
 refine ag rfl (df p3) (aO rfl (a7 (a7 (a6 rfl (mz zs3 (lo (zw (J:=is 1) (1,0) rfl o7 rfl m5 ?_)))))))
 intro g25 w26 v27 ch28 m29
 refine ab (am ?_)
 refine aV (σ:=(List Int)×aw) (λ⟨SS,gq⟩ f w=>b6 w0 gq w/\f 30=v27/\Sl gq (is 0) w p1_v PB/\Bx gq (is 0) w p_b [p0_v,p1_v]/\Mi gq (is 1) w v3 v27 mp.1 mp.2 SS/\(∀v∈SS,mp.1 v=2)) (λ⟨SS,gq⟩=>(mp.2.length-SS.length)) (([]:List Int),g25) ?_ ?_
 · exact⟨bH.cn ch28,rfl,Rp1.cn ch28,hp_b.cn ch28,m29,by intro v hv;cases hv⟩
 clear Rp1 hp_b m29 bH
 rintro⟨SS,g32⟩ f30 w31 ⟨bH,zs30,Rp1,hp_b,m29,hss⟩ back9
 refine a7 (a6 rfl (cN rfl (cm zs30 m29 ?_)))
 intro w33 nv34 nb35 ky36 ch37 hn38 hy39 hz40 m41
 clear m29
 refine lw (vb nb35) (yB rfl hn38) (ab (a7 ?_))
 by_cases p9:nb35=true
 ·
  refine af rfl p9 (ao (am (a7 (a6 rfl (lw (vt [vi ky36,vi (mp.1 ky36)]) (yt (by exact zs30) m41 p9) (lx (aJ rfl rfl) (ai (mp.1 ky36) (ab (a7 (a6 rfl (mi (mp.1 ky36) (lx (dq (m:=mp.1 ky36) (n:=2) rfl rfl) ?_))))))))))))
  refine ab ?_
  by_cases p11:(mp.1 ky36)=2
  ·
   refine ag rfl (congrArg Bool.not (dt p11)) (ao (ak ?_))
   refine back9 ((AU nb35 SS ky36),g32) _ _ ⟨bH.ce ch37,zs30,Rp1.ce ch37,hp_b.ce ch37,m41,?_⟩ ?_
   · show∀v∈(AU nb35 SS ky36),mp.1 v=2
     exact zC hss ‹_› ‹_›
   · show(mp.2.length-(AU nb35 SS ky36).length)<(mp.2.length-SS.length)
     (rw[xI ‹_›,List.length_append];have hq:SS.length+1<=mp.2.length:=Ay ‹_› ‹_›;simp only[List.length_cons,List.length_nil];omega)
  refine af rfl (congrArg Bool.not (df p11)) (a7 ?_)
  clear m41
  refine a6 rfl (ma (vb false) (ab (au (vs:=[vb false]) Tryz.func59 (.tmp rfl .nil) ?_)))
  have e0:(false:Bool)=(i5 PB):=by
    exact hri.no ‹_› ‹_› ‹_› ‹_›
  replace bH:=bH.ce ch37
  exact⟨rb e0,bH.below⟩
 refine ag rfl (Bool.eq_false_iff.2 p9) (aO rfl (a7 ?_))
 clear m41
 refine a6 rfl (ma (vb true) (ab (au (vs:=[vb true]) Tryz.func59 (.tmp rfl .nil) ?_)))
 have e0:(true:Bool)=(i5 PB):=by
   exact hri.yes ‹_› hss ‹_› ‹_›
 replace bH:=bH.ce ch37
 exact⟨rb e0,bH.below⟩
theorem sL(w0:World)(p_b:Nat)(p0_v:Value)(p1_v:Value)(PB:List Bd)(hp1_v:Ro w0 p1_v PB)(hp_b:Bx c0 (is 0) w0 p_b [p0_v,p1_v])(h0:0<(PB.length:Int))(hl:(PB.length:Int)<=100000):
    Calls Tryz.prog 60 #[vp p_b 0] w0 (λee w=>ee= .returned (vt [vi ((d6 PB).1),vi ((d6 PB).2.1),vb ((d6 PB).2.2)])/\eJ w0.heap.size w0 w):=by
 refine ap Tryz.func60 rfl nq ?_
 have bH:=b6.start w0
 have Rp1:=hp1_v.sl
 refine a7 (a6 rfl (ai 0 (ai 0 (ma (vb false) (ab (a7 (a6 rfl (cN rfl (nL (K:=Pt) c0 (is 1) (1,0) rfl ?_)))))))))
 intro g1 w2 v3 ch4 m5
 refine ma v3 (ab (a7 (a7 (a6 rfl (mv (vp p_b 0) (lw (vp p_b 0) (ae rfl) (lx (aa dR rfl rfl rfl rfl) ?_)))))))
 replace hp_b:=hp_b.cn ch4
 refine lx (a8 bB rfl hp_b rfl) ?_
 replace Rp1:=Rp1.cn ch4
 have len6:=(Rp1).small
 refine lx (bp cJ rfl Rp1) (mi 0 (ab (am ?_)))
 refine aV (σ:=Nat×(Pt->Int)×aw) (λ⟨k,F,gq⟩ f w=>b6 w0 gq w/\f 5=v3/\f 13=p1_v/\f 14=vi (PB.length:Int)/\f 15=vi ↑k/\Sl gq (is 0) w p1_v PB/\Bx gq (is 0) w p_b [p0_v,p1_v]/\Mp gq (is 1) w v3 F/\(k:Int)<=((PB.length:Int):Int)/\(so PB k F)) (λ⟨k,F,gq⟩=>Int.toNat (((PB.length:Int):Int)-(k:Int))) (0,(λ_=>0),g1) ?_ ?_
 · exact⟨bH.cn ch4,rfl,rfl,rfl,rfl,Rp1,hp_b,m5,by omega,by exact so.start⟩
 clear Rp1 hp_b m5 bH
 rintro⟨k,F,g9⟩ f7 w8 ⟨bH,zs5,zs13,zs14,zs15,Rp1,hp_b,m5,hle_k,htw⟩ back3
 have htb:=htw.bd
 refine a7 (a6 rfl (lx (bw (m:=↑k) (n:=(PB.length:Int)) zs15 zs14) (ab (a7 ?_))))
 by_cases p3:(k:Int)<(PB.length:Int)
 ·
  refine af rfl (dt p3) ?_
  have htb1:=htb ((gI PB ↑k).1,(gI PB ↑k).2.1)
  refine ao (a7 (am (a7 (a6 rfl (lx (ad (v:=p1_v) (i:=↑k) cJ rfl zs13 Rp1 zs15 (by omega) (by omega)) (lw (vg [vi ((gI PB ↑k).1),vi (((gI PB ↑k).2).1),vi ((((gI PB ↑k).2).2).1),vi ((((gI PB ↑k).2).2).2)]) (bJ (v:=p1_v) (i:=↑k) aF rfl Rp1 (by omega) (by omega) rfl) (lo (bi g9 (is 2) (2,0) rfl aF ?_))))))))
  intro g13 w10 b12 ch11 bx14
  refine lo (ax (cs':=[vi ((gI PB ↑k).1),vi (((gI PB ↑k).2).1),vi ((((gI PB ↑k).2).2).1),vi ((((gI PB ↑k).2).2).2)]) aF rfl rfl bx14 rfl nq (AllOne.all (.cons rfl (.cons rfl (.cons rfl (.cons rfl .nil))))) rfl ?_)
  intro w15 ch16 bx17
  clear bx14
  refine ab (a7 (a6 rfl (lx (aa iL rfl rfl rfl rfl) (lx (a8 cM rfl bx17 rfl) (lx (aa iL rfl rfl rfl rfl) (lx (a8 cM rfl bx17 rfl) (lw (vg [vi ((gI PB ↑k).1),vi (((gI PB ↑k).2).1)]) (bh (vs:=[(0,vi ((gI PB ↑k).1)),(1,vi (((gI PB ↑k).2).1))]) rfl (by kernel_rfl)) (lo (bi g13 (is 3) (3,0) rfl hU ?_)))))))))
  intro g21 w18 b20 ch19 bx22
  refine lo (ax (cs':=[vi ((gI PB ↑k).1),vi (((gI PB ↑k).2).1)]) hU rfl rfl bx22 rfl nq (AllOne.all (.cons rfl (.cons rfl .nil))) rfl ?_)
  intro w23 ch24 bx25
  clear bx22
  refine ab (a7 ?_)
  refine dl (σ:=aw) (λgq f w=>b6 w0 gq w/\f 5=v3/\f 7=vp b12 0/\f 8=vp b20 0/\f 13=p1_v/\f 14=vi (PB.length:Int)/\f 15=vi ↑k/\Sl gq (is 0) w p1_v PB/\Bx gq (is 0) w p_b [p0_v,p1_v]/\Bx gq (is 2) w b12 [vi ((gI PB ↑k).1),vi (((gI PB ↑k).2).1),vi ((((gI PB ↑k).2).2).1),vi ((((gI PB ↑k).2).2).2)]/\Bx gq (is 3) w b20 [vi ((gI PB ↑k).1),vi (((gI PB ↑k).2).1)]/\Mp gq (is 1) w v3 (λq=>if q=((gI PB ↑k).1,((gI PB ↑k).2).1) then((F ((gI PB ↑k).1,((gI PB ↑k).2).1))+1) else F q)) g21 [0,1,3,5] np ?_ ?_
  ·
   intro mid
   intro w27 ch26
   refine xp (v:=v3) 0 rfl (λw=>aq zs5) ?_
   replace bx25:=bx25.cn ch26
   refine xv 1 [0] rfl (ay (ds:=[vi ((gI PB ↑k).1),vi (((gI PB ↑k).2).1)]) hU rfl bx25 rfl rfl) ?_
   refine dD 2 4 rfl rfl (by kernel_rfl) rfl rfl ?_ ?_
   ·
    have C28:=cg [2,3] (ch11.n.seq ((ch16.l rfl).seq (ch19.n.seq ((ch24.l rfl).seq ch26.n))))
    replace m5:=m5.ca C28
    refine aj (v:=vi (F ((gI PB ↑k).1,((gI PB ↑k).2).1))) (dp ((gI PB ↑k).1,((gI PB ↑k).2).1) nh (ci eO U3 cM) cM rfl m5 rfl rfl) (xp 3 rfl (λw=>aS (m:=F ((gI PB ↑k).1,((gI PB ↑k).2).1)) (n:=1) rfl rfl (by omega)) (b9 4 rfl (by kernel_rfl) rfl (eN ((gI PB ↑k).1,((gI PB ↑k).2).1) nh (ci eO U3 cM) cM rfl m5 rfl rfl ?_)))
    intro w29 s32 ch30 m31
    clear m5
    refine xp 5 rfl (λw=>aJ rfl rfl) (b9 6 rfl (by kernel_rfl) rfl (dK rfl m31 rfl rfl ?_))
    intro w33 ch34 m35
    clear m31
    refine bS (by kernel_rfl) ?_
    have C36:=cg [1,2,3] (ch11.n.seq ((ch16.l rfl).seq (ch19.n.seq ((ch24.l rfl).seq (ch26.n.seq ((ch30.l rfl).seq (ch34.l rfl)))))))
    have C37:=cg [1,3] (ch19.n.seq ((ch24.l rfl).seq (ch26.n.seq ((ch30.l rfl).seq (ch34.l rfl)))))
    exact mid (g21) _ _ ⟨bH.ca C36,zs5,rfl,rfl,zs13,zs14,zs15,Rp1.ca C36,hp_b.ca C36,bx17.ca C37,(bx25.ce ch30).ce ch34,m35⟩
   ·
    have C42:=cg [2,3] (ch11.n.seq ((ch16.l rfl).seq (ch19.n.seq ((ch24.l rfl).seq ch26.n))))
    replace m5:=m5.ca C42
    refine eN ((gI PB ↑k).1,((gI PB ↑k).2).1) nh (ci eO U3 cM) cM rfl m5 rfl rfl ?_
    intro w38 s41 ch39 m40
    clear m5
    refine xp 5 rfl (λw=>aJ rfl rfl) (b9 2 rfl (by kernel_rfl) rfl (aj (v:=vi (F ((gI PB ↑k).1,((gI PB ↑k).2).1))) (dp ((gI PB ↑k).1,((gI PB ↑k).2).1) nh (ci eO U3 cM) cM rfl m40.mp rfl rfl) (xp 3 rfl (λw=>aS (m:=F ((gI PB ↑k).1,((gI PB ↑k).2).1)) (n:=1) rfl rfl (by omega)) (b9 6 rfl (by kernel_rfl) rfl (dK rfl m40 rfl rfl ?_)))))
    intro w43 ch44 m45
    clear m40
    refine bS (by kernel_rfl) ?_
    have C46:=cg [1,2,3] (ch11.n.seq ((ch16.l rfl).seq (ch19.n.seq ((ch24.l rfl).seq (ch26.n.seq ((ch39.l rfl).seq (ch44.l rfl)))))))
    have C47:=cg [1,3] (ch19.n.seq ((ch24.l rfl).seq (ch26.n.seq ((ch39.l rfl).seq (ch44.l rfl)))))
    exact mid (g21) _ _ ⟨bH.ca C46,zs5,rfl,rfl,zs13,zs14,zs15,Rp1.ca C46,hp_b.ca C46,bx17.ca C47,(bx25.ce ch39).ce ch44,m45⟩
  clear Rp1 hp_b m5 bx17 bx25 bH
  rintro g50 f48 w49 ⟨bH,zs5,zs7,zs8,zs13,zs14,zs15,Rp1,hp_b,bx17,bx25,m33⟩
  refine a7 (a6 rfl (mz zs5 (lx (ay (ds:=[vi ((gI PB ↑k).1),vi (((gI PB ↑k).2).1)]) hU zs8 bx25 rfl rfl) (lw (vi ((λq=>if q=((gI PB ↑k).1,((gI PB ↑k).2).1) then((F ((gI PB ↑k).1,((gI PB ↑k).2).1))+1) else F q) ((gI PB ↑k).1,((gI PB ↑k).2).1))) (dp (F:=(λq=>if q=((gI PB ↑k).1,((gI PB ↑k).2).1) then((F ((gI PB ↑k).1,((gI PB ↑k).2).1))+1) else F q)) ((gI PB ↑k).1,((gI PB ↑k).2).1) nh (ci eO U3 cM) cM rfl m33 rfl rfl) ?_))))
  refine lx (fm (m:=(λq=>if q=((gI PB ↑k).1,((gI PB ↑k).2).1) then((F ((gI PB ↑k).1,((gI PB ↑k).2).1))+1) else F q) ((gI PB ↑k).1,((gI PB ↑k).2).1)) (n:=1) rfl rfl) (ab ?_)
  by_cases p7:1<((λq=>if q=((gI PB ↑k).1,((gI PB ↑k).2).1) then((F ((gI PB ↑k).1,((gI PB ↑k).2).1))+1) else F q) ((gI PB ↑k).1,((gI PB ↑k).2).1))
  ·
   refine af rfl (dt p7) (a7 ?_)
   clear bx25 m33
   refine cG g50 rfl np (by kernel_rfl) ?_
   intro w52 ch51
   refine qx (λw' hw'=>aa iL rfl rfl zs7 rfl) ?_
   replace bx17:=bx17.cn ch51
   refine qx (λw' hw'=>a8 cM rfl (bx17.bel hw') rfl) (qx (λw' hw'=>aa iL rfl rfl zs7 rfl) (qx (λw' hw'=>a8 cM rfl (bx17.bel hw') rfl) (qv (vi ((gI PB ↑k).1)) (λw' hw'=>bm rfl) (qv (vi (((gI PB ↑k).2).1)) (λw' hw'=>bm rfl) (qv (vb true) (λw' hw'=>bm rfl) (ep ?_))))))
   intro w53 hc54
   replace hc54:=aN hc54 g50
   refine au (vs:=[vi ((gI PB ↑k).1),vi (((gI PB ↑k).2).1),vb true]) Tryz.func60 (.tmp rfl (.tmp rfl (.tmp rfl .nil))) ?_
   have e0:((gI PB ↑k).1:Int)=((d6 PB).1):=by
     rw[htw.yes ‹_› ‹_›]
   have e1:(((gI PB ↑k).2).1:Int)=((d6 PB).2.1):=by
     rw[htw.yes ‹_› ‹_›]
   have e2:(true:Bool)=((d6 PB).2.2):=by
     rw[htw.yes ‹_› ‹_›]
   replace bH:=bH.cn ch51
   replace bH:=bH.cn hc54
   exact⟨(iw (a:=(gI PB ↑k).1) (b:=((gI PB ↑k).2).1) (c:=true) (λ(z0:Int) (z1:Int) (z2:Bool)=>Ending.returned (vt [vi z0,vi z1,vb z2])) e0 e1 e2),bH.below⟩
  refine ag rfl (df p7) (ao (ak ?_))
  clear bx17 bx25
  refine a6 rfl (lx (aS (m:=↑k) (n:=1) zs15 rfl (by omega)) (mi ((k:Int)+1) (ab ?_)))
  refine back3 (k+1,(λq=>if q=((gI PB ↑k).1,((gI PB ↑k).2).1) then((F ((gI PB ↑k).1,((gI PB ↑k).2).1))+1) else F q),g50) _ _ ⟨bH,zs5,zs13,zs14,rfl,Rp1,hp_b,m33,by omega,?_⟩ ?_
  · show so PB (k+1) (λq=>if q=((gI PB ↑k).1,((gI PB ↑k).2).1) then((F ((gI PB ↑k).1,((gI PB ↑k).2).1))+1) else F q)
    exact htw.next ‹_› ‹_›
  · show Int.toNat (_-_)<Int.toNat (_-_)
    omega
 refine ag rfl (df p3) (aO rfl (a7 ?_))
 clear m5
 refine a6 rfl (ai 0 (ai 0 (ma (vb false) (ab (au (vs:=[vi 0,vi 0,vb false]) Tryz.func60 (.tmp rfl (.tmp rfl (.tmp rfl .nil))) ?_)))))
 have e0:(0:Int)=((d6 PB).1):=by
   rw[htw.none ‹_›]
 have e1:(0:Int)=((d6 PB).2.1):=by
   rw[htw.none ‹_›]
 have e2:(false:Bool)=((d6 PB).2.2):=by
   rw[htw.none ‹_›]
 exact⟨(iw (a:=0) (b:=0) (c:=false) (λ(z0:Int) (z1:Int) (z2:Bool)=>Ending.returned (vt [vi z0,vi z1,vb z2])) e0 e1 e2),bH.below⟩
theorem yM(w0:World)(p_b:Nat)(p0_v:Value)(p1_v:Value)(PB:List Bd)(hp1_v:Ro w0 p1_v PB)(hp_b:Bx c0 (is 0) w0 p_b [p0_v,p1_v])(h0:0<(PB.length:Int))(hl:(PB.length:Int)<=100000):
    Calls Tryz.prog 63 #[vp p_b 0] w0 (λee w=>∃xx:aw×Value×Value,ee= .returned ((λ⟨δ,rv0,rv1⟩=>vt [vg [vi ((bc PB).1),rv0],rv1]) xx)/\(λ(⟨δ,rv0,rv1⟩:aw×Value×Value) (w:World)=>dU w0 δ w/\Ow δ (is 1) (is 1) w rv0 ((bc PB).2)/\Ow δ (is 2) (is 2) w rv1 (cC PB)) xx w):=by
 refine ap Tryz.func63 rfl nq ?_
 have bH:=b6.start w0
 have Rp1:=hp1_v.sl
 have hnp:=Az h0
 have hnl:=Ac (bs:=PB)
 refine a7 (a6 rfl (cN rfl (bi c0 (is 1) (1,0) rfl gT ?_)))
 intro g4 w1 b3 ch2 bx5
 refine ma vn (ab (a7 (a6 rfl (mv (vp p_b 0) ?_))))
 replace hp_b:=hp_b.cn ch2
 replace Rp1:=Rp1.cn ch2
 refine lo (bE (aH (vals:=[vp p_b 0]) Tryz.func57 qr pp rfl) (j5 w1 p_b p0_v p1_v PB (Rp1).ro (iR (hp_b)) ‹_› ‹_›) ?_)
 rintro⟨d7,v9⟩ w6 ⟨fr8,o10⟩
 obtain⟨g11,ch12,G11⟩:=i8 g4 fr8 (λn=>if n=1 then 2 else 0)
 replace o10:=o10.gl G11 2
 refine ma v9 (ab (a7 (a6 rfl (mv v9 ?_))))
 have len13:=(o10.flat).small
 refine lx (bp bF rfl o10.flat) (lw (vg [vi (List.length (cC PB):Int),vn]) (bh (vs:=[(0,vi (List.length (cC PB):Int))]) rfl (by kernel_rfl)) (lo (bi g11 (is 3) (3,0) rfl gT ?_)))
 intro g17 w14 b16 ch15 bx18
 refine lo (ax (cs':=[vi (List.length (cC PB):Int),vn]) gT rfl rfl bx18 rfl nq (AllOne.all (.cons rfl (.cons rfl .nil))) rfl ?_)
 intro w19 ch20 bx21
 clear bx18
 refine ab (a7 (a7 (a6 rfl (mv (vp p_b 0) (lw (vp p_b 0) (ae rfl) (lx (aa dR rfl rfl rfl rfl) ?_))))))
 have C22:=cg [3] (ch12.n.seq (ch15.n.seq (ch20.l rfl)))
 replace hp_b:=hp_b.ca C22
 refine lx (a8 bB rfl hp_b rfl) ?_
 replace Rp1:=Rp1.ca C22
 have len23:=(Rp1).small
 refine lx (bp cJ rfl Rp1) (mi 0 (ab (am ?_)))
 refine aV (σ:=Value×(List Pt)×Nat×aw) (λ⟨ie_v,ie,k,gq⟩ f w=>b6 w0 gq w/\f 2=vp b3 0/\f 4=v9/\f 5=vp b16 0/\f 20=p1_v/\f 21=vi (PB.length:Int)/\f 22=vi ↑k/\Sl gq (is 0) w p1_v PB/\Bx gq (is 0) w p_b [p0_v,p1_v]/\Bx gq (is 1) w b3 [vi 0,vn]/\Ow gq (is 2) (is 2) w v9 (cC PB)/\Bx gq (is 3) w b16 [vi (List.length (cC PB):Int),ie_v]/\Ow gq (is 6) (is 6) w ie_v ie/\(k:Int)<=((PB.length:Int):Int)/\(ie=(PB.take k).map λb=>(eG (cC PB) b.1,eG (cC PB) b.2.1))) (λ⟨ie_v,ie,k,gq⟩=>Int.toNat (((PB.length:Int):Int)-(k:Int))) (vn,[],0,g17) ?_ ?_
 have C24:=cg [3] (ch2.n.seq (ch12.n.seq (ch15.n.seq (ch20.l rfl))))
 · exact⟨bH.ca C24,rfl,rfl,rfl,rfl,rfl,rfl,Rp1,hp_b,bx5.ca C22,(o10.cn ch15).ce ch20,bx21,Ow.nil,by omega,by rfl⟩
 clear Rp1 hp_b bx5 o10 bx21 bH
 rintro⟨ie_v,ie,k,g27⟩ f25 w26 ⟨bH,zs2,zs4,zs5,zs20,zs21,zs22,Rp1,hp_b,bx5,o10,bx21,o_ie,hle_k,hie⟩ back4
 have hiel:ie.length<=k:=by rw[hie,List.length_map,List.length_take];omega
 refine a7 (a6 rfl (lx (bw (m:=↑k) (n:=(PB.length:Int)) zs22 zs21) (ab (a7 ?_))))
 by_cases p4:(k:Int)<(PB.length:Int)
 ·
  refine af rfl (dt p4) (ao (a7 (am (a7 (a6 rfl (lx (ad (v:=p1_v) (i:=↑k) cJ rfl zs20 Rp1 zs22 (by omega) (by omega)) (lw (vg [vi ((gI PB ↑k).1),vi (((gI PB ↑k).2).1),vi ((((gI PB ↑k).2).2).1),vi ((((gI PB ↑k).2).2).2)]) (bJ (v:=p1_v) (i:=↑k) aF rfl Rp1 (by omega) (by omega) rfl) (lo (bi g27 (is 4) (4,0) rfl aF ?_)))))))))
  intro g31 w28 b30 ch29 bx32
  refine lo (ax (cs':=[vi ((gI PB ↑k).1),vi (((gI PB ↑k).2).1),vi ((((gI PB ↑k).2).2).1),vi ((((gI PB ↑k).2).2).2)]) aF rfl rfl bx32 rfl nq (AllOne.all (.cons rfl (.cons rfl (.cons rfl (.cons rfl .nil))))) rfl ?_)
  intro w33 ch34 bx35
  clear bx32
  refine ab (a7 (a6 rfl (mz zs4 (lx (aa iL rfl rfl rfl rfl) (lx (a8 cM rfl bx35 rfl) ?_)))))
  replace o10:=(o10.cn ch29).ce ch34
  refine lo (bV (v:=vt [vi (eG (cC PB) ((gI PB ↑k).1)),vb (decide (((gI PB ↑k).1)∈(cC PB)))]) (aH (vals:=[v9,vi ((gI PB ↑k).1)]) Tryz.func86 pu py rfl) (wV w33 (cC PB) v9 (o10.flat).ro ((gI PB ↑k).1) (by exact hnp) (by exact A1 PB)) ?_)
  intro w36 hb37
  replace hb37:=aN hb37 g31
  refine mv (vt [vi (eG (cC PB) ((gI PB ↑k).1)),vb (decide (((gI PB ↑k).1)∈(cC PB)))]) (lx (aJ rfl rfl) (lx (aJ rfl rfl) (ai (eG (cC PB) ((gI PB ↑k).1)) (ma (vb (decide (((gI PB ↑k).1)∈(cC PB)))) (ab (a7 (a6 rfl (mz zs4 (lx (aa iL rfl rfl rfl rfl) ?_)))))))))
  replace bx35:=bx35.cn hb37
  refine lx (a8 cM rfl bx35 rfl) ?_
  replace o10:=o10.cn hb37
  refine lo (bV (v:=vt [vi (eG (cC PB) (((gI PB ↑k).2).1)),vb (decide ((((gI PB ↑k).2).1)∈(cC PB)))]) (aH (vals:=[v9,vi (((gI PB ↑k).2).1)]) Tryz.func86 pu py rfl) (wV w36 (cC PB) v9 (o10.flat).ro (((gI PB ↑k).2).1) (by exact hnp) (by exact A1 PB)) ?_)
  intro w38 hb39
  replace hb39:=aN hb39 g31
  refine mv (vt [vi (eG (cC PB) (((gI PB ↑k).2).1)),vb (decide ((((gI PB ↑k).2).1)∈(cC PB)))]) (lx (aJ rfl rfl) (lx (aJ rfl rfl) (ai (eG (cC PB) (((gI PB ↑k).2).1)) (ma (vb (decide ((((gI PB ↑k).2).1)∈(cC PB)))) (ab ?_)))))
  clear bx35
  refine a6 rfl (lx (aa ea rfl rfl zs5 rfl) ?_)
  have C40:=cg [4] (ch29.n.seq ((ch34.l rfl).seq (hb37.n.seq hb39.n)))
  replace bx21:=bx21.ca C40
  refine lx (a8 oZ rfl bx21 rfl) (mi (eG (cC PB) ((gI PB ↑k).1)) (mi (eG (cC PB) (((gI PB ↑k).2).1)) (lw (vg [vi (eG (cC PB) ((gI PB ↑k).1)),vi (eG (cC PB) (((gI PB ↑k).2).1))]) (bh (vs:=[(0,vi (eG (cC PB) ((gI PB ↑k).1))),(1,vi (eG (cC PB) (((gI PB ↑k).2).1)))]) rfl (by kernel_rfl)) (lo (ar (α:=Pt) g31 (is 5) (is 5) (5,0) rfl [(eG (cC PB) ((gI PB ↑k).1),eG (cC PB) (((gI PB ↑k).2).1))] eR hU (by decide) (by decide) (vs:=[(0,vg [vi (eG (cC PB) ((gI PB ↑k).1)),vi (eG (cC PB) (((gI PB ↑k).2).1))])]) rfl rfl (.cons rfl .nil) ?_)))))
  intro g41 w42 v43 ch44 o45
  refine lo ?_
  have C46:=cg [4] (ch29.n.seq ((ch34.l rfl).seq (hb37.n.seq (hb39.n.seq ch44.n))))
  replace o_ie:=o_ie.ca C46
  refine aK (α:=Pt) (xs:=ie) (ys:=([(eG (cC PB) ((gI PB ↑k).1),eG (cC PB) (((gI PB ↑k).2).1))])) g41 (J:=is 6) (S:=is 6) (6,0) rfl eR hU (by decide) rfl rfl rfl o_ie o45.flat (by decide) (by(simp;omega)) ?_
  intro g47 w48 v49 ch50 o51
  clear o_ie
  refine lx (aa ea rfl rfl zs5 rfl) (lo ?_)
  replace bx21:=(bx21.cn ch44).ce ch50
  refine aC (cs':=[vi (List.length (cC PB):Int),v49]) oZ rfl rfl bx21 (aP o51.flat) nq (aG o51.flat) rfl ?_
  intro w52 ch53 bx54
  clear bx21
  refine ab (ak ?_)
  clear o45
  refine a6 rfl (lx (aS (m:=↑k) (n:=1) zs22 rfl (by omega)) (mi ((k:Int)+1) (ab ?_)))
  have C55:=cg [3,4,6] (ch29.n.seq ((ch34.l rfl).seq (hb37.n.seq (hb39.n.seq (ch44.n.seq ((ch50.l rfl).seq (ch53.l rfl)))))))
  have C56:=cg [3,6] (hb39.n.seq (ch44.n.seq ((ch50.l rfl).seq (ch53.l rfl))))
  refine back4 (v49,(ie++[(eG (cC PB) ((gI PB ↑k).1),eG (cC PB) (((gI PB ↑k).2).1))]),k+1,g47) _ _ ⟨bH.ca C55,zs2,zs4,zs5,zs20,zs21,rfl,Rp1.ca C55,hp_b.ca C55,bx5.ca C55,o10.ca C56,bx54,o51.ce ch53,by omega,?_⟩ ?_
  · show(ie++[(eG (cC PB) ((gI PB ↑k).1),eG (cC PB) (((gI PB ↑k).2).1))])=(PB.take (k+1)).map λb=>(eG (cC PB) b.1,eG (cC PB) b.2.1)
    exact xd hie ‹_›
  · show Int.toNat (_-_)<Int.toNat (_-_)
    omega
 refine ag rfl (df p4) (aO rfl (a7 (a6 rfl (lx (ay (ds:=[vi (List.length (cC PB):Int),ie_v]) gT zs5 bx21 rfl rfl) (mz zs4 (lo (ax (cs':=[vi (List.length (cC PB):Int),ie_v]) gT zs2 rfl bx5 rfl nq (AllOne.all (.cons rfl (.cons (aG o_ie.flat) .nil))) rfl ?_)))))))
 intro w57 ch58 bx59
 clear bx5
 refine ma v9 (ab (au (vs:=[vg [vi (List.length (cC PB):Int),ie_v],v9]) Tryz.func63 (.cell zs2 (cy (ds:=[vi (List.length (cC PB):Int),ie_v]) gT bx59 rfl rfl) (.tmp rfl .nil)) ?_))
 replace bH:=bH.ce ch58
 replace o_ie:=o_ie.ce ch58
 replace o10:=o10.ce ch58
 have e0:(((List.length (cC PB):Int),ie):(Int)×(List Pt))=(bc PB):=by
   exact y7 hie ‹_›
 have e1:(cC PB:List Int)=(cC PB):=by
   rfl
 exact⟨(fin w0 g27 (λn=>if n=6 then 1 else if n=2 then 2 else 0),ie_v,v9),(cV (a:=((List.length (cC PB):Int),ie)) (b:=cC PB) (λ(z0:(Int)×(List Pt)) (z1:List Int)=>Ending.returned (vt [vg [vi z0.1,ie_v],v9])) e0 e1),bH.fresh _,((congrArg (λ(z:(Int)×(List Pt))=>z.2) e0)▸(o_ie.glue (γ:=c0) (ren:=(λn=>if n=6 then 1 else if n=2 then 2 else 0)) (k:=1) bH.col rfl rfl)),(e1▸(o10.glue (γ:=c0) (ren:=(λn=>if n=6 then 1 else if n=2 then 2 else 0)) (k:=2) bH.col rfl rfl))⟩
end TL
