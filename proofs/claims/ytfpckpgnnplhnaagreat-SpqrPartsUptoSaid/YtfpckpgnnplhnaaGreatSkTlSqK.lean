import Derived.Test.YtfpckpgnnplhnaaGreatSkTlSqJ
import Derived.Test.YtfpckpgnnplhnaaGreatSkTlSqP
import Derived.Test.YtfpckpgnnplhnaaGreatSkTlBkC
import Derived.Test.YtfpckpgnnplhnaaGreatSkTlGmA
import Derived.Test.YtfpckpgnnplhnaaGreatSkTlGenA
import Derived.Test.YtfpckpgnnplhnaaGreatSkTlAli
set_option linter.all false
set_option maxRecDepth 20000
namespace TL
open Go Go.Proofs
theorem n8:Tryz.prog.follows .mixedOrders=true:=by kernel_rfl
theorem wz:Tryz.f36.body.isNone=false:=rfl
theorem wr:(Tryz.f36.name== "runtime.NumGoroutine")=false:=by decide+kernel
theorem ud:Tryz.f37.body.isNone=false:=rfl
theorem x3:(Tryz.f37.name== "runtime.NumGoroutine")=false:=by decide+kernel
theorem vH:Tryz.f38.body.isNone=false:=rfl
theorem uL:(Tryz.f38.name== "runtime.NumGoroutine")=false:=by decide+kernel
theorem vO:Tryz.f39.body.isNone=false:=rfl
theorem wq:(Tryz.f39.name== "runtime.NumGoroutine")=false:=by decide+kernel
set_option maxHeartbeats 4000000 in
theorem xY(w0:World)(g:(Int)×(List Pt))(g_v:Value)(hg_v:Ro w0 g_v g.2)(hOk:(bW g).2=0->(bW g).1=true->¬(g.2.length:Int)<3->vu g):
    Calls Tryz.prog 18 #[vg [vi g.1,g_v]] w0 (λee w=>∃xx:aw×Value,ee= .returned ((λ⟨δ,rv0⟩=>vt [rv0,vi ((cP g).2)]) xx)/\(λ(⟨δ,rv0⟩:aw×Value) (w:World)=>dU w0 δ w/\iB δ 1 w rv0 ((cP g).1)) xx w):=by
 refine ap Tryz.func18 rfl nq ?_
 have bH:=b6.start w0
 have Rg:=hg_v.sl
 refine a7 (a6 rfl (cN rfl (cq c0 (is 1) (1,0) rfl rfl ?_)))
 intro g4 w1 b3 ch2 bx5
 refine ma vn (ai 0 (ab (a7 (a6 rfl (lx (ay (ds:=[vi g.1,g_v]) aX rfl bx5 rfl rfl) ?_)))))
 replace Rg:=Rg.cn ch2
 refine lo (bV (v:=vt [vb ((bW g).1),vi ((bW g).2)]) (aH (vals:=[vg [vi g.1,g_v]]) Tryz.func36 wz wr rfl) (wQ w1 g g_v (Rg).ro) ?_)
 intro w6 hb7
 replace hb7:=aN hb7 g4
 refine mv (vt [vb ((bW g).1),vi ((bW g).2)]) (lx (aJ rfl rfl) (lx (aJ rfl rfl) (ma (vb ((bW g).1)) (ai ((bW g).2) (ab (a7 (am (a7 (a6 rfl (mi ((bW g).2) (lx (dq (m:=(bW g).2) (n:=0) rfl rfl) ?_)))))))))))
 refine ma (vb (!(decide (((bW g).2)=0)))) (ab ?_)
 by_cases p2:((bW g).2)=0
 ·
  refine ag rfl (congrArg Bool.not (dt p2)) (a7 (a6 rfl (mv (vb ((bW g).1)) (lx (eU (b:=((bW g).1)) rfl) (ma (vb (!((bW g).1))) (ab ?_))))))
  by_cases p4:((bW g).1)=true
  ·
   refine ag rfl (congrArg Bool.not p4) (a7 (a6 rfl (lx (aa ea rfl rfl rfl rfl) ?_)))
   replace bx5:=bx5.cn hb7
   refine lx (a8 bR rfl bx5 rfl) ?_
   replace Rg:=Rg.cn hb7
   have i7:=(Rg).small
   refine lx (bp eR rfl Rg) (lx (bw (m:=(g.2.length:Int)) (n:=3) rfl rfl) (ma (vb (decide ((g.2.length:Int)<3))) (ab ?_)))
   by_cases p6:(g.2.length:Int)<3
   ·
    refine af rfl (dt p6) (a7 ?_)
    clear bx5
    refine a6 rfl (ma vn (ai 9 (ab (au (vs:=[vn,vi 9]) Tryz.func18 (.tmp rfl (.tmp rfl .nil)) ?_))))
    replace bH:=bH.cn ch2
    replace bH:=bH.cn hb7
    have e0:([]:List ((Int)×(List Int)×(List Bd)))=((cP g).1):=by
      rw[ua ‹_› ‹_› ‹_›]
    have e1:(9:Int)=((cP g).2):=by
      rw[ua ‹_› ‹_› ‹_›]
    exact⟨(fin w0 g4 (λn=>0),vn),(cV (a:=[]) (b:=9) (λ(z0:List ((Int)×(List Int)×(List Bd))) (z1:Int)=>Ending.returned (vt [vn,vi z1])) e0 e1),bH.fresh _,(e0▸iB.nil)⟩
   refine ag rfl (df p6) (ao (ak (a7 ?_)))
   have hof:=hOk (p2) ‹_› ‹_›
   have hofl:=hof.hl
   refine a6 rfl (lx (ay (ds:=[vi g.1,g_v]) aX rfl bx5 rfl rfl) (lo (bE (aH (vals:=[vg [vi g.1,g_v]]) Tryz.func37 ud x3 rfl) (wE w6 g g_v (Rg).ro (by exact sE ‹_›) (by exact⟨by omega,by omega⟩) (by exact hof.hr) (by exact hof.hT)) ?_)))
   rintro⟨d10,v12,pL,pA⟩ w9 ⟨fr11,o13,pm14,hpR⟩
   obtain⟨g15,ch16,G15⟩:=i8 g4 fr11 (λn=>if n=1 then 2 else if n=2 then 3 else 0)
   replace o13:=o13.gl G15 2
   replace pm14:=pm14.gl G15 3
   refine ma v12 (ab (a7 ?_))
   clear bx5
   have hVl:(jy (dQ g).1 (dQ g).2).length=pL.length:=by rw[<-hpR.1,List.length_map]
   have hVb:=hof.hv
   rw[hVl] at hVb
   refine a6 rfl (mv v12 (mv v12 (lo (br (aH (vals:=[v12]) Tryz.func39 vO wq rfl) (ap Tryz.func39 rfl nq (a7 (a6 rfl (ai 0 (ab (a7 (a6 rfl (cN rfl (eA (K:=Int) g15 (is 4) (4,0) rfl ?_)))))))))))))
   intro g17 w18 v19 ch20 m21
   refine ma v19 (ab (a7 (a7 (a6 rfl (mv v12 ?_)))))
   replace o13:=o13.cn ch20
   have len22:=(o13.flat).small
   refine lx (bp iZ rfl o13.flat) (mi 0 (ab (am ?_)))
   refine aV (σ:=Nat×(List Pp×List (bY Bd))×((Int->Int)×List Int)×aw) (λ⟨i,pmA_c1,mp,gq⟩ f w=>b6 w0 gq w/\f 3=v19/\f 11=v12/\f 12=vi (pL.length:Int)/\f 13=vi ↑i/\Sl gq (is 0) w g_v g.2/\Ow gq (is 2) (is 2) w v12 pL/\eW gq 3 w pmA_c1.1 pmA_c1.2/\Md gq (is 4) w v19 mp.1 mp.2/\(i:Int)<=((pL.length:Int):Int)/\(sq (jy (dQ g).1 (dQ g).2) pL pmA_c1 i mp)) (λ⟨i,pmA_c1,mp,gq⟩=>Int.toNat (((pL.length:Int):Int)-(i:Int))) (0,pA,((λ_=>0,[]):(Int->Int)×List (Int)),g17) ?_ ?_
   have C23:=cg [] (ch2.n.seq (hb7.n.seq (ch16.n.seq ch20.n)))
   · exact⟨bH.ca C23,rfl,rfl,rfl,rfl,(Rg.cn ch16).cn ch20,o13,pm14.cn ch20,m21,by omega,by exact sq.start hpR (eW.nd ‹_›) (eW.len ‹_›)⟩
   clear Rg o13 pm14 m21 bH
   rintro⟨i,pmA_c1,mp,g26⟩ f24 w25 ⟨bH,zs3_c1,zs11_c1,zs12_c1,zs13_c1,Rg,o13,pm14,m21,hle_i,hon⟩ back3_c1
   refine a7 (a6 rfl (lx (bw (m:=↑i) (n:=(pL.length:Int)) zs13_c1 zs12_c1) (ab (a7 ?_))))
   by_cases p3_c1:(i:Int)<(pL.length:Int)
   ·
    refine af rfl (dt p3_c1) ?_
    have hcu:=hon.cur (by omega)
    refine ao (a7 (am (a7 (a6 rfl (lx (ad (v:=v12) (i:=↑i) iZ rfl zs11_c1 o13.flat zs13_c1 (by omega) (by omega)) (lx (av (v:=v12) (i:=↑i) kh rfl o13.flat (by omega) (by omega) (by decide) rfl) (ma (Value.pointer (some ⟨(gI pL ↑i).n,0,none⟩)) (ab (a7 ?_)))))))))
    obtain⟨g30,v27,ch31,pm32,bx28,o29⟩:=eW.opn 5 6 (u:=(gI pL ↑i)) pm14 (j:=(pmA_c1.1.idxOf (gI pL ↑i))) (by exact fb (hon.sub _ (bC (by omega) (by omega))))
    obtain⟨KB,hKB⟩:∃q_,q_=(gI pmA_c1.2 (((pmA_c1.1.idxOf (gI pL ↑i)):Nat):Int)).1:=⟨_,rfl⟩
    rw[<-hKB] at bx28
    obtain⟨OB0,hOB0⟩:∃q_,q_=(gI pmA_c1.2 (((pmA_c1.1.idxOf (gI pL ↑i)):Nat):Int)).2:=⟨_,rfl⟩
    rw[<-hOB0] at o29
    have hOB1:(OB0.length:Int)<=100000:=by rw[hOB0,hcu];exact hof.hb _ (bC (by omega) (by omega))
    refine a6 rfl (mv (Value.pointer (some ⟨(gI pL ↑i).n,0,none⟩)) (lw (Value.pointer (some ⟨(gI pL ↑i).n,0,none⟩)) (ae rfl) (lx (aa dR rfl rfl rfl rfl) (lx (a8 hX rfl bx28 rfl) ?_))))
    have len33:=(o29.flat).small
    refine lx (bp cJ rfl o29.flat) (mi 0 (ab (am ?_)))
    refine aV (σ:=Nat×(List Bd)×((Int->Int)×List Int)×aw) (λ⟨j,p_1s_c1,mq,gq⟩ f w=>b6 w0 gq w/\f 3=v19/\f 5=Value.pointer (some ⟨(gI pL ↑i).n,0,none⟩)/\f 11=v12/\f 12=vi (pL.length:Int)/\f 13=vi ↑i/\f 20=v27/\f 21=vi (OB0.length:Int)/\f 22=vi ↑j/\Sl gq (is 0) w g_v g.2/\Ow gq (is 2) (is 2) w v12 pL/\Md gq (is 4) w v19 mq.1 mq.2/\d8 gq 3 (pmA_c1.1.idxOf (gI pL ↑i)) w pmA_c1.1 pmA_c1.2/\Bx gq (is 5) w (gI pL ↑i).n [vi KB,v27]/\Ow gq (is 6) (is 6) w v27 p_1s_c1/\(j:Int)<=((OB0.length:Int):Int)/\(jQ (eL [] ((jy (dQ g).1 (dQ g).2).take i)).1 OB0 j mq p_1s_c1)) (λ⟨j,p_1s_c1,mq,gq⟩=>Int.toNat (((OB0.length:Int):Int)-(j:Int))) (0,OB0,mp,g30) ?_ ?_
    · exact⟨bH.ce ch31,zs3_c1,rfl,zs11_c1,zs12_c1,zs13_c1,rfl,rfl,rfl,Rg.ce ch31,o13.ce ch31,m21.ce ch31,pm32,bx28,o29,by omega,by exact jQ.start hon.m⟩
    clear Rg o13 m21 pm32 bx28 o29 bH
    rintro⟨j,p_1s_c1,mq,g36⟩ f34 w35 ⟨bH,zs3_c1,zs5_c1,zs11_c1,zs12_c1,zs13_c1,zs20_c1,zs21_c1,zs22_c1,Rg,o13,m21,pm32,bx28,o29,hle_j,hna⟩ back6_c1
    have hnl:=hna.len (by omega)
    refine a7 (a6 rfl (lx (bw (m:=↑j) (n:=(OB0.length:Int)) zs22_c1 zs21_c1) (ab (a7 ?_))))
    by_cases p6_c1:(j:Int)<(OB0.length:Int)
    ·
     refine af rfl (dt p6_c1) (ao (a7 (am (a7 (a6 rfl (mz zs22_c1 (lx (ad (v:=v27) (i:=↑j) cJ rfl zs20_c1 o29.flat zs22_c1 (by omega) (by omega)) (lw (vg [vi ((gI p_1s_c1 ↑j).1),vi (((gI p_1s_c1 ↑j).2).1),vi ((((gI p_1s_c1 ↑j).2).2).1),vi ((((gI p_1s_c1 ↑j).2).2).2)]) (bJ (v:=v27) (i:=↑j) dZ rfl o29.flat (by omega) (by omega) rfl) (lo (bi g36 (is 7) (7,0) rfl dZ ?_))))))))))
     intro g40 w37 b39 ch38 bx41
     refine ai (j:Int) (lo (ax (cs':=[vi ((gI p_1s_c1 ↑j).1),vi (((gI p_1s_c1 ↑j).2).1),vi ((((gI p_1s_c1 ↑j).2).2).1),vi ((((gI p_1s_c1 ↑j).2).2).2)]) dZ rfl rfl bx41 rfl nq (AllOne.all (.cons rfl (.cons rfl (.cons rfl (.cons rfl .nil))))) rfl ?_))
     intro w42 ch43 bx44
     clear bx41
     refine ab (a7 (a7 (a6 rfl (lx (ay (ds:=[vi ((gI p_1s_c1 ↑j).1),vi (((gI p_1s_c1 ↑j).2).1),vi ((((gI p_1s_c1 ↑j).2).2).1),vi ((((gI p_1s_c1 ↑j).2).2).2)]) dZ rfl bx44 rfl rfl) (lo (br (aH (vals:=[vg [vi ((gI p_1s_c1 ↑j).1),vi (((gI p_1s_c1 ↑j).2).1),vi ((((gI p_1s_c1 ↑j).2).2).1),vi ((((gI p_1s_c1 ↑j).2).2).2)]]) Tryz.func51 lV ms rfl) (ap Tryz.func51 rfl nq (a7 (a6 rfl (cN rfl (cq g40 (is 8) (8,0) rfl rfl ?_)))))))))))
     intro g48 w45 b47 ch46 bx49
     refine ma (vb false) (ab (a7 (a6 rfl (lx (aa iL rfl rfl rfl rfl) (lx (a8 ah rfl bx49 rfl) (lx (eB (m:=(((gI p_1s_c1 ↑j).2).2).1) (n:=0) rfl rfl) (ma (vb (decide (0<=((((gI p_1s_c1 ↑j).2).2).1)))) (ab (au (vs:=[vb (decide (0<=((((gI p_1s_c1 ↑j).2).2).1)))]) Tryz.func51 (.tmp rfl .nil) ?_)))))))))
     refine⟨vb (decide (0<=((((gI p_1s_c1 ↑j).2).2).1))),rfl,?_⟩
     refine ab ?_
     by_cases p8_c1:0<=((((gI p_1s_c1 ↑j).2).2).1)
     ·
      refine af rfl (dt p8_c1) (aO rfl ?_)
      clear bx44 bx49
      refine a6 rfl (lx (aS (m:=↑j) (n:=1) zs22_c1 rfl (by omega)) (mi ((j:Int)+1) (ab ?_)))
      have C50:=cg [7] (ch38.n.seq ((ch43.l rfl).seq ch46.n))
      refine back6_c1 (j+1,p_1s_c1,mq,g48) _ _ ⟨bH.ca C50,zs3_c1,zs5_c1,zs11_c1,zs12_c1,zs13_c1,zs20_c1,zs21_c1,rfl,Rg.ca C50,o13.ca C50,m21.ca C50,pm32.ca C50,bx28.ca C50,o29.ca C50,by omega,?_⟩ ?_
      · show jQ (eL [] ((jy (dQ g).1 (dQ g).2).take i)).1 OB0 (j+1) mq p_1s_c1
        exact hna.real ‹_› ‹_›
      · show Int.toNat (_-_)<Int.toNat (_-_)
        omega
     refine ag rfl (df p8_c1) (ao (a7 (a7 ?_)))
     clear bx49
     refine a6 rfl (mz zs3_c1 (lx (aa iL rfl rfl rfl rfl) ?_))
     replace bx44:=bx44.cn ch46
     refine lx (a8 ah rfl bx44 rfl) ?_
     have C51:=cg [7] (ch38.n.seq ((ch43.l rfl).seq ch46.n))
     replace m21:=m21.ca C51
     refine lw (vt [vi (mq.1 ((((gI p_1s_c1 ↑j).2).2).2)),vb (decide (((((gI p_1s_c1 ↑j).2).2).2)∈mq.2))]) (gD ((((gI p_1s_c1 ↑j).2).2).2) o7 (be U3) ah rfl m21 rfl rfl) (mv (vt [vi (mq.1 ((((gI p_1s_c1 ↑j).2).2).2)),vb (decide (((((gI p_1s_c1 ↑j).2).2).2)∈mq.2))]) (lx (aJ rfl rfl) (lx (aJ rfl rfl) (ai (mq.1 ((((gI p_1s_c1 ↑j).2).2).2)) (ma (vb (decide (((((gI p_1s_c1 ↑j).2).2).2)∈mq.2))) (ab (a7 (a6 rfl (mv (vb (decide (((((gI p_1s_c1 ↑j).2).2).2)∈mq.2))) (lx (eU (b:=decide (((((gI p_1s_c1 ↑j).2).2).2)∈mq.2)) rfl) (ab ?_)))))))))))
     by_cases p10_c1:((((gI p_1s_c1 ↑j).2).2).2)∈mq.2
     ·
      refine ag rfl (congrArg Bool.not (dt p10_c1)) (ao (bq g48 [0,1,2,3,4,5,6,7,8,9,10] n8 ?_))
      intro w53 ch52
      refine xp (v:=Value.pointer (some ⟨(gI pL ↑i).n,0,none⟩)) 0 rfl (λw=>aq zs5_c1) (xp (v:=Value.pointer (some ⟨(gI pL ↑i).n,0,none⟩)) 1 rfl (λw=>ae rfl) (xp 2 rfl (λw=>aa dR rfl rfl rfl rfl) ?_))
      have C54:=cg [7] (ch38.n.seq ((ch43.l rfl).seq (ch46.n.seq ch52.n)))
      replace bx28:=bx28.ca C54
      refine xv 3 [2,1,0,4,5,6,7,8] rfl (a8 hX rfl bx28 rfl) (xp (v:=vi ↑j) 4 rfl (λw=>aq rfl) (xp (v:=v19) 5 rfl (λw=>aq zs3_c1) (xp 6 rfl (λw=>aa iL rfl rfl rfl rfl) ?_)))
      replace bx44:=bx44.cn ch52
      refine xv 7 [6,5,4,3,2,1,0] rfl (a8 ah rfl bx44 rfl) ?_
      replace m21:=m21.cn ch52
      refine xv (v:=vi (mq.1 ((((gI p_1s_c1 ↑j).2).2).2))) 8 [7,6,5,4,3,2,1,0] rfl (dp ((((gI p_1s_c1 ↑j).2).2).2) o7 (be U3) ah rfl m21.mp rfl rfl) ?_
      replace o29:=o29.ca C54
      refine xv 9 [8,7,6,5,4,3,2,1,0] rfl (ad (v:=v27) (i:=↑j) cJ rfl rfl o29.flat rfl (by omega) (by omega)) (xp (v:=Value.pointer (some ⟨(aB v27 4 (Int.toNat ↑j)).block,(aB v27 4 (Int.toNat ↑j)).off+3,none⟩)) 10 rfl (λw=>aI iL rfl rfl rfl rfl) (b9 11 rfl (by kernel_rfl) rfl (lf (i:=↑j) (q:=3) ((gI p_1s_c1 ↑j).1,((gI p_1s_c1 ↑j).2).1,(((gI p_1s_c1 ↑j).2).2).1,mq.1 ((((gI p_1s_c1 ↑j).2).2).2)) ah rfl rfl o29 (by omega) (by omega) (by decide) rfl rfl rfl ?_)))
      intro w55 ch56 bx57
      clear o29
      refine bS (by kernel_rfl) (ak ?_)
      clear bx44
      refine a6 rfl (lx (aS (m:=↑j) (n:=1) zs22_c1 rfl (by omega)) (mi ((j:Int)+1) (ab ?_)))
      have C58:=cg [6,7] (ch38.n.seq ((ch43.l rfl).seq (ch46.n.seq (ch52.n.seq (ch56.l rfl)))))
      refine back6_c1 (j+1,(List.set p_1s_c1 (Int.toNat ↑j) ((gI p_1s_c1 ↑j).1,((gI p_1s_c1 ↑j).2).1,(((gI p_1s_c1 ↑j).2).2).1,mq.1 ((((gI p_1s_c1 ↑j).2).2).2))),mq,g48) _ _ ⟨bH.ca C58,zs3_c1,zs5_c1,zs11_c1,zs12_c1,zs13_c1,zs20_c1,zs21_c1,rfl,Rg.ca C58,o13.ca C58,m21.ce ch56,pm32.ca C58,bx28.ce ch56,bx57,by omega,?_⟩ ?_
      · show jQ (eL [] ((jy (dQ g).1 (dQ g).2).take i)).1 OB0 (j+1) mq (List.set p_1s_c1 (Int.toNat ↑j) ((gI p_1s_c1 ↑j).1,((gI p_1s_c1 ↑j).2).1,(((gI p_1s_c1 ↑j).2).2).1,mq.1 ((((gI p_1s_c1 ↑j).2).2).2)))
        exact hna.old ‹_› ‹_› ‹_› rfl
      · show Int.toNat (_-_)<Int.toNat (_-_)
        omega
     refine af rfl (congrArg Bool.not (df p10_c1)) (a6 rfl (mz zs3_c1 (lx (aa iL rfl rfl rfl rfl) (lx (a8 ah rfl bx44 rfl) (mz zs3_c1 (lw (vi (mq.2.length:Int)) (j7 o7 rfl m21) (lo (eP (m:=(mq.2.length:Int)) ((((gI p_1s_c1 ↑j).2).2).2) o7 (be U3) rfl m21 rfl rfl rfl ?_))))))))
     intro w59 ch60 m61
     clear m21
     refine ab (bq g48 [0,1,2,3,4,5,6,7,8,9,10] n8 ?_)
     intro w63 ch62
     refine xp (v:=Value.pointer (some ⟨(gI pL ↑i).n,0,none⟩)) 0 rfl (λw=>aq zs5_c1) (xp (v:=Value.pointer (some ⟨(gI pL ↑i).n,0,none⟩)) 1 rfl (λw=>ae rfl) (xp 2 rfl (λw=>aa dR rfl rfl rfl rfl) ?_))
     have C64:=cg [4,7] (ch38.n.seq ((ch43.l rfl).seq (ch46.n.seq ((ch60.l rfl).seq ch62.n))))
     replace bx28:=bx28.ca C64
     refine xv 3 [2,1,0,4,5,6,7,8] rfl (a8 hX rfl bx28 rfl) (xp (v:=vi ↑j) 4 rfl (λw=>aq rfl) (xp (v:=v19) 5 rfl (λw=>aq zs3_c1) (xp 6 rfl (λw=>aa iL rfl rfl rfl rfl) ?_)))
     replace bx44:=(bx44.ce ch60).cn ch62
     refine xv 7 [6,5,4,3,2,1,0] rfl (a8 ah rfl bx44 rfl) ?_
     replace m61:=m61.cn ch62
     refine xv (v:=vi (((λq=>if q=((((gI p_1s_c1 ↑j).2).2).2) then(mq.2.length:Int) else mq.1 q),if((((gI p_1s_c1 ↑j).2).2).2)∈mq.2 then mq.2 else mq.2++[((((gI p_1s_c1 ↑j).2).2).2)]).1 ((((gI p_1s_c1 ↑j).2).2).2))) 8 [7,6,5,4,3,2,1,0] rfl (dp ((((gI p_1s_c1 ↑j).2).2).2) o7 (be U3) ah rfl m61.mp rfl rfl) ?_
     replace o29:=o29.ca C64
     refine xv 9 [8,7,6,5,4,3,2,1,0] rfl (ad (v:=v27) (i:=↑j) cJ rfl rfl o29.flat rfl (by omega) (by omega)) (xp (v:=Value.pointer (some ⟨(aB v27 4 (Int.toNat ↑j)).block,(aB v27 4 (Int.toNat ↑j)).off+3,none⟩)) 10 rfl (λw=>aI iL rfl rfl rfl rfl) (b9 11 rfl (by kernel_rfl) rfl (lf (i:=↑j) (q:=3) ((gI p_1s_c1 ↑j).1,((gI p_1s_c1 ↑j).2).1,(((gI p_1s_c1 ↑j).2).2).1,((λq=>if q=((((gI p_1s_c1 ↑j).2).2).2) then(mq.2.length:Int) else mq.1 q),if((((gI p_1s_c1 ↑j).2).2).2)∈mq.2 then mq.2 else mq.2++[((((gI p_1s_c1 ↑j).2).2).2)]).1 ((((gI p_1s_c1 ↑j).2).2).2)) ah rfl rfl o29 (by omega) (by omega) (by decide) rfl rfl rfl ?_)))
     intro w65 ch66 bx67
     clear o29
     refine bS (by kernel_rfl) (ak ?_)
     clear bx44
     refine a6 rfl (lx (aS (m:=↑j) (n:=1) zs22_c1 rfl (by omega)) (mi ((j:Int)+1) (ab ?_)))
     have C68:=cg [4,6,7] (ch38.n.seq ((ch43.l rfl).seq (ch46.n.seq ((ch60.l rfl).seq (ch62.n.seq (ch66.l rfl))))))
     refine back6_c1 (j+1,(List.set p_1s_c1 (Int.toNat ↑j) ((gI p_1s_c1 ↑j).1,((gI p_1s_c1 ↑j).2).1,(((gI p_1s_c1 ↑j).2).2).1,((λq=>if q=((((gI p_1s_c1 ↑j).2).2).2) then(mq.2.length:Int) else mq.1 q),if((((gI p_1s_c1 ↑j).2).2).2)∈mq.2 then mq.2 else mq.2++[((((gI p_1s_c1 ↑j).2).2).2)]).1 ((((gI p_1s_c1 ↑j).2).2).2))),((λq=>if q=((((gI p_1s_c1 ↑j).2).2).2) then(mq.2.length:Int) else mq.1 q),if((((gI p_1s_c1 ↑j).2).2).2)∈mq.2 then mq.2 else mq.2++[((((gI p_1s_c1 ↑j).2).2).2)]),g48) _ _ ⟨bH.ca C68,zs3_c1,zs5_c1,zs11_c1,zs12_c1,zs13_c1,zs20_c1,zs21_c1,rfl,Rg.ca C68,o13.ca C68,m61.ce ch66,pm32.ca C68,bx28.ce ch66,bx67,by omega,?_⟩ ?_
     · show jQ (eL [] ((jy (dQ g).1 (dQ g).2).take i)).1 OB0 (j+1) ((λq=>if q=((((gI p_1s_c1 ↑j).2).2).2) then(mq.2.length:Int) else mq.1 q),if((((gI p_1s_c1 ↑j).2).2).2)∈mq.2 then mq.2 else mq.2++[((((gI p_1s_c1 ↑j).2).2).2)]) (List.set p_1s_c1 (Int.toNat ↑j) ((gI p_1s_c1 ↑j).1,((gI p_1s_c1 ↑j).2).1,(((gI p_1s_c1 ↑j).2).2).1,((λq=>if q=((((gI p_1s_c1 ↑j).2).2).2) then(mq.2.length:Int) else mq.1 q),if((((gI p_1s_c1 ↑j).2).2).2)∈mq.2 then mq.2 else mq.2++[((((gI p_1s_c1 ↑j).2).2).2)]).1 ((((gI p_1s_c1 ↑j).2).2).2)))
       exact hna.new ‹_› ‹_› ‹_› rfl rfl
     · show Int.toNat (_-_)<Int.toNat (_-_)
       omega
    refine ag rfl (df p6_c1) (aO rfl (ak (a6 rfl (lx (aS (m:=↑i) (n:=1) zs13_c1 rfl (by omega)) (mi ((i:Int)+1) (ab ?_))))))
    obtain⟨g69,ch70,pm71⟩:=d8.close pm32 rfl rfl rfl (u:=(gI pL ↑i)) (by exact fb (hon.sub _ (bC (by omega) (by omega)))) bx28 o29
    clear bx28 o29
    refine back3_c1 (i+1,(pmA_c1.1,List.set pmA_c1.2 (pmA_c1.1.idxOf (gI pL ↑i)) (KB,p_1s_c1)),mq,g69) _ _ ⟨bH.chg ch70 (cd rfl rfl),zs3_c1,zs11_c1,zs12_c1,rfl,Rg.chg ch70 (cd rfl rfl),o13.chg ch70 (cd rfl rfl) (cd rfl rfl),pm71,m21.chg ch70 (cd rfl rfl),by omega,?_⟩ ?_
    · show sq (jy (dQ g).1 (dQ g).2) pL (pmA_c1.1,List.set pmA_c1.2 (pmA_c1.1.idxOf (gI pL ↑i)) (KB,p_1s_c1)) (i+1) mq
      (subst hKB;subst hOB0;exact hon.next (by omega) hna ‹_› rfl rfl)
    · show Int.toNat (_-_)<Int.toNat (_-_)
      omega
   refine ag rfl (df p3_c1) (aO rfl (a7 (a6 rfl (mz zs3_c1 (lw (vi (mp.2.length:Int)) (j7 o7 rfl m21) (ai (mp.2.length:Int) (ab (au (vs:=[vi (mp.2.length:Int)]) Tryz.func39 (.tmp rfl .nil) ?_))))))))
   refine⟨vi (mp.2.length:Int),rfl,?_⟩
   refine lo (bE (aH (vals:=[v12,vi (mp.2.length:Int)]) Tryz.func38 vH uL rfl) (pB w25 pL v12 (o13.flat).ro (mp.2.length:Int) pmA_c1 (pm14).ro (by exact hon.sub) (by(obtain⟨hd1,hd2⟩:=hon.done (by omega);rw[hd1,hd2];exact hof.hn))) ?_)
   rintro⟨d73,v75⟩ w72 ⟨fr74,o76⟩
   obtain⟨g77,ch78,G77⟩:=i8 g26 fr74 (λn=>if n=1 then 9 else 0)
   replace o76:=o76.gl G77 9
   refine ma v75 (ai 0 (ab (au (vs:=[v75,vi 0]) Tryz.func18 (.tmp rfl (.tmp rfl .nil)) ?_)))
   replace bH:=bH.cn ch78
   have e0:(sC (pL.map (bo pmA_c1)) (mp.2.length:Int):List ((Int)×(List Int)×(List Bd)))=((cP g).1):=by
     (obtain⟨hd1,hd2⟩:=hon.done (by omega);rw[zY ‹_› ‹_› ‹_›,hd1,hd2];rfl)
   have e1:(0:Int)=((cP g).2):=by
     rw[zY ‹_› ‹_› ‹_›]
   exact⟨(fin w0 g77 (λn=>if n=9 then 1 else 0),v75),(cV (a:=sC (pL.map (bo pmA_c1)) (mp.2.length:Int)) (b:=0) (λ(z0:List ((Int)×(List Int)×(List Bd))) (z1:Int)=>Ending.returned (vt [v75,vi z1])) e0 e1),bH.fresh _,(e0▸(o76.glue (γ:=c0) (ren:=(λn=>if n=9 then 1 else 0)) (k:=1) bH.col rfl rfl))⟩
  refine af rfl (congrArg Bool.not (Bool.eq_false_iff.2 p4)) (a7 ?_)
  clear bx5
  refine a6 rfl (ma vn (ai 7 (ab (au (vs:=[vn,vi 7]) Tryz.func18 (.tmp rfl (.tmp rfl .nil)) ?_))))
  replace bH:=bH.cn ch2
  replace bH:=bH.cn hb7
  have e0:([]:List ((Int)×(List Int)×(List Bd)))=((cP g).1):=by
    rw[vj ‹_› ‹_›]
  have e1:(7:Int)=((cP g).2):=by
    rw[vj ‹_› ‹_›]
  exact⟨(fin w0 g4 (λn=>0),vn),(cV (a:=[]) (b:=7) (λ(z0:List ((Int)×(List Int)×(List Bd))) (z1:Int)=>Ending.returned (vt [vn,vi z1])) e0 e1),bH.fresh _,(e0▸iB.nil)⟩
 refine af rfl (congrArg Bool.not (df p2)) (a7 ?_)
 clear bx5
 refine a6 rfl (mi ((bW g).2) (ma vn (ai ((bW g).2) (ab (au (vs:=[vn,vi ((bW g).2)]) Tryz.func18 (.tmp rfl (.tmp rfl .nil)) ?_)))))
 replace bH:=bH.cn ch2
 replace bH:=bH.cn hb7
 have e0:([]:List ((Int)×(List Int)×(List Bd)))=((cP g).1):=by
   rw[xi ‹_›]
 have e1:((bW g).2:Int)=((cP g).2):=by
   rw[xi ‹_›]
 exact⟨(fin w0 g4 (λn=>0),vn),(cV (a:=[]) (b:=(bW g).2) (λ(z0:List ((Int)×(List Int)×(List Bd))) (z1:Int)=>Ending.returned (vt [vn,vi z1])) e0 e1),bH.fresh _,(e0▸iB.nil)⟩
end TL
