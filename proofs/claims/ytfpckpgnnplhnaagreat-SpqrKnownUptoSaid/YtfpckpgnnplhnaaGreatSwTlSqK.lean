import Derived.Test.YtfpckpgnnplhnaaGreatSwTlSqJ
import Derived.Test.YtfpckpgnnplhnaaGreatSwTlSqP
import Derived.Test.YtfpckpgnnplhnaaGreatSwTlBkC
import Derived.Test.YtfpckpgnnplhnaaGreatSwTlGmA
import Derived.Test.YtfpckpgnnplhnaaGreatSwTlGenA
import Derived.Test.YtfpckpgnnplhnaaGreatSwTlAli
set_option linter.all false
set_option maxRecDepth 20000
namespace TL
open Go Go.Proofs
theorem oU:Tryz.prog.follows .mixedOrders=true:=by kernel_rfl
theorem wI:Tryz.f36.body.isNone=false:=rfl
theorem wT:(Tryz.f36.name== "runtime.NumGoroutine")=false:=by decide+kernel
theorem yM:Tryz.f37.body.isNone=false:=rfl
theorem yt:(Tryz.f37.name== "runtime.NumGoroutine")=false:=by decide+kernel
theorem Aw:Tryz.f38.body.isNone=false:=rfl
theorem wC:(Tryz.f38.name== "runtime.NumGoroutine")=false:=by decide+kernel
theorem yV:Tryz.f39.body.isNone=false:=rfl
theorem y0:(Tryz.f39.name== "runtime.NumGoroutine")=false:=by decide+kernel
set_option maxHeartbeats 4000000 in
theorem yu(w0:World)(g:(Int)×(List Pt))(g_v:Value)(hg_v:Ro w0 g_v g.2)(hOk:(bX g).2=0->(bX g).1=true->¬(g.2.length:Int)<3->sr g):
    Calls Tryz.prog 18 #[vg [vi g.1,g_v]] w0 (λee w=>∃xx:ax×Value,ee= .returned ((λ⟨δ,rv0⟩=>vt [rv0,vi ((cQ g).2)]) xx)/\(λ(⟨δ,rv0⟩:ax×Value) (w:World)=>dz w0 δ w/\kI δ 1 w rv0 ((cQ g).1)) xx w):=by
 refine ah Tryz.func18 rfl nq ?_
 have bH:=aW.start w0
 have Rg:=hg_v.sl
 refine a7 (a6 rfl (cy rfl (bU c0 (is 1) (1,0) rfl rfl ?_)))
 intro g4 w1 b3 ch2 bx5
 refine ma vn (ai 0 (ab (a7 (a6 rfl (lx (av (ds:=[vi g.1,g_v]) aK rfl bx5 rfl rfl) ?_)))))
 refine lo (bI (v:=vt [vb ((bX g).1),vi ((bX g).2)]) (aB (vals:=[vg [vi g.1,g_v]]) Tryz.func36 wI wT rfl) (AE w1 g g_v Rg.t.ro) ?_)
 intro w6 hb7
 replace hb7:=aG hb7 g4
 refine mv (vt [vb ((bX g).1),vi ((bX g).2)]) (lx (ay rfl rfl) (lx (ay rfl rfl) (ma (vb ((bX g).1)) (ai ((bX g).2) (ab (a7 (aj (a7 (a6 rfl (mi ((bX g).2) (lx (du (m:=(bX g).2) (n:=0) rfl rfl) ?_)))))))))))
 refine ma (vb (!(decide (((bX g).2)=0)))) (ab ?_)
 by_cases p2:((bX g).2)=0
 ·
  refine af rfl (congrArg Bool.not (dt p2)) (a7 (a6 rfl (mv (vb ((bX g).1)) (lx (fM (b:=((bX g).1)) rfl) (ma (vb (!((bX g).1))) (ab ?_))))))
  by_cases p4:((bX g).1)=true
  ·
   refine af rfl (congrArg Bool.not p4) (a7 (a6 rfl (lx (aa dK rfl rfl rfl rfl) ?_)))
   refine lx (a8 bM rfl bx5.t rfl) ?_
   have iE:=(Rg).small
   refine lx (bG eG rfl Rg.t) (lx (br (m:=(g.2.length:Int)) (n:=3) rfl rfl) (ma (vb (decide ((g.2.length:Int)<3))) (ab ?_)))
   by_cases p6:(g.2.length:Int)<3
   ·
    refine ag rfl (dt p6) (a7 ?_)
    refine a6 rfl (ma vn (ai 9 (ab (az (vs:=[vn,vi 9]) Tryz.func18 (.tmp rfl (.tmp rfl .nil)) ?_))))
    have e0:([]:List ((Int)×(List Int)×(List Bd)))=((cQ g).1):=by
      rw[zn ‹_› ‹_› ‹_›]
    have e1:(9:Int)=((cQ g).2):=by
      rw[zn ‹_› ‹_› ‹_›]
    exact⟨(fin w0 g4 (λn=>0),vn),(cP (a:=[]) (b:=9) (λ(z0:List ((Int)×(List Int)×(List Bd))) (z1:Int)=>Ending.returned (vt [vn,vi z1])) e0 e1),bH.t.fresh _,(e0▸kI.nil)⟩
   refine af rfl (df p6) (am (ak (a7 ?_)))
   have hof:=hOk (p2) ‹_› ‹_›
   have hofl:=hof.hl
   refine a6 rfl (lx (av (ds:=[vi g.1,g_v]) aK rfl bx5.t rfl rfl) (lo (bB (aB (vals:=[vg [vi g.1,g_v]]) Tryz.func37 yM yt rfl) (yr w6 g g_v Rg.t.ro (by exact vf ‹_›) (by exact⟨by omega,by omega⟩) (by exact hof.hr) (by exact hof.hT)) ?_)))
   rintro⟨d10,v12,pL,pA⟩ w9 ⟨fr11,o13,pm14,hpR⟩
   obtain⟨g15,ch16,G15⟩:=hU g4 fr11 (λn=>if n=1 then 2 else if n=2 then 3 else 0)
   replace o13:=o13.gl G15 2
   replace pm14:=pm14.gl G15 3
   refine ma v12 (ab (a7 ?_))
   have hVl:(ja (dO g).1 (dO g).2).length=pL.length:=by rw[<-hpR.1,List.length_map]
   have hVb:=hof.hv
   rw[hVl] at hVb
   refine a6 rfl (mv v12 (mv v12 (lo (aV (aB (vals:=[v12]) Tryz.func39 yV y0 rfl) (ah Tryz.func39 rfl nq (a7 (a6 rfl (ai 0 (ab (a7 (a6 rfl (cy rfl (ep (K:=Int) g15 (is 4) (4,0) rfl ?_)))))))))))))
   intro g17 w18 v19 ch20 m21
   refine ma v19 (ab (a7 (a7 (a6 rfl (mv v12 ?_)))))
   have len22:=((o13.a ch20).flat).small
   refine lx (bG jH rfl o13.t.flat) (mi 0 (ab (aj ?_)))
   refine aR (σ:=Nat×(List Pp×List (ch Bd))×((Int->Int)×List Int)×ax) (λ⟨i,pmA_c1,mp,gq⟩ f w=>aW w0 gq w/\f 3=v19/\f 11=v12/\f 12=vi (pL.length:Int)/\f 13=vi ↑i/\Sl gq (is 0) w g_v g.2/\Ow gq (is 2) (is 2) w v12 pL/\fi gq 3 w pmA_c1.1 pmA_c1.2/\Md gq (is 4) w v19 mp.1 mp.2/\(i:Int)<=((pL.length:Int):Int)/\(uf (ja (dO g).1 (dO g).2) pL pmA_c1 i mp)) (λ⟨i,pmA_c1,mp,gq⟩=>Int.toNat (((pL.length:Int):Int)-(i:Int))) (0,pA,((λ_=>0,[]):(Int->Int)×List (Int)),g17) ?_ ?_
   · exact⟨bH.t,rfl,rfl,rfl,rfl,Rg.t,o13.t,pm14.t,m21,by omega,by exact uf.start hpR (fi.nd ‹_›) (fi.len ‹_›)⟩
   rintro⟨i,pmA_c1,mp,g26⟩ f24 w25 ⟨bH,zs3_c1,zs11_c1,zs12_c1,zs13_c1,Rg,o13,pm14,m21,hle_i,hon⟩ back3_c1
   refine a7 (a6 rfl (lx (br (m:=↑i) (n:=(pL.length:Int)) zs13_c1 zs12_c1) (ab (a7 ?_))))
   by_cases p3_c1:(i:Int)<(pL.length:Int)
   ·
    refine ag rfl (dt p3_c1) ?_
    have hcu:=hon.cur (by omega)
    refine am (a7 (aj (a7 (a6 rfl (lx (ad (v:=v12) (i:=↑i) jH rfl zs11_c1 o13.flat zs13_c1 (by omega) (by omega)) (lx (aw (v:=v12) (i:=↑i) lf rfl o13.flat (by omega) (by omega) (by decide) rfl) (ma (Value.pointer (some ⟨(gI pL ↑i).n,0,none⟩)) (ab (a7 ?_)))))))))
    obtain⟨g30,v27,ch31,pm32,bx28,o29⟩:=fi.opn 5 6 (u:=(gI pL ↑i)) pm14 (j:=(pmA_c1.1.idxOf (gI pL ↑i))) (by exact fB (hon.sub _ (bz (by omega) (by omega))))
    obtain⟨KB,hKB⟩:∃q_,q_=(gI pmA_c1.2 (((pmA_c1.1.idxOf (gI pL ↑i)):Nat):Int)).1:=⟨_,rfl⟩
    rw[<-hKB] at bx28
    obtain⟨OB0,hOB0⟩:∃q_,q_=(gI pmA_c1.2 (((pmA_c1.1.idxOf (gI pL ↑i)):Nat):Int)).2:=⟨_,rfl⟩
    rw[<-hOB0] at o29
    have hOB1:(OB0.length:Int)<=100000:=by rw[hOB0,hcu];exact hof.hb _ (bz (by omega) (by omega))
    refine a6 rfl (mv (Value.pointer (some ⟨(gI pL ↑i).n,0,none⟩)) (lw (Value.pointer (some ⟨(gI pL ↑i).n,0,none⟩)) (ae rfl) (lx (aa dV rfl rfl rfl rfl) (lx (a8 iG rfl bx28 rfl) ?_))))
    have len33:=(o29.flat).small
    refine lx (bG cM rfl o29.flat) (mi 0 (ab (aj ?_)))
    refine aR (σ:=Nat×(List Bd)×((Int->Int)×List Int)×ax) (λ⟨j,p_1s_c1,mq,gq⟩ f w=>aW w0 gq w/\f 3=v19/\f 5=Value.pointer (some ⟨(gI pL ↑i).n,0,none⟩)/\f 11=v12/\f 12=vi (pL.length:Int)/\f 13=vi ↑i/\f 20=v27/\f 21=vi (OB0.length:Int)/\f 22=vi ↑j/\Sl gq (is 0) w g_v g.2/\Ow gq (is 2) (is 2) w v12 pL/\Md gq (is 4) w v19 mq.1 mq.2/\dl gq 3 (pmA_c1.1.idxOf (gI pL ↑i)) w pmA_c1.1 pmA_c1.2/\Bx gq (is 5) w (gI pL ↑i).n [vi KB,v27]/\Ow gq (is 6) (is 6) w v27 p_1s_c1/\(j:Int)<=((OB0.length:Int):Int)/\(kK (dU [] ((ja (dO g).1 (dO g).2).take i)).1 OB0 j mq p_1s_c1)) (λ⟨j,p_1s_c1,mq,gq⟩=>Int.toNat (((OB0.length:Int):Int)-(j:Int))) (0,OB0,mp,g30) ?_ ?_
    · exact⟨(bH.a ch31),zs3_c1,rfl,zs11_c1,zs12_c1,zs13_c1,rfl,rfl,rfl,(Rg.a ch31),(o13.a ch31),(m21.a ch31),pm32,bx28,o29,by omega,by exact kK.start hon.m⟩
    rintro⟨j,p_1s_c1,mq,g36⟩ f34 w35 ⟨bH,zs3_c1,zs5_c1,zs11_c1,zs12_c1,zs13_c1,zs20_c1,zs21_c1,zs22_c1,Rg,o13,m21,pm32,bx28,o29,hle_j,hna⟩ back6_c1
    have hnl:=hna.len (by omega)
    refine a7 (a6 rfl (lx (br (m:=↑j) (n:=(OB0.length:Int)) zs22_c1 zs21_c1) (ab (a7 ?_))))
    by_cases p6_c1:(j:Int)<(OB0.length:Int)
    ·
     refine ag rfl (dt p6_c1) (am (a7 (aj (a7 (a6 rfl (mz zs22_c1 (lx (ad (v:=v27) (i:=↑j) cM rfl zs20_c1 o29.flat zs22_c1 (by omega) (by omega)) (lw (vg [vi ((gI p_1s_c1 ↑j).1),vi (((gI p_1s_c1 ↑j).2).1),vi ((((gI p_1s_c1 ↑j).2).2).1),vi ((((gI p_1s_c1 ↑j).2).2).2)]) (bW (v:=v27) (i:=↑j) dZ rfl o29.flat (by omega) (by omega) rfl) (lo (aZ g36 (is 7) (7,0) rfl dZ ?_))))))))))
     intro g40 w37 b39 ch38 bx41
     refine ai (j:Int) (lo (aA (cs':=[vi ((gI p_1s_c1 ↑j).1),vi (((gI p_1s_c1 ↑j).2).1),vi ((((gI p_1s_c1 ↑j).2).2).1),vi ((((gI p_1s_c1 ↑j).2).2).2)]) dZ rfl rfl bx41 rfl nq (AllOne.all (.cons rfl (.cons rfl (.cons rfl (.cons rfl .nil))))) rfl ?_))
     intro w42 ch43 bx44
     refine ab (a7 (a7 (a6 rfl (lx (av (ds:=[vi ((gI p_1s_c1 ↑j).1),vi (((gI p_1s_c1 ↑j).2).1),vi ((((gI p_1s_c1 ↑j).2).2).1),vi ((((gI p_1s_c1 ↑j).2).2).2)]) dZ rfl bx44 rfl rfl) (lo (aV (aB (vals:=[vg [vi ((gI p_1s_c1 ↑j).1),vi (((gI p_1s_c1 ↑j).2).1),vi ((((gI p_1s_c1 ↑j).2).2).1),vi ((((gI p_1s_c1 ↑j).2).2).2)]]) Tryz.func51 mV nV rfl) (ah Tryz.func51 rfl nq (a7 (a6 rfl (cy rfl (bU g40 (is 8) (8,0) rfl rfl ?_)))))))))))
     intro g48 w45 b47 ch46 bx49
     refine ma (vb false) (ab (a7 (a6 rfl (lx (aa jg rfl rfl rfl rfl) (lx (a8 ap rfl bx49 rfl) (lx (eL (m:=(((gI p_1s_c1 ↑j).2).2).1) (n:=0) rfl rfl) (ma (vb (decide (0<=((((gI p_1s_c1 ↑j).2).2).1)))) (ab (az (vs:=[vb (decide (0<=((((gI p_1s_c1 ↑j).2).2).1)))]) Tryz.func51 (.tmp rfl .nil) ?_)))))))))
     refine⟨vb (decide (0<=((((gI p_1s_c1 ↑j).2).2).1))),rfl,?_⟩
     refine ab ?_
     by_cases p8_c1:0<=((((gI p_1s_c1 ↑j).2).2).1)
     ·
      refine ag rfl (dt p8_c1) (aF rfl ?_)
      refine a6 rfl (lx (aJ (m:=↑j) (n:=1) zs22_c1 rfl (by omega)) (mi ((j:Int)+1) (ab ?_)))
      refine back6_c1 (j+1,p_1s_c1,mq,g48) _ _ ⟨bH.t,zs3_c1,zs5_c1,zs11_c1,zs12_c1,zs13_c1,zs20_c1,zs21_c1,rfl,Rg.t,o13.t,m21.t,pm32.t,bx28.t,o29.t,by omega,?_⟩ ?_
      · show kK (dU [] ((ja (dO g).1 (dO g).2).take i)).1 OB0 (j+1) mq p_1s_c1
        exact hna.real ‹_› ‹_›
      · show Int.toNat (_-_)<Int.toNat (_-_)
        omega
     refine af rfl (df p8_c1) (am (a7 (a7 ?_)))
     refine a6 rfl (mz zs3_c1 (lx (aa jg rfl rfl rfl rfl) ?_))
     refine lx (a8 ap rfl bx44.t rfl) ?_
     refine lw (vt [vi (mq.1 ((((gI p_1s_c1 ↑j).2).2).2)),vb (decide (((((gI p_1s_c1 ↑j).2).2).2)∈mq.2))]) (i8 ((((gI p_1s_c1 ↑j).2).2).2) pV (be U3) ap rfl m21.t rfl rfl) (mv (vt [vi (mq.1 ((((gI p_1s_c1 ↑j).2).2).2)),vb (decide (((((gI p_1s_c1 ↑j).2).2).2)∈mq.2))]) (lx (ay rfl rfl) (lx (ay rfl rfl) (ai (mq.1 ((((gI p_1s_c1 ↑j).2).2).2)) (ma (vb (decide (((((gI p_1s_c1 ↑j).2).2).2)∈mq.2))) (ab (a7 (a6 rfl (mv (vb (decide (((((gI p_1s_c1 ↑j).2).2).2)∈mq.2))) (lx (fM (b:=decide (((((gI p_1s_c1 ↑j).2).2).2)∈mq.2)) rfl) (ab ?_)))))))))))
     by_cases p10_c1:((((gI p_1s_c1 ↑j).2).2).2)∈mq.2
     ·
      refine af rfl (congrArg Bool.not (dt p10_c1)) (am (bp g48 [0,1,2,3,4,5,6,7,8,9,10] oU ?_))
      intro w53 ch52
      refine xp (v:=Value.pointer (some ⟨(gI pL ↑i).n,0,none⟩)) 0 rfl (λw=>ar zs5_c1) (xp (v:=Value.pointer (some ⟨(gI pL ↑i).n,0,none⟩)) 1 rfl (λw=>ae rfl) (xp 2 rfl (λw=>aa dV rfl rfl rfl rfl) ?_))
      refine xv 3 [2,1,0,4,5,6,7,8] rfl (a8 iG rfl bx28.t rfl) (xp (v:=vi ↑j) 4 rfl (λw=>ar rfl) (xp (v:=v19) 5 rfl (λw=>ar zs3_c1) (xp 6 rfl (λw=>aa jg rfl rfl rfl rfl) ?_)))
      refine xv 7 [6,5,4,3,2,1,0] rfl (a8 ap rfl bx44.t rfl) ?_
      refine xv (v:=vi (mq.1 ((((gI p_1s_c1 ↑j).2).2).2))) 8 [7,6,5,4,3,2,1,0] rfl (dx ((((gI p_1s_c1 ↑j).2).2).2) pV (be U3) ap rfl m21.t.mp rfl rfl) ?_
      refine xv 9 [8,7,6,5,4,3,2,1,0] rfl (ad (v:=v27) (i:=↑j) cM rfl rfl o29.t.flat rfl (by omega) (by omega)) (xp (v:=Value.pointer (some ⟨(bu v27 4 (Int.toNat ↑j)).block,(bu v27 4 (Int.toNat ↑j)).off+3,none⟩)) 10 rfl (λw=>eP jg rfl rfl rfl rfl) (cE 11 rfl (mj (i:=↑j) (q:=3) ((gI p_1s_c1 ↑j).1,((gI p_1s_c1 ↑j).2).1,(((gI p_1s_c1 ↑j).2).2).1,mq.1 ((((gI p_1s_c1 ↑j).2).2).2)) ap rfl rfl o29.t (by omega) (by omega) (by decide) rfl rfl rfl ?_)))
      intro w55 ch56 bx57
      refine bV (by kernel_rfl) (ak ?_)
      refine a6 rfl (lx (aJ (m:=↑j) (n:=1) zs22_c1 rfl (by omega)) (mi ((j:Int)+1) (ab ?_)))
      refine back6_c1 (j+1,(List.set p_1s_c1 (Int.toNat ↑j) ((gI p_1s_c1 ↑j).1,((gI p_1s_c1 ↑j).2).1,(((gI p_1s_c1 ↑j).2).2).1,mq.1 ((((gI p_1s_c1 ↑j).2).2).2))),mq,g48) _ _ ⟨bH.t,zs3_c1,zs5_c1,zs11_c1,zs12_c1,zs13_c1,zs20_c1,zs21_c1,rfl,Rg.t,o13.t,m21.t,pm32.t,bx28.t,bx57,by omega,?_⟩ ?_
      · show kK (dU [] ((ja (dO g).1 (dO g).2).take i)).1 OB0 (j+1) mq (List.set p_1s_c1 (Int.toNat ↑j) ((gI p_1s_c1 ↑j).1,((gI p_1s_c1 ↑j).2).1,(((gI p_1s_c1 ↑j).2).2).1,mq.1 ((((gI p_1s_c1 ↑j).2).2).2)))
        exact hna.old ‹_› ‹_› ‹_› rfl
      · show Int.toNat (_-_)<Int.toNat (_-_)
        omega
     refine ag rfl (congrArg Bool.not (df p10_c1)) (a6 rfl (mz zs3_c1 (lx (aa jg rfl rfl rfl rfl) (lx (a8 ap rfl bx44.t rfl) (mz zs3_c1 (lw (vi (mq.2.length:Int)) (jS pV rfl m21.t) (lo (eQ (m:=(mq.2.length:Int)) ((((gI p_1s_c1 ↑j).2).2).2) pV (be U3) rfl m21.t rfl rfl rfl ?_))))))))
     intro w59 ch60 m61
     refine ab (bp g48 [0,1,2,3,4,5,6,7,8,9,10] oU ?_)
     intro w63 ch62
     refine xp (v:=Value.pointer (some ⟨(gI pL ↑i).n,0,none⟩)) 0 rfl (λw=>ar zs5_c1) (xp (v:=Value.pointer (some ⟨(gI pL ↑i).n,0,none⟩)) 1 rfl (λw=>ae rfl) (xp 2 rfl (λw=>aa dV rfl rfl rfl rfl) ?_))
     refine xv 3 [2,1,0,4,5,6,7,8] rfl (a8 iG rfl bx28.t rfl) (xp (v:=vi ↑j) 4 rfl (λw=>ar rfl) (xp (v:=v19) 5 rfl (λw=>ar zs3_c1) (xp 6 rfl (λw=>aa jg rfl rfl rfl rfl) ?_)))
     refine xv 7 [6,5,4,3,2,1,0] rfl (a8 ap rfl bx44.t rfl) ?_
     refine xv (v:=vi (((λq=>if q=((((gI p_1s_c1 ↑j).2).2).2) then(mq.2.length:Int) else mq.1 q),if((((gI p_1s_c1 ↑j).2).2).2)∈mq.2 then mq.2 else mq.2++[((((gI p_1s_c1 ↑j).2).2).2)]).1 ((((gI p_1s_c1 ↑j).2).2).2))) 8 [7,6,5,4,3,2,1,0] rfl (dx ((((gI p_1s_c1 ↑j).2).2).2) pV (be U3) ap rfl m61.t.mp rfl rfl) ?_
     refine xv 9 [8,7,6,5,4,3,2,1,0] rfl (ad (v:=v27) (i:=↑j) cM rfl rfl o29.t.flat rfl (by omega) (by omega)) (xp (v:=Value.pointer (some ⟨(bu v27 4 (Int.toNat ↑j)).block,(bu v27 4 (Int.toNat ↑j)).off+3,none⟩)) 10 rfl (λw=>eP jg rfl rfl rfl rfl) (cE 11 rfl (mj (i:=↑j) (q:=3) ((gI p_1s_c1 ↑j).1,((gI p_1s_c1 ↑j).2).1,(((gI p_1s_c1 ↑j).2).2).1,((λq=>if q=((((gI p_1s_c1 ↑j).2).2).2) then(mq.2.length:Int) else mq.1 q),if((((gI p_1s_c1 ↑j).2).2).2)∈mq.2 then mq.2 else mq.2++[((((gI p_1s_c1 ↑j).2).2).2)]).1 ((((gI p_1s_c1 ↑j).2).2).2)) ap rfl rfl o29.t (by omega) (by omega) (by decide) rfl rfl rfl ?_)))
     intro w65 ch66 bx67
     refine bV (by kernel_rfl) (ak ?_)
     refine a6 rfl (lx (aJ (m:=↑j) (n:=1) zs22_c1 rfl (by omega)) (mi ((j:Int)+1) (ab ?_)))
     refine back6_c1 (j+1,(List.set p_1s_c1 (Int.toNat ↑j) ((gI p_1s_c1 ↑j).1,((gI p_1s_c1 ↑j).2).1,(((gI p_1s_c1 ↑j).2).2).1,((λq=>if q=((((gI p_1s_c1 ↑j).2).2).2) then(mq.2.length:Int) else mq.1 q),if((((gI p_1s_c1 ↑j).2).2).2)∈mq.2 then mq.2 else mq.2++[((((gI p_1s_c1 ↑j).2).2).2)]).1 ((((gI p_1s_c1 ↑j).2).2).2))),((λq=>if q=((((gI p_1s_c1 ↑j).2).2).2) then(mq.2.length:Int) else mq.1 q),if((((gI p_1s_c1 ↑j).2).2).2)∈mq.2 then mq.2 else mq.2++[((((gI p_1s_c1 ↑j).2).2).2)]),g48) _ _ ⟨bH.t,zs3_c1,zs5_c1,zs11_c1,zs12_c1,zs13_c1,zs20_c1,zs21_c1,rfl,Rg.t,o13.t,m61.t,pm32.t,bx28.t,bx67,by omega,?_⟩ ?_
     · show kK (dU [] ((ja (dO g).1 (dO g).2).take i)).1 OB0 (j+1) ((λq=>if q=((((gI p_1s_c1 ↑j).2).2).2) then(mq.2.length:Int) else mq.1 q),if((((gI p_1s_c1 ↑j).2).2).2)∈mq.2 then mq.2 else mq.2++[((((gI p_1s_c1 ↑j).2).2).2)]) (List.set p_1s_c1 (Int.toNat ↑j) ((gI p_1s_c1 ↑j).1,((gI p_1s_c1 ↑j).2).1,(((gI p_1s_c1 ↑j).2).2).1,((λq=>if q=((((gI p_1s_c1 ↑j).2).2).2) then(mq.2.length:Int) else mq.1 q),if((((gI p_1s_c1 ↑j).2).2).2)∈mq.2 then mq.2 else mq.2++[((((gI p_1s_c1 ↑j).2).2).2)]).1 ((((gI p_1s_c1 ↑j).2).2).2)))
       exact hna.new ‹_› ‹_› ‹_› rfl rfl
     · show Int.toNat (_-_)<Int.toNat (_-_)
       omega
    refine af rfl (df p6_c1) (aF rfl (ak (a6 rfl (lx (aJ (m:=↑i) (n:=1) zs13_c1 rfl (by omega)) (mi ((i:Int)+1) (ab ?_))))))
    obtain⟨g69,ch70,pm71⟩:=dl.close pm32 rfl rfl rfl (u:=(gI pL ↑i)) (by exact fB (hon.sub _ (bz (by omega) (by omega)))) bx28 o29
    refine back3_c1 (i+1,(pmA_c1.1,List.set pmA_c1.2 (pmA_c1.1.idxOf (gI pL ↑i)) (KB,p_1s_c1)),mq,g69) _ _ ⟨(bH.a ch70),zs3_c1,zs11_c1,zs12_c1,rfl,(Rg.a ch70),(o13.a ch70),pm71,(m21.a ch70),by omega,?_⟩ ?_
    · show uf (ja (dO g).1 (dO g).2) pL (pmA_c1.1,List.set pmA_c1.2 (pmA_c1.1.idxOf (gI pL ↑i)) (KB,p_1s_c1)) (i+1) mq
      (subst hKB;subst hOB0;exact hon.next (by omega) hna ‹_› rfl rfl)
    · show Int.toNat (_-_)<Int.toNat (_-_)
      omega
   refine af rfl (df p3_c1) (aF rfl (a7 (a6 rfl (mz zs3_c1 (lw (vi (mp.2.length:Int)) (jS pV rfl m21) (ai (mp.2.length:Int) (ab (az (vs:=[vi (mp.2.length:Int)]) Tryz.func39 (.tmp rfl .nil) ?_))))))))
   refine⟨vi (mp.2.length:Int),rfl,?_⟩
   refine lo (bB (aB (vals:=[v12,vi (mp.2.length:Int)]) Tryz.func38 Aw wC rfl) (rB w25 pL v12 (o13.flat).ro (mp.2.length:Int) pmA_c1 (pm14).ro (by exact hon.sub) (by(obtain⟨hd1,hd2⟩:=hon.done (by omega);rw[hd1,hd2];exact hof.hn))) ?_)
   rintro⟨d73,v75⟩ w72 ⟨fr74,o76⟩
   obtain⟨g77,ch78,G77⟩:=hU g26 fr74 (λn=>if n=1 then 9 else 0)
   replace o76:=o76.gl G77 9
   refine ma v75 (ai 0 (ab (az (vs:=[v75,vi 0]) Tryz.func18 (.tmp rfl (.tmp rfl .nil)) ?_)))
   have e0:(qh (pL.map (bt pmA_c1)) (mp.2.length:Int):List ((Int)×(List Int)×(List Bd)))=((cQ g).1):=by
     (obtain⟨hd1,hd2⟩:=hon.done (by omega);rw[zC ‹_› ‹_› ‹_›,hd1,hd2];rfl)
   have e1:(0:Int)=((cQ g).2):=by
     rw[zC ‹_› ‹_› ‹_›]
   exact⟨(fin w0 g77 (λn=>if n=9 then 1 else 0),v75),(cP (a:=qh (pL.map (bt pmA_c1)) (mp.2.length:Int)) (b:=0) (λ(z0:List ((Int)×(List Int)×(List Bd))) (z1:Int)=>Ending.returned (vt [v75,vi z1])) e0 e1),bH.t.fresh _,(e0▸(o76.glue (γ:=c0) (ren:=(λn=>if n=9 then 1 else 0)) (k:=1) bH.t.col rfl rfl))⟩
  refine ag rfl (congrArg Bool.not (Bool.eq_false_iff.2 p4)) (a7 ?_)
  refine a6 rfl (ma vn (ai 7 (ab (az (vs:=[vn,vi 7]) Tryz.func18 (.tmp rfl (.tmp rfl .nil)) ?_))))
  have e0:([]:List ((Int)×(List Int)×(List Bd)))=((cQ g).1):=by
    rw[B4 ‹_› ‹_›]
  have e1:(7:Int)=((cQ g).2):=by
    rw[B4 ‹_› ‹_›]
  exact⟨(fin w0 g4 (λn=>0),vn),(cP (a:=[]) (b:=7) (λ(z0:List ((Int)×(List Int)×(List Bd))) (z1:Int)=>Ending.returned (vt [vn,vi z1])) e0 e1),bH.t.fresh _,(e0▸kI.nil)⟩
 refine ag rfl (congrArg Bool.not (df p2)) (a7 ?_)
 refine a6 rfl (mi ((bX g).2) (ma vn (ai ((bX g).2) (ab (az (vs:=[vn,vi ((bX g).2)]) Tryz.func18 (.tmp rfl (.tmp rfl .nil)) ?_)))))
 have e0:([]:List ((Int)×(List Int)×(List Bd)))=((cQ g).1):=by
   rw[yL ‹_›]
 have e1:((bX g).2:Int)=((cQ g).2):=by
   rw[yL ‹_›]
 exact⟨(fin w0 g4 (λn=>0),vn),(cP (a:=[]) (b:=(bX g).2) (λ(z0:List ((Int)×(List Int)×(List Bd))) (z1:Int)=>Ending.returned (vt [vn,vi z1])) e0 e1),bH.t.fresh _,(e0▸kI.nil)⟩
end TL
