import Derived.Test.YtmakonaaojadbaaTlP2
import Derived.Test.YtmakonaaojadbaaTlGmA
import Derived.Test.YtmakonaaojadbaaTlGenA
import Derived.Test.YtmakonaaojadbaaTlBkG
import Derived.Test.YtmakonaaojadbaaProg
import Derived.Test.YtmakonaaojadbaaTlAli
set_option linter.all false
set_option maxRecDepth 20000
namespace TL
open Go Go.Proofs
theorem iT:Try.prog.follows .mixedOrders=true:=by kernel_rfl
theorem nc:Try.f8.body.isNone=false:=rfl
theorem na:(Try.f8.name== "runtime.NumGoroutine")=false:=by decide+kernel
theorem nv:Try.f9.body.isNone=false:=rfl
theorem nb:(Try.f9.name== "runtime.NumGoroutine")=false:=by decide+kernel
set_option maxHeartbeats 4000000 in
theorem g0(w0:World)(g:(Int)×(List Pt))(g_v:Value)(hg_v:Ro w0 g_v g.2):
    Calls Try.prog 6 #[vg [vi g.1,g_v]] w0 (λee w=>ee= .returned (vb true)/\d6 w0.heap.size w0 w):=by
 refine aq Try.func6 rfl nq ?_
 have bH:=bd.start w0
 have Rg:=hg_v.sl
 refine a4 (a3 rfl (dG rfl (d3 c0 (is 1) (1,0) rfl rfl ?_)))
 intro g4 w1 b3 ch2 bx5
 replace bx5:Bx g4 (is 1) w1 b3 [vi g.1,g_v]:=bx5
 refine ma (vb false) (a8 (a4 (a4 (a3 rfl (dG rfl (cL (v:=vb true) (aW (vals:=[]) Try.func8 nc na rfl) (kG w1) ?_))))))
 intro w6 hb7
 replace hb7:=aQ hb7 g4
 refine lx (dA (b:=true) rfl) (a8 (ab rfl rfl (al (a4 (a4 (a3 rfl ?_))))))
 replace bx5:=bx5.cn hb7
 refine lx (aC (ds:=[vi g.1,g_v]) bi rfl bx5 rfl rfl) ?_
 replace Rg:=(Rg.cn ch2).cn hb7
 refine lo (cL (v:=vb (decide (¬bw g\/(g.1<=40/\g.2.length<=60)))) (aW (vals:=[vg [vi g.1,g_v]]) Try.func9 nv nb rfl) (kF w6 g g_v (Rg).ro) ?_)
 intro w8 hb9
 replace hb9:=aQ hb9 g4
 refine lx (dA (b:=(decide (¬bw g\/(g.1<=40/\g.2.length<=60)))) rfl) (mv (vb (!(decide (¬bw g\/(g.1<=40/\g.2.length<=60))))) ?_)
 by_cases q18:(decide (¬bw g\/(g.1<=40/\g.2.length<=60)))=true
 ·
  replace bx5:=bx5.cn hb9
  refine lv (vg [vi g.1,g_v]) (wy (congrArg Bool.not q18)) (aC (ds:=[vi g.1,g_v]) bi rfl bx5 rfl rfl) ?_
  replace Rg:=Rg.cn hb9
  refine dG (wy (congrArg Bool.not q18)) (cL (v:=vb (c6 g)) (aW (vals:=[vg [vi g.1,g_v]]) Try.func16 k8 jR rfl) (jD w8 g g_v (Rg).ro) ?_)
  intro w10 hb11
  replace hb11:=aQ hb11 g4
  refine lv (vb (!(c6 g))) (wy (congrArg Bool.not q18)) (dA (b:=(c6 g)) rfl) (lw (vb (!(c6 g))) (ba rfl (congrArg Bool.not q18) rfl) (a8 ?_))
  by_cases p3:(c6 g)=true
  ·
   refine ab rfl (congrArg Bool.not p3) (al (a4 ?_))
   have hm:bw g:=of_decide_eq_true p3
   obtain⟨hm1,hm2,hm3,hm4⟩:=id hm
   have hB:=gJ hm
   have hR:=fv hm
   have hcb:0<=(aD g).1.2.2/\(aD g).1.2.2<=(g.2.length:Int):=by rw[hB];exact fm g
   obtain⟨hcb0,hcb1⟩:=hcb
   have hofl:((aD g).1.1.length:Int)=g.2.length:=by rw[hB];have:=fp g;show((e9 g).length:Int)=_;omega
   have hbl:((aI g).1.length:Int)<=g.2.length:=by rw[hR];exact fR rfl
   refine a3 rfl ?_
   replace bx5:=bx5.cn hb11
   refine lx (aC (ds:=[vi g.1,g_v]) bi rfl bx5 rfl rfl) ?_
   replace Rg:=Rg.cn hb11
   refine lo (cC (aW (vals:=[vg [vi g.1,g_v]]) Try.func11 jC jw rfl) (gG w10 g g_v (Rg).ro) ?_)
   rintro⟨d13,v15,v17⟩ w12 ⟨fr14,o16,o18⟩
   obtain⟨g19,ch20,G19⟩:=jT g4 fr14 (λn=>if n=1 then 2 else if n=2 then 3 else 0)
   replace o16:=o16.gl G19 2
   replace o18:=o18.gl G19 3
   refine mv (vt [vg [v15,v17,vi ((((aD g).1).2).2)],vi ((aD g).2)]) (lx (aB rfl rfl) (lx (aB rfl rfl) (lo (bg g19 (is 4) (4,0) rfl ch ?_))))
   intro g24 w21 b23 ch22 bx25
   replace bx25:Bx g24 (is 4) w21 b23 [vn,vn,vi 0]:=bx25
   refine lo ?_
   replace o18:=o18.cn ch22
   replace o16:=o16.cn ch22
   refine au (cs':=[v15,v17,vi ((((aD g).1).2).2)]) ch rfl rfl bx25 rfl nq (AllOne.all (.cons (bU o16.flat) (.cons (bU o18.flat) (.cons rfl .nil)))) rfl ?_
   intro w26 ch27 bx28
   clear bx25
   refine ai ((aD g).2) (a8 (a4 (a3 rfl ?_)))
   have C29:=cg [4] (ch20.n.seq (ch22.n.seq (ch27.l rfl)))
   replace bx5:=bx5.ca C29
   refine lx (aC (ds:=[vi g.1,g_v]) bi rfl bx5 rfl rfl) ?_
   replace Rg:=Rg.ca C29
   refine lo (cC (aW (vals:=[vg [vi g.1,g_v]]) Try.func12 jO jP rfl) (gr w26 g g_v (Rg).ro) ?_)
   rintro⟨d31,v33⟩ w30 ⟨fr32,o34⟩
   obtain⟨g35,ch36,G35⟩:=jT g24 fr32 (λn=>if n=1 then 5 else 0)
   replace o34:=o34.gl G35 5
   refine mv (vt [v33,vi ((aI g).2)]) (lx (aB rfl rfl) (lx (aB rfl rfl) (ma v33 (ai ((aI g).2) (a8 (a4 (a3 rfl (lx (a5 ej rfl rfl rfl rfl) ?_))))))))
   replace bx28:=bx28.cn ch36
   refine lx (a6 a9 rfl bx28 rfl) (lo (ci (α:=Int) (l:=(((aD g).1).2).2) (cp:=(((aD g).1).2).2) g35 (is 6) (is 6) (6,0) rfl (0:Int) aT a9 rfl rfl rfl (by omega) (by omega) (by omega) (by omega) ?_))
   intro g37 w38 v39 ch40 o41 hcap_
   clear hcap_
   refine ma v39 (a8 (a4 (a3 rfl (lx (a5 cQ rfl rfl rfl rfl) ?_))))
   replace bx5:=(bx5.cn ch36).cn ch40
   refine lx (a6 bt rfl bx5 rfl) ?_
   replace Rg:=(Rg.cn ch36).cn ch40
   have len42:=(Rg).small
   refine lx (bm da rfl Rg) (lo (ci (α:=Bool) (l:=(g.2.length:Int)) (cp:=(g.2.length:Int)) g37 (is 7) (is 7) (7,0) rfl false dN b7 rfl rfl rfl (by omega) (by omega) (by omega) (by omega) ?_))
   intro g43 w44 v45 ch46 o47 hcap_
   clear hcap_
   refine ma v45 (a8 (a4 (a4 (a3 rfl (ai 0 (a8 (aj ?_)))))))
   refine aZ (σ:=Nat×(List Int)×av) (λ⟨k,many,gq⟩ f w=>bd w0 gq w/\f 1=vp b3 0/\f 3=vp b23 0/\f 5=v33/\f 7=v39/\f 8=v45/\f 9=vi ↑k/\Sl gq (is 0) w g_v g.2/\Bx gq (is 1) w b3 [vi g.1,g_v]/\Ow gq (is 2) (is 2) w v15 (((aD g).1).1)/\Ow gq (is 3) (is 3) w v17 ((((aD g).1).2).1)/\Bx gq (is 4) w b23 [v15,v17,vi ((((aD g).1).2).2)]/\Ow gq (is 5) (is 5) w v33 ((aI g).1)/\Ow gq (is 6) (is 6) w v39 many/\Ow gq (is 7) (is 7) w v45 (List.replicate (Int.toNat (g.2.length:Int)) false)/\(k:Int)<=((g.2.length:Int):Int)/\(many=cI (a0 g).1 (Int.toNat (a0 g).2.2) k)) (λ⟨k,many,gq⟩=>Int.toNat (((g.2.length:Int):Int)-(k:Int))) (0,(List.replicate (Int.toNat ((((aD g).1).2).2)) (0:Int)),g43) ?_ ?_
   have C49:=cg [4] ((ch27.l rfl).seq (ch36.n.seq (ch40.n.seq ch46.n)))
   have C48:=ch2.n.seq (hb7.n.seq (hb9.n.seq (hb11.n.seq (ch20.n.seq (ch22.n.seq C49)))))
   · exact⟨bH.ca C48,rfl,rfl,rfl,rfl,rfl,rfl,Rg.cn ch46,bx5.cn ch46,o16.ca C49,o18.ca C49,(bx28.cn ch40).cn ch46,(o34.cn ch40).cn ch46,o41.cn ch46,o47,by omega,by(rw[hB];rfl)⟩
   clear Rg bx5 o16 o18 bx28 o34 o41 o47 bH
   rintro⟨k,many,g52⟩ f50 w51 ⟨bH,zs1,zs3,zs5,zs7,zs8,zs9,Rg,bx5,o16,o18,bx28,o34,o41,o47,hle_k,hs⟩ back10
   have hsl:(many.length:Int)=(aD g).1.2.2:=by rw[hs,iw,hB];rw[hB] at hcb0;omega
   refine a4 (a4 (a3 rfl (mz zs9 (lx (a5 cQ rfl rfl zs1 rfl) (lx (a6 bt rfl bx5 rfl) (lx (bm da rfl Rg) (lx (aV (m:=↑k) (n:=(g.2.length:Int)) rfl rfl) (a8 ?_))))))))
   by_cases p10:(k:Int)<(g.2.length:Int)
   ·
    refine af rfl (dt p10) ?_
    have hob:0<=gI (aD g).1.1 (k:Int)/\gI (aD g).1.1 (k:Int)<(aD g).1.2.2:=by rw[hB];exact gK g (by omega) (by omega)
    obtain⟨hob0,hob1⟩:=hob
    have hsb:0<=gI many (gI (aD g).1.1 (k:Int))/\gI many (gI (aD g).1.1 (k:Int))<=k:=by rw[hs];exact ia _ _ _ (by rw[<-hB];omega) _
    obtain⟨hsb0,hsb1⟩:=hsb
    refine al (a4 (aj (a3 rfl (mz zs7 (lx (a5 ej rfl rfl zs3 rfl) (lx (a6 ag rfl bx28 rfl) (mz zs9 (lx (a7 (v:=v15) (i:=↑k) aT rfl rfl o16.flat rfl (by omega) (by omega)) (lx (ae (v:=v15) (i:=↑k) a9 rfl o16.flat (by omega) (by omega) (by decide) rfl) ?_)))))))))
    refine lx (a7 (v:=v39) (i:=(gI (((aD g).1).1) (k:Int))) aT rfl rfl o41.flat rfl (by omega) (by omega)) (lx (ae (v:=v39) (i:=(gI (((aD g).1).1) (k:Int))) a9 rfl o41.flat (by omega) (by omega) (by decide) rfl) (lx (aw (m:=(gI many (gI (((aD g).1).1) (k:Int)))) (n:=1) rfl rfl (by omega)) (lx (a7 (v:=v39) (i:=(gI (((aD g).1).1) (k:Int))) aT rfl rfl o41.flat rfl (by omega) (by omega)) (lo (am (i:=(gI (((aD g).1).1) (k:Int))) ((gI many (gI (((aD g).1).1) (k:Int)))+1) a9 rfl rfl o41 (by omega) (by omega) rfl ?_)))))
    intro w53 ch54 bx55
    clear o41
    refine a8 (ad (a3 rfl (mz zs9 (lx (aw (m:=↑k) (n:=1) rfl rfl (by omega)) (ai ((k:Int)+1) (a8 ?_))))))
    refine back10 (k+1,(List.set many (Int.toNat (gI (((aD g).1).1) (k:Int))) ((gI many (gI (((aD g).1).1) (k:Int)))+1)),g52) _ _ ⟨bH.ce ch54,zs1,zs3,zs5,zs7,zs8,rfl,Rg.ce ch54,bx5.ce ch54,o16.ce ch54,o18.ce ch54,bx28.ce ch54,o34.ce ch54,bx55,o47.ce ch54,by omega,?_⟩ ?_
    · show(List.set many (Int.toNat (gI (((aD g).1).1) (k:Int))) ((gI many (gI (((aD g).1).1) (k:Int)))+1))=cI (a0 g).1 (Int.toNat (a0 g).2.2) (k+1)
      (rw[fA (by rw[<-hB];omega),<-hs,hB])
    · show Int.toNat (((g.2.length:Int):Int)-((k+1):Int))<Int.toNat (((g.2.length:Int):Int)-(k:Int))
      omega
   refine ab rfl (df p10) (aA rfl (a4 (a4 (a3 rfl (ai 0 (a8 (aj ?_)))))))
   refine aZ (σ:=Nat×(List Bool)×av) (λ⟨j,br,gq⟩ f w=>bd w0 gq w/\f 1=vp b3 0/\f 3=vp b23 0/\f 5=v33/\f 7=v39/\f 8=v45/\f 10=vi ↑j/\Sl gq (is 0) w g_v g.2/\Bx gq (is 1) w b3 [vi g.1,g_v]/\Ow gq (is 2) (is 2) w v15 (((aD g).1).1)/\Ow gq (is 3) (is 3) w v17 ((((aD g).1).2).1)/\Bx gq (is 4) w b23 [v15,v17,vi ((((aD g).1).2).2)]/\Ow gq (is 5) (is 5) w v33 ((aI g).1)/\Ow gq (is 6) (is 6) w v39 many/\Ow gq (is 7) (is 7) w v45 br/\(j:Int)<=((List.length ((aI g).1):Int):Int)/\(br=dH (bj g g.2.length) g.2.length j)) (λ⟨j,br,gq⟩=>Int.toNat (((List.length ((aI g).1):Int):Int)-(j:Int))) (0,(List.replicate (Int.toNat (g.2.length:Int)) false),g52) ?_ ?_
   · exact⟨bH,zs1,zs3,zs5,zs7,zs8,rfl,Rg,bx5,o16,o18,bx28,o34,o41,o47,by omega,by rfl⟩
   clear Rg bx5 o16 o18 bx28 o34 o41 o47 bH
   rintro⟨j,br,g58⟩ f56 w57 ⟨bH,zs1,zs3,zs5,zs7,zs8,zs10,Rg,bx5,o16,o18,bx28,o34,o41,o47,hle_j,hr⟩ back14
   have hrl:(br.length:Int)=g.2.length:=by rw[hr,iD]
   refine a4 (a4 (a3 rfl (mz zs10 (mz zs5 ?_))))
   have len59:=(o34.flat).small
   refine lx (bm aT rfl o34.flat) (lx (aV (m:=↑j) (n:=(List.length ((aI g).1):Int)) rfl rfl) (a8 ?_))
   by_cases p14:(j:Int)<(List.length ((aI g).1):Int)
   ·
    refine af rfl (dt p14) ?_
    have hbm:0<=gI (aI g).1 (j:Int)/\gI (aI g).1 (j:Int)<(g.2.length:Int):=((eH (g:=g)).1 (by rw[<-hR];exact bV (by omega) (by omega))).1
    obtain⟨hbm0,hbm1⟩:=hbm
    refine al (a4 (aj (a3 rfl (mz zs8 (mz zs5 (mz zs10 (lx (a7 (v:=v33) (i:=↑j) aT rfl rfl o34.flat rfl (by omega) (by omega)) (lx (ae (v:=v33) (i:=↑j) a9 rfl o34.flat (by omega) (by omega) (by decide) rfl) (lx (a7 (v:=v45) (i:=(gI ((aI g).1) (j:Int))) dN rfl rfl o47.flat rfl (by omega) (by omega)) ?_)))))))))
    refine lo (am (i:=(gI ((aI g).1) (j:Int))) true b7 rfl rfl o47 (by omega) (by omega) rfl ?_)
    intro w60 ch61 bx62
    clear o47
    refine a8 (ad (a3 rfl (mz zs10 (lx (aw (m:=↑j) (n:=1) rfl rfl (by omega)) (ai ((j:Int)+1) (a8 ?_))))))
    refine back14 (j+1,(List.set br (Int.toNat (gI ((aI g).1) (j:Int))) true),g58) _ _ ⟨bH.ce ch61,zs1,zs3,zs5,zs7,zs8,rfl,Rg.ce ch61,bx5.ce ch61,o16.ce ch61,o18.ce ch61,bx28.ce ch61,o34.ce ch61,o41.ce ch61,bx62,by omega,?_⟩ ?_
    · show(List.set br (Int.toNat (gI ((aI g).1) (j:Int))) true)=dH (bj g g.2.length) g.2.length (j+1)
      (rw[h7 (by rw[<-hR];omega),<-hr,hR])
    · show Int.toNat (((List.length ((aI g).1):Int):Int)-((j+1):Int))<Int.toNat (((List.length ((aI g).1):Int):Int)-(j:Int))
      omega
   refine ab rfl (df p14) (aA rfl (a4 (a4 ?_)))
   clear o34
   refine a3 rfl (ai 0 (a8 (aj ?_)))
   refine aZ (σ:=Nat×av) (λ⟨e,gq⟩ f w=>bd w0 gq w/\f 1=vp b3 0/\f 3=vp b23 0/\f 7=v39/\f 8=v45/\f 11=vi ↑e/\Sl gq (is 0) w g_v g.2/\Bx gq (is 1) w b3 [vi g.1,g_v]/\Ow gq (is 2) (is 2) w v15 (((aD g).1).1)/\Ow gq (is 3) (is 3) w v17 ((((aD g).1).2).1)/\Bx gq (is 4) w b23 [v15,v17,vi ((((aD g).1).2).2)]/\Ow gq (is 6) (is 6) w v39 many/\Ow gq (is 7) (is 7) w v45 br/\(e:Int)<=((g.2.length:Int):Int)/\(True)) (λ⟨e,gq⟩=>Int.toNat (((g.2.length:Int):Int)-(e:Int))) (0,g58) ?_ ?_
   · exact⟨bH,zs1,zs3,zs7,zs8,rfl,Rg,bx5,o16,o18,bx28,o41,o47,by omega,by trivial⟩
   clear Rg bx5 o16 o18 bx28 o41 o47 bH
   rintro⟨e,g65⟩ f63 w64 ⟨bH,zs1,zs3,zs7,zs8,zs11,Rg,bx5,o16,o18,bx28,o41,o47,hle_e,htt⟩ back18
   refine a4 (a4 (a3 rfl (mz zs11 (lx (a5 cQ rfl rfl zs1 rfl) (lx (a6 bt rfl bx5 rfl) (lx (bm da rfl Rg) (lx (aV (m:=↑e) (n:=(g.2.length:Int)) rfl rfl) (a8 ?_))))))))
   by_cases p18:(e:Int)<(g.2.length:Int)
   ·
    refine af rfl (dt p18) ?_
    have hob:0<=gI (aD g).1.1 (e:Int)/\gI (aD g).1.1 (e:Int)<(aD g).1.2.2:=by rw[hB];exact gK g (by omega) (by omega)
    obtain⟨hob0,hob1⟩:=hob
    refine al (a4 (aj (a4 (cG g65 rfl iT (by kernel_rfl) ?_))))
    intro w67 ch66
    refine qx (λw' hw'=>a5 cQ rfl rfl zs1 rfl) ?_
    replace bx5:=bx5.cn ch66
    refine qx (λw' hw'=>a6 bt rfl (bx5.bel hw') rfl) (qz zs11 ?_)
    replace Rg:=Rg.cn ch66
    refine qx (λw' hw'=>a7 (v:=g_v) (i:=↑e) da rfl rfl (Rg.bel hw') rfl (by omega) (by omega)) (qx (λw' hw'=>bn ck rfl rfl rfl (by decide) (by decide) rfl) (qx (λw' hw'=>bL (v:=g_v) (i:=↑e) a9 rfl (Rg.bel hw') (by omega) (by omega) (by decide) rfl) (qx (λw' hw'=>a5 cQ rfl rfl zs1 rfl) (qx (λw' hw'=>a6 bt rfl (bx5.bel hw') rfl) (qz zs11 (qx (λw' hw'=>a7 (v:=g_v) (i:=↑e) da rfl rfl (Rg.bel hw') rfl (by omega) (by omega)) (qx (λw' hw'=>bn ck rfl rfl rfl (by decide) (by decide) rfl) (qx (λw' hw'=>bL (v:=g_v) (i:=↑e) a9 rfl (Rg.bel hw') (by omega) (by omega) (by decide) rfl) ?_))))))))
    refine qx (λw' hw'=>cr (m:=(gI g.2 ↑e).1) (n:=(gI g.2 ↑e).2) rfl rfl) (qv (vb (decide (((gI g.2 ↑e).1)=((gI g.2 ↑e).2)))) (λw' hw'=>c9 rfl) (d8 ?_))
    intro w68 hc69
    replace hc69:=aQ hc69 g65
    refine a4 (cG g65 rfl iT (by kernel_rfl) ?_)
    intro w71 ch70
    refine qz zs8 (qz zs11 ?_)
    have C72:=cg [] (ch66.n.seq (hc69.n.seq ch70.n))
    replace o47:=o47.ca C72
    refine qx (λw' hw'=>a7 (v:=v45) (i:=↑e) dN rfl rfl (o47.flat.bel hw') rfl (by omega) (by omega)) (qx (λw' hw'=>ae (v:=v45) (i:=↑e) b7 rfl (o47.flat.bel hw') (by omega) (by omega) (by decide) rfl) (qz zs7 (qx (λw' hw'=>a5 ej rfl rfl zs3 rfl) ?_)))
    replace bx28:=bx28.ca C72
    refine qx (λw' hw'=>a6 ag rfl (bx28.bel hw') rfl) (qz zs11 ?_)
    replace o16:=o16.ca C72
    refine qx (λw' hw'=>a7 (v:=v15) (i:=↑e) aT rfl rfl (o16.flat.bel hw') rfl (by omega) (by omega)) (qx (λw' hw'=>ae (v:=v15) (i:=↑e) a9 rfl (o16.flat.bel hw') (by omega) (by omega) (by decide) rfl) ?_)
    replace o41:=o41.ca C72
    refine qx (λw' hw'=>a7 (v:=v39) (i:=(gI (((aD g).1).1) (e:Int))) aT rfl rfl (o41.flat.bel hw') rfl (by omega) (by omega)) (qx (λw' hw'=>ae (v:=v39) (i:=(gI (((aD g).1).1) (e:Int))) a9 rfl (o41.flat.bel hw') (by omega) (by omega) (by decide) rfl) (qx (λw' hw'=>cr (m:=(gI many (gI (((aD g).1).1) (e:Int)))) (n:=1) rfl rfl) (qm (vb (decide ((gI many (gI (((aD g).1).1) (e:Int)))=1))) ?_)))
    by_cases q102:(gI many (gI (((aD g).1).1) (e:Int)))=1
    ·
     refine bu (v:=vb (decide (((gI g.2 ↑e).1)=((gI g.2 ↑e).2)))) (wy (dt q102)) (λw' hw'=>ah rfl) (bu (v:=vb (!(decide (((gI g.2 ↑e).1)=((gI g.2 ↑e).2))))) (wy (dt q102)) (λw' hw'=>dA (b:=decide (((gI g.2 ↑e).1)=((gI g.2 ↑e).2))) rfl) (qv (vb (!(decide (((gI g.2 ↑e).1)=((gI g.2 ↑e).2))))) (λw' hw'=>aS rfl (dt q102) rfl) (qv (vb (!(decide ((gI br ↑e)=(!(decide (((gI g.2 ↑e).1)=((gI g.2 ↑e).2)))))))) (λw' hw'=>gv U4 rfl rfl) (d8 ?_))))
     intro w73 hc74
     replace hc74:=aQ hc74 g65
     have p21:(gI br ↑e)=(!(decide (((gI g.2 ↑e).1)=((gI g.2 ↑e).2)))):=by exact o8 hm hr (by omega) hs (by omega) (by omega) (by omega) ‹_›
     refine ab rfl (congrArg Bool.not (dt p21)) (al (ad (a3 rfl (mz zs11 (lx (aw (m:=↑e) (n:=1) rfl rfl (by omega)) (ai ((e:Int)+1) (a8 ?_)))))))
     have C76:=cg [] (hc69.n.seq (ch70.n.seq hc74.n))
     have C75:=ch66.n.seq C76
     refine back18 (e+1,g65) _ _ ⟨bH.ca C75,zs1,zs3,zs7,zs8,rfl,Rg.ca C76,bx5.ca C76,o16.cn hc74,o18.ca C75,bx28.cn hc74,o41.cn hc74,o47.cn hc74,by omega,?_⟩ ?_
     · show True
       trivial
     · show Int.toNat (((g.2.length:Int):Int)-((e+1):Int))<Int.toNat (((g.2.length:Int):Int)-(e:Int))
       omega
    refine bc (wn (df q102)) (bc (wn (df q102)) (qv (vb false) (λw' hw'=>ba rfl (df q102) rfl) (qv (vb (!(decide ((gI br ↑e)=false)))) (λw' hw'=>gv U4 rfl rfl) (d8 ?_))))
    intro w77 hc78
    replace hc78:=aQ hc78 g65
    have p21_79:(gI br ↑e)=false:=by exact nV hm hr (by omega) hs (by omega) (by omega) (by omega) ‹_›
    refine ab rfl (congrArg Bool.not (dt p21_79)) (al (ad (a3 rfl (mz zs11 (lx (aw (m:=↑e) (n:=1) rfl rfl (by omega)) (ai ((e:Int)+1) (a8 ?_)))))))
    have C81:=cg [] (hc69.n.seq (ch70.n.seq hc78.n))
    have C80:=ch66.n.seq C81
    refine back18 (e+1,g65) _ _ ⟨bH.ca C80,zs1,zs3,zs7,zs8,rfl,Rg.ca C81,bx5.ca C81,o16.cn hc78,o18.ca C80,bx28.cn hc78,o41.cn hc78,o47.cn hc78,by omega,?_⟩ ?_
    · show True
      trivial
    · show Int.toNat (((g.2.length:Int):Int)-((e+1):Int))<Int.toNat (((g.2.length:Int):Int)-(e:Int))
      omega
   refine ab rfl (df p18) (aA rfl (a4 ?_))
   clear bx5 o16 o18 bx28 o41 o47
   refine a3 rfl (ma (vb true) (a8 (aE (vs:=[vb true]) Try.func6 (.tmp rfl .nil) ?_)))
   have e0:(true:Bool)=(true):=by
     rfl
   exact⟨rb e0,bH.below⟩
  refine af rfl (congrArg Bool.not (Bool.eq_false_iff.2 p3)) (a4 ?_)
  clear bx5
  refine a3 rfl (ma (vb true) (a8 (aE (vs:=[vb true]) Try.func6 (.tmp rfl .nil) ?_)))
  have e0:(true:Bool)=(true):=by
    rfl
  have C82:=cg [] (ch2.n.seq (hb7.n.seq (hb9.n.seq hb11.n)))
  replace bH:=bH.ca C82
  exact⟨rb e0,bH.below⟩
 refine aO (wn (congrArg Bool.not (Bool.eq_false_iff.2 q18))) (aO (wn (congrArg Bool.not (Bool.eq_false_iff.2 q18))) (aO (wn (congrArg Bool.not (Bool.eq_false_iff.2 q18))) (lw (vb true) (aS rfl (congrArg Bool.not (Bool.eq_false_iff.2 q18)) rfl) (a8 (af rfl rfl (a4 ?_))))))
 clear bx5
 refine a3 rfl (ma (vb true) (a8 (aE (vs:=[vb true]) Try.func6 (.tmp rfl .nil) ?_)))
 have e0:(true:Bool)=(true):=by
   rfl
 have C83:=cg [] (ch2.n.seq (hb7.n.seq hb9.n))
 replace bH:=bH.ca C83
 exact⟨rb e0,bH.below⟩
end TL
