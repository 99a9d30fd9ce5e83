import Derived.Test.YtbpphaeianpdpaaPuTlP2
import Derived.Test.YtbpphaeianpdpaaPuTlGmA
import Derived.Test.YtbpphaeianpdpaaPuTlGenA
import Derived.Test.YtbpphaeianpdpaaPuTlPwA
import Derived.Test.YtbpphaeianpdpaaPuTlPwL
import Derived.Test.YtbpphaeianpdpaaPuTlPwR
import Derived.Test.YtbpphaeianpdpaaPuTlPwB
import Derived.Test.YtbpphaeianpdpaaPuTlPwX
import Derived.Test.YtbpphaeianpdpaaProg
import Derived.Test.YtbpphaeianpdpaaPuTlAli
set_option linter.all false
set_option maxRecDepth 20000
namespace TL
open Go Go.Proofs
theorem dF:Try.prog.follows .mixedOrders=true:=by kernel_rfl
theorem pJ:Tp Try.prog 5 false 1 1 (.int .u8 0):=Tp.of (by kernel_rfl)
theorem pG:Try.f9.body.isNone=false:=rfl
theorem pH:(Try.f9.name== "runtime.NumGoroutine")=false:=by decide+kernel
theorem kh:Try.f30.body.isNone=false:=rfl
theorem kQ:(Try.f30.name== "runtime.NumGoroutine")=false:=by decide+kernel
theorem iT:Try.f31.body.isNone=false:=rfl
theorem iu:(Try.f31.name== "runtime.NumGoroutine")=false:=by decide+kernel
theorem oL:Try.f58.body.isNone=false:=rfl
theorem ov:(Try.f58.name== "runtime.NumGoroutine")=false:=by decide+kernel
theorem oT:Try.f59.body.isNone=false:=rfl
theorem nk:(Try.f59.name== "runtime.NumGoroutine")=false:=by decide+kernel
theorem jF(w0:World)(l:List Int)(l_v:Value)(hl_v:Ro w0 l_v l)(n:Int):
    Calls Try.prog 58 #[l_v,vi n] w0 (λee w=>ee= .returned (vi (bo l n))/\ch w0.heap.size w0 w):=by
 refine ap Try.func58 rfl nq ?_
 have bH:=aX.start w0
 have Rl:=hl_v.sl
 refine a7 (a6 rfl (ai 0 (a8 (a7 (a7 (a6 rfl (ai 0 (a8 (ao ?_)))))))))
 refine aR (σ:=Nat×aw) (λ⟨i,gq⟩ f w=>aX w0 gq w/\f 0=l_v/\f 1=vi n/\f 5=vi ↑i/\Sl gq (is 0) w l_v l/\(i:Int)<=((l.length:Int):Int)/\(cG l n i)) (λ⟨i,gq⟩=>Int.toNat (((l.length:Int):Int)-(i:Int))) (0,c0) ?_ ?_
 · exact⟨bH,rfl,rfl,rfl,Rl,by omega,by exact cG.start l n⟩
 clear Rl bH
 rintro⟨i,g3⟩ f1 w2 ⟨bH,zs0,zs1,zs5,Rl,hle_i,hinv⟩ back2
 refine a7 (a7 (a6 rfl (mz zs5 (mz zs0 ?_))))
 have len4:=(Rl).small
 refine lx (bl bI rfl Rl) (lx (b9 (m:=↑i) (n:=(l.length:Int)) rfl rfl) (a8 ?_))
 by_cases p2:(i:Int)<(l.length:Int)
 ·
  refine ae rfl (dt p2) (al (a7 (ao (a7 (a7 (a6 rfl (mz zs0 (mz zs5 (lx (aa (v:=l_v) (i:=↑i) bI rfl rfl Rl rfl (by omega) (by omega)) (lx (au (v:=l_v) (i:=↑i) av rfl Rl (by omega) (by omega) (by decide) rfl) (lx (b9 (m:=(gI l ↑i)) (n:=0) rfl rfl) ?_)))))))))))
  refine mv (vb (decide ((gI l ↑i)<0))) ?_
  by_cases q18:(gI l ↑i)<0
  ·
   refine ad (wn (dt q18)) (ad (wn (dt q18)) (ad (wn (dt q18)) (ad (wn (dt q18)) (ad (wn (dt q18)) (ad (wn (dt q18)) (lw (vb true) (aA rfl (dt q18) rfl) (a8 (ae rfl rfl (a7 (a6 rfl ?_))))))))))
   refine ai 2 (a8 (aq (vs:=[vi 2]) Try.func58 (.tmp rfl .nil) ?_))
   have e0:(2:Int)=(bo l n):=by
     exact hinv.bad ‹_› (by omega)
   exact⟨ri e0,bH.below⟩
  refine lv (l_v) (wy (df q18)) (am zs0) (lv (vi ↑i) (wy (df q18)) (am zs5) (lv (Value.pointer (some (aC l_v 1 (Int.toNat ↑i)))) (wy (df q18)) (aa (α:=Int) (xs:=l) (v:=l_v) (i:=↑i) bI rfl rfl Rl rfl (by omega) (by omega)) (lv (vi (gI l ↑i)) (wy (df q18)) (au (α:=Int) (xs:=l) (v:=l_v) (i:=↑i) av rfl Rl (by omega) (by omega) (by decide) rfl) (lv (vi n) (wy (df q18)) (am zs1) (lv (vb (decide (n<=(gI l ↑i)))) (wy (df q18)) (da (m:=(gI l ↑i)) (n:=n) rfl rfl) ?_)))))
  refine lw (vb (decide (n<=(gI l ↑i)))) (aH rfl (df q18) rfl) (a8 ?_)
  by_cases p4:n<=(gI l ↑i)
  ·
   refine ae rfl (dt p4) (a7 (a6 rfl (ai 2 (a8 (aq (vs:=[vi 2]) Try.func58 (.tmp rfl .nil) ?_)))))
   have e0:(2:Int)=(bo l n):=by
     exact hinv.bad ‹_› (by omega)
   exact⟨ri e0,bH.below⟩
  refine af rfl (df p4) (al (a7 (a6 rfl (ai 0 (a8 (ao ?_))))))
  refine aR (σ:=Nat×aw) (λ⟨k,gq⟩ f w=>aX w0 gq w/\f 0=l_v/\f 1=vi n/\f 5=vi ↑i/\f 6=vi ↑k/\Sl gq (is 0) w l_v l/\(k:Int)<=((i:Int):Int)/\(∀q:Nat,q<k->¬gI l ↑q=gI l ↑i)) (λ⟨k,gq⟩=>Int.toNat (((i:Int):Int)-(k:Int))) (0,g3) ?_ ?_
  · exact⟨bH,zs0,zs1,zs5,rfl,Rl,by omega,by intro q hq;omega⟩
  clear Rl bH
  rintro⟨k,g7⟩ f5 w6 ⟨bH,zs0,zs1,zs5,zs6,Rl,hle_k,hin⟩ back7
  refine a7 (a7 (a6 rfl (mz zs6 (mz zs5 (lx (b9 (m:=↑k) (n:=↑i) rfl rfl) (a8 ?_))))))
  by_cases p7:(k:Int)<(i:Int)
  ·
   refine ae rfl (dt p7) (al (a7 (ao (a7 (bS g7 rfl dF (by kernel_rfl) ?_)))))
   intro w9 ch8
   refine qz zs0 (qz zs6 ?_)
   replace Rl:=Rl.cn ch8
   refine qx (λw' hw'=>aa (v:=l_v) (i:=↑k) bI rfl rfl (Rl.bel hw') rfl (by omega) (by omega)) (qx (λw' hw'=>au (v:=l_v) (i:=↑k) av rfl (Rl.bel hw') (by omega) (by omega) (by decide) rfl) (qz zs0 (qz zs5 (qx (λw' hw'=>aa (v:=l_v) (i:=↑i) bI rfl rfl (Rl.bel hw') rfl (by omega) (by omega)) (qx (λw' hw'=>au (v:=l_v) (i:=↑i) av rfl (Rl.bel hw') (by omega) (by omega) (by decide) rfl) (qx (λw' hw'=>eh (m:=(gI l ↑k)) (n:=(gI l ↑i)) rfl rfl) (cX ?_)))))))
   intro w10 hc11
   replace hc11:=ax hc11 g7
   by_cases p9:(gI l ↑k)=(gI l ↑i)
   ·
    refine ae rfl (dt p9) (a7 (a6 rfl (ai 18 (a8 (aq (vs:=[vi 18]) Try.func58 (.tmp rfl .nil) ?_)))))
    have e0:(18:Int)=(bo l n):=by
      exact hinv.twice ‹_› (by omega) (by omega) (by rw[<-p9];exact jc (by omega) (by omega))
    replace bH:=bH.cn ch8
    replace bH:=bH.cn hc11
    exact⟨ri e0,bH.below⟩
   refine af rfl (df p9) (al (ar (a6 rfl (mz zs6 (lx (bg (m:=↑k) (n:=1) rfl rfl (by omega)) (ai ((k:Int)+1) (a8 ?_)))))))
   replace bH:=bH.cn ch8
   refine back7 (k+1,g7) _ _ ⟨bH.cn hc11,zs0,zs1,zs5,rfl,Rl.cn hc11,by omega,?_⟩ ?_
   · show∀q:Nat,q<(k+1)->¬gI l ↑q=gI l ↑i
     intro q hq
     by_cases e:q=k
     · subst e;assumption
     · exact hin q (by omega)
   · show Int.toNat (((i:Int):Int)-((k+1):Int))<Int.toNat (((i:Int):Int)-(k:Int))
     omega
  refine af rfl (df p7) (aF rfl (ar (a6 rfl (mz zs5 (lx (bg (m:=↑i) (n:=1) rfl rfl (by omega)) (ai ((i:Int)+1) (a8 ?_)))))))
  refine back2 (i+1,g7) _ _ ⟨bH,zs0,zs1,rfl,Rl,by omega,?_⟩ ?_
  · show cG l n (i+1)
    exact hinv.next ‹_› (by omega) (by omega) (λhm=>by
      obtain⟨q,hq,e⟩:=List.mem_take_iff_getElem.1 hm
      have:=hin q (by omega)
      apply this
      rw[<-e]
      simp[gI,show q<l.length by omega])
  · show Int.toNat (((l.length:Int):Int)-((i+1):Int))<Int.toNat (((l.length:Int):Int)-(i:Int))
    omega
 refine af rfl (df p2) (aF rfl (a7 (a6 rfl (ai 0 (a8 (aq (vs:=[vi 0]) Try.func58 (.tmp rfl .nil) ?_))))))
 have e0:(0:Int)=(bo l n):=by
   exact hinv.done ‹_›
 exact⟨ri e0,bH.below⟩
theorem kY(w0:World)(g:(Int)×(List Pt))(g_v:Value)(hg_v:Ro w0 g_v g.2)(keep:List Int)(keep_v:Value)(hkeep_v:Ro w0 keep_v keep)(hmay:aV g):
    Calls Try.prog 30 #[vg [vi g.1,g_v],keep_v] w0 (λee w=>∃xx:aw×Value,ee= .returned ((λ⟨δ,rv0⟩=>vt [vg [vi (((bv g keep).1).1),rv0],vi ((bv g keep).2)]) xx)/\(λ(⟨δ,rv0⟩:aw×Value) (w:World)=>ej w0 δ w/\Ow δ (is 1) (is 1) w rv0 (((bv g keep).1).2)) xx w):=by
 refine ap Try.func30 rfl nq ?_
 have bH:=aX.start w0
 have Rg:=hg_v.sl
 have Rkeep:=hkeep_v.sl
 have hm0:=hmay
 obtain⟨hm1,hm2,hm3,hm4⟩:=hm0
 refine a7 (a6 rfl (dA rfl (cY c0 (is 1) (1,0) rfl rfl ?_)))
 intro g4 w1 b3 ch2 bx5
 replace bx5:Bx g4 (is 1) w1 b3 [vi g.1,g_v]:=bx5
 refine lo (bP g4 (is 2) (2,0) rfl bm ?_)
 intro g9 w6 b8 ch7 bx10
 replace bx10:Bx g9 (is 2) w6 b8 [vi 0,vn]:=bx10
 refine ai 0 (a8 (a7 (a6 rfl (mv keep_v (lx (aj cS rfl rfl rfl rfl) ?_)))))
 replace bx5:=bx5.cn ch7
 refine lx (ah bw rfl bx5 rfl) ?_
 replace Rg:=(Rg.cn ch2).cn ch7
 have len11:=(Rg).small
 refine lx (bl eZ rfl Rg) ?_
 replace Rkeep:=(Rkeep.cn ch2).cn ch7
 refine lo (bu (v:=vi (bo keep (g.2.length:Int))) (aG (vals:=[keep_v,vi (g.2.length:Int)]) Try.func58 oL ov rfl) (jF w6 keep keep_v (Rkeep).ro (g.2.length:Int)) ?_)
 intro w12 hb13
 replace hb13:=ax hb13 g9
 refine ai (bo keep (g.2.length:Int)) (a8 (a7 (a7 (a6 rfl (mi (bo keep (g.2.length:Int)) (lx (cM (m:=bo keep (g.2.length:Int)) (n:=0) rfl rfl) (a8 ?_)))))))
 by_cases p2:(bo keep (g.2.length:Int))=0
 ·
  have hch:=jZ p2
  refine af rfl (congrArg Bool.not (dt p2)) (al (a7 (a6 rfl (lx (aj cS rfl rfl rfl rfl) ?_))))
  replace bx5:=bx5.cn hb13
  refine lx (ah av rfl bx5 rfl) (lw (vg [vi g.1,vn]) (bM (vs:=[(0,vi g.1)]) rfl (by kernel_rfl)) (lo (bP g9 (is 3) (3,0) rfl bm ?_)))
  intro g17 w14 b16 ch15 bx18
  replace bx18:Bx g17 (is 3) w14 b16 [vi 0,vn]:=bx18
  refine lo (aQ (cs':=[vi g.1,vn]) bm rfl rfl bx18 rfl nq (AllOne.all (.cons rfl (.cons rfl .nil))) rfl ?_)
  intro w19 ch20 bx21
  clear bx18
  refine a8 (a7 (a7 (a6 rfl (ai 0 (a8 (ao ?_))))))
  refine aR (σ:=Value×(List Pt)×Nat×aw) (λ⟨s_1_v,s_1,i,gq⟩ f w=>aX w0 gq w/\f 1=keep_v/\f 2=vp b3 0/\f 4=vp b8 0/\f 7=vp b16 0/\f 8=vi ↑i/\Sl gq (is 0) w g_v g.2/\Sl gq (is 0) w keep_v keep/\Bx gq (is 1) w b3 [vi g.1,g_v]/\Bx gq (is 2) w b8 [vi 0,vn]/\Bx gq (is 3) w b16 [vi g.1,s_1_v]/\Ow gq (is 5) (is 5) w s_1_v s_1/\(i:Int)<=((keep.length:Int):Int)/\(s_1=(List.take i keep).map (gI g.2))) (λ⟨s_1_v,s_1,i,gq⟩=>Int.toNat (((keep.length:Int):Int)-(i:Int))) (vn,[],0,g17) ?_ ?_
  have C23:=cg [3] (hb13.n.seq (ch15.n.seq (ch20.l rfl)))
  have C22:=ch2.n.seq (ch7.n.seq C23)
  · exact⟨bH.ca C22,rfl,rfl,rfl,rfl,rfl,Rg.ca C23,Rkeep.ca C23,(bx5.cn ch15).ce ch20,bx10.ca C23,bx21,Ow.nil,by omega,by rfl⟩
  clear Rg Rkeep bx5 bx10 bx21 bH
  rintro⟨s_1_v,s_1,i,g26⟩ f24 w25 ⟨bH,zs1,zs2,zs4,zs7,zs8,Rg,Rkeep,bx5,bx10,bx21,o_s_1,hle_i,hinv⟩ back6
  have hlo:s_1.length<=i:=by rw[hinv];simp;omega
  refine a7 (a7 (a6 rfl (mz zs8 (mz zs1 ?_))))
  have len27:=(Rkeep).small
  refine lx (bl bI rfl Rkeep) (lx (b9 (m:=↑i) (n:=(keep.length:Int)) rfl rfl) (a8 ?_))
  by_cases p6:(i:Int)<(keep.length:Int)
  ·
   refine ae rfl (dt p6) ?_
   obtain⟨hk1,hk2⟩:=hch.1 _ (aU (xs:=keep) (i:=↑i) (by omega) (by omega))
   refine al (a7 (ao (bC g26 [0,1,2,3,4,5,6,7,8,9,12] dF ?_)))
   intro w29 ch28
   refine xp 0 rfl (λw=>aj cS rfl rfl zs7 rfl) ?_
   replace bx21:=bx21.cn ch28
   refine xh 1 [0,2,4,5,3,6,7,8,9,10] rfl (λw' hw'=>ah bw rfl (bx21.bel hw') rfl) (xp 2 rfl (λw=>aj cS rfl rfl zs2 rfl) ?_)
   replace bx5:=bx5.cn ch28
   refine xv 3 [2,1,0,4,5,6,7] rfl (ah bw rfl bx5 rfl) (xp (v:=keep_v) 4 rfl (λw=>am zs1) (xp (v:=vi ↑i) 5 rfl (λw=>am zs8) ?_))
   replace Rkeep:=Rkeep.cn ch28
   refine xv 6 [5,4,3,2,1,0] rfl (aa (v:=keep_v) (i:=↑i) bI rfl rfl Rkeep rfl (by omega) (by omega)) (xv 7 [6,5,4,3,2,1,0] rfl (au (v:=keep_v) (i:=↑i) av rfl Rkeep (by omega) (by omega) (by decide) rfl) ?_)
   replace Rg:=Rg.cn ch28
   refine xv 8 [7,6,5,4,3,2,1,0] rfl (aa (v:=g_v) (i:=(gI keep ↑i)) eZ rfl rfl Rg rfl (by omega) (by omega)) (xv (v:=vg [vi ((gI g.2 (gI keep ↑i)).1),vi ((gI g.2 (gI keep ↑i)).2)]) 9 [8,7,6,5,4,3,2,1,0] rfl (bt (v:=g_v) (i:=(gI keep ↑i)) cT rfl Rg (by omega) (by omega) rfl) (bJ 10 rfl (by kernel_rfl) rfl (aI (α:=Pt) g26 (is 4) (is 4) (4,0) rfl [(gI g.2 (gI keep ↑i))] eZ cT (by decide) (by decide) (vs:=[(0,vg [vi ((gI g.2 (gI keep ↑i)).1),vi ((gI g.2 (gI keep ↑i)).2)])]) rfl rfl (.cons rfl .nil) ?_)))
   intro g30 w31 v32 ch33 o34
   refine bJ 11 rfl (by kernel_rfl) rfl ?_
   replace o_s_1:=(o_s_1.cn ch28).cn ch33
   refine bG (α:=Pt) (xs:=s_1) (ys:=([(gI g.2 (gI keep ↑i))])) g30 (J:=is 5) (S:=is 5) (5,0) rfl eZ cT (by decide) rfl rfl rfl o_s_1 o34.flat (by decide) (by(simp;omega)) ?_
   intro g35 w36 v37 ch38 o39
   clear o_s_1
   refine xp 12 rfl (λw=>aj cS rfl rfl zs7 rfl) (bJ 13 rfl (by kernel_rfl) rfl ?_)
   replace bx21:=(bx21.cn ch33).ce ch38
   refine eu (cs':=[vi g.1,v37]) bw rfl rfl bx21 (dG o39.flat) nq (bD o39.flat) rfl ?_
   intro w40 ch41 bx42
   clear bx21
   refine dw (by kernel_rfl) (ar ?_)
   clear o34
   refine a6 rfl (mz zs8 (lx (bg (m:=↑i) (n:=1) rfl rfl (by omega)) (ai ((i:Int)+1) (a8 ?_))))
   have C44:=cg [3,5] (ch33.n.seq ((ch38.l rfl).seq (ch41.l rfl)))
   have C43:=ch28.n.seq C44
   refine back6 (v37,(s_1++[(gI g.2 (gI keep ↑i))]),i+1,g35) _ _ ⟨bH.ca C43,zs1,zs2,zs4,zs7,rfl,Rg.ca C44,Rkeep.ca C44,bx5.ca C44,bx10.ca C43,bx42,o39.ce ch41,by omega,?_⟩ ?_
   · show(s_1++[(gI g.2 (gI keep ↑i))])=(List.take (i+1) keep).map (gI g.2)
     rw[cF ‹_›,hinv];simp
   · show Int.toNat (((keep.length:Int):Int)-((i+1):Int))<Int.toNat (((keep.length:Int):Int)-(i:Int))
     omega
  refine af rfl (df p6) (aF rfl (a7 ?_))
  clear bx5
  refine a6 rfl (lx (aO (ds:=[vi g.1,s_1_v]) bm zs7 bx21 rfl rfl) (lo (aQ (cs':=[vi g.1,s_1_v]) bm zs4 rfl bx10 rfl nq (AllOne.all (.cons rfl (.cons (bD o_s_1.flat) .nil))) rfl ?_)))
  intro w45 ch46 bx47
  clear bx10
  refine ai 0 (a8 (aq (vs:=[vg [vi g.1,s_1_v],vi 0]) Try.func30 (.cell zs4 (dd (ds:=[vi g.1,s_1_v]) bm bx47 rfl rfl) (.tmp rfl .nil)) ?_))
  replace bH:=bH.ce ch46
  replace o_s_1:=o_s_1.ce ch46
  have e0:((g.1,s_1):(Int)×(List Pt))=((bv g keep).1):=by
    (have hk:List.take i keep=keep:=List.take_of_length_le (by omega)
     simp only[bv,if_pos hmay,if_pos p2,hinv,hk];done)
  have e1:(0:Int)=((bv g keep).2):=by
    (have hk:List.take i keep=keep:=List.take_of_length_le (by omega)
     simp only[bv,if_pos hmay,if_pos p2,hinv,hk];done)
  exact⟨(fin w0 g26 (λn=>if n=5 then 1 else 0),s_1_v),(bV (a:=(g.1,s_1)) (b:=0) (λ(z0:(Int)×(List Pt)) (z1:Int)=>Ending.returned (vt [vg [vi z0.1,s_1_v],vi z1])) e0 e1),bH.fresh _,((congrArg (λ(z:(Int)×(List Pt))=>z.2) e0)▸(o_s_1.glue (γ:=c0) (ren:=(λn=>if n=5 then 1 else 0)) (k:=1) bH.col rfl rfl))⟩
 refine ae rfl (congrArg Bool.not (df p2)) (a7 ?_)
 clear bx5
 refine a6 rfl (lw (vg [vi 0,vn]) (bM (vs:=[]) rfl (by kernel_rfl)) (mi (bo keep (g.2.length:Int)) (lo ?_)))
 replace bx10:=bx10.cn hb13
 refine aQ (cs':=[vi 0,vn]) bm rfl rfl bx10 rfl nq (AllOne.all (.cons rfl (.cons rfl .nil))) rfl ?_
 intro w48 ch49 bx50
 clear bx10
 refine ai (bo keep (g.2.length:Int)) (a8 (aq (vs:=[vg [vi 0,vn],vi (bo keep (g.2.length:Int))]) Try.func30 (.cell rfl (dd (ds:=[vi 0,vn]) bm bx50 rfl rfl) (.tmp rfl .nil)) ?_))
 have C51:=cg [2] (ch2.n.seq (ch7.n.seq (hb13.n.seq (ch49.l rfl))))
 replace bH:=bH.ca C51
 have e0:((0,[]):(Int)×(List Pt))=((bv g keep).1):=by
   simp only[bv,if_pos hmay,if_neg p2]
 have e1:(bo keep (g.2.length:Int):Int)=((bv g keep).2):=by
   simp only[bv,if_pos hmay,if_neg p2]
 exact⟨(fin w0 g9 (λn=>0),vn),(bV (a:=(0,[])) (b:=bo keep (g.2.length:Int)) (λ(z0:(Int)×(List Pt)) (z1:Int)=>Ending.returned (vt [vg [vi z0.1,vn],vi z1])) e0 e1),bH.fresh _,((congrArg (λ(z:(Int)×(List Pt))=>z.2) e0)▸Ow.nil)⟩
theorem lZ(w0:World)(n:Int)(x:Int)(hn:0<=n/\n<=1000000):
    Calls Try.prog 59 #[vi n,vi x] w0 (λee w=>∃xx:aw×Value,ee= .returned ((λ⟨δ,rv0⟩=>rv0) xx)/\(λ(⟨δ,rv0⟩:aw×Value) (w:World)=>ej w0 δ w/\Ow δ (is 1) (is 1) w rv0 (List.replicate n.toNat x)) xx w):=by
 refine ap Try.func59 rfl nq ?_
 have bH:=aX.start w0
 obtain⟨hn1,hn2⟩:=hn
 have hrep:((List.replicate n.toNat (0:Int)).length:Int)=n:=by simp;omega
 refine a7 (a6 rfl (ma vn (a8 (a7 (a6 rfl (mi n (lo (cv (α:=Int) (l:=n) (cp:=n) c0 (is 1) (is 1) (1,0) rfl (0:Int) bI av rfl rfl rfl (by omega) (by omega) (by omega) (by omega) ?_))))))))
 intro g1 w2 v3 ch4 o5 _
 refine ma v3 (a8 (a7 (a7 (a6 rfl (ai 0 (a8 (ao ?_)))))))
 refine aR (σ:=Nat×(List Int)×aw) (λ⟨i,l,gq⟩ f w=>aX w0 gq w/\f 0=vi n/\f 1=vi x/\f 5=v3/\f 6=vi ↑i/\Ow gq (is 1) (is 1) w v3 l/\(i:Int)<=(n:Int)/\(l=List.replicate i x++List.replicate (n.toNat-i) 0/\(i:Int)<=n)) (λ⟨i,l,gq⟩=>Int.toNat ((n:Int)-(i:Int))) (0,(List.replicate (Int.toNat n) (0:Int)),g1) ?_ ?_
 · exact⟨bH.cn ch4,rfl,rfl,rfl,rfl,o5,by omega,by exact⟨by simp,by omega⟩⟩
 clear o5 bH
 rintro⟨i,l,g8⟩ f6 w7 ⟨bH,zs0,zs1,zs5,zs6,o5,hle_i,hinv⟩ back3
 have hll:l.length=n.toNat:=by rw[hinv.1];simp;omega
 refine a7 (a7 (a6 rfl (mz zs6 (mz zs0 (lx (b9 (m:=↑i) (n:=n) rfl rfl) (a8 ?_))))))
 by_cases p3:(i:Int)<n
 ·
  refine ae rfl (dt p3) (al (a7 (ao (a6 rfl (mz zs5 (mz zs6 (mz zs1 (lx (aa (v:=v3) (i:=↑i) bI rfl rfl o5.flat rfl (by omega) (by omega)) (lo ?_)))))))))
  refine aJ (i:=↑i) x av rfl rfl o5 (by omega) (by omega) rfl ?_
  intro w9 ch10 bx11
  clear o5
  refine a8 (ar (a6 rfl (mz zs6 (lx (bg (m:=↑i) (n:=1) rfl rfl (by omega)) (ai ((i:Int)+1) (a8 ?_))))))
  refine back3 (i+1,(List.set l (Int.toNat ↑i) x),g8) _ _ ⟨bH.ce ch10,zs0,zs1,zs5,rfl,bx11,by omega,?_⟩ ?_
  · show(List.set l (Int.toNat ↑i) x)=List.replicate (i+1) x++List.replicate (n.toNat-(i+1)) 0/\((i+1):Int)<=n
    have hk1:i<n.toNat:=by simp at*;omega
    refine⟨by rw[hinv.1];exact l6 hk1,by omega⟩
  · show Int.toNat ((n:Int)-((i+1):Int))<Int.toNat ((n:Int)-(i:Int))
    omega
 refine af rfl (df p3) (aF rfl (a7 (a6 rfl (mz zs5 (ma v3 (a8 (aq (vs:=[v3]) Try.func59 (.tmp rfl .nil) ?_)))))))
 have e0:(l:List Int)=(List.replicate n.toNat x):=by
   obtain⟨h1,h2⟩:=hinv
   have hk:i=n.toNat:=by simp at*;omega
   subst hk;rw[h1];simp
 exact⟨(fin w0 g8 (λn=>if n=1 then 1 else 0),v3),(congrArg (a₁:=l) (λ(z0:List Int)=>Ending.returned (v3)) e0),bH.fresh _,(e0▸(o5.glue (γ:=c0) (ren:=(λn=>if n=1 then 1 else 0)) (k:=1) bH.col rfl rfl))⟩
set_option maxHeartbeats 2000000 in
theorem fK(w0:World)(g:(Int)×(List Pt))(g_v:Value)(hg_v:Ro w0 g_v g.2)(hmay:aV g):
    Calls Try.prog 31 #[vg [vi g.1,g_v],vn,vn] w0 (λee w=>∃xx:aw×Value,ee= .returned ((λ⟨δ,rv0⟩=>vt [rv0,vi ((ay g).2.1)]) xx)/\(λ(⟨δ,rv0⟩:aw×Value) (w:World)=>ej w0 δ w/\Ow δ (is 1) (is 1) w rv0 ((ay g).1)) xx w):=by
 refine ap Try.func31 rfl nq ?_
 have bH:=aX.start w0
 have Rg:=hg_v.sl
 have hm0:=hmay
 obtain⟨hm1,hm2,hm3,hm4⟩:=hm0
 have hfl:=gZ g hm1
 refine a7 (a6 rfl (dA rfl (cY c0 (is 1) (1,0) rfl rfl ?_)))
 intro g4 w1 b3 ch2 bx5
 replace bx5:Bx g4 (is 1) w1 b3 [vi g.1,g_v]:=bx5
 refine ma vn (ai 0 (a8 (a7 (a6 rfl (lx (aj cS rfl rfl rfl rfl) (lx (ah av rfl bx5 rfl) (lo (bk (aG (vals:=[vi g.1,vi (-1)]) Try.func59 oT nk rfl) (lZ w1 g.1 (-1) (by omega)) ?_))))))))
 rintro⟨d7,v9⟩ w6 ⟨fr8,o10⟩
 obtain⟨g11,ch12,G11⟩:=jV g4 fr8 (λn=>if n=1 then 2 else 0)
 replace o10:=o10.gl G11 2
 refine ma v9 (a8 (a7 (a6 rfl (ai 0 (a8 (a7 (a6 rfl ?_)))))))
 replace bx5:=bx5.cn ch12
 refine lx (aO (ds:=[vi g.1,g_v]) bm rfl bx5 rfl rfl) ?_
 replace Rg:=(Rg.cn ch2).cn ch12
 refine lo (bk (aG (vals:=[vg [vi g.1,g_v]]) Try.func44 ol oP rfl) (m8 w6 g g_v (Rg).ro ‹_›) ?_)
 rintro⟨d14,v16⟩ w13 ⟨fr15,o17⟩
 obtain⟨g18,ch19,G18⟩:=jV g11 fr15 (λn=>if n=1 then 3 else 0)
 replace o17:=o17.gl G18 3
 refine ma v16 (a8 (a7 (a7 (a6 rfl (ai 0 (a8 (ao ?_)))))))
 refine aR (σ:=Nat×Nat×(List Int)×aw) (λ⟨q,n,c,gq⟩ f w=>aX w0 gq w/\f 1=vn/\f 2=vn/\f 3=vp b3 0/\f 8=v9/\f 9=vi ↑n/\f 10=v16/\f 11=vi ↑q/\Sl gq (is 0) w g_v g.2/\Bx gq (is 1) w b3 [vi g.1,g_v]/\Ow gq (is 2) (is 2) w v9 c/\cU gq 3 w v16 (ab g)/\(q:Int)<=(g.1:Int)/\(c=(aE g q).1/\n=(aE g q).2)) (λ⟨q,n,c,gq⟩=>Int.toNat ((g.1:Int)-(q:Int))) (0,0,List.replicate g.1.toNat (-1),g18) ?_ ?_
 have C20:=cg [] (ch2.n.seq (ch12.n.seq ch19.n))
 · exact⟨bH.ca C20,rfl,rfl,rfl,rfl,rfl,rfl,rfl,Rg.cn ch19,bx5.cn ch19,o10.cn ch19,o17,by omega,by exact⟨rfl,rfl⟩⟩
 clear Rg bx5 o10 o17 bH
 rintro⟨q,n,c,g23⟩ f21 w22 ⟨bH,zs1,zs2,zs3,zs8,zs9,zs10,zs11,Rg,bx5,o10,o17,hle_q,hinv⟩ back5
 have hpl:=eG g q
 have hcl:(c.length:Int)=g.1:=by rw[hinv.1,hpl.1];omega
 have hi2:=hinv.2
 refine a7 (a7 (a6 rfl (mz zs11 (lx (aj cS rfl rfl zs3 rfl) (lx (ah av rfl bx5 rfl) (lx (b9 (m:=↑q) (n:=g.1) rfl rfl) (a8 ?_)))))))
 by_cases p5:(q:Int)<g.1
 ·
  refine ae rfl (dt p5) (al (a7 (ao (a7 (a7 (a6 rfl (mz zs8 (mz zs11 (lx (aa (v:=v9) (i:=↑q) bI rfl rfl o10.flat rfl (by omega) (by omega)) (lx (au (v:=v9) (i:=↑q) av rfl o10.flat (by omega) (by omega) (by decide) rfl) (lx (da (m:=(gI c ↑q)) (n:=0) rfl rfl) ?_)))))))))))
  refine mv (vb (decide (0<=(gI c ↑q)))) ?_
  by_cases q32:0<=(gI c ↑q)
  ·
   refine ad (wn (dt q32)) (ad (wn (dt q32)) (ad (wn (dt q32)) (ad (bT rfl rfl rfl) (ad (bT rfl rfl rfl) (ad (bT rfl rfl rfl) (ad (bT rfl rfl rfl) (ad (wn (dt q32)) (lw (vb true) (aA rfl (dt q32) rfl) (a8 ?_)))))))))
   refine ae rfl rfl (aF rfl (a6 rfl (mz zs11 (lx (bg (m:=↑q) (n:=1) rfl rfl (by omega)) (ai ((q:Int)+1) (a8 ?_))))))
   refine back5 (q+1,n,c,g23) _ _ ⟨bH,zs1,zs2,zs3,zs8,zs9,zs10,rfl,Rg,bx5,o10,o17,by omega,?_⟩ ?_
   · show c=(aE g (q+1)).1/\n=(aE g (q+1)).2
     exact jW hinv ‹_›
   · show Int.toNat ((g.1:Int)-((q+1):Int))<Int.toNat ((g.1:Int)-(q:Int))
     omega
  refine lv vn (wy (df q32)) (am zs1) (lv (vb false) (wy (df q32)) (fa qu rfl rfl) (lv (vb false) (wy (df q32)) (am rfl) (ad (wn rfl) (ad (wn rfl) (ad (wn rfl) (ad (wn rfl) (lv (vb false) (wy (df q32)) (aH rfl rfl rfl) (lw (vb false) (aH rfl (df q32) rfl) (a8 (af rfl rfl (al (a7 (a6 rfl ?_)))))))))))))
  refine mz zs11 (lo (aI (α:=Int) g23 (is 4) (is 4) (4,0) rfl [(q:Int)] bI av (by decide) (by decide) (vs:=[(0,vi ↑q)]) rfl rfl (.cons rfl .nil) ?_))
  intro g24 w25 v26 ch27 o28
  refine ma v26 (a8 (a7 (a6 rfl (mz zs8 (mz zs11 (mz zs9 ?_))))))
  replace o10:=o10.cn ch27
  refine lx (aa (v:=v9) (i:=↑q) bI rfl rfl o10.flat rfl (by omega) (by omega)) (lo (aJ (i:=↑q) (n:Int) av rfl rfl o10 (by omega) (by omega) rfl ?_))
  intro w29 ch30 bx31
  clear o10
  refine a8 (a7 (ao ?_))
  refine aR (σ:=Value×(List Int)×(List Int)×aw) (λ⟨todo1_v,todo1,c1,gq⟩ f w=>aX w0 gq w/\f 1=vn/\f 2=vn/\f 3=vp b3 0/\f 8=v9/\f 9=vi ↑n/\f 10=v16/\f 11=vi ↑q/\f 12=todo1_v/\Sl gq (is 0) w g_v g.2/\Bx gq (is 1) w b3 [vi g.1,g_v]/\cU gq 3 w v16 (ab g)/\Ow gq (is 2) (is 2) w v9 c1/\Ow gq (is 4) (is 4) w todo1_v todo1/\(cD g c c1 todo1 [] n (q:Int))) (λ⟨todo1_v,todo1,c1,gq⟩=>List.length todo1+2*gy c1) (v26,[(q:Int)],(List.set c (Int.toNat ↑q) (n:Int)),g24) ?_ ?_
  replace bH:=bH.cn ch27
  · exact⟨bH.ce ch30,zs1,zs2,zs3,zs8,zs9,zs10,zs11,rfl,(Rg.cn ch27).ce ch30,(bx5.cn ch27).ce ch30,(o17.cn ch27).ce ch30,bx31,o28.ce ch30,by exact cD.start hmay (by omega) hinv ‹_›⟩
  clear Rg bx5 o17 o28 bx31 bH
  rintro⟨todo1_v,todo1,c1,g34⟩ f32 w33 ⟨bH,zs1,zs2,zs3,zs8,zs9,zs10,zs11,zs12,Rg,bx5,o17,bx31,o_todo1,hdf⟩ back10
  have hcl1:=hdf.len
  have htb:=hdf.bd
  refine a7 (a7 (a6 rfl (mz zs12 ?_)))
  have len35:=(o_todo1.flat).small
  refine lx (bl bI rfl o_todo1.flat) (lx (dH (m:=(todo1.length:Int)) (n:=0) rfl rfl) (a8 ?_))
  by_cases p10:0<(todo1.length:Int)
  ·
   refine ae rfl (dt p10) (al (ao (a7 (a6 rfl (mz zs12 (mz zs12 (lx (bl bI rfl o_todo1.flat) (lx (dL (m:=(todo1.length:Int)) (n:=1) rfl rfl (by omega)) (lx (aa (v:=todo1_v) (i:=(todo1.length:Int)-1) bI rfl rfl o_todo1.flat rfl (by omega) (by omega)) (lx (au (v:=todo1_v) (i:=(todo1.length:Int)-1) av rfl o_todo1.flat (by omega) (by omega) (by decide) rfl) ?_))))))))))
   refine ai (gI todo1 ((todo1.length:Int)-1)) (a8 (a7 (a6 rfl (mz zs12 (mz zs12 (lx (bl bI rfl o_todo1.flat) (lx (dL (m:=(todo1.length:Int)) (n:=1) rfl rfl (by omega)) (lw ((gh todo1_v 1 (Int.toNat 0) (Int.toNat ((todo1.length:Int)-1)))) (kB (v:=todo1_v) (l:=0) (h:=(todo1.length:Int)-1) bI rfl rfl o_todo1.flat (.inr ⟨rfl,rfl⟩) (.inl (congrArg some rfl)) (by omega) (by omega) (by omega)) ?_))))))))
   have r37:=mM o_todo1 (show Int.toNat ((todo1.length:Int)-1)<=List.length _ by omega)
   refine ma ((gh todo1_v 1 (Int.toNat 0) (Int.toNat ((todo1.length:Int)-1)))) (a8 (a7 ?_))
   clear o_todo1
   refine a6 rfl (ai 0 (a8 (ao ?_)))
   refine aR (σ:=Nat×Value×(List Int)×(List Int)×aw) (λ⟨k,todo2_v,todo2,c2,gq⟩ f w=>aX w0 gq w/\f 1=vn/\f 2=vn/\f 3=vp b3 0/\f 8=v9/\f 9=vi ↑n/\f 10=v16/\f 11=vi ↑q/\f 12=todo2_v/\f 13=vi (gI todo1 ((todo1.length:Int)-1))/\f 14=vi ↑k/\Sl gq (is 0) w g_v g.2/\Bx gq (is 1) w b3 [vi g.1,g_v]/\cU gq 3 w v16 (ab g)/\Ow gq (is 2) (is 2) w v9 c2/\Ow gq (is 4) (is 4) w todo2_v todo2/\(k:Int)<=((List.length (gI (ab g) (gI todo1 ((todo1.length:Int)-1))):Int):Int)/\(dY g c c2 todo2 n (q:Int) (gI todo1 ((todo1.length:Int)-1)) k (List.length todo1+2*gy c1))) (λ⟨k,todo2_v,todo2,c2,gq⟩=>Int.toNat (((List.length (gI (ab g) (gI todo1 ((todo1.length:Int)-1))):Int):Int)-(k:Int))) (0,(gh todo1_v 1 (Int.toNat 0) (Int.toNat ((todo1.length:Int)-1))),(List.take (Int.toNat ((todo1.length:Int)-1)) todo1),c1,g34) ?_ ?_
   · exact⟨bH,zs1,zs2,zs3,zs8,zs9,zs10,zs11,rfl,rfl,rfl,Rg,bx5,o17,bx31,r37,by omega,by(have h0:=hdf.row (by omega);rwa[show List.length todo1-1=((todo1.length:Int)-1).toNat by omega] at h0)⟩
   clear Rg bx5 o17 bx31 r37 bH
   rintro⟨k,todo2_v,todo2,c2,g40⟩ f38 w39 ⟨bH,zs1,zs2,zs3,zs8,zs9,zs10,zs11,zs12,zs13,zs14,Rg,bx5,o17,bx31,o_todo2,hle_k,hrow⟩ back14
   have hcl2:=hrow.inv.len
   have htb2:=hrow.inv.bd
   obtain⟨hvd1,hvd2⟩:=hrow.vd
   have hfg:=gJ (g:=g) hvd1 hvd2
   refine a7 (a7 (a6 rfl (mz zs14 (mz zs10 (mz zs13 (lx (aa (v:=v16) (i:=(gI todo1 ((todo1.length:Int)-1))) j4 rfl rfl o17.sl rfl (by omega) (by omega)) ?_))))))
   obtain⟨v41,cel42,r43⟩:=cJ (r:=(gI todo1 ((todo1.length:Int)-1))) o17 (by omega) (by omega)
   refine lx (c7 br rfl cel42) ?_
   have len44:=(r43.row_sl).small
   refine lx (bl bI rfl r43.row_sl) (lx (b9 (m:=↑k) (n:=(List.length (gI (ab g) (gI todo1 ((todo1.length:Int)-1))):Int)) rfl rfl) (a8 ?_))
   by_cases p14:(k:Int)<(List.length (gI (ab g) (gI todo1 ((todo1.length:Int)-1))):Int)
   ·
    refine ae rfl (dt p14) ?_
    have hkl:(k:Int)<(bW g (gI todo1 ((todo1.length:Int)-1))).length:=by rw[<-hfg];assumption
    obtain⟨hr1,hr2⟩:=(dr (aU (xs:=bW g (gI todo1 ((todo1.length:Int)-1))) (i:=↑k) (by omega) hkl)).1
    rw[<-hfg] at hr1 hr2
    obtain⟨hto1,hto2⟩:=dV hmay hr1 hr2
    refine al (a7 (ao (a7 ?_)))
    clear cel42 r43
    refine bS g40 rfl dF (by kernel_rfl) ?_
    intro w46 ch45
    replace bx5:=bx5.cn ch45
    refine qx (λw' hw'=>aO (ds:=[vi g.1,g_v]) bm zs3 (bx5.bel hw') rfl rfl) (qz zs10 (qz zs13 ?_))
    replace o17:=o17.cn ch45
    refine qx (λw' hw'=>aa (v:=v16) (i:=(gI todo1 ((todo1.length:Int)-1))) j4 rfl rfl (o17.sl.bel hw') rfl (by omega) (by omega)) ?_
    obtain⟨v47,cel48,r49⟩:=cJ (r:=(gI todo1 ((todo1.length:Int)-1))) o17 (by omega) (by omega)
    refine qx (λw' hw'=>c7 br rfl (nM cel48 hw')) (qz zs14 (qx (λw' hw'=>aa (v:=v47) (i:=↑k) bI rfl rfl (r49.row_sl.bel hw') rfl (by omega) (by omega)) (qx (λw' hw'=>au (v:=v47) (i:=↑k) av rfl (r49.row_sl.bel hw') (by omega) (by omega) (by decide) rfl) ?_)))
    replace Rg:=Rg.cn ch45
    refine iv (v:=vi (bU g (gI (gI (ab g) (gI todo1 ((todo1.length:Int)-1))) (k:Int)))) rfl (λw' hw'=>aG (vals:=[vg [vi g.1,g_v],vi (gI (gI (ab g) (gI todo1 ((todo1.length:Int)-1))) (k:Int))]) Try.func24 o4 nG rfl) (λw' hw'=>(qd w' g g_v ((Rg.bel hw')).ro (gI (gI (ab g) (gI todo1 ((todo1.length:Int)-1))) (k:Int)) (by omega) (by omega)).mono λe w2 h2=>⟨h2.1,hw'.trans (h2.2.mono hw'.size)⟩) (qv (vi (bU g (gI (gI (ab g) (gI todo1 ((todo1.length:Int)-1))) (k:Int)))) (λw' hw'=>bz rfl) (cX ?_))
    intro w50 hc51
    replace hc51:=ax hc51 g40
    refine a7 (a7 ?_)
    clear cel48 r49
    refine a6 rfl (mz zs8 (mi (bU g (gI (gI (ab g) (gI todo1 ((todo1.length:Int)-1))) (k:Int))) ?_))
    replace bx31:=(bx31.cn ch45).cn hc51
    refine lx (aa (v:=v9) (i:=bU g (gI (gI (ab g) (gI todo1 ((todo1.length:Int)-1))) (k:Int))) bI rfl rfl bx31.flat rfl (by omega) (by omega)) (lx (au (v:=v9) (i:=bU g (gI (gI (ab g) (gI todo1 ((todo1.length:Int)-1))) (k:Int))) av rfl bx31.flat (by omega) (by omega) (by decide) rfl) (lx (da (m:=(gI c2 (bU g (gI (gI (ab g) (gI todo1 ((todo1.length:Int)-1))) (k:Int))))) (n:=0) rfl rfl) (mv (vb (decide (0<=(gI c2 (bU g (gI (gI (ab g) (gI todo1 ((todo1.length:Int)-1))) (k:Int))))))) ?_)))
    by_cases q85:0<=(gI c2 (bU g (gI (gI (ab g) (gI todo1 ((todo1.length:Int)-1))) (k:Int))))
    ·
     refine ad (wn (dt q85)) (ad (wn (dt q85)) (ad (wn (dt q85)) (ad (bT rfl rfl rfl) (ad (bT rfl rfl rfl) (ad (bT rfl rfl rfl) (ad (bT rfl rfl rfl) (ad (wn (dt q85)) (lw (vb true) (aA rfl (dt q85) rfl) (mv (vb true) ?_)))))))))
     refine ad (wn rfl) (ad (wn rfl) (ad (wn rfl) (ad (bT rfl rfl rfl) (ad (bT rfl rfl rfl) (ad (bT rfl rfl rfl) (ad (bT rfl rfl rfl) (ad (bT rfl rfl rfl) (ad (bT rfl rfl rfl) (ad (bT rfl rfl rfl) (ad (bT rfl rfl rfl) (ad (bT rfl rfl rfl) ?_)))))))))))
     refine ad (bT rfl rfl rfl) (ad (bT rfl rfl rfl) (ad (wn rfl) (lw (vb true) (aA rfl rfl rfl) (a8 (ae rfl rfl (aF rfl (a6 rfl (mz zs14 (lx (bg (m:=↑k) (n:=1) rfl rfl (by omega)) ?_)))))))))
     refine ai ((k:Int)+1) (a8 ?_)
     replace bH:=bH.cn ch45
     refine back14 (k+1,todo2_v,todo2,c2,g40) _ _ ⟨bH.cn hc51,zs1,zs2,zs3,zs8,zs9,zs10,zs11,zs12,zs13,rfl,Rg.cn hc51,bx5.cn hc51,o17.cn hc51,bx31,(o_todo2.cn ch45).cn hc51,by omega,?_⟩ ?_
     · show dY g c c2 todo2 n (q:Int) (gI todo1 ((todo1.length:Int)-1)) (k+1) (List.length todo1+2*gy c1)
       exact hrow.skip (by rw[<-hfg];assumption)
     · show Int.toNat (((List.length (gI (ab g) (gI todo1 ((todo1.length:Int)-1))):Int):Int)-((k+1):Int))<Int.toNat (((List.length (gI (ab g) (gI todo1 ((todo1.length:Int)-1))):Int):Int)-(k:Int))
       omega
    refine lv vn (wy (df q85)) (am zs1) (lv (vb false) (wy (df q85)) (fa qu rfl rfl) (lv (vb false) (wy (df q85)) (am rfl) (ad (wn rfl) (ad (wn rfl) (ad (wn rfl) (ad (wn rfl) (lv (vb false) (wy (df q85)) (aH rfl rfl rfl) (lw (vb false) (aH rfl (df q85) rfl) (mv (vb false) (lv vn (wy rfl) (am zs2) (lv (vb false) (wy rfl) (fa qu rfl rfl) (lv (vb false) (wy rfl) (am rfl) ?_))))))))))))
    refine ad (wn rfl) (ad (wn rfl) (ad (wn rfl) (ad (wn rfl) (ad (wn rfl) (ad (wn rfl) (ad (wn rfl) (ad (wn rfl) (ad (wn rfl) (ad (wn rfl) (ad (wn rfl) (lv (vb false) (wy rfl) (aH rfl rfl rfl) (lw (vb false) (aH rfl rfl rfl) (a8 (af rfl rfl (al (a7 (a6 rfl (mz zs8 (mi (bU g (gI (gI (ab g) (gI todo1 ((todo1.length:Int)-1))) (k:Int))) (mz zs9 ?_))))))))))))))))))))
    refine lx (aa (v:=v9) (i:=bU g (gI (gI (ab g) (gI todo1 ((todo1.length:Int)-1))) (k:Int))) bI rfl rfl bx31.flat rfl (by omega) (by omega)) (lo (aJ (i:=bU g (gI (gI (ab g) (gI todo1 ((todo1.length:Int)-1))) (k:Int))) (n:Int) av rfl rfl bx31 (by omega) (by omega) rfl ?_))
    intro w52 ch53 bx54
    clear bx31
    refine a8 (a6 rfl (mz zs12 (mi (bU g (gI (gI (ab g) (gI todo1 ((todo1.length:Int)-1))) (k:Int))) (lo (aI (α:=Int) g40 (is 5) (is 5) (5,0) rfl [bU g (gI (gI (ab g) (gI todo1 ((todo1.length:Int)-1))) (k:Int))] bI av (by decide) (by decide) (vs:=[(0,vi (bU g (gI (gI (ab g) (gI todo1 ((todo1.length:Int)-1))) (k:Int))))]) rfl rfl (.cons rfl .nil) ?_)))))
    intro g55 w56 v57 ch58 o59
    refine lo ?_
    have C60:=cg [2] (ch45.n.seq (hc51.n.seq ((ch53.l rfl).seq ch58.n)))
    replace o_todo2:=o_todo2.ca C60
    refine bG (α:=Int) (xs:=todo2) (ys:=([bU g (gI (gI (ab g) (gI todo1 ((todo1.length:Int)-1))) (k:Int))])) g55 (J:=is 4) (S:=is 4) (4,0) rfl bI av (by decide) rfl rfl rfl o_todo2 o59.flat (by decide) (by(simp;omega)) ?_
    intro g61 w62 v63 ch64 o65
    clear o_todo2
    refine ma v63 (a8 (ar ?_))
    clear o59
    refine a6 rfl (mz zs14 (lx (bg (m:=↑k) (n:=1) rfl rfl (by omega)) (ai ((k:Int)+1) (a8 ?_))))
    have C67:=cg [2,4] (hc51.n.seq ((ch53.l rfl).seq (ch58.n.seq (ch64.l rfl))))
    have C66:=ch45.n.seq C67
    refine back14 (k+1,v63,(todo2++[bU g (gI (gI (ab g) (gI todo1 ((todo1.length:Int)-1))) (k:Int))]),(List.set c2 (Int.toNat (bU g (gI (gI (ab g) (gI todo1 ((todo1.length:Int)-1))) (k:Int)))) (n:Int)),g61) _ _ ⟨bH.ca C66,zs1,zs2,zs3,zs8,zs9,zs10,zs11,rfl,zs13,rfl,Rg.ca C67,bx5.ca C67,o17.ca C67,(bx54.cn ch58).ce ch64,o65,by omega,?_⟩ ?_
    · show dY g c (List.set c2 (Int.toNat (bU g (gI (gI (ab g) (gI todo1 ((todo1.length:Int)-1))) (k:Int)))) (n:Int)) (todo2++[bU g (gI (gI (ab g) (gI todo1 ((todo1.length:Int)-1))) (k:Int))]) n (q:Int) (gI todo1 ((todo1.length:Int)-1)) (k+1) (List.length todo1+2*gy c1)
      (rw[hfg];exact hrow.push hmay hkl (by rw[<-hfg];assumption))
    · show Int.toNat (((List.length (gI (ab g) (gI todo1 ((todo1.length:Int)-1))):Int):Int)-((k+1):Int))<Int.toNat (((List.length (gI (ab g) (gI todo1 ((todo1.length:Int)-1))):Int):Int)-(k:Int))
      omega
   refine af rfl (df p14) (aF rfl (ar ?_))
   refine back10 (todo2_v,todo2,c2,g40) _ _ ⟨bH,zs1,zs2,zs3,zs8,zs9,zs10,zs11,zs12,Rg,bx5,o17,bx31,o_todo2,?_⟩ ?_
   · show cD g c c2 todo2 [] n (q:Int)
     exact hrow.done (by rw[<-hfg];assumption)
   · show List.length todo2+2*gy c2<List.length todo1+2*gy c1
     (have h1:=hrow.meas;omega)
  refine af rfl (df p10) (aF rfl ?_)
  clear o_todo1
  refine a6 rfl (mz zs9 (lx (bg (m:=↑n) (n:=1) rfl rfl (by omega)) (ai ((n:Int)+1) (a8 (ar (a6 rfl (mz zs11 (lx (bg (m:=↑q) (n:=1) rfl rfl (by omega)) (ai ((q:Int)+1) ?_)))))))))
  refine a8 ?_
  refine back5 (q+1,n+1,c1,g34) _ _ ⟨bH,zs1,zs2,zs3,zs8,rfl,zs10,rfl,Rg,bx5,bx31,o17,by omega,?_⟩ ?_
  · show c1=(aE g (q+1)).1/\(n+1)=(aE g (q+1)).2
    exact hdf.done hmay (by omega) hinv ‹_›
  · show Int.toNat ((g.1:Int)-((q+1):Int))<Int.toNat ((g.1:Int)-(q:Int))
    omega
 refine af rfl (df p5) (aF rfl (a7 ?_))
 clear bx5 o17
 refine a6 rfl (mz zs8 (mz zs9 (ma v9 (ai (n:Int) (a8 (aq (vs:=[v9,vi ↑n]) Try.func31 (.tmp rfl (.tmp rfl .nil)) ?_))))))
 have e0:(c:List Int)=((ay g).1):=by
   exact(gL hmay (by omega) hinv).1
 have e1:((n:Int):Int)=((ay g).2.1):=by
   exact(gL hmay (by omega) hinv).2.1
 exact⟨(fin w0 g23 (λn=>if n=2 then 1 else 0),v9),(bV (a:=c) (b:=(n:Int)) (λ(z0:List Int) (z1:Int)=>Ending.returned (vt [v9,vi z1])) e0 e1),bH.fresh _,(e0▸(o10.glue (γ:=c0) (ren:=(λn=>if n=2 then 1 else 0)) (k:=1) bH.col rfl rfl))⟩
set_option maxHeartbeats 8000000 in
theorem iB(w0:World)(g:(Int)×(List Pt))(g_v:Value)(hg_v:Ro w0 g_v g.2)(ws:List Bt)(ws_v:Value)(hws_v:Ro w0 ws_v ws):
    Calls Try.prog 6 #[vg [vi g.1,g_v],ws_v] w0 (λee w=>ee= .returned (vb true)/\ch w0.heap.size w0 w):=by
 refine ap Try.func6 rfl nq ?_
 have bH:=aX.start w0
 have Rg:=hg_v.sl
 have Rws:=hws_v.sl
 refine a7 (a6 rfl (dA rfl (cY c0 (is 1) (1,0) rfl rfl ?_)))
 intro g4 w1 b3 ch2 bx5
 replace bx5:Bx g4 (is 1) w1 b3 [vi g.1,g_v]:=bx5
 refine ma (vb false) (a8 (a7 (a7 (a6 rfl (dA rfl (bu (v:=vb true) (aG (vals:=[]) Try.func9 pG pH rfl) (la w1) ?_))))))
 intro w6 hb7
 replace hb7:=ax hb7 g4
 refine lx (e9 (b:=true) rfl) (a8 (af rfl rfl (al (a7 (a7 (a6 rfl ?_))))))
 replace bx5:=bx5.cn hb7
 refine lx (aO (ds:=[vi g.1,g_v]) bm rfl bx5 rfl rfl) ?_
 replace Rg:=(Rg.cn ch2).cn hb7
 refine lo (bu (v:=vb (cl g)) (aG (vals:=[vg [vi g.1,g_v]]) Try.func29 pw qf rfl) (nR w6 g g_v (Rg).ro) ?_)
 intro w8 hb9
 replace hb9:=ax hb9 g4
 refine lx (e9 (b:=(cl g)) rfl) (mv (vb (!(cl g))) ?_)
 by_cases q31:(cl g)=true
 ·
  have hm:aV g:=of_decide_eq_true q31
  have hm0:=hm
  obtain⟨hm1,hm2,hm3,hm4⟩:=hm0
  refine lv (ws_v) (wy (congrArg Bool.not q31)) (am rfl) ?_
  have C10:=cg [] (ch2.n.seq (hb7.n.seq hb9.n))
  replace Rws:=Rws.ca C10
  have len11:=(Rws).small
  refine lv (vi (ws.length:Int)) (wy (congrArg Bool.not q31)) (bl re rfl Rws) (lv (vp b3 1) (wy (congrArg Bool.not q31)) (aj cS rfl rfl rfl rfl) ?_)
  replace bx5:=bx5.cn hb9
  refine lv (g_v) (wy (congrArg Bool.not q31)) (ah bw rfl bx5 rfl) ?_
  replace Rg:=Rg.cn hb9
  have len12:=(Rg).small
  refine lv (vi (g.2.length:Int)) (wy (congrArg Bool.not q31)) (bl eZ rfl Rg) (lv (vb (!(decide ((ws.length:Int)=(g.2.length:Int))))) (wy (congrArg Bool.not q31)) (cM (m:=(ws.length:Int)) (n:=(g.2.length:Int)) rfl rfl) (lw (vb (!(decide ((ws.length:Int)=(g.2.length:Int))))) (aH rfl (congrArg Bool.not q31) rfl) (mv (vb (!(decide ((ws.length:Int)=(g.2.length:Int))))) ?_)))
  by_cases q39:(ws.length:Int)=(g.2.length:Int)
  ·
   refine lv (vp b3 1) (wy (congrArg Bool.not (dt q39))) (aj cS rfl rfl rfl rfl) (lv (g_v) (wy (congrArg Bool.not (dt q39))) (ah bw rfl bx5 rfl) (lv (vi (g.2.length:Int)) (wy (congrArg Bool.not (dt q39))) (bl eZ rfl Rg) (lv (vb (decide (40<(g.2.length:Int)))) (wy (congrArg Bool.not (dt q39))) (dH (m:=(g.2.length:Int)) (n:=40) rfl rfl) (lw (vb (decide (40<(g.2.length:Int)))) (aH rfl (congrArg Bool.not (dt q39)) rfl) (mv (vb (decide (40<(g.2.length:Int)))) ?_)))))
   by_cases q45:40<(g.2.length:Int)
   ·
    refine ad (wn (dt q45)) (ad (wn (dt q45)) (ad (wn (dt q45)) (lw (vb true) (aA rfl (dt q45) rfl) (a8 (ae rfl rfl (a7 ?_))))))
    clear bx5
    refine a6 rfl (ma (vb true) (a8 (aq (vs:=[vb true]) Try.func6 (.tmp rfl .nil) ?_)))
    have e0:(true:Bool)=(true):=by
      rfl
    replace bH:=bH.ca C10
    exact⟨rb e0,bH.below⟩
   refine lv (vp b3 0) (wy (df q45)) (aj cS rfl rfl rfl rfl) (lv (vi g.1) (wy (df q45)) (ah av rfl bx5 rfl) (lv (vb (decide (100<g.1))) (wy (df q45)) (dH (m:=g.1) (n:=100) rfl rfl) (lw (vb (decide (100<g.1))) (aH rfl (df q45) rfl) (a8 ?_))))
   by_cases p3:100<g.1
   ·
    refine ae rfl (dt p3) (a7 ?_)
    clear bx5
    refine a6 rfl (ma (vb true) (a8 (aq (vs:=[vb true]) Try.func6 (.tmp rfl .nil) ?_)))
    have e0:(true:Bool)=(true):=by
      rfl
    replace bH:=bH.ca C10
    exact⟨rb e0,bH.below⟩
   refine af rfl (df p3) (al (a7 (a6 rfl (ma vn (a8 (a7 (a7 (a6 rfl (ai 0 (a8 (ao ?_)))))))))))
   refine aR (σ:=Value×(List Nat)×Nat×aw) (λ⟨w9_v,w9,k,gq⟩ f w=>aX w0 gq w/\f 1=ws_v/\f 2=vp b3 0/\f 5=w9_v/\f 6=vi ↑k/\Sl gq (is 0) w g_v g.2/\Sl gq (is 0) w ws_v ws/\Bx gq (is 1) w b3 [vi g.1,g_v]/\Ow gq (is 3) (is 3) w w9_v w9/\(k:Int)<=((ws.length:Int):Int)/\(w9=lG (ws.take k))) (λ⟨w9_v,w9,k,gq⟩=>Int.toNat (((ws.length:Int):Int)-(k:Int))) (vn,[],0,g4) ?_ ?_
   · exact⟨bH.ca C10,rfl,rfl,rfl,rfl,Rg,Rws,bx5,Ow.nil,by omega,by rfl⟩
   clear Rg Rws bx5 bH
   rintro⟨w9_v,w9,k,g15⟩ f13 w14 ⟨bH,zs1,zs2,zs5,zs6,Rg,Rws,bx5,o_w9,hle_k,hinv⟩ back7
   have hll:w9.length<=k:=by rw[hinv,mS,List.length_take];omega
   refine a7 (a7 (a6 rfl (mz zs6 (mz zs1 (lx (bl re rfl Rws) (lx (b9 (m:=↑k) (n:=(ws.length:Int)) rfl rfl) (a8 ?_)))))))
   by_cases p7:(k:Int)<(ws.length:Int)
   ·
    refine ae rfl (dt p7) (al (a7 (ao (a6 rfl (mz zs5 (mz zs1 (mz zs6 (lx (aa (v:=ws_v) (i:=↑k) re rfl rfl Rws rfl (by omega) (by omega)) (lx (au (v:=ws_v) (i:=↑k) pJ rfl Rws (by omega) (by omega) (by decide) rfl) ?_)))))))))
    refine lw (Value.int .u8 (((((gI ws ↑k)).n:Nat):Int)%8)) (pB (m:=((((gI ws ↑k)).n:Nat):Int)) (n:=8) rfl rfl (by omega) (by omega)) (lw (Value.float .f64 (fp (((((gI ws ↑k)).n:Nat):Int)%8))) (qk (m:=((((gI ws ↑k)).n:Nat):Int)%8) U5 rE rfl) ?_)
    have nn16:fp (((((gI ws ↑k)).n:Nat):Int)%8)<=aM:=kj (by omega)
    refine lo (aI (α:=Nat) g15 (is 2) (is 2) (2,0) rfl ([fp (((((gI ws ↑k)).n:Nat):Int)%8)]:List Nat) eD aT (by decide) (by decide) (vs:=[(0,Value.float .f64 (fp (((((gI ws ↑k)).n:Nat):Int)%8)))]) rfl rfl (.cons rfl .nil) ?_)
    intro g17 w18 v19 ch20 o21
    refine lo ?_
    replace o_w9:=o_w9.cn ch20
    refine bG (α:=Nat) (xs:=w9) (ys:=([fp (((((gI ws ↑k)).n:Nat):Int)%8)]:List Nat)) g17 (J:=is 3) (S:=is 3) (3,0) rfl eD aT (by decide) rfl rfl rfl o_w9 o21.flat (by decide) (by(simp;omega)) ?_
    intro g22 w23 v24 ch25 o26
    clear o_w9
    refine ma v24 (a8 (ar ?_))
    clear o21
    refine a6 rfl (mz zs6 (lx (bg (m:=↑k) (n:=1) rfl rfl (by omega)) (ai ((k:Int)+1) (a8 ?_))))
    replace bH:=bH.cn ch20
    refine back7 (v24,(w9++([fp (((((gI ws ↑k)).n:Nat):Int)%8)]:List Nat)),k+1,g22) _ _ ⟨bH.ce ch25,zs1,zs2,rfl,rfl,(Rg.cn ch20).ce ch25,(Rws.cn ch20).ce ch25,(bx5.cn ch20).ce ch25,o26,by omega,?_⟩ ?_
    · show(w9++([fp (((((gI ws ↑k)).n:Nat):Int)%8)]:List Nat))=lG (ws.take (k+1))
      exact ns hinv ‹_›
    · show Int.toNat (((ws.length:Int):Int)-((k+1):Int))<Int.toNat (((ws.length:Int):Int)-(k:Int))
      omega
   refine af rfl (df p7) (aF rfl (a7 ?_))
   have hww:=nL hinv ‹_›
   have hwf:=qR hww hm (by omega)
   have hT:=mo.of hwf
   have hle:=pm hww
   have hwl:=hT.wl
   have hwg:∀x∈w9,fI x:=λx hx=>pv (hle x hx)
   refine a6 rfl (lx (aO (ds:=[vi g.1,g_v]) bm zs2 bx5 rfl rfl) (mz zs5 (lo (bk (aG (vals:=[vg [vi g.1,g_v],w9_v]) Try.func14 kI ko rfl) (ie w14 g g_v (Rg).ro w9 w9_v (o_w9.flat).ro) ?_))))
   rintro⟨d28,v30⟩ w27 ⟨fr29,o31⟩
   obtain⟨g32,ch33,G32⟩:=jV g15 fr29 (λn=>if n=1 then 4 else 0)
   replace o31:=o31.gl G32 4
   refine mv (vt [v30,Value.float .f64 ((ag g w9).2.1),vi ((ag g w9).2.2)]) (lx (b7 rfl rfl) (lx (b7 rfl rfl) (lx (b7 rfl rfl) (ma v30 (ma (Value.float .f64 ((ag g w9).2.1)) (ai ((ag g w9).2.2) (a8 (a7 (a7 (a6 rfl (mi ((ag g w9).2.2) (lx (cM (m:=(ag g w9).2.2) (n:=0) rfl rfl) ?_))))))))))))
   refine a8 ?_
   have p11:((ag g w9).2.2)=0:=by exact hT.e0
   refine af rfl (congrArg Bool.not (dt p11)) (al (a7 (a6 rfl ?_)))
   replace bx5:=bx5.cn ch33
   refine lx (aO (ds:=[vi g.1,g_v]) bm zs2 bx5 rfl rfl) (mv v30 ?_)
   replace Rg:=Rg.cn ch33
   refine lo (bk (aG (vals:=[vg [vi g.1,g_v],v30]) Try.func30 kh kQ rfl) (kY w27 g g_v (Rg).ro ((ag g w9).1) v30 (o31.flat).ro (by exact hm)) ?_)
   rintro⟨d35,v37⟩ w34 ⟨fr36,o38⟩
   obtain⟨g39,ch40,G39⟩:=jV g32 fr36 (λn=>if n=1 then 5 else 0)
   replace o38:=o38.gl G39 5
   refine mv (vt [vg [vi (((bv g ((ag g w9).1)).1).1),v37],vi ((bv g ((ag g w9).1)).2)]) (lx (b7 rfl rfl) (lx (b7 rfl rfl) (lo (bP g39 (is 6) (6,0) rfl bm ?_))))
   intro g44 w41 b43 ch42 bx45
   replace bx45:Bx g44 (is 6) w41 b43 [vi 0,vn]:=bx45
   refine lo ?_
   replace o38:=o38.cn ch42
   refine aQ (cs':=[vi (((bv g ((ag g w9).1)).1).1),v37]) bm rfl rfl bx45 rfl nq (AllOne.all (.cons rfl (.cons (bD o38.flat) .nil))) rfl ?_
   intro w46 ch47 bx48
   clear bx45
   refine ai ((bv g ((ag g w9).1)).2) (a8 (a7 (a6 rfl ?_)))
   have C49:=cg [6] (ch40.n.seq (ch42.n.seq (ch47.l rfl)))
   replace bx5:=bx5.ca C49
   refine lx (aO (ds:=[vi g.1,g_v]) bm zs2 bx5 rfl rfl) ?_
   replace Rg:=Rg.ca C49
   refine lo (bk (aG (vals:=[vg [vi g.1,g_v],vn,vn]) Try.func31 iT iu rfl) (fK w46 g g_v (Rg).ro (by exact hm)) ?_)
   rintro⟨d51,v53⟩ w50 ⟨fr52,o54⟩
   obtain⟨g55,ch56,G55⟩:=jV g44 fr52 (λn=>if n=1 then 7 else 0)
   replace o54:=o54.gl G55 7
   refine mv (vt [v53,vi ((ay g).2.1)]) (lx (b7 rfl rfl) (lx (b7 rfl rfl) (ma v53 (ai ((ay g).2.1) (a8 (a7 ?_))))))
   clear o54
   refine a6 rfl ?_
   replace bx48:=bx48.cn ch56
   refine lx (aO (ds:=[vi (((bv g ((ag g w9).1)).1).1),v37]) bm rfl bx48 rfl rfl) ?_
   replace o38:=(o38.ce ch47).cn ch56
   refine lo (bk (aG (vals:=[vg [vi (((bv g ((ag g w9).1)).1).1),v37],vn,vn]) Try.func31 iT iu rfl) (fK w50 ((bv g ((ag g w9).1)).1) v37 (o38.flat).ro (by(rw[hT.sub];exact hT.may2))) ?_)
   rintro⟨d58,v60⟩ w57 ⟨fr59,o61⟩
   obtain⟨g62,ch63,G62⟩:=jV g55 fr59 (λn=>if n=1 then 8 else 0)
   replace o61:=o61.gl G62 8
   refine mv (vt [v60,vi ((ay ((bv g ((ag g w9).1)).1)).2.1)]) (lx (b7 rfl rfl) (lx (b7 rfl rfl) (ma v60 (ai ((ay ((bv g ((ag g w9).1)).1)).2.1) (a8 (a7 (a7 ?_)))))))
   clear o38 bx48 o61
   obtain⟨hpb1,hpb2⟩:=fL g hm
   refine a6 rfl (mi ((bv g ((ag g w9).1)).2) (lx (cM (m:=(bv g ((ag g w9).1)).2) (n:=0) rfl rfl) (mv (vb (!(decide (((bv g ((ag g w9).1)).2)=0)))) ?_)))
   have q92:((bv g ((ag g w9).1)).2)=0:=by(rw[hT.sub];done)
   refine lv (vi ((ay g).2.1)) (wy (congrArg Bool.not (dt q92))) (am rfl) (lv (vi ((ay ((bv g ((ag g w9).1)).1)).2.1)) (wy (congrArg Bool.not (dt q92))) (am rfl) (lv (vb (!(decide (((ay g).2.1)=((ay ((bv g ((ag g w9).1)).1)).2.1))))) (wy (congrArg Bool.not (dt q92))) (cM (m:=(ay g).2.1) (n:=(ay ((bv g ((ag g w9).1)).1)).2.1) rfl rfl) (lw (vb (!(decide (((ay g).2.1)=((ay ((bv g ((ag g w9).1)).1)).2.1))))) (aH rfl (congrArg Bool.not (dt q92)) rfl) (mv (vb (!(decide (((ay g).2.1)=((ay ((bv g ((ag g w9).1)).1)).2.1))))) ?_))))
   have q97:((ay g).2.1)=((ay ((bv g ((ag g w9).1)).1)).2.1):=by(rw[hT.sub];exact hT.num)
   refine lv (v30) (wy (congrArg Bool.not (dt q97))) (am rfl) ?_
   have C64:=cg [6] (ch40.n.seq (ch42.n.seq ((ch47.l rfl).seq (ch56.n.seq ch63.n))))
   replace o31:=o31.ca C64
   have len65:=(o31.flat).small
   refine lv (vi (List.length ((ag g w9).1):Int)) (wy (congrArg Bool.not (dt q97))) (bl bI rfl o31.flat) (lv (vp b3 0) (wy (congrArg Bool.not (dt q97))) (aj cS rfl rfl zs2 rfl) ?_)
   replace bx5:=(bx5.cn ch56).cn ch63
   refine lv (vi g.1) (wy (congrArg Bool.not (dt q97))) (ah av rfl bx5 rfl) (lv (vi ((ay g).2.1)) (wy (congrArg Bool.not (dt q97))) (am rfl) (lv (vi (g.1-((ay g).2.1))) (wy (congrArg Bool.not (dt q97))) (dL (m:=g.1) (n:=(ay g).2.1) rfl rfl (by omega)) (lv (vb (!(decide ((List.length ((ag g w9).1):Int)=(g.1-((ay g).2.1)))))) (wy (congrArg Bool.not (dt q97))) (cM (m:=(List.length ((ag g w9).1):Int)) (n:=g.1-((ay g).2.1)) rfl rfl) (lw (vb (!(decide ((List.length ((ag g w9).1):Int)=(g.1-((ay g).2.1)))))) (aH rfl (congrArg Bool.not (dt q97)) rfl) (a8 ?_)))))
   have p16:(List.length ((ag g w9).1):Int)=(g.1-((ay g).2.1)):=by exact hT.len
   refine af rfl (congrArg Bool.not (dt p16)) (al (a7 (a6 rfl (ma (Value.float .f64 0) (a8 (a7 (a7 (a6 rfl (ai 0 (a8 (ao ?_)))))))))))
   refine aR (σ:=Fb×Nat×aw) (λ⟨tot,i,gq⟩ f w=>aX w0 gq w/\f 2=vp b3 0/\f 5=w9_v/\f 7=v30/\f 8=Value.float .f64 ((ag g w9).2.1)/\f 16=Value.float .f64 tot/\f 17=vi ↑i/\Sl gq (is 0) w g_v g.2/\Sl gq (is 0) w ws_v ws/\Bx gq (is 1) w b3 [vi g.1,g_v]/\Ow gq (is 3) (is 3) w w9_v w9/\Ow gq (is 4) (is 4) w v30 ((ag g w9).1)/\(i:Int)<=((List.length ((ag g w9).1):Int):Int)/\(tot=f3 w9 (List.take i ((ag g w9).1))/\tot<=aM)) (λ⟨tot,i,gq⟩=>Int.toNat (((List.length ((ag g w9).1):Int):Int)-(i:Int))) (0,0,g62) ?_ ?_
   have C66:=cg [6] (ch33.n.seq (ch40.n.seq (ch42.n.seq ((ch47.l rfl).seq (ch56.n.seq ch63.n)))))
   · exact⟨bH.ca C66,zs2,zs5,rfl,rfl,rfl,rfl,(Rg.cn ch56).cn ch63,Rws.ca C66,bx5,o_w9.ca C66,o31,by omega,by exact⟨rfl,by decide⟩⟩
   clear Rg Rws bx5 o_w9 o31 bH
   rintro⟨tot,i,g69⟩ f67 w68 ⟨bH,zs2,zs5,zs7,zs8,zs16,zs17,Rg,Rws,bx5,o_w9,o31,hle_i,htot⟩ back20
   refine a7 (a7 (a6 rfl (mz zs17 (mz zs7 (lx (bl bI rfl o31.flat) (lx (b9 (m:=↑i) (n:=(List.length ((ag g w9).1):Int)) rfl rfl) (a8 ?_)))))))
   by_cases p20:(i:Int)<(List.length ((ag g w9).1):Int)
   ·
    refine ae rfl (dt p20) ?_
    obtain⟨hi0,hi1⟩:=hT.inn (k:=(i:Int)) (by omega) ‹_›
    have hwi:=j8 hle (gI ((ag g w9).1) (i:Int))
    refine al (a7 (ao (a6 rfl (mz zs16 (mz zs5 (mz zs7 (mz zs17 (lx (aa (v:=v30) (i:=↑i) bI rfl rfl o31.flat rfl (by omega) (by omega)) (lx (au (v:=v30) (i:=↑i) av rfl o31.flat (by omega) (by omega) (by decide) rfl) ?_)))))))))
    refine lx (aa (v:=w9_v) (i:=(gI ((ag g w9).1) (i:Int))) eD rfl rfl o_w9.flat rfl (by omega) (by omega)) (lx (au (v:=w9_v) (i:=(gI ((ag g w9).1) (i:Int))) aT rfl o_w9.flat (by omega) (by omega) (by decide) rfl) (lw (Value.float .f64 (b6 tot (gI w9 (gI ((ag g w9).1) (i:Int))))) (mO (a:=tot) (b:=(gI w9 (gI ((ag g w9).1) (i:Int)))) rfl rfl (jH (by exact htot.2) ‹_›).1) ?_))
    have nn70:b6 tot (gI w9 (gI ((ag g w9).1) (i:Int)))<=aM:=(jH (x:=tot) (y:=(gI w9 (gI ((ag g w9).1) (i:Int)))) (by exact htot.2) ‹_›).2
    refine ma (Value.float .f64 (b6 tot (gI w9 (gI ((ag g w9).1) (i:Int))))) (a8 (ar (a6 rfl (mz zs17 (lx (bg (m:=↑i) (n:=1) rfl rfl (by omega)) (ai ((i:Int)+1) (a8 ?_)))))))
    refine back20 (b6 tot (gI w9 (gI ((ag g w9).1) (i:Int))),i+1,g69) _ _ ⟨bH,zs2,zs5,zs7,zs8,rfl,rfl,Rg,Rws,bx5,o_w9,o31,by omega,?_⟩ ?_
    · show(b6 tot (gI w9 (gI ((ag g w9).1) (i:Int))))=f3 w9 (List.take (i+1) ((ag g w9).1))/\(b6 tot (gI w9 (gI ((ag g w9).1) (i:Int))))<=aM
      exact⟨lk htot.1 ‹_› hwi,by assumption⟩
    · show Int.toNat (((List.length ((ag g w9).1):Int):Int)-((i+1):Int))<Int.toNat (((List.length ((ag g w9).1):Int):Int)-(i:Int))
      omega
   refine af rfl (df p20) (aF rfl (a7 (a7 (a6 rfl (mz zs16 (mz zs8 (lw (vb (!(decide (tot=((ag g w9).2.1))))) (lX (a:=tot) (b:=((ag g w9).2.1)) rfl rfl (by exact htot.2) (by exact(hT.total htot.1 ‹_›)▸htot.2)) (a8 ?_))))))))
   have p23:tot=((ag g w9).2.1):=by exact hT.total htot.1 ‹_›
   refine af rfl (congrArg Bool.not (dt p23)) (al (a7 (a7 (a6 rfl (ai 0 (a8 (ao ?_)))))))
   refine aR (σ:=Nat×aw) (λ⟨out,gq⟩ f w=>aX w0 gq w/\f 2=vp b3 0/\f 5=w9_v/\f 7=v30/\f 18=vi ↑out/\Sl gq (is 0) w g_v g.2/\Sl gq (is 0) w ws_v ws/\Bx gq (is 1) w b3 [vi g.1,g_v]/\Ow gq (is 3) (is 3) w w9_v w9/\Ow gq (is 4) (is 4) w v30 ((ag g w9).1)/\(out:Int)<=((g.2.length:Int):Int)/\(True)) (λ⟨out,gq⟩=>g.2.length-out) (0,g69) ?_ ?_
   · exact⟨bH,zs2,zs5,zs7,rfl,Rg,Rws,bx5,o_w9,o31,by omega,by trivial⟩
   clear Rg Rws bx5 o_w9 o31 bH
   rintro⟨out,g73⟩ f71 w72 ⟨bH,zs2,zs5,zs7,zs18,Rg,Rws,bx5,o_w9,o31,hle_out,hio⟩ back26
   refine a7 (a7 (a6 rfl (mz zs18 (lx (aj cS rfl rfl zs2 rfl) (lx (ah bw rfl bx5 rfl) (lx (bl eZ rfl Rg) (lx (b9 (m:=↑out) (n:=(g.2.length:Int)) rfl rfl) (a8 ?_))))))))
   by_cases p26:(out:Int)<(g.2.length:Int)
   ·
    refine ae rfl (dt p26) (al (a7 (ao (a7 (a6 rfl (ma vn (a8 (a7 (a6 rfl (ma (vb false) (a8 (a7 (a7 (a6 rfl (ai 0 ?_)))))))))))))))
    refine a8 (ao ?_)
    refine aR (σ:=Value×(List Int)×Bool×Nat×aw) (λ⟨light_v,light,tk,j,gq⟩ f w=>aX w0 gq w/\f 2=vp b3 0/\f 5=w9_v/\f 7=v30/\f 18=vi ↑out/\f 19=light_v/\f 20=vb tk/\f 21=vi ↑j/\Sl gq (is 0) w g_v g.2/\Sl gq (is 0) w ws_v ws/\Bx gq (is 1) w b3 [vi g.1,g_v]/\Ow gq (is 3) (is 3) w w9_v w9/\Ow gq (is 4) (is 4) w v30 ((ag g w9).1)/\Ow gq (is 10) (is 10) w light_v light/\(j:Int)<=((List.length ((ag g w9).1):Int):Int)/\(jC ((ag g w9).1) (out:Int) tk j/\light=ec w9 ((ag g w9).1) (out:Int) j)) (λ⟨light_v,light,tk,j,gq⟩=>Int.toNat (((List.length ((ag g w9).1):Int):Int)-(j:Int))) (vn,[],false,0,g73) ?_ ?_
    · exact⟨bH,zs2,zs5,zs7,zs18,rfl,rfl,rfl,Rg,Rws,bx5,o_w9,o31,Ow.nil,by omega,by exact⟨rj,rfl⟩⟩
    clear Rg Rws bx5 o_w9 o31 bH
    rintro⟨light_v,light,tk,j,g76⟩ f74 w75 ⟨bH,zs2,zs5,zs7,zs18,zs19,zs20,zs21,Rg,Rws,bx5,o_w9,o31,o_light,hle_j,hlt⟩ back31
    have hll2:light.length<=j:=by rw[hlt.2];exact oC j
    refine a7 (a7 (a6 rfl (mz zs21 (mz zs7 (lx (bl bI rfl o31.flat) (lx (b9 (m:=↑j) (n:=(List.length ((ag g w9).1):Int)) rfl rfl) (a8 ?_)))))))
    by_cases p31:(j:Int)<(List.length ((ag g w9).1):Int)
    ·
     refine ae rfl (dt p31) ?_
     obtain⟨hj0,hj1⟩:=hT.inn (k:=(j:Int)) (by omega) ‹_›
     have hwi:=j8 hle (gI ((ag g w9).1) (j:Int))
     have hwo:=j8 hle (out:Int)
     refine al (a7 (ao (a7 (a6 rfl (mz zs20 (mv (vb tk) ?_))))))
     by_cases q138:tk=true
     ·
      refine ad (wn q138) (ad (wn q138) (ad (wn q138) (ad (wn q138) (ad (wn q138) (ad (wn q138) (lw (vb true) (aA rfl q138 rfl) (ma (vb true) (a8 (a7 (bS g76 rfl dF (by kernel_rfl) ?_))))))))))
      intro w78 ch77
      refine qz zs5 (qz zs7 (qz zs21 ?_))
      replace o31:=o31.cn ch77
      refine qx (λw' hw'=>aa (v:=v30) (i:=↑j) bI rfl rfl (o31.flat.bel hw') rfl (by omega) (by omega)) (qx (λw' hw'=>au (v:=v30) (i:=↑j) av rfl (o31.flat.bel hw') (by omega) (by omega) (by decide) rfl) ?_)
      replace o_w9:=o_w9.cn ch77
      refine qx (λw' hw'=>aa (v:=w9_v) (i:=(gI ((ag g w9).1) (j:Int))) eD rfl rfl (o_w9.flat.bel hw') rfl (by omega) (by omega)) (qx (λw' hw'=>au (v:=w9_v) (i:=(gI ((ag g w9).1) (j:Int))) aT rfl (o_w9.flat.bel hw') (by omega) (by omega) (by decide) rfl) (qz zs5 (qz zs18 (qx (λw' hw'=>aa (v:=w9_v) (i:=↑out) eD rfl rfl (o_w9.flat.bel hw') rfl (by omega) (by omega)) (qx (λw' hw'=>au (v:=w9_v) (i:=↑out) aT rfl (o_w9.flat.bel hw') (by omega) (by omega) (by decide) rfl) (qv (vb (decide ((gI w9 (gI ((ag g w9).1) (j:Int)))<=(gI w9 ↑out)))) (λw' hw'=>mF (a:=(gI w9 (gI ((ag g w9).1) (j:Int)))) (b:=(gI w9 ↑out)) rfl rfl ‹_› ‹_›) (cX ?_)))))))
      intro w79 hc80
      replace hc80:=ax hc80 g76
      by_cases p34:(gI w9 (gI ((ag g w9).1) (j:Int)))<=(gI w9 ↑out)
      ·
       refine ae rfl (dt p34) (a6 rfl (mz zs19 (mz zs7 (mz zs21 ?_))))
       replace o31:=o31.cn hc80
       refine lx (aa (v:=v30) (i:=↑j) bI rfl rfl o31.flat rfl (by omega) (by omega)) (lx (au (v:=v30) (i:=↑j) av rfl o31.flat (by omega) (by omega) (by decide) rfl) (lo (aI (α:=Int) g76 (is 9) (is 9) (9,0) rfl ([(gI ((ag g w9).1) (j:Int))]:List Int) bI av (by decide) (by decide) (vs:=[(0,vi (gI ((ag g w9).1) (j:Int)))]) rfl rfl (.cons rfl .nil) ?_)))
       intro g81 w82 v83 ch84 o85
       refine lo ?_
       have C86:=cg [] (ch77.n.seq (hc80.n.seq ch84.n))
       replace o_light:=o_light.ca C86
       refine bG (α:=Int) (xs:=light) (ys:=([(gI ((ag g w9).1) (j:Int))]:List Int)) g81 (J:=is 10) (S:=is 10) (10,0) rfl bI av (by decide) rfl rfl rfl o_light o85.flat (by decide) (by(simp;omega)) ?_
       intro g87 w88 v89 ch90 o91
       clear o_light
       refine ma v89 (a8 (ar ?_))
       clear o85
       refine a6 rfl (mz zs21 (lx (bg (m:=↑j) (n:=1) rfl rfl (by omega)) (ai ((j:Int)+1) (a8 ?_))))
       have C93:=cg [10] (hc80.n.seq (ch84.n.seq (ch90.l rfl)))
       have C92:=ch77.n.seq C93
       refine back31 (v89,(light++([(gI ((ag g w9).1) (j:Int))]:List Int)),true,j+1,g87) _ _ ⟨bH.ca C92,zs2,zs5,zs7,zs18,rfl,rfl,rfl,Rg.ca C92,Rws.ca C92,bx5.ca C92,o_w9.ca C93,(o31.cn ch84).ce ch90,o91,by omega,?_⟩ ?_
       · show jC ((ag g w9).1) (out:Int) true (j+1)/\(light++([(gI ((ag g w9).1) (j:Int))]:List Int))=ec w9 ((ag g w9).1) (out:Int) (j+1)
         exact⟨(by exact ph hlt.1 ‹_› ‹_› rfl),(by exact ku hlt.2 ‹_› ‹_›)⟩
       · show Int.toNat (((List.length ((ag g w9).1):Int):Int)-((j+1):Int))<Int.toNat (((List.length ((ag g w9).1):Int):Int)-(j:Int))
         omega
      refine af rfl (df p34) (al (ar (a6 rfl (mz zs21 (lx (bg (m:=↑j) (n:=1) rfl rfl (by omega)) (ai ((j:Int)+1) (a8 ?_)))))))
      replace bH:=bH.cn ch77
      refine back31 (light_v,light,true,j+1,g76) _ _ ⟨bH.cn hc80,zs2,zs5,zs7,zs18,zs19,rfl,rfl,(Rg.cn ch77).cn hc80,(Rws.cn ch77).cn hc80,(bx5.cn ch77).cn hc80,o_w9.cn hc80,o31.cn hc80,(o_light.cn ch77).cn hc80,by omega,?_⟩ ?_
      · show jC ((ag g w9).1) (out:Int) true (j+1)/\light=ec w9 ((ag g w9).1) (out:Int) (j+1)
        exact⟨(by exact ph hlt.1 ‹_› ‹_› rfl),(by exact me hlt.2 ‹_› ‹_›)⟩
      · show Int.toNat (((List.length ((ag g w9).1):Int):Int)-((j+1):Int))<Int.toNat (((List.length ((ag g w9).1):Int):Int)-(j:Int))
        omega
     refine lv (v30) (wy (Bool.eq_false_iff.2 q138)) (am zs7) (lv (vi ↑j) (wy (Bool.eq_false_iff.2 q138)) (am zs21) (lv (Value.pointer (some (aC v30 1 (Int.toNat ↑j)))) (wy (Bool.eq_false_iff.2 q138)) (aa (α:=Int) (xs:=(ag g w9).1) (v:=v30) (i:=↑j) bI rfl rfl o31.flat rfl (by omega) (by omega)) (lv (vi (gI ((ag g w9).1) (j:Int))) (wy (Bool.eq_false_iff.2 q138)) (au (α:=Int) (xs:=(ag g w9).1) (v:=v30) (i:=↑j) av rfl o31.flat (by omega) (by omega) (by decide) rfl) (lv (vi ↑out) (wy (Bool.eq_false_iff.2 q138)) (am zs18) ?_))))
     refine lv (vb (decide ((gI ((ag g w9).1) (j:Int))=(out:Int)))) (wy (Bool.eq_false_iff.2 q138)) (eh (m:=(gI ((ag g w9).1) (j:Int))) (n:=↑out) rfl rfl) (lw (vb (decide ((gI ((ag g w9).1) (j:Int))=(out:Int)))) (aH rfl (Bool.eq_false_iff.2 q138) rfl) (ma (vb (decide ((gI ((ag g w9).1) (j:Int))=(out:Int)))) (a8 (a7 (bS g76 rfl dF (by kernel_rfl) ?_)))))
     intro w95 ch94
     refine qz zs5 (qz zs7 (qz zs21 ?_))
     replace o31:=o31.cn ch94
     refine qx (λw' hw'=>aa (v:=v30) (i:=↑j) bI rfl rfl (o31.flat.bel hw') rfl (by omega) (by omega)) (qx (λw' hw'=>au (v:=v30) (i:=↑j) av rfl (o31.flat.bel hw') (by omega) (by omega) (by decide) rfl) ?_)
     replace o_w9:=o_w9.cn ch94
     refine qx (λw' hw'=>aa (v:=w9_v) (i:=(gI ((ag g w9).1) (j:Int))) eD rfl rfl (o_w9.flat.bel hw') rfl (by omega) (by omega)) (qx (λw' hw'=>au (v:=w9_v) (i:=(gI ((ag g w9).1) (j:Int))) aT rfl (o_w9.flat.bel hw') (by omega) (by omega) (by decide) rfl) (qz zs5 (qz zs18 (qx (λw' hw'=>aa (v:=w9_v) (i:=↑out) eD rfl rfl (o_w9.flat.bel hw') rfl (by omega) (by omega)) (qx (λw' hw'=>au (v:=w9_v) (i:=↑out) aT rfl (o_w9.flat.bel hw') (by omega) (by omega) (by decide) rfl) (qv (vb (decide ((gI w9 (gI ((ag g w9).1) (j:Int)))<=(gI w9 ↑out)))) (λw' hw'=>mF (a:=(gI w9 (gI ((ag g w9).1) (j:Int)))) (b:=(gI w9 ↑out)) rfl rfl ‹_› ‹_›) (cX ?_)))))))
     intro w96 hc97
     replace hc97:=ax hc97 g76
     by_cases p34:(gI w9 (gI ((ag g w9).1) (j:Int)))<=(gI w9 ↑out)
     ·
      refine ae rfl (dt p34) (a6 rfl (mz zs19 (mz zs7 (mz zs21 ?_))))
      replace o31:=o31.cn hc97
      refine lx (aa (v:=v30) (i:=↑j) bI rfl rfl o31.flat rfl (by omega) (by omega)) (lx (au (v:=v30) (i:=↑j) av rfl o31.flat (by omega) (by omega) (by decide) rfl) (lo (aI (α:=Int) g76 (is 9) (is 9) (9,0) rfl ([(gI ((ag g w9).1) (j:Int))]:List Int) bI av (by decide) (by decide) (vs:=[(0,vi (gI ((ag g w9).1) (j:Int)))]) rfl rfl (.cons rfl .nil) ?_)))
      intro g98 w99 v100 ch101 o102
      refine lo ?_
      have C103:=cg [] (ch94.n.seq (hc97.n.seq ch101.n))
      replace o_light:=o_light.ca C103
      refine bG (α:=Int) (xs:=light) (ys:=([(gI ((ag g w9).1) (j:Int))]:List Int)) g98 (J:=is 10) (S:=is 10) (10,0) rfl bI av (by decide) rfl rfl rfl o_light o102.flat (by decide) (by(simp;omega)) ?_
      intro g104 w105 v106 ch107 o108
      clear o_light
      refine ma v106 (a8 (ar ?_))
      clear o102
      refine a6 rfl (mz zs21 (lx (bg (m:=↑j) (n:=1) rfl rfl (by omega)) (ai ((j:Int)+1) (a8 ?_))))
      have C110:=cg [10] (hc97.n.seq (ch101.n.seq (ch107.l rfl)))
      have C109:=ch94.n.seq C110
      refine back31 (v106,(light++([(gI ((ag g w9).1) (j:Int))]:List Int)),decide ((gI ((ag g w9).1) (j:Int))=(out:Int)),j+1,g104) _ _ ⟨bH.ca C109,zs2,zs5,zs7,zs18,rfl,rfl,rfl,Rg.ca C109,Rws.ca C109,bx5.ca C109,o_w9.ca C110,(o31.cn ch101).ce ch107,o108,by omega,?_⟩ ?_
      · show jC ((ag g w9).1) (out:Int) (decide ((gI ((ag g w9).1) (j:Int))=(out:Int))) (j+1)/\(light++([(gI ((ag g w9).1) (j:Int))]:List Int))=ec w9 ((ag g w9).1) (out:Int) (j+1)
        exact⟨(by exact mT hlt.1 ‹_› ‹_›),(by exact ku hlt.2 ‹_› ‹_›)⟩
      · show Int.toNat (((List.length ((ag g w9).1):Int):Int)-((j+1):Int))<Int.toNat (((List.length ((ag g w9).1):Int):Int)-(j:Int))
        omega
     refine af rfl (df p34) (al (ar (a6 rfl (mz zs21 (lx (bg (m:=↑j) (n:=1) rfl rfl (by omega)) (ai ((j:Int)+1) (a8 ?_)))))))
     replace bH:=bH.cn ch94
     refine back31 (light_v,light,decide ((gI ((ag g w9).1) (j:Int))=(out:Int)),j+1,g76) _ _ ⟨bH.cn hc97,zs2,zs5,zs7,zs18,zs19,rfl,rfl,(Rg.cn ch94).cn hc97,(Rws.cn ch94).cn hc97,(bx5.cn ch94).cn hc97,o_w9.cn hc97,o31.cn hc97,(o_light.cn ch94).cn hc97,by omega,?_⟩ ?_
     · show jC ((ag g w9).1) (out:Int) (decide ((gI ((ag g w9).1) (j:Int))=(out:Int))) (j+1)/\light=ec w9 ((ag g w9).1) (out:Int) (j+1)
       exact⟨(by exact mT hlt.1 ‹_› ‹_›),(by exact me hlt.2 ‹_› ‹_›)⟩
     · show Int.toNat (((List.length ((ag g w9).1):Int):Int)-((j+1):Int))<Int.toNat (((List.length ((ag g w9).1):Int):Int)-(j:Int))
       omega
    refine af rfl (df p31) (aF rfl (a7 ?_))
    obtain⟨hSb,hSm⟩:=hT.lit hle hlt.2 ‹_›
    have hSl:=m7 hm hSm (o:=(out:Int)) (by omega) ‹_›
    obtain⟨⟨he1,he2⟩,he3,he4⟩:=hm4 _ (aU (xs:=g.2) (i:=↑out) (by omega) ‹_›)
    have hSl2:((ay (bv g light).1).1.length:Int)=g.1:=by rw[hSb];exact hSl
    refine a6 rfl (lx (aO (ds:=[vi g.1,g_v]) bm zs2 bx5 rfl rfl) (mz zs19 (lo (bk (aG (vals:=[vg [vi g.1,g_v],light_v]) Try.func30 kh kQ rfl) (kY w75 g g_v (Rg).ro light light_v (o_light.flat).ro (by exact hm)) ?_))))
    rintro⟨d112,v114⟩ w111 ⟨fr113,o115⟩
    obtain⟨g116,ch117,G116⟩:=jV g76 fr113 (λn=>if n=1 then 11 else 0)
    replace o115:=o115.gl G116 11
    refine mv (vt [vg [vi (((bv g light).1).1),v114],vi ((bv g light).2)]) (lx (b7 rfl rfl) (lx (b7 rfl rfl) (lo (bP g116 (is 12) (12,0) rfl bm ?_))))
    intro g121 w118 b120 ch119 bx122
    replace bx122:Bx g121 (is 12) w118 b120 [vi 0,vn]:=bx122
    refine lo ?_
    replace o115:=o115.cn ch119
    refine aQ (cs':=[vi (((bv g light).1).1),v114]) bm rfl rfl bx122 rfl nq (AllOne.all (.cons rfl (.cons (bD o115.flat) .nil))) rfl ?_
    intro w123 ch124 bx125
    clear bx122
    refine ai ((bv g light).2) (a8 (a7 ?_))
    clear o_light
    refine a6 rfl (lx (aO (ds:=[vi (((bv g light).1).1),v114]) bm rfl bx125 rfl rfl) ?_)
    replace o115:=o115.ce ch124
    refine lo (bk (aG (vals:=[vg [vi (((bv g light).1).1),v114],vn,vn]) Try.func31 iT iu rfl) (fK w123 ((bv g light).1) v114 (o115.flat).ro (by(rw[hSb];exact hSm))) ?_)
    rintro⟨d127,v129⟩ w126 ⟨fr128,o130⟩
    obtain⟨g131,ch132,G131⟩:=jV g121 fr128 (λn=>if n=1 then 13 else 0)
    replace o130:=o130.gl G131 13
    refine mv (vt [v129,vi ((ay ((bv g light).1)).2.1)]) (lx (b7 rfl rfl) (lx (b7 rfl rfl) (ma v129 (ai ((ay ((bv g light).1)).2.1) (a8 (a7 ?_))))))
    clear o115 bx125
    refine bS g131 rfl dF (by kernel_rfl) ?_
    intro w134 ch133
    refine qz zs20 (qx (λw' hw'=>e9 (b:=tk) rfl) (qm (vb (!tk)) ?_))
    by_cases q178:tk=true
    ·
     refine aW (wn (congrArg Bool.not q178)) (aW (wn (congrArg Bool.not q178)) (aW (wn (congrArg Bool.not q178)) (aW (wn (congrArg Bool.not q178)) (aW (wn (congrArg Bool.not q178)) (aW (wn (congrArg Bool.not q178)) (aW (wn (congrArg Bool.not q178)) (aW (wn (congrArg Bool.not q178)) (aW (wn (congrArg Bool.not q178)) (aW (wn (congrArg Bool.not q178)) ?_)))))))))
     refine aW (wn (congrArg Bool.not q178)) (aW (wn (congrArg Bool.not q178)) (aW (wn (congrArg Bool.not q178)) (aW (wn (congrArg Bool.not q178)) (aW (wn (congrArg Bool.not q178)) (aW (wn (congrArg Bool.not q178)) (aW (wn (congrArg Bool.not q178)) (aW (wn (congrArg Bool.not q178)) (aW (wn (congrArg Bool.not q178)) (qv (vb false) (λw' hw'=>aH rfl (congrArg Bool.not q178) rfl) ?_)))))))))
     refine cX ?_
     intro w135 hc136
     replace hc136:=ax hc136 g131
     refine af rfl rfl (al (ar ?_))
     clear o130
     refine a6 rfl (mz zs18 (lx (bg (m:=↑out) (n:=1) rfl rfl (by omega)) (ai ((out:Int)+1) (a8 ?_))))
     have C137:=cg [12] (ch117.n.seq (ch119.n.seq ((ch124.l rfl).seq (ch132.n.seq (ch133.n.seq hc136.n)))))
     refine back26 (out+1,g131) _ _ ⟨bH.ca C137,zs2,zs5,zs7,rfl,Rg.ca C137,Rws.ca C137,bx5.ca C137,o_w9.ca C137,o31.ca C137,by omega,?_⟩ ?_
     · show True
       trivial
     · show g.2.length-(out+1)<g.2.length-out
       omega
    refine bh (v:=v129) (wy (congrArg Bool.not (Bool.eq_false_iff.2 q178))) (λw' hw'=>am rfl) (bh (v:=vp b3 1) (wy (congrArg Bool.not (Bool.eq_false_iff.2 q178))) (λw' hw'=>aj cS rfl rfl zs2 rfl) ?_)
    have C138:=cg [12] (ch117.n.seq (ch119.n.seq ((ch124.l rfl).seq (ch132.n.seq ch133.n))))
    replace bx5:=bx5.ca C138
    refine bh (v:=g_v) (wy (congrArg Bool.not (Bool.eq_false_iff.2 q178))) (λw' hw'=>ah bw rfl (bx5.bel hw') rfl) (bh (v:=vi ↑out) (wy (congrArg Bool.not (Bool.eq_false_iff.2 q178))) (λw' hw'=>am zs18) ?_)
    replace Rg:=Rg.ca C138
    refine bh (v:=Value.pointer (some (aC g_v 2 (Int.toNat ↑out)))) (wy (congrArg Bool.not (Bool.eq_false_iff.2 q178))) (λw' hw'=>aa (α:=Pt) (xs:=g.2) (v:=g_v) (i:=↑out) eZ rfl rfl (Rg.bel hw') rfl (by omega) (by omega)) (bh (v:=Value.pointer (some ⟨(aC g_v 2 (Int.toNat ↑out)).block,(aC g_v 2 (Int.toNat ↑out)).off+0,none⟩)) (wy (congrArg Bool.not (Bool.eq_false_iff.2 q178))) (λw' hw'=>aK ik rfl rfl rfl (by decide) (by decide) rfl) (bh (v:=vi ((gI g.2 ↑out).1)) (wy (congrArg Bool.not (Bool.eq_false_iff.2 q178))) (λw' hw'=>aP (α:=Pt) (xs:=g.2) (v:=g_v) (i:=↑out) av rfl (Rg.bel hw') (by omega) (by omega) (by decide) rfl) ?_))
    replace o130:=o130.cn ch133
    refine bh (v:=Value.pointer (some (aC v129 1 (Int.toNat ((gI g.2 ↑out).1))))) (wy (congrArg Bool.not (Bool.eq_false_iff.2 q178))) (λw' hw'=>aa (α:=Int) (xs:=(ay ((bv g light).1)).1) (v:=v129) (i:=(gI g.2 ↑out).1) bI rfl rfl (o130.flat.bel hw') rfl (by omega) (by omega)) (bh (v:=vi (gI ((ay ((bv g light).1)).1) ((gI g.2 ↑out).1))) (wy (congrArg Bool.not (Bool.eq_false_iff.2 q178))) (λw' hw'=>au (α:=Int) (xs:=(ay ((bv g light).1)).1) (v:=v129) (i:=(gI g.2 ↑out).1) av rfl (o130.flat.bel hw') (by omega) (by omega) (by decide) rfl) (bh (v:=v129) (wy (congrArg Bool.not (Bool.eq_false_iff.2 q178))) (λw' hw'=>am rfl) ?_))
    refine bh (v:=vp b3 1) (wy (congrArg Bool.not (Bool.eq_false_iff.2 q178))) (λw' hw'=>aj cS rfl rfl zs2 rfl) (bh (v:=g_v) (wy (congrArg Bool.not (Bool.eq_false_iff.2 q178))) (λw' hw'=>ah bw rfl (bx5.bel hw') rfl) (bh (v:=vi ↑out) (wy (congrArg Bool.not (Bool.eq_false_iff.2 q178))) (λw' hw'=>am zs18) (bh (v:=Value.pointer (some (aC g_v 2 (Int.toNat ↑out)))) (wy (congrArg Bool.not (Bool.eq_false_iff.2 q178))) (λw' hw'=>aa (α:=Pt) (xs:=g.2) (v:=g_v) (i:=↑out) eZ rfl rfl (Rg.bel hw') rfl (by omega) (by omega)) ?_)))
    refine bh (v:=Value.pointer (some ⟨(aC g_v 2 (Int.toNat ↑out)).block,(aC g_v 2 (Int.toNat ↑out)).off+1,none⟩)) (wy (congrArg Bool.not (Bool.eq_false_iff.2 q178))) (λw' hw'=>aK ik rfl rfl rfl (by decide) (by decide) rfl) (bh (v:=vi ((gI g.2 ↑out).2)) (wy (congrArg Bool.not (Bool.eq_false_iff.2 q178))) (λw' hw'=>aP (α:=Pt) (xs:=g.2) (v:=g_v) (i:=↑out) av rfl (Rg.bel hw') (by omega) (by omega) (by decide) rfl) ?_)
    refine bh (v:=Value.pointer (some (aC v129 1 (Int.toNat ((gI g.2 ↑out).2))))) (wy (congrArg Bool.not (Bool.eq_false_iff.2 q178))) (λw' hw'=>aa (α:=Int) (xs:=(ay ((bv g light).1)).1) (v:=v129) (i:=(gI g.2 ↑out).2) bI rfl rfl (o130.flat.bel hw') rfl (by omega) (by omega)) (bh (v:=vi (gI ((ay ((bv g light).1)).1) ((gI g.2 ↑out).2))) (wy (congrArg Bool.not (Bool.eq_false_iff.2 q178))) (λw' hw'=>au (α:=Int) (xs:=(ay ((bv g light).1)).1) (v:=v129) (i:=(gI g.2 ↑out).2) av rfl (o130.flat.bel hw') (by omega) (by omega) (by decide) rfl) ?_)
    refine bh (v:=vb (!(decide ((gI ((ay ((bv g light).1)).1) ((gI g.2 ↑out).1))=(gI ((ay ((bv g light).1)).1) ((gI g.2 ↑out).2)))))) (wy (congrArg Bool.not (Bool.eq_false_iff.2 q178))) (λw' hw'=>cM (m:=(gI ((ay ((bv g light).1)).1) ((gI g.2 ↑out).1))) (n:=(gI ((ay ((bv g light).1)).1) ((gI g.2 ↑out).2))) rfl rfl) (qv (vb (!(decide ((gI ((ay ((bv g light).1)).1) ((gI g.2 ↑out).1))=(gI ((ay ((bv g light).1)).1) ((gI g.2 ↑out).2)))))) (λw' hw'=>aA rfl (congrArg Bool.not (Bool.eq_false_iff.2 q178)) rfl) (cX ?_))
    intro w139 hc140
    replace hc140:=ax hc140 g131
    have p38:(gI ((ay ((bv g light).1)).1) ((gI g.2 ↑out).1))=(gI ((ay ((bv g light).1)).1) ((gI g.2 ↑out).2)):=by(rw[hSb];exact hT.alike hle hlt.2 ‹_› hlt.1 ‹_› (by omega) ‹_›)
    refine af rfl (congrArg Bool.not (dt p38)) (al (ar ?_))
    clear o130
    refine a6 rfl (mz zs18 (lx (bg (m:=↑out) (n:=1) rfl rfl (by omega)) (ai ((out:Int)+1) (a8 ?_))))
    have C141:=cg [12] (ch117.n.seq (ch119.n.seq ((ch124.l rfl).seq (ch132.n.seq (ch133.n.seq hc140.n)))))
    refine back26 (out+1,g131) _ _ ⟨bH.ca C141,zs2,zs5,zs7,rfl,Rg.cn hc140,Rws.ca C141,bx5.cn hc140,o_w9.ca C141,o31.ca C141,by omega,?_⟩ ?_
    · show True
      trivial
    · show g.2.length-(out+1)<g.2.length-out
      omega
   refine af rfl (df p26) (aF rfl (a7 ?_))
   clear bx5 o_w9 o31
   refine a6 rfl (ma (vb true) (a8 (aq (vs:=[vb true]) Try.func6 (.tmp rfl .nil) ?_)))
   have e0:(true:Bool)=(true):=by
     rfl
   exact⟨rb e0,bH.below⟩
  refine ad (wn (congrArg Bool.not (df q39))) (ad (wn (congrArg Bool.not (df q39))) (ad (wn (congrArg Bool.not (df q39))) (ad (wn (congrArg Bool.not (df q39))) (lw (vb true) (aA rfl (congrArg Bool.not (df q39)) rfl) (mv (vb true) (ad (wn rfl) (ad (wn rfl) (ad (wn rfl) (lw (vb true) (aA rfl rfl rfl) (a8 (ae rfl rfl ?_)))))))))))
  refine a7 ?_
  clear bx5
  refine a6 rfl (ma (vb true) (a8 (aq (vs:=[vb true]) Try.func6 (.tmp rfl .nil) ?_)))
  have e0:(true:Bool)=(true):=by
    rfl
  replace bH:=bH.ca C10
  exact⟨rb e0,bH.below⟩
 refine ad (wn (congrArg Bool.not (Bool.eq_false_iff.2 q31))) (ad (wn (congrArg Bool.not (Bool.eq_false_iff.2 q31))) (ad (wn (congrArg Bool.not (Bool.eq_false_iff.2 q31))) (ad (wn (congrArg Bool.not (Bool.eq_false_iff.2 q31))) (ad (wn (congrArg Bool.not (Bool.eq_false_iff.2 q31))) (ad (wn (congrArg Bool.not (Bool.eq_false_iff.2 q31))) (lw (vb true) (aA rfl (congrArg Bool.not (Bool.eq_false_iff.2 q31)) rfl) (mv (vb true) (ad (wn rfl) (ad (wn rfl) (ad (wn rfl) (ad (wn rfl) (lw (vb true) (aA rfl rfl rfl) ?_))))))))))))
 refine mv (vb true) (ad (wn rfl) (ad (wn rfl) (ad (wn rfl) (lw (vb true) (aA rfl rfl rfl) (a8 (ae rfl rfl (a7 ?_)))))))
 clear bx5
 refine a6 rfl (ma (vb true) (a8 (aq (vs:=[vb true]) Try.func6 (.tmp rfl .nil) ?_)))
 have e0:(true:Bool)=(true):=by
   rfl
 have C142:=cg [] (ch2.n.seq (hb7.n.seq hb9.n))
 replace bH:=bH.ca C142
 exact⟨rb e0,bH.below⟩
end TL
