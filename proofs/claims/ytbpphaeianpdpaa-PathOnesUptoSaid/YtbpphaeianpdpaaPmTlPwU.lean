import Derived.Test.YtbpphaeianpdpaaPmTlP2
import Derived.Test.YtbpphaeianpdpaaPmTlGmA
import Derived.Test.YtbpphaeianpdpaaPmTlGenA
import Derived.Test.YtbpphaeianpdpaaPmTlPwA
import Derived.Test.YtbpphaeianpdpaaPmTlPwL
import Derived.Test.YtbpphaeianpdpaaPmTlPwR
import Derived.Test.YtbpphaeianpdpaaPmTlPwB
import Derived.Test.YtbpphaeianpdpaaPmTlPwX
import Derived.Test.YtbpphaeianpdpaaProg
import Derived.Test.YtbpphaeianpdpaaPmTlAli
set_option linter.all false
set_option maxRecDepth 20000
namespace TL
open Go Go.Proofs
theorem jy:Try.prog.follows .mixedOrders=true:=by kernel_rfl
theorem qU:Try.f9.body.isNone=false:=rfl
theorem qI:(Try.f9.name== "runtime.NumGoroutine")=false:=by decide+kernel
theorem nB:Try.f30.body.isNone=false:=rfl
theorem o1:(Try.f30.name== "runtime.NumGoroutine")=false:=by decide+kernel
theorem oq:Try.f58.body.isNone=false:=rfl
theorem pe:(Try.f58.name== "runtime.NumGoroutine")=false:=by decide+kernel
theorem kj(w0:World)(l:List Int)(l_v:Value)(hl_v:Ro w0 l_v l)(n:Int):
    Calls Try.prog 58 #[l_v,vi n] w0 (λee w=>ee= .returned (vi (bu l n))/\cr w0.heap.size w0 w):=by
 refine am Try.func58 rfl nq ?_
 have bH:=b7.start w0
 have Rl:=hl_v.sl
 refine a8 (a7 rfl (ai 0 (aa (a8 (a8 (a7 rfl (ai 0 (aa (aq ?_)))))))))
 refine ba (σ:=Nat×ay) (λ⟨i,gq⟩ f w=>b7 w0 gq w/\f 0=l_v/\f 1=vi n/\f 5=vi ↑i/\Sl gq (is 0) w l_v l/\(i:Int)<=((l.length:Int):Int)/\(cO l n i)) (λ⟨i,gq⟩=>Int.toNat (((l.length:Int):Int)-(i:Int))) (0,c0) ?_ ?_
 · exact⟨bH,rfl,rfl,rfl,Rl,by omega,by exact cO.start l n⟩
 clear Rl bH
 rintro⟨i,g3⟩ f1 w2 ⟨bH,zs0,zs1,zs5,Rl,hle_i,hinv⟩ back2
 refine a8 (a8 (a7 rfl (mz zs5 (mz zs0 ?_))))
 have len4:=(Rl).small
 refine lx (bA bQ rfl Rl) (lx (aX (m:=↑i) (n:=(l.length:Int)) rfl rfl) (aa ?_))
 by_cases p2:(i:Int)<(l.length:Int)
 ·
  refine ah rfl (dt p2) (ap (a8 (aq (a8 (a8 (a7 rfl (mz zs0 (mz zs5 (lx (ab (v:=l_v) (i:=↑i) bQ rfl rfl Rl rfl (by omega) (by omega)) (lx (aw (v:=l_v) (i:=↑i) ax rfl Rl (by omega) (by omega) (by decide) rfl) (lx (aX (m:=(gI l ↑i)) (n:=0) rfl rfl) ?_)))))))))))
  refine mv (vb (decide ((gI l ↑i)<0))) ?_
  by_cases q18:(gI l ↑i)<0
  ·
   refine ak (wn (dt q18)) (ak (wn (dt q18)) (ak (wn (dt q18)) (ak (wn (dt q18)) (ak (wn (dt q18)) (ak (wn (dt q18)) (lw (vb true) (aH rfl (dt q18) rfl) (aa (ah rfl rfl (a8 (a7 rfl ?_))))))))))
   refine ai 2 (aa (ar (vs:=[vi 2]) Try.func58 (.tmp rfl .nil) ?_))
   have e0:(2:Int)=(bu l n):=by
     exact hinv.bad ‹_› (by omega)
   exact⟨ri e0,bH.below⟩
  refine lv (l_v) (wy (df q18)) (al zs0) (lv (vi ↑i) (wy (df q18)) (al zs5) (lv (Value.pointer (some (aL l_v 1 (Int.toNat ↑i)))) (wy (df q18)) (ab (α:=Int) (xs:=l) (v:=l_v) (i:=↑i) bQ rfl rfl Rl rfl (by omega) (by omega)) (lv (vi (gI l ↑i)) (wy (df q18)) (aw (α:=Int) (xs:=l) (v:=l_v) (i:=↑i) ax rfl Rl (by omega) (by omega) (by decide) rfl) (lv (vi n) (wy (df q18)) (al zs1) (lv (vb (decide (n<=(gI l ↑i)))) (wy (df q18)) (d7 (m:=(gI l ↑i)) (n:=n) rfl rfl) ?_)))))
  refine lw (vb (decide (n<=(gI l ↑i)))) (aI rfl (df q18) rfl) (aa ?_)
  by_cases p4:n<=(gI l ↑i)
  ·
   refine ah rfl (dt p4) (a8 (a7 rfl (ai 2 (aa (ar (vs:=[vi 2]) Try.func58 (.tmp rfl .nil) ?_)))))
   have e0:(2:Int)=(bu l n):=by
     exact hinv.bad ‹_› (by omega)
   exact⟨ri e0,bH.below⟩
  refine aj rfl (df p4) (ap (a8 (a7 rfl (ai 0 (aa (aq ?_))))))
  refine ba (σ:=Nat×ay) (λ⟨k,gq⟩ f w=>b7 w0 gq w/\f 0=l_v/\f 1=vi n/\f 5=vi ↑i/\f 6=vi ↑k/\Sl gq (is 0) w l_v l/\(k:Int)<=((i:Int):Int)/\(∀q:Nat,q<k->¬gI l ↑q=gI l ↑i)) (λ⟨k,gq⟩=>Int.toNat (((i:Int):Int)-(k:Int))) (0,g3) ?_ ?_
  · exact⟨bH,zs0,zs1,zs5,rfl,Rl,by omega,by intro q hq;omega⟩
  clear Rl bH
  rintro⟨k,g7⟩ f5 w6 ⟨bH,zs0,zs1,zs5,zs6,Rl,hle_k,hin⟩ back7
  refine a8 (a8 (a7 rfl (mz zs6 (mz zs5 (lx (aX (m:=↑k) (n:=↑i) rfl rfl) (aa ?_))))))
  by_cases p7:(k:Int)<(i:Int)
  ·
   refine ah rfl (dt p7) (ap (a8 (aq (a8 (cd g7 rfl jy (by kernel_rfl) ?_)))))
   intro w9 ch8
   refine qz zs0 (qz zs6 ?_)
   replace Rl:=Rl.cn ch8
   refine qx (λw' hw'=>ab (v:=l_v) (i:=↑k) bQ rfl rfl (Rl.bel hw') rfl (by omega) (by omega)) (qx (λw' hw'=>aw (v:=l_v) (i:=↑k) ax rfl (Rl.bel hw') (by omega) (by omega) (by decide) rfl) (qz zs0 (qz zs5 (qx (λw' hw'=>ab (v:=l_v) (i:=↑i) bQ rfl rfl (Rl.bel hw') rfl (by omega) (by omega)) (qx (λw' hw'=>aw (v:=l_v) (i:=↑i) ax rfl (Rl.bel hw') (by omega) (by omega) (by decide) rfl) (qx (λw' hw'=>en (m:=(gI l ↑k)) (n:=(gI l ↑i)) rfl rfl) (d4 ?_)))))))
   intro w10 hc11
   replace hc11:=aA hc11 g7
   by_cases p9:(gI l ↑k)=(gI l ↑i)
   ·
    refine ah rfl (dt p9) (a8 (a7 rfl (ai 18 (aa (ar (vs:=[vi 18]) Try.func58 (.tmp rfl .nil) ?_)))))
    have e0:(18:Int)=(bu l n):=by
      exact hinv.twice ‹_› (by omega) (by omega) (by rw[<-p9];exact jp (by omega) (by omega))
    replace bH:=bH.cn ch8
    replace bH:=bH.cn hc11
    exact⟨ri e0,bH.below⟩
   refine aj rfl (df p9) (ap (au (a7 rfl (mz zs6 (lx (bg (m:=↑k) (n:=1) rfl rfl (by omega)) (ai ((k:Int)+1) (aa ?_)))))))
   replace bH:=bH.cn ch8
   refine back7 (k+1,g7) _ _ ⟨bH.cn hc11,zs0,zs1,zs5,rfl,Rl.cn hc11,by omega,?_⟩ ?_
   · show∀q:Nat,q<(k+1)->¬gI l ↑q=gI l ↑i
     intro q hq
     by_cases e:q=k
     · subst e;assumption
     · exact hin q (by omega)
   · show Int.toNat (((i:Int):Int)-((k+1):Int))<Int.toNat (((i:Int):Int)-(k:Int))
     omega
  refine aj rfl (df p7) (aO rfl (au (a7 rfl (mz zs5 (lx (bg (m:=↑i) (n:=1) rfl rfl (by omega)) (ai ((i:Int)+1) (aa ?_)))))))
  refine back2 (i+1,g7) _ _ ⟨bH,zs0,zs1,rfl,Rl,by omega,?_⟩ ?_
  · show cO l n (i+1)
    exact hinv.next ‹_› (by omega) (by omega) (λhm=>by
      obtain⟨q,hq,e⟩:=List.mem_take_iff_getElem.1 hm
      have:=hin q (by omega)
      apply this
      rw[<-e]
      simp[gI,show q<l.length by omega])
  · show Int.toNat (((l.length:Int):Int)-((i+1):Int))<Int.toNat (((l.length:Int):Int)-(i:Int))
    omega
 refine aj rfl (df p2) (aO rfl (a8 (a7 rfl (ai 0 (aa (ar (vs:=[vi 0]) Try.func58 (.tmp rfl .nil) ?_))))))
 have e0:(0:Int)=(bu l n):=by
   exact hinv.done ‹_›
 exact⟨ri e0,bH.below⟩
theorem pa(w0:World)(g:(Int)×(List Pt))(g_v:Value)(hg_v:Ro w0 g_v g.2)(keep:List Int)(keep_v:Value)(hkeep_v:Ro w0 keep_v keep)(hmay:aY g):
    Calls Try.prog 30 #[vg [vi g.1,g_v],keep_v] w0 (λee w=>∃xx:ay×Value,ee= .returned ((λ⟨δ,rv0⟩=>vt [vg [vi (((b9 g keep).1).1),rv0],vi ((b9 g keep).2)]) xx)/\(λ(⟨δ,rv0⟩:ay×Value) (w:World)=>eQ w0 δ w/\Ow δ (is 1) (is 1) w rv0 (((b9 g keep).1).2)) xx w):=by
 refine am Try.func30 rfl nq ?_
 have bH:=b7.start w0
 have Rg:=hg_v.sl
 have Rkeep:=hkeep_v.sl
 have hm0:=hmay
 obtain⟨hm1,hm2,hm3,hm4⟩:=hm0
 refine a8 (a7 rfl (d8 rfl (cW c0 (is 1) (1,0) rfl rfl ?_)))
 intro g4 w1 b3 ch2 bx5
 replace bx5:Bx g4 (is 1) w1 b3 [vi g.1,g_v]:=bx5
 refine lo (bn g4 (is 2) (2,0) rfl bv ?_)
 intro g9 w6 b8 ch7 bx10
 replace bx10:Bx g9 (is 2) w6 b8 [vi 0,vn]:=bx10
 refine ai 0 (aa (a8 (a7 rfl (mv keep_v (lx (ad d5 rfl rfl rfl rfl) ?_)))))
 replace bx5:=bx5.cn ch7
 refine lx (ae bC rfl bx5 rfl) ?_
 replace Rg:=(Rg.cn ch2).cn ch7
 have len11:=(Rg).small
 refine lx (bA eN rfl Rg) ?_
 replace Rkeep:=(Rkeep.cn ch2).cn ch7
 refine lo (bB (v:=vi (bu keep (g.2.length:Int))) (aE (vals:=[keep_v,vi (g.2.length:Int)]) Try.func58 oq pe rfl) (kj w6 keep keep_v (Rkeep).ro (g.2.length:Int)) ?_)
 intro w12 hb13
 replace hb13:=aA hb13 g9
 refine ai (bu keep (g.2.length:Int)) (aa (a8 (a8 (a7 rfl (mi (bu keep (g.2.length:Int)) (lx (cY (m:=bu keep (g.2.length:Int)) (n:=0) rfl rfl) (aa ?_)))))))
 by_cases p2:(bu keep (g.2.length:Int))=0
 ·
  have hch:=kt p2
  refine aj rfl (congrArg Bool.not (dt p2)) (ap (a8 (a7 rfl (lx (ad d5 rfl rfl rfl rfl) ?_))))
  replace bx5:=bx5.cn hb13
  refine lx (ae ax rfl bx5 rfl) (lw (vg [vi g.1,vn]) (bJ (vs:=[(0,vi g.1)]) rfl (by kernel_rfl)) (lo (bn g9 (is 3) (3,0) rfl bv ?_)))
  intro g17 w14 b16 ch15 bx18
  replace bx18:Bx g17 (is 3) w14 b16 [vi 0,vn]:=bx18
  refine lo (aG (cs':=[vi g.1,vn]) bv rfl rfl bx18 rfl nq (AllOne.all (.cons rfl (.cons rfl .nil))) rfl ?_)
  intro w19 ch20 bx21
  clear bx18
  refine aa (a8 (a8 (a7 rfl (ai 0 (aa (aq ?_))))))
  refine ba (σ:=Value×(List Pt)×Nat×ay) (λ⟨s_1_v,s_1,i,gq⟩ f w=>b7 w0 gq w/\f 1=keep_v/\f 2=vp b3 0/\f 4=vp b8 0/\f 7=vp b16 0/\f 8=vi ↑i/\Sl gq (is 0) w g_v g.2/\Sl gq (is 0) w keep_v keep/\Bx gq (is 1) w b3 [vi g.1,g_v]/\Bx gq (is 2) w b8 [vi 0,vn]/\Bx gq (is 3) w b16 [vi g.1,s_1_v]/\Ow gq (is 5) (is 5) w s_1_v s_1/\(i:Int)<=((keep.length:Int):Int)/\(s_1=(List.take i keep).map (gI g.2))) (λ⟨s_1_v,s_1,i,gq⟩=>Int.toNat (((keep.length:Int):Int)-(i:Int))) (vn,[],0,g17) ?_ ?_
  have C23:=cg [3] (hb13.n.seq (ch15.n.seq (ch20.l rfl)))
  have C22:=ch2.n.seq (ch7.n.seq C23)
  · exact⟨bH.ca C22,rfl,rfl,rfl,rfl,rfl,Rg.ca C23,Rkeep.ca C23,(bx5.cn ch15).ce ch20,bx10.ca C23,bx21,Ow.nil,by omega,by rfl⟩
  clear Rg Rkeep bx5 bx10 bx21 bH
  rintro⟨s_1_v,s_1,i,g26⟩ f24 w25 ⟨bH,zs1,zs2,zs4,zs7,zs8,Rg,Rkeep,bx5,bx10,bx21,o_s_1,hle_i,hinv⟩ back6
  have hlo:s_1.length<=i:=by rw[hinv];simp;omega
  refine a8 (a8 (a7 rfl (mz zs8 (mz zs1 ?_))))
  have len27:=(Rkeep).small
  refine lx (bA bQ rfl Rkeep) (lx (aX (m:=↑i) (n:=(keep.length:Int)) rfl rfl) (aa ?_))
  by_cases p6:(i:Int)<(keep.length:Int)
  ·
   refine ah rfl (dt p6) ?_
   obtain⟨hk1,hk2⟩:=hch.1 _ (bh (xs:=keep) (i:=↑i) (by omega) (by omega))
   refine ap (a8 (aq (bD g26 [0,1,2,3,4,5,6,7,8,9,12] jy ?_)))
   intro w29 ch28
   refine xp 0 rfl (λw=>ad d5 rfl rfl zs7 rfl) ?_
   replace bx21:=bx21.cn ch28
   refine xh 1 [0,2,4,5,3,6,7,8,9,10] rfl (λw' hw'=>ae bC rfl (bx21.bel hw') rfl) (xp 2 rfl (λw=>ad d5 rfl rfl zs2 rfl) ?_)
   replace bx5:=bx5.cn ch28
   refine xv 3 [2,1,0,4,5,6,7] rfl (ae bC rfl bx5 rfl) (xp (v:=keep_v) 4 rfl (λw=>al zs1) (xp (v:=vi ↑i) 5 rfl (λw=>al zs8) ?_))
   replace Rkeep:=Rkeep.cn ch28
   refine xv 6 [5,4,3,2,1,0] rfl (ab (v:=keep_v) (i:=↑i) bQ rfl rfl Rkeep rfl (by omega) (by omega)) (xv 7 [6,5,4,3,2,1,0] rfl (aw (v:=keep_v) (i:=↑i) ax rfl Rkeep (by omega) (by omega) (by decide) rfl) ?_)
   replace Rg:=Rg.cn ch28
   refine xv 8 [7,6,5,4,3,2,1,0] rfl (ab (v:=g_v) (i:=(gI keep ↑i)) eN rfl rfl Rg rfl (by omega) (by omega)) (xv (v:=vg [vi ((gI g.2 (gI keep ↑i)).1),vi ((gI g.2 (gI keep ↑i)).2)]) 9 [8,7,6,5,4,3,2,1,0] rfl (br (v:=g_v) (i:=(gI keep ↑i)) cB rfl Rg (by omega) (by omega) rfl) (aZ 10 rfl (by kernel_rfl) rfl (aQ (α:=Pt) g26 (is 4) (is 4) (4,0) rfl [(gI g.2 (gI keep ↑i))] eN cB (by decide) (by decide) (vs:=[(0,vg [vi ((gI g.2 (gI keep ↑i)).1),vi ((gI g.2 (gI keep ↑i)).2)])]) rfl rfl (.cons rfl .nil) ?_)))
   intro g30 w31 v32 ch33 o34
   refine aZ 11 rfl (by kernel_rfl) rfl ?_
   replace o_s_1:=(o_s_1.cn ch28).cn ch33
   refine bI (α:=Pt) (xs:=s_1) (ys:=([(gI g.2 (gI keep ↑i))])) g30 (J:=is 5) (S:=is 5) (5,0) rfl eN cB (by decide) rfl rfl rfl o_s_1 o34.flat (by decide) (by(simp;omega)) ?_
   intro g35 w36 v37 ch38 o39
   clear o_s_1
   refine xp 12 rfl (λw=>ad d5 rfl rfl zs7 rfl) (aZ 13 rfl (by kernel_rfl) rfl ?_)
   replace bx21:=(bx21.cn ch33).ce ch38
   refine dA (cs':=[vi g.1,v37]) bC rfl rfl bx21 (dj o39.flat) nq (aP o39.flat) rfl ?_
   intro w40 ch41 bx42
   clear bx21
   refine bR (by kernel_rfl) (au ?_)
   clear o34
   refine a7 rfl (mz zs8 (lx (bg (m:=↑i) (n:=1) rfl rfl (by omega)) (ai ((i:Int)+1) (aa ?_))))
   have C44:=cg [3,5] (ch33.n.seq ((ch38.l rfl).seq (ch41.l rfl)))
   have C43:=ch28.n.seq C44
   refine back6 (v37,(s_1++[(gI g.2 (gI keep ↑i))]),i+1,g35) _ _ ⟨bH.ca C43,zs1,zs2,zs4,zs7,rfl,Rg.ca C44,Rkeep.ca C44,bx5.ca C44,bx10.ca C43,bx42,o39.ce ch41,by omega,?_⟩ ?_
   · show(s_1++[(gI g.2 (gI keep ↑i))])=(List.take (i+1) keep).map (gI g.2)
     rw[cM ‹_›,hinv];simp
   · show Int.toNat (((keep.length:Int):Int)-((i+1):Int))<Int.toNat (((keep.length:Int):Int)-(i:Int))
     omega
  refine aj rfl (df p6) (aO rfl (a8 ?_))
  clear bx5
  refine a7 rfl (lx (aN (ds:=[vi g.1,s_1_v]) bv zs7 bx21 rfl rfl) (lo (aG (cs':=[vi g.1,s_1_v]) bv zs4 rfl bx10 rfl nq (AllOne.all (.cons rfl (.cons (aP o_s_1.flat) .nil))) rfl ?_)))
  intro w45 ch46 bx47
  clear bx10
  refine ai 0 (aa (ar (vs:=[vg [vi g.1,s_1_v],vi 0]) Try.func30 (.cell zs4 (cl (ds:=[vi g.1,s_1_v]) bv bx47 rfl rfl) (.tmp rfl .nil)) ?_))
  replace bH:=bH.ce ch46
  replace o_s_1:=o_s_1.ce ch46
  have e0:((g.1,s_1):(Int)×(List Pt))=((b9 g keep).1):=by
    (have hk:List.take i keep=keep:=List.take_of_length_le (by omega)
     simp only[b9,if_pos hmay,if_pos p2,hinv,hk];done)
  have e1:(0:Int)=((b9 g keep).2):=by
    (have hk:List.take i keep=keep:=List.take_of_length_le (by omega)
     simp only[b9,if_pos hmay,if_pos p2,hinv,hk];done)
  exact⟨(fin w0 g26 (λn=>if n=5 then 1 else 0),s_1_v),(c6 (a:=(g.1,s_1)) (b:=0) (λ(z0:(Int)×(List Pt)) (z1:Int)=>Ending.returned (vt [vg [vi z0.1,s_1_v],vi z1])) e0 e1),bH.fresh _,((congrArg (λ(z:(Int)×(List Pt))=>z.2) e0)▸(o_s_1.glue (γ:=c0) (ren:=(λn=>if n=5 then 1 else 0)) (k:=1) bH.col rfl rfl))⟩
 refine ah rfl (congrArg Bool.not (df p2)) (a8 ?_)
 clear bx5
 refine a7 rfl (lw (vg [vi 0,vn]) (bJ (vs:=[]) rfl (by kernel_rfl)) (mi (bu keep (g.2.length:Int)) (lo ?_)))
 replace bx10:=bx10.cn hb13
 refine aG (cs':=[vi 0,vn]) bv rfl rfl bx10 rfl nq (AllOne.all (.cons rfl (.cons rfl .nil))) rfl ?_
 intro w48 ch49 bx50
 clear bx10
 refine ai (bu keep (g.2.length:Int)) (aa (ar (vs:=[vg [vi 0,vn],vi (bu keep (g.2.length:Int))]) Try.func30 (.cell rfl (cl (ds:=[vi 0,vn]) bv bx50 rfl rfl) (.tmp rfl .nil)) ?_))
 have C51:=cg [2] (ch2.n.seq (ch7.n.seq (hb13.n.seq (ch49.l rfl))))
 replace bH:=bH.ca C51
 have e0:((0,[]):(Int)×(List Pt))=((b9 g keep).1):=by
   simp only[b9,if_pos hmay,if_neg p2]
 have e1:(bu keep (g.2.length:Int):Int)=((b9 g keep).2):=by
   simp only[b9,if_pos hmay,if_neg p2]
 exact⟨(fin w0 g9 (λn=>0),vn),(c6 (a:=(0,[])) (b:=bu keep (g.2.length:Int)) (λ(z0:(Int)×(List Pt)) (z1:Int)=>Ending.returned (vt [vg [vi z0.1,vn],vi z1])) e0 e1),bH.fresh _,((congrArg (λ(z:(Int)×(List Pt))=>z.2) e0)▸Ow.nil)⟩
end TL
