import Derived.Test.YtbadiajeohbpcaaGreatTlP3
import Derived.Test.YtbadiajeohbpcaaGreatTlGmA
import Derived.Test.YtbadiajeohbpcaaGreatTlGmM
import Derived.Test.YtbadiajeohbpcaaGreatProg
import Derived.Test.YtbadiajeohbpcaaGreatTlAli
set_option linter.all false
set_option maxRecDepth 20000
namespace TL
open Go Go.Proofs
theorem lq:Tryz.prog.follows .mixedOrders=true:=by kernel_rfl
theorem y5:Tryz.f99.body.isNone=false:=rfl
theorem x6:(Tryz.f99.name== "runtime.NumGoroutine")=false:=by decide+kernel
theorem sO(w0:World)(ps:List Pt)(ps_v:Value)(hps_v:Ro w0 ps_v ps):
    Calls Tryz.prog 99 #[ps_v] w0 (λee w=>ee= .returned (vb (decide (cO ps)))/\cE w0.heap.size w0 w):=by
 refine au Tryz.func99 rfl nq ?_
 have bH:=aT.start w0
 have Rps:=hps_v.sl
 refine a7 (a6 rfl (ma (vb false) (aa (a7 (bz c0 rfl lq (by kernel_rfl) ?_)))))
 intro w2 ch1
 refine qm ps_v ?_
 replace Rps:=Rps.cn ch1
 have len3:=(Rps).small
 refine qx (λw' hw'=>aQ bS rfl (Rps.bel hw')) (qx (λw' hw'=>fN (m:=(ps.length:Int)) (n:=4) rfl rfl) (qm (vb (decide (4<=(ps.length:Int)))) ?_))
 by_cases q6:4<=(ps.length:Int)
 ·
  refine aH (v:=ps_v) (wy (dt q6)) (λw' hw'=>aq rfl) (aH (v:=Value.pointer (some (aR ps_v 2 (Int.toNat 0)))) (wy (dt q6)) (λw' hw'=>ad (α:=Pt) (xs:=ps) (v:=ps_v) (i:=0) bS rfl rfl (Rps.bel hw') rfl (by omega) (by omega)) (aH (v:=vg [vi ((gI ps 0).1),vi ((gI ps 0).2)]) (wy (dt q6)) (λw' hw'=>aF (α:=Pt) (xs:=ps) (v:=ps_v) (i:=0) ah rfl (Rps.bel hw') (by omega) (by omega) rfl) (aH (v:=ps_v) (wy (dt q6)) (λw' hw'=>aq rfl) (aH (v:=ps_v) (wy (dt q6)) (λw' hw'=>aq rfl) ?_))))
  refine aH (v:=vi (ps.length:Int)) (wy (dt q6)) (λw' hw'=>aQ bS rfl (Rps.bel hw')) (aH (v:=vi ((ps.length:Int)-1)) (wy (dt q6)) (λw' hw'=>c3 (m:=(ps.length:Int)) (n:=1) rfl rfl (by omega)) (aH (v:=Value.pointer (some (aR ps_v 2 (Int.toNat ((ps.length:Int)-1))))) (wy (dt q6)) (λw' hw'=>ad (α:=Pt) (xs:=ps) (v:=ps_v) (i:=(ps.length:Int)-1) bS rfl rfl (Rps.bel hw') rfl (by omega) (by omega)) ?_))
  refine aH (v:=vg [vi ((gI ps ((ps.length:Int)-1)).1),vi ((gI ps ((ps.length:Int)-1)).2)]) (wy (dt q6)) (λw' hw'=>aF (α:=Pt) (xs:=ps) (v:=ps_v) (i:=(ps.length:Int)-1) ah rfl (Rps.bel hw') (by omega) (by omega) rfl) ?_
  refine aH (v:=vb (decide ((gI ps 0)=(gI ps ((ps.length:Int)-1))))) (wy (dt q6)) (λw' hw'=>dh (bs:=[decide (((gI ps 0).1)=((gI ps ((ps.length:Int)-1)).1)),decide (((gI ps 0).2)=((gI ps ((ps.length:Int)-1)).2))]) cj (by kernel_rfl) (by kernel_rfl) rfl rfl (.cons (by decide+kernel) az rfl rfl (.int U3) (.cons (by decide+kernel) az rfl rfl (.int U3) .nil)) (by simp[Prod.ext_iff,Bool.decide_and,Bool.and_assoc])) (qv (vb (decide ((gI ps 0)=(gI ps ((ps.length:Int)-1))))) (λw' hw'=>aD rfl (dt q6) rfl) (qv (vb (decide ((gI ps 0)=(gI ps ((ps.length:Int)-1))))) (λw' hw'=>br rfl) (bN ?_)))
  intro w4 hc5
  replace hc5:=ao hc5 c0
  refine ar (vs:=[vb (decide ((gI ps 0)=(gI ps ((ps.length:Int)-1))))]) Tryz.func99 (.tmp rfl .nil) ?_
  have e0:(decide ((gI ps 0)=(gI ps ((ps.length:Int)-1))):Bool)=(decide (cO ps)):=by
    (rw[decide_eq_decide];exact⟨λh=>⟨by assumption,h⟩,λh=>h.2⟩)
  replace bH:=bH.cn ch1
  replace bH:=bH.cn hc5
  exact⟨(congrArg (a₁:=decide ((gI ps 0)=(gI ps ((ps.length:Int)-1)))) (λ(z0:Bool)=>Ending.returned (vb z0)) e0),bH.below⟩
 refine av (wn (df q6)) (av (wn (df q6)) (av (wn (df q6)) (av (wn (df q6)) (av (wn (df q6)) (av (wn (df q6)) (av (wn (df q6)) (av (wn (df q6)) (av (wn (df q6)) (av (wn (df q6)) ?_)))))))))
 refine qv (vb false) (λw' hw'=>aB rfl (df q6) rfl) (qv (vb false) (λw' hw'=>br rfl) (bN ?_))
 intro w6 hc7
 replace hc7:=ao hc7 c0
 refine ar (vs:=[vb false]) Tryz.func99 (.tmp rfl .nil) ?_
 have e0:(false:Bool)=(decide (cO ps)):=by
   exact(df (λh=>absurd h.1 ‹_›)).symm
 replace bH:=bH.cn ch1
 replace bH:=bH.cn hc7
 exact⟨rb e0,bH.below⟩
set_option maxHeartbeats 2000000 in
theorem tc(w0:World)(ps:List Pt)(ps_v:Value)(hps_v:Ro w0 ps_v ps)(hlen:(ps.length:Int)<=1000000):
    Calls Tryz.prog 83 #[ps_v] w0 (λee w=>ee= .returned (vt [vb ((ex ps).1),vi ((ex ps).2)])/\cE w0.heap.size w0 w):=by
 refine au Tryz.func83 rfl nq ?_
 have bH:=aT.start w0
 have Rps:=hps_v.sl
 refine a7 (a6 rfl (ma (vb false) (ai 0 (aa (a7 (a7 (a6 rfl (mv ps_v ?_))))))))
 have len1:=(Rps).small
 refine lx (aQ bS rfl Rps) (lx (c7 (m:=(ps.length:Int)) (n:=0) rfl rfl) (mv (vb (decide ((ps.length:Int)=0))) ?_))
 by_cases q12:(ps.length:Int)=0
 ·
  refine ae (wn (dt q12)) (ae (wn (dt q12)) (ae (wn (dt q12)) (lw (vb true) (aD rfl (dt q12) rfl) (aa (af rfl rfl (a7 (a6 rfl (ma (vb false) (ai 1 (aa ?_))))))))))
  refine ar (vs:=[vb false,vi 1]) Tryz.func83 (.tmp rfl (.tmp rfl .nil)) ?_
  have e0:(false:Bool)=((ex ps).1):=by
    rw[kb (.inl ‹_›)]
  have e1:(1:Int)=((ex ps).2):=by
    rw[kb (.inl ‹_›)]
  exact⟨(bR (a:=false) (b:=1) (λ(z0:Bool) (z1:Int)=>Ending.returned (vt [vb z0,vi z1])) e0 e1),bH.below⟩
 refine lv (ps_v) (wy (df q12)) (aq rfl) (bW (wy (df q12)) (aO (v:=vb (decide (dy ps))) (aA (vals:=[ps_v]) Tryz.func62 fT fP rfl) (fO w0 ps ps_v (Rps).ro) ?_))
 intro w2 hb3
 replace hb3:=ao hb3 c0
 refine lv (vb (!(decide (dy ps)))) (wy (df q12)) (bZ (b:=(decide (dy ps))) rfl) (lw (vb (!(decide (dy ps)))) (aB rfl (df q12) rfl) (aa ?_))
 by_cases p1:(decide (dy ps))=true
 ·
  have hok:=of_decide_eq_true p1
  obtain⟨hl1,hl2⟩:=of_decide_eq_true p1
  refine ag rfl (congrArg Bool.not p1) (ak (a7 (a6 rfl (mv ps_v ?_))))
  replace Rps:=Rps.cn hb3
  refine lx (aQ bS rfl Rps) (lx (c3 (m:=(ps.length:Int)) (n:=2) rfl rfl (by omega)) (ai ((ps.length:Int)-2) (aa (a7 (a7 (a6 rfl (ai 0 (aa (am ?_)))))))))
  refine aN (σ:=Nat×aK) (λ⟨i,gq⟩ f w=>aT w0 gq w/\f 0=ps_v/\f 4=vi ((ps.length:Int)-2)/\f 5=vi ↑i/\Sl gq (is 0) w ps_v ps/\(∀j:Nat,j<i->sK ps j)) (λ⟨i,gq⟩=>List.length ps-i) (0,c0) ?_ ?_
  · exact⟨bH.cn hb3,rfl,rfl,rfl,Rps,by intro j hj;omega⟩
  clear Rps bH
  rintro⟨i,g6⟩ f4 w5 ⟨bH,zs0,zs4,zs5,Rps,hinv⟩ back5
  refine a7 (a7 (a6 rfl (mz zs5 (mz zs4 (lx (gB (m:=↑i) (n:=(ps.length:Int)-2) rfl rfl) (aa ?_))))))
  by_cases p5:(i:Int)<=((ps.length:Int)-2)
  ·
   refine af rfl (dt p5) (ak (a7 (am (a7 (a7 (bz g6 rfl lq (by kernel_rfl) ?_))))))
   intro w8 ch7
   refine qz zs0 (qz zs5 ?_)
   replace Rps:=Rps.cn ch7
   refine qx (λw' hw'=>ad (v:=ps_v) (i:=↑i) bS rfl rfl (Rps.bel hw') rfl (by omega) (by omega)) (qv (vg [vi ((gI ps ↑i).1),vi ((gI ps ↑i).2)]) (λw' hw'=>aF (v:=ps_v) (i:=↑i) ah rfl (Rps.bel hw') (by omega) (by omega) rfl) (qz zs0 (qz zs5 (qx (λw' hw'=>aM (m:=↑i) (n:=1) rfl rfl (by omega)) (qx (λw' hw'=>ad (v:=ps_v) (i:=(i:Int)+1) bS rfl rfl (Rps.bel hw') rfl (by omega) (by omega)) (qv (vg [vi ((gI ps ((i:Int)+1)).1),vi ((gI ps ((i:Int)+1)).2)]) (λw' hw'=>aF (v:=ps_v) (i:=(i:Int)+1) ah rfl (Rps.bel hw') (by omega) (by omega) rfl) ?_))))))
   refine qv (vb (decide ((gI ps ↑i)=(gI ps ((i:Int)+1))))) (λw' hw'=>dh (bs:=[decide (((gI ps ↑i).1)=((gI ps ((i:Int)+1)).1)),decide (((gI ps ↑i).2)=((gI ps ((i:Int)+1)).2))]) cj (by kernel_rfl) (by kernel_rfl) rfl rfl (.cons (by decide+kernel) az rfl rfl (.int U3) (.cons (by decide+kernel) az rfl rfl (.int U3) .nil)) (by simp[Prod.ext_iff,Bool.decide_and,Bool.and_assoc])) (bN ?_)
   intro w9 hc10
   replace hc10:=ao hc10 g6
   by_cases p7:(gI ps ↑i)=(gI ps ((i:Int)+1))
   ·
    refine af rfl (dt p7) (a7 (a6 rfl (ma (vb false) (ai 0 (aa (ar (vs:=[vb false,vi 0]) Tryz.func83 (.tmp rfl (.tmp rfl .nil)) ?_))))))
    have e0:(false:Bool)=((ex ps).1):=by
      (rw[dO ‹_› hok];exact vD ‹_› ‹_›)
    have e1:(0:Int)=((ex ps).2):=by
      rw[dO ‹_› hok]
    replace bH:=bH.cn ch7
    replace bH:=bH.cn hc10
    exact⟨(bR (a:=false) (b:=0) (λ(z0:Bool) (z1:Int)=>Ending.returned (vt [vb z0,vi z1])) e0 e1),bH.below⟩
   refine ag rfl (df p7) (ak (a7 (a6 rfl (mz zs5 (lx (aM (m:=↑i) (n:=1) rfl rfl (by omega)) (ai ((i:Int)+1) (aa (am ?_))))))))
   refine aN (σ:=Nat×aK) (λ⟨k,gq⟩ f w=>aT w0 gq w/\f 0=ps_v/\f 4=vi ((ps.length:Int)-2)/\f 5=vi ↑i/\f 6=vi ↑k/\Sl gq (is 0) w ps_v ps/\((∀j:Nat,i<j->j<k->¬fh ps i j)/\i<k)) (λ⟨k,gq⟩=>List.length ps-k) (i+1,g6) ?_ ?_
   replace bH:=bH.cn ch7
   · exact⟨bH.cn hc10,zs0,zs4,zs5,rfl,Rps.cn hc10,by exact⟨λj h1 h2=>by omega,by omega⟩⟩
   clear Rps bH
   rintro⟨k,g13⟩ f11 w12 ⟨bH,zs0,zs4,zs5,zs6,Rps,hk⟩ back10
   refine a7 (a7 (a6 rfl (mz zs6 (mz zs4 (lx (gB (m:=↑k) (n:=(ps.length:Int)-2) rfl rfl) (aa ?_))))))
   by_cases p10:(k:Int)<=((ps.length:Int)-2)
   ·
    refine af rfl (dt p10) ?_
    have hb1:=(hl2 _ (bk (xs:=ps) (i:=↑i) (by omega) (by omega))).bd
    have hb2:=(hl2 _ (bk (xs:=ps) (i:=(i:Int)+1) (by omega) (by omega))).bd
    have hb3:=(hl2 _ (bk (xs:=ps) (i:=↑k) (by omega) (by omega))).bd
    have hb4:=(hl2 _ (bk (xs:=ps) (i:=(k:Int)+1) (by omega) (by omega))).bd
    refine ak (a7 (am (a7 (bz g13 rfl lq (by kernel_rfl) ?_))))
    intro w15 ch14
    refine qz zs0 (qz zs5 ?_)
    replace Rps:=Rps.cn ch14
    refine qx (λw' hw'=>ad (v:=ps_v) (i:=↑i) bS rfl rfl (Rps.bel hw') rfl (by omega) (by omega)) (qv (vg [vi ((gI ps ↑i).1),vi ((gI ps ↑i).2)]) (λw' hw'=>aF (v:=ps_v) (i:=↑i) ah rfl (Rps.bel hw') (by omega) (by omega) rfl) (qz zs0 (qz zs5 (qx (λw' hw'=>aM (m:=↑i) (n:=1) rfl rfl (by omega)) (qx (λw' hw'=>ad (v:=ps_v) (i:=(i:Int)+1) bS rfl rfl (Rps.bel hw') rfl (by omega) (by omega)) (qv (vg [vi ((gI ps ((i:Int)+1)).1),vi ((gI ps ((i:Int)+1)).2)]) (λw' hw'=>aF (v:=ps_v) (i:=(i:Int)+1) ah rfl (Rps.bel hw') (by omega) (by omega) rfl) (qz zs0 (qz zs6 ?_))))))))
    refine qx (λw' hw'=>ad (v:=ps_v) (i:=↑k) bS rfl rfl (Rps.bel hw') rfl (by omega) (by omega)) (qv (vg [vi ((gI ps ↑k).1),vi ((gI ps ↑k).2)]) (λw' hw'=>aF (v:=ps_v) (i:=↑k) ah rfl (Rps.bel hw') (by omega) (by omega) rfl) (qz zs0 (qz zs6 (qx (λw' hw'=>aM (m:=↑k) (n:=1) rfl rfl (by omega)) (qx (λw' hw'=>ad (v:=ps_v) (i:=(k:Int)+1) bS rfl rfl (Rps.bel hw') rfl (by omega) (by omega)) (qv (vg [vi ((gI ps ((k:Int)+1)).1),vi ((gI ps ((k:Int)+1)).2)]) (λw' hw'=>aF (v:=ps_v) (i:=(k:Int)+1) ah rfl (Rps.bel hw') (by omega) (by omega) rfl) ?_))))))
    refine cl (v:=vi (bx (gI ps ↑i) (gI ps ((i:Int)+1)) (gI ps ↑k) (gI ps ((k:Int)+1)))) rfl (λw' hw'=>aA (vals:=[vg [vi ((gI ps ↑i).1),vi ((gI ps ↑i).2)],vg [vi ((gI ps ((i:Int)+1)).1),vi ((gI ps ((i:Int)+1)).2)],vg [vi ((gI ps ↑k).1),vi ((gI ps ↑k).2)],vg [vi ((gI ps ((k:Int)+1)).1),vi ((gI ps ((k:Int)+1)).2)]]) Tryz.func98 r5 rj rfl) (λw' hw'=>(re w' (gI ps ↑i) (gI ps ((i:Int)+1)) (gI ps ↑k) (gI ps ((k:Int)+1)) ‹_› ‹_› ‹_› ‹_›).mono λe w2 h2=>⟨h2.1,hw'.trans (h2.2.mono hw'.size)⟩) ?_
    refine qv (vi (bx (gI ps ↑i) (gI ps ((i:Int)+1)) (gI ps ↑k) (gI ps ((k:Int)+1)))) (λw' hw'=>br rfl) (bN ?_)
    intro w16 hc17
    replace hc17:=ao hc17 g13
    refine a7 (a6 rfl (mz zs6 (mz zs5 (lx (aM (m:=↑i) (n:=1) rfl rfl (by omega)) (lx (c7 (m:=↑k) (n:=(i:Int)+1) rfl rfl) (mv (vb (decide ((k:Int)=((i:Int)+1)))) ?_))))))
    by_cases q65:(k:Int)=((i:Int)+1)
    ·
     refine ae (wn (dt q65)) (ae (wn (dt q65)) (ae (wn (dt q65)) (ae (aW rfl rfl rfl) (ae (aW rfl rfl rfl) (ae (aW rfl rfl rfl) (ae (wn (dt q65)) (ae (wn (dt q65)) (ae (aW rfl rfl rfl) (ae (aW rfl rfl rfl) ?_)))))))))
     refine ae (wn (dt q65)) (lw (vb true) (aD rfl (dt q65) rfl) (ma (vb true) (aa (a7 (a6 rfl (mv (vb true) (mv (vb true) (lv (vi (bx (gI ps ↑i) (gI ps ((i:Int)+1)) (gI ps ↑k) (gI ps ((k:Int)+1)))) (wy rfl) (aq rfl) (lv (vb (decide ((bx (gI ps ↑i) (gI ps ((i:Int)+1)) (gI ps ↑k) (gI ps ((k:Int)+1)))=3))) (wy rfl) (c7 (m:=bx (gI ps ↑i) (gI ps ((i:Int)+1)) (gI ps ↑k) (gI ps ((k:Int)+1))) (n:=3) rfl rfl) (lw (vb (decide ((bx (gI ps ↑i) (gI ps ((i:Int)+1)) (gI ps ↑k) (gI ps ((k:Int)+1)))=3))) (aD rfl rfl rfl) ?_))))))))))
     refine mv (vb (decide ((bx (gI ps ↑i) (gI ps ((i:Int)+1)) (gI ps ↑k) (gI ps ((k:Int)+1)))=3))) ?_
     by_cases q83:(bx (gI ps ↑i) (gI ps ((i:Int)+1)) (gI ps ↑k) (gI ps ((k:Int)+1)))=3
     ·
      refine ae (wn (dt q83)) (ae (wn (dt q83)) (ae (wn (dt q83)) (ae (aW rfl rfl rfl) (ae (aW rfl rfl rfl) (ae (wn (dt q83)) (lw (vb true) (aD rfl (dt q83) rfl) (aa (af rfl rfl (a7 (a6 rfl ?_))))))))))
      refine ma (vb false) (ai 0 (aa (ar (vs:=[vb false,vi 0]) Tryz.func83 (.tmp rfl (.tmp rfl .nil)) ?_)))
      have e0:(false:Bool)=((ex ps).1):=by
        (rw[dO ‹_› hok];exact dZ (k:=k) ‹_› ‹_› hk.2 (by exact Ax (by exact jm ‹_›) ‹_›))
      have e1:(0:Int)=((ex ps).2):=by
        rw[dO ‹_› hok]
      replace bH:=bH.cn ch14
      replace bH:=bH.cn hc17
      exact⟨(bR (a:=false) (b:=0) (λ(z0:Bool) (z1:Int)=>Ending.returned (vt [vb z0,vi z1])) e0 e1),bH.below⟩
     refine lv (vb true) (wy (df q83)) (aq rfl) (lv (vb false) (wy (df q83)) (bZ (b:=true) rfl) (lv (vb false) (wy (df q83)) (aq rfl) (ae (wn rfl) (ae (wn rfl) (lv (vb false) (wy (df q83)) (aB rfl rfl rfl) (lw (vb false) (aB rfl (df q83) rfl) (aa (ag rfl rfl (ak (al ?_))))))))))
     refine a6 rfl (mz zs6 (lx (aM (m:=↑k) (n:=1) rfl rfl (by omega)) (ai ((k:Int)+1) (aa ?_))))
     replace bH:=bH.cn ch14
     refine back10 (k+1,g13) _ _ ⟨bH.cn hc17,zs0,zs4,zs5,rfl,Rps.cn hc17,?_⟩ ?_
     · show(∀j:Nat,i<j->j<(k+1)->¬fh ps i j)/\i<(k+1)
       refine⟨λj h1 h2=>?_,by omega⟩
       by_cases e0:j=k
       · subst e0
         exact uE (by exact jm ‹_›) ‹_›
       · exact hk.1 j h1 (by omega)
     · show List.length ps-(k+1)<List.length ps-k
       omega
    refine lv (vi ↑i) (wy (df q65)) (aq zs5) (lv (vb (decide ((i:Int)=0))) (wy (df q65)) (c7 (m:=↑i) (n:=0) rfl rfl) (lv (vb (decide ((i:Int)=0))) (wy (df q65)) (aq rfl) ?_))
    by_cases q68:(i:Int)=0
    ·
     refine lv (vi ↑k) (wy (dt q68)) (aq zs6) (lv (vi ((ps.length:Int)-2)) (wy (dt q68)) (aq zs4) (lv (vb (decide ((k:Int)=((ps.length:Int)-2)))) (wy (dt q68)) (c7 (m:=↑k) (n:=(ps.length:Int)-2) rfl rfl) (lv (vb (decide ((k:Int)=((ps.length:Int)-2)))) (wy (df q65)) (aD rfl (dt q68) rfl) (lv (vb (decide ((k:Int)=((ps.length:Int)-2)))) (wy (df q65)) (aq rfl) ?_))))
     by_cases q73:(k:Int)=((ps.length:Int)-2)
     ·
      refine lv (ps_v) (wy (dt q73)) (aq zs0) ?_
      replace Rps:=Rps.cn hc17
      refine bW (wy (dt q73)) (aO (v:=vb (decide (cO ps))) (aA (vals:=[ps_v]) Tryz.func99 y5 x6 rfl) (sO w16 ps ps_v (Rps).ro) ?_)
      intro w18 hb19
      replace hb19:=ao hb19 g13
      refine lv (vb (decide (cO ps))) (wy (df q65)) (aD rfl (dt q73) rfl) (lw (vb (decide (cO ps))) (aB rfl (df q65) rfl) (ma (vb (decide (cO ps))) (aa (a7 (a6 rfl (mv (vb (decide (cO ps))) (mv (vb (decide (cO ps))) ?_)))))))
      by_cases q79:(decide (cO ps))=true
      ·
       refine lv (vi (bx (gI ps ↑i) (gI ps ((i:Int)+1)) (gI ps ↑k) (gI ps ((k:Int)+1)))) (wy q79) (aq rfl) (lv (vb (decide ((bx (gI ps ↑i) (gI ps ((i:Int)+1)) (gI ps ↑k) (gI ps ((k:Int)+1)))=3))) (wy q79) (c7 (m:=bx (gI ps ↑i) (gI ps ((i:Int)+1)) (gI ps ↑k) (gI ps ((k:Int)+1))) (n:=3) rfl rfl) (lw (vb (decide ((bx (gI ps ↑i) (gI ps ((i:Int)+1)) (gI ps ↑k) (gI ps ((k:Int)+1)))=3))) (aD rfl q79 rfl) (mv (vb (decide ((bx (gI ps ↑i) (gI ps ((i:Int)+1)) (gI ps ↑k) (gI ps ((k:Int)+1)))=3))) ?_)))
       by_cases q83:(bx (gI ps ↑i) (gI ps ((i:Int)+1)) (gI ps ↑k) (gI ps ((k:Int)+1)))=3
       ·
        refine ae (wn (dt q83)) (ae (wn (dt q83)) (ae (wn (dt q83)) (ae (aW rfl rfl rfl) (ae (aW rfl rfl rfl) (ae (wn (dt q83)) (lw (vb true) (aD rfl (dt q83) rfl) (aa (af rfl rfl (a7 (a6 rfl ?_))))))))))
        refine ma (vb false) (ai 0 (aa (ar (vs:=[vb false,vi 0]) Tryz.func83 (.tmp rfl (.tmp rfl .nil)) ?_)))
        have e0:(false:Bool)=((ex ps).1):=by
          (rw[dO ‹_› hok];exact dZ (k:=k) ‹_› ‹_› hk.2 (by exact Ax (by exact yR ‹_› ‹_› ‹_›) ‹_›))
        have e1:(0:Int)=((ex ps).2):=by
          rw[dO ‹_› hok]
        have C20:=cg [] (ch14.n.seq (hc17.n.seq hb19.n))
        replace bH:=bH.ca C20
        exact⟨(bR (a:=false) (b:=0) (λ(z0:Bool) (z1:Int)=>Ending.returned (vt [vb z0,vi z1])) e0 e1),bH.below⟩
       refine lv (vb (decide (cO ps))) (wy (df q83)) (aq rfl) (lv (vb (!(decide (cO ps)))) (wy (df q83)) (bZ (b:=(decide (cO ps))) rfl) (lv (vb (!(decide (cO ps)))) (wy (df q83)) (aq rfl) (ae (wn (congrArg Bool.not q79)) (ae (wn (congrArg Bool.not q79)) (lv (vb false) (wy (df q83)) (aB rfl (congrArg Bool.not q79) rfl) (lw (vb false) (aB rfl (df q83) rfl) (aa (ag rfl rfl (ak ?_)))))))))
       refine al (a6 rfl (mz zs6 (lx (aM (m:=↑k) (n:=1) rfl rfl (by omega)) (ai ((k:Int)+1) (aa ?_)))))
       have C21:=cg [] (ch14.n.seq (hc17.n.seq hb19.n))
       refine back10 (k+1,g13) _ _ ⟨bH.ca C21,zs0,zs4,zs5,rfl,Rps.cn hb19,?_⟩ ?_
       · show(∀j:Nat,i<j->j<(k+1)->¬fh ps i j)/\i<(k+1)
         refine⟨λj h1 h2=>?_,by omega⟩
         by_cases e0:j=k
         · subst e0
           exact uE (by exact yR ‹_› ‹_› ‹_›) ‹_›
         · exact hk.1 j h1 (by omega)
       · show List.length ps-(k+1)<List.length ps-k
         omega
      refine ae (wn (Bool.eq_false_iff.2 q79)) (ae (wn (Bool.eq_false_iff.2 q79)) (lw (vb false) (aB rfl (Bool.eq_false_iff.2 q79) rfl) (mv (vb false) (lv (vb (decide (cO ps))) (wy rfl) (aq rfl) (lv (vb (!(decide (cO ps)))) (wy rfl) (bZ (b:=(decide (cO ps))) rfl) (lv (vb (!(decide (cO ps)))) (wy rfl) (aq rfl) (lv (vi (bx (gI ps ↑i) (gI ps ((i:Int)+1)) (gI ps ↑k) (gI ps ((k:Int)+1)))) (wy (congrArg Bool.not (Bool.eq_false_iff.2 q79))) (aq rfl) ?_)))))))
      refine lv (vb (!(decide ((bx (gI ps ↑i) (gI ps ((i:Int)+1)) (gI ps ↑k) (gI ps ((k:Int)+1)))=0)))) (wy (congrArg Bool.not (Bool.eq_false_iff.2 q79))) (c5 (m:=bx (gI ps ↑i) (gI ps ((i:Int)+1)) (gI ps ↑k) (gI ps ((k:Int)+1))) (n:=0) rfl rfl) (lv (vb (!(decide ((bx (gI ps ↑i) (gI ps ((i:Int)+1)) (gI ps ↑k) (gI ps ((k:Int)+1)))=0)))) (wy rfl) (aD rfl (congrArg Bool.not (Bool.eq_false_iff.2 q79)) rfl) (lw (vb (!(decide ((bx (gI ps ↑i) (gI ps ((i:Int)+1)) (gI ps ↑k) (gI ps ((k:Int)+1)))=0)))) (aB rfl rfl rfl) (aa ?_)))
      by_cases p14:(bx (gI ps ↑i) (gI ps ((i:Int)+1)) (gI ps ↑k) (gI ps ((k:Int)+1)))=0
      ·
       refine ag rfl (congrArg Bool.not (dt p14)) (ak (al (a6 rfl (mz zs6 (lx (aM (m:=↑k) (n:=1) rfl rfl (by omega)) (ai ((k:Int)+1) (aa ?_)))))))
       have C22:=cg [] (ch14.n.seq (hc17.n.seq hb19.n))
       refine back10 (k+1,g13) _ _ ⟨bH.ca C22,zs0,zs4,zs5,rfl,Rps.cn hb19,?_⟩ ?_
       · show(∀j:Nat,i<j->j<(k+1)->¬fh ps i j)/\i<(k+1)
         refine⟨λj h1 h2=>?_,by omega⟩
         by_cases e0:j=k
         · subst e0
           exact lM (by exact rR ‹_› ‹_›) ‹_›
         · exact hk.1 j h1 (by omega)
       · show List.length ps-(k+1)<List.length ps-k
         omega
      refine af rfl (congrArg Bool.not (df p14)) (a7 (a6 rfl (ma (vb false) (ai 0 (aa (ar (vs:=[vb false,vi 0]) Tryz.func83 (.tmp rfl (.tmp rfl .nil)) ?_))))))
      have e0:(false:Bool)=((ex ps).1):=by
        (rw[dO ‹_› hok];exact dZ (k:=k) ‹_› ‹_› hk.2 (by exact pQ (by exact rR ‹_› ‹_›) ‹_›))
      have e1:(0:Int)=((ex ps).2):=by
        rw[dO ‹_› hok]
      have C23:=cg [] (ch14.n.seq (hc17.n.seq hb19.n))
      replace bH:=bH.ca C23
      exact⟨(bR (a:=false) (b:=0) (λ(z0:Bool) (z1:Int)=>Ending.returned (vt [vb z0,vi z1])) e0 e1),bH.below⟩
     refine ae (wn (df q73)) (ae (wn (df q73)) (lv (vb false) (wy (df q65)) (aB rfl (df q73) rfl) (lw (vb false) (aB rfl (df q65) rfl) (ma (vb false) (aa (a7 (a6 rfl (mv (vb false) (mv (vb false) (ae (wn rfl) (ae (wn rfl) (lw (vb false) (aB rfl rfl rfl) ?_))))))))))))
     refine mv (vb false) (lv (vb false) (wy rfl) (aq rfl) (lv (vb true) (wy rfl) (bZ (b:=false) rfl) (lv (vb true) (wy rfl) (aq rfl) (lv (vi (bx (gI ps ↑i) (gI ps ((i:Int)+1)) (gI ps ↑k) (gI ps ((k:Int)+1)))) (wy rfl) (aq rfl) (lv (vb (!(decide ((bx (gI ps ↑i) (gI ps ((i:Int)+1)) (gI ps ↑k) (gI ps ((k:Int)+1)))=0)))) (wy rfl) (c5 (m:=bx (gI ps ↑i) (gI ps ((i:Int)+1)) (gI ps ↑k) (gI ps ((k:Int)+1))) (n:=0) rfl rfl) (lv (vb (!(decide ((bx (gI ps ↑i) (gI ps ((i:Int)+1)) (gI ps ↑k) (gI ps ((k:Int)+1)))=0)))) (wy rfl) (aD rfl rfl rfl) ?_))))))
     refine lw (vb (!(decide ((bx (gI ps ↑i) (gI ps ((i:Int)+1)) (gI ps ↑k) (gI ps ((k:Int)+1)))=0)))) (aB rfl rfl rfl) (aa ?_)
     by_cases p14:(bx (gI ps ↑i) (gI ps ((i:Int)+1)) (gI ps ↑k) (gI ps ((k:Int)+1)))=0
     ·
      refine ag rfl (congrArg Bool.not (dt p14)) (ak (al (a6 rfl (mz zs6 (lx (aM (m:=↑k) (n:=1) rfl rfl (by omega)) (ai ((k:Int)+1) (aa ?_)))))))
      replace bH:=bH.cn ch14
      refine back10 (k+1,g13) _ _ ⟨bH.cn hc17,zs0,zs4,zs5,rfl,Rps.cn hc17,?_⟩ ?_
      · show(∀j:Nat,i<j->j<(k+1)->¬fh ps i j)/\i<(k+1)
        refine⟨λj h1 h2=>?_,by omega⟩
        by_cases e0:j=k
        · subst e0
          exact lM (by exact nE ‹_› ‹_›) ‹_›
        · exact hk.1 j h1 (by omega)
      · show List.length ps-(k+1)<List.length ps-k
        omega
     refine af rfl (congrArg Bool.not (df p14)) (a7 (a6 rfl (ma (vb false) (ai 0 (aa (ar (vs:=[vb false,vi 0]) Tryz.func83 (.tmp rfl (.tmp rfl .nil)) ?_))))))
     have e0:(false:Bool)=((ex ps).1):=by
       (rw[dO ‹_› hok];exact dZ (k:=k) ‹_› ‹_› hk.2 (by exact pQ (by exact nE ‹_› ‹_›) ‹_›))
     have e1:(0:Int)=((ex ps).2):=by
       rw[dO ‹_› hok]
     replace bH:=bH.cn ch14
     replace bH:=bH.cn hc17
     exact⟨(bR (a:=false) (b:=0) (λ(z0:Bool) (z1:Int)=>Ending.returned (vt [vb z0,vi z1])) e0 e1),bH.below⟩
    refine ae (wn (df q68)) (ae (wn (df q68)) (ae (wn (df q68)) (lv (vb false) (wy (df q65)) (aB rfl (df q68) rfl) (lv (vb false) (wy (df q65)) (aq rfl) (ae (wn rfl) (ae (wn rfl) (lv (vb false) (wy (df q65)) (aB rfl rfl rfl) (lw (vb false) (aB rfl (df q65) rfl) (ma (vb false) (aa (a7 (a6 rfl ?_))))))))))))
    refine mv (vb false) (mv (vb false) (ae (wn rfl) (ae (wn rfl) (lw (vb false) (aB rfl rfl rfl) (mv (vb false) (lv (vb false) (wy rfl) (aq rfl) (lv (vb true) (wy rfl) (bZ (b:=false) rfl) (lv (vb true) (wy rfl) (aq rfl) (lv (vi (bx (gI ps ↑i) (gI ps ((i:Int)+1)) (gI ps ↑k) (gI ps ((k:Int)+1)))) (wy rfl) (aq rfl) (lv (vb (!(decide ((bx (gI ps ↑i) (gI ps ((i:Int)+1)) (gI ps ↑k) (gI ps ((k:Int)+1)))=0)))) (wy rfl) (c5 (m:=bx (gI ps ↑i) (gI ps ((i:Int)+1)) (gI ps ↑k) (gI ps ((k:Int)+1))) (n:=0) rfl rfl) ?_))))))))))
    refine lv (vb (!(decide ((bx (gI ps ↑i) (gI ps ((i:Int)+1)) (gI ps ↑k) (gI ps ((k:Int)+1)))=0)))) (wy rfl) (aD rfl rfl rfl) (lw (vb (!(decide ((bx (gI ps ↑i) (gI ps ((i:Int)+1)) (gI ps ↑k) (gI ps ((k:Int)+1)))=0)))) (aB rfl rfl rfl) (aa ?_))
    by_cases p14:(bx (gI ps ↑i) (gI ps ((i:Int)+1)) (gI ps ↑k) (gI ps ((k:Int)+1)))=0
    ·
     refine ag rfl (congrArg Bool.not (dt p14)) (ak (al (a6 rfl (mz zs6 (lx (aM (m:=↑k) (n:=1) rfl rfl (by omega)) (ai ((k:Int)+1) (aa ?_)))))))
     replace bH:=bH.cn ch14
     refine back10 (k+1,g13) _ _ ⟨bH.cn hc17,zs0,zs4,zs5,rfl,Rps.cn hc17,?_⟩ ?_
     · show(∀j:Nat,i<j->j<(k+1)->¬fh ps i j)/\i<(k+1)
       refine⟨λj h1 h2=>?_,by omega⟩
       by_cases e0:j=k
       · subst e0
         exact lM (by exact kY ‹_› ‹_›) ‹_›
       · exact hk.1 j h1 (by omega)
     · show List.length ps-(k+1)<List.length ps-k
       omega
    refine af rfl (congrArg Bool.not (df p14)) (a7 (a6 rfl (ma (vb false) (ai 0 (aa (ar (vs:=[vb false,vi 0]) Tryz.func83 (.tmp rfl (.tmp rfl .nil)) ?_))))))
    have e0:(false:Bool)=((ex ps).1):=by
      (rw[dO ‹_› hok];exact dZ (k:=k) ‹_› ‹_› hk.2 (by exact pQ (by exact kY ‹_› ‹_›) ‹_›))
    have e1:(0:Int)=((ex ps).2):=by
      rw[dO ‹_› hok]
    replace bH:=bH.cn ch14
    replace bH:=bH.cn hc17
    exact⟨(bR (a:=false) (b:=0) (λ(z0:Bool) (z1:Int)=>Ending.returned (vt [vb z0,vi z1])) e0 e1),bH.below⟩
   refine ag rfl (df p10) (aJ rfl (al (a6 rfl (mz zs5 (lx (aM (m:=↑i) (n:=1) rfl rfl (by omega)) (ai ((i:Int)+1) (aa ?_)))))))
   refine back5 (i+1,g13) _ _ ⟨bH,zs0,zs4,rfl,Rps,?_⟩ ?_
   · show∀j:Nat,j<(i+1)->sK ps j
     intro j hj
     by_cases e0:j=i
     · subst e0;exact⟨p7,λk' _ h1 h2=>hk.1 k' h1 (by omega)⟩
     · exact hinv j (by omega)
   · show List.length ps-(i+1)<List.length ps-i
     omega
  refine ag rfl (df p5) (aJ rfl (a7 (a6 rfl (ma (vb true) (ai 0 (aa (ar (vs:=[vb true,vi 0]) Tryz.func83 (.tmp rfl (.tmp rfl .nil)) ?_)))))))
  have e0:(true:Bool)=((ex ps).1):=by
    (rw[dO ‹_› hok];exact x0 hinv ‹_›)
  have e1:(0:Int)=((ex ps).2):=by
    rw[dO ‹_› hok]
  exact⟨(bR (a:=true) (b:=0) (λ(z0:Bool) (z1:Int)=>Ending.returned (vt [vb z0,vi z1])) e0 e1),bH.below⟩
 refine af rfl (congrArg Bool.not (Bool.eq_false_iff.2 p1)) (a7 (a6 rfl (ma (vb false) (ai 1 (aa (ar (vs:=[vb false,vi 1]) Tryz.func83 (.tmp rfl (.tmp rfl .nil)) ?_))))))
 have e0:(false:Bool)=((ex ps).1):=by
   rw[kb (.inr (λh=>p1 (dt h)))]
 have e1:(1:Int)=((ex ps).2):=by
   rw[kb (.inr (λh=>p1 (dt h)))]
 replace bH:=bH.cn hb3
 exact⟨(bR (a:=false) (b:=1) (λ(z0:Bool) (z1:Int)=>Ending.returned (vt [vb z0,vi z1])) e0 e1),bH.below⟩
end TL
