import Derived.Test.YtcblhagfadineaaJpTlP4
import Derived.Test.YtcblhagfadineaaJpTlGmA
import Derived.Test.YtcblhagfadineaaJpTlGmM
import Derived.Test.YtcblhagfadineaaProg
import Derived.Test.YtcblhagfadineaaJpTlAli
set_option linter.all false
set_option maxRecDepth 20000
namespace TL
open Go Go.Proofs
theorem lz:Try.prog.follows .mixedOrders=true:=by kernel_rfl
theorem vZ:Try.f56.body.isNone=false:=rfl
theorem wR:(Try.f56.name== "runtime.NumGoroutine")=false:=by decide+kernel
theorem rQ(w0:World)(ps:List Pt)(ps_v:Value)(hps_v:Ro w0 ps_v ps):
    Calls Try.prog 56 #[ps_v] w0 (λee w=>ee= .returned (vb (decide (c6 ps)))/\dd w0.heap.size w0 w):=by
 refine av Try.func56 rfl nq ?_
 have bH:=aX.start w0
 have Rps:=hps_v.sl
 refine aa (a8 rfl (ma (vb false) (ab (aa (cD c0 rfl lz (by kernel_rfl) ?_)))))
 intro w2 ch1
 refine qm ps_v ?_
 replace Rps:=Rps.cn ch1
 have len3:=(Rps).small
 refine qx (λw' hw'=>aT cX rfl (Rps.bel hw')) (qx (λw' hw'=>gh (m:=(ps.length:Int)) (n:=4) rfl rfl) (qm (vb (decide (4<=(ps.length:Int)))) ?_))
 by_cases q6:4<=(ps.length:Int)
 ·
  refine aW (v:=ps_v) (wy (dt q6)) (λw' hw'=>aD rfl) (aW (v:=Value.pointer (some (bu ps_v 2 (Int.toNat 0)))) (wy (dt q6)) (λw' hw'=>al (α:=Pt) (xs:=ps) (v:=ps_v) (i:=0) cX rfl rfl (Rps.bel hw') rfl (by omega) (by omega)) (aW (v:=vg [vi ((gI ps 0).1),vi ((gI ps 0).2)]) (wy (dt q6)) (λw' hw'=>aJ (α:=Pt) (xs:=ps) (v:=ps_v) (i:=0) ah rfl (Rps.bel hw') (by omega) (by omega) rfl) (aW (v:=ps_v) (wy (dt q6)) (λw' hw'=>aD rfl) (aW (v:=ps_v) (wy (dt q6)) (λw' hw'=>aD rfl) ?_))))
  refine aW (v:=vi (ps.length:Int)) (wy (dt q6)) (λw' hw'=>aT cX rfl (Rps.bel hw')) (aW (v:=vi ((ps.length:Int)-1)) (wy (dt q6)) (λw' hw'=>dD (m:=(ps.length:Int)) (n:=1) rfl rfl (by omega)) (aW (v:=Value.pointer (some (bu ps_v 2 (Int.toNat ((ps.length:Int)-1))))) (wy (dt q6)) (λw' hw'=>al (α:=Pt) (xs:=ps) (v:=ps_v) (i:=(ps.length:Int)-1) cX rfl rfl (Rps.bel hw') rfl (by omega) (by omega)) ?_))
  refine aW (v:=vg [vi ((gI ps ((ps.length:Int)-1)).1),vi ((gI ps ((ps.length:Int)-1)).2)]) (wy (dt q6)) (λw' hw'=>aJ (α:=Pt) (xs:=ps) (v:=ps_v) (i:=(ps.length:Int)-1) ah rfl (Rps.bel hw') (by omega) (by omega) rfl) ?_
  refine aW (v:=vb (decide ((gI ps 0)=(gI ps ((ps.length:Int)-1))))) (wy (dt q6)) (λw' hw'=>fE (bs:=[decide (((gI ps 0).1)=((gI ps ((ps.length:Int)-1)).1)),decide (((gI ps 0).2)=((gI ps ((ps.length:Int)-1)).2))]) dw (by kernel_rfl) (by kernel_rfl) rfl rfl (.cons (by decide+kernel) ba rfl rfl (.int U3) (.cons (by decide+kernel) ba rfl rfl (.int U3) .nil)) (by simp[Prod.ext_iff,Bool.decide_and,Bool.and_assoc])) (qv (vb (decide ((gI ps 0)=(gI ps ((ps.length:Int)-1))))) (λw' hw'=>aE rfl (dt q6) rfl) (qv (vb (decide ((gI ps 0)=(gI ps ((ps.length:Int)-1))))) (λw' hw'=>bS rfl) (dH ?_)))
  intro w4 hc5
  replace hc5:=ar hc5 c0
  refine au (vs:=[vb (decide ((gI ps 0)=(gI ps ((ps.length:Int)-1))))]) Try.func56 (.tmp rfl .nil) ?_
  have e0:(decide ((gI ps 0)=(gI ps ((ps.length:Int)-1))):Bool)=(decide (c6 ps)):=by
    (rw[decide_eq_decide];exact⟨λh=>⟨by assumption,h⟩,λh=>h.2⟩)
  replace bH:=bH.cn ch1
  replace bH:=bH.cn hc5
  exact⟨(congrArg (a₁:=decide ((gI ps 0)=(gI ps ((ps.length:Int)-1)))) (λ(z0:Bool)=>Ending.returned (vb z0)) e0),bH.below⟩
 refine aN (wn (df q6)) (aN (wn (df q6)) (aN (wn (df q6)) (aN (wn (df q6)) (aN (wn (df q6)) (aN (wn (df q6)) (aN (wn (df q6)) (aN (wn (df q6)) (aN (wn (df q6)) (aN (wn (df q6)) ?_)))))))))
 refine qv (vb false) (λw' hw'=>aC rfl (df q6) rfl) (qv (vb false) (λw' hw'=>bS rfl) (dH ?_))
 intro w6 hc7
 replace hc7:=ar hc7 c0
 refine au (vs:=[vb false]) Try.func56 (.tmp rfl .nil) ?_
 have e0:(false:Bool)=(decide (c6 ps)):=by
   exact(df (λh=>absurd h.1 ‹_›)).symm
 replace bH:=bH.cn ch1
 replace bH:=bH.cn hc7
 exact⟨rb e0,bH.below⟩
set_option maxHeartbeats 2000000 in
theorem sI(w0:World)(ps:List Pt)(ps_v:Value)(hps_v:Ro w0 ps_v ps)(hlen:(ps.length:Int)<=1000000):
    Calls Try.prog 45 #[ps_v] w0 (λee w=>ee= .returned (vt [vb ((dP ps).1),vi ((dP ps).2)])/\dd w0.heap.size w0 w):=by
 refine av Try.func45 rfl nq ?_
 have bH:=aX.start w0
 have Rps:=hps_v.sl
 refine aa (a8 rfl (ma (vb false) (ai 0 (ab (aa (aa (a8 rfl (mv ps_v ?_))))))))
 have len1:=(Rps).small
 refine lx (aT cX rfl Rps) (lx (cq (m:=(ps.length:Int)) (n:=0) rfl rfl) (mv (vb (decide ((ps.length:Int)=0))) ?_))
 by_cases q12:(ps.length:Int)=0
 ·
  refine ae (wn (dt q12)) (ae (wn (dt q12)) (ae (wn (dt q12)) (lw (vb true) (aE rfl (dt q12) rfl) (ab (ag rfl rfl (aa (a8 rfl (ma (vb false) (ai 1 (ab ?_))))))))))
  refine au (vs:=[vb false,vi 1]) Try.func45 (.tmp rfl (.tmp rfl .nil)) ?_
  have e0:(false:Bool)=((dP ps).1):=by
    rw[jY (.inl ‹_›)]
  have e1:(1:Int)=((dP ps).2):=by
    rw[jY (.inl ‹_›)]
  exact⟨(bV (a:=false) (b:=1) (λ(z0:Bool) (z1:Int)=>Ending.returned (vt [vb z0,vi z1])) e0 e1),bH.below⟩
 refine lv (ps_v) (wy (df q12)) (aD rfl) (cj (wy (df q12)) (aK (v:=vb (decide (dW ps))) (aA (vals:=[ps_v]) Try.func33 fA fF rfl) (fC w0 ps ps_v (Rps).ro) ?_))
 intro w2 hb3
 replace hb3:=ar hb3 c0
 refine lv (vb (!(decide (dW ps)))) (wy (df q12)) (dj (b:=(decide (dW ps))) rfl) (lw (vb (!(decide (dW ps)))) (aC rfl (df q12) rfl) (ab ?_))
 by_cases p1:(decide (dW ps))=true
 ·
  have hok:=of_decide_eq_true p1
  obtain⟨hl1,hl2⟩:=of_decide_eq_true p1
  refine aj rfl (congrArg Bool.not p1) (am (aa (a8 rfl (mv ps_v ?_))))
  replace Rps:=Rps.cn hb3
  refine lx (aT cX rfl Rps) (lx (dD (m:=(ps.length:Int)) (n:=2) rfl rfl (by omega)) (ai ((ps.length:Int)-2) (ab (aa (aa (a8 rfl (ai 0 (ab (aq ?_)))))))))
  refine aQ (σ:=Nat×aH) (λ⟨i,gq⟩ f w=>aX w0 gq w/\f 0=ps_v/\f 4=vi ((ps.length:Int)-2)/\f 5=vi ↑i/\Sl gq (is 0) w ps_v ps/\(∀j:Nat,j<i->sq ps j)) (λ⟨i,gq⟩=>List.length ps-i) (0,c0) ?_ ?_
  · exact⟨bH.cn hb3,rfl,rfl,rfl,Rps,by intro j hj;omega⟩
  clear Rps bH
  rintro⟨i,g6⟩ f4 w5 ⟨bH,zs0,zs4,zs5,Rps,hinv⟩ back5
  refine aa (aa (a8 rfl (mz zs5 (mz zs4 (lx (jq (m:=↑i) (n:=(ps.length:Int)-2) rfl rfl) (ab ?_))))))
  by_cases p5:(i:Int)<=((ps.length:Int)-2)
  ·
   refine ag rfl (dt p5) (am (aa (aq (aa (aa (cD g6 rfl lz (by kernel_rfl) ?_))))))
   intro w8 ch7
   refine qz zs0 (qz zs5 ?_)
   replace Rps:=Rps.cn ch7
   refine qx (λw' hw'=>al (v:=ps_v) (i:=↑i) cX rfl rfl (Rps.bel hw') rfl (by omega) (by omega)) (qv (vg [vi ((gI ps ↑i).1),vi ((gI ps ↑i).2)]) (λw' hw'=>aJ (v:=ps_v) (i:=↑i) ah rfl (Rps.bel hw') (by omega) (by omega) rfl) (qz zs0 (qz zs5 (qx (λw' hw'=>aP (m:=↑i) (n:=1) rfl rfl (by omega)) (qx (λw' hw'=>al (v:=ps_v) (i:=(i:Int)+1) cX rfl rfl (Rps.bel hw') rfl (by omega) (by omega)) (qv (vg [vi ((gI ps ((i:Int)+1)).1),vi ((gI ps ((i:Int)+1)).2)]) (λw' hw'=>aJ (v:=ps_v) (i:=(i:Int)+1) ah rfl (Rps.bel hw') (by omega) (by omega) rfl) ?_))))))
   refine qv (vb (decide ((gI ps ↑i)=(gI ps ((i:Int)+1))))) (λw' hw'=>fE (bs:=[decide (((gI ps ↑i).1)=((gI ps ((i:Int)+1)).1)),decide (((gI ps ↑i).2)=((gI ps ((i:Int)+1)).2))]) dw (by kernel_rfl) (by kernel_rfl) rfl rfl (.cons (by decide+kernel) ba rfl rfl (.int U3) (.cons (by decide+kernel) ba rfl rfl (.int U3) .nil)) (by simp[Prod.ext_iff,Bool.decide_and,Bool.and_assoc])) (dH ?_)
   intro w9 hc10
   replace hc10:=ar hc10 g6
   by_cases p7:(gI ps ↑i)=(gI ps ((i:Int)+1))
   ·
    refine ag rfl (dt p7) (aa (a8 rfl (ma (vb false) (ai 0 (ab (au (vs:=[vb false,vi 0]) Try.func45 (.tmp rfl (.tmp rfl .nil)) ?_))))))
    have e0:(false:Bool)=((dP ps).1):=by
      (rw[dx ‹_› hok];exact yP ‹_› ‹_›)
    have e1:(0:Int)=((dP ps).2):=by
      rw[dx ‹_› hok]
    replace bH:=bH.cn ch7
    replace bH:=bH.cn hc10
    exact⟨(bV (a:=false) (b:=0) (λ(z0:Bool) (z1:Int)=>Ending.returned (vt [vb z0,vi z1])) e0 e1),bH.below⟩
   refine aj rfl (df p7) (am (aa (a8 rfl (mz zs5 (lx (aP (m:=↑i) (n:=1) rfl rfl (by omega)) (ai ((i:Int)+1) (ab (aq ?_))))))))
   refine aQ (σ:=Nat×aH) (λ⟨k,gq⟩ f w=>aX w0 gq w/\f 0=ps_v/\f 4=vi ((ps.length:Int)-2)/\f 5=vi ↑i/\f 6=vi ↑k/\Sl gq (is 0) w ps_v ps/\((∀j:Nat,i<j->j<k->¬iW ps i j)/\i<k)) (λ⟨k,gq⟩=>List.length ps-k) (i+1,g6) ?_ ?_
   replace bH:=bH.cn ch7
   · exact⟨bH.cn hc10,zs0,zs4,zs5,rfl,Rps.cn hc10,by exact⟨λj h1 h2=>by omega,by omega⟩⟩
   clear Rps bH
   rintro⟨k,g13⟩ f11 w12 ⟨bH,zs0,zs4,zs5,zs6,Rps,hk⟩ back10
   refine aa (aa (a8 rfl (mz zs6 (mz zs4 (lx (jq (m:=↑k) (n:=(ps.length:Int)-2) rfl rfl) (ab ?_))))))
   by_cases p10:(k:Int)<=((ps.length:Int)-2)
   ·
    refine ag rfl (dt p10) ?_
    have hb1:=(hl2 _ (aR (xs:=ps) (i:=↑i) (by omega) (by omega))).bd
    have hb2:=(hl2 _ (aR (xs:=ps) (i:=(i:Int)+1) (by omega) (by omega))).bd
    have hb3:=(hl2 _ (aR (xs:=ps) (i:=↑k) (by omega) (by omega))).bd
    have hb4:=(hl2 _ (aR (xs:=ps) (i:=(k:Int)+1) (by omega) (by omega))).bd
    refine am (aa (aq (aa (cD g13 rfl lz (by kernel_rfl) ?_))))
    intro w15 ch14
    refine qz zs0 (qz zs5 ?_)
    replace Rps:=Rps.cn ch14
    refine qx (λw' hw'=>al (v:=ps_v) (i:=↑i) cX rfl rfl (Rps.bel hw') rfl (by omega) (by omega)) (qv (vg [vi ((gI ps ↑i).1),vi ((gI ps ↑i).2)]) (λw' hw'=>aJ (v:=ps_v) (i:=↑i) ah rfl (Rps.bel hw') (by omega) (by omega) rfl) (qz zs0 (qz zs5 (qx (λw' hw'=>aP (m:=↑i) (n:=1) rfl rfl (by omega)) (qx (λw' hw'=>al (v:=ps_v) (i:=(i:Int)+1) cX rfl rfl (Rps.bel hw') rfl (by omega) (by omega)) (qv (vg [vi ((gI ps ((i:Int)+1)).1),vi ((gI ps ((i:Int)+1)).2)]) (λw' hw'=>aJ (v:=ps_v) (i:=(i:Int)+1) ah rfl (Rps.bel hw') (by omega) (by omega) rfl) (qz zs0 (qz zs6 ?_))))))))
    refine qx (λw' hw'=>al (v:=ps_v) (i:=↑k) cX rfl rfl (Rps.bel hw') rfl (by omega) (by omega)) (qv (vg [vi ((gI ps ↑k).1),vi ((gI ps ↑k).2)]) (λw' hw'=>aJ (v:=ps_v) (i:=↑k) ah rfl (Rps.bel hw') (by omega) (by omega) rfl) (qz zs0 (qz zs6 (qx (λw' hw'=>aP (m:=↑k) (n:=1) rfl rfl (by omega)) (qx (λw' hw'=>al (v:=ps_v) (i:=(k:Int)+1) cX rfl rfl (Rps.bel hw') rfl (by omega) (by omega)) (qv (vg [vi ((gI ps ((k:Int)+1)).1),vi ((gI ps ((k:Int)+1)).2)]) (λw' hw'=>aJ (v:=ps_v) (i:=(k:Int)+1) ah rfl (Rps.bel hw') (by omega) (by omega) rfl) ?_))))))
    refine eZ (v:=vi (aZ (gI ps ↑i) (gI ps ((i:Int)+1)) (gI ps ↑k) (gI ps ((k:Int)+1)))) rfl (λw' hw'=>aA (vals:=[vg [vi ((gI ps ↑i).1),vi ((gI ps ↑i).2)],vg [vi ((gI ps ((i:Int)+1)).1),vi ((gI ps ((i:Int)+1)).2)],vg [vi ((gI ps ↑k).1),vi ((gI ps ↑k).2)],vg [vi ((gI ps ((k:Int)+1)).1),vi ((gI ps ((k:Int)+1)).2)]]) Try.func55 qS qJ rfl) (λw' hw'=>(qH w' (gI ps ↑i) (gI ps ((i:Int)+1)) (gI ps ↑k) (gI ps ((k:Int)+1)) ‹_› ‹_› ‹_› ‹_›).mono λe w2 h2=>⟨h2.1,hw'.trans (h2.2.mono hw'.size)⟩) ?_
    refine qv (vi (aZ (gI ps ↑i) (gI ps ((i:Int)+1)) (gI ps ↑k) (gI ps ((k:Int)+1)))) (λw' hw'=>bS rfl) (dH ?_)
    intro w16 hc17
    replace hc17:=ar hc17 g13
    refine aa (a8 rfl (mz zs6 (mz zs5 (lx (aP (m:=↑i) (n:=1) rfl rfl (by omega)) (lx (cq (m:=↑k) (n:=(i:Int)+1) rfl rfl) (mv (vb (decide ((k:Int)=((i:Int)+1)))) ?_))))))
    by_cases q65:(k:Int)=((i:Int)+1)
    ·
     refine ae (wn (dt q65)) (ae (wn (dt q65)) (ae (wn (dt q65)) (ae (bt rfl rfl rfl) (ae (bt rfl rfl rfl) (ae (bt rfl rfl rfl) (ae (wn (dt q65)) (ae (wn (dt q65)) (ae (bt rfl rfl rfl) (ae (bt rfl rfl rfl) ?_)))))))))
     refine ae (wn (dt q65)) (lw (vb true) (aE rfl (dt q65) rfl) (ma (vb true) (ab (aa (a8 rfl (mv (vb true) (mv (vb true) (lv (vi (aZ (gI ps ↑i) (gI ps ((i:Int)+1)) (gI ps ↑k) (gI ps ((k:Int)+1)))) (wy rfl) (aD rfl) (lv (vb (decide ((aZ (gI ps ↑i) (gI ps ((i:Int)+1)) (gI ps ↑k) (gI ps ((k:Int)+1)))=3))) (wy rfl) (cq (m:=aZ (gI ps ↑i) (gI ps ((i:Int)+1)) (gI ps ↑k) (gI ps ((k:Int)+1))) (n:=3) rfl rfl) (lw (vb (decide ((aZ (gI ps ↑i) (gI ps ((i:Int)+1)) (gI ps ↑k) (gI ps ((k:Int)+1)))=3))) (aE rfl rfl rfl) ?_))))))))))
     refine mv (vb (decide ((aZ (gI ps ↑i) (gI ps ((i:Int)+1)) (gI ps ↑k) (gI ps ((k:Int)+1)))=3))) ?_
     by_cases q83:(aZ (gI ps ↑i) (gI ps ((i:Int)+1)) (gI ps ↑k) (gI ps ((k:Int)+1)))=3
     ·
      refine ae (wn (dt q83)) (ae (wn (dt q83)) (ae (wn (dt q83)) (ae (bt rfl rfl rfl) (ae (bt rfl rfl rfl) (ae (wn (dt q83)) (lw (vb true) (aE rfl (dt q83) rfl) (ab (ag rfl rfl (aa (a8 rfl ?_))))))))))
      refine ma (vb false) (ai 0 (ab (au (vs:=[vb false,vi 0]) Try.func45 (.tmp rfl (.tmp rfl .nil)) ?_)))
      have e0:(false:Bool)=((dP ps).1):=by
        (rw[dx ‹_› hok];exact jh (k:=k) ‹_› ‹_› hk.2 (by exact zK (by exact xB ‹_›) ‹_›))
      have e1:(0:Int)=((dP ps).2):=by
        rw[dx ‹_› hok]
      replace bH:=bH.cn ch14
      replace bH:=bH.cn hc17
      exact⟨(bV (a:=false) (b:=0) (λ(z0:Bool) (z1:Int)=>Ending.returned (vt [vb z0,vi z1])) e0 e1),bH.below⟩
     refine lv (vb true) (wy (df q83)) (aD rfl) (lv (vb false) (wy (df q83)) (dj (b:=true) rfl) (lv (vb false) (wy (df q83)) (aD rfl) (ae (wn rfl) (ae (wn rfl) (lv (vb false) (wy (df q83)) (aC rfl rfl rfl) (lw (vb false) (aC rfl (df q83) rfl) (ab (aj rfl rfl (am (ao ?_))))))))))
     refine a8 rfl (mz zs6 (lx (aP (m:=↑k) (n:=1) rfl rfl (by omega)) (ai ((k:Int)+1) (ab ?_))))
     replace bH:=bH.cn ch14
     refine back10 (k+1,g13) _ _ ⟨bH.cn hc17,zs0,zs4,zs5,rfl,Rps.cn hc17,?_⟩ ?_
     · show(∀j:Nat,i<j->j<(k+1)->¬iW ps i j)/\i<(k+1)
       refine⟨λj h1 h2=>?_,by omega⟩
       by_cases e0:j=k
       · subst e0
         exact xK (by exact xB ‹_›) ‹_›
       · exact hk.1 j h1 (by omega)
     · show List.length ps-(k+1)<List.length ps-k
       omega
    refine lv (vi ↑i) (wy (df q65)) (aD zs5) (lv (vb (decide ((i:Int)=0))) (wy (df q65)) (cq (m:=↑i) (n:=0) rfl rfl) (lv (vb (decide ((i:Int)=0))) (wy (df q65)) (aD rfl) ?_))
    by_cases q68:(i:Int)=0
    ·
     refine lv (vi ↑k) (wy (dt q68)) (aD zs6) (lv (vi ((ps.length:Int)-2)) (wy (dt q68)) (aD zs4) (lv (vb (decide ((k:Int)=((ps.length:Int)-2)))) (wy (dt q68)) (cq (m:=↑k) (n:=(ps.length:Int)-2) rfl rfl) (lv (vb (decide ((k:Int)=((ps.length:Int)-2)))) (wy (df q65)) (aE rfl (dt q68) rfl) (lv (vb (decide ((k:Int)=((ps.length:Int)-2)))) (wy (df q65)) (aD rfl) ?_))))
     by_cases q73:(k:Int)=((ps.length:Int)-2)
     ·
      refine lv (ps_v) (wy (dt q73)) (aD zs0) ?_
      replace Rps:=Rps.cn hc17
      refine cj (wy (dt q73)) (aK (v:=vb (decide (c6 ps))) (aA (vals:=[ps_v]) Try.func56 vZ wR rfl) (rQ w16 ps ps_v (Rps).ro) ?_)
      intro w18 hb19
      replace hb19:=ar hb19 g13
      refine lv (vb (decide (c6 ps))) (wy (df q65)) (aE rfl (dt q73) rfl) (lw (vb (decide (c6 ps))) (aC rfl (df q65) rfl) (ma (vb (decide (c6 ps))) (ab (aa (a8 rfl (mv (vb (decide (c6 ps))) (mv (vb (decide (c6 ps))) ?_)))))))
      by_cases q79:(decide (c6 ps))=true
      ·
       refine lv (vi (aZ (gI ps ↑i) (gI ps ((i:Int)+1)) (gI ps ↑k) (gI ps ((k:Int)+1)))) (wy q79) (aD rfl) (lv (vb (decide ((aZ (gI ps ↑i) (gI ps ((i:Int)+1)) (gI ps ↑k) (gI ps ((k:Int)+1)))=3))) (wy q79) (cq (m:=aZ (gI ps ↑i) (gI ps ((i:Int)+1)) (gI ps ↑k) (gI ps ((k:Int)+1))) (n:=3) rfl rfl) (lw (vb (decide ((aZ (gI ps ↑i) (gI ps ((i:Int)+1)) (gI ps ↑k) (gI ps ((k:Int)+1)))=3))) (aE rfl q79 rfl) (mv (vb (decide ((aZ (gI ps ↑i) (gI ps ((i:Int)+1)) (gI ps ↑k) (gI ps ((k:Int)+1)))=3))) ?_)))
       by_cases q83:(aZ (gI ps ↑i) (gI ps ((i:Int)+1)) (gI ps ↑k) (gI ps ((k:Int)+1)))=3
       ·
        refine ae (wn (dt q83)) (ae (wn (dt q83)) (ae (wn (dt q83)) (ae (bt rfl rfl rfl) (ae (bt rfl rfl rfl) (ae (wn (dt q83)) (lw (vb true) (aE rfl (dt q83) rfl) (ab (ag rfl rfl (aa (a8 rfl ?_))))))))))
        refine ma (vb false) (ai 0 (ab (au (vs:=[vb false,vi 0]) Try.func45 (.tmp rfl (.tmp rfl .nil)) ?_)))
        have e0:(false:Bool)=((dP ps).1):=by
          (rw[dx ‹_› hok];exact jh (k:=k) ‹_› ‹_› hk.2 (by exact zK (by exact xF ‹_› ‹_› ‹_›) ‹_›))
        have e1:(0:Int)=((dP ps).2):=by
          rw[dx ‹_› hok]
        have C20:=cg [] (ch14.n.seq (hc17.n.seq hb19.n))
        replace bH:=bH.ca C20
        exact⟨(bV (a:=false) (b:=0) (λ(z0:Bool) (z1:Int)=>Ending.returned (vt [vb z0,vi z1])) e0 e1),bH.below⟩
       refine lv (vb (decide (c6 ps))) (wy (df q83)) (aD rfl) (lv (vb (!(decide (c6 ps)))) (wy (df q83)) (dj (b:=(decide (c6 ps))) rfl) (lv (vb (!(decide (c6 ps)))) (wy (df q83)) (aD rfl) (ae (wn (congrArg Bool.not q79)) (ae (wn (congrArg Bool.not q79)) (lv (vb false) (wy (df q83)) (aC rfl (congrArg Bool.not q79) rfl) (lw (vb false) (aC rfl (df q83) rfl) (ab (aj rfl rfl (am ?_)))))))))
       refine ao (a8 rfl (mz zs6 (lx (aP (m:=↑k) (n:=1) rfl rfl (by omega)) (ai ((k:Int)+1) (ab ?_)))))
       have C21:=cg [] (ch14.n.seq (hc17.n.seq hb19.n))
       refine back10 (k+1,g13) _ _ ⟨bH.ca C21,zs0,zs4,zs5,rfl,Rps.cn hb19,?_⟩ ?_
       · show(∀j:Nat,i<j->j<(k+1)->¬iW ps i j)/\i<(k+1)
         refine⟨λj h1 h2=>?_,by omega⟩
         by_cases e0:j=k
         · subst e0
           exact xK (by exact xF ‹_› ‹_› ‹_›) ‹_›
         · exact hk.1 j h1 (by omega)
       · show List.length ps-(k+1)<List.length ps-k
         omega
      refine ae (wn (Bool.eq_false_iff.2 q79)) (ae (wn (Bool.eq_false_iff.2 q79)) (lw (vb false) (aC rfl (Bool.eq_false_iff.2 q79) rfl) (mv (vb false) (lv (vb (decide (c6 ps))) (wy rfl) (aD rfl) (lv (vb (!(decide (c6 ps)))) (wy rfl) (dj (b:=(decide (c6 ps))) rfl) (lv (vb (!(decide (c6 ps)))) (wy rfl) (aD rfl) (lv (vi (aZ (gI ps ↑i) (gI ps ((i:Int)+1)) (gI ps ↑k) (gI ps ((k:Int)+1)))) (wy (congrArg Bool.not (Bool.eq_false_iff.2 q79))) (aD rfl) ?_)))))))
      refine lv (vb (!(decide ((aZ (gI ps ↑i) (gI ps ((i:Int)+1)) (gI ps ↑k) (gI ps ((k:Int)+1)))=0)))) (wy (congrArg Bool.not (Bool.eq_false_iff.2 q79))) (dU (m:=aZ (gI ps ↑i) (gI ps ((i:Int)+1)) (gI ps ↑k) (gI ps ((k:Int)+1))) (n:=0) rfl rfl) (lv (vb (!(decide ((aZ (gI ps ↑i) (gI ps ((i:Int)+1)) (gI ps ↑k) (gI ps ((k:Int)+1)))=0)))) (wy rfl) (aE rfl (congrArg Bool.not (Bool.eq_false_iff.2 q79)) rfl) (lw (vb (!(decide ((aZ (gI ps ↑i) (gI ps ((i:Int)+1)) (gI ps ↑k) (gI ps ((k:Int)+1)))=0)))) (aC rfl rfl rfl) (ab ?_)))
      by_cases p14:(aZ (gI ps ↑i) (gI ps ((i:Int)+1)) (gI ps ↑k) (gI ps ((k:Int)+1)))=0
      ·
       refine aj rfl (congrArg Bool.not (dt p14)) (am (ao (a8 rfl (mz zs6 (lx (aP (m:=↑k) (n:=1) rfl rfl (by omega)) (ai ((k:Int)+1) (ab ?_)))))))
       have C22:=cg [] (ch14.n.seq (hc17.n.seq hb19.n))
       refine back10 (k+1,g13) _ _ ⟨bH.ca C22,zs0,zs4,zs5,rfl,Rps.cn hb19,?_⟩ ?_
       · show(∀j:Nat,i<j->j<(k+1)->¬iW ps i j)/\i<(k+1)
         refine⟨λj h1 h2=>?_,by omega⟩
         by_cases e0:j=k
         · subst e0
           exact ug (by exact ry ‹_› ‹_›) ‹_›
         · exact hk.1 j h1 (by omega)
       · show List.length ps-(k+1)<List.length ps-k
         omega
      refine ag rfl (congrArg Bool.not (df p14)) (aa (a8 rfl (ma (vb false) (ai 0 (ab (au (vs:=[vb false,vi 0]) Try.func45 (.tmp rfl (.tmp rfl .nil)) ?_))))))
      have e0:(false:Bool)=((dP ps).1):=by
        (rw[dx ‹_› hok];exact jh (k:=k) ‹_› ‹_› hk.2 (by exact yJ (by exact ry ‹_› ‹_›) ‹_›))
      have e1:(0:Int)=((dP ps).2):=by
        rw[dx ‹_› hok]
      have C23:=cg [] (ch14.n.seq (hc17.n.seq hb19.n))
      replace bH:=bH.ca C23
      exact⟨(bV (a:=false) (b:=0) (λ(z0:Bool) (z1:Int)=>Ending.returned (vt [vb z0,vi z1])) e0 e1),bH.below⟩
     refine ae (wn (df q73)) (ae (wn (df q73)) (lv (vb false) (wy (df q65)) (aC rfl (df q73) rfl) (lw (vb false) (aC rfl (df q65) rfl) (ma (vb false) (ab (aa (a8 rfl (mv (vb false) (mv (vb false) (ae (wn rfl) (ae (wn rfl) (lw (vb false) (aC rfl rfl rfl) ?_))))))))))))
     refine mv (vb false) (lv (vb false) (wy rfl) (aD rfl) (lv (vb true) (wy rfl) (dj (b:=false) rfl) (lv (vb true) (wy rfl) (aD rfl) (lv (vi (aZ (gI ps ↑i) (gI ps ((i:Int)+1)) (gI ps ↑k) (gI ps ((k:Int)+1)))) (wy rfl) (aD rfl) (lv (vb (!(decide ((aZ (gI ps ↑i) (gI ps ((i:Int)+1)) (gI ps ↑k) (gI ps ((k:Int)+1)))=0)))) (wy rfl) (dU (m:=aZ (gI ps ↑i) (gI ps ((i:Int)+1)) (gI ps ↑k) (gI ps ((k:Int)+1))) (n:=0) rfl rfl) (lv (vb (!(decide ((aZ (gI ps ↑i) (gI ps ((i:Int)+1)) (gI ps ↑k) (gI ps ((k:Int)+1)))=0)))) (wy rfl) (aE rfl rfl rfl) ?_))))))
     refine lw (vb (!(decide ((aZ (gI ps ↑i) (gI ps ((i:Int)+1)) (gI ps ↑k) (gI ps ((k:Int)+1)))=0)))) (aC rfl rfl rfl) (ab ?_)
     by_cases p14:(aZ (gI ps ↑i) (gI ps ((i:Int)+1)) (gI ps ↑k) (gI ps ((k:Int)+1)))=0
     ·
      refine aj rfl (congrArg Bool.not (dt p14)) (am (ao (a8 rfl (mz zs6 (lx (aP (m:=↑k) (n:=1) rfl rfl (by omega)) (ai ((k:Int)+1) (ab ?_)))))))
      replace bH:=bH.cn ch14
      refine back10 (k+1,g13) _ _ ⟨bH.cn hc17,zs0,zs4,zs5,rfl,Rps.cn hc17,?_⟩ ?_
      · show(∀j:Nat,i<j->j<(k+1)->¬iW ps i j)/\i<(k+1)
        refine⟨λj h1 h2=>?_,by omega⟩
        by_cases e0:j=k
        · subst e0
          exact ug (by exact qE ‹_› ‹_›) ‹_›
        · exact hk.1 j h1 (by omega)
      · show List.length ps-(k+1)<List.length ps-k
        omega
     refine ag rfl (congrArg Bool.not (df p14)) (aa (a8 rfl (ma (vb false) (ai 0 (ab (au (vs:=[vb false,vi 0]) Try.func45 (.tmp rfl (.tmp rfl .nil)) ?_))))))
     have e0:(false:Bool)=((dP ps).1):=by
       (rw[dx ‹_› hok];exact jh (k:=k) ‹_› ‹_› hk.2 (by exact yJ (by exact qE ‹_› ‹_›) ‹_›))
     have e1:(0:Int)=((dP ps).2):=by
       rw[dx ‹_› hok]
     replace bH:=bH.cn ch14
     replace bH:=bH.cn hc17
     exact⟨(bV (a:=false) (b:=0) (λ(z0:Bool) (z1:Int)=>Ending.returned (vt [vb z0,vi z1])) e0 e1),bH.below⟩
    refine ae (wn (df q68)) (ae (wn (df q68)) (ae (wn (df q68)) (lv (vb false) (wy (df q65)) (aC rfl (df q68) rfl) (lv (vb false) (wy (df q65)) (aD rfl) (ae (wn rfl) (ae (wn rfl) (lv (vb false) (wy (df q65)) (aC rfl rfl rfl) (lw (vb false) (aC rfl (df q65) rfl) (ma (vb false) (ab (aa (a8 rfl ?_))))))))))))
    refine mv (vb false) (mv (vb false) (ae (wn rfl) (ae (wn rfl) (lw (vb false) (aC rfl rfl rfl) (mv (vb false) (lv (vb false) (wy rfl) (aD rfl) (lv (vb true) (wy rfl) (dj (b:=false) rfl) (lv (vb true) (wy rfl) (aD rfl) (lv (vi (aZ (gI ps ↑i) (gI ps ((i:Int)+1)) (gI ps ↑k) (gI ps ((k:Int)+1)))) (wy rfl) (aD rfl) (lv (vb (!(decide ((aZ (gI ps ↑i) (gI ps ((i:Int)+1)) (gI ps ↑k) (gI ps ((k:Int)+1)))=0)))) (wy rfl) (dU (m:=aZ (gI ps ↑i) (gI ps ((i:Int)+1)) (gI ps ↑k) (gI ps ((k:Int)+1))) (n:=0) rfl rfl) ?_))))))))))
    refine lv (vb (!(decide ((aZ (gI ps ↑i) (gI ps ((i:Int)+1)) (gI ps ↑k) (gI ps ((k:Int)+1)))=0)))) (wy rfl) (aE rfl rfl rfl) (lw (vb (!(decide ((aZ (gI ps ↑i) (gI ps ((i:Int)+1)) (gI ps ↑k) (gI ps ((k:Int)+1)))=0)))) (aC rfl rfl rfl) (ab ?_))
    by_cases p14:(aZ (gI ps ↑i) (gI ps ((i:Int)+1)) (gI ps ↑k) (gI ps ((k:Int)+1)))=0
    ·
     refine aj rfl (congrArg Bool.not (dt p14)) (am (ao (a8 rfl (mz zs6 (lx (aP (m:=↑k) (n:=1) rfl rfl (by omega)) (ai ((k:Int)+1) (ab ?_)))))))
     replace bH:=bH.cn ch14
     refine back10 (k+1,g13) _ _ ⟨bH.cn hc17,zs0,zs4,zs5,rfl,Rps.cn hc17,?_⟩ ?_
     · show(∀j:Nat,i<j->j<(k+1)->¬iW ps i j)/\i<(k+1)
       refine⟨λj h1 h2=>?_,by omega⟩
       by_cases e0:j=k
       · subst e0
         exact ug (by exact re ‹_› ‹_›) ‹_›
       · exact hk.1 j h1 (by omega)
     · show List.length ps-(k+1)<List.length ps-k
       omega
    refine ag rfl (congrArg Bool.not (df p14)) (aa (a8 rfl (ma (vb false) (ai 0 (ab (au (vs:=[vb false,vi 0]) Try.func45 (.tmp rfl (.tmp rfl .nil)) ?_))))))
    have e0:(false:Bool)=((dP ps).1):=by
      (rw[dx ‹_› hok];exact jh (k:=k) ‹_› ‹_› hk.2 (by exact yJ (by exact re ‹_› ‹_›) ‹_›))
    have e1:(0:Int)=((dP ps).2):=by
      rw[dx ‹_› hok]
    replace bH:=bH.cn ch14
    replace bH:=bH.cn hc17
    exact⟨(bV (a:=false) (b:=0) (λ(z0:Bool) (z1:Int)=>Ending.returned (vt [vb z0,vi z1])) e0 e1),bH.below⟩
   refine aj rfl (df p10) (aM rfl (ao (a8 rfl (mz zs5 (lx (aP (m:=↑i) (n:=1) rfl rfl (by omega)) (ai ((i:Int)+1) (ab ?_)))))))
   refine back5 (i+1,g13) _ _ ⟨bH,zs0,zs4,rfl,Rps,?_⟩ ?_
   · show∀j:Nat,j<(i+1)->sq ps j
     intro j hj
     by_cases e0:j=i
     · subst e0;exact⟨p7,λk' _ h1 h2=>hk.1 k' h1 (by omega)⟩
     · exact hinv j (by omega)
   · show List.length ps-(i+1)<List.length ps-i
     omega
  refine aj rfl (df p5) (aM rfl (aa (a8 rfl (ma (vb true) (ai 0 (ab (au (vs:=[vb true,vi 0]) Try.func45 (.tmp rfl (.tmp rfl .nil)) ?_)))))))
  have e0:(true:Bool)=((dP ps).1):=by
    (rw[dx ‹_› hok];exact vJ hinv ‹_›)
  have e1:(0:Int)=((dP ps).2):=by
    rw[dx ‹_› hok]
  exact⟨(bV (a:=true) (b:=0) (λ(z0:Bool) (z1:Int)=>Ending.returned (vt [vb z0,vi z1])) e0 e1),bH.below⟩
 refine ag rfl (congrArg Bool.not (Bool.eq_false_iff.2 p1)) (aa (a8 rfl (ma (vb false) (ai 1 (ab (au (vs:=[vb false,vi 1]) Try.func45 (.tmp rfl (.tmp rfl .nil)) ?_))))))
 have e0:(false:Bool)=((dP ps).1):=by
   rw[jY (.inr (λh=>p1 (dt h)))]
 have e1:(1:Int)=((dP ps).2):=by
   rw[jY (.inr (λh=>p1 (dt h)))]
 replace bH:=bH.cn hb3
 exact⟨(bV (a:=false) (b:=1) (λ(z0:Bool) (z1:Int)=>Ending.returned (vt [vb z0,vi z1])) e0 e1),bH.below⟩
end TL
