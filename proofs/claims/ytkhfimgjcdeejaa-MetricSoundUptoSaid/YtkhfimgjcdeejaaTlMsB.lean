import Derived.Test.YtkhfimgjcdeejaaTlP3
import Derived.Test.YtkhfimgjcdeejaaTlGmA
import Derived.Test.YtkhfimgjcdeejaaTlGmM
import Derived.Test.YtkhfimgjcdeejaaTlGenA
import Derived.Test.YtkhfimgjcdeejaaTlGdA
import Derived.Test.YtkhfimgjcdeejaaTlGjC
import Derived.Test.YtkhfimgjcdeejaaTlMmA
import Derived.Test.YtkhfimgjcdeejaaTlMmB
import Derived.Test.YtkhfimgjcdeejaaTlMsA
import Derived.Test.YtkhfimgjcdeejaaProg
import Derived.Test.YtkhfimgjcdeejaaTlAli
set_option linter.all false
set_option maxRecDepth 20000
namespace TL
open Go Go.Proofs
theorem kC:Try.prog.follows .mixedOrders=true:=by kernel_rfl
theorem u8:Try.f40.body.isNone=false:=rfl
theorem tD:(Try.f40.name== "runtime.NumGoroutine")=false:=by decide+kernel
theorem tC:Try.f41.body.isNone=false:=rfl
theorem u6:(Try.f41.name== "runtime.NumGoroutine")=false:=by decide+kernel
set_option maxHeartbeats 4000000 in
theorem qC(w0:World)(g:(Int)×(List Pt))(g_v:Value)(hg_v:Ro w0 g_v g.2)(p:(List Pt)×(List (List Pt)))(p_v p_v1:Value)(hp_v:Ro w0 p_v p.1)(hp_v1:Ro w0 p_v1 p.2)(e:Int)(ff:Int)(hm:dp g)(hs:kP g p)(he:0<=e/\e<(g.2.length:Int))(hf:0<=ff/\ff<(g.2.length:Int)):
    Calls Try.prog 28 #[vg [vi g.1,g_v],vg [p_v,p_v1],vi e,vi ff] w0 (λee w=>ee= .returned (vb (decide (kW g p e ff)))/\cW w0.heap.size w0 w):=by
 refine aI Try.func28 rfl nq ?_
 have bH:=bo.start w0
 have Rg:=hg_v.sl
 have Rp:=hp_v.sl
 have r_p_v1:=hp_v1.sl
 have he0:=he.1
 have he1:=he.2
 have hf0:=hf.1
 have hf1:=hf.2
 have hs2:=hs.m
 obtain⟨ha1,ha3⟩:=hs.ln e he0 (by omega)
 obtain⟨hb1,hb3⟩:=hs.ln ff hf0 (by omega)
 have ha2:=ha3.1
 have hb2:=hb3.1
 refine a6 (a5 rfl (cj rfl (bA c0 (is 1) (1,0) rfl rfl ?_)))
 intro g4 w1 b3 ch2 bx5
 replace bx5:Bx g4 (is 1) w1 b3 [vi g.1,g_v]:=bx5
 refine lo (bA g4 (is 2) (2,0) rfl rfl ?_)
 intro g9 w6 b8 ch7 bx10
 replace bx10:Bx g9 (is 2) w6 b8 [p_v,p_v1]:=bx10
 refine ma (vb false) (a8 (a6 (bv g9 rfl kC (by kernel_rfl) ?_)))
 intro w12 ch11
 refine qx (λw' hw'=>a7 dn rfl rfl rfl rfl) ?_
 replace bx10:=bx10.cn ch11
 refine qx (λw' hw'=>a9 ci rfl (bx10.bel hw') rfl) (qm (vi e) ?_)
 have C13:=cg [] (ch2.n.seq (ch7.n.seq ch11.n))
 replace r_p_v1:=r_p_v1.ca C13
 refine qx (λw' hw'=>ab (v:=p_v1) (i:=e) eP rfl rfl (r_p_v1.bel hw') rfl (by omega) (by omega)) ?_
 obtain⟨v14,cel15,r16⟩:=cN (r:=e) r_p_v1 (by omega) (by omega)
 refine qx (λw' hw'=>aZ bt rfl (m7 cel15 hw')) (qx (λw' hw'=>a7 dn rfl rfl rfl rfl) (qx (λw' hw'=>a9 ci rfl (bx10.bel hw') rfl) (qm (vi ff) (qx (λw' hw'=>ab (v:=p_v1) (i:=ff) eP rfl rfl (r_p_v1.bel hw') rfl (by omega) (by omega)) ?_))))
 obtain⟨v17,cel18,r19⟩:=cN (r:=ff) r_p_v1 (by omega) (by omega)
 refine qx (λw' hw'=>aZ bt rfl (m7 cel18 hw')) (qv (v14) (λw' hw'=>bi rfl) (qv (v17) (λw' hw'=>bi rfl) (bM ?_)))
 intro w20 hc21
 replace hc21:=aj hc21 g9
 refine a6 (a6 (a5 rfl (ai 1 (a8 (ao ?_)))))
 refine bf (σ:=Nat×aW) (λ⟨i,gq⟩ f w=>bo w0 gq w/\f 2=vi e/\f 3=vi ff/\f 4=vp b3 0/\f 5=vp b8 0/\f 9=v14/\f 10=v17/\f 11=vi ↑i/\Sl gq (is 0) w g_v g.2/\Sl gq (is 0) w p_v p.1/\Sl gq (is 0) w p_v1 p.2/\Bx gq (is 1) w b3 [vi g.1,g_v]/\Bx gq (is 2) w b8 [p_v,p_v1]/\Sl gq (is 0) w v14 (gI p.2 e)/\Sl gq (is 0) w v17 (gI p.2 ff)/\(i:Int)<=((List.length (gI p.2 e):Int):Int)/\(1<=i/\∀j:Nat,j+1<i->∀q:Nat,q+1<(gI p.2 ff).length->di (gI (gI p.2 e) (j:Int),gI (gI p.2 e) ((j:Int)+1)) (gI (gI p.2 ff) (q:Int),gI (gI p.2 ff) ((q:Int)+1)) (iE g p e ff))) (λ⟨i,gq⟩=>List.length (gI p.2 e)-i) (1,g9) ?_ ?_
 have C23:=cg [] (ch7.n.seq (ch11.n.seq hc21.n))
 have C22:=ch2.n.seq C23
 · exact⟨bH.ca C22,rfl,rfl,rfl,rfl,rfl,rfl,rfl,Rg.ca C22,Rp.ca C22,r_p_v1.cn hc21,bx5.ca C23,bx10.cn hc21,r16.cn hc21,r19.cn hc21,by omega,by exact⟨Nat.le_refl _,λj hj=>by omega⟩⟩
 clear Rg Rp r_p_v1 bx5 bx10 r16 r19 bH
 rintro⟨i,g26⟩ f24 w25 ⟨bH,zs2,zs3,zs4,zs5,zs9,zs10,zs11,Rg,Rp,r_p_v1,bx5,bx10,r16,r19,hle_i,hi⟩ back3
 have hi1:=hi.1
 refine a6 (a6 (a5 rfl (mz zs11 (mz zs9 ?_))))
 have len27:=(r16).small
 refine lx (bE bZ rfl r16) (lx (b6 (m:=↑i) (n:=(List.length (gI p.2 e):Int)) rfl rfl) (a8 ?_))
 by_cases p3:(i:Int)<(List.length (gI p.2 e):Int)
 ·
  refine ae rfl (dt p3) (am (a6 (ao (a6 (a5 rfl (ai 1 (a8 (ao ?_))))))))
  refine bf (σ:=Nat×aW) (λ⟨k,gq⟩ f w=>bo w0 gq w/\f 2=vi e/\f 3=vi ff/\f 4=vp b3 0/\f 5=vp b8 0/\f 9=v14/\f 10=v17/\f 11=vi ↑i/\f 12=vi ↑k/\Sl gq (is 0) w g_v g.2/\Sl gq (is 0) w p_v p.1/\Sl gq (is 0) w p_v1 p.2/\Bx gq (is 1) w b3 [vi g.1,g_v]/\Bx gq (is 2) w b8 [p_v,p_v1]/\Sl gq (is 0) w v14 (gI p.2 e)/\Sl gq (is 0) w v17 (gI p.2 ff)/\(k:Int)<=((List.length (gI p.2 ff):Int):Int)/\(1<=k/\∀q:Nat,q+1<k->di (gI (gI p.2 e) ((i:Int)-1),gI (gI p.2 e) (i:Int)) (gI (gI p.2 ff) (q:Int),gI (gI p.2 ff) ((q:Int)+1)) (iE g p e ff))) (λ⟨k,gq⟩=>List.length (gI p.2 ff)-k) (1,g26) ?_ ?_
  · exact⟨bH,zs2,zs3,zs4,zs5,zs9,zs10,zs11,rfl,Rg,Rp,r_p_v1,bx5,bx10,r16,r19,by omega,by exact⟨Nat.le_refl _,λj hj=>by omega⟩⟩
  clear Rg Rp r_p_v1 bx5 bx10 r16 r19 bH
  rintro⟨k,g30⟩ f28 w29 ⟨bH,zs2,zs3,zs4,zs5,zs9,zs10,zs11,zs12,Rg,Rp,r_p_v1,bx5,bx10,r16,r19,hle_k,hk⟩ back6
  have hk1:=hk.1
  refine a6 (a6 (a5 rfl (mz zs12 (mz zs10 ?_))))
  have len31:=(r19).small
  refine lx (bE bZ rfl r19) (lx (b6 (m:=↑k) (n:=(List.length (gI p.2 ff):Int)) rfl rfl) (a8 ?_))
  by_cases p6:(k:Int)<(List.length (gI p.2 ff):Int)
  ·
   refine ae rfl (dt p6) ?_
   have hO:sQ (gI (gI p.2 e) ((i:Int)-1),gI (gI p.2 e) (i:Int)) (gI (gI p.2 ff) ((k:Int)-1),gI (gI p.2 ff) (k:Int)):=⟨ha3.2 _ (ba (by omega) (by omega)),ha3.2 _ (ba (by omega) (by omega)),hb3.2 _ (ba (by omega) (by omega)),hb3.2 _ (ba (by omega) (by omega))⟩
   refine am (a6 (ao (a6 (bv g30 rfl kC (by kernel_rfl) ?_))))
   intro w33 ch32
   refine qz zs9 (qz zs11 (qx (λw' hw'=>cX (m:=↑i) (n:=1) rfl rfl (by omega)) ?_))
   replace r16:=r16.cn ch32
   refine qx (λw' hw'=>ab (v:=v14) (i:=(i:Int)-1) bZ rfl rfl (r16.bel hw') rfl (by omega) (by omega)) (qv (vg [vi ((gI (gI p.2 e) ((i:Int)-1)).1),vi ((gI (gI p.2 e) ((i:Int)-1)).2)]) (λw' hw'=>aM (v:=v14) (i:=(i:Int)-1) ah rfl (r16.bel hw') (by omega) (by omega) rfl) (qz zs9 (qz zs11 (qx (λw' hw'=>ab (v:=v14) (i:=↑i) bZ rfl rfl (r16.bel hw') rfl (by omega) (by omega)) (qv (vg [vi ((gI (gI p.2 e) (i:Int)).1),vi ((gI (gI p.2 e) (i:Int)).2)]) (λw' hw'=>aM (v:=v14) (i:=↑i) ah rfl (r16.bel hw') (by omega) (by omega) rfl) (qz zs10 (qz zs12 (qx (λw' hw'=>cX (m:=↑k) (n:=1) rfl rfl (by omega)) ?_))))))))
   replace r19:=r19.cn ch32
   refine qx (λw' hw'=>ab (v:=v17) (i:=(k:Int)-1) bZ rfl rfl (r19.bel hw') rfl (by omega) (by omega)) (qv (vg [vi ((gI (gI p.2 ff) ((k:Int)-1)).1),vi ((gI (gI p.2 ff) ((k:Int)-1)).2)]) (λw' hw'=>aM (v:=v17) (i:=(k:Int)-1) ah rfl (r19.bel hw') (by omega) (by omega) rfl) (qz zs10 (qz zs12 (qx (λw' hw'=>ab (v:=v17) (i:=↑k) bZ rfl rfl (r19.bel hw') rfl (by omega) (by omega)) (qv (vg [vi ((gI (gI p.2 ff) (k:Int)).1),vi ((gI (gI p.2 ff) (k:Int)).2)]) (λw' hw'=>aM (v:=v17) (i:=↑k) ah rfl (r19.bel hw') (by omega) (by omega) rfl) ?_)))))
   refine cb (v:=vt [vi ((cS (gI (gI p.2 e) ((i:Int)-1)) (gI (gI p.2 e) (i:Int)) (gI (gI p.2 ff) ((k:Int)-1)) (gI (gI p.2 ff) (k:Int))).1),vi ((cS (gI (gI p.2 e) ((i:Int)-1)) (gI (gI p.2 e) (i:Int)) (gI (gI p.2 ff) ((k:Int)-1)) (gI (gI p.2 ff) (k:Int))).2)]) rfl (λw' hw'=>az (vals:=[vg [vi ((gI (gI p.2 e) ((i:Int)-1)).1),vi ((gI (gI p.2 e) ((i:Int)-1)).2)],vg [vi ((gI (gI p.2 e) (i:Int)).1),vi ((gI (gI p.2 e) (i:Int)).2)],vg [vi ((gI (gI p.2 ff) ((k:Int)-1)).1),vi ((gI (gI p.2 ff) ((k:Int)-1)).2)],vg [vi ((gI (gI p.2 ff) (k:Int)).1),vi ((gI (gI p.2 ff) (k:Int)).2)]]) Try.func40 u8 tD rfl) (λw' hw'=>(tA w' (gI (gI p.2 e) ((i:Int)-1)) (gI (gI p.2 e) (i:Int)) (gI (gI p.2 ff) ((k:Int)-1)) (gI (gI p.2 ff) (k:Int))).mono λe w2 h2=>⟨h2.1,hw'.trans (h2.2.mono hw'.size)⟩) ?_
   refine qm (vt [vi ((cS (gI (gI p.2 e) ((i:Int)-1)) (gI (gI p.2 e) (i:Int)) (gI (gI p.2 ff) ((k:Int)-1)) (gI (gI p.2 ff) (k:Int))).1),vi ((cS (gI (gI p.2 e) ((i:Int)-1)) (gI (gI p.2 e) (i:Int)) (gI (gI p.2 ff) ((k:Int)-1)) (gI (gI p.2 ff) (k:Int))).2)]) (qx (λw' hw'=>b5 rfl rfl) (qx (λw' hw'=>b5 rfl rfl) (qv (vi ((cS (gI (gI p.2 e) ((i:Int)-1)) (gI (gI p.2 e) (i:Int)) (gI (gI p.2 ff) ((k:Int)-1)) (gI (gI p.2 ff) (k:Int))).1)) (λw' hw'=>bi rfl) (qv (vi ((cS (gI (gI p.2 e) ((i:Int)-1)) (gI (gI p.2 e) (i:Int)) (gI (gI p.2 ff) ((k:Int)-1)) (gI (gI p.2 ff) (k:Int))).2)) (λw' hw'=>bi rfl) (bM ?_)))))
   intro w34 hc35
   replace hc35:=aj hc35 g30
   refine a6 (bv g30 rfl kC (by kernel_rfl) ?_)
   intro w37 ch36
   refine qm (vi ((cS (gI (gI p.2 e) ((i:Int)-1)) (gI (gI p.2 e) (i:Int)) (gI (gI p.2 ff) ((k:Int)-1)) (gI (gI p.2 ff) (k:Int))).1)) (qx (λw' hw'=>cu (m:=(cS (gI (gI p.2 e) ((i:Int)-1)) (gI (gI p.2 e) (i:Int)) (gI (gI p.2 ff) ((k:Int)-1)) (gI (gI p.2 ff) (k:Int))).1) (n:=3) rfl rfl) (qm (vb (decide (((cS (gI (gI p.2 e) ((i:Int)-1)) (gI (gI p.2 e) (i:Int)) (gI (gI p.2 ff) ((k:Int)-1)) (gI (gI p.2 ff) (k:Int))).1)=3))) ?_))
   by_cases q61:((cS (gI (gI p.2 e) ((i:Int)-1)) (gI (gI p.2 e) (i:Int)) (gI (gI p.2 ff) ((k:Int)-1)) (gI (gI p.2 ff) (k:Int))).1)=3
   ·
    refine aq (wn (dt q61)) (aq (wn (dt q61)) (aq (wn (dt q61)) (aq (bg rfl rfl rfl) (aq (bg rfl rfl rfl) (aq (bg rfl rfl rfl) (aq (bg rfl rfl rfl) (aq (bg rfl rfl rfl) (aq (bg rfl rfl rfl) (aq (bg rfl rfl rfl) ?_)))))))))
    refine aq (bg rfl rfl rfl) (aq (bg rfl rfl rfl) (aq (bg rfl rfl rfl) (aq (bg rfl rfl rfl) (aq (bg rfl rfl rfl) (aq (bg rfl rfl rfl) (aq (bg rfl rfl rfl) (aq (bg rfl rfl rfl) (aq (bg rfl rfl rfl) (aq (bg rfl rfl rfl) ?_)))))))))
    refine aq (bg rfl rfl rfl) (aq (bg rfl rfl rfl) (aq (bg rfl rfl rfl) (aq (bg rfl rfl rfl) (aq (bg rfl rfl rfl) (aq (bg rfl rfl rfl) (aq (bg rfl rfl rfl) (aq (bg rfl rfl rfl) (aq (bg rfl rfl rfl) (aq (wn (dt q61)) ?_)))))))))
    refine qv (vb true) (λw' hw'=>aD rfl (dt q61) rfl) (bM ?_)
    intro w38 hc39
    replace hc39:=aj hc39 g30
    refine ae rfl rfl (a6 ?_)
    clear bx5 bx10 r16 r19
    refine a5 rfl (ma (vb true) (a8 (av (vs:=[vb true]) Try.func28 (.tmp rfl .nil) ?_)))
    have e0:(true:Bool)=(decide (kW g p e ff)):=by
      exact wJ (rU hi1 ‹_› hk1 ‹_› (xk hO ‹_›))
    have C40:=cg [] (ch32.n.seq (hc35.n.seq (ch36.n.seq hc39.n)))
    replace bH:=bH.ca C40
    exact⟨rb e0,bH.below⟩
   refine aR (v:=vi ((cS (gI (gI p.2 e) ((i:Int)-1)) (gI (gI p.2 e) (i:Int)) (gI (gI p.2 ff) ((k:Int)-1)) (gI (gI p.2 ff) (k:Int))).1)) (wy (df q61)) (λw' hw'=>aw rfl) (aR (v:=vb (decide (0<((cS (gI (gI p.2 e) ((i:Int)-1)) (gI (gI p.2 e) (i:Int)) (gI (gI p.2 ff) ((k:Int)-1)) (gI (gI p.2 ff) (k:Int))).1)))) (wy (df q61)) (λw' hw'=>dZ (m:=(cS (gI (gI p.2 e) ((i:Int)-1)) (gI (gI p.2 e) (i:Int)) (gI (gI p.2 ff) ((k:Int)-1)) (gI (gI p.2 ff) (k:Int))).1) (n:=0) rfl rfl) (aR (v:=vb (decide (0<((cS (gI (gI p.2 e) ((i:Int)-1)) (gI (gI p.2 e) (i:Int)) (gI (gI p.2 ff) ((k:Int)-1)) (gI (gI p.2 ff) (k:Int))).1)))) (wy (df q61)) (λw' hw'=>aw rfl) ?_))
   by_cases q64:0<((cS (gI (gI p.2 e) ((i:Int)-1)) (gI (gI p.2 e) (i:Int)) (gI (gI p.2 ff) ((k:Int)-1)) (gI (gI p.2 ff) (k:Int))).1)
   ·
    have C41:=cg [] (ch32.n.seq (hc35.n.seq ch36.n))
    replace bx5:=bx5.ca C41
    refine aR (v:=vg [vi g.1,g_v]) (wy (dt q64)) (λw' hw'=>ad (ds:=[vi g.1,g_v]) bO zs4 (bx5.bel hw') rfl rfl) ?_
    replace bx10:=bx10.ca C41
    refine aR (v:=vg [p_v,p_v1]) (wy (dt q64)) (λw' hw'=>ad (ds:=[p_v,p_v1]) bJ zs5 (bx10.bel hw') rfl rfl) (aR (v:=vi e) (wy (dt q64)) (λw' hw'=>aw zs2) (aR (v:=vi ff) (wy (dt q64)) (λw' hw'=>aw zs3) (aR (v:=v14) (wy (dt q64)) (λw' hw'=>aw zs9) (aR (v:=vi ↑i) (wy (dt q64)) (λw' hw'=>aw zs11) (aR (v:=vi ((i:Int)-1)) (wy (dt q64)) (λw' hw'=>cX (m:=↑i) (n:=1) rfl rfl (by omega)) ?_)))))
    replace r16:=(r16.cn hc35).cn ch36
    refine aR (v:=Value.pointer (some (aU v14 2 (Int.toNat ((i:Int)-1))))) (wy (dt q64)) (λw' hw'=>ab (α:=Pt) (xs:=gI p.2 e) (v:=v14) (i:=(i:Int)-1) bZ rfl rfl (r16.bel hw') rfl (by omega) (by omega)) (aR (v:=vg [vi ((gI (gI p.2 e) ((i:Int)-1)).1),vi ((gI (gI p.2 e) ((i:Int)-1)).2)]) (wy (dt q64)) (λw' hw'=>aM (α:=Pt) (xs:=gI p.2 e) (v:=v14) (i:=(i:Int)-1) ah rfl (r16.bel hw') (by omega) (by omega) rfl) (aR (v:=v14) (wy (dt q64)) (λw' hw'=>aw zs9) (aR (v:=vi ↑i) (wy (dt q64)) (λw' hw'=>aw zs11) ?_)))
    refine aR (v:=Value.pointer (some (aU v14 2 (Int.toNat ↑i)))) (wy (dt q64)) (λw' hw'=>ab (α:=Pt) (xs:=gI p.2 e) (v:=v14) (i:=↑i) bZ rfl rfl (r16.bel hw') rfl (by omega) (by omega)) (aR (v:=vg [vi ((gI (gI p.2 e) (i:Int)).1),vi ((gI (gI p.2 e) (i:Int)).2)]) (wy (dt q64)) (λw' hw'=>aM (α:=Pt) (xs:=gI p.2 e) (v:=v14) (i:=↑i) ah rfl (r16.bel hw') (by omega) (by omega) rfl) ?_)
    refine aR (v:=vg [vi ((gI (gI p.2 e) ((i:Int)-1)).1),vi ((gI (gI p.2 e) ((i:Int)-1)).2),vi ((gI (gI p.2 e) (i:Int)).1),vi ((gI (gI p.2 e) (i:Int)).2)]) (wy (dt q64)) (λw' hw'=>bz (vs:=[(0,vg [vi ((gI (gI p.2 e) ((i:Int)-1)).1),vi ((gI (gI p.2 e) ((i:Int)-1)).2)]),(1,vg [vi ((gI (gI p.2 e) (i:Int)).1),vi ((gI (gI p.2 e) (i:Int)).2)])]) rfl (by kernel_rfl)) (aR (v:=v17) (wy (dt q64)) (λw' hw'=>aw zs10) (aR (v:=vi ↑k) (wy (dt q64)) (λw' hw'=>aw zs12) ?_))
    refine aR (v:=vi ((k:Int)-1)) (wy (dt q64)) (λw' hw'=>cX (m:=↑k) (n:=1) rfl rfl (by omega)) ?_
    replace r19:=(r19.cn hc35).cn ch36
    refine aR (v:=Value.pointer (some (aU v17 2 (Int.toNat ((k:Int)-1))))) (wy (dt q64)) (λw' hw'=>ab (α:=Pt) (xs:=gI p.2 ff) (v:=v17) (i:=(k:Int)-1) bZ rfl rfl (r19.bel hw') rfl (by omega) (by omega)) (aR (v:=vg [vi ((gI (gI p.2 ff) ((k:Int)-1)).1),vi ((gI (gI p.2 ff) ((k:Int)-1)).2)]) (wy (dt q64)) (λw' hw'=>aM (α:=Pt) (xs:=gI p.2 ff) (v:=v17) (i:=(k:Int)-1) ah rfl (r19.bel hw') (by omega) (by omega) rfl) (aR (v:=v17) (wy (dt q64)) (λw' hw'=>aw zs10) (aR (v:=vi ↑k) (wy (dt q64)) (λw' hw'=>aw zs12) ?_)))
    refine aR (v:=Value.pointer (some (aU v17 2 (Int.toNat ↑k)))) (wy (dt q64)) (λw' hw'=>ab (α:=Pt) (xs:=gI p.2 ff) (v:=v17) (i:=↑k) bZ rfl rfl (r19.bel hw') rfl (by omega) (by omega)) (aR (v:=vg [vi ((gI (gI p.2 ff) (k:Int)).1),vi ((gI (gI p.2 ff) (k:Int)).2)]) (wy (dt q64)) (λw' hw'=>aM (α:=Pt) (xs:=gI p.2 ff) (v:=v17) (i:=↑k) ah rfl (r19.bel hw') (by omega) (by omega) rfl) ?_)
    refine aR (v:=vg [vi ((gI (gI p.2 ff) ((k:Int)-1)).1),vi ((gI (gI p.2 ff) ((k:Int)-1)).2),vi ((gI (gI p.2 ff) (k:Int)).1),vi ((gI (gI p.2 ff) (k:Int)).2)]) (wy (dt q64)) (λw' hw'=>bz (vs:=[(0,vg [vi ((gI (gI p.2 ff) ((k:Int)-1)).1),vi ((gI (gI p.2 ff) ((k:Int)-1)).2)]),(1,vg [vi ((gI (gI p.2 ff) (k:Int)).1),vi ((gI (gI p.2 ff) (k:Int)).2)])]) rfl (by kernel_rfl)) ?_
    replace Rg:=Rg.ca C41
    replace Rp:=Rp.ca C41
    replace r_p_v1:=r_p_v1.ca C41
    refine cb (v:=vb (decide (eJ g p e ff ((gI (gI p.2 e) ((i:Int)-1)),(gI (gI p.2 e) (i:Int))) ((gI (gI p.2 ff) ((k:Int)-1)),(gI (gI p.2 ff) (k:Int)))))) (wy (dt q64)) (λw' hw'=>az (vals:=[vg [vi g.1,g_v],vg [p_v,p_v1],vi e,vi ff,vg [vi ((gI (gI p.2 e) ((i:Int)-1)).1),vi ((gI (gI p.2 e) ((i:Int)-1)).2),vi ((gI (gI p.2 e) (i:Int)).1),vi ((gI (gI p.2 e) (i:Int)).2)],vg [vi ((gI (gI p.2 ff) ((k:Int)-1)).1),vi ((gI (gI p.2 ff) ((k:Int)-1)).2),vi ((gI (gI p.2 ff) (k:Int)).1),vi ((gI (gI p.2 ff) (k:Int)).2)]]) Try.func41 tC u6 rfl) (λw' hw'=>(qp w' g g_v ((Rg.bel hw')).ro p p_v p_v1 ((Rp.bel hw')).ro ((r_p_v1.bel hw')).ro e ff ((gI (gI p.2 e) ((i:Int)-1)),(gI (gI p.2 e) (i:Int))) ((gI (gI p.2 ff) ((k:Int)-1)),(gI (gI p.2 ff) (k:Int))) ‹_› ‹_› ‹_› ‹_› ‹_›).mono λe w2 h2=>⟨h2.1,hw'.trans (h2.2.mono hw'.size)⟩) ?_
    refine aR (v:=vb (!(decide (eJ g p e ff ((gI (gI p.2 e) ((i:Int)-1)),(gI (gI p.2 e) (i:Int))) ((gI (gI p.2 ff) ((k:Int)-1)),(gI (gI p.2 ff) (k:Int))))))) (wy (dt q64)) (λw' hw'=>cm (b:=(decide (eJ g p e ff ((gI (gI p.2 e) ((i:Int)-1)),(gI (gI p.2 e) (i:Int))) ((gI (gI p.2 ff) ((k:Int)-1)),(gI (gI p.2 ff) (k:Int)))))) rfl) (aR (v:=vb (!(decide (eJ g p e ff ((gI (gI p.2 e) ((i:Int)-1)),(gI (gI p.2 e) (i:Int))) ((gI (gI p.2 ff) ((k:Int)-1)),(gI (gI p.2 ff) (k:Int))))))) (wy (df q61)) (λw' hw'=>aD rfl (dt q64) rfl) ?_)
    refine qv (vb (!(decide (eJ g p e ff ((gI (gI p.2 e) ((i:Int)-1)),(gI (gI p.2 e) (i:Int))) ((gI (gI p.2 ff) ((k:Int)-1)),(gI (gI p.2 ff) (k:Int))))))) (λw' hw'=>aB rfl (df q61) rfl) (bM ?_)
    intro w42 hc43
    replace hc43:=aj hc43 g30
    by_cases p9:(decide (eJ g p e ff ((gI (gI p.2 e) ((i:Int)-1)),(gI (gI p.2 e) (i:Int))) ((gI (gI p.2 ff) ((k:Int)-1)),(gI (gI p.2 ff) (k:Int)))))=true
    ·
     refine af rfl (congrArg Bool.not p9) (am (ak (a5 rfl (mz zs12 (lx (aQ (m:=↑k) (n:=1) rfl rfl (by omega)) (ai ((k:Int)+1) (a8 ?_)))))))
     have C44:=cg [] (ch32.n.seq (hc35.n.seq (ch36.n.seq hc43.n)))
     refine back6 (k+1,g30) _ _ ⟨bH.ca C44,zs2,zs3,zs4,zs5,zs9,zs10,zs11,rfl,Rg.cn hc43,Rp.cn hc43,r_p_v1.cn hc43,bx5.cn hc43,bx10.cn hc43,r16.cn hc43,r19.cn hc43,by omega,?_⟩ ?_
     · show 1<=(k+1)/\∀q:Nat,q+1<(k+1)->di (gI (gI p.2 e) ((i:Int)-1),gI (gI p.2 e) (i:Int)) (gI (gI p.2 ff) (q:Int),gI (gI p.2 ff) ((q:Int)+1)) (iE g p e ff)
       exact nA hk (xm hO ‹_› ‹_› ‹_›)
     · show List.length (gI p.2 ff)-(k+1)<List.length (gI p.2 ff)-k
       omega
    refine ae rfl (congrArg Bool.not (Bool.eq_false_iff.2 p9)) (a6 ?_)
    clear bx5 bx10 r16 r19
    refine a5 rfl (ma (vb true) (a8 (av (vs:=[vb true]) Try.func28 (.tmp rfl .nil) ?_)))
    have e0:(true:Bool)=(decide (kW g p e ff)):=by
      exact wJ (rU hi1 ‹_› hk1 ‹_› (xH hO ‹_› ‹_›))
    have C45:=cg [] (ch32.n.seq (hc35.n.seq (ch36.n.seq hc43.n)))
    replace bH:=bH.ca C45
    exact⟨rb e0,bH.below⟩
   refine aq (wn (df q64)) (aq (wn (df q64)) (aq (wn (df q64)) (aq (wn (df q64)) (aq (wn (df q64)) (aq (wn (df q64)) (aq (wn (df q64)) (aq (wn (df q64)) (aq (wn (df q64)) (aq (wn (df q64)) ?_)))))))))
   refine aq (wn (df q64)) (aq (wn (df q64)) (aq (wn (df q64)) (aq (wn (df q64)) (aq (wn (df q64)) (aq (wn (df q64)) (aq (wn (df q64)) (aq (wn (df q64)) (aq (wn (df q64)) (aq (wn (df q64)) ?_)))))))))
   refine aq (wn (df q64)) (aq (wn (df q64)) (aq (wn (df q64)) (aq (wn (df q64)) (aq (wn (df q64)) (aq (wn (df q64)) (aR (v:=vb false) (wy (df q61)) (λw' hw'=>aB rfl (df q64) rfl) (qv (vb false) (λw' hw'=>aB rfl (df q61) rfl) (bM ?_))))))))
   intro w46 hc47
   replace hc47:=aj hc47 g30
   refine af rfl rfl (am (ak (a5 rfl (mz zs12 (lx (aQ (m:=↑k) (n:=1) rfl rfl (by omega)) (ai ((k:Int)+1) (a8 ?_)))))))
   have C49:=cg [] (hc35.n.seq (ch36.n.seq hc47.n))
   have C48:=ch32.n.seq C49
   refine back6 (k+1,g30) _ _ ⟨bH.ca C48,zs2,zs3,zs4,zs5,zs9,zs10,zs11,rfl,Rg.ca C48,Rp.ca C48,r_p_v1.ca C48,bx5.ca C48,bx10.ca C48,r16.ca C49,r19.ca C49,by omega,?_⟩ ?_
   · show 1<=(k+1)/\∀q:Nat,q+1<(k+1)->di (gI (gI p.2 e) ((i:Int)-1),gI (gI p.2 e) (i:Int)) (gI (gI p.2 ff) (q:Int),gI (gI p.2 ff) ((q:Int)+1)) (iE g p e ff)
     exact nA hk (xC hO ‹_› ‹_›)
   · show List.length (gI p.2 ff)-(k+1)<List.length (gI p.2 ff)-k
     omega
  refine af rfl (df p6) (aO rfl (ak (a5 rfl (mz zs11 (lx (aQ (m:=↑i) (n:=1) rfl rfl (by omega)) (ai ((i:Int)+1) (a8 ?_)))))))
  refine back3 (i+1,g30) _ _ ⟨bH,zs2,zs3,zs4,zs5,zs9,zs10,rfl,Rg,Rp,r_p_v1,bx5,bx10,r16,r19,by omega,?_⟩ ?_
  · show 1<=(i+1)/\∀j:Nat,j+1<(i+1)->∀q:Nat,q+1<(gI p.2 ff).length->di (gI (gI p.2 e) (j:Int),gI (gI p.2 e) ((j:Int)+1)) (gI (gI p.2 ff) (q:Int),gI (gI p.2 ff) ((q:Int)+1)) (iE g p e ff)
    exact sR hi hk ‹_›
  · show List.length (gI p.2 e)-(i+1)<List.length (gI p.2 e)-i
    omega
 refine af rfl (df p3) (aO rfl (a6 ?_))
 clear bx5 bx10 r16 r19
 refine a5 rfl (ma (vb false) (a8 (av (vs:=[vb false]) Try.func28 (.tmp rfl .nil) ?_)))
 have e0:(false:Bool)=(decide (kW g p e ff)):=by
   exact xK (uM hi ‹_›)
 exact⟨rb e0,bH.below⟩
end TL
