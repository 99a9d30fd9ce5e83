import Derived.Test.YtkhfimgjcdeejaaTlP2
import Derived.Test.YtkhfimgjcdeejaaTlGmA
import Derived.Test.YtkhfimgjcdeejaaTlGmM
import Derived.Test.YtkhfimgjcdeejaaTlGenA
import Derived.Test.YtkhfimgjcdeejaaTlGdA
import Derived.Test.YtkhfimgjcdeejaaTlGjC
import Derived.Test.YtkhfimgjcdeejaaTlMmA
import Derived.Test.YtkhfimgjcdeejaaTlMmB
import Derived.Test.YtkhfimgjcdeejaaTlMsA
import Derived.Test.YtkhfimgjcdeejaaProg
import Derived.Test.YtkhfimgjcdeejaaTlAli
set_option linter.all false
set_option maxRecDepth 20000
namespace TL
open Go Go.Proofs
theorem iq:Try.prog.follows .mixedOrders=true:=by kernel_rfl
theorem pZ:Try.f40.body.isNone=false:=rfl
theorem pF:(Try.f40.name== "runtime.NumGoroutine")=false:=by decide+kernel
theorem px:Try.f41.body.isNone=false:=rfl
theorem qc:(Try.f41.name== "runtime.NumGoroutine")=false:=by decide+kernel
set_option maxHeartbeats 4000000 in
theorem mP(w0:World)(g:(Int)×(List Pt))(g_v:Value)(hg_v:Ro w0 g_v g.2)(p:(List Pt)×(List (List Pt)))(p_v p_v1:Value)(hp_v:Ro w0 p_v p.1)(hp_v1:Ro w0 p_v1 p.2)(e:Int)(ff:Int)(hm:dd g)(hs:ni g p)(he:0<=e/\e<(g.2.length:Int))(hf:0<=ff/\ff<(g.2.length:Int)):
    Calls Try.prog 28 #[vg [vi g.1,g_v],vg [p_v,p_v1],vi e,vi ff] w0 (λee w=>ee= .returned (vb (decide (mX g p e ff)))/\cG w0.heap.size w0 w):=by
 refine aK Try.func28 rfl nq ?_
 have bH:=bu.start w0
 have Rg:=hg_v.sl
 have Rp:=hp_v.sl
 have r_p_v1:=hp_v1.sl
 have he0:=he.1
 have he1:=he.2
 have hf0:=hf.1
 have hf1:=hf.2
 have hs2:=hs.m
 obtain⟨ha1,ha3⟩:=hs.ln e he0 (by omega)
 obtain⟨hb1,hb3⟩:=hs.ln ff hf0 (by omega)
 have ha2:=ha3.1
 have hb2:=hb3.1
 refine a8 (a7 rfl (cN rfl (bC c0 (is 1) (1,0) rfl rfl ?_)))
 intro g4 w1 b3 ch2 bx5
 replace bx5:Bx g4 (is 1) w1 b3 [vi g.1,g_v]:=bx5
 refine lo (bC g4 (is 2) (2,0) rfl rfl ?_)
 intro g9 w6 b8 ch7 bx10
 replace bx10:Bx g9 (is 2) w6 b8 [p_v,p_v1]:=bx10
 refine ma (vb false) (ab (a8 (bq g9 rfl iq (by kernel_rfl) ?_)))
 intro w12 ch11
 refine qx (λw' hw'=>a9 eQ rfl rfl rfl rfl) ?_
 replace bx10:=bx10.cn ch11
 refine qx (λw' hw'=>aa cP rfl (bx10.bel hw') rfl) (qm (vi e) ?_)
 have C13:=cg [] (ch2.n.seq (ch7.n.seq ch11.n))
 replace r_p_v1:=r_p_v1.ca C13
 refine qx (λw' hw'=>af (v:=p_v1) (i:=e) iL rfl rfl (r_p_v1.bel hw') rfl (by omega) (by omega)) ?_
 obtain⟨v14,cel15,r16⟩:=dK (r:=e) r_p_v1 (by omega) (by omega)
 refine qx (λw' hw'=>aZ bD rfl (lU cel15 hw')) (qx (λw' hw'=>a9 eQ rfl rfl rfl rfl) (qx (λw' hw'=>aa cP rfl (bx10.bel hw') rfl) (qm (vi ff) (qx (λw' hw'=>af (v:=p_v1) (i:=ff) iL rfl rfl (r_p_v1.bel hw') rfl (by omega) (by omega)) ?_))))
 obtain⟨v17,cel18,r19⟩:=dK (r:=ff) r_p_v1 (by omega) (by omega)
 refine qx (λw' hw'=>aZ bD rfl (lU cel18 hw')) (qv (v14) (λw' hw'=>bw rfl) (qv (v17) (λw' hw'=>bw rfl) (bT ?_)))
 intro w20 hc21
 replace hc21:=am hc21 g9
 refine a8 (a8 (a7 rfl (ai 1 (ab (aC ?_)))))
 refine bF (σ:=Nat×aV) (λ⟨i,gq⟩ f w=>bu w0 gq w/\f 2=vi e/\f 3=vi ff/\f 4=vp b3 0/\f 5=vp b8 0/\f 9=v14/\f 10=v17/\f 11=vi ↑i/\Sl gq (is 0) w g_v g.2/\Sl gq (is 0) w p_v p.1/\Sl gq (is 0) w p_v1 p.2/\Bx gq (is 1) w b3 [vi g.1,g_v]/\Bx gq (is 2) w b8 [p_v,p_v1]/\Sl gq (is 0) w v14 (gI p.2 e)/\Sl gq (is 0) w v17 (gI p.2 ff)/\(i:Int)<=((List.length (gI p.2 e):Int):Int)/\(1<=i/\∀j:Nat,j+1<i->∀q:Nat,q+1<(gI p.2 ff).length->d8 (gI (gI p.2 e) (j:Int),gI (gI p.2 e) ((j:Int)+1)) (gI (gI p.2 ff) (q:Int),gI (gI p.2 ff) ((q:Int)+1)) (iZ g p e ff))) (λ⟨i,gq⟩=>List.length (gI p.2 e)-i) (1,g9) ?_ ?_
 have C23:=cg [] (ch7.n.seq (ch11.n.seq hc21.n))
 have C22:=ch2.n.seq C23
 · exact⟨bH.ca C22,rfl,rfl,rfl,rfl,rfl,rfl,rfl,Rg.ca C22,Rp.ca C22,r_p_v1.cn hc21,bx5.ca C23,bx10.cn hc21,r16.cn hc21,r19.cn hc21,by omega,by exact⟨Nat.le_refl _,λj hj=>by omega⟩⟩
 clear Rg Rp r_p_v1 bx5 bx10 r16 r19 bH
 rintro⟨i,g26⟩ f24 w25 ⟨bH,zs2,zs3,zs4,zs5,zs9,zs10,zs11,Rg,Rp,r_p_v1,bx5,bx10,r16,r19,hle_i,hi⟩ back3
 have hi1:=hi.1
 refine a8 (a8 (a7 rfl (mz zs11 (mz zs9 ?_))))
 have len27:=(r16).small
 refine lx (bO cT rfl r16) (lx (bc (m:=↑i) (n:=(List.length (gI p.2 e):Int)) rfl rfl) (ab ?_))
 by_cases p3:(i:Int)<(List.length (gI p.2 e):Int)
 ·
  refine ag rfl (dt p3) (au (a8 (aC (a8 (a7 rfl (ai 1 (ab (aC ?_))))))))
  refine bF (σ:=Nat×aV) (λ⟨k,gq⟩ f w=>bu w0 gq w/\f 2=vi e/\f 3=vi ff/\f 4=vp b3 0/\f 5=vp b8 0/\f 9=v14/\f 10=v17/\f 11=vi ↑i/\f 12=vi ↑k/\Sl gq (is 0) w g_v g.2/\Sl gq (is 0) w p_v p.1/\Sl gq (is 0) w p_v1 p.2/\Bx gq (is 1) w b3 [vi g.1,g_v]/\Bx gq (is 2) w b8 [p_v,p_v1]/\Sl gq (is 0) w v14 (gI p.2 e)/\Sl gq (is 0) w v17 (gI p.2 ff)/\(k:Int)<=((List.length (gI p.2 ff):Int):Int)/\(1<=k/\∀q:Nat,q+1<k->d8 (gI (gI p.2 e) ((i:Int)-1),gI (gI p.2 e) (i:Int)) (gI (gI p.2 ff) (q:Int),gI (gI p.2 ff) ((q:Int)+1)) (iZ g p e ff))) (λ⟨k,gq⟩=>List.length (gI p.2 ff)-k) (1,g26) ?_ ?_
  · exact⟨bH,zs2,zs3,zs4,zs5,zs9,zs10,zs11,rfl,Rg,Rp,r_p_v1,bx5,bx10,r16,r19,by omega,by exact⟨Nat.le_refl _,λj hj=>by omega⟩⟩
  clear Rg Rp r_p_v1 bx5 bx10 r16 r19 bH
  rintro⟨k,g30⟩ f28 w29 ⟨bH,zs2,zs3,zs4,zs5,zs9,zs10,zs11,zs12,Rg,Rp,r_p_v1,bx5,bx10,r16,r19,hle_k,hk⟩ back6
  have hk1:=hk.1
  refine a8 (a8 (a7 rfl (mz zs12 (mz zs10 ?_))))
  have len31:=(r19).small
  refine lx (bO cT rfl r19) (lx (bc (m:=↑k) (n:=(List.length (gI p.2 ff):Int)) rfl rfl) (ab ?_))
  by_cases p6:(k:Int)<(List.length (gI p.2 ff):Int)
  ·
   refine ag rfl (dt p6) ?_
   have hO:pM (gI (gI p.2 e) ((i:Int)-1),gI (gI p.2 e) (i:Int)) (gI (gI p.2 ff) ((k:Int)-1),gI (gI p.2 ff) (k:Int)):=⟨ha3.2 _ (bl (by omega) (by omega)),ha3.2 _ (bl (by omega) (by omega)),hb3.2 _ (bl (by omega) (by omega)),hb3.2 _ (bl (by omega) (by omega))⟩
   refine au (a8 (aC (a8 (bq g30 rfl iq (by kernel_rfl) ?_))))
   intro w33 ch32
   refine qz zs9 (qz zs11 (qx (λw' hw'=>cW (m:=↑i) (n:=1) rfl rfl (by omega)) ?_))
   replace r16:=r16.cn ch32
   refine qx (λw' hw'=>af (v:=v14) (i:=(i:Int)-1) cT rfl rfl (r16.bel hw') rfl (by omega) (by omega)) (qv (vg [vi ((gI (gI p.2 e) ((i:Int)-1)).1),vi ((gI (gI p.2 e) ((i:Int)-1)).2)]) (λw' hw'=>aT (v:=v14) (i:=(i:Int)-1) aj rfl (r16.bel hw') (by omega) (by omega) rfl) (qz zs9 (qz zs11 (qx (λw' hw'=>af (v:=v14) (i:=↑i) cT rfl rfl (r16.bel hw') rfl (by omega) (by omega)) (qv (vg [vi ((gI (gI p.2 e) (i:Int)).1),vi ((gI (gI p.2 e) (i:Int)).2)]) (λw' hw'=>aT (v:=v14) (i:=↑i) aj rfl (r16.bel hw') (by omega) (by omega) rfl) (qz zs10 (qz zs12 (qx (λw' hw'=>cW (m:=↑k) (n:=1) rfl rfl (by omega)) ?_))))))))
   replace r19:=r19.cn ch32
   refine qx (λw' hw'=>af (v:=v17) (i:=(k:Int)-1) cT rfl rfl (r19.bel hw') rfl (by omega) (by omega)) (qv (vg [vi ((gI (gI p.2 ff) ((k:Int)-1)).1),vi ((gI (gI p.2 ff) ((k:Int)-1)).2)]) (λw' hw'=>aT (v:=v17) (i:=(k:Int)-1) aj rfl (r19.bel hw') (by omega) (by omega) rfl) (qz zs10 (qz zs12 (qx (λw' hw'=>af (v:=v17) (i:=↑k) cT rfl rfl (r19.bel hw') rfl (by omega) (by omega)) (qv (vg [vi ((gI (gI p.2 ff) (k:Int)).1),vi ((gI (gI p.2 ff) (k:Int)).2)]) (λw' hw'=>aT (v:=v17) (i:=↑k) aj rfl (r19.bel hw') (by omega) (by omega) rfl) ?_)))))
   refine cv (v:=vt [vi ((cd (gI (gI p.2 e) ((i:Int)-1)) (gI (gI p.2 e) (i:Int)) (gI (gI p.2 ff) ((k:Int)-1)) (gI (gI p.2 ff) (k:Int))).1),vi ((cd (gI (gI p.2 e) ((i:Int)-1)) (gI (gI p.2 e) (i:Int)) (gI (gI p.2 ff) ((k:Int)-1)) (gI (gI p.2 ff) (k:Int))).2)]) rfl (λw' hw'=>aG (vals:=[vg [vi ((gI (gI p.2 e) ((i:Int)-1)).1),vi ((gI (gI p.2 e) ((i:Int)-1)).2)],vg [vi ((gI (gI p.2 e) (i:Int)).1),vi ((gI (gI p.2 e) (i:Int)).2)],vg [vi ((gI (gI p.2 ff) ((k:Int)-1)).1),vi ((gI (gI p.2 ff) ((k:Int)-1)).2)],vg [vi ((gI (gI p.2 ff) (k:Int)).1),vi ((gI (gI p.2 ff) (k:Int)).2)]]) Try.func40 pZ pF rfl) (λw' hw'=>(pd w' (gI (gI p.2 e) ((i:Int)-1)) (gI (gI p.2 e) (i:Int)) (gI (gI p.2 ff) ((k:Int)-1)) (gI (gI p.2 ff) (k:Int))).mono λe w2 h2=>⟨h2.1,hw'.trans (h2.2.mono hw'.size)⟩) ?_
   refine qm (vt [vi ((cd (gI (gI p.2 e) ((i:Int)-1)) (gI (gI p.2 e) (i:Int)) (gI (gI p.2 ff) ((k:Int)-1)) (gI (gI p.2 ff) (k:Int))).1),vi ((cd (gI (gI p.2 e) ((i:Int)-1)) (gI (gI p.2 e) (i:Int)) (gI (gI p.2 ff) ((k:Int)-1)) (gI (gI p.2 ff) (k:Int))).2)]) (qx (λw' hw'=>bg rfl rfl) (qx (λw' hw'=>bg rfl rfl) (qv (vi ((cd (gI (gI p.2 e) ((i:Int)-1)) (gI (gI p.2 e) (i:Int)) (gI (gI p.2 ff) ((k:Int)-1)) (gI (gI p.2 ff) (k:Int))).1)) (λw' hw'=>bw rfl) (qv (vi ((cd (gI (gI p.2 e) ((i:Int)-1)) (gI (gI p.2 e) (i:Int)) (gI (gI p.2 ff) ((k:Int)-1)) (gI (gI p.2 ff) (k:Int))).2)) (λw' hw'=>bw rfl) (bT ?_)))))
   intro w34 hc35
   replace hc35:=am hc35 g30
   refine a8 (bq g30 rfl iq (by kernel_rfl) ?_)
   intro w37 ch36
   refine qm (vi ((cd (gI (gI p.2 e) ((i:Int)-1)) (gI (gI p.2 e) (i:Int)) (gI (gI p.2 ff) ((k:Int)-1)) (gI (gI p.2 ff) (k:Int))).1)) (qx (λw' hw'=>d7 (m:=(cd (gI (gI p.2 e) ((i:Int)-1)) (gI (gI p.2 e) (i:Int)) (gI (gI p.2 ff) ((k:Int)-1)) (gI (gI p.2 ff) (k:Int))).1) (n:=3) rfl rfl) (qm (vb (decide (((cd (gI (gI p.2 e) ((i:Int)-1)) (gI (gI p.2 e) (i:Int)) (gI (gI p.2 ff) ((k:Int)-1)) (gI (gI p.2 ff) (k:Int))).1)=3))) ?_))
   by_cases q61:((cd (gI (gI p.2 e) ((i:Int)-1)) (gI (gI p.2 e) (i:Int)) (gI (gI p.2 ff) ((k:Int)-1)) (gI (gI p.2 ff) (k:Int))).1)=3
   ·
    refine aU (wn (dt q61)) (aU (wn (dt q61)) (aU (wn (dt q61)) (aU (bx rfl rfl rfl) (aU (bx rfl rfl rfl) (aU (bx rfl rfl rfl) (aU (bx rfl rfl rfl) (aU (bx rfl rfl rfl) (aU (bx rfl rfl rfl) (aU (bx rfl rfl rfl) ?_)))))))))
    refine aU (bx rfl rfl rfl) (aU (bx rfl rfl rfl) (aU (bx rfl rfl rfl) (aU (bx rfl rfl rfl) (aU (bx rfl rfl rfl) (aU (bx rfl rfl rfl) (aU (bx rfl rfl rfl) (aU (bx rfl rfl rfl) (aU (bx rfl rfl rfl) (aU (bx rfl rfl rfl) ?_)))))))))
    refine aU (bx rfl rfl rfl) (aU (bx rfl rfl rfl) (aU (bx rfl rfl rfl) (aU (bx rfl rfl rfl) (aU (bx rfl rfl rfl) (aU (bx rfl rfl rfl) (aU (bx rfl rfl rfl) (aU (bx rfl rfl rfl) (aU (bx rfl rfl rfl) (aU (wn (dt q61)) ?_)))))))))
    refine qv (vb true) (λw' hw'=>aM rfl (dt q61) rfl) (bT ?_)
    intro w38 hc39
    replace hc39:=am hc39 g30
    refine ag rfl rfl (a8 ?_)
    clear bx5 bx10 r16 r19
    refine a7 rfl (ma (vb true) (ab (aw (vs:=[vb true]) Try.func28 (.tmp rfl .nil) ?_)))
    have e0:(true:Bool)=(decide (mX g p e ff)):=by
      exact sM (nu hi1 ‹_› hk1 ‹_› (t9 hO ‹_›))
    have C40:=cg [] (ch32.n.seq (hc35.n.seq (ch36.n.seq hc39.n)))
    replace bH:=bH.ca C40
    exact⟨rb e0,bH.below⟩
   refine bv (v:=vi ((cd (gI (gI p.2 e) ((i:Int)-1)) (gI (gI p.2 e) (i:Int)) (gI (gI p.2 ff) ((k:Int)-1)) (gI (gI p.2 ff) (k:Int))).1)) (wy (df q61)) (λw' hw'=>aR rfl) (bv (v:=vb (decide (0<((cd (gI (gI p.2 e) ((i:Int)-1)) (gI (gI p.2 e) (i:Int)) (gI (gI p.2 ff) ((k:Int)-1)) (gI (gI p.2 ff) (k:Int))).1)))) (wy (df q61)) (λw' hw'=>ez (m:=(cd (gI (gI p.2 e) ((i:Int)-1)) (gI (gI p.2 e) (i:Int)) (gI (gI p.2 ff) ((k:Int)-1)) (gI (gI p.2 ff) (k:Int))).1) (n:=0) rfl rfl) (bv (v:=vb (decide (0<((cd (gI (gI p.2 e) ((i:Int)-1)) (gI (gI p.2 e) (i:Int)) (gI (gI p.2 ff) ((k:Int)-1)) (gI (gI p.2 ff) (k:Int))).1)))) (wy (df q61)) (λw' hw'=>aR rfl) ?_))
   by_cases q64:0<((cd (gI (gI p.2 e) ((i:Int)-1)) (gI (gI p.2 e) (i:Int)) (gI (gI p.2 ff) ((k:Int)-1)) (gI (gI p.2 ff) (k:Int))).1)
   ·
    have C41:=cg [] (ch32.n.seq (hc35.n.seq ch36.n))
    replace bx5:=bx5.ca C41
    refine bv (v:=vg [vi g.1,g_v]) (wy (dt q64)) (λw' hw'=>ae (ds:=[vi g.1,g_v]) bS zs4 (bx5.bel hw') rfl rfl) ?_
    replace bx10:=bx10.ca C41
    refine bv (v:=vg [p_v,p_v1]) (wy (dt q64)) (λw' hw'=>ae (ds:=[p_v,p_v1]) bP zs5 (bx10.bel hw') rfl rfl) (bv (v:=vi e) (wy (dt q64)) (λw' hw'=>aR zs2) (bv (v:=vi ff) (wy (dt q64)) (λw' hw'=>aR zs3) (bv (v:=v14) (wy (dt q64)) (λw' hw'=>aR zs9) (bv (v:=vi ↑i) (wy (dt q64)) (λw' hw'=>aR zs11) (bv (v:=vi ((i:Int)-1)) (wy (dt q64)) (λw' hw'=>cW (m:=↑i) (n:=1) rfl rfl (by omega)) ?_)))))
    replace r16:=(r16.cn hc35).cn ch36
    refine bv (v:=Value.pointer (some (bb v14 2 (Int.toNat ((i:Int)-1))))) (wy (dt q64)) (λw' hw'=>af (α:=Pt) (xs:=gI p.2 e) (v:=v14) (i:=(i:Int)-1) cT rfl rfl (r16.bel hw') rfl (by omega) (by omega)) (bv (v:=vg [vi ((gI (gI p.2 e) ((i:Int)-1)).1),vi ((gI (gI p.2 e) ((i:Int)-1)).2)]) (wy (dt q64)) (λw' hw'=>aT (α:=Pt) (xs:=gI p.2 e) (v:=v14) (i:=(i:Int)-1) aj rfl (r16.bel hw') (by omega) (by omega) rfl) (bv (v:=v14) (wy (dt q64)) (λw' hw'=>aR zs9) (bv (v:=vi ↑i) (wy (dt q64)) (λw' hw'=>aR zs11) ?_)))
    refine bv (v:=Value.pointer (some (bb v14 2 (Int.toNat ↑i)))) (wy (dt q64)) (λw' hw'=>af (α:=Pt) (xs:=gI p.2 e) (v:=v14) (i:=↑i) cT rfl rfl (r16.bel hw') rfl (by omega) (by omega)) (bv (v:=vg [vi ((gI (gI p.2 e) (i:Int)).1),vi ((gI (gI p.2 e) (i:Int)).2)]) (wy (dt q64)) (λw' hw'=>aT (α:=Pt) (xs:=gI p.2 e) (v:=v14) (i:=↑i) aj rfl (r16.bel hw') (by omega) (by omega) rfl) ?_)
    refine bv (v:=vg [vi ((gI (gI p.2 e) ((i:Int)-1)).1),vi ((gI (gI p.2 e) ((i:Int)-1)).2),vi ((gI (gI p.2 e) (i:Int)).1),vi ((gI (gI p.2 e) (i:Int)).2)]) (wy (dt q64)) (λw' hw'=>bB (vs:=[(0,vg [vi ((gI (gI p.2 e) ((i:Int)-1)).1),vi ((gI (gI p.2 e) ((i:Int)-1)).2)]),(1,vg [vi ((gI (gI p.2 e) (i:Int)).1),vi ((gI (gI p.2 e) (i:Int)).2)])]) rfl (by kernel_rfl)) (bv (v:=v17) (wy (dt q64)) (λw' hw'=>aR zs10) (bv (v:=vi ↑k) (wy (dt q64)) (λw' hw'=>aR zs12) ?_))
    refine bv (v:=vi ((k:Int)-1)) (wy (dt q64)) (λw' hw'=>cW (m:=↑k) (n:=1) rfl rfl (by omega)) ?_
    replace r19:=(r19.cn hc35).cn ch36
    refine bv (v:=Value.pointer (some (bb v17 2 (Int.toNat ((k:Int)-1))))) (wy (dt q64)) (λw' hw'=>af (α:=Pt) (xs:=gI p.2 ff) (v:=v17) (i:=(k:Int)-1) cT rfl rfl (r19.bel hw') rfl (by omega) (by omega)) (bv (v:=vg [vi ((gI (gI p.2 ff) ((k:Int)-1)).1),vi ((gI (gI p.2 ff) ((k:Int)-1)).2)]) (wy (dt q64)) (λw' hw'=>aT (α:=Pt) (xs:=gI p.2 ff) (v:=v17) (i:=(k:Int)-1) aj rfl (r19.bel hw') (by omega) (by omega) rfl) (bv (v:=v17) (wy (dt q64)) (λw' hw'=>aR zs10) (bv (v:=vi ↑k) (wy (dt q64)) (λw' hw'=>aR zs12) ?_)))
    refine bv (v:=Value.pointer (some (bb v17 2 (Int.toNat ↑k)))) (wy (dt q64)) (λw' hw'=>af (α:=Pt) (xs:=gI p.2 ff) (v:=v17) (i:=↑k) cT rfl rfl (r19.bel hw') rfl (by omega) (by omega)) (bv (v:=vg [vi ((gI (gI p.2 ff) (k:Int)).1),vi ((gI (gI p.2 ff) (k:Int)).2)]) (wy (dt q64)) (λw' hw'=>aT (α:=Pt) (xs:=gI p.2 ff) (v:=v17) (i:=↑k) aj rfl (r19.bel hw') (by omega) (by omega) rfl) ?_)
    refine bv (v:=vg [vi ((gI (gI p.2 ff) ((k:Int)-1)).1),vi ((gI (gI p.2 ff) ((k:Int)-1)).2),vi ((gI (gI p.2 ff) (k:Int)).1),vi ((gI (gI p.2 ff) (k:Int)).2)]) (wy (dt q64)) (λw' hw'=>bB (vs:=[(0,vg [vi ((gI (gI p.2 ff) ((k:Int)-1)).1),vi ((gI (gI p.2 ff) ((k:Int)-1)).2)]),(1,vg [vi ((gI (gI p.2 ff) (k:Int)).1),vi ((gI (gI p.2 ff) (k:Int)).2)])]) rfl (by kernel_rfl)) ?_
    replace Rg:=Rg.ca C41
    replace Rp:=Rp.ca C41
    replace r_p_v1:=r_p_v1.ca C41
    refine cv (v:=vb (decide (dE g p e ff ((gI (gI p.2 e) ((i:Int)-1)),(gI (gI p.2 e) (i:Int))) ((gI (gI p.2 ff) ((k:Int)-1)),(gI (gI p.2 ff) (k:Int)))))) (wy (dt q64)) (λw' hw'=>aG (vals:=[vg [vi g.1,g_v],vg [p_v,p_v1],vi e,vi ff,vg [vi ((gI (gI p.2 e) ((i:Int)-1)).1),vi ((gI (gI p.2 e) ((i:Int)-1)).2),vi ((gI (gI p.2 e) (i:Int)).1),vi ((gI (gI p.2 e) (i:Int)).2)],vg [vi ((gI (gI p.2 ff) ((k:Int)-1)).1),vi ((gI (gI p.2 ff) ((k:Int)-1)).2),vi ((gI (gI p.2 ff) (k:Int)).1),vi ((gI (gI p.2 ff) (k:Int)).2)]]) Try.func41 px qc rfl) (λw' hw'=>(nd w' g g_v ((Rg.bel hw')).ro p p_v p_v1 ((Rp.bel hw')).ro ((r_p_v1.bel hw')).ro e ff ((gI (gI p.2 e) ((i:Int)-1)),(gI (gI p.2 e) (i:Int))) ((gI (gI p.2 ff) ((k:Int)-1)),(gI (gI p.2 ff) (k:Int))) ‹_› ‹_› ‹_› ‹_› ‹_›).mono λe w2 h2=>⟨h2.1,hw'.trans (h2.2.mono hw'.size)⟩) ?_
    refine bv (v:=vb (!(decide (dE g p e ff ((gI (gI p.2 e) ((i:Int)-1)),(gI (gI p.2 e) (i:Int))) ((gI (gI p.2 ff) ((k:Int)-1)),(gI (gI p.2 ff) (k:Int))))))) (wy (dt q64)) (λw' hw'=>dr (b:=(decide (dE g p e ff ((gI (gI p.2 e) ((i:Int)-1)),(gI (gI p.2 e) (i:Int))) ((gI (gI p.2 ff) ((k:Int)-1)),(gI (gI p.2 ff) (k:Int)))))) rfl) (bv (v:=vb (!(decide (dE g p e ff ((gI (gI p.2 e) ((i:Int)-1)),(gI (gI p.2 e) (i:Int))) ((gI (gI p.2 ff) ((k:Int)-1)),(gI (gI p.2 ff) (k:Int))))))) (wy (df q61)) (λw' hw'=>aM rfl (dt q64) rfl) ?_)
    refine qv (vb (!(decide (dE g p e ff ((gI (gI p.2 e) ((i:Int)-1)),(gI (gI p.2 e) (i:Int))) ((gI (gI p.2 ff) ((k:Int)-1)),(gI (gI p.2 ff) (k:Int))))))) (λw' hw'=>aS rfl (df q61) rfl) (bT ?_)
    intro w42 hc43
    replace hc43:=am hc43 g30
    by_cases p9:(decide (dE g p e ff ((gI (gI p.2 e) ((i:Int)-1)),(gI (gI p.2 e) (i:Int))) ((gI (gI p.2 ff) ((k:Int)-1)),(gI (gI p.2 ff) (k:Int)))))=true
    ·
     refine ah rfl (congrArg Bool.not p9) (au (ap (a7 rfl (mz zs12 (lx (ba (m:=↑k) (n:=1) rfl rfl (by omega)) (ai ((k:Int)+1) (ab ?_)))))))
     have C44:=cg [] (ch32.n.seq (hc35.n.seq (ch36.n.seq hc43.n)))
     refine back6 (k+1,g30) _ _ ⟨bH.ca C44,zs2,zs3,zs4,zs5,zs9,zs10,zs11,rfl,Rg.cn hc43,Rp.cn hc43,r_p_v1.cn hc43,bx5.cn hc43,bx10.cn hc43,r16.cn hc43,r19.cn hc43,by omega,?_⟩ ?_
     · show 1<=(k+1)/\∀q:Nat,q+1<(k+1)->d8 (gI (gI p.2 e) ((i:Int)-1),gI (gI p.2 e) (i:Int)) (gI (gI p.2 ff) (q:Int),gI (gI p.2 ff) ((q:Int)+1)) (iZ g p e ff)
       exact kv hk (sV hO ‹_› ‹_› ‹_›)
     · show List.length (gI p.2 ff)-(k+1)<List.length (gI p.2 ff)-k
       omega
    refine ag rfl (congrArg Bool.not (Bool.eq_false_iff.2 p9)) (a8 ?_)
    clear bx5 bx10 r16 r19
    refine a7 rfl (ma (vb true) (ab (aw (vs:=[vb true]) Try.func28 (.tmp rfl .nil) ?_)))
    have e0:(true:Bool)=(decide (mX g p e ff)):=by
      exact sM (nu hi1 ‹_› hk1 ‹_› (t5 hO ‹_› ‹_›))
    have C45:=cg [] (ch32.n.seq (hc35.n.seq (ch36.n.seq hc43.n)))
    replace bH:=bH.ca C45
    exact⟨rb e0,bH.below⟩
   refine aU (wn (df q64)) (aU (wn (df q64)) (aU (wn (df q64)) (aU (wn (df q64)) (aU (wn (df q64)) (aU (wn (df q64)) (aU (wn (df q64)) (aU (wn (df q64)) (aU (wn (df q64)) (aU (wn (df q64)) ?_)))))))))
   refine aU (wn (df q64)) (aU (wn (df q64)) (aU (wn (df q64)) (aU (wn (df q64)) (aU (wn (df q64)) (aU (wn (df q64)) (aU (wn (df q64)) (aU (wn (df q64)) (aU (wn (df q64)) (aU (wn (df q64)) ?_)))))))))
   refine aU (wn (df q64)) (aU (wn (df q64)) (aU (wn (df q64)) (aU (wn (df q64)) (aU (wn (df q64)) (aU (wn (df q64)) (bv (v:=vb false) (wy (df q61)) (λw' hw'=>aS rfl (df q64) rfl) (qv (vb false) (λw' hw'=>aS rfl (df q61) rfl) (bT ?_))))))))
   intro w46 hc47
   replace hc47:=am hc47 g30
   refine ah rfl rfl (au (ap (a7 rfl (mz zs12 (lx (ba (m:=↑k) (n:=1) rfl rfl (by omega)) (ai ((k:Int)+1) (ab ?_)))))))
   have C49:=cg [] (hc35.n.seq (ch36.n.seq hc47.n))
   have C48:=ch32.n.seq C49
   refine back6 (k+1,g30) _ _ ⟨bH.ca C48,zs2,zs3,zs4,zs5,zs9,zs10,zs11,rfl,Rg.ca C48,Rp.ca C48,r_p_v1.ca C48,bx5.ca C48,bx10.ca C48,r16.ca C49,r19.ca C49,by omega,?_⟩ ?_
   · show 1<=(k+1)/\∀q:Nat,q+1<(k+1)->d8 (gI (gI p.2 e) ((i:Int)-1),gI (gI p.2 e) (i:Int)) (gI (gI p.2 ff) (q:Int),gI (gI p.2 ff) ((q:Int)+1)) (iZ g p e ff)
     exact kv hk (tk hO ‹_› ‹_›)
   · show List.length (gI p.2 ff)-(k+1)<List.length (gI p.2 ff)-k
     omega
  refine ah rfl (df p6) (aQ rfl (ap (a7 rfl (mz zs11 (lx (ba (m:=↑i) (n:=1) rfl rfl (by omega)) (ai ((i:Int)+1) (ab ?_)))))))
  refine back3 (i+1,g30) _ _ ⟨bH,zs2,zs3,zs4,zs5,zs9,zs10,rfl,Rg,Rp,r_p_v1,bx5,bx10,r16,r19,by omega,?_⟩ ?_
  · show 1<=(i+1)/\∀j:Nat,j+1<(i+1)->∀q:Nat,q+1<(gI p.2 ff).length->d8 (gI (gI p.2 e) (j:Int),gI (gI p.2 e) ((j:Int)+1)) (gI (gI p.2 ff) (q:Int),gI (gI p.2 ff) ((q:Int)+1)) (iZ g p e ff)
    exact pG hi hk ‹_›
  · show List.length (gI p.2 e)-(i+1)<List.length (gI p.2 e)-i
    omega
 refine ah rfl (df p3) (aQ rfl (a8 ?_))
 clear bx5 bx10 r16 r19
 refine a7 rfl (ma (vb false) (ab (aw (vs:=[vb false]) Try.func28 (.tmp rfl .nil) ?_)))
 have e0:(false:Bool)=(decide (mX g p e ff)):=by
   exact t8 (pk hi ‹_›)
 exact⟨rb e0,bH.below⟩
end TL
