import Derived.Test.YtfpckpgnnplhnaaGreatSkTlGenA
import Derived.Test.YtfpckpgnnplhnaaGreatSkTlAli
set_option linter.all false
set_option maxRecDepth 20000
namespace TL
open Go Go.Proofs
theorem tW:Tryz.prog.follows .mixedOrders=true:=by kernel_rfl
theorem jU:Tp Tryz.prog 38 false 1 24 (.slice none 0 0):=Tp.of (by kernel_rfl)
theorem kj:Tp Tryz.prog 39 false 1 24 (.slice none 0 0):=Tp.of (by kernel_rfl)
theorem pa:Tryz.f34.body.isNone=false:=rfl
theorem oK:(Tryz.f34.name== "runtime.NumGoroutine")=false:=by decide+kernel
theorem vF:Tryz.f35.body.isNone=false:=rfl
theorem vr:(Tryz.f35.name== "runtime.NumGoroutine")=false:=by decide+kernel
theorem nO(w0:World)(l:List Int)(l_v:Value)(hl_v:Ro w0 l_v l)(x:Int):
    Calls Tryz.prog 34 #[l_v,vi x] w0 (λee w=>ee= .returned (vi (bQ l x))/\eJ w0.heap.size w0 w):=by
 refine ap Tryz.func34 rfl nq ?_
 have bH:=b6.start w0
 have Rl:=hl_v.sl
 refine a7 (a6 rfl (ai 0 (ab (a7 (a7 (a6 rfl (ai 0 (ab (am ?_)))))))))
 refine aV (σ:=Nat×aw) (λ⟨k,gq⟩ f w=>b6 w0 gq w/\f 0=l_v/\f 1=vi x/\f 5=vi ↑k/\Sl gq (is 0) w l_v l/\(k:Int)<=((l.length:Int):Int)/\(∀j:Nat,j<k->¬x=gI l ↑j)) (λ⟨k,gq⟩=>Int.toNat (((l.length:Int):Int)-(k:Int))) (0,c0) ?_ ?_
 · exact⟨bH,rfl,rfl,rfl,Rl,by omega,by intro j hj;omega⟩
 clear Rl bH
 rintro⟨k,g3⟩ f1 w2 ⟨bH,zs0,zs1,zs5,Rl,hle_k,hinv⟩ back2
 refine a7 (a7 (a6 rfl (mz zs5 (mz zs0 ?_))))
 have len4:=(Rl).small
 refine lx (bp bF rfl Rl) (lx (bw (m:=↑k) (n:=(l.length:Int)) rfl rfl) (ab ?_))
 by_cases p2:(k:Int)<(l.length:Int)
 ·
  refine af rfl (dt p2) (ao (a7 (am (a7 (a6 rfl (mz zs0 (mz zs5 (lx (ad (v:=l_v) (i:=↑k) bF rfl rfl Rl rfl (by omega) (by omega)) (lx (av (v:=l_v) (i:=↑k) ah rfl Rl (by omega) (by omega) (by decide) rfl) (mz zs1 ?_))))))))))
  refine lx (dA (m:=(gI l ↑k)) (n:=x) rfl rfl) (ab ?_)
  by_cases p4:(gI l ↑k)=x
  ·
   refine af rfl (dt p4) (a7 (a6 rfl (mz zs5 (ai (k:Int) (ab (au (vs:=[vi ↑k]) Tryz.func34 (.tmp rfl .nil) ?_))))))
   have e0:((k:Int):Int)=(bQ l x):=by
     exact qt hinv ‹_› (Eq.symm ‹_›)
   exact⟨ri e0,bH.below⟩
  refine ag rfl (df p4) (ao (ak (a6 rfl (mz zs5 (lx (aS (m:=↑k) (n:=1) rfl rfl (by omega)) (ai ((k:Int)+1) (ab ?_)))))))
  refine back2 (k+1,g3) _ _ ⟨bH,zs0,zs1,rfl,Rl,by omega,?_⟩ ?_
  · show∀j:Nat,j<(k+1)->¬x=gI l ↑j
    intro j hj
    by_cases e0:j=k
    · rw[e0];exact λc=>absurd c.symm ‹_›
    · exact hinv j (by omega)
  · show Int.toNat (_-_)<Int.toNat (_-_)
    omega
 refine ag rfl (df p2) (aO rfl (a7 (a6 rfl (ai (-1) (ab (au (vs:=[vi (-1)]) Tryz.func34 (.tmp rfl .nil) ?_))))))
 have e0:(-1:Int)=(bQ l x):=by
   exact sa hinv ‹_›
 exact⟨ri e0,bH.below⟩
theorem ww(w0:World)(p:(Int)×(List Int)×(List Bd))(p_v p_v1:Value)(hp_v:Ro w0 p_v p.2.1)(hp_v1:Ro w0 p_v1 p.2.2)(hp1:(p.2.1.length:Int)<=1048576)(hp2:(p.2.2.length:Int)<=1048576):
    Calls Tryz.prog 16 #[vg [vi p.1,p_v,p_v1]] w0 (λee w=>∃xx:aw×Value,ee= .returned ((λ⟨δ,rv0⟩=>vt [vg [vi (((iz p).1).1),rv0],vi ((iz p).2)]) xx)/\(λ(⟨δ,rv0⟩:aw×Value) (w:World)=>dU w0 δ w/\Ow δ (is 1) (is 1) w rv0 (((iz p).1).2)) xx w):=by
 refine ap Tryz.func16 rfl nq ?_
 have bH:=b6.start w0
 have Rp:=hp_v.sl
 have r_p_v1:=hp_v1.sl
 refine a7 (a6 rfl (cN rfl (cq c0 (is 1) (1,0) rfl rfl ?_)))
 intro g4 w1 b3 ch2 bx5
 refine lo (bi g4 (is 2) (2,0) rfl aX ?_)
 intro g9 w6 b8 ch7 bx10
 refine ai 0 (ab (a7 (a6 rfl (lx (aa fK rfl rfl rfl rfl) ?_))))
 replace bx5:=bx5.cn ch7
 refine lx (a8 jU rfl bx5 rfl) ?_
 replace Rp:=(Rp.cn ch2).cn ch7
 have len11:=(Rp).small
 refine lx (bp bF rfl Rp) (lw (vg [vi (p.2.1.length:Int),vn]) (bh (vs:=[(0,vi (p.2.1.length:Int))]) rfl (by kernel_rfl)) (lo (bi g9 (is 3) (3,0) rfl aX ?_)))
 intro g15 w12 b14 ch13 bx16
 refine lo (ax (cs':=[vi (p.2.1.length:Int),vn]) aX rfl rfl bx16 rfl nq (AllOne.all (.cons rfl (.cons rfl .nil))) rfl ?_)
 intro w17 ch18 bx19
 clear bx16
 refine ab (a7 (a7 (a6 rfl (ai 0 (ab (am ?_))))))
 refine aV (σ:=Value×(List Pt)×Nat×aw) (λ⟨ie_v,ie,k,gq⟩ f w=>b6 w0 gq w/\f 1=vp b3 0/\f 2=vp b8 0/\f 4=vp b14 0/\f 5=vi ↑k/\Sl gq (is 0) w p_v p.2.1/\Sl gq (is 0) w p_v1 p.2.2/\Bx gq (is 1) w b3 [vi p.1,p_v,p_v1]/\Bx gq (is 2) w b8 [vi 0,vn]/\Bx gq (is 3) w b14 [vi (p.2.1.length:Int),ie_v]/\Ow gq (is 5) (is 5) w ie_v ie/\(k:Int)<=((p.2.2.length:Int):Int)/\(ie=qE p k)) (λ⟨ie_v,ie,k,gq⟩=>Int.toNat (((p.2.2.length:Int):Int)-(k:Int))) (vn,[],0,g15) ?_ ?_
 have C20:=cg [3] (ch2.n.seq (ch7.n.seq (ch13.n.seq (ch18.l rfl))))
 · exact⟨bH.ca C20,rfl,rfl,rfl,rfl,(Rp.cn ch13).ce ch18,r_p_v1.ca C20,(bx5.cn ch13).ce ch18,(bx10.cn ch13).ce ch18,bx19,Ow.nil,by omega,by rfl⟩
 clear Rp r_p_v1 bx5 bx10 bx19 bH
 rintro⟨ie_v,ie,k,g23⟩ f21 w22 ⟨bH,zs1,zs2,zs4,zs5,Rp,r_p_v1,bx5,bx10,bx19,o_ie,hle_k,hie⟩ back3
 have hiel:ie.length<=k:=by rw[hie];exact sr
 refine a7 (a7 (a6 rfl (mz zs5 (lx (aa fK rfl rfl zs1 rfl) (lx (a8 kj rfl bx5 rfl) ?_)))))
 have len24:=(r_p_v1).small
 refine lx (bp jr rfl r_p_v1) (lx (bw (m:=↑k) (n:=(p.2.2.length:Int)) rfl rfl) (ab ?_))
 by_cases p3:(k:Int)<(p.2.2.length:Int)
 ·
  refine af rfl (dt p3) (ao (a7 (am (a7 (cG g23 rfl tW (by kernel_rfl) ?_)))))
  intro w26 ch25
  refine qx (λw' hw'=>aa fK rfl rfl zs1 rfl) ?_
  replace bx5:=bx5.cn ch25
  refine qx (λw' hw'=>a8 jU rfl (bx5.bel hw') rfl) (qx (λw' hw'=>aa fK rfl rfl zs1 rfl) (qx (λw' hw'=>a8 kj rfl (bx5.bel hw') rfl) (qz zs5 ?_)))
  replace r_p_v1:=r_p_v1.cn ch25
  refine qx (λw' hw'=>ad (v:=p_v1) (i:=↑k) jr rfl rfl (r_p_v1.bel hw') rfl (by omega) (by omega)) (qv (Value.pointer (some ⟨(aB p_v1 4 (Int.toNat ↑k)).block,(aB p_v1 4 (Int.toNat ↑k)).off+0,none⟩)) (λw' hw'=>aI tM rfl rfl rfl rfl) (qx (λw' hw'=>cK (v:=p_v1) (i:=↑k) ah rfl (r_p_v1.bel hw') (by omega) (by omega) (by decide) rfl) ?_))
  replace Rp:=Rp.cn ch25
  refine qW (v:=vi (bQ p.2.1 ((gI p.2.2 ↑k).1))) rfl (λw' hw'=>aH (vals:=[p_v,vi ((gI p.2.2 ↑k).1)]) Tryz.func34 pa oK rfl) (λw' hw'=>(nO w' p.2.1 p_v ((Rp.bel hw')).ro ((gI p.2.2 ↑k).1)).mono λe w2 h2=>⟨h2.1,hw'.trans (h2.2.mono hw'.size)⟩) (qx (λw' hw'=>aa fK rfl rfl zs1 rfl) (qx (λw' hw'=>a8 jU rfl (bx5.bel hw') rfl) (qx (λw' hw'=>aa fK rfl rfl zs1 rfl) (qx (λw' hw'=>a8 kj rfl (bx5.bel hw') rfl) (qz zs5 (qx (λw' hw'=>ad (v:=p_v1) (i:=↑k) jr rfl rfl (r_p_v1.bel hw') rfl (by omega) (by omega)) ?_))))))
  refine qv (Value.pointer (some ⟨(aB p_v1 4 (Int.toNat ↑k)).block,(aB p_v1 4 (Int.toNat ↑k)).off+1,none⟩)) (λw' hw'=>aI tM rfl rfl rfl rfl) (qx (λw' hw'=>cK (v:=p_v1) (i:=↑k) ah rfl (r_p_v1.bel hw') (by omega) (by omega) (by decide) rfl) (qW (v:=vi (bQ p.2.1 (((gI p.2.2 ↑k).2).1))) rfl (λw' hw'=>aH (vals:=[p_v,vi (((gI p.2.2 ↑k).2).1)]) Tryz.func34 pa oK rfl) (λw' hw'=>(nO w' p.2.1 p_v ((Rp.bel hw')).ro (((gI p.2.2 ↑k).2).1)).mono λe w2 h2=>⟨h2.1,hw'.trans (h2.2.mono hw'.size)⟩) (qv (vi (bQ p.2.1 ((gI p.2.2 ↑k).1))) (λw' hw'=>bm rfl) (qv (vi (bQ p.2.1 (((gI p.2.2 ↑k).2).1))) (λw' hw'=>bm rfl) (ep ?_)))))
  intro w27 hc28
  replace hc28:=aN hc28 g23
  refine a7 (a7 (a6 rfl (mi (bQ p.2.1 ((gI p.2.2 ↑k).1)) (lx (bw (m:=bQ p.2.1 ((gI p.2.2 ↑k).1)) (n:=0) rfl rfl) (mv (vb (decide ((bQ p.2.1 ((gI p.2.2 ↑k).1))<0))) ?_)))))
  by_cases q39:(bQ p.2.1 ((gI p.2.2 ↑k).1))<0
  ·
   refine aA (wn (dt q39)) (aA (wn (dt q39)) (lw (vb true) (bj rfl (dt q39) rfl) (ab (af rfl rfl (a7 ?_)))))
   clear bx5 bx19 o_ie
   refine a6 rfl (lw (vg [vi 0,vn]) (bh (vs:=[]) rfl (by kernel_rfl)) (lo ?_))
   replace bx10:=(bx10.cn ch25).cn hc28
   refine ax (cs':=[vi 0,vn]) aX zs2 rfl bx10 rfl nq (AllOne.all (.cons rfl (.cons rfl .nil))) rfl ?_
   intro w29 ch30 bx31
   clear bx10
   refine ai 1 (ab (au (vs:=[vg [vi 0,vn],vi 1]) Tryz.func16 (.cell zs2 (cy (ds:=[vi 0,vn]) aX bx31 rfl rfl) (.tmp rfl .nil)) ?_))
   have C32:=cg [2] (ch25.n.seq (hc28.n.seq (ch30.l rfl)))
   replace bH:=bH.ca C32
   have e0:((0,[]):(Int)×(List Pt))=((iz p).1):=by
     rw[lP ‹_› (.inl ‹_›)]
   have e1:(1:Int)=((iz p).2):=by
     rw[lP ‹_› (.inl ‹_›)]
   exact⟨(fin w0 g23 (λn=>0),vn),(cV (a:=(0,[])) (b:=1) (λ(z0:(Int)×(List Pt)) (z1:Int)=>Ending.returned (vt [vg [vi z0.1,vn],vi z1])) e0 e1),bH.fresh _,((congrArg (λ(z:(Int)×(List Pt))=>z.2) e0)▸Ow.nil)⟩
  refine lv (vi (bQ p.2.1 (((gI p.2.2 ↑k).2).1))) (wy (df q39)) (aq rfl) (lv (vb (decide ((bQ p.2.1 (((gI p.2.2 ↑k).2).1))<0))) (wy (df q39)) (bw (m:=bQ p.2.1 (((gI p.2.2 ↑k).2).1)) (n:=0) rfl rfl) (lw (vb (decide ((bQ p.2.1 (((gI p.2.2 ↑k).2).1))<0))) (bt rfl (df q39) rfl) (ab ?_)))
  by_cases p6:(bQ p.2.1 (((gI p.2.2 ↑k).2).1))<0
  ·
   refine af rfl (dt p6) (a7 ?_)
   clear bx5 bx19 o_ie
   refine a6 rfl (lw (vg [vi 0,vn]) (bh (vs:=[]) rfl (by kernel_rfl)) (lo ?_))
   replace bx10:=(bx10.cn ch25).cn hc28
   refine ax (cs':=[vi 0,vn]) aX zs2 rfl bx10 rfl nq (AllOne.all (.cons rfl (.cons rfl .nil))) rfl ?_
   intro w33 ch34 bx35
   clear bx10
   refine ai 1 (ab (au (vs:=[vg [vi 0,vn],vi 1]) Tryz.func16 (.cell zs2 (cy (ds:=[vi 0,vn]) aX bx35 rfl rfl) (.tmp rfl .nil)) ?_))
   have C36:=cg [2] (ch25.n.seq (hc28.n.seq (ch34.l rfl)))
   replace bH:=bH.ca C36
   have e0:((0,[]):(Int)×(List Pt))=((iz p).1):=by
     rw[lP ‹_› (.inr ‹_›)]
   have e1:(1:Int)=((iz p).2):=by
     rw[lP ‹_› (.inr ‹_›)]
   exact⟨(fin w0 g23 (λn=>0),vn),(cV (a:=(0,[])) (b:=1) (λ(z0:(Int)×(List Pt)) (z1:Int)=>Ending.returned (vt [vg [vi z0.1,vn],vi z1])) e0 e1),bH.fresh _,((congrArg (λ(z:(Int)×(List Pt))=>z.2) e0)▸Ow.nil)⟩
  refine ag rfl (df p6) (ao (a6 rfl (lx (aa ea rfl rfl zs4 rfl) ?_)))
  replace bx19:=(bx19.cn ch25).cn hc28
  refine lx (a8 bR rfl bx19 rfl) (mi (bQ p.2.1 ((gI p.2.2 ↑k).1)) (mi (bQ p.2.1 (((gI p.2.2 ↑k).2).1)) (lw (vg [vi (bQ p.2.1 ((gI p.2.2 ↑k).1)),vi (bQ p.2.1 (((gI p.2.2 ↑k).2).1))]) (bh (vs:=[(0,vi (bQ p.2.1 ((gI p.2.2 ↑k).1))),(1,vi (bQ p.2.1 (((gI p.2.2 ↑k).2).1)))]) rfl (by kernel_rfl)) (lo (ar (α:=Pt) g23 (is 4) (is 4) (4,0) rfl [(bQ p.2.1 ((gI p.2.2 ↑k).1),bQ p.2.1 (((gI p.2.2 ↑k).2).1))] eR bx (by decide) (by decide) (vs:=[(0,vg [vi (bQ p.2.1 ((gI p.2.2 ↑k).1)),vi (bQ p.2.1 (((gI p.2.2 ↑k).2).1))])]) rfl rfl (.cons rfl .nil) ?_)))))
  intro g37 w38 v39 ch40 o41
  refine lo ?_
  have C42:=cg [] (ch25.n.seq (hc28.n.seq ch40.n))
  replace o_ie:=o_ie.ca C42
  refine aK (α:=Pt) (xs:=ie) (ys:=([(bQ p.2.1 ((gI p.2.2 ↑k).1),bQ p.2.1 (((gI p.2.2 ↑k).2).1))])) g37 (J:=is 5) (S:=is 5) (5,0) rfl eR bx (by decide) rfl rfl rfl o_ie o41.flat (by decide) (by(simp;omega)) ?_
  intro g43 w44 v45 ch46 o47
  clear o_ie
  refine lx (aa ea rfl rfl zs4 rfl) (lo ?_)
  replace bx19:=(bx19.cn ch40).ce ch46
  refine aC (cs':=[vi (p.2.1.length:Int),v45]) bR rfl rfl bx19 (aP o47.flat) nq (aG o47.flat) rfl ?_
  intro w48 ch49 bx50
  clear bx19
  refine ab (ak ?_)
  clear o41
  refine a6 rfl (mz zs5 (lx (aS (m:=↑k) (n:=1) rfl rfl (by omega)) (ai ((k:Int)+1) (ab ?_))))
  have C52:=cg [3,5] (hc28.n.seq (ch40.n.seq ((ch46.l rfl).seq (ch49.l rfl))))
  have C51:=ch25.n.seq C52
  refine back3 (v45,(ie++[(bQ p.2.1 ((gI p.2.2 ↑k).1),bQ p.2.1 (((gI p.2.2 ↑k).2).1))]),k+1,g43) _ _ ⟨bH.ca C51,zs1,zs2,zs4,rfl,Rp.ca C52,r_p_v1.ca C52,bx5.ca C52,bx10.ca C51,bx50,o47.ce ch49,by omega,?_⟩ ?_
  · show(ie++[(bQ p.2.1 ((gI p.2.2 ↑k).1),bQ p.2.1 (((gI p.2.2 ↑k).2).1))])=qE p (k+1)
    (rw[hie];exact pV ‹_›)
  · show Int.toNat (_-_)<Int.toNat (_-_)
    omega
 refine ag rfl (df p3) (aO rfl (a7 (a7 ?_)))
 clear bx5
 refine a6 rfl (lx (ay (ds:=[vi (p.2.1.length:Int),ie_v]) aX zs4 bx19 rfl rfl) (lo (bV (v:=vb (dm ((p.2.1.length:Int),ie))) (aH (vals:=[vg [vi (p.2.1.length:Int),ie_v]]) Tryz.func35 vF vr rfl) (zO w22 ((p.2.1.length:Int),ie) ie_v (o_ie.flat).ro) ?_)))
 intro w53 hb54
 replace hb54:=aN hb54 g23
 refine lx (eU (b:=(dm ((p.2.1.length:Int),ie))) rfl) (ab ?_)
 by_cases p9:(dm ((p.2.1.length:Int),ie))=true
 ·
  refine ag rfl (congrArg Bool.not p9) (ao (a7 (a6 rfl ?_)))
  replace bx19:=bx19.cn hb54
  refine lx (ay (ds:=[vi (p.2.1.length:Int),ie_v]) aX zs4 bx19 rfl rfl) (lo ?_)
  replace bx10:=bx10.cn hb54
  replace o_ie:=o_ie.cn hb54
  refine ax (cs':=[vi (p.2.1.length:Int),ie_v]) aX zs2 rfl bx10 rfl nq (AllOne.all (.cons rfl (.cons (aG o_ie.flat) .nil))) rfl ?_
  intro w55 ch56 bx57
  clear bx10
  refine ai 0 (ab (au (vs:=[vg [vi (p.2.1.length:Int),ie_v],vi 0]) Tryz.func16 (.cell zs2 (cy (ds:=[vi (p.2.1.length:Int),ie_v]) aX bx57 rfl rfl) (.tmp rfl .nil)) ?_))
  replace bH:=bH.cn hb54
  replace bH:=bH.ce ch56
  replace o_ie:=o_ie.ce ch56
  have e0:(((p.2.1.length:Int),ie):(Int)×(List Pt))=((iz p).1):=by
    rw[vS hie ‹_› ‹_›]
  have e1:(0:Int)=((iz p).2):=by
    rw[vS hie ‹_› ‹_›]
  exact⟨(fin w0 g23 (λn=>if n=5 then 1 else 0),ie_v),(cV (a:=((p.2.1.length:Int),ie)) (b:=0) (λ(z0:(Int)×(List Pt)) (z1:Int)=>Ending.returned (vt [vg [vi z0.1,ie_v],vi z1])) e0 e1),bH.fresh _,((congrArg (λ(z:(Int)×(List Pt))=>z.2) e0)▸(o_ie.glue (γ:=c0) (ren:=(λn=>if n=5 then 1 else 0)) (k:=1) bH.col rfl rfl))⟩
 refine af rfl (congrArg Bool.not (Bool.eq_false_iff.2 p9)) (a7 ?_)
 clear bx19 o_ie
 refine a6 rfl (lw (vg [vi 0,vn]) (bh (vs:=[]) rfl (by kernel_rfl)) (lo ?_))
 replace bx10:=bx10.cn hb54
 refine ax (cs':=[vi 0,vn]) aX zs2 rfl bx10 rfl nq (AllOne.all (.cons rfl (.cons rfl .nil))) rfl ?_
 intro w58 ch59 bx60
 clear bx10
 refine ai 1 (ab (au (vs:=[vg [vi 0,vn],vi 1]) Tryz.func16 (.cell zs2 (cy (ds:=[vi 0,vn]) aX bx60 rfl rfl) (.tmp rfl .nil)) ?_))
 replace bH:=bH.cn hb54
 replace bH:=bH.ce ch59
 have e0:((0,[]):(Int)×(List Pt))=((iz p).1):=by
   rw[rW hie ‹_› ‹_›]
 have e1:(1:Int)=((iz p).2):=by
   rw[rW hie ‹_› ‹_›]
 exact⟨(fin w0 g23 (λn=>0),vn),(cV (a:=(0,[])) (b:=1) (λ(z0:(Int)×(List Pt)) (z1:Int)=>Ending.returned (vt [vg [vi z0.1,vn],vi z1])) e0 e1),bH.fresh _,((congrArg (λ(z:(Int)×(List Pt))=>z.2) e0)▸Ow.nil)⟩
end TL
