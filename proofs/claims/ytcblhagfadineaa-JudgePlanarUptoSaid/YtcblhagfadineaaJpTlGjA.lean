import Derived.Test.YtcblhagfadineaaJpTlP4
import Derived.Test.YtcblhagfadineaaJpTlGmA
import Derived.Test.YtcblhagfadineaaJpTlGmM
import Derived.Test.YtcblhagfadineaaJpTlGmR
import Derived.Test.YtcblhagfadineaaProg
import Derived.Test.YtcblhagfadineaaJpTlAli
set_option linter.all false
set_option maxRecDepth 20000
namespace TL
open Go Go.Proofs
theorem pe:Try.prog.follows .mixedOrders=true:=by kernel_rfl
theorem bO:Tp Try.prog 25 false 1 24 (.slice none 0 0):=Tp.of (by kernel_rfl)
theorem d3:Tp Try.prog 26 false 1 24 (.slice none 0 0):=Tp.of (by kernel_rfl)
theorem jH:Try.f57.body.isNone=false:=rfl
theorem jo:(Try.f57.name== "runtime.NumGoroutine")=false:=by decide+kernel
theorem x5:Try.f74.body.isNone=false:=rfl
theorem vH:(Try.f74.name== "runtime.NumGoroutine")=false:=by decide+kernel
theorem wo(w0:World)(line:List Pt)(line_v:Value)(hline_v:Ro w0 line_v line)(p:Pt)(hl0:1<=(line.length:Int))(hl:dW line)(hp:cI p):
    Calls Try.prog 46 #[line_v,vg [vi p.1,vi p.2]] w0 (λee w=>ee= .returned (vb (decide (fp line p)))/\dd w0.heap.size w0 w):=by
 refine av Try.func46 rfl nq ?_
 have bH:=aX.start w0
 have Rline:=hline_v.sl
 obtain⟨hl1,hl2⟩:=hl
 refine aa (a8 rfl (cj rfl (bj c0 (is 1) (1,0) rfl rfl ?_)))
 intro g4 w1 b3 ch2 bx5
 replace bx5:Bx g4 (is 1) w1 b3 [vi p.1,vi p.2]:=bx5
 refine ma (vb false) (ab (aa (aa (a8 rfl (ai 1 (ab (aq ?_)))))))
 refine aQ (σ:=Nat×aH) (λ⟨i,gq⟩ f w=>aX w0 gq w/\f 0=line_v/\f 3=vp b3 0/\f 5=vi ↑i/\Sl gq (is 0) w line_v line/\Bx gq (is 1) w b3 [vi p.1,vi p.2]/\(i:Int)<=((line.length:Int):Int)/\(1<=i/\∀j:Nat,j+1<i->¬dc (gI line ↑j) (gI line ((j:Int)+1)) p)) (λ⟨i,gq⟩=>List.length line-i) (1,g4) ?_ ?_
 · exact⟨bH.cn ch2,rfl,rfl,rfl,Rline.cn ch2,bx5,by omega,by exact⟨Nat.le_refl _,λj hj=>by omega⟩⟩
 clear Rline bx5 bH
 rintro⟨i,g8⟩ f6 w7 ⟨bH,zs0,zs3,zs5,Rline,bx5,hle_i,hinv⟩ back2
 obtain⟨hi1,hi2⟩:=hinv
 refine aa (aa (a8 rfl (mz zs5 (mz zs0 ?_))))
 have len9:=(Rline).small
 refine lx (aT cX rfl Rline) (lx (b6 (m:=↑i) (n:=(line.length:Int)) rfl rfl) (ab ?_))
 by_cases p2:(i:Int)<(line.length:Int)
 ·
  refine ag rfl (dt p2) ?_
  have hoe:=(lV (hl2 _ (aR (xs:=line) (i:=(i:Int)-1) (by omega) (by omega))) (hl2 _ (aR (xs:=line) (i:=↑i) (by omega) (by omega))) hp)
  refine am (aa (aq (aa (cD g8 rfl pe (by kernel_rfl) ?_))))
  intro w11 ch10
  refine qz zs0 (qz zs5 (qx (λw' hw'=>dD (m:=↑i) (n:=1) rfl rfl (by omega)) ?_))
  replace Rline:=Rline.cn ch10
  refine qx (λw' hw'=>al (v:=line_v) (i:=(i:Int)-1) cX rfl rfl (Rline.bel hw') rfl (by omega) (by omega)) (qv (vg [vi ((gI line ((i:Int)-1)).1),vi ((gI line ((i:Int)-1)).2)]) (λw' hw'=>aJ (v:=line_v) (i:=(i:Int)-1) ah rfl (Rline.bel hw') (by omega) (by omega) rfl) (qz zs0 (qz zs5 (qx (λw' hw'=>al (v:=line_v) (i:=↑i) cX rfl rfl (Rline.bel hw') rfl (by omega) (by omega)) (qv (vg [vi ((gI line ↑i).1),vi ((gI line ↑i).2)]) (λw' hw'=>aJ (v:=line_v) (i:=↑i) ah rfl (Rline.bel hw') (by omega) (by omega) rfl) ?_)))))
  replace bx5:=bx5.cn ch10
  refine qx (λw' hw'=>ak (ds:=[vi p.1,vi p.2]) ah zs3 (bx5.bel hw') rfl rfl) (eZ (v:=vt [vb ((eO (gI line ((i:Int)-1)) (gI line ↑i) p).1),vi ((eO (gI line ((i:Int)-1)) (gI line ↑i) p).2)]) rfl (λw' hw'=>aA (vals:=[vg [vi ((gI line ((i:Int)-1)).1),vi ((gI line ((i:Int)-1)).2)],vg [vi ((gI line ↑i).1),vi ((gI line ↑i).2)],vg [vi p.1,vi p.2]]) Try.func57 jH jo rfl) (λw' hw'=>(ld w' (gI line ((i:Int)-1)) (gI line ↑i) p).mono λe w2 h2=>⟨h2.1,hw'.trans (h2.2.mono hw'.size)⟩) ?_)
  refine qm (vt [vb ((eO (gI line ((i:Int)-1)) (gI line ↑i) p).1),vi ((eO (gI line ((i:Int)-1)) (gI line ↑i) p).2)]) (qx (λw' hw'=>aV rfl rfl) (qx (λw' hw'=>aV rfl rfl) (qv (vb ((eO (gI line ((i:Int)-1)) (gI line ↑i) p).1)) (λw' hw'=>bS rfl) (qv (vi ((eO (gI line ((i:Int)-1)) (gI line ↑i) p).2)) (λw' hw'=>bS rfl) (dH ?_)))))
  intro w12 hc13
  replace hc13:=ar hc13 g8
  refine aa (a8 rfl (mv (vb ((eO (gI line ((i:Int)-1)) (gI line ↑i) p).1)) (ab ?_)))
  by_cases p5:((eO (gI line ((i:Int)-1)) (gI line ↑i) p).1)=true
  ·
   refine ag rfl p5 (aa ?_)
   clear bx5
   refine a8 rfl (ma (vb true) (ab (au (vs:=[vb true]) Try.func46 (.tmp rfl .nil) ?_)))
   have e0:(true:Bool)=(decide (fp line p)):=by
     exact uL hi1 ‹_› hoe ‹_›
   replace bH:=bH.cn ch10
   replace bH:=bH.cn hc13
   exact⟨rb e0,bH.below⟩
  refine aj rfl (Bool.eq_false_iff.2 p5) (am (ao (a8 rfl (mz zs5 (lx (aP (m:=↑i) (n:=1) rfl rfl (by omega)) (ai ((i:Int)+1) (ab ?_)))))))
  replace bH:=bH.cn ch10
  refine back2 (i+1,g8) _ _ ⟨bH.cn hc13,zs0,zs3,rfl,Rline.cn hc13,bx5.cn hc13,by omega,?_⟩ ?_
  · show 1<=(i+1)/\∀j:Nat,j+1<(i+1)->¬dc (gI line ↑j) (gI line ((j:Int)+1)) p
    exact rZ ⟨hi1,hi2⟩ hoe ‹_›
  · show List.length line-(i+1)<List.length line-i
    omega
 refine aj rfl (df p2) (aM rfl (aa ?_))
 clear bx5
 refine a8 rfl (ma (vb false) (ab (au (vs:=[vb false]) Try.func46 (.tmp rfl .nil) ?_)))
 have e0:(false:Bool)=(decide (fp line p)):=by
   exact wb ⟨hi1,hi2⟩ ‹_›
 exact⟨rb e0,bH.below⟩
theorem ww(w0:World)(a:Pt)(b:Pt)(c:Pt)(d:Pt)(sm:List Pt)(sm_v:Value)(hsm_v:Ro w0 sm_v sm)(ha:cI a)(hb:cI b)(hc:cI c)(hd:cI d)(hs:∀x∈sm,cI x):
    Calls Try.prog 59 #[vg [vi a.1,vi a.2],vg [vi b.1,vi b.2],vg [vi c.1,vi c.2],vg [vi d.1,vi d.2],sm_v] w0 (λee w=>ee= .returned (vb (decide (cV (a,b) (c,d) sm)))/\dd w0.heap.size w0 w):=by
 refine av Try.func59 rfl nq ?_
 have bH:=aX.start w0
 have Rsm:=hsm_v.sl
 have hm:=sQ ha hb hc hd
 refine aa (a8 rfl (cj rfl (bj c0 (is 1) (1,0) rfl rfl ?_)))
 intro g4 w1 b3 ch2 bx5
 replace bx5:Bx g4 (is 1) w1 b3 [vi a.1,vi a.2]:=bx5
 refine lo (bj g4 (is 2) (2,0) rfl rfl ?_)
 intro g9 w6 b8 ch7 bx10
 replace bx10:Bx g9 (is 2) w6 b8 [vi b.1,vi b.2]:=bx10
 refine lo (bj g9 (is 3) (3,0) rfl rfl ?_)
 intro g14 w11 b13 ch12 bx15
 replace bx15:Bx g14 (is 3) w11 b13 [vi c.1,vi c.2]:=bx15
 refine lo (bj g14 (is 4) (4,0) rfl rfl ?_)
 intro g19 w16 b18 ch17 bx20
 replace bx20:Bx g19 (is 4) w16 b18 [vi d.1,vi d.2]:=bx20
 refine ma (vb false) (ab (aa (aa (a8 rfl ?_))))
 have C21:=cg [] (ch7.n.seq (ch12.n.seq ch17.n))
 replace bx5:=bx5.ca C21
 refine lx (ak (ds:=[vi a.1,vi a.2]) ah rfl bx5 rfl rfl) ?_
 replace bx10:=(bx10.cn ch12).cn ch17
 refine lx (ak (ds:=[vi b.1,vi b.2]) ah rfl bx10 rfl rfl) ?_
 replace bx15:=bx15.cn ch17
 refine lx (ak (ds:=[vi c.1,vi c.2]) ah rfl bx15 rfl rfl) (lx (ak (ds:=[vi d.1,vi d.2]) ah rfl bx20 rfl rfl) (lo (aK (v:=vt [vi ((db a b c d).1),vi ((db a b c d).2)]) (aA (vals:=[vg [vi a.1,vi a.2],vg [vi b.1,vi b.2],vg [vi c.1,vi c.2],vg [vi d.1,vi d.2]]) Try.func74 x5 vH rfl) (wz w16 a b c d) ?_)))
 intro w22 hb23
 replace hb23:=ar hb23 g19
 refine mv (vt [vi ((db a b c d).1),vi ((db a b c d).2)]) (lx (aV rfl rfl) (lx (aV rfl rfl) (ai ((db a b c d).1) (ai ((db a b c d).2) (ab (aa (a8 rfl (mi ((db a b c d).1) (ab (aq (aa (a8 rfl ?_))))))))))))
 refine lx (cq (m:=(db a b c d).1) (n:=0) rfl rfl) (ma (vb (decide (((db a b c d).1)=0))) (ab ?_))
 by_cases p3:((db a b c d).1)=0
 ·
  refine ag rfl (dt p3) (aa ?_)
  clear bx5 bx10 bx15 bx20
  refine a8 rfl (ma (vb true) (ab (au (vs:=[vb true]) Try.func59 (.tmp rfl .nil) ?_)))
  have e0:(true:Bool)=(decide (cV (a,b) (c,d) sm)):=by
    exact rP hm ‹_›
  have C24:=cg [] (ch2.n.seq (ch7.n.seq (ch12.n.seq (ch17.n.seq hb23.n))))
  replace bH:=bH.ca C24
  exact⟨rb e0,bH.below⟩
 refine aj rfl (df p3) (aa (aa (a8 rfl (lx (cq (m:=(db a b c d).1) (n:=1) rfl rfl) (ma (vb (decide (((db a b c d).1)=1))) (ab ?_))))))
 by_cases p5:((db a b c d).1)=1
 ·
  refine ag rfl (dt p5) (am (ag rfl (dt p5) (aa (a8 rfl (mv sm_v ?_)))))
  have C25:=cg [] (ch2.n.seq (ch7.n.seq (ch12.n.seq (ch17.n.seq hb23.n))))
  replace Rsm:=Rsm.ca C25
  have len26:=(Rsm).small
  refine lx (aT cX rfl Rsm) (mi 0 (ab (aq ?_)))
  refine aQ (σ:=Nat×aH) (λ⟨k,gq⟩ f w=>aX w0 gq w/\f 5=vp b3 0/\f 6=vp b8 0/\f 7=vp b13 0/\f 8=vp b18 0/\f 33=sm_v/\f 34=vi (sm.length:Int)/\f 35=vi ↑k/\Sl gq (is 0) w sm_v sm/\Bx gq (is 1) w b3 [vi a.1,vi a.2]/\Bx gq (is 2) w b8 [vi b.1,vi b.2]/\Bx gq (is 3) w b13 [vi c.1,vi c.2]/\Bx gq (is 4) w b18 [vi d.1,vi d.2]/\(k:Int)<=((sm.length:Int):Int)/\(∀j:Nat,j<k->¬di a b c d (gI sm ↑j))) (λ⟨k,gq⟩=>Int.toNat (((sm.length:Int):Int)-(k:Int))) (0,g19) ?_ ?_
  · exact⟨bH.ca C25,rfl,rfl,rfl,rfl,rfl,rfl,rfl,Rsm,bx5.cn hb23,bx10.cn hb23,bx15.cn hb23,bx20.cn hb23,by omega,by intro j hj;omega⟩
  clear Rsm bx5 bx10 bx15 bx20 bH
  rintro⟨k,g29⟩ f27 w28 ⟨bH,zs5,zs6,zs7,zs8,zs33,zs34,zs35,Rsm,bx5,bx10,bx15,bx20,hle_k,hinv⟩ back8
  refine aa (a8 rfl (lx (b6 (m:=↑k) (n:=(sm.length:Int)) zs35 zs34) (ab (aa ?_))))
  by_cases p8:(k:Int)<(sm.length:Int)
  ·
   refine ag rfl (dt p8) ?_
   have hx:=hs _ (aR (xs:=sm) (i:=↑k) (by omega) (by omega))
   have h1:=lV ha hb hx
   have h2:=lV hc hd hx
   refine am (aa (aq (aa (a8 rfl (lx (al (v:=sm_v) (i:=↑k) cX rfl zs33 Rsm zs35 (by omega) (by omega)) (lw (vg [vi ((gI sm ↑k).1),vi ((gI sm ↑k).2)]) (aJ (v:=sm_v) (i:=↑k) ah rfl Rsm (by omega) (by omega) rfl) (lo (aY g29 (is 5) (5,0) rfl ah ?_))))))))
   intro g33 w30 b32 ch31 bx34
   replace bx34:Bx g33 (is 5) w30 b32 [vi 0,vi 0]:=bx34
   refine lo (aw (cs':=[vi ((gI sm ↑k).1),vi ((gI sm ↑k).2)]) ah rfl rfl bx34 rfl nq (AllOne.all (.cons rfl (.cons rfl .nil))) rfl ?_)
   intro w35 ch36 bx37
   clear bx34
   refine ab (aa (a8 rfl ?_))
   replace bx5:=(bx5.cn ch31).ce ch36
   refine lx (ak (ds:=[vi a.1,vi a.2]) ah zs5 bx5 rfl rfl) ?_
   replace bx10:=(bx10.cn ch31).ce ch36
   refine lx (ak (ds:=[vi b.1,vi b.2]) ah zs6 bx10 rfl rfl) (lx (ak (ds:=[vi ((gI sm ↑k).1),vi ((gI sm ↑k).2)]) ah rfl bx37 rfl rfl) (lo (aK (v:=vt [vb ((eO a b (gI sm ↑k)).1),vi ((eO a b (gI sm ↑k)).2)]) (aA (vals:=[vg [vi a.1,vi a.2],vg [vi b.1,vi b.2],vg [vi ((gI sm ↑k).1),vi ((gI sm ↑k).2)]]) Try.func57 jH jo rfl) (ld w35 a b (gI sm ↑k)) ?_)))
   intro w38 hb39
   replace hb39:=ar hb39 g33
   refine mv (vt [vb ((eO a b (gI sm ↑k)).1),vi ((eO a b (gI sm ↑k)).2)]) (lx (aV rfl rfl) (lx (aV rfl rfl) (ma (vb ((eO a b (gI sm ↑k)).1)) (ai ((eO a b (gI sm ↑k)).2) (ab (aa (a8 rfl ?_)))))))
   have C40:=cg [5] (ch31.n.seq ((ch36.l rfl).seq hb39.n))
   replace bx15:=bx15.ca C40
   refine lx (ak (ds:=[vi c.1,vi c.2]) ah zs7 bx15 rfl rfl) ?_
   replace bx20:=bx20.ca C40
   refine lx (ak (ds:=[vi d.1,vi d.2]) ah zs8 bx20 rfl rfl) ?_
   replace bx37:=bx37.cn hb39
   refine lx (ak (ds:=[vi ((gI sm ↑k).1),vi ((gI sm ↑k).2)]) ah rfl bx37 rfl rfl) (lo (aK (v:=vt [vb ((eO c d (gI sm ↑k)).1),vi ((eO c d (gI sm ↑k)).2)]) (aA (vals:=[vg [vi c.1,vi c.2],vg [vi d.1,vi d.2],vg [vi ((gI sm ↑k).1),vi ((gI sm ↑k).2)]]) Try.func57 jH jo rfl) (ld w38 c d (gI sm ↑k)) ?_))
   intro w41 hb42
   replace hb42:=ar hb42 g33
   refine mv (vt [vb ((eO c d (gI sm ↑k)).1),vi ((eO c d (gI sm ↑k)).2)]) (lx (aV rfl rfl) (lx (aV rfl rfl) (ma (vb ((eO c d (gI sm ↑k)).1)) (ai ((eO c d (gI sm ↑k)).2) (ab (aa ?_))))))
   clear bx37
   refine a8 rfl (mv (vb ((eO a b (gI sm ↑k)).1)) (mv (vb ((eO a b (gI sm ↑k)).1)) ?_))
   by_cases q54:((eO a b (gI sm ↑k)).1)=true
   ·
    refine lv (vb ((eO c d (gI sm ↑k)).1)) (wy q54) (aD rfl) (lw (vb ((eO c d (gI sm ↑k)).1)) (aE rfl q54 rfl) (ab ?_))
    by_cases p12:((eO c d (gI sm ↑k)).1)=true
    ·
     refine ag rfl p12 (aa ?_)
     clear bx5 bx10 bx15 bx20
     refine a8 rfl (ma (vb true) (ab (au (vs:=[vb true]) Try.func59 (.tmp rfl .nil) ?_)))
     have e0:(true:Bool)=(decide (cV (a,b) (c,d) sm)):=by
       exact ow hm (by exact .inl ‹_›) ‹_› h1 h2 ‹_› ‹_›
     have C43:=cg [5] (ch31.n.seq ((ch36.l rfl).seq (hb39.n.seq hb42.n)))
     replace bH:=bH.ca C43
     exact⟨rb e0,bH.below⟩
    refine aj rfl (Bool.eq_false_iff.2 p12) (am (ao (a8 rfl (lx (aP (m:=↑k) (n:=1) zs35 rfl (by omega)) (mi ((k:Int)+1) (ab ?_))))))
    have C44:=cg [5] (ch31.n.seq ((ch36.l rfl).seq (hb39.n.seq hb42.n)))
    refine back8 (k+1,g33) _ _ ⟨bH.ca C44,zs5,zs6,zs7,zs8,zs33,zs34,rfl,Rsm.ca C44,(bx5.cn hb39).cn hb42,(bx10.cn hb39).cn hb42,bx15.cn hb42,bx20.cn hb42,by omega,?_⟩ ?_
    · show∀j:Nat,j<(k+1)->¬di a b c d (gI sm ↑j)
      intro j hj
      by_cases e0:j=k
      · subst e0;exact je h1 h2 (by exact .inr ‹_›)
      · exact hinv j (by omega)
    · show Int.toNat (((sm.length:Int):Int)-((k+1):Int))<Int.toNat (((sm.length:Int):Int)-(k:Int))
      omega
   refine ae (wn (Bool.eq_false_iff.2 q54)) (lw (vb false) (aC rfl (Bool.eq_false_iff.2 q54) rfl) (ab (aj rfl rfl (am (ao (a8 rfl (lx (aP (m:=↑k) (n:=1) zs35 rfl (by omega)) (mi ((k:Int)+1) (ab ?_)))))))))
   have C45:=cg [5] (ch31.n.seq ((ch36.l rfl).seq (hb39.n.seq hb42.n)))
   refine back8 (k+1,g33) _ _ ⟨bH.ca C45,zs5,zs6,zs7,zs8,zs33,zs34,rfl,Rsm.ca C45,(bx5.cn hb39).cn hb42,(bx10.cn hb39).cn hb42,bx15.cn hb42,bx20.cn hb42,by omega,?_⟩ ?_
   · show∀j:Nat,j<(k+1)->¬di a b c d (gI sm ↑j)
     intro j hj
     by_cases e0:j=k
     · subst e0;exact je h1 h2 (by exact .inl ‹_›)
     · exact hinv j (by omega)
   · show Int.toNat (((sm.length:Int):Int)-((k+1):Int))<Int.toNat (((sm.length:Int):Int)-(k:Int))
     omega
  refine aj rfl (df p8) (aM rfl (ao (aa ?_)))
  clear bx5 bx10 bx15 bx20
  refine a8 rfl (ma (vb false) (ab (au (vs:=[vb false]) Try.func59 (.tmp rfl .nil) ?_)))
  have e0:(false:Bool)=(decide (cV (a,b) (c,d) sm)):=by
    exact mN hm ‹_› hinv ‹_›
  exact⟨rb e0,bH.below⟩
 refine aj rfl (df p5) (a8 rfl (lx (cq (m:=(db a b c d).1) (n:=2) rfl rfl) (ma (vb (decide (((db a b c d).1)=2))) (ab ?_))))
 by_cases p6:((db a b c d).1)=2
 ·
  refine ag rfl (dt p6) (aa (a8 rfl (mv sm_v ?_)))
  have C46:=cg [] (ch2.n.seq (ch7.n.seq (ch12.n.seq (ch17.n.seq hb23.n))))
  replace Rsm:=Rsm.ca C46
  have len47:=(Rsm).small
  refine lx (aT cX rfl Rsm) (mi 0 (ab (aq ?_)))
  refine aQ (σ:=Nat×aH) (λ⟨k,gq⟩ f w=>aX w0 gq w/\f 5=vp b3 0/\f 6=vp b8 0/\f 7=vp b13 0/\f 8=vp b18 0/\f 33=sm_v/\f 34=vi (sm.length:Int)/\f 35=vi ↑k/\Sl gq (is 0) w sm_v sm/\Bx gq (is 1) w b3 [vi a.1,vi a.2]/\Bx gq (is 2) w b8 [vi b.1,vi b.2]/\Bx gq (is 3) w b13 [vi c.1,vi c.2]/\Bx gq (is 4) w b18 [vi d.1,vi d.2]/\(k:Int)<=((sm.length:Int):Int)/\(∀j:Nat,j<k->¬di a b c d (gI sm ↑j))) (λ⟨k,gq⟩=>Int.toNat (((sm.length:Int):Int)-(k:Int))) (0,g19) ?_ ?_
  · exact⟨bH.ca C46,rfl,rfl,rfl,rfl,rfl,rfl,rfl,Rsm,bx5.cn hb23,bx10.cn hb23,bx15.cn hb23,bx20.cn hb23,by omega,by intro j hj;omega⟩
  clear Rsm bx5 bx10 bx15 bx20 bH
  rintro⟨k,g50⟩ f48 w49 ⟨bH,zs5,zs6,zs7,zs8,zs33,zs34,zs35,Rsm,bx5,bx10,bx15,bx20,hle_k,hinv⟩ back8
  refine aa (a8 rfl (lx (b6 (m:=↑k) (n:=(sm.length:Int)) zs35 zs34) (ab (aa ?_))))
  by_cases p8:(k:Int)<(sm.length:Int)
  ·
   refine ag rfl (dt p8) ?_
   have hx:=hs _ (aR (xs:=sm) (i:=↑k) (by omega) (by omega))
   have h1:=lV ha hb hx
   have h2:=lV hc hd hx
   refine am (aa (aq (aa (a8 rfl (lx (al (v:=sm_v) (i:=↑k) cX rfl zs33 Rsm zs35 (by omega) (by omega)) (lw (vg [vi ((gI sm ↑k).1),vi ((gI sm ↑k).2)]) (aJ (v:=sm_v) (i:=↑k) ah rfl Rsm (by omega) (by omega) rfl) (lo (aY g50 (is 5) (5,0) rfl ah ?_))))))))
   intro g54 w51 b53 ch52 bx55
   replace bx55:Bx g54 (is 5) w51 b53 [vi 0,vi 0]:=bx55
   refine lo (aw (cs':=[vi ((gI sm ↑k).1),vi ((gI sm ↑k).2)]) ah rfl rfl bx55 rfl nq (AllOne.all (.cons rfl (.cons rfl .nil))) rfl ?_)
   intro w56 ch57 bx58
   clear bx55
   refine ab (aa (a8 rfl ?_))
   replace bx5:=(bx5.cn ch52).ce ch57
   refine lx (ak (ds:=[vi a.1,vi a.2]) ah zs5 bx5 rfl rfl) ?_
   replace bx10:=(bx10.cn ch52).ce ch57
   refine lx (ak (ds:=[vi b.1,vi b.2]) ah zs6 bx10 rfl rfl) (lx (ak (ds:=[vi ((gI sm ↑k).1),vi ((gI sm ↑k).2)]) ah rfl bx58 rfl rfl) (lo (aK (v:=vt [vb ((eO a b (gI sm ↑k)).1),vi ((eO a b (gI sm ↑k)).2)]) (aA (vals:=[vg [vi a.1,vi a.2],vg [vi b.1,vi b.2],vg [vi ((gI sm ↑k).1),vi ((gI sm ↑k).2)]]) Try.func57 jH jo rfl) (ld w56 a b (gI sm ↑k)) ?_)))
   intro w59 hb60
   replace hb60:=ar hb60 g54
   refine mv (vt [vb ((eO a b (gI sm ↑k)).1),vi ((eO a b (gI sm ↑k)).2)]) (lx (aV rfl rfl) (lx (aV rfl rfl) (ma (vb ((eO a b (gI sm ↑k)).1)) (ai ((eO a b (gI sm ↑k)).2) (ab (aa (a8 rfl ?_)))))))
   have C61:=cg [5] (ch52.n.seq ((ch57.l rfl).seq hb60.n))
   replace bx15:=bx15.ca C61
   refine lx (ak (ds:=[vi c.1,vi c.2]) ah zs7 bx15 rfl rfl) ?_
   replace bx20:=bx20.ca C61
   refine lx (ak (ds:=[vi d.1,vi d.2]) ah zs8 bx20 rfl rfl) ?_
   replace bx58:=bx58.cn hb60
   refine lx (ak (ds:=[vi ((gI sm ↑k).1),vi ((gI sm ↑k).2)]) ah rfl bx58 rfl rfl) (lo (aK (v:=vt [vb ((eO c d (gI sm ↑k)).1),vi ((eO c d (gI sm ↑k)).2)]) (aA (vals:=[vg [vi c.1,vi c.2],vg [vi d.1,vi d.2],vg [vi ((gI sm ↑k).1),vi ((gI sm ↑k).2)]]) Try.func57 jH jo rfl) (ld w59 c d (gI sm ↑k)) ?_))
   intro w62 hb63
   replace hb63:=ar hb63 g54
   refine mv (vt [vb ((eO c d (gI sm ↑k)).1),vi ((eO c d (gI sm ↑k)).2)]) (lx (aV rfl rfl) (lx (aV rfl rfl) (ma (vb ((eO c d (gI sm ↑k)).1)) (ai ((eO c d (gI sm ↑k)).2) (ab (aa ?_))))))
   clear bx58
   refine a8 rfl (mv (vb ((eO a b (gI sm ↑k)).1)) (mv (vb ((eO a b (gI sm ↑k)).1)) ?_))
   by_cases q54:((eO a b (gI sm ↑k)).1)=true
   ·
    refine lv (vb ((eO c d (gI sm ↑k)).1)) (wy q54) (aD rfl) (lw (vb ((eO c d (gI sm ↑k)).1)) (aE rfl q54 rfl) (ab ?_))
    by_cases p12:((eO c d (gI sm ↑k)).1)=true
    ·
     refine ag rfl p12 (aa ?_)
     clear bx5 bx10 bx15 bx20
     refine a8 rfl (ma (vb true) (ab (au (vs:=[vb true]) Try.func59 (.tmp rfl .nil) ?_)))
     have e0:(true:Bool)=(decide (cV (a,b) (c,d) sm)):=by
       exact ow hm (by exact .inr ‹_›) ‹_› h1 h2 ‹_› ‹_›
     have C64:=cg [5] (ch52.n.seq ((ch57.l rfl).seq (hb60.n.seq hb63.n)))
     replace bH:=bH.ca C64
     exact⟨rb e0,bH.below⟩
    refine aj rfl (Bool.eq_false_iff.2 p12) (am (ao (a8 rfl (lx (aP (m:=↑k) (n:=1) zs35 rfl (by omega)) (mi ((k:Int)+1) (ab ?_))))))
    have C65:=cg [5] (ch52.n.seq ((ch57.l rfl).seq (hb60.n.seq hb63.n)))
    refine back8 (k+1,g54) _ _ ⟨bH.ca C65,zs5,zs6,zs7,zs8,zs33,zs34,rfl,Rsm.ca C65,(bx5.cn hb60).cn hb63,(bx10.cn hb60).cn hb63,bx15.cn hb63,bx20.cn hb63,by omega,?_⟩ ?_
    · show∀j:Nat,j<(k+1)->¬di a b c d (gI sm ↑j)
      intro j hj
      by_cases e0:j=k
      · subst e0;exact je h1 h2 (by exact .inr ‹_›)
      · exact hinv j (by omega)
    · show Int.toNat (((sm.length:Int):Int)-((k+1):Int))<Int.toNat (((sm.length:Int):Int)-(k:Int))
      omega
   refine ae (wn (Bool.eq_false_iff.2 q54)) (lw (vb false) (aC rfl (Bool.eq_false_iff.2 q54) rfl) (ab (aj rfl rfl (am (ao (a8 rfl (lx (aP (m:=↑k) (n:=1) zs35 rfl (by omega)) (mi ((k:Int)+1) (ab ?_)))))))))
   have C66:=cg [5] (ch52.n.seq ((ch57.l rfl).seq (hb60.n.seq hb63.n)))
   refine back8 (k+1,g54) _ _ ⟨bH.ca C66,zs5,zs6,zs7,zs8,zs33,zs34,rfl,Rsm.ca C66,(bx5.cn hb60).cn hb63,(bx10.cn hb60).cn hb63,bx15.cn hb63,bx20.cn hb63,by omega,?_⟩ ?_
   · show∀j:Nat,j<(k+1)->¬di a b c d (gI sm ↑j)
     intro j hj
     by_cases e0:j=k
     · subst e0;exact je h1 h2 (by exact .inl ‹_›)
     · exact hinv j (by omega)
   · show Int.toNat (((sm.length:Int):Int)-((k+1):Int))<Int.toNat (((sm.length:Int):Int)-(k:Int))
     omega
  refine aj rfl (df p8) (aM rfl (ao (aa ?_)))
  clear bx5 bx10 bx15 bx20
  refine a8 rfl (ma (vb false) (ab (au (vs:=[vb false]) Try.func59 (.tmp rfl .nil) ?_)))
  have e0:(false:Bool)=(decide (cV (a,b) (c,d) sm)):=by
    exact mN hm ‹_› hinv ‹_›
  exact⟨rb e0,bH.below⟩
 refine aj rfl (df p6) (am (ao (aa ?_)))
 clear bx5 bx10 bx15 bx20
 refine a8 rfl (ma (vb false) (ab (au (vs:=[vb false]) Try.func59 (.tmp rfl .nil) ?_)))
 have e0:(false:Bool)=(decide (cV (a,b) (c,d) sm)):=by
   exact wS hm ‹_› ‹_› ‹_›
 have C67:=cg [] (ch2.n.seq (ch7.n.seq (ch12.n.seq (ch17.n.seq hb23.n))))
 replace bH:=bH.ca C67
 exact⟨rb e0,bH.below⟩
theorem sb(w0:World)(p:(List Pt)×(List (List Pt)))(p_v p_v1:Value)(hp_v:Ro w0 p_v p.1)(hp_v1:Ro w0 p_v1 p.2)(h:Int)(hpl:(p.2.length:Int)<=1000000)(hh:0<=h/\h<2*(p.2.length:Int))(hl:2<=((gI p.2 (h/2)).length:Int)):
    Calls Try.prog 17 #[vg [p_v,p_v1],vi h] w0 (λee w=>ee= .returned (vg [vi ((dn p h).1),vi ((dn p h).2)])/\dd w0.heap.size w0 w):=by
 refine av Try.func17 rfl nq ?_
 have bH:=aX.start w0
 have Rp:=hp_v.sl
 have r_p_v1:=hp_v1.sl
 obtain⟨hh0,hh1⟩:=hh
 refine aa (a8 rfl (cj rfl (bj c0 (is 1) (1,0) rfl rfl ?_)))
 intro g4 w1 b3 ch2 bx5
 replace bx5:Bx g4 (is 1) w1 b3 [p_v,p_v1]:=bx5
 refine lo (aY g4 (is 2) (2,0) rfl ah ?_)
 intro g9 w6 b8 ch7 bx10
 replace bx10:Bx g9 (is 2) w6 b8 [vi 0,vi 0]:=bx10
 refine ab (aa (a8 rfl (lx (ad iK rfl rfl rfl rfl) ?_)))
 replace bx5:=bx5.cn ch7
 refine lx (af d3 rfl bx5 rfl) (mi h (lx (r5 (m:=h) (n:=2) rfl rfl (by omega) (by omega) (by omega)) ?_))
 replace r_p_v1:=(r_p_v1.cn ch2).cn ch7
 refine lx (al (v:=p_v1) (i:=h/2) kM rfl rfl r_p_v1 rfl (by omega) (by omega)) ?_
 obtain⟨v11,cel12,r13⟩:=dh (r:=h/2) r_p_v1 (by omega) (by omega)
 refine lx (bD bO rfl cel12) (ma v11 (ab (aa (aa ?_))))
 clear bx5
 refine a8 rfl (mi h (lx (my (m:=h) (n:=2) rfl rfl (by omega) (by omega)) (lx (cq (m:=h%2) (n:=0) rfl rfl) (ab ?_))))
 by_cases p2:(h%2)=0
 ·
  refine ag rfl (dt p2) (aa (a8 rfl (mv v11 (lx (al (v:=v11) (i:=1) cX rfl rfl r13 rfl (by omega) (by omega)) (lw (vg [vi ((gI (gI p.2 (h/2)) 1).1),vi ((gI (gI p.2 (h/2)) 1).2)]) (aJ (v:=v11) (i:=1) ah rfl r13 (by omega) (by omega) rfl) (lo (aw (cs':=[vi ((gI (gI p.2 (h/2)) 1).1),vi ((gI (gI p.2 (h/2)) 1).2)]) ah rfl rfl bx10 rfl nq (AllOne.all (.cons rfl (.cons rfl .nil))) rfl ?_)))))))
  intro w14 ch15 bx16
  clear bx10
  refine ab (au (vs:=[vg [vi ((gI (gI p.2 (h/2)) 1).1),vi ((gI (gI p.2 (h/2)) 1).2)]]) Try.func17 (.cell rfl (eb (ds:=[vi ((gI (gI p.2 (h/2)) 1).1),vi ((gI (gI p.2 (h/2)) 1).2)]) ah bx16 rfl rfl) .nil) ?_)
  have e0:((gI (gI p.2 (h/2)) 1):Pt)=(dn p h):=by
    unfold dn
    rw[if_pos ‹_›]
  have C17:=cg [2] (ch2.n.seq (ch7.n.seq (ch15.l rfl)))
  replace bH:=bH.ca C17
  exact⟨(congrArg (a₁:=(gI (gI p.2 (h/2)) 1)) (λ(z0:Pt)=>Ending.returned (vg [vi z0.1,vi z0.2])) e0),bH.below⟩
 refine aj rfl (df p2) (am (aa (a8 rfl (mv v11 (mv v11 ?_)))))
 have len18:=(r13).small
 refine lx (aT cX rfl r13) (lx (dD (m:=(List.length (gI p.2 (h/2)):Int)) (n:=2) rfl rfl (by omega)) (lx (al (v:=v11) (i:=(List.length (gI p.2 (h/2)):Int)-2) cX rfl rfl r13 rfl (by omega) (by omega)) (lw (vg [vi ((gI (gI p.2 (h/2)) ((List.length (gI p.2 (h/2)):Int)-2)).1),vi ((gI (gI p.2 (h/2)) ((List.length (gI p.2 (h/2)):Int)-2)).2)]) (aJ (v:=v11) (i:=(List.length (gI p.2 (h/2)):Int)-2) ah rfl r13 (by omega) (by omega) rfl) (lo (aw (cs':=[vi ((gI (gI p.2 (h/2)) ((List.length (gI p.2 (h/2)):Int)-2)).1),vi ((gI (gI p.2 (h/2)) ((List.length (gI p.2 (h/2)):Int)-2)).2)]) ah rfl rfl bx10 rfl nq (AllOne.all (.cons rfl (.cons rfl .nil))) rfl ?_)))))
 intro w19 ch20 bx21
 clear bx10
 refine ab (au (vs:=[vg [vi ((gI (gI p.2 (h/2)) ((List.length (gI p.2 (h/2)):Int)-2)).1),vi ((gI (gI p.2 (h/2)) ((List.length (gI p.2 (h/2)):Int)-2)).2)]]) Try.func17 (.cell rfl (eb (ds:=[vi ((gI (gI p.2 (h/2)) ((List.length (gI p.2 (h/2)):Int)-2)).1),vi ((gI (gI p.2 (h/2)) ((List.length (gI p.2 (h/2)):Int)-2)).2)]) ah bx21 rfl rfl) .nil) ?_)
 have e0:((gI (gI p.2 (h/2)) ((List.length (gI p.2 (h/2)):Int)-2)):Pt)=(dn p h):=by
   unfold dn
   rw[if_neg ‹_›]
 have C22:=cg [2] (ch2.n.seq (ch7.n.seq (ch20.l rfl)))
 replace bH:=bH.ca C22
 exact⟨(congrArg (a₁:=(gI (gI p.2 (h/2)) ((List.length (gI p.2 (h/2)):Int)-2))) (λ(z0:Pt)=>Ending.returned (vg [vi z0.1,vi z0.2])) e0),bH.below⟩
theorem tC(w0:World)(o:Pt)(a:Pt)(b:Pt)(ho:cI o)(ha:cI a)(hb:cI b):
    Calls Try.prog 19 #[vg [vi o.1,vi o.2],vg [vi a.1,vi a.2],vg [vi b.1,vi b.2]] w0 (λee w=>ee= .returned (vb (decide (d8 (aG a o) (aG b o))))/\dd w0.heap.size w0 w):=by
 refine av Try.func19 rfl nq ?_
 have bH:=aX.start w0
 obtain⟨hw1,hw2⟩:=uH ho ha
 obtain⟨hw3,hw4⟩:=uH ho hb
 have m0:=gJ (x:=a.1-o.1) (y:=b.2-o.2) (by omega) (by omega)
 have m1:=gJ (x:=a.2-o.2) (y:=b.1-o.1) (by omega) (by omega)
 have m2:=gJ (x:=a.1-o.1) (y:=b.1-o.1) (by omega) (by omega)
 have m3:=gJ (x:=a.2-o.2) (y:=b.2-o.2) (by omega) (by omega)
 refine aa (a8 rfl (cj rfl (bj c0 (is 1) (1,0) rfl rfl ?_)))
 intro g4 w1 b3 ch2 bx5
 replace bx5:Bx g4 (is 1) w1 b3 [vi o.1,vi o.2]:=bx5
 refine lo (bj g4 (is 2) (2,0) rfl rfl ?_)
 intro g9 w6 b8 ch7 bx10
 replace bx10:Bx g9 (is 2) w6 b8 [vi a.1,vi a.2]:=bx10
 refine lo (bj g9 (is 3) (3,0) rfl rfl ?_)
 intro g14 w11 b13 ch12 bx15
 replace bx15:Bx g14 (is 3) w11 b13 [vi b.1,vi b.2]:=bx15
 refine ma (vb false) (ab (aa (cD g14 rfl pe (by kernel_rfl) ?_)))
 intro w17 ch16
 refine qx (λw' hw'=>ad dw rfl rfl rfl rfl) ?_
 replace bx10:=(bx10.cn ch12).cn ch16
 refine qx (λw' hw'=>af ba rfl (bx10.bel hw') rfl) (qx (λw' hw'=>ad dw rfl rfl rfl rfl) ?_)
 have C18:=cg [] (ch7.n.seq (ch12.n.seq ch16.n))
 replace bx5:=bx5.ca C18
 refine qx (λw' hw'=>af ba rfl (bx5.bel hw') rfl) (qx (λw' hw'=>dD (m:=a.1) (n:=o.1) rfl rfl (by omega)) (qx (λw' hw'=>ad dw rfl rfl rfl rfl) (qx (λw' hw'=>af ba rfl (bx10.bel hw') rfl) (qx (λw' hw'=>ad dw rfl rfl rfl rfl) (qx (λw' hw'=>af ba rfl (bx5.bel hw') rfl) (qx (λw' hw'=>dD (m:=a.2) (n:=o.2) rfl rfl (by omega)) (qx (λw' hw'=>ad dw rfl rfl rfl rfl) ?_)))))))
 replace bx15:=bx15.cn ch16
 refine qx (λw' hw'=>af ba rfl (bx15.bel hw') rfl) (qx (λw' hw'=>ad dw rfl rfl rfl rfl) (qx (λw' hw'=>af ba rfl (bx5.bel hw') rfl) (qx (λw' hw'=>dD (m:=b.1) (n:=o.1) rfl rfl (by omega)) (qx (λw' hw'=>ad dw rfl rfl rfl rfl) (qx (λw' hw'=>af ba rfl (bx15.bel hw') rfl) (qx (λw' hw'=>ad dw rfl rfl rfl rfl) (qx (λw' hw'=>af ba rfl (bx5.bel hw') rfl) (qx (λw' hw'=>dD (m:=b.2) (n:=o.2) rfl rfl (by omega)) (qv (vi (a.1-o.1)) (λw' hw'=>bS rfl) ?_)))))))))
 refine qv (vi (a.2-o.2)) (λw' hw'=>bS rfl) (qv (vi (b.1-o.1)) (λw' hw'=>bS rfl) (qv (vi (b.2-o.2)) (λw' hw'=>bS rfl) (dH ?_)))
 intro w19 hc20
 replace hc20:=ar hc20 g14
 refine aa ?_
 clear bx5 bx10 bx15
 refine a8 rfl (mi (a.1-o.1) (mi (b.2-o.2) (lx (eK (m:=a.1-o.1) (n:=b.2-o.2) rfl rfl (by omega)) (mi (a.2-o.2) (mi (b.1-o.1) (lx (eK (m:=a.2-o.2) (n:=b.1-o.1) rfl rfl (by omega)) (lx (cq (m:=(a.1-o.1)*(b.2-o.2)) (n:=(a.2-o.2)*(b.1-o.1)) rfl rfl) (mv (vb (decide (((a.1-o.1)*(b.2-o.2))=((a.2-o.2)*(b.1-o.1))))) ?_))))))))
 by_cases q38:((a.1-o.1)*(b.2-o.2))=((a.2-o.2)*(b.1-o.1))
 ·
  refine lv (vi (a.1-o.1)) (wy (dt q38)) (aD rfl) (lv (vi (b.1-o.1)) (wy (dt q38)) (aD rfl) (lv (vi ((a.1-o.1)*(b.1-o.1))) (wy (dt q38)) (eK (m:=a.1-o.1) (n:=b.1-o.1) rfl rfl (by omega)) (lv (vi (a.2-o.2)) (wy (dt q38)) (aD rfl) (lv (vi (b.2-o.2)) (wy (dt q38)) (aD rfl) (lv (vi ((a.2-o.2)*(b.2-o.2))) (wy (dt q38)) (eK (m:=a.2-o.2) (n:=b.2-o.2) rfl rfl (by omega)) (lv (vi (((a.1-o.1)*(b.1-o.1))+((a.2-o.2)*(b.2-o.2)))) (wy (dt q38)) (aP (m:=(a.1-o.1)*(b.1-o.1)) (n:=(a.2-o.2)*(b.2-o.2)) rfl rfl (by omega)) ?_))))))
  refine lv (vb (decide (0<(((a.1-o.1)*(b.1-o.1))+((a.2-o.2)*(b.2-o.2)))))) (wy (dt q38)) (e8 (m:=((a.1-o.1)*(b.1-o.1))+((a.2-o.2)*(b.2-o.2))) (n:=0) rfl rfl) (lw (vb (decide (0<(((a.1-o.1)*(b.1-o.1))+((a.2-o.2)*(b.2-o.2)))))) (aE rfl (dt q38) rfl) (ma (vb (decide (0<(((a.1-o.1)*(b.1-o.1))+((a.2-o.2)*(b.2-o.2)))))) (ab (au (vs:=[vb (decide (0<(((a.1-o.1)*(b.1-o.1))+((a.2-o.2)*(b.2-o.2)))))]) Try.func19 (.tmp rfl .nil) ?_))))
  have e0:(decide (0<(((a.1-o.1)*(b.1-o.1))+((a.2-o.2)*(b.2-o.2)))):Bool)=(decide (d8 (aG a o) (aG b o))):=by
    exact yH ‹_›
  have C21:=cg [] (ch2.n.seq (ch7.n.seq (ch12.n.seq (ch16.n.seq hc20.n))))
  replace bH:=bH.ca C21
  exact⟨(congrArg (a₁:=decide (0<(((a.1-o.1)*(b.1-o.1))+((a.2-o.2)*(b.2-o.2))))) (λ(z0:Bool)=>Ending.returned (vb z0)) e0),bH.below⟩
 refine ae (wn (df q38)) (ae (wn (df q38)) (ae (wn (df q38)) (ae (wn (df q38)) (ae (wn (df q38)) (ae (wn (df q38)) (ae (wn (df q38)) (ae (wn (df q38)) (lw (vb false) (aC rfl (df q38) rfl) (ma (vb false) ?_)))))))))
 refine ab (au (vs:=[vb false]) Try.func19 (.tmp rfl .nil) ?_)
 have e0:(false:Bool)=(decide (d8 (aG a o) (aG b o))):=by
   exact yn ‹_›
 have C22:=cg [] (ch2.n.seq (ch7.n.seq (ch12.n.seq (ch16.n.seq hc20.n))))
 replace bH:=bH.ca C22
 exact⟨rb e0,bH.below⟩
end TL
