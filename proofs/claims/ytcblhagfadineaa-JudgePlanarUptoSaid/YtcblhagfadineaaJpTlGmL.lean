import Derived.Test.YtcblhagfadineaaJpTlP4
import Derived.Test.YtcblhagfadineaaJpTlGmA
import Derived.Test.YtcblhagfadineaaProg
import Derived.Test.YtcblhagfadineaaJpTlAli
set_option linter.all false
set_option maxRecDepth 20000
namespace TL
open Go Go.Proofs
theorem sW:Try.prog.follows .mixedOrders=true:=by kernel_rfl
theorem jd:Try.f80.body.isNone=false:=rfl
theorem jP:(Try.f80.name== "runtime.NumGoroutine")=false:=by decide+kernel
set_option maxHeartbeats 2000000 in
theorem vD(w0:World)(a:Pt)(b:Pt)(c:Pt)(d:Pt):
    Calls Try.prog 71 #[vg [vi a.1,vi a.2],vg [vi b.1,vi b.2],vg [vi c.1,vi c.2],vg [vi d.1,vi d.2]] w0 (λee w=>ee= .returned (vi (fo a b c d))/\dd w0.heap.size w0 w):=by
 refine av Try.func71 rfl nq ?_
 have bH:=aX.start w0
 refine aa (a8 rfl (cj rfl (bj c0 (is 1) (1,0) rfl rfl ?_)))
 intro g4 w1 b3 ch2 bx5
 replace bx5:Bx g4 (is 1) w1 b3 [vi a.1,vi a.2]:=bx5
 refine lo (bj g4 (is 2) (2,0) rfl rfl ?_)
 intro g9 w6 b8 ch7 bx10
 replace bx10:Bx g9 (is 2) w6 b8 [vi b.1,vi b.2]:=bx10
 refine lo (bj g9 (is 3) (3,0) rfl rfl ?_)
 intro g14 w11 b13 ch12 bx15
 replace bx15:Bx g14 (is 3) w11 b13 [vi c.1,vi c.2]:=bx15
 refine lo (bj g14 (is 4) (4,0) rfl rfl ?_)
 intro g19 w16 b18 ch17 bx20
 replace bx20:Bx g19 (is 4) w16 b18 [vi d.1,vi d.2]:=bx20
 refine ai 0 (ab (aa (aa ?_)))
 refine kU [false,false,true,true] (σ:=Int×Int×Int×Int×aH) (λ⟨a0,a1,b0,b1,gq⟩ f w=>aX w0 gq w/\f 4=vp b3 0/\f 5=vp b8 0/\f 6=vp b13 0/\f 7=vp b18 0/\Bx gq (is 1) w b3 [vi a0,vi a1]/\Bx gq (is 2) w b8 [vi b0,vi b1]/\Bx gq (is 3) w b13 [vi c.1,vi c.2]/\Bx gq (is 4) w b18 [vi d.1,vi d.2]/\((a0,a1)=(if 0<bN a b then b else a)/\(b0,b1)=(if 0<bN a b then a else b))) ?_ ?_
 ·
  intro mid_j1
  refine a8 rfl ?_
  have C21:=cg [] (ch7.n.seq (ch12.n.seq ch17.n))
  replace bx5:=bx5.ca C21
  refine lx (ak (ds:=[vi a.1,vi a.2]) ah rfl bx5 rfl rfl) ?_
  replace bx10:=(bx10.cn ch12).cn ch17
  refine lx (ak (ds:=[vi b.1,vi b.2]) ah rfl bx10 rfl rfl) (lo (aK (v:=vi (bN a b)) (aA (vals:=[vg [vi a.1,vi a.2],vg [vi b.1,vi b.2]]) Try.func80 jd jP rfl) (im w16 a b) ?_))
  intro w22 hb23
  replace hb23:=ar hb23 g19
  refine lx (e8 (m:=bN a b) (n:=0) rfl rfl) (ab ?_)
  by_cases p1:0<(bN a b)
  ·
   refine ag rfl (dt p1) (a8 rfl ?_)
   replace bx10:=bx10.cn hb23
   refine lx (ak (ds:=[vi b.1,vi b.2]) ah rfl bx10 rfl rfl) ?_
   replace bx5:=bx5.cn hb23
   refine lx (ak (ds:=[vi a.1,vi a.2]) ah rfl bx5 rfl rfl) (lo (aw (cs':=[vi b.1,vi b.2]) ah rfl rfl bx5 rfl nq (AllOne.all (.cons rfl (.cons rfl .nil))) rfl ?_))
   intro w24 ch25 bx26
   clear bx5
   refine lo ?_
   replace bx10:=bx10.ce ch25
   refine aw (cs':=[vi a.1,vi a.2]) ah rfl rfl bx10 rfl nq (AllOne.all (.cons rfl (.cons rfl .nil))) rfl ?_
   intro w27 ch28 bx29
   clear bx10
   refine ab (aa (aa ?_))
   have C32:=cg [1,2] (hb23.n.seq ((ch25.l rfl).seq (ch28.l rfl)))
   have C31:=ch17.n.seq C32
   have C30:=ch2.n.seq (ch7.n.seq (ch12.n.seq C31))
   refine mid_j1 (b.1,b.2,a.1,a.2,g19) _ _ ⟨bH.ca C30,rfl,rfl,rfl,rfl,bx26.ce ch28,bx29,bx15.ca C31,bx20.ca C32,?_⟩
   show(b.1,b.2)=(if 0<bN a b then b else a)/\(a.1,a.2)=(if 0<bN a b then a else b)
   exact⟨(if_pos ‹_›).symm,(if_pos ‹_›).symm⟩
  refine aj rfl (df p1) (am (aa (aa ?_)))
  have C33:=cg [] (ch2.n.seq (ch7.n.seq (ch12.n.seq (ch17.n.seq hb23.n))))
  refine mid_j1 (a.1,a.2,b.1,b.2,g19) _ _ ⟨bH.ca C33,rfl,rfl,rfl,rfl,bx5.cn hb23,bx10.cn hb23,(bx15.cn ch17).cn hb23,bx20.cn hb23,?_⟩
  show(a.1,a.2)=(if 0<bN a b then b else a)/\(b.1,b.2)=(if 0<bN a b then a else b)
  exact⟨(if_neg ‹_›).symm,(if_neg ‹_›).symm⟩
 clear bx5 bx10 bx15 bx20 bH
 rintro⟨a0,a1,b0,b1,g36⟩ f34 w35 ⟨bH,z37_4,z37_5,z37_6,z37_7,bx5,bx10,bx15,bx20,hj1⟩
 refine kU [false,false,true] (σ:=Int×Int×Int×Int×aH) (λ⟨c0,c1,d0,d1,gq⟩ f w=>aX w0 gq w/\f 4=vp b3 0/\f 5=vp b8 0/\f 6=vp b13 0/\f 7=vp b18 0/\Bx gq (is 1) w b3 [vi a0,vi a1]/\Bx gq (is 2) w b8 [vi b0,vi b1]/\Bx gq (is 3) w b13 [vi c0,vi c1]/\Bx gq (is 4) w b18 [vi d0,vi d1]/\((c0,c1)=(if 0<bN c d then d else c)/\(d0,d1)=(if 0<bN c d then c else d))) ?_ ?_
 ·
  intro mid_j2
  refine a8 rfl (lx (ak (ds:=[vi c.1,vi c.2]) ah z37_6 bx15 rfl rfl) (lx (ak (ds:=[vi d.1,vi d.2]) ah z37_7 bx20 rfl rfl) (lo (aK (v:=vi (bN c d)) (aA (vals:=[vg [vi c.1,vi c.2],vg [vi d.1,vi d.2]]) Try.func80 jd jP rfl) (im w35 c d) ?_))))
  intro w38 hb39
  replace hb39:=ar hb39 g36
  refine lx (e8 (m:=bN c d) (n:=0) rfl rfl) (ab ?_)
  by_cases p3:0<(bN c d)
  ·
   refine ag rfl (dt p3) (a8 rfl ?_)
   replace bx20:=bx20.cn hb39
   refine lx (ak (ds:=[vi d.1,vi d.2]) ah z37_7 bx20 rfl rfl) ?_
   replace bx15:=bx15.cn hb39
   refine lx (ak (ds:=[vi c.1,vi c.2]) ah z37_6 bx15 rfl rfl) (lo (aw (cs':=[vi d.1,vi d.2]) ah z37_6 rfl bx15 rfl nq (AllOne.all (.cons rfl (.cons rfl .nil))) rfl ?_))
   intro w40 ch41 bx42
   clear bx15
   refine lo ?_
   replace bx20:=bx20.ce ch41
   refine aw (cs':=[vi c.1,vi c.2]) ah z37_7 rfl bx20 rfl nq (AllOne.all (.cons rfl (.cons rfl .nil))) rfl ?_
   intro w43 ch44 bx45
   clear bx20
   refine ab (aa ?_)
   have C46:=cg [3,4] (hb39.n.seq ((ch41.l rfl).seq (ch44.l rfl)))
   refine mid_j2 (d.1,d.2,c.1,c.2,g36) _ _ ⟨bH.ca C46,z37_4,z37_5,z37_6,z37_7,bx5.ca C46,bx10.ca C46,bx42.ce ch44,bx45,?_⟩
   show(d.1,d.2)=(if 0<bN c d then d else c)/\(c.1,c.2)=(if 0<bN c d then c else d)
   exact⟨(if_pos ‹_›).symm,(if_pos ‹_›).symm⟩
  refine aj rfl (df p3) (am (aa ?_))
  refine mid_j2 (c.1,c.2,d.1,d.2,g36) _ _ ⟨bH.cn hb39,z37_4,z37_5,z37_6,z37_7,bx5.cn hb39,bx10.cn hb39,bx15.cn hb39,bx20.cn hb39,?_⟩
  show(c.1,c.2)=(if 0<bN c d then d else c)/\(d.1,d.2)=(if 0<bN c d then c else d)
  exact⟨(if_neg ‹_›).symm,(if_neg ‹_›).symm⟩
 clear bx5 bx10 bx15 bx20 bH
 rintro⟨c0,c1,d0,d1,g49⟩ f47 w48 ⟨bH,z50_4,z50_5,z50_6,z50_7,bx5,bx10,bx15,bx20,hj2⟩
 refine ez (σ:=Nat×Nat×aH) (λ⟨b55,b61,gq⟩ f w=>aX w0 gq w/\f 6=vp b13 0/\f 7=vp b18 0/\f 9=vp b55 0/\f 10=vp b61 0/\Bx gq (is 3) w b13 [vi c0,vi c1]/\Bx gq (is 4) w b18 [vi d0,vi d1]/\Bx gq (is 5) w b55 [vi a0,vi a1]/\Bx gq (is 6) w b61 [vi b0,vi b1]) g49 (inl [5,6]) sW ?_ ?_
 ·
  intro mid
  intro w52 ch51
  replace bx5:=bx5.cn ch51
  refine ht 0 rfl (b5.refl _ _ _) (λw' hw'=>ak (ds:=[vi a0,vi a1]) ah z50_4 (bx5.chg hw' (bA rfl)) rfl rfl) ?_
  replace bx10:=bx10.cn ch51
  refine ht 1 rfl (b5.refl _ _ _) (λw' hw'=>ak (ds:=[vi b0,vi b1]) ah z50_5 (bx10.chg hw' (bA rfl)) rfl rfl) ?_
  refine dz 2 [3] (by kernel_rfl) ⟨dr 2 rfl (by kernel_rfl) rfl ?_,dr 3 rfl (by kernel_rfl) rfl ?_,trivial⟩
  ·
   refine aY g49 (is 5) (5,0) rfl ah ?_
   intro g56 w53 b55 ch54 bx57
   replace bx57:Bx g56 (is 5) w53 b55 [vi 0,vi 0]:=bx57
   have hs58:b5 (inl [5,6]) _ _ _ _:=ch54.n
   refine⟨hs58.same,?_⟩
   refine aO 3 rfl (by kernel_rfl) rfl (aY g56 (is 6) (6,0) rfl ah ?_)
   intro g62 w59 b61 ch60 bx63
   replace bx63:Bx g62 (is 6) w59 b61 [vi 0,vi 0]:=bx63
   have hs64:=hs58.seq (ch60.n)
   refine⟨hs64.same,?_⟩
   refine aO 4 rfl (by kernel_rfl) rfl ?_
   replace bx57:=bx57.cn ch60
   refine aw (cs':=[vi a0,vi a1]) ah rfl rfl bx57 rfl nq (AllOne.all (.cons rfl (.cons rfl .nil))) rfl ?_
   intro w65 ch66 bx67
   clear bx57
   have hs68:=hs64.seq (ch66.l rfl)
   refine⟨hs68.same,?_⟩
   refine aO 5 rfl (by kernel_rfl) rfl ?_
   replace bx63:=bx63.ce ch66
   refine aw (cs':=[vi b0,vi b1]) ah rfl rfl bx63 rfl nq (AllOne.all (.cons rfl (.cons rfl .nil))) rfl ?_
   intro w69 ch70 bx71
   clear bx63
   have hs72:=hs68.seq (ch70.l rfl)
   refine⟨hs72.same,?_⟩
   refine cK (by kernel_rfl) ?_
   have C73:=cg [5,6] (ch51.n.seq (ch54.n.seq (ch60.n.seq ((ch66.l rfl).seq (ch70.l rfl)))))
   replace bx15:=bx15.cn ch51
   replace bx20:=bx20.cn ch51
   exact mid (b55,b61,g62) _ _ ⟨bH.ca C73,z50_6,z50_7,rfl,rfl,(bx15.ca hs72),(bx20.ca hs72),bx67.ce ch70,bx71⟩
  ·
   refine aY g49 (is 6) (6,0) rfl ah ?_
   intro g77 w74 b76 ch75 bx78
   replace bx78:Bx g77 (is 6) w74 b76 [vi 0,vi 0]:=bx78
   have hs79:b5 (inl [5,6]) _ _ _ _:=ch75.n
   refine⟨hs79.same,?_⟩
   refine aO 2 rfl (by kernel_rfl) rfl (aY g77 (is 5) (5,0) rfl ah ?_)
   intro g83 w80 b82 ch81 bx84
   replace bx84:Bx g83 (is 5) w80 b82 [vi 0,vi 0]:=bx84
   have hs85:=hs79.seq (ch81.n)
   refine⟨hs85.same,?_⟩
   refine aO 4 rfl (by kernel_rfl) rfl (aw (cs':=[vi a0,vi a1]) ah rfl rfl bx84 rfl nq (AllOne.all (.cons rfl (.cons rfl .nil))) rfl ?_)
   intro w86 ch87 bx88
   clear bx84
   have hs89:=hs85.seq (ch87.l rfl)
   refine⟨hs89.same,?_⟩
   refine aO 5 rfl (by kernel_rfl) rfl ?_
   replace bx78:=(bx78.cn ch81).ce ch87
   refine aw (cs':=[vi b0,vi b1]) ah rfl rfl bx78 rfl nq (AllOne.all (.cons rfl (.cons rfl .nil))) rfl ?_
   intro w90 ch91 bx92
   clear bx78
   have hs93:=hs89.seq (ch91.l rfl)
   refine⟨hs93.same,?_⟩
   refine cK (by kernel_rfl) ?_
   have C94:=cg [5,6] (ch51.n.seq (ch75.n.seq (ch81.n.seq ((ch87.l rfl).seq (ch91.l rfl)))))
   replace bx15:=bx15.cn ch51
   replace bx20:=bx20.cn ch51
   exact mid (b82,b76,g83) _ _ ⟨bH.ca C94,z50_6,z50_7,rfl,rfl,(bx15.ca hs93),(bx20.ca hs93),bx88.ce ch91,bx92⟩
 clear bx5 bx10 bx15 bx20 bH
 rintro⟨b55,b61,g97⟩ f95 w96 ⟨bH,zs6,zs7,zs9,zs10,bx15,bx20,bx67,bx71⟩
 refine aa (aa ?_)
 refine kU [false,false,true,true] (σ:=Int×Int×aH) (λ⟨l0,l1,gq⟩ f w=>aX w0 gq w/\f 7=vp b18 0/\f 9=vp b55 0/\f 10=vp b61 0/\Bx gq (is 4) w b18 [vi d0,vi d1]/\Bx gq (is 5) w b55 [vi l0,vi l1]/\Bx gq (is 6) w b61 [vi b0,vi b1]/\((l0,l1)=(if 0<bN (c0,c1) (a0,a1) then(c0,c1) else(a0,a1)))) ?_ ?_
 ·
  intro mid_j3
  refine a8 rfl (lx (ak (ds:=[vi c0,vi c1]) ah zs6 bx15 rfl rfl) (lx (ak (ds:=[vi a0,vi a1]) ah zs9 bx67 rfl rfl) (lo (aK (v:=vi (bN (c0,c1) (a0,a1))) (aA (vals:=[vg [vi c0,vi c1],vg [vi a0,vi a1]]) Try.func80 jd jP rfl) (im w96 (c0,c1) (a0,a1)) ?_))))
  intro w98 hb99
  replace hb99:=ar hb99 g97
  refine lx (e8 (m:=bN (c0,c1) (a0,a1)) (n:=0) rfl rfl) (ab ?_)
  by_cases p6:0<(bN (c0,c1) (a0,a1))
  ·
   refine ag rfl (dt p6) (a8 rfl ?_)
   replace bx15:=bx15.cn hb99
   refine lx (ak (ds:=[vi c0,vi c1]) ah zs6 bx15 rfl rfl) (lo ?_)
   replace bx67:=bx67.cn hb99
   refine aw (cs':=[vi c0,vi c1]) ah zs9 rfl bx67 rfl nq (AllOne.all (.cons rfl (.cons rfl .nil))) rfl ?_
   intro w100 ch101 bx102
   clear bx67
   refine ab (aa (aa ?_))
   clear bx15
   replace bH:=bH.cn hb99
   refine mid_j3 (c0,c1,g97) _ _ ⟨bH.ce ch101,zs7,zs9,zs10,(bx20.cn hb99).ce ch101,bx102,(bx71.cn hb99).ce ch101,?_⟩
   show(c0,c1)=(if 0<bN (c0,c1) (a0,a1) then(c0,c1) else(a0,a1))
   exact(if_pos ‹_›).symm
  refine aj rfl (df p6) (am (aa (aa ?_)))
  clear bx15
  refine mid_j3 (a0,a1,g97) _ _ ⟨bH.cn hb99,zs7,zs9,zs10,bx20.cn hb99,bx67.cn hb99,bx71.cn hb99,?_⟩
  show(a0,a1)=(if 0<bN (c0,c1) (a0,a1) then(c0,c1) else(a0,a1))
  exact(if_neg ‹_›).symm
 clear bx15 bx20 bx67 bx71 bH
 rintro⟨l0,l1,g105⟩ f103 w104 ⟨bH,z106_7,z106_9,z106_10,bx20,bx67,bx71,hj3⟩
 refine kU [false,false,true,true] (σ:=Int×Int×aH) (λ⟨g0,g1,gq⟩ f w=>aX w0 gq w/\f 9=vp b55 0/\f 10=vp b61 0/\Bx gq (is 5) w b55 [vi l0,vi l1]/\Bx gq (is 6) w b61 [vi g0,vi g1]/\((g0,g1)=(if bN (d0,d1) (b0,b1)<0 then(d0,d1) else(b0,b1)))) ?_ ?_
 ·
  intro mid_j4
  refine a8 rfl (lx (ak (ds:=[vi d0,vi d1]) ah z106_7 bx20 rfl rfl) (lx (ak (ds:=[vi b0,vi b1]) ah z106_10 bx71 rfl rfl) (lo (aK (v:=vi (bN (d0,d1) (b0,b1))) (aA (vals:=[vg [vi d0,vi d1],vg [vi b0,vi b1]]) Try.func80 jd jP rfl) (im w104 (d0,d1) (b0,b1)) ?_))))
  intro w107 hb108
  replace hb108:=ar hb108 g105
  refine lx (b6 (m:=bN (d0,d1) (b0,b1)) (n:=0) rfl rfl) (ab ?_)
  by_cases p8:(bN (d0,d1) (b0,b1))<0
  ·
   refine ag rfl (dt p8) (a8 rfl ?_)
   replace bx20:=bx20.cn hb108
   refine lx (ak (ds:=[vi d0,vi d1]) ah z106_7 bx20 rfl rfl) (lo ?_)
   replace bx71:=bx71.cn hb108
   refine aw (cs':=[vi d0,vi d1]) ah z106_10 rfl bx71 rfl nq (AllOne.all (.cons rfl (.cons rfl .nil))) rfl ?_
   intro w109 ch110 bx111
   clear bx71
   refine ab (aa (aa ?_))
   clear bx20
   replace bH:=bH.cn hb108
   refine mid_j4 (d0,d1,g105) _ _ ⟨bH.ce ch110,z106_9,z106_10,(bx67.cn hb108).ce ch110,bx111,?_⟩
   show(d0,d1)=(if bN (d0,d1) (b0,b1)<0 then(d0,d1) else(b0,b1))
   exact(if_pos ‹_›).symm
  refine aj rfl (df p8) (am (aa (aa ?_)))
  clear bx20
  refine mid_j4 (b0,b1,g105) _ _ ⟨bH.cn hb108,z106_9,z106_10,bx67.cn hb108,bx71.cn hb108,?_⟩
  show(b0,b1)=(if bN (d0,d1) (b0,b1)<0 then(d0,d1) else(b0,b1))
  exact(if_neg ‹_›).symm
 clear bx20 bx67 bx71 bH
 rintro⟨g0,g1,g114⟩ f112 w113 ⟨bH,z115_9,z115_10,bx67,bx71,hj4⟩
 refine a8 rfl (lx (ak (ds:=[vi l0,vi l1]) ah z115_9 bx67 rfl rfl) (lx (ak (ds:=[vi g0,vi g1]) ah z115_10 bx71 rfl rfl) (lo (aK (v:=vi (bN (l0,l1) (g0,g1))) (aA (vals:=[vg [vi l0,vi l1],vg [vi g0,vi g1]]) Try.func80 jd jP rfl) (im w113 (l0,l1) (g0,g1)) ?_))))
 intro w116 hb117
 replace hb117:=ar hb117 g114
 refine ai (bN (l0,l1) (g0,g1)) (ab (aq (aa ?_)))
 clear bx67 bx71
 refine a8 rfl (mi (bN (l0,l1) (g0,g1)) (lx (e8 (m:=bN (l0,l1) (g0,g1)) (n:=0) rfl rfl) (ma (vb (decide (0<(bN (l0,l1) (g0,g1))))) (ab ?_))))
 by_cases p11:0<(bN (l0,l1) (g0,g1))
 ·
  refine ag rfl (dt p11) (aa (a8 rfl (ai 0 (ab (au (vs:=[vi 0]) Try.func71 (.tmp rfl .nil) ?_)))))
  have e0:(0:Int)=(fo a b c d):=by
    (simp only[fo,<-hj1.1,<-hj1.2,<-hj2.1,<-hj2.2,<-hj3,<-hj4];((rw[if_pos ‹_›];done)))
  replace bH:=bH.cn hb117
  exact⟨ri e0,bH.below⟩
 refine aj rfl (df p11) (aa (a8 rfl (mi (bN (l0,l1) (g0,g1)) (lx (cq (m:=bN (l0,l1) (g0,g1)) (n:=0) rfl rfl) (ma (vb (decide ((bN (l0,l1) (g0,g1))=0))) (ab ?_))))))
 by_cases p13:(bN (l0,l1) (g0,g1))=0
 ·
  refine ag rfl (dt p13) (aa (a8 rfl (ai 2 (ab (au (vs:=[vi 2]) Try.func71 (.tmp rfl .nil) ?_)))))
  have e0:(2:Int)=(fo a b c d):=by
    (simp only[fo,<-hj1.1,<-hj1.2,<-hj2.1,<-hj2.2,<-hj3,<-hj4];((rw[if_neg ‹_›,if_pos (by omega)];done)))
  replace bH:=bH.cn hb117
  exact⟨ri e0,bH.below⟩
 refine aj rfl (df p13) (am (ao (aa (a8 rfl (ai 3 (ab (au (vs:=[vi 3]) Try.func71 (.tmp rfl .nil) ?_)))))))
 have e0:(3:Int)=(fo a b c d):=by
   (simp only[fo,<-hj1.1,<-hj1.2,<-hj2.1,<-hj2.2,<-hj3,<-hj4];((rw[if_neg ‹_›,if_neg (by omega)];done)))
 replace bH:=bH.cn hb117
 exact⟨ri e0,bH.below⟩
end TL
