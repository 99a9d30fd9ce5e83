import Derived.Test.YtfpckpgnnplhnaaGreatSkTlSqG
import Derived.Test.YtfpckpgnnplhnaaGreatSkTlSqN
import Derived.Test.YtfpckpgnnplhnaaGreatSkTlSqR
import Derived.Test.YtfpckpgnnplhnaaGreatSkTlSqC
import Derived.Test.YtfpckpgnnplhnaaGreatSkTlSpL
import Derived.Test.YtfpckpgnnplhnaaGreatSkTlGenA
import Derived.Test.YtfpckpgnnplhnaaGreatSkTlAli
set_option linter.all false
set_option maxRecDepth 20000
namespace TL
open Go Go.Proofs
theorem dj:Tryz.prog.follows .mixedOrders=true:=by kernel_rfl
theorem cS:Tp Tryz.prog 64 false 1 24 (.slice none 0 0):=Tp.of (by kernel_rfl)
theorem wT:Tryz.f42.body.isNone=false:=rfl
theorem ub:(Tryz.f42.name== "runtime.NumGoroutine")=false:=by decide+kernel
theorem uK:Tryz.f43.body.isNone=false:=rfl
theorem y5:(Tryz.f43.name== "runtime.NumGoroutine")=false:=by decide+kernel
theorem ki:Tryz.f58.body.isNone=false:=rfl
theorem jS:(Tryz.f58.name== "runtime.NumGoroutine")=false:=by decide+kernel
theorem vM:Tryz.f59.body.isNone=false:=rfl
theorem wa:(Tryz.f59.name== "runtime.NumGoroutine")=false:=by decide+kernel
theorem vo:Tryz.f60.body.isNone=false:=rfl
theorem vh:(Tryz.f60.name== "runtime.NumGoroutine")=false:=by decide+kernel
theorem pk:Tryz.f61.body.isNone=false:=rfl
theorem oW:(Tryz.f61.name== "runtime.NumGoroutine")=false:=by decide+kernel
theorem wD:Tryz.f62.body.isNone=false:=rfl
theorem uX:(Tryz.f62.name== "runtime.NumGoroutine")=false:=by decide+kernel
theorem wS:Tryz.f63.body.isNone=false:=rfl
theorem xT:(Tryz.f63.name== "runtime.NumGoroutine")=false:=by decide+kernel
theorem x7:Tryz.f64.body.isNone=false:=rfl
theorem vV:(Tryz.f64.name== "runtime.NumGoroutine")=false:=by decide+kernel
theorem vw:Tryz.f65.body.isNone=false:=rfl
theorem um:(Tryz.f65.name== "runtime.NumGoroutine")=false:=by decide+kernel
theorem uk:Tryz.f66.body.isNone=false:=rfl
theorem y6:(Tryz.f66.name== "runtime.NumGoroutine")=false:=by decide+kernel
theorem yc:Tryz.f67.body.isNone=false:=rfl
theorem yj:(Tryz.f67.name== "runtime.NumGoroutine")=false:=by decide+kernel
theorem uS:Tryz.f68.body.isNone=false:=rfl
theorem yi:(Tryz.f68.name== "runtime.NumGoroutine")=false:=by decide+kernel
theorem xV:Tryz.f69.body.isNone=false:=rfl
theorem uT:(Tryz.f69.name== "runtime.NumGoroutine")=false:=by decide+kernel
set_option maxHeartbeats 8000000 in
theorem wE(w0:World)(g:(Int)×(List Pt))(g_v:Value)(hg_v:Ro w0 g_v g.2)(hm:c7 g)(h3:3<=g.2.length/\g.2.length<=1000)(hr:lF (2*g.2.length) [fj g] [] 0=some (dQ g))(hT:vU (dQ g).1 (dQ g).2):
    Calls Tryz.prog 37 #[vg [vi g.1,g_v]] w0 (λee w=>∃xx:aw×Value×List Pp×(List Pp×List (bY Bd)),ee= .returned ((λ(⟨δ,rv0,L,A⟩:aw×Value×List Pp×(List Pp×List (bY Bd)))=>rv0) xx)/\(λ(⟨δ,rv0,L,A⟩:aw×Value×List Pp×(List Pp×List (bY Bd))) (w:World)=>dU w0 δ w/\Ow δ (is 1) (is 1) w rv0 L/\eW δ 2 w A.1 A.2/\AK A L (jy (dQ g).1 (dQ g).2)) xx w):=by
 refine ap Tryz.func37 rfl nq ?_
 have bH:=b6.start w0
 have Rg:=hg_v.sl
 obtain⟨hg3,hg4⟩:=h3
 refine a7 (a6 rfl (cN rfl (cq c0 (is 1) (1,0) rfl rfl ?_)))
 intro g4 w1 b3 ch2 bx5
 refine ma vn (ab (a7 (a6 rfl (lw (vg [vi 0,vn]) (bh (vs:=[]) rfl (by kernel_rfl)) (lo (cq g4 (is 2) (2,0) rfl rfl ?_))))))
 intro g9 w6 b8 ch7 bx10
 refine ma (vp b8 0) (ab (a7 (a7 (a6 rfl (lx (aa ea rfl rfl rfl rfl) ?_)))))
 replace bx5:=bx5.cn ch7
 refine lx (a8 bR rfl bx5 rfl) ?_
 replace Rg:=(Rg.cn ch2).cn ch7
 have len11:=(Rg).small
 refine lx (bp eR rfl Rg) (mi 0 (ab (am ?_)))
 clear bx5
 refine aV (σ:=Value×(List Bd)×Nat×aw) (λ⟨all_1_v,all_1,e,gq⟩ f w=>b6 w0 gq w/\f 3=vp b8 0/\f 11=g_v/\f 12=vi (g.2.length:Int)/\f 13=vi ↑e/\Sl gq (is 0) w g_v g.2/\Bx gq (is 2) w b8 [vi 0,all_1_v]/\Ow gq (is 5) (is 5) w all_1_v all_1/\(e:Int)<=((g.2.length:Int):Int)/\(all_1=(fj g).take e)) (λ⟨all_1_v,all_1,e,gq⟩=>Int.toNat (((g.2.length:Int):Int)-(e:Int))) (vn,[],0,g9) ?_ ?_
 replace bH:=bH.cn ch2
 · exact⟨bH.cn ch7,rfl,rfl,rfl,rfl,Rg,bx10,Ow.nil,by omega,by rfl⟩
 clear Rg bx10 bH
 rintro⟨all_1_v,all_1,e,g14⟩ f12 w13 ⟨bH,zs3,zs11,zs12,zs13,Rg,bx10,o_all_1,hle_e,hal⟩ back3
 have hall1:all_1.length<=e:=by rw[hal,List.length_take];omega
 refine a7 (a6 rfl (lx (bw (m:=↑e) (n:=(g.2.length:Int)) zs13 zs12) (ab (a7 ?_))))
 by_cases p3:(e:Int)<(g.2.length:Int)
 ·
  refine af rfl (dt p3) (ao (a7 (am (a7 (a6 rfl (mz zs13 (lx (ad (v:=g_v) (i:=↑e) eR rfl zs11 Rg zs13 (by omega) (by omega)) (lw (vg [vi ((gI g.2 ↑e).1),vi ((gI g.2 ↑e).2)]) (bJ (v:=g_v) (i:=↑e) bx rfl Rg (by omega) (by omega) rfl) (lo (bi g14 (is 3) (3,0) rfl bx ?_))))))))))
  intro g18 w15 b17 ch16 bx19
  refine ai (e:Int) (lo (ax (cs':=[vi ((gI g.2 ↑e).1),vi ((gI g.2 ↑e).2)]) bx rfl rfl bx19 rfl nq (AllOne.all (.cons rfl (.cons rfl .nil))) rfl ?_))
  intro w20 ch21 bx22
  clear bx19
  refine ab (bq g18 [0,1,2,3,4,5,6,7,8,9,10,11,12,13,14,15,16,19,20] dj ?_)
  intro w24 ch23
  refine xp (v:=vp b8 0) 0 rfl (λw=>aq zs3) (xp (v:=vp b8 0) 1 rfl (λw=>aq zs3) (xp (v:=vp b8 0) 2 rfl (λw=>ae rfl) (xp 3 rfl (λw=>aa dR rfl rfl rfl rfl) ?_)))
  have C25:=cg [3] (ch16.n.seq ((ch21.l rfl).seq ch23.n))
  replace bx10:=bx10.ca C25
  refine xh 4 [3,2,1,0,5,7,10,12,15,6,8,11,13,9,14,16,17] rfl (λw' hw'=>a8 bB rfl (bx10.bel hw') rfl) (xv 5 [4,3,2,1,0,7,10,12,15,8,11,13,14] rfl (aQ eO rfl rfl rfl (by decide) (by decide) rfl) ?_)
  replace bx22:=bx22.cn ch23
  refine xv 6 [5,4,3,2,1,0,7,10,12,15,8,11,13,14] rfl (a8 ah rfl bx22 rfl) (xv 7 [6,5,4,3,2,1,0,10,12,15,11,13,14] rfl (aQ eO rfl rfl rfl (by decide) (by decide) rfl) (xv 8 [7,6,5,4,3,2,1,0,10,12,15,11,13,14] rfl (a8 ah rfl bx22 rfl) (xp (v:=vi (min ((gI g.2 ↑e).1) ((gI g.2 ↑e).2))) 9 rfl (λw=>jj rfl rfl) (xv 10 [9,8,7,6,5,4,3,2,1,0,12,15,13] rfl (aQ eO rfl rfl rfl (by decide) (by decide) rfl) (xv 11 [10,9,8,7,6,5,4,3,2,1,0,12,15,13] rfl (a8 ah rfl bx22 rfl) (xv 12 [11,10,9,8,7,6,5,4,3,2,1,0,15] rfl (aQ eO rfl rfl rfl (by decide) (by decide) rfl) (xv 13 [12,11,10,9,8,7,6,5,4,3,2,1,0,15] rfl (a8 ah rfl bx22 rfl) ?_)))))))
  refine xp (v:=vi (max ((gI g.2 ↑e).1) ((gI g.2 ↑e).2))) 14 rfl (λw=>sf rfl rfl) (xp (v:=vi ↑e) 15 rfl (λw=>aq rfl) (xp (v:=vg [vi (min ((gI g.2 ↑e).1) ((gI g.2 ↑e).2)),vi (max ((gI g.2 ↑e).1) ((gI g.2 ↑e).2)),vi ↑e,vi 0]) 16 rfl (λw=>bh (vs:=[(0,vi (min ((gI g.2 ↑e).1) ((gI g.2 ↑e).2))),(1,vi (max ((gI g.2 ↑e).1) ((gI g.2 ↑e).2))),(2,vi ↑e),(3,vi 0)]) rfl (by kernel_rfl)) (b9 17 rfl (by kernel_rfl) rfl ?_)))
  refine jF (γ:=g18) 4 (min ((gI g.2 ↑e).1) ((gI g.2 ↑e).2)) (max ((gI g.2 ↑e).1) ((gI g.2 ↑e).2)) (e:Int) 0 cJ aF ?_
  intro g26 w27 v28 ch29 o30
  refine b9 18 rfl (by kernel_rfl) rfl ?_
  have C31:=cg [3] (ch16.n.seq ((ch21.l rfl).seq (ch23.n.seq ch29.n)))
  replace o_all_1:=o_all_1.ca C31
  refine i9 o_all_1 o30.flat cJ aF (by(simp;omega)) ?_
  intro g32 w33 v34 ch35 o36
  clear o_all_1
  refine xp (v:=vp b8 0) 19 rfl (λw=>ae rfl) (xp 20 rfl (λw=>aa dR rfl rfl rfl rfl) (b9 21 rfl (by kernel_rfl) rfl ?_))
  replace bx10:=(bx10.cn ch29).ce ch35
  refine aC (cs':=[vi 0,v34]) bB rfl rfl bx10 (aP o36.flat) nq (aG o36.flat) rfl ?_
  intro w37 ch38 bx39
  clear bx10
  refine bS (by kernel_rfl) (ak ?_)
  clear bx22 o30
  refine a6 rfl (lx (aS (m:=↑e) (n:=1) zs13 rfl (by omega)) (mi ((e:Int)+1) (ab ?_)))
  have C40:=cg [2,3,5] (ch16.n.seq ((ch21.l rfl).seq (ch23.n.seq (ch29.n.seq ((ch35.l rfl).seq (ch38.l rfl))))))
  refine back3 (v34,(all_1++([(min ((gI g.2 ↑e).1) ((gI g.2 ↑e).2),max ((gI g.2 ↑e).1) ((gI g.2 ↑e).2),(e:Int),0)]:List Bd)),e+1,g32) _ _ ⟨bH.ca C40,zs3,zs11,zs12,rfl,Rg.ca C40,bx39,o36.ce ch38,by omega,?_⟩ ?_
  · show(all_1++([(min ((gI g.2 ↑e).1) ((gI g.2 ↑e).2),max ((gI g.2 ↑e).1) ((gI g.2 ↑e).2),(e:Int),0)]:List Bd))=(fj g).take (e+1)
    exact rB hal ‹_›
  · show Int.toNat (_-_)<Int.toNat (_-_)
    omega
 refine ag rfl (df p3) (aO rfl (a7 ?_))
 have hall:all_1=fj g:=by rw[hal,List.take_of_length_le (by rw[ig];omega)]
 have pm41:eW g14 6 w13 (([],[]):List Pp×List (bY Bd)).1 (([],[]):List Pp×List (bY Bd)).2:=eW.nil
 obtain⟨g42,ch43,pm44⟩:=eW.add pm41 rfl rfl rfl bx10 o_all_1
 clear bx10 o_all_1
 refine a6 rfl (mz zs3 (lo (ar (α:=Pp) g42 (is 7) (is 7) (7,0) rfl ([(⟨b8⟩:Pp)]:List Pp) iZ aW (by decide) (by decide) (vs:=[(0,vp b8 0)]) rfl rfl (.cons rfl .nil) ?_)))
 intro g45 w46 v47 ch48 o49
 refine lw (vg [vi 0,vn,v47]) (bh (vs:=[(2,v47)]) rfl (by rw[Sl.form o49.flat];kernel_rfl)) (lo (cq g45 (is 8) (8,0) rfl rfl ?_))
 intro g53 w50 b52 ch51 bx54
 refine ma (vp b52 0) (ab (a7 (am ?_)))
 refine aV (σ:=Value×(List Pp)×Value×(List Pp)×Int×(List Pp×List (bY Bd))×aw) (λ⟨done_v,done,todo_v,todo,nm,pmA,gq⟩ f w=>b6 w0 gq w/\f 6=vp b52 0/\Sl gq (is 0) w g_v g.2/\eW gq 6 w pmA.1 pmA.2/\Bx gq (is 8) w b52 [vi nm,done_v,todo_v]/\Ow gq (is 14) (is 14) w done_v done/\Ow gq (is 7) (is 7) w todo_v todo/\(fw (dQ g) pmA todo done nm)) (λ⟨done_v,done,todo_v,todo,nm,pmA,gq⟩=>ly (gF pmA todo)) (vn,[],v47,([(⟨b8⟩:Pp)]:List Pp),0,((([],[]):List Pp×List (bY Bd)).1++[(⟨b8⟩:Pp)],(([],[]):List Pp×List (bY Bd)).2++[(0,all_1)]),g53) ?_ ?_
 have C55:=cg [2,5] ((ch43.l2 rfl rfl).seq (ch48.n.seq ch51.n))
 · exact⟨bH.ca C55,rfl,Rg.ca C55,(pm44.cn ch48).cn ch51,bx54,Ow.nil,o49.cn ch51,by(rw[hall];exact fw.first (by rw[ig];exact hr) (by rw[ig];omega) (by rw[ig];omega))⟩
 clear Rg pm44 o49 bx54 bH
 rintro⟨done_v,done,todo_v,todo,nm,pmA,g58⟩ f56 w57 ⟨bH,zs6,Rg,pm44,bx54,o_done,o_todo,hsp⟩ back8
 refine a7 (a7 (a6 rfl (mz zs6 (lw (vp b52 0) (ae rfl) (lx (aa lg rfl rfl rfl rfl) (lx (a8 cS rfl bx54 rfl) ?_))))))
 have len59:=(o_todo.flat).small
 refine lx (bp iZ rfl o_todo.flat) (lx (fm (m:=(todo.length:Int)) (n:=0) rfl rfl) (ab ?_))
 by_cases p8:0<(todo.length:Int)
 ·
  refine af rfl (dt p8) (ao (am (a7 ?_)))
  have htt:=xD ‹_›
  obtain⟨hxA,hxT,hxD,FF,zz,hzz,_⟩:=hsp.pop htt
  have hzl:=e8 hzz
  have hb0:=hsp.b0
  have hb1:=hsp.b1
  have hb2:=hsp.b2
  refine cG g58 rfl dj (by kernel_rfl) ?_
  intro w61 ch60
  refine qz zs6 (qv (vp b52 0) (λw' hw'=>ae rfl) (qx (λw' hw'=>aa lg rfl rfl rfl rfl) ?_))
  replace bx54:=bx54.cn ch60
  refine qx (λw' hw'=>a8 cS rfl (bx54.bel hw') rfl) (qz zs6 (qv (vp b52 0) (λw' hw'=>ae rfl) (qx (λw' hw'=>aa lg rfl rfl rfl rfl) (qx (λw' hw'=>a8 cS rfl (bx54.bel hw') rfl) ?_))))
  replace o_todo:=o_todo.cn ch60
  refine qx (λw' hw'=>bp iZ rfl (o_todo.flat.bel hw')) (qx (λw' hw'=>ej (m:=(todo.length:Int)) (n:=1) rfl rfl (by omega)) (qx (λw' hw'=>ad (v:=todo_v) (i:=(todo.length:Int)-1) iZ rfl rfl (o_todo.flat.bel hw') rfl (by omega) (by omega)) (qx (λw' hw'=>av (v:=todo_v) (i:=(todo.length:Int)-1) aW rfl (o_todo.flat.bel hw') (by omega) (by omega) (by decide) rfl) (qv (Value.pointer (some ⟨(gI todo ((todo.length:Int)-1)).n,0,none⟩)) (λw' hw'=>bm rfl) (ep ?_)))))
  intro w62 hc63
  replace hc63:=aN hc63 g58
  refine a7 (bq g58 [0,1,2,3,4,5,6,7,8,9,10,11,12,13] dj ?_)
  intro w65 ch64
  refine xp (v:=vp b52 0) 0 rfl (λw=>aq zs6) (xp (v:=vp b52 0) 1 rfl (λw=>aq zs6) (xp (v:=vp b52 0) 2 rfl (λw=>ae rfl) (xp 3 rfl (λw=>aa lg rfl rfl rfl rfl) ?_)))
  replace bx54:=(bx54.cn hc63).cn ch64
  refine xv 4 [3,2,1,0,5,6,7,8,9,10] rfl (a8 cS rfl bx54 rfl) (xp (v:=vp b52 0) 5 rfl (λw=>aq zs6) (xp (v:=vp b52 0) 6 rfl (λw=>ae rfl) (xp 7 rfl (λw=>aa lg rfl rfl rfl rfl) (xv 8 [7,6,5,4,3,2,1,0] rfl (a8 cS rfl bx54 rfl) ?_))))
  replace o_todo:=(o_todo.cn hc63).cn ch64
  refine xp 9 rfl (λw=>bp iZ rfl o_todo.flat) (xp 10 rfl (λw=>ej (m:=(todo.length:Int)) (n:=1) rfl rfl (by omega)) (xp (v:=(bM todo_v 1 (Int.toNat 0) (Int.toNat ((todo.length:Int)-1)))) 11 rfl (λw=>gE (v:=todo_v) (l:=0) (h:=(todo.length:Int)-1) iZ rfl rfl o_todo.flat (.inr ⟨rfl,rfl⟩) (.inl (congrArg some rfl)) (by omega) (by omega) (by omega)) ?_))
  have r67:=kV o_todo (show Int.toNat ((todo.length:Int)-1)<=List.length _ by omega)
  refine xp (v:=vp b52 0) 12 rfl (λw=>ae rfl) (xp 13 rfl (λw=>aa lg rfl rfl rfl rfl) (b9 14 rfl (by kernel_rfl) rfl (aC (cs':=[vi nm,done_v,(bM todo_v 1 (Int.toNat 0) (Int.toNat ((todo.length:Int)-1)))]) cS rfl rfl bx54 (aP r67.flat) nq (aG r67.flat) rfl ?_)))
  intro w68 ch69 bx70
  clear bx54
  refine bS (by kernel_rfl) ?_
  clear o_todo
  have C77:=cg [8] (ch60.n.seq (hc63.n.seq (ch64.n.seq (ch69.l rfl))))
  replace pm44:=pm44.ca C77
  obtain⟨g74,v71,ch75,pm76,bx72,o73⟩:=eW.opn 9 10 (u:=(gI todo ((todo.length:Int)-1))) pm44 (j:=(pmA.1.idxOf (gI todo ((todo.length:Int)-1)))) (by exact fb hxA)
  obtain⟨KB,hKB⟩:∃q_,q_=(lA pmA (gI todo ((todo.length:Int)-1))).1:=⟨_,rfl⟩
  rw[<-hKB] at bx72
  obtain⟨PB,hPB⟩:∃q_,q_=(lA pmA (gI todo ((todo.length:Int)-1))).2:=⟨_,rfl⟩
  rw[<-hPB] at o73
  have hzP:fh PB nm=some zz:=by rw[hPB];exact hzz
  have hPl:=e8 hzP
  refine a6 rfl (mz zs6 (mv (Value.pointer (some ⟨(gI todo ((todo.length:Int)-1)).n,0,none⟩)) (lo (br (aH (vals:=[vp b52 0,Value.pointer (some ⟨(gI todo ((todo.length:Int)-1)).n,0,none⟩)]) Tryz.func42 wT ub rfl) (ap Tryz.func42 rfl nq ?_)))))
  have C78:=cg [6,8] (ch60.n.seq (hc63.n.seq (ch64.n.seq ((ch69.l rfl).seq (ch75.l rfl)))))
  replace o_done:=o_done.ca C78
  replace r67:=(r67.ce ch69).ce ch75
  refine a7 (a6 rfl (cN rfl (cq g74 (is 11) (11,0) rfl rfl ?_)))
  intro g82 w79 b81 ch80 bx83
  refine ab (a7 (a7 (a6 rfl (lx (a8 aW rfl bx83 rfl) ?_))))
  replace bx72:=bx72.cn ch80
  replace o73:=o73.cn ch80
  refine lo (bE (aH (vals:=[Value.pointer (some ⟨(gI todo ((todo.length:Int)-1)).n,0,none⟩)]) Tryz.func57 qr pp rfl) (j5 w79 (gI todo ((todo.length:Int)-1)).n (vi KB) v71 PB (o73.flat).ro (iR (bx72)) (by omega) (by omega)) ?_)
  rintro⟨d85,v87⟩ w84 ⟨fr86,o88⟩
  obtain⟨g89,ch90,G89⟩:=i8 g82 fr86 (λn=>if n=1 then 12 else 0)
  replace o88:=o88.gl G89 12
  have len91:=(o88.flat).small
  refine lx (bp bF rfl o88.flat) (lx (dA (m:=(List.length (cC PB):Int)) (n:=2) rfl rfl) (ab ?_))
  by_cases p1_c1:(List.length (cC PB):Int)=2
  ·
   refine af rfl (dt p1_c1) (a7 ?_)
   clear o88
   refine a6 rfl (mv (vp b52 0) ?_)
   replace bx83:=bx83.cn ch90
   refine lx (a8 aW rfl bx83 rfl) (lo (br (aH (vals:=[vp b52 0,Value.pointer (some ⟨(gI todo ((todo.length:Int)-1)).n,0,none⟩),vi 2]) Tryz.func58 ki jS rfl) (ap Tryz.func58 rfl nq ?_)))
   replace o_done:=(o_done.cn ch80).cn ch90
   replace r67:=(r67.cn ch80).cn ch90
   replace o73:=o73.cn ch90
   refine a7 (a6 rfl (mv (Value.pointer (some ⟨(gI todo ((todo.length:Int)-1)).n,0,none⟩)) (mi 2 (lw (Value.pointer (some ⟨(gI todo ((todo.length:Int)-1)).n,0,none⟩)) (ae rfl) (lx (aa dR rfl rfl rfl rfl) (lo ?_))))))
   replace bx72:=bx72.cn ch90
   refine ax (cs':=[vi 2,v71]) ah rfl rfl bx72 rfl nq (AllOne.all (.cons rfl .nil)) rfl ?_
   intro w92 ch93 bx94
   clear bx72
   refine ab ?_
   replace o73:=o73.ce ch93
   have C98:=cg [9] (ch80.n.seq (ch90.n.seq (ch93.l rfl)))
   replace pm76:=pm76.ca C98
   obtain⟨g95,ch96,pm97⟩:=d8.close pm76 rfl rfl rfl (u:=(gI todo ((todo.length:Int)-1))) (by exact fb hxA) bx94 o73
   clear o73 bx94
   refine a6 rfl (mv (vp b52 0) (mv (vp b52 0) (lw (vp b52 0) (ae rfl) (lx (aa lg rfl rfl rfl rfl) ?_))))
   have C99:=cg [6,9,10] ((ch75.l rfl).seq (ch80.n.seq (ch90.n.seq ((ch93.l rfl).seq (ch96.l2 rfl rfl)))))
   replace bx70:=bx70.ca C99
   refine lx (a8 cS rfl bx70 rfl) (mv (Value.pointer (some ⟨(gI todo ((todo.length:Int)-1)).n,0,none⟩)) (lo (ar (α:=Pp) g95 (is 13) (is 13) (13,0) rfl ([(gI todo ((todo.length:Int)-1))]:List Pp) iZ aW (by decide) (by decide) (vs:=[(0,Value.pointer (some ⟨(gI todo ((todo.length:Int)-1)).n,0,none⟩))]) rfl rfl (.cons rfl .nil) ?_)))
   intro g100 w101 v102 ch103 o104
   refine lo ?_
   have C105:=cg [9,10] ((ch93.l rfl).seq ((ch96.l2 rfl rfl).seq ch103.n))
   replace o_done:=o_done.ca C105
   refine aK (α:=Pp) (xs:=done) (ys:=([(gI todo ((todo.length:Int)-1))]:List Pp)) g100 (J:=is 14) (S:=is 14) (14,0) rfl iZ aW (by decide) rfl rfl rfl o_done o104.flat (by decide) (by(simp;omega)) ?_
   intro g106 w107 v108 ch109 o110
   clear o_done
   refine lw (vp b52 0) (ae rfl) (lx (aa lg rfl rfl rfl rfl) (lo ?_))
   replace bx70:=(bx70.cn ch103).ce ch109
   refine aC (cs':=[vi nm,v108,(bM todo_v 1 (Int.toNat 0) (Int.toNat ((todo.length:Int)-1)))]) cS rfl rfl bx70 (aP o110.flat) nq (aG o110.flat) rfl ?_
   intro w111 ch112 bx113
   clear bx70
   refine ab (dS (vs:=[]) Tryz.func58 .nil ?_)
   refine⟨vt [],rfl,?_⟩
   refine ab (au (vs:=[]) Tryz.func42 .nil ?_)
   refine⟨vt [],rfl,?_⟩
   refine ab (ak ?_)
   have C114:=cg [6,8,9,10,14] (ch60.n.seq (hc63.n.seq (ch64.n.seq ((ch69.l rfl).seq ((ch75.l rfl).seq (ch80.n.seq (ch90.n.seq ((ch93.l rfl).seq ((ch96.l2 rfl rfl).seq (ch103.n.seq ((ch109.l rfl).seq (ch112.l rfl))))))))))))
   have C115:=cg [8,14] (ch103.n.seq ((ch109.l rfl).seq (ch112.l rfl)))
   have C116:=cg [8,9,10,14] ((ch93.l rfl).seq ((ch96.l2 rfl rfl).seq (ch103.n.seq ((ch109.l rfl).seq (ch112.l rfl)))))
   refine back8 (v108,(done++([(gI todo ((todo.length:Int)-1))]:List Pp)),(bM todo_v 1 (Int.toNat 0) (Int.toNat ((todo.length:Int)-1))),(List.take (Int.toNat ((todo.length:Int)-1)) todo),nm,(pmA.1,List.set pmA.2 (pmA.1.idxOf (gI todo ((todo.length:Int)-1))) (2,PB)),g106) _ _ ⟨bH.ca C114,zs6,Rg.ca C114,pm97.ca C115,bx113,o110.ce ch112,r67.ca C116,?_⟩ ?_
   · show fw (dQ g) (pmA.1,List.set pmA.2 (pmA.1.idxOf (gI todo ((todo.length:Int)-1))) (2,PB)) (List.take (Int.toNat ((todo.length:Int)-1)) todo) (done++([(gI todo ((todo.length:Int)-1))]:List Pp)) nm
     (subst hKB;subst hPB;exact hsp.fin htt (λz hz=>AL hz ‹_›))
   · show ly (gF (pmA.1,List.set pmA.2 (pmA.1.idxOf (gI todo ((todo.length:Int)-1))) (2,PB)) (List.take (Int.toNat ((todo.length:Int)-1)) todo))<ly (gF pmA todo)
     (subst hKB;subst hPB;exact hsp.finM htt)
  refine ag rfl (df p1_c1) (ao (a7 (a7 ?_)))
  clear o88
  refine a6 rfl ?_
  replace bx83:=bx83.cn ch90
  refine lx (a8 aW rfl bx83 rfl) ?_
  replace bx72:=bx72.cn ch90
  replace o73:=o73.cn ch90
  refine lo (bV (v:=vb (i5 PB)) (aH (vals:=[Value.pointer (some ⟨(gI todo ((todo.length:Int)-1)).n,0,none⟩)]) Tryz.func59 vM wa rfl) (wF w84 (gI todo ((todo.length:Int)-1)).n (vi KB) v71 PB (o73.flat).ro (iR (bx72)) (by omega) (by omega)) ?_)
  intro w117 hb118
  replace hb118:=aN hb118 g89
  refine ab ?_
  by_cases p3_c1:(i5 PB)=true
  ·
   refine af rfl p3_c1 (a7 (a6 rfl (mv (vp b52 0) ?_)))
   replace bx83:=bx83.cn hb118
   refine lx (a8 aW rfl bx83 rfl) (lo (br (aH (vals:=[vp b52 0,Value.pointer (some ⟨(gI todo ((todo.length:Int)-1)).n,0,none⟩),vi 1]) Tryz.func58 ki jS rfl) (ap Tryz.func58 rfl nq ?_)))
   have C119:=cg [] (ch80.n.seq (ch90.n.seq hb118.n))
   replace o_done:=o_done.ca C119
   replace r67:=r67.ca C119
   replace o73:=o73.cn hb118
   refine a7 (a6 rfl (mv (Value.pointer (some ⟨(gI todo ((todo.length:Int)-1)).n,0,none⟩)) (mi 1 (lw (Value.pointer (some ⟨(gI todo ((todo.length:Int)-1)).n,0,none⟩)) (ae rfl) (lx (aa dR rfl rfl rfl rfl) (lo ?_))))))
   replace bx72:=bx72.cn hb118
   refine ax (cs':=[vi 1,v71]) ah rfl rfl bx72 rfl nq (AllOne.all (.cons rfl .nil)) rfl ?_
   intro w120 ch121 bx122
   clear bx72
   refine ab ?_
   replace o73:=o73.ce ch121
   have C126:=cg [9] (ch80.n.seq (ch90.n.seq (hb118.n.seq (ch121.l rfl))))
   replace pm76:=pm76.ca C126
   obtain⟨g123,ch124,pm125⟩:=d8.close pm76 rfl rfl rfl (u:=(gI todo ((todo.length:Int)-1))) (by exact fb hxA) bx122 o73
   clear o73 bx122
   refine a6 rfl (mv (vp b52 0) (mv (vp b52 0) (lw (vp b52 0) (ae rfl) (lx (aa lg rfl rfl rfl rfl) ?_))))
   have C127:=cg [6,9,10] ((ch75.l rfl).seq (ch80.n.seq (ch90.n.seq (hb118.n.seq ((ch121.l rfl).seq (ch124.l2 rfl rfl))))))
   replace bx70:=bx70.ca C127
   refine lx (a8 cS rfl bx70 rfl) (mv (Value.pointer (some ⟨(gI todo ((todo.length:Int)-1)).n,0,none⟩)) (lo (ar (α:=Pp) g123 (is 15) (is 15) (15,0) rfl ([(gI todo ((todo.length:Int)-1))]:List Pp) iZ aW (by decide) (by decide) (vs:=[(0,Value.pointer (some ⟨(gI todo ((todo.length:Int)-1)).n,0,none⟩))]) rfl rfl (.cons rfl .nil) ?_)))
   intro g128 w129 v130 ch131 o132
   refine lo ?_
   have C133:=cg [9,10] ((ch121.l rfl).seq ((ch124.l2 rfl rfl).seq ch131.n))
   replace o_done:=o_done.ca C133
   refine aK (α:=Pp) (xs:=done) (ys:=([(gI todo ((todo.length:Int)-1))]:List Pp)) g128 (J:=is 14) (S:=is 14) (14,0) rfl iZ aW (by decide) rfl rfl rfl o_done o132.flat (by decide) (by(simp;omega)) ?_
   intro g134 w135 v136 ch137 o138
   clear o_done
   refine lw (vp b52 0) (ae rfl) (lx (aa lg rfl rfl rfl rfl) (lo ?_))
   replace bx70:=(bx70.cn ch131).ce ch137
   refine aC (cs':=[vi nm,v136,(bM todo_v 1 (Int.toNat 0) (Int.toNat ((todo.length:Int)-1)))]) cS rfl rfl bx70 (aP o138.flat) nq (aG o138.flat) rfl ?_
   intro w139 ch140 bx141
   clear bx70
   refine ab (dS (vs:=[]) Tryz.func58 .nil ?_)
   refine⟨vt [],rfl,?_⟩
   refine ab (au (vs:=[]) Tryz.func42 .nil ?_)
   refine⟨vt [],rfl,?_⟩
   refine ab (ak ?_)
   have C142:=cg [6,8,9,10,14] (ch60.n.seq (hc63.n.seq (ch64.n.seq ((ch69.l rfl).seq ((ch75.l rfl).seq (ch80.n.seq (ch90.n.seq (hb118.n.seq ((ch121.l rfl).seq ((ch124.l2 rfl rfl).seq (ch131.n.seq ((ch137.l rfl).seq (ch140.l rfl)))))))))))))
   have C143:=cg [8,14] (ch131.n.seq ((ch137.l rfl).seq (ch140.l rfl)))
   have C144:=cg [8,9,10,14] ((ch121.l rfl).seq ((ch124.l2 rfl rfl).seq (ch131.n.seq ((ch137.l rfl).seq (ch140.l rfl)))))
   refine back8 (v136,(done++([(gI todo ((todo.length:Int)-1))]:List Pp)),(bM todo_v 1 (Int.toNat 0) (Int.toNat ((todo.length:Int)-1))),(List.take (Int.toNat ((todo.length:Int)-1)) todo),nm,(pmA.1,List.set pmA.2 (pmA.1.idxOf (gI todo ((todo.length:Int)-1))) (1,PB)),g134) _ _ ⟨bH.ca C142,zs6,Rg.ca C142,pm125.ca C143,bx141,o138.ce ch140,r67.ca C144,?_⟩ ?_
   · show fw (dQ g) (pmA.1,List.set pmA.2 (pmA.1.idxOf (gI todo ((todo.length:Int)-1))) (1,PB)) (List.take (Int.toNat ((todo.length:Int)-1)) todo) (done++([(gI todo ((todo.length:Int)-1))]:List Pp)) nm
     (subst hKB;subst hPB;exact hsp.fin htt (λz hz=>AO hz ‹_› ‹_›))
   · show ly (gF (pmA.1,List.set pmA.2 (pmA.1.idxOf (gI todo ((todo.length:Int)-1))) (1,PB)) (List.take (Int.toNat ((todo.length:Int)-1)) todo))<ly (gF pmA todo)
     (subst hKB;subst hPB;exact hsp.finM htt)
  refine ag rfl (Bool.eq_false_iff.2 p3_c1) (ao (a7 (a7 (a6 rfl ?_))))
  replace bx83:=bx83.cn hb118
  refine lx (a8 aW rfl bx83 rfl) ?_
  replace bx72:=bx72.cn hb118
  replace o73:=o73.cn hb118
  refine lo (bV (v:=vt [vi ((d6 PB).1),vi ((d6 PB).2.1),vb ((d6 PB).2.2)]) (aH (vals:=[Value.pointer (some ⟨(gI todo ((todo.length:Int)-1)).n,0,none⟩)]) Tryz.func60 vo vh rfl) (sL w117 (gI todo ((todo.length:Int)-1)).n (vi KB) v71 PB (o73.flat).ro (iR (bx72)) (by omega) (by omega)) ?_)
  intro w145 hb146
  replace hb146:=aN hb146 g89
  refine mv (vt [vi ((d6 PB).1),vi ((d6 PB).2.1),vb ((d6 PB).2.2)]) (lx (aJ rfl rfl) (lx (aJ rfl rfl) (lx (aJ rfl rfl) (lo (bi g89 (is 17) (17,0) rfl ah ?_)))))
  intro g150 w147 b149 ch148 bx151
  refine lo (bi g150 (is 18) (18,0) rfl ah ?_)
  intro g155 w152 b154 ch153 bx156
  refine lo ?_
  replace bx151:=bx151.cn ch153
  refine ax (cs':=[vi ((d6 PB).1)]) ah rfl rfl bx151 rfl nq (AllOne.all (.cons rfl .nil)) rfl ?_
  intro w157 ch158 bx159
  clear bx151
  refine lo ?_
  replace bx156:=bx156.ce ch158
  refine ax (cs':=[vi ((d6 PB).2.1)]) ah rfl rfl bx156 rfl nq (AllOne.all (.cons rfl .nil)) rfl ?_
  intro w160 ch161 bx162
  clear bx156
  refine ma (vb ((d6 PB).2.2)) (ab (a7 (a6 rfl (mv (vb ((d6 PB).2.2)) (ab ?_)))))
  by_cases p6_c1:((d6 PB).2.2)=true
  ·
   refine af rfl p6_c1 (a7 ?_)
   obtain⟨ff,hff⟩:∃ff,ff=rr PB (d6 PB).1 (d6 PB).2.1:=⟨_,rfl⟩
   refine a6 rfl (mv (vp b52 0) ?_)
   have C163:=cg [17,18] (hb146.n.seq (ch148.n.seq (ch153.n.seq ((ch158.l rfl).seq (ch161.l rfl)))))
   replace bx83:=bx83.ca C163
   refine lx (a8 aW rfl bx83 rfl) ?_
   replace bx159:=bx159.ce ch161
   refine lx (a8 ah rfl bx159 rfl) (lx (a8 ah rfl bx162 rfl) (lw (Value.func (.func 62) #[] (List.toArray [vp b81 0,vp b149 0,vp b154 0])) (ii (vals:=[vp b81 0,vp b149 0,vp b154 0]) rfl) (lo (br (aH (vals:=[vp b52 0,Value.pointer (some ⟨(gI todo ((todo.length:Int)-1)).n,0,none⟩),vi ((d6 PB).1),vi ((d6 PB).2.1),Value.func (.func 62) #[] (List.toArray [vp b81 0,vp b149 0,vp b154 0])]) Tryz.func61 pk oW rfl) (ap Tryz.func61 rfl nq ?_)))))
   have C164:=cg [17,18] (ch80.n.seq (ch90.n.seq (hb118.n.seq (hb146.n.seq (ch148.n.seq (ch153.n.seq ((ch158.l rfl).seq (ch161.l rfl))))))))
   replace o_done:=o_done.ca C164
   replace r67:=r67.ca C164
   replace o73:=o73.ca C163
   refine a7 (a6 rfl (ma ((Value.pointer none)) (ma ((Value.pointer none)) (ab (a7 (a6 rfl (lw (vg [vi 0,vn]) (bh (vs:=[]) rfl (by kernel_rfl)) (lo (cq g155 (is 19) (19,0) rfl rfl ?_)))))))))
   intro g168 w165 b167 ch166 bx169
   refine lw (vg [vi 0,vn]) (bh (vs:=[]) rfl (by kernel_rfl)) (lo (cq g168 (is 20) (20,0) rfl rfl ?_))
   intro g173 w170 b172 ch171 bx174
   refine ma (vp b167 0) (ma (vp b172 0) (ab (a7 (a7 (a6 rfl (mv (Value.pointer (some ⟨(gI todo ((todo.length:Int)-1)).n,0,none⟩)) (lw (Value.pointer (some ⟨(gI todo ((todo.length:Int)-1)).n,0,none⟩)) (ae rfl) (lx (aa dR rfl rfl rfl rfl) ?_))))))))
   have C175:=cg [17,18] (hb146.n.seq (ch148.n.seq (ch153.n.seq ((ch158.l rfl).seq ((ch161.l rfl).seq (ch166.n.seq ch171.n))))))
   replace bx72:=bx72.ca C175
   refine lx (a8 bB rfl bx72 rfl) ?_
   replace o73:=(o73.cn ch166).cn ch171
   have len176:=(o73.flat).small
   refine lx (bp cJ rfl o73.flat) (mi 0 (ab (am ?_)))
   refine aV (σ:=Value×(List Bd)×Nat×Value×(List Bd)×aw) (λ⟨O1_c4_v,O1_c4,k_c4,O2_c4_v,O2_c4,gq⟩ f w=>b6 w0 gq w/\f 0=vp b52 0/\f 2=vi ((d6 PB).1)/\f 3=vi ((d6 PB).2.1)/\f 4=Value.func (.func 62) #[] (List.toArray [vp b81 0,vp b149 0,vp b154 0])/\f 10=vp b167 0/\f 11=vp b172 0/\f 22=v71/\f 23=vi (PB.length:Int)/\f 24=vi ↑k_c4/\Sl gq (is 0) w g_v g.2/\Ow gq (is 14) (is 14) w done_v done/\Ow gq (is 7) (is 7) w (bM todo_v 1 (Int.toNat 0) (Int.toNat ((todo.length:Int)-1))) (List.take (Int.toNat ((todo.length:Int)-1)) todo)/\Bx gq (is 8) w b52 [vi nm,done_v,(bM todo_v 1 (Int.toNat 0) (Int.toNat ((todo.length:Int)-1)))]/\d8 gq 6 (pmA.1.idxOf (gI todo ((todo.length:Int)-1))) w pmA.1 pmA.2/\Bx gq (is 9) w (gI todo ((todo.length:Int)-1)).n [vi KB,v71]/\Ow gq (is 10) (is 10) w v71 PB/\Bx gq (is 11) w b81 [Value.pointer (some ⟨(gI todo ((todo.length:Int)-1)).n,0,none⟩)]/\Bx gq (is 17) w b149 [vi ((d6 PB).1)]/\Bx gq (is 18) w b154 [vi ((d6 PB).2.1)]/\Bx gq (is 19) w b167 [vi 0,O1_c4_v]/\Bx gq (is 20) w b172 [vi 0,O2_c4_v]/\Ow gq (is 23) (is 23) w O1_c4_v O1_c4/\Ow gq (is 25) (is 25) w O2_c4_v O2_c4/\(k_c4:Int)<=((PB.length:Int):Int)/\(mP ff PB k_c4 O1_c4 O2_c4)) (λ⟨O1_c4_v,O1_c4,k_c4,O2_c4_v,O2_c4,gq⟩=>Int.toNat (((PB.length:Int):Int)-(k_c4:Int))) (vn,[],0,vn,[],g173) ?_ ?_
   have C177:=cg [6,8,17,18] (ch60.n.seq (hc63.n.seq (ch64.n.seq ((ch69.l rfl).seq ((ch75.l rfl).seq (ch80.n.seq (ch90.n.seq (hb118.n.seq (hb146.n.seq (ch148.n.seq (ch153.n.seq ((ch158.l rfl).seq ((ch161.l rfl).seq (ch166.n.seq ch171.n))))))))))))))
   have C178:=cg [6,17,18] ((ch75.l rfl).seq (ch80.n.seq (ch90.n.seq (hb118.n.seq (hb146.n.seq (ch148.n.seq (ch153.n.seq ((ch158.l rfl).seq ((ch161.l rfl).seq (ch166.n.seq ch171.n))))))))))
   have C179:=cg [17,18] (ch80.n.seq (ch90.n.seq (hb118.n.seq (hb146.n.seq (ch148.n.seq (ch153.n.seq ((ch158.l rfl).seq ((ch161.l rfl).seq (ch166.n.seq ch171.n)))))))))
   · exact⟨bH.ca C177,rfl,rfl,rfl,rfl,rfl,rfl,rfl,rfl,rfl,Rg.ca C177,(o_done.cn ch166).cn ch171,(r67.cn ch166).cn ch171,bx70.ca C178,pm76.ca C179,bx72,o73,(bx83.cn ch166).cn ch171,(bx159.cn ch166).cn ch171,(bx162.cn ch166).cn ch171,bx169.cn ch171,bx174,Ow.nil,Ow.nil,by omega,by exact mP.start⟩
   clear Rg o_done r67 bx70 pm76 bx72 o73 bx83 bx159 bx162 bx169 bx174 bH
   rintro⟨O1_c4_v,O1_c4,k_c4,O2_c4_v,O2_c4,g182⟩ f180 w181 ⟨bH,zs0_c4,zs2_c4,zs3_c4,zs4_c4,zs10_c4,zs11_c4,zs22_c4,zs23_c4,zs24_c4,Rg,o_done,r67,bx70,pm76,bx72,o73,bx83,bx159,bx162,bx169,bx174,o_O1_c4,o_O2_c4,hle_k_c4,hap_c4⟩ back3_c4
   have hapl_c4:=hap_c4.len
   refine a7 (a6 rfl (lx (bw (m:=↑k_c4) (n:=(PB.length:Int)) zs24_c4 zs23_c4) (ab (a7 ?_))))
   by_cases p3_c4:(k_c4:Int)<(PB.length:Int)
   ·
    refine af rfl (dt p3_c4) (ao (a7 (am (a7 (a6 rfl (mz zs24_c4 (lx (ad (v:=v71) (i:=↑k_c4) cJ rfl zs22_c4 o73.flat zs24_c4 (by omega) (by omega)) (lw (vg [vi ((gI PB ↑k_c4).1),vi (((gI PB ↑k_c4).2).1),vi ((((gI PB ↑k_c4).2).2).1),vi ((((gI PB ↑k_c4).2).2).2)]) (bJ (v:=v71) (i:=↑k_c4) aF rfl o73.flat (by omega) (by omega) rfl) (lo (bi g182 (is 21) (21,0) rfl aF ?_))))))))))
    intro g186 w183 b185 ch184 bx187
    refine ai (k_c4:Int) (lo (ax (cs':=[vi ((gI PB ↑k_c4).1),vi (((gI PB ↑k_c4).2).1),vi ((((gI PB ↑k_c4).2).2).1),vi ((((gI PB ↑k_c4).2).2).2)]) aF rfl rfl bx187 rfl nq (AllOne.all (.cons rfl (.cons rfl (.cons rfl (.cons rfl .nil))))) rfl ?_))
    intro w188 ch189 bx190
    clear bx187
    refine ab (a7 (a6 rfl (mz zs4_c4 (mi ↑k_c4 (lo (br (ke (fid:=62) (vals:=[vi ↑k_c4]) (caps:=[vp b81 0,vp b149 0,vp b154 0]) rfl Tryz.func62 wD uX rfl) (ap Tryz.func62 rfl nq ?_)))))))
    replace o73:=(o73.cn ch184).ce ch189
    refine a7 (a6 rfl (ma (vb false) (ab (a7 (cG g186 rfl dj (by kernel_rfl) ?_)))))
    intro w192 ch191
    have C193:=cg [21] (ch184.n.seq ((ch189.l rfl).seq ch191.n))
    replace bx83:=bx83.ca C193
    refine qx (λw' hw'=>a8 aW rfl (bx83.bel hw') rfl) (qv (Value.pointer (some ⟨(gI todo ((todo.length:Int)-1)).n,0,none⟩)) (λw' hw'=>ae rfl) (qx (λw' hw'=>aa dR rfl rfl rfl rfl) ?_))
    replace bx72:=bx72.ca C193
    refine qx (λw' hw'=>a8 bB rfl (bx72.bel hw') rfl) (qm (vi ↑k_c4) ?_)
    replace o73:=o73.cn ch191
    refine qx (λw' hw'=>ad (v:=v71) (i:=↑k_c4) cJ rfl rfl (o73.flat.bel hw') rfl (by omega) (by omega)) (qv (Value.pointer (some ⟨(aB v71 4 (Int.toNat ↑k_c4)).block,(aB v71 4 (Int.toNat ↑k_c4)).off+0,none⟩)) (λw' hw'=>aI iL rfl rfl rfl rfl) (qx (λw' hw'=>cK (v:=v71) (i:=↑k_c4) ah rfl (o73.flat.bel hw') (by omega) (by omega) (by decide) rfl) ?_))
    replace bx159:=bx159.ca C193
    refine qx (λw' hw'=>a8 ah rfl (bx159.bel hw') rfl) (qx (λw' hw'=>dA (m:=(gI PB ↑k_c4).1) (n:=(d6 PB).1) rfl rfl) (qm (vb (decide (((gI PB ↑k_c4).1)=((d6 PB).1)))) ?_))
    by_cases q16_c5:((gI PB ↑k_c4).1)=((d6 PB).1)
    ·
     refine c8 (v:=Value.pointer (some ⟨(gI todo ((todo.length:Int)-1)).n,0,none⟩)) (wy (dt q16_c5)) (λw' hw'=>a8 aW rfl (bx83.bel hw') rfl) (c8 (v:=Value.pointer (some ⟨(gI todo ((todo.length:Int)-1)).n,0,none⟩)) (wy (dt q16_c5)) (λw' hw'=>ae rfl) (c8 (v:=Value.pointer (some ⟨(gI todo ((todo.length:Int)-1)).n,1,none⟩)) (wy (dt q16_c5)) (λw' hw'=>aa dR rfl rfl rfl rfl) (c8 (v:=v71) (wy (dt q16_c5)) (λw' hw'=>a8 bB rfl (bx72.bel hw') rfl) (c8 (v:=vi ↑k_c4) (wy (dt q16_c5)) (λw' hw'=>aq rfl) ?_))))
     refine c8 (v:=Value.pointer (some (aB v71 4 (Int.toNat ↑k_c4)))) (wy (dt q16_c5)) (λw' hw'=>ad (α:=Bd) (xs:=PB) (v:=v71) (i:=↑k_c4) cJ rfl rfl (o73.flat.bel hw') rfl (by omega) (by omega)) (c8 (v:=Value.pointer (some ⟨(aB v71 4 (Int.toNat ↑k_c4)).block,(aB v71 4 (Int.toNat ↑k_c4)).off+1,none⟩)) (wy (dt q16_c5)) (λw' hw'=>aI iL rfl rfl rfl rfl) (c8 (v:=vi (((gI PB ↑k_c4).2).1)) (wy (dt q16_c5)) (λw' hw'=>cK (α:=Bd) (xs:=PB) (v:=v71) (i:=↑k_c4) ah rfl (o73.flat.bel hw') (by omega) (by omega) (by decide) rfl) ?_))
     replace bx162:=bx162.ca C193
     refine c8 (v:=vi ((d6 PB).2.1)) (wy (dt q16_c5)) (λw' hw'=>a8 ah rfl (bx162.bel hw') rfl) (c8 (v:=vb (decide ((((gI PB ↑k_c4).2).1)=((d6 PB).2.1)))) (wy (dt q16_c5)) (λw' hw'=>dA (m:=((gI PB ↑k_c4).2).1) (n:=(d6 PB).2.1) rfl rfl) (qv (vb (decide ((((gI PB ↑k_c4).2).1)=((d6 PB).2.1)))) (λw' hw'=>bj rfl (dt q16_c5) rfl) (qv (vb (decide ((((gI PB ↑k_c4).2).1)=((d6 PB).2.1)))) (λw' hw'=>bm rfl) (ep ?_))))
     intro w194 hc195
     replace hc195:=aN hc195 g186
     refine au (vs:=[vb (decide ((((gI PB ↑k_c4).2).1)=((d6 PB).2.1)))]) Tryz.func62 (.tmp rfl .nil) ?_
     refine⟨vb (decide ((((gI PB ↑k_c4).2).1)=((d6 PB).2.1))),rfl,?_⟩
     refine ab ?_
     by_cases p5_c4:(((gI PB ↑k_c4).2).1)=((d6 PB).2.1)
     ·
      refine af rfl (dt p5_c4) (bq g186 [0,1,2,3,4,5,8,9] dj ?_)
      intro w197 ch196
      refine xp (v:=vp b167 0) 0 rfl (λw=>aq zs10_c4) (xp (v:=vp b167 0) 1 rfl (λw=>aq zs10_c4) (xp (v:=vp b167 0) 2 rfl (λw=>ae rfl) (xp 3 rfl (λw=>aa dR rfl rfl rfl rfl) ?_)))
      have C198:=cg [21] (ch184.n.seq ((ch189.l rfl).seq (ch191.n.seq (hc195.n.seq ch196.n))))
      replace bx169:=bx169.ca C198
      refine xh 4 [3,2,1,0,5,6] rfl (λw' hw'=>a8 bB rfl (bx169.bel hw') rfl) ?_
      have C199:=cg [] (ch191.n.seq (hc195.n.seq ch196.n))
      replace bx190:=bx190.ca C199
      refine xv 5 [4,3,2,1,0] rfl (ay (ds:=[vi ((gI PB ↑k_c4).1),vi (((gI PB ↑k_c4).2).1),vi ((((gI PB ↑k_c4).2).2).1),vi ((((gI PB ↑k_c4).2).2).2)]) aF rfl bx190 rfl rfl) (b9 6 rfl (by kernel_rfl) rfl (jF (γ:=g186) 22 ((gI PB ↑k_c4).1) (((gI PB ↑k_c4).2).1) ((((gI PB ↑k_c4).2).2).1) ((((gI PB ↑k_c4).2).2).2) cJ aF ?_))
      intro g200 w201 v202 ch203 o204
      refine b9 7 rfl (by kernel_rfl) rfl ?_
      have C205:=cg [21] (ch184.n.seq ((ch189.l rfl).seq (ch191.n.seq (hc195.n.seq (ch196.n.seq ch203.n)))))
      replace o_O1_c4:=o_O1_c4.ca C205
      refine i9 o_O1_c4 o204.flat cJ aF (by(simp;omega)) ?_
      intro g206 w207 v208 ch209 o210
      clear o_O1_c4
      refine xp (v:=vp b167 0) 8 rfl (λw=>ae rfl) (xp 9 rfl (λw=>aa dR rfl rfl rfl rfl) (b9 10 rfl (by kernel_rfl) rfl ?_))
      replace bx169:=(bx169.cn ch203).ce ch209
      refine aC (cs':=[vi 0,v208]) bB rfl rfl bx169 (aP o210.flat) nq (aG o210.flat) rfl ?_
      intro w211 ch212 bx213
      clear bx169
      refine bS (by kernel_rfl) (ak ?_)
      clear bx190 o204
      refine a6 rfl (lx (aS (m:=↑k_c4) (n:=1) zs24_c4 rfl (by omega)) (mi ((k_c4:Int)+1) (ab ?_)))
      have C214:=cg [19,21,23] (ch184.n.seq ((ch189.l rfl).seq (ch191.n.seq (hc195.n.seq (ch196.n.seq (ch203.n.seq ((ch209.l rfl).seq (ch212.l rfl))))))))
      have C215:=cg [19,23] (hc195.n.seq (ch196.n.seq (ch203.n.seq ((ch209.l rfl).seq (ch212.l rfl)))))
      refine back3_c4 (v208,(O1_c4++([((gI PB ↑k_c4).1,((gI PB ↑k_c4).2).1,(((gI PB ↑k_c4).2).2).1,(((gI PB ↑k_c4).2).2).2)]:List Bd)),k_c4+1,O2_c4_v,O2_c4,g206) _ _ ⟨bH.ca C214,zs0_c4,zs2_c4,zs3_c4,zs4_c4,zs10_c4,zs11_c4,zs22_c4,zs23_c4,rfl,Rg.ca C214,o_done.ca C214,r67.ca C214,bx70.ca C214,pm76.ca C214,bx72.ca C215,o73.ca C215,bx83.ca C215,bx159.ca C215,bx162.ca C215,bx213,bx174.ca C214,o210.ce ch212,o_O2_c4.ca C214,by omega,?_⟩ ?_
      · show mP ff PB (k_c4+1) (O1_c4++([((gI PB ↑k_c4).1,((gI PB ↑k_c4).2).1,(((gI PB ↑k_c4).2).2).1,(((gI PB ↑k_c4).2).2).2)]:List Bd)) O2_c4
        exact hap_c4.yes ‹_› (by rw[hff];exact dt ⟨by assumption,by assumption⟩)
      · show Int.toNat (_-_)<Int.toNat (_-_)
        omega
     refine ag rfl (df p5_c4) (bq g186 [0,1,2,3,4,5,8,9] dj ?_)
     intro w217 ch216
     refine xp (v:=vp b172 0) 0 rfl (λw=>aq zs11_c4) (xp (v:=vp b172 0) 1 rfl (λw=>aq zs11_c4) (xp (v:=vp b172 0) 2 rfl (λw=>ae rfl) (xp 3 rfl (λw=>aa dR rfl rfl rfl rfl) ?_)))
     have C218:=cg [21] (ch184.n.seq ((ch189.l rfl).seq (ch191.n.seq (hc195.n.seq ch216.n))))
     replace bx174:=bx174.ca C218
     refine xh 4 [3,2,1,0,5,6] rfl (λw' hw'=>a8 bB rfl (bx174.bel hw') rfl) ?_
     have C219:=cg [] (ch191.n.seq (hc195.n.seq ch216.n))
     replace bx190:=bx190.ca C219
     refine xv 5 [4,3,2,1,0] rfl (ay (ds:=[vi ((gI PB ↑k_c4).1),vi (((gI PB ↑k_c4).2).1),vi ((((gI PB ↑k_c4).2).2).1),vi ((((gI PB ↑k_c4).2).2).2)]) aF rfl bx190 rfl rfl) (b9 6 rfl (by kernel_rfl) rfl (jF (γ:=g186) 24 ((gI PB ↑k_c4).1) (((gI PB ↑k_c4).2).1) ((((gI PB ↑k_c4).2).2).1) ((((gI PB ↑k_c4).2).2).2) cJ aF ?_))
     intro g220 w221 v222 ch223 o224
     refine b9 7 rfl (by kernel_rfl) rfl ?_
     have C225:=cg [21] (ch184.n.seq ((ch189.l rfl).seq (ch191.n.seq (hc195.n.seq (ch216.n.seq ch223.n)))))
     replace o_O2_c4:=o_O2_c4.ca C225
     refine i9 o_O2_c4 o224.flat cJ aF (by(simp;omega)) ?_
     intro g226 w227 v228 ch229 o230
     clear o_O2_c4
     refine xp (v:=vp b172 0) 8 rfl (λw=>ae rfl) (xp 9 rfl (λw=>aa dR rfl rfl rfl rfl) (b9 10 rfl (by kernel_rfl) rfl ?_))
     replace bx174:=(bx174.cn ch223).ce ch229
     refine aC (cs':=[vi 0,v228]) bB rfl rfl bx174 (aP o230.flat) nq (aG o230.flat) rfl ?_
     intro w231 ch232 bx233
     clear bx174
     refine bS (by kernel_rfl) (ak ?_)
     clear bx190 o224
     refine a6 rfl (lx (aS (m:=↑k_c4) (n:=1) zs24_c4 rfl (by omega)) (mi ((k_c4:Int)+1) (ab ?_)))
     have C234:=cg [20,21,25] (ch184.n.seq ((ch189.l rfl).seq (ch191.n.seq (hc195.n.seq (ch216.n.seq (ch223.n.seq ((ch229.l rfl).seq (ch232.l rfl))))))))
     have C235:=cg [20,25] (hc195.n.seq (ch216.n.seq (ch223.n.seq ((ch229.l rfl).seq (ch232.l rfl)))))
     refine back3_c4 (O1_c4_v,O1_c4,k_c4+1,v228,(O2_c4++([((gI PB ↑k_c4).1,((gI PB ↑k_c4).2).1,(((gI PB ↑k_c4).2).2).1,(((gI PB ↑k_c4).2).2).2)]:List Bd)),g226) _ _ ⟨bH.ca C234,zs0_c4,zs2_c4,zs3_c4,zs4_c4,zs10_c4,zs11_c4,zs22_c4,zs23_c4,rfl,Rg.ca C234,o_done.ca C234,r67.ca C234,bx70.ca C234,pm76.ca C234,bx72.ca C235,o73.ca C235,bx83.ca C235,bx159.ca C235,bx162.ca C235,bx169.ca C234,bx233,o_O1_c4.ca C234,o230.ce ch232,by omega,?_⟩ ?_
     · show mP ff PB (k_c4+1) O1_c4 (O2_c4++([((gI PB ↑k_c4).1,((gI PB ↑k_c4).2).1,(((gI PB ↑k_c4).2).2).1,(((gI PB ↑k_c4).2).2).2)]:List Bd))
       exact hap_c4.no ‹_› (by rw[hff];intro hq;exact absurd (of_decide_eq_true hq).2 ‹_›)
     · show Int.toNat (_-_)<Int.toNat (_-_)
       omega
    refine bA (wn (df q16_c5)) (bA (wn (df q16_c5)) (bA (wn (df q16_c5)) (bA (wn (df q16_c5)) (bA (wn (df q16_c5)) (bA (wn (df q16_c5)) (bA (wn (df q16_c5)) (bA (wn (df q16_c5)) (bA (wn (df q16_c5)) (bA (wn (df q16_c5)) ?_)))))))))
    refine qv (vb false) (λw' hw'=>bt rfl (df q16_c5) rfl) (qv (vb false) (λw' hw'=>bm rfl) (ep ?_))
    intro w236 hc237
    replace hc237:=aN hc237 g186
    refine au (vs:=[vb false]) Tryz.func62 (.tmp rfl .nil) ?_
    refine⟨vb false,rfl,?_⟩
    refine ab (ag rfl rfl (bq g186 [0,1,2,3,4,5,8,9] dj ?_))
    intro w239 ch238
    refine xp (v:=vp b172 0) 0 rfl (λw=>aq zs11_c4) (xp (v:=vp b172 0) 1 rfl (λw=>aq zs11_c4) (xp (v:=vp b172 0) 2 rfl (λw=>ae rfl) (xp 3 rfl (λw=>aa dR rfl rfl rfl rfl) ?_)))
    have C240:=cg [21] (ch184.n.seq ((ch189.l rfl).seq (ch191.n.seq (hc237.n.seq ch238.n))))
    replace bx174:=bx174.ca C240
    refine xh 4 [3,2,1,0,5,6] rfl (λw' hw'=>a8 bB rfl (bx174.bel hw') rfl) ?_
    have C241:=cg [] (ch191.n.seq (hc237.n.seq ch238.n))
    replace bx190:=bx190.ca C241
    refine xv 5 [4,3,2,1,0] rfl (ay (ds:=[vi ((gI PB ↑k_c4).1),vi (((gI PB ↑k_c4).2).1),vi ((((gI PB ↑k_c4).2).2).1),vi ((((gI PB ↑k_c4).2).2).2)]) aF rfl bx190 rfl rfl) (b9 6 rfl (by kernel_rfl) rfl (jF (γ:=g186) 24 ((gI PB ↑k_c4).1) (((gI PB ↑k_c4).2).1) ((((gI PB ↑k_c4).2).2).1) ((((gI PB ↑k_c4).2).2).2) cJ aF ?_))
    intro g242 w243 v244 ch245 o246
    refine b9 7 rfl (by kernel_rfl) rfl ?_
    have C247:=cg [21] (ch184.n.seq ((ch189.l rfl).seq (ch191.n.seq (hc237.n.seq (ch238.n.seq ch245.n)))))
    replace o_O2_c4:=o_O2_c4.ca C247
    refine i9 o_O2_c4 o246.flat cJ aF (by(simp;omega)) ?_
    intro g248 w249 v250 ch251 o252
    clear o_O2_c4
    refine xp (v:=vp b172 0) 8 rfl (λw=>ae rfl) (xp 9 rfl (λw=>aa dR rfl rfl rfl rfl) (b9 10 rfl (by kernel_rfl) rfl ?_))
    replace bx174:=(bx174.cn ch245).ce ch251
    refine aC (cs':=[vi 0,v250]) bB rfl rfl bx174 (aP o252.flat) nq (aG o252.flat) rfl ?_
    intro w253 ch254 bx255
    clear bx174
    refine bS (by kernel_rfl) (ak ?_)
    clear bx190 o246
    refine a6 rfl (lx (aS (m:=↑k_c4) (n:=1) zs24_c4 rfl (by omega)) (mi ((k_c4:Int)+1) (ab ?_)))
    have C256:=cg [20,21,25] (ch184.n.seq ((ch189.l rfl).seq (ch191.n.seq (hc237.n.seq (ch238.n.seq (ch245.n.seq ((ch251.l rfl).seq (ch254.l rfl))))))))
    have C257:=cg [20,25] (hc237.n.seq (ch238.n.seq (ch245.n.seq ((ch251.l rfl).seq (ch254.l rfl)))))
    refine back3_c4 (O1_c4_v,O1_c4,k_c4+1,v250,(O2_c4++([((gI PB ↑k_c4).1,((gI PB ↑k_c4).2).1,(((gI PB ↑k_c4).2).2).1,(((gI PB ↑k_c4).2).2).2)]:List Bd)),g248) _ _ ⟨bH.ca C256,zs0_c4,zs2_c4,zs3_c4,zs4_c4,zs10_c4,zs11_c4,zs22_c4,zs23_c4,rfl,Rg.ca C256,o_done.ca C256,r67.ca C256,bx70.ca C256,pm76.ca C256,bx72.ca C257,o73.ca C257,bx83.ca C257,bx159.ca C257,bx162.ca C256,bx169.ca C256,bx255,o_O1_c4.ca C256,o252.ce ch254,by omega,?_⟩ ?_
    · show mP ff PB (k_c4+1) O1_c4 (O2_c4++([((gI PB ↑k_c4).1,((gI PB ↑k_c4).2).1,(((gI PB ↑k_c4).2).2).1,(((gI PB ↑k_c4).2).2).2)]:List Bd))
      exact hap_c4.no ‹_› (by rw[hff];intro hq;exact absurd (of_decide_eq_true hq).1 ‹_›)
    · show Int.toNat (_-_)<Int.toNat (_-_)
      omega
   refine ag rfl (df p3_c4) (aO rfl (a7 ?_))
   have hapd:=hap_c4.done ‹_› ((d6 PB).1) ((d6 PB).2.1) nm
   refine a6 rfl (mz zs2_c4 (mz zs3_c4 (lw (vi (min ((d6 PB).1) ((d6 PB).2.1))) (jj rfl rfl) (mz zs2_c4 (mz zs3_c4 (lw (vi (max ((d6 PB).1) ((d6 PB).2.1))) (sf rfl rfl) (mz zs0_c4 (lw (vp b52 0) (ae rfl) (lx (aa lg rfl rfl rfl rfl) ?_)))))))))
   refine lx (a8 ah rfl bx70 rfl) (lw (vg [vi (min ((d6 PB).1) ((d6 PB).2.1)),vi (max ((d6 PB).1) ((d6 PB).2.1)),vi (-1),vi nm]) (bh (vs:=[(0,vi (min ((d6 PB).1) ((d6 PB).2.1))),(1,vi (max ((d6 PB).1) ((d6 PB).2.1))),(2,vi (-1)),(3,vi nm)]) rfl (by kernel_rfl)) (lo (bi g182 (is 26) (26,0) rfl aF ?_)))
   intro g261 w258 b260 ch259 bx262
   refine lo (ax (cs':=[vi (min ((d6 PB).1) ((d6 PB).2.1)),vi (max ((d6 PB).1) ((d6 PB).2.1)),vi (-1),vi nm]) aF rfl rfl bx262 rfl nq (AllOne.all (.cons rfl (.cons rfl (.cons rfl (.cons rfl .nil))))) rfl ?_)
   intro w263 ch264 bx265
   clear bx262
   refine ab (a7 ?_)
   obtain⟨ju,hju⟩:∃q:Int,q=min ((d6 PB).1) ((d6 PB).2.1):=⟨_,rfl⟩
   rw[<-hju] at bx265
   obtain⟨jv,hjv⟩:∃q:Int,q=max ((d6 PB).1) ((d6 PB).2.1):=⟨_,rfl⟩
   rw[<-hjv] at bx265
   refine a6 rfl (mz zs0_c4 (lw (vp b52 0) (ae rfl) (lx (aa lg rfl rfl rfl rfl) ?_)))
   replace bx70:=(bx70.cn ch259).ce ch264
   refine lx (a8 ah rfl bx70 rfl) (lx (aS (m:=nm) (n:=1) rfl rfl (by omega)) (lw (vp b52 0) (ae rfl) (lx (aa lg rfl rfl rfl rfl) (lo (ax (cs':=[vi (nm+1),done_v,(bM todo_v 1 (Int.toNat 0) (Int.toNat ((todo.length:Int)-1)))]) ah rfl rfl bx70 rfl nq (AllOne.all (.cons rfl .nil)) rfl ?_)))))
   intro w266 ch267 bx268
   clear bx70
   refine ab (a7 ?_)
   refine dl (σ:=Value×Value×aw) (λ⟨v278,v290,gq⟩ f w=>b6 w0 gq w/\f 10=vp b167 0/\f 11=vp b172 0/\Sl gq (is 0) w g_v g.2/\Ow gq (is 14) (is 14) w done_v done/\Ow gq (is 7) (is 7) w (bM todo_v 1 (Int.toNat 0) (Int.toNat ((todo.length:Int)-1))) (List.take (Int.toNat ((todo.length:Int)-1)) todo)/\d8 gq 6 (pmA.1.idxOf (gI todo ((todo.length:Int)-1))) w pmA.1 pmA.2/\Bx gq (is 9) w (gI todo ((todo.length:Int)-1)).n [vi KB,v71]/\Ow gq (is 10) (is 10) w v71 PB/\Bx gq (is 11) w b81 [Value.pointer (some ⟨(gI todo ((todo.length:Int)-1)).n,0,none⟩)]/\Bx gq (is 17) w b149 [vi ((d6 PB).1)]/\Bx gq (is 18) w b154 [vi ((d6 PB).2.1)]/\Bx gq (is 8) w b52 [vi (nm+1),done_v,(bM todo_v 1 (Int.toNat 0) (Int.toNat ((todo.length:Int)-1)))]/\Ow gq (is 23) (is 23) w v278 (O1_c4++([(ju,jv,-1,nm)]:List Bd))/\Ow gq (is 25) (is 25) w v290 (O2_c4++([(ju,jv,-1,nm)]:List Bd))/\Bx gq (is 19) w b167 [vi 0,v278]/\Bx gq (is 20) w b172 [vi 0,v290]) g261 [0,1,2,3,4,5,6,9,10,11,16,17,19,20] dj ?_ ?_
   ·
    intro mid
    intro w270 ch269
    refine dw (σ:=Value×Value×aw) [14,13,12,8,7,11,10,9,6,5,4,3,2,1,0] 7 (λ⟨v280,v286,gq⟩ f w=>b6 w0 gq w/\f 10=vp b167 0/\f 11=vp b172 0/\f 71=vp b167 0/\f 72=vp b172 0/\f 79=v280/\f 83=O2_c4_v/\f 85=v286/\Sl gq (is 0) w g_v g.2/\Ow gq (is 14) (is 14) w done_v done/\Ow gq (is 7) (is 7) w (bM todo_v 1 (Int.toNat 0) (Int.toNat ((todo.length:Int)-1))) (List.take (Int.toNat ((todo.length:Int)-1)) todo)/\d8 gq 6 (pmA.1.idxOf (gI todo ((todo.length:Int)-1))) w pmA.1 pmA.2/\Bx gq (is 9) w (gI todo ((todo.length:Int)-1)).n [vi KB,v71]/\Ow gq (is 10) (is 10) w v71 PB/\Bx gq (is 11) w b81 [Value.pointer (some ⟨(gI todo ((todo.length:Int)-1)).n,0,none⟩)]/\Bx gq (is 17) w b149 [vi ((d6 PB).1)]/\Bx gq (is 18) w b154 [vi ((d6 PB).2.1)]/\Bx gq (is 19) w b167 [vi 0,O1_c4_v]/\Bx gq (is 20) w b172 [vi 0,O2_c4_v]/\Ow gq (is 25) (is 25) w O2_c4_v O2_c4/\Bx gq (is 8) w b52 [vi (nm+1),done_v,(bM todo_v 1 (Int.toNat 0) (Int.toNat ((todo.length:Int)-1)))]/\Ow gq (is 23) (is 23) w v280 (O1_c4++([(ju,jv,-1,nm)]:List Bd))/\Ow gq (is 28) (is 28) w v286 ([(ju,jv,-1,nm)]:List Bd)) ?_ ?_
    ·
     clear Rg o_done r67 pm76 bx72 o73 bx83 bx159 bx162 bx169 bx174 o_O1_c4 o_O2_c4 bx265 bx268 bH
     rintro⟨v280,v286,g292⟩ f290 w291 ⟨bH,zs10_c4,zs11_c4,zs71_c4,zs72_c4,zs79_c4,zs83_c4,zs85_c4,Rg,o_done,r67,pm76,bx72,o73,bx83,bx159,bx162,bx169,bx174,o_O2_c4,bx268,o282,o288⟩
     refine b9 15 rfl (by kernel_rfl) rfl (aK (α:=Bd) (xs:=O2_c4) (ys:=([(ju,jv,-1,nm)]:List Bd)) g292 (J:=is 25) (S:=is 25) (25,0) rfl cJ aF (by decide) rfl zs83_c4 zs85_c4 o_O2_c4 o288.flat (by decide) (by(simp;omega)) ?_)
     intro g293 w294 v295 ch296 o297
     clear o_O2_c4
     refine xp (v:=vp b167 0) 16 rfl (λw=>ae zs71_c4) (xp 17 rfl (λw=>aa dR rfl rfl rfl rfl) (b9 18 rfl (by kernel_rfl) rfl ?_))
     replace o282:=o282.ce ch296
     replace bx169:=bx169.ce ch296
     refine aC (cs':=[vi 0,v280]) bB rfl zs79_c4 bx169 (aP o282.flat) nq (aG o282.flat) rfl ?_
     intro w298 ch299 bx300
     clear bx169
     refine xp (v:=vp b172 0) 19 rfl (λw=>ae zs72_c4) (xp 20 rfl (λw=>aa dR rfl rfl rfl rfl) (b9 21 rfl (by kernel_rfl) rfl ?_))
     replace o297:=o297.ce ch299
     replace bx174:=(bx174.ce ch296).ce ch299
     refine aC (cs':=[vi 0,v295]) bB rfl rfl bx174 (aP o297.flat) nq (aG o297.flat) rfl ?_
     intro w301 ch302 bx303
     clear bx174
     refine bS (by kernel_rfl) ?_
     have C304:=cg [19,20,25] ((ch296.l rfl).seq ((ch299.l rfl).seq (ch302.l rfl)))
     exact mid (v280,v295,g293) _ _ ⟨bH.ca C304,zs10_c4,zs11_c4,Rg.ca C304,o_done.ca C304,r67.ca C304,pm76.ca C304,bx72.ca C304,o73.ca C304,bx83.ca C304,bx159.ca C304,bx162.ca C304,bx268.ca C304,(o282.ce ch299).ce ch302,o297.ce ch302,bx300.ce ch302,bx303⟩
    intro nd289
    refine dw (σ:=Value×aw) [13,12,8,7,11,10,9,6,5,4,3,2,1,0] 8 (λ⟨v314,gq⟩ f w=>b6 w0 gq w/\f 10=vp b167 0/\f 11=vp b172 0/\f 71=vp b167 0/\f 72=vp b172 0/\f 79=v314/\f 83=O2_c4_v/\f 84=vg [vi ju,vi jv,vi (-1),vi nm]/\Sl gq (is 0) w g_v g.2/\Ow gq (is 14) (is 14) w done_v done/\Ow gq (is 7) (is 7) w (bM todo_v 1 (Int.toNat 0) (Int.toNat ((todo.length:Int)-1))) (List.take (Int.toNat ((todo.length:Int)-1)) todo)/\d8 gq 6 (pmA.1.idxOf (gI todo ((todo.length:Int)-1))) w pmA.1 pmA.2/\Bx gq (is 9) w (gI todo ((todo.length:Int)-1)).n [vi KB,v71]/\Ow gq (is 10) (is 10) w v71 PB/\Bx gq (is 11) w b81 [Value.pointer (some ⟨(gI todo ((todo.length:Int)-1)).n,0,none⟩)]/\Bx gq (is 17) w b149 [vi ((d6 PB).1)]/\Bx gq (is 18) w b154 [vi ((d6 PB).2.1)]/\Bx gq (is 19) w b167 [vi 0,O1_c4_v]/\Bx gq (is 20) w b172 [vi 0,O2_c4_v]/\Ow gq (is 25) (is 25) w O2_c4_v O2_c4/\Bx gq (is 8) w b52 [vi (nm+1),done_v,(bM todo_v 1 (Int.toNat 0) (Int.toNat ((todo.length:Int)-1)))]/\Ow gq (is 23) (is 23) w v314 (O1_c4++([(ju,jv,-1,nm)]:List Bd))) ?_ ?_
    ·
     clear Rg o_done r67 pm76 bx72 o73 bx83 bx159 bx162 bx169 bx174 o_O1_c4 o_O2_c4 bx265 bx268 bH
     rintro⟨v314,g321⟩ f319 w320 ⟨bH,zs10_c4,zs11_c4,zs71_c4,zs72_c4,zs79_c4,zs83_c4,zs84_c4,Rg,o_done,r67,pm76,bx72,o73,bx83,bx159,bx162,bx169,bx174,o_O2_c4,bx268,o316⟩
     refine b9 14 rfl (by kernel_rfl) rfl (jF (γ:=g321) 28 ju jv (-1) nm cJ aF (hp:=zs84_c4) ?_)
     intro g322 w323 v324 ch325 o326
     exact bK (by kernel_rfl) (nd289 (v314,v324,g322) _ _ ⟨bH.cn ch325,zs10_c4,zs11_c4,zs71_c4,zs72_c4,zs79_c4,zs83_c4,rfl,Rg.cn ch325,o_done.cn ch325,r67.cn ch325,pm76.cn ch325,bx72.cn ch325,o73.cn ch325,bx83.cn ch325,bx159.cn ch325,bx162.cn ch325,bx169.cn ch325,bx174.cn ch325,o_O2_c4.cn ch325,bx268.cn ch325,o316.cn ch325,o326⟩)
    intro nd318
    refine dw (σ:=Value×Value×aw) [14,13,8,7,11,10,9,6,5,4,3,2,1,0] 8 (λ⟨v336,v341,gq⟩ f w=>b6 w0 gq w/\f 10=vp b167 0/\f 11=vp b172 0/\f 71=vp b167 0/\f 72=vp b172 0/\f 79=v336/\f 82=vp b172 1/\f 85=v341/\Sl gq (is 0) w g_v g.2/\Ow gq (is 14) (is 14) w done_v done/\Ow gq (is 7) (is 7) w (bM todo_v 1 (Int.toNat 0) (Int.toNat ((todo.length:Int)-1))) (List.take (Int.toNat ((todo.length:Int)-1)) todo)/\d8 gq 6 (pmA.1.idxOf (gI todo ((todo.length:Int)-1))) w pmA.1 pmA.2/\Bx gq (is 9) w (gI todo ((todo.length:Int)-1)).n [vi KB,v71]/\Ow gq (is 10) (is 10) w v71 PB/\Bx gq (is 11) w b81 [Value.pointer (some ⟨(gI todo ((todo.length:Int)-1)).n,0,none⟩)]/\Bx gq (is 17) w b149 [vi ((d6 PB).1)]/\Bx gq (is 18) w b154 [vi ((d6 PB).2.1)]/\Bx gq (is 19) w b167 [vi 0,O1_c4_v]/\Bx gq (is 20) w b172 [vi 0,O2_c4_v]/\Ow gq (is 25) (is 25) w O2_c4_v O2_c4/\Bx gq (is 8) w b52 [vi (nm+1),done_v,(bM todo_v 1 (Int.toNat 0) (Int.toNat ((todo.length:Int)-1)))]/\Ow gq (is 23) (is 23) w v336 (O1_c4++([(ju,jv,-1,nm)]:List Bd))/\Ow gq (is 28) (is 28) w v341 ([(ju,jv,-1,nm)]:List Bd)) ?_ ?_
    ·
     clear Rg o_done r67 pm76 bx72 o73 bx83 bx159 bx162 bx169 bx174 o_O1_c4 o_O2_c4 bx265 bx268 bH
     rintro⟨v336,v341,g347⟩ f345 w346 ⟨bH,zs10_c4,zs11_c4,zs71_c4,zs72_c4,zs79_c4,zs82_c4,zs85_c4,Rg,o_done,r67,pm76,bx72,o73,bx83,bx159,bx162,bx169,bx174,o_O2_c4,bx268,o338,o343⟩
     refine b9 12 rfl (by kernel_rfl) rfl (aj (v:=O2_c4_v) (a8 bB zs82_c4 bx174 rfl) ?_)
     exact bK (by kernel_rfl) (nd289 (v336,v341,g347) _ _ ⟨bH,zs10_c4,zs11_c4,zs71_c4,zs72_c4,zs79_c4,rfl,zs85_c4,Rg,o_done,r67,pm76,bx72,o73,bx83,bx159,bx162,bx169,bx174,o_O2_c4,bx268,o338,o343⟩)
    intro nd344
    refine dw (σ:=Value×Value×aw) [14,13,12,7,11,10,9,6,5,4,3,2,1,0] 8 (λ⟨v351,v357,gq⟩ f w=>b6 w0 gq w/\f 10=vp b167 0/\f 11=vp b172 0/\f 71=vp b167 0/\f 72=vp b172 0/\f 76=O1_c4_v/\f 78=v351/\f 83=O2_c4_v/\f 85=v357/\Sl gq (is 0) w g_v g.2/\Ow gq (is 14) (is 14) w done_v done/\Ow gq (is 7) (is 7) w (bM todo_v 1 (Int.toNat 0) (Int.toNat ((todo.length:Int)-1))) (List.take (Int.toNat ((todo.length:Int)-1)) todo)/\d8 gq 6 (pmA.1.idxOf (gI todo ((todo.length:Int)-1))) w pmA.1 pmA.2/\Bx gq (is 9) w (gI todo ((todo.length:Int)-1)).n [vi KB,v71]/\Ow gq (is 10) (is 10) w v71 PB/\Bx gq (is 11) w b81 [Value.pointer (some ⟨(gI todo ((todo.length:Int)-1)).n,0,none⟩)]/\Bx gq (is 17) w b149 [vi ((d6 PB).1)]/\Bx gq (is 18) w b154 [vi ((d6 PB).2.1)]/\Bx gq (is 19) w b167 [vi 0,O1_c4_v]/\Bx gq (is 20) w b172 [vi 0,O2_c4_v]/\Ow gq (is 23) (is 23) w O1_c4_v O1_c4/\Ow gq (is 25) (is 25) w O2_c4_v O2_c4/\Bx gq (is 8) w b52 [vi (nm+1),done_v,(bM todo_v 1 (Int.toNat 0) (Int.toNat ((todo.length:Int)-1)))]/\Ow gq (is 27) (is 27) w v351 ([(ju,jv,-1,nm)]:List Bd)/\Ow gq (is 28) (is 28) w v357 ([(ju,jv,-1,nm)]:List Bd)) ?_ ?_
    ·
     clear Rg o_done r67 pm76 bx72 o73 bx83 bx159 bx162 bx169 bx174 o_O1_c4 o_O2_c4 bx265 bx268 bH
     rintro⟨v351,v357,g363⟩ f361 w362 ⟨bH,zs10_c4,zs11_c4,zs71_c4,zs72_c4,zs76_c4,zs78_c4,zs83_c4,zs85_c4,Rg,o_done,r67,pm76,bx72,o73,bx83,bx159,bx162,bx169,bx174,o_O1_c4,o_O2_c4,bx268,o353,o359⟩
     refine b9 8 rfl (by kernel_rfl) rfl (aK (α:=Bd) (xs:=O1_c4) (ys:=([(ju,jv,-1,nm)]:List Bd)) g363 (J:=is 23) (S:=is 23) (23,0) rfl cJ aF (by decide) rfl zs76_c4 zs78_c4 o_O1_c4 o353.flat (by decide) (by(simp;omega)) ?_)
     intro g364 w365 v366 ch367 o368
     clear o_O1_c4
     exact bK (by kernel_rfl) (nd289 (v366,v357,g364) _ _ ⟨bH.ce ch367,zs10_c4,zs11_c4,zs71_c4,zs72_c4,rfl,zs83_c4,zs85_c4,Rg.ce ch367,o_done.ce ch367,r67.ce ch367,pm76.ce ch367,bx72.ce ch367,o73.ce ch367,bx83.ce ch367,bx159.ce ch367,bx162.ce ch367,bx169.ce ch367,bx174.ce ch367,o_O2_c4.ce ch367,bx268.ce ch367,o368,o359.ce ch367⟩)
    intro nd360
    refine dw (σ:=Value×aw) [12,8,7,11,10,9,6,5,4,3,2,1,0] 9 (λ⟨v378,gq⟩ f w=>b6 w0 gq w/\f 10=vp b167 0/\f 11=vp b172 0/\f 14=vp b260 0/\f 71=vp b167 0/\f 72=vp b172 0/\f 79=v378/\f 83=O2_c4_v/\Sl gq (is 0) w g_v g.2/\Ow gq (is 14) (is 14) w done_v done/\Ow gq (is 7) (is 7) w (bM todo_v 1 (Int.toNat 0) (Int.toNat ((todo.length:Int)-1))) (List.take (Int.toNat ((todo.length:Int)-1)) todo)/\d8 gq 6 (pmA.1.idxOf (gI todo ((todo.length:Int)-1))) w pmA.1 pmA.2/\Bx gq (is 9) w (gI todo ((todo.length:Int)-1)).n [vi KB,v71]/\Ow gq (is 10) (is 10) w v71 PB/\Bx gq (is 11) w b81 [Value.pointer (some ⟨(gI todo ((todo.length:Int)-1)).n,0,none⟩)]/\Bx gq (is 17) w b149 [vi ((d6 PB).1)]/\Bx gq (is 18) w b154 [vi ((d6 PB).2.1)]/\Bx gq (is 19) w b167 [vi 0,O1_c4_v]/\Bx gq (is 20) w b172 [vi 0,O2_c4_v]/\Ow gq (is 25) (is 25) w O2_c4_v O2_c4/\Bx gq (is 26) w b260 [vi ju,vi jv,vi (-1),vi nm]/\Bx gq (is 8) w b52 [vi (nm+1),done_v,(bM todo_v 1 (Int.toNat 0) (Int.toNat ((todo.length:Int)-1)))]/\Ow gq (is 23) (is 23) w v378 (O1_c4++([(ju,jv,-1,nm)]:List Bd))) ?_ ?_
    ·
     clear Rg o_done r67 pm76 bx72 o73 bx83 bx159 bx162 bx169 bx174 o_O1_c4 o_O2_c4 bx265 bx268 bH
     rintro⟨v378,g385⟩ f383 w384 ⟨bH,zs10_c4,zs11_c4,zs14_c4,zs71_c4,zs72_c4,zs79_c4,zs83_c4,Rg,o_done,r67,pm76,bx72,o73,bx83,bx159,bx162,bx169,bx174,o_O2_c4,bx265,bx268,o380⟩
     refine b9 13 rfl (by kernel_rfl) rfl (aj (v:=vg [vi ju,vi jv,vi (-1),vi nm]) (ay (ds:=[vi ju,vi jv,vi (-1),vi nm]) aF zs14_c4 bx265 rfl rfl) ?_)
     exact bK (by kernel_rfl) (nd318 (v378,g385) _ _ ⟨bH,zs10_c4,zs11_c4,zs71_c4,zs72_c4,zs79_c4,zs83_c4,rfl,Rg,o_done,r67,pm76,bx72,o73,bx83,bx159,bx162,bx169,bx174,o_O2_c4,bx268,o380⟩)
    intro nd382
    refine dw (σ:=Value×aw) [13,8,7,11,10,9,6,5,4,3,2,1,0] 9 (λ⟨v395,gq⟩ f w=>b6 w0 gq w/\f 10=vp b167 0/\f 11=vp b172 0/\f 71=vp b167 0/\f 72=vp b172 0/\f 79=v395/\f 82=vp b172 1/\f 84=vg [vi ju,vi jv,vi (-1),vi nm]/\Sl gq (is 0) w g_v g.2/\Ow gq (is 14) (is 14) w done_v done/\Ow gq (is 7) (is 7) w (bM todo_v 1 (Int.toNat 0) (Int.toNat ((todo.length:Int)-1))) (List.take (Int.toNat ((todo.length:Int)-1)) todo)/\d8 gq 6 (pmA.1.idxOf (gI todo ((todo.length:Int)-1))) w pmA.1 pmA.2/\Bx gq (is 9) w (gI todo ((todo.length:Int)-1)).n [vi KB,v71]/\Ow gq (is 10) (is 10) w v71 PB/\Bx gq (is 11) w b81 [Value.pointer (some ⟨(gI todo ((todo.length:Int)-1)).n,0,none⟩)]/\Bx gq (is 17) w b149 [vi ((d6 PB).1)]/\Bx gq (is 18) w b154 [vi ((d6 PB).2.1)]/\Bx gq (is 19) w b167 [vi 0,O1_c4_v]/\Bx gq (is 20) w b172 [vi 0,O2_c4_v]/\Ow gq (is 25) (is 25) w O2_c4_v O2_c4/\Bx gq (is 8) w b52 [vi (nm+1),done_v,(bM todo_v 1 (Int.toNat 0) (Int.toNat ((todo.length:Int)-1)))]/\Ow gq (is 23) (is 23) w v395 (O1_c4++([(ju,jv,-1,nm)]:List Bd))) ?_ ?_
    ·
     clear Rg o_done r67 pm76 bx72 o73 bx83 bx159 bx162 bx169 bx174 o_O1_c4 o_O2_c4 bx265 bx268 bH
     rintro⟨v395,g401⟩ f399 w400 ⟨bH,zs10_c4,zs11_c4,zs71_c4,zs72_c4,zs79_c4,zs82_c4,zs84_c4,Rg,o_done,r67,pm76,bx72,o73,bx83,bx159,bx162,bx169,bx174,o_O2_c4,bx268,o397⟩
     refine dD 12 14 rfl rfl (by kernel_rfl) rfl rfl ?_ ?_
     ·
      refine aj (v:=O2_c4_v) (a8 bB zs82_c4 bx174 rfl) ?_
      exact bK (by kernel_rfl) (nd318 (v395,g401) _ _ ⟨bH,zs10_c4,zs11_c4,zs71_c4,zs72_c4,zs79_c4,rfl,zs84_c4,Rg,o_done,r67,pm76,bx72,o73,bx83,bx159,bx162,bx169,bx174,o_O2_c4,bx268,o397⟩)
     ·
      refine jF (γ:=g401) 28 ju jv (-1) nm cJ aF (hp:=zs84_c4) ?_
      intro g402 w403 v404 ch405 o406
      exact bK (by kernel_rfl) (nd344 (v395,v404,g402) _ _ ⟨bH.cn ch405,zs10_c4,zs11_c4,zs71_c4,zs72_c4,zs79_c4,zs82_c4,rfl,Rg.cn ch405,o_done.cn ch405,r67.cn ch405,pm76.cn ch405,bx72.cn ch405,o73.cn ch405,bx83.cn ch405,bx159.cn ch405,bx162.cn ch405,bx169.cn ch405,bx174.cn ch405,o_O2_c4.cn ch405,bx268.cn ch405,o397.cn ch405,o406⟩)
    intro nd398
    refine dw (σ:=Value×aw) [13,12,7,11,10,9,6,5,4,3,2,1,0] 9 (λ⟨v410,gq⟩ f w=>b6 w0 gq w/\f 10=vp b167 0/\f 11=vp b172 0/\f 71=vp b167 0/\f 72=vp b172 0/\f 76=O1_c4_v/\f 78=v410/\f 83=O2_c4_v/\f 84=vg [vi ju,vi jv,vi (-1),vi nm]/\Sl gq (is 0) w g_v g.2/\Ow gq (is 14) (is 14) w done_v done/\Ow gq (is 7) (is 7) w (bM todo_v 1 (Int.toNat 0) (Int.toNat ((todo.length:Int)-1))) (List.take (Int.toNat ((todo.length:Int)-1)) todo)/\d8 gq 6 (pmA.1.idxOf (gI todo ((todo.length:Int)-1))) w pmA.1 pmA.2/\Bx gq (is 9) w (gI todo ((todo.length:Int)-1)).n [vi KB,v71]/\Ow gq (is 10) (is 10) w v71 PB/\Bx gq (is 11) w b81 [Value.pointer (some ⟨(gI todo ((todo.length:Int)-1)).n,0,none⟩)]/\Bx gq (is 17) w b149 [vi ((d6 PB).1)]/\Bx gq (is 18) w b154 [vi ((d6 PB).2.1)]/\Bx gq (is 19) w b167 [vi 0,O1_c4_v]/\Bx gq (is 20) w b172 [vi 0,O2_c4_v]/\Ow gq (is 23) (is 23) w O1_c4_v O1_c4/\Ow gq (is 25) (is 25) w O2_c4_v O2_c4/\Bx gq (is 8) w b52 [vi (nm+1),done_v,(bM todo_v 1 (Int.toNat 0) (Int.toNat ((todo.length:Int)-1)))]/\Ow gq (is 27) (is 27) w v410 ([(ju,jv,-1,nm)]:List Bd)) ?_ ?_
    ·
     clear Rg o_done r67 pm76 bx72 o73 bx83 bx159 bx162 bx169 bx174 o_O1_c4 o_O2_c4 bx265 bx268 bH
     rintro⟨v410,g417⟩ f415 w416 ⟨bH,zs10_c4,zs11_c4,zs71_c4,zs72_c4,zs76_c4,zs78_c4,zs83_c4,zs84_c4,Rg,o_done,r67,pm76,bx72,o73,bx83,bx159,bx162,bx169,bx174,o_O1_c4,o_O2_c4,bx268,o412⟩
     refine dD 8 14 rfl rfl (by kernel_rfl) rfl rfl ?_ ?_
     ·
      refine aK (α:=Bd) (xs:=O1_c4) (ys:=([(ju,jv,-1,nm)]:List Bd)) g417 (J:=is 23) (S:=is 23) (23,0) rfl cJ aF (by decide) rfl zs76_c4 zs78_c4 o_O1_c4 o412.flat (by decide) (by(simp;omega)) ?_
      intro g418 w419 v420 ch421 o422
      clear o_O1_c4
      exact bK (by kernel_rfl) (nd318 (v420,g418) _ _ ⟨bH.ce ch421,zs10_c4,zs11_c4,zs71_c4,zs72_c4,rfl,zs83_c4,zs84_c4,Rg.ce ch421,o_done.ce ch421,r67.ce ch421,pm76.ce ch421,bx72.ce ch421,o73.ce ch421,bx83.ce ch421,bx159.ce ch421,bx162.ce ch421,bx169.ce ch421,bx174.ce ch421,o_O2_c4.ce ch421,bx268.ce ch421,o422⟩)
     ·
      refine jF (γ:=g417) 28 ju jv (-1) nm cJ aF (hp:=zs84_c4) ?_
      intro g423 w424 v425 ch426 o427
      exact bK (by kernel_rfl) (nd360 (v410,v425,g423) _ _ ⟨bH.cn ch426,zs10_c4,zs11_c4,zs71_c4,zs72_c4,zs76_c4,zs78_c4,zs83_c4,rfl,Rg.cn ch426,o_done.cn ch426,r67.cn ch426,pm76.cn ch426,bx72.cn ch426,o73.cn ch426,bx83.cn ch426,bx159.cn ch426,bx162.cn ch426,bx169.cn ch426,bx174.cn ch426,o_O1_c4.cn ch426,o_O2_c4.cn ch426,bx268.cn ch426,o412.cn ch426,o427⟩)
    intro nd414
    refine dw (σ:=Value×Value×aw) [14,13,7,11,10,9,6,5,4,3,2,1,0] 9 (λ⟨v431,v436,gq⟩ f w=>b6 w0 gq w/\f 10=vp b167 0/\f 11=vp b172 0/\f 71=vp b167 0/\f 72=vp b172 0/\f 76=O1_c4_v/\f 78=v431/\f 82=vp b172 1/\f 85=v436/\Sl gq (is 0) w g_v g.2/\Ow gq (is 14) (is 14) w done_v done/\Ow gq (is 7) (is 7) w (bM todo_v 1 (Int.toNat 0) (Int.toNat ((todo.length:Int)-1))) (List.take (Int.toNat ((todo.length:Int)-1)) todo)/\d8 gq 6 (pmA.1.idxOf (gI todo ((todo.length:Int)-1))) w pmA.1 pmA.2/\Bx gq (is 9) w (gI todo ((todo.length:Int)-1)).n [vi KB,v71]/\Ow gq (is 10) (is 10) w v71 PB/\Bx gq (is 11) w b81 [Value.pointer (some ⟨(gI todo ((todo.length:Int)-1)).n,0,none⟩)]/\Bx gq (is 17) w b149 [vi ((d6 PB).1)]/\Bx gq (is 18) w b154 [vi ((d6 PB).2.1)]/\Bx gq (is 19) w b167 [vi 0,O1_c4_v]/\Bx gq (is 20) w b172 [vi 0,O2_c4_v]/\Ow gq (is 23) (is 23) w O1_c4_v O1_c4/\Ow gq (is 25) (is 25) w O2_c4_v O2_c4/\Bx gq (is 8) w b52 [vi (nm+1),done_v,(bM todo_v 1 (Int.toNat 0) (Int.toNat ((todo.length:Int)-1)))]/\Ow gq (is 27) (is 27) w v431 ([(ju,jv,-1,nm)]:List Bd)/\Ow gq (is 28) (is 28) w v436 ([(ju,jv,-1,nm)]:List Bd)) ?_ ?_
    ·
     clear Rg o_done r67 pm76 bx72 o73 bx83 bx159 bx162 bx169 bx174 o_O1_c4 o_O2_c4 bx265 bx268 bH
     rintro⟨v431,v436,g442⟩ f440 w441 ⟨bH,zs10_c4,zs11_c4,zs71_c4,zs72_c4,zs76_c4,zs78_c4,zs82_c4,zs85_c4,Rg,o_done,r67,pm76,bx72,o73,bx83,bx159,bx162,bx169,bx174,o_O1_c4,o_O2_c4,bx268,o433,o438⟩
     refine dD 8 12 rfl rfl (by kernel_rfl) rfl rfl ?_ ?_
     ·
      refine aK (α:=Bd) (xs:=O1_c4) (ys:=([(ju,jv,-1,nm)]:List Bd)) g442 (J:=is 23) (S:=is 23) (23,0) rfl cJ aF (by decide) rfl zs76_c4 zs78_c4 o_O1_c4 o433.flat (by decide) (by(simp;omega)) ?_
      intro g443 w444 v445 ch446 o447
      clear o_O1_c4
      exact bK (by kernel_rfl) (nd344 (v445,v436,g443) _ _ ⟨bH.ce ch446,zs10_c4,zs11_c4,zs71_c4,zs72_c4,rfl,zs82_c4,zs85_c4,Rg.ce ch446,o_done.ce ch446,r67.ce ch446,pm76.ce ch446,bx72.ce ch446,o73.ce ch446,bx83.ce ch446,bx159.ce ch446,bx162.ce ch446,bx169.ce ch446,bx174.ce ch446,o_O2_c4.ce ch446,bx268.ce ch446,o447,o438.ce ch446⟩)
     ·
      refine aj (v:=O2_c4_v) (a8 bB zs82_c4 bx174 rfl) ?_
      exact bK (by kernel_rfl) (nd360 (v431,v436,g442) _ _ ⟨bH,zs10_c4,zs11_c4,zs71_c4,zs72_c4,zs76_c4,zs78_c4,rfl,zs85_c4,Rg,o_done,r67,pm76,bx72,o73,bx83,bx159,bx162,bx169,bx174,o_O1_c4,o_O2_c4,bx268,o433,o438⟩)
    intro nd439
    refine dw (σ:=Value×aw) [14,13,12,11,10,9,6,5,4,3,2,1,0] 9 (λ⟨v451,gq⟩ f w=>b6 w0 gq w/\f 10=vp b167 0/\f 11=vp b172 0/\f 71=vp b167 0/\f 72=vp b172 0/\f 76=O1_c4_v/\f 77=vg [vi ju,vi jv,vi (-1),vi nm]/\f 83=O2_c4_v/\f 85=v451/\Sl gq (is 0) w g_v g.2/\Ow gq (is 14) (is 14) w done_v done/\Ow gq (is 7) (is 7) w (bM todo_v 1 (Int.toNat 0) (Int.toNat ((todo.length:Int)-1))) (List.take (Int.toNat ((todo.length:Int)-1)) todo)/\d8 gq 6 (pmA.1.idxOf (gI todo ((todo.length:Int)-1))) w pmA.1 pmA.2/\Bx gq (is 9) w (gI todo ((todo.length:Int)-1)).n [vi KB,v71]/\Ow gq (is 10) (is 10) w v71 PB/\Bx gq (is 11) w b81 [Value.pointer (some ⟨(gI todo ((todo.length:Int)-1)).n,0,none⟩)]/\Bx gq (is 17) w b149 [vi ((d6 PB).1)]/\Bx gq (is 18) w b154 [vi ((d6 PB).2.1)]/\Bx gq (is 19) w b167 [vi 0,O1_c4_v]/\Bx gq (is 20) w b172 [vi 0,O2_c4_v]/\Ow gq (is 23) (is 23) w O1_c4_v O1_c4/\Ow gq (is 25) (is 25) w O2_c4_v O2_c4/\Bx gq (is 8) w b52 [vi (nm+1),done_v,(bM todo_v 1 (Int.toNat 0) (Int.toNat ((todo.length:Int)-1)))]/\Ow gq (is 28) (is 28) w v451 ([(ju,jv,-1,nm)]:List Bd)) ?_ ?_
    ·
     clear Rg o_done r67 pm76 bx72 o73 bx83 bx159 bx162 bx169 bx174 o_O1_c4 o_O2_c4 bx265 bx268 bH
     rintro⟨v451,g457⟩ f455 w456 ⟨bH,zs10_c4,zs11_c4,zs71_c4,zs72_c4,zs76_c4,zs77_c4,zs83_c4,zs85_c4,Rg,o_done,r67,pm76,bx72,o73,bx83,bx159,bx162,bx169,bx174,o_O1_c4,o_O2_c4,bx268,o453⟩
     refine b9 7 rfl (by kernel_rfl) rfl (jF (γ:=g457) 27 ju jv (-1) nm cJ aF (hp:=zs77_c4) ?_)
     intro g458 w459 v460 ch461 o462
     exact bK (by kernel_rfl) (nd360 (v460,v451,g458) _ _ ⟨bH.cn ch461,zs10_c4,zs11_c4,zs71_c4,zs72_c4,zs76_c4,rfl,zs83_c4,zs85_c4,Rg.cn ch461,o_done.cn ch461,r67.cn ch461,pm76.cn ch461,bx72.cn ch461,o73.cn ch461,bx83.cn ch461,bx159.cn ch461,bx162.cn ch461,bx169.cn ch461,bx174.cn ch461,o_O1_c4.cn ch461,o_O2_c4.cn ch461,bx268.cn ch461,o462,o453.cn ch461⟩)
    intro nd454
    refine dw (σ:=Value×aw) [12,7,11,10,9,6,5,4,3,2,1,0] 10 (λ⟨v466,gq⟩ f w=>b6 w0 gq w/\f 10=vp b167 0/\f 11=vp b172 0/\f 14=vp b260 0/\f 71=vp b167 0/\f 72=vp b172 0/\f 76=O1_c4_v/\f 78=v466/\f 83=O2_c4_v/\Sl gq (is 0) w g_v g.2/\Ow gq (is 14) (is 14) w done_v done/\Ow gq (is 7) (is 7) w (bM todo_v 1 (Int.toNat 0) (Int.toNat ((todo.length:Int)-1))) (List.take (Int.toNat ((todo.length:Int)-1)) todo)/\d8 gq 6 (pmA.1.idxOf (gI todo ((todo.length:Int)-1))) w pmA.1 pmA.2/\Bx gq (is 9) w (gI todo ((todo.length:Int)-1)).n [vi KB,v71]/\Ow gq (is 10) (is 10) w v71 PB/\Bx gq (is 11) w b81 [Value.pointer (some ⟨(gI todo ((todo.length:Int)-1)).n,0,none⟩)]/\Bx gq (is 17) w b149 [vi ((d6 PB).1)]/\Bx gq (is 18) w b154 [vi ((d6 PB).2.1)]/\Bx gq (is 19) w b167 [vi 0,O1_c4_v]/\Bx gq (is 20) w b172 [vi 0,O2_c4_v]/\Ow gq (is 23) (is 23) w O1_c4_v O1_c4/\Ow gq (is 25) (is 25) w O2_c4_v O2_c4/\Bx gq (is 26) w b260 [vi ju,vi jv,vi (-1),vi nm]/\Bx gq (is 8) w b52 [vi (nm+1),done_v,(bM todo_v 1 (Int.toNat 0) (Int.toNat ((todo.length:Int)-1)))]/\Ow gq (is 27) (is 27) w v466 ([(ju,jv,-1,nm)]:List Bd)) ?_ ?_
    ·
     clear Rg o_done r67 pm76 bx72 o73 bx83 bx159 bx162 bx169 bx174 o_O1_c4 o_O2_c4 bx265 bx268 bH
     rintro⟨v466,g473⟩ f471 w472 ⟨bH,zs10_c4,zs11_c4,zs14_c4,zs71_c4,zs72_c4,zs76_c4,zs78_c4,zs83_c4,Rg,o_done,r67,pm76,bx72,o73,bx83,bx159,bx162,bx169,bx174,o_O1_c4,o_O2_c4,bx265,bx268,o468⟩
     refine dD 8 13 rfl rfl (by kernel_rfl) rfl rfl ?_ ?_
     ·
      refine aK (α:=Bd) (xs:=O1_c4) (ys:=([(ju,jv,-1,nm)]:List Bd)) g473 (J:=is 23) (S:=is 23) (23,0) rfl cJ aF (by decide) rfl zs76_c4 zs78_c4 o_O1_c4 o468.flat (by decide) (by(simp;omega)) ?_
      intro g474 w475 v476 ch477 o478
      clear o_O1_c4
      exact bK (by kernel_rfl) (nd382 (v476,g474) _ _ ⟨bH.ce ch477,zs10_c4,zs11_c4,zs14_c4,zs71_c4,zs72_c4,rfl,zs83_c4,Rg.ce ch477,o_done.ce ch477,r67.ce ch477,pm76.ce ch477,bx72.ce ch477,o73.ce ch477,bx83.ce ch477,bx159.ce ch477,bx162.ce ch477,bx169.ce ch477,bx174.ce ch477,o_O2_c4.ce ch477,bx265.ce ch477,bx268.ce ch477,o478⟩)
     ·
      refine aj (v:=vg [vi ju,vi jv,vi (-1),vi nm]) (ay (ds:=[vi ju,vi jv,vi (-1),vi nm]) aF zs14_c4 bx265 rfl rfl) ?_
      exact bK (by kernel_rfl) (nd414 (v466,g473) _ _ ⟨bH,zs10_c4,zs11_c4,zs71_c4,zs72_c4,zs76_c4,zs78_c4,zs83_c4,rfl,Rg,o_done,r67,pm76,bx72,o73,bx83,bx159,bx162,bx169,bx174,o_O1_c4,o_O2_c4,bx268,o468⟩)
    intro nd470
    refine dw (σ:=Value×aw) [13,7,11,10,9,6,5,4,3,2,1,0] 10 (λ⟨v482,gq⟩ f w=>b6 w0 gq w/\f 10=vp b167 0/\f 11=vp b172 0/\f 71=vp b167 0/\f 72=vp b172 0/\f 76=O1_c4_v/\f 78=v482/\f 82=vp b172 1/\f 84=vg [vi ju,vi jv,vi (-1),vi nm]/\Sl gq (is 0) w g_v g.2/\Ow gq (is 14) (is 14) w done_v done/\Ow gq (is 7) (is 7) w (bM todo_v 1 (Int.toNat 0) (Int.toNat ((todo.length:Int)-1))) (List.take (Int.toNat ((todo.length:Int)-1)) todo)/\d8 gq 6 (pmA.1.idxOf (gI todo ((todo.length:Int)-1))) w pmA.1 pmA.2/\Bx gq (is 9) w (gI todo ((todo.length:Int)-1)).n [vi KB,v71]/\Ow gq (is 10) (is 10) w v71 PB/\Bx gq (is 11) w b81 [Value.pointer (some ⟨(gI todo ((todo.length:Int)-1)).n,0,none⟩)]/\Bx gq (is 17) w b149 [vi ((d6 PB).1)]/\Bx gq (is 18) w b154 [vi ((d6 PB).2.1)]/\Bx gq (is 19) w b167 [vi 0,O1_c4_v]/\Bx gq (is 20) w b172 [vi 0,O2_c4_v]/\Ow gq (is 23) (is 23) w O1_c4_v O1_c4/\Ow gq (is 25) (is 25) w O2_c4_v O2_c4/\Bx gq (is 8) w b52 [vi (nm+1),done_v,(bM todo_v 1 (Int.toNat 0) (Int.toNat ((todo.length:Int)-1)))]/\Ow gq (is 27) (is 27) w v482 ([(ju,jv,-1,nm)]:List Bd)) ?_ ?_
    ·
     clear Rg o_done r67 pm76 bx72 o73 bx83 bx159 bx162 bx169 bx174 o_O1_c4 o_O2_c4 bx265 bx268 bH
     rintro⟨v482,g488⟩ f486 w487 ⟨bH,zs10_c4,zs11_c4,zs71_c4,zs72_c4,zs76_c4,zs78_c4,zs82_c4,zs84_c4,Rg,o_done,r67,pm76,bx72,o73,bx83,bx159,bx162,bx169,bx174,o_O1_c4,o_O2_c4,bx268,o484⟩
     refine iy 8 [12,14] (by kernel_rfl) ⟨fy 8 rfl (by kernel_rfl) rfl ?_,fy 12 rfl (by kernel_rfl) rfl ?_,fy 14 rfl (by kernel_rfl) rfl ?_,trivial⟩
     ·
      refine aK (α:=Bd) (xs:=O1_c4) (ys:=([(ju,jv,-1,nm)]:List Bd)) g488 (J:=is 23) (S:=is 23) (23,0) rfl cJ aF (by decide) rfl zs76_c4 zs78_c4 o_O1_c4 o484.flat (by decide) (by(simp;omega)) ?_
      intro g489 w490 v491 ch492 o493
      clear o_O1_c4
      exact bK (by kernel_rfl) (nd398 (v491,g489) _ _ ⟨bH.ce ch492,zs10_c4,zs11_c4,zs71_c4,zs72_c4,rfl,zs82_c4,zs84_c4,Rg.ce ch492,o_done.ce ch492,r67.ce ch492,pm76.ce ch492,bx72.ce ch492,o73.ce ch492,bx83.ce ch492,bx159.ce ch492,bx162.ce ch492,bx169.ce ch492,bx174.ce ch492,o_O2_c4.ce ch492,bx268.ce ch492,o493⟩)
     ·
      refine aj (v:=O2_c4_v) (a8 bB zs82_c4 bx174 rfl) ?_
      exact bK (by kernel_rfl) (nd414 (v482,g488) _ _ ⟨bH,zs10_c4,zs11_c4,zs71_c4,zs72_c4,zs76_c4,zs78_c4,rfl,zs84_c4,Rg,o_done,r67,pm76,bx72,o73,bx83,bx159,bx162,bx169,bx174,o_O1_c4,o_O2_c4,bx268,o484⟩)
     ·
      refine jF (γ:=g488) 28 ju jv (-1) nm cJ aF (hp:=zs84_c4) ?_
      intro g494 w495 v496 ch497 o498
      exact bK (by kernel_rfl) (nd439 (v482,v496,g494) _ _ ⟨bH.cn ch497,zs10_c4,zs11_c4,zs71_c4,zs72_c4,zs76_c4,zs78_c4,zs82_c4,rfl,Rg.cn ch497,o_done.cn ch497,r67.cn ch497,pm76.cn ch497,bx72.cn ch497,o73.cn ch497,bx83.cn ch497,bx159.cn ch497,bx162.cn ch497,bx169.cn ch497,bx174.cn ch497,o_O1_c4.cn ch497,o_O2_c4.cn ch497,bx268.cn ch497,o484.cn ch497,o498⟩)
    intro nd485
    refine dw (σ:=aw) [13,12,11,10,9,6,5,4,3,2,1,0] 10 (λgq f w=>b6 w0 gq w/\f 10=vp b167 0/\f 11=vp b172 0/\f 71=vp b167 0/\f 72=vp b172 0/\f 76=O1_c4_v/\f 77=vg [vi ju,vi jv,vi (-1),vi nm]/\f 83=O2_c4_v/\f 84=vg [vi ju,vi jv,vi (-1),vi nm]/\Sl gq (is 0) w g_v g.2/\Ow gq (is 14) (is 14) w done_v done/\Ow gq (is 7) (is 7) w (bM todo_v 1 (Int.toNat 0) (Int.toNat ((todo.length:Int)-1))) (List.take (Int.toNat ((todo.length:Int)-1)) todo)/\d8 gq 6 (pmA.1.idxOf (gI todo ((todo.length:Int)-1))) w pmA.1 pmA.2/\Bx gq (is 9) w (gI todo ((todo.length:Int)-1)).n [vi KB,v71]/\Ow gq (is 10) (is 10) w v71 PB/\Bx gq (is 11) w b81 [Value.pointer (some ⟨(gI todo ((todo.length:Int)-1)).n,0,none⟩)]/\Bx gq (is 17) w b149 [vi ((d6 PB).1)]/\Bx gq (is 18) w b154 [vi ((d6 PB).2.1)]/\Bx gq (is 19) w b167 [vi 0,O1_c4_v]/\Bx gq (is 20) w b172 [vi 0,O2_c4_v]/\Ow gq (is 23) (is 23) w O1_c4_v O1_c4/\Ow gq (is 25) (is 25) w O2_c4_v O2_c4/\Bx gq (is 8) w b52 [vi (nm+1),done_v,(bM todo_v 1 (Int.toNat 0) (Int.toNat ((todo.length:Int)-1)))]) ?_ ?_
    ·
     clear Rg o_done r67 pm76 bx72 o73 bx83 bx159 bx162 bx169 bx174 o_O1_c4 o_O2_c4 bx265 bx268 bH
     rintro g503 f501 w502 ⟨bH,zs10_c4,zs11_c4,zs71_c4,zs72_c4,zs76_c4,zs77_c4,zs83_c4,zs84_c4,Rg,o_done,r67,pm76,bx72,o73,bx83,bx159,bx162,bx169,bx174,o_O1_c4,o_O2_c4,bx268⟩
     refine dD 7 14 rfl rfl (by kernel_rfl) rfl rfl ?_ ?_
     ·
      refine jF (γ:=g503) 27 ju jv (-1) nm cJ aF (hp:=zs77_c4) ?_
      intro g504 w505 v506 ch507 o508
      exact bK (by kernel_rfl) (nd414 (v506,g504) _ _ ⟨bH.cn ch507,zs10_c4,zs11_c4,zs71_c4,zs72_c4,zs76_c4,rfl,zs83_c4,zs84_c4,Rg.cn ch507,o_done.cn ch507,r67.cn ch507,pm76.cn ch507,bx72.cn ch507,o73.cn ch507,bx83.cn ch507,bx159.cn ch507,bx162.cn ch507,bx169.cn ch507,bx174.cn ch507,o_O1_c4.cn ch507,o_O2_c4.cn ch507,bx268.cn ch507,o508⟩)
     ·
      refine jF (γ:=g503) 28 ju jv (-1) nm cJ aF (hp:=zs84_c4) ?_
      intro g509 w510 v511 ch512 o513
      exact bK (by kernel_rfl) (nd454 (v511,g509) _ _ ⟨bH.cn ch512,zs10_c4,zs11_c4,zs71_c4,zs72_c4,zs76_c4,zs77_c4,zs83_c4,rfl,Rg.cn ch512,o_done.cn ch512,r67.cn ch512,pm76.cn ch512,bx72.cn ch512,o73.cn ch512,bx83.cn ch512,bx159.cn ch512,bx162.cn ch512,bx169.cn ch512,bx174.cn ch512,o_O1_c4.cn ch512,o_O2_c4.cn ch512,bx268.cn ch512,o513⟩)
    intro nd500
    refine xp (v:=vp b167 0) 0 rfl (λw=>aq zs10_c4) (xp (v:=vp b172 0) 1 rfl (λw=>aq zs11_c4) (xp (v:=vp b167 0) 2 rfl (λw=>aq zs10_c4) (xp (v:=vp b167 0) 3 rfl (λw=>ae rfl) (xp 4 rfl (λw=>aa dR rfl rfl rfl rfl) ?_))))
    have C514:=cg [8,26] (ch259.n.seq ((ch264.l rfl).seq ((ch267.l rfl).seq ch269.n)))
    replace bx169:=bx169.ca C514
    refine xh 5 [4,3,2,1,0,6,9,13,7,10,14,11,12] rfl (λw' hw'=>a8 bB rfl (bx169.bel hw') rfl) ?_
    replace bx265:=(bx265.ce ch267).cn ch269
    refine xh 6 [5,4,3,2,1,0,9,13,10,14,11,12] rfl (λw' hw'=>ay (ds:=[vi ju,vi jv,vi (-1),vi nm]) aF rfl (bx265.bel hw') rfl rfl) (xp (v:=vp b172 0) 9 rfl (λw=>aq zs11_c4) (xp (v:=vp b172 0) 10 rfl (λw=>ae rfl) (xp 11 rfl (λw=>aa dR rfl rfl rfl rfl) ?_)))
    refine iy 7 [12,13] (by kernel_rfl) ⟨fy 7 rfl (by kernel_rfl) rfl ?_,fy 12 rfl (by kernel_rfl) rfl ?_,fy 13 rfl (by kernel_rfl) rfl ?_,trivial⟩
    ·
     refine jF (γ:=g261) 27 ju jv (-1) nm cJ aF ?_
     intro g515 w516 v517 ch518 o519
     refine iy 8 [12,13] (by kernel_rfl) ⟨fy 8 rfl (by kernel_rfl) rfl ?_,fy 12 rfl (by kernel_rfl) rfl ?_,fy 13 rfl (by kernel_rfl) rfl ?_,trivial⟩
     ·
      have C520:=cg [8,26] (ch259.n.seq ((ch264.l rfl).seq ((ch267.l rfl).seq (ch269.n.seq ch518.n))))
      replace o_O1_c4:=o_O1_c4.ca C520
      refine i9 o_O1_c4 o519.flat cJ aF (by(simp;omega)) ?_
      intro g521 w522 v523 ch524 o525
      clear o_O1_c4
      refine dD 12 13 rfl rfl (by kernel_rfl) rfl rfl ?_ ?_
      ·
       have C526:=cg [8,23,26] (ch259.n.seq ((ch264.l rfl).seq ((ch267.l rfl).seq (ch269.n.seq (ch518.n.seq (ch524.l rfl))))))
       replace bx174:=bx174.ca C526
       refine aj (v:=O2_c4_v) (a8 bB rfl bx174 rfl) ?_
       have C527:=cg [23] (ch269.n.seq (ch518.n.seq (ch524.l rfl)))
       exact bK (by kernel_rfl) (nd382 (v523,g521) _ _ ⟨bH.ca C526,zs10_c4,zs11_c4,rfl,rfl,rfl,rfl,rfl,Rg.ca C526,o_done.ca C526,r67.ca C526,pm76.ca C526,bx72.ca C526,o73.ca C526,bx83.ca C526,bx159.ca C526,bx162.ca C526,(bx169.cn ch518).ce ch524,bx174,o_O2_c4.ca C526,(bx265.cn ch518).ce ch524,bx268.ca C527,o525⟩)
      ·
       replace bx265:=(bx265.cn ch518).ce ch524
       refine aj (v:=vg [vi ju,vi jv,vi (-1),vi nm]) (ay (ds:=[vi ju,vi jv,vi (-1),vi nm]) aF rfl bx265 rfl rfl) ?_
       have C528:=cg [8,23,26] (ch259.n.seq ((ch264.l rfl).seq ((ch267.l rfl).seq (ch269.n.seq (ch518.n.seq (ch524.l rfl))))))
       have C529:=cg [23] (ch269.n.seq (ch518.n.seq (ch524.l rfl)))
       exact bK (by kernel_rfl) (nd398 (v523,g521) _ _ ⟨bH.ca C528,zs10_c4,zs11_c4,rfl,rfl,rfl,rfl,rfl,Rg.ca C528,o_done.ca C528,r67.ca C528,pm76.ca C528,bx72.ca C528,o73.ca C528,bx83.ca C528,bx159.ca C528,bx162.ca C528,(bx169.cn ch518).ce ch524,bx174.ca C528,o_O2_c4.ca C528,bx268.ca C529,o525⟩)
     ·
      have C530:=cg [8,26] (ch259.n.seq ((ch264.l rfl).seq ((ch267.l rfl).seq (ch269.n.seq ch518.n))))
      replace bx174:=bx174.ca C530
      refine aj (v:=O2_c4_v) (a8 bB rfl bx174 rfl) ?_
      exact bK (by kernel_rfl) (nd470 (v517,g515) _ _ ⟨bH.ca C530,zs10_c4,zs11_c4,rfl,rfl,rfl,rfl,rfl,rfl,Rg.ca C530,o_done.ca C530,r67.ca C530,pm76.ca C530,bx72.ca C530,o73.ca C530,bx83.ca C530,bx159.ca C530,bx162.ca C530,bx169.cn ch518,bx174,o_O1_c4.ca C530,o_O2_c4.ca C530,bx265.cn ch518,(bx268.cn ch269).cn ch518,o519⟩)
     ·
      replace bx265:=bx265.cn ch518
      refine aj (v:=vg [vi ju,vi jv,vi (-1),vi nm]) (ay (ds:=[vi ju,vi jv,vi (-1),vi nm]) aF rfl bx265 rfl rfl) ?_
      have C531:=cg [8,26] (ch259.n.seq ((ch264.l rfl).seq ((ch267.l rfl).seq (ch269.n.seq ch518.n))))
      exact bK (by kernel_rfl) (nd485 (v517,g515) _ _ ⟨bH.ca C531,zs10_c4,zs11_c4,rfl,rfl,rfl,rfl,rfl,rfl,Rg.ca C531,o_done.ca C531,r67.ca C531,pm76.ca C531,bx72.ca C531,o73.ca C531,bx83.ca C531,bx159.ca C531,bx162.ca C531,bx169.cn ch518,bx174.ca C531,o_O1_c4.ca C531,o_O2_c4.ca C531,(bx268.cn ch269).cn ch518,o519⟩)
    ·
     replace bx174:=bx174.ca C514
     refine aj (v:=O2_c4_v) (a8 bB rfl bx174 rfl) ?_
     refine dD 7 13 rfl rfl (by kernel_rfl) rfl rfl ?_ ?_
     ·
      refine jF (γ:=g261) 27 ju jv (-1) nm cJ aF ?_
      intro g532 w533 v534 ch535 o536
      have C537:=cg [8,26] (ch259.n.seq ((ch264.l rfl).seq ((ch267.l rfl).seq (ch269.n.seq ch535.n))))
      exact bK (by kernel_rfl) (nd470 (v534,g532) _ _ ⟨bH.ca C537,zs10_c4,zs11_c4,rfl,rfl,rfl,rfl,rfl,rfl,Rg.ca C537,o_done.ca C537,r67.ca C537,pm76.ca C537,bx72.ca C537,o73.ca C537,bx83.ca C537,bx159.ca C537,bx162.ca C537,bx169.cn ch535,bx174.cn ch535,o_O1_c4.ca C537,o_O2_c4.ca C537,bx265.cn ch535,(bx268.cn ch269).cn ch535,o536⟩)
     ·
      refine aj (v:=vg [vi ju,vi jv,vi (-1),vi nm]) (ay (ds:=[vi ju,vi jv,vi (-1),vi nm]) aF rfl bx265 rfl rfl) ?_
      exact bK (by kernel_rfl) (nd500 (g261) _ _ ⟨bH.ca C514,zs10_c4,zs11_c4,rfl,rfl,rfl,rfl,rfl,rfl,Rg.ca C514,o_done.ca C514,r67.ca C514,pm76.ca C514,bx72.ca C514,o73.ca C514,bx83.ca C514,bx159.ca C514,bx162.ca C514,bx169,bx174,o_O1_c4.ca C514,o_O2_c4.ca C514,bx268.cn ch269⟩)
    ·
     refine aj (v:=vg [vi ju,vi jv,vi (-1),vi nm]) (ay (ds:=[vi ju,vi jv,vi (-1),vi nm]) aF rfl bx265 rfl rfl) ?_
     refine iy 7 [12,14] (by kernel_rfl) ⟨fy 7 rfl (by kernel_rfl) rfl ?_,fy 12 rfl (by kernel_rfl) rfl ?_,fy 14 rfl (by kernel_rfl) rfl ?_,trivial⟩
     ·
      refine jF (γ:=g261) 27 ju jv (-1) nm cJ aF ?_
      intro g538 w539 v540 ch541 o542
      have C543:=cg [8,26] (ch259.n.seq ((ch264.l rfl).seq ((ch267.l rfl).seq (ch269.n.seq ch541.n))))
      exact bK (by kernel_rfl) (nd485 (v540,g538) _ _ ⟨bH.ca C543,zs10_c4,zs11_c4,rfl,rfl,rfl,rfl,rfl,rfl,Rg.ca C543,o_done.ca C543,r67.ca C543,pm76.ca C543,bx72.ca C543,o73.ca C543,bx83.ca C543,bx159.ca C543,bx162.ca C543,bx169.cn ch541,bx174.ca C543,o_O1_c4.ca C543,o_O2_c4.ca C543,(bx268.cn ch269).cn ch541,o542⟩)
     ·
      replace bx174:=bx174.ca C514
      refine aj (v:=O2_c4_v) (a8 bB rfl bx174 rfl) ?_
      exact bK (by kernel_rfl) (nd500 (g261) _ _ ⟨bH.ca C514,zs10_c4,zs11_c4,rfl,rfl,rfl,rfl,rfl,rfl,Rg.ca C514,o_done.ca C514,r67.ca C514,pm76.ca C514,bx72.ca C514,o73.ca C514,bx83.ca C514,bx159.ca C514,bx162.ca C514,bx169,bx174,o_O1_c4.ca C514,o_O2_c4.ca C514,bx268.cn ch269⟩)
     ·
      refine jF (γ:=g261) 28 ju jv (-1) nm cJ aF ?_
      intro g544 w545 v546 ch547 o548
      refine dD 7 12 rfl rfl (by kernel_rfl) rfl rfl ?_ ?_
      ·
       refine jF (γ:=g544) 27 ju jv (-1) nm cJ aF ?_
       intro g549 w550 v551 ch552 o553
       have C554:=cg [8,26] (ch259.n.seq ((ch264.l rfl).seq ((ch267.l rfl).seq (ch269.n.seq (ch547.n.seq ch552.n)))))
       have C555:=cg [] (ch269.n.seq (ch547.n.seq ch552.n))
       exact bK (by kernel_rfl) (nd439 (v551,v546,g549) _ _ ⟨bH.ca C554,zs10_c4,zs11_c4,rfl,rfl,rfl,rfl,rfl,rfl,Rg.ca C554,o_done.ca C554,r67.ca C554,pm76.ca C554,bx72.ca C554,o73.ca C554,bx83.ca C554,bx159.ca C554,bx162.ca C554,(bx169.cn ch547).cn ch552,bx174.ca C554,o_O1_c4.ca C554,o_O2_c4.ca C554,bx268.ca C555,o553,o548.cn ch552⟩)
      ·
       have C556:=cg [8,26] (ch259.n.seq ((ch264.l rfl).seq ((ch267.l rfl).seq (ch269.n.seq ch547.n))))
       replace bx174:=bx174.ca C556
       refine aj (v:=O2_c4_v) (a8 bB rfl bx174 rfl) ?_
       exact bK (by kernel_rfl) (nd454 (v546,g544) _ _ ⟨bH.ca C556,zs10_c4,zs11_c4,rfl,rfl,rfl,rfl,rfl,rfl,Rg.ca C556,o_done.ca C556,r67.ca C556,pm76.ca C556,bx72.ca C556,o73.ca C556,bx83.ca C556,bx159.ca C556,bx162.ca C556,bx169.cn ch547,bx174,o_O1_c4.ca C556,o_O2_c4.ca C556,(bx268.cn ch269).cn ch547,o548⟩)
   clear Rg o_done r67 pm76 bx72 o73 bx83 bx159 bx162 bx169 bx174 o_O1_c4 o_O2_c4 bx265 bx268 bH
   rintro⟨v278,v290,g559⟩ f557 w558 ⟨bH,zs10_c4,zs11_c4,Rg,o_done,r67,pm76,bx72,o73,bx83,bx159,bx162,bx268,o280,o292,bx295,bx299⟩
   refine a7 (a6 rfl (mz zs10_c4 (mz zs11_c4 (ma (vp b167 0) (ma (vp b172 0) (ab (au (vs:=[vp b167 0,vp b172 0]) Tryz.func61 (.tmp rfl (.tmp rfl .nil)) ?_)))))))
   refine⟨vt [vp b167 0,vp b172 0],rfl,?_⟩
   refine mv (vt [vp b167 0,vp b172 0]) (lx (aJ rfl rfl) (lx (aJ rfl rfl) (ma (vp b167 0) (ma (vp b172 0) (ab (a7 ?_))))))
   clear bx83 bx159 bx162
   obtain⟨g560,ch561,pm562⟩:=d8.close pm76 rfl rfl rfl (u:=(gI todo ((todo.length:Int)-1))) (by exact fb hxA) bx72 o73
   clear bx72 o73
   replace bx299:=bx299.chg ch561 (cd rfl rfl)
   replace o292:=o292.chg ch561 (cd rfl rfl) (cd rfl rfl)
   obtain⟨g563,ch564,pm565⟩:=eW.add pm562 rfl rfl rfl bx299 o292
   clear o292 bx299
   refine a6 rfl (mv (vp b52 0) (mv (vp b167 0) (lo (br (aH (vals:=[vp b52 0,vp b167 0,vi 2]) Tryz.func58 ki jS rfl) (ap Tryz.func58 rfl nq ?_)))))
   replace o_done:=(o_done.chg ch561 (cd rfl rfl) (cd rfl rfl)).chg ch564 (cd rfl rfl) (cd rfl rfl)
   replace r67:=(r67.chg ch561 (cd rfl rfl) (cd rfl rfl)).chg ch564 (cd rfl rfl) (cd rfl rfl)
   replace o280:=(o280.chg ch561 (cd rfl rfl) (cd rfl rfl)).chg ch564 (cd rfl rfl) (cd rfl rfl)
   refine a7 (a6 rfl (mv (vp b167 0) (mi 2 (lw (vp b167 0) (ae rfl) (lx (aa dR rfl rfl rfl rfl) (lo ?_))))))
   replace bx295:=(bx295.chg ch561 (cd rfl rfl)).chg ch564 (cd rfl rfl)
   refine ax (cs':=[vi 2,v278]) ah rfl rfl bx295 rfl nq (AllOne.all (.cons rfl .nil)) rfl ?_
   intro w566 ch567 bx568
   clear bx295
   refine ab ?_
   replace o280:=o280.ce ch567
   replace pm565:=pm565.ce ch567
   obtain⟨g569,ch570,pm571⟩:=eW.add pm565 rfl rfl rfl bx568 o280
   clear o280 bx568
   refine a6 rfl (mv (vp b52 0) (mv (vp b52 0) (lw (vp b52 0) (ae rfl) (lx (aa lg rfl rfl rfl rfl) ?_))))
   have C572:=cg [9,10,19,20,23,25] ((ch561.l2 rfl rfl).seq ((ch564.l2 rfl rfl).seq ((ch567.l rfl).seq (ch570.l2 rfl rfl))))
   replace bx268:=bx268.ca C572
   refine lx (a8 cS rfl bx268 rfl) (mv (vp b167 0) (lo (ar (α:=Pp) g569 (is 29) (is 29) (29,0) rfl ([(⟨b167⟩:Pp)]:List Pp) iZ aW (by decide) (by decide) (vs:=[(0,vp b167 0)]) rfl rfl (.cons rfl .nil) ?_)))
   intro g573 w574 v575 ch576 o577
   refine lo ?_
   have C578:=cg [19,23] ((ch567.l rfl).seq ((ch570.l2 rfl rfl).seq ch576.n))
   replace o_done:=o_done.ca C578
   refine aK (α:=Pp) (xs:=done) (ys:=([(⟨b167⟩:Pp)]:List Pp)) g573 (J:=is 14) (S:=is 14) (14,0) rfl iZ aW (by decide) rfl rfl rfl o_done o577.flat (by decide) (by(simp;omega)) ?_
   intro g579 w580 v581 ch582 o583
   clear o_done
   refine lw (vp b52 0) (ae rfl) (lx (aa lg rfl rfl rfl rfl) (lo ?_))
   replace bx268:=(bx268.cn ch576).ce ch582
   refine aC (cs':=[vi (nm+1),v581,(bM todo_v 1 (Int.toNat 0) (Int.toNat ((todo.length:Int)-1)))]) cS rfl rfl bx268 (aP o583.flat) nq (aG o583.flat) rfl ?_
   intro w584 ch585 bx586
   clear bx268
   refine ab (dS (vs:=[]) Tryz.func58 .nil ?_)
   refine⟨vt [],rfl,?_⟩
   refine ab (a7 ?_)
   clear o577
   refine a6 rfl (mv (vp b52 0) (mv (vp b52 0) (lw (vp b52 0) (ae rfl) (lx (aa lg rfl rfl rfl rfl) (lx (a8 cS rfl bx586 rfl) (mv (vp b172 0) (lo (ar (α:=Pp) g579 (is 31) (is 31) (31,0) rfl ([(⟨b172⟩:Pp)]:List Pp) iZ aW (by decide) (by decide) (vs:=[(0,vp b172 0)]) rfl rfl (.cons rfl .nil) ?_))))))))
   intro g587 w588 v589 ch590 o591
   refine lo ?_
   have C592:=cg [8,14,19,23] ((ch567.l rfl).seq ((ch570.l2 rfl rfl).seq (ch576.n.seq ((ch582.l rfl).seq ((ch585.l rfl).seq ch590.n)))))
   replace r67:=r67.ca C592
   refine aK (α:=Pp) (xs:=(List.take (Int.toNat ((todo.length:Int)-1)) todo)) (ys:=([(⟨b172⟩:Pp)]:List Pp)) g587 (J:=is 7) (S:=is 7) (7,0) rfl iZ aW (by decide) rfl rfl rfl r67 o591.flat (by decide) (by(simp;omega)) ?_
   intro g593 w594 v595 ch596 o597
   clear r67
   refine lw (vp b52 0) (ae rfl) (lx (aa lg rfl rfl rfl rfl) (lo ?_))
   replace bx586:=(bx586.cn ch590).ce ch596
   refine aC (cs':=[vi (nm+1),v581,v595]) cS rfl rfl bx586 (aP o597.flat) nq (aG o597.flat) rfl ?_
   intro w598 ch599 bx600
   clear bx586
   refine ab (au (vs:=[]) Tryz.func42 .nil ?_)
   refine⟨vt [],rfl,?_⟩
   refine ab (ak ?_)
   have C601:=cg [7,8,9,10,14,19,20,23,25] ((ch561.l2 rfl rfl).seq ((ch564.l2 rfl rfl).seq ((ch567.l rfl).seq ((ch570.l2 rfl rfl).seq (ch576.n.seq ((ch582.l rfl).seq ((ch585.l rfl).seq (ch590.n.seq ((ch596.l rfl).seq (ch599.l rfl))))))))))
   have C602:=cg [7,8,14] (ch576.n.seq ((ch582.l rfl).seq ((ch585.l rfl).seq (ch590.n.seq ((ch596.l rfl).seq (ch599.l rfl))))))
   have C603:=cg [7,8] ((ch585.l rfl).seq (ch590.n.seq ((ch596.l rfl).seq (ch599.l rfl))))
   refine back8 (v581,(done++([(⟨b167⟩:Pp)]:List Pp)),v595,((List.take (Int.toNat ((todo.length:Int)-1)) todo)++([(⟨b172⟩:Pp)]:List Pp)),nm+1,(((pmA.1,List.set pmA.2 (pmA.1.idxOf (gI todo ((todo.length:Int)-1))) (KB,PB)).1++[(⟨b172⟩:Pp)],(pmA.1,List.set pmA.2 (pmA.1.idxOf (gI todo ((todo.length:Int)-1))) (KB,PB)).2++[(0,(O2_c4++([(ju,jv,-1,nm)]:List Bd)))]).1++[(⟨b167⟩:Pp)],((pmA.1,List.set pmA.2 (pmA.1.idxOf (gI todo ((todo.length:Int)-1))) (KB,PB)).1++[(⟨b172⟩:Pp)],(pmA.1,List.set pmA.2 (pmA.1.idxOf (gI todo ((todo.length:Int)-1))) (KB,PB)).2++[(0,(O2_c4++([(ju,jv,-1,nm)]:List Bd)))]).2++[(2,(O1_c4++([(ju,jv,-1,nm)]:List Bd)))]),g593) _ _ ⟨bH.ca C601,zs6,Rg.ca C601,pm571.ca C602,bx600,o583.ca C603,o597.ce ch599,?_⟩ ?_
   · show fw (dQ g) (((pmA.1,List.set pmA.2 (pmA.1.idxOf (gI todo ((todo.length:Int)-1))) (KB,PB)).1++[(⟨b172⟩:Pp)],(pmA.1,List.set pmA.2 (pmA.1.idxOf (gI todo ((todo.length:Int)-1))) (KB,PB)).2++[(0,(O2_c4++([(ju,jv,-1,nm)]:List Bd)))]).1++[(⟨b167⟩:Pp)],((pmA.1,List.set pmA.2 (pmA.1.idxOf (gI todo ((todo.length:Int)-1))) (KB,PB)).1++[(⟨b172⟩:Pp)],(pmA.1,List.set pmA.2 (pmA.1.idxOf (gI todo ((todo.length:Int)-1))) (KB,PB)).2++[(0,(O2_c4++([(ju,jv,-1,nm)]:List Bd)))]).2++[(2,(O1_c4++([(ju,jv,-1,nm)]:List Bd)))]) ((List.take (Int.toNat ((todo.length:Int)-1)) todo)++([(⟨b172⟩:Pp)]:List Pp)) (done++([(⟨b167⟩:Pp)]:List Pp)) (nm+1)
     (subst hKB;subst hPB;subst hff;subst hju;subst hjv;rw[hapd.1,hapd.2];exact hsp.two htt (λz hz=>(qT hz ‹_› ‹_› ‹_›).1) (eW.nd ‹_›) (lO (qT hzP ‹_› ‹_› ‹_›).2))
   · show ly (gF (((pmA.1,List.set pmA.2 (pmA.1.idxOf (gI todo ((todo.length:Int)-1))) (KB,PB)).1++[(⟨b172⟩:Pp)],(pmA.1,List.set pmA.2 (pmA.1.idxOf (gI todo ((todo.length:Int)-1))) (KB,PB)).2++[(0,(O2_c4++([(ju,jv,-1,nm)]:List Bd)))]).1++[(⟨b167⟩:Pp)],((pmA.1,List.set pmA.2 (pmA.1.idxOf (gI todo ((todo.length:Int)-1))) (KB,PB)).1++[(⟨b172⟩:Pp)],(pmA.1,List.set pmA.2 (pmA.1.idxOf (gI todo ((todo.length:Int)-1))) (KB,PB)).2++[(0,(O2_c4++([(ju,jv,-1,nm)]:List Bd)))]).2++[(2,(O1_c4++([(ju,jv,-1,nm)]:List Bd)))]) ((List.take (Int.toNat ((todo.length:Int)-1)) todo)++([(⟨b172⟩:Pp)]:List Pp)))<ly (gF pmA todo)
     (subst hKB;subst hPB;subst hff;subst hju;subst hjv;rw[hapd.1,hapd.2];exact hsp.twoM htt (eW.nd ‹_›) (lO (qT hzP ‹_› ‹_› ‹_›).2))
  refine ag rfl (Bool.eq_false_iff.2 p6_c1) (ao (a7 ?_))
  clear bx159 bx162
  refine a6 rfl ?_
  have C604:=cg [17,18] (hb146.n.seq (ch148.n.seq (ch153.n.seq ((ch158.l rfl).seq (ch161.l rfl)))))
  replace bx83:=bx83.ca C604
  refine lx (a8 aW rfl bx83 rfl) ?_
  replace bx72:=bx72.ca C604
  replace o73:=o73.ca C604
  refine lo (bE (aH (vals:=[Value.pointer (some ⟨(gI todo ((todo.length:Int)-1)).n,0,none⟩)]) Tryz.func63 wS xT rfl) (yM w160 (gI todo ((todo.length:Int)-1)).n (vi KB) v71 PB (o73.flat).ro (iR (bx72)) (by omega) (by omega)) ?_)
  rintro⟨d606,v608,v610⟩ w605 ⟨fr607,o609,o611⟩
  obtain⟨g612,ch613,G612⟩:=i8 g155 fr607 (λn=>if n=1 then 90 else if n=2 then 91 else 0)
  replace o609:=o609.gl G612 90
  replace o611:=o611.gl G612 91
  refine mv (vt [vg [vi ((bc PB).1),v608],v610]) (lx (aJ rfl rfl) (lx (aJ rfl rfl) (lo (bi g612 (is 92) (92,0) rfl aX ?_))))
  intro g617 w614 b616 ch615 bx618
  refine lo ?_
  replace o609:=o609.cn ch615
  refine ax (cs':=[vi ((bc PB).1),v608]) aX rfl rfl bx618 rfl nq (AllOne.all (.cons rfl (.cons (aG o609.flat) .nil))) rfl ?_
  intro w619 ch620 bx621
  clear bx618
  refine ma v610 (ab (a7 (a6 rfl (lx (ay (ds:=[vi ((bc PB).1),v608]) aX rfl bx621 rfl rfl) ?_))))
  replace o609:=o609.ce ch620
  refine lo (bE (aH (vals:=[vg [vi ((bc PB).1),v608]]) Tryz.func64 x7 vV rfl) (qK w619 (bc PB) v608 (o609.flat).ro) ?_)
  rintro⟨d623,v625⟩ w622 ⟨fr624,o626⟩
  obtain⟨g627,ch628,G627⟩:=i8 g617 fr624 (λn=>if n=1 then 93 else 0)
  replace o626:=o626.gl G627 93
  refine mv (vt [v625,vi ((aD (bc PB)).2)]) (lx (aJ rfl rfl) (lx (aJ rfl rfl) (ma v625 (ai ((aD (bc PB)).2) (ab (a7 (a7 (a6 rfl (mv v625 ?_)))))))))
  have len629:=(o626.flat).small
  refine lx (bp eR rfl o626.flat) (lx (dA (m:=(List.length ((aD (bc PB)).1):Int)) (n:=0) rfl rfl) (ab ?_))
  by_cases p12_c1:(List.length ((aD (bc PB)).1):Int)=0
  ·
   refine af rfl (dt p12_c1) (a7 ?_)
   clear o609 o611 bx621 o626
   refine a6 rfl (mv (vp b52 0) ?_)
   have C630:=cg [92] (ch613.n.seq (ch615.n.seq ((ch620.l rfl).seq ch628.n)))
   replace bx83:=bx83.ca C630
   refine lx (a8 aW rfl bx83 rfl) (lo (br (aH (vals:=[vp b52 0,Value.pointer (some ⟨(gI todo ((todo.length:Int)-1)).n,0,none⟩),vi 3]) Tryz.func58 ki jS rfl) (ap Tryz.func58 rfl nq ?_)))
   have C631:=cg [17,18,92] (ch80.n.seq (ch90.n.seq (hb118.n.seq (hb146.n.seq (ch148.n.seq (ch153.n.seq ((ch158.l rfl).seq ((ch161.l rfl).seq (ch613.n.seq (ch615.n.seq ((ch620.l rfl).seq ch628.n)))))))))))
   replace o_done:=o_done.ca C631
   replace r67:=r67.ca C631
   replace o73:=o73.ca C630
   refine a7 (a6 rfl (mv (Value.pointer (some ⟨(gI todo ((todo.length:Int)-1)).n,0,none⟩)) (mi 3 (lw (Value.pointer (some ⟨(gI todo ((todo.length:Int)-1)).n,0,none⟩)) (ae rfl) (lx (aa dR rfl rfl rfl rfl) (lo ?_))))))
   replace bx72:=bx72.ca C630
   refine ax (cs':=[vi 3,v71]) ah rfl rfl bx72 rfl nq (AllOne.all (.cons rfl .nil)) rfl ?_
   intro w632 ch633 bx634
   clear bx72
   refine ab ?_
   replace o73:=o73.ce ch633
   have C638:=cg [9,17,18,92] (ch80.n.seq (ch90.n.seq (hb118.n.seq (hb146.n.seq (ch148.n.seq (ch153.n.seq ((ch158.l rfl).seq ((ch161.l rfl).seq (ch613.n.seq (ch615.n.seq ((ch620.l rfl).seq (ch628.n.seq (ch633.l rfl)))))))))))))
   replace pm76:=pm76.ca C638
   obtain⟨g635,ch636,pm637⟩:=d8.close pm76 rfl rfl rfl (u:=(gI todo ((todo.length:Int)-1))) (by exact fb hxA) bx634 o73
   clear o73 bx634
   refine a6 rfl (mv (vp b52 0) (mv (vp b52 0) (lw (vp b52 0) (ae rfl) (lx (aa lg rfl rfl rfl rfl) ?_))))
   have C639:=cg [6,9,10,17,18,92] ((ch75.l rfl).seq (ch80.n.seq (ch90.n.seq (hb118.n.seq (hb146.n.seq (ch148.n.seq (ch153.n.seq ((ch158.l rfl).seq ((ch161.l rfl).seq (ch613.n.seq (ch615.n.seq ((ch620.l rfl).seq (ch628.n.seq ((ch633.l rfl).seq (ch636.l2 rfl rfl)))))))))))))))
   replace bx70:=bx70.ca C639
   refine lx (a8 cS rfl bx70 rfl) (mv (Value.pointer (some ⟨(gI todo ((todo.length:Int)-1)).n,0,none⟩)) (lo (ar (α:=Pp) g635 (is 32) (is 32) (32,0) rfl ([(gI todo ((todo.length:Int)-1))]:List Pp) iZ aW (by decide) (by decide) (vs:=[(0,Value.pointer (some ⟨(gI todo ((todo.length:Int)-1)).n,0,none⟩))]) rfl rfl (.cons rfl .nil) ?_)))
   intro g640 w641 v642 ch643 o644
   refine lo ?_
   have C645:=cg [9,10] ((ch633.l rfl).seq ((ch636.l2 rfl rfl).seq ch643.n))
   replace o_done:=o_done.ca C645
   refine aK (α:=Pp) (xs:=done) (ys:=([(gI todo ((todo.length:Int)-1))]:List Pp)) g640 (J:=is 14) (S:=is 14) (14,0) rfl iZ aW (by decide) rfl rfl rfl o_done o644.flat (by decide) (by(simp;omega)) ?_
   intro g646 w647 v648 ch649 o650
   clear o_done
   refine lw (vp b52 0) (ae rfl) (lx (aa lg rfl rfl rfl rfl) (lo ?_))
   replace bx70:=(bx70.cn ch643).ce ch649
   refine aC (cs':=[vi nm,v648,(bM todo_v 1 (Int.toNat 0) (Int.toNat ((todo.length:Int)-1)))]) cS rfl rfl bx70 (aP o650.flat) nq (aG o650.flat) rfl ?_
   intro w651 ch652 bx653
   clear bx70
   refine ab (dS (vs:=[]) Tryz.func58 .nil ?_)
   refine⟨vt [],rfl,?_⟩
   refine ab (au (vs:=[]) Tryz.func42 .nil ?_)
   refine⟨vt [],rfl,?_⟩
   refine ab (ak ?_)
   have C654:=cg [6,8,9,10,14,17,18,92] (ch60.n.seq (hc63.n.seq (ch64.n.seq ((ch69.l rfl).seq ((ch75.l rfl).seq (ch80.n.seq (ch90.n.seq (hb118.n.seq (hb146.n.seq (ch148.n.seq (ch153.n.seq ((ch158.l rfl).seq ((ch161.l rfl).seq (ch613.n.seq (ch615.n.seq ((ch620.l rfl).seq (ch628.n.seq ((ch633.l rfl).seq ((ch636.l2 rfl rfl).seq (ch643.n.seq ((ch649.l rfl).seq (ch652.l rfl))))))))))))))))))))))
   have C655:=cg [8,14] (ch643.n.seq ((ch649.l rfl).seq (ch652.l rfl)))
   have C656:=cg [8,9,10,14] ((ch633.l rfl).seq ((ch636.l2 rfl rfl).seq (ch643.n.seq ((ch649.l rfl).seq (ch652.l rfl)))))
   refine back8 (v648,(done++([(gI todo ((todo.length:Int)-1))]:List Pp)),(bM todo_v 1 (Int.toNat 0) (Int.toNat ((todo.length:Int)-1))),(List.take (Int.toNat ((todo.length:Int)-1)) todo),nm,(pmA.1,List.set pmA.2 (pmA.1.idxOf (gI todo ((todo.length:Int)-1))) (3,PB)),g646) _ _ ⟨bH.ca C654,zs6,Rg.ca C654,pm637.ca C655,bx653,o650.ce ch652,r67.ca C656,?_⟩ ?_
   · show fw (dQ g) (pmA.1,List.set pmA.2 (pmA.1.idxOf (gI todo ((todo.length:Int)-1))) (3,PB)) (List.take (Int.toNat ((todo.length:Int)-1)) todo) (done++([(gI todo ((todo.length:Int)-1))]:List Pp)) nm
     (subst hKB;subst hPB;exact hsp.fin htt (λz hz=>AP hz ‹_› ‹_› ‹_› ‹_›))
   · show ly (gF (pmA.1,List.set pmA.2 (pmA.1.idxOf (gI todo ((todo.length:Int)-1))) (3,PB)) (List.take (Int.toNat ((todo.length:Int)-1)) todo))<ly (gF pmA todo)
     (subst hKB;subst hPB;exact hsp.finM htt)
  refine ag rfl (df p12_c1) (ao (a7 ?_))
  obtain⟨cc,hcc,⟨⟨hq0,hq1⟩,hq2,hq3⟩,hcb,hcz⟩:=AY hzP ‹_› ‹_› ‹_› ‹_›
  refine cG g627 rfl dj (by kernel_rfl) ?_
  intro w658 ch657
  refine qm v625 ?_
  replace o626:=o626.cn ch657
  refine qx (λw' hw'=>ad (v:=v625) (i:=0) eR rfl rfl (o626.flat.bel hw') rfl (by omega) (by omega)) (qx (λw' hw'=>cA eO rfl rfl rfl (by decide) (by decide) rfl) (qx (λw' hw'=>cK (v:=v625) (i:=0) ah rfl (o626.flat.bel hw') (by omega) (by omega) (by decide) rfl) (qm v625 (qx (λw' hw'=>ad (v:=v625) (i:=0) eR rfl rfl (o626.flat.bel hw') rfl (by omega) (by omega)) (qx (λw' hw'=>cA eO rfl rfl rfl (by decide) (by decide) rfl) (qx (λw' hw'=>cK (v:=v625) (i:=0) ah rfl (o626.flat.bel hw') (by omega) (by omega) (by decide) rfl) (qv (vi ((gI ((aD (bc PB)).1) 0).1)) (λw' hw'=>bm rfl) (qv (vi ((gI ((aD (bc PB)).1) 0).2)) (λw' hw'=>bm rfl) (ep ?_)))))))))
  intro w659 hc660
  replace hc660:=aN hc660 g627
  refine a7 ?_
  clear o626
  refine a6 rfl ?_
  have C661:=cg [] (ch628.n.seq (ch657.n.seq hc660.n))
  replace bx621:=bx621.ca C661
  refine lx (ay (ds:=[vi ((bc PB).1),v608]) aX rfl bx621 rfl rfl) (mi ((gI ((aD (bc PB)).1) 0).1) (mi ((gI ((aD (bc PB)).1) 0).2) ?_))
  replace o609:=o609.ca C661
  refine lo (bE (aH (vals:=[vg [vi ((bc PB).1),v608],vi ((gI ((aD (bc PB)).1) 0).1),vi ((gI ((aD (bc PB)).1) 0).2)]) Tryz.func65 vw um rfl) (oC w659 (bc PB) v608 (o609.flat).ro ((gI ((aD (bc PB)).1) 0).1) ((gI ((aD (bc PB)).1) 0).2)) ?_)
  rintro⟨d663,v665⟩ w662 ⟨fr664,o666⟩
  obtain⟨g667,ch668,G667⟩:=i8 g627 fr664 (λn=>if n=1 then 96 else 0)
  replace o666:=o666.gl G667 96
  refine mv (vt [v665,vi ((ba (bc PB) ((gI ((aD (bc PB)).1) 0).1) ((gI ((aD (bc PB)).1) 0).2)).2)]) (lx (aJ rfl rfl) (lx (aJ rfl rfl) (lo (bi g667 (is 97) (97,0) rfl dW ?_))))
  intro g672 w669 b671 ch670 bx673
  refine lo ?_
  replace o666:=o666.cn ch670
  refine aC (cs':=[v665]) dW rfl rfl bx673 (aP o666.sl) nq (aG o666.sl) rfl ?_
  intro w674 ch675 bx676
  clear bx673
  refine ai ((ba (bc PB) ((gI ((aD (bc PB)).1) 0).1) ((gI ((aD (bc PB)).1) 0).2)).2) (ab (a7 ?_))
  clear o609 bx621
  refine a6 rfl (lx (a8 dW rfl bx676 rfl) (lo (br (aH (vals:=[v665,Value.func (.func 67) #[] #[]]) Tryz.func66 uk y6 rfl) (ap Tryz.func66 rfl nq ?_))))
  replace o666:=o666.ce ch675
  refine a7 (a6 rfl (ai 0 (ab (a7 (a7 (a6 rfl (mv v665 ?_)))))))
  have len677:=(o666.sl).small
  refine lx (bp gf rfl o666.sl) (mi 0 (ab (am ?_)))
  refine aV (σ:=Nat×aw) (λ⟨kx,gq⟩ f w=>b6 w0 gq w/\f 0=v665/\f 1=Value.func (.func 67) #[] #[]/\f 7=vi (List.length ((ba (bc PB) ((gI ((aD (bc PB)).1) 0).1) ((gI ((aD (bc PB)).1) 0).2)).1):Int)/\f 8=vi ↑kx/\Sl gq (is 0) w g_v g.2/\Ow gq (is 14) (is 14) w done_v done/\Ow gq (is 7) (is 7) w (bM todo_v 1 (Int.toNat 0) (Int.toNat ((todo.length:Int)-1))) (List.take (Int.toNat ((todo.length:Int)-1)) todo)/\Bx gq (is 8) w b52 [vi nm,done_v,(bM todo_v 1 (Int.toNat 0) (Int.toNat ((todo.length:Int)-1)))]/\d8 gq 6 (pmA.1.idxOf (gI todo ((todo.length:Int)-1))) w pmA.1 pmA.2/\Bx gq (is 9) w (gI todo ((todo.length:Int)-1)).n [vi KB,v71]/\Ow gq (is 10) (is 10) w v71 PB/\Bx gq (is 11) w b81 [Value.pointer (some ⟨(gI todo ((todo.length:Int)-1)).n,0,none⟩)]/\Ow gq (is 91) (is 91) w v610 (cC PB)/\dr gq 96 w v665 ((ba (bc PB) ((gI ((aD (bc PB)).1) 0).1) ((gI ((aD (bc PB)).1) 0).2)).1)/\Bx gq (is 97) w b671 [v665]/\(kx:Int)<=((List.length ((ba (bc PB) ((gI ((aD (bc PB)).1) 0).1) ((gI ((aD (bc PB)).1) 0).2)).1):Int):Int)/\(∀j:Nat,j<kx->¬1<((gI ((ba (bc PB) ((gI ((aD (bc PB)).1) 0).1) ((gI ((aD (bc PB)).1) 0).2)).1) (j:Int)).length:Int))) (λ⟨kx,gq⟩=>Int.toNat (((List.length ((ba (bc PB) ((gI ((aD (bc PB)).1) 0).1) ((gI ((aD (bc PB)).1) 0).2)).1):Int):Int)-(kx:Int))) (0,g672) ?_ ?_
  have C678:=cg [6,8,17,18,92,97] (ch60.n.seq (hc63.n.seq (ch64.n.seq ((ch69.l rfl).seq ((ch75.l rfl).seq (ch80.n.seq (ch90.n.seq (hb118.n.seq (hb146.n.seq (ch148.n.seq (ch153.n.seq ((ch158.l rfl).seq ((ch161.l rfl).seq (ch613.n.seq (ch615.n.seq ((ch620.l rfl).seq (ch628.n.seq (ch657.n.seq (hc660.n.seq (ch668.n.seq (ch670.n.seq (ch675.l rfl))))))))))))))))))))))
  have C679:=cg [17,18,92,97] (ch80.n.seq (ch90.n.seq (hb118.n.seq (hb146.n.seq (ch148.n.seq (ch153.n.seq ((ch158.l rfl).seq ((ch161.l rfl).seq (ch613.n.seq (ch615.n.seq ((ch620.l rfl).seq (ch628.n.seq (ch657.n.seq (hc660.n.seq (ch668.n.seq (ch670.n.seq (ch675.l rfl)))))))))))))))))
  have C680:=cg [6,17,18,92,97] ((ch75.l rfl).seq (ch80.n.seq (ch90.n.seq (hb118.n.seq (hb146.n.seq (ch148.n.seq (ch153.n.seq ((ch158.l rfl).seq ((ch161.l rfl).seq (ch613.n.seq (ch615.n.seq ((ch620.l rfl).seq (ch628.n.seq (ch657.n.seq (hc660.n.seq (ch668.n.seq (ch670.n.seq (ch675.l rfl))))))))))))))))))
  have C682:=cg [92,97] (ch615.n.seq ((ch620.l rfl).seq (ch628.n.seq (ch657.n.seq (hc660.n.seq (ch668.n.seq (ch670.n.seq (ch675.l rfl))))))))
  have C681:=ch613.n.seq C682
  · exact⟨bH.ca C678,rfl,rfl,rfl,rfl,Rg.ca C678,o_done.ca C679,r67.ca C679,bx70.ca C680,pm76.ca C679,bx72.ca C681,o73.ca C681,bx83.ca C681,o611.ca C682,o666,bx676,by omega,by exact λj hj=>by omega⟩
  clear Rg o_done r67 bx70 pm76 bx72 o73 bx83 o611 o666 bx676 bH
  rintro⟨kx,g685⟩ f683 w684 ⟨bH,zs0_c8,zs1_c8,zs7_c8,zs8_c8,Rg,o_done,r67,bx70,pm76,bx72,o73,bx83,o611,o666,bx676,hle_kx,hix⟩ back2_c8
  refine a7 (a6 rfl (lx (bw (m:=↑kx) (n:=(List.length ((ba (bc PB) ((gI ((aD (bc PB)).1) 0).1) ((gI ((aD (bc PB)).1) 0).2)).1):Int)) zs8_c8 zs7_c8) (ab (a7 ?_))))
  by_cases p2_c8:(kx:Int)<(List.length ((ba (bc PB) ((gI ((aD (bc PB)).1) 0).1) ((gI ((aD (bc PB)).1) 0).2)).1):Int)
  ·
   refine af rfl (dt p2_c8) (ao (a7 (am (a7 (a6 rfl (mz zs8_c8 (ai (kx:Int) (ab (a7 (a6 rfl (mz zs1_c8 (mz zs0_c8 ?_))))))))))))
   refine mi ↑kx (lx (ad (v:=v665) (i:=↑kx) gf rfl rfl o666.sl rfl (by omega) (by omega)) ?_)
   obtain⟨v686,cel687,r688⟩:=dv (r:=(kx:Int)) o666 (by omega) (by omega)
   refine lx (cH fQ rfl cel687) (lo (br (ot (fid:=67) (vals:=[v686]) rfl Tryz.func67 yc yj rfl) (ap Tryz.func67 rfl nq (a7 (a6 rfl (ma (vb false) (ab (a7 (a6 rfl (mv v686 ?_))))))))))
   have len689:=(r688.row_sl).small
   refine lx (bp bF rfl r688.row_sl) (lx (fm (m:=(List.length (gI ((ba (bc PB) ((gI ((aD (bc PB)).1) 0).1) ((gI ((aD (bc PB)).1) 0).2)).1) (kx:Int)):Int)) (n:=1) rfl rfl) (ma (vb (decide (1<(List.length (gI ((ba (bc PB) ((gI ((aD (bc PB)).1) 0).1) ((gI ((aD (bc PB)).1) 0).2)).1) (kx:Int)):Int)))) (ab (au (vs:=[vb (decide (1<(List.length (gI ((ba (bc PB) ((gI ((aD (bc PB)).1) 0).1) ((gI ((aD (bc PB)).1) 0).2)).1) (kx:Int)):Int)))]) Tryz.func67 (.tmp rfl .nil) ?_))))
   refine⟨vb (decide (1<(List.length (gI ((ba (bc PB) ((gI ((aD (bc PB)).1) 0).1) ((gI ((aD (bc PB)).1) 0).2)).1) (kx:Int)):Int))),rfl,?_⟩
   refine ab ?_
   by_cases p4_c8:1<(List.length (gI ((ba (bc PB) ((gI ((aD (bc PB)).1) 0).1) ((gI ((aD (bc PB)).1) 0).2)).1) (kx:Int)):Int)
   ·
    refine af rfl (dt p4_c8) (a7 ?_)
    clear cel687 r688
    refine a6 rfl (mi ↑kx (ai (kx:Int) (ab (au (vs:=[vi ↑kx]) Tryz.func66 (.tmp rfl .nil) ?_))))
    refine⟨vi ↑kx,rfl,?_⟩
    refine lo (bi g685 (is 98) (98,0) rfl ah ?_)
    intro g693 w690 b692 ch691 bx694
    refine lo (ax (cs':=[vi ↑kx]) ah rfl rfl bx694 rfl nq (AllOne.all (.cons rfl .nil)) rfl ?_)
    intro w695 ch696 bx697
    clear bx694
    refine ab (a7 ?_)
    obtain⟨ff,hff⟩:∃ff,ff=AZ (gI (ba (bc PB) (gI (aD (bc PB)).1 0).1 (gI (aD (bc PB)).1 0).2).1 (kx:Int)):=⟨_,rfl⟩
    refine bq g693 [0,1,2,3,4,5,6,7,8,9,10,12,13,14,15,16] dj ?_
    intro w699 ch698
    refine xp (v:=vp b52 0) 0 rfl (λw=>aq rfl) ?_
    have C700:=cg [98] (ch691.n.seq ((ch696.l rfl).seq ch698.n))
    replace bx83:=bx83.ca C700
    refine xv 1 [0,2,3,6,7,10,4,8,5,9] rfl (a8 aW rfl bx83 rfl) (xp (v:=v610) 2 rfl (λw=>aq rfl) (xp (v:=vi ((gI ((aD (bc PB)).1) 0).1)) 3 rfl (λw=>aq rfl) ?_))
    replace o611:=o611.ca C700
    refine xv 4 [3,2,1,0,6,7,10,8,9] rfl (ad (v:=v610) (i:=(gI ((aD (bc PB)).1) 0).1) bF rfl rfl o611.flat rfl (by omega) (by omega)) (xv 5 [4,3,2,1,0,6,7,10,8,9] rfl (av (v:=v610) (i:=(gI ((aD (bc PB)).1) 0).1) ah rfl o611.flat (by omega) (by omega) (by decide) rfl) (xp (v:=v610) 6 rfl (λw=>aq rfl) (xp (v:=vi ((gI ((aD (bc PB)).1) 0).2)) 7 rfl (λw=>aq rfl) (xv 8 [7,6,5,4,3,2,1,0,10] rfl (ad (v:=v610) (i:=(gI ((aD (bc PB)).1) 0).2) bF rfl rfl o611.flat rfl (by omega) (by omega)) (xv 9 [8,7,6,5,4,3,2,1,0,10] rfl (av (v:=v610) (i:=(gI ((aD (bc PB)).1) 0).2) ah rfl o611.flat (by omega) (by omega) (by decide) rfl) ?_)))))
    refine xp (v:=Value.func (.func 68) #[] (List.toArray [vp b671 0,vp b692 0])) 10 rfl (λw=>ii (vals:=[vp b671 0,vp b692 0]) rfl) (b9 11 rfl (by kernel_rfl) rfl (br (aH (vals:=[vp b52 0,Value.pointer (some ⟨(gI todo ((todo.length:Int)-1)).n,0,none⟩),vi (gI (cC PB) ((gI ((aD (bc PB)).1) 0).1)),vi (gI (cC PB) ((gI ((aD (bc PB)).1) 0).2)),Value.func (.func 68) #[] (List.toArray [vp b671 0,vp b692 0])]) Tryz.func61 pk oW rfl) (ap Tryz.func61 rfl nq ?_)))
    replace o_done:=o_done.ca C700
    replace r67:=r67.ca C700
    replace o73:=o73.ca C700
    refine a7 (a6 rfl (ma ((Value.pointer none)) (ma ((Value.pointer none)) (ab (a7 (a6 rfl (lw (vg [vi 0,vn]) (bh (vs:=[]) rfl (by kernel_rfl)) (lo (cq g693 (is 110) (110,0) rfl rfl ?_)))))))))
    intro g704 w701 b703 ch702 bx705
    refine lw (vg [vi 0,vn]) (bh (vs:=[]) rfl (by kernel_rfl)) (lo (cq g704 (is 111) (111,0) rfl rfl ?_))
    intro g709 w706 b708 ch707 bx710
    refine ma (vp b703 0) (ma (vp b708 0) (ab (a7 (a7 (a6 rfl (mv (Value.pointer (some ⟨(gI todo ((todo.length:Int)-1)).n,0,none⟩)) (lw (Value.pointer (some ⟨(gI todo ((todo.length:Int)-1)).n,0,none⟩)) (ae rfl) (lx (aa dR rfl rfl rfl rfl) ?_))))))))
    have C711:=cg [98] (ch691.n.seq ((ch696.l rfl).seq (ch698.n.seq (ch702.n.seq ch707.n))))
    replace bx72:=bx72.ca C711
    refine lx (a8 bB rfl bx72 rfl) ?_
    replace o73:=(o73.cn ch702).cn ch707
    have len712:=(o73.flat).small
    refine lx (bp cJ rfl o73.flat) (mi 0 (ab (am ?_)))
    refine aV (σ:=Value×(List Bd)×Nat×Value×(List Bd)×aw) (λ⟨O1_c10_v,O1_c10,k_c10,O2_c10_v,O2_c10,gq⟩ f w=>b6 w0 gq w/\f 0=vp b52 0/\f 2=vi (gI (cC PB) ((gI ((aD (bc PB)).1) 0).1))/\f 3=vi (gI (cC PB) ((gI ((aD (bc PB)).1) 0).2))/\f 4=Value.func (.func 68) #[] (List.toArray [vp b671 0,vp b692 0])/\f 10=vp b703 0/\f 11=vp b708 0/\f 22=v71/\f 23=vi (PB.length:Int)/\f 24=vi ↑k_c10/\Sl gq (is 0) w g_v g.2/\Ow gq (is 14) (is 14) w done_v done/\Ow gq (is 7) (is 7) w (bM todo_v 1 (Int.toNat 0) (Int.toNat ((todo.length:Int)-1))) (List.take (Int.toNat ((todo.length:Int)-1)) todo)/\Bx gq (is 8) w b52 [vi nm,done_v,(bM todo_v 1 (Int.toNat 0) (Int.toNat ((todo.length:Int)-1)))]/\d8 gq 6 (pmA.1.idxOf (gI todo ((todo.length:Int)-1))) w pmA.1 pmA.2/\Bx gq (is 9) w (gI todo ((todo.length:Int)-1)).n [vi KB,v71]/\Ow gq (is 10) (is 10) w v71 PB/\Bx gq (is 11) w b81 [Value.pointer (some ⟨(gI todo ((todo.length:Int)-1)).n,0,none⟩)]/\Ow gq (is 91) (is 91) w v610 (cC PB)/\dr gq 96 w v665 ((ba (bc PB) ((gI ((aD (bc PB)).1) 0).1) ((gI ((aD (bc PB)).1) 0).2)).1)/\Bx gq (is 97) w b671 [v665]/\Bx gq (is 98) w b692 [vi ↑kx]/\Bx gq (is 110) w b703 [vi 0,O1_c10_v]/\Bx gq (is 111) w b708 [vi 0,O2_c10_v]/\Ow gq (is 114) (is 114) w O1_c10_v O1_c10/\Ow gq (is 116) (is 116) w O2_c10_v O2_c10/\(k_c10:Int)<=((PB.length:Int):Int)/\(mP ff PB k_c10 O1_c10 O2_c10)) (λ⟨O1_c10_v,O1_c10,k_c10,O2_c10_v,O2_c10,gq⟩=>Int.toNat (((PB.length:Int):Int)-(k_c10:Int))) (vn,[],0,vn,[],g709) ?_ ?_
    have C713:=cg [] (ch698.n.seq (ch702.n.seq ch707.n))
    · exact⟨bH.ca C711,rfl,rfl,rfl,rfl,rfl,rfl,rfl,rfl,rfl,Rg.ca C711,(o_done.cn ch702).cn ch707,(r67.cn ch702).cn ch707,bx70.ca C711,pm76.ca C711,bx72,o73,(bx83.cn ch702).cn ch707,(o611.cn ch702).cn ch707,o666.ca C711,bx676.ca C711,bx697.ca C713,bx705.cn ch707,bx710,Ow.nil,Ow.nil,by omega,by exact mP.start⟩
    clear Rg o_done r67 bx70 pm76 bx72 o73 bx83 o611 o666 bx676 bx697 bx705 bx710 bH
    rintro⟨O1_c10_v,O1_c10,k_c10,O2_c10_v,O2_c10,g716⟩ f714 w715 ⟨bH,zs0_c10,zs2_c10,zs3_c10,zs4_c10,zs10_c10,zs11_c10,zs22_c10,zs23_c10,zs24_c10,Rg,o_done,r67,bx70,pm76,bx72,o73,bx83,o611,o666,bx676,bx697,bx705,bx710,o_O1_c10,o_O2_c10,hle_k_c10,hap_c10⟩ back3_c10
    have hapl_c10:=hap_c10.len
    refine a7 (a6 rfl (lx (bw (m:=↑k_c10) (n:=(PB.length:Int)) zs24_c10 zs23_c10) (ab (a7 ?_))))
    by_cases p3_c10:(k_c10:Int)<(PB.length:Int)
    ·
     refine af rfl (dt p3_c10) (ao (a7 (am (a7 (a6 rfl (mz zs24_c10 (lx (ad (v:=v71) (i:=↑k_c10) cJ rfl zs22_c10 o73.flat zs24_c10 (by omega) (by omega)) (lw (vg [vi ((gI PB ↑k_c10).1),vi (((gI PB ↑k_c10).2).1),vi ((((gI PB ↑k_c10).2).2).1),vi ((((gI PB ↑k_c10).2).2).2)]) (bJ (v:=v71) (i:=↑k_c10) aF rfl o73.flat (by omega) (by omega) rfl) (lo (bi g716 (is 112) (112,0) rfl aF ?_))))))))))
     intro g720 w717 b719 ch718 bx721
     refine ai (k_c10:Int) (lo (ax (cs':=[vi ((gI PB ↑k_c10).1),vi (((gI PB ↑k_c10).2).1),vi ((((gI PB ↑k_c10).2).2).1),vi ((((gI PB ↑k_c10).2).2).2)]) aF rfl rfl bx721 rfl nq (AllOne.all (.cons rfl (.cons rfl (.cons rfl (.cons rfl .nil))))) rfl ?_))
     intro w722 ch723 bx724
     clear bx721
     refine ab (a7 (a6 rfl (mz zs4_c10 (mi ↑k_c10 (lo (br (ke (fid:=68) (vals:=[vi ↑k_c10]) (caps:=[vp b671 0,vp b692 0]) rfl Tryz.func68 uS yi rfl) (ap Tryz.func68 rfl nq ?_)))))))
     replace o666:=(o666.cn ch718).ce ch723
     refine a7 (a6 rfl (ma (vb false) (ab (a7 (a6 rfl ?_)))))
     replace bx676:=(bx676.cn ch718).ce ch723
     refine lx (a8 dW rfl bx676 rfl) ?_
     replace bx697:=(bx697.cn ch718).ce ch723
     refine lx (a8 ah rfl bx697 rfl) (lx (ad (v:=v665) (i:=↑kx) gf rfl rfl o666.sl rfl (by omega) (by omega)) ?_)
     obtain⟨v725,cel726,r727⟩:=dv (r:=(kx:Int)) o666 (by omega) (by omega)
     refine lx (cH fQ rfl cel726) (mi ↑k_c10 (lo (bV (v:=vb (decide ((k_c10:Int)∈(gI ((ba (bc PB) ((gI ((aD (bc PB)).1) 0).1) ((gI ((aD (bc PB)).1) 0).2)).1) (kx:Int))))) (aH (vals:=[v725,vi ↑k_c10]) Tryz.func69 xV uT rfl) (qk w722 (gI ((ba (bc PB) ((gI ((aD (bc PB)).1) 0).1) ((gI ((aD (bc PB)).1) 0).2)).1) (kx:Int)) v725 (r727.row_sl).ro (k_c10:Int)) ?_)))
     intro w728 hb729
     replace hb729:=aN hb729 g720
     refine ma (vb (decide ((k_c10:Int)∈(gI ((ba (bc PB) ((gI ((aD (bc PB)).1) 0).1) ((gI ((aD (bc PB)).1) 0).2)).1) (kx:Int))))) (ab (au (vs:=[vb (decide ((k_c10:Int)∈(gI ((ba (bc PB) ((gI ((aD (bc PB)).1) 0).1) ((gI ((aD (bc PB)).1) 0).2)).1) (kx:Int))))]) Tryz.func68 (.tmp rfl .nil) ?_))
     refine⟨vb (decide ((k_c10:Int)∈(gI ((ba (bc PB) ((gI ((aD (bc PB)).1) 0).1) ((gI ((aD (bc PB)).1) 0).2)).1) (kx:Int)))),rfl,?_⟩
     refine ab ?_
     by_cases p5_c10:(decide ((k_c10:Int)∈(gI ((ba (bc PB) ((gI ((aD (bc PB)).1) 0).1) ((gI ((aD (bc PB)).1) 0).2)).1) (kx:Int))))=true
     ·
      refine af rfl p5_c10 ?_
      clear cel726 r727
      refine bq g720 [0,1,2,3,4,5,8,9] dj ?_
      intro w731 ch730
      refine xp (v:=vp b703 0) 0 rfl (λw=>aq zs10_c10) (xp (v:=vp b703 0) 1 rfl (λw=>aq zs10_c10) (xp (v:=vp b703 0) 2 rfl (λw=>ae rfl) (xp 3 rfl (λw=>aa dR rfl rfl rfl rfl) ?_)))
      have C732:=cg [112] (ch718.n.seq ((ch723.l rfl).seq (hb729.n.seq ch730.n)))
      replace bx705:=bx705.ca C732
      refine xh 4 [3,2,1,0,5,6] rfl (λw' hw'=>a8 bB rfl (bx705.bel hw') rfl) ?_
      replace bx724:=(bx724.cn hb729).cn ch730
      refine xv 5 [4,3,2,1,0] rfl (ay (ds:=[vi ((gI PB ↑k_c10).1),vi (((gI PB ↑k_c10).2).1),vi ((((gI PB ↑k_c10).2).2).1),vi ((((gI PB ↑k_c10).2).2).2)]) aF rfl bx724 rfl rfl) (b9 6 rfl (by kernel_rfl) rfl (jF (γ:=g720) 113 ((gI PB ↑k_c10).1) (((gI PB ↑k_c10).2).1) ((((gI PB ↑k_c10).2).2).1) ((((gI PB ↑k_c10).2).2).2) cJ aF ?_))
      intro g733 w734 v735 ch736 o737
      refine b9 7 rfl (by kernel_rfl) rfl ?_
      have C738:=cg [112] (ch718.n.seq ((ch723.l rfl).seq (hb729.n.seq (ch730.n.seq ch736.n))))
      replace o_O1_c10:=o_O1_c10.ca C738
      refine i9 o_O1_c10 o737.flat cJ aF (by(simp;omega)) ?_
      intro g739 w740 v741 ch742 o743
      clear o_O1_c10
      refine xp (v:=vp b703 0) 8 rfl (λw=>ae rfl) (xp 9 rfl (λw=>aa dR rfl rfl rfl rfl) (b9 10 rfl (by kernel_rfl) rfl ?_))
      replace bx705:=(bx705.cn ch736).ce ch742
      refine aC (cs':=[vi 0,v741]) bB rfl rfl bx705 (aP o743.flat) nq (aG o743.flat) rfl ?_
      intro w744 ch745 bx746
      clear bx705
      refine bS (by kernel_rfl) (ak ?_)
      clear bx724 o737
      refine a6 rfl (lx (aS (m:=↑k_c10) (n:=1) zs24_c10 rfl (by omega)) (mi ((k_c10:Int)+1) (ab ?_)))
      have C747:=cg [110,112,114] (ch718.n.seq ((ch723.l rfl).seq (hb729.n.seq (ch730.n.seq (ch736.n.seq ((ch742.l rfl).seq (ch745.l rfl)))))))
      have C748:=cg [110,114] (hb729.n.seq (ch730.n.seq (ch736.n.seq ((ch742.l rfl).seq (ch745.l rfl)))))
      refine back3_c10 (v741,(O1_c10++([((gI PB ↑k_c10).1,((gI PB ↑k_c10).2).1,(((gI PB ↑k_c10).2).2).1,(((gI PB ↑k_c10).2).2).2)]:List Bd)),k_c10+1,O2_c10_v,O2_c10,g739) _ _ ⟨bH.ca C747,zs0_c10,zs2_c10,zs3_c10,zs4_c10,zs10_c10,zs11_c10,zs22_c10,zs23_c10,rfl,Rg.ca C747,o_done.ca C747,r67.ca C747,bx70.ca C747,pm76.ca C747,bx72.ca C747,o73.ca C747,bx83.ca C747,o611.ca C747,o666.ca C748,bx676.ca C748,bx697.ca C748,bx746,bx710.ca C747,o743.ce ch745,o_O2_c10.ca C747,by omega,?_⟩ ?_
      · show mP ff PB (k_c10+1) (O1_c10++([((gI PB ↑k_c10).1,((gI PB ↑k_c10).2).1,(((gI PB ↑k_c10).2).2).1,(((gI PB ↑k_c10).2).2).2)]:List Bd)) O2_c10
        exact hap_c10.yes ‹_› (by rw[hff];assumption)
      · show Int.toNat (_-_)<Int.toNat (_-_)
        omega
     refine ag rfl (Bool.eq_false_iff.2 p5_c10) ?_
     clear cel726 r727
     refine bq g720 [0,1,2,3,4,5,8,9] dj ?_
     intro w750 ch749
     refine xp (v:=vp b708 0) 0 rfl (λw=>aq zs11_c10) (xp (v:=vp b708 0) 1 rfl (λw=>aq zs11_c10) (xp (v:=vp b708 0) 2 rfl (λw=>ae rfl) (xp 3 rfl (λw=>aa dR rfl rfl rfl rfl) ?_)))
     have C751:=cg [112] (ch718.n.seq ((ch723.l rfl).seq (hb729.n.seq ch749.n)))
     replace bx710:=bx710.ca C751
     refine xh 4 [3,2,1,0,5,6] rfl (λw' hw'=>a8 bB rfl (bx710.bel hw') rfl) ?_
     replace bx724:=(bx724.cn hb729).cn ch749
     refine xv 5 [4,3,2,1,0] rfl (ay (ds:=[vi ((gI PB ↑k_c10).1),vi (((gI PB ↑k_c10).2).1),vi ((((gI PB ↑k_c10).2).2).1),vi ((((gI PB ↑k_c10).2).2).2)]) aF rfl bx724 rfl rfl) (b9 6 rfl (by kernel_rfl) rfl (jF (γ:=g720) 115 ((gI PB ↑k_c10).1) (((gI PB ↑k_c10).2).1) ((((gI PB ↑k_c10).2).2).1) ((((gI PB ↑k_c10).2).2).2) cJ aF ?_))
     intro g752 w753 v754 ch755 o756
     refine b9 7 rfl (by kernel_rfl) rfl ?_
     have C757:=cg [112] (ch718.n.seq ((ch723.l rfl).seq (hb729.n.seq (ch749.n.seq ch755.n))))
     replace o_O2_c10:=o_O2_c10.ca C757
     refine i9 o_O2_c10 o756.flat cJ aF (by(simp;omega)) ?_
     intro g758 w759 v760 ch761 o762
     clear o_O2_c10
     refine xp (v:=vp b708 0) 8 rfl (λw=>ae rfl) (xp 9 rfl (λw=>aa dR rfl rfl rfl rfl) (b9 10 rfl (by kernel_rfl) rfl ?_))
     replace bx710:=(bx710.cn ch755).ce ch761
     refine aC (cs':=[vi 0,v760]) bB rfl rfl bx710 (aP o762.flat) nq (aG o762.flat) rfl ?_
     intro w763 ch764 bx765
     clear bx710
     refine bS (by kernel_rfl) (ak ?_)
     clear bx724 o756
     refine a6 rfl (lx (aS (m:=↑k_c10) (n:=1) zs24_c10 rfl (by omega)) (mi ((k_c10:Int)+1) (ab ?_)))
     have C766:=cg [111,112,116] (ch718.n.seq ((ch723.l rfl).seq (hb729.n.seq (ch749.n.seq (ch755.n.seq ((ch761.l rfl).seq (ch764.l rfl)))))))
     have C767:=cg [111,116] (hb729.n.seq (ch749.n.seq (ch755.n.seq ((ch761.l rfl).seq (ch764.l rfl)))))
     refine back3_c10 (O1_c10_v,O1_c10,k_c10+1,v760,(O2_c10++([((gI PB ↑k_c10).1,((gI PB ↑k_c10).2).1,(((gI PB ↑k_c10).2).2).1,(((gI PB ↑k_c10).2).2).2)]:List Bd)),g758) _ _ ⟨bH.ca C766,zs0_c10,zs2_c10,zs3_c10,zs4_c10,zs10_c10,zs11_c10,zs22_c10,zs23_c10,rfl,Rg.ca C766,o_done.ca C766,r67.ca C766,bx70.ca C766,pm76.ca C766,bx72.ca C766,o73.ca C766,bx83.ca C766,o611.ca C766,o666.ca C767,bx676.ca C767,bx697.ca C767,bx705.ca C766,bx765,o_O1_c10.ca C766,o762.ce ch764,by omega,?_⟩ ?_
     · show mP ff PB (k_c10+1) O1_c10 (O2_c10++([((gI PB ↑k_c10).1,((gI PB ↑k_c10).2).1,(((gI PB ↑k_c10).2).2).1,(((gI PB ↑k_c10).2).2).2)]:List Bd))
       exact hap_c10.no ‹_› (by rw[hff];assumption)
     · show Int.toNat (_-_)<Int.toNat (_-_)
       omega
    refine ag rfl (df p3_c10) (aO rfl (a7 ?_))
    have hapd:=hap_c10.done ‹_› (gI (cC PB) ((gI ((aD (bc PB)).1) 0).1)) (gI (cC PB) ((gI ((aD (bc PB)).1) 0).2)) nm
    refine a6 rfl (mz zs2_c10 (mz zs3_c10 (lw (vi (min (gI (cC PB) ((gI ((aD (bc PB)).1) 0).1)) (gI (cC PB) ((gI ((aD (bc PB)).1) 0).2)))) (jj rfl rfl) (mz zs2_c10 (mz zs3_c10 (lw (vi (max (gI (cC PB) ((gI ((aD (bc PB)).1) 0).1)) (gI (cC PB) ((gI ((aD (bc PB)).1) 0).2)))) (sf rfl rfl) (mz zs0_c10 (lw (vp b52 0) (ae rfl) (lx (aa lg rfl rfl rfl rfl) ?_)))))))))
    refine lx (a8 ah rfl bx70 rfl) (lw (vg [vi (min (gI (cC PB) ((gI ((aD (bc PB)).1) 0).1)) (gI (cC PB) ((gI ((aD (bc PB)).1) 0).2))),vi (max (gI (cC PB) ((gI ((aD (bc PB)).1) 0).1)) (gI (cC PB) ((gI ((aD (bc PB)).1) 0).2))),vi (-1),vi nm]) (bh (vs:=[(0,vi (min (gI (cC PB) ((gI ((aD (bc PB)).1) 0).1)) (gI (cC PB) ((gI ((aD (bc PB)).1) 0).2)))),(1,vi (max (gI (cC PB) ((gI ((aD (bc PB)).1) 0).1)) (gI (cC PB) ((gI ((aD (bc PB)).1) 0).2)))),(2,vi (-1)),(3,vi nm)]) rfl (by kernel_rfl)) (lo (bi g716 (is 117) (117,0) rfl aF ?_)))
    intro g771 w768 b770 ch769 bx772
    refine lo (ax (cs':=[vi (min (gI (cC PB) ((gI ((aD (bc PB)).1) 0).1)) (gI (cC PB) ((gI ((aD (bc PB)).1) 0).2))),vi (max (gI (cC PB) ((gI ((aD (bc PB)).1) 0).1)) (gI (cC PB) ((gI ((aD (bc PB)).1) 0).2))),vi (-1),vi nm]) aF rfl rfl bx772 rfl nq (AllOne.all (.cons rfl (.cons rfl (.cons rfl (.cons rfl .nil))))) rfl ?_)
    intro w773 ch774 bx775
    clear bx772
    refine ab (a7 ?_)
    obtain⟨ju,hju⟩:∃q:Int,q=min (gI (cC PB) ((gI ((aD (bc PB)).1) 0).1)) (gI (cC PB) ((gI ((aD (bc PB)).1) 0).2)):=⟨_,rfl⟩
    rw[<-hju] at bx775
    obtain⟨jv,hjv⟩:∃q:Int,q=max (gI (cC PB) ((gI ((aD (bc PB)).1) 0).1)) (gI (cC PB) ((gI ((aD (bc PB)).1) 0).2)):=⟨_,rfl⟩
    rw[<-hjv] at bx775
    refine a6 rfl (mz zs0_c10 (lw (vp b52 0) (ae rfl) (lx (aa lg rfl rfl rfl rfl) ?_)))
    replace bx70:=(bx70.cn ch769).ce ch774
    refine lx (a8 ah rfl bx70 rfl) (lx (aS (m:=nm) (n:=1) rfl rfl (by omega)) (lw (vp b52 0) (ae rfl) (lx (aa lg rfl rfl rfl rfl) (lo (ax (cs':=[vi (nm+1),done_v,(bM todo_v 1 (Int.toNat 0) (Int.toNat ((todo.length:Int)-1)))]) ah rfl rfl bx70 rfl nq (AllOne.all (.cons rfl .nil)) rfl ?_)))))
    intro w776 ch777 bx778
    clear bx70
    refine ab (a7 ?_)
    refine dl (σ:=Value×Value×aw) (λ⟨v788,v800,gq⟩ f w=>b6 w0 gq w/\f 10=vp b703 0/\f 11=vp b708 0/\Sl gq (is 0) w g_v g.2/\Ow gq (is 14) (is 14) w done_v done/\Ow gq (is 7) (is 7) w (bM todo_v 1 (Int.toNat 0) (Int.toNat ((todo.length:Int)-1))) (List.take (Int.toNat ((todo.length:Int)-1)) todo)/\d8 gq 6 (pmA.1.idxOf (gI todo ((todo.length:Int)-1))) w pmA.1 pmA.2/\Bx gq (is 9) w (gI todo ((todo.length:Int)-1)).n [vi KB,v71]/\Ow gq (is 10) (is 10) w v71 PB/\Bx gq (is 11) w b81 [Value.pointer (some ⟨(gI todo ((todo.length:Int)-1)).n,0,none⟩)]/\Ow gq (is 91) (is 91) w v610 (cC PB)/\dr gq 96 w v665 ((ba (bc PB) ((gI ((aD (bc PB)).1) 0).1) ((gI ((aD (bc PB)).1) 0).2)).1)/\Bx gq (is 97) w b671 [v665]/\Bx gq (is 98) w b692 [vi ↑kx]/\Bx gq (is 8) w b52 [vi (nm+1),done_v,(bM todo_v 1 (Int.toNat 0) (Int.toNat ((todo.length:Int)-1)))]/\Ow gq (is 114) (is 114) w v788 (O1_c10++([(ju,jv,-1,nm)]:List Bd))/\Ow gq (is 116) (is 116) w v800 (O2_c10++([(ju,jv,-1,nm)]:List Bd))/\Bx gq (is 110) w b703 [vi 0,v788]/\Bx gq (is 111) w b708 [vi 0,v800]) g771 [0,1,2,3,4,5,6,9,10,11,16,17,19,20] dj ?_ ?_
    ·
     intro mid
     intro w780 ch779
     refine dw (σ:=Value×Value×aw) [14,13,12,8,7,11,10,9,6,5,4,3,2,1,0] 7 (λ⟨v790,v796,gq⟩ f w=>b6 w0 gq w/\f 10=vp b703 0/\f 11=vp b708 0/\f 71=vp b703 0/\f 72=vp b708 0/\f 79=v790/\f 83=O2_c10_v/\f 85=v796/\Sl gq (is 0) w g_v g.2/\Ow gq (is 14) (is 14) w done_v done/\Ow gq (is 7) (is 7) w (bM todo_v 1 (Int.toNat 0) (Int.toNat ((todo.length:Int)-1))) (List.take (Int.toNat ((todo.length:Int)-1)) todo)/\d8 gq 6 (pmA.1.idxOf (gI todo ((todo.length:Int)-1))) w pmA.1 pmA.2/\Bx gq (is 9) w (gI todo ((todo.length:Int)-1)).n [vi KB,v71]/\Ow gq (is 10) (is 10) w v71 PB/\Bx gq (is 11) w b81 [Value.pointer (some ⟨(gI todo ((todo.length:Int)-1)).n,0,none⟩)]/\Ow gq (is 91) (is 91) w v610 (cC PB)/\dr gq 96 w v665 ((ba (bc PB) ((gI ((aD (bc PB)).1) 0).1) ((gI ((aD (bc PB)).1) 0).2)).1)/\Bx gq (is 97) w b671 [v665]/\Bx gq (is 98) w b692 [vi ↑kx]/\Bx gq (is 110) w b703 [vi 0,O1_c10_v]/\Bx gq (is 111) w b708 [vi 0,O2_c10_v]/\Ow gq (is 116) (is 116) w O2_c10_v O2_c10/\Bx gq (is 8) w b52 [vi (nm+1),done_v,(bM todo_v 1 (Int.toNat 0) (Int.toNat ((todo.length:Int)-1)))]/\Ow gq (is 114) (is 114) w v790 (O1_c10++([(ju,jv,-1,nm)]:List Bd))/\Ow gq (is 119) (is 119) w v796 ([(ju,jv,-1,nm)]:List Bd)) ?_ ?_
     ·
      clear Rg o_done r67 pm76 bx72 o73 bx83 o611 o666 bx676 bx697 bx705 bx710 o_O1_c10 o_O2_c10 bx775 bx778 bH
      rintro⟨v790,v796,g802⟩ f800 w801 ⟨bH,zs10_c10,zs11_c10,zs71_c10,zs72_c10,zs79_c10,zs83_c10,zs85_c10,Rg,o_done,r67,pm76,bx72,o73,bx83,o611,o666,bx676,bx697,bx705,bx710,o_O2_c10,bx778,o792,o798⟩
      refine b9 15 rfl (by kernel_rfl) rfl (aK (α:=Bd) (xs:=O2_c10) (ys:=([(ju,jv,-1,nm)]:List Bd)) g802 (J:=is 116) (S:=is 116) (116,0) rfl cJ aF (by decide) rfl zs83_c10 zs85_c10 o_O2_c10 o798.flat (by decide) (by(simp;omega)) ?_)
      intro g803 w804 v805 ch806 o807
      clear o_O2_c10
      refine xp (v:=vp b703 0) 16 rfl (λw=>ae zs71_c10) (xp 17 rfl (λw=>aa dR rfl rfl rfl rfl) (b9 18 rfl (by kernel_rfl) rfl ?_))
      replace o792:=o792.ce ch806
      replace bx705:=bx705.ce ch806
      refine aC (cs':=[vi 0,v790]) bB rfl zs79_c10 bx705 (aP o792.flat) nq (aG o792.flat) rfl ?_
      intro w808 ch809 bx810
      clear bx705
      refine xp (v:=vp b708 0) 19 rfl (λw=>ae zs72_c10) (xp 20 rfl (λw=>aa dR rfl rfl rfl rfl) (b9 21 rfl (by kernel_rfl) rfl ?_))
      replace o807:=o807.ce ch809
      replace bx710:=(bx710.ce ch806).ce ch809
      refine aC (cs':=[vi 0,v805]) bB rfl rfl bx710 (aP o807.flat) nq (aG o807.flat) rfl ?_
      intro w811 ch812 bx813
      clear bx710
      refine bS (by kernel_rfl) ?_
      have C814:=cg [110,111,116] ((ch806.l rfl).seq ((ch809.l rfl).seq (ch812.l rfl)))
      exact mid (v790,v805,g803) _ _ ⟨bH.ca C814,zs10_c10,zs11_c10,Rg.ca C814,o_done.ca C814,r67.ca C814,pm76.ca C814,bx72.ca C814,o73.ca C814,bx83.ca C814,o611.ca C814,o666.ca C814,bx676.ca C814,bx697.ca C814,bx778.ca C814,(o792.ce ch809).ce ch812,o807.ce ch812,bx810.ce ch812,bx813⟩
     intro nd799
     refine dw (σ:=Value×aw) [13,12,8,7,11,10,9,6,5,4,3,2,1,0] 8 (λ⟨v824,gq⟩ f w=>b6 w0 gq w/\f 10=vp b703 0/\f 11=vp b708 0/\f 71=vp b703 0/\f 72=vp b708 0/\f 79=v824/\f 83=O2_c10_v/\f 84=vg [vi ju,vi jv,vi (-1),vi nm]/\Sl gq (is 0) w g_v g.2/\Ow gq (is 14) (is 14) w done_v done/\Ow gq (is 7) (is 7) w (bM todo_v 1 (Int.toNat 0) (Int.toNat ((todo.length:Int)-1))) (List.take (Int.toNat ((todo.length:Int)-1)) todo)/\d8 gq 6 (pmA.1.idxOf (gI todo ((todo.length:Int)-1))) w pmA.1 pmA.2/\Bx gq (is 9) w (gI todo ((todo.length:Int)-1)).n [vi KB,v71]/\Ow gq (is 10) (is 10) w v71 PB/\Bx gq (is 11) w b81 [Value.pointer (some ⟨(gI todo ((todo.length:Int)-1)).n,0,none⟩)]/\Ow gq (is 91) (is 91) w v610 (cC PB)/\dr gq 96 w v665 ((ba (bc PB) ((gI ((aD (bc PB)).1) 0).1) ((gI ((aD (bc PB)).1) 0).2)).1)/\Bx gq (is 97) w b671 [v665]/\Bx gq (is 98) w b692 [vi ↑kx]/\Bx gq (is 110) w b703 [vi 0,O1_c10_v]/\Bx gq (is 111) w b708 [vi 0,O2_c10_v]/\Ow gq (is 116) (is 116) w O2_c10_v O2_c10/\Bx gq (is 8) w b52 [vi (nm+1),done_v,(bM todo_v 1 (Int.toNat 0) (Int.toNat ((todo.length:Int)-1)))]/\Ow gq (is 114) (is 114) w v824 (O1_c10++([(ju,jv,-1,nm)]:List Bd))) ?_ ?_
     ·
      clear Rg o_done r67 pm76 bx72 o73 bx83 o611 o666 bx676 bx697 bx705 bx710 o_O1_c10 o_O2_c10 bx775 bx778 bH
      rintro⟨v824,g831⟩ f829 w830 ⟨bH,zs10_c10,zs11_c10,zs71_c10,zs72_c10,zs79_c10,zs83_c10,zs84_c10,Rg,o_done,r67,pm76,bx72,o73,bx83,o611,o666,bx676,bx697,bx705,bx710,o_O2_c10,bx778,o826⟩
      refine b9 14 rfl (by kernel_rfl) rfl (jF (γ:=g831) 119 ju jv (-1) nm cJ aF (hp:=zs84_c10) ?_)
      intro g832 w833 v834 ch835 o836
      exact bK (by kernel_rfl) (nd799 (v824,v834,g832) _ _ ⟨bH.cn ch835,zs10_c10,zs11_c10,zs71_c10,zs72_c10,zs79_c10,zs83_c10,rfl,Rg.cn ch835,o_done.cn ch835,r67.cn ch835,pm76.cn ch835,bx72.cn ch835,o73.cn ch835,bx83.cn ch835,o611.cn ch835,o666.cn ch835,bx676.cn ch835,bx697.cn ch835,bx705.cn ch835,bx710.cn ch835,o_O2_c10.cn ch835,bx778.cn ch835,o826.cn ch835,o836⟩)
     intro nd828
     refine dw (σ:=Value×Value×aw) [14,13,8,7,11,10,9,6,5,4,3,2,1,0] 8 (λ⟨v846,v851,gq⟩ f w=>b6 w0 gq w/\f 10=vp b703 0/\f 11=vp b708 0/\f 71=vp b703 0/\f 72=vp b708 0/\f 79=v846/\f 82=vp b708 1/\f 85=v851/\Sl gq (is 0) w g_v g.2/\Ow gq (is 14) (is 14) w done_v done/\Ow gq (is 7) (is 7) w (bM todo_v 1 (Int.toNat 0) (Int.toNat ((todo.length:Int)-1))) (List.take (Int.toNat ((todo.length:Int)-1)) todo)/\d8 gq 6 (pmA.1.idxOf (gI todo ((todo.length:Int)-1))) w pmA.1 pmA.2/\Bx gq (is 9) w (gI todo ((todo.length:Int)-1)).n [vi KB,v71]/\Ow gq (is 10) (is 10) w v71 PB/\Bx gq (is 11) w b81 [Value.pointer (some ⟨(gI todo ((todo.length:Int)-1)).n,0,none⟩)]/\Ow gq (is 91) (is 91) w v610 (cC PB)/\dr gq 96 w v665 ((ba (bc PB) ((gI ((aD (bc PB)).1) 0).1) ((gI ((aD (bc PB)).1) 0).2)).1)/\Bx gq (is 97) w b671 [v665]/\Bx gq (is 98) w b692 [vi ↑kx]/\Bx gq (is 110) w b703 [vi 0,O1_c10_v]/\Bx gq (is 111) w b708 [vi 0,O2_c10_v]/\Ow gq (is 116) (is 116) w O2_c10_v O2_c10/\Bx gq (is 8) w b52 [vi (nm+1),done_v,(bM todo_v 1 (Int.toNat 0) (Int.toNat ((todo.length:Int)-1)))]/\Ow gq (is 114) (is 114) w v846 (O1_c10++([(ju,jv,-1,nm)]:List Bd))/\Ow gq (is 119) (is 119) w v851 ([(ju,jv,-1,nm)]:List Bd)) ?_ ?_
     ·
      clear Rg o_done r67 pm76 bx72 o73 bx83 o611 o666 bx676 bx697 bx705 bx710 o_O1_c10 o_O2_c10 bx775 bx778 bH
      rintro⟨v846,v851,g857⟩ f855 w856 ⟨bH,zs10_c10,zs11_c10,zs71_c10,zs72_c10,zs79_c10,zs82_c10,zs85_c10,Rg,o_done,r67,pm76,bx72,o73,bx83,o611,o666,bx676,bx697,bx705,bx710,o_O2_c10,bx778,o848,o853⟩
      refine b9 12 rfl (by kernel_rfl) rfl (aj (v:=O2_c10_v) (a8 bB zs82_c10 bx710 rfl) ?_)
      exact bK (by kernel_rfl) (nd799 (v846,v851,g857) _ _ ⟨bH,zs10_c10,zs11_c10,zs71_c10,zs72_c10,zs79_c10,rfl,zs85_c10,Rg,o_done,r67,pm76,bx72,o73,bx83,o611,o666,bx676,bx697,bx705,bx710,o_O2_c10,bx778,o848,o853⟩)
     intro nd854
     refine dw (σ:=Value×Value×aw) [14,13,12,7,11,10,9,6,5,4,3,2,1,0] 8 (λ⟨v861,v867,gq⟩ f w=>b6 w0 gq w/\f 10=vp b703 0/\f 11=vp b708 0/\f 71=vp b703 0/\f 72=vp b708 0/\f 76=O1_c10_v/\f 78=v861/\f 83=O2_c10_v/\f 85=v867/\Sl gq (is 0) w g_v g.2/\Ow gq (is 14) (is 14) w done_v done/\Ow gq (is 7) (is 7) w (bM todo_v 1 (Int.toNat 0) (Int.toNat ((todo.length:Int)-1))) (List.take (Int.toNat ((todo.length:Int)-1)) todo)/\d8 gq 6 (pmA.1.idxOf (gI todo ((todo.length:Int)-1))) w pmA.1 pmA.2/\Bx gq (is 9) w (gI todo ((todo.length:Int)-1)).n [vi KB,v71]/\Ow gq (is 10) (is 10) w v71 PB/\Bx gq (is 11) w b81 [Value.pointer (some ⟨(gI todo ((todo.length:Int)-1)).n,0,none⟩)]/\Ow gq (is 91) (is 91) w v610 (cC PB)/\dr gq 96 w v665 ((ba (bc PB) ((gI ((aD (bc PB)).1) 0).1) ((gI ((aD (bc PB)).1) 0).2)).1)/\Bx gq (is 97) w b671 [v665]/\Bx gq (is 98) w b692 [vi ↑kx]/\Bx gq (is 110) w b703 [vi 0,O1_c10_v]/\Bx gq (is 111) w b708 [vi 0,O2_c10_v]/\Ow gq (is 114) (is 114) w O1_c10_v O1_c10/\Ow gq (is 116) (is 116) w O2_c10_v O2_c10/\Bx gq (is 8) w b52 [vi (nm+1),done_v,(bM todo_v 1 (Int.toNat 0) (Int.toNat ((todo.length:Int)-1)))]/\Ow gq (is 118) (is 118) w v861 ([(ju,jv,-1,nm)]:List Bd)/\Ow gq (is 119) (is 119) w v867 ([(ju,jv,-1,nm)]:List Bd)) ?_ ?_
     ·
      clear Rg o_done r67 pm76 bx72 o73 bx83 o611 o666 bx676 bx697 bx705 bx710 o_O1_c10 o_O2_c10 bx775 bx778 bH
      rintro⟨v861,v867,g873⟩ f871 w872 ⟨bH,zs10_c10,zs11_c10,zs71_c10,zs72_c10,zs76_c10,zs78_c10,zs83_c10,zs85_c10,Rg,o_done,r67,pm76,bx72,o73,bx83,o611,o666,bx676,bx697,bx705,bx710,o_O1_c10,o_O2_c10,bx778,o863,o869⟩
      refine b9 8 rfl (by kernel_rfl) rfl (aK (α:=Bd) (xs:=O1_c10) (ys:=([(ju,jv,-1,nm)]:List Bd)) g873 (J:=is 114) (S:=is 114) (114,0) rfl cJ aF (by decide) rfl zs76_c10 zs78_c10 o_O1_c10 o863.flat (by decide) (by(simp;omega)) ?_)
      intro g874 w875 v876 ch877 o878
      clear o_O1_c10
      exact bK (by kernel_rfl) (nd799 (v876,v867,g874) _ _ ⟨bH.ce ch877,zs10_c10,zs11_c10,zs71_c10,zs72_c10,rfl,zs83_c10,zs85_c10,Rg.ce ch877,o_done.ce ch877,r67.ce ch877,pm76.ce ch877,bx72.ce ch877,o73.ce ch877,bx83.ce ch877,o611.ce ch877,o666.ce ch877,bx676.ce ch877,bx697.ce ch877,bx705.ce ch877,bx710.ce ch877,o_O2_c10.ce ch877,bx778.ce ch877,o878,o869.ce ch877⟩)
     intro nd870
     refine dw (σ:=Value×aw) [12,8,7,11,10,9,6,5,4,3,2,1,0] 9 (λ⟨v888,gq⟩ f w=>b6 w0 gq w/\f 10=vp b703 0/\f 11=vp b708 0/\f 14=vp b770 0/\f 71=vp b703 0/\f 72=vp b708 0/\f 79=v888/\f 83=O2_c10_v/\Sl gq (is 0) w g_v g.2/\Ow gq (is 14) (is 14) w done_v done/\Ow gq (is 7) (is 7) w (bM todo_v 1 (Int.toNat 0) (Int.toNat ((todo.length:Int)-1))) (List.take (Int.toNat ((todo.length:Int)-1)) todo)/\d8 gq 6 (pmA.1.idxOf (gI todo ((todo.length:Int)-1))) w pmA.1 pmA.2/\Bx gq (is 9) w (gI todo ((todo.length:Int)-1)).n [vi KB,v71]/\Ow gq (is 10) (is 10) w v71 PB/\Bx gq (is 11) w b81 [Value.pointer (some ⟨(gI todo ((todo.length:Int)-1)).n,0,none⟩)]/\Ow gq (is 91) (is 91) w v610 (cC PB)/\dr gq 96 w v665 ((ba (bc PB) ((gI ((aD (bc PB)).1) 0).1) ((gI ((aD (bc PB)).1) 0).2)).1)/\Bx gq (is 97) w b671 [v665]/\Bx gq (is 98) w b692 [vi ↑kx]/\Bx gq (is 110) w b703 [vi 0,O1_c10_v]/\Bx gq (is 111) w b708 [vi 0,O2_c10_v]/\Ow gq (is 116) (is 116) w O2_c10_v O2_c10/\Bx gq (is 117) w b770 [vi ju,vi jv,vi (-1),vi nm]/\Bx gq (is 8) w b52 [vi (nm+1),done_v,(bM todo_v 1 (Int.toNat 0) (Int.toNat ((todo.length:Int)-1)))]/\Ow gq (is 114) (is 114) w v888 (O1_c10++([(ju,jv,-1,nm)]:List Bd))) ?_ ?_
     ·
      clear Rg o_done r67 pm76 bx72 o73 bx83 o611 o666 bx676 bx697 bx705 bx710 o_O1_c10 o_O2_c10 bx775 bx778 bH
      rintro⟨v888,g895⟩ f893 w894 ⟨bH,zs10_c10,zs11_c10,zs14_c10,zs71_c10,zs72_c10,zs79_c10,zs83_c10,Rg,o_done,r67,pm76,bx72,o73,bx83,o611,o666,bx676,bx697,bx705,bx710,o_O2_c10,bx775,bx778,o890⟩
      refine b9 13 rfl (by kernel_rfl) rfl (aj (v:=vg [vi ju,vi jv,vi (-1),vi nm]) (ay (ds:=[vi ju,vi jv,vi (-1),vi nm]) aF zs14_c10 bx775 rfl rfl) ?_)
      exact bK (by kernel_rfl) (nd828 (v888,g895) _ _ ⟨bH,zs10_c10,zs11_c10,zs71_c10,zs72_c10,zs79_c10,zs83_c10,rfl,Rg,o_done,r67,pm76,bx72,o73,bx83,o611,o666,bx676,bx697,bx705,bx710,o_O2_c10,bx778,o890⟩)
     intro nd892
     refine dw (σ:=Value×aw) [13,8,7,11,10,9,6,5,4,3,2,1,0] 9 (λ⟨v905,gq⟩ f w=>b6 w0 gq w/\f 10=vp b703 0/\f 11=vp b708 0/\f 71=vp b703 0/\f 72=vp b708 0/\f 79=v905/\f 82=vp b708 1/\f 84=vg [vi ju,vi jv,vi (-1),vi nm]/\Sl gq (is 0) w g_v g.2/\Ow gq (is 14) (is 14) w done_v done/\Ow gq (is 7) (is 7) w (bM todo_v 1 (Int.toNat 0) (Int.toNat ((todo.length:Int)-1))) (List.take (Int.toNat ((todo.length:Int)-1)) todo)/\d8 gq 6 (pmA.1.idxOf (gI todo ((todo.length:Int)-1))) w pmA.1 pmA.2/\Bx gq (is 9) w (gI todo ((todo.length:Int)-1)).n [vi KB,v71]/\Ow gq (is 10) (is 10) w v71 PB/\Bx gq (is 11) w b81 [Value.pointer (some ⟨(gI todo ((todo.length:Int)-1)).n,0,none⟩)]/\Ow gq (is 91) (is 91) w v610 (cC PB)/\dr gq 96 w v665 ((ba (bc PB) ((gI ((aD (bc PB)).1) 0).1) ((gI ((aD (bc PB)).1) 0).2)).1)/\Bx gq (is 97) w b671 [v665]/\Bx gq (is 98) w b692 [vi ↑kx]/\Bx gq (is 110) w b703 [vi 0,O1_c10_v]/\Bx gq (is 111) w b708 [vi 0,O2_c10_v]/\Ow gq (is 116) (is 116) w O2_c10_v O2_c10/\Bx gq (is 8) w b52 [vi (nm+1),done_v,(bM todo_v 1 (Int.toNat 0) (Int.toNat ((todo.length:Int)-1)))]/\Ow gq (is 114) (is 114) w v905 (O1_c10++([(ju,jv,-1,nm)]:List Bd))) ?_ ?_
     ·
      clear Rg o_done r67 pm76 bx72 o73 bx83 o611 o666 bx676 bx697 bx705 bx710 o_O1_c10 o_O2_c10 bx775 bx778 bH
      rintro⟨v905,g911⟩ f909 w910 ⟨bH,zs10_c10,zs11_c10,zs71_c10,zs72_c10,zs79_c10,zs82_c10,zs84_c10,Rg,o_done,r67,pm76,bx72,o73,bx83,o611,o666,bx676,bx697,bx705,bx710,o_O2_c10,bx778,o907⟩
      refine dD 12 14 rfl rfl (by kernel_rfl) rfl rfl ?_ ?_
      ·
       refine aj (v:=O2_c10_v) (a8 bB zs82_c10 bx710 rfl) ?_
       exact bK (by kernel_rfl) (nd828 (v905,g911) _ _ ⟨bH,zs10_c10,zs11_c10,zs71_c10,zs72_c10,zs79_c10,rfl,zs84_c10,Rg,o_done,r67,pm76,bx72,o73,bx83,o611,o666,bx676,bx697,bx705,bx710,o_O2_c10,bx778,o907⟩)
      ·
       refine jF (γ:=g911) 119 ju jv (-1) nm cJ aF (hp:=zs84_c10) ?_
       intro g912 w913 v914 ch915 o916
       exact bK (by kernel_rfl) (nd854 (v905,v914,g912) _ _ ⟨bH.cn ch915,zs10_c10,zs11_c10,zs71_c10,zs72_c10,zs79_c10,zs82_c10,rfl,Rg.cn ch915,o_done.cn ch915,r67.cn ch915,pm76.cn ch915,bx72.cn ch915,o73.cn ch915,bx83.cn ch915,o611.cn ch915,o666.cn ch915,bx676.cn ch915,bx697.cn ch915,bx705.cn ch915,bx710.cn ch915,o_O2_c10.cn ch915,bx778.cn ch915,o907.cn ch915,o916⟩)
     intro nd908
     refine dw (σ:=Value×aw) [13,12,7,11,10,9,6,5,4,3,2,1,0] 9 (λ⟨v920,gq⟩ f w=>b6 w0 gq w/\f 10=vp b703 0/\f 11=vp b708 0/\f 71=vp b703 0/\f 72=vp b708 0/\f 76=O1_c10_v/\f 78=v920/\f 83=O2_c10_v/\f 84=vg [vi ju,vi jv,vi (-1),vi nm]/\Sl gq (is 0) w g_v g.2/\Ow gq (is 14) (is 14) w done_v done/\Ow gq (is 7) (is 7) w (bM todo_v 1 (Int.toNat 0) (Int.toNat ((todo.length:Int)-1))) (List.take (Int.toNat ((todo.length:Int)-1)) todo)/\d8 gq 6 (pmA.1.idxOf (gI todo ((todo.length:Int)-1))) w pmA.1 pmA.2/\Bx gq (is 9) w (gI todo ((todo.length:Int)-1)).n [vi KB,v71]/\Ow gq (is 10) (is 10) w v71 PB/\Bx gq (is 11) w b81 [Value.pointer (some ⟨(gI todo ((todo.length:Int)-1)).n,0,none⟩)]/\Ow gq (is 91) (is 91) w v610 (cC PB)/\dr gq 96 w v665 ((ba (bc PB) ((gI ((aD (bc PB)).1) 0).1) ((gI ((aD (bc PB)).1) 0).2)).1)/\Bx gq (is 97) w b671 [v665]/\Bx gq (is 98) w b692 [vi ↑kx]/\Bx gq (is 110) w b703 [vi 0,O1_c10_v]/\Bx gq (is 111) w b708 [vi 0,O2_c10_v]/\Ow gq (is 114) (is 114) w O1_c10_v O1_c10/\Ow gq (is 116) (is 116) w O2_c10_v O2_c10/\Bx gq (is 8) w b52 [vi (nm+1),done_v,(bM todo_v 1 (Int.toNat 0) (Int.toNat ((todo.length:Int)-1)))]/\Ow gq (is 118) (is 118) w v920 ([(ju,jv,-1,nm)]:List Bd)) ?_ ?_
     ·
      clear Rg o_done r67 pm76 bx72 o73 bx83 o611 o666 bx676 bx697 bx705 bx710 o_O1_c10 o_O2_c10 bx775 bx778 bH
      rintro⟨v920,g927⟩ f925 w926 ⟨bH,zs10_c10,zs11_c10,zs71_c10,zs72_c10,zs76_c10,zs78_c10,zs83_c10,zs84_c10,Rg,o_done,r67,pm76,bx72,o73,bx83,o611,o666,bx676,bx697,bx705,bx710,o_O1_c10,o_O2_c10,bx778,o922⟩
      refine dD 8 14 rfl rfl (by kernel_rfl) rfl rfl ?_ ?_
      ·
       refine aK (α:=Bd) (xs:=O1_c10) (ys:=([(ju,jv,-1,nm)]:List Bd)) g927 (J:=is 114) (S:=is 114) (114,0) rfl cJ aF (by decide) rfl zs76_c10 zs78_c10 o_O1_c10 o922.flat (by decide) (by(simp;omega)) ?_
       intro g928 w929 v930 ch931 o932
       clear o_O1_c10
       exact bK (by kernel_rfl) (nd828 (v930,g928) _ _ ⟨bH.ce ch931,zs10_c10,zs11_c10,zs71_c10,zs72_c10,rfl,zs83_c10,zs84_c10,Rg.ce ch931,o_done.ce ch931,r67.ce ch931,pm76.ce ch931,bx72.ce ch931,o73.ce ch931,bx83.ce ch931,o611.ce ch931,o666.ce ch931,bx676.ce ch931,bx697.ce ch931,bx705.ce ch931,bx710.ce ch931,o_O2_c10.ce ch931,bx778.ce ch931,o932⟩)
      ·
       refine jF (γ:=g927) 119 ju jv (-1) nm cJ aF (hp:=zs84_c10) ?_
       intro g933 w934 v935 ch936 o937
       exact bK (by kernel_rfl) (nd870 (v920,v935,g933) _ _ ⟨bH.cn ch936,zs10_c10,zs11_c10,zs71_c10,zs72_c10,zs76_c10,zs78_c10,zs83_c10,rfl,Rg.cn ch936,o_done.cn ch936,r67.cn ch936,pm76.cn ch936,bx72.cn ch936,o73.cn ch936,bx83.cn ch936,o611.cn ch936,o666.cn ch936,bx676.cn ch936,bx697.cn ch936,bx705.cn ch936,bx710.cn ch936,o_O1_c10.cn ch936,o_O2_c10.cn ch936,bx778.cn ch936,o922.cn ch936,o937⟩)
     intro nd924
     refine dw (σ:=Value×Value×aw) [14,13,7,11,10,9,6,5,4,3,2,1,0] 9 (λ⟨v941,v946,gq⟩ f w=>b6 w0 gq w/\f 10=vp b703 0/\f 11=vp b708 0/\f 71=vp b703 0/\f 72=vp b708 0/\f 76=O1_c10_v/\f 78=v941/\f 82=vp b708 1/\f 85=v946/\Sl gq (is 0) w g_v g.2/\Ow gq (is 14) (is 14) w done_v done/\Ow gq (is 7) (is 7) w (bM todo_v 1 (Int.toNat 0) (Int.toNat ((todo.length:Int)-1))) (List.take (Int.toNat ((todo.length:Int)-1)) todo)/\d8 gq 6 (pmA.1.idxOf (gI todo ((todo.length:Int)-1))) w pmA.1 pmA.2/\Bx gq (is 9) w (gI todo ((todo.length:Int)-1)).n [vi KB,v71]/\Ow gq (is 10) (is 10) w v71 PB/\Bx gq (is 11) w b81 [Value.pointer (some ⟨(gI todo ((todo.length:Int)-1)).n,0,none⟩)]/\Ow gq (is 91) (is 91) w v610 (cC PB)/\dr gq 96 w v665 ((ba (bc PB) ((gI ((aD (bc PB)).1) 0).1) ((gI ((aD (bc PB)).1) 0).2)).1)/\Bx gq (is 97) w b671 [v665]/\Bx gq (is 98) w b692 [vi ↑kx]/\Bx gq (is 110) w b703 [vi 0,O1_c10_v]/\Bx gq (is 111) w b708 [vi 0,O2_c10_v]/\Ow gq (is 114) (is 114) w O1_c10_v O1_c10/\Ow gq (is 116) (is 116) w O2_c10_v O2_c10/\Bx gq (is 8) w b52 [vi (nm+1),done_v,(bM todo_v 1 (Int.toNat 0) (Int.toNat ((todo.length:Int)-1)))]/\Ow gq (is 118) (is 118) w v941 ([(ju,jv,-1,nm)]:List Bd)/\Ow gq (is 119) (is 119) w v946 ([(ju,jv,-1,nm)]:List Bd)) ?_ ?_
     ·
      clear Rg o_done r67 pm76 bx72 o73 bx83 o611 o666 bx676 bx697 bx705 bx710 o_O1_c10 o_O2_c10 bx775 bx778 bH
      rintro⟨v941,v946,g952⟩ f950 w951 ⟨bH,zs10_c10,zs11_c10,zs71_c10,zs72_c10,zs76_c10,zs78_c10,zs82_c10,zs85_c10,Rg,o_done,r67,pm76,bx72,o73,bx83,o611,o666,bx676,bx697,bx705,bx710,o_O1_c10,o_O2_c10,bx778,o943,o948⟩
      refine dD 8 12 rfl rfl (by kernel_rfl) rfl rfl ?_ ?_
      ·
       refine aK (α:=Bd) (xs:=O1_c10) (ys:=([(ju,jv,-1,nm)]:List Bd)) g952 (J:=is 114) (S:=is 114) (114,0) rfl cJ aF (by decide) rfl zs76_c10 zs78_c10 o_O1_c10 o943.flat (by decide) (by(simp;omega)) ?_
       intro g953 w954 v955 ch956 o957
       clear o_O1_c10
       exact bK (by kernel_rfl) (nd854 (v955,v946,g953) _ _ ⟨bH.ce ch956,zs10_c10,zs11_c10,zs71_c10,zs72_c10,rfl,zs82_c10,zs85_c10,Rg.ce ch956,o_done.ce ch956,r67.ce ch956,pm76.ce ch956,bx72.ce ch956,o73.ce ch956,bx83.ce ch956,o611.ce ch956,o666.ce ch956,bx676.ce ch956,bx697.ce ch956,bx705.ce ch956,bx710.ce ch956,o_O2_c10.ce ch956,bx778.ce ch956,o957,o948.ce ch956⟩)
      ·
       refine aj (v:=O2_c10_v) (a8 bB zs82_c10 bx710 rfl) ?_
       exact bK (by kernel_rfl) (nd870 (v941,v946,g952) _ _ ⟨bH,zs10_c10,zs11_c10,zs71_c10,zs72_c10,zs76_c10,zs78_c10,rfl,zs85_c10,Rg,o_done,r67,pm76,bx72,o73,bx83,o611,o666,bx676,bx697,bx705,bx710,o_O1_c10,o_O2_c10,bx778,o943,o948⟩)
     intro nd949
     refine dw (σ:=Value×aw) [14,13,12,11,10,9,6,5,4,3,2,1,0] 9 (λ⟨v961,gq⟩ f w=>b6 w0 gq w/\f 10=vp b703 0/\f 11=vp b708 0/\f 71=vp b703 0/\f 72=vp b708 0/\f 76=O1_c10_v/\f 77=vg [vi ju,vi jv,vi (-1),vi nm]/\f 83=O2_c10_v/\f 85=v961/\Sl gq (is 0) w g_v g.2/\Ow gq (is 14) (is 14) w done_v done/\Ow gq (is 7) (is 7) w (bM todo_v 1 (Int.toNat 0) (Int.toNat ((todo.length:Int)-1))) (List.take (Int.toNat ((todo.length:Int)-1)) todo)/\d8 gq 6 (pmA.1.idxOf (gI todo ((todo.length:Int)-1))) w pmA.1 pmA.2/\Bx gq (is 9) w (gI todo ((todo.length:Int)-1)).n [vi KB,v71]/\Ow gq (is 10) (is 10) w v71 PB/\Bx gq (is 11) w b81 [Value.pointer (some ⟨(gI todo ((todo.length:Int)-1)).n,0,none⟩)]/\Ow gq (is 91) (is 91) w v610 (cC PB)/\dr gq 96 w v665 ((ba (bc PB) ((gI ((aD (bc PB)).1) 0).1) ((gI ((aD (bc PB)).1) 0).2)).1)/\Bx gq (is 97) w b671 [v665]/\Bx gq (is 98) w b692 [vi ↑kx]/\Bx gq (is 110) w b703 [vi 0,O1_c10_v]/\Bx gq (is 111) w b708 [vi 0,O2_c10_v]/\Ow gq (is 114) (is 114) w O1_c10_v O1_c10/\Ow gq (is 116) (is 116) w O2_c10_v O2_c10/\Bx gq (is 8) w b52 [vi (nm+1),done_v,(bM todo_v 1 (Int.toNat 0) (Int.toNat ((todo.length:Int)-1)))]/\Ow gq (is 119) (is 119) w v961 ([(ju,jv,-1,nm)]:List Bd)) ?_ ?_
     ·
      clear Rg o_done r67 pm76 bx72 o73 bx83 o611 o666 bx676 bx697 bx705 bx710 o_O1_c10 o_O2_c10 bx775 bx778 bH
      rintro⟨v961,g967⟩ f965 w966 ⟨bH,zs10_c10,zs11_c10,zs71_c10,zs72_c10,zs76_c10,zs77_c10,zs83_c10,zs85_c10,Rg,o_done,r67,pm76,bx72,o73,bx83,o611,o666,bx676,bx697,bx705,bx710,o_O1_c10,o_O2_c10,bx778,o963⟩
      refine b9 7 rfl (by kernel_rfl) rfl (jF (γ:=g967) 118 ju jv (-1) nm cJ aF (hp:=zs77_c10) ?_)
      intro g968 w969 v970 ch971 o972
      exact bK (by kernel_rfl) (nd870 (v970,v961,g968) _ _ ⟨bH.cn ch971,zs10_c10,zs11_c10,zs71_c10,zs72_c10,zs76_c10,rfl,zs83_c10,zs85_c10,Rg.cn ch971,o_done.cn ch971,r67.cn ch971,pm76.cn ch971,bx72.cn ch971,o73.cn ch971,bx83.cn ch971,o611.cn ch971,o666.cn ch971,bx676.cn ch971,bx697.cn ch971,bx705.cn ch971,bx710.cn ch971,o_O1_c10.cn ch971,o_O2_c10.cn ch971,bx778.cn ch971,o972,o963.cn ch971⟩)
     intro nd964
     refine dw (σ:=Value×aw) [12,7,11,10,9,6,5,4,3,2,1,0] 10 (λ⟨v976,gq⟩ f w=>b6 w0 gq w/\f 10=vp b703 0/\f 11=vp b708 0/\f 14=vp b770 0/\f 71=vp b703 0/\f 72=vp b708 0/\f 76=O1_c10_v/\f 78=v976/\f 83=O2_c10_v/\Sl gq (is 0) w g_v g.2/\Ow gq (is 14) (is 14) w done_v done/\Ow gq (is 7) (is 7) w (bM todo_v 1 (Int.toNat 0) (Int.toNat ((todo.length:Int)-1))) (List.take (Int.toNat ((todo.length:Int)-1)) todo)/\d8 gq 6 (pmA.1.idxOf (gI todo ((todo.length:Int)-1))) w pmA.1 pmA.2/\Bx gq (is 9) w (gI todo ((todo.length:Int)-1)).n [vi KB,v71]/\Ow gq (is 10) (is 10) w v71 PB/\Bx gq (is 11) w b81 [Value.pointer (some ⟨(gI todo ((todo.length:Int)-1)).n,0,none⟩)]/\Ow gq (is 91) (is 91) w v610 (cC PB)/\dr gq 96 w v665 ((ba (bc PB) ((gI ((aD (bc PB)).1) 0).1) ((gI ((aD (bc PB)).1) 0).2)).1)/\Bx gq (is 97) w b671 [v665]/\Bx gq (is 98) w b692 [vi ↑kx]/\Bx gq (is 110) w b703 [vi 0,O1_c10_v]/\Bx gq (is 111) w b708 [vi 0,O2_c10_v]/\Ow gq (is 114) (is 114) w O1_c10_v O1_c10/\Ow gq (is 116) (is 116) w O2_c10_v O2_c10/\Bx gq (is 117) w b770 [vi ju,vi jv,vi (-1),vi nm]/\Bx gq (is 8) w b52 [vi (nm+1),done_v,(bM todo_v 1 (Int.toNat 0) (Int.toNat ((todo.length:Int)-1)))]/\Ow gq (is 118) (is 118) w v976 ([(ju,jv,-1,nm)]:List Bd)) ?_ ?_
     ·
      clear Rg o_done r67 pm76 bx72 o73 bx83 o611 o666 bx676 bx697 bx705 bx710 o_O1_c10 o_O2_c10 bx775 bx778 bH
      rintro⟨v976,g983⟩ f981 w982 ⟨bH,zs10_c10,zs11_c10,zs14_c10,zs71_c10,zs72_c10,zs76_c10,zs78_c10,zs83_c10,Rg,o_done,r67,pm76,bx72,o73,bx83,o611,o666,bx676,bx697,bx705,bx710,o_O1_c10,o_O2_c10,bx775,bx778,o978⟩
      refine dD 8 13 rfl rfl (by kernel_rfl) rfl rfl ?_ ?_
      ·
       refine aK (α:=Bd) (xs:=O1_c10) (ys:=([(ju,jv,-1,nm)]:List Bd)) g983 (J:=is 114) (S:=is 114) (114,0) rfl cJ aF (by decide) rfl zs76_c10 zs78_c10 o_O1_c10 o978.flat (by decide) (by(simp;omega)) ?_
       intro g984 w985 v986 ch987 o988
       clear o_O1_c10
       exact bK (by kernel_rfl) (nd892 (v986,g984) _ _ ⟨bH.ce ch987,zs10_c10,zs11_c10,zs14_c10,zs71_c10,zs72_c10,rfl,zs83_c10,Rg.ce ch987,o_done.ce ch987,r67.ce ch987,pm76.ce ch987,bx72.ce ch987,o73.ce ch987,bx83.ce ch987,o611.ce ch987,o666.ce ch987,bx676.ce ch987,bx697.ce ch987,bx705.ce ch987,bx710.ce ch987,o_O2_c10.ce ch987,bx775.ce ch987,bx778.ce ch987,o988⟩)
      ·
       refine aj (v:=vg [vi ju,vi jv,vi (-1),vi nm]) (ay (ds:=[vi ju,vi jv,vi (-1),vi nm]) aF zs14_c10 bx775 rfl rfl) ?_
       exact bK (by kernel_rfl) (nd924 (v976,g983) _ _ ⟨bH,zs10_c10,zs11_c10,zs71_c10,zs72_c10,zs76_c10,zs78_c10,zs83_c10,rfl,Rg,o_done,r67,pm76,bx72,o73,bx83,o611,o666,bx676,bx697,bx705,bx710,o_O1_c10,o_O2_c10,bx778,o978⟩)
     intro nd980
     refine dw (σ:=Value×aw) [13,7,11,10,9,6,5,4,3,2,1,0] 10 (λ⟨v992,gq⟩ f w=>b6 w0 gq w/\f 10=vp b703 0/\f 11=vp b708 0/\f 71=vp b703 0/\f 72=vp b708 0/\f 76=O1_c10_v/\f 78=v992/\f 82=vp b708 1/\f 84=vg [vi ju,vi jv,vi (-1),vi nm]/\Sl gq (is 0) w g_v g.2/\Ow gq (is 14) (is 14) w done_v done/\Ow gq (is 7) (is 7) w (bM todo_v 1 (Int.toNat 0) (Int.toNat ((todo.length:Int)-1))) (List.take (Int.toNat ((todo.length:Int)-1)) todo)/\d8 gq 6 (pmA.1.idxOf (gI todo ((todo.length:Int)-1))) w pmA.1 pmA.2/\Bx gq (is 9) w (gI todo ((todo.length:Int)-1)).n [vi KB,v71]/\Ow gq (is 10) (is 10) w v71 PB/\Bx gq (is 11) w b81 [Value.pointer (some ⟨(gI todo ((todo.length:Int)-1)).n,0,none⟩)]/\Ow gq (is 91) (is 91) w v610 (cC PB)/\dr gq 96 w v665 ((ba (bc PB) ((gI ((aD (bc PB)).1) 0).1) ((gI ((aD (bc PB)).1) 0).2)).1)/\Bx gq (is 97) w b671 [v665]/\Bx gq (is 98) w b692 [vi ↑kx]/\Bx gq (is 110) w b703 [vi 0,O1_c10_v]/\Bx gq (is 111) w b708 [vi 0,O2_c10_v]/\Ow gq (is 114) (is 114) w O1_c10_v O1_c10/\Ow gq (is 116) (is 116) w O2_c10_v O2_c10/\Bx gq (is 8) w b52 [vi (nm+1),done_v,(bM todo_v 1 (Int.toNat 0) (Int.toNat ((todo.length:Int)-1)))]/\Ow gq (is 118) (is 118) w v992 ([(ju,jv,-1,nm)]:List Bd)) ?_ ?_
     ·
      clear Rg o_done r67 pm76 bx72 o73 bx83 o611 o666 bx676 bx697 bx705 bx710 o_O1_c10 o_O2_c10 bx775 bx778 bH
      rintro⟨v992,g998⟩ f996 w997 ⟨bH,zs10_c10,zs11_c10,zs71_c10,zs72_c10,zs76_c10,zs78_c10,zs82_c10,zs84_c10,Rg,o_done,r67,pm76,bx72,o73,bx83,o611,o666,bx676,bx697,bx705,bx710,o_O1_c10,o_O2_c10,bx778,o994⟩
      refine iy 8 [12,14] (by kernel_rfl) ⟨fy 8 rfl (by kernel_rfl) rfl ?_,fy 12 rfl (by kernel_rfl) rfl ?_,fy 14 rfl (by kernel_rfl) rfl ?_,trivial⟩
      ·
       refine aK (α:=Bd) (xs:=O1_c10) (ys:=([(ju,jv,-1,nm)]:List Bd)) g998 (J:=is 114) (S:=is 114) (114,0) rfl cJ aF (by decide) rfl zs76_c10 zs78_c10 o_O1_c10 o994.flat (by decide) (by(simp;omega)) ?_
       intro g999 w1000 v1001 ch1002 o1003
       clear o_O1_c10
       exact bK (by kernel_rfl) (nd908 (v1001,g999) _ _ ⟨bH.ce ch1002,zs10_c10,zs11_c10,zs71_c10,zs72_c10,rfl,zs82_c10,zs84_c10,Rg.ce ch1002,o_done.ce ch1002,r67.ce ch1002,pm76.ce ch1002,bx72.ce ch1002,o73.ce ch1002,bx83.ce ch1002,o611.ce ch1002,o666.ce ch1002,bx676.ce ch1002,bx697.ce ch1002,bx705.ce ch1002,bx710.ce ch1002,o_O2_c10.ce ch1002,bx778.ce ch1002,o1003⟩)
      ·
       refine aj (v:=O2_c10_v) (a8 bB zs82_c10 bx710 rfl) ?_
       exact bK (by kernel_rfl) (nd924 (v992,g998) _ _ ⟨bH,zs10_c10,zs11_c10,zs71_c10,zs72_c10,zs76_c10,zs78_c10,rfl,zs84_c10,Rg,o_done,r67,pm76,bx72,o73,bx83,o611,o666,bx676,bx697,bx705,bx710,o_O1_c10,o_O2_c10,bx778,o994⟩)
      ·
       refine jF (γ:=g998) 119 ju jv (-1) nm cJ aF (hp:=zs84_c10) ?_
       intro g1004 w1005 v1006 ch1007 o1008
       exact bK (by kernel_rfl) (nd949 (v992,v1006,g1004) _ _ ⟨bH.cn ch1007,zs10_c10,zs11_c10,zs71_c10,zs72_c10,zs76_c10,zs78_c10,zs82_c10,rfl,Rg.cn ch1007,o_done.cn ch1007,r67.cn ch1007,pm76.cn ch1007,bx72.cn ch1007,o73.cn ch1007,bx83.cn ch1007,o611.cn ch1007,o666.cn ch1007,bx676.cn ch1007,bx697.cn ch1007,bx705.cn ch1007,bx710.cn ch1007,o_O1_c10.cn ch1007,o_O2_c10.cn ch1007,bx778.cn ch1007,o994.cn ch1007,o1008⟩)
     intro nd995
     refine dw (σ:=aw) [13,12,11,10,9,6,5,4,3,2,1,0] 10 (λgq f w=>b6 w0 gq w/\f 10=vp b703 0/\f 11=vp b708 0/\f 71=vp b703 0/\f 72=vp b708 0/\f 76=O1_c10_v/\f 77=vg [vi ju,vi jv,vi (-1),vi nm]/\f 83=O2_c10_v/\f 84=vg [vi ju,vi jv,vi (-1),vi nm]/\Sl gq (is 0) w g_v g.2/\Ow gq (is 14) (is 14) w done_v done/\Ow gq (is 7) (is 7) w (bM todo_v 1 (Int.toNat 0) (Int.toNat ((todo.length:Int)-1))) (List.take (Int.toNat ((todo.length:Int)-1)) todo)/\d8 gq 6 (pmA.1.idxOf (gI todo ((todo.length:Int)-1))) w pmA.1 pmA.2/\Bx gq (is 9) w (gI todo ((todo.length:Int)-1)).n [vi KB,v71]/\Ow gq (is 10) (is 10) w v71 PB/\Bx gq (is 11) w b81 [Value.pointer (some ⟨(gI todo ((todo.length:Int)-1)).n,0,none⟩)]/\Ow gq (is 91) (is 91) w v610 (cC PB)/\dr gq 96 w v665 ((ba (bc PB) ((gI ((aD (bc PB)).1) 0).1) ((gI ((aD (bc PB)).1) 0).2)).1)/\Bx gq (is 97) w b671 [v665]/\Bx gq (is 98) w b692 [vi ↑kx]/\Bx gq (is 110) w b703 [vi 0,O1_c10_v]/\Bx gq (is 111) w b708 [vi 0,O2_c10_v]/\Ow gq (is 114) (is 114) w O1_c10_v O1_c10/\Ow gq (is 116) (is 116) w O2_c10_v O2_c10/\Bx gq (is 8) w b52 [vi (nm+1),done_v,(bM todo_v 1 (Int.toNat 0) (Int.toNat ((todo.length:Int)-1)))]) ?_ ?_
     ·
      clear Rg o_done r67 pm76 bx72 o73 bx83 o611 o666 bx676 bx697 bx705 bx710 o_O1_c10 o_O2_c10 bx775 bx778 bH
      rintro g1013 f1011 w1012 ⟨bH,zs10_c10,zs11_c10,zs71_c10,zs72_c10,zs76_c10,zs77_c10,zs83_c10,zs84_c10,Rg,o_done,r67,pm76,bx72,o73,bx83,o611,o666,bx676,bx697,bx705,bx710,o_O1_c10,o_O2_c10,bx778⟩
      refine dD 7 14 rfl rfl (by kernel_rfl) rfl rfl ?_ ?_
      ·
       refine jF (γ:=g1013) 118 ju jv (-1) nm cJ aF (hp:=zs77_c10) ?_
       intro g1014 w1015 v1016 ch1017 o1018
       exact bK (by kernel_rfl) (nd924 (v1016,g1014) _ _ ⟨bH.cn ch1017,zs10_c10,zs11_c10,zs71_c10,zs72_c10,zs76_c10,rfl,zs83_c10,zs84_c10,Rg.cn ch1017,o_done.cn ch1017,r67.cn ch1017,pm76.cn ch1017,bx72.cn ch1017,o73.cn ch1017,bx83.cn ch1017,o611.cn ch1017,o666.cn ch1017,bx676.cn ch1017,bx697.cn ch1017,bx705.cn ch1017,bx710.cn ch1017,o_O1_c10.cn ch1017,o_O2_c10.cn ch1017,bx778.cn ch1017,o1018⟩)
      ·
       refine jF (γ:=g1013) 119 ju jv (-1) nm cJ aF (hp:=zs84_c10) ?_
       intro g1019 w1020 v1021 ch1022 o1023
       exact bK (by kernel_rfl) (nd964 (v1021,g1019) _ _ ⟨bH.cn ch1022,zs10_c10,zs11_c10,zs71_c10,zs72_c10,zs76_c10,zs77_c10,zs83_c10,rfl,Rg.cn ch1022,o_done.cn ch1022,r67.cn ch1022,pm76.cn ch1022,bx72.cn ch1022,o73.cn ch1022,bx83.cn ch1022,o611.cn ch1022,o666.cn ch1022,bx676.cn ch1022,bx697.cn ch1022,bx705.cn ch1022,bx710.cn ch1022,o_O1_c10.cn ch1022,o_O2_c10.cn ch1022,bx778.cn ch1022,o1023⟩)
     intro nd1010
     refine xp (v:=vp b703 0) 0 rfl (λw=>aq zs10_c10) (xp (v:=vp b708 0) 1 rfl (λw=>aq zs11_c10) (xp (v:=vp b703 0) 2 rfl (λw=>aq zs10_c10) (xp (v:=vp b703 0) 3 rfl (λw=>ae rfl) (xp 4 rfl (λw=>aa dR rfl rfl rfl rfl) ?_))))
     have C1024:=cg [8,117] (ch769.n.seq ((ch774.l rfl).seq ((ch777.l rfl).seq ch779.n)))
     replace bx705:=bx705.ca C1024
     refine xh 5 [4,3,2,1,0,6,9,13,7,10,14,11,12] rfl (λw' hw'=>a8 bB rfl (bx705.bel hw') rfl) ?_
     replace bx775:=(bx775.ce ch777).cn ch779
     refine xh 6 [5,4,3,2,1,0,9,13,10,14,11,12] rfl (λw' hw'=>ay (ds:=[vi ju,vi jv,vi (-1),vi nm]) aF rfl (bx775.bel hw') rfl rfl) (xp (v:=vp b708 0) 9 rfl (λw=>aq zs11_c10) (xp (v:=vp b708 0) 10 rfl (λw=>ae rfl) (xp 11 rfl (λw=>aa dR rfl rfl rfl rfl) ?_)))
     refine iy 7 [12,13] (by kernel_rfl) ⟨fy 7 rfl (by kernel_rfl) rfl ?_,fy 12 rfl (by kernel_rfl) rfl ?_,fy 13 rfl (by kernel_rfl) rfl ?_,trivial⟩
     ·
      refine jF (γ:=g771) 118 ju jv (-1) nm cJ aF ?_
      intro g1025 w1026 v1027 ch1028 o1029
      refine iy 8 [12,13] (by kernel_rfl) ⟨fy 8 rfl (by kernel_rfl) rfl ?_,fy 12 rfl (by kernel_rfl) rfl ?_,fy 13 rfl (by kernel_rfl) rfl ?_,trivial⟩
      ·
       have C1030:=cg [8,117] (ch769.n.seq ((ch774.l rfl).seq ((ch777.l rfl).seq (ch779.n.seq ch1028.n))))
       replace o_O1_c10:=o_O1_c10.ca C1030
       refine i9 o_O1_c10 o1029.flat cJ aF (by(simp;omega)) ?_
       intro g1031 w1032 v1033 ch1034 o1035
       clear o_O1_c10
       refine dD 12 13 rfl rfl (by kernel_rfl) rfl rfl ?_ ?_
       ·
        have C1036:=cg [8,114,117] (ch769.n.seq ((ch774.l rfl).seq ((ch777.l rfl).seq (ch779.n.seq (ch1028.n.seq (ch1034.l rfl))))))
        replace bx710:=bx710.ca C1036
        refine aj (v:=O2_c10_v) (a8 bB rfl bx710 rfl) ?_
        have C1037:=cg [114] (ch779.n.seq (ch1028.n.seq (ch1034.l rfl)))
        exact bK (by kernel_rfl) (nd892 (v1033,g1031) _ _ ⟨bH.ca C1036,zs10_c10,zs11_c10,rfl,rfl,rfl,rfl,rfl,Rg.ca C1036,o_done.ca C1036,r67.ca C1036,pm76.ca C1036,bx72.ca C1036,o73.ca C1036,bx83.ca C1036,o611.ca C1036,o666.ca C1036,bx676.ca C1036,bx697.ca C1036,(bx705.cn ch1028).ce ch1034,bx710,o_O2_c10.ca C1036,(bx775.cn ch1028).ce ch1034,bx778.ca C1037,o1035⟩)
       ·
        replace bx775:=(bx775.cn ch1028).ce ch1034
        refine aj (v:=vg [vi ju,vi jv,vi (-1),vi nm]) (ay (ds:=[vi ju,vi jv,vi (-1),vi nm]) aF rfl bx775 rfl rfl) ?_
        have C1038:=cg [8,114,117] (ch769.n.seq ((ch774.l rfl).seq ((ch777.l rfl).seq (ch779.n.seq (ch1028.n.seq (ch1034.l rfl))))))
        have C1039:=cg [114] (ch779.n.seq (ch1028.n.seq (ch1034.l rfl)))
        exact bK (by kernel_rfl) (nd908 (v1033,g1031) _ _ ⟨bH.ca C1038,zs10_c10,zs11_c10,rfl,rfl,rfl,rfl,rfl,Rg.ca C1038,o_done.ca C1038,r67.ca C1038,pm76.ca C1038,bx72.ca C1038,o73.ca C1038,bx83.ca C1038,o611.ca C1038,o666.ca C1038,bx676.ca C1038,bx697.ca C1038,(bx705.cn ch1028).ce ch1034,bx710.ca C1038,o_O2_c10.ca C1038,bx778.ca C1039,o1035⟩)
      ·
       have C1040:=cg [8,117] (ch769.n.seq ((ch774.l rfl).seq ((ch777.l rfl).seq (ch779.n.seq ch1028.n))))
       replace bx710:=bx710.ca C1040
       refine aj (v:=O2_c10_v) (a8 bB rfl bx710 rfl) ?_
       exact bK (by kernel_rfl) (nd980 (v1027,g1025) _ _ ⟨bH.ca C1040,zs10_c10,zs11_c10,rfl,rfl,rfl,rfl,rfl,rfl,Rg.ca C1040,o_done.ca C1040,r67.ca C1040,pm76.ca C1040,bx72.ca C1040,o73.ca C1040,bx83.ca C1040,o611.ca C1040,o666.ca C1040,bx676.ca C1040,bx697.ca C1040,bx705.cn ch1028,bx710,o_O1_c10.ca C1040,o_O2_c10.ca C1040,bx775.cn ch1028,(bx778.cn ch779).cn ch1028,o1029⟩)
      ·
       replace bx775:=bx775.cn ch1028
       refine aj (v:=vg [vi ju,vi jv,vi (-1),vi nm]) (ay (ds:=[vi ju,vi jv,vi (-1),vi nm]) aF rfl bx775 rfl rfl) ?_
       have C1041:=cg [8,117] (ch769.n.seq ((ch774.l rfl).seq ((ch777.l rfl).seq (ch779.n.seq ch1028.n))))
       exact bK (by kernel_rfl) (nd995 (v1027,g1025) _ _ ⟨bH.ca C1041,zs10_c10,zs11_c10,rfl,rfl,rfl,rfl,rfl,rfl,Rg.ca C1041,o_done.ca C1041,r67.ca C1041,pm76.ca C1041,bx72.ca C1041,o73.ca C1041,bx83.ca C1041,o611.ca C1041,o666.ca C1041,bx676.ca C1041,bx697.ca C1041,bx705.cn ch1028,bx710.ca C1041,o_O1_c10.ca C1041,o_O2_c10.ca C1041,(bx778.cn ch779).cn ch1028,o1029⟩)
     ·
      replace bx710:=bx710.ca C1024
      refine aj (v:=O2_c10_v) (a8 bB rfl bx710 rfl) ?_
      refine dD 7 13 rfl rfl (by kernel_rfl) rfl rfl ?_ ?_
      ·
       refine jF (γ:=g771) 118 ju jv (-1) nm cJ aF ?_
       intro g1042 w1043 v1044 ch1045 o1046
       have C1047:=cg [8,117] (ch769.n.seq ((ch774.l rfl).seq ((ch777.l rfl).seq (ch779.n.seq ch1045.n))))
       exact bK (by kernel_rfl) (nd980 (v1044,g1042) _ _ ⟨bH.ca C1047,zs10_c10,zs11_c10,rfl,rfl,rfl,rfl,rfl,rfl,Rg.ca C1047,o_done.ca C1047,r67.ca C1047,pm76.ca C1047,bx72.ca C1047,o73.ca C1047,bx83.ca C1047,o611.ca C1047,o666.ca C1047,bx676.ca C1047,bx697.ca C1047,bx705.cn ch1045,bx710.cn ch1045,o_O1_c10.ca C1047,o_O2_c10.ca C1047,bx775.cn ch1045,(bx778.cn ch779).cn ch1045,o1046⟩)
      ·
       refine aj (v:=vg [vi ju,vi jv,vi (-1),vi nm]) (ay (ds:=[vi ju,vi jv,vi (-1),vi nm]) aF rfl bx775 rfl rfl) ?_
       exact bK (by kernel_rfl) (nd1010 (g771) _ _ ⟨bH.ca C1024,zs10_c10,zs11_c10,rfl,rfl,rfl,rfl,rfl,rfl,Rg.ca C1024,o_done.ca C1024,r67.ca C1024,pm76.ca C1024,bx72.ca C1024,o73.ca C1024,bx83.ca C1024,o611.ca C1024,o666.ca C1024,bx676.ca C1024,bx697.ca C1024,bx705,bx710,o_O1_c10.ca C1024,o_O2_c10.ca C1024,bx778.cn ch779⟩)
     ·
      refine aj (v:=vg [vi ju,vi jv,vi (-1),vi nm]) (ay (ds:=[vi ju,vi jv,vi (-1),vi nm]) aF rfl bx775 rfl rfl) ?_
      refine iy 7 [12,14] (by kernel_rfl) ⟨fy 7 rfl (by kernel_rfl) rfl ?_,fy 12 rfl (by kernel_rfl) rfl ?_,fy 14 rfl (by kernel_rfl) rfl ?_,trivial⟩
      ·
       refine jF (γ:=g771) 118 ju jv (-1) nm cJ aF ?_
       intro g1048 w1049 v1050 ch1051 o1052
       have C1053:=cg [8,117] (ch769.n.seq ((ch774.l rfl).seq ((ch777.l rfl).seq (ch779.n.seq ch1051.n))))
       exact bK (by kernel_rfl) (nd995 (v1050,g1048) _ _ ⟨bH.ca C1053,zs10_c10,zs11_c10,rfl,rfl,rfl,rfl,rfl,rfl,Rg.ca C1053,o_done.ca C1053,r67.ca C1053,pm76.ca C1053,bx72.ca C1053,o73.ca C1053,bx83.ca C1053,o611.ca C1053,o666.ca C1053,bx676.ca C1053,bx697.ca C1053,bx705.cn ch1051,bx710.ca C1053,o_O1_c10.ca C1053,o_O2_c10.ca C1053,(bx778.cn ch779).cn ch1051,o1052⟩)
      ·
       replace bx710:=bx710.ca C1024
       refine aj (v:=O2_c10_v) (a8 bB rfl bx710 rfl) ?_
       exact bK (by kernel_rfl) (nd1010 (g771) _ _ ⟨bH.ca C1024,zs10_c10,zs11_c10,rfl,rfl,rfl,rfl,rfl,rfl,Rg.ca C1024,o_done.ca C1024,r67.ca C1024,pm76.ca C1024,bx72.ca C1024,o73.ca C1024,bx83.ca C1024,o611.ca C1024,o666.ca C1024,bx676.ca C1024,bx697.ca C1024,bx705,bx710,o_O1_c10.ca C1024,o_O2_c10.ca C1024,bx778.cn ch779⟩)
      ·
       refine jF (γ:=g771) 119 ju jv (-1) nm cJ aF ?_
       intro g1054 w1055 v1056 ch1057 o1058
       refine dD 7 12 rfl rfl (by kernel_rfl) rfl rfl ?_ ?_
       ·
        refine jF (γ:=g1054) 118 ju jv (-1) nm cJ aF ?_
        intro g1059 w1060 v1061 ch1062 o1063
        have C1064:=cg [8,117] (ch769.n.seq ((ch774.l rfl).seq ((ch777.l rfl).seq (ch779.n.seq (ch1057.n.seq ch1062.n)))))
        have C1065:=cg [] (ch779.n.seq (ch1057.n.seq ch1062.n))
        exact bK (by kernel_rfl) (nd949 (v1061,v1056,g1059) _ _ ⟨bH.ca C1064,zs10_c10,zs11_c10,rfl,rfl,rfl,rfl,rfl,rfl,Rg.ca C1064,o_done.ca C1064,r67.ca C1064,pm76.ca C1064,bx72.ca C1064,o73.ca C1064,bx83.ca C1064,o611.ca C1064,o666.ca C1064,bx676.ca C1064,bx697.ca C1064,(bx705.cn ch1057).cn ch1062,bx710.ca C1064,o_O1_c10.ca C1064,o_O2_c10.ca C1064,bx778.ca C1065,o1063,o1058.cn ch1062⟩)
       ·
        have C1066:=cg [8,117] (ch769.n.seq ((ch774.l rfl).seq ((ch777.l rfl).seq (ch779.n.seq ch1057.n))))
        replace bx710:=bx710.ca C1066
        refine aj (v:=O2_c10_v) (a8 bB rfl bx710 rfl) ?_
        exact bK (by kernel_rfl) (nd964 (v1056,g1054) _ _ ⟨bH.ca C1066,zs10_c10,zs11_c10,rfl,rfl,rfl,rfl,rfl,rfl,Rg.ca C1066,o_done.ca C1066,r67.ca C1066,pm76.ca C1066,bx72.ca C1066,o73.ca C1066,bx83.ca C1066,o611.ca C1066,o666.ca C1066,bx676.ca C1066,bx697.ca C1066,bx705.cn ch1057,bx710,o_O1_c10.ca C1066,o_O2_c10.ca C1066,(bx778.cn ch779).cn ch1057,o1058⟩)
    clear Rg o_done r67 pm76 bx72 o73 bx83 o611 o666 bx676 bx697 bx705 bx710 o_O1_c10 o_O2_c10 bx775 bx778 bH
    rintro⟨v788,v800,g1069⟩ f1067 w1068 ⟨bH,zs10_c10,zs11_c10,Rg,o_done,r67,pm76,bx72,o73,bx83,o611,o666,bx676,bx697,bx778,o790,o802,bx805,bx809⟩
    refine a7 (a6 rfl (mz zs10_c10 (mz zs11_c10 (ma (vp b703 0) (ma (vp b708 0) (ab (au (vs:=[vp b703 0,vp b708 0]) Tryz.func61 (.tmp rfl (.tmp rfl .nil)) ?_)))))))
    refine⟨vt [vp b703 0,vp b708 0],rfl,?_⟩
    refine xp (v:=vt [vp b703 0,vp b708 0]) 12 rfl (λw=>aq rfl) (xp 13 rfl (λw=>aJ rfl rfl) (xp 14 rfl (λw=>aJ rfl rfl) (xp (v:=vp b703 0) 15 rfl (λw=>bm rfl) (xp (v:=vp b708 0) 16 rfl (λw=>bm rfl) (bS (by kernel_rfl) ?_)))))
    clear bx83 o611 o666 bx676 bx697
    obtain⟨g1070,ch1071,pm1072⟩:=d8.close pm76 rfl rfl rfl (u:=(gI todo ((todo.length:Int)-1))) (by exact fb hxA) bx72 o73
    clear bx72 o73
    replace bx805:=bx805.chg ch1071 (cd rfl rfl)
    replace o790:=o790.chg ch1071 (cd rfl rfl) (cd rfl rfl)
    obtain⟨g1073,ch1074,pm1075⟩:=eW.add pm1072 rfl rfl rfl bx805 o790
    clear o790 bx805
    replace bx809:=(bx809.chg ch1071 (cd rfl rfl)).chg ch1074 (cd rfl rfl)
    replace o802:=(o802.chg ch1071 (cd rfl rfl) (cd rfl rfl)).chg ch1074 (cd rfl rfl) (cd rfl rfl)
    obtain⟨g1076,ch1077,pm1078⟩:=eW.add pm1075 rfl rfl rfl bx809 o802
    clear o802 bx809
    refine a6 rfl (mv (vp b52 0) (mv (vp b52 0) (lw (vp b52 0) (ae rfl) (lx (aa lg rfl rfl rfl rfl) ?_))))
    have C1079:=cg [9,10,110,111,114,116] ((ch1071.l2 rfl rfl).seq ((ch1074.l2 rfl rfl).seq (ch1077.l2 rfl rfl)))
    replace bx778:=bx778.ca C1079
    refine lx (a8 cS rfl bx778 rfl) (mv (vp b703 0) (mv (vp b708 0) (lo (ar (α:=Pp) g1076 (is 109) (is 109) (109,0) rfl ([(⟨b703⟩:Pp),(⟨b708⟩:Pp)]:List Pp) iZ aW (by decide) (by decide) (vs:=[(0,vp b703 0),(1,vp b708 0)]) rfl rfl (.cons rfl (.cons rfl .nil)) ?_))))
    intro g1080 w1081 v1082 ch1083 o1084
    refine lo ?_
    have C1085:=cg [9,10,110,111,114,116] ((ch1071.l2 rfl rfl).seq ((ch1074.l2 rfl rfl).seq ((ch1077.l2 rfl rfl).seq ch1083.n)))
    replace r67:=r67.ca C1085
    refine aK (α:=Pp) (xs:=(List.take (Int.toNat ((todo.length:Int)-1)) todo)) (ys:=([(⟨b703⟩:Pp),(⟨b708⟩:Pp)]:List Pp)) g1080 (J:=is 7) (S:=is 7) (7,0) rfl iZ aW (by decide) rfl rfl rfl r67 o1084.flat (by decide) (by(simp;omega)) ?_
    intro g1086 w1087 v1088 ch1089 o1090
    clear r67
    refine lw (vp b52 0) (ae rfl) (lx (aa lg rfl rfl rfl rfl) (lo ?_))
    replace bx778:=(bx778.cn ch1083).ce ch1089
    refine aC (cs':=[vi (nm+1),done_v,v1088]) cS rfl rfl bx778 (aP o1090.flat) nq (aG o1090.flat) rfl ?_
    intro w1091 ch1092 bx1093
    clear bx778
    refine ab (dS (vs:=[]) Tryz.func42 .nil ?_)
    refine⟨vt [],rfl,?_⟩
    refine ab (ak ?_)
    have C1094:=cg [7,8,9,10,110,111,114,116] ((ch1071.l2 rfl rfl).seq ((ch1074.l2 rfl rfl).seq ((ch1077.l2 rfl rfl).seq (ch1083.n.seq ((ch1089.l rfl).seq (ch1092.l rfl))))))
    have C1095:=cg [7,8] (ch1083.n.seq ((ch1089.l rfl).seq (ch1092.l rfl)))
    refine back8 (done_v,done,v1088,((List.take (Int.toNat ((todo.length:Int)-1)) todo)++([(⟨b703⟩:Pp),(⟨b708⟩:Pp)]:List Pp)),nm+1,(((pmA.1,List.set pmA.2 (pmA.1.idxOf (gI todo ((todo.length:Int)-1))) (KB,PB)).1++[(⟨b703⟩:Pp)],(pmA.1,List.set pmA.2 (pmA.1.idxOf (gI todo ((todo.length:Int)-1))) (KB,PB)).2++[(0,(O1_c10++([(ju,jv,-1,nm)]:List Bd)))]).1++[(⟨b708⟩:Pp)],((pmA.1,List.set pmA.2 (pmA.1.idxOf (gI todo ((todo.length:Int)-1))) (KB,PB)).1++[(⟨b703⟩:Pp)],(pmA.1,List.set pmA.2 (pmA.1.idxOf (gI todo ((todo.length:Int)-1))) (KB,PB)).2++[(0,(O1_c10++([(ju,jv,-1,nm)]:List Bd)))]).2++[(0,(O2_c10++([(ju,jv,-1,nm)]:List Bd)))]),g1086) _ _ ⟨bH.ca C1094,zs6,Rg.ca C1094,pm1078.ca C1095,bx1093,o_done.ca C1094,o1090.ce ch1092,?_⟩ ?_
    · show fw (dQ g) (((pmA.1,List.set pmA.2 (pmA.1.idxOf (gI todo ((todo.length:Int)-1))) (KB,PB)).1++[(⟨b703⟩:Pp)],(pmA.1,List.set pmA.2 (pmA.1.idxOf (gI todo ((todo.length:Int)-1))) (KB,PB)).2++[(0,(O1_c10++([(ju,jv,-1,nm)]:List Bd)))]).1++[(⟨b708⟩:Pp)],((pmA.1,List.set pmA.2 (pmA.1.idxOf (gI todo ((todo.length:Int)-1))) (KB,PB)).1++[(⟨b703⟩:Pp)],(pmA.1,List.set pmA.2 (pmA.1.idxOf (gI todo ((todo.length:Int)-1))) (KB,PB)).2++[(0,(O1_c10++([(ju,jv,-1,nm)]:List Bd)))]).2++[(0,(O2_c10++([(ju,jv,-1,nm)]:List Bd)))]) ((List.take (Int.toNat ((todo.length:Int)-1)) todo)++([(⟨b703⟩:Pp),(⟨b708⟩:Pp)]:List Pp)) done (nm+1)
      (have hce:=s8 hcc hix ‹_› ‹_›;subst hju;subst hjv;rw[hapd.1,hapd.2,hff,hce];subst hKB;subst hPB;exact hsp.cut htt (λz hz=>by rw[hzz] at hz;rw[<-Option.some.inj hz];exact hcz) (eW.nd ‹_›) (lO hcb))
    · show ly (gF (((pmA.1,List.set pmA.2 (pmA.1.idxOf (gI todo ((todo.length:Int)-1))) (KB,PB)).1++[(⟨b703⟩:Pp)],(pmA.1,List.set pmA.2 (pmA.1.idxOf (gI todo ((todo.length:Int)-1))) (KB,PB)).2++[(0,(O1_c10++([(ju,jv,-1,nm)]:List Bd)))]).1++[(⟨b708⟩:Pp)],((pmA.1,List.set pmA.2 (pmA.1.idxOf (gI todo ((todo.length:Int)-1))) (KB,PB)).1++[(⟨b703⟩:Pp)],(pmA.1,List.set pmA.2 (pmA.1.idxOf (gI todo ((todo.length:Int)-1))) (KB,PB)).2++[(0,(O1_c10++([(ju,jv,-1,nm)]:List Bd)))]).2++[(0,(O2_c10++([(ju,jv,-1,nm)]:List Bd)))]) ((List.take (Int.toNat ((todo.length:Int)-1)) todo)++([(⟨b703⟩:Pp),(⟨b708⟩:Pp)]:List Pp)))<ly (gF pmA todo)
      (have hce:=s8 hcc hix ‹_› ‹_›;subst hju;subst hjv;rw[hapd.1,hapd.2,hff,hce];subst hKB;subst hPB;exact hsp.cutM htt (eW.nd ‹_›) (lO hcb))
   refine ag rfl (df p4_c8) (ao (ak ?_))
   clear cel687 r688
   refine a6 rfl (lx (aS (m:=↑kx) (n:=1) zs8_c8 rfl (by omega)) (mi ((kx:Int)+1) (ab ?_)))
   refine back2_c8 (kx+1,g685) _ _ ⟨bH,zs0_c8,zs1_c8,zs7_c8,rfl,Rg,o_done,r67,bx70,pm76,bx72,o73,bx83,o611,o666,bx676,by omega,?_⟩ ?_
   · show∀j:Nat,j<(kx+1)->¬1<((gI ((ba (bc PB) ((gI ((aD (bc PB)).1) 0).1) ((gI ((aD (bc PB)).1) 0).2)).1) (j:Int)).length:Int)
     intro j hj
     by_cases e0:j=kx
     · subst e0;assumption
     · exact hix j (by omega)
   · show Int.toNat (_-_)<Int.toNat (_-_)
     omega
  exact(zj hcc hix ‹_›).elim
 refine ag rfl (df p8) (aO rfl (a7 ?_))
 have hdn:=hsp.done_ ‹_›
 refine bq g58 [0,1,2,3,4,5,6,7,9] dj ?_
 intro w1097 ch1096
 refine xp (v:=vp b52 0) 0 rfl (λw=>aq zs6) (xp (v:=vp b52 0) 1 rfl (λw=>ae rfl) (xp 2 rfl (λw=>aa lg rfl rfl rfl rfl) ?_))
 replace bx54:=bx54.cn ch1096
 refine xv 3 [2,1,0,4,5,6,7] rfl (a8 cS rfl bx54 rfl) (xp (v:=vp b52 0) 4 rfl (λw=>aq zs6) (xp (v:=vp b52 0) 5 rfl (λw=>ae rfl) (xp 6 rfl (λw=>aa lg rfl rfl rfl rfl) (xv 7 [6,5,4,3,2,1,0] rfl (a8 ah rfl bx54 rfl) ?_))))
 replace o_done:=o_done.cn ch1096
 replace pm44:=pm44.cn ch1096
 refine b9 8 rfl (by kernel_rfl) rfl (bE (aH (vals:=[done_v,vi nm]) Tryz.func43 uK y5 rfl) (oU w1097 done done_v (o_done.flat).ro nm pmA (pm44).ro (by exact hdn.2.2.1) (by exact hdn.2.2.2.2.1) (by exact hdn.2.2.2.2.2) (by(rw[hdn.1,hdn.2.1];exact hT.ok)) (by(rw[hdn.1,hdn.2.1];exact hT.j)) (by(rw[hdn.1,hdn.2.1];exact hT.rt))) ?_)
 rintro⟨d1099,v1101,pL,pA⟩ w1098 ⟨fr1100,o1102,pm1103,hpR⟩
 obtain⟨g1104,ch1105,G1104⟩:=i8 g58 fr1100 (λn=>if n=1 then 120 else if n=2 then 121 else 0)
 replace o1102:=o1102.gl G1104 120
 replace pm1103:=pm1103.gl G1104 121
 refine xp (v:=v1101) 9 rfl (λw=>bm rfl) (bS (by kernel_rfl) (au (vs:=[v1101]) Tryz.func37 (.tmp rfl .nil) ?_))
 replace bH:=bH.cn ch1096
 replace bH:=bH.cn ch1105
 exact⟨(fin w0 g1104 (λn=>if n=120 then 1 else if n=121 then 2 else 0),v1101,pL,pA),rfl,bH.fresh _,(o1102.glue (γ:=c0) (ren:=(λn=>if n=120 then 1 else if n=121 then 2 else 0)) (k:=1) bH.col rfl rfl),(pm1103.glue (γ:=c0) (ren:=(λn=>if n=120 then 1 else if n=121 then 2 else 0)) (k:=2) bH.col rfl rfl),(by(have hq:=hpR;rw[hdn.1,hdn.2.1] at hq;exact hq))⟩
end TL
