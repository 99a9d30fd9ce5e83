import Derived.Test.YtfpckpgnnplhnaaGreatSwTlSqG
import Derived.Test.YtfpckpgnnplhnaaGreatSwTlSqN
import Derived.Test.YtfpckpgnnplhnaaGreatSwTlSqR
import Derived.Test.YtfpckpgnnplhnaaGreatSwTlSqC
import Derived.Test.YtfpckpgnnplhnaaGreatSwTlSpL
import Derived.Test.YtfpckpgnnplhnaaGreatSwTlGenA
import Derived.Test.YtfpckpgnnplhnaaGreatSwTlAli
set_option linter.all false
set_option maxRecDepth 20000
namespace TL
open Go Go.Proofs
theorem dv:Tryz.prog.follows .mixedOrders=true:=by kernel_rfl
theorem cX:Tp Tryz.prog 64 false 1 24 (.slice none 0 0):=Tp.of (by kernel_rfl)
theorem yX:Tryz.f42.body.isNone=false:=rfl
theorem zP:(Tryz.f42.name== "runtime.NumGoroutine")=false:=by decide+kernel
theorem yC:Tryz.f43.body.isNone=false:=rfl
theorem yZ:(Tryz.f43.name== "runtime.NumGoroutine")=false:=by decide+kernel
theorem kO:Tryz.f58.body.isNone=false:=rfl
theorem l9:(Tryz.f58.name== "runtime.NumGoroutine")=false:=by decide+kernel
theorem zg:Tryz.f59.body.isNone=false:=rfl
theorem xg:(Tryz.f59.name== "runtime.NumGoroutine")=false:=by decide+kernel
theorem yN:Tryz.f60.body.isNone=false:=rfl
theorem zA:(Tryz.f60.name== "runtime.NumGoroutine")=false:=by decide+kernel
theorem s8:Tryz.f61.body.isNone=false:=rfl
theorem qQ:(Tryz.f61.name== "runtime.NumGoroutine")=false:=by decide+kernel
theorem wE:Tryz.f62.body.isNone=false:=rfl
theorem yT:(Tryz.f62.name== "runtime.NumGoroutine")=false:=by decide+kernel
theorem wm:Tryz.f63.body.isNone=false:=rfl
theorem Af:(Tryz.f63.name== "runtime.NumGoroutine")=false:=by decide+kernel
theorem zK:Tryz.f64.body.isNone=false:=rfl
theorem AT:(Tryz.f64.name== "runtime.NumGoroutine")=false:=by decide+kernel
theorem zH:Tryz.f65.body.isNone=false:=rfl
theorem wh:(Tryz.f65.name== "runtime.NumGoroutine")=false:=by decide+kernel
theorem Ae:Tryz.f66.body.isNone=false:=rfl
theorem wk:(Tryz.f66.name== "runtime.NumGoroutine")=false:=by decide+kernel
theorem zy:Tryz.f67.body.isNone=false:=rfl
theorem wR:(Tryz.f67.name== "runtime.NumGoroutine")=false:=by decide+kernel
theorem vZ:Tryz.f68.body.isNone=false:=rfl
theorem B5:(Tryz.f68.name== "runtime.NumGoroutine")=false:=by decide+kernel
theorem xT:Tryz.f69.body.isNone=false:=rfl
theorem xu:(Tryz.f69.name== "runtime.NumGoroutine")=false:=by decide+kernel
set_option maxHeartbeats 8000000 in
theorem yr(w0:World)(g:(Int)×(List Pt))(g_v:Value)(hg_v:Ro w0 g_v g.2)(hm:bO g)(h3:3<=g.2.length/\g.2.length<=1000)(hr:fK (2*g.2.length) [dI g] [] 0=some (dO g))(hT:wY (dO g).1 (dO g).2):
    Calls Tryz.prog 37 #[vg [vi g.1,g_v]] w0 (λee w=>∃xx:ax×Value×List Pp×(List Pp×List (ch Bd)),ee= .returned ((λ(⟨δ,rv0,L,A⟩:ax×Value×List Pp×(List Pp×List (ch Bd)))=>rv0) xx)/\(λ(⟨δ,rv0,L,A⟩:ax×Value×List Pp×(List Pp×List (ch Bd))) (w:World)=>dz w0 δ w/\Ow δ (is 1) (is 1) w rv0 L/\fi δ 2 w A.1 A.2/\DN A L (ja (dO g).1 (dO g).2)) xx w):=by
 refine ah Tryz.func37 rfl nq ?_
 have bH:=aW.start w0
 have Rg:=hg_v.sl
 obtain⟨hg3,hg4⟩:=h3
 refine a7 (a6 rfl (cy rfl (bU c0 (is 1) (1,0) rfl rfl ?_)))
 intro g4 w1 b3 ch2 bx5
 refine ma vn (ab (a7 (a6 rfl (lw (vg [vi 0,vn]) (bn (vs:=[]) rfl (by kernel_rfl)) (lo (bU g4 (is 2) (2,0) rfl rfl ?_))))))
 intro g9 w6 b8 ch7 bx10
 refine ma (vp b8 0) (ab (a7 (a7 (a6 rfl (lx (aa dK rfl rfl rfl rfl) ?_)))))
 refine lx (a8 bM rfl bx5.t rfl) ?_
 have len11:=(Rg).small
 refine lx (bG eG rfl Rg.t) (mi 0 (ab (aj ?_)))
 refine aR (σ:=Value×(List Bd)×Nat×ax) (λ⟨all_1_v,all_1,e,gq⟩ f w=>aW w0 gq w/\f 3=vp b8 0/\f 11=g_v/\f 12=vi (g.2.length:Int)/\f 13=vi ↑e/\Sl gq (is 0) w g_v g.2/\Bx gq (is 2) w b8 [vi 0,all_1_v]/\Ow gq (is 5) (is 5) w all_1_v all_1/\(e:Int)<=((g.2.length:Int):Int)/\(all_1=(dI g).take e)) (λ⟨all_1_v,all_1,e,gq⟩=>Int.toNat (((g.2.length:Int):Int)-(e:Int))) (vn,[],0,g9) ?_ ?_
 · exact⟨bH.t,rfl,rfl,rfl,rfl,Rg.t,bx10,Ow.nil,by omega,by rfl⟩
 rintro⟨all_1_v,all_1,e,g14⟩ f12 w13 ⟨bH,zs3,zs11,zs12,zs13,Rg,bx10,o_all_1,hle_e,hal⟩ back3
 have hall1:all_1.length<=e:=by rw[hal,List.length_take];omega
 refine a7 (a6 rfl (lx (br (m:=↑e) (n:=(g.2.length:Int)) zs13 zs12) (ab (a7 ?_))))
 by_cases p3:(e:Int)<(g.2.length:Int)
 ·
  refine ag rfl (dt p3) (am (a7 (aj (a7 (a6 rfl (mz zs13 (lx (ad (v:=g_v) (i:=↑e) eG rfl zs11 Rg zs13 (by omega) (by omega)) (lw (vg [vi ((gI g.2 ↑e).1),vi ((gI g.2 ↑e).2)]) (bW (v:=g_v) (i:=↑e) bm rfl Rg (by omega) (by omega) rfl) (lo (aZ g14 (is 3) (3,0) rfl bm ?_))))))))))
  intro g18 w15 b17 ch16 bx19
  refine ai (e:Int) (lo (aA (cs':=[vi ((gI g.2 ↑e).1),vi ((gI g.2 ↑e).2)]) bm rfl rfl bx19 rfl nq (AllOne.all (.cons rfl (.cons rfl .nil))) rfl ?_))
  intro w20 ch21 bx22
  refine ab (bp g18 [0,1,2,3,4,5,6,7,8,9,10,11,12,13,14,15,16,19,20] dv ?_)
  intro w24 ch23
  refine xp (v:=vp b8 0) 0 rfl (λw=>ar zs3) (xp (v:=vp b8 0) 1 rfl (λw=>ar zs3) (xp (v:=vp b8 0) 2 rfl (λw=>ae rfl) (xp 3 rfl (λw=>aa dV rfl rfl rfl rfl) ?_)))
  refine xh 4 [3,2,1,0,5,7,10,12,15,6,8,11,13,9,14,16,17] rfl (λw' hw'=>a8 bD rfl (bx10.t.bel hw') rfl) (xv 5 [4,3,2,1,0,7,10,12,15,8,11,13,14] rfl (aP eS rfl rfl rfl (by decide) (by decide) rfl) ?_)
  refine xv 6 [5,4,3,2,1,0,7,10,12,15,8,11,13,14] rfl (a8 ap rfl bx22.t rfl) (xv 7 [6,5,4,3,2,1,0,10,12,15,11,13,14] rfl (aP eS rfl rfl rfl (by decide) (by decide) rfl) (xv 8 [7,6,5,4,3,2,1,0,10,12,15,11,13,14] rfl (a8 ap rfl bx22.t rfl) (xp (v:=vi (min ((gI g.2 ↑e).1) ((gI g.2 ↑e).2))) 9 rfl (λw=>io rfl rfl) (xv 10 [9,8,7,6,5,4,3,2,1,0,12,15,13] rfl (aP eS rfl rfl rfl (by decide) (by decide) rfl) (xv 11 [10,9,8,7,6,5,4,3,2,1,0,12,15,13] rfl (a8 ap rfl bx22.t rfl) (xv 12 [11,10,9,8,7,6,5,4,3,2,1,0,15] rfl (aP eS rfl rfl rfl (by decide) (by decide) rfl) (xv 13 [12,11,10,9,8,7,6,5,4,3,2,1,0,15] rfl (a8 ap rfl bx22.t rfl) ?_)))))))
  refine xp (v:=vi (max ((gI g.2 ↑e).1) ((gI g.2 ↑e).2))) 14 rfl (λw=>tU rfl rfl) (xp (v:=vi ↑e) 15 rfl (λw=>ar rfl) (xp (v:=vg [vi (min ((gI g.2 ↑e).1) ((gI g.2 ↑e).2)),vi (max ((gI g.2 ↑e).1) ((gI g.2 ↑e).2)),vi ↑e,vi 0]) 16 rfl (λw=>bn (vs:=[(0,vi (min ((gI g.2 ↑e).1) ((gI g.2 ↑e).2))),(1,vi (max ((gI g.2 ↑e).1) ((gI g.2 ↑e).2))),(2,vi ↑e),(3,vi 0)]) rfl (by kernel_rfl)) (cE 17 rfl ?_)))
  refine kJ (γ:=g18) 4 (min ((gI g.2 ↑e).1) ((gI g.2 ↑e).2)) (max ((gI g.2 ↑e).1) ((gI g.2 ↑e).2)) (e:Int) 0 cM aI ?_
  intro g26 w27 v28 ch29 o30
  refine cE 18 rfl ?_
  refine iJ o_all_1.t o30.flat cM aI (by(simp;omega)) ?_
  intro g32 w33 v34 ch35 o36
  refine xp (v:=vp b8 0) 19 rfl (λw=>ae rfl) (xp 20 rfl (λw=>aa dV rfl rfl rfl rfl) (cE 21 rfl ?_))
  refine aC (cs':=[vi 0,v34]) bD rfl rfl bx10.t (aL o36.flat) nq (aM o36.flat) rfl ?_
  intro w37 ch38 bx39
  refine bV (by kernel_rfl) (ak ?_)
  refine a6 rfl (lx (aJ (m:=↑e) (n:=1) zs13 rfl (by omega)) (mi ((e:Int)+1) (ab ?_)))
  refine back3 (v34,(all_1++([(min ((gI g.2 ↑e).1) ((gI g.2 ↑e).2),max ((gI g.2 ↑e).1) ((gI g.2 ↑e).2),(e:Int),0)]:List Bd)),e+1,g32) _ _ ⟨bH.t,zs3,zs11,zs12,rfl,Rg.t,bx39,o36.t,by omega,?_⟩ ?_
  · show(all_1++([(min ((gI g.2 ↑e).1) ((gI g.2 ↑e).2),max ((gI g.2 ↑e).1) ((gI g.2 ↑e).2),(e:Int),0)]:List Bd))=(dI g).take (e+1)
    exact tj hal ‹_›
  · show Int.toNat (_-_)<Int.toNat (_-_)
    omega
 refine af rfl (df p3) (aF rfl (a7 ?_))
 have hall:all_1=dI g:=by rw[hal,List.take_of_length_le (by rw[j3];omega)]
 have pm41:fi g14 6 w13 (([],[]):List Pp×List (ch Bd)).1 (([],[]):List Pp×List (ch Bd)).2:=fi.nil
 obtain⟨g42,ch43,pm44⟩:=fi.add pm41 rfl rfl rfl bx10 o_all_1
 refine a6 rfl (mz zs3 (lo (aq (α:=Pp) g42 (is 7) (is 7) (7,0) rfl ([(⟨b8⟩:Pp)]:List Pp) jH aY (by decide) (by decide) (vs:=[(0,vp b8 0)]) rfl rfl (.cons rfl .nil) ?_)))
 intro g45 w46 v47 ch48 o49
 refine lw (vg [vi 0,vn,v47]) (bn (vs:=[(2,v47)]) rfl (by rw[Sl.form o49.flat];kernel_rfl)) (lo (bU g45 (is 8) (8,0) rfl rfl ?_))
 intro g53 w50 b52 ch51 bx54
 refine ma (vp b52 0) (ab (a7 (aj ?_)))
 refine aR (σ:=Value×(List Pp)×Value×(List Pp)×Int×(List Pp×List (ch Bd))×ax) (λ⟨done_v,done,todo_v,todo,nm,pmA,gq⟩ f w=>aW w0 gq w/\f 6=vp b52 0/\Sl gq (is 0) w g_v g.2/\fi gq 6 w pmA.1 pmA.2/\Bx gq (is 8) w b52 [vi nm,done_v,todo_v]/\Ow gq (is 14) (is 14) w done_v done/\Ow gq (is 7) (is 7) w todo_v todo/\(fH (dO g) pmA todo done nm)) (λ⟨done_v,done,todo_v,todo,nm,pmA,gq⟩=>mn (i7 pmA todo)) (vn,[],v47,([(⟨b8⟩:Pp)]:List Pp),0,((([],[]):List Pp×List (ch Bd)).1++[(⟨b8⟩:Pp)],(([],[]):List Pp×List (ch Bd)).2++[(0,all_1)]),g53) ?_ ?_
 · exact⟨bH.t,rfl,Rg.t,pm44.t,bx54,Ow.nil,o49.t,by(rw[hall];exact fH.first (by rw[j3];exact hr) (by rw[j3];omega) (by rw[j3];omega))⟩
 rintro⟨done_v,done,todo_v,todo,nm,pmA,g58⟩ f56 w57 ⟨bH,zs6,Rg,pm44,bx54,o_done,o_todo,hsp⟩ back8
 refine a7 (a7 (a6 rfl (mz zs6 (lw (vp b52 0) (ae rfl) (lx (aa ml rfl rfl rfl rfl) (lx (a8 cX rfl bx54 rfl) ?_))))))
 have len59:=(o_todo.flat).small
 refine lx (bG jH rfl o_todo.flat) (lx (eX (m:=(todo.length:Int)) (n:=0) rfl rfl) (ab ?_))
 by_cases p8:0<(todo.length:Int)
 ·
  refine ag rfl (dt p8) (am (aj (a7 ?_)))
  have htt:=y5 ‹_›
  obtain⟨hxA,hxT,hxD,FF,zz,hzz,_⟩:=hsp.pop htt
  have hzl:=dX hzz
  have hb0:=hsp.b0
  have hb1:=hsp.b1
  have hb2:=hsp.b2
  refine dy g58 rfl dv (by kernel_rfl) ?_
  intro w61 ch60
  refine qz zs6 (qv (vp b52 0) (λw' hw'=>ae rfl) (qx (λw' hw'=>aa ml rfl rfl rfl rfl) ?_))
  refine qx (λw' hw'=>a8 cX rfl (bx54.t.bel hw') rfl) (qz zs6 (qv (vp b52 0) (λw' hw'=>ae rfl) (qx (λw' hw'=>aa ml rfl rfl rfl rfl) (qx (λw' hw'=>a8 cX rfl (bx54.t.bel hw') rfl) ?_))))
  refine qx (λw' hw'=>bG jH rfl (o_todo.t.flat.bel hw')) (qx (λw' hw'=>da (m:=(todo.length:Int)) (n:=1) rfl rfl (by omega)) (qx (λw' hw'=>ad (v:=todo_v) (i:=(todo.length:Int)-1) jH rfl rfl (o_todo.t.flat.bel hw') rfl (by omega) (by omega)) (qx (λw' hw'=>aw (v:=todo_v) (i:=(todo.length:Int)-1) aY rfl (o_todo.t.flat.bel hw') (by omega) (by omega) (by decide) rfl) (qv (Value.pointer (some ⟨(gI todo ((todo.length:Int)-1)).n,0,none⟩)) (λw' hw'=>bK rfl) (gf ?_)))))
  intro w62 hc63
  replace hc63:=aG hc63 g58
  refine a7 (bp g58 [0,1,2,3,4,5,6,7,8,9,10,11,12,13] dv ?_)
  intro w65 ch64
  refine xp (v:=vp b52 0) 0 rfl (λw=>ar zs6) (xp (v:=vp b52 0) 1 rfl (λw=>ar zs6) (xp (v:=vp b52 0) 2 rfl (λw=>ae rfl) (xp 3 rfl (λw=>aa ml rfl rfl rfl rfl) ?_)))
  refine xv 4 [3,2,1,0,5,6,7,8,9,10] rfl (a8 cX rfl bx54.t rfl) (xp (v:=vp b52 0) 5 rfl (λw=>ar zs6) (xp (v:=vp b52 0) 6 rfl (λw=>ae rfl) (xp 7 rfl (λw=>aa ml rfl rfl rfl rfl) (xv 8 [7,6,5,4,3,2,1,0] rfl (a8 cX rfl bx54.t rfl) ?_))))
  refine xp 9 rfl (λw=>bG jH rfl o_todo.t.flat) (xp 10 rfl (λw=>da (m:=(todo.length:Int)) (n:=1) rfl rfl (by omega)) (xp (v:=(bP todo_v 1 (Int.toNat 0) (Int.toNat ((todo.length:Int)-1)))) 11 rfl (λw=>gJ (v:=todo_v) (l:=0) (h:=(todo.length:Int)-1) jH rfl rfl o_todo.t.flat (.inr ⟨rfl,rfl⟩) (.inl (congrArg some rfl)) (by omega) (by omega) (by omega)) ?_))
  have r67:=kB (o_todo.a ch64) (show Int.toNat ((todo.length:Int)-1)<=List.length _ by omega)
  refine xp (v:=vp b52 0) 12 rfl (λw=>ae rfl) (xp 13 rfl (λw=>aa ml rfl rfl rfl rfl) (cE 14 rfl (aC (cs':=[vi nm,done_v,(bP todo_v 1 (Int.toNat 0) (Int.toNat ((todo.length:Int)-1)))]) cX rfl rfl bx54.t (aL r67.flat) nq (aM r67.flat) rfl ?_)))
  intro w68 ch69 bx70
  refine bV (by kernel_rfl) ?_
  obtain⟨g74,v71,ch75,pm76,bx72,o73⟩:=fi.opn 9 10 (u:=(gI todo ((todo.length:Int)-1))) (pm44.a ch69) (j:=(pmA.1.idxOf (gI todo ((todo.length:Int)-1)))) (by exact fB hxA)
  obtain⟨KB,hKB⟩:∃q_,q_=(lA pmA (gI todo ((todo.length:Int)-1))).1:=⟨_,rfl⟩
  rw[<-hKB] at bx72
  obtain⟨PB,hPB⟩:∃q_,q_=(lA pmA (gI todo ((todo.length:Int)-1))).2:=⟨_,rfl⟩
  rw[<-hPB] at o73
  have hzP:eT PB nm=some zz:=by rw[hPB];exact hzz
  have hPl:=dX hzP
  refine a6 rfl (mz zs6 (mv (Value.pointer (some ⟨(gI todo ((todo.length:Int)-1)).n,0,none⟩)) (lo (aV (aB (vals:=[vp b52 0,Value.pointer (some ⟨(gI todo ((todo.length:Int)-1)).n,0,none⟩)]) Tryz.func42 yX zP rfl) (ah Tryz.func42 rfl nq ?_)))))
  refine a7 (a6 rfl (cy rfl (bU g74 (is 11) (11,0) rfl rfl ?_)))
  intro g82 w79 b81 ch80 bx83
  refine ab (a7 (a7 (a6 rfl (lx (a8 aY rfl bx83 rfl) ?_))))
  refine lo (bB (aB (vals:=[Value.pointer (some ⟨(gI todo ((todo.length:Int)-1)).n,0,none⟩)]) Tryz.func57 r4 r9 rfl) (jN w79 (gI todo ((todo.length:Int)-1)).n (vi KB) v71 PB (o73.t.flat).ro (jF bx72.t) (by omega) (by omega)) ?_)
  rintro⟨d85,v87⟩ w84 ⟨fr86,o88⟩
  obtain⟨g89,ch90,G89⟩:=hU g82 fr86 (λn=>if n=1 then 12 else 0)
  replace o88:=o88.gl G89 12
  have len91:=(o88.flat).small
  refine lx (bG bF rfl o88.flat) (lx (dd (m:=(List.length (cz PB):Int)) (n:=2) rfl rfl) (ab ?_))
  by_cases p1_c1:(List.length (cz PB):Int)=2
  ·
   refine ag rfl (dt p1_c1) (a7 ?_)
   refine a6 rfl (mv (vp b52 0) ?_)
   refine lx (a8 aY rfl bx83.t rfl) (lo (aV (aB (vals:=[vp b52 0,Value.pointer (some ⟨(gI todo ((todo.length:Int)-1)).n,0,none⟩),vi 2]) Tryz.func58 kO l9 rfl) (ah Tryz.func58 rfl nq ?_)))
   refine a7 (a6 rfl (mv (Value.pointer (some ⟨(gI todo ((todo.length:Int)-1)).n,0,none⟩)) (mi 2 (lw (Value.pointer (some ⟨(gI todo ((todo.length:Int)-1)).n,0,none⟩)) (ae rfl) (lx (aa dV rfl rfl rfl rfl) (lo ?_))))))
   refine aA (cs':=[vi 2,v71]) ap rfl rfl bx72.t rfl nq (AllOne.all (.cons rfl .nil)) rfl ?_
   intro w92 ch93 bx94
   refine ab ?_
   obtain⟨g95,ch96,pm97⟩:=dl.close (pm76.a ch93) rfl rfl rfl (u:=(gI todo ((todo.length:Int)-1))) (by exact fB hxA) bx94 (o73.a ch93)
   refine a6 rfl (mv (vp b52 0) (mv (vp b52 0) (lw (vp b52 0) (ae rfl) (lx (aa ml rfl rfl rfl rfl) ?_))))
   refine lx (a8 cX rfl (bx70.a ch96) rfl) (mv (Value.pointer (some ⟨(gI todo ((todo.length:Int)-1)).n,0,none⟩)) (lo (aq (α:=Pp) g95 (is 13) (is 13) (13,0) rfl ([(gI todo ((todo.length:Int)-1))]:List Pp) jH aY (by decide) (by decide) (vs:=[(0,Value.pointer (some ⟨(gI todo ((todo.length:Int)-1)).n,0,none⟩))]) rfl rfl (.cons rfl .nil) ?_)))
   intro g100 w101 v102 ch103 o104
   refine lo ?_
   refine aS (α:=Pp) (xs:=done) (ys:=([(gI todo ((todo.length:Int)-1))]:List Pp)) g100 (J:=is 14) (S:=is 14) (14,0) rfl jH aY (by decide) rfl rfl rfl o_done.t o104.flat (by decide) (by(simp;omega)) ?_
   intro g106 w107 v108 ch109 o110
   refine lw (vp b52 0) (ae rfl) (lx (aa ml rfl rfl rfl rfl) (lo ?_))
   refine aC (cs':=[vi nm,v108,(bP todo_v 1 (Int.toNat 0) (Int.toNat ((todo.length:Int)-1)))]) cX rfl rfl bx70.t (aL o110.flat) nq (aM o110.flat) rfl ?_
   intro w111 ch112 bx113
   refine ab (ck (vs:=[]) Tryz.func58 .nil ?_)
   refine⟨vt [],rfl,?_⟩
   refine ab (az (vs:=[]) Tryz.func42 .nil ?_)
   refine⟨vt [],rfl,?_⟩
   refine ab (ak ?_)
   refine back8 (v108,(done++([(gI todo ((todo.length:Int)-1))]:List Pp)),(bP todo_v 1 (Int.toNat 0) (Int.toNat ((todo.length:Int)-1))),(List.take (Int.toNat ((todo.length:Int)-1)) todo),nm,(pmA.1,List.set pmA.2 (pmA.1.idxOf (gI todo ((todo.length:Int)-1))) (2,PB)),g106) _ _ ⟨bH.t,zs6,Rg.t,pm97.t,bx113,o110.t,r67.t,?_⟩ ?_
   · show fH (dO g) (pmA.1,List.set pmA.2 (pmA.1.idxOf (gI todo ((todo.length:Int)-1))) (2,PB)) (List.take (Int.toNat ((todo.length:Int)-1)) todo) (done++([(gI todo ((todo.length:Int)-1))]:List Pp)) nm
     (subst hKB;subst hPB;exact hsp.fin htt (λz hz=>DQ hz ‹_›))
   · show mn (i7 (pmA.1,List.set pmA.2 (pmA.1.idxOf (gI todo ((todo.length:Int)-1))) (2,PB)) (List.take (Int.toNat ((todo.length:Int)-1)) todo))<mn (i7 pmA todo)
     (subst hKB;subst hPB;exact hsp.finM htt)
  refine af rfl (df p1_c1) (am (a7 (a7 ?_)))
  refine a6 rfl ?_
  refine lx (a8 aY rfl bx83.t rfl) ?_
  refine lo (bI (v:=vb (gZ PB)) (aB (vals:=[Value.pointer (some ⟨(gI todo ((todo.length:Int)-1)).n,0,none⟩)]) Tryz.func59 zg xg rfl) (zF w84 (gI todo ((todo.length:Int)-1)).n (vi KB) v71 PB (o73.t.flat).ro (jF bx72.t) (by omega) (by omega)) ?_)
  intro w117 hb118
  replace hb118:=aG hb118 g89
  refine ab ?_
  by_cases p3_c1:(gZ PB)=true
  ·
   refine ag rfl p3_c1 (a7 (a6 rfl (mv (vp b52 0) ?_)))
   refine lx (a8 aY rfl bx83.t rfl) (lo (aV (aB (vals:=[vp b52 0,Value.pointer (some ⟨(gI todo ((todo.length:Int)-1)).n,0,none⟩),vi 1]) Tryz.func58 kO l9 rfl) (ah Tryz.func58 rfl nq ?_)))
   refine a7 (a6 rfl (mv (Value.pointer (some ⟨(gI todo ((todo.length:Int)-1)).n,0,none⟩)) (mi 1 (lw (Value.pointer (some ⟨(gI todo ((todo.length:Int)-1)).n,0,none⟩)) (ae rfl) (lx (aa dV rfl rfl rfl rfl) (lo ?_))))))
   refine aA (cs':=[vi 1,v71]) ap rfl rfl bx72.t rfl nq (AllOne.all (.cons rfl .nil)) rfl ?_
   intro w120 ch121 bx122
   refine ab ?_
   obtain⟨g123,ch124,pm125⟩:=dl.close (pm76.a ch121) rfl rfl rfl (u:=(gI todo ((todo.length:Int)-1))) (by exact fB hxA) bx122 (o73.a ch121)
   refine a6 rfl (mv (vp b52 0) (mv (vp b52 0) (lw (vp b52 0) (ae rfl) (lx (aa ml rfl rfl rfl rfl) ?_))))
   refine lx (a8 cX rfl (bx70.a ch124) rfl) (mv (Value.pointer (some ⟨(gI todo ((todo.length:Int)-1)).n,0,none⟩)) (lo (aq (α:=Pp) g123 (is 15) (is 15) (15,0) rfl ([(gI todo ((todo.length:Int)-1))]:List Pp) jH aY (by decide) (by decide) (vs:=[(0,Value.pointer (some ⟨(gI todo ((todo.length:Int)-1)).n,0,none⟩))]) rfl rfl (.cons rfl .nil) ?_)))
   intro g128 w129 v130 ch131 o132
   refine lo ?_
   refine aS (α:=Pp) (xs:=done) (ys:=([(gI todo ((todo.length:Int)-1))]:List Pp)) g128 (J:=is 14) (S:=is 14) (14,0) rfl jH aY (by decide) rfl rfl rfl o_done.t o132.flat (by decide) (by(simp;omega)) ?_
   intro g134 w135 v136 ch137 o138
   refine lw (vp b52 0) (ae rfl) (lx (aa ml rfl rfl rfl rfl) (lo ?_))
   refine aC (cs':=[vi nm,v136,(bP todo_v 1 (Int.toNat 0) (Int.toNat ((todo.length:Int)-1)))]) cX rfl rfl bx70.t (aL o138.flat) nq (aM o138.flat) rfl ?_
   intro w139 ch140 bx141
   refine ab (ck (vs:=[]) Tryz.func58 .nil ?_)
   refine⟨vt [],rfl,?_⟩
   refine ab (az (vs:=[]) Tryz.func42 .nil ?_)
   refine⟨vt [],rfl,?_⟩
   refine ab (ak ?_)
   refine back8 (v136,(done++([(gI todo ((todo.length:Int)-1))]:List Pp)),(bP todo_v 1 (Int.toNat 0) (Int.toNat ((todo.length:Int)-1))),(List.take (Int.toNat ((todo.length:Int)-1)) todo),nm,(pmA.1,List.set pmA.2 (pmA.1.idxOf (gI todo ((todo.length:Int)-1))) (1,PB)),g134) _ _ ⟨bH.t,zs6,Rg.t,pm125.t,bx141,o138.t,r67.t,?_⟩ ?_
   · show fH (dO g) (pmA.1,List.set pmA.2 (pmA.1.idxOf (gI todo ((todo.length:Int)-1))) (1,PB)) (List.take (Int.toNat ((todo.length:Int)-1)) todo) (done++([(gI todo ((todo.length:Int)-1))]:List Pp)) nm
     (subst hKB;subst hPB;exact hsp.fin htt (λz hz=>Db hz ‹_› ‹_›))
   · show mn (i7 (pmA.1,List.set pmA.2 (pmA.1.idxOf (gI todo ((todo.length:Int)-1))) (1,PB)) (List.take (Int.toNat ((todo.length:Int)-1)) todo))<mn (i7 pmA todo)
     (subst hKB;subst hPB;exact hsp.finM htt)
  refine af rfl (Bool.eq_false_iff.2 p3_c1) (am (a7 (a7 (a6 rfl ?_))))
  refine lx (a8 aY rfl bx83.t rfl) ?_
  refine lo (bI (v:=vt [vi ((cD PB).1),vi ((cD PB).2.1),vb ((cD PB).2.2)]) (aB (vals:=[Value.pointer (some ⟨(gI todo ((todo.length:Int)-1)).n,0,none⟩)]) Tryz.func60 yN zA rfl) (vr w117 (gI todo ((todo.length:Int)-1)).n (vi KB) v71 PB (o73.t.flat).ro (jF bx72.t) (by omega) (by omega)) ?_)
  intro w145 hb146
  replace hb146:=aG hb146 g89
  refine mv (vt [vi ((cD PB).1),vi ((cD PB).2.1),vb ((cD PB).2.2)]) (lx (ay rfl rfl) (lx (ay rfl rfl) (lx (ay rfl rfl) (lo (aZ g89 (is 17) (17,0) rfl ap ?_)))))
  intro g150 w147 b149 ch148 bx151
  refine lo (aZ g150 (is 18) (18,0) rfl ap ?_)
  intro g155 w152 b154 ch153 bx156
  refine lo ?_
  refine aA (cs':=[vi ((cD PB).1)]) ap rfl rfl bx151.t rfl nq (AllOne.all (.cons rfl .nil)) rfl ?_
  intro w157 ch158 bx159
  refine lo ?_
  refine aA (cs':=[vi ((cD PB).2.1)]) ap rfl rfl bx156.t rfl nq (AllOne.all (.cons rfl .nil)) rfl ?_
  intro w160 ch161 bx162
  refine ma (vb ((cD PB).2.2)) (ab (a7 (a6 rfl (mv (vb ((cD PB).2.2)) (ab ?_)))))
  by_cases p6_c1:((cD PB).2.2)=true
  ·
   refine ag rfl p6_c1 (a7 ?_)
   obtain⟨ff,hff⟩:∃ff,ff=lX PB (cD PB).1 (cD PB).2.1:=⟨_,rfl⟩
   refine a6 rfl (mv (vp b52 0) ?_)
   refine lx (a8 aY rfl bx83.t rfl) ?_
   refine lx (a8 ap rfl bx159.t rfl) (lx (a8 ap rfl bx162 rfl) (lw (Value.func (.func 62) #[] (List.toArray [vp b81 0,vp b149 0,vp b154 0])) (ez (vals:=[vp b81 0,vp b149 0,vp b154 0]) rfl) (lo (aV (aB (vals:=[vp b52 0,Value.pointer (some ⟨(gI todo ((todo.length:Int)-1)).n,0,none⟩),vi ((cD PB).1),vi ((cD PB).2.1),Value.func (.func 62) #[] (List.toArray [vp b81 0,vp b149 0,vp b154 0])]) Tryz.func61 s8 qQ rfl) (ah Tryz.func61 rfl nq ?_)))))
   refine a7 (a6 rfl (ma ((Value.pointer none)) (ma ((Value.pointer none)) (ab (a7 (a6 rfl (lw (vg [vi 0,vn]) (bn (vs:=[]) rfl (by kernel_rfl)) (lo (bU g155 (is 19) (19,0) rfl rfl ?_)))))))))
   intro g168 w165 b167 ch166 bx169
   refine lw (vg [vi 0,vn]) (bn (vs:=[]) rfl (by kernel_rfl)) (lo (bU g168 (is 20) (20,0) rfl rfl ?_))
   intro g173 w170 b172 ch171 bx174
   refine ma (vp b167 0) (ma (vp b172 0) (ab (a7 (a7 (a6 rfl (mv (Value.pointer (some ⟨(gI todo ((todo.length:Int)-1)).n,0,none⟩)) (lw (Value.pointer (some ⟨(gI todo ((todo.length:Int)-1)).n,0,none⟩)) (ae rfl) (lx (aa dV rfl rfl rfl rfl) ?_))))))))
   refine lx (a8 bD rfl bx72.t rfl) ?_
   have len176:=((o73.a ch171).flat).small
   refine lx (bG cM rfl o73.t.flat) (mi 0 (ab (aj ?_)))
   refine aR (σ:=Value×(List Bd)×Nat×Value×(List Bd)×ax) (λ⟨O1_c4_v,O1_c4,k_c4,O2_c4_v,O2_c4,gq⟩ f w=>aW w0 gq w/\f 0=vp b52 0/\f 2=vi ((cD PB).1)/\f 3=vi ((cD PB).2.1)/\f 4=Value.func (.func 62) #[] (List.toArray [vp b81 0,vp b149 0,vp b154 0])/\f 10=vp b167 0/\f 11=vp b172 0/\f 22=v71/\f 23=vi (PB.length:Int)/\f 24=vi ↑k_c4/\Sl gq (is 0) w g_v g.2/\Ow gq (is 14) (is 14) w done_v done/\Ow gq (is 7) (is 7) w (bP todo_v 1 (Int.toNat 0) (Int.toNat ((todo.length:Int)-1))) (List.take (Int.toNat ((todo.length:Int)-1)) todo)/\Bx gq (is 8) w b52 [vi nm,done_v,(bP todo_v 1 (Int.toNat 0) (Int.toNat ((todo.length:Int)-1)))]/\dl gq 6 (pmA.1.idxOf (gI todo ((todo.length:Int)-1))) w pmA.1 pmA.2/\Bx gq (is 9) w (gI todo ((todo.length:Int)-1)).n [vi KB,v71]/\Ow gq (is 10) (is 10) w v71 PB/\Bx gq (is 11) w b81 [Value.pointer (some ⟨(gI todo ((todo.length:Int)-1)).n,0,none⟩)]/\Bx gq (is 17) w b149 [vi ((cD PB).1)]/\Bx gq (is 18) w b154 [vi ((cD PB).2.1)]/\Bx gq (is 19) w b167 [vi 0,O1_c4_v]/\Bx gq (is 20) w b172 [vi 0,O2_c4_v]/\Ow gq (is 23) (is 23) w O1_c4_v O1_c4/\Ow gq (is 25) (is 25) w O2_c4_v O2_c4/\(k_c4:Int)<=((PB.length:Int):Int)/\(oa ff PB k_c4 O1_c4 O2_c4)) (λ⟨O1_c4_v,O1_c4,k_c4,O2_c4_v,O2_c4,gq⟩=>Int.toNat (((PB.length:Int):Int)-(k_c4:Int))) (vn,[],0,vn,[],g173) ?_ ?_
   · exact⟨bH.t,rfl,rfl,rfl,rfl,rfl,rfl,rfl,rfl,rfl,Rg.t,o_done.t,r67.t,bx70.t,pm76.t,bx72.t,o73.t,bx83.t,bx159.t,bx162.t,bx169.t,bx174,Ow.nil,Ow.nil,by omega,by exact oa.start⟩
   rintro⟨O1_c4_v,O1_c4,k_c4,O2_c4_v,O2_c4,g182⟩ f180 w181 ⟨bH,zs0_c4,zs2_c4,zs3_c4,zs4_c4,zs10_c4,zs11_c4,zs22_c4,zs23_c4,zs24_c4,Rg,o_done,r67,bx70,pm76,bx72,o73,bx83,bx159,bx162,bx169,bx174,o_O1_c4,o_O2_c4,hle_k_c4,hap_c4⟩ back3_c4
   have hapl_c4:=hap_c4.len
   refine a7 (a6 rfl (lx (br (m:=↑k_c4) (n:=(PB.length:Int)) zs24_c4 zs23_c4) (ab (a7 ?_))))
   by_cases p3_c4:(k_c4:Int)<(PB.length:Int)
   ·
    refine ag rfl (dt p3_c4) (am (a7 (aj (a7 (a6 rfl (mz zs24_c4 (lx (ad (v:=v71) (i:=↑k_c4) cM rfl zs22_c4 o73.flat zs24_c4 (by omega) (by omega)) (lw (vg [vi ((gI PB ↑k_c4).1),vi (((gI PB ↑k_c4).2).1),vi ((((gI PB ↑k_c4).2).2).1),vi ((((gI PB ↑k_c4).2).2).2)]) (bW (v:=v71) (i:=↑k_c4) aI rfl o73.flat (by omega) (by omega) rfl) (lo (aZ g182 (is 21) (21,0) rfl aI ?_))))))))))
    intro g186 w183 b185 ch184 bx187
    refine ai (k_c4:Int) (lo (aA (cs':=[vi ((gI PB ↑k_c4).1),vi (((gI PB ↑k_c4).2).1),vi ((((gI PB ↑k_c4).2).2).1),vi ((((gI PB ↑k_c4).2).2).2)]) aI rfl rfl bx187 rfl nq (AllOne.all (.cons rfl (.cons rfl (.cons rfl (.cons rfl .nil))))) rfl ?_))
    intro w188 ch189 bx190
    refine ab (a7 (a6 rfl (mz zs4_c4 (mi ↑k_c4 (lo (aV (fW (fid:=62) (vals:=[vi ↑k_c4]) (caps:=[vp b81 0,vp b149 0,vp b154 0]) rfl Tryz.func62 wE yT rfl) (ah Tryz.func62 rfl nq ?_)))))))
    refine a7 (a6 rfl (ma (vb false) (ab (a7 (dy g186 rfl dv (by kernel_rfl) ?_)))))
    intro w192 ch191
    refine qx (λw' hw'=>a8 aY rfl (bx83.t.bel hw') rfl) (qv (Value.pointer (some ⟨(gI todo ((todo.length:Int)-1)).n,0,none⟩)) (λw' hw'=>ae rfl) (qx (λw' hw'=>aa dV rfl rfl rfl rfl) ?_))
    refine qx (λw' hw'=>a8 bD rfl (bx72.t.bel hw') rfl) (qm (vi ↑k_c4) ?_)
    refine qx (λw' hw'=>ad (v:=v71) (i:=↑k_c4) cM rfl rfl (o73.t.flat.bel hw') rfl (by omega) (by omega)) (qv (Value.pointer (some ⟨(bu v71 4 (Int.toNat ↑k_c4)).block,(bu v71 4 (Int.toNat ↑k_c4)).off+0,none⟩)) (λw' hw'=>eP jg rfl rfl rfl rfl) (qx (λw' hw'=>dH (v:=v71) (i:=↑k_c4) ap rfl (o73.t.flat.bel hw') (by omega) (by omega) (by decide) rfl) ?_))
    refine qx (λw' hw'=>a8 ap rfl (bx159.t.bel hw') rfl) (qx (λw' hw'=>dd (m:=(gI PB ↑k_c4).1) (n:=(cD PB).1) rfl rfl) (qm (vb (decide (((gI PB ↑k_c4).1)=((cD PB).1)))) ?_))
    by_cases q16_c5:((gI PB ↑k_c4).1)=((cD PB).1)
    ·
     refine ia (v:=Value.pointer (some ⟨(gI todo ((todo.length:Int)-1)).n,0,none⟩)) (wy (dt q16_c5)) (λw' hw'=>a8 aY rfl (bx83.t.bel hw') rfl) (ia (v:=Value.pointer (some ⟨(gI todo ((todo.length:Int)-1)).n,0,none⟩)) (wy (dt q16_c5)) (λw' hw'=>ae rfl) (ia (v:=Value.pointer (some ⟨(gI todo ((todo.length:Int)-1)).n,1,none⟩)) (wy (dt q16_c5)) (λw' hw'=>aa dV rfl rfl rfl rfl) (ia (v:=v71) (wy (dt q16_c5)) (λw' hw'=>a8 bD rfl (bx72.t.bel hw') rfl) (ia (v:=vi ↑k_c4) (wy (dt q16_c5)) (λw' hw'=>ar rfl) ?_))))
     refine ia (v:=Value.pointer (some (bu v71 4 (Int.toNat ↑k_c4)))) (wy (dt q16_c5)) (λw' hw'=>ad (α:=Bd) (xs:=PB) (v:=v71) (i:=↑k_c4) cM rfl rfl (o73.t.flat.bel hw') rfl (by omega) (by omega)) (ia (v:=Value.pointer (some ⟨(bu v71 4 (Int.toNat ↑k_c4)).block,(bu v71 4 (Int.toNat ↑k_c4)).off+1,none⟩)) (wy (dt q16_c5)) (λw' hw'=>eP jg rfl rfl rfl rfl) (ia (v:=vi (((gI PB ↑k_c4).2).1)) (wy (dt q16_c5)) (λw' hw'=>dH (α:=Bd) (xs:=PB) (v:=v71) (i:=↑k_c4) ap rfl (o73.t.flat.bel hw') (by omega) (by omega) (by decide) rfl) ?_))
     refine ia (v:=vi ((cD PB).2.1)) (wy (dt q16_c5)) (λw' hw'=>a8 ap rfl (bx162.t.bel hw') rfl) (ia (v:=vb (decide ((((gI PB ↑k_c4).2).1)=((cD PB).2.1)))) (wy (dt q16_c5)) (λw' hw'=>dd (m:=((gI PB ↑k_c4).2).1) (n:=(cD PB).2.1) rfl rfl) (qv (vb (decide ((((gI PB ↑k_c4).2).1)=((cD PB).2.1)))) (λw' hw'=>bh rfl (dt q16_c5) rfl) (qv (vb (decide ((((gI PB ↑k_c4).2).1)=((cD PB).2.1)))) (λw' hw'=>bK rfl) (gf ?_))))
     intro w194 hc195
     replace hc195:=aG hc195 g186
     refine az (vs:=[vb (decide ((((gI PB ↑k_c4).2).1)=((cD PB).2.1)))]) Tryz.func62 (.tmp rfl .nil) ?_
     refine⟨vb (decide ((((gI PB ↑k_c4).2).1)=((cD PB).2.1))),rfl,?_⟩
     refine ab ?_
     by_cases p5_c4:(((gI PB ↑k_c4).2).1)=((cD PB).2.1)
     ·
      refine ag rfl (dt p5_c4) (bp g186 [0,1,2,3,4,5,8,9] dv ?_)
      intro w197 ch196
      refine xp (v:=vp b167 0) 0 rfl (λw=>ar zs10_c4) (xp (v:=vp b167 0) 1 rfl (λw=>ar zs10_c4) (xp (v:=vp b167 0) 2 rfl (λw=>ae rfl) (xp 3 rfl (λw=>aa dV rfl rfl rfl rfl) ?_)))
      refine xh 4 [3,2,1,0,5,6] rfl (λw' hw'=>a8 bD rfl (bx169.t.bel hw') rfl) ?_
      refine xv 5 [4,3,2,1,0] rfl (av (ds:=[vi ((gI PB ↑k_c4).1),vi (((gI PB ↑k_c4).2).1),vi ((((gI PB ↑k_c4).2).2).1),vi ((((gI PB ↑k_c4).2).2).2)]) aI rfl bx190.t rfl rfl) (cE 6 rfl (kJ (γ:=g186) 22 ((gI PB ↑k_c4).1) (((gI PB ↑k_c4).2).1) ((((gI PB ↑k_c4).2).2).1) ((((gI PB ↑k_c4).2).2).2) cM aI ?_))
      intro g200 w201 v202 ch203 o204
      refine cE 7 rfl ?_
      refine iJ o_O1_c4.t o204.flat cM aI (by(simp;omega)) ?_
      intro g206 w207 v208 ch209 o210
      refine xp (v:=vp b167 0) 8 rfl (λw=>ae rfl) (xp 9 rfl (λw=>aa dV rfl rfl rfl rfl) (cE 10 rfl ?_))
      refine aC (cs':=[vi 0,v208]) bD rfl rfl bx169.t (aL o210.flat) nq (aM o210.flat) rfl ?_
      intro w211 ch212 bx213
      refine bV (by kernel_rfl) (ak ?_)
      refine a6 rfl (lx (aJ (m:=↑k_c4) (n:=1) zs24_c4 rfl (by omega)) (mi ((k_c4:Int)+1) (ab ?_)))
      refine back3_c4 (v208,(O1_c4++([((gI PB ↑k_c4).1,((gI PB ↑k_c4).2).1,(((gI PB ↑k_c4).2).2).1,(((gI PB ↑k_c4).2).2).2)]:List Bd)),k_c4+1,O2_c4_v,O2_c4,g206) _ _ ⟨bH.t,zs0_c4,zs2_c4,zs3_c4,zs4_c4,zs10_c4,zs11_c4,zs22_c4,zs23_c4,rfl,Rg.t,o_done.t,r67.t,bx70.t,pm76.t,bx72.t,o73.t,bx83.t,bx159.t,bx162.t,bx213,bx174.t,o210.t,o_O2_c4.t,by omega,?_⟩ ?_
      · show oa ff PB (k_c4+1) (O1_c4++([((gI PB ↑k_c4).1,((gI PB ↑k_c4).2).1,(((gI PB ↑k_c4).2).2).1,(((gI PB ↑k_c4).2).2).2)]:List Bd)) O2_c4
        exact hap_c4.yes ‹_› (by rw[hff];exact dt ⟨by assumption,by assumption⟩)
      · show Int.toNat (_-_)<Int.toNat (_-_)
        omega
     refine af rfl (df p5_c4) (bp g186 [0,1,2,3,4,5,8,9] dv ?_)
     intro w217 ch216
     refine xp (v:=vp b172 0) 0 rfl (λw=>ar zs11_c4) (xp (v:=vp b172 0) 1 rfl (λw=>ar zs11_c4) (xp (v:=vp b172 0) 2 rfl (λw=>ae rfl) (xp 3 rfl (λw=>aa dV rfl rfl rfl rfl) ?_)))
     refine xh 4 [3,2,1,0,5,6] rfl (λw' hw'=>a8 bD rfl (bx174.t.bel hw') rfl) ?_
     refine xv 5 [4,3,2,1,0] rfl (av (ds:=[vi ((gI PB ↑k_c4).1),vi (((gI PB ↑k_c4).2).1),vi ((((gI PB ↑k_c4).2).2).1),vi ((((gI PB ↑k_c4).2).2).2)]) aI rfl bx190.t rfl rfl) (cE 6 rfl (kJ (γ:=g186) 24 ((gI PB ↑k_c4).1) (((gI PB ↑k_c4).2).1) ((((gI PB ↑k_c4).2).2).1) ((((gI PB ↑k_c4).2).2).2) cM aI ?_))
     intro g220 w221 v222 ch223 o224
     refine cE 7 rfl ?_
     refine iJ o_O2_c4.t o224.flat cM aI (by(simp;omega)) ?_
     intro g226 w227 v228 ch229 o230
     refine xp (v:=vp b172 0) 8 rfl (λw=>ae rfl) (xp 9 rfl (λw=>aa dV rfl rfl rfl rfl) (cE 10 rfl ?_))
     refine aC (cs':=[vi 0,v228]) bD rfl rfl bx174.t (aL o230.flat) nq (aM o230.flat) rfl ?_
     intro w231 ch232 bx233
     refine bV (by kernel_rfl) (ak ?_)
     refine a6 rfl (lx (aJ (m:=↑k_c4) (n:=1) zs24_c4 rfl (by omega)) (mi ((k_c4:Int)+1) (ab ?_)))
     refine back3_c4 (O1_c4_v,O1_c4,k_c4+1,v228,(O2_c4++([((gI PB ↑k_c4).1,((gI PB ↑k_c4).2).1,(((gI PB ↑k_c4).2).2).1,(((gI PB ↑k_c4).2).2).2)]:List Bd)),g226) _ _ ⟨bH.t,zs0_c4,zs2_c4,zs3_c4,zs4_c4,zs10_c4,zs11_c4,zs22_c4,zs23_c4,rfl,Rg.t,o_done.t,r67.t,bx70.t,pm76.t,bx72.t,o73.t,bx83.t,bx159.t,bx162.t,bx169.t,bx233,o_O1_c4.t,o230.t,by omega,?_⟩ ?_
     · show oa ff PB (k_c4+1) O1_c4 (O2_c4++([((gI PB ↑k_c4).1,((gI PB ↑k_c4).2).1,(((gI PB ↑k_c4).2).2).1,(((gI PB ↑k_c4).2).2).2)]:List Bd))
       exact hap_c4.no ‹_› (by rw[hff];intro hq;exact absurd (of_decide_eq_true hq).2 ‹_›)
     · show Int.toNat (_-_)<Int.toNat (_-_)
       omega
    refine ij (wn (df q16_c5)) (ij (wn (df q16_c5)) (ij (wn (df q16_c5)) (ij (wn (df q16_c5)) (ij (wn (df q16_c5)) (ij (wn (df q16_c5)) (ij (wn (df q16_c5)) (ij (wn (df q16_c5)) (ij (wn (df q16_c5)) (ij (wn (df q16_c5)) ?_)))))))))
    refine qv (vb false) (λw' hw'=>bo rfl (df q16_c5) rfl) (qv (vb false) (λw' hw'=>bK rfl) (gf ?_))
    intro w236 hc237
    replace hc237:=aG hc237 g186
    refine az (vs:=[vb false]) Tryz.func62 (.tmp rfl .nil) ?_
    refine⟨vb false,rfl,?_⟩
    refine ab (af rfl rfl (bp g186 [0,1,2,3,4,5,8,9] dv ?_))
    intro w239 ch238
    refine xp (v:=vp b172 0) 0 rfl (λw=>ar zs11_c4) (xp (v:=vp b172 0) 1 rfl (λw=>ar zs11_c4) (xp (v:=vp b172 0) 2 rfl (λw=>ae rfl) (xp 3 rfl (λw=>aa dV rfl rfl rfl rfl) ?_)))
    refine xh 4 [3,2,1,0,5,6] rfl (λw' hw'=>a8 bD rfl (bx174.t.bel hw') rfl) ?_
    refine xv 5 [4,3,2,1,0] rfl (av (ds:=[vi ((gI PB ↑k_c4).1),vi (((gI PB ↑k_c4).2).1),vi ((((gI PB ↑k_c4).2).2).1),vi ((((gI PB ↑k_c4).2).2).2)]) aI rfl bx190.t rfl rfl) (cE 6 rfl (kJ (γ:=g186) 24 ((gI PB ↑k_c4).1) (((gI PB ↑k_c4).2).1) ((((gI PB ↑k_c4).2).2).1) ((((gI PB ↑k_c4).2).2).2) cM aI ?_))
    intro g242 w243 v244 ch245 o246
    refine cE 7 rfl ?_
    refine iJ o_O2_c4.t o246.flat cM aI (by(simp;omega)) ?_
    intro g248 w249 v250 ch251 o252
    refine xp (v:=vp b172 0) 8 rfl (λw=>ae rfl) (xp 9 rfl (λw=>aa dV rfl rfl rfl rfl) (cE 10 rfl ?_))
    refine aC (cs':=[vi 0,v250]) bD rfl rfl bx174.t (aL o252.flat) nq (aM o252.flat) rfl ?_
    intro w253 ch254 bx255
    refine bV (by kernel_rfl) (ak ?_)
    refine a6 rfl (lx (aJ (m:=↑k_c4) (n:=1) zs24_c4 rfl (by omega)) (mi ((k_c4:Int)+1) (ab ?_)))
    refine back3_c4 (O1_c4_v,O1_c4,k_c4+1,v250,(O2_c4++([((gI PB ↑k_c4).1,((gI PB ↑k_c4).2).1,(((gI PB ↑k_c4).2).2).1,(((gI PB ↑k_c4).2).2).2)]:List Bd)),g248) _ _ ⟨bH.t,zs0_c4,zs2_c4,zs3_c4,zs4_c4,zs10_c4,zs11_c4,zs22_c4,zs23_c4,rfl,Rg.t,o_done.t,r67.t,bx70.t,pm76.t,bx72.t,o73.t,bx83.t,bx159.t,bx162.t,bx169.t,bx255,o_O1_c4.t,o252.t,by omega,?_⟩ ?_
    · show oa ff PB (k_c4+1) O1_c4 (O2_c4++([((gI PB ↑k_c4).1,((gI PB ↑k_c4).2).1,(((gI PB ↑k_c4).2).2).1,(((gI PB ↑k_c4).2).2).2)]:List Bd))
      exact hap_c4.no ‹_› (by rw[hff];intro hq;exact absurd (of_decide_eq_true hq).1 ‹_›)
    · show Int.toNat (_-_)<Int.toNat (_-_)
      omega
   refine af rfl (df p3_c4) (aF rfl (a7 ?_))
   have hapd:=hap_c4.done ‹_› ((cD PB).1) ((cD PB).2.1) nm
   refine a6 rfl (mz zs2_c4 (mz zs3_c4 (lw (vi (min ((cD PB).1) ((cD PB).2.1))) (io rfl rfl) (mz zs2_c4 (mz zs3_c4 (lw (vi (max ((cD PB).1) ((cD PB).2.1))) (tU rfl rfl) (mz zs0_c4 (lw (vp b52 0) (ae rfl) (lx (aa ml rfl rfl rfl rfl) ?_)))))))))
   refine lx (a8 ap rfl bx70 rfl) (lw (vg [vi (min ((cD PB).1) ((cD PB).2.1)),vi (max ((cD PB).1) ((cD PB).2.1)),vi (-1),vi nm]) (bn (vs:=[(0,vi (min ((cD PB).1) ((cD PB).2.1))),(1,vi (max ((cD PB).1) ((cD PB).2.1))),(2,vi (-1)),(3,vi nm)]) rfl (by kernel_rfl)) (lo (aZ g182 (is 26) (26,0) rfl aI ?_)))
   intro g261 w258 b260 ch259 bx262
   refine lo (aA (cs':=[vi (min ((cD PB).1) ((cD PB).2.1)),vi (max ((cD PB).1) ((cD PB).2.1)),vi (-1),vi nm]) aI rfl rfl bx262 rfl nq (AllOne.all (.cons rfl (.cons rfl (.cons rfl (.cons rfl .nil))))) rfl ?_)
   intro w263 ch264 bx265
   refine ab (a7 ?_)
   obtain⟨ju,hju⟩:∃q:Int,q=min ((cD PB).1) ((cD PB).2.1):=⟨_,rfl⟩
   rw[<-hju] at bx265
   obtain⟨jv,hjv⟩:∃q:Int,q=max ((cD PB).1) ((cD PB).2.1):=⟨_,rfl⟩
   rw[<-hjv] at bx265
   refine a6 rfl (mz zs0_c4 (lw (vp b52 0) (ae rfl) (lx (aa ml rfl rfl rfl rfl) ?_)))
   refine lx (a8 ap rfl bx70.t rfl) (lx (aJ (m:=nm) (n:=1) rfl rfl (by omega)) (lw (vp b52 0) (ae rfl) (lx (aa ml rfl rfl rfl rfl) (lo (aA (cs':=[vi (nm+1),done_v,(bP todo_v 1 (Int.toNat 0) (Int.toNat ((todo.length:Int)-1)))]) ap rfl rfl bx70.t rfl nq (AllOne.all (.cons rfl .nil)) rfl ?_)))))
   intro w266 ch267 bx268
   refine ab (a7 ?_)
   refine dw (σ:=Value×Value×ax) (λ⟨v278,v290,gq⟩ f w=>aW w0 gq w/\f 10=vp b167 0/\f 11=vp b172 0/\Sl gq (is 0) w g_v g.2/\Ow gq (is 14) (is 14) w done_v done/\Ow gq (is 7) (is 7) w (bP todo_v 1 (Int.toNat 0) (Int.toNat ((todo.length:Int)-1))) (List.take (Int.toNat ((todo.length:Int)-1)) todo)/\dl gq 6 (pmA.1.idxOf (gI todo ((todo.length:Int)-1))) w pmA.1 pmA.2/\Bx gq (is 9) w (gI todo ((todo.length:Int)-1)).n [vi KB,v71]/\Ow gq (is 10) (is 10) w v71 PB/\Bx gq (is 11) w b81 [Value.pointer (some ⟨(gI todo ((todo.length:Int)-1)).n,0,none⟩)]/\Bx gq (is 17) w b149 [vi ((cD PB).1)]/\Bx gq (is 18) w b154 [vi ((cD PB).2.1)]/\Bx gq (is 8) w b52 [vi (nm+1),done_v,(bP todo_v 1 (Int.toNat 0) (Int.toNat ((todo.length:Int)-1)))]/\Ow gq (is 23) (is 23) w v278 (O1_c4++([(ju,jv,-1,nm)]:List Bd))/\Ow gq (is 25) (is 25) w v290 (O2_c4++([(ju,jv,-1,nm)]:List Bd))/\Bx gq (is 19) w b167 [vi 0,v278]/\Bx gq (is 20) w b172 [vi 0,v290]) g261 [0,1,2,3,4,5,6,9,10,11,16,17,19,20] dv ?_ ?_
   ·
    intro mid
    intro w270 ch269
    refine cU (σ:=Value×Value×ax) [14,13,12,8,7,11,10,9,6,5,4,3,2,1,0] 7 (λ⟨v280,v286,gq⟩ f w=>aW w0 gq w/\f 10=vp b167 0/\f 11=vp b172 0/\f 71=vp b167 0/\f 72=vp b172 0/\f 79=v280/\f 83=O2_c4_v/\f 85=v286/\Sl gq (is 0) w g_v g.2/\Ow gq (is 14) (is 14) w done_v done/\Ow gq (is 7) (is 7) w (bP todo_v 1 (Int.toNat 0) (Int.toNat ((todo.length:Int)-1))) (List.take (Int.toNat ((todo.length:Int)-1)) todo)/\dl gq 6 (pmA.1.idxOf (gI todo ((todo.length:Int)-1))) w pmA.1 pmA.2/\Bx gq (is 9) w (gI todo ((todo.length:Int)-1)).n [vi KB,v71]/\Ow gq (is 10) (is 10) w v71 PB/\Bx gq (is 11) w b81 [Value.pointer (some ⟨(gI todo ((todo.length:Int)-1)).n,0,none⟩)]/\Bx gq (is 17) w b149 [vi ((cD PB).1)]/\Bx gq (is 18) w b154 [vi ((cD PB).2.1)]/\Bx gq (is 19) w b167 [vi 0,O1_c4_v]/\Bx gq (is 20) w b172 [vi 0,O2_c4_v]/\Ow gq (is 25) (is 25) w O2_c4_v O2_c4/\Bx gq (is 8) w b52 [vi (nm+1),done_v,(bP todo_v 1 (Int.toNat 0) (Int.toNat ((todo.length:Int)-1)))]/\Ow gq (is 23) (is 23) w v280 (O1_c4++([(ju,jv,-1,nm)]:List Bd))/\Ow gq (is 28) (is 28) w v286 ([(ju,jv,-1,nm)]:List Bd)) ?_ ?_
    ·
     rintro⟨v280,v286,g292⟩ f290 w291 ⟨bH,zs10_c4,zs11_c4,zs71_c4,zs72_c4,zs79_c4,zs83_c4,zs85_c4,Rg,o_done,r67,pm76,bx72,o73,bx83,bx159,bx162,bx169,bx174,o_O2_c4,bx268,o282,o288⟩
     refine cE 15 rfl (aS (α:=Bd) (xs:=O2_c4) (ys:=([(ju,jv,-1,nm)]:List Bd)) g292 (J:=is 25) (S:=is 25) (25,0) rfl cM aI (by decide) rfl zs83_c4 zs85_c4 o_O2_c4 o288.flat (by decide) (by(simp;omega)) ?_)
     intro g293 w294 v295 ch296 o297
     refine xp (v:=vp b167 0) 16 rfl (λw=>ae zs71_c4) (xp 17 rfl (λw=>aa dV rfl rfl rfl rfl) (cE 18 rfl ?_))
     refine aC (cs':=[vi 0,v280]) bD rfl zs79_c4 bx169.t (aL o282.t.flat) nq (aM o282.t.flat) rfl ?_
     intro w298 ch299 bx300
     refine xp (v:=vp b172 0) 19 rfl (λw=>ae zs72_c4) (xp 20 rfl (λw=>aa dV rfl rfl rfl rfl) (cE 21 rfl ?_))
     refine aC (cs':=[vi 0,v295]) bD rfl rfl bx174.t (aL o297.t.flat) nq (aM o297.t.flat) rfl ?_
     intro w301 ch302 bx303
     refine bV (by kernel_rfl) ?_
     exact mid (v280,v295,g293) _ _ ⟨bH.t,zs10_c4,zs11_c4,Rg.t,o_done.t,r67.t,pm76.t,bx72.t,o73.t,bx83.t,bx159.t,bx162.t,bx268.t,o282.t,o297.t,bx300.t,bx303⟩
    intro nd289
    refine cU (σ:=Value×ax) [13,12,8,7,11,10,9,6,5,4,3,2,1,0] 8 (λ⟨v314,gq⟩ f w=>aW w0 gq w/\f 10=vp b167 0/\f 11=vp b172 0/\f 71=vp b167 0/\f 72=vp b172 0/\f 79=v314/\f 83=O2_c4_v/\f 84=vg [vi ju,vi jv,vi (-1),vi nm]/\Sl gq (is 0) w g_v g.2/\Ow gq (is 14) (is 14) w done_v done/\Ow gq (is 7) (is 7) w (bP todo_v 1 (Int.toNat 0) (Int.toNat ((todo.length:Int)-1))) (List.take (Int.toNat ((todo.length:Int)-1)) todo)/\dl gq 6 (pmA.1.idxOf (gI todo ((todo.length:Int)-1))) w pmA.1 pmA.2/\Bx gq (is 9) w (gI todo ((todo.length:Int)-1)).n [vi KB,v71]/\Ow gq (is 10) (is 10) w v71 PB/\Bx gq (is 11) w b81 [Value.pointer (some ⟨(gI todo ((todo.length:Int)-1)).n,0,none⟩)]/\Bx gq (is 17) w b149 [vi ((cD PB).1)]/\Bx gq (is 18) w b154 [vi ((cD PB).2.1)]/\Bx gq (is 19) w b167 [vi 0,O1_c4_v]/\Bx gq (is 20) w b172 [vi 0,O2_c4_v]/\Ow gq (is 25) (is 25) w O2_c4_v O2_c4/\Bx gq (is 8) w b52 [vi (nm+1),done_v,(bP todo_v 1 (Int.toNat 0) (Int.toNat ((todo.length:Int)-1)))]/\Ow gq (is 23) (is 23) w v314 (O1_c4++([(ju,jv,-1,nm)]:List Bd))) ?_ ?_
    ·
     rintro⟨v314,g321⟩ f319 w320 ⟨bH,zs10_c4,zs11_c4,zs71_c4,zs72_c4,zs79_c4,zs83_c4,zs84_c4,Rg,o_done,r67,pm76,bx72,o73,bx83,bx159,bx162,bx169,bx174,o_O2_c4,bx268,o316⟩
     refine cE 14 rfl (kJ (γ:=g321) 28 ju jv (-1) nm cM aI (hp:=zs84_c4) ?_)
     intro g322 w323 v324 ch325 o326
     exact bC (by kernel_rfl) (nd289 (v314,v324,g322) _ _ ⟨bH.t,zs10_c4,zs11_c4,zs71_c4,zs72_c4,zs79_c4,zs83_c4,rfl,Rg.t,o_done.t,r67.t,pm76.t,bx72.t,o73.t,bx83.t,bx159.t,bx162.t,bx169.t,bx174.t,o_O2_c4.t,bx268.t,o316.t,o326⟩)
    intro nd318
    refine cU (σ:=Value×Value×ax) [14,13,8,7,11,10,9,6,5,4,3,2,1,0] 8 (λ⟨v336,v341,gq⟩ f w=>aW w0 gq w/\f 10=vp b167 0/\f 11=vp b172 0/\f 71=vp b167 0/\f 72=vp b172 0/\f 79=v336/\f 82=vp b172 1/\f 85=v341/\Sl gq (is 0) w g_v g.2/\Ow gq (is 14) (is 14) w done_v done/\Ow gq (is 7) (is 7) w (bP todo_v 1 (Int.toNat 0) (Int.toNat ((todo.length:Int)-1))) (List.take (Int.toNat ((todo.length:Int)-1)) todo)/\dl gq 6 (pmA.1.idxOf (gI todo ((todo.length:Int)-1))) w pmA.1 pmA.2/\Bx gq (is 9) w (gI todo ((todo.length:Int)-1)).n [vi KB,v71]/\Ow gq (is 10) (is 10) w v71 PB/\Bx gq (is 11) w b81 [Value.pointer (some ⟨(gI todo ((todo.length:Int)-1)).n,0,none⟩)]/\Bx gq (is 17) w b149 [vi ((cD PB).1)]/\Bx gq (is 18) w b154 [vi ((cD PB).2.1)]/\Bx gq (is 19) w b167 [vi 0,O1_c4_v]/\Bx gq (is 20) w b172 [vi 0,O2_c4_v]/\Ow gq (is 25) (is 25) w O2_c4_v O2_c4/\Bx gq (is 8) w b52 [vi (nm+1),done_v,(bP todo_v 1 (Int.toNat 0) (Int.toNat ((todo.length:Int)-1)))]/\Ow gq (is 23) (is 23) w v336 (O1_c4++([(ju,jv,-1,nm)]:List Bd))/\Ow gq (is 28) (is 28) w v341 ([(ju,jv,-1,nm)]:List Bd)) ?_ ?_
    ·
     rintro⟨v336,v341,g347⟩ f345 w346 ⟨bH,zs10_c4,zs11_c4,zs71_c4,zs72_c4,zs79_c4,zs82_c4,zs85_c4,Rg,o_done,r67,pm76,bx72,o73,bx83,bx159,bx162,bx169,bx174,o_O2_c4,bx268,o338,o343⟩
     refine cE 12 rfl (ao (v:=O2_c4_v) (a8 bD zs82_c4 bx174 rfl) ?_)
     exact bC (by kernel_rfl) (nd289 (v336,v341,g347) _ _ ⟨bH,zs10_c4,zs11_c4,zs71_c4,zs72_c4,zs79_c4,rfl,zs85_c4,Rg,o_done,r67,pm76,bx72,o73,bx83,bx159,bx162,bx169,bx174,o_O2_c4,bx268,o338,o343⟩)
    intro nd344
    refine cU (σ:=Value×Value×ax) [14,13,12,7,11,10,9,6,5,4,3,2,1,0] 8 (λ⟨v351,v357,gq⟩ f w=>aW w0 gq w/\f 10=vp b167 0/\f 11=vp b172 0/\f 71=vp b167 0/\f 72=vp b172 0/\f 76=O1_c4_v/\f 78=v351/\f 83=O2_c4_v/\f 85=v357/\Sl gq (is 0) w g_v g.2/\Ow gq (is 14) (is 14) w done_v done/\Ow gq (is 7) (is 7) w (bP todo_v 1 (Int.toNat 0) (Int.toNat ((todo.length:Int)-1))) (List.take (Int.toNat ((todo.length:Int)-1)) todo)/\dl gq 6 (pmA.1.idxOf (gI todo ((todo.length:Int)-1))) w pmA.1 pmA.2/\Bx gq (is 9) w (gI todo ((todo.length:Int)-1)).n [vi KB,v71]/\Ow gq (is 10) (is 10) w v71 PB/\Bx gq (is 11) w b81 [Value.pointer (some ⟨(gI todo ((todo.length:Int)-1)).n,0,none⟩)]/\Bx gq (is 17) w b149 [vi ((cD PB).1)]/\Bx gq (is 18) w b154 [vi ((cD PB).2.1)]/\Bx gq (is 19) w b167 [vi 0,O1_c4_v]/\Bx gq (is 20) w b172 [vi 0,O2_c4_v]/\Ow gq (is 23) (is 23) w O1_c4_v O1_c4/\Ow gq (is 25) (is 25) w O2_c4_v O2_c4/\Bx gq (is 8) w b52 [vi (nm+1),done_v,(bP todo_v 1 (Int.toNat 0) (Int.toNat ((todo.length:Int)-1)))]/\Ow gq (is 27) (is 27) w v351 ([(ju,jv,-1,nm)]:List Bd)/\Ow gq (is 28) (is 28) w v357 ([(ju,jv,-1,nm)]:List Bd)) ?_ ?_
    ·
     rintro⟨v351,v357,g363⟩ f361 w362 ⟨bH,zs10_c4,zs11_c4,zs71_c4,zs72_c4,zs76_c4,zs78_c4,zs83_c4,zs85_c4,Rg,o_done,r67,pm76,bx72,o73,bx83,bx159,bx162,bx169,bx174,o_O1_c4,o_O2_c4,bx268,o353,o359⟩
     refine cE 8 rfl (aS (α:=Bd) (xs:=O1_c4) (ys:=([(ju,jv,-1,nm)]:List Bd)) g363 (J:=is 23) (S:=is 23) (23,0) rfl cM aI (by decide) rfl zs76_c4 zs78_c4 o_O1_c4 o353.flat (by decide) (by(simp;omega)) ?_)
     intro g364 w365 v366 ch367 o368
     exact bC (by kernel_rfl) (nd289 (v366,v357,g364) _ _ ⟨bH.t,zs10_c4,zs11_c4,zs71_c4,zs72_c4,rfl,zs83_c4,zs85_c4,Rg.t,o_done.t,r67.t,pm76.t,bx72.t,o73.t,bx83.t,bx159.t,bx162.t,bx169.t,bx174.t,o_O2_c4.t,bx268.t,o368,o359.t⟩)
    intro nd360
    refine cU (σ:=Value×ax) [12,8,7,11,10,9,6,5,4,3,2,1,0] 9 (λ⟨v378,gq⟩ f w=>aW w0 gq w/\f 10=vp b167 0/\f 11=vp b172 0/\f 14=vp b260 0/\f 71=vp b167 0/\f 72=vp b172 0/\f 79=v378/\f 83=O2_c4_v/\Sl gq (is 0) w g_v g.2/\Ow gq (is 14) (is 14) w done_v done/\Ow gq (is 7) (is 7) w (bP todo_v 1 (Int.toNat 0) (Int.toNat ((todo.length:Int)-1))) (List.take (Int.toNat ((todo.length:Int)-1)) todo)/\dl gq 6 (pmA.1.idxOf (gI todo ((todo.length:Int)-1))) w pmA.1 pmA.2/\Bx gq (is 9) w (gI todo ((todo.length:Int)-1)).n [vi KB,v71]/\Ow gq (is 10) (is 10) w v71 PB/\Bx gq (is 11) w b81 [Value.pointer (some ⟨(gI todo ((todo.length:Int)-1)).n,0,none⟩)]/\Bx gq (is 17) w b149 [vi ((cD PB).1)]/\Bx gq (is 18) w b154 [vi ((cD PB).2.1)]/\Bx gq (is 19) w b167 [vi 0,O1_c4_v]/\Bx gq (is 20) w b172 [vi 0,O2_c4_v]/\Ow gq (is 25) (is 25) w O2_c4_v O2_c4/\Bx gq (is 26) w b260 [vi ju,vi jv,vi (-1),vi nm]/\Bx gq (is 8) w b52 [vi (nm+1),done_v,(bP todo_v 1 (Int.toNat 0) (Int.toNat ((todo.length:Int)-1)))]/\Ow gq (is 23) (is 23) w v378 (O1_c4++([(ju,jv,-1,nm)]:List Bd))) ?_ ?_
    ·
     rintro⟨v378,g385⟩ f383 w384 ⟨bH,zs10_c4,zs11_c4,zs14_c4,zs71_c4,zs72_c4,zs79_c4,zs83_c4,Rg,o_done,r67,pm76,bx72,o73,bx83,bx159,bx162,bx169,bx174,o_O2_c4,bx265,bx268,o380⟩
     refine cE 13 rfl (ao (v:=vg [vi ju,vi jv,vi (-1),vi nm]) (av (ds:=[vi ju,vi jv,vi (-1),vi nm]) aI zs14_c4 bx265 rfl rfl) ?_)
     exact bC (by kernel_rfl) (nd318 (v378,g385) _ _ ⟨bH,zs10_c4,zs11_c4,zs71_c4,zs72_c4,zs79_c4,zs83_c4,rfl,Rg,o_done,r67,pm76,bx72,o73,bx83,bx159,bx162,bx169,bx174,o_O2_c4,bx268,o380⟩)
    intro nd382
    refine cU (σ:=Value×ax) [13,8,7,11,10,9,6,5,4,3,2,1,0] 9 (λ⟨v395,gq⟩ f w=>aW w0 gq w/\f 10=vp b167 0/\f 11=vp b172 0/\f 71=vp b167 0/\f 72=vp b172 0/\f 79=v395/\f 82=vp b172 1/\f 84=vg [vi ju,vi jv,vi (-1),vi nm]/\Sl gq (is 0) w g_v g.2/\Ow gq (is 14) (is 14) w done_v done/\Ow gq (is 7) (is 7) w (bP todo_v 1 (Int.toNat 0) (Int.toNat ((todo.length:Int)-1))) (List.take (Int.toNat ((todo.length:Int)-1)) todo)/\dl gq 6 (pmA.1.idxOf (gI todo ((todo.length:Int)-1))) w pmA.1 pmA.2/\Bx gq (is 9) w (gI todo ((todo.length:Int)-1)).n [vi KB,v71]/\Ow gq (is 10) (is 10) w v71 PB/\Bx gq (is 11) w b81 [Value.pointer (some ⟨(gI todo ((todo.length:Int)-1)).n,0,none⟩)]/\Bx gq (is 17) w b149 [vi ((cD PB).1)]/\Bx gq (is 18) w b154 [vi ((cD PB).2.1)]/\Bx gq (is 19) w b167 [vi 0,O1_c4_v]/\Bx gq (is 20) w b172 [vi 0,O2_c4_v]/\Ow gq (is 25) (is 25) w O2_c4_v O2_c4/\Bx gq (is 8) w b52 [vi (nm+1),done_v,(bP todo_v 1 (Int.toNat 0) (Int.toNat ((todo.length:Int)-1)))]/\Ow gq (is 23) (is 23) w v395 (O1_c4++([(ju,jv,-1,nm)]:List Bd))) ?_ ?_
    ·
     rintro⟨v395,g401⟩ f399 w400 ⟨bH,zs10_c4,zs11_c4,zs71_c4,zs72_c4,zs79_c4,zs82_c4,zs84_c4,Rg,o_done,r67,pm76,bx72,o73,bx83,bx159,bx162,bx169,bx174,o_O2_c4,bx268,o397⟩
     refine de 12 14 rfl rfl (by kernel_rfl) rfl rfl ?_ ?_
     ·
      refine ao (v:=O2_c4_v) (a8 bD zs82_c4 bx174 rfl) ?_
      exact bC (by kernel_rfl) (nd318 (v395,g401) _ _ ⟨bH,zs10_c4,zs11_c4,zs71_c4,zs72_c4,zs79_c4,rfl,zs84_c4,Rg,o_done,r67,pm76,bx72,o73,bx83,bx159,bx162,bx169,bx174,o_O2_c4,bx268,o397⟩)
     ·
      refine kJ (γ:=g401) 28 ju jv (-1) nm cM aI (hp:=zs84_c4) ?_
      intro g402 w403 v404 ch405 o406
      exact bC (by kernel_rfl) (nd344 (v395,v404,g402) _ _ ⟨bH.t,zs10_c4,zs11_c4,zs71_c4,zs72_c4,zs79_c4,zs82_c4,rfl,Rg.t,o_done.t,r67.t,pm76.t,bx72.t,o73.t,bx83.t,bx159.t,bx162.t,bx169.t,bx174.t,o_O2_c4.t,bx268.t,o397.t,o406⟩)
    intro nd398
    refine cU (σ:=Value×ax) [13,12,7,11,10,9,6,5,4,3,2,1,0] 9 (λ⟨v410,gq⟩ f w=>aW w0 gq w/\f 10=vp b167 0/\f 11=vp b172 0/\f 71=vp b167 0/\f 72=vp b172 0/\f 76=O1_c4_v/\f 78=v410/\f 83=O2_c4_v/\f 84=vg [vi ju,vi jv,vi (-1),vi nm]/\Sl gq (is 0) w g_v g.2/\Ow gq (is 14) (is 14) w done_v done/\Ow gq (is 7) (is 7) w (bP todo_v 1 (Int.toNat 0) (Int.toNat ((todo.length:Int)-1))) (List.take (Int.toNat ((todo.length:Int)-1)) todo)/\dl gq 6 (pmA.1.idxOf (gI todo ((todo.length:Int)-1))) w pmA.1 pmA.2/\Bx gq (is 9) w (gI todo ((todo.length:Int)-1)).n [vi KB,v71]/\Ow gq (is 10) (is 10) w v71 PB/\Bx gq (is 11) w b81 [Value.pointer (some ⟨(gI todo ((todo.length:Int)-1)).n,0,none⟩)]/\Bx gq (is 17) w b149 [vi ((cD PB).1)]/\Bx gq (is 18) w b154 [vi ((cD PB).2.1)]/\Bx gq (is 19) w b167 [vi 0,O1_c4_v]/\Bx gq (is 20) w b172 [vi 0,O2_c4_v]/\Ow gq (is 23) (is 23) w O1_c4_v O1_c4/\Ow gq (is 25) (is 25) w O2_c4_v O2_c4/\Bx gq (is 8) w b52 [vi (nm+1),done_v,(bP todo_v 1 (Int.toNat 0) (Int.toNat ((todo.length:Int)-1)))]/\Ow gq (is 27) (is 27) w v410 ([(ju,jv,-1,nm)]:List Bd)) ?_ ?_
    ·
     rintro⟨v410,g417⟩ f415 w416 ⟨bH,zs10_c4,zs11_c4,zs71_c4,zs72_c4,zs76_c4,zs78_c4,zs83_c4,zs84_c4,Rg,o_done,r67,pm76,bx72,o73,bx83,bx159,bx162,bx169,bx174,o_O1_c4,o_O2_c4,bx268,o412⟩
     refine de 8 14 rfl rfl (by kernel_rfl) rfl rfl ?_ ?_
     ·
      refine aS (α:=Bd) (xs:=O1_c4) (ys:=([(ju,jv,-1,nm)]:List Bd)) g417 (J:=is 23) (S:=is 23) (23,0) rfl cM aI (by decide) rfl zs76_c4 zs78_c4 o_O1_c4 o412.flat (by decide) (by(simp;omega)) ?_
      intro g418 w419 v420 ch421 o422
      exact bC (by kernel_rfl) (nd318 (v420,g418) _ _ ⟨bH.t,zs10_c4,zs11_c4,zs71_c4,zs72_c4,rfl,zs83_c4,zs84_c4,Rg.t,o_done.t,r67.t,pm76.t,bx72.t,o73.t,bx83.t,bx159.t,bx162.t,bx169.t,bx174.t,o_O2_c4.t,bx268.t,o422⟩)
     ·
      refine kJ (γ:=g417) 28 ju jv (-1) nm cM aI (hp:=zs84_c4) ?_
      intro g423 w424 v425 ch426 o427
      exact bC (by kernel_rfl) (nd360 (v410,v425,g423) _ _ ⟨bH.t,zs10_c4,zs11_c4,zs71_c4,zs72_c4,zs76_c4,zs78_c4,zs83_c4,rfl,Rg.t,o_done.t,r67.t,pm76.t,bx72.t,o73.t,bx83.t,bx159.t,bx162.t,bx169.t,bx174.t,o_O1_c4.t,o_O2_c4.t,bx268.t,o412.t,o427⟩)
    intro nd414
    refine cU (σ:=Value×Value×ax) [14,13,7,11,10,9,6,5,4,3,2,1,0] 9 (λ⟨v431,v436,gq⟩ f w=>aW w0 gq w/\f 10=vp b167 0/\f 11=vp b172 0/\f 71=vp b167 0/\f 72=vp b172 0/\f 76=O1_c4_v/\f 78=v431/\f 82=vp b172 1/\f 85=v436/\Sl gq (is 0) w g_v g.2/\Ow gq (is 14) (is 14) w done_v done/\Ow gq (is 7) (is 7) w (bP todo_v 1 (Int.toNat 0) (Int.toNat ((todo.length:Int)-1))) (List.take (Int.toNat ((todo.length:Int)-1)) todo)/\dl gq 6 (pmA.1.idxOf (gI todo ((todo.length:Int)-1))) w pmA.1 pmA.2/\Bx gq (is 9) w (gI todo ((todo.length:Int)-1)).n [vi KB,v71]/\Ow gq (is 10) (is 10) w v71 PB/\Bx gq (is 11) w b81 [Value.pointer (some ⟨(gI todo ((todo.length:Int)-1)).n,0,none⟩)]/\Bx gq (is 17) w b149 [vi ((cD PB).1)]/\Bx gq (is 18) w b154 [vi ((cD PB).2.1)]/\Bx gq (is 19) w b167 [vi 0,O1_c4_v]/\Bx gq (is 20) w b172 [vi 0,O2_c4_v]/\Ow gq (is 23) (is 23) w O1_c4_v O1_c4/\Ow gq (is 25) (is 25) w O2_c4_v O2_c4/\Bx gq (is 8) w b52 [vi (nm+1),done_v,(bP todo_v 1 (Int.toNat 0) (Int.toNat ((todo.length:Int)-1)))]/\Ow gq (is 27) (is 27) w v431 ([(ju,jv,-1,nm)]:List Bd)/\Ow gq (is 28) (is 28) w v436 ([(ju,jv,-1,nm)]:List Bd)) ?_ ?_
    ·
     rintro⟨v431,v436,g442⟩ f440 w441 ⟨bH,zs10_c4,zs11_c4,zs71_c4,zs72_c4,zs76_c4,zs78_c4,zs82_c4,zs85_c4,Rg,o_done,r67,pm76,bx72,o73,bx83,bx159,bx162,bx169,bx174,o_O1_c4,o_O2_c4,bx268,o433,o438⟩
     refine de 8 12 rfl rfl (by kernel_rfl) rfl rfl ?_ ?_
     ·
      refine aS (α:=Bd) (xs:=O1_c4) (ys:=([(ju,jv,-1,nm)]:List Bd)) g442 (J:=is 23) (S:=is 23) (23,0) rfl cM aI (by decide) rfl zs76_c4 zs78_c4 o_O1_c4 o433.flat (by decide) (by(simp;omega)) ?_
      intro g443 w444 v445 ch446 o447
      exact bC (by kernel_rfl) (nd344 (v445,v436,g443) _ _ ⟨bH.t,zs10_c4,zs11_c4,zs71_c4,zs72_c4,rfl,zs82_c4,zs85_c4,Rg.t,o_done.t,r67.t,pm76.t,bx72.t,o73.t,bx83.t,bx159.t,bx162.t,bx169.t,bx174.t,o_O2_c4.t,bx268.t,o447,o438.t⟩)
     ·
      refine ao (v:=O2_c4_v) (a8 bD zs82_c4 bx174 rfl) ?_
      exact bC (by kernel_rfl) (nd360 (v431,v436,g442) _ _ ⟨bH,zs10_c4,zs11_c4,zs71_c4,zs72_c4,zs76_c4,zs78_c4,rfl,zs85_c4,Rg,o_done,r67,pm76,bx72,o73,bx83,bx159,bx162,bx169,bx174,o_O1_c4,o_O2_c4,bx268,o433,o438⟩)
    intro nd439
    refine cU (σ:=Value×ax) [14,13,12,11,10,9,6,5,4,3,2,1,0] 9 (λ⟨v451,gq⟩ f w=>aW w0 gq w/\f 10=vp b167 0/\f 11=vp b172 0/\f 71=vp b167 0/\f 72=vp b172 0/\f 76=O1_c4_v/\f 77=vg [vi ju,vi jv,vi (-1),vi nm]/\f 83=O2_c4_v/\f 85=v451/\Sl gq (is 0) w g_v g.2/\Ow gq (is 14) (is 14) w done_v done/\Ow gq (is 7) (is 7) w (bP todo_v 1 (Int.toNat 0) (Int.toNat ((todo.length:Int)-1))) (List.take (Int.toNat ((todo.length:Int)-1)) todo)/\dl gq 6 (pmA.1.idxOf (gI todo ((todo.length:Int)-1))) w pmA.1 pmA.2/\Bx gq (is 9) w (gI todo ((todo.length:Int)-1)).n [vi KB,v71]/\Ow gq (is 10) (is 10) w v71 PB/\Bx gq (is 11) w b81 [Value.pointer (some ⟨(gI todo ((todo.length:Int)-1)).n,0,none⟩)]/\Bx gq (is 17) w b149 [vi ((cD PB).1)]/\Bx gq (is 18) w b154 [vi ((cD PB).2.1)]/\Bx gq (is 19) w b167 [vi 0,O1_c4_v]/\Bx gq (is 20) w b172 [vi 0,O2_c4_v]/\Ow gq (is 23) (is 23) w O1_c4_v O1_c4/\Ow gq (is 25) (is 25) w O2_c4_v O2_c4/\Bx gq (is 8) w b52 [vi (nm+1),done_v,(bP todo_v 1 (Int.toNat 0) (Int.toNat ((todo.length:Int)-1)))]/\Ow gq (is 28) (is 28) w v451 ([(ju,jv,-1,nm)]:List Bd)) ?_ ?_
    ·
     rintro⟨v451,g457⟩ f455 w456 ⟨bH,zs10_c4,zs11_c4,zs71_c4,zs72_c4,zs76_c4,zs77_c4,zs83_c4,zs85_c4,Rg,o_done,r67,pm76,bx72,o73,bx83,bx159,bx162,bx169,bx174,o_O1_c4,o_O2_c4,bx268,o453⟩
     refine cE 7 rfl (kJ (γ:=g457) 27 ju jv (-1) nm cM aI (hp:=zs77_c4) ?_)
     intro g458 w459 v460 ch461 o462
     exact bC (by kernel_rfl) (nd360 (v460,v451,g458) _ _ ⟨bH.t,zs10_c4,zs11_c4,zs71_c4,zs72_c4,zs76_c4,rfl,zs83_c4,zs85_c4,Rg.t,o_done.t,r67.t,pm76.t,bx72.t,o73.t,bx83.t,bx159.t,bx162.t,bx169.t,bx174.t,o_O1_c4.t,o_O2_c4.t,bx268.t,o462,o453.t⟩)
    intro nd454
    refine cU (σ:=Value×ax) [12,7,11,10,9,6,5,4,3,2,1,0] 10 (λ⟨v466,gq⟩ f w=>aW w0 gq w/\f 10=vp b167 0/\f 11=vp b172 0/\f 14=vp b260 0/\f 71=vp b167 0/\f 72=vp b172 0/\f 76=O1_c4_v/\f 78=v466/\f 83=O2_c4_v/\Sl gq (is 0) w g_v g.2/\Ow gq (is 14) (is 14) w done_v done/\Ow gq (is 7) (is 7) w (bP todo_v 1 (Int.toNat 0) (Int.toNat ((todo.length:Int)-1))) (List.take (Int.toNat ((todo.length:Int)-1)) todo)/\dl gq 6 (pmA.1.idxOf (gI todo ((todo.length:Int)-1))) w pmA.1 pmA.2/\Bx gq (is 9) w (gI todo ((todo.length:Int)-1)).n [vi KB,v71]/\Ow gq (is 10) (is 10) w v71 PB/\Bx gq (is 11) w b81 [Value.pointer (some ⟨(gI todo ((todo.length:Int)-1)).n,0,none⟩)]/\Bx gq (is 17) w b149 [vi ((cD PB).1)]/\Bx gq (is 18) w b154 [vi ((cD PB).2.1)]/\Bx gq (is 19) w b167 [vi 0,O1_c4_v]/\Bx gq (is 20) w b172 [vi 0,O2_c4_v]/\Ow gq (is 23) (is 23) w O1_c4_v O1_c4/\Ow gq (is 25) (is 25) w O2_c4_v O2_c4/\Bx gq (is 26) w b260 [vi ju,vi jv,vi (-1),vi nm]/\Bx gq (is 8) w b52 [vi (nm+1),done_v,(bP todo_v 1 (Int.toNat 0) (Int.toNat ((todo.length:Int)-1)))]/\Ow gq (is 27) (is 27) w v466 ([(ju,jv,-1,nm)]:List Bd)) ?_ ?_
    ·
     rintro⟨v466,g473⟩ f471 w472 ⟨bH,zs10_c4,zs11_c4,zs14_c4,zs71_c4,zs72_c4,zs76_c4,zs78_c4,zs83_c4,Rg,o_done,r67,pm76,bx72,o73,bx83,bx159,bx162,bx169,bx174,o_O1_c4,o_O2_c4,bx265,bx268,o468⟩
     refine de 8 13 rfl rfl (by kernel_rfl) rfl rfl ?_ ?_
     ·
      refine aS (α:=Bd) (xs:=O1_c4) (ys:=([(ju,jv,-1,nm)]:List Bd)) g473 (J:=is 23) (S:=is 23) (23,0) rfl cM aI (by decide) rfl zs76_c4 zs78_c4 o_O1_c4 o468.flat (by decide) (by(simp;omega)) ?_
      intro g474 w475 v476 ch477 o478
      exact bC (by kernel_rfl) (nd382 (v476,g474) _ _ ⟨bH.t,zs10_c4,zs11_c4,zs14_c4,zs71_c4,zs72_c4,rfl,zs83_c4,Rg.t,o_done.t,r67.t,pm76.t,bx72.t,o73.t,bx83.t,bx159.t,bx162.t,bx169.t,bx174.t,o_O2_c4.t,bx265.t,bx268.t,o478⟩)
     ·
      refine ao (v:=vg [vi ju,vi jv,vi (-1),vi nm]) (av (ds:=[vi ju,vi jv,vi (-1),vi nm]) aI zs14_c4 bx265 rfl rfl) ?_
      exact bC (by kernel_rfl) (nd414 (v466,g473) _ _ ⟨bH,zs10_c4,zs11_c4,zs71_c4,zs72_c4,zs76_c4,zs78_c4,zs83_c4,rfl,Rg,o_done,r67,pm76,bx72,o73,bx83,bx159,bx162,bx169,bx174,o_O1_c4,o_O2_c4,bx268,o468⟩)
    intro nd470
    refine cU (σ:=Value×ax) [13,7,11,10,9,6,5,4,3,2,1,0] 10 (λ⟨v482,gq⟩ f w=>aW w0 gq w/\f 10=vp b167 0/\f 11=vp b172 0/\f 71=vp b167 0/\f 72=vp b172 0/\f 76=O1_c4_v/\f 78=v482/\f 82=vp b172 1/\f 84=vg [vi ju,vi jv,vi (-1),vi nm]/\Sl gq (is 0) w g_v g.2/\Ow gq (is 14) (is 14) w done_v done/\Ow gq (is 7) (is 7) w (bP todo_v 1 (Int.toNat 0) (Int.toNat ((todo.length:Int)-1))) (List.take (Int.toNat ((todo.length:Int)-1)) todo)/\dl gq 6 (pmA.1.idxOf (gI todo ((todo.length:Int)-1))) w pmA.1 pmA.2/\Bx gq (is 9) w (gI todo ((todo.length:Int)-1)).n [vi KB,v71]/\Ow gq (is 10) (is 10) w v71 PB/\Bx gq (is 11) w b81 [Value.pointer (some ⟨(gI todo ((todo.length:Int)-1)).n,0,none⟩)]/\Bx gq (is 17) w b149 [vi ((cD PB).1)]/\Bx gq (is 18) w b154 [vi ((cD PB).2.1)]/\Bx gq (is 19) w b167 [vi 0,O1_c4_v]/\Bx gq (is 20) w b172 [vi 0,O2_c4_v]/\Ow gq (is 23) (is 23) w O1_c4_v O1_c4/\Ow gq (is 25) (is 25) w O2_c4_v O2_c4/\Bx gq (is 8) w b52 [vi (nm+1),done_v,(bP todo_v 1 (Int.toNat 0) (Int.toNat ((todo.length:Int)-1)))]/\Ow gq (is 27) (is 27) w v482 ([(ju,jv,-1,nm)]:List Bd)) ?_ ?_
    ·
     rintro⟨v482,g488⟩ f486 w487 ⟨bH,zs10_c4,zs11_c4,zs71_c4,zs72_c4,zs76_c4,zs78_c4,zs82_c4,zs84_c4,Rg,o_done,r67,pm76,bx72,o73,bx83,bx159,bx162,bx169,bx174,o_O1_c4,o_O2_c4,bx268,o484⟩
     refine j0 8 [12,14] (by kernel_rfl) ⟨fU 8 rfl (by kernel_rfl) rfl ?_,fU 12 rfl (by kernel_rfl) rfl ?_,fU 14 rfl (by kernel_rfl) rfl ?_,trivial⟩
     ·
      refine aS (α:=Bd) (xs:=O1_c4) (ys:=([(ju,jv,-1,nm)]:List Bd)) g488 (J:=is 23) (S:=is 23) (23,0) rfl cM aI (by decide) rfl zs76_c4 zs78_c4 o_O1_c4 o484.flat (by decide) (by(simp;omega)) ?_
      intro g489 w490 v491 ch492 o493
      exact bC (by kernel_rfl) (nd398 (v491,g489) _ _ ⟨bH.t,zs10_c4,zs11_c4,zs71_c4,zs72_c4,rfl,zs82_c4,zs84_c4,Rg.t,o_done.t,r67.t,pm76.t,bx72.t,o73.t,bx83.t,bx159.t,bx162.t,bx169.t,bx174.t,o_O2_c4.t,bx268.t,o493⟩)
     ·
      refine ao (v:=O2_c4_v) (a8 bD zs82_c4 bx174 rfl) ?_
      exact bC (by kernel_rfl) (nd414 (v482,g488) _ _ ⟨bH,zs10_c4,zs11_c4,zs71_c4,zs72_c4,zs76_c4,zs78_c4,rfl,zs84_c4,Rg,o_done,r67,pm76,bx72,o73,bx83,bx159,bx162,bx169,bx174,o_O1_c4,o_O2_c4,bx268,o484⟩)
     ·
      refine kJ (γ:=g488) 28 ju jv (-1) nm cM aI (hp:=zs84_c4) ?_
      intro g494 w495 v496 ch497 o498
      exact bC (by kernel_rfl) (nd439 (v482,v496,g494) _ _ ⟨bH.t,zs10_c4,zs11_c4,zs71_c4,zs72_c4,zs76_c4,zs78_c4,zs82_c4,rfl,Rg.t,o_done.t,r67.t,pm76.t,bx72.t,o73.t,bx83.t,bx159.t,bx162.t,bx169.t,bx174.t,o_O1_c4.t,o_O2_c4.t,bx268.t,o484.t,o498⟩)
    intro nd485
    refine cU (σ:=ax) [13,12,11,10,9,6,5,4,3,2,1,0] 10 (λgq f w=>aW w0 gq w/\f 10=vp b167 0/\f 11=vp b172 0/\f 71=vp b167 0/\f 72=vp b172 0/\f 76=O1_c4_v/\f 77=vg [vi ju,vi jv,vi (-1),vi nm]/\f 83=O2_c4_v/\f 84=vg [vi ju,vi jv,vi (-1),vi nm]/\Sl gq (is 0) w g_v g.2/\Ow gq (is 14) (is 14) w done_v done/\Ow gq (is 7) (is 7) w (bP todo_v 1 (Int.toNat 0) (Int.toNat ((todo.length:Int)-1))) (List.take (Int.toNat ((todo.length:Int)-1)) todo)/\dl gq 6 (pmA.1.idxOf (gI todo ((todo.length:Int)-1))) w pmA.1 pmA.2/\Bx gq (is 9) w (gI todo ((todo.length:Int)-1)).n [vi KB,v71]/\Ow gq (is 10) (is 10) w v71 PB/\Bx gq (is 11) w b81 [Value.pointer (some ⟨(gI todo ((todo.length:Int)-1)).n,0,none⟩)]/\Bx gq (is 17) w b149 [vi ((cD PB).1)]/\Bx gq (is 18) w b154 [vi ((cD PB).2.1)]/\Bx gq (is 19) w b167 [vi 0,O1_c4_v]/\Bx gq (is 20) w b172 [vi 0,O2_c4_v]/\Ow gq (is 23) (is 23) w O1_c4_v O1_c4/\Ow gq (is 25) (is 25) w O2_c4_v O2_c4/\Bx gq (is 8) w b52 [vi (nm+1),done_v,(bP todo_v 1 (Int.toNat 0) (Int.toNat ((todo.length:Int)-1)))]) ?_ ?_
    ·
     rintro g503 f501 w502 ⟨bH,zs10_c4,zs11_c4,zs71_c4,zs72_c4,zs76_c4,zs77_c4,zs83_c4,zs84_c4,Rg,o_done,r67,pm76,bx72,o73,bx83,bx159,bx162,bx169,bx174,o_O1_c4,o_O2_c4,bx268⟩
     refine de 7 14 rfl rfl (by kernel_rfl) rfl rfl ?_ ?_
     ·
      refine kJ (γ:=g503) 27 ju jv (-1) nm cM aI (hp:=zs77_c4) ?_
      intro g504 w505 v506 ch507 o508
      exact bC (by kernel_rfl) (nd414 (v506,g504) _ _ ⟨bH.t,zs10_c4,zs11_c4,zs71_c4,zs72_c4,zs76_c4,rfl,zs83_c4,zs84_c4,Rg.t,o_done.t,r67.t,pm76.t,bx72.t,o73.t,bx83.t,bx159.t,bx162.t,bx169.t,bx174.t,o_O1_c4.t,o_O2_c4.t,bx268.t,o508⟩)
     ·
      refine kJ (γ:=g503) 28 ju jv (-1) nm cM aI (hp:=zs84_c4) ?_
      intro g509 w510 v511 ch512 o513
      exact bC (by kernel_rfl) (nd454 (v511,g509) _ _ ⟨bH.t,zs10_c4,zs11_c4,zs71_c4,zs72_c4,zs76_c4,zs77_c4,zs83_c4,rfl,Rg.t,o_done.t,r67.t,pm76.t,bx72.t,o73.t,bx83.t,bx159.t,bx162.t,bx169.t,bx174.t,o_O1_c4.t,o_O2_c4.t,bx268.t,o513⟩)
    intro nd500
    refine xp (v:=vp b167 0) 0 rfl (λw=>ar zs10_c4) (xp (v:=vp b172 0) 1 rfl (λw=>ar zs11_c4) (xp (v:=vp b167 0) 2 rfl (λw=>ar zs10_c4) (xp (v:=vp b167 0) 3 rfl (λw=>ae rfl) (xp 4 rfl (λw=>aa dV rfl rfl rfl rfl) ?_))))
    refine xh 5 [4,3,2,1,0,6,9,13,7,10,14,11,12] rfl (λw' hw'=>a8 bD rfl (bx169.t.bel hw') rfl) ?_
    refine xh 6 [5,4,3,2,1,0,9,13,10,14,11,12] rfl (λw' hw'=>av (ds:=[vi ju,vi jv,vi (-1),vi nm]) aI rfl (bx265.t.bel hw') rfl rfl) (xp (v:=vp b172 0) 9 rfl (λw=>ar zs11_c4) (xp (v:=vp b172 0) 10 rfl (λw=>ae rfl) (xp 11 rfl (λw=>aa dV rfl rfl rfl rfl) ?_)))
    refine j0 7 [12,13] (by kernel_rfl) ⟨fU 7 rfl (by kernel_rfl) rfl ?_,fU 12 rfl (by kernel_rfl) rfl ?_,fU 13 rfl (by kernel_rfl) rfl ?_,trivial⟩
    ·
     refine kJ (γ:=g261) 27 ju jv (-1) nm cM aI ?_
     intro g515 w516 v517 ch518 o519
     refine j0 8 [12,13] (by kernel_rfl) ⟨fU 8 rfl (by kernel_rfl) rfl ?_,fU 12 rfl (by kernel_rfl) rfl ?_,fU 13 rfl (by kernel_rfl) rfl ?_,trivial⟩
     ·
      refine iJ o_O1_c4.t o519.flat cM aI (by(simp;omega)) ?_
      intro g521 w522 v523 ch524 o525
      refine de 12 13 rfl rfl (by kernel_rfl) rfl rfl ?_ ?_
      ·
       refine ao (v:=O2_c4_v) (a8 bD rfl bx174.t rfl) ?_
       exact bC (by kernel_rfl) (nd382 (v523,g521) _ _ ⟨bH.t,zs10_c4,zs11_c4,rfl,rfl,rfl,rfl,rfl,Rg.t,o_done.t,r67.t,pm76.t,bx72.t,o73.t,bx83.t,bx159.t,bx162.t,bx169.t,bx174.t,o_O2_c4.t,bx265.t,bx268.t,o525⟩)
      ·
       refine ao (v:=vg [vi ju,vi jv,vi (-1),vi nm]) (av (ds:=[vi ju,vi jv,vi (-1),vi nm]) aI rfl bx265.t rfl rfl) ?_
       exact bC (by kernel_rfl) (nd398 (v523,g521) _ _ ⟨bH.t,zs10_c4,zs11_c4,rfl,rfl,rfl,rfl,rfl,Rg.t,o_done.t,r67.t,pm76.t,bx72.t,o73.t,bx83.t,bx159.t,bx162.t,bx169.t,bx174.t,o_O2_c4.t,bx268.t,o525⟩)
     ·
      refine ao (v:=O2_c4_v) (a8 bD rfl bx174.t rfl) ?_
      exact bC (by kernel_rfl) (nd470 (v517,g515) _ _ ⟨bH.t,zs10_c4,zs11_c4,rfl,rfl,rfl,rfl,rfl,rfl,Rg.t,o_done.t,r67.t,pm76.t,bx72.t,o73.t,bx83.t,bx159.t,bx162.t,bx169.t,bx174.t,o_O1_c4.t,o_O2_c4.t,bx265.t,bx268.t,o519⟩)
     ·
      refine ao (v:=vg [vi ju,vi jv,vi (-1),vi nm]) (av (ds:=[vi ju,vi jv,vi (-1),vi nm]) aI rfl bx265.t rfl rfl) ?_
      exact bC (by kernel_rfl) (nd485 (v517,g515) _ _ ⟨bH.t,zs10_c4,zs11_c4,rfl,rfl,rfl,rfl,rfl,rfl,Rg.t,o_done.t,r67.t,pm76.t,bx72.t,o73.t,bx83.t,bx159.t,bx162.t,bx169.t,bx174.t,o_O1_c4.t,o_O2_c4.t,bx268.t,o519⟩)
    ·
     refine ao (v:=O2_c4_v) (a8 bD rfl bx174.t rfl) ?_
     refine de 7 13 rfl rfl (by kernel_rfl) rfl rfl ?_ ?_
     ·
      refine kJ (γ:=g261) 27 ju jv (-1) nm cM aI ?_
      intro g532 w533 v534 ch535 o536
      exact bC (by kernel_rfl) (nd470 (v534,g532) _ _ ⟨bH.t,zs10_c4,zs11_c4,rfl,rfl,rfl,rfl,rfl,rfl,Rg.t,o_done.t,r67.t,pm76.t,bx72.t,o73.t,bx83.t,bx159.t,bx162.t,bx169.t,bx174.t,o_O1_c4.t,o_O2_c4.t,bx265.t,bx268.t,o536⟩)
     ·
      refine ao (v:=vg [vi ju,vi jv,vi (-1),vi nm]) (av (ds:=[vi ju,vi jv,vi (-1),vi nm]) aI rfl bx265.t rfl rfl) ?_
      exact bC (by kernel_rfl) (nd500 (g261) _ _ ⟨bH.t,zs10_c4,zs11_c4,rfl,rfl,rfl,rfl,rfl,rfl,Rg.t,o_done.t,r67.t,pm76.t,bx72.t,o73.t,bx83.t,bx159.t,bx162.t,bx169.t,bx174.t,o_O1_c4.t,o_O2_c4.t,bx268.t⟩)
    ·
     refine ao (v:=vg [vi ju,vi jv,vi (-1),vi nm]) (av (ds:=[vi ju,vi jv,vi (-1),vi nm]) aI rfl bx265.t rfl rfl) ?_
     refine j0 7 [12,14] (by kernel_rfl) ⟨fU 7 rfl (by kernel_rfl) rfl ?_,fU 12 rfl (by kernel_rfl) rfl ?_,fU 14 rfl (by kernel_rfl) rfl ?_,trivial⟩
     ·
      refine kJ (γ:=g261) 27 ju jv (-1) nm cM aI ?_
      intro g538 w539 v540 ch541 o542
      exact bC (by kernel_rfl) (nd485 (v540,g538) _ _ ⟨bH.t,zs10_c4,zs11_c4,rfl,rfl,rfl,rfl,rfl,rfl,Rg.t,o_done.t,r67.t,pm76.t,bx72.t,o73.t,bx83.t,bx159.t,bx162.t,bx169.t,bx174.t,o_O1_c4.t,o_O2_c4.t,bx268.t,o542⟩)
     ·
      refine ao (v:=O2_c4_v) (a8 bD rfl bx174.t rfl) ?_
      exact bC (by kernel_rfl) (nd500 (g261) _ _ ⟨bH.t,zs10_c4,zs11_c4,rfl,rfl,rfl,rfl,rfl,rfl,Rg.t,o_done.t,r67.t,pm76.t,bx72.t,o73.t,bx83.t,bx159.t,bx162.t,bx169.t,bx174.t,o_O1_c4.t,o_O2_c4.t,bx268.t⟩)
     ·
      refine kJ (γ:=g261) 28 ju jv (-1) nm cM aI ?_
      intro g544 w545 v546 ch547 o548
      refine de 7 12 rfl rfl (by kernel_rfl) rfl rfl ?_ ?_
      ·
       refine kJ (γ:=g544) 27 ju jv (-1) nm cM aI ?_
       intro g549 w550 v551 ch552 o553
       exact bC (by kernel_rfl) (nd439 (v551,v546,g549) _ _ ⟨bH.t,zs10_c4,zs11_c4,rfl,rfl,rfl,rfl,rfl,rfl,Rg.t,o_done.t,r67.t,pm76.t,bx72.t,o73.t,bx83.t,bx159.t,bx162.t,bx169.t,bx174.t,o_O1_c4.t,o_O2_c4.t,bx268.t,o553,o548.t⟩)
      ·
       refine ao (v:=O2_c4_v) (a8 bD rfl bx174.t rfl) ?_
       exact bC (by kernel_rfl) (nd454 (v546,g544) _ _ ⟨bH.t,zs10_c4,zs11_c4,rfl,rfl,rfl,rfl,rfl,rfl,Rg.t,o_done.t,r67.t,pm76.t,bx72.t,o73.t,bx83.t,bx159.t,bx162.t,bx169.t,bx174.t,o_O1_c4.t,o_O2_c4.t,bx268.t,o548⟩)
   rintro⟨v278,v290,g559⟩ f557 w558 ⟨bH,zs10_c4,zs11_c4,Rg,o_done,r67,pm76,bx72,o73,bx83,bx159,bx162,bx268,o280,o292,bx295,bx299⟩
   refine a7 (a6 rfl (mz zs10_c4 (mz zs11_c4 (ma (vp b167 0) (ma (vp b172 0) (ab (az (vs:=[vp b167 0,vp b172 0]) Tryz.func61 (.tmp rfl (.tmp rfl .nil)) ?_)))))))
   refine⟨vt [vp b167 0,vp b172 0],rfl,?_⟩
   refine mv (vt [vp b167 0,vp b172 0]) (lx (ay rfl rfl) (lx (ay rfl rfl) (ma (vp b167 0) (ma (vp b172 0) (ab (a7 ?_))))))
   obtain⟨g560,ch561,pm562⟩:=dl.close pm76 rfl rfl rfl (u:=(gI todo ((todo.length:Int)-1))) (by exact fB hxA) bx72 o73
   obtain⟨g563,ch564,pm565⟩:=fi.add pm562 rfl rfl rfl (bx299.a ch561) (o292.a ch561)
   refine a6 rfl (mv (vp b52 0) (mv (vp b167 0) (lo (aV (aB (vals:=[vp b52 0,vp b167 0,vi 2]) Tryz.func58 kO l9 rfl) (ah Tryz.func58 rfl nq ?_)))))
   refine a7 (a6 rfl (mv (vp b167 0) (mi 2 (lw (vp b167 0) (ae rfl) (lx (aa dV rfl rfl rfl rfl) (lo ?_))))))
   refine aA (cs':=[vi 2,v278]) ap rfl rfl (bx295.a ch564) rfl nq (AllOne.all (.cons rfl .nil)) rfl ?_
   intro w566 ch567 bx568
   refine ab ?_
   obtain⟨g569,ch570,pm571⟩:=fi.add (pm565.a ch567) rfl rfl rfl bx568 (o280.a ch567)
   refine a6 rfl (mv (vp b52 0) (mv (vp b52 0) (lw (vp b52 0) (ae rfl) (lx (aa ml rfl rfl rfl rfl) ?_))))
   refine lx (a8 cX rfl (bx268.a ch570) rfl) (mv (vp b167 0) (lo (aq (α:=Pp) g569 (is 29) (is 29) (29,0) rfl ([(⟨b167⟩:Pp)]:List Pp) jH aY (by decide) (by decide) (vs:=[(0,vp b167 0)]) rfl rfl (.cons rfl .nil) ?_)))
   intro g573 w574 v575 ch576 o577
   refine lo ?_
   refine aS (α:=Pp) (xs:=done) (ys:=([(⟨b167⟩:Pp)]:List Pp)) g573 (J:=is 14) (S:=is 14) (14,0) rfl jH aY (by decide) rfl rfl rfl o_done.t o577.flat (by decide) (by(simp;omega)) ?_
   intro g579 w580 v581 ch582 o583
   refine lw (vp b52 0) (ae rfl) (lx (aa ml rfl rfl rfl rfl) (lo ?_))
   refine aC (cs':=[vi (nm+1),v581,(bP todo_v 1 (Int.toNat 0) (Int.toNat ((todo.length:Int)-1)))]) cX rfl rfl bx268.t (aL o583.flat) nq (aM o583.flat) rfl ?_
   intro w584 ch585 bx586
   refine ab (ck (vs:=[]) Tryz.func58 .nil ?_)
   refine⟨vt [],rfl,?_⟩
   refine ab (a7 ?_)
   refine a6 rfl (mv (vp b52 0) (mv (vp b52 0) (lw (vp b52 0) (ae rfl) (lx (aa ml rfl rfl rfl rfl) (lx (a8 cX rfl bx586 rfl) (mv (vp b172 0) (lo (aq (α:=Pp) g579 (is 31) (is 31) (31,0) rfl ([(⟨b172⟩:Pp)]:List Pp) jH aY (by decide) (by decide) (vs:=[(0,vp b172 0)]) rfl rfl (.cons rfl .nil) ?_))))))))
   intro g587 w588 v589 ch590 o591
   refine lo ?_
   refine aS (α:=Pp) (xs:=(List.take (Int.toNat ((todo.length:Int)-1)) todo)) (ys:=([(⟨b172⟩:Pp)]:List Pp)) g587 (J:=is 7) (S:=is 7) (7,0) rfl jH aY (by decide) rfl rfl rfl r67.t o591.flat (by decide) (by(simp;omega)) ?_
   intro g593 w594 v595 ch596 o597
   refine lw (vp b52 0) (ae rfl) (lx (aa ml rfl rfl rfl rfl) (lo ?_))
   refine aC (cs':=[vi (nm+1),v581,v595]) cX rfl rfl bx586.t (aL o597.flat) nq (aM o597.flat) rfl ?_
   intro w598 ch599 bx600
   refine ab (az (vs:=[]) Tryz.func42 .nil ?_)
   refine⟨vt [],rfl,?_⟩
   refine ab (ak ?_)
   refine back8 (v581,(done++([(⟨b167⟩:Pp)]:List Pp)),v595,((List.take (Int.toNat ((todo.length:Int)-1)) todo)++([(⟨b172⟩:Pp)]:List Pp)),nm+1,(((pmA.1,List.set pmA.2 (pmA.1.idxOf (gI todo ((todo.length:Int)-1))) (KB,PB)).1++[(⟨b172⟩:Pp)],(pmA.1,List.set pmA.2 (pmA.1.idxOf (gI todo ((todo.length:Int)-1))) (KB,PB)).2++[(0,(O2_c4++([(ju,jv,-1,nm)]:List Bd)))]).1++[(⟨b167⟩:Pp)],((pmA.1,List.set pmA.2 (pmA.1.idxOf (gI todo ((todo.length:Int)-1))) (KB,PB)).1++[(⟨b172⟩:Pp)],(pmA.1,List.set pmA.2 (pmA.1.idxOf (gI todo ((todo.length:Int)-1))) (KB,PB)).2++[(0,(O2_c4++([(ju,jv,-1,nm)]:List Bd)))]).2++[(2,(O1_c4++([(ju,jv,-1,nm)]:List Bd)))]),g593) _ _ ⟨bH.t,zs6,Rg.t,pm571.t,bx600,o583.t,o597.t,?_⟩ ?_
   · show fH (dO g) (((pmA.1,List.set pmA.2 (pmA.1.idxOf (gI todo ((todo.length:Int)-1))) (KB,PB)).1++[(⟨b172⟩:Pp)],(pmA.1,List.set pmA.2 (pmA.1.idxOf (gI todo ((todo.length:Int)-1))) (KB,PB)).2++[(0,(O2_c4++([(ju,jv,-1,nm)]:List Bd)))]).1++[(⟨b167⟩:Pp)],((pmA.1,List.set pmA.2 (pmA.1.idxOf (gI todo ((todo.length:Int)-1))) (KB,PB)).1++[(⟨b172⟩:Pp)],(pmA.1,List.set pmA.2 (pmA.1.idxOf (gI todo ((todo.length:Int)-1))) (KB,PB)).2++[(0,(O2_c4++([(ju,jv,-1,nm)]:List Bd)))]).2++[(2,(O1_c4++([(ju,jv,-1,nm)]:List Bd)))]) ((List.take (Int.toNat ((todo.length:Int)-1)) todo)++([(⟨b172⟩:Pp)]:List Pp)) (done++([(⟨b167⟩:Pp)]:List Pp)) (nm+1)
     (subst hKB;subst hPB;subst hff;subst hju;subst hjv;rw[hapd.1,hapd.2];exact hsp.two htt (λz hz=>(sF hz ‹_› ‹_› ‹_›).1) (fi.nd ‹_›) (mM (sF hzP ‹_› ‹_› ‹_›).2))
   · show mn (i7 (((pmA.1,List.set pmA.2 (pmA.1.idxOf (gI todo ((todo.length:Int)-1))) (KB,PB)).1++[(⟨b172⟩:Pp)],(pmA.1,List.set pmA.2 (pmA.1.idxOf (gI todo ((todo.length:Int)-1))) (KB,PB)).2++[(0,(O2_c4++([(ju,jv,-1,nm)]:List Bd)))]).1++[(⟨b167⟩:Pp)],((pmA.1,List.set pmA.2 (pmA.1.idxOf (gI todo ((todo.length:Int)-1))) (KB,PB)).1++[(⟨b172⟩:Pp)],(pmA.1,List.set pmA.2 (pmA.1.idxOf (gI todo ((todo.length:Int)-1))) (KB,PB)).2++[(0,(O2_c4++([(ju,jv,-1,nm)]:List Bd)))]).2++[(2,(O1_c4++([(ju,jv,-1,nm)]:List Bd)))]) ((List.take (Int.toNat ((todo.length:Int)-1)) todo)++([(⟨b172⟩:Pp)]:List Pp)))<mn (i7 pmA todo)
     (subst hKB;subst hPB;subst hff;subst hju;subst hjv;rw[hapd.1,hapd.2];exact hsp.twoM htt (fi.nd ‹_›) (mM (sF hzP ‹_› ‹_› ‹_›).2))
  refine af rfl (Bool.eq_false_iff.2 p6_c1) (am (a7 ?_))
  refine a6 rfl ?_
  refine lx (a8 aY rfl bx83.t rfl) ?_
  refine lo (bB (aB (vals:=[Value.pointer (some ⟨(gI todo ((todo.length:Int)-1)).n,0,none⟩)]) Tryz.func63 wm Af rfl) (BD w160 (gI todo ((todo.length:Int)-1)).n (vi KB) v71 PB (o73.t.flat).ro (jF bx72.t) (by omega) (by omega)) ?_)
  rintro⟨d606,v608,v610⟩ w605 ⟨fr607,o609,o611⟩
  obtain⟨g612,ch613,G612⟩:=hU g155 fr607 (λn=>if n=1 then 90 else if n=2 then 91 else 0)
  replace o609:=o609.gl G612 90
  replace o611:=o611.gl G612 91
  refine mv (vt [vg [vi ((ba PB).1),v608],v610]) (lx (ay rfl rfl) (lx (ay rfl rfl) (lo (aZ g612 (is 92) (92,0) rfl aK ?_))))
  intro g617 w614 b616 ch615 bx618
  refine lo ?_
  refine aA (cs':=[vi ((ba PB).1),v608]) aK rfl rfl bx618 rfl nq (AllOne.all (.cons rfl (.cons (aM o609.t.flat) .nil))) rfl ?_
  intro w619 ch620 bx621
  refine ma v610 (ab (a7 (a6 rfl (lx (av (ds:=[vi ((ba PB).1),v608]) aK rfl bx621 rfl rfl) ?_))))
  refine lo (bB (aB (vals:=[vg [vi ((ba PB).1),v608]]) Tryz.func64 zK AT rfl) (su w619 (ba PB) v608 (o609.t.flat).ro) ?_)
  rintro⟨d623,v625⟩ w622 ⟨fr624,o626⟩
  obtain⟨g627,ch628,G627⟩:=hU g617 fr624 (λn=>if n=1 then 93 else 0)
  replace o626:=o626.gl G627 93
  refine mv (vt [v625,vi ((aH (ba PB)).2)]) (lx (ay rfl rfl) (lx (ay rfl rfl) (ma v625 (ai ((aH (ba PB)).2) (ab (a7 (a7 (a6 rfl (mv v625 ?_)))))))))
  have len629:=(o626.flat).small
  refine lx (bG eG rfl o626.flat) (lx (dd (m:=(List.length ((aH (ba PB)).1):Int)) (n:=0) rfl rfl) (ab ?_))
  by_cases p12_c1:(List.length ((aH (ba PB)).1):Int)=0
  ·
   refine ag rfl (dt p12_c1) (a7 ?_)
   refine a6 rfl (mv (vp b52 0) ?_)
   refine lx (a8 aY rfl bx83.t rfl) (lo (aV (aB (vals:=[vp b52 0,Value.pointer (some ⟨(gI todo ((todo.length:Int)-1)).n,0,none⟩),vi 3]) Tryz.func58 kO l9 rfl) (ah Tryz.func58 rfl nq ?_)))
   refine a7 (a6 rfl (mv (Value.pointer (some ⟨(gI todo ((todo.length:Int)-1)).n,0,none⟩)) (mi 3 (lw (Value.pointer (some ⟨(gI todo ((todo.length:Int)-1)).n,0,none⟩)) (ae rfl) (lx (aa dV rfl rfl rfl rfl) (lo ?_))))))
   refine aA (cs':=[vi 3,v71]) ap rfl rfl bx72.t rfl nq (AllOne.all (.cons rfl .nil)) rfl ?_
   intro w632 ch633 bx634
   refine ab ?_
   obtain⟨g635,ch636,pm637⟩:=dl.close (pm76.a ch633) rfl rfl rfl (u:=(gI todo ((todo.length:Int)-1))) (by exact fB hxA) bx634 (o73.a ch633)
   refine a6 rfl (mv (vp b52 0) (mv (vp b52 0) (lw (vp b52 0) (ae rfl) (lx (aa ml rfl rfl rfl rfl) ?_))))
   refine lx (a8 cX rfl (bx70.a ch636) rfl) (mv (Value.pointer (some ⟨(gI todo ((todo.length:Int)-1)).n,0,none⟩)) (lo (aq (α:=Pp) g635 (is 32) (is 32) (32,0) rfl ([(gI todo ((todo.length:Int)-1))]:List Pp) jH aY (by decide) (by decide) (vs:=[(0,Value.pointer (some ⟨(gI todo ((todo.length:Int)-1)).n,0,none⟩))]) rfl rfl (.cons rfl .nil) ?_)))
   intro g640 w641 v642 ch643 o644
   refine lo ?_
   refine aS (α:=Pp) (xs:=done) (ys:=([(gI todo ((todo.length:Int)-1))]:List Pp)) g640 (J:=is 14) (S:=is 14) (14,0) rfl jH aY (by decide) rfl rfl rfl o_done.t o644.flat (by decide) (by(simp;omega)) ?_
   intro g646 w647 v648 ch649 o650
   refine lw (vp b52 0) (ae rfl) (lx (aa ml rfl rfl rfl rfl) (lo ?_))
   refine aC (cs':=[vi nm,v648,(bP todo_v 1 (Int.toNat 0) (Int.toNat ((todo.length:Int)-1)))]) cX rfl rfl bx70.t (aL o650.flat) nq (aM o650.flat) rfl ?_
   intro w651 ch652 bx653
   refine ab (ck (vs:=[]) Tryz.func58 .nil ?_)
   refine⟨vt [],rfl,?_⟩
   refine ab (az (vs:=[]) Tryz.func42 .nil ?_)
   refine⟨vt [],rfl,?_⟩
   refine ab (ak ?_)
   refine back8 (v648,(done++([(gI todo ((todo.length:Int)-1))]:List Pp)),(bP todo_v 1 (Int.toNat 0) (Int.toNat ((todo.length:Int)-1))),(List.take (Int.toNat ((todo.length:Int)-1)) todo),nm,(pmA.1,List.set pmA.2 (pmA.1.idxOf (gI todo ((todo.length:Int)-1))) (3,PB)),g646) _ _ ⟨bH.t,zs6,Rg.t,pm637.t,bx653,o650.t,r67.t,?_⟩ ?_
   · show fH (dO g) (pmA.1,List.set pmA.2 (pmA.1.idxOf (gI todo ((todo.length:Int)-1))) (3,PB)) (List.take (Int.toNat ((todo.length:Int)-1)) todo) (done++([(gI todo ((todo.length:Int)-1))]:List Pp)) nm
     (subst hKB;subst hPB;exact hsp.fin htt (λz hz=>E5 hz ‹_› ‹_› ‹_› ‹_›))
   · show mn (i7 (pmA.1,List.set pmA.2 (pmA.1.idxOf (gI todo ((todo.length:Int)-1))) (3,PB)) (List.take (Int.toNat ((todo.length:Int)-1)) todo))<mn (i7 pmA todo)
     (subst hKB;subst hPB;exact hsp.finM htt)
  refine af rfl (df p12_c1) (am (a7 ?_))
  obtain⟨cc,hcc,⟨⟨hq0,hq1⟩,hq2,hq3⟩,hcb,hcz⟩:=Ea hzP ‹_› ‹_› ‹_› ‹_›
  refine dy g627 rfl dv (by kernel_rfl) ?_
  intro w658 ch657
  refine qm v625 ?_
  refine qx (λw' hw'=>ad (v:=v625) (i:=0) eG rfl rfl (o626.t.flat.bel hw') rfl (by omega) (by omega)) (qx (λw' hw'=>d3 eS rfl rfl rfl (by decide) (by decide) rfl) (qx (λw' hw'=>dH (v:=v625) (i:=0) ap rfl (o626.t.flat.bel hw') (by omega) (by omega) (by decide) rfl) (qm v625 (qx (λw' hw'=>ad (v:=v625) (i:=0) eG rfl rfl (o626.t.flat.bel hw') rfl (by omega) (by omega)) (qx (λw' hw'=>d3 eS rfl rfl rfl (by decide) (by decide) rfl) (qx (λw' hw'=>dH (v:=v625) (i:=0) ap rfl (o626.t.flat.bel hw') (by omega) (by omega) (by decide) rfl) (qv (vi ((gI ((aH (ba PB)).1) 0).1)) (λw' hw'=>bK rfl) (qv (vi ((gI ((aH (ba PB)).1) 0).2)) (λw' hw'=>bK rfl) (gf ?_)))))))))
  intro w659 hc660
  replace hc660:=aG hc660 g627
  refine a7 ?_
  refine a6 rfl ?_
  refine lx (av (ds:=[vi ((ba PB).1),v608]) aK rfl bx621.t rfl rfl) (mi ((gI ((aH (ba PB)).1) 0).1) (mi ((gI ((aH (ba PB)).1) 0).2) ?_))
  refine lo (bB (aB (vals:=[vg [vi ((ba PB).1),v608],vi ((gI ((aH (ba PB)).1) 0).1),vi ((gI ((aH (ba PB)).1) 0).2)]) Tryz.func65 zH wh rfl) (pB w659 (ba PB) v608 (o609.t.flat).ro ((gI ((aH (ba PB)).1) 0).1) ((gI ((aH (ba PB)).1) 0).2)) ?_)
  rintro⟨d663,v665⟩ w662 ⟨fr664,o666⟩
  obtain⟨g667,ch668,G667⟩:=hU g627 fr664 (λn=>if n=1 then 96 else 0)
  replace o666:=o666.gl G667 96
  refine mv (vt [v665,vi ((b6 (ba PB) ((gI ((aH (ba PB)).1) 0).1) ((gI ((aH (ba PB)).1) 0).2)).2)]) (lx (ay rfl rfl) (lx (ay rfl rfl) (lo (aZ g667 (is 97) (97,0) rfl e9 ?_))))
  intro g672 w669 b671 ch670 bx673
  refine lo ?_
  refine aC (cs':=[v665]) e9 rfl rfl bx673 (aL o666.t.sl) nq (aM o666.t.sl) rfl ?_
  intro w674 ch675 bx676
  refine ai ((b6 (ba PB) ((gI ((aH (ba PB)).1) 0).1) ((gI ((aH (ba PB)).1) 0).2)).2) (ab (a7 ?_))
  refine a6 rfl (lx (a8 e9 rfl bx676 rfl) (lo (aV (aB (vals:=[v665,Value.func (.func 67) #[] #[]]) Tryz.func66 Ae wk rfl) (ah Tryz.func66 rfl nq ?_))))
  refine a7 (a6 rfl (ai 0 (ab (a7 (a7 (a6 rfl (mv v665 ?_)))))))
  have len677:=((o666.a ch675).sl).small
  refine lx (bG fh rfl o666.t.sl) (mi 0 (ab (aj ?_)))
  refine aR (σ:=Nat×ax) (λ⟨kx,gq⟩ f w=>aW w0 gq w/\f 0=v665/\f 1=Value.func (.func 67) #[] #[]/\f 7=vi (List.length ((b6 (ba PB) ((gI ((aH (ba PB)).1) 0).1) ((gI ((aH (ba PB)).1) 0).2)).1):Int)/\f 8=vi ↑kx/\Sl gq (is 0) w g_v g.2/\Ow gq (is 14) (is 14) w done_v done/\Ow gq (is 7) (is 7) w (bP todo_v 1 (Int.toNat 0) (Int.toNat ((todo.length:Int)-1))) (List.take (Int.toNat ((todo.length:Int)-1)) todo)/\Bx gq (is 8) w b52 [vi nm,done_v,(bP todo_v 1 (Int.toNat 0) (Int.toNat ((todo.length:Int)-1)))]/\dl gq 6 (pmA.1.idxOf (gI todo ((todo.length:Int)-1))) w pmA.1 pmA.2/\Bx gq (is 9) w (gI todo ((todo.length:Int)-1)).n [vi KB,v71]/\Ow gq (is 10) (is 10) w v71 PB/\Bx gq (is 11) w b81 [Value.pointer (some ⟨(gI todo ((todo.length:Int)-1)).n,0,none⟩)]/\Ow gq (is 91) (is 91) w v610 (cz PB)/\dr gq 96 w v665 ((b6 (ba PB) ((gI ((aH (ba PB)).1) 0).1) ((gI ((aH (ba PB)).1) 0).2)).1)/\Bx gq (is 97) w b671 [v665]/\(kx:Int)<=((List.length ((b6 (ba PB) ((gI ((aH (ba PB)).1) 0).1) ((gI ((aH (ba PB)).1) 0).2)).1):Int):Int)/\(∀j:Nat,j<kx->¬1<((gI ((b6 (ba PB) ((gI ((aH (ba PB)).1) 0).1) ((gI ((aH (ba PB)).1) 0).2)).1) (j:Int)).length:Int))) (λ⟨kx,gq⟩=>Int.toNat (((List.length ((b6 (ba PB) ((gI ((aH (ba PB)).1) 0).1) ((gI ((aH (ba PB)).1) 0).2)).1):Int):Int)-(kx:Int))) (0,g672) ?_ ?_
  have C682:=cg [92,97] (ch615.o (ch620.s (ch628.o (ch657.o (hc660.o (ch668.o (ch670.o ch675.e)))))))
  have C681:=ch613.n.seq C682
  · exact⟨bH.t,rfl,rfl,rfl,rfl,Rg.t,o_done.t,r67.t,bx70.t,pm76.t,bx72.t,o73.t,bx83.t,o611.t,o666.t,bx676,by omega,by exact λj hj=>by omega⟩
  rintro⟨kx,g685⟩ f683 w684 ⟨bH,zs0_c8,zs1_c8,zs7_c8,zs8_c8,Rg,o_done,r67,bx70,pm76,bx72,o73,bx83,o611,o666,bx676,hle_kx,hix⟩ back2_c8
  refine a7 (a6 rfl (lx (br (m:=↑kx) (n:=(List.length ((b6 (ba PB) ((gI ((aH (ba PB)).1) 0).1) ((gI ((aH (ba PB)).1) 0).2)).1):Int)) zs8_c8 zs7_c8) (ab (a7 ?_))))
  by_cases p2_c8:(kx:Int)<(List.length ((b6 (ba PB) ((gI ((aH (ba PB)).1) 0).1) ((gI ((aH (ba PB)).1) 0).2)).1):Int)
  ·
   refine ag rfl (dt p2_c8) (am (a7 (aj (a7 (a6 rfl (mz zs8_c8 (ai (kx:Int) (ab (a7 (a6 rfl (mz zs1_c8 (mz zs0_c8 ?_))))))))))))
   refine mi ↑kx (lx (ad (v:=v665) (i:=↑kx) fh rfl rfl o666.sl rfl (by omega) (by omega)) ?_)
   obtain⟨v686,cel687,r688⟩:=cG (r:=(kx:Int)) o666 (by omega) (by omega)
   refine lx (cv gu rfl cel687) (lo (aV (pz (fid:=67) (vals:=[v686]) rfl Tryz.func67 zy wR rfl) (ah Tryz.func67 rfl nq (a7 (a6 rfl (ma (vb false) (ab (a7 (a6 rfl (mv v686 ?_))))))))))
   have len689:=(r688.row_sl).small
   refine lx (bG bF rfl r688.row_sl) (lx (eX (m:=(List.length (gI ((b6 (ba PB) ((gI ((aH (ba PB)).1) 0).1) ((gI ((aH (ba PB)).1) 0).2)).1) (kx:Int)):Int)) (n:=1) rfl rfl) (ma (vb (decide (1<(List.length (gI ((b6 (ba PB) ((gI ((aH (ba PB)).1) 0).1) ((gI ((aH (ba PB)).1) 0).2)).1) (kx:Int)):Int)))) (ab (az (vs:=[vb (decide (1<(List.length (gI ((b6 (ba PB) ((gI ((aH (ba PB)).1) 0).1) ((gI ((aH (ba PB)).1) 0).2)).1) (kx:Int)):Int)))]) Tryz.func67 (.tmp rfl .nil) ?_))))
   refine⟨vb (decide (1<(List.length (gI ((b6 (ba PB) ((gI ((aH (ba PB)).1) 0).1) ((gI ((aH (ba PB)).1) 0).2)).1) (kx:Int)):Int))),rfl,?_⟩
   refine ab ?_
   by_cases p4_c8:1<(List.length (gI ((b6 (ba PB) ((gI ((aH (ba PB)).1) 0).1) ((gI ((aH (ba PB)).1) 0).2)).1) (kx:Int)):Int)
   ·
    refine ag rfl (dt p4_c8) (a7 ?_)
    refine a6 rfl (mi ↑kx (ai (kx:Int) (ab (az (vs:=[vi ↑kx]) Tryz.func66 (.tmp rfl .nil) ?_))))
    refine⟨vi ↑kx,rfl,?_⟩
    refine lo (aZ g685 (is 98) (98,0) rfl ap ?_)
    intro g693 w690 b692 ch691 bx694
    refine lo (aA (cs':=[vi ↑kx]) ap rfl rfl bx694 rfl nq (AllOne.all (.cons rfl .nil)) rfl ?_)
    intro w695 ch696 bx697
    refine ab (a7 ?_)
    obtain⟨ff,hff⟩:∃ff,ff=vB (gI (b6 (ba PB) (gI (aH (ba PB)).1 0).1 (gI (aH (ba PB)).1 0).2).1 (kx:Int)):=⟨_,rfl⟩
    refine bp g693 [0,1,2,3,4,5,6,7,8,9,10,12,13,14,15,16] dv ?_
    intro w699 ch698
    refine xp (v:=vp b52 0) 0 rfl (λw=>ar rfl) ?_
    refine xv 1 [0,2,3,6,7,10,4,8,5,9] rfl (a8 aY rfl bx83.t rfl) (xp (v:=v610) 2 rfl (λw=>ar rfl) (xp (v:=vi ((gI ((aH (ba PB)).1) 0).1)) 3 rfl (λw=>ar rfl) ?_))
    refine xv 4 [3,2,1,0,6,7,10,8,9] rfl (ad (v:=v610) (i:=(gI ((aH (ba PB)).1) 0).1) bF rfl rfl o611.t.flat rfl (by omega) (by omega)) (xv 5 [4,3,2,1,0,6,7,10,8,9] rfl (aw (v:=v610) (i:=(gI ((aH (ba PB)).1) 0).1) ap rfl o611.t.flat (by omega) (by omega) (by decide) rfl) (xp (v:=v610) 6 rfl (λw=>ar rfl) (xp (v:=vi ((gI ((aH (ba PB)).1) 0).2)) 7 rfl (λw=>ar rfl) (xv 8 [7,6,5,4,3,2,1,0,10] rfl (ad (v:=v610) (i:=(gI ((aH (ba PB)).1) 0).2) bF rfl rfl o611.t.flat rfl (by omega) (by omega)) (xv 9 [8,7,6,5,4,3,2,1,0,10] rfl (aw (v:=v610) (i:=(gI ((aH (ba PB)).1) 0).2) ap rfl o611.t.flat (by omega) (by omega) (by decide) rfl) ?_)))))
    refine xp (v:=Value.func (.func 68) #[] (List.toArray [vp b671 0,vp b692 0])) 10 rfl (λw=>ez (vals:=[vp b671 0,vp b692 0]) rfl) (cE 11 rfl (aV (aB (vals:=[vp b52 0,Value.pointer (some ⟨(gI todo ((todo.length:Int)-1)).n,0,none⟩),vi (gI (cz PB) ((gI ((aH (ba PB)).1) 0).1)),vi (gI (cz PB) ((gI ((aH (ba PB)).1) 0).2)),Value.func (.func 68) #[] (List.toArray [vp b671 0,vp b692 0])]) Tryz.func61 s8 qQ rfl) (ah Tryz.func61 rfl nq ?_)))
    refine a7 (a6 rfl (ma ((Value.pointer none)) (ma ((Value.pointer none)) (ab (a7 (a6 rfl (lw (vg [vi 0,vn]) (bn (vs:=[]) rfl (by kernel_rfl)) (lo (bU g693 (is 110) (110,0) rfl rfl ?_)))))))))
    intro g704 w701 b703 ch702 bx705
    refine lw (vg [vi 0,vn]) (bn (vs:=[]) rfl (by kernel_rfl)) (lo (bU g704 (is 111) (111,0) rfl rfl ?_))
    intro g709 w706 b708 ch707 bx710
    refine ma (vp b703 0) (ma (vp b708 0) (ab (a7 (a7 (a6 rfl (mv (Value.pointer (some ⟨(gI todo ((todo.length:Int)-1)).n,0,none⟩)) (lw (Value.pointer (some ⟨(gI todo ((todo.length:Int)-1)).n,0,none⟩)) (ae rfl) (lx (aa dV rfl rfl rfl rfl) ?_))))))))
    refine lx (a8 bD rfl bx72.t rfl) ?_
    have len712:=((o73.a ch707).flat).small
    refine lx (bG cM rfl o73.t.flat) (mi 0 (ab (aj ?_)))
    refine aR (σ:=Value×(List Bd)×Nat×Value×(List Bd)×ax) (λ⟨O1_c10_v,O1_c10,k_c10,O2_c10_v,O2_c10,gq⟩ f w=>aW w0 gq w/\f 0=vp b52 0/\f 2=vi (gI (cz PB) ((gI ((aH (ba PB)).1) 0).1))/\f 3=vi (gI (cz PB) ((gI ((aH (ba PB)).1) 0).2))/\f 4=Value.func (.func 68) #[] (List.toArray [vp b671 0,vp b692 0])/\f 10=vp b703 0/\f 11=vp b708 0/\f 22=v71/\f 23=vi (PB.length:Int)/\f 24=vi ↑k_c10/\Sl gq (is 0) w g_v g.2/\Ow gq (is 14) (is 14) w done_v done/\Ow gq (is 7) (is 7) w (bP todo_v 1 (Int.toNat 0) (Int.toNat ((todo.length:Int)-1))) (List.take (Int.toNat ((todo.length:Int)-1)) todo)/\Bx gq (is 8) w b52 [vi nm,done_v,(bP todo_v 1 (Int.toNat 0) (Int.toNat ((todo.length:Int)-1)))]/\dl gq 6 (pmA.1.idxOf (gI todo ((todo.length:Int)-1))) w pmA.1 pmA.2/\Bx gq (is 9) w (gI todo ((todo.length:Int)-1)).n [vi KB,v71]/\Ow gq (is 10) (is 10) w v71 PB/\Bx gq (is 11) w b81 [Value.pointer (some ⟨(gI todo ((todo.length:Int)-1)).n,0,none⟩)]/\Ow gq (is 91) (is 91) w v610 (cz PB)/\dr gq 96 w v665 ((b6 (ba PB) ((gI ((aH (ba PB)).1) 0).1) ((gI ((aH (ba PB)).1) 0).2)).1)/\Bx gq (is 97) w b671 [v665]/\Bx gq (is 98) w b692 [vi ↑kx]/\Bx gq (is 110) w b703 [vi 0,O1_c10_v]/\Bx gq (is 111) w b708 [vi 0,O2_c10_v]/\Ow gq (is 114) (is 114) w O1_c10_v O1_c10/\Ow gq (is 116) (is 116) w O2_c10_v O2_c10/\(k_c10:Int)<=((PB.length:Int):Int)/\(oa ff PB k_c10 O1_c10 O2_c10)) (λ⟨O1_c10_v,O1_c10,k_c10,O2_c10_v,O2_c10,gq⟩=>Int.toNat (((PB.length:Int):Int)-(k_c10:Int))) (vn,[],0,vn,[],g709) ?_ ?_
    · exact⟨bH.t,rfl,rfl,rfl,rfl,rfl,rfl,rfl,rfl,rfl,Rg.t,o_done.t,r67.t,bx70.t,pm76.t,bx72.t,o73.t,bx83.t,o611.t,o666.t,bx676.t,bx697.t,bx705.t,bx710,Ow.nil,Ow.nil,by omega,by exact oa.start⟩
    rintro⟨O1_c10_v,O1_c10,k_c10,O2_c10_v,O2_c10,g716⟩ f714 w715 ⟨bH,zs0_c10,zs2_c10,zs3_c10,zs4_c10,zs10_c10,zs11_c10,zs22_c10,zs23_c10,zs24_c10,Rg,o_done,r67,bx70,pm76,bx72,o73,bx83,o611,o666,bx676,bx697,bx705,bx710,o_O1_c10,o_O2_c10,hle_k_c10,hap_c10⟩ back3_c10
    have hapl_c10:=hap_c10.len
    refine a7 (a6 rfl (lx (br (m:=↑k_c10) (n:=(PB.length:Int)) zs24_c10 zs23_c10) (ab (a7 ?_))))
    by_cases p3_c10:(k_c10:Int)<(PB.length:Int)
    ·
     refine ag rfl (dt p3_c10) (am (a7 (aj (a7 (a6 rfl (mz zs24_c10 (lx (ad (v:=v71) (i:=↑k_c10) cM rfl zs22_c10 o73.flat zs24_c10 (by omega) (by omega)) (lw (vg [vi ((gI PB ↑k_c10).1),vi (((gI PB ↑k_c10).2).1),vi ((((gI PB ↑k_c10).2).2).1),vi ((((gI PB ↑k_c10).2).2).2)]) (bW (v:=v71) (i:=↑k_c10) aI rfl o73.flat (by omega) (by omega) rfl) (lo (aZ g716 (is 112) (112,0) rfl aI ?_))))))))))
     intro g720 w717 b719 ch718 bx721
     refine ai (k_c10:Int) (lo (aA (cs':=[vi ((gI PB ↑k_c10).1),vi (((gI PB ↑k_c10).2).1),vi ((((gI PB ↑k_c10).2).2).1),vi ((((gI PB ↑k_c10).2).2).2)]) aI rfl rfl bx721 rfl nq (AllOne.all (.cons rfl (.cons rfl (.cons rfl (.cons rfl .nil))))) rfl ?_))
     intro w722 ch723 bx724
     refine ab (a7 (a6 rfl (mz zs4_c10 (mi ↑k_c10 (lo (aV (fW (fid:=68) (vals:=[vi ↑k_c10]) (caps:=[vp b671 0,vp b692 0]) rfl Tryz.func68 vZ B5 rfl) (ah Tryz.func68 rfl nq ?_)))))))
     refine a7 (a6 rfl (ma (vb false) (ab (a7 (a6 rfl ?_)))))
     refine lx (a8 e9 rfl bx676.t rfl) ?_
     refine lx (a8 ap rfl bx697.t rfl) (lx (ad (v:=v665) (i:=↑kx) fh rfl rfl o666.t.sl rfl (by omega) (by omega)) ?_)
     obtain⟨v725,cel726,r727⟩:=cG (r:=(kx:Int)) (o666.a ch723) (by omega) (by omega)
     refine lx (cv gu rfl cel726) (mi ↑k_c10 (lo (bI (v:=vb (decide ((k_c10:Int)∈(gI ((b6 (ba PB) ((gI ((aH (ba PB)).1) 0).1) ((gI ((aH (ba PB)).1) 0).2)).1) (kx:Int))))) (aB (vals:=[v725,vi ↑k_c10]) Tryz.func69 xT xu rfl) (qU w722 (gI ((b6 (ba PB) ((gI ((aH (ba PB)).1) 0).1) ((gI ((aH (ba PB)).1) 0).2)).1) (kx:Int)) v725 (r727.row_sl).ro (k_c10:Int)) ?_)))
     intro w728 hb729
     replace hb729:=aG hb729 g720
     refine ma (vb (decide ((k_c10:Int)∈(gI ((b6 (ba PB) ((gI ((aH (ba PB)).1) 0).1) ((gI ((aH (ba PB)).1) 0).2)).1) (kx:Int))))) (ab (az (vs:=[vb (decide ((k_c10:Int)∈(gI ((b6 (ba PB) ((gI ((aH (ba PB)).1) 0).1) ((gI ((aH (ba PB)).1) 0).2)).1) (kx:Int))))]) Tryz.func68 (.tmp rfl .nil) ?_))
     refine⟨vb (decide ((k_c10:Int)∈(gI ((b6 (ba PB) ((gI ((aH (ba PB)).1) 0).1) ((gI ((aH (ba PB)).1) 0).2)).1) (kx:Int)))),rfl,?_⟩
     refine ab ?_
     by_cases p5_c10:(decide ((k_c10:Int)∈(gI ((b6 (ba PB) ((gI ((aH (ba PB)).1) 0).1) ((gI ((aH (ba PB)).1) 0).2)).1) (kx:Int))))=true
     ·
      refine ag rfl p5_c10 ?_
      refine bp g720 [0,1,2,3,4,5,8,9] dv ?_
      intro w731 ch730
      refine xp (v:=vp b703 0) 0 rfl (λw=>ar zs10_c10) (xp (v:=vp b703 0) 1 rfl (λw=>ar zs10_c10) (xp (v:=vp b703 0) 2 rfl (λw=>ae rfl) (xp 3 rfl (λw=>aa dV rfl rfl rfl rfl) ?_)))
      refine xh 4 [3,2,1,0,5,6] rfl (λw' hw'=>a8 bD rfl (bx705.t.bel hw') rfl) ?_
      refine xv 5 [4,3,2,1,0] rfl (av (ds:=[vi ((gI PB ↑k_c10).1),vi (((gI PB ↑k_c10).2).1),vi ((((gI PB ↑k_c10).2).2).1),vi ((((gI PB ↑k_c10).2).2).2)]) aI rfl bx724.t rfl rfl) (cE 6 rfl (kJ (γ:=g720) 113 ((gI PB ↑k_c10).1) (((gI PB ↑k_c10).2).1) ((((gI PB ↑k_c10).2).2).1) ((((gI PB ↑k_c10).2).2).2) cM aI ?_))
      intro g733 w734 v735 ch736 o737
      refine cE 7 rfl ?_
      refine iJ o_O1_c10.t o737.flat cM aI (by(simp;omega)) ?_
      intro g739 w740 v741 ch742 o743
      refine xp (v:=vp b703 0) 8 rfl (λw=>ae rfl) (xp 9 rfl (λw=>aa dV rfl rfl rfl rfl) (cE 10 rfl ?_))
      refine aC (cs':=[vi 0,v741]) bD rfl rfl bx705.t (aL o743.flat) nq (aM o743.flat) rfl ?_
      intro w744 ch745 bx746
      refine bV (by kernel_rfl) (ak ?_)
      refine a6 rfl (lx (aJ (m:=↑k_c10) (n:=1) zs24_c10 rfl (by omega)) (mi ((k_c10:Int)+1) (ab ?_)))
      refine back3_c10 (v741,(O1_c10++([((gI PB ↑k_c10).1,((gI PB ↑k_c10).2).1,(((gI PB ↑k_c10).2).2).1,(((gI PB ↑k_c10).2).2).2)]:List Bd)),k_c10+1,O2_c10_v,O2_c10,g739) _ _ ⟨bH.t,zs0_c10,zs2_c10,zs3_c10,zs4_c10,zs10_c10,zs11_c10,zs22_c10,zs23_c10,rfl,Rg.t,o_done.t,r67.t,bx70.t,pm76.t,bx72.t,o73.t,bx83.t,o611.t,o666.t,bx676.t,bx697.t,bx746,bx710.t,o743.t,o_O2_c10.t,by omega,?_⟩ ?_
      · show oa ff PB (k_c10+1) (O1_c10++([((gI PB ↑k_c10).1,((gI PB ↑k_c10).2).1,(((gI PB ↑k_c10).2).2).1,(((gI PB ↑k_c10).2).2).2)]:List Bd)) O2_c10
        exact hap_c10.yes ‹_› (by rw[hff];assumption)
      · show Int.toNat (_-_)<Int.toNat (_-_)
        omega
     refine af rfl (Bool.eq_false_iff.2 p5_c10) ?_
     refine bp g720 [0,1,2,3,4,5,8,9] dv ?_
     intro w750 ch749
     refine xp (v:=vp b708 0) 0 rfl (λw=>ar zs11_c10) (xp (v:=vp b708 0) 1 rfl (λw=>ar zs11_c10) (xp (v:=vp b708 0) 2 rfl (λw=>ae rfl) (xp 3 rfl (λw=>aa dV rfl rfl rfl rfl) ?_)))
     refine xh 4 [3,2,1,0,5,6] rfl (λw' hw'=>a8 bD rfl (bx710.t.bel hw') rfl) ?_
     refine xv 5 [4,3,2,1,0] rfl (av (ds:=[vi ((gI PB ↑k_c10).1),vi (((gI PB ↑k_c10).2).1),vi ((((gI PB ↑k_c10).2).2).1),vi ((((gI PB ↑k_c10).2).2).2)]) aI rfl bx724.t rfl rfl) (cE 6 rfl (kJ (γ:=g720) 115 ((gI PB ↑k_c10).1) (((gI PB ↑k_c10).2).1) ((((gI PB ↑k_c10).2).2).1) ((((gI PB ↑k_c10).2).2).2) cM aI ?_))
     intro g752 w753 v754 ch755 o756
     refine cE 7 rfl ?_
     refine iJ o_O2_c10.t o756.flat cM aI (by(simp;omega)) ?_
     intro g758 w759 v760 ch761 o762
     refine xp (v:=vp b708 0) 8 rfl (λw=>ae rfl) (xp 9 rfl (λw=>aa dV rfl rfl rfl rfl) (cE 10 rfl ?_))
     refine aC (cs':=[vi 0,v760]) bD rfl rfl bx710.t (aL o762.flat) nq (aM o762.flat) rfl ?_
     intro w763 ch764 bx765
     refine bV (by kernel_rfl) (ak ?_)
     refine a6 rfl (lx (aJ (m:=↑k_c10) (n:=1) zs24_c10 rfl (by omega)) (mi ((k_c10:Int)+1) (ab ?_)))
     refine back3_c10 (O1_c10_v,O1_c10,k_c10+1,v760,(O2_c10++([((gI PB ↑k_c10).1,((gI PB ↑k_c10).2).1,(((gI PB ↑k_c10).2).2).1,(((gI PB ↑k_c10).2).2).2)]:List Bd)),g758) _ _ ⟨bH.t,zs0_c10,zs2_c10,zs3_c10,zs4_c10,zs10_c10,zs11_c10,zs22_c10,zs23_c10,rfl,Rg.t,o_done.t,r67.t,bx70.t,pm76.t,bx72.t,o73.t,bx83.t,o611.t,o666.t,bx676.t,bx697.t,bx705.t,bx765,o_O1_c10.t,o762.t,by omega,?_⟩ ?_
     · show oa ff PB (k_c10+1) O1_c10 (O2_c10++([((gI PB ↑k_c10).1,((gI PB ↑k_c10).2).1,(((gI PB ↑k_c10).2).2).1,(((gI PB ↑k_c10).2).2).2)]:List Bd))
       exact hap_c10.no ‹_› (by rw[hff];assumption)
     · show Int.toNat (_-_)<Int.toNat (_-_)
       omega
    refine af rfl (df p3_c10) (aF rfl (a7 ?_))
    have hapd:=hap_c10.done ‹_› (gI (cz PB) ((gI ((aH (ba PB)).1) 0).1)) (gI (cz PB) ((gI ((aH (ba PB)).1) 0).2)) nm
    refine a6 rfl (mz zs2_c10 (mz zs3_c10 (lw (vi (min (gI (cz PB) ((gI ((aH (ba PB)).1) 0).1)) (gI (cz PB) ((gI ((aH (ba PB)).1) 0).2)))) (io rfl rfl) (mz zs2_c10 (mz zs3_c10 (lw (vi (max (gI (cz PB) ((gI ((aH (ba PB)).1) 0).1)) (gI (cz PB) ((gI ((aH (ba PB)).1) 0).2)))) (tU rfl rfl) (mz zs0_c10 (lw (vp b52 0) (ae rfl) (lx (aa ml rfl rfl rfl rfl) ?_)))))))))
    refine lx (a8 ap rfl bx70 rfl) (lw (vg [vi (min (gI (cz PB) ((gI ((aH (ba PB)).1) 0).1)) (gI (cz PB) ((gI ((aH (ba PB)).1) 0).2))),vi (max (gI (cz PB) ((gI ((aH (ba PB)).1) 0).1)) (gI (cz PB) ((gI ((aH (ba PB)).1) 0).2))),vi (-1),vi nm]) (bn (vs:=[(0,vi (min (gI (cz PB) ((gI ((aH (ba PB)).1) 0).1)) (gI (cz PB) ((gI ((aH (ba PB)).1) 0).2)))),(1,vi (max (gI (cz PB) ((gI ((aH (ba PB)).1) 0).1)) (gI (cz PB) ((gI ((aH (ba PB)).1) 0).2)))),(2,vi (-1)),(3,vi nm)]) rfl (by kernel_rfl)) (lo (aZ g716 (is 117) (117,0) rfl aI ?_)))
    intro g771 w768 b770 ch769 bx772
    refine lo (aA (cs':=[vi (min (gI (cz PB) ((gI ((aH (ba PB)).1) 0).1)) (gI (cz PB) ((gI ((aH (ba PB)).1) 0).2))),vi (max (gI (cz PB) ((gI ((aH (ba PB)).1) 0).1)) (gI (cz PB) ((gI ((aH (ba PB)).1) 0).2))),vi (-1),vi nm]) aI rfl rfl bx772 rfl nq (AllOne.all (.cons rfl (.cons rfl (.cons rfl (.cons rfl .nil))))) rfl ?_)
    intro w773 ch774 bx775
    refine ab (a7 ?_)
    obtain⟨ju,hju⟩:∃q:Int,q=min (gI (cz PB) ((gI ((aH (ba PB)).1) 0).1)) (gI (cz PB) ((gI ((aH (ba PB)).1) 0).2)):=⟨_,rfl⟩
    rw[<-hju] at bx775
    obtain⟨jv,hjv⟩:∃q:Int,q=max (gI (cz PB) ((gI ((aH (ba PB)).1) 0).1)) (gI (cz PB) ((gI ((aH (ba PB)).1) 0).2)):=⟨_,rfl⟩
    rw[<-hjv] at bx775
    refine a6 rfl (mz zs0_c10 (lw (vp b52 0) (ae rfl) (lx (aa ml rfl rfl rfl rfl) ?_)))
    refine lx (a8 ap rfl bx70.t rfl) (lx (aJ (m:=nm) (n:=1) rfl rfl (by omega)) (lw (vp b52 0) (ae rfl) (lx (aa ml rfl rfl rfl rfl) (lo (aA (cs':=[vi (nm+1),done_v,(bP todo_v 1 (Int.toNat 0) (Int.toNat ((todo.length:Int)-1)))]) ap rfl rfl bx70.t rfl nq (AllOne.all (.cons rfl .nil)) rfl ?_)))))
    intro w776 ch777 bx778
    refine ab (a7 ?_)
    refine dw (σ:=Value×Value×ax) (λ⟨v788,v800,gq⟩ f w=>aW w0 gq w/\f 10=vp b703 0/\f 11=vp b708 0/\Sl gq (is 0) w g_v g.2/\Ow gq (is 14) (is 14) w done_v done/\Ow gq (is 7) (is 7) w (bP todo_v 1 (Int.toNat 0) (Int.toNat ((todo.length:Int)-1))) (List.take (Int.toNat ((todo.length:Int)-1)) todo)/\dl gq 6 (pmA.1.idxOf (gI todo ((todo.length:Int)-1))) w pmA.1 pmA.2/\Bx gq (is 9) w (gI todo ((todo.length:Int)-1)).n [vi KB,v71]/\Ow gq (is 10) (is 10) w v71 PB/\Bx gq (is 11) w b81 [Value.pointer (some ⟨(gI todo ((todo.length:Int)-1)).n,0,none⟩)]/\Ow gq (is 91) (is 91) w v610 (cz PB)/\dr gq 96 w v665 ((b6 (ba PB) ((gI ((aH (ba PB)).1) 0).1) ((gI ((aH (ba PB)).1) 0).2)).1)/\Bx gq (is 97) w b671 [v665]/\Bx gq (is 98) w b692 [vi ↑kx]/\Bx gq (is 8) w b52 [vi (nm+1),done_v,(bP todo_v 1 (Int.toNat 0) (Int.toNat ((todo.length:Int)-1)))]/\Ow gq (is 114) (is 114) w v788 (O1_c10++([(ju,jv,-1,nm)]:List Bd))/\Ow gq (is 116) (is 116) w v800 (O2_c10++([(ju,jv,-1,nm)]:List Bd))/\Bx gq (is 110) w b703 [vi 0,v788]/\Bx gq (is 111) w b708 [vi 0,v800]) g771 [0,1,2,3,4,5,6,9,10,11,16,17,19,20] dv ?_ ?_
    ·
     intro mid
     intro w780 ch779
     refine cU (σ:=Value×Value×ax) [14,13,12,8,7,11,10,9,6,5,4,3,2,1,0] 7 (λ⟨v790,v796,gq⟩ f w=>aW w0 gq w/\f 10=vp b703 0/\f 11=vp b708 0/\f 71=vp b703 0/\f 72=vp b708 0/\f 79=v790/\f 83=O2_c10_v/\f 85=v796/\Sl gq (is 0) w g_v g.2/\Ow gq (is 14) (is 14) w done_v done/\Ow gq (is 7) (is 7) w (bP todo_v 1 (Int.toNat 0) (Int.toNat ((todo.length:Int)-1))) (List.take (Int.toNat ((todo.length:Int)-1)) todo)/\dl gq 6 (pmA.1.idxOf (gI todo ((todo.length:Int)-1))) w pmA.1 pmA.2/\Bx gq (is 9) w (gI todo ((todo.length:Int)-1)).n [vi KB,v71]/\Ow gq (is 10) (is 10) w v71 PB/\Bx gq (is 11) w b81 [Value.pointer (some ⟨(gI todo ((todo.length:Int)-1)).n,0,none⟩)]/\Ow gq (is 91) (is 91) w v610 (cz PB)/\dr gq 96 w v665 ((b6 (ba PB) ((gI ((aH (ba PB)).1) 0).1) ((gI ((aH (ba PB)).1) 0).2)).1)/\Bx gq (is 97) w b671 [v665]/\Bx gq (is 98) w b692 [vi ↑kx]/\Bx gq (is 110) w b703 [vi 0,O1_c10_v]/\Bx gq (is 111) w b708 [vi 0,O2_c10_v]/\Ow gq (is 116) (is 116) w O2_c10_v O2_c10/\Bx gq (is 8) w b52 [vi (nm+1),done_v,(bP todo_v 1 (Int.toNat 0) (Int.toNat ((todo.length:Int)-1)))]/\Ow gq (is 114) (is 114) w v790 (O1_c10++([(ju,jv,-1,nm)]:List Bd))/\Ow gq (is 119) (is 119) w v796 ([(ju,jv,-1,nm)]:List Bd)) ?_ ?_
     ·
      rintro⟨v790,v796,g802⟩ f800 w801 ⟨bH,zs10_c10,zs11_c10,zs71_c10,zs72_c10,zs79_c10,zs83_c10,zs85_c10,Rg,o_done,r67,pm76,bx72,o73,bx83,o611,o666,bx676,bx697,bx705,bx710,o_O2_c10,bx778,o792,o798⟩
      refine cE 15 rfl (aS (α:=Bd) (xs:=O2_c10) (ys:=([(ju,jv,-1,nm)]:List Bd)) g802 (J:=is 116) (S:=is 116) (116,0) rfl cM aI (by decide) rfl zs83_c10 zs85_c10 o_O2_c10 o798.flat (by decide) (by(simp;omega)) ?_)
      intro g803 w804 v805 ch806 o807
      refine xp (v:=vp b703 0) 16 rfl (λw=>ae zs71_c10) (xp 17 rfl (λw=>aa dV rfl rfl rfl rfl) (cE 18 rfl ?_))
      refine aC (cs':=[vi 0,v790]) bD rfl zs79_c10 bx705.t (aL o792.t.flat) nq (aM o792.t.flat) rfl ?_
      intro w808 ch809 bx810
      refine xp (v:=vp b708 0) 19 rfl (λw=>ae zs72_c10) (xp 20 rfl (λw=>aa dV rfl rfl rfl rfl) (cE 21 rfl ?_))
      refine aC (cs':=[vi 0,v805]) bD rfl rfl bx710.t (aL o807.t.flat) nq (aM o807.t.flat) rfl ?_
      intro w811 ch812 bx813
      refine bV (by kernel_rfl) ?_
      exact mid (v790,v805,g803) _ _ ⟨bH.t,zs10_c10,zs11_c10,Rg.t,o_done.t,r67.t,pm76.t,bx72.t,o73.t,bx83.t,o611.t,o666.t,bx676.t,bx697.t,bx778.t,o792.t,o807.t,bx810.t,bx813⟩
     intro nd799
     refine cU (σ:=Value×ax) [13,12,8,7,11,10,9,6,5,4,3,2,1,0] 8 (λ⟨v824,gq⟩ f w=>aW w0 gq w/\f 10=vp b703 0/\f 11=vp b708 0/\f 71=vp b703 0/\f 72=vp b708 0/\f 79=v824/\f 83=O2_c10_v/\f 84=vg [vi ju,vi jv,vi (-1),vi nm]/\Sl gq (is 0) w g_v g.2/\Ow gq (is 14) (is 14) w done_v done/\Ow gq (is 7) (is 7) w (bP todo_v 1 (Int.toNat 0) (Int.toNat ((todo.length:Int)-1))) (List.take (Int.toNat ((todo.length:Int)-1)) todo)/\dl gq 6 (pmA.1.idxOf (gI todo ((todo.length:Int)-1))) w pmA.1 pmA.2/\Bx gq (is 9) w (gI todo ((todo.length:Int)-1)).n [vi KB,v71]/\Ow gq (is 10) (is 10) w v71 PB/\Bx gq (is 11) w b81 [Value.pointer (some ⟨(gI todo ((todo.length:Int)-1)).n,0,none⟩)]/\Ow gq (is 91) (is 91) w v610 (cz PB)/\dr gq 96 w v665 ((b6 (ba PB) ((gI ((aH (ba PB)).1) 0).1) ((gI ((aH (ba PB)).1) 0).2)).1)/\Bx gq (is 97) w b671 [v665]/\Bx gq (is 98) w b692 [vi ↑kx]/\Bx gq (is 110) w b703 [vi 0,O1_c10_v]/\Bx gq (is 111) w b708 [vi 0,O2_c10_v]/\Ow gq (is 116) (is 116) w O2_c10_v O2_c10/\Bx gq (is 8) w b52 [vi (nm+1),done_v,(bP todo_v 1 (Int.toNat 0) (Int.toNat ((todo.length:Int)-1)))]/\Ow gq (is 114) (is 114) w v824 (O1_c10++([(ju,jv,-1,nm)]:List Bd))) ?_ ?_
     ·
      rintro⟨v824,g831⟩ f829 w830 ⟨bH,zs10_c10,zs11_c10,zs71_c10,zs72_c10,zs79_c10,zs83_c10,zs84_c10,Rg,o_done,r67,pm76,bx72,o73,bx83,o611,o666,bx676,bx697,bx705,bx710,o_O2_c10,bx778,o826⟩
      refine cE 14 rfl (kJ (γ:=g831) 119 ju jv (-1) nm cM aI (hp:=zs84_c10) ?_)
      intro g832 w833 v834 ch835 o836
      exact bC (by kernel_rfl) (nd799 (v824,v834,g832) _ _ ⟨bH.t,zs10_c10,zs11_c10,zs71_c10,zs72_c10,zs79_c10,zs83_c10,rfl,Rg.t,o_done.t,r67.t,pm76.t,bx72.t,o73.t,bx83.t,o611.t,o666.t,bx676.t,bx697.t,bx705.t,bx710.t,o_O2_c10.t,bx778.t,o826.t,o836⟩)
     intro nd828
     refine cU (σ:=Value×Value×ax) [14,13,8,7,11,10,9,6,5,4,3,2,1,0] 8 (λ⟨v846,v851,gq⟩ f w=>aW w0 gq w/\f 10=vp b703 0/\f 11=vp b708 0/\f 71=vp b703 0/\f 72=vp b708 0/\f 79=v846/\f 82=vp b708 1/\f 85=v851/\Sl gq (is 0) w g_v g.2/\Ow gq (is 14) (is 14) w done_v done/\Ow gq (is 7) (is 7) w (bP todo_v 1 (Int.toNat 0) (Int.toNat ((todo.length:Int)-1))) (List.take (Int.toNat ((todo.length:Int)-1)) todo)/\dl gq 6 (pmA.1.idxOf (gI todo ((todo.length:Int)-1))) w pmA.1 pmA.2/\Bx gq (is 9) w (gI todo ((todo.length:Int)-1)).n [vi KB,v71]/\Ow gq (is 10) (is 10) w v71 PB/\Bx gq (is 11) w b81 [Value.pointer (some ⟨(gI todo ((todo.length:Int)-1)).n,0,none⟩)]/\Ow gq (is 91) (is 91) w v610 (cz PB)/\dr gq 96 w v665 ((b6 (ba PB) ((gI ((aH (ba PB)).1) 0).1) ((gI ((aH (ba PB)).1) 0).2)).1)/\Bx gq (is 97) w b671 [v665]/\Bx gq (is 98) w b692 [vi ↑kx]/\Bx gq (is 110) w b703 [vi 0,O1_c10_v]/\Bx gq (is 111) w b708 [vi 0,O2_c10_v]/\Ow gq (is 116) (is 116) w O2_c10_v O2_c10/\Bx gq (is 8) w b52 [vi (nm+1),done_v,(bP todo_v 1 (Int.toNat 0) (Int.toNat ((todo.length:Int)-1)))]/\Ow gq (is 114) (is 114) w v846 (O1_c10++([(ju,jv,-1,nm)]:List Bd))/\Ow gq (is 119) (is 119) w v851 ([(ju,jv,-1,nm)]:List Bd)) ?_ ?_
     ·
      rintro⟨v846,v851,g857⟩ f855 w856 ⟨bH,zs10_c10,zs11_c10,zs71_c10,zs72_c10,zs79_c10,zs82_c10,zs85_c10,Rg,o_done,r67,pm76,bx72,o73,bx83,o611,o666,bx676,bx697,bx705,bx710,o_O2_c10,bx778,o848,o853⟩
      refine cE 12 rfl (ao (v:=O2_c10_v) (a8 bD zs82_c10 bx710 rfl) ?_)
      exact bC (by kernel_rfl) (nd799 (v846,v851,g857) _ _ ⟨bH,zs10_c10,zs11_c10,zs71_c10,zs72_c10,zs79_c10,rfl,zs85_c10,Rg,o_done,r67,pm76,bx72,o73,bx83,o611,o666,bx676,bx697,bx705,bx710,o_O2_c10,bx778,o848,o853⟩)
     intro nd854
     refine cU (σ:=Value×Value×ax) [14,13,12,7,11,10,9,6,5,4,3,2,1,0] 8 (λ⟨v861,v867,gq⟩ f w=>aW w0 gq w/\f 10=vp b703 0/\f 11=vp b708 0/\f 71=vp b703 0/\f 72=vp b708 0/\f 76=O1_c10_v/\f 78=v861/\f 83=O2_c10_v/\f 85=v867/\Sl gq (is 0) w g_v g.2/\Ow gq (is 14) (is 14) w done_v done/\Ow gq (is 7) (is 7) w (bP todo_v 1 (Int.toNat 0) (Int.toNat ((todo.length:Int)-1))) (List.take (Int.toNat ((todo.length:Int)-1)) todo)/\dl gq 6 (pmA.1.idxOf (gI todo ((todo.length:Int)-1))) w pmA.1 pmA.2/\Bx gq (is 9) w (gI todo ((todo.length:Int)-1)).n [vi KB,v71]/\Ow gq (is 10) (is 10) w v71 PB/\Bx gq (is 11) w b81 [Value.pointer (some ⟨(gI todo ((todo.length:Int)-1)).n,0,none⟩)]/\Ow gq (is 91) (is 91) w v610 (cz PB)/\dr gq 96 w v665 ((b6 (ba PB) ((gI ((aH (ba PB)).1) 0).1) ((gI ((aH (ba PB)).1) 0).2)).1)/\Bx gq (is 97) w b671 [v665]/\Bx gq (is 98) w b692 [vi ↑kx]/\Bx gq (is 110) w b703 [vi 0,O1_c10_v]/\Bx gq (is 111) w b708 [vi 0,O2_c10_v]/\Ow gq (is 114) (is 114) w O1_c10_v O1_c10/\Ow gq (is 116) (is 116) w O2_c10_v O2_c10/\Bx gq (is 8) w b52 [vi (nm+1),done_v,(bP todo_v 1 (Int.toNat 0) (Int.toNat ((todo.length:Int)-1)))]/\Ow gq (is 118) (is 118) w v861 ([(ju,jv,-1,nm)]:List Bd)/\Ow gq (is 119) (is 119) w v867 ([(ju,jv,-1,nm)]:List Bd)) ?_ ?_
     ·
      rintro⟨v861,v867,g873⟩ f871 w872 ⟨bH,zs10_c10,zs11_c10,zs71_c10,zs72_c10,zs76_c10,zs78_c10,zs83_c10,zs85_c10,Rg,o_done,r67,pm76,bx72,o73,bx83,o611,o666,bx676,bx697,bx705,bx710,o_O1_c10,o_O2_c10,bx778,o863,o869⟩
      refine cE 8 rfl (aS (α:=Bd) (xs:=O1_c10) (ys:=([(ju,jv,-1,nm)]:List Bd)) g873 (J:=is 114) (S:=is 114) (114,0) rfl cM aI (by decide) rfl zs76_c10 zs78_c10 o_O1_c10 o863.flat (by decide) (by(simp;omega)) ?_)
      intro g874 w875 v876 ch877 o878
      exact bC (by kernel_rfl) (nd799 (v876,v867,g874) _ _ ⟨bH.t,zs10_c10,zs11_c10,zs71_c10,zs72_c10,rfl,zs83_c10,zs85_c10,Rg.t,o_done.t,r67.t,pm76.t,bx72.t,o73.t,bx83.t,o611.t,o666.t,bx676.t,bx697.t,bx705.t,bx710.t,o_O2_c10.t,bx778.t,o878,o869.t⟩)
     intro nd870
     refine cU (σ:=Value×ax) [12,8,7,11,10,9,6,5,4,3,2,1,0] 9 (λ⟨v888,gq⟩ f w=>aW w0 gq w/\f 10=vp b703 0/\f 11=vp b708 0/\f 14=vp b770 0/\f 71=vp b703 0/\f 72=vp b708 0/\f 79=v888/\f 83=O2_c10_v/\Sl gq (is 0) w g_v g.2/\Ow gq (is 14) (is 14) w done_v done/\Ow gq (is 7) (is 7) w (bP todo_v 1 (Int.toNat 0) (Int.toNat ((todo.length:Int)-1))) (List.take (Int.toNat ((todo.length:Int)-1)) todo)/\dl gq 6 (pmA.1.idxOf (gI todo ((todo.length:Int)-1))) w pmA.1 pmA.2/\Bx gq (is 9) w (gI todo ((todo.length:Int)-1)).n [vi KB,v71]/\Ow gq (is 10) (is 10) w v71 PB/\Bx gq (is 11) w b81 [Value.pointer (some ⟨(gI todo ((todo.length:Int)-1)).n,0,none⟩)]/\Ow gq (is 91) (is 91) w v610 (cz PB)/\dr gq 96 w v665 ((b6 (ba PB) ((gI ((aH (ba PB)).1) 0).1) ((gI ((aH (ba PB)).1) 0).2)).1)/\Bx gq (is 97) w b671 [v665]/\Bx gq (is 98) w b692 [vi ↑kx]/\Bx gq (is 110) w b703 [vi 0,O1_c10_v]/\Bx gq (is 111) w b708 [vi 0,O2_c10_v]/\Ow gq (is 116) (is 116) w O2_c10_v O2_c10/\Bx gq (is 117) w b770 [vi ju,vi jv,vi (-1),vi nm]/\Bx gq (is 8) w b52 [vi (nm+1),done_v,(bP todo_v 1 (Int.toNat 0) (Int.toNat ((todo.length:Int)-1)))]/\Ow gq (is 114) (is 114) w v888 (O1_c10++([(ju,jv,-1,nm)]:List Bd))) ?_ ?_
     ·
      rintro⟨v888,g895⟩ f893 w894 ⟨bH,zs10_c10,zs11_c10,zs14_c10,zs71_c10,zs72_c10,zs79_c10,zs83_c10,Rg,o_done,r67,pm76,bx72,o73,bx83,o611,o666,bx676,bx697,bx705,bx710,o_O2_c10,bx775,bx778,o890⟩
      refine cE 13 rfl (ao (v:=vg [vi ju,vi jv,vi (-1),vi nm]) (av (ds:=[vi ju,vi jv,vi (-1),vi nm]) aI zs14_c10 bx775 rfl rfl) ?_)
      exact bC (by kernel_rfl) (nd828 (v888,g895) _ _ ⟨bH,zs10_c10,zs11_c10,zs71_c10,zs72_c10,zs79_c10,zs83_c10,rfl,Rg,o_done,r67,pm76,bx72,o73,bx83,o611,o666,bx676,bx697,bx705,bx710,o_O2_c10,bx778,o890⟩)
     intro nd892
     refine cU (σ:=Value×ax) [13,8,7,11,10,9,6,5,4,3,2,1,0] 9 (λ⟨v905,gq⟩ f w=>aW w0 gq w/\f 10=vp b703 0/\f 11=vp b708 0/\f 71=vp b703 0/\f 72=vp b708 0/\f 79=v905/\f 82=vp b708 1/\f 84=vg [vi ju,vi jv,vi (-1),vi nm]/\Sl gq (is 0) w g_v g.2/\Ow gq (is 14) (is 14) w done_v done/\Ow gq (is 7) (is 7) w (bP todo_v 1 (Int.toNat 0) (Int.toNat ((todo.length:Int)-1))) (List.take (Int.toNat ((todo.length:Int)-1)) todo)/\dl gq 6 (pmA.1.idxOf (gI todo ((todo.length:Int)-1))) w pmA.1 pmA.2/\Bx gq (is 9) w (gI todo ((todo.length:Int)-1)).n [vi KB,v71]/\Ow gq (is 10) (is 10) w v71 PB/\Bx gq (is 11) w b81 [Value.pointer (some ⟨(gI todo ((todo.length:Int)-1)).n,0,none⟩)]/\Ow gq (is 91) (is 91) w v610 (cz PB)/\dr gq 96 w v665 ((b6 (ba PB) ((gI ((aH (ba PB)).1) 0).1) ((gI ((aH (ba PB)).1) 0).2)).1)/\Bx gq (is 97) w b671 [v665]/\Bx gq (is 98) w b692 [vi ↑kx]/\Bx gq (is 110) w b703 [vi 0,O1_c10_v]/\Bx gq (is 111) w b708 [vi 0,O2_c10_v]/\Ow gq (is 116) (is 116) w O2_c10_v O2_c10/\Bx gq (is 8) w b52 [vi (nm+1),done_v,(bP todo_v 1 (Int.toNat 0) (Int.toNat ((todo.length:Int)-1)))]/\Ow gq (is 114) (is 114) w v905 (O1_c10++([(ju,jv,-1,nm)]:List Bd))) ?_ ?_
     ·
      rintro⟨v905,g911⟩ f909 w910 ⟨bH,zs10_c10,zs11_c10,zs71_c10,zs72_c10,zs79_c10,zs82_c10,zs84_c10,Rg,o_done,r67,pm76,bx72,o73,bx83,o611,o666,bx676,bx697,bx705,bx710,o_O2_c10,bx778,o907⟩
      refine de 12 14 rfl rfl (by kernel_rfl) rfl rfl ?_ ?_
      ·
       refine ao (v:=O2_c10_v) (a8 bD zs82_c10 bx710 rfl) ?_
       exact bC (by kernel_rfl) (nd828 (v905,g911) _ _ ⟨bH,zs10_c10,zs11_c10,zs71_c10,zs72_c10,zs79_c10,rfl,zs84_c10,Rg,o_done,r67,pm76,bx72,o73,bx83,o611,o666,bx676,bx697,bx705,bx710,o_O2_c10,bx778,o907⟩)
      ·
       refine kJ (γ:=g911) 119 ju jv (-1) nm cM aI (hp:=zs84_c10) ?_
       intro g912 w913 v914 ch915 o916
       exact bC (by kernel_rfl) (nd854 (v905,v914,g912) _ _ ⟨bH.t,zs10_c10,zs11_c10,zs71_c10,zs72_c10,zs79_c10,zs82_c10,rfl,Rg.t,o_done.t,r67.t,pm76.t,bx72.t,o73.t,bx83.t,o611.t,o666.t,bx676.t,bx697.t,bx705.t,bx710.t,o_O2_c10.t,bx778.t,o907.t,o916⟩)
     intro nd908
     refine cU (σ:=Value×ax) [13,12,7,11,10,9,6,5,4,3,2,1,0] 9 (λ⟨v920,gq⟩ f w=>aW w0 gq w/\f 10=vp b703 0/\f 11=vp b708 0/\f 71=vp b703 0/\f 72=vp b708 0/\f 76=O1_c10_v/\f 78=v920/\f 83=O2_c10_v/\f 84=vg [vi ju,vi jv,vi (-1),vi nm]/\Sl gq (is 0) w g_v g.2/\Ow gq (is 14) (is 14) w done_v done/\Ow gq (is 7) (is 7) w (bP todo_v 1 (Int.toNat 0) (Int.toNat ((todo.length:Int)-1))) (List.take (Int.toNat ((todo.length:Int)-1)) todo)/\dl gq 6 (pmA.1.idxOf (gI todo ((todo.length:Int)-1))) w pmA.1 pmA.2/\Bx gq (is 9) w (gI todo ((todo.length:Int)-1)).n [vi KB,v71]/\Ow gq (is 10) (is 10) w v71 PB/\Bx gq (is 11) w b81 [Value.pointer (some ⟨(gI todo ((todo.length:Int)-1)).n,0,none⟩)]/\Ow gq (is 91) (is 91) w v610 (cz PB)/\dr gq 96 w v665 ((b6 (ba PB) ((gI ((aH (ba PB)).1) 0).1) ((gI ((aH (ba PB)).1) 0).2)).1)/\Bx gq (is 97) w b671 [v665]/\Bx gq (is 98) w b692 [vi ↑kx]/\Bx gq (is 110) w b703 [vi 0,O1_c10_v]/\Bx gq (is 111) w b708 [vi 0,O2_c10_v]/\Ow gq (is 114) (is 114) w O1_c10_v O1_c10/\Ow gq (is 116) (is 116) w O2_c10_v O2_c10/\Bx gq (is 8) w b52 [vi (nm+1),done_v,(bP todo_v 1 (Int.toNat 0) (Int.toNat ((todo.length:Int)-1)))]/\Ow gq (is 118) (is 118) w v920 ([(ju,jv,-1,nm)]:List Bd)) ?_ ?_
     ·
      rintro⟨v920,g927⟩ f925 w926 ⟨bH,zs10_c10,zs11_c10,zs71_c10,zs72_c10,zs76_c10,zs78_c10,zs83_c10,zs84_c10,Rg,o_done,r67,pm76,bx72,o73,bx83,o611,o666,bx676,bx697,bx705,bx710,o_O1_c10,o_O2_c10,bx778,o922⟩
      refine de 8 14 rfl rfl (by kernel_rfl) rfl rfl ?_ ?_
      ·
       refine aS (α:=Bd) (xs:=O1_c10) (ys:=([(ju,jv,-1,nm)]:List Bd)) g927 (J:=is 114) (S:=is 114) (114,0) rfl cM aI (by decide) rfl zs76_c10 zs78_c10 o_O1_c10 o922.flat (by decide) (by(simp;omega)) ?_
       intro g928 w929 v930 ch931 o932
       exact bC (by kernel_rfl) (nd828 (v930,g928) _ _ ⟨bH.t,zs10_c10,zs11_c10,zs71_c10,zs72_c10,rfl,zs83_c10,zs84_c10,Rg.t,o_done.t,r67.t,pm76.t,bx72.t,o73.t,bx83.t,o611.t,o666.t,bx676.t,bx697.t,bx705.t,bx710.t,o_O2_c10.t,bx778.t,o932⟩)
      ·
       refine kJ (γ:=g927) 119 ju jv (-1) nm cM aI (hp:=zs84_c10) ?_
       intro g933 w934 v935 ch936 o937
       exact bC (by kernel_rfl) (nd870 (v920,v935,g933) _ _ ⟨bH.t,zs10_c10,zs11_c10,zs71_c10,zs72_c10,zs76_c10,zs78_c10,zs83_c10,rfl,Rg.t,o_done.t,r67.t,pm76.t,bx72.t,o73.t,bx83.t,o611.t,o666.t,bx676.t,bx697.t,bx705.t,bx710.t,o_O1_c10.t,o_O2_c10.t,bx778.t,o922.t,o937⟩)
     intro nd924
     refine cU (σ:=Value×Value×ax) [14,13,7,11,10,9,6,5,4,3,2,1,0] 9 (λ⟨v941,v946,gq⟩ f w=>aW w0 gq w/\f 10=vp b703 0/\f 11=vp b708 0/\f 71=vp b703 0/\f 72=vp b708 0/\f 76=O1_c10_v/\f 78=v941/\f 82=vp b708 1/\f 85=v946/\Sl gq (is 0) w g_v g.2/\Ow gq (is 14) (is 14) w done_v done/\Ow gq (is 7) (is 7) w (bP todo_v 1 (Int.toNat 0) (Int.toNat ((todo.length:Int)-1))) (List.take (Int.toNat ((todo.length:Int)-1)) todo)/\dl gq 6 (pmA.1.idxOf (gI todo ((todo.length:Int)-1))) w pmA.1 pmA.2/\Bx gq (is 9) w (gI todo ((todo.length:Int)-1)).n [vi KB,v71]/\Ow gq (is 10) (is 10) w v71 PB/\Bx gq (is 11) w b81 [Value.pointer (some ⟨(gI todo ((todo.length:Int)-1)).n,0,none⟩)]/\Ow gq (is 91) (is 91) w v610 (cz PB)/\dr gq 96 w v665 ((b6 (ba PB) ((gI ((aH (ba PB)).1) 0).1) ((gI ((aH (ba PB)).1) 0).2)).1)/\Bx gq (is 97) w b671 [v665]/\Bx gq (is 98) w b692 [vi ↑kx]/\Bx gq (is 110) w b703 [vi 0,O1_c10_v]/\Bx gq (is 111) w b708 [vi 0,O2_c10_v]/\Ow gq (is 114) (is 114) w O1_c10_v O1_c10/\Ow gq (is 116) (is 116) w O2_c10_v O2_c10/\Bx gq (is 8) w b52 [vi (nm+1),done_v,(bP todo_v 1 (Int.toNat 0) (Int.toNat ((todo.length:Int)-1)))]/\Ow gq (is 118) (is 118) w v941 ([(ju,jv,-1,nm)]:List Bd)/\Ow gq (is 119) (is 119) w v946 ([(ju,jv,-1,nm)]:List Bd)) ?_ ?_
     ·
      rintro⟨v941,v946,g952⟩ f950 w951 ⟨bH,zs10_c10,zs11_c10,zs71_c10,zs72_c10,zs76_c10,zs78_c10,zs82_c10,zs85_c10,Rg,o_done,r67,pm76,bx72,o73,bx83,o611,o666,bx676,bx697,bx705,bx710,o_O1_c10,o_O2_c10,bx778,o943,o948⟩
      refine de 8 12 rfl rfl (by kernel_rfl) rfl rfl ?_ ?_
      ·
       refine aS (α:=Bd) (xs:=O1_c10) (ys:=([(ju,jv,-1,nm)]:List Bd)) g952 (J:=is 114) (S:=is 114) (114,0) rfl cM aI (by decide) rfl zs76_c10 zs78_c10 o_O1_c10 o943.flat (by decide) (by(simp;omega)) ?_
       intro g953 w954 v955 ch956 o957
       exact bC (by kernel_rfl) (nd854 (v955,v946,g953) _ _ ⟨bH.t,zs10_c10,zs11_c10,zs71_c10,zs72_c10,rfl,zs82_c10,zs85_c10,Rg.t,o_done.t,r67.t,pm76.t,bx72.t,o73.t,bx83.t,o611.t,o666.t,bx676.t,bx697.t,bx705.t,bx710.t,o_O2_c10.t,bx778.t,o957,o948.t⟩)
      ·
       refine ao (v:=O2_c10_v) (a8 bD zs82_c10 bx710 rfl) ?_
       exact bC (by kernel_rfl) (nd870 (v941,v946,g952) _ _ ⟨bH,zs10_c10,zs11_c10,zs71_c10,zs72_c10,zs76_c10,zs78_c10,rfl,zs85_c10,Rg,o_done,r67,pm76,bx72,o73,bx83,o611,o666,bx676,bx697,bx705,bx710,o_O1_c10,o_O2_c10,bx778,o943,o948⟩)
     intro nd949
     refine cU (σ:=Value×ax) [14,13,12,11,10,9,6,5,4,3,2,1,0] 9 (λ⟨v961,gq⟩ f w=>aW w0 gq w/\f 10=vp b703 0/\f 11=vp b708 0/\f 71=vp b703 0/\f 72=vp b708 0/\f 76=O1_c10_v/\f 77=vg [vi ju,vi jv,vi (-1),vi nm]/\f 83=O2_c10_v/\f 85=v961/\Sl gq (is 0) w g_v g.2/\Ow gq (is 14) (is 14) w done_v done/\Ow gq (is 7) (is 7) w (bP todo_v 1 (Int.toNat 0) (Int.toNat ((todo.length:Int)-1))) (List.take (Int.toNat ((todo.length:Int)-1)) todo)/\dl gq 6 (pmA.1.idxOf (gI todo ((todo.length:Int)-1))) w pmA.1 pmA.2/\Bx gq (is 9) w (gI todo ((todo.length:Int)-1)).n [vi KB,v71]/\Ow gq (is 10) (is 10) w v71 PB/\Bx gq (is 11) w b81 [Value.pointer (some ⟨(gI todo ((todo.length:Int)-1)).n,0,none⟩)]/\Ow gq (is 91) (is 91) w v610 (cz PB)/\dr gq 96 w v665 ((b6 (ba PB) ((gI ((aH (ba PB)).1) 0).1) ((gI ((aH (ba PB)).1) 0).2)).1)/\Bx gq (is 97) w b671 [v665]/\Bx gq (is 98) w b692 [vi ↑kx]/\Bx gq (is 110) w b703 [vi 0,O1_c10_v]/\Bx gq (is 111) w b708 [vi 0,O2_c10_v]/\Ow gq (is 114) (is 114) w O1_c10_v O1_c10/\Ow gq (is 116) (is 116) w O2_c10_v O2_c10/\Bx gq (is 8) w b52 [vi (nm+1),done_v,(bP todo_v 1 (Int.toNat 0) (Int.toNat ((todo.length:Int)-1)))]/\Ow gq (is 119) (is 119) w v961 ([(ju,jv,-1,nm)]:List Bd)) ?_ ?_
     ·
      rintro⟨v961,g967⟩ f965 w966 ⟨bH,zs10_c10,zs11_c10,zs71_c10,zs72_c10,zs76_c10,zs77_c10,zs83_c10,zs85_c10,Rg,o_done,r67,pm76,bx72,o73,bx83,o611,o666,bx676,bx697,bx705,bx710,o_O1_c10,o_O2_c10,bx778,o963⟩
      refine cE 7 rfl (kJ (γ:=g967) 118 ju jv (-1) nm cM aI (hp:=zs77_c10) ?_)
      intro g968 w969 v970 ch971 o972
      exact bC (by kernel_rfl) (nd870 (v970,v961,g968) _ _ ⟨bH.t,zs10_c10,zs11_c10,zs71_c10,zs72_c10,zs76_c10,rfl,zs83_c10,zs85_c10,Rg.t,o_done.t,r67.t,pm76.t,bx72.t,o73.t,bx83.t,o611.t,o666.t,bx676.t,bx697.t,bx705.t,bx710.t,o_O1_c10.t,o_O2_c10.t,bx778.t,o972,o963.t⟩)
     intro nd964
     refine cU (σ:=Value×ax) [12,7,11,10,9,6,5,4,3,2,1,0] 10 (λ⟨v976,gq⟩ f w=>aW w0 gq w/\f 10=vp b703 0/\f 11=vp b708 0/\f 14=vp b770 0/\f 71=vp b703 0/\f 72=vp b708 0/\f 76=O1_c10_v/\f 78=v976/\f 83=O2_c10_v/\Sl gq (is 0) w g_v g.2/\Ow gq (is 14) (is 14) w done_v done/\Ow gq (is 7) (is 7) w (bP todo_v 1 (Int.toNat 0) (Int.toNat ((todo.length:Int)-1))) (List.take (Int.toNat ((todo.length:Int)-1)) todo)/\dl gq 6 (pmA.1.idxOf (gI todo ((todo.length:Int)-1))) w pmA.1 pmA.2/\Bx gq (is 9) w (gI todo ((todo.length:Int)-1)).n [vi KB,v71]/\Ow gq (is 10) (is 10) w v71 PB/\Bx gq (is 11) w b81 [Value.pointer (some ⟨(gI todo ((todo.length:Int)-1)).n,0,none⟩)]/\Ow gq (is 91) (is 91) w v610 (cz PB)/\dr gq 96 w v665 ((b6 (ba PB) ((gI ((aH (ba PB)).1) 0).1) ((gI ((aH (ba PB)).1) 0).2)).1)/\Bx gq (is 97) w b671 [v665]/\Bx gq (is 98) w b692 [vi ↑kx]/\Bx gq (is 110) w b703 [vi 0,O1_c10_v]/\Bx gq (is 111) w b708 [vi 0,O2_c10_v]/\Ow gq (is 114) (is 114) w O1_c10_v O1_c10/\Ow gq (is 116) (is 116) w O2_c10_v O2_c10/\Bx gq (is 117) w b770 [vi ju,vi jv,vi (-1),vi nm]/\Bx gq (is 8) w b52 [vi (nm+1),done_v,(bP todo_v 1 (Int.toNat 0) (Int.toNat ((todo.length:Int)-1)))]/\Ow gq (is 118) (is 118) w v976 ([(ju,jv,-1,nm)]:List Bd)) ?_ ?_
     ·
      rintro⟨v976,g983⟩ f981 w982 ⟨bH,zs10_c10,zs11_c10,zs14_c10,zs71_c10,zs72_c10,zs76_c10,zs78_c10,zs83_c10,Rg,o_done,r67,pm76,bx72,o73,bx83,o611,o666,bx676,bx697,bx705,bx710,o_O1_c10,o_O2_c10,bx775,bx778,o978⟩
      refine de 8 13 rfl rfl (by kernel_rfl) rfl rfl ?_ ?_
      ·
       refine aS (α:=Bd) (xs:=O1_c10) (ys:=([(ju,jv,-1,nm)]:List Bd)) g983 (J:=is 114) (S:=is 114) (114,0) rfl cM aI (by decide) rfl zs76_c10 zs78_c10 o_O1_c10 o978.flat (by decide) (by(simp;omega)) ?_
       intro g984 w985 v986 ch987 o988
       exact bC (by kernel_rfl) (nd892 (v986,g984) _ _ ⟨bH.t,zs10_c10,zs11_c10,zs14_c10,zs71_c10,zs72_c10,rfl,zs83_c10,Rg.t,o_done.t,r67.t,pm76.t,bx72.t,o73.t,bx83.t,o611.t,o666.t,bx676.t,bx697.t,bx705.t,bx710.t,o_O2_c10.t,bx775.t,bx778.t,o988⟩)
      ·
       refine ao (v:=vg [vi ju,vi jv,vi (-1),vi nm]) (av (ds:=[vi ju,vi jv,vi (-1),vi nm]) aI zs14_c10 bx775 rfl rfl) ?_
       exact bC (by kernel_rfl) (nd924 (v976,g983) _ _ ⟨bH,zs10_c10,zs11_c10,zs71_c10,zs72_c10,zs76_c10,zs78_c10,zs83_c10,rfl,Rg,o_done,r67,pm76,bx72,o73,bx83,o611,o666,bx676,bx697,bx705,bx710,o_O1_c10,o_O2_c10,bx778,o978⟩)
     intro nd980
     refine cU (σ:=Value×ax) [13,7,11,10,9,6,5,4,3,2,1,0] 10 (λ⟨v992,gq⟩ f w=>aW w0 gq w/\f 10=vp b703 0/\f 11=vp b708 0/\f 71=vp b703 0/\f 72=vp b708 0/\f 76=O1_c10_v/\f 78=v992/\f 82=vp b708 1/\f 84=vg [vi ju,vi jv,vi (-1),vi nm]/\Sl gq (is 0) w g_v g.2/\Ow gq (is 14) (is 14) w done_v done/\Ow gq (is 7) (is 7) w (bP todo_v 1 (Int.toNat 0) (Int.toNat ((todo.length:Int)-1))) (List.take (Int.toNat ((todo.length:Int)-1)) todo)/\dl gq 6 (pmA.1.idxOf (gI todo ((todo.length:Int)-1))) w pmA.1 pmA.2/\Bx gq (is 9) w (gI todo ((todo.length:Int)-1)).n [vi KB,v71]/\Ow gq (is 10) (is 10) w v71 PB/\Bx gq (is 11) w b81 [Value.pointer (some ⟨(gI todo ((todo.length:Int)-1)).n,0,none⟩)]/\Ow gq (is 91) (is 91) w v610 (cz PB)/\dr gq 96 w v665 ((b6 (ba PB) ((gI ((aH (ba PB)).1) 0).1) ((gI ((aH (ba PB)).1) 0).2)).1)/\Bx gq (is 97) w b671 [v665]/\Bx gq (is 98) w b692 [vi ↑kx]/\Bx gq (is 110) w b703 [vi 0,O1_c10_v]/\Bx gq (is 111) w b708 [vi 0,O2_c10_v]/\Ow gq (is 114) (is 114) w O1_c10_v O1_c10/\Ow gq (is 116) (is 116) w O2_c10_v O2_c10/\Bx gq (is 8) w b52 [vi (nm+1),done_v,(bP todo_v 1 (Int.toNat 0) (Int.toNat ((todo.length:Int)-1)))]/\Ow gq (is 118) (is 118) w v992 ([(ju,jv,-1,nm)]:List Bd)) ?_ ?_
     ·
      rintro⟨v992,g998⟩ f996 w997 ⟨bH,zs10_c10,zs11_c10,zs71_c10,zs72_c10,zs76_c10,zs78_c10,zs82_c10,zs84_c10,Rg,o_done,r67,pm76,bx72,o73,bx83,o611,o666,bx676,bx697,bx705,bx710,o_O1_c10,o_O2_c10,bx778,o994⟩
      refine j0 8 [12,14] (by kernel_rfl) ⟨fU 8 rfl (by kernel_rfl) rfl ?_,fU 12 rfl (by kernel_rfl) rfl ?_,fU 14 rfl (by kernel_rfl) rfl ?_,trivial⟩
      ·
       refine aS (α:=Bd) (xs:=O1_c10) (ys:=([(ju,jv,-1,nm)]:List Bd)) g998 (J:=is 114) (S:=is 114) (114,0) rfl cM aI (by decide) rfl zs76_c10 zs78_c10 o_O1_c10 o994.flat (by decide) (by(simp;omega)) ?_
       intro g999 w1000 v1001 ch1002 o1003
       exact bC (by kernel_rfl) (nd908 (v1001,g999) _ _ ⟨bH.t,zs10_c10,zs11_c10,zs71_c10,zs72_c10,rfl,zs82_c10,zs84_c10,Rg.t,o_done.t,r67.t,pm76.t,bx72.t,o73.t,bx83.t,o611.t,o666.t,bx676.t,bx697.t,bx705.t,bx710.t,o_O2_c10.t,bx778.t,o1003⟩)
      ·
       refine ao (v:=O2_c10_v) (a8 bD zs82_c10 bx710 rfl) ?_
       exact bC (by kernel_rfl) (nd924 (v992,g998) _ _ ⟨bH,zs10_c10,zs11_c10,zs71_c10,zs72_c10,zs76_c10,zs78_c10,rfl,zs84_c10,Rg,o_done,r67,pm76,bx72,o73,bx83,o611,o666,bx676,bx697,bx705,bx710,o_O1_c10,o_O2_c10,bx778,o994⟩)
      ·
       refine kJ (γ:=g998) 119 ju jv (-1) nm cM aI (hp:=zs84_c10) ?_
       intro g1004 w1005 v1006 ch1007 o1008
       exact bC (by kernel_rfl) (nd949 (v992,v1006,g1004) _ _ ⟨bH.t,zs10_c10,zs11_c10,zs71_c10,zs72_c10,zs76_c10,zs78_c10,zs82_c10,rfl,Rg.t,o_done.t,r67.t,pm76.t,bx72.t,o73.t,bx83.t,o611.t,o666.t,bx676.t,bx697.t,bx705.t,bx710.t,o_O1_c10.t,o_O2_c10.t,bx778.t,o994.t,o1008⟩)
     intro nd995
     refine cU (σ:=ax) [13,12,11,10,9,6,5,4,3,2,1,0] 10 (λgq f w=>aW w0 gq w/\f 10=vp b703 0/\f 11=vp b708 0/\f 71=vp b703 0/\f 72=vp b708 0/\f 76=O1_c10_v/\f 77=vg [vi ju,vi jv,vi (-1),vi nm]/\f 83=O2_c10_v/\f 84=vg [vi ju,vi jv,vi (-1),vi nm]/\Sl gq (is 0) w g_v g.2/\Ow gq (is 14) (is 14) w done_v done/\Ow gq (is 7) (is 7) w (bP todo_v 1 (Int.toNat 0) (Int.toNat ((todo.length:Int)-1))) (List.take (Int.toNat ((todo.length:Int)-1)) todo)/\dl gq 6 (pmA.1.idxOf (gI todo ((todo.length:Int)-1))) w pmA.1 pmA.2/\Bx gq (is 9) w (gI todo ((todo.length:Int)-1)).n [vi KB,v71]/\Ow gq (is 10) (is 10) w v71 PB/\Bx gq (is 11) w b81 [Value.pointer (some ⟨(gI todo ((todo.length:Int)-1)).n,0,none⟩)]/\Ow gq (is 91) (is 91) w v610 (cz PB)/\dr gq 96 w v665 ((b6 (ba PB) ((gI ((aH (ba PB)).1) 0).1) ((gI ((aH (ba PB)).1) 0).2)).1)/\Bx gq (is 97) w b671 [v665]/\Bx gq (is 98) w b692 [vi ↑kx]/\Bx gq (is 110) w b703 [vi 0,O1_c10_v]/\Bx gq (is 111) w b708 [vi 0,O2_c10_v]/\Ow gq (is 114) (is 114) w O1_c10_v O1_c10/\Ow gq (is 116) (is 116) w O2_c10_v O2_c10/\Bx gq (is 8) w b52 [vi (nm+1),done_v,(bP todo_v 1 (Int.toNat 0) (Int.toNat ((todo.length:Int)-1)))]) ?_ ?_
     ·
      rintro g1013 f1011 w1012 ⟨bH,zs10_c10,zs11_c10,zs71_c10,zs72_c10,zs76_c10,zs77_c10,zs83_c10,zs84_c10,Rg,o_done,r67,pm76,bx72,o73,bx83,o611,o666,bx676,bx697,bx705,bx710,o_O1_c10,o_O2_c10,bx778⟩
      refine de 7 14 rfl rfl (by kernel_rfl) rfl rfl ?_ ?_
      ·
       refine kJ (γ:=g1013) 118 ju jv (-1) nm cM aI (hp:=zs77_c10) ?_
       intro g1014 w1015 v1016 ch1017 o1018
       exact bC (by kernel_rfl) (nd924 (v1016,g1014) _ _ ⟨bH.t,zs10_c10,zs11_c10,zs71_c10,zs72_c10,zs76_c10,rfl,zs83_c10,zs84_c10,Rg.t,o_done.t,r67.t,pm76.t,bx72.t,o73.t,bx83.t,o611.t,o666.t,bx676.t,bx697.t,bx705.t,bx710.t,o_O1_c10.t,o_O2_c10.t,bx778.t,o1018⟩)
      ·
       refine kJ (γ:=g1013) 119 ju jv (-1) nm cM aI (hp:=zs84_c10) ?_
       intro g1019 w1020 v1021 ch1022 o1023
       exact bC (by kernel_rfl) (nd964 (v1021,g1019) _ _ ⟨bH.t,zs10_c10,zs11_c10,zs71_c10,zs72_c10,zs76_c10,zs77_c10,zs83_c10,rfl,Rg.t,o_done.t,r67.t,pm76.t,bx72.t,o73.t,bx83.t,o611.t,o666.t,bx676.t,bx697.t,bx705.t,bx710.t,o_O1_c10.t,o_O2_c10.t,bx778.t,o1023⟩)
     intro nd1010
     refine xp (v:=vp b703 0) 0 rfl (λw=>ar zs10_c10) (xp (v:=vp b708 0) 1 rfl (λw=>ar zs11_c10) (xp (v:=vp b703 0) 2 rfl (λw=>ar zs10_c10) (xp (v:=vp b703 0) 3 rfl (λw=>ae rfl) (xp 4 rfl (λw=>aa dV rfl rfl rfl rfl) ?_))))
     refine xh 5 [4,3,2,1,0,6,9,13,7,10,14,11,12] rfl (λw' hw'=>a8 bD rfl (bx705.t.bel hw') rfl) ?_
     refine xh 6 [5,4,3,2,1,0,9,13,10,14,11,12] rfl (λw' hw'=>av (ds:=[vi ju,vi jv,vi (-1),vi nm]) aI rfl (bx775.t.bel hw') rfl rfl) (xp (v:=vp b708 0) 9 rfl (λw=>ar zs11_c10) (xp (v:=vp b708 0) 10 rfl (λw=>ae rfl) (xp 11 rfl (λw=>aa dV rfl rfl rfl rfl) ?_)))
     refine j0 7 [12,13] (by kernel_rfl) ⟨fU 7 rfl (by kernel_rfl) rfl ?_,fU 12 rfl (by kernel_rfl) rfl ?_,fU 13 rfl (by kernel_rfl) rfl ?_,trivial⟩
     ·
      refine kJ (γ:=g771) 118 ju jv (-1) nm cM aI ?_
      intro g1025 w1026 v1027 ch1028 o1029
      refine j0 8 [12,13] (by kernel_rfl) ⟨fU 8 rfl (by kernel_rfl) rfl ?_,fU 12 rfl (by kernel_rfl) rfl ?_,fU 13 rfl (by kernel_rfl) rfl ?_,trivial⟩
      ·
       refine iJ o_O1_c10.t o1029.flat cM aI (by(simp;omega)) ?_
       intro g1031 w1032 v1033 ch1034 o1035
       refine de 12 13 rfl rfl (by kernel_rfl) rfl rfl ?_ ?_
       ·
        refine ao (v:=O2_c10_v) (a8 bD rfl bx710.t rfl) ?_
        exact bC (by kernel_rfl) (nd892 (v1033,g1031) _ _ ⟨bH.t,zs10_c10,zs11_c10,rfl,rfl,rfl,rfl,rfl,Rg.t,o_done.t,r67.t,pm76.t,bx72.t,o73.t,bx83.t,o611.t,o666.t,bx676.t,bx697.t,bx705.t,bx710.t,o_O2_c10.t,bx775.t,bx778.t,o1035⟩)
       ·
        refine ao (v:=vg [vi ju,vi jv,vi (-1),vi nm]) (av (ds:=[vi ju,vi jv,vi (-1),vi nm]) aI rfl bx775.t rfl rfl) ?_
        exact bC (by kernel_rfl) (nd908 (v1033,g1031) _ _ ⟨bH.t,zs10_c10,zs11_c10,rfl,rfl,rfl,rfl,rfl,Rg.t,o_done.t,r67.t,pm76.t,bx72.t,o73.t,bx83.t,o611.t,o666.t,bx676.t,bx697.t,bx705.t,bx710.t,o_O2_c10.t,bx778.t,o1035⟩)
      ·
       refine ao (v:=O2_c10_v) (a8 bD rfl bx710.t rfl) ?_
       exact bC (by kernel_rfl) (nd980 (v1027,g1025) _ _ ⟨bH.t,zs10_c10,zs11_c10,rfl,rfl,rfl,rfl,rfl,rfl,Rg.t,o_done.t,r67.t,pm76.t,bx72.t,o73.t,bx83.t,o611.t,o666.t,bx676.t,bx697.t,bx705.t,bx710.t,o_O1_c10.t,o_O2_c10.t,bx775.t,bx778.t,o1029⟩)
      ·
       refine ao (v:=vg [vi ju,vi jv,vi (-1),vi nm]) (av (ds:=[vi ju,vi jv,vi (-1),vi nm]) aI rfl bx775.t rfl rfl) ?_
       exact bC (by kernel_rfl) (nd995 (v1027,g1025) _ _ ⟨bH.t,zs10_c10,zs11_c10,rfl,rfl,rfl,rfl,rfl,rfl,Rg.t,o_done.t,r67.t,pm76.t,bx72.t,o73.t,bx83.t,o611.t,o666.t,bx676.t,bx697.t,bx705.t,bx710.t,o_O1_c10.t,o_O2_c10.t,bx778.t,o1029⟩)
     ·
      refine ao (v:=O2_c10_v) (a8 bD rfl bx710.t rfl) ?_
      refine de 7 13 rfl rfl (by kernel_rfl) rfl rfl ?_ ?_
      ·
       refine kJ (γ:=g771) 118 ju jv (-1) nm cM aI ?_
       intro g1042 w1043 v1044 ch1045 o1046
       exact bC (by kernel_rfl) (nd980 (v1044,g1042) _ _ ⟨bH.t,zs10_c10,zs11_c10,rfl,rfl,rfl,rfl,rfl,rfl,Rg.t,o_done.t,r67.t,pm76.t,bx72.t,o73.t,bx83.t,o611.t,o666.t,bx676.t,bx697.t,bx705.t,bx710.t,o_O1_c10.t,o_O2_c10.t,bx775.t,bx778.t,o1046⟩)
      ·
       refine ao (v:=vg [vi ju,vi jv,vi (-1),vi nm]) (av (ds:=[vi ju,vi jv,vi (-1),vi nm]) aI rfl bx775.t rfl rfl) ?_
       exact bC (by kernel_rfl) (nd1010 (g771) _ _ ⟨bH.t,zs10_c10,zs11_c10,rfl,rfl,rfl,rfl,rfl,rfl,Rg.t,o_done.t,r67.t,pm76.t,bx72.t,o73.t,bx83.t,o611.t,o666.t,bx676.t,bx697.t,bx705.t,bx710.t,o_O1_c10.t,o_O2_c10.t,bx778.t⟩)
     ·
      refine ao (v:=vg [vi ju,vi jv,vi (-1),vi nm]) (av (ds:=[vi ju,vi jv,vi (-1),vi nm]) aI rfl bx775.t rfl rfl) ?_
      refine j0 7 [12,14] (by kernel_rfl) ⟨fU 7 rfl (by kernel_rfl) rfl ?_,fU 12 rfl (by kernel_rfl) rfl ?_,fU 14 rfl (by kernel_rfl) rfl ?_,trivial⟩
      ·
       refine kJ (γ:=g771) 118 ju jv (-1) nm cM aI ?_
       intro g1048 w1049 v1050 ch1051 o1052
       exact bC (by kernel_rfl) (nd995 (v1050,g1048) _ _ ⟨bH.t,zs10_c10,zs11_c10,rfl,rfl,rfl,rfl,rfl,rfl,Rg.t,o_done.t,r67.t,pm76.t,bx72.t,o73.t,bx83.t,o611.t,o666.t,bx676.t,bx697.t,bx705.t,bx710.t,o_O1_c10.t,o_O2_c10.t,bx778.t,o1052⟩)
      ·
       refine ao (v:=O2_c10_v) (a8 bD rfl bx710.t rfl) ?_
       exact bC (by kernel_rfl) (nd1010 (g771) _ _ ⟨bH.t,zs10_c10,zs11_c10,rfl,rfl,rfl,rfl,rfl,rfl,Rg.t,o_done.t,r67.t,pm76.t,bx72.t,o73.t,bx83.t,o611.t,o666.t,bx676.t,bx697.t,bx705.t,bx710.t,o_O1_c10.t,o_O2_c10.t,bx778.t⟩)
      ·
       refine kJ (γ:=g771) 119 ju jv (-1) nm cM aI ?_
       intro g1054 w1055 v1056 ch1057 o1058
       refine de 7 12 rfl rfl (by kernel_rfl) rfl rfl ?_ ?_
       ·
        refine kJ (γ:=g1054) 118 ju jv (-1) nm cM aI ?_
        intro g1059 w1060 v1061 ch1062 o1063
        exact bC (by kernel_rfl) (nd949 (v1061,v1056,g1059) _ _ ⟨bH.t,zs10_c10,zs11_c10,rfl,rfl,rfl,rfl,rfl,rfl,Rg.t,o_done.t,r67.t,pm76.t,bx72.t,o73.t,bx83.t,o611.t,o666.t,bx676.t,bx697.t,bx705.t,bx710.t,o_O1_c10.t,o_O2_c10.t,bx778.t,o1063,o1058.t⟩)
       ·
        refine ao (v:=O2_c10_v) (a8 bD rfl bx710.t rfl) ?_
        exact bC (by kernel_rfl) (nd964 (v1056,g1054) _ _ ⟨bH.t,zs10_c10,zs11_c10,rfl,rfl,rfl,rfl,rfl,rfl,Rg.t,o_done.t,r67.t,pm76.t,bx72.t,o73.t,bx83.t,o611.t,o666.t,bx676.t,bx697.t,bx705.t,bx710.t,o_O1_c10.t,o_O2_c10.t,bx778.t,o1058⟩)
    rintro⟨v788,v800,g1069⟩ f1067 w1068 ⟨bH,zs10_c10,zs11_c10,Rg,o_done,r67,pm76,bx72,o73,bx83,o611,o666,bx676,bx697,bx778,o790,o802,bx805,bx809⟩
    refine a7 (a6 rfl (mz zs10_c10 (mz zs11_c10 (ma (vp b703 0) (ma (vp b708 0) (ab (az (vs:=[vp b703 0,vp b708 0]) Tryz.func61 (.tmp rfl (.tmp rfl .nil)) ?_)))))))
    refine⟨vt [vp b703 0,vp b708 0],rfl,?_⟩
    refine xp (v:=vt [vp b703 0,vp b708 0]) 12 rfl (λw=>ar rfl) (xp 13 rfl (λw=>ay rfl rfl) (xp 14 rfl (λw=>ay rfl rfl) (xp (v:=vp b703 0) 15 rfl (λw=>bK rfl) (xp (v:=vp b708 0) 16 rfl (λw=>bK rfl) (bV (by kernel_rfl) ?_)))))
    obtain⟨g1070,ch1071,pm1072⟩:=dl.close pm76 rfl rfl rfl (u:=(gI todo ((todo.length:Int)-1))) (by exact fB hxA) bx72 o73
    obtain⟨g1073,ch1074,pm1075⟩:=fi.add pm1072 rfl rfl rfl (bx805.a ch1071) (o790.a ch1071)
    obtain⟨g1076,ch1077,pm1078⟩:=fi.add pm1075 rfl rfl rfl (bx809.a ch1074) (o802.a ch1074)
    refine a6 rfl (mv (vp b52 0) (mv (vp b52 0) (lw (vp b52 0) (ae rfl) (lx (aa ml rfl rfl rfl rfl) ?_))))
    refine lx (a8 cX rfl (bx778.a ch1077) rfl) (mv (vp b703 0) (mv (vp b708 0) (lo (aq (α:=Pp) g1076 (is 109) (is 109) (109,0) rfl ([(⟨b703⟩:Pp),(⟨b708⟩:Pp)]:List Pp) jH aY (by decide) (by decide) (vs:=[(0,vp b703 0),(1,vp b708 0)]) rfl rfl (.cons rfl (.cons rfl .nil)) ?_))))
    intro g1080 w1081 v1082 ch1083 o1084
    refine lo ?_
    refine aS (α:=Pp) (xs:=(List.take (Int.toNat ((todo.length:Int)-1)) todo)) (ys:=([(⟨b703⟩:Pp),(⟨b708⟩:Pp)]:List Pp)) g1080 (J:=is 7) (S:=is 7) (7,0) rfl jH aY (by decide) rfl rfl rfl r67.t o1084.flat (by decide) (by(simp;omega)) ?_
    intro g1086 w1087 v1088 ch1089 o1090
    refine lw (vp b52 0) (ae rfl) (lx (aa ml rfl rfl rfl rfl) (lo ?_))
    refine aC (cs':=[vi (nm+1),done_v,v1088]) cX rfl rfl bx778.t (aL o1090.flat) nq (aM o1090.flat) rfl ?_
    intro w1091 ch1092 bx1093
    refine ab (ck (vs:=[]) Tryz.func42 .nil ?_)
    refine⟨vt [],rfl,?_⟩
    refine ab (ak ?_)
    refine back8 (done_v,done,v1088,((List.take (Int.toNat ((todo.length:Int)-1)) todo)++([(⟨b703⟩:Pp),(⟨b708⟩:Pp)]:List Pp)),nm+1,(((pmA.1,List.set pmA.2 (pmA.1.idxOf (gI todo ((todo.length:Int)-1))) (KB,PB)).1++[(⟨b703⟩:Pp)],(pmA.1,List.set pmA.2 (pmA.1.idxOf (gI todo ((todo.length:Int)-1))) (KB,PB)).2++[(0,(O1_c10++([(ju,jv,-1,nm)]:List Bd)))]).1++[(⟨b708⟩:Pp)],((pmA.1,List.set pmA.2 (pmA.1.idxOf (gI todo ((todo.length:Int)-1))) (KB,PB)).1++[(⟨b703⟩:Pp)],(pmA.1,List.set pmA.2 (pmA.1.idxOf (gI todo ((todo.length:Int)-1))) (KB,PB)).2++[(0,(O1_c10++([(ju,jv,-1,nm)]:List Bd)))]).2++[(0,(O2_c10++([(ju,jv,-1,nm)]:List Bd)))]),g1086) _ _ ⟨bH.t,zs6,Rg.t,pm1078.t,bx1093,o_done.t,o1090.t,?_⟩ ?_
    · show fH (dO g) (((pmA.1,List.set pmA.2 (pmA.1.idxOf (gI todo ((todo.length:Int)-1))) (KB,PB)).1++[(⟨b703⟩:Pp)],(pmA.1,List.set pmA.2 (pmA.1.idxOf (gI todo ((todo.length:Int)-1))) (KB,PB)).2++[(0,(O1_c10++([(ju,jv,-1,nm)]:List Bd)))]).1++[(⟨b708⟩:Pp)],((pmA.1,List.set pmA.2 (pmA.1.idxOf (gI todo ((todo.length:Int)-1))) (KB,PB)).1++[(⟨b703⟩:Pp)],(pmA.1,List.set pmA.2 (pmA.1.idxOf (gI todo ((todo.length:Int)-1))) (KB,PB)).2++[(0,(O1_c10++([(ju,jv,-1,nm)]:List Bd)))]).2++[(0,(O2_c10++([(ju,jv,-1,nm)]:List Bd)))]) ((List.take (Int.toNat ((todo.length:Int)-1)) todo)++([(⟨b703⟩:Pp),(⟨b708⟩:Pp)]:List Pp)) done (nm+1)
      (have hce:=tq hcc hix ‹_› ‹_›;subst hju;subst hjv;rw[hapd.1,hapd.2,hff,hce];subst hKB;subst hPB;exact hsp.cut htt (λz hz=>by rw[hzz] at hz;rw[<-Option.some.inj hz];exact hcz) (fi.nd ‹_›) (mM hcb))
    · show mn (i7 (((pmA.1,List.set pmA.2 (pmA.1.idxOf (gI todo ((todo.length:Int)-1))) (KB,PB)).1++[(⟨b703⟩:Pp)],(pmA.1,List.set pmA.2 (pmA.1.idxOf (gI todo ((todo.length:Int)-1))) (KB,PB)).2++[(0,(O1_c10++([(ju,jv,-1,nm)]:List Bd)))]).1++[(⟨b708⟩:Pp)],((pmA.1,List.set pmA.2 (pmA.1.idxOf (gI todo ((todo.length:Int)-1))) (KB,PB)).1++[(⟨b703⟩:Pp)],(pmA.1,List.set pmA.2 (pmA.1.idxOf (gI todo ((todo.length:Int)-1))) (KB,PB)).2++[(0,(O1_c10++([(ju,jv,-1,nm)]:List Bd)))]).2++[(0,(O2_c10++([(ju,jv,-1,nm)]:List Bd)))]) ((List.take (Int.toNat ((todo.length:Int)-1)) todo)++([(⟨b703⟩:Pp),(⟨b708⟩:Pp)]:List Pp)))<mn (i7 pmA todo)
      (have hce:=tq hcc hix ‹_› ‹_›;subst hju;subst hjv;rw[hapd.1,hapd.2,hff,hce];subst hKB;subst hPB;exact hsp.cutM htt (fi.nd ‹_›) (mM hcb))
   refine af rfl (df p4_c8) (am (ak ?_))
   refine a6 rfl (lx (aJ (m:=↑kx) (n:=1) zs8_c8 rfl (by omega)) (mi ((kx:Int)+1) (ab ?_)))
   refine back2_c8 (kx+1,g685) _ _ ⟨bH,zs0_c8,zs1_c8,zs7_c8,rfl,Rg,o_done,r67,bx70,pm76,bx72,o73,bx83,o611,o666,bx676,by omega,?_⟩ ?_
   · show∀j:Nat,j<(kx+1)->¬1<((gI ((b6 (ba PB) ((gI ((aH (ba PB)).1) 0).1) ((gI ((aH (ba PB)).1) 0).2)).1) (j:Int)).length:Int)
     intro j hj
     by_cases e0:j=kx
     · subst e0;assumption
     · exact hix j (by omega)
   · show Int.toNat (_-_)<Int.toNat (_-_)
     omega
  exact(Ba hcc hix ‹_›).elim
 refine af rfl (df p8) (aF rfl (a7 ?_))
 have hdn:=hsp.done_ ‹_›
 refine bp g58 [0,1,2,3,4,5,6,7,9] dv ?_
 intro w1097 ch1096
 refine xp (v:=vp b52 0) 0 rfl (λw=>ar zs6) (xp (v:=vp b52 0) 1 rfl (λw=>ae rfl) (xp 2 rfl (λw=>aa ml rfl rfl rfl rfl) ?_))
 refine xv 3 [2,1,0,4,5,6,7] rfl (a8 cX rfl bx54.t rfl) (xp (v:=vp b52 0) 4 rfl (λw=>ar zs6) (xp (v:=vp b52 0) 5 rfl (λw=>ae rfl) (xp 6 rfl (λw=>aa ml rfl rfl rfl rfl) (xv 7 [6,5,4,3,2,1,0] rfl (a8 ap rfl bx54.t rfl) ?_))))
 refine cE 8 rfl (bB (aB (vals:=[done_v,vi nm]) Tryz.func43 yC yZ rfl) (qP w1097 done done_v (o_done.t.flat).ro nm pmA pm44.t.ro (by exact hdn.2.2.1) (by exact hdn.2.2.2.2.1) (by exact hdn.2.2.2.2.2) (by(rw[hdn.1,hdn.2.1];exact hT.ok)) (by(rw[hdn.1,hdn.2.1];exact hT.j)) (by(rw[hdn.1,hdn.2.1];exact hT.rt))) ?_)
 rintro⟨d1099,v1101,pL,pA⟩ w1098 ⟨fr1100,o1102,pm1103,hpR⟩
 obtain⟨g1104,ch1105,G1104⟩:=hU g58 fr1100 (λn=>if n=1 then 120 else if n=2 then 121 else 0)
 replace o1102:=o1102.gl G1104 120
 replace pm1103:=pm1103.gl G1104 121
 refine xp (v:=v1101) 9 rfl (λw=>bK rfl) (bV (by kernel_rfl) (az (vs:=[v1101]) Tryz.func37 (.tmp rfl .nil) ?_))
 exact⟨(fin w0 g1104 (λn=>if n=120 then 1 else if n=121 then 2 else 0),v1101,pL,pA),rfl,bH.t.fresh _,(o1102.glue (γ:=c0) (ren:=(λn=>if n=120 then 1 else if n=121 then 2 else 0)) (k:=1) bH.t.col rfl rfl),(pm1103.glue (γ:=c0) (ren:=(λn=>if n=120 then 1 else if n=121 then 2 else 0)) (k:=2) bH.t.col rfl rfl),(by(have hq:=hpR;rw[hdn.1,hdn.2.1] at hq;exact hq))⟩
end TL
