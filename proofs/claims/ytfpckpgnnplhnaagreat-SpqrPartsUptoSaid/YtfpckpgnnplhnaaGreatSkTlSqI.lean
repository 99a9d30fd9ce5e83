import Derived.Test.YtfpckpgnnplhnaaGreatSkTlSortE
import Derived.Test.YtfpckpgnnplhnaaGreatSkTlSqN
import Derived.Test.YtfpckpgnnplhnaaGreatSkTlGmA
import Derived.Test.YtfpckpgnnplhnaaGreatSkTlGenA
import Derived.Test.YtfpckpgnnplhnaaGreatSkTlAli
set_option linter.all false
set_option maxRecDepth 20000
namespace TL
open Go Go.Proofs
theorem j9:Tryz.prog.follows .mixedOrders=true:=by kernel_rfl
theorem kk:Tp Tryz.prog 38 false 1 24 (.slice none 0 0):=Tp.of (by kernel_rfl)
theorem iX:Tp Tryz.prog 39 false 1 24 (.slice none 0 0):=Tp.of (by kernel_rfl)
theorem dY:Tp Tryz.prog 41 true 3 56 (.agg #[.int .i64 0,.slice none 0 0,.slice none 0 0]):=Tp.of (by kernel_rfl)
theorem fS:Tp Tryz.prog 57 true 4 32 (.agg #[.int .i64 0,.int .i64 0,.int .i64 0,.int .i64 0]):=Tp.of (by kernel_rfl)
theorem ye:Tp Tryz.prog 64 false 1 24 (.slice none 0 0):=Tp.of (by kernel_rfl)
theorem uO:Tp Tryz.prog 73 false 1 8 (.pointer none):=Tp.of (by kernel_rfl)
theorem qa:Tp Tryz.prog 85 false 1 24 (.slice none 0 0):=Tp.of (by kernel_rfl)
theorem xu:Tryz.f51.body.isNone=false:=rfl
theorem vX:(Tryz.f51.name== "runtime.NumGoroutine")=false:=by decide+kernel
theorem pq:Tryz.f57.body.isNone=false:=rfl
theorem pZ:(Tryz.f57.name== "runtime.NumGoroutine")=false:=by decide+kernel
theorem ql:Tryz.f72.body.isNone=false:=rfl
theorem pM:(Tryz.f72.name== "runtime.NumGoroutine")=false:=by decide+kernel
theorem wu:Tryz.f77.body.isNone=false:=rfl
theorem un:(Tryz.f77.name== "runtime.NumGoroutine")=false:=by decide+kernel
theorem xa(w0:World)(n_b:Nat)(n0_v:Value)(ps:List Pp)(hn0_v:Ro w0 n0_v ps)(n1_v:Value)(ho:jH)(hn1_v:Ro w0 n1_v ho)(n2_v:Value)(nu:List Int)(hn2_v:Ro w0 n2_v nu)(n3_v:Value)(n4_v:Value)(hn_b:Bx c0 (is 0) w0 n_b [n0_v,n1_v,n2_v,n3_v,n4_v])(i:Int)(AR:List Pp×List (bY Bd))(hAR:A2 w0 AR.1 AR.2)(hin:∀u∈ps,u∈AR.1)(hpl:(ps.length:Int)<=100001)(hi0:0<=i)(hi1:i<ps.length)(hpo:tp (ps.map (bo AR)) ho nu i):
    Calls Tryz.prog 50 #[vp n_b 0,vi i] w0 (λee w=>∃xx:aw×Value×Value,ee= .returned ((λ⟨δ,rv0,rv1⟩=>vg [vi ((iU (ps.map (bo AR)) ho nu i).1),rv0,rv1]) xx)/\(λ(⟨δ,rv0,rv1⟩:aw×Value×Value) (w:World)=>dU w0 δ w/\Ow δ (is 1) (is 1) w rv0 (((iU (ps.map (bo AR)) ho nu i).2).1)/\Ow δ (is 2) (is 2) w rv1 (((iU (ps.map (bo AR)) ho nu i).2).2)) xx w):=by
 refine ap Tryz.func50 rfl nq ?_
 have bH:=b6.start w0
 have Rn0:=hn0_v.sl
 have Rn1:=hn1_v.sl
 have Rn2:=hn2_v.sl
 have ar_A:=hAR.start
 have hvi:gI (ps.map (bo AR)) i=(lA AR (gI ps i)):=iO hi0 hi1
 have hpp:iU (ps.map (bo AR)) ho nu i=((lA AR (gI ps i)).1,cC (lA AR (gI ps i)).2,kp ((lA AR (gI ps i)).2.map (th nu ho i))):=by unfold iU;rw[hvi]
 unfold tp at hpo
 rw[hvi] at hpo
 obtain⟨⟨hb0,hb1⟩,hbv,hbs⟩:=hpo
 refine a7 (a6 rfl (cN rfl (bi c0 (is 1) (1,0) rfl dY ?_)))
 intro g4 w1 b3 ch2 bx5
 refine ab (a7 (a6 rfl (mv (vp n_b 0) (lw (vp n_b 0) (ae rfl) (lx (aa qD rfl rfl rfl rfl) ?_)))))
 replace hn_b:=hn_b.cn ch2
 refine lx (a8 ye rfl hn_b rfl) (mi i ?_)
 replace Rn0:=Rn0.cn ch2
 refine lx (ad (v:=n0_v) (i:=i) iZ rfl rfl Rn0 rfl (by omega) (by omega)) (lx (av (v:=n0_v) (i:=i) uO rfl Rn0 (by omega) (by omega) (by decide) rfl) (ma (Value.pointer (some ⟨(gI ps i).n,0,none⟩)) (ab (a7 ?_))))
 replace ar_A:=ar_A.cn ch2
 obtain⟨v6,bx7,o8⟩:=fV.gt (u:=(gI ps i)) ar_A (j:=(AR.1.idxOf (gI ps i))) (by exact fb (hin _ (bC (by omega) (by omega))))
 refine dy (σ:=Nat×Value×aw) (λ⟨b21,v14,gq⟩ f w=>b6 w0 gq w/\f 0=vp n_b 0/\f 1=vi i/\f 4=vp b3 0/\f 5=Value.pointer (some ⟨(gI ps i).n,0,none⟩)/\f 6=vp b21 0/\Sl gq (is 0) w n0_v ps/\Sl gq (is 0) w n1_v ho/\Sl gq (is 0) w n2_v nu/\Bx gq (is 0) w n_b [n0_v,n1_v,n2_v,n3_v,n4_v]/\fV gq w AR.1 AR.2/\Bx gq (is 1) w b3 [vi 0,vn,vn]/\Bx gq (is 0) w (gI ps i).n [vi ((lA AR (gI ps i)).1),v6]/\Sl gq (is 0) w v6 ((lA AR (gI ps i)).2)/\Ow gq (is 2) (is 2) w v14 (cC ((lA AR (gI ps i)).2))/\Bx gq (is 3) w b21 [vi ((lA AR (gI ps i)).1),v14,vn]) g4 (inl [3]) j9 ?_ ?_
 ·
  intro mid
  intro w10 ch9
  refine ht (v:=Value.pointer (some ⟨(gI ps i).n,0,none⟩)) 0 rfl (aU.refl _ _ _) (λw' hw'=>aq rfl) (ht (v:=Value.pointer (some ⟨(gI ps i).n,0,none⟩)) 1 rfl (aU.refl _ _ _) (λw' hw'=>ae rfl) (ht 2 rfl (aU.refl _ _ _) (λw' hw'=>aa dR rfl rfl rfl rfl) ?_))
  replace bx7:=bx7.cn ch9
  refine ht 3 rfl (aU.refl _ _ _) (λw' hw'=>a8 ah rfl (bx7.chg hw' (bI rfl)) rfl) (ht (v:=Value.pointer (some ⟨(gI ps i).n,0,none⟩)) 4 rfl (aU.refl _ _ _) (λw' hw'=>aq rfl) ?_)
  refine bO 5 [7] (by kernel_rfl) ⟨bL 5 rfl (by kernel_rfl) rfl ?_,bL 7 rfl (by kernel_rfl) rfl ?_,trivial⟩
  ·
   replace o8:=o8.cn ch9
   refine bE (aH (vals:=[Value.pointer (some ⟨(gI ps i).n,0,none⟩)]) Tryz.func57 pq pZ rfl) (j5 w10 (gI ps i).n (vi ((lA AR (gI ps i)).1)) v6 ((lA AR (gI ps i)).2) (o8).ro (iR (bx7)) (by omega) (by omega)) ?_
   rintro⟨d12,v14⟩ w11 ⟨fr13,o15⟩
   obtain⟨g16,ch17,G16⟩:=i8 g4 fr13 (λn=>if n=1 then 2 else 0)
   replace o15:=o15.gl G16 2
   have hs18:aU (inl [3]) _ _ _ _:=ch17.n
   refine⟨hs18.same,?_⟩
   refine ht (v:=vg [vi ((lA AR (gI ps i)).1),v14,vn]) 6 rfl hs18.same (λw' hw'=>bh (vs:=[(0,vi ((lA AR (gI ps i)).1)),(1,v14)]) rfl (by rw[Sl.form o15.flat];kernel_rfl)) (az 7 rfl (by kernel_rfl) rfl (bi g16 (is 3) (3,0) rfl dY ?_))
   intro g22 w19 b21 ch20 bx23
   have hs24:=hs18.seq (ch20.n)
   refine⟨hs24.same,?_⟩
   refine az 8 rfl (by kernel_rfl) rfl ?_
   replace o15:=o15.cn ch20
   refine ax (cs':=[vi ((lA AR (gI ps i)).1),v14,vn]) dY rfl rfl bx23 rfl nq (AllOne.all (.cons rfl (.cons (aG o15.flat) (.cons rfl .nil)))) rfl ?_
   intro w25 ch26 bx27
   clear bx23
   have hs28:=hs24.seq (ch26.l rfl)
   refine⟨hs28.same,?_⟩
   refine bP (by kernel_rfl) ?_
   have C29:=cg [3] (ch2.n.seq (ch9.n.seq (ch17.n.seq (ch20.n.seq (ch26.l rfl)))))
   replace Rn0:=Rn0.cn ch9
   replace Rn1:=(Rn1.cn ch2).cn ch9
   replace Rn2:=(Rn2.cn ch2).cn ch9
   replace hn_b:=hn_b.cn ch9
   replace ar_A:=ar_A.cn ch9
   replace bx5:=bx5.cn ch9
   exact mid (b21,v14,g22) _ _ ⟨bH.ca C29,rfl,rfl,rfl,rfl,rfl,(Rn0.ca hs28),(Rn1.ca hs28),(Rn2.ca hs28),(hn_b.ca hs28),(ar_A.ca hs28),(bx5.ca hs28),(bx7.ca hs28),(o8.ca hs28),o15.ce ch26,bx27⟩
  ·
   refine bi g4 (is 3) (3,0) rfl dY ?_
   intro g33 w30 b32 ch31 bx34
   have hs35:aU (inl [3]) _ _ _ _:=ch31.n
   refine⟨hs35.same,?_⟩
   refine az 5 rfl (by kernel_rfl) rfl ?_
   replace o8:=o8.cn ch9
   refine bE (aH (vals:=[Value.pointer (some ⟨(gI ps i).n,0,none⟩)]) Tryz.func57 pq pZ rfl) (j5 w30 (gI ps i).n (vi ((lA AR (gI ps i)).1)) v6 ((lA AR (gI ps i)).2) ((o8.ca hs35)).ro (iR ((bx7.ca hs35))) (by omega) (by omega)) ?_
   rintro⟨d37,v39⟩ w36 ⟨fr38,o40⟩
   obtain⟨g41,ch42,G41⟩:=i8 g33 fr38 (λn=>if n=1 then 2 else 0)
   replace o40:=o40.gl G41 2
   have hs43:=hs35.seq (ch42.n)
   refine⟨hs43.same,?_⟩
   refine ht (v:=vg [vi ((lA AR (gI ps i)).1),v39,vn]) 6 rfl hs43.same (λw' hw'=>bh (vs:=[(0,vi ((lA AR (gI ps i)).1)),(1,v39)]) rfl (by rw[Sl.form o40.flat];kernel_rfl)) (az 8 rfl (by kernel_rfl) rfl ?_)
   replace bx34:=bx34.cn ch42
   refine ax (cs':=[vi ((lA AR (gI ps i)).1),v39,vn]) dY rfl rfl bx34 rfl nq (AllOne.all (.cons rfl (.cons (aG o40.flat) (.cons rfl .nil)))) rfl ?_
   intro w44 ch45 bx46
   clear bx34
   have hs47:=hs43.seq (ch45.l rfl)
   refine⟨hs47.same,?_⟩
   refine bP (by kernel_rfl) ?_
   have C48:=cg [3] (ch2.n.seq (ch9.n.seq (ch31.n.seq (ch42.n.seq (ch45.l rfl)))))
   replace Rn0:=Rn0.cn ch9
   replace Rn1:=(Rn1.cn ch2).cn ch9
   replace Rn2:=(Rn2.cn ch2).cn ch9
   replace hn_b:=hn_b.cn ch9
   replace ar_A:=ar_A.cn ch9
   replace bx5:=bx5.cn ch9
   exact mid (b32,v39,g41) _ _ ⟨bH.ca C48,rfl,rfl,rfl,rfl,rfl,(Rn0.ca hs47),(Rn1.ca hs47),(Rn2.ca hs47),(hn_b.ca hs47),(ar_A.ca hs47),(bx5.ca hs47),(bx7.ca hs47),(o8.ca hs47),o40.ce ch45,bx46⟩
 clear Rn0 Rn1 Rn2 hn_b ar_A bx5 bx7 o8 bH
 rintro⟨b21,v14,g51⟩ f49 w50 ⟨bH,zs0,zs1,zs4,zs5,zs6,Rn0,Rn1,Rn2,hn_b,ar_A,bx5,bx7,o8,o15,bx27⟩
 refine a7 (a7 (a6 rfl (mz zs5 (lw (Value.pointer (some ⟨(gI ps i).n,0,none⟩)) (ae rfl) (lx (aa dR rfl rfl rfl rfl) (lx (a8 bB rfl bx7 rfl) ?_))))))
 have len52:=(o8).small
 refine lx (bp cJ rfl o8) (mi 0 (ab (am ?_)))
 clear bx7
 refine aV (σ:=Value×(List Bd)×Nat×aw) (λ⟨ed_v,ed,j,gq⟩ f w=>b6 w0 gq w/\f 0=vp n_b 0/\f 1=vi i/\f 4=vp b3 0/\f 6=vp b21 0/\f 27=v6/\f 28=vi (List.length ((lA AR (gI ps i)).2):Int)/\f 29=vi ↑j/\Sl gq (is 0) w n0_v ps/\Sl gq (is 0) w n1_v ho/\Sl gq (is 0) w n2_v nu/\Bx gq (is 0) w n_b [n0_v,n1_v,n2_v,n3_v,n4_v]/\fV gq w AR.1 AR.2/\Bx gq (is 1) w b3 [vi 0,vn,vn]/\Sl gq (is 0) w v6 ((lA AR (gI ps i)).2)/\Ow gq (is 2) (is 2) w v14 (cC ((lA AR (gI ps i)).2))/\Bx gq (is 3) w b21 [vi ((lA AR (gI ps i)).1),v14,ed_v]/\Ow gq (is 8) (is 8) w ed_v ed/\(j:Int)<=((List.length ((lA AR (gI ps i)).2):Int):Int)/\(ed=((lA AR (gI ps i)).2.take j).map (th nu ho i))) (λ⟨ed_v,ed,j,gq⟩=>Int.toNat (((List.length ((lA AR (gI ps i)).2):Int):Int)-(j:Int))) (vn,[],0,g51) ?_ ?_
 · exact⟨bH,zs0,zs1,zs4,zs6,rfl,rfl,rfl,Rn0,Rn1,Rn2,hn_b,ar_A,bx5,o8,o15,bx27,Ow.nil,by omega,by rfl⟩
 clear Rn0 Rn1 Rn2 hn_b ar_A bx5 o8 o15 bx27 bH
 rintro⟨ed_v,ed,j,g55⟩ f53 w54 ⟨bH,zs0,zs1,zs4,zs6,zs27,zs28,zs29,Rn0,Rn1,Rn2,hn_b,ar_A,bx5,o8,o15,bx27,o_ed,hle_j,hed⟩ back4
 have hedl:ed.length<=j:=by rw[hed,List.length_map,List.length_take];omega
 refine a7 (a6 rfl (lx (bw (m:=↑j) (n:=(List.length ((lA AR (gI ps i)).2):Int)) zs29 zs28) (ab (a7 ?_))))
 by_cases p4:(j:Int)<(List.length ((lA AR (gI ps i)).2):Int)
 ·
  refine af rfl (dt p4) (ao (a7 (am (a7 (a6 rfl (lx (ad (v:=v6) (i:=↑j) cJ rfl zs27 o8 zs29 (by omega) (by omega)) (lw (vg [vi ((gI ((lA AR (gI ps i)).2) (j:Int)).1),vi (((gI ((lA AR (gI ps i)).2) (j:Int)).2).1),vi ((((gI ((lA AR (gI ps i)).2) (j:Int)).2).2).1),vi ((((gI ((lA AR (gI ps i)).2) (j:Int)).2).2).2)]) (bJ (v:=v6) (i:=↑j) aF rfl o8 (by omega) (by omega) rfl) (lo (bi g55 (is 4) (4,0) rfl aF ?_)))))))))
  intro g59 w56 b58 ch57 bx60
  refine lo (ax (cs':=[vi ((gI ((lA AR (gI ps i)).2) (j:Int)).1),vi (((gI ((lA AR (gI ps i)).2) (j:Int)).2).1),vi ((((gI ((lA AR (gI ps i)).2) (j:Int)).2).2).1),vi ((((gI ((lA AR (gI ps i)).2) (j:Int)).2).2).2)]) aF rfl rfl bx60 rfl nq (AllOne.all (.cons rfl (.cons rfl (.cons rfl (.cons rfl .nil))))) rfl ?_)
  intro w61 ch62 bx63
  clear bx60
  refine ab (a7 (a6 rfl (lx (aa iL rfl rfl rfl rfl) (lx (a8 ah rfl bx63 rfl) (lx (aa iL rfl rfl rfl rfl) (lx (a8 ah rfl bx63 rfl) (lx (aa iL rfl rfl rfl rfl) (lx (a8 ah rfl bx63 rfl) ?_))))))))
  refine lw (vg [vi ((gI ((lA AR (gI ps i)).2) (j:Int)).1),vi (((gI ((lA AR (gI ps i)).2) (j:Int)).2).1),vi ((((gI ((lA AR (gI ps i)).2) (j:Int)).2).2).1),vi (-1)]) (bh (vs:=[(0,vi ((gI ((lA AR (gI ps i)).2) (j:Int)).1)),(1,vi (((gI ((lA AR (gI ps i)).2) (j:Int)).2).1)),(2,vi ((((gI ((lA AR (gI ps i)).2) (j:Int)).2).2).1)),(3,vi (-1))]) rfl (by kernel_rfl)) (lo (bi g59 (is 5) (5,0) rfl fS ?_))
  intro g67 w64 b66 ch65 bx68
  refine lo (ax (cs':=[vi ((gI ((lA AR (gI ps i)).2) (j:Int)).1),vi (((gI ((lA AR (gI ps i)).2) (j:Int)).2).1),vi ((((gI ((lA AR (gI ps i)).2) (j:Int)).2).2).1),vi (-1)]) fS rfl rfl bx68 rfl nq (AllOne.all (.cons rfl (.cons rfl (.cons rfl (.cons rfl .nil))))) rfl ?_)
  intro w69 ch70 bx71
  clear bx68
  refine ab (a7 (a7 (a6 rfl ?_)))
  replace bx63:=(bx63.cn ch65).ce ch70
  refine lx (ay (ds:=[vi ((gI ((lA AR (gI ps i)).2) (j:Int)).1),vi (((gI ((lA AR (gI ps i)).2) (j:Int)).2).1),vi ((((gI ((lA AR (gI ps i)).2) (j:Int)).2).2).1),vi ((((gI ((lA AR (gI ps i)).2) (j:Int)).2).2).2)]) aF rfl bx63 rfl rfl) (lo (br (aH (vals:=[vg [vi ((gI ((lA AR (gI ps i)).2) (j:Int)).1),vi (((gI ((lA AR (gI ps i)).2) (j:Int)).2).1),vi ((((gI ((lA AR (gI ps i)).2) (j:Int)).2).2).1),vi ((((gI ((lA AR (gI ps i)).2) (j:Int)).2).2).2)]]) Tryz.func51 xu vX rfl) ?_))
  refine ap Tryz.func51 rfl nq (a7 (a6 rfl (cN rfl (cq g67 (is 6) (6,0) rfl rfl ?_))))
  intro g75 w72 b74 ch73 bx76
  refine ma (vb false) (ab (a7 (a6 rfl (lx (aa iL rfl rfl rfl rfl) (lx (a8 ah rfl bx76 rfl) (lx (eB (m:=(((gI ((lA AR (gI ps i)).2) (j:Int)).2).2).1) (n:=0) rfl rfl) (ma (vb (decide (0<=((((gI ((lA AR (gI ps i)).2) (j:Int)).2).2).1)))) (ab (au (vs:=[vb (decide (0<=((((gI ((lA AR (gI ps i)).2) (j:Int)).2).2).1)))]) Tryz.func51 (.tmp rfl .nil) ?_)))))))))
  refine⟨vb (decide (0<=((((gI ((lA AR (gI ps i)).2) (j:Int)).2).2).1))),rfl,?_⟩
  refine lx (eU (b:=decide (0<=((((gI ((lA AR (gI ps i)).2) (j:Int)).2).2).1))) rfl) (ab ?_)
  by_cases p7:0<=((((gI ((lA AR (gI ps i)).2) (j:Int)).2).2).1)
  ·
   refine ag rfl (congrArg Bool.not (dt p7)) (ao ?_)
   clear bx63 bx76
   refine a6 rfl (lx (aa fK rfl rfl zs6 rfl) ?_)
   have C77:=cg [4,5] (ch57.n.seq ((ch62.l rfl).seq (ch65.n.seq ((ch70.l rfl).seq ch73.n))))
   replace bx27:=bx27.ca C77
   refine lx (a8 iX rfl bx27 rfl) ?_
   replace bx71:=bx71.cn ch73
   refine lx (ay (ds:=[vi ((gI ((lA AR (gI ps i)).2) (j:Int)).1),vi (((gI ((lA AR (gI ps i)).2) (j:Int)).2).1),vi ((((gI ((lA AR (gI ps i)).2) (j:Int)).2).2).1),vi (-1)]) fS rfl bx71 rfl rfl) (lo ?_)
   refine ar (α:=Bd) g75 (is 7) (is 7) (7,0) rfl [((gI ((lA AR (gI ps i)).2) (j:Int)).1,((gI ((lA AR (gI ps i)).2) (j:Int)).2).1,(((gI ((lA AR (gI ps i)).2) (j:Int)).2).2).1,-1)] jr fS (by decide) (by decide) (vs:=[(0,vg [vi ((gI ((lA AR (gI ps i)).2) (j:Int)).1),vi (((gI ((lA AR (gI ps i)).2) (j:Int)).2).1),vi ((((gI ((lA AR (gI ps i)).2) (j:Int)).2).2).1),vi (-1)])]) rfl rfl (.cons rfl .nil) ?_
   intro g78 w79 v80 ch81 o82
   refine lo ?_
   have C83:=cg [4,5] (ch57.n.seq ((ch62.l rfl).seq (ch65.n.seq ((ch70.l rfl).seq (ch73.n.seq ch81.n)))))
   replace o_ed:=o_ed.ca C83
   refine i9 o_ed o82.flat jr fS (by(simp;omega)) ?_
   intro g84 w85 v86 ch87 o88
   clear o_ed
   refine lx (aa fK rfl rfl zs6 rfl) (lo ?_)
   replace bx27:=(bx27.cn ch81).ce ch87
   refine aC (cs':=[vi ((lA AR (gI ps i)).1),v14,v86]) iX rfl rfl bx27 (aP o88.flat) nq (aG o88.flat) rfl ?_
   intro w89 ch90 bx91
   clear bx27
   refine ab (ak ?_)
   clear bx71 o82
   refine a6 rfl (lx (aS (m:=↑j) (n:=1) zs29 rfl (by omega)) (mi ((j:Int)+1) (ab ?_)))
   have C92:=cg [3,4,5,8] (ch57.n.seq ((ch62.l rfl).seq (ch65.n.seq ((ch70.l rfl).seq (ch73.n.seq (ch81.n.seq ((ch87.l rfl).seq (ch90.l rfl))))))))
   refine back4 (v86,(ed++[((gI ((lA AR (gI ps i)).2) (j:Int)).1,((gI ((lA AR (gI ps i)).2) (j:Int)).2).1,(((gI ((lA AR (gI ps i)).2) (j:Int)).2).2).1,-1)]),j+1,g84) _ _ ⟨bH.ca C92,zs0,zs1,zs4,zs6,zs27,zs28,rfl,Rn0.ca C92,Rn1.ca C92,Rn2.ca C92,hn_b.ca C92,ar_A.ca C92,bx5.ca C92,o8.ca C92,o15.ca C92,bx91,o88.ce ch90,by omega,?_⟩ ?_
   · show(ed++[((gI ((lA AR (gI ps i)).2) (j:Int)).1,((gI ((lA AR (gI ps i)).2) (j:Int)).2).1,(((gI ((lA AR (gI ps i)).2) (j:Int)).2).2).1,-1)])=((lA AR (gI ps i)).2.take (j+1)).map (th nu ho i)
     exact yq hed ‹_› (by omega)
   · show Int.toNat (_-_)<Int.toNat (_-_)
     omega
  refine af rfl (congrArg Bool.not (df p7)) ?_
  clear bx76
  obtain⟨⟨hq1,hq2,hq3,hq4,hq5,hq6,hq7⟩,hq8,hq9⟩:=hbv _ (bC (i:=↑j) (by omega) ‹_›) (by omega)
  unfold eu at hq8 hq9
  refine dl (σ:=aw) (λgq f w=>b6 w0 gq w/\f 0=vp n_b 0/\f 1=vi i/\f 4=vp b3 0/\f 6=vp b21 0/\f 9=vp b66 0/\f 27=v6/\f 28=vi (List.length ((lA AR (gI ps i)).2):Int)/\f 29=vi ↑j/\Sl gq (is 0) w n0_v ps/\Sl gq (is 0) w n1_v ho/\Sl gq (is 0) w n2_v nu/\Bx gq (is 0) w n_b [n0_v,n1_v,n2_v,n3_v,n4_v]/\fV gq w AR.1 AR.2/\Bx gq (is 1) w b3 [vi 0,vn,vn]/\Sl gq (is 0) w v6 ((lA AR (gI ps i)).2)/\Ow gq (is 2) (is 2) w v14 (cC ((lA AR (gI ps i)).2))/\Bx gq (is 3) w b21 [vi ((lA AR (gI ps i)).1),v14,ed_v]/\Ow gq (is 8) (is 8) w ed_v ed/\Bx gq (is 5) w b66 [vi ((gI ((lA AR (gI ps i)).2) (j:Int)).1),vi (((gI ((lA AR (gI ps i)).2) (j:Int)).2).1),vi ((((gI ((lA AR (gI ps i)).2) (j:Int)).2).2).1),vi (gI nu (((gI (gI ho ((((gI ((lA AR (gI ps i)).2) (j:Int)).2).2).2)) 0)+(gI (gI ho ((((gI ((lA AR (gI ps i)).2) (j:Int)).2).2).2)) 1))-i))]) g75 [0,1,2,4,5,6,7,9,10,11] j9 ?_ ?_
  ·
   intro mid
   intro w94 ch93
   refine xp (v:=vp n_b 0) 0 rfl (λw=>aq zs0) (xp (v:=vp n_b 0) 1 rfl (λw=>ae rfl) (xp 2 rfl (λw=>aa qD rfl rfl rfl rfl) (xp (v:=vp n_b 0) 4 rfl (λw=>aq zs0) (xp (v:=vi i) 5 rfl (λw=>aq zs1) (xp 6 rfl (λw=>aa iL rfl rfl rfl rfl) ?_)))))
   replace bx63:=(bx63.cn ch73).cn ch93
   refine xh 7 [6,5,4,2,1,0,3] rfl (λw' hw'=>a8 ah rfl (bx63.bel hw') rfl) ?_
   refine dD 3 8 rfl rfl (by kernel_rfl) rfl rfl ?_ ?_
   ·
    have C95:=cg [4,5] (ch57.n.seq ((ch62.l rfl).seq (ch65.n.seq ((ch70.l rfl).seq (ch73.n.seq ch93.n)))))
    replace hn_b:=hn_b.ca C95
    refine aj (v:=n2_v) (a8 kk rfl hn_b rfl) (b9 8 rfl (by kernel_rfl) rfl (br (aH (vals:=[vp n_b 0,vi i,vi ((((gI ((lA AR (gI ps i)).2) (j:Int)).2).2).2)]) Tryz.func72 ql pM rfl) (ap Tryz.func72 rfl nq ?_)))
    replace Rn0:=Rn0.ca C95
    replace Rn1:=Rn1.ca C95
    replace Rn2:=Rn2.ca C95
    refine a7 (a6 rfl (ai 0 (ab (a7 (a6 rfl (mv (vp n_b 0) (lw (vp n_b 0) (ae rfl) (lx (aa qD rfl rfl rfl rfl) (lx (a8 qa rfl hn_b rfl) (mi ((((gI ((lA AR (gI ps i)).2) (j:Int)).2).2).2) (lx (ad (v:=n1_v) (i:=(((gI ((lA AR (gI ps i)).2) (j:Int)).2).2).2) gf rfl rfl Rn1 rfl (by omega) (by omega)) ?_)))))))))))
    obtain⟨v96,cel97,r98⟩:=ym (r:=(((gI ((lA AR (gI ps i)).2) (j:Int)).2).2).2) Rn1 (by omega) (by omega)
    refine lx (cH kk rfl cel97) (ma v96 (ab (a7 (cG g75 rfl j9 (by kernel_rfl) ?_))))
    intro w100 ch99
    refine qm v96 ?_
    replace r98:=r98.cn ch99
    refine qx (λw' hw'=>ad (v:=v96) (i:=0) bF rfl rfl (r98.bel hw') rfl (by omega) (by omega)) (qx (λw' hw'=>av (v:=v96) (i:=0) ah rfl (r98.bel hw') (by omega) (by omega) (by decide) rfl) (qm v96 (qx (λw' hw'=>ad (v:=v96) (i:=1) bF rfl rfl (r98.bel hw') rfl (by omega) (by omega)) (qx (λw' hw'=>av (v:=v96) (i:=1) ah rfl (r98.bel hw') (by omega) (by omega) (by decide) rfl) (qx (λw' hw'=>aS (m:=(gI (gI ho ((((gI ((lA AR (gI ps i)).2) (j:Int)).2).2).2)) 0)) (n:=(gI (gI ho ((((gI ((lA AR (gI ps i)).2) (j:Int)).2).2).2)) 1)) rfl rfl (by omega)) (qm (vi i) ?_))))))
    refine qx (λw' hw'=>ej (m:=(gI (gI ho ((((gI ((lA AR (gI ps i)).2) (j:Int)).2).2).2)) 0)+(gI (gI ho ((((gI ((lA AR (gI ps i)).2) (j:Int)).2).2).2)) 1)) (n:=i) rfl rfl (by omega)) (qv (vi (((gI (gI ho ((((gI ((lA AR (gI ps i)).2) (j:Int)).2).2).2)) 0)+(gI (gI ho ((((gI ((lA AR (gI ps i)).2) (j:Int)).2).2).2)) 1))-i)) (λw' hw'=>bm rfl) (ep ?_))
    intro w101 hc102
    replace hc102:=aN hc102 g75
    refine au (vs:=[vi (((gI (gI ho ((((gI ((lA AR (gI ps i)).2) (j:Int)).2).2).2)) 0)+(gI (gI ho ((((gI ((lA AR (gI ps i)).2) (j:Int)).2).2).2)) 1))-i)]) Tryz.func72 (.tmp rfl .nil) ?_
    refine⟨vi (((gI (gI ho ((((gI ((lA AR (gI ps i)).2) (j:Int)).2).2).2)) 0)+(gI (gI ho ((((gI ((lA AR (gI ps i)).2) (j:Int)).2).2).2)) 1))-i),rfl,?_⟩
    replace Rn2:=(Rn2.cn ch99).cn hc102
    refine xv 9 [8,3,7,6,5,4,2,1,0] rfl (ad (v:=n2_v) (i:=((gI (gI ho ((((gI ((lA AR (gI ps i)).2) (j:Int)).2).2).2)) 0)+(gI (gI ho ((((gI ((lA AR (gI ps i)).2) (j:Int)).2).2).2)) 1))-i) bF rfl rfl Rn2 rfl (by omega) (by omega)) (xv 10 [9,8,3,7,6,5,4,2,1,0] rfl (av (v:=n2_v) (i:=((gI (gI ho ((((gI ((lA AR (gI ps i)).2) (j:Int)).2).2).2)) 0)+(gI (gI ho ((((gI ((lA AR (gI ps i)).2) (j:Int)).2).2).2)) 1))-i) ah rfl Rn2 (by omega) (by omega) (by decide) rfl) (xp 11 rfl (λw=>aa tM rfl rfl rfl rfl) (b9 12 rfl (by kernel_rfl) rfl ?_)))
    have C106:=cg [] (ch73.n.seq (ch93.n.seq (ch99.n.seq hc102.n)))
    replace bx71:=bx71.ca C106
    refine ax (cs':=[vi ((gI ((lA AR (gI ps i)).2) (j:Int)).1),vi (((gI ((lA AR (gI ps i)).2) (j:Int)).2).1),vi ((((gI ((lA AR (gI ps i)).2) (j:Int)).2).2).1),vi (gI nu (((gI (gI ho ((((gI ((lA AR (gI ps i)).2) (j:Int)).2).2).2)) 0)+(gI (gI ho ((((gI ((lA AR (gI ps i)).2) (j:Int)).2).2).2)) 1))-i))]) ah rfl rfl bx71 rfl nq (AllOne.all (.cons rfl .nil)) rfl ?_
    intro w103 ch104 bx105
    clear bx71
    refine bS (by kernel_rfl) ?_
    have C107:=cg [4,5] (ch57.n.seq ((ch62.l rfl).seq (ch65.n.seq ((ch70.l rfl).seq (ch73.n.seq (ch93.n.seq (ch99.n.seq (hc102.n.seq (ch104.l rfl)))))))))
    have C108:=cg [5] (ch99.n.seq (hc102.n.seq (ch104.l rfl)))
    exact mid (g75) _ _ ⟨bH.ca C107,zs0,zs1,zs4,zs6,rfl,zs27,zs28,zs29,Rn0.ca C108,Rn1.ca C108,Rn2.ce ch104,hn_b.ca C108,ar_A.ca C107,bx5.ca C107,o8.ca C107,o15.ca C107,bx27.ca C107,o_ed.ca C107,bx105⟩
   ·
    refine br (aH (vals:=[vp n_b 0,vi i,vi ((((gI ((lA AR (gI ps i)).2) (j:Int)).2).2).2)]) Tryz.func72 ql pM rfl) (ap Tryz.func72 rfl nq ?_)
    have C109:=cg [4,5] (ch57.n.seq ((ch62.l rfl).seq (ch65.n.seq ((ch70.l rfl).seq (ch73.n.seq ch93.n)))))
    replace Rn0:=Rn0.ca C109
    replace Rn1:=Rn1.ca C109
    replace Rn2:=Rn2.ca C109
    refine a7 (a6 rfl (ai 0 (ab (a7 (a6 rfl (mv (vp n_b 0) (lw (vp n_b 0) (ae rfl) (lx (aa qD rfl rfl rfl rfl) ?_))))))))
    replace hn_b:=hn_b.ca C109
    refine lx (a8 qa rfl hn_b rfl) (mi ((((gI ((lA AR (gI ps i)).2) (j:Int)).2).2).2) (lx (ad (v:=n1_v) (i:=(((gI ((lA AR (gI ps i)).2) (j:Int)).2).2).2) gf rfl rfl Rn1 rfl (by omega) (by omega)) ?_))
    obtain⟨v110,cel111,r112⟩:=ym (r:=(((gI ((lA AR (gI ps i)).2) (j:Int)).2).2).2) Rn1 (by omega) (by omega)
    refine lx (cH kk rfl cel111) (ma v110 (ab (a7 (cG g75 rfl j9 (by kernel_rfl) ?_))))
    intro w114 ch113
    refine qm v110 ?_
    replace r112:=r112.cn ch113
    refine qx (λw' hw'=>ad (v:=v110) (i:=0) bF rfl rfl (r112.bel hw') rfl (by omega) (by omega)) (qx (λw' hw'=>av (v:=v110) (i:=0) ah rfl (r112.bel hw') (by omega) (by omega) (by decide) rfl) (qm v110 (qx (λw' hw'=>ad (v:=v110) (i:=1) bF rfl rfl (r112.bel hw') rfl (by omega) (by omega)) (qx (λw' hw'=>av (v:=v110) (i:=1) ah rfl (r112.bel hw') (by omega) (by omega) (by decide) rfl) (qx (λw' hw'=>aS (m:=(gI (gI ho ((((gI ((lA AR (gI ps i)).2) (j:Int)).2).2).2)) 0)) (n:=(gI (gI ho ((((gI ((lA AR (gI ps i)).2) (j:Int)).2).2).2)) 1)) rfl rfl (by omega)) (qm (vi i) ?_))))))
    refine qx (λw' hw'=>ej (m:=(gI (gI ho ((((gI ((lA AR (gI ps i)).2) (j:Int)).2).2).2)) 0)+(gI (gI ho ((((gI ((lA AR (gI ps i)).2) (j:Int)).2).2).2)) 1)) (n:=i) rfl rfl (by omega)) (qv (vi (((gI (gI ho ((((gI ((lA AR (gI ps i)).2) (j:Int)).2).2).2)) 0)+(gI (gI ho ((((gI ((lA AR (gI ps i)).2) (j:Int)).2).2).2)) 1))-i)) (λw' hw'=>bm rfl) (ep ?_))
    intro w115 hc116
    replace hc116:=aN hc116 g75
    refine au (vs:=[vi (((gI (gI ho ((((gI ((lA AR (gI ps i)).2) (j:Int)).2).2).2)) 0)+(gI (gI ho ((((gI ((lA AR (gI ps i)).2) (j:Int)).2).2).2)) 1))-i)]) Tryz.func72 (.tmp rfl .nil) ?_
    refine⟨vi (((gI (gI ho ((((gI ((lA AR (gI ps i)).2) (j:Int)).2).2).2)) 0)+(gI (gI ho ((((gI ((lA AR (gI ps i)).2) (j:Int)).2).2).2)) 1))-i),rfl,?_⟩
    replace hn_b:=(hn_b.cn ch113).cn hc116
    refine b9 3 rfl (by kernel_rfl) rfl (aj (v:=n2_v) (a8 kk rfl hn_b rfl) ?_)
    replace Rn2:=(Rn2.cn ch113).cn hc116
    refine xv 9 [3,8,7,6,5,4,2,1,0] rfl (ad (v:=n2_v) (i:=((gI (gI ho ((((gI ((lA AR (gI ps i)).2) (j:Int)).2).2).2)) 0)+(gI (gI ho ((((gI ((lA AR (gI ps i)).2) (j:Int)).2).2).2)) 1))-i) bF rfl rfl Rn2 rfl (by omega) (by omega)) (xv 10 [9,3,8,7,6,5,4,2,1,0] rfl (av (v:=n2_v) (i:=((gI (gI ho ((((gI ((lA AR (gI ps i)).2) (j:Int)).2).2).2)) 0)+(gI (gI ho ((((gI ((lA AR (gI ps i)).2) (j:Int)).2).2).2)) 1))-i) ah rfl Rn2 (by omega) (by omega) (by decide) rfl) (xp 11 rfl (λw=>aa tM rfl rfl rfl rfl) (b9 12 rfl (by kernel_rfl) rfl ?_)))
    have C120:=cg [] (ch73.n.seq (ch93.n.seq (ch113.n.seq hc116.n)))
    replace bx71:=bx71.ca C120
    refine ax (cs':=[vi ((gI ((lA AR (gI ps i)).2) (j:Int)).1),vi (((gI ((lA AR (gI ps i)).2) (j:Int)).2).1),vi ((((gI ((lA AR (gI ps i)).2) (j:Int)).2).2).1),vi (gI nu (((gI (gI ho ((((gI ((lA AR (gI ps i)).2) (j:Int)).2).2).2)) 0)+(gI (gI ho ((((gI ((lA AR (gI ps i)).2) (j:Int)).2).2).2)) 1))-i))]) ah rfl rfl bx71 rfl nq (AllOne.all (.cons rfl .nil)) rfl ?_
    intro w117 ch118 bx119
    clear bx71
    refine bS (by kernel_rfl) ?_
    have C121:=cg [4,5] (ch57.n.seq ((ch62.l rfl).seq (ch65.n.seq ((ch70.l rfl).seq (ch73.n.seq (ch93.n.seq (ch113.n.seq (hc116.n.seq (ch118.l rfl)))))))))
    have C122:=cg [5] (ch113.n.seq (hc116.n.seq (ch118.l rfl)))
    exact mid (g75) _ _ ⟨bH.ca C121,zs0,zs1,zs4,zs6,rfl,zs27,zs28,zs29,Rn0.ca C122,Rn1.ca C122,Rn2.ce ch118,hn_b.ce ch118,ar_A.ca C121,bx5.ca C121,o8.ca C121,o15.ca C121,bx27.ca C121,o_ed.ca C121,bx119⟩
  clear Rn0 Rn1 Rn2 hn_b ar_A bx5 o8 o15 bx27 o_ed bx63 bx71 bH
  rintro g125 f123 w124 ⟨bH,zs0,zs1,zs4,zs6,zs9,zs27,zs28,zs29,Rn0,Rn1,Rn2,hn_b,ar_A,bx5,o8,o15,bx27,o_ed,bx103⟩
  refine a6 rfl (lx (aa fK rfl rfl zs6 rfl) (lx (a8 iX rfl bx27 rfl) (lx (ay (ds:=[vi ((gI ((lA AR (gI ps i)).2) (j:Int)).1),vi (((gI ((lA AR (gI ps i)).2) (j:Int)).2).1),vi ((((gI ((lA AR (gI ps i)).2) (j:Int)).2).2).1),vi (gI nu (((gI (gI ho ((((gI ((lA AR (gI ps i)).2) (j:Int)).2).2).2)) 0)+(gI (gI ho ((((gI ((lA AR (gI ps i)).2) (j:Int)).2).2).2)) 1))-i))]) fS zs9 bx103 rfl rfl) (lo ?_))))
  refine ar (α:=Bd) g125 (is 7) (is 7) (7,0) rfl [((gI ((lA AR (gI ps i)).2) (j:Int)).1,((gI ((lA AR (gI ps i)).2) (j:Int)).2).1,(((gI ((lA AR (gI ps i)).2) (j:Int)).2).2).1,(gI nu (((gI (gI ho ((((gI ((lA AR (gI ps i)).2) (j:Int)).2).2).2)) 0)+(gI (gI ho ((((gI ((lA AR (gI ps i)).2) (j:Int)).2).2).2)) 1))-i)))] jr fS (by decide) (by decide) (vs:=[(0,vg [vi ((gI ((lA AR (gI ps i)).2) (j:Int)).1),vi (((gI ((lA AR (gI ps i)).2) (j:Int)).2).1),vi ((((gI ((lA AR (gI ps i)).2) (j:Int)).2).2).1),vi (gI nu (((gI (gI ho ((((gI ((lA AR (gI ps i)).2) (j:Int)).2).2).2)) 0)+(gI (gI ho ((((gI ((lA AR (gI ps i)).2) (j:Int)).2).2).2)) 1))-i))])]) rfl rfl (.cons rfl .nil) ?_
  intro g126 w127 v128 ch129 o130
  refine lo ?_
  replace o_ed:=o_ed.cn ch129
  refine i9 o_ed o130.flat jr fS (by(simp;omega)) ?_
  intro g131 w132 v133 ch134 o135
  clear o_ed
  refine lx (aa fK rfl rfl zs6 rfl) (lo ?_)
  replace bx27:=(bx27.cn ch129).ce ch134
  refine aC (cs':=[vi ((lA AR (gI ps i)).1),v14,v133]) iX rfl rfl bx27 (aP o135.flat) nq (aG o135.flat) rfl ?_
  intro w136 ch137 bx138
  clear bx27
  refine ab (ak ?_)
  clear bx103 o130
  refine a6 rfl (lx (aS (m:=↑j) (n:=1) zs29 rfl (by omega)) (mi ((j:Int)+1) (ab ?_)))
  have C139:=cg [3,8] (ch129.n.seq ((ch134.l rfl).seq (ch137.l rfl)))
  refine back4 (v133,(ed++[((gI ((lA AR (gI ps i)).2) (j:Int)).1,((gI ((lA AR (gI ps i)).2) (j:Int)).2).1,(((gI ((lA AR (gI ps i)).2) (j:Int)).2).2).1,(gI nu (((gI (gI ho ((((gI ((lA AR (gI ps i)).2) (j:Int)).2).2).2)) 0)+(gI (gI ho ((((gI ((lA AR (gI ps i)).2) (j:Int)).2).2).2)) 1))-i)))]),j+1,g131) _ _ ⟨bH.ca C139,zs0,zs1,zs4,zs6,zs27,zs28,rfl,Rn0.ca C139,Rn1.ca C139,Rn2.ca C139,hn_b.ca C139,ar_A.ca C139,bx5.ca C139,o8.ca C139,o15.ca C139,bx138,o135.ce ch137,by omega,?_⟩ ?_
  · show(ed++[((gI ((lA AR (gI ps i)).2) (j:Int)).1,((gI ((lA AR (gI ps i)).2) (j:Int)).2).1,(((gI ((lA AR (gI ps i)).2) (j:Int)).2).2).1,(gI nu (((gI (gI ho ((((gI ((lA AR (gI ps i)).2) (j:Int)).2).2).2)) 0)+(gI (gI ho ((((gI ((lA AR (gI ps i)).2) (j:Int)).2).2).2)) 1))-i)))])=((lA AR (gI ps i)).2.take (j+1)).map (th nu ho i)
    exact yO hed ‹_› (by omega)
  · show Int.toNat (_-_)<Int.toNat (_-_)
    omega
 refine ag rfl (df p4) (aO rfl (a7 ?_))
 clear o8
 have hed2:ed=(lA AR (gI ps i)).2.map (th nu ho i):=by rw[hed,List.take_of_length_le (by omega)]
 refine a6 rfl (lx (aa fK rfl rfl zs6 rfl) (lx (a8 iX rfl bx27 rfl) (lo (bE (σ:=Unit) (V:=λ_=>Value.tuple #[]) (aH (vals:=[ed_v,Value.func (.func 78) #[] #[]]) Tryz.func77 wu un rfl) (x9 o_ed (by rw[hed2];exact s3 hbs)) ?_))))
 rintro⟨⟩ w140 ⟨ch141,o142⟩
 clear o_ed
 refine ab (a7 (a6 rfl ?_))
 replace bx27:=bx27.ce ch141
 refine lx (ay (ds:=[vi ((lA AR (gI ps i)).1),v14,ed_v]) dY zs6 bx27 rfl rfl) (lo ?_)
 replace bx5:=bx5.ce ch141
 replace o15:=o15.ce ch141
 refine ax (cs':=[vi ((lA AR (gI ps i)).1),v14,ed_v]) dY zs4 rfl bx5 rfl nq (AllOne.all (.cons rfl (.cons (aG o15.flat) (.cons (aG o142.flat) .nil)))) rfl ?_
 intro w143 ch144 bx145
 clear bx5
 refine ab (au (vs:=[vg [vi ((lA AR (gI ps i)).1),v14,ed_v]]) Tryz.func50 (.cell zs4 (cy (ds:=[vi ((lA AR (gI ps i)).1),v14,ed_v]) dY bx145 rfl rfl) .nil) ?_)
 replace bH:=bH.ce ch141
 replace bH:=bH.ce ch144
 replace o15:=o15.ce ch144
 replace o142:=o142.ce ch144
 have e0:(((lA AR (gI ps i)).1,cC ((lA AR (gI ps i)).2),(kp ed)):(Int)×(List Int)×(List Bd))=(iU (ps.map (bo AR)) ho nu i):=by
   rw[hpp,hed2]
 exact⟨(fin w0 g55 (λn=>if n=2 then 1 else if n=8 then 2 else 0),v14,ed_v),(congrArg (a₁:=((lA AR (gI ps i)).1,cC ((lA AR (gI ps i)).2),(kp ed))) (λ(z0:(Int)×(List Int)×(List Bd))=>Ending.returned (vg [vi z0.1,v14,ed_v])) e0),bH.fresh _,((congrArg (λ(z:(Int)×(List Int)×(List Bd))=>z.2.1) e0)▸(o15.glue (γ:=c0) (ren:=(λn=>if n=2 then 1 else if n=8 then 2 else 0)) (k:=1) bH.col rfl rfl)),((congrArg (λ(z:(Int)×(List Int)×(List Bd))=>z.2.2) e0)▸(o142.glue (γ:=c0) (ren:=(λn=>if n=2 then 1 else if n=8 then 2 else 0)) (k:=2) bH.col rfl rfl))⟩
end TL
