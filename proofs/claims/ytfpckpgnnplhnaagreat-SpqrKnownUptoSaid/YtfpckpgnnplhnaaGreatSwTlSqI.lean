import Derived.Test.YtfpckpgnnplhnaaGreatSwTlSortE
import Derived.Test.YtfpckpgnnplhnaaGreatSwTlSqN
import Derived.Test.YtfpckpgnnplhnaaGreatSwTlGmA
import Derived.Test.YtfpckpgnnplhnaaGreatSwTlGenA
import Derived.Test.YtfpckpgnnplhnaaGreatSwTlAli
set_option linter.all false
set_option maxRecDepth 20000
namespace TL
open Go Go.Proofs
theorem jK:Tryz.prog.follows .mixedOrders=true:=by kernel_rfl
theorem kU:Tp Tryz.prog 38 false 1 24 (.slice none 0 0):=Tp.of (by kernel_rfl)
theorem jd:Tp Tryz.prog 39 false 1 24 (.slice none 0 0):=Tp.of (by kernel_rfl)
theorem ea:Tp Tryz.prog 41 true 3 56 (.agg #[.int .i64 0,.slice none 0 0,.slice none 0 0]):=Tp.of (by kernel_rfl)
theorem gr:Tp Tryz.prog 57 true 4 32 (.agg #[.int .i64 0,.int .i64 0,.int .i64 0,.int .i64 0]):=Tp.of (by kernel_rfl)
theorem yE:Tp Tryz.prog 64 false 1 24 (.slice none 0 0):=Tp.of (by kernel_rfl)
theorem yK:Tp Tryz.prog 73 false 1 8 (.pointer none):=Tp.of (by kernel_rfl)
theorem rI:Tp Tryz.prog 85 false 1 24 (.slice none 0 0):=Tp.of (by kernel_rfl)
theorem wq:Tryz.f51.body.isNone=false:=rfl
theorem zX:(Tryz.f51.name== "runtime.NumGoroutine")=false:=by decide+kernel
theorem rH:Tryz.f57.body.isNone=false:=rfl
theorem rV:(Tryz.f57.name== "runtime.NumGoroutine")=false:=by decide+kernel
theorem qM:Tryz.f72.body.isNone=false:=rfl
theorem rL:(Tryz.f72.name== "runtime.NumGoroutine")=false:=by decide+kernel
theorem z6:Tryz.f77.body.isNone=false:=rfl
theorem y4:(Tryz.f77.name== "runtime.NumGoroutine")=false:=by decide+kernel
theorem yp(w0:World)(n_b:Nat)(n0_v:Value)(ps:List Pp)(hn0_v:Ro w0 n0_v ps)(n1_v:Value)(ho:j7)(hn1_v:Ro w0 n1_v ho)(n2_v:Value)(nu:List Int)(hn2_v:Ro w0 n2_v nu)(n3_v:Value)(n4_v:Value)(hn_b:Bx c0 (is 0) w0 n_b [n0_v,n1_v,n2_v,n3_v,n4_v])(i:Int)(AR:List Pp×List (ch Bd))(hAR:CU w0 AR.1 AR.2)(hin:∀u∈ps,u∈AR.1)(hpl:(ps.length:Int)<=100001)(hi0:0<=i)(hi1:i<ps.length)(hpo:vh (ps.map (bt AR)) ho nu i):
    Calls Tryz.prog 50 #[vp n_b 0,vi i] w0 (λee w=>∃xx:ax×Value×Value,ee= .returned ((λ⟨δ,rv0,rv1⟩=>vg [vi ((jy (ps.map (bt AR)) ho nu i).1),rv0,rv1]) xx)/\(λ(⟨δ,rv0,rv1⟩:ax×Value×Value) (w:World)=>dz w0 δ w/\Ow δ (is 1) (is 1) w rv0 (((jy (ps.map (bt AR)) ho nu i).2).1)/\Ow δ (is 2) (is 2) w rv1 (((jy (ps.map (bt AR)) ho nu i).2).2)) xx w):=by
 refine ah Tryz.func50 rfl nq ?_
 have bH:=aW.start w0
 have Rn0:=hn0_v.sl
 have Rn1:=hn1_v.sl
 have Rn2:=hn2_v.sl
 have ar_A:=hAR.start
 have hvi:gI (ps.map (bt AR)) i=(lA AR (gI ps i)):=jf hi0 hi1
 have hpp:jy (ps.map (bt AR)) ho nu i=((lA AR (gI ps i)).1,cz (lA AR (gI ps i)).2,lq ((lA AR (gI ps i)).2.map (uF nu ho i))):=by unfold jy;rw[hvi]
 unfold vh at hpo
 rw[hvi] at hpo
 obtain⟨⟨hb0,hb1⟩,hbv,hbs⟩:=hpo
 refine a7 (a6 rfl (cy rfl (aZ c0 (is 1) (1,0) rfl ea ?_)))
 intro g4 w1 b3 ch2 bx5
 refine ab (a7 (a6 rfl (mv (vp n_b 0) (lw (vp n_b 0) (ae rfl) (lx (aa sa rfl rfl rfl rfl) ?_)))))
 refine lx (a8 yE rfl hn_b.t rfl) (mi i ?_)
 refine lx (ad (v:=n0_v) (i:=i) jH rfl rfl Rn0.t rfl (by omega) (by omega)) (lx (aw (v:=n0_v) (i:=i) yK rfl Rn0.t (by omega) (by omega) (by decide) rfl) (ma (Value.pointer (some ⟨(gI ps i).n,0,none⟩)) (ab (a7 ?_))))
 obtain⟨v6,bx7,o8⟩:=gC.gt (u:=(gI ps i)) (ar_A.a ch2) (j:=(AR.1.idxOf (gI ps i))) (by exact fB (hin _ (bz (by omega) (by omega))))
 refine dD (σ:=Nat×Value×ax) (λ⟨b21,v14,gq⟩ f w=>aW w0 gq w/\f 0=vp n_b 0/\f 1=vi i/\f 4=vp b3 0/\f 5=Value.pointer (some ⟨(gI ps i).n,0,none⟩)/\f 6=vp b21 0/\Sl gq (is 0) w n0_v ps/\Sl gq (is 0) w n1_v ho/\Sl gq (is 0) w n2_v nu/\Bx gq (is 0) w n_b [n0_v,n1_v,n2_v,n3_v,n4_v]/\gC gq w AR.1 AR.2/\Bx gq (is 1) w b3 [vi 0,vn,vn]/\Bx gq (is 0) w (gI ps i).n [vi ((lA AR (gI ps i)).1),v6]/\Sl gq (is 0) w v6 ((lA AR (gI ps i)).2)/\Ow gq (is 2) (is 2) w v14 (cz ((lA AR (gI ps i)).2))/\Bx gq (is 3) w b21 [vi ((lA AR (gI ps i)).1),v14,vn]) g4 (inl [3]) jK ?_ ?_
 ·
  intro mid
  intro w10 ch9
  refine ht (v:=Value.pointer (some ⟨(gI ps i).n,0,none⟩)) 0 rfl (bg.refl _ _ _) (λw' hw'=>ar rfl) (ht (v:=Value.pointer (some ⟨(gI ps i).n,0,none⟩)) 1 rfl (bg.refl _ _ _) (λw' hw'=>ae rfl) (ht 2 rfl (bg.refl _ _ _) (λw' hw'=>aa dV rfl rfl rfl rfl) ?_))
  refine ht 3 rfl (bg.refl _ _ _) (λw' hw'=>a8 ap rfl bx7.t rfl) (ht (v:=Value.pointer (some ⟨(gI ps i).n,0,none⟩)) 4 rfl (bg.refl _ _ _) (λw' hw'=>ar rfl) ?_)
  refine cj 5 [7] (by kernel_rfl) ⟨ca 5 rfl (by kernel_rfl) rfl ?_,ca 7 rfl (by kernel_rfl) rfl ?_,trivial⟩
  ·
   refine bB (aB (vals:=[Value.pointer (some ⟨(gI ps i).n,0,none⟩)]) Tryz.func57 rH rV rfl) (jN w10 (gI ps i).n (vi ((lA AR (gI ps i)).1)) v6 ((lA AR (gI ps i)).2) o8.t.ro (jF bx7.t) (by omega) (by omega)) ?_
   rintro⟨d12,v14⟩ w11 ⟨fr13,o15⟩
   obtain⟨g16,ch17,G16⟩:=hU g4 fr13 (λn=>if n=1 then 2 else 0)
   replace o15:=o15.gl G16 2
   have hs18:bg (inl [3]) _ _ _ _:=ch17.n
   refine⟨hs18.same,?_⟩
   refine ht (v:=vg [vi ((lA AR (gI ps i)).1),v14,vn]) 6 rfl hs18.same (λw' hw'=>bn (vs:=[(0,vi ((lA AR (gI ps i)).1)),(1,v14)]) rfl (by rw[Sl.form o15.flat];kernel_rfl)) (bY 7 rfl (aZ g16 (is 3) (3,0) rfl ea ?_))
   intro g22 w19 b21 ch20 bx23
   have hs24:=hs18.seq (ch20.n)
   refine⟨hs24.same,?_⟩
   refine bY 8 rfl ?_
   refine aA (cs':=[vi ((lA AR (gI ps i)).1),v14,vn]) ea rfl rfl bx23 rfl nq (AllOne.all (.cons rfl (.cons (aM o15.t.flat) (.cons rfl .nil)))) rfl ?_
   intro w25 ch26 bx27
   have hs28:=hs24.seq (ch26.l rfl)
   refine⟨hs28.same,?_⟩
   refine ce (by kernel_rfl) ?_
   exact mid (b21,v14,g22) _ _ ⟨bH.t,rfl,rfl,rfl,rfl,rfl,Rn0.t,Rn1.t,Rn2.t,hn_b.t,ar_A.t,bx5.t,bx7.t,o8.t,o15.t,bx27⟩
  ·
   refine aZ g4 (is 3) (3,0) rfl ea ?_
   intro g33 w30 b32 ch31 bx34
   have hs35:bg (inl [3]) _ _ _ _:=ch31.n
   refine⟨hs35.same,?_⟩
   refine bY 5 rfl ?_
   refine bB (aB (vals:=[Value.pointer (some ⟨(gI ps i).n,0,none⟩)]) Tryz.func57 rH rV rfl) (jN w30 (gI ps i).n (vi ((lA AR (gI ps i)).1)) v6 ((lA AR (gI ps i)).2) o8.t.ro (jF bx7.t) (by omega) (by omega)) ?_
   rintro⟨d37,v39⟩ w36 ⟨fr38,o40⟩
   obtain⟨g41,ch42,G41⟩:=hU g33 fr38 (λn=>if n=1 then 2 else 0)
   replace o40:=o40.gl G41 2
   have hs43:=hs35.seq (ch42.n)
   refine⟨hs43.same,?_⟩
   refine ht (v:=vg [vi ((lA AR (gI ps i)).1),v39,vn]) 6 rfl hs43.same (λw' hw'=>bn (vs:=[(0,vi ((lA AR (gI ps i)).1)),(1,v39)]) rfl (by rw[Sl.form o40.flat];kernel_rfl)) (bY 8 rfl ?_)
   refine aA (cs':=[vi ((lA AR (gI ps i)).1),v39,vn]) ea rfl rfl bx34.t rfl nq (AllOne.all (.cons rfl (.cons (aM o40.flat) (.cons rfl .nil)))) rfl ?_
   intro w44 ch45 bx46
   have hs47:=hs43.seq (ch45.l rfl)
   refine⟨hs47.same,?_⟩
   refine ce (by kernel_rfl) ?_
   exact mid (b32,v39,g41) _ _ ⟨bH.t,rfl,rfl,rfl,rfl,rfl,Rn0.t,Rn1.t,Rn2.t,hn_b.t,ar_A.t,bx5.t,bx7.t,o8.t,o40.t,bx46⟩
 rintro⟨b21,v14,g51⟩ f49 w50 ⟨bH,zs0,zs1,zs4,zs5,zs6,Rn0,Rn1,Rn2,hn_b,ar_A,bx5,bx7,o8,o15,bx27⟩
 refine a7 (a7 (a6 rfl (mz zs5 (lw (Value.pointer (some ⟨(gI ps i).n,0,none⟩)) (ae rfl) (lx (aa dV rfl rfl rfl rfl) (lx (a8 bD rfl bx7 rfl) ?_))))))
 have len52:=(o8).small
 refine lx (bG cM rfl o8) (mi 0 (ab (aj ?_)))
 refine aR (σ:=Value×(List Bd)×Nat×ax) (λ⟨ed_v,ed,j,gq⟩ f w=>aW w0 gq w/\f 0=vp n_b 0/\f 1=vi i/\f 4=vp b3 0/\f 6=vp b21 0/\f 27=v6/\f 28=vi (List.length ((lA AR (gI ps i)).2):Int)/\f 29=vi ↑j/\Sl gq (is 0) w n0_v ps/\Sl gq (is 0) w n1_v ho/\Sl gq (is 0) w n2_v nu/\Bx gq (is 0) w n_b [n0_v,n1_v,n2_v,n3_v,n4_v]/\gC gq w AR.1 AR.2/\Bx gq (is 1) w b3 [vi 0,vn,vn]/\Sl gq (is 0) w v6 ((lA AR (gI ps i)).2)/\Ow gq (is 2) (is 2) w v14 (cz ((lA AR (gI ps i)).2))/\Bx gq (is 3) w b21 [vi ((lA AR (gI ps i)).1),v14,ed_v]/\Ow gq (is 8) (is 8) w ed_v ed/\(j:Int)<=((List.length ((lA AR (gI ps i)).2):Int):Int)/\(ed=((lA AR (gI ps i)).2.take j).map (uF nu ho i))) (λ⟨ed_v,ed,j,gq⟩=>Int.toNat (((List.length ((lA AR (gI ps i)).2):Int):Int)-(j:Int))) (vn,[],0,g51) ?_ ?_
 · exact⟨bH,zs0,zs1,zs4,zs6,rfl,rfl,rfl,Rn0,Rn1,Rn2,hn_b,ar_A,bx5,o8,o15,bx27,Ow.nil,by omega,by rfl⟩
 rintro⟨ed_v,ed,j,g55⟩ f53 w54 ⟨bH,zs0,zs1,zs4,zs6,zs27,zs28,zs29,Rn0,Rn1,Rn2,hn_b,ar_A,bx5,o8,o15,bx27,o_ed,hle_j,hed⟩ back4
 have hedl:ed.length<=j:=by rw[hed,List.length_map,List.length_take];omega
 refine a7 (a6 rfl (lx (br (m:=↑j) (n:=(List.length ((lA AR (gI ps i)).2):Int)) zs29 zs28) (ab (a7 ?_))))
 by_cases p4:(j:Int)<(List.length ((lA AR (gI ps i)).2):Int)
 ·
  refine ag rfl (dt p4) (am (a7 (aj (a7 (a6 rfl (lx (ad (v:=v6) (i:=↑j) cM rfl zs27 o8 zs29 (by omega) (by omega)) (lw (vg [vi ((gI ((lA AR (gI ps i)).2) (j:Int)).1),vi (((gI ((lA AR (gI ps i)).2) (j:Int)).2).1),vi ((((gI ((lA AR (gI ps i)).2) (j:Int)).2).2).1),vi ((((gI ((lA AR (gI ps i)).2) (j:Int)).2).2).2)]) (bW (v:=v6) (i:=↑j) aI rfl o8 (by omega) (by omega) rfl) (lo (aZ g55 (is 4) (4,0) rfl aI ?_)))))))))
  intro g59 w56 b58 ch57 bx60
  refine lo (aA (cs':=[vi ((gI ((lA AR (gI ps i)).2) (j:Int)).1),vi (((gI ((lA AR (gI ps i)).2) (j:Int)).2).1),vi ((((gI ((lA AR (gI ps i)).2) (j:Int)).2).2).1),vi ((((gI ((lA AR (gI ps i)).2) (j:Int)).2).2).2)]) aI rfl rfl bx60 rfl nq (AllOne.all (.cons rfl (.cons rfl (.cons rfl (.cons rfl .nil))))) rfl ?_)
  intro w61 ch62 bx63
  refine ab (a7 (a6 rfl (lx (aa jg rfl rfl rfl rfl) (lx (a8 ap rfl bx63 rfl) (lx (aa jg rfl rfl rfl rfl) (lx (a8 ap rfl bx63 rfl) (lx (aa jg rfl rfl rfl rfl) (lx (a8 ap rfl bx63 rfl) ?_))))))))
  refine lw (vg [vi ((gI ((lA AR (gI ps i)).2) (j:Int)).1),vi (((gI ((lA AR (gI ps i)).2) (j:Int)).2).1),vi ((((gI ((lA AR (gI ps i)).2) (j:Int)).2).2).1),vi (-1)]) (bn (vs:=[(0,vi ((gI ((lA AR (gI ps i)).2) (j:Int)).1)),(1,vi (((gI ((lA AR (gI ps i)).2) (j:Int)).2).1)),(2,vi ((((gI ((lA AR (gI ps i)).2) (j:Int)).2).2).1)),(3,vi (-1))]) rfl (by kernel_rfl)) (lo (aZ g59 (is 5) (5,0) rfl gr ?_))
  intro g67 w64 b66 ch65 bx68
  refine lo (aA (cs':=[vi ((gI ((lA AR (gI ps i)).2) (j:Int)).1),vi (((gI ((lA AR (gI ps i)).2) (j:Int)).2).1),vi ((((gI ((lA AR (gI ps i)).2) (j:Int)).2).2).1),vi (-1)]) gr rfl rfl bx68 rfl nq (AllOne.all (.cons rfl (.cons rfl (.cons rfl (.cons rfl .nil))))) rfl ?_)
  intro w69 ch70 bx71
  refine ab (a7 (a7 (a6 rfl ?_)))
  refine lx (av (ds:=[vi ((gI ((lA AR (gI ps i)).2) (j:Int)).1),vi (((gI ((lA AR (gI ps i)).2) (j:Int)).2).1),vi ((((gI ((lA AR (gI ps i)).2) (j:Int)).2).2).1),vi ((((gI ((lA AR (gI ps i)).2) (j:Int)).2).2).2)]) aI rfl bx63.t rfl rfl) (lo (aV (aB (vals:=[vg [vi ((gI ((lA AR (gI ps i)).2) (j:Int)).1),vi (((gI ((lA AR (gI ps i)).2) (j:Int)).2).1),vi ((((gI ((lA AR (gI ps i)).2) (j:Int)).2).2).1),vi ((((gI ((lA AR (gI ps i)).2) (j:Int)).2).2).2)]]) Tryz.func51 wq zX rfl) ?_))
  refine ah Tryz.func51 rfl nq (a7 (a6 rfl (cy rfl (bU g67 (is 6) (6,0) rfl rfl ?_))))
  intro g75 w72 b74 ch73 bx76
  refine ma (vb false) (ab (a7 (a6 rfl (lx (aa jg rfl rfl rfl rfl) (lx (a8 ap rfl bx76 rfl) (lx (eL (m:=(((gI ((lA AR (gI ps i)).2) (j:Int)).2).2).1) (n:=0) rfl rfl) (ma (vb (decide (0<=((((gI ((lA AR (gI ps i)).2) (j:Int)).2).2).1)))) (ab (az (vs:=[vb (decide (0<=((((gI ((lA AR (gI ps i)).2) (j:Int)).2).2).1)))]) Tryz.func51 (.tmp rfl .nil) ?_)))))))))
  refine⟨vb (decide (0<=((((gI ((lA AR (gI ps i)).2) (j:Int)).2).2).1))),rfl,?_⟩
  refine lx (fM (b:=decide (0<=((((gI ((lA AR (gI ps i)).2) (j:Int)).2).2).1))) rfl) (ab ?_)
  by_cases p7:0<=((((gI ((lA AR (gI ps i)).2) (j:Int)).2).2).1)
  ·
   refine af rfl (congrArg Bool.not (dt p7)) (am ?_)
   refine a6 rfl (lx (aa xC rfl rfl zs6 rfl) ?_)
   refine lx (a8 jd rfl bx27.t rfl) ?_
   refine lx (av (ds:=[vi ((gI ((lA AR (gI ps i)).2) (j:Int)).1),vi (((gI ((lA AR (gI ps i)).2) (j:Int)).2).1),vi ((((gI ((lA AR (gI ps i)).2) (j:Int)).2).2).1),vi (-1)]) gr rfl bx71.t rfl rfl) (lo ?_)
   refine aq (α:=Bd) g75 (is 7) (is 7) (7,0) rfl [((gI ((lA AR (gI ps i)).2) (j:Int)).1,((gI ((lA AR (gI ps i)).2) (j:Int)).2).1,(((gI ((lA AR (gI ps i)).2) (j:Int)).2).2).1,-1)] DI gr (by decide) (by decide) (vs:=[(0,vg [vi ((gI ((lA AR (gI ps i)).2) (j:Int)).1),vi (((gI ((lA AR (gI ps i)).2) (j:Int)).2).1),vi ((((gI ((lA AR (gI ps i)).2) (j:Int)).2).2).1),vi (-1)])]) rfl rfl (.cons rfl .nil) ?_
   intro g78 w79 v80 ch81 o82
   refine lo ?_
   refine iJ o_ed.t o82.flat DI gr (by(simp;omega)) ?_
   intro g84 w85 v86 ch87 o88
   refine lx (aa xC rfl rfl zs6 rfl) (lo ?_)
   refine aC (cs':=[vi ((lA AR (gI ps i)).1),v14,v86]) jd rfl rfl bx27.t (aL o88.flat) nq (aM o88.flat) rfl ?_
   intro w89 ch90 bx91
   refine ab (ak ?_)
   refine a6 rfl (lx (aJ (m:=↑j) (n:=1) zs29 rfl (by omega)) (mi ((j:Int)+1) (ab ?_)))
   refine back4 (v86,(ed++[((gI ((lA AR (gI ps i)).2) (j:Int)).1,((gI ((lA AR (gI ps i)).2) (j:Int)).2).1,(((gI ((lA AR (gI ps i)).2) (j:Int)).2).2).1,-1)]),j+1,g84) _ _ ⟨bH.t,zs0,zs1,zs4,zs6,zs27,zs28,rfl,Rn0.t,Rn1.t,Rn2.t,hn_b.t,ar_A.t,bx5.t,o8.t,o15.t,bx91,o88.t,by omega,?_⟩ ?_
   · show(ed++[((gI ((lA AR (gI ps i)).2) (j:Int)).1,((gI ((lA AR (gI ps i)).2) (j:Int)).2).1,(((gI ((lA AR (gI ps i)).2) (j:Int)).2).2).1,-1)])=((lA AR (gI ps i)).2.take (j+1)).map (uF nu ho i)
     exact BM hed ‹_› (by omega)
   · show Int.toNat (_-_)<Int.toNat (_-_)
     omega
  refine ag rfl (congrArg Bool.not (df p7)) ?_
  obtain⟨⟨hq1,hq2,hq3,hq4,hq5,hq6,hq7⟩,hq8,hq9⟩:=hbv _ (bz (i:=↑j) (by omega) ‹_›) (by omega)
  unfold eA at hq8 hq9
  refine dw (σ:=ax) (λgq f w=>aW w0 gq w/\f 0=vp n_b 0/\f 1=vi i/\f 4=vp b3 0/\f 6=vp b21 0/\f 9=vp b66 0/\f 27=v6/\f 28=vi (List.length ((lA AR (gI ps i)).2):Int)/\f 29=vi ↑j/\Sl gq (is 0) w n0_v ps/\Sl gq (is 0) w n1_v ho/\Sl gq (is 0) w n2_v nu/\Bx gq (is 0) w n_b [n0_v,n1_v,n2_v,n3_v,n4_v]/\gC gq w AR.1 AR.2/\Bx gq (is 1) w b3 [vi 0,vn,vn]/\Sl gq (is 0) w v6 ((lA AR (gI ps i)).2)/\Ow gq (is 2) (is 2) w v14 (cz ((lA AR (gI ps i)).2))/\Bx gq (is 3) w b21 [vi ((lA AR (gI ps i)).1),v14,ed_v]/\Ow gq (is 8) (is 8) w ed_v ed/\Bx gq (is 5) w b66 [vi ((gI ((lA AR (gI ps i)).2) (j:Int)).1),vi (((gI ((lA AR (gI ps i)).2) (j:Int)).2).1),vi ((((gI ((lA AR (gI ps i)).2) (j:Int)).2).2).1),vi (gI nu (((gI (gI ho ((((gI ((lA AR (gI ps i)).2) (j:Int)).2).2).2)) 0)+(gI (gI ho ((((gI ((lA AR (gI ps i)).2) (j:Int)).2).2).2)) 1))-i))]) g75 [0,1,2,4,5,6,7,9,10,11] jK ?_ ?_
  ·
   intro mid
   intro w94 ch93
   refine xp (v:=vp n_b 0) 0 rfl (λw=>ar zs0) (xp (v:=vp n_b 0) 1 rfl (λw=>ae rfl) (xp 2 rfl (λw=>aa sa rfl rfl rfl rfl) (xp (v:=vp n_b 0) 4 rfl (λw=>ar zs0) (xp (v:=vi i) 5 rfl (λw=>ar zs1) (xp 6 rfl (λw=>aa jg rfl rfl rfl rfl) ?_)))))
   refine xh 7 [6,5,4,2,1,0,3] rfl (λw' hw'=>a8 ap rfl (bx63.t.bel hw') rfl) ?_
   refine de 3 8 rfl rfl (by kernel_rfl) rfl rfl ?_ ?_
   ·
    refine ao (v:=n2_v) (a8 kU rfl hn_b.t rfl) (cE 8 rfl (aV (aB (vals:=[vp n_b 0,vi i,vi ((((gI ((lA AR (gI ps i)).2) (j:Int)).2).2).2)]) Tryz.func72 qM rL rfl) (ah Tryz.func72 rfl nq ?_)))
    refine a7 (a6 rfl (ai 0 (ab (a7 (a6 rfl (mv (vp n_b 0) (lw (vp n_b 0) (ae rfl) (lx (aa sa rfl rfl rfl rfl) (lx (a8 rI rfl hn_b.t rfl) (mi ((((gI ((lA AR (gI ps i)).2) (j:Int)).2).2).2) (lx (ad (v:=n1_v) (i:=(((gI ((lA AR (gI ps i)).2) (j:Int)).2).2).2) fh rfl rfl Rn1.t rfl (by omega) (by omega)) ?_)))))))))))
    obtain⟨v96,cel97,r98⟩:=wF (r:=(((gI ((lA AR (gI ps i)).2) (j:Int)).2).2).2) (Rn1.a ch93) (by omega) (by omega)
    refine lx (cv kU rfl cel97) (ma v96 (ab (a7 (dy g75 rfl jK (by kernel_rfl) ?_))))
    intro w100 ch99
    refine qm v96 ?_
    refine qx (λw' hw'=>ad (v:=v96) (i:=0) bF rfl rfl (r98.t.bel hw') rfl (by omega) (by omega)) (qx (λw' hw'=>aw (v:=v96) (i:=0) ap rfl (r98.t.bel hw') (by omega) (by omega) (by decide) rfl) (qm v96 (qx (λw' hw'=>ad (v:=v96) (i:=1) bF rfl rfl (r98.t.bel hw') rfl (by omega) (by omega)) (qx (λw' hw'=>aw (v:=v96) (i:=1) ap rfl (r98.t.bel hw') (by omega) (by omega) (by decide) rfl) (qx (λw' hw'=>aJ (m:=(gI (gI ho ((((gI ((lA AR (gI ps i)).2) (j:Int)).2).2).2)) 0)) (n:=(gI (gI ho ((((gI ((lA AR (gI ps i)).2) (j:Int)).2).2).2)) 1)) rfl rfl (by omega)) (qm (vi i) ?_))))))
    refine qx (λw' hw'=>da (m:=(gI (gI ho ((((gI ((lA AR (gI ps i)).2) (j:Int)).2).2).2)) 0)+(gI (gI ho ((((gI ((lA AR (gI ps i)).2) (j:Int)).2).2).2)) 1)) (n:=i) rfl rfl (by omega)) (qv (vi (((gI (gI ho ((((gI ((lA AR (gI ps i)).2) (j:Int)).2).2).2)) 0)+(gI (gI ho ((((gI ((lA AR (gI ps i)).2) (j:Int)).2).2).2)) 1))-i)) (λw' hw'=>bK rfl) (gf ?_))
    intro w101 hc102
    replace hc102:=aG hc102 g75
    refine az (vs:=[vi (((gI (gI ho ((((gI ((lA AR (gI ps i)).2) (j:Int)).2).2).2)) 0)+(gI (gI ho ((((gI ((lA AR (gI ps i)).2) (j:Int)).2).2).2)) 1))-i)]) Tryz.func72 (.tmp rfl .nil) ?_
    refine⟨vi (((gI (gI ho ((((gI ((lA AR (gI ps i)).2) (j:Int)).2).2).2)) 0)+(gI (gI ho ((((gI ((lA AR (gI ps i)).2) (j:Int)).2).2).2)) 1))-i),rfl,?_⟩
    refine xv 9 [8,3,7,6,5,4,2,1,0] rfl (ad (v:=n2_v) (i:=((gI (gI ho ((((gI ((lA AR (gI ps i)).2) (j:Int)).2).2).2)) 0)+(gI (gI ho ((((gI ((lA AR (gI ps i)).2) (j:Int)).2).2).2)) 1))-i) bF rfl rfl Rn2.t rfl (by omega) (by omega)) (xv 10 [9,8,3,7,6,5,4,2,1,0] rfl (aw (v:=n2_v) (i:=((gI (gI ho ((((gI ((lA AR (gI ps i)).2) (j:Int)).2).2).2)) 0)+(gI (gI ho ((((gI ((lA AR (gI ps i)).2) (j:Int)).2).2).2)) 1))-i) ap rfl Rn2.t (by omega) (by omega) (by decide) rfl) (xp 11 rfl (λw=>aa B8 rfl rfl rfl rfl) (cE 12 rfl ?_)))
    refine aA (cs':=[vi ((gI ((lA AR (gI ps i)).2) (j:Int)).1),vi (((gI ((lA AR (gI ps i)).2) (j:Int)).2).1),vi ((((gI ((lA AR (gI ps i)).2) (j:Int)).2).2).1),vi (gI nu (((gI (gI ho ((((gI ((lA AR (gI ps i)).2) (j:Int)).2).2).2)) 0)+(gI (gI ho ((((gI ((lA AR (gI ps i)).2) (j:Int)).2).2).2)) 1))-i))]) ap rfl rfl bx71.t rfl nq (AllOne.all (.cons rfl .nil)) rfl ?_
    intro w103 ch104 bx105
    refine bV (by kernel_rfl) ?_
    exact mid (g75) _ _ ⟨bH.t,zs0,zs1,zs4,zs6,rfl,zs27,zs28,zs29,Rn0.t,Rn1.t,Rn2.t,hn_b.t,ar_A.t,bx5.t,o8.t,o15.t,bx27.t,o_ed.t,bx105⟩
   ·
    refine aV (aB (vals:=[vp n_b 0,vi i,vi ((((gI ((lA AR (gI ps i)).2) (j:Int)).2).2).2)]) Tryz.func72 qM rL rfl) (ah Tryz.func72 rfl nq ?_)
    refine a7 (a6 rfl (ai 0 (ab (a7 (a6 rfl (mv (vp n_b 0) (lw (vp n_b 0) (ae rfl) (lx (aa sa rfl rfl rfl rfl) ?_))))))))
    refine lx (a8 rI rfl hn_b.t rfl) (mi ((((gI ((lA AR (gI ps i)).2) (j:Int)).2).2).2) (lx (ad (v:=n1_v) (i:=(((gI ((lA AR (gI ps i)).2) (j:Int)).2).2).2) fh rfl rfl Rn1.t rfl (by omega) (by omega)) ?_))
    obtain⟨v110,cel111,r112⟩:=wF (r:=(((gI ((lA AR (gI ps i)).2) (j:Int)).2).2).2) (Rn1.a ch93) (by omega) (by omega)
    refine lx (cv kU rfl cel111) (ma v110 (ab (a7 (dy g75 rfl jK (by kernel_rfl) ?_))))
    intro w114 ch113
    refine qm v110 ?_
    refine qx (λw' hw'=>ad (v:=v110) (i:=0) bF rfl rfl (r112.t.bel hw') rfl (by omega) (by omega)) (qx (λw' hw'=>aw (v:=v110) (i:=0) ap rfl (r112.t.bel hw') (by omega) (by omega) (by decide) rfl) (qm v110 (qx (λw' hw'=>ad (v:=v110) (i:=1) bF rfl rfl (r112.t.bel hw') rfl (by omega) (by omega)) (qx (λw' hw'=>aw (v:=v110) (i:=1) ap rfl (r112.t.bel hw') (by omega) (by omega) (by decide) rfl) (qx (λw' hw'=>aJ (m:=(gI (gI ho ((((gI ((lA AR (gI ps i)).2) (j:Int)).2).2).2)) 0)) (n:=(gI (gI ho ((((gI ((lA AR (gI ps i)).2) (j:Int)).2).2).2)) 1)) rfl rfl (by omega)) (qm (vi i) ?_))))))
    refine qx (λw' hw'=>da (m:=(gI (gI ho ((((gI ((lA AR (gI ps i)).2) (j:Int)).2).2).2)) 0)+(gI (gI ho ((((gI ((lA AR (gI ps i)).2) (j:Int)).2).2).2)) 1)) (n:=i) rfl rfl (by omega)) (qv (vi (((gI (gI ho ((((gI ((lA AR (gI ps i)).2) (j:Int)).2).2).2)) 0)+(gI (gI ho ((((gI ((lA AR (gI ps i)).2) (j:Int)).2).2).2)) 1))-i)) (λw' hw'=>bK rfl) (gf ?_))
    intro w115 hc116
    replace hc116:=aG hc116 g75
    refine az (vs:=[vi (((gI (gI ho ((((gI ((lA AR (gI ps i)).2) (j:Int)).2).2).2)) 0)+(gI (gI ho ((((gI ((lA AR (gI ps i)).2) (j:Int)).2).2).2)) 1))-i)]) Tryz.func72 (.tmp rfl .nil) ?_
    refine⟨vi (((gI (gI ho ((((gI ((lA AR (gI ps i)).2) (j:Int)).2).2).2)) 0)+(gI (gI ho ((((gI ((lA AR (gI ps i)).2) (j:Int)).2).2).2)) 1))-i),rfl,?_⟩
    refine cE 3 rfl (ao (v:=n2_v) (a8 kU rfl hn_b.t rfl) ?_)
    refine xv 9 [3,8,7,6,5,4,2,1,0] rfl (ad (v:=n2_v) (i:=((gI (gI ho ((((gI ((lA AR (gI ps i)).2) (j:Int)).2).2).2)) 0)+(gI (gI ho ((((gI ((lA AR (gI ps i)).2) (j:Int)).2).2).2)) 1))-i) bF rfl rfl Rn2.t rfl (by omega) (by omega)) (xv 10 [9,3,8,7,6,5,4,2,1,0] rfl (aw (v:=n2_v) (i:=((gI (gI ho ((((gI ((lA AR (gI ps i)).2) (j:Int)).2).2).2)) 0)+(gI (gI ho ((((gI ((lA AR (gI ps i)).2) (j:Int)).2).2).2)) 1))-i) ap rfl Rn2.t (by omega) (by omega) (by decide) rfl) (xp 11 rfl (λw=>aa B8 rfl rfl rfl rfl) (cE 12 rfl ?_)))
    refine aA (cs':=[vi ((gI ((lA AR (gI ps i)).2) (j:Int)).1),vi (((gI ((lA AR (gI ps i)).2) (j:Int)).2).1),vi ((((gI ((lA AR (gI ps i)).2) (j:Int)).2).2).1),vi (gI nu (((gI (gI ho ((((gI ((lA AR (gI ps i)).2) (j:Int)).2).2).2)) 0)+(gI (gI ho ((((gI ((lA AR (gI ps i)).2) (j:Int)).2).2).2)) 1))-i))]) ap rfl rfl bx71.t rfl nq (AllOne.all (.cons rfl .nil)) rfl ?_
    intro w117 ch118 bx119
    refine bV (by kernel_rfl) ?_
    exact mid (g75) _ _ ⟨bH.t,zs0,zs1,zs4,zs6,rfl,zs27,zs28,zs29,Rn0.t,Rn1.t,Rn2.t,hn_b.t,ar_A.t,bx5.t,o8.t,o15.t,bx27.t,o_ed.t,bx119⟩
  rintro g125 f123 w124 ⟨bH,zs0,zs1,zs4,zs6,zs9,zs27,zs28,zs29,Rn0,Rn1,Rn2,hn_b,ar_A,bx5,o8,o15,bx27,o_ed,bx103⟩
  refine a6 rfl (lx (aa xC rfl rfl zs6 rfl) (lx (a8 jd rfl bx27 rfl) (lx (av (ds:=[vi ((gI ((lA AR (gI ps i)).2) (j:Int)).1),vi (((gI ((lA AR (gI ps i)).2) (j:Int)).2).1),vi ((((gI ((lA AR (gI ps i)).2) (j:Int)).2).2).1),vi (gI nu (((gI (gI ho ((((gI ((lA AR (gI ps i)).2) (j:Int)).2).2).2)) 0)+(gI (gI ho ((((gI ((lA AR (gI ps i)).2) (j:Int)).2).2).2)) 1))-i))]) gr zs9 bx103 rfl rfl) (lo ?_))))
  refine aq (α:=Bd) g125 (is 7) (is 7) (7,0) rfl [((gI ((lA AR (gI ps i)).2) (j:Int)).1,((gI ((lA AR (gI ps i)).2) (j:Int)).2).1,(((gI ((lA AR (gI ps i)).2) (j:Int)).2).2).1,(gI nu (((gI (gI ho ((((gI ((lA AR (gI ps i)).2) (j:Int)).2).2).2)) 0)+(gI (gI ho ((((gI ((lA AR (gI ps i)).2) (j:Int)).2).2).2)) 1))-i)))] DI gr (by decide) (by decide) (vs:=[(0,vg [vi ((gI ((lA AR (gI ps i)).2) (j:Int)).1),vi (((gI ((lA AR (gI ps i)).2) (j:Int)).2).1),vi ((((gI ((lA AR (gI ps i)).2) (j:Int)).2).2).1),vi (gI nu (((gI (gI ho ((((gI ((lA AR (gI ps i)).2) (j:Int)).2).2).2)) 0)+(gI (gI ho ((((gI ((lA AR (gI ps i)).2) (j:Int)).2).2).2)) 1))-i))])]) rfl rfl (.cons rfl .nil) ?_
  intro g126 w127 v128 ch129 o130
  refine lo ?_
  refine iJ o_ed.t o130.flat DI gr (by(simp;omega)) ?_
  intro g131 w132 v133 ch134 o135
  refine lx (aa xC rfl rfl zs6 rfl) (lo ?_)
  refine aC (cs':=[vi ((lA AR (gI ps i)).1),v14,v133]) jd rfl rfl bx27.t (aL o135.flat) nq (aM o135.flat) rfl ?_
  intro w136 ch137 bx138
  refine ab (ak ?_)
  refine a6 rfl (lx (aJ (m:=↑j) (n:=1) zs29 rfl (by omega)) (mi ((j:Int)+1) (ab ?_)))
  refine back4 (v133,(ed++[((gI ((lA AR (gI ps i)).2) (j:Int)).1,((gI ((lA AR (gI ps i)).2) (j:Int)).2).1,(((gI ((lA AR (gI ps i)).2) (j:Int)).2).2).1,(gI nu (((gI (gI ho ((((gI ((lA AR (gI ps i)).2) (j:Int)).2).2).2)) 0)+(gI (gI ho ((((gI ((lA AR (gI ps i)).2) (j:Int)).2).2).2)) 1))-i)))]),j+1,g131) _ _ ⟨bH.t,zs0,zs1,zs4,zs6,zs27,zs28,rfl,Rn0.t,Rn1.t,Rn2.t,hn_b.t,ar_A.t,bx5.t,o8.t,o15.t,bx138,o135.t,by omega,?_⟩ ?_
  · show(ed++[((gI ((lA AR (gI ps i)).2) (j:Int)).1,((gI ((lA AR (gI ps i)).2) (j:Int)).2).1,(((gI ((lA AR (gI ps i)).2) (j:Int)).2).2).1,(gI nu (((gI (gI ho ((((gI ((lA AR (gI ps i)).2) (j:Int)).2).2).2)) 0)+(gI (gI ho ((((gI ((lA AR (gI ps i)).2) (j:Int)).2).2).2)) 1))-i)))])=((lA AR (gI ps i)).2.take (j+1)).map (uF nu ho i)
    exact BE hed ‹_› (by omega)
  · show Int.toNat (_-_)<Int.toNat (_-_)
    omega
 refine af rfl (df p4) (aF rfl (a7 ?_))
 have hed2:ed=(lA AR (gI ps i)).2.map (uF nu ho i):=by rw[hed,List.take_of_length_le (by omega)]
 refine a6 rfl (lx (aa xC rfl rfl zs6 rfl) (lx (a8 jd rfl bx27 rfl) (lo (bB (σ:=Unit) (V:=λ_=>Value.tuple #[]) (aB (vals:=[ed_v,Value.func (.func 78) #[] #[]]) Tryz.func77 z6 y4 rfl) (yj o_ed (by rw[hed2];exact tK hbs)) ?_))))
 rintro⟨⟩ w140 ⟨ch141,o142⟩
 refine ab (a7 (a6 rfl ?_))
 refine lx (av (ds:=[vi ((lA AR (gI ps i)).1),v14,ed_v]) ea zs6 bx27.t rfl rfl) (lo ?_)
 refine aA (cs':=[vi ((lA AR (gI ps i)).1),v14,ed_v]) ea zs4 rfl bx5.t rfl nq (AllOne.all (.cons rfl (.cons (aM o15.t.flat) (.cons (aM o142.flat) .nil)))) rfl ?_
 intro w143 ch144 bx145
 refine ab (az (vs:=[vg [vi ((lA AR (gI ps i)).1),v14,ed_v]]) Tryz.func50 (.cell zs4 (cd (ds:=[vi ((lA AR (gI ps i)).1),v14,ed_v]) ea bx145 rfl rfl) .nil) ?_)
 have e0:(((lA AR (gI ps i)).1,cz ((lA AR (gI ps i)).2),(lq ed)):(Int)×(List Int)×(List Bd))=(jy (ps.map (bt AR)) ho nu i):=by
   rw[hpp,hed2]
 exact⟨(fin w0 g55 (λn=>if n=2 then 1 else if n=8 then 2 else 0),v14,ed_v),(congrArg (a₁:=((lA AR (gI ps i)).1,cz ((lA AR (gI ps i)).2),(lq ed))) (λ(z0:(Int)×(List Int)×(List Bd))=>Ending.returned (vg [vi z0.1,v14,ed_v])) e0),bH.t.fresh _,((congrArg (λ(z:(Int)×(List Int)×(List Bd))=>z.2.1) e0)▸(o15.t.glue (γ:=c0) (ren:=(λn=>if n=2 then 1 else if n=8 then 2 else 0)) (k:=1) bH.t.col rfl rfl)),((congrArg (λ(z:(Int)×(List Int)×(List Bd))=>z.2.2) e0)▸(o142.t.glue (γ:=c0) (ren:=(λn=>if n=2 then 1 else if n=8 then 2 else 0)) (k:=2) bH.t.col rfl rfl))⟩
end TL
