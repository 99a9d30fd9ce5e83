import Derived.Test.YtbadiajeohbpcaaGreatTlP3
import Derived.Test.YtbadiajeohbpcaaGreatTlGmA
import Derived.Test.YtbadiajeohbpcaaGreatTlGmM
import Derived.Test.YtbadiajeohbpcaaGreatTlGmG
import Derived.Test.YtbadiajeohbpcaaGreatTlSortA
import Derived.Test.YtbadiajeohbpcaaGreatProg
import Derived.Test.YtbadiajeohbpcaaGreatTlAli
set_option linter.all false
set_option maxRecDepth 20000
namespace TL
open Go Go.Proofs
theorem yA:Tryz.f63.body.isNone=false:=rfl
theorem xa:(Tryz.f63.name== "runtime.NumGoroutine")=false:=by decide+kernel
theorem t6(w0:World)(o:Pt)(ps:List Pt)(ps_v:Value)(hps_v:Ro w0 ps_v ps):
    Calls Tryz.prog 31 #[vg [vi o.1,vi o.2],ps_v] w0 (λee w=>∃xx:aK×Value,ee= .returned ((λ⟨δ,rv0⟩=>vt [rv0,vi ((arR o ps).2)]) xx)/\(λ(⟨δ,rv0⟩:aK×Value) (w:World)=>em w0 δ w/\Ow δ (is 1) (is 1) w rv0 ((arR o ps).1)) xx w):=by
 refine au Tryz.func31 rfl nq ?_
 have bH:=aT.start w0
 have Rps:=hps_v.sl
 refine a7 (a6 rfl (bW rfl (bh c0 (is 1) (1,0) rfl rfl ?_)))
 intro g4 w1 b3 ch2 bx5
 replace bx5:Bx g4 (is 1) w1 b3 [vi o.1,vi o.2]:=bx5
 refine lo ?_
 replace Rps:=Rps.cn ch2
 have hc11:=bK Rps
 refine bh (v:=ps_v) g4 (is 2) (2,0) rfl rfl ?_
 intro g9 w6 b8 ch7 bx10
 rw[hc11] at bx10
 replace bx10:Bx g9 (is 2) w6 b8 [ps_v]:=bx10
 refine ma vn (ai 0 (aa (a7 (a7 (a6 rfl ?_)))))
 replace bx5:=bx5.cn ch7
 refine lx (aj (ds:=[vi o.1,vi o.2]) ah rfl bx5 rfl rfl) (lo (aG (α:=Pt) g9 (is 3) (is 3) (3,0) rfl [o] bS ah (by decide) (by decide) (vs:=[(0,vg [vi o.1,vi o.2])]) rfl rfl (.cons rfl .nil) ?_))
 intro g12 w13 v14 ch15 o16
 refine lo (aO (v:=vb (decide (dy ([o])))) (aA (vals:=[v14]) Tryz.func62 fT fP rfl) (fO w13 ([o]) v14 (o16.flat).ro) ?_)
 intro w17 hb18
 replace hb18:=ao hb18 g12
 refine lx (bZ (b:=(decide (dy ([o])))) rfl) (mv (vb (!(decide (dy ([o]))))) ?_)
 by_cases q13:(decide (dy ([o])))=true
 ·
  replace bx10:=(bx10.cn ch15).cn hb18
  refine lv (ps_v) (wy (congrArg Bool.not q13)) (ab fE rfl bx10 rfl) ?_
  have C19:=cg [] (ch7.n.seq (ch15.n.seq hb18.n))
  replace Rps:=Rps.ca C19
  refine bW (wy (congrArg Bool.not q13)) (aO (v:=vb (decide (dy ps))) (aA (vals:=[ps_v]) Tryz.func62 fT fP rfl) (fO w17 ps ps_v (Rps).ro) ?_)
  intro w20 hb21
  replace hb21:=ao hb21 g12
  refine lv (vb (!(decide (dy ps)))) (wy (congrArg Bool.not q13)) (bZ (b:=(decide (dy ps))) rfl) (lw (vb (!(decide (dy ps)))) (aB rfl (congrArg Bool.not q13) rfl) (aa ?_))
  by_cases p1:(decide (dy ps))=true
  ·
   refine ag rfl (congrArg Bool.not p1) (ak (a7 ?_))
   clear o16
   refine a6 rfl (ma vn (aa (a7 (a7 (a6 rfl ?_)))))
   replace bx10:=bx10.cn hb21
   refine lx (ab fE rfl bx10 rfl) ?_
   replace Rps:=Rps.cn hb21
   have len22:=(Rps).small
   refine lx (aQ bS rfl Rps) (mi 0 (aa (am ?_)))
   refine aN (σ:=Value×(List Int)×Nat×aK) (λ⟨l1_v,l1,i,gq⟩ f w=>aT w0 gq w/\f 2=vp b3 0/\f 3=vp b8 0/\f 6=l1_v/\f 18=ps_v/\f 19=vi (ps.length:Int)/\f 20=vi ↑i/\Sl gq (is 0) w ps_v ps/\Bx gq (is 1) w b3 [vi o.1,vi o.2]/\Bx gq (is 2) w b8 [ps_v]/\Ow gq (is 6) (is 6) w l1_v l1/\(i:Int)<=((ps.length:Int):Int)/\(l1=gx i/\∀j:Nat,j<i->gI ps ↑j≠o)) (λ⟨l1_v,l1,i,gq⟩=>Int.toNat (((ps.length:Int):Int)-(i:Int))) (vn,[],0,g12) ?_ ?_
   have C24:=cg [] (ch15.n.seq (hb18.n.seq hb21.n))
   have C23:=ch2.n.seq (ch7.n.seq C24)
   · exact⟨bH.ca C23,rfl,rfl,rfl,rfl,rfl,rfl,Rps,bx5.ca C24,bx10,Ow.nil,by omega,by exact⟨rfl,λj hj=>by omega⟩⟩
   clear Rps bx5 bx10 bH
   rintro⟨l1_v,l1,i,g27⟩ f25 w26 ⟨bH,zs2,zs3,zs6,zs18,zs19,zs20,Rps,bx5,bx10,o_l1,hle_i,hinv⟩ back5
   refine a7 (a6 rfl (lx (aZ (m:=↑i) (n:=(ps.length:Int)) zs20 zs19) (aa (a7 ?_))))
   by_cases p5:(i:Int)<(ps.length:Int)
   ·
    refine af rfl (dt p5) ?_
    have hll:l1.length=i:=by rw[hinv.1,tQ]
    refine ak (a7 (am (a7 (a6 rfl (mz zs20 (lx (ad (v:=ps_v) (i:=↑i) bS rfl zs18 Rps zs20 (by omega) (by omega)) (lw (vg [vi ((gI ps ↑i).1),vi ((gI ps ↑i).2)]) (aF (v:=ps_v) (i:=↑i) ah rfl Rps (by omega) (by omega) rfl) (lo (aS g27 (is 4) (4,0) rfl ah ?_)))))))))
    intro g31 w28 b30 ch29 bx32
    replace bx32:Bx g31 (is 4) w28 b30 [vi 0,vi 0]:=bx32
    refine ai (i:Int) (lo (aw (cs':=[vi ((gI ps ↑i).1),vi ((gI ps ↑i).2)]) ah rfl rfl bx32 rfl nq (AllOne.all (.cons rfl (.cons rfl .nil))) rfl ?_))
    intro w33 ch34 bx35
    clear bx32
    refine aa (a7 (a7 (a6 rfl (lx (aj (ds:=[vi ((gI ps ↑i).1),vi ((gI ps ↑i).2)]) ah rfl bx35 rfl rfl) ?_))))
    replace bx5:=(bx5.cn ch29).ce ch34
    refine lx (aj (ds:=[vi o.1,vi o.2]) ah zs2 bx5 rfl rfl) (lw (vb (decide ((gI ps ↑i)=o))) (dh (bs:=[decide (((gI ps ↑i).1)=o.1),decide (((gI ps ↑i).2)=o.2)]) cj (by kernel_rfl) (by kernel_rfl) rfl rfl (.cons (by decide+kernel) az rfl rfl (.int U3) (.cons (by decide+kernel) az rfl rfl (.int U3) .nil)) (by simp[Prod.ext_iff,Bool.decide_and,Bool.and_assoc])) (aa ?_))
    by_cases p7:(gI ps ↑i)=o
    ·
     refine af rfl (dt p7) (a7 ?_)
     clear bx5 bx10 o_l1 bx35
     refine a6 rfl (ma vn (ai 1 (aa (ar (vs:=[vn,vi 1]) Tryz.func31 (.tmp rfl (.tmp rfl .nil)) ?_))))
     replace bH:=bH.cn ch29
     replace bH:=bH.ce ch34
     have e0:([]:List Int)=((arR o ps).1):=by
       rw[ku λh=>ub ‹_› ‹_› h.2]
     have e1:(1:Int)=((arR o ps).2):=by
       rw[ku λh=>ub ‹_› ‹_› h.2]
     exact⟨(fin w0 g31 (λn=>0),vn),(bR (a:=[]) (b:=1) (λ(z0:List Int) (z1:Int)=>Ending.returned (vt [vn,vi z1])) e0 e1),bH.fresh _,(e0▸Ow.nil)⟩
    refine ag rfl (df p7) (ak ?_)
    clear bx35
    refine a6 rfl (mz zs6 (mi ↑i (lo (aG (α:=Int) g31 (is 5) (is 5) (5,0) rfl [(i:Int)] cS az (by decide) (by decide) (vs:=[(0,vi ↑i)]) rfl rfl (.cons rfl .nil) ?_))))
    intro g36 w37 v38 ch39 o40
    refine lo ?_
    have C41:=cg [4] (ch29.n.seq ((ch34.l rfl).seq ch39.n))
    replace o_l1:=o_l1.ca C41
    refine aV (α:=Int) (xs:=l1) (ys:=([(i:Int)])) g36 (J:=is 6) (S:=is 6) (6,0) rfl cS az (by decide) rfl rfl rfl o_l1 o40.flat (by decide) (by(simp;omega)) ?_
    intro g42 w43 v44 ch45 o46
    clear o_l1
    refine ma v44 (aa (al ?_))
    clear o40
    refine a6 rfl (lx (aM (m:=↑i) (n:=1) zs20 rfl (by omega)) (mi ((i:Int)+1) (aa ?_)))
    have C47:=cg [4,6] (ch29.n.seq ((ch34.l rfl).seq (ch39.n.seq (ch45.l rfl))))
    refine back5 (v44,(l1++[(i:Int)]),i+1,g42) _ _ ⟨bH.ca C47,zs2,zs3,rfl,zs18,zs19,rfl,Rps.ca C47,(bx5.cn ch39).ce ch45,bx10.ca C47,o46,by omega,?_⟩ ?_
    · show(l1++[(i:Int)])=gx (i+1)/\∀j:Nat,j<(i+1)->gI ps ↑j≠o
      refine⟨by rw[th,<-hinv.1],λj hj=>?_⟩
      by_cases h1:j=i
      · subst h1;assumption
      · exact hinv.2 j (by omega)
    · show Int.toNat (((ps.length:Int):Int)-((i+1):Int))<Int.toNat (((ps.length:Int):Int)-(i:Int))
      omega
   refine ag rfl (df p5) (aJ rfl (a7 ?_))
   have hki:i=ps.length:=by omega
   have hnz:jn o ps:=λj hj=>hinv.2 j (by omega)
   have hko:=zw.1 (by exact of_decide_eq_true q13)
   have hkl:dy ps:=by exact of_decide_eq_true p1
   refine a6 rfl (mz zs6 (lw (Value.func (.func 64) #[] (List.toArray [vp b8 0,vp b3 0])) (pY (vals:=[vp b8 0,vp b3 0]) (Ac zs3 (Ac zs2 rfl))) (lo (bi (σ:=Unit) (V:=λ_=>Value.tuple #[]) (aA (vals:=[l1_v,Value.func (.func 64) #[] (List.toArray [vp b8 0,vp b3 0])]) Tryz.func63 yA xa rfl) (uT o_l1 bx10 Rps bx5 (dT rfl) (dT rfl) (dT rfl) (by rw[hinv.1,hki]) hnz hko hkl) ?_))))
   rintro⟨⟩ w48 ⟨ch49,o50⟩
   clear o_l1
   refine aa (a7 ?_)
   clear bx5 bx10
   refine a6 rfl (mz zs6 (ma l1_v (ai 0 (aa (ar (vs:=[l1_v,vi 0]) Tryz.func31 (.tmp rfl (.tmp rfl .nil)) ?_)))))
   replace bH:=bH.ce ch49
   have e0:(arL o ps:List Int)=((arR o ps).1):=by
     rw[pX hko hkl hnz]
   have e1:(0:Int)=((arR o ps).2):=by
     rw[pX hko hkl hnz]
   exact⟨(fin w0 g27 (λn=>if n=6 then 1 else 0),l1_v),(bR (a:=arL o ps) (b:=0) (λ(z0:List Int) (z1:Int)=>Ending.returned (vt [l1_v,vi z1])) e0 e1),bH.fresh _,(e0▸(o50.glue (γ:=c0) (ren:=(λn=>if n=6 then 1 else 0)) (k:=1) bH.col rfl rfl))⟩
  refine af rfl (congrArg Bool.not (Bool.eq_false_iff.2 p1)) (a7 ?_)
  clear bx5 bx10 o16
  refine a6 rfl (ma vn (ai 1 (aa (ar (vs:=[vn,vi 1]) Tryz.func31 (.tmp rfl (.tmp rfl .nil)) ?_))))
  have C51:=cg [] (ch2.n.seq (ch7.n.seq (ch15.n.seq (hb18.n.seq hb21.n))))
  replace bH:=bH.ca C51
  have e0:([]:List Int)=((arR o ps).1):=by
    rw[ku λh=>p1 (dt h.1.2)]
  have e1:(1:Int)=((arR o ps).2):=by
    rw[ku λh=>p1 (dt h.1.2)]
  exact⟨(fin w0 g12 (λn=>0),vn),(bR (a:=[]) (b:=1) (λ(z0:List Int) (z1:Int)=>Ending.returned (vt [vn,vi z1])) e0 e1),bH.fresh _,(e0▸Ow.nil)⟩
 refine ae (wn (congrArg Bool.not (Bool.eq_false_iff.2 q13))) (ae (wn (congrArg Bool.not (Bool.eq_false_iff.2 q13))) (ae (wn (congrArg Bool.not (Bool.eq_false_iff.2 q13))) (lw (vb true) (aD rfl (congrArg Bool.not (Bool.eq_false_iff.2 q13)) rfl) (aa (af rfl rfl (a7 ?_))))))
 clear bx5 bx10 o16
 refine a6 rfl (ma vn (ai 1 (aa (ar (vs:=[vn,vi 1]) Tryz.func31 (.tmp rfl (.tmp rfl .nil)) ?_))))
 have C52:=cg [] (ch2.n.seq (ch7.n.seq (ch15.n.seq hb18.n)))
 replace bH:=bH.ca C52
 have e0:([]:List Int)=((arR o ps).1):=by
   rw[ku λh=>q13 (dt (zw.2 h.1.1))]
 have e1:(1:Int)=((arR o ps).2):=by
   rw[ku λh=>q13 (dt (zw.2 h.1.1))]
 exact⟨(fin w0 g12 (λn=>0),vn),(bR (a:=[]) (b:=1) (λ(z0:List Int) (z1:Int)=>Ending.returned (vt [vn,vi z1])) e0 e1),bH.fresh _,(e0▸Ow.nil)⟩
end TL
