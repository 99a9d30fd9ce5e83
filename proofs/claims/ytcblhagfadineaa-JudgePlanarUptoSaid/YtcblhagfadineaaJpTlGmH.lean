import Derived.Test.YtcblhagfadineaaJpTlP4
import Derived.Test.YtcblhagfadineaaJpTlGmA
import Derived.Test.YtcblhagfadineaaJpTlGmM
import Derived.Test.YtcblhagfadineaaJpTlGmG
import Derived.Test.YtcblhagfadineaaJpTlSortA
import Derived.Test.YtcblhagfadineaaProg
import Derived.Test.YtcblhagfadineaaJpTlAli
set_option linter.all false
set_option maxRecDepth 20000
namespace TL
open Go Go.Proofs
theorem wr:Try.f34.body.isNone=false:=rfl
theorem wI:(Try.f34.name== "runtime.NumGoroutine")=false:=by decide+kernel
theorem rJ(w0:World)(o:Pt)(ps:List Pt)(ps_v:Value)(hps_v:Ro w0 ps_v ps):
    Calls Try.prog 18 #[vg [vi o.1,vi o.2],ps_v] w0 (λee w=>∃xx:aH×Value,ee= .returned ((λ⟨δ,rv0⟩=>vt [rv0,vi ((arR o ps).2)]) xx)/\(λ(⟨δ,rv0⟩:aH×Value) (w:World)=>fI w0 δ w/\Ow δ (is 1) (is 1) w rv0 ((arR o ps).1)) xx w):=by
 refine av Try.func18 rfl nq ?_
 have bH:=aX.start w0
 have Rps:=hps_v.sl
 refine aa (a8 rfl (cj rfl (bj c0 (is 1) (1,0) rfl rfl ?_)))
 intro g4 w1 b3 ch2 bx5
 replace bx5:Bx g4 (is 1) w1 b3 [vi o.1,vi o.2]:=bx5
 refine lo ?_
 replace Rps:=Rps.cn ch2
 have hc11:=bK Rps
 refine bj (v:=ps_v) g4 (is 2) (2,0) rfl rfl ?_
 intro g9 w6 b8 ch7 bx10
 rw[hc11] at bx10
 replace bx10:Bx g9 (is 2) w6 b8 [ps_v]:=bx10
 refine ma vn (ai 0 (ab (aa (aa (a8 rfl ?_)))))
 replace bx5:=bx5.cn ch7
 refine lx (ak (ds:=[vi o.1,vi o.2]) ah rfl bx5 rfl rfl) (lo (aF (α:=Pt) g9 (is 3) (is 3) (3,0) rfl [o] cX ah (by decide) (by decide) (vs:=[(0,vg [vi o.1,vi o.2])]) rfl rfl (.cons rfl .nil) ?_))
 intro g12 w13 v14 ch15 o16
 refine lo (aK (v:=vb (decide (dW ([o])))) (aA (vals:=[v14]) Try.func33 fA fF rfl) (fC w13 ([o]) v14 (o16.flat).ro) ?_)
 intro w17 hb18
 replace hb18:=ar hb18 g12
 refine lx (dj (b:=(decide (dW ([o])))) rfl) (mv (vb (!(decide (dW ([o]))))) ?_)
 by_cases q13:(decide (dW ([o])))=true
 ·
  replace bx10:=(bx10.cn ch15).cn hb18
  refine lv (ps_v) (wy (congrArg Bool.not q13)) (af kZ rfl bx10 rfl) ?_
  have C19:=cg [] (ch7.n.seq (ch15.n.seq hb18.n))
  replace Rps:=Rps.ca C19
  refine cj (wy (congrArg Bool.not q13)) (aK (v:=vb (decide (dW ps))) (aA (vals:=[ps_v]) Try.func33 fA fF rfl) (fC w17 ps ps_v (Rps).ro) ?_)
  intro w20 hb21
  replace hb21:=ar hb21 g12
  refine lv (vb (!(decide (dW ps)))) (wy (congrArg Bool.not q13)) (dj (b:=(decide (dW ps))) rfl) (lw (vb (!(decide (dW ps)))) (aC rfl (congrArg Bool.not q13) rfl) (ab ?_))
  by_cases p1:(decide (dW ps))=true
  ·
   refine aj rfl (congrArg Bool.not p1) (am (aa ?_))
   clear o16
   refine a8 rfl (ma vn (ab (aa (aa (a8 rfl ?_)))))
   replace bx10:=bx10.cn hb21
   refine lx (af kZ rfl bx10 rfl) ?_
   replace Rps:=Rps.cn hb21
   have len22:=(Rps).small
   refine lx (aT cX rfl Rps) (mi 0 (ab (aq ?_)))
   refine aQ (σ:=Value×(List Int)×Nat×aH) (λ⟨l1_v,l1,i,gq⟩ f w=>aX w0 gq w/\f 2=vp b3 0/\f 3=vp b8 0/\f 6=l1_v/\f 18=ps_v/\f 19=vi (ps.length:Int)/\f 20=vi ↑i/\Sl gq (is 0) w ps_v ps/\Bx gq (is 1) w b3 [vi o.1,vi o.2]/\Bx gq (is 2) w b8 [ps_v]/\Ow gq (is 6) (is 6) w l1_v l1/\(i:Int)<=((ps.length:Int):Int)/\(l1=fX i/\∀j:Nat,j<i->gI ps ↑j≠o)) (λ⟨l1_v,l1,i,gq⟩=>Int.toNat (((ps.length:Int):Int)-(i:Int))) (vn,[],0,g12) ?_ ?_
   have C24:=cg [] (ch15.n.seq (hb18.n.seq hb21.n))
   have C23:=ch2.n.seq (ch7.n.seq C24)
   · exact⟨bH.ca C23,rfl,rfl,rfl,rfl,rfl,rfl,Rps,bx5.ca C24,bx10,Ow.nil,by omega,by exact⟨rfl,λj hj=>by omega⟩⟩
   clear Rps bx5 bx10 bH
   rintro⟨l1_v,l1,i,g27⟩ f25 w26 ⟨bH,zs2,zs3,zs6,zs18,zs19,zs20,Rps,bx5,bx10,o_l1,hle_i,hinv⟩ back5
   refine aa (a8 rfl (lx (b6 (m:=↑i) (n:=(ps.length:Int)) zs20 zs19) (ab (aa ?_))))
   by_cases p5:(i:Int)<(ps.length:Int)
   ·
    refine ag rfl (dt p5) ?_
    have hll:l1.length=i:=by rw[hinv.1,tq]
    refine am (aa (aq (aa (a8 rfl (mz zs20 (lx (al (v:=ps_v) (i:=↑i) cX rfl zs18 Rps zs20 (by omega) (by omega)) (lw (vg [vi ((gI ps ↑i).1),vi ((gI ps ↑i).2)]) (aJ (v:=ps_v) (i:=↑i) ah rfl Rps (by omega) (by omega) rfl) (lo (aY g27 (is 4) (4,0) rfl ah ?_)))))))))
    intro g31 w28 b30 ch29 bx32
    replace bx32:Bx g31 (is 4) w28 b30 [vi 0,vi 0]:=bx32
    refine ai (i:Int) (lo (aw (cs':=[vi ((gI ps ↑i).1),vi ((gI ps ↑i).2)]) ah rfl rfl bx32 rfl nq (AllOne.all (.cons rfl (.cons rfl .nil))) rfl ?_))
    intro w33 ch34 bx35
    clear bx32
    refine ab (aa (aa (a8 rfl (lx (ak (ds:=[vi ((gI ps ↑i).1),vi ((gI ps ↑i).2)]) ah rfl bx35 rfl rfl) ?_))))
    replace bx5:=(bx5.cn ch29).ce ch34
    refine lx (ak (ds:=[vi o.1,vi o.2]) ah zs2 bx5 rfl rfl) (lw (vb (decide ((gI ps ↑i)=o))) (fE (bs:=[decide (((gI ps ↑i).1)=o.1),decide (((gI ps ↑i).2)=o.2)]) dw (by kernel_rfl) (by kernel_rfl) rfl rfl (.cons (by decide+kernel) ba rfl rfl (.int U3) (.cons (by decide+kernel) ba rfl rfl (.int U3) .nil)) (by simp[Prod.ext_iff,Bool.decide_and,Bool.and_assoc])) (ab ?_))
    by_cases p7:(gI ps ↑i)=o
    ·
     refine ag rfl (dt p7) (aa ?_)
     clear bx5 bx10 o_l1 bx35
     refine a8 rfl (ma vn (ai 1 (ab (au (vs:=[vn,vi 1]) Try.func18 (.tmp rfl (.tmp rfl .nil)) ?_))))
     replace bH:=bH.cn ch29
     replace bH:=bH.ce ch34
     have e0:([]:List Int)=((arR o ps).1):=by
       rw[ka λh=>uK ‹_› ‹_› h.2]
     have e1:(1:Int)=((arR o ps).2):=by
       rw[ka λh=>uK ‹_› ‹_› h.2]
     exact⟨(fin w0 g31 (λn=>0),vn),(bV (a:=[]) (b:=1) (λ(z0:List Int) (z1:Int)=>Ending.returned (vt [vn,vi z1])) e0 e1),bH.fresh _,(e0▸Ow.nil)⟩
    refine aj rfl (df p7) (am ?_)
    clear bx35
    refine a8 rfl (mz zs6 (mi ↑i (lo (aF (α:=Int) g31 (is 5) (is 5) (5,0) rfl [(i:Int)] dl ba (by decide) (by decide) (vs:=[(0,vi ↑i)]) rfl rfl (.cons rfl .nil) ?_))))
    intro g36 w37 v38 ch39 o40
    refine lo ?_
    have C41:=cg [4] (ch29.n.seq ((ch34.l rfl).seq ch39.n))
    replace o_l1:=o_l1.ca C41
    refine b9 (α:=Int) (xs:=l1) (ys:=([(i:Int)])) g36 (J:=is 6) (S:=is 6) (6,0) rfl dl ba (by decide) rfl rfl rfl o_l1 o40.flat (by decide) (by(simp;omega)) ?_
    intro g42 w43 v44 ch45 o46
    clear o_l1
    refine ma v44 (ab (ao ?_))
    clear o40
    refine a8 rfl (lx (aP (m:=↑i) (n:=1) zs20 rfl (by omega)) (mi ((i:Int)+1) (ab ?_)))
    have C47:=cg [4,6] (ch29.n.seq ((ch34.l rfl).seq (ch39.n.seq (ch45.l rfl))))
    refine back5 (v44,(l1++[(i:Int)]),i+1,g42) _ _ ⟨bH.ca C47,zs2,zs3,rfl,zs18,zs19,rfl,Rps.ca C47,(bx5.cn ch39).ce ch45,bx10.ca C47,o46,by omega,?_⟩ ?_
    · show(l1++[(i:Int)])=fX (i+1)/\∀j:Nat,j<(i+1)->gI ps ↑j≠o
      refine⟨by rw[rW,<-hinv.1],λj hj=>?_⟩
      by_cases h1:j=i
      · subst h1;assumption
      · exact hinv.2 j (by omega)
    · show Int.toNat (((ps.length:Int):Int)-((i+1):Int))<Int.toNat (((ps.length:Int):Int)-(i:Int))
      omega
   refine aj rfl (df p5) (aM rfl (aa ?_))
   have hki:i=ps.length:=by omega
   have hnz:jc o ps:=λj hj=>hinv.2 j (by omega)
   have hko:=yt.1 (by exact of_decide_eq_true q13)
   have hkl:dW ps:=by exact of_decide_eq_true p1
   refine a8 rfl (mz zs6 (lw (Value.func (.func 35) #[] (List.toArray [vp b8 0,vp b3 0])) (pu (vals:=[vp b8 0,vp b3 0]) (zL zs3 (zL zs2 rfl))) (lo (c3 (σ:=Unit) (V:=λ_=>Value.tuple #[]) (aA (vals:=[l1_v,Value.func (.func 35) #[] (List.toArray [vp b8 0,vp b3 0])]) Try.func34 wr wI rfl) (uU o_l1 bx10 Rps bx5 (fm rfl) (fm rfl) (fm rfl) (by rw[hinv.1,hki]) hnz hko hkl) ?_))))
   rintro⟨⟩ w48 ⟨ch49,o50⟩
   clear o_l1
   refine ab (aa ?_)
   clear bx5 bx10
   refine a8 rfl (mz zs6 (ma l1_v (ai 0 (ab (au (vs:=[l1_v,vi 0]) Try.func18 (.tmp rfl (.tmp rfl .nil)) ?_)))))
   replace bH:=bH.ce ch49
   have e0:(arL o ps:List Int)=((arR o ps).1):=by
     rw[pU hko hkl hnz]
   have e1:(0:Int)=((arR o ps).2):=by
     rw[pU hko hkl hnz]
   exact⟨(fin w0 g27 (λn=>if n=6 then 1 else 0),l1_v),(bV (a:=arL o ps) (b:=0) (λ(z0:List Int) (z1:Int)=>Ending.returned (vt [l1_v,vi z1])) e0 e1),bH.fresh _,(e0▸(o50.glue (γ:=c0) (ren:=(λn=>if n=6 then 1 else 0)) (k:=1) bH.col rfl rfl))⟩
  refine ag rfl (congrArg Bool.not (Bool.eq_false_iff.2 p1)) (aa ?_)
  clear bx5 bx10 o16
  refine a8 rfl (ma vn (ai 1 (ab (au (vs:=[vn,vi 1]) Try.func18 (.tmp rfl (.tmp rfl .nil)) ?_))))
  have C51:=cg [] (ch2.n.seq (ch7.n.seq (ch15.n.seq (hb18.n.seq hb21.n))))
  replace bH:=bH.ca C51
  have e0:([]:List Int)=((arR o ps).1):=by
    rw[ka λh=>p1 (dt h.1.2)]
  have e1:(1:Int)=((arR o ps).2):=by
    rw[ka λh=>p1 (dt h.1.2)]
  exact⟨(fin w0 g12 (λn=>0),vn),(bV (a:=[]) (b:=1) (λ(z0:List Int) (z1:Int)=>Ending.returned (vt [vn,vi z1])) e0 e1),bH.fresh _,(e0▸Ow.nil)⟩
 refine ae (wn (congrArg Bool.not (Bool.eq_false_iff.2 q13))) (ae (wn (congrArg Bool.not (Bool.eq_false_iff.2 q13))) (ae (wn (congrArg Bool.not (Bool.eq_false_iff.2 q13))) (lw (vb true) (aE rfl (congrArg Bool.not (Bool.eq_false_iff.2 q13)) rfl) (ab (ag rfl rfl (aa ?_))))))
 clear bx5 bx10 o16
 refine a8 rfl (ma vn (ai 1 (ab (au (vs:=[vn,vi 1]) Try.func18 (.tmp rfl (.tmp rfl .nil)) ?_))))
 have C52:=cg [] (ch2.n.seq (ch7.n.seq (ch15.n.seq hb18.n)))
 replace bH:=bH.ca C52
 have e0:([]:List Int)=((arR o ps).1):=by
   rw[ka λh=>q13 (dt (yt.2 h.1.1))]
 have e1:(1:Int)=((arR o ps).2):=by
   rw[ka λh=>q13 (dt (yt.2 h.1.1))]
 exact⟨(fin w0 g12 (λn=>0),vn),(bV (a:=[]) (b:=1) (λ(z0:List Int) (z1:Int)=>Ending.returned (vt [vn,vi z1])) e0 e1),bH.fresh _,(e0▸Ow.nil)⟩
end TL
