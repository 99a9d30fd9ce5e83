import Derived.Test.YtbadiajeohbpcaaGreatTlP3
import Derived.Test.YtbadiajeohbpcaaGreatTlGmA
import Derived.Test.YtbadiajeohbpcaaGreatTlGmV
import Derived.Test.YtbadiajeohbpcaaGreatProg
import Derived.Test.YtbadiajeohbpcaaGreatTlAli
set_option linter.all false
set_option maxRecDepth 20000
namespace TL
open Go Go.Proofs
theorem ux:Tryz.prog.follows .mixedOrders=true:=by kernel_rfl
theorem gE:Tp Tryz.prog 25 false 1 24 (.slice none 0 0):=Tp.of (by kernel_rfl)
theorem gF:Tp Tryz.prog 26 false 1 24 (.slice none 0 0):=Tp.of (by kernel_rfl)
theorem j9:Tp Tryz.prog 28 true 2 48 (.agg #[.slice none 0 0,.slice none 0 0]):=Tp.of (by kernel_rfl)
theorem nk:Tryz.f26.body.isNone=false:=rfl
theorem nI:(Tryz.f26.name== "runtime.NumGoroutine")=false:=by decide+kernel
theorem eh(w0:World)(p:(List Pt)×(List (List Pt)))(p_v p_v1:Value)(hp_v:Ro w0 p_v p.1)(hp_v1:Ro w0 p_v1 p.2)(hb1:p.1.length<=1000000)(hb2:p.2.length<=1000000)(hb3:∀l_∈p.2,l_.length<=1000000):
    Calls Tryz.prog 7 #[vg [p_v,p_v1]] w0 (λee w=>∃xx:aK×Value×Value,ee= .returned ((λ⟨δ,rv0,rv1⟩=>vg [rv0,rv1]) xx)/\(λ(⟨δ,rv0,rv1⟩:aK×Value×Value) (w:World)=>em w0 δ w/\Ow δ (is 1) (is 1) w (fS rv0) (p.1++[((-7:Int),(7:Int))])/\Ow δ (is 2) (is 2) w rv1 (kV p.2)) xx w):=by
 refine au Tryz.func7 rfl nq ?_
 have bH:=aT.start w0
 have Rp:=hp_v.sl
 have r_p_v1:=hp_v1.sl
 refine a7 (a6 rfl (bW rfl (bh c0 (is 1) (1,0) rfl rfl ?_)))
 intro g4 w1 b3 ch2 bx5
 replace bx5:Bx g4 (is 1) w1 b3 [p_v,p_v1]:=bx5
 refine lo (aS g4 (is 2) (2,0) rfl j9 ?_)
 intro g9 w6 b8 ch7 bx10
 replace bx10:Bx g9 (is 2) w6 b8 [vn,vn]:=bx10
 refine aa (a7 (a6 rfl (lx (a8 ef rfl rfl rfl rfl) ?_)))
 replace bx5:=bx5.cn ch7
 refine lx (ab gE rfl bx5 rfl) ?_
 replace Rp:=(Rp.cn ch2).cn ch7
 refine lo (bi (aA (vals:=[p_v]) Tryz.func26 nk nI rfl) (lR w6 p.1 p_v (Rp).ro (by omega)) ?_)
 rintro⟨d12,v14⟩ w11 ⟨fr13,o15⟩
 obtain⟨g16,ch17,G16⟩:=fC g9 fr13 (λn=>if n=1 then 3 else 0)
 replace o15:=o15.gl G16 3
 refine lw (vg [v14,vn]) (bw (vs:=[(0,v14)]) rfl (by rw[Sl.form (cz o15.flat)];kernel_rfl)) (lo (aS g16 (is 4) (4,0) rfl j9 ?_))
 intro g21 w18 b20 ch19 bx22
 replace bx22:Bx g21 (is 4) w18 b20 [vn,vn]:=bx22
 refine lo ?_
 replace o15:=o15.cn ch19
 refine aw (cs':=[v14,vn]) j9 rfl rfl bx22 rfl nq (AllOne.all (.cons (bu (cz o15.flat)) (.cons rfl .nil))) rfl ?_
 intro w23 ch24 bx25
 clear bx22
 refine aa (a7 (a7 (a6 rfl (ai 0 (aa (am ?_))))))
 refine aN (σ:=Value×(List Vc)×Nat×aK) (λ⟨qL_v,qL,e,gq⟩ f w=>aT w0 gq w/\f 1=vp b3 0/\f 2=vp b8 0/\f 3=vp b20 0/\f 4=vi ↑e/\Sl gq (is 0) w p_v p.1/\Sl gq (is 0) w p_v1 p.2/\Bx gq (is 1) w b3 [p_v,p_v1]/\Bx gq (is 2) w b8 [vn,vn]/\Ow gq (is 3) (is 3) w (fS v14) (p.1++[((-7:Int),(7:Int))])/\Bx gq (is 4) w b20 [v14,qL_v]/\Ow gq (is 7) (is 7) w qL_v qL/\l9 gq (is 5) w qL (kV (p.2.take e))/\(e:Int)<=((p.2.length:Int):Int)/\qL.length=e) (λ⟨qL_v,qL,e,gq⟩=>Int.toNat (((p.2.length:Int):Int)-(e:Int))) (vn,[],0,g21) ?_ ?_
 have C27:=cg [4] (ch17.n.seq (ch19.n.seq (ch24.l rfl)))
 have C26:=ch2.n.seq (ch7.n.seq C27)
 · exact⟨bH.ca C26,rfl,rfl,rfl,rfl,Rp.ca C27,r_p_v1.ca C26,bx5.ca C27,bx10.ca C27,o15.ce ch24,bx25,Ow.nil,l9.nil,by omega,rfl⟩
 clear Rp r_p_v1 bx5 bx10 o15 bx25 bH
 rintro⟨qL_v,qL,e,g30⟩ f28 w29 ⟨bH,zs1,zs2,zs3,zs4,Rp,r_p_v1,bx5,bx10,o15,bx25,o_qL,hrw,hle_e,hq⟩ back3
 have hql:qL.length<=e:=by omega
 refine a7 (a7 (a6 rfl (mz zs4 (lx (a8 ef rfl rfl zs1 rfl) (lx (ab gF rfl bx5 rfl) ?_)))))
 have len31:=(r_p_v1).small
 refine lx (aQ fg rfl r_p_v1) (lx (aZ (m:=↑e) (n:=(p.2.length:Int)) rfl rfl) (aa ?_))
 by_cases p3:(e:Int)<(p.2.length:Int)
 ·
  refine af rfl (dt p3) ?_
  have hll:=hb3 _ (bk (xs:=p.2) (i:=↑e) (by omega) ‹_›)
  refine ak (a7 (am ?_))
  refine mf (σ:=Value×(List Vc)×aK) (λ⟨v51,us9,gq⟩ f w=>aT w0 gq w/\f 1=vp b3 0/\f 2=vp b8 0/\f 3=vp b20 0/\f 4=vi ↑e/\Sl gq (is 0) w p_v p.1/\Sl gq (is 0) w p_v1 p.2/\Bx gq (is 1) w b3 [p_v,p_v1]/\Bx gq (is 2) w b8 [vn,vn]/\Ow gq (is 3) (is 3) w (fS v14) (p.1++[((-7:Int),(7:Int))])/\us9.length=e+1/\Ow gq (is 7) (is 7) w v51 us9/\l9 gq (is 5) w us9 (kV (p.2.take (e+1)))/\Bx gq (is 4) w b20 [v14,v51]) g30 [0,2,3,4,5,6,10] ux ?_ ?_
  ·
   intro mid
   intro w33 ch32
   refine xp 0 rfl (λw=>a8 ef rfl rfl zs3 rfl) (xp 2 rfl (λw=>a8 ef rfl rfl zs1 rfl) ?_)
   replace bx5:=bx5.cn ch32
   refine xh 3 [2,0,1,4] rfl (λw' hw'=>ab gF rfl (bx5.bel hw') rfl) (xp (v:=vi ↑e) 4 rfl (λw=>aq zs4) ?_)
   replace r_p_v1:=r_p_v1.cn ch32
   refine xh 5 [4,3,2,0,1] rfl (λw' hw'=>ad (v:=p_v1) (i:=↑e) fg rfl rfl (r_p_v1.bel hw') rfl (by omega) (by omega)) ?_
   obtain⟨v34,cel35,r36⟩:=cA (r:=(e:Int)) r_p_v1 (by omega) (by omega)
   refine xh 6 [5,4,3,2,0,1] rfl (λw' hw'=>ba gE rfl (e7 cel35 hw')) ?_
   refine rX 1 7 rfl rfl (by kernel_rfl) rfl rfl ?_ ?_
   ·
    replace bx25:=bx25.cn ch32
    refine bC (v:=qL_v) (ab gF rfl bx25 rfl) (ct 7 rfl (by kernel_rfl) rfl (bi (aA (vals:=[v34]) Tryz.func26 nk nI rfl) (lR w33 (gI p.2 ↑e) v34 (r36).ro (by omega)) ?_))
    rintro⟨d38,v40⟩ w37 ⟨fr39,o41⟩
    obtain⟨g42,ch43,G42⟩:=fC g30 fr39 (λn=>if n=1 then 5 else 0)
    replace o41:=o41.gl G42 5
    refine ct 8 rfl (by kernel_rfl) rfl ?_
    obtain⟨c44,hv45⟩:=mC (u:=v40) (bu (cz o41.flat))
    refine aG (α:=Vc) g42 (is 6) (is 6) (6,0) rfl [c44] fg gE (by decide) (by decide) (vs:=[(0,v40)]) rfl rfl (.cons (iC hv45 (bK (cz o41.flat))) .nil) ?_
    intro g46 w47 v48 ch49 o50
    refine ct 9 rfl (by kernel_rfl) rfl ?_
    have C51:=cg [] (ch32.n.seq (ch43.n.seq ch49.n))
    replace o_qL:=o_qL.ca C51
    replace o41:=o41.cn ch49
    refine aV (α:=Vc) (xs:=qL) (ys:=[c44]) g46 (J:=is 7) (S:=is 7) (7,0) rfl fg gE (by decide) rfl rfl rfl o_qL o50.flat (by decide) (by simp;omega) ?_
    intro g52 w53 v54 ch55 o56
    clear o_qL
    refine xp 10 rfl (λw=>a8 ef rfl rfl zs3 rfl) (ct 11 rfl (by kernel_rfl) rfl ?_)
    have C61:=cg [7] (ch43.n.seq (ch49.n.seq (ch55.l rfl)))
    replace bx25:=bx25.ca C61
    refine bQ (cs':=[v14,v54]) gF rfl rfl bx25 (bK o56.flat) nq (bu o56.flat) rfl ?_
    intro w58 ch59 bx60
    clear bx25
    refine ec (by kernel_rfl) ?_
    have C63:=cg [4,7] (ch43.n.seq (ch49.n.seq ((ch55.l rfl).seq (ch59.l rfl))))
    have C62:=ch32.n.seq C63
    replace bH:=bH.ca C62
    replace Rp:=Rp.ca C62
    replace r_p_v1:=r_p_v1.ca C63
    replace bx5:=bx5.ca C63
    replace bx10:=bx10.ca C62
    replace o15:=o15.ca C62
    replace o56:=o56.ce ch59
    have hrw9:=(hrw.ca C62).snoc (c:=c44) (x:=⟨gI p.2 ↑e,((-7:Int),(7:Int))⟩) (by rw[hv45];exact(o41.flat.ce ch55).ce ch59)
    rw[<-lH p3] at hrw9
    exact mid (v54,qL++[c44],g52) _ _ ⟨bH,zs1,zs2,zs3,zs4,Rp,r_p_v1,bx5,bx10,o15,by simp;omega,o56,hrw9,bx60⟩
   ·
    refine bi (aA (vals:=[v34]) Tryz.func26 nk nI rfl) (lR w33 (gI p.2 ↑e) v34 (r36).ro (by omega)) ?_
    rintro⟨d65,v67⟩ w64 ⟨fr66,o68⟩
    obtain⟨g69,ch70,G69⟩:=fC g30 fr66 (λn=>if n=1 then 5 else 0)
    replace o68:=o68.gl G69 5
    refine rX 1 8 rfl rfl (by kernel_rfl) rfl rfl ?_ ?_
    ·
     replace bx25:=(bx25.cn ch32).cn ch70
     refine bC (v:=qL_v) (ab gF rfl bx25 rfl) (ct 8 rfl (by kernel_rfl) rfl ?_)
     obtain⟨c71,hv72⟩:=mC (u:=v67) (bu (cz o68.flat))
     refine aG (α:=Vc) g69 (is 6) (is 6) (6,0) rfl [c71] fg gE (by decide) (by decide) (vs:=[(0,v67)]) rfl rfl (.cons (iC hv72 (bK (cz o68.flat))) .nil) ?_
     intro g73 w74 v75 ch76 o77
     refine ct 9 rfl (by kernel_rfl) rfl ?_
     have C78:=cg [] (ch32.n.seq (ch70.n.seq ch76.n))
     replace o_qL:=o_qL.ca C78
     replace o68:=o68.cn ch76
     refine aV (α:=Vc) (xs:=qL) (ys:=[c71]) g73 (J:=is 7) (S:=is 7) (7,0) rfl fg gE (by decide) rfl rfl rfl o_qL o77.flat (by decide) (by simp;omega) ?_
     intro g79 w80 v81 ch82 o83
     clear o_qL
     refine xp 10 rfl (λw=>a8 ef rfl rfl zs3 rfl) (ct 11 rfl (by kernel_rfl) rfl ?_)
     replace bx25:=(bx25.cn ch76).ce ch82
     refine bQ (cs':=[v14,v81]) gF rfl rfl bx25 (bK o83.flat) nq (bu o83.flat) rfl ?_
     intro w85 ch86 bx87
     clear bx25
     refine ec (by kernel_rfl) ?_
     have C89:=cg [4,7] (ch70.n.seq (ch76.n.seq ((ch82.l rfl).seq (ch86.l rfl))))
     have C88:=ch32.n.seq C89
     replace bH:=bH.ca C88
     replace Rp:=Rp.ca C88
     replace r_p_v1:=r_p_v1.ca C89
     replace bx5:=bx5.ca C89
     replace bx10:=bx10.ca C88
     replace o15:=o15.ca C88
     replace o83:=o83.ce ch86
     have hrw9:=(hrw.ca C88).snoc (c:=c71) (x:=⟨gI p.2 ↑e,((-7:Int),(7:Int))⟩) (by rw[hv72];exact(o68.flat.ce ch82).ce ch86)
     rw[<-lH p3] at hrw9
     exact mid (v81,qL++[c71],g79) _ _ ⟨bH,zs1,zs2,zs3,zs4,Rp,r_p_v1,bx5,bx10,o15,by simp;omega,o83,hrw9,bx87⟩
    ·
     obtain⟨c90,hv91⟩:=mC (u:=v67) (bu (cz o68.flat))
     refine aG (α:=Vc) g69 (is 6) (is 6) (6,0) rfl [c90] fg gE (by decide) (by decide) (vs:=[(0,v67)]) rfl rfl (.cons (iC hv91 (bK (cz o68.flat))) .nil) ?_
     intro g92 w93 v94 ch95 o96
     have C97:=cg [] (ch32.n.seq (ch70.n.seq ch95.n))
     replace bx25:=bx25.ca C97
     refine ct 1 rfl (by kernel_rfl) rfl (bC (v:=qL_v) (ab gF rfl bx25 rfl) (ct 9 rfl (by kernel_rfl) rfl ?_))
     replace o_qL:=o_qL.ca C97
     replace o68:=o68.cn ch95
     refine aV (α:=Vc) (xs:=qL) (ys:=[c90]) g92 (J:=is 7) (S:=is 7) (7,0) rfl fg gE (by decide) rfl rfl rfl o_qL o96.flat (by decide) (by simp;omega) ?_
     intro g98 w99 v100 ch101 o102
     clear o_qL
     refine xp 10 rfl (λw=>a8 ef rfl rfl zs3 rfl) (ct 11 rfl (by kernel_rfl) rfl ?_)
     replace bx25:=bx25.ce ch101
     refine bQ (cs':=[v14,v100]) gF rfl rfl bx25 (bK o102.flat) nq (bu o102.flat) rfl ?_
     intro w104 ch105 bx106
     clear bx25
     refine ec (by kernel_rfl) ?_
     have C108:=cg [4,7] (ch70.n.seq (ch95.n.seq ((ch101.l rfl).seq (ch105.l rfl))))
     have C107:=ch32.n.seq C108
     replace bH:=bH.ca C107
     replace Rp:=Rp.ca C107
     replace r_p_v1:=r_p_v1.ca C108
     replace bx5:=bx5.ca C108
     replace bx10:=bx10.ca C107
     replace o15:=o15.ca C107
     replace o102:=o102.ce ch105
     have hrw9:=(hrw.ca C107).snoc (c:=c90) (x:=⟨gI p.2 ↑e,((-7:Int),(7:Int))⟩) (by rw[hv91];exact(o68.flat.ce ch101).ce ch105)
     rw[<-lH p3] at hrw9
     exact mid (v100,qL++[c90],g98) _ _ ⟨bH,zs1,zs2,zs3,zs4,Rp,r_p_v1,bx5,bx10,o15,by simp;omega,o102,hrw9,bx106⟩
  clear Rp r_p_v1 bx5 bx10 o15 bx25 hrw o_qL bH
  rintro⟨v51,us9,g111⟩ f109 w110 ⟨bH,zs1,zs2,zs3,zs4,Rp,r_p_v1,bx5,bx10,o15,hul9,o53,hrw9,bx57⟩
  refine al (a6 rfl (mz zs4 (lx (aM (m:=↑e) (n:=1) rfl rfl (by omega)) (ai ((e:Int)+1) (aa (back3 (v51,us9,e+1,g111) _ _ ⟨bH,zs1,zs2,zs3,rfl,Rp,r_p_v1,bx5,bx10,o15,bx57,o53,hrw9,by omega,hul9⟩ ?_))))))
  · show Int.toNat (((p.2.length:Int):Int)-((e+1):Int))<Int.toNat (((p.2.length:Int):Int)-(e:Int))
    omega
 refine ag rfl (df p3) (aJ rfl (a7 ?_))
 clear bx5
 refine a6 rfl (lx (aj (ds:=[v14,qL_v]) j9 zs3 bx25 rfl rfl) (lo (aw (cs':=[v14,qL_v]) j9 zs2 rfl bx10 rfl nq (AllOne.all (.cons (bu (cz o15.flat)) (.cons (bu o_qL.flat) .nil))) rfl ?_)))
 intro w112 ch113 bx114
 clear bx10
 refine aa (ar (vs:=[vg [v14,qL_v]]) Tryz.func7 (.cell zs2 (cB (ds:=[v14,qL_v]) j9 bx114 rfl rfl) .nil) ?_)
 replace bH:=bH.ce ch113
 replace o15:=o15.ce ch113
 replace hrw:=hrw.ce ch113
 replace o_qL:=o_qL.ce ch113
 have hee:e=p.2.length:=by omega
 rw[hee,List.take_length] at hrw
 have hg:∀b,is 5 (g30 b)->is 2 (fin w0 g30 (λn=>if n=3 then 1 else if n=5 then 2 else if n=7 then 2 else 0) b):=λb h=>l8 (γ:=c0) (ren:=(λn=>if n=3 then 1 else if n=5 then 2 else if n=7 then 2 else 0)) (i:=5) (k:=2) bH.col rfl rfl b h
 exact⟨(fin w0 g30 (λn=>if n=3 then 1 else if n=5 then 2 else if n=7 then 2 else 0),v14,qL_v),rfl,bH.fresh _,o15.glue (γ:=c0) (ren:=(λn=>if n=3 then 1 else if n=5 then 2 else if n=7 then 2 else 0)) (k:=1) bH.col rfl rfl,Ah (us:=qL) (S0:=is 2) (o_qL.glue (γ:=c0) (ren:=(λn=>if n=3 then 1 else if n=5 then 2 else if n=7 then 2 else 0)) (k:=2) bH.col rfl rfl) (hrw.recol hg)⟩
end TL
