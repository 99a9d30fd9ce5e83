import Derived.Test.YtfpckpgnnplhnaaGreatSkTlGenA
import Derived.Test.YtfpckpgnnplhnaaGreatSkTlAli
set_option linter.all false
set_option maxRecDepth 20000
namespace TL
open Go Go.Proofs
theorem tK:Tryz.prog.follows .mixedOrders=true:=by kernel_rfl
theorem iS:Tp Tryz.prog 38 false 1 24 (.slice none 0 0):=Tp.of (by kernel_rfl)
theorem fg:Tp Tryz.prog 39 false 1 24 (.slice none 0 0):=Tp.of (by kernel_rfl)
theorem bT:Tp Tryz.prog 41 true 3 56 (.agg #[.int .i64 0,.slice none 0 0,.slice none 0 0]):=Tp.of (by kernel_rfl)
theorem dC:Tp Tryz.prog 57 true 4 32 (.agg #[.int .i64 0,.int .i64 0,.int .i64 0,.int .i64 0]):=Tp.of (by kernel_rfl)
theorem uv(w0:World)(l:List ((Int)×(List Int)×(List Bd)))(l_v:Value)(hl_v:Ro w0 l_v l)(hl:(l.length:Int)<=60)(hpe:∀p∈l,(p.2.1.length:Int)<=1048576/\(p.2.2.length:Int)<=1048576):
    Calls Tryz.prog 13 #[l_v] w0 (λee w=>∃xx:aw×Value,ee= .returned ((λ⟨δ,rv0⟩=>rv0) xx)/\(λ(⟨δ,rv0⟩:aw×Value) (w:World)=>dU w0 δ w/\iB δ 1 w rv0 l) xx w):=by
 refine ap Tryz.func13 rfl nq ?_
 have bH:=b6.start w0
 have Rl:=hl_v.sl
 refine a7 (a6 rfl (ma vn (ab (a7 (a6 rfl (ma vn (ab (a7 (a7 (a6 rfl (ai 0 (ab (am ?_)))))))))))))
 refine aV (σ:=Value×(List ((Int)×(List Int)×(List Bd)))×Nat×aw) (λ⟨out_v,out,k,gq⟩ f w=>b6 w0 gq w/\f 0=l_v/\f 3=out_v/\f 4=vi ↑k/\Sl gq (is 0) w l_v l/\iB gq 4 w out_v out/\(k:Int)<=((l.length:Int):Int)/\(out=l.take k)) (λ⟨out_v,out,k,gq⟩=>Int.toNat (((l.length:Int):Int)-(k:Int))) (vn,[],0,c0) ?_ ?_
 · exact⟨bH,rfl,rfl,rfl,Rl,iB.nil,by omega,by rfl⟩
 clear Rl bH
 rintro⟨out_v,out,k,g3⟩ f1 w2 ⟨bH,zs0,zs3,zs4,Rl,o_out,hle_k,ho⟩ back3
 have hol:out.length<=k:=by rw[ho,List.length_take];omega
 refine a7 (a7 (a6 rfl (mz zs4 (mz zs0 ?_))))
 have len4:=(Rl).small
 refine lx (bp eb rfl Rl) (lx (bw (m:=↑k) (n:=(l.length:Int)) rfl rfl) (ab ?_))
 by_cases p3:(k:Int)<(l.length:Int)
 ·
  refine af rfl (dt p3) ?_
  obtain⟨hp1,hp2⟩:=hpe (gI l ↑k) (bC (by omega) ‹_›)
  refine ao (a7 (am ?_))
  refine dy (σ:=Value×aw) (λ⟨v50,gq⟩ f w=>b6 w0 gq w/\f 0=l_v/\f 3=v50/\f 4=vi ↑k/\Sl gq (is 0) w l_v l/\iB gq 4 w v50 (out++[(((gI l ↑k).1),(gI l ↑k).2.1,(gI l ↑k).2.2)])) g3 (inl [1,2,4]) tK ?_ ?_
  ·
   intro mid
   intro w6 ch5
   refine ht (v:=out_v) 0 rfl (aU.refl _ _ _) (λw' hw'=>aq zs3) (ht (v:=l_v) 1 rfl (aU.refl _ _ _) (λw' hw'=>aq zs0) (ht (v:=vi ↑k) 2 rfl (aU.refl _ _ _) (λw' hw'=>aq zs4) (ht (v:=l_v) 6 rfl (aU.refl _ _ _) (λw' hw'=>aq zs0) (ht (v:=vi ↑k) 7 rfl (aU.refl _ _ _) (λw' hw'=>aq zs4) (ht (v:=l_v) 12 rfl (aU.refl _ _ _) (λw' hw'=>aq zs0) (ht (v:=vi ↑k) 13 rfl (aU.refl _ _ _) (λw' hw'=>aq zs4) ?_))))))
   refine bO 3 [8,14] (by kernel_rfl) ⟨bL 3 rfl (by kernel_rfl) rfl ?_,bL 8 rfl (by kernel_rfl) rfl ?_,bL 14 rfl (by kernel_rfl) rfl ?_,trivial⟩
   ·
    replace Rl:=Rl.cn ch5
    refine aj (v:=Value.pointer (some (aB l_v 3 (Int.toNat ↑k)))) (ad (α:=(Int)×(List Int)×(List Bd)) (xs:=l) (v:=l_v) (i:=↑k) eb rfl rfl Rl rfl (by omega) (by omega)) ?_
    refine⟨(aU.refl _ _ _),?_⟩
    refine ht (v:=Value.pointer (some ⟨(aB l_v 3 (Int.toNat ↑k)).block,(aB l_v 3 (Int.toNat ↑k)).off+0,none⟩)) 4 rfl (aU.refl _ _ _) (λw' hw'=>aI fK rfl rfl rfl rfl) ?_
    obtain⟨v7,v8,ce9,⟨r10,r11⟩⟩:=cD (r:=(k:Int)) Rl (by omega) (by omega)
    refine ht (v:=vi ((gI l ↑k).1)) 5 rfl (aU.refl _ _ _) (λw' hw'=>bg (n:=(Int.toNat ↑k)) ah rfl (ce9 _ w' (bI rfl) hw') (by decide) rfl) ?_
    refine bO 8 [14] (by kernel_rfl) ⟨bL 8 rfl (by kernel_rfl) rfl ?_,bL 14 rfl (by kernel_rfl) rfl ?_,trivial⟩
    ·
     refine aj (v:=Value.pointer (some (aB l_v 3 (Int.toNat ↑k)))) (ad (α:=(Int)×(List Int)×(List Bd)) (xs:=l) (v:=l_v) (i:=↑k) eb rfl rfl Rl rfl (by omega) (by omega)) ?_
     refine⟨(aU.refl _ _ _),?_⟩
     refine ht (v:=Value.pointer (some ⟨(aB l_v 3 (Int.toNat ↑k)).block,(aB l_v 3 (Int.toNat ↑k)).off+1,none⟩)) 9 rfl (aU.refl _ _ _) (λw' hw'=>aI fK rfl rfl rfl rfl) ?_
     obtain⟨v13,v14,ce15,⟨r16,r17⟩⟩:=cD (r:=(k:Int)) Rl (by omega) (by omega)
     refine ht (v:=v13) 10 rfl (aU.refl _ _ _) (λw' hw'=>bg (n:=(Int.toNat ↑k)) iS rfl (ce15 _ w' (bI rfl) hw') (by decide) rfl) ?_
     refine bO 11 [14] (by kernel_rfl) ⟨bL 11 rfl (by kernel_rfl) rfl ?_,bL 14 rfl (by kernel_rfl) rfl ?_,trivial⟩
     ·
      refine aK (α:=Int) (xs:=([])) (ys:=((gI l ↑k).2.1)) g3 (J:=is 1) (S:=is 1) (1,0) rfl bF ah (by decide) rfl rfl rfl Ow.nil r16 (by decide) (by(simp;omega)) ?_
      intro g19 w20 v21 ch22 o23
      have hs24:aU (inl [1,2,4]) _ _ _ _:=ch22.l rfl
      refine⟨hs24.same,?_⟩
      refine az 14 rfl (by kernel_rfl) rfl (aj (v:=Value.pointer (some (aB l_v 3 (Int.toNat ↑k)))) (ad (α:=(Int)×(List Int)×(List Bd)) (xs:=l) (v:=l_v) (i:=↑k) eb rfl rfl (Rl.ca hs24) rfl (by omega) (by omega)) ?_)
      refine⟨hs24.same,?_⟩
      refine ht (v:=Value.pointer (some ⟨(aB l_v 3 (Int.toNat ↑k)).block,(aB l_v 3 (Int.toNat ↑k)).off+2,none⟩)) 15 rfl hs24.same (λw' hw'=>aI fK rfl rfl rfl rfl) ?_
      obtain⟨v25,v26,ce27,⟨r28,r29⟩⟩:=cD (r:=(k:Int)) Rl (by omega) (by omega)
      refine ht (v:=v26) 16 rfl hs24.same (λw' hw'=>bg (n:=(Int.toNat ↑k)) fg rfl (ce27 _ w' (bI rfl) hw') (by decide) rfl) (az 17 rfl (by kernel_rfl) rfl (aK (α:=Bd) (xs:=([])) (ys:=((gI l ↑k).2.2)) g19 (J:=is 2) (S:=is 2) (2,0) rfl jr dC (by decide) rfl rfl rfl Ow.nil (r29.ca hs24) (by decide) (by(simp;omega)) ?_))
      intro g31 w32 v33 ch34 o35
      have hs36:=hs24.seq (ch34.l rfl)
      refine⟨hs36.same,?_⟩
      refine ht (v:=vg [vi ((gI l ↑k).1),v21,v33]) 18 rfl hs36.same (λw' hw'=>bh (vs:=[(0,vi ((gI l ↑k).1)),(1,v21),(2,v33)]) rfl (by rw[Sl.form o23.flat,Sl.form o35.flat];kernel_rfl)) (az 19 rfl (by kernel_rfl) rfl ?_)
      replace o23:=o23.ce ch34
      obtain⟨c37,hv38⟩:=dc (u:=v21) (aG o23.flat)
      obtain⟨c39,hv40⟩:=dc (u:=v33) (aG o35.flat)
      refine ar (α:=Int×Vc×Vc) g31 (is 3) (is 3) (3,0) rfl [(((gI l ↑k).1),c37,c39)] eb bT (by decide) (by decide) (vs:=[(0,vg [vi ((gI l ↑k).1),v21,v33])]) rfl rfl (.cons (by rw[<-hv38,<-hv40];rfl) .nil) ?_
      intro g41 w42 v43 ch44 o45
      have hs46:=hs36.seq (ch44.n)
      refine⟨hs46.same,?_⟩
      refine az 20 rfl (by kernel_rfl) rfl ?_
      have C47:=cg [1,2] (ch5.n.seq ((ch22.l rfl).seq ((ch34.l rfl).seq ch44.n)))
      replace o_out:=o_out.ca C47
      replace o23:=o23.cn ch44
      replace o35:=o35.cn ch44
      refine ch hv38 hv40 (xs:=out) (k:=4) (γ:=g41) eb bT rfl rfl rfl o_out (o45.flat) o23 o35 rfl rfl (by decide) (by omega) ?_
      intro g48 w49 v50 ch51 o52
      replace ch51:=ch51.ll (L':=[1,2,4]) rfl
      clear o_out o23 o35
      have hs53:=hs46.seq (ch51.ll rfl)
      refine⟨hs53.same,?_⟩
      refine ht (v:=v50) 21 rfl hs53.same (λw' hw'=>bm rfl) (bP (by kernel_rfl) ?_)
      have C54:=cg [1,2,4] (ch5.n.seq ((ch22.l rfl).seq ((ch34.l rfl).seq (ch44.n.seq (ch51.ll rfl)))))
      exact mid (v50,g48) _ _ ⟨bH.ca C54,zs0,rfl,zs4,(Rl.ca hs53),o52⟩
     ·
      refine aj (v:=Value.pointer (some (aB l_v 3 (Int.toNat ↑k)))) (ad (α:=(Int)×(List Int)×(List Bd)) (xs:=l) (v:=l_v) (i:=↑k) eb rfl rfl Rl rfl (by omega) (by omega)) ?_
      refine⟨(aU.refl _ _ _),?_⟩
      refine ht (v:=Value.pointer (some ⟨(aB l_v 3 (Int.toNat ↑k)).block,(aB l_v 3 (Int.toNat ↑k)).off+2,none⟩)) 15 rfl (aU.refl _ _ _) (λw' hw'=>aI fK rfl rfl rfl rfl) ?_
      obtain⟨v55,v56,ce57,⟨r58,r59⟩⟩:=cD (r:=(k:Int)) Rl (by omega) (by omega)
      refine ht (v:=v56) 16 rfl (aU.refl _ _ _) (λw' hw'=>bg (n:=(Int.toNat ↑k)) fg rfl (ce57 _ w' (bI rfl) hw') (by decide) rfl) (az 11 rfl (by kernel_rfl) rfl (aK (α:=Int) (xs:=([])) (ys:=((gI l ↑k).2.1)) g3 (J:=is 1) (S:=is 1) (1,0) rfl bF ah (by decide) rfl rfl rfl Ow.nil r16 (by decide) (by(simp;omega)) ?_))
      intro g61 w62 v63 ch64 o65
      have hs66:aU (inl [1,2,4]) _ _ _ _:=ch64.l rfl
      refine⟨hs66.same,?_⟩
      refine az 17 rfl (by kernel_rfl) rfl (aK (α:=Bd) (xs:=([])) (ys:=((gI l ↑k).2.2)) g61 (J:=is 2) (S:=is 2) (2,0) rfl jr dC (by decide) rfl rfl rfl Ow.nil (r59.ca hs66) (by decide) (by(simp;omega)) ?_)
      intro g67 w68 v69 ch70 o71
      have hs72:=hs66.seq (ch70.l rfl)
      refine⟨hs72.same,?_⟩
      refine ht (v:=vg [vi ((gI l ↑k).1),v63,v69]) 18 rfl hs72.same (λw' hw'=>bh (vs:=[(0,vi ((gI l ↑k).1)),(1,v63),(2,v69)]) rfl (by rw[Sl.form o65.flat,Sl.form o71.flat];kernel_rfl)) (az 19 rfl (by kernel_rfl) rfl ?_)
      replace o65:=o65.ce ch70
      obtain⟨c73,hv74⟩:=dc (u:=v63) (aG o65.flat)
      obtain⟨c75,hv76⟩:=dc (u:=v69) (aG o71.flat)
      refine ar (α:=Int×Vc×Vc) g67 (is 3) (is 3) (3,0) rfl [(((gI l ↑k).1),c73,c75)] eb bT (by decide) (by decide) (vs:=[(0,vg [vi ((gI l ↑k).1),v63,v69])]) rfl rfl (.cons (by rw[<-hv74,<-hv76];rfl) .nil) ?_
      intro g77 w78 v79 ch80 o81
      have hs82:=hs72.seq (ch80.n)
      refine⟨hs82.same,?_⟩
      refine az 20 rfl (by kernel_rfl) rfl ?_
      have C83:=cg [1,2] (ch5.n.seq ((ch64.l rfl).seq ((ch70.l rfl).seq ch80.n)))
      replace o_out:=o_out.ca C83
      replace o65:=o65.cn ch80
      replace o71:=o71.cn ch80
      refine ch hv74 hv76 (xs:=out) (k:=4) (γ:=g77) eb bT rfl rfl rfl o_out (o81.flat) o65 o71 rfl rfl (by decide) (by omega) ?_
      intro g84 w85 v86 ch87 o88
      replace ch87:=ch87.ll (L':=[1,2,4]) rfl
      clear o_out o65 o71
      have hs89:=hs82.seq (ch87.ll rfl)
      refine⟨hs89.same,?_⟩
      refine ht (v:=v86) 21 rfl hs89.same (λw' hw'=>bm rfl) (bP (by kernel_rfl) ?_)
      have C90:=cg [1,2,4] (ch5.n.seq ((ch64.l rfl).seq ((ch70.l rfl).seq (ch80.n.seq (ch87.ll rfl)))))
      exact mid (v86,g84) _ _ ⟨bH.ca C90,zs0,rfl,zs4,(Rl.ca hs89),o88⟩
    ·
     refine aj (v:=Value.pointer (some (aB l_v 3 (Int.toNat ↑k)))) (ad (α:=(Int)×(List Int)×(List Bd)) (xs:=l) (v:=l_v) (i:=↑k) eb rfl rfl Rl rfl (by omega) (by omega)) ?_
     refine⟨(aU.refl _ _ _),?_⟩
     refine ht (v:=Value.pointer (some ⟨(aB l_v 3 (Int.toNat ↑k)).block,(aB l_v 3 (Int.toNat ↑k)).off+2,none⟩)) 15 rfl (aU.refl _ _ _) (λw' hw'=>aI fK rfl rfl rfl rfl) ?_
     obtain⟨v91,v92,ce93,⟨r94,r95⟩⟩:=cD (r:=(k:Int)) Rl (by omega) (by omega)
     refine ht (v:=v92) 16 rfl (aU.refl _ _ _) (λw' hw'=>bg (n:=(Int.toNat ↑k)) fg rfl (ce93 _ w' (bI rfl) hw') (by decide) rfl) (az 8 rfl (by kernel_rfl) rfl (aj (v:=Value.pointer (some (aB l_v 3 (Int.toNat ↑k)))) (ad (α:=(Int)×(List Int)×(List Bd)) (xs:=l) (v:=l_v) (i:=↑k) eb rfl rfl Rl rfl (by omega) (by omega)) ?_))
     refine⟨(aU.refl _ _ _),?_⟩
     refine ht (v:=Value.pointer (some ⟨(aB l_v 3 (Int.toNat ↑k)).block,(aB l_v 3 (Int.toNat ↑k)).off+1,none⟩)) 9 rfl (aU.refl _ _ _) (λw' hw'=>aI fK rfl rfl rfl rfl) ?_
     obtain⟨v97,v98,ce99,⟨r100,r101⟩⟩:=cD (r:=(k:Int)) Rl (by omega) (by omega)
     refine ht (v:=v97) 10 rfl (aU.refl _ _ _) (λw' hw'=>bg (n:=(Int.toNat ↑k)) iS rfl (ce99 _ w' (bI rfl) hw') (by decide) rfl) (az 11 rfl (by kernel_rfl) rfl (aK (α:=Int) (xs:=([])) (ys:=((gI l ↑k).2.1)) g3 (J:=is 1) (S:=is 1) (1,0) rfl bF ah (by decide) rfl rfl rfl Ow.nil r100 (by decide) (by(simp;omega)) ?_))
     intro g103 w104 v105 ch106 o107
     have hs108:aU (inl [1,2,4]) _ _ _ _:=ch106.l rfl
     refine⟨hs108.same,?_⟩
     refine az 17 rfl (by kernel_rfl) rfl (aK (α:=Bd) (xs:=([])) (ys:=((gI l ↑k).2.2)) g103 (J:=is 2) (S:=is 2) (2,0) rfl jr dC (by decide) rfl rfl rfl Ow.nil (r95.ca hs108) (by decide) (by(simp;omega)) ?_)
     intro g109 w110 v111 ch112 o113
     have hs114:=hs108.seq (ch112.l rfl)
     refine⟨hs114.same,?_⟩
     refine ht (v:=vg [vi ((gI l ↑k).1),v105,v111]) 18 rfl hs114.same (λw' hw'=>bh (vs:=[(0,vi ((gI l ↑k).1)),(1,v105),(2,v111)]) rfl (by rw[Sl.form o107.flat,Sl.form o113.flat];kernel_rfl)) (az 19 rfl (by kernel_rfl) rfl ?_)
     replace o107:=o107.ce ch112
     obtain⟨c115,hv116⟩:=dc (u:=v105) (aG o107.flat)
     obtain⟨c117,hv118⟩:=dc (u:=v111) (aG o113.flat)
     refine ar (α:=Int×Vc×Vc) g109 (is 3) (is 3) (3,0) rfl [(((gI l ↑k).1),c115,c117)] eb bT (by decide) (by decide) (vs:=[(0,vg [vi ((gI l ↑k).1),v105,v111])]) rfl rfl (.cons (by rw[<-hv116,<-hv118];rfl) .nil) ?_
     intro g119 w120 v121 ch122 o123
     have hs124:=hs114.seq (ch122.n)
     refine⟨hs124.same,?_⟩
     refine az 20 rfl (by kernel_rfl) rfl ?_
     have C125:=cg [1,2] (ch5.n.seq ((ch106.l rfl).seq ((ch112.l rfl).seq ch122.n)))
     replace o_out:=o_out.ca C125
     replace o107:=o107.cn ch122
     replace o113:=o113.cn ch122
     refine ch hv116 hv118 (xs:=out) (k:=4) (γ:=g119) eb bT rfl rfl rfl o_out (o123.flat) o107 o113 rfl rfl (by decide) (by omega) ?_
     intro g126 w127 v128 ch129 o130
     replace ch129:=ch129.ll (L':=[1,2,4]) rfl
     clear o_out o107 o113
     have hs131:=hs124.seq (ch129.ll rfl)
     refine⟨hs131.same,?_⟩
     refine ht (v:=v128) 21 rfl hs131.same (λw' hw'=>bm rfl) (bP (by kernel_rfl) ?_)
     have C132:=cg [1,2,4] (ch5.n.seq ((ch106.l rfl).seq ((ch112.l rfl).seq (ch122.n.seq (ch129.ll rfl)))))
     exact mid (v128,g126) _ _ ⟨bH.ca C132,zs0,rfl,zs4,(Rl.ca hs131),o130⟩
   ·
    replace Rl:=Rl.cn ch5
    refine aj (v:=Value.pointer (some (aB l_v 3 (Int.toNat ↑k)))) (ad (α:=(Int)×(List Int)×(List Bd)) (xs:=l) (v:=l_v) (i:=↑k) eb rfl rfl Rl rfl (by omega) (by omega)) ?_
    refine⟨(aU.refl _ _ _),?_⟩
    refine ht (v:=Value.pointer (some ⟨(aB l_v 3 (Int.toNat ↑k)).block,(aB l_v 3 (Int.toNat ↑k)).off+1,none⟩)) 9 rfl (aU.refl _ _ _) (λw' hw'=>aI fK rfl rfl rfl rfl) ?_
    obtain⟨v133,v134,ce135,⟨r136,r137⟩⟩:=cD (r:=(k:Int)) Rl (by omega) (by omega)
    refine ht (v:=v133) 10 rfl (aU.refl _ _ _) (λw' hw'=>bg (n:=(Int.toNat ↑k)) iS rfl (ce135 _ w' (bI rfl) hw') (by decide) rfl) ?_
    refine bO 3 [11,14] (by kernel_rfl) ⟨bL 3 rfl (by kernel_rfl) rfl ?_,bL 11 rfl (by kernel_rfl) rfl ?_,bL 14 rfl (by kernel_rfl) rfl ?_,trivial⟩
    ·
     refine aj (v:=Value.pointer (some (aB l_v 3 (Int.toNat ↑k)))) (ad (α:=(Int)×(List Int)×(List Bd)) (xs:=l) (v:=l_v) (i:=↑k) eb rfl rfl Rl rfl (by omega) (by omega)) ?_
     refine⟨(aU.refl _ _ _),?_⟩
     refine ht (v:=Value.pointer (some ⟨(aB l_v 3 (Int.toNat ↑k)).block,(aB l_v 3 (Int.toNat ↑k)).off+0,none⟩)) 4 rfl (aU.refl _ _ _) (λw' hw'=>aI fK rfl rfl rfl rfl) ?_
     obtain⟨v139,v140,ce141,⟨r142,r143⟩⟩:=cD (r:=(k:Int)) Rl (by omega) (by omega)
     refine ht (v:=vi ((gI l ↑k).1)) 5 rfl (aU.refl _ _ _) (λw' hw'=>bg (n:=(Int.toNat ↑k)) ah rfl (ce141 _ w' (bI rfl) hw') (by decide) rfl) ?_
     refine bO 11 [14] (by kernel_rfl) ⟨bL 11 rfl (by kernel_rfl) rfl ?_,bL 14 rfl (by kernel_rfl) rfl ?_,trivial⟩
     ·
      refine aK (α:=Int) (xs:=([])) (ys:=((gI l ↑k).2.1)) g3 (J:=is 1) (S:=is 1) (1,0) rfl bF ah (by decide) rfl rfl rfl Ow.nil r136 (by decide) (by(simp;omega)) ?_
      intro g145 w146 v147 ch148 o149
      have hs150:aU (inl [1,2,4]) _ _ _ _:=ch148.l rfl
      refine⟨hs150.same,?_⟩
      refine az 14 rfl (by kernel_rfl) rfl (aj (v:=Value.pointer (some (aB l_v 3 (Int.toNat ↑k)))) (ad (α:=(Int)×(List Int)×(List Bd)) (xs:=l) (v:=l_v) (i:=↑k) eb rfl rfl (Rl.ca hs150) rfl (by omega) (by omega)) ?_)
      refine⟨hs150.same,?_⟩
      refine ht (v:=Value.pointer (some ⟨(aB l_v 3 (Int.toNat ↑k)).block,(aB l_v 3 (Int.toNat ↑k)).off+2,none⟩)) 15 rfl hs150.same (λw' hw'=>aI fK rfl rfl rfl rfl) ?_
      obtain⟨v151,v152,ce153,⟨r154,r155⟩⟩:=cD (r:=(k:Int)) Rl (by omega) (by omega)
      refine ht (v:=v152) 16 rfl hs150.same (λw' hw'=>bg (n:=(Int.toNat ↑k)) fg rfl (ce153 _ w' (bI rfl) hw') (by decide) rfl) (az 17 rfl (by kernel_rfl) rfl (aK (α:=Bd) (xs:=([])) (ys:=((gI l ↑k).2.2)) g145 (J:=is 2) (S:=is 2) (2,0) rfl jr dC (by decide) rfl rfl rfl Ow.nil (r155.ca hs150) (by decide) (by(simp;omega)) ?_))
      intro g157 w158 v159 ch160 o161
      have hs162:=hs150.seq (ch160.l rfl)
      refine⟨hs162.same,?_⟩
      refine ht (v:=vg [vi ((gI l ↑k).1),v147,v159]) 18 rfl hs162.same (λw' hw'=>bh (vs:=[(0,vi ((gI l ↑k).1)),(1,v147),(2,v159)]) rfl (by rw[Sl.form o149.flat,Sl.form o161.flat];kernel_rfl)) (az 19 rfl (by kernel_rfl) rfl ?_)
      replace o149:=o149.ce ch160
      obtain⟨c163,hv164⟩:=dc (u:=v147) (aG o149.flat)
      obtain⟨c165,hv166⟩:=dc (u:=v159) (aG o161.flat)
      refine ar (α:=Int×Vc×Vc) g157 (is 3) (is 3) (3,0) rfl [(((gI l ↑k).1),c163,c165)] eb bT (by decide) (by decide) (vs:=[(0,vg [vi ((gI l ↑k).1),v147,v159])]) rfl rfl (.cons (by rw[<-hv164,<-hv166];rfl) .nil) ?_
      intro g167 w168 v169 ch170 o171
      have hs172:=hs162.seq (ch170.n)
      refine⟨hs172.same,?_⟩
      refine az 20 rfl (by kernel_rfl) rfl ?_
      have C173:=cg [1,2] (ch5.n.seq ((ch148.l rfl).seq ((ch160.l rfl).seq ch170.n)))
      replace o_out:=o_out.ca C173
      replace o149:=o149.cn ch170
      replace o161:=o161.cn ch170
      refine ch hv164 hv166 (xs:=out) (k:=4) (γ:=g167) eb bT rfl rfl rfl o_out (o171.flat) o149 o161 rfl rfl (by decide) (by omega) ?_
      intro g174 w175 v176 ch177 o178
      replace ch177:=ch177.ll (L':=[1,2,4]) rfl
      clear o_out o149 o161
      have hs179:=hs172.seq (ch177.ll rfl)
      refine⟨hs179.same,?_⟩
      refine ht (v:=v176) 21 rfl hs179.same (λw' hw'=>bm rfl) (bP (by kernel_rfl) ?_)
      have C180:=cg [1,2,4] (ch5.n.seq ((ch148.l rfl).seq ((ch160.l rfl).seq (ch170.n.seq (ch177.ll rfl)))))
      exact mid (v176,g174) _ _ ⟨bH.ca C180,zs0,rfl,zs4,(Rl.ca hs179),o178⟩
     ·
      refine aj (v:=Value.pointer (some (aB l_v 3 (Int.toNat ↑k)))) (ad (α:=(Int)×(List Int)×(List Bd)) (xs:=l) (v:=l_v) (i:=↑k) eb rfl rfl Rl rfl (by omega) (by omega)) ?_
      refine⟨(aU.refl _ _ _),?_⟩
      refine ht (v:=Value.pointer (some ⟨(aB l_v 3 (Int.toNat ↑k)).block,(aB l_v 3 (Int.toNat ↑k)).off+2,none⟩)) 15 rfl (aU.refl _ _ _) (λw' hw'=>aI fK rfl rfl rfl rfl) ?_
      obtain⟨v181,v182,ce183,⟨r184,r185⟩⟩:=cD (r:=(k:Int)) Rl (by omega) (by omega)
      refine ht (v:=v182) 16 rfl (aU.refl _ _ _) (λw' hw'=>bg (n:=(Int.toNat ↑k)) fg rfl (ce183 _ w' (bI rfl) hw') (by decide) rfl) (az 11 rfl (by kernel_rfl) rfl (aK (α:=Int) (xs:=([])) (ys:=((gI l ↑k).2.1)) g3 (J:=is 1) (S:=is 1) (1,0) rfl bF ah (by decide) rfl rfl rfl Ow.nil r136 (by decide) (by(simp;omega)) ?_))
      intro g187 w188 v189 ch190 o191
      have hs192:aU (inl [1,2,4]) _ _ _ _:=ch190.l rfl
      refine⟨hs192.same,?_⟩
      refine az 17 rfl (by kernel_rfl) rfl (aK (α:=Bd) (xs:=([])) (ys:=((gI l ↑k).2.2)) g187 (J:=is 2) (S:=is 2) (2,0) rfl jr dC (by decide) rfl rfl rfl Ow.nil (r185.ca hs192) (by decide) (by(simp;omega)) ?_)
      intro g193 w194 v195 ch196 o197
      have hs198:=hs192.seq (ch196.l rfl)
      refine⟨hs198.same,?_⟩
      refine ht (v:=vg [vi ((gI l ↑k).1),v189,v195]) 18 rfl hs198.same (λw' hw'=>bh (vs:=[(0,vi ((gI l ↑k).1)),(1,v189),(2,v195)]) rfl (by rw[Sl.form o191.flat,Sl.form o197.flat];kernel_rfl)) (az 19 rfl (by kernel_rfl) rfl ?_)
      replace o191:=o191.ce ch196
      obtain⟨c199,hv200⟩:=dc (u:=v189) (aG o191.flat)
      obtain⟨c201,hv202⟩:=dc (u:=v195) (aG o197.flat)
      refine ar (α:=Int×Vc×Vc) g193 (is 3) (is 3) (3,0) rfl [(((gI l ↑k).1),c199,c201)] eb bT (by decide) (by decide) (vs:=[(0,vg [vi ((gI l ↑k).1),v189,v195])]) rfl rfl (.cons (by rw[<-hv200,<-hv202];rfl) .nil) ?_
      intro g203 w204 v205 ch206 o207
      have hs208:=hs198.seq (ch206.n)
      refine⟨hs208.same,?_⟩
      refine az 20 rfl (by kernel_rfl) rfl ?_
      have C209:=cg [1,2] (ch5.n.seq ((ch190.l rfl).seq ((ch196.l rfl).seq ch206.n)))
      replace o_out:=o_out.ca C209
      replace o191:=o191.cn ch206
      replace o197:=o197.cn ch206
      refine ch hv200 hv202 (xs:=out) (k:=4) (γ:=g203) eb bT rfl rfl rfl o_out (o207.flat) o191 o197 rfl rfl (by decide) (by omega) ?_
      intro g210 w211 v212 ch213 o214
      replace ch213:=ch213.ll (L':=[1,2,4]) rfl
      clear o_out o191 o197
      have hs215:=hs208.seq (ch213.ll rfl)
      refine⟨hs215.same,?_⟩
      refine ht (v:=v212) 21 rfl hs215.same (λw' hw'=>bm rfl) (bP (by kernel_rfl) ?_)
      have C216:=cg [1,2,4] (ch5.n.seq ((ch190.l rfl).seq ((ch196.l rfl).seq (ch206.n.seq (ch213.ll rfl)))))
      exact mid (v212,g210) _ _ ⟨bH.ca C216,zs0,rfl,zs4,(Rl.ca hs215),o214⟩
    ·
     refine aK (α:=Int) (xs:=([])) (ys:=((gI l ↑k).2.1)) g3 (J:=is 1) (S:=is 1) (1,0) rfl bF ah (by decide) rfl rfl rfl Ow.nil r136 (by decide) (by(simp;omega)) ?_
     intro g217 w218 v219 ch220 o221
     have hs222:aU (inl [1,2,4]) _ _ _ _:=ch220.l rfl
     refine⟨hs222.same,?_⟩
     refine bO 3 [14] (by kernel_rfl) ⟨bL 3 rfl (by kernel_rfl) rfl ?_,bL 14 rfl (by kernel_rfl) rfl ?_,trivial⟩
     ·
      refine aj (v:=Value.pointer (some (aB l_v 3 (Int.toNat ↑k)))) (ad (α:=(Int)×(List Int)×(List Bd)) (xs:=l) (v:=l_v) (i:=↑k) eb rfl rfl (Rl.ca hs222) rfl (by omega) (by omega)) ?_
      refine⟨hs222.same,?_⟩
      refine ht (v:=Value.pointer (some ⟨(aB l_v 3 (Int.toNat ↑k)).block,(aB l_v 3 (Int.toNat ↑k)).off+0,none⟩)) 4 rfl hs222.same (λw' hw'=>aI fK rfl rfl rfl rfl) ?_
      obtain⟨v223,v224,ce225,⟨r226,r227⟩⟩:=cD (r:=(k:Int)) Rl (by omega) (by omega)
      refine ht (v:=vi ((gI l ↑k).1)) 5 rfl hs222.same (λw' hw'=>bg (n:=(Int.toNat ↑k)) ah rfl (ce225 _ w' (bI rfl) hw') (by decide) rfl) (az 14 rfl (by kernel_rfl) rfl (aj (v:=Value.pointer (some (aB l_v 3 (Int.toNat ↑k)))) (ad (α:=(Int)×(List Int)×(List Bd)) (xs:=l) (v:=l_v) (i:=↑k) eb rfl rfl (Rl.ca hs222) rfl (by omega) (by omega)) ?_))
      refine⟨hs222.same,?_⟩
      refine ht (v:=Value.pointer (some ⟨(aB l_v 3 (Int.toNat ↑k)).block,(aB l_v 3 (Int.toNat ↑k)).off+2,none⟩)) 15 rfl hs222.same (λw' hw'=>aI fK rfl rfl rfl rfl) ?_
      obtain⟨v229,v230,ce231,⟨r232,r233⟩⟩:=cD (r:=(k:Int)) Rl (by omega) (by omega)
      refine ht (v:=v230) 16 rfl hs222.same (λw' hw'=>bg (n:=(Int.toNat ↑k)) fg rfl (ce231 _ w' (bI rfl) hw') (by decide) rfl) (az 17 rfl (by kernel_rfl) rfl (aK (α:=Bd) (xs:=([])) (ys:=((gI l ↑k).2.2)) g217 (J:=is 2) (S:=is 2) (2,0) rfl jr dC (by decide) rfl rfl rfl Ow.nil (r233.ca hs222) (by decide) (by(simp;omega)) ?_))
      intro g235 w236 v237 ch238 o239
      have hs240:=hs222.seq (ch238.l rfl)
      refine⟨hs240.same,?_⟩
      refine ht (v:=vg [vi ((gI l ↑k).1),v219,v237]) 18 rfl hs240.same (λw' hw'=>bh (vs:=[(0,vi ((gI l ↑k).1)),(1,v219),(2,v237)]) rfl (by rw[Sl.form o221.flat,Sl.form o239.flat];kernel_rfl)) (az 19 rfl (by kernel_rfl) rfl ?_)
      replace o221:=o221.ce ch238
      obtain⟨c241,hv242⟩:=dc (u:=v219) (aG o221.flat)
      obtain⟨c243,hv244⟩:=dc (u:=v237) (aG o239.flat)
      refine ar (α:=Int×Vc×Vc) g235 (is 3) (is 3) (3,0) rfl [(((gI l ↑k).1),c241,c243)] eb bT (by decide) (by decide) (vs:=[(0,vg [vi ((gI l ↑k).1),v219,v237])]) rfl rfl (.cons (by rw[<-hv242,<-hv244];rfl) .nil) ?_
      intro g245 w246 v247 ch248 o249
      have hs250:=hs240.seq (ch248.n)
      refine⟨hs250.same,?_⟩
      refine az 20 rfl (by kernel_rfl) rfl ?_
      have C251:=cg [1,2] (ch5.n.seq ((ch220.l rfl).seq ((ch238.l rfl).seq ch248.n)))
      replace o_out:=o_out.ca C251
      replace o221:=o221.cn ch248
      replace o239:=o239.cn ch248
      refine ch hv242 hv244 (xs:=out) (k:=4) (γ:=g245) eb bT rfl rfl rfl o_out (o249.flat) o221 o239 rfl rfl (by decide) (by omega) ?_
      intro g252 w253 v254 ch255 o256
      replace ch255:=ch255.ll (L':=[1,2,4]) rfl
      clear o_out o221 o239
      have hs257:=hs250.seq (ch255.ll rfl)
      refine⟨hs257.same,?_⟩
      refine ht (v:=v254) 21 rfl hs257.same (λw' hw'=>bm rfl) (bP (by kernel_rfl) ?_)
      have C258:=cg [1,2,4] (ch5.n.seq ((ch220.l rfl).seq ((ch238.l rfl).seq (ch248.n.seq (ch255.ll rfl)))))
      exact mid (v254,g252) _ _ ⟨bH.ca C258,zs0,rfl,zs4,(Rl.ca hs257),o256⟩
     ·
      refine aj (v:=Value.pointer (some (aB l_v 3 (Int.toNat ↑k)))) (ad (α:=(Int)×(List Int)×(List Bd)) (xs:=l) (v:=l_v) (i:=↑k) eb rfl rfl (Rl.ca hs222) rfl (by omega) (by omega)) ?_
      refine⟨hs222.same,?_⟩
      refine ht (v:=Value.pointer (some ⟨(aB l_v 3 (Int.toNat ↑k)).block,(aB l_v 3 (Int.toNat ↑k)).off+2,none⟩)) 15 rfl hs222.same (λw' hw'=>aI fK rfl rfl rfl rfl) ?_
      obtain⟨v259,v260,ce261,⟨r262,r263⟩⟩:=cD (r:=(k:Int)) Rl (by omega) (by omega)
      refine ht (v:=v260) 16 rfl hs222.same (λw' hw'=>bg (n:=(Int.toNat ↑k)) fg rfl (ce261 _ w' (bI rfl) hw') (by decide) rfl) ?_
      refine bO 3 [17] (by kernel_rfl) ⟨bL 3 rfl (by kernel_rfl) rfl ?_,bL 17 rfl (by kernel_rfl) rfl ?_,trivial⟩
      ·
       refine aj (v:=Value.pointer (some (aB l_v 3 (Int.toNat ↑k)))) (ad (α:=(Int)×(List Int)×(List Bd)) (xs:=l) (v:=l_v) (i:=↑k) eb rfl rfl (Rl.ca hs222) rfl (by omega) (by omega)) ?_
       refine⟨hs222.same,?_⟩
       refine ht (v:=Value.pointer (some ⟨(aB l_v 3 (Int.toNat ↑k)).block,(aB l_v 3 (Int.toNat ↑k)).off+0,none⟩)) 4 rfl hs222.same (λw' hw'=>aI fK rfl rfl rfl rfl) ?_
       obtain⟨v265,v266,ce267,⟨r268,r269⟩⟩:=cD (r:=(k:Int)) Rl (by omega) (by omega)
       refine ht (v:=vi ((gI l ↑k).1)) 5 rfl hs222.same (λw' hw'=>bg (n:=(Int.toNat ↑k)) ah rfl (ce267 _ w' (bI rfl) hw') (by decide) rfl) (az 17 rfl (by kernel_rfl) rfl (aK (α:=Bd) (xs:=([])) (ys:=((gI l ↑k).2.2)) g217 (J:=is 2) (S:=is 2) (2,0) rfl jr dC (by decide) rfl rfl rfl Ow.nil (r263.ca hs222) (by decide) (by(simp;omega)) ?_))
       intro g271 w272 v273 ch274 o275
       have hs276:=hs222.seq (ch274.l rfl)
       refine⟨hs276.same,?_⟩
       refine ht (v:=vg [vi ((gI l ↑k).1),v219,v273]) 18 rfl hs276.same (λw' hw'=>bh (vs:=[(0,vi ((gI l ↑k).1)),(1,v219),(2,v273)]) rfl (by rw[Sl.form o221.flat,Sl.form o275.flat];kernel_rfl)) (az 19 rfl (by kernel_rfl) rfl ?_)
       replace o221:=o221.ce ch274
       obtain⟨c277,hv278⟩:=dc (u:=v219) (aG o221.flat)
       obtain⟨c279,hv280⟩:=dc (u:=v273) (aG o275.flat)
       refine ar (α:=Int×Vc×Vc) g271 (is 3) (is 3) (3,0) rfl [(((gI l ↑k).1),c277,c279)] eb bT (by decide) (by decide) (vs:=[(0,vg [vi ((gI l ↑k).1),v219,v273])]) rfl rfl (.cons (by rw[<-hv278,<-hv280];rfl) .nil) ?_
       intro g281 w282 v283 ch284 o285
       have hs286:=hs276.seq (ch284.n)
       refine⟨hs286.same,?_⟩
       refine az 20 rfl (by kernel_rfl) rfl ?_
       have C287:=cg [1,2] (ch5.n.seq ((ch220.l rfl).seq ((ch274.l rfl).seq ch284.n)))
       replace o_out:=o_out.ca C287
       replace o221:=o221.cn ch284
       replace o275:=o275.cn ch284
       refine ch hv278 hv280 (xs:=out) (k:=4) (γ:=g281) eb bT rfl rfl rfl o_out (o285.flat) o221 o275 rfl rfl (by decide) (by omega) ?_
       intro g288 w289 v290 ch291 o292
       replace ch291:=ch291.ll (L':=[1,2,4]) rfl
       clear o_out o221 o275
       have hs293:=hs286.seq (ch291.ll rfl)
       refine⟨hs293.same,?_⟩
       refine ht (v:=v290) 21 rfl hs293.same (λw' hw'=>bm rfl) (bP (by kernel_rfl) ?_)
       have C294:=cg [1,2,4] (ch5.n.seq ((ch220.l rfl).seq ((ch274.l rfl).seq (ch284.n.seq (ch291.ll rfl)))))
       exact mid (v290,g288) _ _ ⟨bH.ca C294,zs0,rfl,zs4,(Rl.ca hs293),o292⟩
      ·
       refine aK (α:=Bd) (xs:=([])) (ys:=((gI l ↑k).2.2)) g217 (J:=is 2) (S:=is 2) (2,0) rfl jr dC (by decide) rfl rfl rfl Ow.nil (r263.ca hs222) (by decide) (by(simp;omega)) ?_
       intro g295 w296 v297 ch298 o299
       have hs300:=hs222.seq (ch298.l rfl)
       refine⟨hs300.same,?_⟩
       refine az 3 rfl (by kernel_rfl) rfl (aj (v:=Value.pointer (some (aB l_v 3 (Int.toNat ↑k)))) (ad (α:=(Int)×(List Int)×(List Bd)) (xs:=l) (v:=l_v) (i:=↑k) eb rfl rfl (Rl.ca hs300) rfl (by omega) (by omega)) ?_)
       refine⟨hs300.same,?_⟩
       refine ht (v:=Value.pointer (some ⟨(aB l_v 3 (Int.toNat ↑k)).block,(aB l_v 3 (Int.toNat ↑k)).off+0,none⟩)) 4 rfl hs300.same (λw' hw'=>aI fK rfl rfl rfl rfl) ?_
       obtain⟨v301,v302,ce303,⟨r304,r305⟩⟩:=cD (r:=(k:Int)) Rl (by omega) (by omega)
       refine ht (v:=vi ((gI l ↑k).1)) 5 rfl hs300.same (λw' hw'=>bg (n:=(Int.toNat ↑k)) ah rfl (ce303 _ w' (bI rfl) hw') (by decide) rfl) (ht (v:=vg [vi ((gI l ↑k).1),v219,v297]) 18 rfl hs300.same (λw' hw'=>bh (vs:=[(0,vi ((gI l ↑k).1)),(1,v219),(2,v297)]) rfl (by rw[Sl.form o221.flat,Sl.form o299.flat];kernel_rfl)) (az 19 rfl (by kernel_rfl) rfl ?_))
       replace o221:=o221.ce ch298
       obtain⟨c307,hv308⟩:=dc (u:=v219) (aG o221.flat)
       obtain⟨c309,hv310⟩:=dc (u:=v297) (aG o299.flat)
       refine ar (α:=Int×Vc×Vc) g295 (is 3) (is 3) (3,0) rfl [(((gI l ↑k).1),c307,c309)] eb bT (by decide) (by decide) (vs:=[(0,vg [vi ((gI l ↑k).1),v219,v297])]) rfl rfl (.cons (by rw[<-hv308,<-hv310];rfl) .nil) ?_
       intro g311 w312 v313 ch314 o315
       have hs316:=hs300.seq (ch314.n)
       refine⟨hs316.same,?_⟩
       refine az 20 rfl (by kernel_rfl) rfl ?_
       have C317:=cg [1,2] (ch5.n.seq ((ch220.l rfl).seq ((ch298.l rfl).seq ch314.n)))
       replace o_out:=o_out.ca C317
       replace o221:=o221.cn ch314
       replace o299:=o299.cn ch314
       refine ch hv308 hv310 (xs:=out) (k:=4) (γ:=g311) eb bT rfl rfl rfl o_out (o315.flat) o221 o299 rfl rfl (by decide) (by omega) ?_
       intro g318 w319 v320 ch321 o322
       replace ch321:=ch321.ll (L':=[1,2,4]) rfl
       clear o_out o221 o299
       have hs323:=hs316.seq (ch321.ll rfl)
       refine⟨hs323.same,?_⟩
       refine ht (v:=v320) 21 rfl hs323.same (λw' hw'=>bm rfl) (bP (by kernel_rfl) ?_)
       have C324:=cg [1,2,4] (ch5.n.seq ((ch220.l rfl).seq ((ch298.l rfl).seq (ch314.n.seq (ch321.ll rfl)))))
       exact mid (v320,g318) _ _ ⟨bH.ca C324,zs0,rfl,zs4,(Rl.ca hs323),o322⟩
    ·
     refine aj (v:=Value.pointer (some (aB l_v 3 (Int.toNat ↑k)))) (ad (α:=(Int)×(List Int)×(List Bd)) (xs:=l) (v:=l_v) (i:=↑k) eb rfl rfl Rl rfl (by omega) (by omega)) ?_
     refine⟨(aU.refl _ _ _),?_⟩
     refine ht (v:=Value.pointer (some ⟨(aB l_v 3 (Int.toNat ↑k)).block,(aB l_v 3 (Int.toNat ↑k)).off+2,none⟩)) 15 rfl (aU.refl _ _ _) (λw' hw'=>aI fK rfl rfl rfl rfl) ?_
     obtain⟨v325,v326,ce327,⟨r328,r329⟩⟩:=cD (r:=(k:Int)) Rl (by omega) (by omega)
     refine ht (v:=v326) 16 rfl (aU.refl _ _ _) (λw' hw'=>bg (n:=(Int.toNat ↑k)) fg rfl (ce327 _ w' (bI rfl) hw') (by decide) rfl) ?_
     refine bO 3 [11] (by kernel_rfl) ⟨bL 3 rfl (by kernel_rfl) rfl ?_,bL 11 rfl (by kernel_rfl) rfl ?_,trivial⟩
     ·
      refine aj (v:=Value.pointer (some (aB l_v 3 (Int.toNat ↑k)))) (ad (α:=(Int)×(List Int)×(List Bd)) (xs:=l) (v:=l_v) (i:=↑k) eb rfl rfl Rl rfl (by omega) (by omega)) ?_
      refine⟨(aU.refl _ _ _),?_⟩
      refine ht (v:=Value.pointer (some ⟨(aB l_v 3 (Int.toNat ↑k)).block,(aB l_v 3 (Int.toNat ↑k)).off+0,none⟩)) 4 rfl (aU.refl _ _ _) (λw' hw'=>aI fK rfl rfl rfl rfl) ?_
      obtain⟨v331,v332,ce333,⟨r334,r335⟩⟩:=cD (r:=(k:Int)) Rl (by omega) (by omega)
      refine ht (v:=vi ((gI l ↑k).1)) 5 rfl (aU.refl _ _ _) (λw' hw'=>bg (n:=(Int.toNat ↑k)) ah rfl (ce333 _ w' (bI rfl) hw') (by decide) rfl) (az 11 rfl (by kernel_rfl) rfl (aK (α:=Int) (xs:=([])) (ys:=((gI l ↑k).2.1)) g3 (J:=is 1) (S:=is 1) (1,0) rfl bF ah (by decide) rfl rfl rfl Ow.nil r136 (by decide) (by(simp;omega)) ?_))
      intro g337 w338 v339 ch340 o341
      have hs342:aU (inl [1,2,4]) _ _ _ _:=ch340.l rfl
      refine⟨hs342.same,?_⟩
      refine az 17 rfl (by kernel_rfl) rfl (aK (α:=Bd) (xs:=([])) (ys:=((gI l ↑k).2.2)) g337 (J:=is 2) (S:=is 2) (2,0) rfl jr dC (by decide) rfl rfl rfl Ow.nil (r329.ca hs342) (by decide) (by(simp;omega)) ?_)
      intro g343 w344 v345 ch346 o347
      have hs348:=hs342.seq (ch346.l rfl)
      refine⟨hs348.same,?_⟩
      refine ht (v:=vg [vi ((gI l ↑k).1),v339,v345]) 18 rfl hs348.same (λw' hw'=>bh (vs:=[(0,vi ((gI l ↑k).1)),(1,v339),(2,v345)]) rfl (by rw[Sl.form o341.flat,Sl.form o347.flat];kernel_rfl)) (az 19 rfl (by kernel_rfl) rfl ?_)
      replace o341:=o341.ce ch346
      obtain⟨c349,hv350⟩:=dc (u:=v339) (aG o341.flat)
      obtain⟨c351,hv352⟩:=dc (u:=v345) (aG o347.flat)
      refine ar (α:=Int×Vc×Vc) g343 (is 3) (is 3) (3,0) rfl [(((gI l ↑k).1),c349,c351)] eb bT (by decide) (by decide) (vs:=[(0,vg [vi ((gI l ↑k).1),v339,v345])]) rfl rfl (.cons (by rw[<-hv350,<-hv352];rfl) .nil) ?_
      intro g353 w354 v355 ch356 o357
      have hs358:=hs348.seq (ch356.n)
      refine⟨hs358.same,?_⟩
      refine az 20 rfl (by kernel_rfl) rfl ?_
      have C359:=cg [1,2] (ch5.n.seq ((ch340.l rfl).seq ((ch346.l rfl).seq ch356.n)))
      replace o_out:=o_out.ca C359
      replace o341:=o341.cn ch356
      replace o347:=o347.cn ch356
      refine ch hv350 hv352 (xs:=out) (k:=4) (γ:=g353) eb bT rfl rfl rfl o_out (o357.flat) o341 o347 rfl rfl (by decide) (by omega) ?_
      intro g360 w361 v362 ch363 o364
      replace ch363:=ch363.ll (L':=[1,2,4]) rfl
      clear o_out o341 o347
      have hs365:=hs358.seq (ch363.ll rfl)
      refine⟨hs365.same,?_⟩
      refine ht (v:=v362) 21 rfl hs365.same (λw' hw'=>bm rfl) (bP (by kernel_rfl) ?_)
      have C366:=cg [1,2,4] (ch5.n.seq ((ch340.l rfl).seq ((ch346.l rfl).seq (ch356.n.seq (ch363.ll rfl)))))
      exact mid (v362,g360) _ _ ⟨bH.ca C366,zs0,rfl,zs4,(Rl.ca hs365),o364⟩
     ·
      refine aK (α:=Int) (xs:=([])) (ys:=((gI l ↑k).2.1)) g3 (J:=is 1) (S:=is 1) (1,0) rfl bF ah (by decide) rfl rfl rfl Ow.nil r136 (by decide) (by(simp;omega)) ?_
      intro g367 w368 v369 ch370 o371
      have hs372:aU (inl [1,2,4]) _ _ _ _:=ch370.l rfl
      refine⟨hs372.same,?_⟩
      refine bO 3 [17] (by kernel_rfl) ⟨bL 3 rfl (by kernel_rfl) rfl ?_,bL 17 rfl (by kernel_rfl) rfl ?_,trivial⟩
      ·
       refine aj (v:=Value.pointer (some (aB l_v 3 (Int.toNat ↑k)))) (ad (α:=(Int)×(List Int)×(List Bd)) (xs:=l) (v:=l_v) (i:=↑k) eb rfl rfl (Rl.ca hs372) rfl (by omega) (by omega)) ?_
       refine⟨hs372.same,?_⟩
       refine ht (v:=Value.pointer (some ⟨(aB l_v 3 (Int.toNat ↑k)).block,(aB l_v 3 (Int.toNat ↑k)).off+0,none⟩)) 4 rfl hs372.same (λw' hw'=>aI fK rfl rfl rfl rfl) ?_
       obtain⟨v373,v374,ce375,⟨r376,r377⟩⟩:=cD (r:=(k:Int)) Rl (by omega) (by omega)
       refine ht (v:=vi ((gI l ↑k).1)) 5 rfl hs372.same (λw' hw'=>bg (n:=(Int.toNat ↑k)) ah rfl (ce375 _ w' (bI rfl) hw') (by decide) rfl) (az 17 rfl (by kernel_rfl) rfl (aK (α:=Bd) (xs:=([])) (ys:=((gI l ↑k).2.2)) g367 (J:=is 2) (S:=is 2) (2,0) rfl jr dC (by decide) rfl rfl rfl Ow.nil (r329.ca hs372) (by decide) (by(simp;omega)) ?_))
       intro g379 w380 v381 ch382 o383
       have hs384:=hs372.seq (ch382.l rfl)
       refine⟨hs384.same,?_⟩
       refine ht (v:=vg [vi ((gI l ↑k).1),v369,v381]) 18 rfl hs384.same (λw' hw'=>bh (vs:=[(0,vi ((gI l ↑k).1)),(1,v369),(2,v381)]) rfl (by rw[Sl.form o371.flat,Sl.form o383.flat];kernel_rfl)) (az 19 rfl (by kernel_rfl) rfl ?_)
       replace o371:=o371.ce ch382
       obtain⟨c385,hv386⟩:=dc (u:=v369) (aG o371.flat)
       obtain⟨c387,hv388⟩:=dc (u:=v381) (aG o383.flat)
       refine ar (α:=Int×Vc×Vc) g379 (is 3) (is 3) (3,0) rfl [(((gI l ↑k).1),c385,c387)] eb bT (by decide) (by decide) (vs:=[(0,vg [vi ((gI l ↑k).1),v369,v381])]) rfl rfl (.cons (by rw[<-hv386,<-hv388];rfl) .nil) ?_
       intro g389 w390 v391 ch392 o393
       have hs394:=hs384.seq (ch392.n)
       refine⟨hs394.same,?_⟩
       refine az 20 rfl (by kernel_rfl) rfl ?_
       have C395:=cg [1,2] (ch5.n.seq ((ch370.l rfl).seq ((ch382.l rfl).seq ch392.n)))
       replace o_out:=o_out.ca C395
       replace o371:=o371.cn ch392
       replace o383:=o383.cn ch392
       refine ch hv386 hv388 (xs:=out) (k:=4) (γ:=g389) eb bT rfl rfl rfl o_out (o393.flat) o371 o383 rfl rfl (by decide) (by omega) ?_
       intro g396 w397 v398 ch399 o400
       replace ch399:=ch399.ll (L':=[1,2,4]) rfl
       clear o_out o371 o383
       have hs401:=hs394.seq (ch399.ll rfl)
       refine⟨hs401.same,?_⟩
       refine ht (v:=v398) 21 rfl hs401.same (λw' hw'=>bm rfl) (bP (by kernel_rfl) ?_)
       have C402:=cg [1,2,4] (ch5.n.seq ((ch370.l rfl).seq ((ch382.l rfl).seq (ch392.n.seq (ch399.ll rfl)))))
       exact mid (v398,g396) _ _ ⟨bH.ca C402,zs0,rfl,zs4,(Rl.ca hs401),o400⟩
      ·
       refine aK (α:=Bd) (xs:=([])) (ys:=((gI l ↑k).2.2)) g367 (J:=is 2) (S:=is 2) (2,0) rfl jr dC (by decide) rfl rfl rfl Ow.nil (r329.ca hs372) (by decide) (by(simp;omega)) ?_
       intro g403 w404 v405 ch406 o407
       have hs408:=hs372.seq (ch406.l rfl)
       refine⟨hs408.same,?_⟩
       refine az 3 rfl (by kernel_rfl) rfl (aj (v:=Value.pointer (some (aB l_v 3 (Int.toNat ↑k)))) (ad (α:=(Int)×(List Int)×(List Bd)) (xs:=l) (v:=l_v) (i:=↑k) eb rfl rfl (Rl.ca hs408) rfl (by omega) (by omega)) ?_)
       refine⟨hs408.same,?_⟩
       refine ht (v:=Value.pointer (some ⟨(aB l_v 3 (Int.toNat ↑k)).block,(aB l_v 3 (Int.toNat ↑k)).off+0,none⟩)) 4 rfl hs408.same (λw' hw'=>aI fK rfl rfl rfl rfl) ?_
       obtain⟨v409,v410,ce411,⟨r412,r413⟩⟩:=cD (r:=(k:Int)) Rl (by omega) (by omega)
       refine ht (v:=vi ((gI l ↑k).1)) 5 rfl hs408.same (λw' hw'=>bg (n:=(Int.toNat ↑k)) ah rfl (ce411 _ w' (bI rfl) hw') (by decide) rfl) (ht (v:=vg [vi ((gI l ↑k).1),v369,v405]) 18 rfl hs408.same (λw' hw'=>bh (vs:=[(0,vi ((gI l ↑k).1)),(1,v369),(2,v405)]) rfl (by rw[Sl.form o371.flat,Sl.form o407.flat];kernel_rfl)) (az 19 rfl (by kernel_rfl) rfl ?_))
       replace o371:=o371.ce ch406
       obtain⟨c415,hv416⟩:=dc (u:=v369) (aG o371.flat)
       obtain⟨c417,hv418⟩:=dc (u:=v405) (aG o407.flat)
       refine ar (α:=Int×Vc×Vc) g403 (is 3) (is 3) (3,0) rfl [(((gI l ↑k).1),c415,c417)] eb bT (by decide) (by decide) (vs:=[(0,vg [vi ((gI l ↑k).1),v369,v405])]) rfl rfl (.cons (by rw[<-hv416,<-hv418];rfl) .nil) ?_
       intro g419 w420 v421 ch422 o423
       have hs424:=hs408.seq (ch422.n)
       refine⟨hs424.same,?_⟩
       refine az 20 rfl (by kernel_rfl) rfl ?_
       have C425:=cg [1,2] (ch5.n.seq ((ch370.l rfl).seq ((ch406.l rfl).seq ch422.n)))
       replace o_out:=o_out.ca C425
       replace o371:=o371.cn ch422
       replace o407:=o407.cn ch422
       refine ch hv416 hv418 (xs:=out) (k:=4) (γ:=g419) eb bT rfl rfl rfl o_out (o423.flat) o371 o407 rfl rfl (by decide) (by omega) ?_
       intro g426 w427 v428 ch429 o430
       replace ch429:=ch429.ll (L':=[1,2,4]) rfl
       clear o_out o371 o407
       have hs431:=hs424.seq (ch429.ll rfl)
       refine⟨hs431.same,?_⟩
       refine ht (v:=v428) 21 rfl hs431.same (λw' hw'=>bm rfl) (bP (by kernel_rfl) ?_)
       have C432:=cg [1,2,4] (ch5.n.seq ((ch370.l rfl).seq ((ch406.l rfl).seq (ch422.n.seq (ch429.ll rfl)))))
       exact mid (v428,g426) _ _ ⟨bH.ca C432,zs0,rfl,zs4,(Rl.ca hs431),o430⟩
   ·
    replace Rl:=Rl.cn ch5
    refine aj (v:=Value.pointer (some (aB l_v 3 (Int.toNat ↑k)))) (ad (α:=(Int)×(List Int)×(List Bd)) (xs:=l) (v:=l_v) (i:=↑k) eb rfl rfl Rl rfl (by omega) (by omega)) ?_
    refine⟨(aU.refl _ _ _),?_⟩
    refine ht (v:=Value.pointer (some ⟨(aB l_v 3 (Int.toNat ↑k)).block,(aB l_v 3 (Int.toNat ↑k)).off+2,none⟩)) 15 rfl (aU.refl _ _ _) (λw' hw'=>aI fK rfl rfl rfl rfl) ?_
    obtain⟨v433,v434,ce435,⟨r436,r437⟩⟩:=cD (r:=(k:Int)) Rl (by omega) (by omega)
    refine ht (v:=v434) 16 rfl (aU.refl _ _ _) (λw' hw'=>bg (n:=(Int.toNat ↑k)) fg rfl (ce435 _ w' (bI rfl) hw') (by decide) rfl) ?_
    refine bO 3 [8] (by kernel_rfl) ⟨bL 3 rfl (by kernel_rfl) rfl ?_,bL 8 rfl (by kernel_rfl) rfl ?_,trivial⟩
    ·
     refine aj (v:=Value.pointer (some (aB l_v 3 (Int.toNat ↑k)))) (ad (α:=(Int)×(List Int)×(List Bd)) (xs:=l) (v:=l_v) (i:=↑k) eb rfl rfl Rl rfl (by omega) (by omega)) ?_
     refine⟨(aU.refl _ _ _),?_⟩
     refine ht (v:=Value.pointer (some ⟨(aB l_v 3 (Int.toNat ↑k)).block,(aB l_v 3 (Int.toNat ↑k)).off+0,none⟩)) 4 rfl (aU.refl _ _ _) (λw' hw'=>aI fK rfl rfl rfl rfl) ?_
     obtain⟨v439,v440,ce441,⟨r442,r443⟩⟩:=cD (r:=(k:Int)) Rl (by omega) (by omega)
     refine ht (v:=vi ((gI l ↑k).1)) 5 rfl (aU.refl _ _ _) (λw' hw'=>bg (n:=(Int.toNat ↑k)) ah rfl (ce441 _ w' (bI rfl) hw') (by decide) rfl) (az 8 rfl (by kernel_rfl) rfl (aj (v:=Value.pointer (some (aB l_v 3 (Int.toNat ↑k)))) (ad (α:=(Int)×(List Int)×(List Bd)) (xs:=l) (v:=l_v) (i:=↑k) eb rfl rfl Rl rfl (by omega) (by omega)) ?_))
     refine⟨(aU.refl _ _ _),?_⟩
     refine ht (v:=Value.pointer (some ⟨(aB l_v 3 (Int.toNat ↑k)).block,(aB l_v 3 (Int.toNat ↑k)).off+1,none⟩)) 9 rfl (aU.refl _ _ _) (λw' hw'=>aI fK rfl rfl rfl rfl) ?_
     obtain⟨v445,v446,ce447,⟨r448,r449⟩⟩:=cD (r:=(k:Int)) Rl (by omega) (by omega)
     refine ht (v:=v445) 10 rfl (aU.refl _ _ _) (λw' hw'=>bg (n:=(Int.toNat ↑k)) iS rfl (ce447 _ w' (bI rfl) hw') (by decide) rfl) (az 11 rfl (by kernel_rfl) rfl (aK (α:=Int) (xs:=([])) (ys:=((gI l ↑k).2.1)) g3 (J:=is 1) (S:=is 1) (1,0) rfl bF ah (by decide) rfl rfl rfl Ow.nil r448 (by decide) (by(simp;omega)) ?_))
     intro g451 w452 v453 ch454 o455
     have hs456:aU (inl [1,2,4]) _ _ _ _:=ch454.l rfl
     refine⟨hs456.same,?_⟩
     refine az 17 rfl (by kernel_rfl) rfl (aK (α:=Bd) (xs:=([])) (ys:=((gI l ↑k).2.2)) g451 (J:=is 2) (S:=is 2) (2,0) rfl jr dC (by decide) rfl rfl rfl Ow.nil (r437.ca hs456) (by decide) (by(simp;omega)) ?_)
     intro g457 w458 v459 ch460 o461
     have hs462:=hs456.seq (ch460.l rfl)
     refine⟨hs462.same,?_⟩
     refine ht (v:=vg [vi ((gI l ↑k).1),v453,v459]) 18 rfl hs462.same (λw' hw'=>bh (vs:=[(0,vi ((gI l ↑k).1)),(1,v453),(2,v459)]) rfl (by rw[Sl.form o455.flat,Sl.form o461.flat];kernel_rfl)) (az 19 rfl (by kernel_rfl) rfl ?_)
     replace o455:=o455.ce ch460
     obtain⟨c463,hv464⟩:=dc (u:=v453) (aG o455.flat)
     obtain⟨c465,hv466⟩:=dc (u:=v459) (aG o461.flat)
     refine ar (α:=Int×Vc×Vc) g457 (is 3) (is 3) (3,0) rfl [(((gI l ↑k).1),c463,c465)] eb bT (by decide) (by decide) (vs:=[(0,vg [vi ((gI l ↑k).1),v453,v459])]) rfl rfl (.cons (by rw[<-hv464,<-hv466];rfl) .nil) ?_
     intro g467 w468 v469 ch470 o471
     have hs472:=hs462.seq (ch470.n)
     refine⟨hs472.same,?_⟩
     refine az 20 rfl (by kernel_rfl) rfl ?_
     have C473:=cg [1,2] (ch5.n.seq ((ch454.l rfl).seq ((ch460.l rfl).seq ch470.n)))
     replace o_out:=o_out.ca C473
     replace o455:=o455.cn ch470
     replace o461:=o461.cn ch470
     refine ch hv464 hv466 (xs:=out) (k:=4) (γ:=g467) eb bT rfl rfl rfl o_out (o471.flat) o455 o461 rfl rfl (by decide) (by omega) ?_
     intro g474 w475 v476 ch477 o478
     replace ch477:=ch477.ll (L':=[1,2,4]) rfl
     clear o_out o455 o461
     have hs479:=hs472.seq (ch477.ll rfl)
     refine⟨hs479.same,?_⟩
     refine ht (v:=v476) 21 rfl hs479.same (λw' hw'=>bm rfl) (bP (by kernel_rfl) ?_)
     have C480:=cg [1,2,4] (ch5.n.seq ((ch454.l rfl).seq ((ch460.l rfl).seq (ch470.n.seq (ch477.ll rfl)))))
     exact mid (v476,g474) _ _ ⟨bH.ca C480,zs0,rfl,zs4,(Rl.ca hs479),o478⟩
    ·
     refine aj (v:=Value.pointer (some (aB l_v 3 (Int.toNat ↑k)))) (ad (α:=(Int)×(List Int)×(List Bd)) (xs:=l) (v:=l_v) (i:=↑k) eb rfl rfl Rl rfl (by omega) (by omega)) ?_
     refine⟨(aU.refl _ _ _),?_⟩
     refine ht (v:=Value.pointer (some ⟨(aB l_v 3 (Int.toNat ↑k)).block,(aB l_v 3 (Int.toNat ↑k)).off+1,none⟩)) 9 rfl (aU.refl _ _ _) (λw' hw'=>aI fK rfl rfl rfl rfl) ?_
     obtain⟨v481,v482,ce483,⟨r484,r485⟩⟩:=cD (r:=(k:Int)) Rl (by omega) (by omega)
     refine ht (v:=v481) 10 rfl (aU.refl _ _ _) (λw' hw'=>bg (n:=(Int.toNat ↑k)) iS rfl (ce483 _ w' (bI rfl) hw') (by decide) rfl) ?_
     refine bO 3 [11] (by kernel_rfl) ⟨bL 3 rfl (by kernel_rfl) rfl ?_,bL 11 rfl (by kernel_rfl) rfl ?_,trivial⟩
     ·
      refine aj (v:=Value.pointer (some (aB l_v 3 (Int.toNat ↑k)))) (ad (α:=(Int)×(List Int)×(List Bd)) (xs:=l) (v:=l_v) (i:=↑k) eb rfl rfl Rl rfl (by omega) (by omega)) ?_
      refine⟨(aU.refl _ _ _),?_⟩
      refine ht (v:=Value.pointer (some ⟨(aB l_v 3 (Int.toNat ↑k)).block,(aB l_v 3 (Int.toNat ↑k)).off+0,none⟩)) 4 rfl (aU.refl _ _ _) (λw' hw'=>aI fK rfl rfl rfl rfl) ?_
      obtain⟨v487,v488,ce489,⟨r490,r491⟩⟩:=cD (r:=(k:Int)) Rl (by omega) (by omega)
      refine ht (v:=vi ((gI l ↑k).1)) 5 rfl (aU.refl _ _ _) (λw' hw'=>bg (n:=(Int.toNat ↑k)) ah rfl (ce489 _ w' (bI rfl) hw') (by decide) rfl) (az 11 rfl (by kernel_rfl) rfl (aK (α:=Int) (xs:=([])) (ys:=((gI l ↑k).2.1)) g3 (J:=is 1) (S:=is 1) (1,0) rfl bF ah (by decide) rfl rfl rfl Ow.nil r484 (by decide) (by(simp;omega)) ?_))
      intro g493 w494 v495 ch496 o497
      have hs498:aU (inl [1,2,4]) _ _ _ _:=ch496.l rfl
      refine⟨hs498.same,?_⟩
      refine az 17 rfl (by kernel_rfl) rfl (aK (α:=Bd) (xs:=([])) (ys:=((gI l ↑k).2.2)) g493 (J:=is 2) (S:=is 2) (2,0) rfl jr dC (by decide) rfl rfl rfl Ow.nil (r437.ca hs498) (by decide) (by(simp;omega)) ?_)
      intro g499 w500 v501 ch502 o503
      have hs504:=hs498.seq (ch502.l rfl)
      refine⟨hs504.same,?_⟩
      refine ht (v:=vg [vi ((gI l ↑k).1),v495,v501]) 18 rfl hs504.same (λw' hw'=>bh (vs:=[(0,vi ((gI l ↑k).1)),(1,v495),(2,v501)]) rfl (by rw[Sl.form o497.flat,Sl.form o503.flat];kernel_rfl)) (az 19 rfl (by kernel_rfl) rfl ?_)
      replace o497:=o497.ce ch502
      obtain⟨c505,hv506⟩:=dc (u:=v495) (aG o497.flat)
      obtain⟨c507,hv508⟩:=dc (u:=v501) (aG o503.flat)
      refine ar (α:=Int×Vc×Vc) g499 (is 3) (is 3) (3,0) rfl [(((gI l ↑k).1),c505,c507)] eb bT (by decide) (by decide) (vs:=[(0,vg [vi ((gI l ↑k).1),v495,v501])]) rfl rfl (.cons (by rw[<-hv506,<-hv508];rfl) .nil) ?_
      intro g509 w510 v511 ch512 o513
      have hs514:=hs504.seq (ch512.n)
      refine⟨hs514.same,?_⟩
      refine az 20 rfl (by kernel_rfl) rfl ?_
      have C515:=cg [1,2] (ch5.n.seq ((ch496.l rfl).seq ((ch502.l rfl).seq ch512.n)))
      replace o_out:=o_out.ca C515
      replace o497:=o497.cn ch512
      replace o503:=o503.cn ch512
      refine ch hv506 hv508 (xs:=out) (k:=4) (γ:=g509) eb bT rfl rfl rfl o_out (o513.flat) o497 o503 rfl rfl (by decide) (by omega) ?_
      intro g516 w517 v518 ch519 o520
      replace ch519:=ch519.ll (L':=[1,2,4]) rfl
      clear o_out o497 o503
      have hs521:=hs514.seq (ch519.ll rfl)
      refine⟨hs521.same,?_⟩
      refine ht (v:=v518) 21 rfl hs521.same (λw' hw'=>bm rfl) (bP (by kernel_rfl) ?_)
      have C522:=cg [1,2,4] (ch5.n.seq ((ch496.l rfl).seq ((ch502.l rfl).seq (ch512.n.seq (ch519.ll rfl)))))
      exact mid (v518,g516) _ _ ⟨bH.ca C522,zs0,rfl,zs4,(Rl.ca hs521),o520⟩
     ·
      refine aK (α:=Int) (xs:=([])) (ys:=((gI l ↑k).2.1)) g3 (J:=is 1) (S:=is 1) (1,0) rfl bF ah (by decide) rfl rfl rfl Ow.nil r484 (by decide) (by(simp;omega)) ?_
      intro g523 w524 v525 ch526 o527
      have hs528:aU (inl [1,2,4]) _ _ _ _:=ch526.l rfl
      refine⟨hs528.same,?_⟩
      refine bO 3 [17] (by kernel_rfl) ⟨bL 3 rfl (by kernel_rfl) rfl ?_,bL 17 rfl (by kernel_rfl) rfl ?_,trivial⟩
      ·
       refine aj (v:=Value.pointer (some (aB l_v 3 (Int.toNat ↑k)))) (ad (α:=(Int)×(List Int)×(List Bd)) (xs:=l) (v:=l_v) (i:=↑k) eb rfl rfl (Rl.ca hs528) rfl (by omega) (by omega)) ?_
       refine⟨hs528.same,?_⟩
       refine ht (v:=Value.pointer (some ⟨(aB l_v 3 (Int.toNat ↑k)).block,(aB l_v 3 (Int.toNat ↑k)).off+0,none⟩)) 4 rfl hs528.same (λw' hw'=>aI fK rfl rfl rfl rfl) ?_
       obtain⟨v529,v530,ce531,⟨r532,r533⟩⟩:=cD (r:=(k:Int)) Rl (by omega) (by omega)
       refine ht (v:=vi ((gI l ↑k).1)) 5 rfl hs528.same (λw' hw'=>bg (n:=(Int.toNat ↑k)) ah rfl (ce531 _ w' (bI rfl) hw') (by decide) rfl) (az 17 rfl (by kernel_rfl) rfl (aK (α:=Bd) (xs:=([])) (ys:=((gI l ↑k).2.2)) g523 (J:=is 2) (S:=is 2) (2,0) rfl jr dC (by decide) rfl rfl rfl Ow.nil (r437.ca hs528) (by decide) (by(simp;omega)) ?_))
       intro g535 w536 v537 ch538 o539
       have hs540:=hs528.seq (ch538.l rfl)
       refine⟨hs540.same,?_⟩
       refine ht (v:=vg [vi ((gI l ↑k).1),v525,v537]) 18 rfl hs540.same (λw' hw'=>bh (vs:=[(0,vi ((gI l ↑k).1)),(1,v525),(2,v537)]) rfl (by rw[Sl.form o527.flat,Sl.form o539.flat];kernel_rfl)) (az 19 rfl (by kernel_rfl) rfl ?_)
       replace o527:=o527.ce ch538
       obtain⟨c541,hv542⟩:=dc (u:=v525) (aG o527.flat)
       obtain⟨c543,hv544⟩:=dc (u:=v537) (aG o539.flat)
       refine ar (α:=Int×Vc×Vc) g535 (is 3) (is 3) (3,0) rfl [(((gI l ↑k).1),c541,c543)] eb bT (by decide) (by decide) (vs:=[(0,vg [vi ((gI l ↑k).1),v525,v537])]) rfl rfl (.cons (by rw[<-hv542,<-hv544];rfl) .nil) ?_
       intro g545 w546 v547 ch548 o549
       have hs550:=hs540.seq (ch548.n)
       refine⟨hs550.same,?_⟩
       refine az 20 rfl (by kernel_rfl) rfl ?_
       have C551:=cg [1,2] (ch5.n.seq ((ch526.l rfl).seq ((ch538.l rfl).seq ch548.n)))
       replace o_out:=o_out.ca C551
       replace o527:=o527.cn ch548
       replace o539:=o539.cn ch548
       refine ch hv542 hv544 (xs:=out) (k:=4) (γ:=g545) eb bT rfl rfl rfl o_out (o549.flat) o527 o539 rfl rfl (by decide) (by omega) ?_
       intro g552 w553 v554 ch555 o556
       replace ch555:=ch555.ll (L':=[1,2,4]) rfl
       clear o_out o527 o539
       have hs557:=hs550.seq (ch555.ll rfl)
       refine⟨hs557.same,?_⟩
       refine ht (v:=v554) 21 rfl hs557.same (λw' hw'=>bm rfl) (bP (by kernel_rfl) ?_)
       have C558:=cg [1,2,4] (ch5.n.seq ((ch526.l rfl).seq ((ch538.l rfl).seq (ch548.n.seq (ch555.ll rfl)))))
       exact mid (v554,g552) _ _ ⟨bH.ca C558,zs0,rfl,zs4,(Rl.ca hs557),o556⟩
      ·
       refine aK (α:=Bd) (xs:=([])) (ys:=((gI l ↑k).2.2)) g523 (J:=is 2) (S:=is 2) (2,0) rfl jr dC (by decide) rfl rfl rfl Ow.nil (r437.ca hs528) (by decide) (by(simp;omega)) ?_
       intro g559 w560 v561 ch562 o563
       have hs564:=hs528.seq (ch562.l rfl)
       refine⟨hs564.same,?_⟩
       refine az 3 rfl (by kernel_rfl) rfl (aj (v:=Value.pointer (some (aB l_v 3 (Int.toNat ↑k)))) (ad (α:=(Int)×(List Int)×(List Bd)) (xs:=l) (v:=l_v) (i:=↑k) eb rfl rfl (Rl.ca hs564) rfl (by omega) (by omega)) ?_)
       refine⟨hs564.same,?_⟩
       refine ht (v:=Value.pointer (some ⟨(aB l_v 3 (Int.toNat ↑k)).block,(aB l_v 3 (Int.toNat ↑k)).off+0,none⟩)) 4 rfl hs564.same (λw' hw'=>aI fK rfl rfl rfl rfl) ?_
       obtain⟨v565,v566,ce567,⟨r568,r569⟩⟩:=cD (r:=(k:Int)) Rl (by omega) (by omega)
       refine ht (v:=vi ((gI l ↑k).1)) 5 rfl hs564.same (λw' hw'=>bg (n:=(Int.toNat ↑k)) ah rfl (ce567 _ w' (bI rfl) hw') (by decide) rfl) (ht (v:=vg [vi ((gI l ↑k).1),v525,v561]) 18 rfl hs564.same (λw' hw'=>bh (vs:=[(0,vi ((gI l ↑k).1)),(1,v525),(2,v561)]) rfl (by rw[Sl.form o527.flat,Sl.form o563.flat];kernel_rfl)) (az 19 rfl (by kernel_rfl) rfl ?_))
       replace o527:=o527.ce ch562
       obtain⟨c571,hv572⟩:=dc (u:=v525) (aG o527.flat)
       obtain⟨c573,hv574⟩:=dc (u:=v561) (aG o563.flat)
       refine ar (α:=Int×Vc×Vc) g559 (is 3) (is 3) (3,0) rfl [(((gI l ↑k).1),c571,c573)] eb bT (by decide) (by decide) (vs:=[(0,vg [vi ((gI l ↑k).1),v525,v561])]) rfl rfl (.cons (by rw[<-hv572,<-hv574];rfl) .nil) ?_
       intro g575 w576 v577 ch578 o579
       have hs580:=hs564.seq (ch578.n)
       refine⟨hs580.same,?_⟩
       refine az 20 rfl (by kernel_rfl) rfl ?_
       have C581:=cg [1,2] (ch5.n.seq ((ch526.l rfl).seq ((ch562.l rfl).seq ch578.n)))
       replace o_out:=o_out.ca C581
       replace o527:=o527.cn ch578
       replace o563:=o563.cn ch578
       refine ch hv572 hv574 (xs:=out) (k:=4) (γ:=g575) eb bT rfl rfl rfl o_out (o579.flat) o527 o563 rfl rfl (by decide) (by omega) ?_
       intro g582 w583 v584 ch585 o586
       replace ch585:=ch585.ll (L':=[1,2,4]) rfl
       clear o_out o527 o563
       have hs587:=hs580.seq (ch585.ll rfl)
       refine⟨hs587.same,?_⟩
       refine ht (v:=v584) 21 rfl hs587.same (λw' hw'=>bm rfl) (bP (by kernel_rfl) ?_)
       have C588:=cg [1,2,4] (ch5.n.seq ((ch526.l rfl).seq ((ch562.l rfl).seq (ch578.n.seq (ch585.ll rfl)))))
       exact mid (v584,g582) _ _ ⟨bH.ca C588,zs0,rfl,zs4,(Rl.ca hs587),o586⟩
  clear Rl o_out bH
  rintro⟨v50,g591⟩ f589 w590 ⟨bH,zs0,zs3,zs4,Rl,o52⟩
  refine ak (a6 rfl (mz zs4 (lx (aS (m:=↑k) (n:=1) rfl rfl (by omega)) (ai ((k:Int)+1) (ab ?_)))))
  refine back3 (v50,(out++[(((gI l ↑k).1),(gI l ↑k).2.1,(gI l ↑k).2.2)]),k+1,g591) _ _ ⟨bH,zs0,zs3,rfl,Rl,o52,by omega,?_⟩ ?_
  · show(out++[(((gI l ↑k).1),(gI l ↑k).2.1,(gI l ↑k).2.2)])=l.take (k+1)
    exact uf ho ‹_›
  · show Int.toNat (_-_)<Int.toNat (_-_)
    omega
 refine ag rfl (df p3) (aO rfl (a7 (a6 rfl (mz zs3 (ma out_v (ab (au (vs:=[out_v]) Tryz.func13 (.tmp rfl .nil) ?_)))))))
 have e0:(out:List ((Int)×(List Int)×(List Bd)))=(l):=by
   (rw[ho,List.take_of_length_le (by omega)])
 exact⟨(fin w0 g3 (λn=>if n=4 then 1 else 0),out_v),(congrArg (a₁:=out) (λ(z0:List ((Int)×(List Int)×(List Bd)))=>Ending.returned (out_v)) e0),bH.fresh _,(e0▸(o_out.glue (γ:=c0) (ren:=(λn=>if n=4 then 1 else 0)) (k:=1) bH.col rfl rfl))⟩
end TL
