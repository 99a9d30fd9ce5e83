import Derived.Test.YtmaclbnodbcniaaFmTlP3
import Derived.Test.YtmaclbnodbcniaaFmTlFwA
import Derived.Test.YtmaclbnodbcniaaProg
import Derived.Test.YtmaclbnodbcniaaFmTlAli
set_option linter.all false
set_option maxRecDepth 20000
namespace TL
open Go Go.Proofs
theorem oy:Try.prog.follows .mixedOrders=true:=by kernel_rfl
theorem du:Tp Try.prog 25 true 3 56 (.agg #[.int .i64 0,.slice none 0 0,.slice none 0 0]):=Tp.of (by kernel_rfl)
set_option maxHeartbeats 8000000 in
theorem pA(w0:World)(t:(Int)×(List ((Int)×(Int)×(Int)×(Int)))×(List Int))(t_v t_v1:Value)(ht_v:Ro w0 t_v t.2.1)(ht_v1:Ro w0 t_v1 t.2.2)(hlen:t.2.1.length<=1048576)(hlen2:t.2.2.length<=1048576):
    Calls Try.prog 11 #[vg [vi t.1,t_v,t_v1]] w0 (λee w=>∃xx:aG×Value×Value,ee= .returned ((λ⟨δ,rv0,rv1⟩=>vg [vi t.1,rv0,rv1]) xx)/\(λ(⟨δ,rv0,rv1⟩:aG×Value×Value) (w:World)=>jY w0 δ w/\Ow δ (is 1) (is 1) w (db rv0) (t.2.1++[((-7:Int),(0:Int),(0:Int),(0:Int))])/\Ow δ (is 2) (is 2) w (db rv1) (t.2.2++[(-7:Int)])) xx w):=by
 refine aC Try.func11 rfl nq ?_
 have bH:=b9.start w0
 have Rt:=ht_v.sl
 have r_t_v1:=ht_v1.sl
 refine a9 (a6 rfl (cQ rfl (d4 c0 (is 1) (1,0) rfl rfl ?_)))
 intro g4 w1 b3 ch2 bx5
 replace bx5:Bx g4 (is 1) w1 b3 [vi t.1,t_v,t_v1]:=bx5
 refine lo (cd g4 (is 2) (2,0) rfl du ?_)
 intro g9 w6 b8 ch7 bx10
 replace bx10:Bx g9 (is 2) w6 b8 [vi 0,vn,vn]:=bx10
 refine af (a9 ?_)
 refine ie (σ:=Value×Value×aG) (λ⟨v30,v50,gq⟩ f w=>b9 w0 gq w/\f 2=vp b8 0/\Sl gq (is 0) w t_v t.2.1/\Sl gq (is 0) w t_v1 t.2.2/\Ow gq (is 3) (is 3) w v30 (t.2.1++[(-7,0,0,0)])/\Sl gq (is 3) w (bu v30 4 (Int.toNat 0) (Int.toNat (t.2.1.length:Int))) (List.drop (Int.toNat 0) (List.take (Int.toNat (t.2.1.length:Int)) (t.2.1++[(-7,0,0,0)])))/\Ow gq (is 5) (is 5) w v50 (t.2.2++[-7])/\Sl gq (is 5) w (bu v50 1 (Int.toNat 0) (Int.toNat (t.2.2.length:Int))) (List.drop (Int.toNat 0) (List.take (Int.toNat (t.2.2.length:Int)) (t.2.2++[-7])))/\Bx gq (is 2) w b8 [vi t.1,(bu v30 4 (Int.toNat 0) (Int.toNat (t.2.1.length:Int))),(bu v50 1 (Int.toNat 0) (Int.toNat (t.2.2.length:Int)))]) g9 (inl [2,3,5]) oy ?_ ?_
 ·
  intro mid
  intro w12 ch11
  refine ht 0 rfl (bZ.refl _ _ _) (λw' hw'=>a7 cP rfl rfl rfl rfl) ?_
  replace bx5:=(bx5.cn ch7).cn ch11
  refine ht 1 rfl (bZ.refl _ _ _) (λw' hw'=>a8 ae rfl (bx5.chg hw' (dF rfl)) rfl) (ht 2 rfl (bZ.refl _ _ _) (λw' hw'=>a7 cP rfl rfl rfl rfl) (ht 3 rfl (bZ.refl _ _ _) (λw' hw'=>a8 bT rfl (bx5.chg hw' (dF rfl)) rfl) (ht (v:=vg [vi (-7),vi 0,vi 0,vi 0]) 5 rfl (bZ.refl _ _ _) (λw' hw'=>bp (vs:=[(0,vi (-7))]) rfl (by kernel_rfl)) (ht 8 rfl (bZ.refl _ _ _) (λw' hw'=>a7 cP rfl rfl rfl rfl) (ht 9 rfl (bZ.refl _ _ _) (λw' hw'=>a8 bT rfl (bx5.chg hw' (dF rfl)) rfl) ?_)))))
  have C13:=cg [] (ch2.n.seq (ch7.n.seq ch11.n))
  replace Rt:=Rt.ca C13
  have len14:=(Rt).small
  refine ht 10 rfl (bZ.refl _ _ _) (λw' hw'=>ba dB rfl Rt) (ht 12 rfl (bZ.refl _ _ _) (λw' hw'=>a7 cP rfl rfl rfl rfl) (ht 13 rfl (bZ.refl _ _ _) (λw' hw'=>a8 ao rfl (bx5.chg hw' (dF rfl)) rfl) (ht 17 rfl (bZ.refl _ _ _) (λw' hw'=>a7 cP rfl rfl rfl rfl) (ht 18 rfl (bZ.refl _ _ _) (λw' hw'=>a8 ao rfl (bx5.chg hw' (dF rfl)) rfl) ?_))))
  replace r_t_v1:=r_t_v1.ca C13
  have len15:=(r_t_v1).small
  refine ht 19 rfl (bZ.refl _ _ _) (λw' hw'=>ba aW rfl r_t_v1) ?_
  refine dN 4 [6,15] (by kernel_rfl) ⟨dR 4 rfl (by kernel_rfl) rfl ?_,dR 6 rfl (by kernel_rfl) rfl ?_,dR 15 rfl (by kernel_rfl) rfl ?_,trivial⟩
  ·
   refine aA (α:=(Int)×(Int)×(Int)×(Int)) (xs:=([])) (ys:=t.2.1) g9 (J:=is 3) (S:=is 3) (3,0) rfl dB bz (by decide) rfl rfl rfl Ow.nil Rt (by decide) (by(simp;omega)) ?_
   intro g16 w17 v18 ch19 o20
   replace o20:Ow g16 (is 3) (is 3) w17 v18 t.2.1:=o20
   have hs21:bZ (inl [2,3,5]) _ _ _ _:=ch19.l rfl
   refine⟨hs21.same,?_⟩
   refine dN 6 [15] (by kernel_rfl) ⟨dR 6 rfl (by kernel_rfl) rfl ?_,dR 15 rfl (by kernel_rfl) rfl ?_,trivial⟩
   ·
    refine aw (α:=(Int)×(Int)×(Int)×(Int)) g16 (is 4) (is 4) (4,0) rfl [(-7,0,0,0)] dB bz (by decide) (by decide) (vs:=[(0,vg [vi (-7),vi 0,vi 0,vi 0])]) rfl rfl (.cons rfl .nil) ?_
    intro g22 w23 v24 ch25 o26
    have hs27:=hs21.seq (ch25.n)
    refine⟨hs27.same,?_⟩
    refine dN 7 [15] (by kernel_rfl) ⟨dR 7 rfl (by kernel_rfl) rfl ?_,dR 15 rfl (by kernel_rfl) rfl ?_,trivial⟩
    ·
     replace o20:=o20.cn ch25
     refine aA (α:=(Int)×(Int)×(Int)×(Int)) (xs:=t.2.1) (ys:=([(-7,0,0,0)])) g22 (J:=is 3) (S:=is 3) (3,0) rfl dB bz (by decide) rfl rfl rfl o20 o26.flat (by decide) (by(simp;omega)) ?_
     intro g28 w29 v30 ch31 o32
     clear o20
     have hs33:=hs27.seq (ch31.l rfl)
     refine⟨hs33.same,?_⟩
     refine ht (v:=(bu v30 4 (Int.toNat 0) (Int.toNat (t.2.1.length:Int)))) 11 rfl hs33.same (λw' hw'=>cr (v:=v30) (l:=0) (h:=(t.2.1.length:Int)) dB rfl rfl o32.flat (.inr ⟨rfl,rfl⟩) (.inl (congrArg some rfl)) (by omega) (by omega) (by(simp only[List.length_append,List.length_cons,List.length_nil];omega))) ?_
     have r35:=cT o32.flat (show Int.toNat 0<=Int.toNat (t.2.1.length:Int) by omega) (show Int.toNat (t.2.1.length:Int)<=List.length _ by(simp only[List.length_append,List.length_cons,List.length_nil];omega))
     refine dN 14 [15] (by kernel_rfl) ⟨dR 14 rfl (by kernel_rfl) rfl ?_,dR 15 rfl (by kernel_rfl) rfl ?_,trivial⟩
     ·
      refine aA (α:=Int) (xs:=([])) (ys:=t.2.2) g28 (J:=is 5) (S:=is 5) (5,0) rfl aW ae (by decide) rfl rfl rfl Ow.nil (r_t_v1.ca hs33) (by decide) (by(simp;omega)) ?_
      intro g36 w37 v38 ch39 o40
      replace o40:Ow g36 (is 5) (is 5) w37 v38 t.2.2:=o40
      have hs41:=hs33.seq (ch39.l rfl)
      refine⟨hs41.same,?_⟩
      refine bL 15 rfl (by kernel_rfl) rfl (aw (α:=Int) g36 (is 6) (is 6) (6,0) rfl [-7] aW ae (by decide) (by decide) (vs:=[(0,vi (-7))]) rfl rfl (.cons rfl .nil) ?_)
      intro g42 w43 v44 ch45 o46
      have hs47:=hs41.seq (ch45.n)
      refine⟨hs47.same,?_⟩
      refine bL 16 rfl (by kernel_rfl) rfl ?_
      replace o40:=o40.cn ch45
      refine aA (α:=Int) (xs:=t.2.2) (ys:=([-7])) g42 (J:=is 5) (S:=is 5) (5,0) rfl aW ae (by decide) rfl rfl rfl o40 o46.flat (by decide) (by(simp;omega)) ?_
      intro g48 w49 v50 ch51 o52
      clear o40
      have hs53:=hs47.seq (ch51.l rfl)
      refine⟨hs53.same,?_⟩
      refine ht (v:=(bu v50 1 (Int.toNat 0) (Int.toNat (t.2.2.length:Int)))) 20 rfl hs53.same (λw' hw'=>cr (v:=v50) (l:=0) (h:=(t.2.2.length:Int)) aW rfl rfl o52.flat (.inr ⟨rfl,rfl⟩) (.inl (congrArg some rfl)) (by omega) (by omega) (by(simp only[List.length_append,List.length_cons,List.length_nil];omega))) ?_
      have r55:=cT o52.flat (show Int.toNat 0<=Int.toNat (t.2.2.length:Int) by omega) (show Int.toNat (t.2.2.length:Int)<=List.length _ by(simp only[List.length_append,List.length_cons,List.length_nil];omega))
      refine ht (v:=vg [vi t.1,(bu v30 4 (Int.toNat 0) (Int.toNat (t.2.1.length:Int))),(bu v50 1 (Int.toNat 0) (Int.toNat (t.2.2.length:Int)))]) 21 rfl hs53.same (λw' hw'=>bp (vs:=[(0,vi t.1),(1,(bu v30 4 (Int.toNat 0) (Int.toNat (t.2.1.length:Int)))),(2,(bu v50 1 (Int.toNat 0) (Int.toNat (t.2.2.length:Int))))]) rfl (by erw [Sl.form r35,Sl.form r55];kernel_rfl)) (bL 22 rfl (by kernel_rfl) rfl ?_)
      have C59:=cg [3,5] (ch11.n.seq ((ch19.l rfl).seq (ch25.n.seq ((ch31.l rfl).seq ((ch39.l rfl).seq (ch45.n.seq (ch51.l rfl)))))))
      have C60:=cg [5] ((ch39.l rfl).seq (ch45.n.seq (ch51.l rfl)))
      replace bx10:=bx10.ca C59
      replace r35:=r35.ca C60
      refine aR (cs':=[vi t.1,(bu v30 4 (Int.toNat 0) (Int.toNat (t.2.1.length:Int))),(bu v50 1 (Int.toNat 0) (Int.toNat (t.2.2.length:Int)))]) du rfl rfl bx10 rfl nq (AllOne.all (.cons rfl (.cons (aZ r35) (.cons (aZ r55) .nil)))) rfl ?_
      intro w56 ch57 bx58
      clear bx10
      have hs61:=hs53.seq (ch57.l rfl)
      refine⟨hs61.same,?_⟩
      refine dV (by kernel_rfl) ?_
      have C62:=cg [2,3,5] (ch2.n.seq (ch7.n.seq (ch11.n.seq ((ch19.l rfl).seq (ch25.n.seq ((ch31.l rfl).seq ((ch39.l rfl).seq (ch45.n.seq ((ch51.l rfl).seq (ch57.l rfl))))))))))
      have C63:=cg [2,5] ((ch39.l rfl).seq (ch45.n.seq ((ch51.l rfl).seq (ch57.l rfl))))
      exact mid (v30,v50,g48) _ _ ⟨bH.ca C62,rfl,(Rt.ca hs61),(r_t_v1.ca hs61),o32.ca C63,r35.ce ch57,o52.ce ch57,r55.ce ch57,bx58⟩
     ·
      refine aw (α:=Int) g28 (is 6) (is 6) (6,0) rfl [-7] aW ae (by decide) (by decide) (vs:=[(0,vi (-7))]) rfl rfl (.cons rfl .nil) ?_
      intro g64 w65 v66 ch67 o68
      have hs69:=hs33.seq (ch67.n)
      refine⟨hs69.same,?_⟩
      refine bL 14 rfl (by kernel_rfl) rfl (aA (α:=Int) (xs:=([])) (ys:=t.2.2) g64 (J:=is 5) (S:=is 5) (5,0) rfl aW ae (by decide) rfl rfl rfl Ow.nil (r_t_v1.ca hs69) (by decide) (by(simp;omega)) ?_)
      intro g70 w71 v72 ch73 o74
      replace o74:Ow g70 (is 5) (is 5) w71 v72 t.2.2:=o74
      have hs75:=hs69.seq (ch73.l rfl)
      refine⟨hs75.same,?_⟩
      refine bL 16 rfl (by kernel_rfl) rfl ?_
      replace o68:=o68.ce ch73
      refine aA (α:=Int) (xs:=t.2.2) (ys:=([-7])) g70 (J:=is 5) (S:=is 5) (5,0) rfl aW ae (by decide) rfl rfl rfl o74 o68.flat (by decide) (by(simp;omega)) ?_
      intro g76 w77 v78 ch79 o80
      clear o74
      have hs81:=hs75.seq (ch79.l rfl)
      refine⟨hs81.same,?_⟩
      refine ht (v:=(bu v78 1 (Int.toNat 0) (Int.toNat (t.2.2.length:Int)))) 20 rfl hs81.same (λw' hw'=>cr (v:=v78) (l:=0) (h:=(t.2.2.length:Int)) aW rfl rfl o80.flat (.inr ⟨rfl,rfl⟩) (.inl (congrArg some rfl)) (by omega) (by omega) (by(simp only[List.length_append,List.length_cons,List.length_nil];omega))) ?_
      have r83:=cT o80.flat (show Int.toNat 0<=Int.toNat (t.2.2.length:Int) by omega) (show Int.toNat (t.2.2.length:Int)<=List.length _ by(simp only[List.length_append,List.length_cons,List.length_nil];omega))
      refine ht (v:=vg [vi t.1,(bu v30 4 (Int.toNat 0) (Int.toNat (t.2.1.length:Int))),(bu v78 1 (Int.toNat 0) (Int.toNat (t.2.2.length:Int)))]) 21 rfl hs81.same (λw' hw'=>bp (vs:=[(0,vi t.1),(1,(bu v30 4 (Int.toNat 0) (Int.toNat (t.2.1.length:Int)))),(2,(bu v78 1 (Int.toNat 0) (Int.toNat (t.2.2.length:Int))))]) rfl (by erw [Sl.form r35,Sl.form r83];kernel_rfl)) (bL 22 rfl (by kernel_rfl) rfl ?_)
      have C87:=cg [3,5] (ch11.n.seq ((ch19.l rfl).seq (ch25.n.seq ((ch31.l rfl).seq (ch67.n.seq ((ch73.l rfl).seq (ch79.l rfl)))))))
      have C88:=cg [5] (ch67.n.seq ((ch73.l rfl).seq (ch79.l rfl)))
      replace bx10:=bx10.ca C87
      replace r35:=r35.ca C88
      refine aR (cs':=[vi t.1,(bu v30 4 (Int.toNat 0) (Int.toNat (t.2.1.length:Int))),(bu v78 1 (Int.toNat 0) (Int.toNat (t.2.2.length:Int)))]) du rfl rfl bx10 rfl nq (AllOne.all (.cons rfl (.cons (aZ r35) (.cons (aZ r83) .nil)))) rfl ?_
      intro w84 ch85 bx86
      clear bx10
      have hs89:=hs81.seq (ch85.l rfl)
      refine⟨hs89.same,?_⟩
      refine dV (by kernel_rfl) ?_
      have C90:=cg [2,3,5] (ch2.n.seq (ch7.n.seq (ch11.n.seq ((ch19.l rfl).seq (ch25.n.seq ((ch31.l rfl).seq (ch67.n.seq ((ch73.l rfl).seq ((ch79.l rfl).seq (ch85.l rfl))))))))))
      have C91:=cg [2,5] (ch67.n.seq ((ch73.l rfl).seq ((ch79.l rfl).seq (ch85.l rfl))))
      exact mid (v30,v78,g76) _ _ ⟨bH.ca C90,rfl,(Rt.ca hs89),(r_t_v1.ca hs89),o32.ca C91,r35.ce ch85,o80.ce ch85,r83.ce ch85,bx86⟩
    ·
     refine aw (α:=Int) g22 (is 6) (is 6) (6,0) rfl [-7] aW ae (by decide) (by decide) (vs:=[(0,vi (-7))]) rfl rfl (.cons rfl .nil) ?_
     intro g92 w93 v94 ch95 o96
     have hs97:=hs27.seq (ch95.n)
     refine⟨hs97.same,?_⟩
     refine bL 7 rfl (by kernel_rfl) rfl ?_
     replace o26:=o26.cn ch95
     replace o20:=(o20.cn ch25).cn ch95
     refine aA (α:=(Int)×(Int)×(Int)×(Int)) (xs:=t.2.1) (ys:=([(-7,0,0,0)])) g92 (J:=is 3) (S:=is 3) (3,0) rfl dB bz (by decide) rfl rfl rfl o20 o26.flat (by decide) (by(simp;omega)) ?_
     intro g98 w99 v100 ch101 o102
     clear o20
     have hs103:=hs97.seq (ch101.l rfl)
     refine⟨hs103.same,?_⟩
     refine ht (v:=(bu v100 4 (Int.toNat 0) (Int.toNat (t.2.1.length:Int)))) 11 rfl hs103.same (λw' hw'=>cr (v:=v100) (l:=0) (h:=(t.2.1.length:Int)) dB rfl rfl o102.flat (.inr ⟨rfl,rfl⟩) (.inl (congrArg some rfl)) (by omega) (by omega) (by(simp only[List.length_append,List.length_cons,List.length_nil];omega))) ?_
     have r105:=cT o102.flat (show Int.toNat 0<=Int.toNat (t.2.1.length:Int) by omega) (show Int.toNat (t.2.1.length:Int)<=List.length _ by(simp only[List.length_append,List.length_cons,List.length_nil];omega))
     refine bL 14 rfl (by kernel_rfl) rfl (aA (α:=Int) (xs:=([])) (ys:=t.2.2) g98 (J:=is 5) (S:=is 5) (5,0) rfl aW ae (by decide) rfl rfl rfl Ow.nil (r_t_v1.ca hs103) (by decide) (by(simp;omega)) ?_)
     intro g106 w107 v108 ch109 o110
     replace o110:Ow g106 (is 5) (is 5) w107 v108 t.2.2:=o110
     have hs111:=hs103.seq (ch109.l rfl)
     refine⟨hs111.same,?_⟩
     refine bL 16 rfl (by kernel_rfl) rfl ?_
     replace o96:=(o96.ce ch101).ce ch109
     refine aA (α:=Int) (xs:=t.2.2) (ys:=([-7])) g106 (J:=is 5) (S:=is 5) (5,0) rfl aW ae (by decide) rfl rfl rfl o110 o96.flat (by decide) (by(simp;omega)) ?_
     intro g112 w113 v114 ch115 o116
     clear o110
     have hs117:=hs111.seq (ch115.l rfl)
     refine⟨hs117.same,?_⟩
     refine ht (v:=(bu v114 1 (Int.toNat 0) (Int.toNat (t.2.2.length:Int)))) 20 rfl hs117.same (λw' hw'=>cr (v:=v114) (l:=0) (h:=(t.2.2.length:Int)) aW rfl rfl o116.flat (.inr ⟨rfl,rfl⟩) (.inl (congrArg some rfl)) (by omega) (by omega) (by(simp only[List.length_append,List.length_cons,List.length_nil];omega))) ?_
     have r119:=cT o116.flat (show Int.toNat 0<=Int.toNat (t.2.2.length:Int) by omega) (show Int.toNat (t.2.2.length:Int)<=List.length _ by(simp only[List.length_append,List.length_cons,List.length_nil];omega))
     refine ht (v:=vg [vi t.1,(bu v100 4 (Int.toNat 0) (Int.toNat (t.2.1.length:Int))),(bu v114 1 (Int.toNat 0) (Int.toNat (t.2.2.length:Int)))]) 21 rfl hs117.same (λw' hw'=>bp (vs:=[(0,vi t.1),(1,(bu v100 4 (Int.toNat 0) (Int.toNat (t.2.1.length:Int)))),(2,(bu v114 1 (Int.toNat 0) (Int.toNat (t.2.2.length:Int))))]) rfl (by erw [Sl.form r105,Sl.form r119];kernel_rfl)) (bL 22 rfl (by kernel_rfl) rfl ?_)
     have C123:=cg [3,5] (ch11.n.seq ((ch19.l rfl).seq (ch25.n.seq (ch95.n.seq ((ch101.l rfl).seq ((ch109.l rfl).seq (ch115.l rfl)))))))
     replace bx10:=bx10.ca C123
     replace r105:=(r105.ce ch109).ce ch115
     refine aR (cs':=[vi t.1,(bu v100 4 (Int.toNat 0) (Int.toNat (t.2.1.length:Int))),(bu v114 1 (Int.toNat 0) (Int.toNat (t.2.2.length:Int)))]) du rfl rfl bx10 rfl nq (AllOne.all (.cons rfl (.cons (aZ r105) (.cons (aZ r119) .nil)))) rfl ?_
     intro w120 ch121 bx122
     clear bx10
     have hs124:=hs117.seq (ch121.l rfl)
     refine⟨hs124.same,?_⟩
     refine dV (by kernel_rfl) ?_
     have C125:=cg [2,3,5] (ch2.n.seq (ch7.n.seq (ch11.n.seq ((ch19.l rfl).seq (ch25.n.seq (ch95.n.seq ((ch101.l rfl).seq ((ch109.l rfl).seq ((ch115.l rfl).seq (ch121.l rfl))))))))))
     have C126:=cg [2,5] ((ch109.l rfl).seq ((ch115.l rfl).seq (ch121.l rfl)))
     exact mid (v100,v114,g112) _ _ ⟨bH.ca C125,rfl,(Rt.ca hs124),(r_t_v1.ca hs124),o102.ca C126,r105.ce ch121,o116.ce ch121,r119.ce ch121,bx122⟩
   ·
    refine aw (α:=Int) g16 (is 6) (is 6) (6,0) rfl [-7] aW ae (by decide) (by decide) (vs:=[(0,vi (-7))]) rfl rfl (.cons rfl .nil) ?_
    intro g127 w128 v129 ch130 o131
    have hs132:=hs21.seq (ch130.n)
    refine⟨hs132.same,?_⟩
    refine bL 6 rfl (by kernel_rfl) rfl (aw (α:=(Int)×(Int)×(Int)×(Int)) g127 (is 4) (is 4) (4,0) rfl [(-7,0,0,0)] dB bz (by decide) (by decide) (vs:=[(0,vg [vi (-7),vi 0,vi 0,vi 0])]) rfl rfl (.cons rfl .nil) ?_)
    intro g133 w134 v135 ch136 o137
    have hs138:=hs132.seq (ch136.n)
    refine⟨hs138.same,?_⟩
    refine bL 7 rfl (by kernel_rfl) rfl ?_
    replace o20:=(o20.cn ch130).cn ch136
    refine aA (α:=(Int)×(Int)×(Int)×(Int)) (xs:=t.2.1) (ys:=([(-7,0,0,0)])) g133 (J:=is 3) (S:=is 3) (3,0) rfl dB bz (by decide) rfl rfl rfl o20 o137.flat (by decide) (by(simp;omega)) ?_
    intro g139 w140 v141 ch142 o143
    clear o20
    have hs144:=hs138.seq (ch142.l rfl)
    refine⟨hs144.same,?_⟩
    refine ht (v:=(bu v141 4 (Int.toNat 0) (Int.toNat (t.2.1.length:Int)))) 11 rfl hs144.same (λw' hw'=>cr (v:=v141) (l:=0) (h:=(t.2.1.length:Int)) dB rfl rfl o143.flat (.inr ⟨rfl,rfl⟩) (.inl (congrArg some rfl)) (by omega) (by omega) (by(simp only[List.length_append,List.length_cons,List.length_nil];omega))) ?_
    have r146:=cT o143.flat (show Int.toNat 0<=Int.toNat (t.2.1.length:Int) by omega) (show Int.toNat (t.2.1.length:Int)<=List.length _ by(simp only[List.length_append,List.length_cons,List.length_nil];omega))
    refine bL 14 rfl (by kernel_rfl) rfl (aA (α:=Int) (xs:=([])) (ys:=t.2.2) g139 (J:=is 5) (S:=is 5) (5,0) rfl aW ae (by decide) rfl rfl rfl Ow.nil (r_t_v1.ca hs144) (by decide) (by(simp;omega)) ?_)
    intro g147 w148 v149 ch150 o151
    replace o151:Ow g147 (is 5) (is 5) w148 v149 t.2.2:=o151
    have hs152:=hs144.seq (ch150.l rfl)
    refine⟨hs152.same,?_⟩
    refine bL 16 rfl (by kernel_rfl) rfl ?_
    have C153:=cg [3,5] (ch136.n.seq ((ch142.l rfl).seq (ch150.l rfl)))
    replace o131:=o131.ca C153
    refine aA (α:=Int) (xs:=t.2.2) (ys:=([-7])) g147 (J:=is 5) (S:=is 5) (5,0) rfl aW ae (by decide) rfl rfl rfl o151 o131.flat (by decide) (by(simp;omega)) ?_
    intro g154 w155 v156 ch157 o158
    clear o151
    have hs159:=hs152.seq (ch157.l rfl)
    refine⟨hs159.same,?_⟩
    refine ht (v:=(bu v156 1 (Int.toNat 0) (Int.toNat (t.2.2.length:Int)))) 20 rfl hs159.same (λw' hw'=>cr (v:=v156) (l:=0) (h:=(t.2.2.length:Int)) aW rfl rfl o158.flat (.inr ⟨rfl,rfl⟩) (.inl (congrArg some rfl)) (by omega) (by omega) (by(simp only[List.length_append,List.length_cons,List.length_nil];omega))) ?_
    have r161:=cT o158.flat (show Int.toNat 0<=Int.toNat (t.2.2.length:Int) by omega) (show Int.toNat (t.2.2.length:Int)<=List.length _ by(simp only[List.length_append,List.length_cons,List.length_nil];omega))
    refine ht (v:=vg [vi t.1,(bu v141 4 (Int.toNat 0) (Int.toNat (t.2.1.length:Int))),(bu v156 1 (Int.toNat 0) (Int.toNat (t.2.2.length:Int)))]) 21 rfl hs159.same (λw' hw'=>bp (vs:=[(0,vi t.1),(1,(bu v141 4 (Int.toNat 0) (Int.toNat (t.2.1.length:Int)))),(2,(bu v156 1 (Int.toNat 0) (Int.toNat (t.2.2.length:Int))))]) rfl (by erw [Sl.form r146,Sl.form r161];kernel_rfl)) (bL 22 rfl (by kernel_rfl) rfl ?_)
    have C165:=cg [3,5] (ch11.n.seq ((ch19.l rfl).seq (ch130.n.seq (ch136.n.seq ((ch142.l rfl).seq ((ch150.l rfl).seq (ch157.l rfl)))))))
    replace bx10:=bx10.ca C165
    replace r146:=(r146.ce ch150).ce ch157
    refine aR (cs':=[vi t.1,(bu v141 4 (Int.toNat 0) (Int.toNat (t.2.1.length:Int))),(bu v156 1 (Int.toNat 0) (Int.toNat (t.2.2.length:Int)))]) du rfl rfl bx10 rfl nq (AllOne.all (.cons rfl (.cons (aZ r146) (.cons (aZ r161) .nil)))) rfl ?_
    intro w162 ch163 bx164
    clear bx10
    have hs166:=hs159.seq (ch163.l rfl)
    refine⟨hs166.same,?_⟩
    refine dV (by kernel_rfl) ?_
    have C167:=cg [2,3,5] (ch2.n.seq (ch7.n.seq (ch11.n.seq ((ch19.l rfl).seq (ch130.n.seq (ch136.n.seq ((ch142.l rfl).seq ((ch150.l rfl).seq ((ch157.l rfl).seq (ch163.l rfl))))))))))
    have C168:=cg [2,5] ((ch150.l rfl).seq ((ch157.l rfl).seq (ch163.l rfl)))
    exact mid (v141,v156,g154) _ _ ⟨bH.ca C167,rfl,(Rt.ca hs166),(r_t_v1.ca hs166),o143.ca C168,r146.ce ch163,o158.ce ch163,r161.ce ch163,bx164⟩
  ·
   refine aw (α:=(Int)×(Int)×(Int)×(Int)) g9 (is 4) (is 4) (4,0) rfl [(-7,0,0,0)] dB bz (by decide) (by decide) (vs:=[(0,vg [vi (-7),vi 0,vi 0,vi 0])]) rfl rfl (.cons rfl .nil) ?_
   intro g169 w170 v171 ch172 o173
   have hs174:bZ (inl [2,3,5]) _ _ _ _:=ch172.n
   refine⟨hs174.same,?_⟩
   refine dN 4 [15] (by kernel_rfl) ⟨dR 4 rfl (by kernel_rfl) rfl ?_,dR 15 rfl (by kernel_rfl) rfl ?_,trivial⟩
   ·
    refine aA (α:=(Int)×(Int)×(Int)×(Int)) (xs:=([])) (ys:=t.2.1) g169 (J:=is 3) (S:=is 3) (3,0) rfl dB bz (by decide) rfl rfl rfl Ow.nil (Rt.ca hs174) (by decide) (by(simp;omega)) ?_
    intro g175 w176 v177 ch178 o179
    replace o179:Ow g175 (is 3) (is 3) w176 v177 t.2.1:=o179
    have hs180:=hs174.seq (ch178.l rfl)
    refine⟨hs180.same,?_⟩
    refine dN 7 [15] (by kernel_rfl) ⟨dR 7 rfl (by kernel_rfl) rfl ?_,dR 15 rfl (by kernel_rfl) rfl ?_,trivial⟩
    ·
     replace o173:=o173.ce ch178
     refine aA (α:=(Int)×(Int)×(Int)×(Int)) (xs:=t.2.1) (ys:=([(-7,0,0,0)])) g175 (J:=is 3) (S:=is 3) (3,0) rfl dB bz (by decide) rfl rfl rfl o179 o173.flat (by decide) (by(simp;omega)) ?_
     intro g181 w182 v183 ch184 o185
     clear o179
     have hs186:=hs180.seq (ch184.l rfl)
     refine⟨hs186.same,?_⟩
     refine ht (v:=(bu v183 4 (Int.toNat 0) (Int.toNat (t.2.1.length:Int)))) 11 rfl hs186.same (λw' hw'=>cr (v:=v183) (l:=0) (h:=(t.2.1.length:Int)) dB rfl rfl o185.flat (.inr ⟨rfl,rfl⟩) (.inl (congrArg some rfl)) (by omega) (by omega) (by(simp only[List.length_append,List.length_cons,List.length_nil];omega))) ?_
     have r188:=cT o185.flat (show Int.toNat 0<=Int.toNat (t.2.1.length:Int) by omega) (show Int.toNat (t.2.1.length:Int)<=List.length _ by(simp only[List.length_append,List.length_cons,List.length_nil];omega))
     refine dN 14 [15] (by kernel_rfl) ⟨dR 14 rfl (by kernel_rfl) rfl ?_,dR 15 rfl (by kernel_rfl) rfl ?_,trivial⟩
     ·
      refine aA (α:=Int) (xs:=([])) (ys:=t.2.2) g181 (J:=is 5) (S:=is 5) (5,0) rfl aW ae (by decide) rfl rfl rfl Ow.nil (r_t_v1.ca hs186) (by decide) (by(simp;omega)) ?_
      intro g189 w190 v191 ch192 o193
      replace o193:Ow g189 (is 5) (is 5) w190 v191 t.2.2:=o193
      have hs194:=hs186.seq (ch192.l rfl)
      refine⟨hs194.same,?_⟩
      refine bL 15 rfl (by kernel_rfl) rfl (aw (α:=Int) g189 (is 6) (is 6) (6,0) rfl [-7] aW ae (by decide) (by decide) (vs:=[(0,vi (-7))]) rfl rfl (.cons rfl .nil) ?_)
      intro g195 w196 v197 ch198 o199
      have hs200:=hs194.seq (ch198.n)
      refine⟨hs200.same,?_⟩
      refine bL 16 rfl (by kernel_rfl) rfl ?_
      replace o193:=o193.cn ch198
      refine aA (α:=Int) (xs:=t.2.2) (ys:=([-7])) g195 (J:=is 5) (S:=is 5) (5,0) rfl aW ae (by decide) rfl rfl rfl o193 o199.flat (by decide) (by(simp;omega)) ?_
      intro g201 w202 v203 ch204 o205
      clear o193
      have hs206:=hs200.seq (ch204.l rfl)
      refine⟨hs206.same,?_⟩
      refine ht (v:=(bu v203 1 (Int.toNat 0) (Int.toNat (t.2.2.length:Int)))) 20 rfl hs206.same (λw' hw'=>cr (v:=v203) (l:=0) (h:=(t.2.2.length:Int)) aW rfl rfl o205.flat (.inr ⟨rfl,rfl⟩) (.inl (congrArg some rfl)) (by omega) (by omega) (by(simp only[List.length_append,List.length_cons,List.length_nil];omega))) ?_
      have r208:=cT o205.flat (show Int.toNat 0<=Int.toNat (t.2.2.length:Int) by omega) (show Int.toNat (t.2.2.length:Int)<=List.length _ by(simp only[List.length_append,List.length_cons,List.length_nil];omega))
      refine ht (v:=vg [vi t.1,(bu v183 4 (Int.toNat 0) (Int.toNat (t.2.1.length:Int))),(bu v203 1 (Int.toNat 0) (Int.toNat (t.2.2.length:Int)))]) 21 rfl hs206.same (λw' hw'=>bp (vs:=[(0,vi t.1),(1,(bu v183 4 (Int.toNat 0) (Int.toNat (t.2.1.length:Int)))),(2,(bu v203 1 (Int.toNat 0) (Int.toNat (t.2.2.length:Int))))]) rfl (by erw [Sl.form r188,Sl.form r208];kernel_rfl)) (bL 22 rfl (by kernel_rfl) rfl ?_)
      have C212:=cg [3,5] (ch11.n.seq (ch172.n.seq ((ch178.l rfl).seq ((ch184.l rfl).seq ((ch192.l rfl).seq (ch198.n.seq (ch204.l rfl)))))))
      have C213:=cg [5] ((ch192.l rfl).seq (ch198.n.seq (ch204.l rfl)))
      replace bx10:=bx10.ca C212
      replace r188:=r188.ca C213
      refine aR (cs':=[vi t.1,(bu v183 4 (Int.toNat 0) (Int.toNat (t.2.1.length:Int))),(bu v203 1 (Int.toNat 0) (Int.toNat (t.2.2.length:Int)))]) du rfl rfl bx10 rfl nq (AllOne.all (.cons rfl (.cons (aZ r188) (.cons (aZ r208) .nil)))) rfl ?_
      intro w209 ch210 bx211
      clear bx10
      have hs214:=hs206.seq (ch210.l rfl)
      refine⟨hs214.same,?_⟩
      refine dV (by kernel_rfl) ?_
      have C215:=cg [2,3,5] (ch2.n.seq (ch7.n.seq (ch11.n.seq (ch172.n.seq ((ch178.l rfl).seq ((ch184.l rfl).seq ((ch192.l rfl).seq (ch198.n.seq ((ch204.l rfl).seq (ch210.l rfl))))))))))
      have C216:=cg [2,5] ((ch192.l rfl).seq (ch198.n.seq ((ch204.l rfl).seq (ch210.l rfl))))
      exact mid (v183,v203,g201) _ _ ⟨bH.ca C215,rfl,(Rt.ca hs214),(r_t_v1.ca hs214),o185.ca C216,r188.ce ch210,o205.ce ch210,r208.ce ch210,bx211⟩
     ·
      refine aw (α:=Int) g181 (is 6) (is 6) (6,0) rfl [-7] aW ae (by decide) (by decide) (vs:=[(0,vi (-7))]) rfl rfl (.cons rfl .nil) ?_
      intro g217 w218 v219 ch220 o221
      have hs222:=hs186.seq (ch220.n)
      refine⟨hs222.same,?_⟩
      refine bL 14 rfl (by kernel_rfl) rfl (aA (α:=Int) (xs:=([])) (ys:=t.2.2) g217 (J:=is 5) (S:=is 5) (5,0) rfl aW ae (by decide) rfl rfl rfl Ow.nil (r_t_v1.ca hs222) (by decide) (by(simp;omega)) ?_)
      intro g223 w224 v225 ch226 o227
      replace o227:Ow g223 (is 5) (is 5) w224 v225 t.2.2:=o227
      have hs228:=hs222.seq (ch226.l rfl)
      refine⟨hs228.same,?_⟩
      refine bL 16 rfl (by kernel_rfl) rfl ?_
      replace o221:=o221.ce ch226
      refine aA (α:=Int) (xs:=t.2.2) (ys:=([-7])) g223 (J:=is 5) (S:=is 5) (5,0) rfl aW ae (by decide) rfl rfl rfl o227 o221.flat (by decide) (by(simp;omega)) ?_
      intro g229 w230 v231 ch232 o233
      clear o227
      have hs234:=hs228.seq (ch232.l rfl)
      refine⟨hs234.same,?_⟩
      refine ht (v:=(bu v231 1 (Int.toNat 0) (Int.toNat (t.2.2.length:Int)))) 20 rfl hs234.same (λw' hw'=>cr (v:=v231) (l:=0) (h:=(t.2.2.length:Int)) aW rfl rfl o233.flat (.inr ⟨rfl,rfl⟩) (.inl (congrArg some rfl)) (by omega) (by omega) (by(simp only[List.length_append,List.length_cons,List.length_nil];omega))) ?_
      have r236:=cT o233.flat (show Int.toNat 0<=Int.toNat (t.2.2.length:Int) by omega) (show Int.toNat (t.2.2.length:Int)<=List.length _ by(simp only[List.length_append,List.length_cons,List.length_nil];omega))
      refine ht (v:=vg [vi t.1,(bu v183 4 (Int.toNat 0) (Int.toNat (t.2.1.length:Int))),(bu v231 1 (Int.toNat 0) (Int.toNat (t.2.2.length:Int)))]) 21 rfl hs234.same (λw' hw'=>bp (vs:=[(0,vi t.1),(1,(bu v183 4 (Int.toNat 0) (Int.toNat (t.2.1.length:Int)))),(2,(bu v231 1 (Int.toNat 0) (Int.toNat (t.2.2.length:Int))))]) rfl (by erw [Sl.form r188,Sl.form r236];kernel_rfl)) (bL 22 rfl (by kernel_rfl) rfl ?_)
      have C240:=cg [3,5] (ch11.n.seq (ch172.n.seq ((ch178.l rfl).seq ((ch184.l rfl).seq (ch220.n.seq ((ch226.l rfl).seq (ch232.l rfl)))))))
      have C241:=cg [5] (ch220.n.seq ((ch226.l rfl).seq (ch232.l rfl)))
      replace bx10:=bx10.ca C240
      replace r188:=r188.ca C241
      refine aR (cs':=[vi t.1,(bu v183 4 (Int.toNat 0) (Int.toNat (t.2.1.length:Int))),(bu v231 1 (Int.toNat 0) (Int.toNat (t.2.2.length:Int)))]) du rfl rfl bx10 rfl nq (AllOne.all (.cons rfl (.cons (aZ r188) (.cons (aZ r236) .nil)))) rfl ?_
      intro w237 ch238 bx239
      clear bx10
      have hs242:=hs234.seq (ch238.l rfl)
      refine⟨hs242.same,?_⟩
      refine dV (by kernel_rfl) ?_
      have C243:=cg [2,3,5] (ch2.n.seq (ch7.n.seq (ch11.n.seq (ch172.n.seq ((ch178.l rfl).seq ((ch184.l rfl).seq (ch220.n.seq ((ch226.l rfl).seq ((ch232.l rfl).seq (ch238.l rfl))))))))))
      have C244:=cg [2,5] (ch220.n.seq ((ch226.l rfl).seq ((ch232.l rfl).seq (ch238.l rfl))))
      exact mid (v183,v231,g229) _ _ ⟨bH.ca C243,rfl,(Rt.ca hs242),(r_t_v1.ca hs242),o185.ca C244,r188.ce ch238,o233.ce ch238,r236.ce ch238,bx239⟩
    ·
     refine aw (α:=Int) g175 (is 6) (is 6) (6,0) rfl [-7] aW ae (by decide) (by decide) (vs:=[(0,vi (-7))]) rfl rfl (.cons rfl .nil) ?_
     intro g245 w246 v247 ch248 o249
     have hs250:=hs180.seq (ch248.n)
     refine⟨hs250.same,?_⟩
     refine bL 7 rfl (by kernel_rfl) rfl ?_
     replace o173:=(o173.ce ch178).cn ch248
     replace o179:=o179.cn ch248
     refine aA (α:=(Int)×(Int)×(Int)×(Int)) (xs:=t.2.1) (ys:=([(-7,0,0,0)])) g245 (J:=is 3) (S:=is 3) (3,0) rfl dB bz (by decide) rfl rfl rfl o179 o173.flat (by decide) (by(simp;omega)) ?_
     intro g251 w252 v253 ch254 o255
     clear o179
     have hs256:=hs250.seq (ch254.l rfl)
     refine⟨hs256.same,?_⟩
     refine ht (v:=(bu v253 4 (Int.toNat 0) (Int.toNat (t.2.1.length:Int)))) 11 rfl hs256.same (λw' hw'=>cr (v:=v253) (l:=0) (h:=(t.2.1.length:Int)) dB rfl rfl o255.flat (.inr ⟨rfl,rfl⟩) (.inl (congrArg some rfl)) (by omega) (by omega) (by(simp only[List.length_append,List.length_cons,List.length_nil];omega))) ?_
     have r258:=cT o255.flat (show Int.toNat 0<=Int.toNat (t.2.1.length:Int) by omega) (show Int.toNat (t.2.1.length:Int)<=List.length _ by(simp only[List.length_append,List.length_cons,List.length_nil];omega))
     refine bL 14 rfl (by kernel_rfl) rfl (aA (α:=Int) (xs:=([])) (ys:=t.2.2) g251 (J:=is 5) (S:=is 5) (5,0) rfl aW ae (by decide) rfl rfl rfl Ow.nil (r_t_v1.ca hs256) (by decide) (by(simp;omega)) ?_)
     intro g259 w260 v261 ch262 o263
     replace o263:Ow g259 (is 5) (is 5) w260 v261 t.2.2:=o263
     have hs264:=hs256.seq (ch262.l rfl)
     refine⟨hs264.same,?_⟩
     refine bL 16 rfl (by kernel_rfl) rfl ?_
     replace o249:=(o249.ce ch254).ce ch262
     refine aA (α:=Int) (xs:=t.2.2) (ys:=([-7])) g259 (J:=is 5) (S:=is 5) (5,0) rfl aW ae (by decide) rfl rfl rfl o263 o249.flat (by decide) (by(simp;omega)) ?_
     intro g265 w266 v267 ch268 o269
     clear o263
     have hs270:=hs264.seq (ch268.l rfl)
     refine⟨hs270.same,?_⟩
     refine ht (v:=(bu v267 1 (Int.toNat 0) (Int.toNat (t.2.2.length:Int)))) 20 rfl hs270.same (λw' hw'=>cr (v:=v267) (l:=0) (h:=(t.2.2.length:Int)) aW rfl rfl o269.flat (.inr ⟨rfl,rfl⟩) (.inl (congrArg some rfl)) (by omega) (by omega) (by(simp only[List.length_append,List.length_cons,List.length_nil];omega))) ?_
     have r272:=cT o269.flat (show Int.toNat 0<=Int.toNat (t.2.2.length:Int) by omega) (show Int.toNat (t.2.2.length:Int)<=List.length _ by(simp only[List.length_append,List.length_cons,List.length_nil];omega))
     refine ht (v:=vg [vi t.1,(bu v253 4 (Int.toNat 0) (Int.toNat (t.2.1.length:Int))),(bu v267 1 (Int.toNat 0) (Int.toNat (t.2.2.length:Int)))]) 21 rfl hs270.same (λw' hw'=>bp (vs:=[(0,vi t.1),(1,(bu v253 4 (Int.toNat 0) (Int.toNat (t.2.1.length:Int)))),(2,(bu v267 1 (Int.toNat 0) (Int.toNat (t.2.2.length:Int))))]) rfl (by erw [Sl.form r258,Sl.form r272];kernel_rfl)) (bL 22 rfl (by kernel_rfl) rfl ?_)
     have C276:=cg [3,5] (ch11.n.seq (ch172.n.seq ((ch178.l rfl).seq (ch248.n.seq ((ch254.l rfl).seq ((ch262.l rfl).seq (ch268.l rfl)))))))
     replace bx10:=bx10.ca C276
     replace r258:=(r258.ce ch262).ce ch268
     refine aR (cs':=[vi t.1,(bu v253 4 (Int.toNat 0) (Int.toNat (t.2.1.length:Int))),(bu v267 1 (Int.toNat 0) (Int.toNat (t.2.2.length:Int)))]) du rfl rfl bx10 rfl nq (AllOne.all (.cons rfl (.cons (aZ r258) (.cons (aZ r272) .nil)))) rfl ?_
     intro w273 ch274 bx275
     clear bx10
     have hs277:=hs270.seq (ch274.l rfl)
     refine⟨hs277.same,?_⟩
     refine dV (by kernel_rfl) ?_
     have C278:=cg [2,3,5] (ch2.n.seq (ch7.n.seq (ch11.n.seq (ch172.n.seq ((ch178.l rfl).seq (ch248.n.seq ((ch254.l rfl).seq ((ch262.l rfl).seq ((ch268.l rfl).seq (ch274.l rfl))))))))))
     have C279:=cg [2,5] ((ch262.l rfl).seq ((ch268.l rfl).seq (ch274.l rfl)))
     exact mid (v253,v267,g265) _ _ ⟨bH.ca C278,rfl,(Rt.ca hs277),(r_t_v1.ca hs277),o255.ca C279,r258.ce ch274,o269.ce ch274,r272.ce ch274,bx275⟩
   ·
    refine aw (α:=Int) g169 (is 6) (is 6) (6,0) rfl [-7] aW ae (by decide) (by decide) (vs:=[(0,vi (-7))]) rfl rfl (.cons rfl .nil) ?_
    intro g280 w281 v282 ch283 o284
    have hs285:=hs174.seq (ch283.n)
    refine⟨hs285.same,?_⟩
    refine bL 4 rfl (by kernel_rfl) rfl (aA (α:=(Int)×(Int)×(Int)×(Int)) (xs:=([])) (ys:=t.2.1) g280 (J:=is 3) (S:=is 3) (3,0) rfl dB bz (by decide) rfl rfl rfl Ow.nil (Rt.ca hs285) (by decide) (by(simp;omega)) ?_)
    intro g286 w287 v288 ch289 o290
    replace o290:Ow g286 (is 3) (is 3) w287 v288 t.2.1:=o290
    have hs291:=hs285.seq (ch289.l rfl)
    refine⟨hs291.same,?_⟩
    refine bL 7 rfl (by kernel_rfl) rfl ?_
    replace o173:=(o173.cn ch283).ce ch289
    refine aA (α:=(Int)×(Int)×(Int)×(Int)) (xs:=t.2.1) (ys:=([(-7,0,0,0)])) g286 (J:=is 3) (S:=is 3) (3,0) rfl dB bz (by decide) rfl rfl rfl o290 o173.flat (by decide) (by(simp;omega)) ?_
    intro g292 w293 v294 ch295 o296
    clear o290
    have hs297:=hs291.seq (ch295.l rfl)
    refine⟨hs297.same,?_⟩
    refine ht (v:=(bu v294 4 (Int.toNat 0) (Int.toNat (t.2.1.length:Int)))) 11 rfl hs297.same (λw' hw'=>cr (v:=v294) (l:=0) (h:=(t.2.1.length:Int)) dB rfl rfl o296.flat (.inr ⟨rfl,rfl⟩) (.inl (congrArg some rfl)) (by omega) (by omega) (by(simp only[List.length_append,List.length_cons,List.length_nil];omega))) ?_
    have r299:=cT o296.flat (show Int.toNat 0<=Int.toNat (t.2.1.length:Int) by omega) (show Int.toNat (t.2.1.length:Int)<=List.length _ by(simp only[List.length_append,List.length_cons,List.length_nil];omega))
    refine bL 14 rfl (by kernel_rfl) rfl (aA (α:=Int) (xs:=([])) (ys:=t.2.2) g292 (J:=is 5) (S:=is 5) (5,0) rfl aW ae (by decide) rfl rfl rfl Ow.nil (r_t_v1.ca hs297) (by decide) (by(simp;omega)) ?_)
    intro g300 w301 v302 ch303 o304
    replace o304:Ow g300 (is 5) (is 5) w301 v302 t.2.2:=o304
    have hs305:=hs297.seq (ch303.l rfl)
    refine⟨hs305.same,?_⟩
    refine bL 16 rfl (by kernel_rfl) rfl ?_
    have C306:=cg [3,5] ((ch289.l rfl).seq ((ch295.l rfl).seq (ch303.l rfl)))
    replace o284:=o284.ca C306
    refine aA (α:=Int) (xs:=t.2.2) (ys:=([-7])) g300 (J:=is 5) (S:=is 5) (5,0) rfl aW ae (by decide) rfl rfl rfl o304 o284.flat (by decide) (by(simp;omega)) ?_
    intro g307 w308 v309 ch310 o311
    clear o304
    have hs312:=hs305.seq (ch310.l rfl)
    refine⟨hs312.same,?_⟩
    refine ht (v:=(bu v309 1 (Int.toNat 0) (Int.toNat (t.2.2.length:Int)))) 20 rfl hs312.same (λw' hw'=>cr (v:=v309) (l:=0) (h:=(t.2.2.length:Int)) aW rfl rfl o311.flat (.inr ⟨rfl,rfl⟩) (.inl (congrArg some rfl)) (by omega) (by omega) (by(simp only[List.length_append,List.length_cons,List.length_nil];omega))) ?_
    have r314:=cT o311.flat (show Int.toNat 0<=Int.toNat (t.2.2.length:Int) by omega) (show Int.toNat (t.2.2.length:Int)<=List.length _ by(simp only[List.length_append,List.length_cons,List.length_nil];omega))
    refine ht (v:=vg [vi t.1,(bu v294 4 (Int.toNat 0) (Int.toNat (t.2.1.length:Int))),(bu v309 1 (Int.toNat 0) (Int.toNat (t.2.2.length:Int)))]) 21 rfl hs312.same (λw' hw'=>bp (vs:=[(0,vi t.1),(1,(bu v294 4 (Int.toNat 0) (Int.toNat (t.2.1.length:Int)))),(2,(bu v309 1 (Int.toNat 0) (Int.toNat (t.2.2.length:Int))))]) rfl (by erw [Sl.form r299,Sl.form r314];kernel_rfl)) (bL 22 rfl (by kernel_rfl) rfl ?_)
    have C318:=cg [3,5] (ch11.n.seq (ch172.n.seq (ch283.n.seq ((ch289.l rfl).seq ((ch295.l rfl).seq ((ch303.l rfl).seq (ch310.l rfl)))))))
    replace bx10:=bx10.ca C318
    replace r299:=(r299.ce ch303).ce ch310
    refine aR (cs':=[vi t.1,(bu v294 4 (Int.toNat 0) (Int.toNat (t.2.1.length:Int))),(bu v309 1 (Int.toNat 0) (Int.toNat (t.2.2.length:Int)))]) du rfl rfl bx10 rfl nq (AllOne.all (.cons rfl (.cons (aZ r299) (.cons (aZ r314) .nil)))) rfl ?_
    intro w315 ch316 bx317
    clear bx10
    have hs319:=hs312.seq (ch316.l rfl)
    refine⟨hs319.same,?_⟩
    refine dV (by kernel_rfl) ?_
    have C320:=cg [2,3,5] (ch2.n.seq (ch7.n.seq (ch11.n.seq (ch172.n.seq (ch283.n.seq ((ch289.l rfl).seq ((ch295.l rfl).seq ((ch303.l rfl).seq ((ch310.l rfl).seq (ch316.l rfl))))))))))
    have C321:=cg [2,5] ((ch303.l rfl).seq ((ch310.l rfl).seq (ch316.l rfl)))
    exact mid (v294,v309,g307) _ _ ⟨bH.ca C320,rfl,(Rt.ca hs319),(r_t_v1.ca hs319),o296.ca C321,r299.ce ch316,o311.ce ch316,r314.ce ch316,bx317⟩
  ·
   refine aw (α:=Int) g9 (is 6) (is 6) (6,0) rfl [-7] aW ae (by decide) (by decide) (vs:=[(0,vi (-7))]) rfl rfl (.cons rfl .nil) ?_
   intro g322 w323 v324 ch325 o326
   have hs327:bZ (inl [2,3,5]) _ _ _ _:=ch325.n
   refine⟨hs327.same,?_⟩
   refine dN 4 [6] (by kernel_rfl) ⟨dR 4 rfl (by kernel_rfl) rfl ?_,dR 6 rfl (by kernel_rfl) rfl ?_,trivial⟩
   ·
    refine aA (α:=(Int)×(Int)×(Int)×(Int)) (xs:=([])) (ys:=t.2.1) g322 (J:=is 3) (S:=is 3) (3,0) rfl dB bz (by decide) rfl rfl rfl Ow.nil (Rt.ca hs327) (by decide) (by(simp;omega)) ?_
    intro g328 w329 v330 ch331 o332
    replace o332:Ow g328 (is 3) (is 3) w329 v330 t.2.1:=o332
    have hs333:=hs327.seq (ch331.l rfl)
    refine⟨hs333.same,?_⟩
    refine bL 6 rfl (by kernel_rfl) rfl (aw (α:=(Int)×(Int)×(Int)×(Int)) g328 (is 4) (is 4) (4,0) rfl [(-7,0,0,0)] dB bz (by decide) (by decide) (vs:=[(0,vg [vi (-7),vi 0,vi 0,vi 0])]) rfl rfl (.cons rfl .nil) ?_)
    intro g334 w335 v336 ch337 o338
    have hs339:=hs333.seq (ch337.n)
    refine⟨hs339.same,?_⟩
    refine bL 7 rfl (by kernel_rfl) rfl ?_
    replace o332:=o332.cn ch337
    refine aA (α:=(Int)×(Int)×(Int)×(Int)) (xs:=t.2.1) (ys:=([(-7,0,0,0)])) g334 (J:=is 3) (S:=is 3) (3,0) rfl dB bz (by decide) rfl rfl rfl o332 o338.flat (by decide) (by(simp;omega)) ?_
    intro g340 w341 v342 ch343 o344
    clear o332
    have hs345:=hs339.seq (ch343.l rfl)
    refine⟨hs345.same,?_⟩
    refine ht (v:=(bu v342 4 (Int.toNat 0) (Int.toNat (t.2.1.length:Int)))) 11 rfl hs345.same (λw' hw'=>cr (v:=v342) (l:=0) (h:=(t.2.1.length:Int)) dB rfl rfl o344.flat (.inr ⟨rfl,rfl⟩) (.inl (congrArg some rfl)) (by omega) (by omega) (by(simp only[List.length_append,List.length_cons,List.length_nil];omega))) ?_
    have r347:=cT o344.flat (show Int.toNat 0<=Int.toNat (t.2.1.length:Int) by omega) (show Int.toNat (t.2.1.length:Int)<=List.length _ by(simp only[List.length_append,List.length_cons,List.length_nil];omega))
    refine bL 14 rfl (by kernel_rfl) rfl (aA (α:=Int) (xs:=([])) (ys:=t.2.2) g340 (J:=is 5) (S:=is 5) (5,0) rfl aW ae (by decide) rfl rfl rfl Ow.nil (r_t_v1.ca hs345) (by decide) (by(simp;omega)) ?_)
    intro g348 w349 v350 ch351 o352
    replace o352:Ow g348 (is 5) (is 5) w349 v350 t.2.2:=o352
    have hs353:=hs345.seq (ch351.l rfl)
    refine⟨hs353.same,?_⟩
    refine bL 16 rfl (by kernel_rfl) rfl ?_
    have C354:=cg [3,5] ((ch331.l rfl).seq (ch337.n.seq ((ch343.l rfl).seq (ch351.l rfl))))
    replace o326:=o326.ca C354
    refine aA (α:=Int) (xs:=t.2.2) (ys:=([-7])) g348 (J:=is 5) (S:=is 5) (5,0) rfl aW ae (by decide) rfl rfl rfl o352 o326.flat (by decide) (by(simp;omega)) ?_
    intro g355 w356 v357 ch358 o359
    clear o352
    have hs360:=hs353.seq (ch358.l rfl)
    refine⟨hs360.same,?_⟩
    refine ht (v:=(bu v357 1 (Int.toNat 0) (Int.toNat (t.2.2.length:Int)))) 20 rfl hs360.same (λw' hw'=>cr (v:=v357) (l:=0) (h:=(t.2.2.length:Int)) aW rfl rfl o359.flat (.inr ⟨rfl,rfl⟩) (.inl (congrArg some rfl)) (by omega) (by omega) (by(simp only[List.length_append,List.length_cons,List.length_nil];omega))) ?_
    have r362:=cT o359.flat (show Int.toNat 0<=Int.toNat (t.2.2.length:Int) by omega) (show Int.toNat (t.2.2.length:Int)<=List.length _ by(simp only[List.length_append,List.length_cons,List.length_nil];omega))
    refine ht (v:=vg [vi t.1,(bu v342 4 (Int.toNat 0) (Int.toNat (t.2.1.length:Int))),(bu v357 1 (Int.toNat 0) (Int.toNat (t.2.2.length:Int)))]) 21 rfl hs360.same (λw' hw'=>bp (vs:=[(0,vi t.1),(1,(bu v342 4 (Int.toNat 0) (Int.toNat (t.2.1.length:Int)))),(2,(bu v357 1 (Int.toNat 0) (Int.toNat (t.2.2.length:Int))))]) rfl (by erw [Sl.form r347,Sl.form r362];kernel_rfl)) (bL 22 rfl (by kernel_rfl) rfl ?_)
    have C366:=cg [3,5] (ch11.n.seq (ch325.n.seq ((ch331.l rfl).seq (ch337.n.seq ((ch343.l rfl).seq ((ch351.l rfl).seq (ch358.l rfl)))))))
    replace bx10:=bx10.ca C366
    replace r347:=(r347.ce ch351).ce ch358
    refine aR (cs':=[vi t.1,(bu v342 4 (Int.toNat 0) (Int.toNat (t.2.1.length:Int))),(bu v357 1 (Int.toNat 0) (Int.toNat (t.2.2.length:Int)))]) du rfl rfl bx10 rfl nq (AllOne.all (.cons rfl (.cons (aZ r347) (.cons (aZ r362) .nil)))) rfl ?_
    intro w363 ch364 bx365
    clear bx10
    have hs367:=hs360.seq (ch364.l rfl)
    refine⟨hs367.same,?_⟩
    refine dV (by kernel_rfl) ?_
    have C368:=cg [2,3,5] (ch2.n.seq (ch7.n.seq (ch11.n.seq (ch325.n.seq ((ch331.l rfl).seq (ch337.n.seq ((ch343.l rfl).seq ((ch351.l rfl).seq ((ch358.l rfl).seq (ch364.l rfl))))))))))
    have C369:=cg [2,5] ((ch351.l rfl).seq ((ch358.l rfl).seq (ch364.l rfl)))
    exact mid (v342,v357,g355) _ _ ⟨bH.ca C368,rfl,(Rt.ca hs367),(r_t_v1.ca hs367),o344.ca C369,r347.ce ch364,o359.ce ch364,r362.ce ch364,bx365⟩
   ·
    refine aw (α:=(Int)×(Int)×(Int)×(Int)) g322 (is 4) (is 4) (4,0) rfl [(-7,0,0,0)] dB bz (by decide) (by decide) (vs:=[(0,vg [vi (-7),vi 0,vi 0,vi 0])]) rfl rfl (.cons rfl .nil) ?_
    intro g370 w371 v372 ch373 o374
    have hs375:=hs327.seq (ch373.n)
    refine⟨hs375.same,?_⟩
    refine bL 4 rfl (by kernel_rfl) rfl (aA (α:=(Int)×(Int)×(Int)×(Int)) (xs:=([])) (ys:=t.2.1) g370 (J:=is 3) (S:=is 3) (3,0) rfl dB bz (by decide) rfl rfl rfl Ow.nil (Rt.ca hs375) (by decide) (by(simp;omega)) ?_)
    intro g376 w377 v378 ch379 o380
    replace o380:Ow g376 (is 3) (is 3) w377 v378 t.2.1:=o380
    have hs381:=hs375.seq (ch379.l rfl)
    refine⟨hs381.same,?_⟩
    refine bL 7 rfl (by kernel_rfl) rfl ?_
    replace o374:=o374.ce ch379
    refine aA (α:=(Int)×(Int)×(Int)×(Int)) (xs:=t.2.1) (ys:=([(-7,0,0,0)])) g376 (J:=is 3) (S:=is 3) (3,0) rfl dB bz (by decide) rfl rfl rfl o380 o374.flat (by decide) (by(simp;omega)) ?_
    intro g382 w383 v384 ch385 o386
    clear o380
    have hs387:=hs381.seq (ch385.l rfl)
    refine⟨hs387.same,?_⟩
    refine ht (v:=(bu v384 4 (Int.toNat 0) (Int.toNat (t.2.1.length:Int)))) 11 rfl hs387.same (λw' hw'=>cr (v:=v384) (l:=0) (h:=(t.2.1.length:Int)) dB rfl rfl o386.flat (.inr ⟨rfl,rfl⟩) (.inl (congrArg some rfl)) (by omega) (by omega) (by(simp only[List.length_append,List.length_cons,List.length_nil];omega))) ?_
    have r389:=cT o386.flat (show Int.toNat 0<=Int.toNat (t.2.1.length:Int) by omega) (show Int.toNat (t.2.1.length:Int)<=List.length _ by(simp only[List.length_append,List.length_cons,List.length_nil];omega))
    refine bL 14 rfl (by kernel_rfl) rfl (aA (α:=Int) (xs:=([])) (ys:=t.2.2) g382 (J:=is 5) (S:=is 5) (5,0) rfl aW ae (by decide) rfl rfl rfl Ow.nil (r_t_v1.ca hs387) (by decide) (by(simp;omega)) ?_)
    intro g390 w391 v392 ch393 o394
    replace o394:Ow g390 (is 5) (is 5) w391 v392 t.2.2:=o394
    have hs395:=hs387.seq (ch393.l rfl)
    refine⟨hs395.same,?_⟩
    refine bL 16 rfl (by kernel_rfl) rfl ?_
    have C396:=cg [3,5] (ch373.n.seq ((ch379.l rfl).seq ((ch385.l rfl).seq (ch393.l rfl))))
    replace o326:=o326.ca C396
    refine aA (α:=Int) (xs:=t.2.2) (ys:=([-7])) g390 (J:=is 5) (S:=is 5) (5,0) rfl aW ae (by decide) rfl rfl rfl o394 o326.flat (by decide) (by(simp;omega)) ?_
    intro g397 w398 v399 ch400 o401
    clear o394
    have hs402:=hs395.seq (ch400.l rfl)
    refine⟨hs402.same,?_⟩
    refine ht (v:=(bu v399 1 (Int.toNat 0) (Int.toNat (t.2.2.length:Int)))) 20 rfl hs402.same (λw' hw'=>cr (v:=v399) (l:=0) (h:=(t.2.2.length:Int)) aW rfl rfl o401.flat (.inr ⟨rfl,rfl⟩) (.inl (congrArg some rfl)) (by omega) (by omega) (by(simp only[List.length_append,List.length_cons,List.length_nil];omega))) ?_
    have r404:=cT o401.flat (show Int.toNat 0<=Int.toNat (t.2.2.length:Int) by omega) (show Int.toNat (t.2.2.length:Int)<=List.length _ by(simp only[List.length_append,List.length_cons,List.length_nil];omega))
    refine ht (v:=vg [vi t.1,(bu v384 4 (Int.toNat 0) (Int.toNat (t.2.1.length:Int))),(bu v399 1 (Int.toNat 0) (Int.toNat (t.2.2.length:Int)))]) 21 rfl hs402.same (λw' hw'=>bp (vs:=[(0,vi t.1),(1,(bu v384 4 (Int.toNat 0) (Int.toNat (t.2.1.length:Int)))),(2,(bu v399 1 (Int.toNat 0) (Int.toNat (t.2.2.length:Int))))]) rfl (by erw [Sl.form r389,Sl.form r404];kernel_rfl)) (bL 22 rfl (by kernel_rfl) rfl ?_)
    have C408:=cg [3,5] (ch11.n.seq (ch325.n.seq (ch373.n.seq ((ch379.l rfl).seq ((ch385.l rfl).seq ((ch393.l rfl).seq (ch400.l rfl)))))))
    replace bx10:=bx10.ca C408
    replace r389:=(r389.ce ch393).ce ch400
    refine aR (cs':=[vi t.1,(bu v384 4 (Int.toNat 0) (Int.toNat (t.2.1.length:Int))),(bu v399 1 (Int.toNat 0) (Int.toNat (t.2.2.length:Int)))]) du rfl rfl bx10 rfl nq (AllOne.all (.cons rfl (.cons (aZ r389) (.cons (aZ r404) .nil)))) rfl ?_
    intro w405 ch406 bx407
    clear bx10
    have hs409:=hs402.seq (ch406.l rfl)
    refine⟨hs409.same,?_⟩
    refine dV (by kernel_rfl) ?_
    have C410:=cg [2,3,5] (ch2.n.seq (ch7.n.seq (ch11.n.seq (ch325.n.seq (ch373.n.seq ((ch379.l rfl).seq ((ch385.l rfl).seq ((ch393.l rfl).seq ((ch400.l rfl).seq (ch406.l rfl))))))))))
    have C411:=cg [2,5] ((ch393.l rfl).seq ((ch400.l rfl).seq (ch406.l rfl)))
    exact mid (v384,v399,g397) _ _ ⟨bH.ca C410,rfl,(Rt.ca hs409),(r_t_v1.ca hs409),o386.ca C411,r389.ce ch406,o401.ce ch406,r404.ce ch406,bx407⟩
 clear Rt r_t_v1 bx5 bx10 bH
 rintro⟨v30,v50,g414⟩ f412 w413 ⟨bH,zs2,Rt,r_t_v1,o32,r35,o52,r55,bx58⟩
 refine aF (vs:=[vg [vi t.1,(bu v30 4 (Int.toNat 0) (Int.toNat (t.2.1.length:Int))),(bu v50 1 (Int.toNat 0) (Int.toNat (t.2.2.length:Int)))]]) Try.func11 (.cell zs2 (eL (ds:=[vi t.1,(bu v30 4 (Int.toNat 0) (Int.toNat (t.2.1.length:Int))),(bu v50 1 (Int.toNat 0) (Int.toNat (t.2.2.length:Int)))]) du bx58 rfl rfl) .nil) ?_
 have e0:((t.1,(List.drop (Int.toNat 0) (List.take (Int.toNat (t.2.1.length:Int)) (t.2.1++[(-7,0,0,0)]))),(List.drop (Int.toNat 0) (List.take (Int.toNat (t.2.2.length:Int)) (t.2.2++[-7])))):(Int)×(List ((Int)×(Int)×(Int)×(Int)))×(List Int))=(t):=by
   simp
 exact⟨(fin w0 g414 (λn=>if n=3 then 1 else if n=5 then 2 else 0),(bu v30 4 (Int.toNat 0) (Int.toNat (t.2.1.length:Int))),(bu v50 1 (Int.toNat 0) (Int.toNat (t.2.2.length:Int)))),(congrArg (a₁:=(t.1,(List.drop (Int.toNat 0) (List.take (Int.toNat (t.2.1.length:Int)) (t.2.1++[(-7,0,0,0)]))),(List.drop (Int.toNat 0) (List.take (Int.toNat (t.2.2.length:Int)) (t.2.2++[-7]))))) (λ(z0:(Int)×(List ((Int)×(Int)×(Int)×(Int)))×(List Int))=>Ending.returned (vg [vi z0.1,(bu v30 4 (Int.toNat 0) (Int.toNat (t.2.1.length:Int))),(bu v50 1 (Int.toNat 0) (Int.toNat (t.2.2.length:Int)))])) e0),bH.fresh _,(mT (o32.glue (γ:=c0) (ren:=(λn=>if n=3 then 1 else if n=5 then 2 else 0)) (k:=1) bH.col rfl rfl) (by simp)),(mT (o52.glue (γ:=c0) (ren:=(λn=>if n=3 then 1 else if n=5 then 2 else 0)) (k:=2) bH.col rfl rfl) (by simp))⟩
end TL
