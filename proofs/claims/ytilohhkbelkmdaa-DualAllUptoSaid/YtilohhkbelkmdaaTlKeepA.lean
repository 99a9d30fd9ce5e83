/-
  TlKeepA: the lists of a list kept, one by one, while the list itself stays readable.
  By an AI agent.
-/
import Derived.Test.YtilohhkbelkmdaaTlP3
import Derived.Test.YtilohhkbelkmdaaProg
import Derived.Test.YtilohhkbelkmdaaTlGenR
set_option linter.all false
namespace TL
open Go Go.Proofs
theorem nr : Try.prog.follows .mixedOrders = true := by kernel_rfl
theorem oX : Tp Try.prog 3 false 1 8 (.int .i64 0) := Tp.of (by kernel_rfl)
theorem qc : Tp Try.prog 25 false 1 24 (.slice none 0 0) := Tp.of (by kernel_rfl)
theorem iT : Tp Try.prog 27 false 1 24 (.slice none 0 0) := Tp.of (by kernel_rfl)
theorem wA : Try.f38.body.isNone = false := rfl
theorem vy : (Try.f38.name == "runtime.NumGoroutine") = false := by decide +kernel
theorem wF : Try.f65.body.isNone = false := rfl
theorem wM : (Try.f65.name == "runtime.NumGoroutine") = false := by decide +kernel
theorem nt {J : cv → Prop} {γ γ1 γ2 : aE} {w w1 w2 : World} (h : bq J γ w γ1 w1) (h' : bq J γ1 w1 γ2 w2) : bq J γ w γ2 w2 := h.trans h' fun _ _ h => h.elim id id
theorem rU {J : cv → Prop} {γ γ1 : aE} {w w1 : World} (h : bq no γ w γ1 w1) : bq J γ w γ1 w1 := h.mono fun _ h => h.elim
theorem de {a b : Nat} (h : a ≠ b) : Nat.beq a b = false := by
  cases hb : Nat.beq a b with
  | false => rfl
  | true => exact absurd (Nat.eq_of_beq_eq_true hb) h
set_option maxRecDepth 20000 in
set_option maxHeartbeats 1000000 in
theorem ss {γ : aE} {w : World} {q i k j p bb : Nat} {bl lsv u : Value} {c : Vc} {K : bj} {s : Int} {x : List Int}
    (hbx : Bx γ (is q) w bb [bl, vi s]) (hK : cj γ i w bl K) (hu : Ow γ (row k (j + 1)) (row k (j + 1)) w u x) (hc : c.v = u) (hls : Ow γ (is p) (is p) w lsv [c]) (hj : e8 K s)
    (qi : q ≠ i) (qk : q ≠ k) (ki : k ≠ i) (pq : p ≠ q) (pi : p ≠ i) (pk : p ≠ k) :
    Calls Try.prog 38 (List.toArray [vp bb 0, lsv]) w (fun ee w' => ∃ xx : Value × bj × Int × aE, ee = .returned (vt []) ∧ (bq (jr q i k (j + 1)) γ w xx.2.2.2 w' ∧ Bx xx.2.2.2 (is q) w' bb [xx.1, vi xx.2.2.1] ∧ cj xx.2.2.2 i w' xx.1 xx.2.1 ∧ e8 xx.2.1 xx.2.2.1 ∧ Sl xx.2.2.2 (gv i k (j + 1)) w' u x)) := by
  have hjl := hj.len
  have qi' := de qi
  have iq' := de qi.symm
  have qk' := de qk
  have kq' := de qk.symm
  have ki' := de ki
  have ik' := de ki.symm
  have pq' := de pq
  have pi' := de pi
  have pk' := de pk
  refine az Try.func38 rfl (Nat.le_of_ble_eq_true rfl) (a9 (a8 rfl (ai 0 (aa (ah (fB (a9 (a9 (a8 rfl (mi 0 ?_))))))))))
  refine mv lsv (lx (aO Try.underlying25 rfl hls.flat) (lx (bc (m := 0) (n := 1) rfl rfl) (aa (ae rfl rfl (aj (a9 (ah (a9 ?_))))))))
  refine ku [false, true, false, false, false] (σ := Value × bj × Int × aE) (fun ⟨b0, b1, b2, gq⟩ f w' => f 0 = vp bb 0 ∧ f 1 = lsv ∧ f 4 = vi 0 ∧ bq (jr q i k (j + 1)) γ w gq w' ∧ Bx gq (is q) w' bb [b0, vi b2] ∧ cj gq i w' b0 b1 ∧ Ow gq (is p) (is p) w' lsv [c] ∧ e8 b1 b2 ∧ Sl gq (gv i k (j + 1)) w' u x) ?_ ?_
  ·
   intro mid
   refine ck γ rfl nr (by kernel_rfl) ?_
   intro w1 ch1
   refine qm lsv (qm (vi 0) ?_)
   replace hu := hu.cn ch1
   replace hls := hls.cn ch1
   replace hbx := hbx.cn ch1
   replace hK := hK.cn ch1
   refine qx (fun w' hw' => ab (v := lsv) (i := 0) Try.underlying25 rfl rfl ((jl hls (VcR.consv hc hu.flat.ro VcR.nil)).bel hw') rfl (by omega) (by simp)) (qx (fun w' hw' => aS iT rfl (jE hc (hls.bel hw') rfl)) ?_)
   have len1 := hu.flat.small
   refine qx (fun w' hw' => aO Try.underlying27 rfl (hu.flat.bel hw')) (qm lsv (qm (vi 0) (qx (fun w' hw' => ab (v := lsv) (i := 0) Try.underlying25 rfl rfl ((jl hls (VcR.consv hc hu.flat.ro VcR.nil)).bel hw') rfl (by omega) (by simp)) (qx (fun w' hw' => aS iT rfl (jE hc (hls.bel hw') rfl)) ?_))))
   have cap1 := Sl.cap hu.flat
   refine qv (vi (cz u : Int)) (fun w' hw' => rg Try.underlying27 rfl (hu.flat.bel hw')) (eL (v := vi (min (cz u : Int) ((x.length : Int) + 2000))) rfl (fun w' hw' => aD (vals := [vi (x.length : Int), vi (cz u : Int)]) Try.func65 wF wM rfl) (fun w' hw' => (mC w' (x.length : Int) (cz u : Int) (by omega)).mono fun e w2 h2 => ⟨h2.1, hw'.trans (h2.2.mono hw'.size)⟩) (qv (vi (min (cz u : Int) ((x.length : Int) + 2000))) (fun w' hw' => bz rfl) (cV ?_)))
   intro w2 hc2
   replace hc2 := aG hc2 γ
   replace hu := hu.cn hc2
   replace hls := hls.cn hc2
   replace hbx := hbx.cn hc2
   replace hK := hK.cn hc2
   have C2 : bq (jr q i k (j + 1)) γ w γ w2 := nt (rU ch1) (rU hc2)
   have hleft : Sl γ (gv i k (j + 1)) w2 u x := hu.flat.mono fun c h => .inr (by unfold row at h; subst h; exact ⟨rfl, by omega, Nat.le_refl _⟩)
   refine a9 (a8 rfl (mi (min (cz u : Int) ((x.length : Int) + 2000)) (lx (fW (m := min (cz u : Int) ((x.length : Int) + 2000)) (n := 0) rfl rfl) (mv (Value.bool (decide (0 < (min (cz u : Int) ((x.length : Int) + 2000))))) ?_))))
   by_cases c1 : 0 < (min (cz u : Int) ((x.length : Int) + 2000))
   ·
    refine lv (vp bb 0) (wy (dt c1)) (au rfl) (lv (vp bb 0) (wy (dt c1)) (bA rfl) (lv (vp bb 1) (wy (dt c1)) (ad Try.underlying36 rfl rfl rfl rfl) (lv (vi s) (wy (dt c1)) (af oX rfl hbx rfl) (lv (vi (min (cz u : Int) ((x.length : Int) + 2000))) (wy (dt c1)) (au rfl) (lv (vi (s + (min (cz u : Int) ((x.length : Int) + 2000)))) (wy (dt c1)) (aQ (m := s) (n := min (cz u : Int) ((x.length : Int) + 2000)) rfl rfl (by omega)) ?_)))))
    refine lv (Value.bool (decide ((s + (min (cz u : Int) ((x.length : Int) + 2000))) ≤ 1048576))) (wy (dt c1)) (m7 (m := s + (min (cz u : Int) ((x.length : Int) + 2000))) (n := 1048576) rfl rfl) (lw (Value.bool (decide ((s + (min (cz u : Int) ((x.length : Int) + 2000))) ≤ 1048576))) (aY rfl (dt c1) rfl) (aa ?_))
    by_cases c2 : (s + (min (cz u : Int) ((x.length : Int) + 2000))) ≤ 1048576
    ·
     refine ae rfl (dt c2) (a9 (a8 rfl (mv (vp bb 0) (mv (vp bb 0) (lw (vp bb 0) (bA rfl) (lx (ad Try.underlying36 rfl rfl rfl rfl) (lx (af oX rfl hbx rfl) (mi (min (cz u : Int) ((x.length : Int) + 2000)) (lx (aQ (m := s) (n := min (cz u : Int) ((x.length : Int) + 2000)) rfl rfl (by omega)) ?_)))))))))
     refine lw (vp bb 0) (bA rfl) (lx (ad Try.underlying36 rfl rfl rfl rfl) (lo (aC (cs' := [bl, vi (s + (min (cz u : Int) ((x.length : Int) + 2000)))]) oX rfl rfl hbx rfl (Nat.le_of_ble_eq_true rfl) (AllOne.all (.cons rfl .nil)) rfl ?_)))
     intro w3 ch3 bx3
     clear hbx
     have hrq : ∀ c, row k (j + 1) c → ¬ is q c := iS kq'
     replace hu := hu.chg ch3 hrq hrq
     replace hls := hls.chg ch3 (cY pq') (cY pq')
     replace hK := hK.chg ch3 (cY iq')
     refine aa (ch γ [0, 1, 2, 3, 4, 5, 6, 7, 8, 11, 12] nr ?_)
     intro w4 ch4
     replace hu := hu.cn ch4
     replace hls := hls.cn ch4
     replace hK := hK.cn ch4
     replace bx3 := bx3.cn ch4
     refine xp (v := vp bb 0) 0 rfl (fun w => au rfl) (xp (v := vp bb 0) 1 rfl (fun w => au rfl) (xp (v := vp bb 0) 2 rfl (fun w => bA rfl) (xp 3 rfl (fun w => ad Try.underlying36 rfl rfl rfl rfl) (xh 4 [3, 2, 1, 0, 5, 6, 7, 8, 9] rfl (fun w' hw' => af qc rfl (bx3.bel hw') rfl) (xp (v := lsv) 5 rfl (fun w => au rfl) (xp (v := vi 0) 6 rfl (fun w => au rfl) (xv 7 [6, 5, 4, 3, 2, 1, 0] rfl (ab (v := lsv) (i := 0) Try.underlying25 rfl rfl (jl hls (VcR.consv hc hu.flat.ro VcR.nil)) rfl (by omega) (by simp)) (xv 8 [7, 6, 5, 4, 3, 2, 1, 0] rfl (aS iT rfl (jE hc hls rfl)) (bM 9 rfl (by kernel_rfl) rfl ?_)))))))))
     refine aA (α := Vc) γ (is p) (is p) (p, 0) rfl [c] Try.underlying25 iT (by decide) (by decide) (vs := [(0, u)]) rfl rfl (.cons (em hc (c6 hu.flat)) .nil) ?_
     intro g5 w5 v5 ch5 o5
     refine bM 10 rfl (by kernel_rfl) rfl ?_
     replace hu := hu.cn ch5
     replace hls := hls.cn ch5
     replace hK := hK.cn ch5
     replace bx3 := bx3.cn ch5
     refine mQ hc (α := Int) (xss := K) (i := i) (γ := g5) Try.underlying25 iT rfl rfl rfl hK o5.flat hu ki' (by decide) (by omega) ?_
     intro g6 w6 v6 ch6 o6 r6
     refine xp (v := vp bb 0) 11 rfl (fun w => bA rfl) (xp 12 rfl (fun w => ad Try.underlying36 rfl rfl rfl rfl) (bM 13 rfl (by kernel_rfl) rfl ?_))
     have hn6 : ∀ {m : Nat}, m ≠ i → m ≠ k → ∀ c, is m c → ¬ (row i 0 c ∨ row k (j + 1) c) := fun {m} h1 h2 c h3 h4 => by
       have e3 : c.1 = m := h3
       rcases h4 with h4 | h4
       · exact h1 (e3.symm.trans (cS c h4))
       · exact h2 (e3.symm.trans (cS c h4))
     replace bx3 := bx3.chg ch6 (hn6 qi qk)
     replace hls := hls.chg ch6 (hn6 pi pk) (hn6 pi pk)
     refine cK (cs' := [v6, vi (s + (min (cz u : Int) ((x.length : Int) + 2000)))]) qc rfl rfl bx3 (c6 o6.sl) (Nat.le_of_ble_eq_true rfl) (bm o6.sl) rfl ?_
     intro w7 ch7 bx7
     refine cO (by kernel_rfl) (ao ?_)
     refine mid (v6, K ++ [x], s + (min (cz u : Int) ((x.length : Int) + 2000)), g6) _ _ ⟨rfl, rfl, rfl, ?_, bx7, o6.chg ch7 (cY iq'), hls.chg ch7 (cY pq') (cY pq'), e8.add hj c1 c2 (by omega), r6.chg ch7 ?_⟩
     · refine nt C2 (nt (ch3.mono fun c h => .inl h) (nt (rU ch4) (nt (rU ch5) (nt (ch6.mono fun c h => ?_) (ch7.mono fun c h => .inl h)))))
       rcases h with h | h
       · unfold row at h; subst h; exact .inr (.inl ⟨rfl, rfl⟩)
       · unfold row at h; subst h; exact .inr (.inr ⟨rfl, rfl⟩)
     · intro c h1 h2
       have e2 : c.1 = q := h2
       rcases h1 with h1 | h1
       · exact qi (e2.symm.trans h1.1)
       · exact qk (e2.symm.trans h1.1)
    refine ag rfl (df c2) (aj (ao ?_))
    exact mid (bl, K, s, γ) _ _ ⟨rfl, rfl, rfl, C2, hbx, hK, hls, hj, hleft⟩
   refine al (wn (df c1)) (al (wn (df c1)) (al (wn (df c1)) (al (wn (df c1)) (al (wn (df c1)) (al (wn (df c1)) (al (wn (df c1)) (lw (Value.bool false) (b7 rfl (df c1) rfl) (aa (ag rfl rfl ?_)))))))))
   refine aj (ao ?_)
   exact mid (bl, K, s, γ) _ _ ⟨rfl, rfl, rfl, C2, hbx, hK, hls, hj, hleft⟩
  clear hbx hK hu hls hj
  rintro ⟨b0, b1, b2, g1⟩ f1 w1 ⟨z0, z1, z4, hch, hbx, hK, hls, hj, hs⟩
  refine a8 rfl (lw (vi 0) (au z4) (lx (aQ (m := 0) (n := 1) rfl rfl (by omega)) (ai 1 (aa (dF (a9 (a9 (a8 rfl (mi 1 ?_)))))))))
  refine lw (lsv) (au z1) (lx (aO Try.underlying25 rfl hls.flat) (lx (bc (m := 1) (n := 1) rfl rfl) (aa (ag rfl rfl (aI rfl (gN (vs := []) Try.func38 .nil ?_))))))
  exact ⟨(b0, b1, b2, g1), rfl, hch, hbx, hK, hj, hs⟩
set_option maxRecDepth 20000 in
set_option maxHeartbeats 1000000 in
theorem fx {γ : aE} {w : World} {q i k bb : Nat} {bl l_v : Value} {K : bj} {s : Int} {xss : bj}
    (hbx : Bx γ (is q) w bb [bl, vi s]) (hK : cj γ i w bl K) (hl : cj γ k w l_v xss) (hj : e8 K s) (hlen : xss.length ≤ 1000000)
    (qi : Nat.beq q i = false) (qk : Nat.beq q k = false) (ki : Nat.beq k i = false) :
    Calls Try.prog 37 (List.toArray [vp bb 0, l_v]) w (fun ee w' => ∃ xx : Value × bj × Int × aE, ee = .returned ((fun _ => vt []) xx) ∧ (fun (xx : Value × bj × Int × aE) (w' : World) => bq (j3 q i k) γ w xx.2.2.2 w' ∧ Bx xx.2.2.2 (is q) w' bb [xx.1, vi xx.2.2.1] ∧ cj xx.2.2.2 i w' xx.1 xx.2.1 ∧ e8 xx.2.1 xx.2.2.1 ∧ Sl xx.2.2.2 (lS k i) w' l_v xss) xx w') := by
  obtain ⟨us, hg⟩ := iL.start (i := i) hl
  have qi0 := dY qi
  have qk0 := dY qk
  have ki0 := dY ki
  refine az Try.func37 rfl (Nat.le_of_ble_eq_true rfl) (a9 (a8 rfl (ai 0 (aa (ah (aN (σ := Nat × Value × bj × Int × aE) (fun ⟨j, b0, b1, b2, gq⟩ f w' => f 0 = vp bb 0 ∧ f 1 = l_v ∧ f 4 = vi (j : Int) ∧ j ≤ xss.length ∧ bq (j3 q i k) γ w gq w' ∧ Bx gq (is q) w' bb [b0, vi b2] ∧ cj gq i w' b0 b1 ∧ e8 b1 b2 ∧ iL gq i k j w' l_v us xss) (fun ⟨j, _⟩ => xss.length - j) (0, bl, K, s, γ) ⟨rfl, rfl, rfl, Nat.zero_le _, bq.refl _ _ _, hbx, hK, hj, hg⟩ ?_))))))
  clear hbx hK hl hj hg
  rintro ⟨j, b0, b1, b2, g1⟩ f1 w1 ⟨z0, z1, z4, hjl, hch, hbx, hK, hj, hg⟩ back
  have hul := hg.len
  have hsm := hg.heads.flat.small
  refine a9 (a9 (a8 rfl (lw (vi (j : Int)) (au z4) (lw (l_v) (au z1) (lx (aO Try.underlying25 rfl hg.heads.flat) (lx (bc (m := (j : Int)) (n := (us.length : Int)) rfl rfl) (aa ?_)))))))
  by_cases hc : (j : Int) < (us.length : Int)
  ·
   have hjx : j < xss.length := by omega
   have hju : j < us.length := by omega
   refine ae rfl (dt hc) (aj (a9 (ah ?_)))
   have hu : us[j]? = some us[j] := List.getElem?_eq_getElem hju
   have hx : xss[j]? = some xss[j] := List.getElem?_eq_getElem hjx
   have hrow := (hg.rows j _ _ hu hx).2 (by omega)
   refine a8 rfl (lw (vp bb 0) (au z0) (lw (l_v) (au z1) (lw (vi (j : Int)) (au z4) (lx (ab (v := l_v) (i := (j : Int)) Try.underlying25 rfl rfl hg.heads.flat rfl (by omega) (by omega)) (lx (aS iT rfl (lH hg.heads hu)) (lo (aA (α := Vc) g1 (is (q + i + k + 1)) (is (q + i + k + 1)) (q + i + k + 1, 0) rfl [us[j]] Try.underlying25 iT (by decide) (by decide) (vs := [(0, us[j].v)]) rfl rfl (.cons (em rfl (c6 hrow.flat)) .nil) ?_)))))))
   intro g2 w2 v2 ch2 o2
   refine lo ?_
   have hn0 : ∀ r c, row k r c → ¬ no c := fun r c _ h => h
   refine aV (σ := Value × bj × Int × aE) (V := fun _ => vt []) (aD (vals := [vp bb 0, v2]) Try.func38 wA vy rfl) (ss (q := q) (i := i) (k := k) (j := j) (p := q + i + k + 1) (hbx.cn ch2) (hK.cn ch2) (hrow.cn ch2) rfl o2 hj qi0 qk0 ki0 (by omega) (by omega) (by omega)) ?_
   rintro ⟨b0', b1', b2', g3⟩ w3 ⟨ch3, hbx3, hK3, hj3, hs3⟩
   have hg2 : iL g2 i k j w2 l_v us xss := ⟨hg.heads.cn ch2, hg.len, fun r u x h1 h2 => ⟨fun h => ((hg.rows r u x h1 h2).1 h).chg ch2 (fun c _ h => h), fun h => ((hg.rows r u x h1 h2).2 h).cn ch2⟩⟩
   have hg3 := hg2.next ch3 (de qk0.symm) (de ki0) (de qi0.symm) hu hx hs3
   refine aa (ao (a8 rfl (lw (vi (j : Int)) (au z4) (lx (aQ (m := (j : Int)) (n := 1) rfl rfl (by omega)) (ai ((j : Int) + 1) (aa (back (j + 1, b0', b1', b2', g3) _ _ ⟨z0, z1, rfl, by omega, nt hch (nt (rU ch2) (ch3.mono wU)), hbx3, hK3, hj3, hg3⟩ ?_)))))))
   show xss.length - (j + 1) < xss.length - j
   omega
  refine ag rfl (df hc) (aI rfl (gN (vs := []) Try.func37 .nil ?_))
  exact ⟨(b0, b1, b2, g1), rfl, hch, hbx, hK, hj, hg.done (by omega)⟩
end TL
