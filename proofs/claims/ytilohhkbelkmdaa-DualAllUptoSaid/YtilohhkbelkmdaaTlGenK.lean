import Derived.Test.YtilohhkbelkmdaaTlP3
import Derived.Test.YtilohhkbelkmdaaTlGenA
import Derived.Test.YtilohhkbelkmdaaTlGenQ
import Derived.Test.YtilohhkbelkmdaaTlGenX
import Derived.Test.YtilohhkbelkmdaaTlGenI
import Derived.Test.YtilohhkbelkmdaaTlGenJ
import Derived.Test.YtilohhkbelkmdaaTlGenR
import Derived.Test.YtilohhkbelkmdaaTlGenE
import Derived.Test.YtilohhkbelkmdaaProg
set_option linter.all false
set_option maxRecDepth 20000
namespace TL
open Go Go.Proofs
theorem pE : Try.prog.follows .mixedOrders = true := by kernel_rfl
theorem wz : Try.f93.body.isNone = false := rfl
theorem ww : (Try.f93.name == "runtime.NumGoroutine") = false := by decide +kernel
set_option maxHeartbeats 1000000 in
theorem rK (w0 : World) (g : (Int) × (List ((Int) × (Int)))) (g_v : Value) (hg_v : Ro w0 g_v g.2) (r : bj) (r_v : Value) (hr_v : Ro w0 r_v r) (keep : List Int) (keep_v : Value) (hkeep_v : Ro w0 keep_v keep) (hmay : bx g) (hr : cf g r) :
    Calls Try.prog 63 #[vg [vi g.1, g_v], r_v, keep_v] w0 (fun ee w => ∃ xx : aE × Value × Value, ee = .returned ((fun ⟨δ, rv0, rv1⟩ => vt [vg [vi (((bS g r keep).1).1), rv0], rv1, vi ((bS g r keep).2.2)]) xx) ∧ (fun (⟨δ, rv0, rv1⟩ : aE × Value × Value) (w : World) => cC w0 δ w ∧ Ow δ (is 1) (is 1) w rv0 (((bS g r keep).1).2) ∧ cj δ 2 w rv1 ((bS g r keep).2.1)) xx w) := by
 refine az Try.func63 rfl (Nat.le_of_ble_eq_true rfl) ?_
 have bH := b9.start w0
 have Rg := hg_v.sl
 have Rr := hr_v.sl
 have Rkeep := hkeep_v.sl
 have hm0 := hmay
 obtain ⟨hm1, hm2, hm3, hm4⟩ := hm0
 have hrl := hr.1
 have hm := hmay
 have hrp := hr
 refine a9 (a8 rfl (cr rfl (bR c0 (is 1) (1, 0) rfl rfl ?_)))
 intro g4 w1 b3 ch2 bx5
 replace bx5 : Bx g4 (is 1) w1 b3 [vi g.1, g_v] := bx5
 refine lo (bw g4 (is 2) (2, 0) rfl ak ?_)
 intro g9 w6 b8 ch7 bx10
 replace bx10 : Bx g9 (is 2) w6 b8 [vi 0, vn] := bx10
 refine ma vn (ai 0 (aa (a9 (a8 rfl ?_))))
 replace bx5 := bx5.cn ch7
 refine lx (aq (ds := [vi g.1, g_v]) ak rfl bx5 rfl rfl) (mv keep_v ?_)
 replace Rg := (Rg.cn ch2).cn ch7
 replace Rkeep := (Rkeep.cn ch2).cn ch7
 refine lo (aV (aD (vals := [vg [vi g.1, g_v], keep_v]) Try.func93 wz ww rfl) (tB w6 g g_v (Rg).ro keep keep_v (Rkeep).ro ‹_›) ?_)
 rintro ⟨d12, v14⟩ w11 ⟨fr13, o15⟩
 obtain ⟨g16, ch17, G16⟩ := dw g9 fr13 (fun n => if n = 1 then 3 else 0)
 replace o15 := o15.gl G16 3
 refine mv (vt [vg [vi (((c8 g keep).1).1), v14], vi ((c8 g keep).2)]) (lx (aH rfl rfl) (lx (aH rfl rfl) (lo (bw g16 (is 4) (4, 0) rfl ak ?_))))
 intro g21 w18 b20 ch19 bx22
 replace bx22 : Bx g21 (is 4) w18 b20 [vi 0, vn] := bx22
 refine lo ?_
 replace o15 := o15.cn ch19
 refine aC (cs' := [vi (((c8 g keep).1).1), v14]) ak rfl rfl bx22 rfl (Nat.le_of_ble_eq_true rfl) (AllOne.all (.cons rfl (.cons (bm o15.flat) .nil))) rfl ?_
 intro w23 ch24 bx25
 clear bx22
 refine ai ((c8 g keep).2) (aa (a9 (a9 (a8 rfl (mi ((c8 g keep).2) (lx (cl (m := (c8 g keep).2) (n := 0) rfl rfl) (aa ?_)))))))
 by_cases p2 : ((c8 g keep).2) = 0
 ·
  obtain ⟨_, hch0, hse⟩ := py ‹_›
  have hch := gU hch0
  refine ag rfl (congrArg Bool.not (dt p2)) (aj (a9 (a8 rfl (lx (ad Try.underlying24 rfl rfl rfl rfl) ?_))))
  have C26 := cg [4] (ch17.n.seq (ch19.n.seq (ch24.l rfl)))
  replace bx5 := bx5.ca C26
  refine lx (af bo rfl bx5 rfl) ?_
  replace Rg := Rg.ca C26
  have len27 := (Rg).small
  refine lx (aO Try.underlying22 rfl Rg) (lo (dE (α := Int) (l := (g.2.length : Int)) (cp := (g.2.length : Int)) g21 (is 5) (is 5) (5, 0) rfl (0 : Int) Try.underlying27 am rfl rfl rfl (by omega) (by omega) (by omega) (by omega) ?_))
  intro g28 w29 v30 ch31 o32 _
  refine ma v30 (aa (a9 (a9 ?_)))
  clear bx5
  refine a8 rfl (ai 0 (aa (ah ?_)))
  refine aN (σ := Nat × (List Int) × aE) (fun ⟨i, at_, gq⟩ f w => b9 w0 gq w ∧ f 1 = r_v ∧ f 2 = keep_v ∧ f 6 = vp b8 0 ∧ f 9 = vp b20 0 ∧ f 11 = v30 ∧ f 12 = vi (i : Int) ∧ Sl gq (is 0) w g_v g.2 ∧ Sl gq (is 0) w r_v r ∧ Sl gq (is 0) w keep_v keep ∧ Bx gq (is 2) w b8 [vi 0, vn] ∧ Ow gq (is 3) (is 3) w v14 (((c8 g keep).1).2) ∧ Bx gq (is 4) w b20 [vi (((c8 g keep).1).1), v14] ∧ Ow gq (is 5) (is 5) w v30 at_ ∧ (i : Int) ≤ ((keep.length : Int) : Int) ∧ (fC at_ keep (g.2.length : Int) i)) (fun ⟨i, at_, gq⟩ => Int.toNat (((keep.length : Int) : Int) - (i : Int))) (0, (List.replicate (Int.toNat (g.2.length : Int)) (0 : Int)), g28) ?_ ?_
  have C34 := cg [4] (ch17.n.seq (ch19.n.seq ((ch24.l rfl).seq ch31.n)))
  have C33 := ch2.n.seq (ch7.n.seq C34)
  · exact ⟨bH.ca C33, rfl, rfl, rfl, rfl, rfl, rfl, Rg.cn ch31, Rr.ca C33, Rkeep.ca C34, bx10.ca C34, (o15.ce ch24).cn ch31, bx25.cn ch31, o32, by omega, by (have h := fC.start keep (g.2.length : Int) (by omega); simpa using h)⟩
  clear Rg Rr Rkeep bx10 o15 bx25 o32 bH
  rintro ⟨i, at_, g37⟩ f35 w36 ⟨bH, zs1, zs2, zs6, zs9, zs11, zs12, Rg, Rr, Rkeep, bx10, o15, bx25, o32, hle_i, hpi⟩ back6
  have htl := hpi.len
  refine a9 (a9 (a8 rfl (mz zs12 (mz zs2 ?_))))
  have len38 := (Rkeep).small
  refine lx (aO Try.underlying27 rfl Rkeep) (lx (bc (m := (i : Int)) (n := (keep.length : Int)) rfl rfl) (aa ?_))
  by_cases p6 : (i : Int) < (keep.length : Int)
  ·
   refine ae rfl (dt p6) ?_
   obtain ⟨hk1, hk2⟩ := hch.1 _ (bu (xs := keep) (i := (i : Int)) (by omega) (by omega))
   refine aj (a9 (ah (a8 rfl (mz zs11 (mz zs2 (mz zs12 (lx (ab (v := keep_v) (i := (i : Int)) Try.underlying27 rfl rfl Rkeep rfl (by omega) (by omega)) (lx (ay (v := keep_v) (i := (i : Int)) am rfl Rkeep (by omega) (by omega) (by decide) rfl) (mz zs12 ?_)))))))))
   refine lx (aQ (m := (i : Int)) (n := 1) rfl rfl (by omega)) (lx (ab (v := v30) (i := (gI keep (i : Int))) Try.underlying27 rfl rfl o32.flat rfl (by omega) (by omega)) (lo (bP (i := (gI keep (i : Int))) ((i : Int) + 1) am rfl rfl o32 (by omega) (by omega) rfl ?_)))
   intro w39 ch40 bx41
   clear o32
   refine aa (ao (a8 rfl (mz zs12 (lx (aQ (m := (i : Int)) (n := 1) rfl rfl (by omega)) (ai ((i : Int) + 1) (aa ?_))))))
   refine back6 (i + 1, (List.set at_ (Int.toNat (gI keep (i : Int))) ((i : Int) + 1)), g37) _ _ ⟨bH.ce ch40, zs1, zs2, zs6, zs9, zs11, rfl, Rg.ce ch40, Rr.ce ch40, Rkeep.ce ch40, bx10.ce ch40, o15.ce ch40, bx25.ce ch40, bx41, by omega, ?_⟩ ?_
   · show fC (List.set at_ (Int.toNat (gI keep (i : Int))) ((i : Int) + 1)) keep (g.2.length : Int) (i + 1)
     exact hpi.next (by omega) hk1 hk2 hch.2
   · show Int.toNat (((keep.length : Int) : Int) - ((i + 1) : Int)) < Int.toNat (((keep.length : Int) : Int) - (i : Int))
     omega
  refine ag rfl (df p6) (aI rfl (a9 (a8 rfl (mz zs1 ?_))))
  have len42 := (Rr).small
  refine lx (aO Try.underlying26 rfl Rr) (lo (dB (α := Int) (n := (r.length : Int)) (cp := (r.length : Int)) g37 6 Try.underlying26 aL rfl rfl rfl (by omega) (by omega) (by omega) (by omega) ?_))
  intro g43 w44 v45 ch46 o47
  refine ma v45 (aa (a9 (a9 (a8 rfl (ai 0 (aa (ah ?_)))))))
  refine aN (σ := Nat × bj × aE) (fun ⟨v, out, gq⟩ f w => b9 w0 gq w ∧ f 1 = r_v ∧ f 6 = vp b8 0 ∧ f 9 = vp b20 0 ∧ f 11 = v30 ∧ f 13 = v45 ∧ f 14 = vi (v : Int) ∧ Sl gq (is 0) w g_v g.2 ∧ Sl gq (is 0) w r_v r ∧ Sl gq (is 0) w keep_v keep ∧ Bx gq (is 2) w b8 [vi 0, vn] ∧ Ow gq (is 3) (is 3) w v14 (((c8 g keep).1).2) ∧ Bx gq (is 4) w b20 [vi (((c8 g keep).1).1), v14] ∧ Ow gq (is 5) (is 5) w v30 at_ ∧ cj gq 6 w v45 out ∧ (v : Int) ≤ ((r.length : Int) : Int) ∧ (cM out keep r v 0)) (fun ⟨v, out, gq⟩ => Int.toNat (((r.length : Int) : Int) - (v : Int))) (0, (List.replicate (Int.toNat (r.length : Int)) []), g43) ?_ ?_
  · exact ⟨bH.cn ch46, zs1, zs6, zs9, zs11, rfl, rfl, Rg.cn ch46, Rr.cn ch46, Rkeep.cn ch46, bx10.cn ch46, o15.cn ch46, bx25.cn ch46, o32.cn ch46, o47, by omega, by exact cM.start keep r⟩
  clear Rg Rr Rkeep bx10 o15 bx25 o32 o47 bH
  rintro ⟨v, out, g50⟩ f48 w49 ⟨bH, zs1, zs6, zs9, zs11, zs13, zs14, Rg, Rr, Rkeep, bx10, o15, bx25, o32, o47, hle_v, hinv⟩ back11
  have hol := hinv.len
  have hpk : (List.take i keep) = keep := List.take_of_length_le (by omega)
  refine a9 (a9 (a8 rfl (mz zs14 (mz zs1 (lx (aO Try.underlying26 rfl Rr) (lx (bc (m := (v : Int)) (n := (r.length : Int)) rfl rfl) (aa ?_)))))))
  by_cases p11 : (v : Int) < (r.length : Int)
  ·
   refine ae rfl (dt p11) (aj (a9 (ah (a9 (a8 rfl (ai 0 (aa (ah ?_))))))))
   refine aN (σ := Nat × bj × aE) (fun ⟨j, out, gq⟩ f w => b9 w0 gq w ∧ f 1 = r_v ∧ f 6 = vp b8 0 ∧ f 9 = vp b20 0 ∧ f 11 = v30 ∧ f 13 = v45 ∧ f 14 = vi (v : Int) ∧ f 15 = vi (j : Int) ∧ Sl gq (is 0) w g_v g.2 ∧ Sl gq (is 0) w r_v r ∧ Sl gq (is 0) w keep_v keep ∧ Bx gq (is 2) w b8 [vi 0, vn] ∧ Ow gq (is 3) (is 3) w v14 (((c8 g keep).1).2) ∧ Bx gq (is 4) w b20 [vi (((c8 g keep).1).1), v14] ∧ Ow gq (is 5) (is 5) w v30 at_ ∧ cj gq 6 w v45 out ∧ (j : Int) ≤ ((List.length (gI r (v : Int)) : Int) : Int) ∧ (cM out keep r v j)) (fun ⟨j, out, gq⟩ => Int.toNat (((List.length (gI r (v : Int)) : Int) : Int) - (j : Int))) (0, out, g50) ?_ ?_
   · exact ⟨bH, zs1, zs6, zs9, zs11, zs13, zs14, rfl, Rg, Rr, Rkeep, bx10, o15, bx25, o32, o47, by omega, by exact hinv⟩
   clear Rg Rr Rkeep bx10 o15 bx25 o32 o47 bH
   rintro ⟨j, out, g53⟩ f51 w52 ⟨bH, zs1, zs6, zs9, zs11, zs13, zs14, zs15, Rg, Rr, Rkeep, bx10, o15, bx25, o32, o47, hle_j, hin⟩ back14
   have hol := hin.len
   have hbd := hin.bd ‹_›
   refine a9 (a9 (a8 rfl (mz zs15 (mz zs1 (mz zs14 (lx (ab (v := r_v) (i := (v : Int)) Try.underlying26 rfl rfl Rr rfl (by omega) (by omega)) ?_))))))
   obtain ⟨v54, cel55, r56⟩ := co (r := (v : Int)) Rr (by omega) (by omega)
   refine lx (aS aL rfl cel55) ?_
   have len57 := (r56).small
   refine lx (aO Try.underlying27 rfl r56) (lx (bc (m := (j : Int)) (n := (List.length (gI r (v : Int)) : Int)) rfl rfl) (aa ?_))
   by_cases p14 : (j : Int) < (List.length (gI r (v : Int)) : Int)
   ·
    refine ae rfl (dt p14) ?_
    obtain ⟨hh1, hh2⟩ := (hrp.2.1 v (by omega) _ (bu (xs := gI r (v : Int)) (i := (j : Int)) (by omega) ‹_›)).1
    have hto := hpi.pos (gI (gI r (v : Int)) (j : Int) / 2) (by omega) (by omega)
    rw [hpk] at hto
    have hple := pv keep (gI (gI r (v : Int)) (j : Int) / 2)
    have hpnn := kk keep (gI (gI r (v : Int)) (j : Int) / 2)
    have hkl := fk (n := (g.2.length : Int)) (by omega) hch.2 hch.1
    refine aj (a9 (ah (a9 ?_)))
    clear r56
    refine a8 rfl (mz zs1 (mz zs14 (lx (ab (v := r_v) (i := (v : Int)) Try.underlying26 rfl rfl Rr rfl (by omega) (by omega)) ?_)))
    obtain ⟨v58, cel59, r60⟩ := co (r := (v : Int)) Rr (by omega) (by omega)
    refine lx (aS aL rfl cel59) (mz zs15 (lx (ab (v := v58) (i := (j : Int)) Try.underlying27 rfl rfl r60 rfl (by omega) (by omega)) (lx (ay (v := v58) (i := (j : Int)) am rfl r60 (by omega) (by omega) (by decide) rfl) (ai (gI (gI r (v : Int)) (j : Int)) (aa (a9 ?_))))))
    clear r60
    refine a8 rfl (mz zs11 (mi (gI (gI r (v : Int)) (j : Int)) (lx (hU (m := (gI (gI r (v : Int)) (j : Int))) (n := 2) rfl rfl (by omega) (by omega) (by omega)) (lx (ab (v := v30) (i := (gI (gI r (v : Int)) (j : Int)) / 2) Try.underlying27 rfl rfl o32.flat rfl (by omega) (by omega)) (lx (ay (v := v30) (i := (gI (gI r (v : Int)) (j : Int)) / 2) am rfl o32.flat (by omega) (by omega) (by decide) rfl) (lx (fW (m := (gI at_ ((gI (gI r (v : Int)) (j : Int)) / 2))) (n := 0) rfl rfl) (aa ?_)))))))
    by_cases p17 : 0 < (gI at_ ((gI (gI r (v : Int)) (j : Int)) / 2))
    ·
     refine ae rfl (dt p17) (ch g53 [0, 1, 2, 3, 4, 5, 6, 7, 8, 9, 10, 11, 12, 13, 14, 15, 18] pE ?_)
     intro w62 ch61
     refine xp (v := v45) 0 rfl (fun w => au zs13) (xp (v := vi (v : Int)) 1 rfl (fun w => au zs14) (xp (v := v45) 2 rfl (fun w => au zs13) (xp (v := vi (v : Int)) 3 rfl (fun w => au zs14) ?_)))
     replace o47 := o47.cn ch61
     refine xh 4 [3, 2, 1, 0, 6, 7, 13, 8, 14, 9, 10, 11, 12, 15, 16] rfl (fun w' hw' => ab (v := v45) (i := (v : Int)) Try.underlying26 rfl rfl (o47.sl.bel hw') rfl (by omega) (by omega)) ?_
     obtain ⟨v63, cel64, r65⟩ := bY (r := (v : Int)) o47 (by omega) (by omega)
     refine xh 5 [4, 3, 2, 1, 0, 6, 7, 13, 8, 14, 9, 10, 11, 12, 15, 16] rfl (fun w' hw' => aS aL rfl (cX cel64 hw')) (xp (v := v30) 6 rfl (fun w => au zs11) (xp (v := vi (gI (gI r (v : Int)) (j : Int))) 7 rfl (fun w => au rfl) (xp 8 rfl (fun w => hU (m := (gI (gI r (v : Int)) (j : Int))) (n := 2) rfl rfl (by omega) (by omega) (by omega)) ?_)))
     replace o32 := o32.cn ch61
     refine xv 9 [8, 7, 6, 5, 4, 3, 2, 1, 0, 13, 14] rfl (ab (v := v30) (i := (gI (gI r (v : Int)) (j : Int)) / 2) Try.underlying27 rfl rfl o32.flat rfl (by omega) (by omega)) (xv 10 [9, 8, 7, 6, 5, 4, 3, 2, 1, 0, 13, 14] rfl (ay (v := v30) (i := (gI (gI r (v : Int)) (j : Int)) / 2) am rfl o32.flat (by omega) (by omega) (by decide) rfl) (xp 11 rfl (fun w => eR (m := (gI at_ ((gI (gI r (v : Int)) (j : Int)) / 2))) (n := 1) rfl rfl (by omega)) (xp 12 rfl (fun w => du (m := 2) (n := (gI at_ ((gI (gI r (v : Int)) (j : Int)) / 2)) - 1) rfl rfl (by omega)) (xp (v := vi (gI (gI r (v : Int)) (j : Int))) 13 rfl (fun w => au rfl) (xp 14 rfl (fun w => eT (m := (gI (gI r (v : Int)) (j : Int))) (n := 2) rfl rfl (by omega) (by omega)) ?_)))))
     refine xp 15 rfl (fun w => aQ (m := 2 * ((gI at_ ((gI (gI r (v : Int)) (j : Int)) / 2)) - 1)) (n := (gI (gI r (v : Int)) (j : Int)) % 2) rfl rfl (by omega)) (bM 16 rfl (by kernel_rfl) rfl (aA (α := Int) g53 (is 7) (is 7) (7, 0) rfl [(2 * ((gI at_ ((gI (gI r (v : Int)) (j : Int)) / 2)) - 1)) + ((gI (gI r (v : Int)) (j : Int)) % 2)] Try.underlying27 am (by decide) (by decide) (vs := [(0, vi ((2 * ((gI at_ ((gI (gI r (v : Int)) (j : Int)) / 2)) - 1)) + ((gI (gI r (v : Int)) (j : Int)) % 2)))]) rfl rfl (.cons rfl .nil) ?_))
     intro g66 w67 v68 ch69 o70
     refine bM 17 rfl (by kernel_rfl) rfl ?_
     replace o47 := o47.cn ch69
     replace r65 := r65.cn ch69
     refine aR (α := Int) (xs := (gI out (v : Int))) (ys := ([(2 * ((gI at_ ((gI (gI r (v : Int)) (j : Int)) / 2)) - 1)) + ((gI (gI r (v : Int)) (j : Int)) % 2)])) g66 (J := row 6 (Int.toNat (v : Int) + 1)) (S := row 6 (Int.toNat (v : Int) + 1)) (6, Int.toNat (v : Int) + 1) rfl Try.underlying27 am (by decide) rfl rfl rfl r65 o70.flat (by decide) (by (simp; omega)) ?_
     intro g71 w72 v73 ch74 o75
     have o76 := o47.rowchg ch74
     clear o47 cel64 r65
     obtain ⟨us77, hl78, r79⟩ := o76.vc
     try simp only [List.length_set, List.length_append, List.length_cons, List.length_nil] at hl78
     refine xv 18 [17, 16, 15, 14, 13, 12, 11, 10, 9, 8, 7, 6, 5, 4, 3, 2, 1, 0] rfl (ab (v := v45) (i := (v : Int)) Try.underlying26 rfl rfl r79 rfl (by omega) (by omega)) (bM 19 rfl (by kernel_rfl) rfl (bI (r := (v : Int)) aL rfl rfl o76 o75 (by omega) (by omega) ?_))
     intro w83 ch84 o85
     clear o76 o75
     refine cO (by kernel_rfl) (ao ?_)
     clear o70
     refine a8 rfl (mz zs15 (lx (aQ (m := (j : Int)) (n := 1) rfl rfl (by omega)) (ai ((j : Int) + 1) (aa ?_))))
     have C87 := cg [6] (ch69.n.seq ((ch74.lr rfl).seq (ch84.l rfl)))
     have C86 := ch61.n.seq C87
     refine back14 (j + 1, (List.set out (Int.toNat (v : Int)) (gI out (v : Int) ++ [(2 * ((gI at_ ((gI (gI r (v : Int)) (j : Int)) / 2)) - 1)) + ((gI (gI r (v : Int)) (j : Int)) % 2)])), g71) _ _ ⟨bH.ca C86, zs1, zs6, zs9, zs11, zs13, zs14, rfl, Rg.ca C86, Rr.ca C86, Rkeep.ca C86, bx10.ca C86, o15.ca C86, bx25.ca C86, o32.ca C87, o85, by omega, ?_⟩ ?_
     · show cM (List.set out (Int.toNat (v : Int)) (gI out (v : Int) ++ [(2 * ((gI at_ ((gI (gI r (v : Int)) (j : Int)) / 2)) - 1)) + ((gI (gI r (v : Int)) (j : Int)) % 2)])) keep r v (j + 1)
       (have h1 := hin.yes ‹_› ‹_› (by rw [← hto]; assumption)
        rw [← hto] at h1
        exact h1)
     · show Int.toNat (((List.length (gI r (v : Int)) : Int) : Int) - ((j + 1) : Int)) < Int.toNat (((List.length (gI r (v : Int)) : Int) : Int) - (j : Int))
       omega
    refine ag rfl (df p17) (aj (ao (a8 rfl (mz zs15 (lx (aQ (m := (j : Int)) (n := 1) rfl rfl (by omega)) (ai ((j : Int) + 1) (aa ?_)))))))
    refine back14 (j + 1, out, g53) _ _ ⟨bH, zs1, zs6, zs9, zs11, zs13, zs14, rfl, Rg, Rr, Rkeep, bx10, o15, bx25, o32, o47, by omega, ?_⟩ ?_
    · show cM out keep r v (j + 1)
      exact hin.no ‹_› (by rw [← hto]; assumption)
    · show Int.toNat (((List.length (gI r (v : Int)) : Int) : Int) - ((j + 1) : Int)) < Int.toNat (((List.length (gI r (v : Int)) : Int) : Int) - (j : Int))
      omega
   refine ag rfl (df p14) (aI rfl (ao ?_))
   clear r56
   refine a8 rfl (mz zs14 (lx (aQ (m := (v : Int)) (n := 1) rfl rfl (by omega)) (ai ((v : Int) + 1) (aa ?_))))
   refine back11 (v + 1, out, g53) _ _ ⟨bH, zs1, zs6, zs9, zs11, zs13, rfl, Rg, Rr, Rkeep, bx10, o15, bx25, o32, o47, by omega, ?_⟩ ?_
   · show cM out keep r (v + 1) 0
     exact hin.row_done ‹_› ‹_›
   · show Int.toNat (((r.length : Int) : Int) - ((v + 1) : Int)) < Int.toNat (((r.length : Int) : Int) - (v : Int))
     omega
  refine ag rfl (df p11) (aI rfl (a9 ?_))
  clear o32
  refine cx g50 (bW [2]) pE ?_
  intro w89 ch88
  replace bx25 := bx25.cn ch88
  refine ht 0 rfl (bq.refl _ _ _) (fun w' hw' => aq (ds := [vi (((c8 g keep).1).1), v14]) ak zs9 (bx25.chg hw' (bQ rfl)) rfl rfl) (ht (v := v45) 1 rfl (bq.refl _ _ _) (fun w' hw' => au zs13) (aW 2 rfl (by kernel_rfl) rfl ?_))
  replace o47 := o47.cn ch88
  refine aV (aD (vals := [v45]) Try.func60 ln lP rfl) (gw w89 out v45 (o47.sl).ro) ?_
  rintro ⟨d91, v93⟩ w90 ⟨fr92, o94⟩
  obtain ⟨g95, ch96, G95⟩ := dw g50 fr92 (fun n => if n = 1 then 8 else 0)
  replace o94 := o94.gl G95 8
  have hs97 : bq (bW [2]) _ _ _ _ := ch96.n
  refine ⟨hs97.same, ?_⟩
  refine aW 3 rfl (by kernel_rfl) rfl ?_
  replace bx10 := (bx10.cn ch88).cn ch96
  replace o15 := o15.cn ch88
  refine aC (cs' := [vi (((c8 g keep).1).1), v14]) ak zs6 rfl bx10 rfl (Nat.le_of_ble_eq_true rfl) (AllOne.all (.cons rfl (.cons (bm (o15.ca hs97).flat) .nil))) rfl ?_
  intro w98 ch99 bx100
  clear bx10
  have hs101 := hs97.seq (ch99.l rfl)
  refine ⟨hs101.same, ?_⟩
  refine ht (v := v93) 4 rfl hs101.same (fun w' hw' => bz rfl) (ht (v := vi 0) 5 rfl hs101.same (fun w' hw' => bz rfl) (cA (by kernel_rfl) (av (vs := [vg [vi (((c8 g keep).1).1), v14], v93, vi 0]) Try.func63 (.cell zs6 (bk (ds := [vi (((c8 g keep).1).1), v14]) ak bx100 rfl rfl) (.tmp rfl (.tmp rfl .nil))) ?_)))
  have C102 := cg [2] (ch88.n.seq (ch96.n.seq (ch99.l rfl)))
  replace bH := bH.ca C102
  replace o15 := (o15.cn ch96).ce ch99
  replace o94 := o94.ce ch99
  have e0 : (((c8 g keep).1) : (Int) × (List ((Int) × (Int)))) = ((bS g r keep).1) := by
    simp only [bS, if_pos (br hmay hr), if_pos (show (c8 g keep).2 = 0 by assumption)]
  have e1 : (ct out : bj) = ((bS g r keep).2.1) := by
    simp only [bS, if_pos (br hmay hr), if_pos (show (c8 g keep).2 = 0 by assumption), hinv.done ‹_›]
  have e2 : (0 : Int) = ((bS g r keep).2.2) := by
    simp only [bS, if_pos (br hmay hr), if_pos (show (c8 g keep).2 = 0 by assumption)]
  exact ⟨(fin w0 g95 (fun n => if n = 3 then 1 else if n = 8 then 2 else 0), v14, v93), (cq (a := ((c8 g keep).1)) (b := ct out) (c := 0) (fun (z0 : (Int) × (List ((Int) × (Int)))) (z1 : bj) (z2 : Int) => Ending.returned (vt [vg [vi z0.1, v14], v93, vi z2])) e0 e1 e2), bH.fresh _, ((congrArg (fun (z : (Int) × (List ((Int) × (Int)))) => z.2) e0) ▸ (o15.glue (γ := c0) (ren := (fun n => if n = 3 then 1 else if n = 8 then 2 else 0)) (k := 1) bH.col rfl rfl)), (e1 ▸ (o94.glue (γ := c0) (ren := (fun n => if n = 3 then 1 else if n = 8 then 2 else 0)) (k := 2) bH.col rfl rfl))⟩
 refine ae rfl (congrArg Bool.not (df p2)) (a9 ?_)
 clear bx5 o15 bx25
 refine a8 rfl (lw (vg [vi 0, vn]) (bn (vs := []) rfl (by kernel_rfl)) (mi ((c8 g keep).2) (lo ?_)))
 have C106 := cg [4] (ch17.n.seq (ch19.n.seq (ch24.l rfl)))
 replace bx10 := bx10.ca C106
 refine aC (cs' := [vi 0, vn]) ak rfl rfl bx10 rfl (Nat.le_of_ble_eq_true rfl) (AllOne.all (.cons rfl (.cons rfl .nil))) rfl ?_
 intro w103 ch104 bx105
 clear bx10
 refine ma vn (ai ((c8 g keep).2) (aa (av (vs := [vg [vi 0, vn], vn, vi ((c8 g keep).2)]) Try.func63 (.cell rfl (bk (ds := [vi 0, vn]) ak bx105 rfl rfl) (.tmp rfl (.tmp rfl .nil))) ?_)))
 have C107 := cg [2, 4] (ch2.n.seq (ch7.n.seq (ch17.n.seq (ch19.n.seq ((ch24.l rfl).seq (ch104.l rfl))))))
 replace bH := bH.ca C107
 have e0 : ((0, []) : (Int) × (List ((Int) × (Int)))) = ((bS g r keep).1) := by
   simp only [bS, if_pos (br hmay hr), if_neg (show ¬ (c8 g keep).2 = 0 by assumption)]
 have e1 : ([] : bj) = ((bS g r keep).2.1) := by
   simp only [bS, if_pos (br hmay hr), if_neg (show ¬ (c8 g keep).2 = 0 by assumption)]
 have e2 : ((c8 g keep).2 : Int) = ((bS g r keep).2.2) := by
   simp only [bS, if_pos (br hmay hr), if_neg (show ¬ (c8 g keep).2 = 0 by assumption)]
 exact ⟨(fin w0 g21 (fun n => 0), vn, vn), (cq (a := (0, [])) (b := []) (c := (c8 g keep).2) (fun (z0 : (Int) × (List ((Int) × (Int)))) (z1 : bj) (z2 : Int) => Ending.returned (vt [vg [vi z0.1, vn], vn, vi z2])) e0 e1 e2), bH.fresh _, ((congrArg (fun (z : (Int) × (List ((Int) × (Int)))) => z.2) e0) ▸ Ow.nil), (e1 ▸ cj.nil)⟩
end TL
