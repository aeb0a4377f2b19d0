/- The law RoundReal (gen_nd.py). -/
import Derived.Test.YthkfaacgabkhhaaNc
import Derived.Test.YthkfaacgabkhhaaVz
import Derived.Test.YthkfaacgabkhhaaGh
set_option linter.unusedVariables false
set_option linter.unusedSimpArgs false
namespace Go.Proofs.Ythkfaacgabkhhaa
open Go.RowKit Fl

set_option maxRecDepth 100000 in
set_option maxHeartbeats 8000000 in
theorem real_n1 (a b : Nat) (ha : a < 18446744073709551616) (hb : b < 18446744073709551616) (fa : fin a = false) (w : World) : Calls Try.prog 8 #[.float .f64 a, .float .f64 b] w fun r w' => r = .returned (.bool true) ∧ Below w.heap.size w w' := by
  have H0 := Lib.hid awake
  have H1 := Lib.hid (fun w => num_b a ha w)
  have H2 := Lib.hid (fun w => num_b b hb w)
  rw [fa] at H1
  go_enter Try.func8, Try.ntmps8
  go_wp2_with fail
  obtain ⟨W, hW⟩ : ∃ W, W = w := ⟨_, rfl⟩
  rw [← hW]
  have HB := Lib.hid (hW ▸ Below.refl w.heap.size w : Below w.heap.size w W)
  clear hW
  have HO := Lib.hid (show ∀ w', Below W.heap.size W w' → (Below W.heap.size W w') from fun w' h => h)
  have D0 := Lib.hid (Below.refl W.heap.size W)
  refine (H0.out _).mono ?_
  rintro r w1 ⟨rfl, hb⟩
  have D1 := Lib.hid (below_step D0.out hb)
  clear hb
  go_wp2_with fail
  refine (H1.out _).mono ?_
  rintro r w2 ⟨rfl, hb⟩
  have D2 := Lib.hid (below_step D1.out hb)
  clear hb
  go_wp2_with fail
  go_ret
  exact ⟨rfl, below_step HB.out D2.out⟩
set_option maxRecDepth 100000 in
set_option maxHeartbeats 8000000 in
theorem real_n2 (a b : Nat) (ha : a < 18446744073709551616) (hb : b < 18446744073709551616) (fa : fin a = true) (fb : fin b = false) (w : World) : Calls Try.prog 8 #[.float .f64 a, .float .f64 b] w fun r w' => r = .returned (.bool true) ∧ Below w.heap.size w w' := by
  have H0 := Lib.hid awake
  have H1 := Lib.hid (fun w => num_b a ha w)
  have H2 := Lib.hid (fun w => num_b b hb w)
  rw [fa] at H1
  rw [fb] at H2
  go_enter Try.func8, Try.ntmps8
  go_wp2_with fail
  obtain ⟨W, hW⟩ : ∃ W, W = w := ⟨_, rfl⟩
  rw [← hW]
  have HB := Lib.hid (hW ▸ Below.refl w.heap.size w : Below w.heap.size w W)
  clear hW
  have HO := Lib.hid (show ∀ w', Below W.heap.size W w' → (Below W.heap.size W w') from fun w' h => h)
  have D0 := Lib.hid (Below.refl W.heap.size W)
  refine (H0.out _).mono ?_
  rintro r w1 ⟨rfl, hb⟩
  have D1 := Lib.hid (below_step D0.out hb)
  clear hb
  go_wp2_with fail
  refine (H1.out _).mono ?_
  rintro r w2 ⟨rfl, hb⟩
  have D2 := Lib.hid (below_step D1.out hb)
  clear hb
  go_wp2_with fail
  refine (H2.out _).mono ?_
  rintro r w3 ⟨rfl, hb⟩
  have D3 := Lib.hid (below_step D2.out hb)
  clear hb
  go_wp2_with fail
  go_ret
  exact ⟨rfl, below_step HB.out D3.out⟩
set_option maxRecDepth 100000 in
set_option maxHeartbeats 8000000 in
theorem real_ya (a b : Nat) (ha : a < 18446744073709551616) (hb : b < 18446744073709551616) (fa : fin a = true) (fb : fin b = true) (c1 : fin (addR a b true).1 = true) (c2 : fin (mulR a b true).1 = false) (w : World) : Calls Try.prog 8 #[.float .f64 a, .float .f64 b] w fun r w' => r = .returned (.bool true) ∧ Below w.heap.size w w' := by
  have H0 := Lib.hid awake
  have H1 := Lib.hid (fun w => num_b a ha w)
  have H2 := Lib.hid (fun w => num_b b hb w)
  rw [fa] at H1
  rw [fb] at H2
  have OX := Lib.hid (fun w => of_rp ha fa w)
  have OY := Lib.hid (fun w => of_rp hb fb w)
  have d1 := add_dn fa fb
  have d2 := add_up fa fb
  have e1 := mul_dn fa fb
  have e2 := mul_up fa fb
  have R1 := Lib.hid (fun w => add_any a b true ha hb w)
  have R2 := Lib.hid (fun w => add_any a b false ha hb w)
  have R3 := Lib.hid (fun w => mul_any a b true ha hb w)
  have R4 := Lib.hid (fun w => mul_any a b false ha hb w)
  rw [addR_fin fa fb true] at R1
  rw [addR_fin fa fb false] at R2
  rw [mulR_fin fa fb true] at R3
  rw [mulR_fin fa fb false] at R4
  simp only [pV, numV] at R1 R2 R3 R4
  generalize (addR a b true).1 = lo at *
  generalize (addR a b false).1 = hi at *
  generalize (mulR a b true).1 = lo2 at *
  generalize (mulR a b false).1 = hi2 at *
  have N1 := Lib.hid (fun w => num_b lo d1.gd.lt w)
  have N2 := Lib.hid (fun w => num_b lo2 e1.gd.lt w)
  rw [c1] at N1
  rw [c2] at N2
  have CL1 := Lib.hid (fun w => close_any d1.gd d2.gd (nbr_rd d1 d2) w)
  have CL2 := Lib.hid (fun w => close_any e1.gd e2.gd (nbr_rd e1 e2) w)
  have DD1 := Lib.hid d1
  have DD2 := Lib.hid d2
  have EE1 := Lib.hid e1
  have EE2 := Lib.hid e2
  have OL := Lib.hid (fun w => of_rp d1.gd.lt c1 w)
  have HQ1 := Lib.hid (diff_q d1 d2 c1)
  obtain ⟨qs_, hq1⟩ : ∃ q, (FloatKind.f64.format.order lo hi == some .eq) = q := ⟨_, rfl⟩
  rw [hq1] at HQ1
  clear d1 d2 e1 e2 c1 c2 fa fb ha hb
  generalize fv a = xa at *
  generalize fv b = xb at *
  generalize fv lo = xl at *
  go_enter Try.func8, Try.ntmps8
  go_wp2_with fail
  obtain ⟨W, hW⟩ : ∃ W, W = w := ⟨_, rfl⟩
  rw [← hW]
  have HB := Lib.hid (hW ▸ Below.refl w.heap.size w : Below w.heap.size w W)
  clear hW
  have HO := Lib.hid (show ∀ w', Below W.heap.size W w' → (Below W.heap.size W w') from fun w' h => h)
  have D0 := Lib.hid (Below.refl W.heap.size W)
  refine (H0.out _).mono ?_
  rintro r w1 ⟨rfl, hb⟩
  have D1 := Lib.hid (below_step D0.out hb)
  clear hb
  go_wp2_with fail
  refine (H1.out _).mono ?_
  rintro r w2 ⟨rfl, hb⟩
  have D2 := Lib.hid (below_step D1.out hb)
  clear hb
  go_wp2_with fail
  refine (H2.out _).mono ?_
  rintro r w3 ⟨rfl, hb⟩
  have D3 := Lib.hid (below_step D2.out hb)
  clear hb
  go_wp2_with fail
  refine (OX.out _).mono ?_
  rintro r w4 ⟨bx, gx, cx, rfl, hrx, hpx, hb⟩
  have D4 := Lib.hid (below_step D3.out hb)
  clear hb
  have HRbx := Lib.hid hrx
  have HPbx := Lib.hid hpx
  clear hrx hpx
  go_wp2_with fail
  refine (OY.out _).mono ?_
  rintro r w5 ⟨by_, gy, cy, rfl, hrx, hpx, hb⟩
  have D5 := Lib.hid (below_step D4.out hb)
  have HRbx := Lib.hid (HRbx.out.below' hb)
  clear hb
  have HRby_ := Lib.hid hrx
  have HPby_ := Lib.hid hpx
  clear hrx hpx
  go_wp2_with fail
  obtain ⟨V, hV, KN0, KN1, hBV, hz⟩ := by2 w5 35 35 #[Value.bool bx.neg, Value.slice (some ⟨gx, 0, none⟩) bx.ws.length cx, Value.int IntKind.i64 bx.e] #[Value.bool by_.neg, Value.slice (some ⟨gy, 0, none⟩) by_.ws.length cy, Value.int IntKind.i64 by_.e]
  rw [← hV]
  have HLTbx := Lib.hid HRbx.out.lt
  have HRbx := Lib.hid (HRbx.out.below' hBV)
  have HLTby_ := Lib.hid HRby_.out.lt
  have HRby_ := Lib.hid (HRby_.out.below' hBV)
  have HB' := Lib.hid (below_step (below_step HB.out D5.out) hBV)
  obtain ⟨gv, hgv⟩ : ∃ g, w5.heap.size = g := ⟨_, rfl⟩
  have hwg : w.heap.size ≤ gv := by rw [← hgv]; exact (below_step HB.out D5.out).size
  have lt_bx : gx < gv := by rw [← hgv]; exact HLTbx.out
  have lt_by_ : gy < gv := by rw [← hgv]; exact HLTby_.out
  rw [hgv] at KN0 KN1
  rw [hgv]
  have K0 := Lib.hid KN0
  have K1 := Lib.hid KN1
  clear HB HO KN0 KN1 hV hBV hz hgv
  have HB := HB'
  clear HB'
  have HO := Lib.hid (show ∀ w', Below V.heap.size V w' → (Below V.heap.size V w' ∧ w'.cell? ⟨gv, 0, none⟩ = some (Value.bool bx.neg) ∧ w'.cell? ⟨gv, 1, none⟩ = some (Value.slice (some ⟨gx, 0, none⟩) bx.ws.length cx) ∧ w'.cell? ⟨gv, 2, none⟩ = some (Value.int IntKind.i64 bx.e) ∧ w'.cell? ⟨gv + 1, 0, none⟩ = some (Value.bool by_.neg) ∧ w'.cell? ⟨gv + 1, 1, none⟩ = some (Value.slice (some ⟨gy, 0, none⟩) by_.ws.length cy) ∧ w'.cell? ⟨gv + 1, 2, none⟩ = some (Value.int IntKind.i64 by_.e)) from fun w' h => ⟨h, (K0.out.below h K0.out.lt).cell 0, (K0.out.below h K0.out.lt).cell 1, (K0.out.below h K0.out.lt).cell 2, (K1.out.below h K1.out.lt).cell 0, (K1.out.below h K1.out.lt).cell 1, (K1.out.below h K1.out.lt).cell 2⟩)
  have D6 := Lib.hid (Below.refl V.heap.size V)
  have hq := (HO.out _ D6.out).2
  have HRbx := Lib.hid (fun w' (b : Below V.heap.size V w') => HRbx.out.below' b)
  have HRby_ := Lib.hid (fun w' (b : Below V.heap.size V w') => HRby_.out.below' b)
  clear hq
  refine wp_region_held (S := (fun w' => Below V.heap.size V w' ∧ w'.cell? ⟨gv, 0, none⟩ = some (Value.bool bx.neg) ∧ w'.cell? ⟨gv, 1, none⟩ = some (Value.slice (some ⟨gx, 0, none⟩) bx.ws.length cx) ∧ w'.cell? ⟨gv, 2, none⟩ = some (Value.int IntKind.i64 bx.e) ∧ w'.cell? ⟨gv + 1, 0, none⟩ = some (Value.bool by_.neg) ∧ w'.cell? ⟨gv + 1, 1, none⟩ = some (Value.slice (some ⟨gy, 0, none⟩) by_.ws.length cy) ∧ w'.cell? ⟨gv + 1, 2, none⟩ = some (Value.int IntKind.i64 by_.e))) (by kernel_rfl) ?_
  change wpAnyH _ _ _ _ _ _ _ _ (World.drew _)
  obtain ⟨wd, hwd⟩ : ∃ x, x = World.drew V := ⟨_, rfl⟩
  rw [← hwd]
  have DD := Lib.hid (hwd ▸ Below.drew D6.out : Below V.heap.size V wd)
  clear hwd
  have hS0 := HO.out _ DD.out
  refine wpAnyH_takeM (i := 0) (v := ?vs6_0) (l' := bm 10 1) (a' := ?as6_0) rfl (by kernel_rfl) (by kernel_rfl) (by kernel_rfl) (fun _ _ _ h => h) (Or.inl ⟨by kernel_rfl, ?hs6_0⟩) (by kernel_rfl) ?ps6_0 hS0 ?rs6_0
  case hs6_0 => (intro w hS; go_simp; try with_reducible rfl)
  case ps6_0 => (go_simp; try with_reducible rfl)
  refine wpAnyH_takeM (i := 1) (v := ?vs6_1) (l' := bm 10 3) (a' := ?as6_1) rfl (by kernel_rfl) (by kernel_rfl) (by kernel_rfl) (fun _ _ _ h => h) (Or.inl ⟨by kernel_rfl, ?hs6_1⟩) (by kernel_rfl) ?ps6_1 hS0 ?rs6_1
  case hs6_1 => (intro w hS; go_simp; try with_reducible rfl)
  case ps6_1 => (go_simp; try with_reducible rfl)
  refine wpAnyH_takeM (i := 3) (v := ?vs6_3) (l' := bm 10 11) (a' := ?as6_3) rfl (by kernel_rfl) (by kernel_rfl) (by kernel_rfl) (fun _ _ _ h => h) (Or.inl ⟨by kernel_rfl, ?hs6_3⟩) (by kernel_rfl) ?ps6_3 hS0 ?rs6_3
  case hs6_3 => (intro w hS; go_simp; try with_reducible rfl)
  case ps6_3 => (go_simp; try with_reducible rfl)
  refine wpAnyH_takeM (i := 4) (v := ?vs6_4) (l' := bm 10 27) (a' := ?as6_4) rfl (by kernel_rfl) (by kernel_rfl) (by kernel_rfl) (fun _ _ _ h => h) (Or.inl ⟨by kernel_rfl, ?hs6_4⟩) (by kernel_rfl) ?ps6_4 hS0 ?rs6_4
  case hs6_4 => (intro w hS; go_simp; try with_reducible rfl)
  case ps6_4 => (go_simp; try with_reducible rfl)
  refine wpAnyH_sets (N := 10) (stop := 255) (F := 2) (m := 27) (R := [2, 5, 6, 7]) (M := [27, 91, 155, 219, 31, 95, 159, 223, 63, 127, 191, 255]) (fun a0 m a w9 => ∃ (v0 v1 p0 p1 : Value) (g0 g1 h0 h1 : Nat), a = ((((a0.put (some 29) v0).put (some 32) v1).put (some 7) p0).put (some 8) p1) ∧ Below V.heap.size V w9 ∧ (m.testBit 2 = true → BigG w9 v0 h0 (xa + xb) (2 * (((971 : Int) - -1074).toNat / 32) + 2 + 2 + 2) (-1074) (971)) ∧ (m.testBit 5 = true → BigG w9 v1 h1 (xa * xb) (2 + 2 + 1) (-1074 + -1074) (971 + 971)) ∧ (m.testBit 6 = true → p0 = .pointer (some ⟨g0, 0, none⟩) ∧ Blk w9 g0 35 #[Value.bool false, Value.slice none 0 0, Value.int IntKind.i64 0] ∧ V.heap.size ≤ g0) ∧ (m.testBit 7 = true → p1 = .pointer (some ⟨g1, 0, none⟩) ∧ Blk w9 g1 35 #[Value.bool false, Value.slice none 0 0, Value.int IntKind.i64 0] ∧ V.heap.size ≤ g1) ∧ (m.testBit 6 = true → m.testBit 7 = true → g0 ≠ g1) ∧ (m.testBit 2 = true → m.testBit 6 = true → h0 ≠ g0) ∧ (m.testBit 2 = true → m.testBit 7 = true → h0 ≠ g1) ∧ (m.testBit 5 = true → m.testBit 6 = true → h1 ≠ g0) ∧ (m.testBit 5 = true → m.testBit 7 = true → h1 ≠ g1)) (by kernel_rfl) (by kernel_rfl) (by kernel_rfl) ?st6 ?sp6 ?re6
  case st6 =>
    exact ⟨undef, undef, undef, undef, 0, 0, 0, 0, by go_simp, DD.out, fun h => absurd h (by decide), fun h => absurd h (by decide), fun h => absurd h (by decide), fun h => absurd h (by decide), fun h => absurd h (by decide), fun h => absurd h (by decide), fun h => absurd h (by decide), fun h => absurd h (by decide), fun h => absurd h (by decide)⟩
  case sp6 =>
    intro m a' w9 i hi hm hJ
    obtain ⟨v0, v1, p0, p1, g0, g1, h0, h1, rfl, hb0, c0, c1, q0, q1, d0_1, b0_0, b0_1, b1_0, b1_1⟩ := hJ
    have C0 := Lib.hid c0
    have C1 := Lib.hid c1
    have Q0 := Lib.hid q0
    have Q1 := Lib.hid q1
    have D0_1 := Lib.hid d0_1
    have B0_0 := Lib.hid b0_0
    have B0_1 := Lib.hid b0_1
    have B1_0 := Lib.hid b1_0
    have B1_1 := Lib.hid b1_1
    have HB0 := Lib.hid hb0
    have hS9 := HO.out _ hb0
    clear c0 c1 q0 q1 d0_1 b0_0 b0_1 b1_0 b1_1 hb0 hm hS0
    simp only [List.mem_cons, List.not_mem_nil, or_false] at hi
    rcases hi with rfl | rfl | rfl | rfl
    · refine wpOp_at rfl (by kernel_rfl) (fun K hK => ?_)
      go_simp
      go_at_call 30
      refine (add_rq (HRbx.out _ HB0.out) (HRby_.out _ HB0.out) cx cy HPbx.out HPby_.out (by decide) (by decide) (by decide) (by decide)).mono ?_
      rintro r w10 ⟨vn, hn, rfl, kn, ln, hb⟩
      dsimp only
      have hb1 := below_step HB0.out hb
      exact hK _ _ ⟨HO.out _ hb1, vn, v1, p0, p1, g0, g1, hn, h1, by go_simp, hb1, fun _ => kn, fun h => (C1.out (by rwa [tb_ne (by decide)] at h)).below hb, fun h => ⟨(Q0.out (by rwa [tb_ne (by decide)] at h)).1, (Q0.out (by rwa [tb_ne (by decide)] at h)).2.1.below hb (Q0.out (by rwa [tb_ne (by decide)] at h)).2.1.lt, (Q0.out (by rwa [tb_ne (by decide)] at h)).2.2⟩, fun h => ⟨(Q1.out (by rwa [tb_ne (by decide)] at h)).1, (Q1.out (by rwa [tb_ne (by decide)] at h)).2.1.below hb (Q1.out (by rwa [tb_ne (by decide)] at h)).2.1.lt, (Q1.out (by rwa [tb_ne (by decide)] at h)).2.2⟩, fun h h' => D0_1.out (by rwa [tb_ne (by decide)] at h) (by rwa [tb_ne (by decide)] at h'), fun h h' => Nat.ne_of_gt (Nat.lt_of_lt_of_le (Q0.out (by rwa [tb_ne (by decide)] at h')).2.1.lt ln), fun h h' => Nat.ne_of_gt (Nat.lt_of_lt_of_le (Q1.out (by rwa [tb_ne (by decide)] at h')).2.1.lt ln), fun h h' => B1_0.out (by rwa [tb_ne (by decide)] at h) (by rwa [tb_ne (by decide)] at h'), fun h h' => B1_1.out (by rwa [tb_ne (by decide)] at h) (by rwa [tb_ne (by decide)] at h')⟩
    · refine wpOp_at rfl (by kernel_rfl) (fun K hK => ?_)
      go_simp
      go_at_call 25
      refine (mul_rq (HRbx.out _ HB0.out) (HRby_.out _ HB0.out) cx cy HPbx.out HPby_.out (by decide) (by decide) (by decide) (by decide) (by decide) (by decide)).mono ?_
      rintro r w10 ⟨vn, hn, rfl, kn, ln, hb⟩
      dsimp only
      have hb1 := below_step HB0.out hb
      exact hK _ _ ⟨HO.out _ hb1, v0, vn, p0, p1, g0, g1, h0, hn, by go_simp, hb1, fun h => (C0.out (by rwa [tb_ne (by decide)] at h)).below hb, fun _ => kn, fun h => ⟨(Q0.out (by rwa [tb_ne (by decide)] at h)).1, (Q0.out (by rwa [tb_ne (by decide)] at h)).2.1.below hb (Q0.out (by rwa [tb_ne (by decide)] at h)).2.1.lt, (Q0.out (by rwa [tb_ne (by decide)] at h)).2.2⟩, fun h => ⟨(Q1.out (by rwa [tb_ne (by decide)] at h)).1, (Q1.out (by rwa [tb_ne (by decide)] at h)).2.1.below hb (Q1.out (by rwa [tb_ne (by decide)] at h)).2.1.lt, (Q1.out (by rwa [tb_ne (by decide)] at h)).2.2⟩, fun h h' => D0_1.out (by rwa [tb_ne (by decide)] at h) (by rwa [tb_ne (by decide)] at h'), fun h h' => B0_0.out (by rwa [tb_ne (by decide)] at h) (by rwa [tb_ne (by decide)] at h'), fun h h' => B0_1.out (by rwa [tb_ne (by decide)] at h) (by rwa [tb_ne (by decide)] at h'), fun h h' => Nat.ne_of_gt (Nat.lt_of_lt_of_le (Q0.out (by rwa [tb_ne (by decide)] at h')).2.1.lt ln), fun h h' => Nat.ne_of_gt (Nat.lt_of_lt_of_le (Q1.out (by rwa [tb_ne (by decide)] at h')).2.1.lt ln)⟩
    · refine wpOp_at rfl (by kernel_rfl) (fun K hK => ?_)
      go_simp
      have hb1 := below_more HB0.out (.cells #[Value.bool false, Value.slice none 0 0, Value.int IntKind.i64 0] 35)
      exact hK _ _ ⟨HO.out _ hb1, v0, v1, .pointer (some ⟨w9.heap.size, 0, none⟩), p1, w9.heap.size, g1, h0, h1, by go_simp, hb1, fun h => (C0.out (by rwa [tb_ne (by decide)] at h)).below (below_new _ _), fun h => (C1.out (by rwa [tb_ne (by decide)] at h)).below (below_new _ _), fun _ => ⟨rfl, Blk.new_at _ _ _ rfl, HB0.out.size⟩, fun h => ⟨(Q1.out (by rwa [tb_ne (by decide)] at h)).1, (Q1.out (by rwa [tb_ne (by decide)] at h)).2.1.alloc _, (Q1.out (by rwa [tb_ne (by decide)] at h)).2.2⟩, fun h h' => Nat.ne_of_gt (Q1.out (by rwa [tb_ne (by decide)] at h')).2.1.lt, fun h h' => Nat.ne_of_lt (C0.out (by rwa [tb_ne (by decide)] at h)).lt, fun h h' => B0_1.out (by rwa [tb_ne (by decide)] at h) (by rwa [tb_ne (by decide)] at h'), fun h h' => Nat.ne_of_lt (C1.out (by rwa [tb_ne (by decide)] at h)).lt, fun h h' => B1_1.out (by rwa [tb_ne (by decide)] at h) (by rwa [tb_ne (by decide)] at h')⟩
    · refine wpOp_at rfl (by kernel_rfl) (fun K hK => ?_)
      go_simp
      have hb1 := below_more HB0.out (.cells #[Value.bool false, Value.slice none 0 0, Value.int IntKind.i64 0] 35)
      exact hK _ _ ⟨HO.out _ hb1, v0, v1, p0, .pointer (some ⟨w9.heap.size, 0, none⟩), g0, w9.heap.size, h0, h1, by go_simp, hb1, fun h => (C0.out (by rwa [tb_ne (by decide)] at h)).below (below_new _ _), fun h => (C1.out (by rwa [tb_ne (by decide)] at h)).below (below_new _ _), fun h => ⟨(Q0.out (by rwa [tb_ne (by decide)] at h)).1, (Q0.out (by rwa [tb_ne (by decide)] at h)).2.1.alloc _, (Q0.out (by rwa [tb_ne (by decide)] at h)).2.2⟩, fun _ => ⟨rfl, Blk.new_at _ _ _ rfl, HB0.out.size⟩, fun h h' => Nat.ne_of_lt (Q0.out (by rwa [tb_ne (by decide)] at h)).2.1.lt, fun h h' => B0_0.out (by rwa [tb_ne (by decide)] at h) (by rwa [tb_ne (by decide)] at h'), fun h h' => Nat.ne_of_lt (C0.out (by rwa [tb_ne (by decide)] at h)).lt, fun h h' => B1_0.out (by rwa [tb_ne (by decide)] at h) (by rwa [tb_ne (by decide)] at h'), fun h h' => Nat.ne_of_lt (C1.out (by rwa [tb_ne (by decide)] at h)).lt⟩
  intro a' w9 hJ
  obtain ⟨v0, v1, p0, p1, g0, g1, h0, h1, rfl, hb0, c0, c1, q0, q1, d0_1, b0_0, b0_1, b1_0, b1_1⟩ := hJ
  obtain ⟨nb0, nc0, rfl, hrn0, hpn0⟩ := c0 (by decide)
  have HRn0 := Lib.hid hrn0
  have HPn0 := Lib.hid hpn0
  clear hrn0 hpn0
  obtain ⟨nb1, nc1, rfl, hrn1, hpn1⟩ := c1 (by decide)
  have HRn1 := Lib.hid hrn1
  have HPn1 := Lib.hid hpn1
  clear hrn1 hpn1
  have e50_0 := b0_0 (by decide) (by decide)
  clear b0_0
  have e50_1 := b0_1 (by decide) (by decide)
  clear b0_1
  have e51_0 := b1_0 (by decide) (by decide)
  clear b1_0
  have e51_1 := b1_1 (by decide) (by decide)
  clear b1_1
  obtain ⟨rfl, k0, l0⟩ := q0 (by decide)
  obtain ⟨rfl, k1, l1⟩ := q1 (by decide)
  have e0_1 := d0_1 (by decide) (by decide)
  clear d0_1
  have DB := Lib.hid hb0
  clear hb0 hS0
  have KK0 := Lib.hid k0
  clear k0
  have KK1 := Lib.hid k1
  clear k1
  refine wpAnyH_frame (a' := ?fr6) ?fe6 ?fg6
  case fe6 => (go_simp; try with_reducible rfl)
  have hS0 := HO.out _ DB.out
  refine wpAnyH_oneM (i := 8) (l' := bm 10 511) rfl (by kernel_rfl) (by kernel_rfl) (by kernel_rfl) (fun K hK => ?_)
  have f0 := KK0.out.cell 0
  have u0 := KK0.out.frz 0
  have f1 := KK0.out.cell 1
  have u1 := KK0.out.frz 1
  have f2 := KK0.out.cell 2
  have u2 := KK0.out.frz 2
  obtain ⟨ws0, hv⟩ : ∃ V, (((w9.setCell ⟨g0, 0, none⟩ (Value.bool nb0.neg)).setCell ⟨g0, 1, none⟩ (Value.slice (some ⟨h0, 0, none⟩) nb0.ws.length nc0)).setCell ⟨g0, 2, none⟩ (Value.int IntKind.i64 nb0.e)) = V := ⟨_, rfl⟩
  have DB' := Lib.hid (hv ▸ Below.setCell (Below.setCell (Below.setCell (DB.out) l0 _) l0 _) l0 _ : Below V.heap.size V ws0)
  have KK0' := Lib.hid (hv ▸ (Blk.set_ (Blk.set_ (Blk.set_ (KK0.out) 0 _) 1 _) 2 _) : Blk ws0 g0 35 #[Value.bool nb0.neg, Value.slice (some ⟨h0, 0, none⟩) nb0.ws.length nc0, Value.int IntKind.i64 nb0.e])
  have KK1' := Lib.hid (hv ▸ (Blk.off (Blk.off (Blk.off (KK1.out) ⟨g0, 0, none⟩ _ (by show g1 ≠ g0; omega)) ⟨g0, 1, none⟩ _ (by show g1 ≠ g0; omega)) ⟨g0, 2, none⟩ _ (by show g1 ≠ g0; omega)) : Blk ws0 g1 35 #[Value.bool false, Value.slice none 0 0, Value.int IntKind.i64 0])
  have HRn0 := Lib.hid (hv ▸ (RL.off (RL.off (RL.off (HRn0.out) ⟨g0, 0, none⟩ _ (by show h0 ≠ g0; exact e50_0)) ⟨g0, 1, none⟩ _ (by show h0 ≠ g0; exact e50_0)) ⟨g0, 2, none⟩ _ (by show h0 ≠ g0; exact e50_0)) : RL ws0 h0 nb0.ws)
  have HRn1 := Lib.hid (hv ▸ (RL.off (RL.off (RL.off (HRn1.out) ⟨g0, 0, none⟩ _ (by show h1 ≠ g0; exact e51_0)) ⟨g0, 1, none⟩ _ (by show h1 ≠ g0; exact e51_0)) ⟨g0, 2, none⟩ _ (by show h1 ≠ g0; exact e51_0)) : RL ws0 h1 nb1.ws)
  go_simp
  clear hv f0 u0 f1 u1 f2 u2
  have DB := DB'
  clear DB'
  have KK0 := KK0'
  clear KK0'
  have KK1 := KK1'
  clear KK1'
  have hS1 := HO.out _ DB.out
  refine hK _ _ hS1 ?_
  clear hK K hS0
  refine wpAnyH_oneM (i := 9) (l' := bm 10 1023) rfl (by kernel_rfl) (by kernel_rfl) (by kernel_rfl) (fun K hK => ?_)
  have f0 := KK1.out.cell 0
  have u0 := KK1.out.frz 0
  have f1 := KK1.out.cell 1
  have u1 := KK1.out.frz 1
  have f2 := KK1.out.cell 2
  have u2 := KK1.out.frz 2
  obtain ⟨ws1, hv⟩ : ∃ V, (((ws0.setCell ⟨g1, 0, none⟩ (Value.bool nb1.neg)).setCell ⟨g1, 1, none⟩ (Value.slice (some ⟨h1, 0, none⟩) nb1.ws.length nc1)).setCell ⟨g1, 2, none⟩ (Value.int IntKind.i64 nb1.e)) = V := ⟨_, rfl⟩
  have DB' := Lib.hid (hv ▸ Below.setCell (Below.setCell (Below.setCell (DB.out) l1 _) l1 _) l1 _ : Below V.heap.size V ws1)
  have KK0' := Lib.hid (hv ▸ (Blk.off (Blk.off (Blk.off (KK0.out) ⟨g1, 0, none⟩ _ (by show g0 ≠ g1; omega)) ⟨g1, 1, none⟩ _ (by show g0 ≠ g1; omega)) ⟨g1, 2, none⟩ _ (by show g0 ≠ g1; omega)) : Blk ws1 g0 35 #[Value.bool nb0.neg, Value.slice (some ⟨h0, 0, none⟩) nb0.ws.length nc0, Value.int IntKind.i64 nb0.e])
  have KK1' := Lib.hid (hv ▸ (Blk.set_ (Blk.set_ (Blk.set_ (KK1.out) 0 _) 1 _) 2 _) : Blk ws1 g1 35 #[Value.bool nb1.neg, Value.slice (some ⟨h1, 0, none⟩) nb1.ws.length nc1, Value.int IntKind.i64 nb1.e])
  have HRn0 := Lib.hid (hv ▸ (RL.off (RL.off (RL.off (HRn0.out) ⟨g1, 0, none⟩ _ (by show h0 ≠ g1; exact e50_1)) ⟨g1, 1, none⟩ _ (by show h0 ≠ g1; exact e50_1)) ⟨g1, 2, none⟩ _ (by show h0 ≠ g1; exact e50_1)) : RL ws1 h0 nb0.ws)
  have HRn1 := Lib.hid (hv ▸ (RL.off (RL.off (RL.off (HRn1.out) ⟨g1, 0, none⟩ _ (by show h1 ≠ g1; exact e51_1)) ⟨g1, 1, none⟩ _ (by show h1 ≠ g1; exact e51_1)) ⟨g1, 2, none⟩ _ (by show h1 ≠ g1; exact e51_1)) : RL ws1 h1 nb1.ws)
  go_simp
  clear hv f0 u0 f1 u1 f2 u2
  have DB := DB'
  clear DB'
  have KK0 := KK0'
  clear KK0'
  have KK1 := KK1'
  clear KK1'
  have hS2 := HO.out _ DB.out
  refine hK _ _ hS2 ?_
  clear hK K hS1
  refine wpAnyH_done (by kernel_rfl) ?_ _
  clear hS2
  have K0' := Lib.hid (K0.out.below DB.out K0.out.lt)
  clear K0
  have K1' := Lib.hid (K1.out.below DB.out K1.out.lt)
  clear K1
  have HB' := Lib.hid (below_step HB.out DB.out)
  clear HB HO D6
  have HB := HB'
  clear HB'
  have K0 := K0'
  clear K0'
  have K1 := K1'
  clear K1'
  have K2 := KK0
  clear KK0
  have K3 := KK1
  clear KK1
  have HO := Lib.hid (show ∀ w', Below ws1.heap.size ws1 w' → (Below ws1.heap.size ws1 w' ∧ w'.cell? ⟨gv, 0, none⟩ = some (Value.bool bx.neg) ∧ w'.cell? ⟨gv, 1, none⟩ = some (Value.slice (some ⟨gx, 0, none⟩) bx.ws.length cx) ∧ w'.cell? ⟨gv, 2, none⟩ = some (Value.int IntKind.i64 bx.e) ∧ w'.cell? ⟨gv + 1, 0, none⟩ = some (Value.bool by_.neg) ∧ w'.cell? ⟨gv + 1, 1, none⟩ = some (Value.slice (some ⟨gy, 0, none⟩) by_.ws.length cy) ∧ w'.cell? ⟨gv + 1, 2, none⟩ = some (Value.int IntKind.i64 by_.e) ∧ w'.cell? ⟨g0, 0, none⟩ = some (Value.bool nb0.neg) ∧ w'.cell? ⟨g0, 1, none⟩ = some (Value.slice (some ⟨h0, 0, none⟩) nb0.ws.length nc0) ∧ w'.cell? ⟨g0, 2, none⟩ = some (Value.int IntKind.i64 nb0.e) ∧ w'.cell? ⟨g1, 0, none⟩ = some (Value.bool nb1.neg) ∧ w'.cell? ⟨g1, 1, none⟩ = some (Value.slice (some ⟨h1, 0, none⟩) nb1.ws.length nc1) ∧ w'.cell? ⟨g1, 2, none⟩ = some (Value.int IntKind.i64 nb1.e)) from fun w' h => ⟨h, (K0.out.below h K0.out.lt).cell 0, (K0.out.below h K0.out.lt).cell 1, (K0.out.below h K0.out.lt).cell 2, (K1.out.below h K1.out.lt).cell 0, (K1.out.below h K1.out.lt).cell 1, (K1.out.below h K1.out.lt).cell 2, (K2.out.below h K2.out.lt).cell 0, (K2.out.below h K2.out.lt).cell 1, (K2.out.below h K2.out.lt).cell 2, (K3.out.below h K3.out.lt).cell 0, (K3.out.below h K3.out.lt).cell 1, (K3.out.below h K3.out.lt).cell 2⟩)
  have D7 := Lib.hid (Below.refl ws1.heap.size ws1)
  have hq := (HO.out _ D7.out).2
  have HRn0 := Lib.hid (fun w' (b : Below ws1.heap.size ws1 w') => HRn0.out.below' b)
  have HRn1 := Lib.hid (fun w' (b : Below ws1.heap.size ws1 w') => HRn1.out.below' b)
  clear hq
  go_wp2_with fail
  have hq := (HO.out _ D7.out).2
  refine (R1.out _).mono ?_
  clear hq
  rintro r w8 ⟨rfl, hb⟩
  have D8 := Lib.hid (below_step D7.out hb)
  clear hb
  have hq := (HO.out _ D8.out).2
  go_wp2_with fail
  refine (R2.out _).mono ?_
  clear hq
  rintro r w9 ⟨rfl, hb⟩
  have D9 := Lib.hid (below_step D8.out hb)
  clear hb
  have hq := (HO.out _ D9.out).2
  go_wp2_with fail
  refine (btw_rd (HRn0.out _ D9.out) nc0 HPn0.out (by decide) (by decide) (by decide) DD1.out DD2.out).mono ?_
  clear hq
  rintro r w10 ⟨rfl, hb⟩
  have D10 := Lib.hid (below_step D9.out hb)
  clear hb
  have hq := (HO.out _ D10.out).2
  go_wp2_with fail
  refine (CL1.out _).mono ?_
  clear hq
  rintro r w11 ⟨rfl, hb⟩
  have D11 := Lib.hid (below_step D10.out hb)
  clear hb
  have hq := (HO.out _ D11.out).2
  clear hq
  go_wp2_with fail
  go_wp2_with fail
  refine wp_region_held (S := (fun w' => Below ws1.heap.size ws1 w' ∧ w'.cell? ⟨gv, 0, none⟩ = some (Value.bool bx.neg) ∧ w'.cell? ⟨gv, 1, none⟩ = some (Value.slice (some ⟨gx, 0, none⟩) bx.ws.length cx) ∧ w'.cell? ⟨gv, 2, none⟩ = some (Value.int IntKind.i64 bx.e) ∧ w'.cell? ⟨gv + 1, 0, none⟩ = some (Value.bool by_.neg) ∧ w'.cell? ⟨gv + 1, 1, none⟩ = some (Value.slice (some ⟨gy, 0, none⟩) by_.ws.length cy) ∧ w'.cell? ⟨gv + 1, 2, none⟩ = some (Value.int IntKind.i64 by_.e) ∧ w'.cell? ⟨g0, 0, none⟩ = some (Value.bool nb0.neg) ∧ w'.cell? ⟨g0, 1, none⟩ = some (Value.slice (some ⟨h0, 0, none⟩) nb0.ws.length nc0) ∧ w'.cell? ⟨g0, 2, none⟩ = some (Value.int IntKind.i64 nb0.e) ∧ w'.cell? ⟨g1, 0, none⟩ = some (Value.bool nb1.neg) ∧ w'.cell? ⟨g1, 1, none⟩ = some (Value.slice (some ⟨h1, 0, none⟩) nb1.ws.length nc1) ∧ w'.cell? ⟨g1, 2, none⟩ = some (Value.int IntKind.i64 nb1.e))) (by kernel_rfl) ?_
  (try change wpAnyH _ _ _ _ _ _ _ (World.drew _))
  have hS0 := HO.out _ (Below.drew D11.out)
  refine wpAnyH_takeM (i := 0) (v := ?v11_0) (l' := bm 18 1) (a' := ?a11_0) rfl (by kernel_rfl) (by kernel_rfl) (by kernel_rfl) (fun _ _ _ h => h) (Or.inl ⟨by kernel_rfl, ?h11_0⟩) (by kernel_rfl) ?p11_0 hS0 ?r11_0
  case h11_0 => (intro w hS; go_simp; try with_reducible rfl)
  case p11_0 => (go_simp; try with_reducible rfl)
  refine wpAnyH_oneM (i := 1) (l' := bm 18 3) rfl (by kernel_rfl) (by kernel_rfl) (by kernel_rfl) (fun K hK => ?_)
  have hP := hS0.1
  go_simp
  go_at_call 20
  refine (N1.out _).mono ?_
  rintro r w12 ⟨rfl, hb⟩
  dsimp only
  have D12 := Lib.hid (below_step hP hb)
  clear hb
  have hS1 := HO.out _ (D12.out)
  clear hP hS0
  refine hK _ _ hS1 ?_
  clear hK K
  refine wpAnyH_takeM (i := 2) (v := ?v11_2) (l' := bm 18 7) (a' := ?a11_2) rfl (by kernel_rfl) (by kernel_rfl) (by kernel_rfl) (fun _ _ _ h => h) (Or.inl ⟨by kernel_rfl, ?h11_2⟩) (by kernel_rfl) ?p11_2 hS1 ?r11_2
  case h11_2 => (intro w hS; go_simp; try with_reducible rfl)
  case p11_2 => (go_simp; try with_reducible rfl)
  refine wpAnyH_takeM (i := 3) (v := ?v11_3) (l' := bm 18 15) (a' := ?a11_3) rfl (by kernel_rfl) (by kernel_rfl) (by kernel_rfl) (fun _ _ _ h => h) (Or.inl ⟨by kernel_rfl, ?h11_3⟩) (by kernel_rfl) ?p11_3 hS1 ?r11_3
  case h11_3 => (intro w hS; go_simp; try with_reducible rfl)
  case p11_3 => (go_simp; try with_reducible rfl)
  refine wpAnyH_takeM (i := 4) (v := ?v11_4) (l' := bm 18 31) (a' := ?a11_4) rfl (by kernel_rfl) (by kernel_rfl) (by kernel_rfl) (fun _ _ _ h => h) (Or.inl ⟨by kernel_rfl, ?h11_4⟩) (by kernel_rfl) ?p11_4 hS1 ?r11_4
  case h11_4 => (intro w hS; go_simp; try with_reducible rfl)
  case p11_4 => (go_simp; try with_reducible rfl)
  refine wpAnyH_takeM (i := 5) (v := ?v11_5) (l' := bm 18 63) (a' := ?a11_5) rfl (by kernel_rfl) (by kernel_rfl) (by kernel_rfl) (fun _ _ _ h => h) (Or.inl ⟨by kernel_rfl, ?h11_5⟩) (by kernel_rfl) ?p11_5 hS1 ?r11_5
  case h11_5 => (intro w hS; go_simp; try with_reducible rfl)
  case p11_5 => (go_simp; try with_reducible rfl)
  refine wpAnyH_takeM (i := 6) (v := ?v11_6) (l' := bm 18 127) (a' := ?a11_6) rfl (by kernel_rfl) (by kernel_rfl) (by kernel_rfl) (fun _ _ _ h => h) (Or.inl ⟨by kernel_rfl, ?h11_6⟩) (by kernel_rfl) ?p11_6 hS1 ?r11_6
  case h11_6 => (intro w hS; go_simp; try with_reducible rfl)
  case p11_6 => (go_simp; try with_reducible rfl)
  refine wpAnyH_takeM (i := 7) (v := ?v11_7) (l' := bm 18 255) (a' := ?a11_7) rfl (by kernel_rfl) (by kernel_rfl) (by kernel_rfl) (fun _ _ _ h => h) (Or.inl ⟨by kernel_rfl, ?h11_7⟩) (by kernel_rfl) ?p11_7 hS1 ?r11_7
  case h11_7 => (intro w hS; go_simp; try with_reducible rfl)
  case p11_7 => (go_simp; try with_reducible rfl)
  refine wpAnyH_oneM (i := 8) (l' := bm 18 511) rfl (by kernel_rfl) (by kernel_rfl) (by kernel_rfl) (fun K hK => ?_)
  have hP := hS1.1
  go_simp
  go_at_call 22
  refine (OL.out _).mono ?_
  rintro r w13 ⟨s1_, h1_, c1_, rfl, hr1, hp1, hb⟩
  dsimp only
  have D13 := Lib.hid (below_step hP hb)
  clear hb
  have hS2 := HO.out _ (D13.out)
  clear hP hS1
  refine hK _ _ hS2 ?_
  clear hK K
  refine wpAnyH_oneM (i := 9) (l' := bm 18 1023) rfl (by kernel_rfl) (by kernel_rfl) (by kernel_rfl) (fun K hK => ?_)
  have hP := hS2.1
  go_simp
  go_at_call 33
  refine (sub_rp (HRn0.out _ hP) hr1 nc0 c1_ HPn0.out hp1 (by decide) (by decide) (by decide) (by decide)).mono ?_
  rintro r w14 ⟨s2_, h2_, c2_, rfl, hr2, hp2, hb⟩
  dsimp only
  have D14 := Lib.hid (below_step hP hb)
  clear hb
  have hS3 := HO.out _ (D14.out)
  clear hP hS2
  refine hK _ _ hS3 ?_
  clear hK K
  refine wpAnyH_oneM (i := 10) (l' := bm 18 2047) rfl (by kernel_rfl) (by kernel_rfl) (by kernel_rfl) (fun K hK => ?_)
  have hP := hS3.1
  go_simp
  go_at_call 32
  refine (sgn_q hr2 c2_ hp2 (by decide) qs_ HQ1.out).mono ?_
  rintro r w15 ⟨n1, rfl, hn1, hn1', hb⟩
  dsimp only
  have D15 := Lib.hid (below_step hP hb)
  clear hb
  have hS4 := HO.out _ (D15.out)
  clear hP hS3
  refine hK _ _ hS4 ?_
  clear hK K
  refine wpAnyH_takeM (i := 11) (v := ?v11_11) (l' := bm 18 4095) (a' := ?a11_11) rfl (by kernel_rfl) (by kernel_rfl) (by kernel_rfl) (fun _ _ _ h => h) (Or.inl ⟨by kernel_rfl, ?h11_11⟩) (by kernel_rfl) ?p11_11 hS4 ?r11_11
  case h11_11 => (intro w hS; go_simp; try with_reducible rfl)
  case p11_11 => (go_simp; try with_reducible rfl)
  refine wpAnyH_takeM (i := 12) (v := ?v11_12) (l' := bm 18 8191) (a' := ?a11_12) rfl (by kernel_rfl) (by kernel_rfl) (by kernel_rfl) (fun _ _ _ h => h) (Or.inl ⟨by kernel_rfl, ?h11_12⟩) (by kernel_rfl) ?p11_12 hS4 ?r11_12
  case h11_12 => (intro w hS; go_simp; try with_reducible rfl)
  case p11_12 => (go_simp; try with_reducible rfl)
  refine wpAnyH_takeM (i := 13) (v := ?v11_13) (l' := bm 18 16383) (a' := ?a11_13) rfl (by kernel_rfl) (by kernel_rfl) (by kernel_rfl) (fun _ _ _ h => h) (Or.inl ⟨by kernel_rfl, ?h11_13⟩) (by kernel_rfl) ?p11_13 hS4 ?r11_13
  case h11_13 => (intro w hS; go_simp; try with_reducible rfl)
  case p11_13 => (go_simp; try with_reducible rfl)
  refine wpAnyH_takeM (i := 14) (v := ?v11_14) (l' := bm 18 32767) (a' := ?a11_14) rfl (by kernel_rfl) (by kernel_rfl) (by kernel_rfl) (fun _ _ _ h => h) (Or.inl ⟨by kernel_rfl, ?h11_14⟩) (by kernel_rfl) ?p11_14 hS4 ?r11_14
  case h11_14 => (intro w hS; go_simp; try with_reducible rfl)
  case p11_14 => (go_simp; try with_reducible rfl)
  refine wpAnyH_takeM (i := 15) (v := undef) (l' := bm 18 65535) (a' := ?a11_15) rfl (by kernel_rfl) (by kernel_rfl) (by kernel_rfl) (fun _ _ _ h => h) (Or.inr ⟨by kernel_rfl, rfl⟩) (by kernel_rfl) ?p11_15 hS4 ?_
  case p11_15 => (go_simp; try with_reducible rfl)
  refine wpAnyH_takeM (i := 16) (v := undef) (l' := bm 18 131071) (a' := ?a11_16) rfl (by kernel_rfl) (by kernel_rfl) (by kernel_rfl) (fun _ _ _ h => h) (Or.inr ⟨by kernel_rfl, rfl⟩) (by kernel_rfl) ?p11_16 hS4 ?_
  case p11_16 => (go_simp; try with_reducible rfl)
  refine wpAnyH_takeM (i := 17) (v := ?v11_17) (l' := bm 18 262143) (a' := ?a11_17) rfl (by kernel_rfl) (by kernel_rfl) (by kernel_rfl) (fun _ _ _ h => h) (Or.inl ⟨by kernel_rfl, ?h11_17⟩) (by kernel_rfl) ?p11_17 hS4 ?r11_17
  case h11_17 => (intro w hS; go_simp; try with_reducible rfl)
  case p11_17 => (go_simp; try with_reducible rfl)
  refine wpAnyH_done (by kernel_rfl) ?_ _
  clear hS4
  have hq := (HO.out _ D15.out).2
  clear hq hn1 hn1' hr1 hp1 hr2 hp2
  go_wp2_with fail
  have hq := (HO.out _ D15.out).2
  refine (R3.out _).mono ?_
  clear hq
  rintro r w16 ⟨rfl, hb⟩
  have D16 := Lib.hid (below_step D15.out hb)
  clear hb
  have hq := (HO.out _ D16.out).2
  go_wp2_with fail
  refine (R4.out _).mono ?_
  clear hq
  rintro r w17 ⟨rfl, hb⟩
  have D17 := Lib.hid (below_step D16.out hb)
  clear hb
  have hq := (HO.out _ D17.out).2
  go_wp2_with fail
  refine (btw_rd (HRn1.out _ D17.out) nc1 HPn1.out (by decide) (by decide) (by decide) EE1.out EE2.out).mono ?_
  clear hq
  rintro r w18 ⟨rfl, hb⟩
  have D18 := Lib.hid (below_step D17.out hb)
  clear hb
  have hq := (HO.out _ D18.out).2
  go_wp2_with fail
  refine (CL2.out _).mono ?_
  clear hq
  rintro r w19 ⟨rfl, hb⟩
  have D19 := Lib.hid (below_step D18.out hb)
  clear hb
  have hq := (HO.out _ D19.out).2
  clear hq
  go_wp2_with fail
  go_wp2_with fail
  refine wp_region_held (S := (fun w' => Below ws1.heap.size ws1 w' ∧ w'.cell? ⟨gv, 0, none⟩ = some (Value.bool bx.neg) ∧ w'.cell? ⟨gv, 1, none⟩ = some (Value.slice (some ⟨gx, 0, none⟩) bx.ws.length cx) ∧ w'.cell? ⟨gv, 2, none⟩ = some (Value.int IntKind.i64 bx.e) ∧ w'.cell? ⟨gv + 1, 0, none⟩ = some (Value.bool by_.neg) ∧ w'.cell? ⟨gv + 1, 1, none⟩ = some (Value.slice (some ⟨gy, 0, none⟩) by_.ws.length cy) ∧ w'.cell? ⟨gv + 1, 2, none⟩ = some (Value.int IntKind.i64 by_.e) ∧ w'.cell? ⟨g0, 0, none⟩ = some (Value.bool nb0.neg) ∧ w'.cell? ⟨g0, 1, none⟩ = some (Value.slice (some ⟨h0, 0, none⟩) nb0.ws.length nc0) ∧ w'.cell? ⟨g0, 2, none⟩ = some (Value.int IntKind.i64 nb0.e) ∧ w'.cell? ⟨g1, 0, none⟩ = some (Value.bool nb1.neg) ∧ w'.cell? ⟨g1, 1, none⟩ = some (Value.slice (some ⟨h1, 0, none⟩) nb1.ws.length nc1) ∧ w'.cell? ⟨g1, 2, none⟩ = some (Value.int IntKind.i64 nb1.e))) (by kernel_rfl) ?_
  (try change wpAnyH _ _ _ _ _ _ _ (World.drew _))
  have hS0 := HO.out _ (Below.drew D19.out)
  refine wpAnyH_takeM (i := 0) (v := ?v17_0) (l' := bm 21 1) (a' := ?a17_0) rfl (by kernel_rfl) (by kernel_rfl) (by kernel_rfl) (fun _ _ _ h => h) (Or.inl ⟨by kernel_rfl, ?h17_0⟩) (by kernel_rfl) ?p17_0 hS0 ?r17_0
  case h17_0 => (intro w hS; go_simp; try with_reducible rfl)
  case p17_0 => (go_simp; try with_reducible rfl)
  refine wpAnyH_oneM (i := 1) (l' := bm 21 3) rfl (by kernel_rfl) (by kernel_rfl) (by kernel_rfl) (fun K hK => ?_)
  have hP := hS0.1
  go_simp
  go_at_call 20
  refine (N2.out _).mono ?_
  rintro r w20 ⟨rfl, hb⟩
  dsimp only
  have D20 := Lib.hid (below_step hP hb)
  clear hb
  have hS1 := HO.out _ (D20.out)
  clear hP hS0
  refine hK _ _ hS1 ?_
  clear hK K
  refine wpAnyH_takeM (i := 2) (v := ?v17_2) (l' := bm 21 7) (a' := ?a17_2) rfl (by kernel_rfl) (by kernel_rfl) (by kernel_rfl) (fun _ _ _ h => h) (Or.inl ⟨by kernel_rfl, ?h17_2⟩) (by kernel_rfl) ?p17_2 hS1 ?r17_2
  case h17_2 => (intro w hS; go_simp; try with_reducible rfl)
  case p17_2 => (go_simp; try with_reducible rfl)
  refine wpAnyH_takeM (i := 3) (v := ?v17_3) (l' := bm 21 15) (a' := ?a17_3) rfl (by kernel_rfl) (by kernel_rfl) (by kernel_rfl) (fun _ _ _ h => h) (Or.inl ⟨by kernel_rfl, ?h17_3⟩) (by kernel_rfl) ?p17_3 hS1 ?r17_3
  case h17_3 => (intro w hS; go_simp; try with_reducible rfl)
  case p17_3 => (go_simp; try with_reducible rfl)
  refine wpAnyH_takeM (i := 4) (v := undef) (l' := bm 21 31) (a' := ?a17_4) rfl (by kernel_rfl) (by kernel_rfl) (by kernel_rfl) (fun _ _ _ h => h) (Or.inr ⟨by kernel_rfl, rfl⟩) (by kernel_rfl) ?p17_4 hS1 ?_
  case p17_4 => (go_simp; try with_reducible rfl)
  refine wpAnyH_takeM (i := 5) (v := undef) (l' := bm 21 63) (a' := ?a17_5) rfl (by kernel_rfl) (by kernel_rfl) (by kernel_rfl) (fun _ _ _ h => h) (Or.inr ⟨by kernel_rfl, rfl⟩) (by kernel_rfl) ?p17_5 hS1 ?_
  case p17_5 => (go_simp; try with_reducible rfl)
  refine wpAnyH_takeM (i := 6) (v := undef) (l' := bm 21 127) (a' := ?a17_6) rfl (by kernel_rfl) (by kernel_rfl) (by kernel_rfl) (fun _ _ _ h => h) (Or.inr ⟨by kernel_rfl, rfl⟩) (by kernel_rfl) ?p17_6 hS1 ?_
  case p17_6 => (go_simp; try with_reducible rfl)
  refine wpAnyH_takeM (i := 7) (v := ?v17_7) (l' := bm 21 255) (a' := ?a17_7) rfl (by kernel_rfl) (by kernel_rfl) (by kernel_rfl) (fun _ _ _ h => h) (Or.inl ⟨by kernel_rfl, ?h17_7⟩) (by kernel_rfl) ?p17_7 hS1 ?r17_7
  case h17_7 => (intro w hS; go_simp; try with_reducible rfl)
  case p17_7 => (go_simp; try with_reducible rfl)
  refine wpAnyH_takeM (i := 8) (v := ?v17_8) (l' := bm 21 511) (a' := ?a17_8) rfl (by kernel_rfl) (by kernel_rfl) (by kernel_rfl) (fun _ _ _ h => h) (Or.inl ⟨by kernel_rfl, ?h17_8⟩) (by kernel_rfl) ?p17_8 hS1 ?r17_8
  case h17_8 => (intro w hS; go_simp; try with_reducible rfl)
  case p17_8 => (go_simp; try with_reducible rfl)
  refine wpAnyH_takeM (i := 9) (v := undef) (l' := bm 21 1023) (a' := ?a17_9) rfl (by kernel_rfl) (by kernel_rfl) (by kernel_rfl) (fun _ _ _ h => h) (Or.inr ⟨by kernel_rfl, rfl⟩) (by kernel_rfl) ?p17_9 hS1 ?_
  case p17_9 => (go_simp; try with_reducible rfl)
  refine wpAnyH_takeM (i := 10) (v := undef) (l' := bm 21 2047) (a' := ?a17_10) rfl (by kernel_rfl) (by kernel_rfl) (by kernel_rfl) (fun _ _ _ h => h) (Or.inr ⟨by kernel_rfl, rfl⟩) (by kernel_rfl) ?p17_10 hS1 ?_
  case p17_10 => (go_simp; try with_reducible rfl)
  refine wpAnyH_takeM (i := 11) (v := undef) (l' := bm 21 4095) (a' := ?a17_11) rfl (by kernel_rfl) (by kernel_rfl) (by kernel_rfl) (fun _ _ _ h => h) (Or.inr ⟨by kernel_rfl, rfl⟩) (by kernel_rfl) ?p17_11 hS1 ?_
  case p17_11 => (go_simp; try with_reducible rfl)
  refine wpAnyH_takeM (i := 12) (v := undef) (l' := bm 21 8191) (a' := ?a17_12) rfl (by kernel_rfl) (by kernel_rfl) (by kernel_rfl) (fun _ _ _ h => h) (Or.inr ⟨by kernel_rfl, rfl⟩) (by kernel_rfl) ?p17_12 hS1 ?_
  case p17_12 => (go_simp; try with_reducible rfl)
  refine wpAnyH_takeM (i := 13) (v := undef) (l' := bm 21 16383) (a' := ?a17_13) rfl (by kernel_rfl) (by kernel_rfl) (by kernel_rfl) (fun _ _ _ h => h) (Or.inr ⟨by kernel_rfl, rfl⟩) (by kernel_rfl) ?p17_13 hS1 ?_
  case p17_13 => (go_simp; try with_reducible rfl)
  refine wpAnyH_takeM (i := 14) (v := undef) (l' := bm 21 32767) (a' := ?a17_14) rfl (by kernel_rfl) (by kernel_rfl) (by kernel_rfl) (fun _ _ _ h => h) (Or.inr ⟨by kernel_rfl, rfl⟩) (by kernel_rfl) ?p17_14 hS1 ?_
  case p17_14 => (go_simp; try with_reducible rfl)
  refine wpAnyH_takeM (i := 15) (v := undef) (l' := bm 21 65535) (a' := ?a17_15) rfl (by kernel_rfl) (by kernel_rfl) (by kernel_rfl) (fun _ _ _ h => h) (Or.inr ⟨by kernel_rfl, rfl⟩) (by kernel_rfl) ?p17_15 hS1 ?_
  case p17_15 => (go_simp; try with_reducible rfl)
  refine wpAnyH_takeM (i := 16) (v := undef) (l' := bm 21 131071) (a' := ?a17_16) rfl (by kernel_rfl) (by kernel_rfl) (by kernel_rfl) (fun _ _ _ h => h) (Or.inr ⟨by kernel_rfl, rfl⟩) (by kernel_rfl) ?p17_16 hS1 ?_
  case p17_16 => (go_simp; try with_reducible rfl)
  refine wpAnyH_takeM (i := 17) (v := undef) (l' := bm 21 262143) (a' := ?a17_17) rfl (by kernel_rfl) (by kernel_rfl) (by kernel_rfl) (fun _ _ _ h => h) (Or.inr ⟨by kernel_rfl, rfl⟩) (by kernel_rfl) ?p17_17 hS1 ?_
  case p17_17 => (go_simp; try with_reducible rfl)
  refine wpAnyH_takeM (i := 18) (v := undef) (l' := bm 21 524287) (a' := ?a17_18) rfl (by kernel_rfl) (by kernel_rfl) (by kernel_rfl) (fun _ _ _ h => h) (Or.inr ⟨by kernel_rfl, rfl⟩) (by kernel_rfl) ?p17_18 hS1 ?_
  case p17_18 => (go_simp; try with_reducible rfl)
  refine wpAnyH_takeM (i := 19) (v := ?v17_19) (l' := bm 21 1048575) (a' := ?a17_19) rfl (by kernel_rfl) (by kernel_rfl) (by kernel_rfl) (fun _ _ _ h => h) (Or.inl ⟨by kernel_rfl, ?h17_19⟩) (by kernel_rfl) ?p17_19 hS1 ?r17_19
  case h17_19 => (intro w hS; go_simp; try with_reducible rfl)
  case p17_19 => (go_simp; try with_reducible rfl)
  refine wpAnyH_takeM (i := 20) (v := ?v17_20) (l' := bm 21 2097151) (a' := ?a17_20) rfl (by kernel_rfl) (by kernel_rfl) (by kernel_rfl) (fun _ _ _ h => h) (Or.inl ⟨by kernel_rfl, ?h17_20⟩) (by kernel_rfl) ?p17_20 hS1 ?r17_20
  case h17_20 => (intro w hS; go_simp; try with_reducible rfl)
  case p17_20 => (go_simp; try with_reducible rfl)
  refine wpAnyH_done (by kernel_rfl) ?_ _
  clear hS1
  have hq := (HO.out _ D20.out).2
  go_wp2_with fail
  go_ret
  exact ⟨rfl, below_step HB.out D20.out⟩
set_option maxRecDepth 100000 in
set_option maxHeartbeats 8000000 in
theorem real_yb (a b : Nat) (ha : a < 18446744073709551616) (hb : b < 18446744073709551616) (fa : fin a = true) (fb : fin b = true) (c1 : fin (addR a b true).1 = true) (c2 : fin (mulR a b true).1 = true) (c3 : fin (mulR a b false).1 = false) (w : World) : Calls Try.prog 8 #[.float .f64 a, .float .f64 b] w fun r w' => r = .returned (.bool true) ∧ Below w.heap.size w w' := by
  have H0 := Lib.hid awake
  have H1 := Lib.hid (fun w => num_b a ha w)
  have H2 := Lib.hid (fun w => num_b b hb w)
  rw [fa] at H1
  rw [fb] at H2
  have OX := Lib.hid (fun w => of_rp ha fa w)
  have OY := Lib.hid (fun w => of_rp hb fb w)
  have d1 := add_dn fa fb
  have d2 := add_up fa fb
  have e1 := mul_dn fa fb
  have e2 := mul_up fa fb
  have R1 := Lib.hid (fun w => add_any a b true ha hb w)
  have R2 := Lib.hid (fun w => add_any a b false ha hb w)
  have R3 := Lib.hid (fun w => mul_any a b true ha hb w)
  have R4 := Lib.hid (fun w => mul_any a b false ha hb w)
  rw [addR_fin fa fb true] at R1
  rw [addR_fin fa fb false] at R2
  rw [mulR_fin fa fb true] at R3
  rw [mulR_fin fa fb false] at R4
  simp only [pV, numV] at R1 R2 R3 R4
  generalize (addR a b true).1 = lo at *
  generalize (addR a b false).1 = hi at *
  generalize (mulR a b true).1 = lo2 at *
  generalize (mulR a b false).1 = hi2 at *
  have N1 := Lib.hid (fun w => num_b lo d1.gd.lt w)
  have N2 := Lib.hid (fun w => num_b lo2 e1.gd.lt w)
  rw [c1] at N1
  rw [c2] at N2
  have CL1 := Lib.hid (fun w => close_any d1.gd d2.gd (nbr_rd d1 d2) w)
  have CL2 := Lib.hid (fun w => close_any e1.gd e2.gd (nbr_rd e1 e2) w)
  have DD1 := Lib.hid d1
  have DD2 := Lib.hid d2
  have EE1 := Lib.hid e1
  have EE2 := Lib.hid e2
  have OL := Lib.hid (fun w => of_rp d1.gd.lt c1 w)
  have HQ1 := Lib.hid (diff_q d1 d2 c1)
  obtain ⟨qs_, hq1⟩ : ∃ q, (FloatKind.f64.format.order lo hi == some .eq) = q := ⟨_, rfl⟩
  rw [hq1] at HQ1
  have N3 := Lib.hid (fun w => num_b hi2 e2.gd.lt w)
  rw [c3] at N3
  clear d1 d2 e1 e2 c1 c2 c3 fa fb ha hb
  generalize fv a = xa at *
  generalize fv b = xb at *
  generalize fv lo = xl at *
  go_enter Try.func8, Try.ntmps8
  go_wp2_with fail
  obtain ⟨W, hW⟩ : ∃ W, W = w := ⟨_, rfl⟩
  rw [← hW]
  have HB := Lib.hid (hW ▸ Below.refl w.heap.size w : Below w.heap.size w W)
  clear hW
  have HO := Lib.hid (show ∀ w', Below W.heap.size W w' → (Below W.heap.size W w') from fun w' h => h)
  have D0 := Lib.hid (Below.refl W.heap.size W)
  refine (H0.out _).mono ?_
  rintro r w1 ⟨rfl, hb⟩
  have D1 := Lib.hid (below_step D0.out hb)
  clear hb
  go_wp2_with fail
  refine (H1.out _).mono ?_
  rintro r w2 ⟨rfl, hb⟩
  have D2 := Lib.hid (below_step D1.out hb)
  clear hb
  go_wp2_with fail
  refine (H2.out _).mono ?_
  rintro r w3 ⟨rfl, hb⟩
  have D3 := Lib.hid (below_step D2.out hb)
  clear hb
  go_wp2_with fail
  refine (OX.out _).mono ?_
  rintro r w4 ⟨bx, gx, cx, rfl, hrx, hpx, hb⟩
  have D4 := Lib.hid (below_step D3.out hb)
  clear hb
  have HRbx := Lib.hid hrx
  have HPbx := Lib.hid hpx
  clear hrx hpx
  go_wp2_with fail
  refine (OY.out _).mono ?_
  rintro r w5 ⟨by_, gy, cy, rfl, hrx, hpx, hb⟩
  have D5 := Lib.hid (below_step D4.out hb)
  have HRbx := Lib.hid (HRbx.out.below' hb)
  clear hb
  have HRby_ := Lib.hid hrx
  have HPby_ := Lib.hid hpx
  clear hrx hpx
  go_wp2_with fail
  obtain ⟨V, hV, KN0, KN1, hBV, hz⟩ := by2 w5 35 35 #[Value.bool bx.neg, Value.slice (some ⟨gx, 0, none⟩) bx.ws.length cx, Value.int IntKind.i64 bx.e] #[Value.bool by_.neg, Value.slice (some ⟨gy, 0, none⟩) by_.ws.length cy, Value.int IntKind.i64 by_.e]
  rw [← hV]
  have HLTbx := Lib.hid HRbx.out.lt
  have HRbx := Lib.hid (HRbx.out.below' hBV)
  have HLTby_ := Lib.hid HRby_.out.lt
  have HRby_ := Lib.hid (HRby_.out.below' hBV)
  have HB' := Lib.hid (below_step (below_step HB.out D5.out) hBV)
  obtain ⟨gv, hgv⟩ : ∃ g, w5.heap.size = g := ⟨_, rfl⟩
  have hwg : w.heap.size ≤ gv := by rw [← hgv]; exact (below_step HB.out D5.out).size
  have lt_bx : gx < gv := by rw [← hgv]; exact HLTbx.out
  have lt_by_ : gy < gv := by rw [← hgv]; exact HLTby_.out
  rw [hgv] at KN0 KN1
  rw [hgv]
  have K0 := Lib.hid KN0
  have K1 := Lib.hid KN1
  clear HB HO KN0 KN1 hV hBV hz hgv
  have HB := HB'
  clear HB'
  have HO := Lib.hid (show ∀ w', Below V.heap.size V w' → (Below V.heap.size V w' ∧ w'.cell? ⟨gv, 0, none⟩ = some (Value.bool bx.neg) ∧ w'.cell? ⟨gv, 1, none⟩ = some (Value.slice (some ⟨gx, 0, none⟩) bx.ws.length cx) ∧ w'.cell? ⟨gv, 2, none⟩ = some (Value.int IntKind.i64 bx.e) ∧ w'.cell? ⟨gv + 1, 0, none⟩ = some (Value.bool by_.neg) ∧ w'.cell? ⟨gv + 1, 1, none⟩ = some (Value.slice (some ⟨gy, 0, none⟩) by_.ws.length cy) ∧ w'.cell? ⟨gv + 1, 2, none⟩ = some (Value.int IntKind.i64 by_.e)) from fun w' h => ⟨h, (K0.out.below h K0.out.lt).cell 0, (K0.out.below h K0.out.lt).cell 1, (K0.out.below h K0.out.lt).cell 2, (K1.out.below h K1.out.lt).cell 0, (K1.out.below h K1.out.lt).cell 1, (K1.out.below h K1.out.lt).cell 2⟩)
  have D6 := Lib.hid (Below.refl V.heap.size V)
  have hq := (HO.out _ D6.out).2
  have HRbx := Lib.hid (fun w' (b : Below V.heap.size V w') => HRbx.out.below' b)
  have HRby_ := Lib.hid (fun w' (b : Below V.heap.size V w') => HRby_.out.below' b)
  clear hq
  refine wp_region_held (S := (fun w' => Below V.heap.size V w' ∧ w'.cell? ⟨gv, 0, none⟩ = some (Value.bool bx.neg) ∧ w'.cell? ⟨gv, 1, none⟩ = some (Value.slice (some ⟨gx, 0, none⟩) bx.ws.length cx) ∧ w'.cell? ⟨gv, 2, none⟩ = some (Value.int IntKind.i64 bx.e) ∧ w'.cell? ⟨gv + 1, 0, none⟩ = some (Value.bool by_.neg) ∧ w'.cell? ⟨gv + 1, 1, none⟩ = some (Value.slice (some ⟨gy, 0, none⟩) by_.ws.length cy) ∧ w'.cell? ⟨gv + 1, 2, none⟩ = some (Value.int IntKind.i64 by_.e))) (by kernel_rfl) ?_
  change wpAnyH _ _ _ _ _ _ _ _ (World.drew _)
  obtain ⟨wd, hwd⟩ : ∃ x, x = World.drew V := ⟨_, rfl⟩
  rw [← hwd]
  have DD := Lib.hid (hwd ▸ Below.drew D6.out : Below V.heap.size V wd)
  clear hwd
  have hS0 := HO.out _ DD.out
  refine wpAnyH_takeM (i := 0) (v := ?vs6_0) (l' := bm 10 1) (a' := ?as6_0) rfl (by kernel_rfl) (by kernel_rfl) (by kernel_rfl) (fun _ _ _ h => h) (Or.inl ⟨by kernel_rfl, ?hs6_0⟩) (by kernel_rfl) ?ps6_0 hS0 ?rs6_0
  case hs6_0 => (intro w hS; go_simp; try with_reducible rfl)
  case ps6_0 => (go_simp; try with_reducible rfl)
  refine wpAnyH_takeM (i := 1) (v := ?vs6_1) (l' := bm 10 3) (a' := ?as6_1) rfl (by kernel_rfl) (by kernel_rfl) (by kernel_rfl) (fun _ _ _ h => h) (Or.inl ⟨by kernel_rfl, ?hs6_1⟩) (by kernel_rfl) ?ps6_1 hS0 ?rs6_1
  case hs6_1 => (intro w hS; go_simp; try with_reducible rfl)
  case ps6_1 => (go_simp; try with_reducible rfl)
  refine wpAnyH_takeM (i := 3) (v := ?vs6_3) (l' := bm 10 11) (a' := ?as6_3) rfl (by kernel_rfl) (by kernel_rfl) (by kernel_rfl) (fun _ _ _ h => h) (Or.inl ⟨by kernel_rfl, ?hs6_3⟩) (by kernel_rfl) ?ps6_3 hS0 ?rs6_3
  case hs6_3 => (intro w hS; go_simp; try with_reducible rfl)
  case ps6_3 => (go_simp; try with_reducible rfl)
  refine wpAnyH_takeM (i := 4) (v := ?vs6_4) (l' := bm 10 27) (a' := ?as6_4) rfl (by kernel_rfl) (by kernel_rfl) (by kernel_rfl) (fun _ _ _ h => h) (Or.inl ⟨by kernel_rfl, ?hs6_4⟩) (by kernel_rfl) ?ps6_4 hS0 ?rs6_4
  case hs6_4 => (intro w hS; go_simp; try with_reducible rfl)
  case ps6_4 => (go_simp; try with_reducible rfl)
  refine wpAnyH_sets (N := 10) (stop := 255) (F := 2) (m := 27) (R := [2, 5, 6, 7]) (M := [27, 91, 155, 219, 31, 95, 159, 223, 63, 127, 191, 255]) (fun a0 m a w9 => ∃ (v0 v1 p0 p1 : Value) (g0 g1 h0 h1 : Nat), a = ((((a0.put (some 29) v0).put (some 32) v1).put (some 7) p0).put (some 8) p1) ∧ Below V.heap.size V w9 ∧ (m.testBit 2 = true → BigG w9 v0 h0 (xa + xb) (2 * (((971 : Int) - -1074).toNat / 32) + 2 + 2 + 2) (-1074) (971)) ∧ (m.testBit 5 = true → BigG w9 v1 h1 (xa * xb) (2 + 2 + 1) (-1074 + -1074) (971 + 971)) ∧ (m.testBit 6 = true → p0 = .pointer (some ⟨g0, 0, none⟩) ∧ Blk w9 g0 35 #[Value.bool false, Value.slice none 0 0, Value.int IntKind.i64 0] ∧ V.heap.size ≤ g0) ∧ (m.testBit 7 = true → p1 = .pointer (some ⟨g1, 0, none⟩) ∧ Blk w9 g1 35 #[Value.bool false, Value.slice none 0 0, Value.int IntKind.i64 0] ∧ V.heap.size ≤ g1) ∧ (m.testBit 6 = true → m.testBit 7 = true → g0 ≠ g1) ∧ (m.testBit 2 = true → m.testBit 6 = true → h0 ≠ g0) ∧ (m.testBit 2 = true → m.testBit 7 = true → h0 ≠ g1) ∧ (m.testBit 5 = true → m.testBit 6 = true → h1 ≠ g0) ∧ (m.testBit 5 = true → m.testBit 7 = true → h1 ≠ g1)) (by kernel_rfl) (by kernel_rfl) (by kernel_rfl) ?st6 ?sp6 ?re6
  case st6 =>
    exact ⟨undef, undef, undef, undef, 0, 0, 0, 0, by go_simp, DD.out, fun h => absurd h (by decide), fun h => absurd h (by decide), fun h => absurd h (by decide), fun h => absurd h (by decide), fun h => absurd h (by decide), fun h => absurd h (by decide), fun h => absurd h (by decide), fun h => absurd h (by decide), fun h => absurd h (by decide)⟩
  case sp6 =>
    intro m a' w9 i hi hm hJ
    obtain ⟨v0, v1, p0, p1, g0, g1, h0, h1, rfl, hb0, c0, c1, q0, q1, d0_1, b0_0, b0_1, b1_0, b1_1⟩ := hJ
    have C0 := Lib.hid c0
    have C1 := Lib.hid c1
    have Q0 := Lib.hid q0
    have Q1 := Lib.hid q1
    have D0_1 := Lib.hid d0_1
    have B0_0 := Lib.hid b0_0
    have B0_1 := Lib.hid b0_1
    have B1_0 := Lib.hid b1_0
    have B1_1 := Lib.hid b1_1
    have HB0 := Lib.hid hb0
    have hS9 := HO.out _ hb0
    clear c0 c1 q0 q1 d0_1 b0_0 b0_1 b1_0 b1_1 hb0 hm hS0
    simp only [List.mem_cons, List.not_mem_nil, or_false] at hi
    rcases hi with rfl | rfl | rfl | rfl
    · refine wpOp_at rfl (by kernel_rfl) (fun K hK => ?_)
      go_simp
      go_at_call 30
      refine (add_rq (HRbx.out _ HB0.out) (HRby_.out _ HB0.out) cx cy HPbx.out HPby_.out (by decide) (by decide) (by decide) (by decide)).mono ?_
      rintro r w10 ⟨vn, hn, rfl, kn, ln, hb⟩
      dsimp only
      have hb1 := below_step HB0.out hb
      exact hK _ _ ⟨HO.out _ hb1, vn, v1, p0, p1, g0, g1, hn, h1, by go_simp, hb1, fun _ => kn, fun h => (C1.out (by rwa [tb_ne (by decide)] at h)).below hb, fun h => ⟨(Q0.out (by rwa [tb_ne (by decide)] at h)).1, (Q0.out (by rwa [tb_ne (by decide)] at h)).2.1.below hb (Q0.out (by rwa [tb_ne (by decide)] at h)).2.1.lt, (Q0.out (by rwa [tb_ne (by decide)] at h)).2.2⟩, fun h => ⟨(Q1.out (by rwa [tb_ne (by decide)] at h)).1, (Q1.out (by rwa [tb_ne (by decide)] at h)).2.1.below hb (Q1.out (by rwa [tb_ne (by decide)] at h)).2.1.lt, (Q1.out (by rwa [tb_ne (by decide)] at h)).2.2⟩, fun h h' => D0_1.out (by rwa [tb_ne (by decide)] at h) (by rwa [tb_ne (by decide)] at h'), fun h h' => Nat.ne_of_gt (Nat.lt_of_lt_of_le (Q0.out (by rwa [tb_ne (by decide)] at h')).2.1.lt ln), fun h h' => Nat.ne_of_gt (Nat.lt_of_lt_of_le (Q1.out (by rwa [tb_ne (by decide)] at h')).2.1.lt ln), fun h h' => B1_0.out (by rwa [tb_ne (by decide)] at h) (by rwa [tb_ne (by decide)] at h'), fun h h' => B1_1.out (by rwa [tb_ne (by decide)] at h) (by rwa [tb_ne (by decide)] at h')⟩
    · refine wpOp_at rfl (by kernel_rfl) (fun K hK => ?_)
      go_simp
      go_at_call 25
      refine (mul_rq (HRbx.out _ HB0.out) (HRby_.out _ HB0.out) cx cy HPbx.out HPby_.out (by decide) (by decide) (by decide) (by decide) (by decide) (by decide)).mono ?_
      rintro r w10 ⟨vn, hn, rfl, kn, ln, hb⟩
      dsimp only
      have hb1 := below_step HB0.out hb
      exact hK _ _ ⟨HO.out _ hb1, v0, vn, p0, p1, g0, g1, h0, hn, by go_simp, hb1, fun h => (C0.out (by rwa [tb_ne (by decide)] at h)).below hb, fun _ => kn, fun h => ⟨(Q0.out (by rwa [tb_ne (by decide)] at h)).1, (Q0.out (by rwa [tb_ne (by decide)] at h)).2.1.below hb (Q0.out (by rwa [tb_ne (by decide)] at h)).2.1.lt, (Q0.out (by rwa [tb_ne (by decide)] at h)).2.2⟩, fun h => ⟨(Q1.out (by rwa [tb_ne (by decide)] at h)).1, (Q1.out (by rwa [tb_ne (by decide)] at h)).2.1.below hb (Q1.out (by rwa [tb_ne (by decide)] at h)).2.1.lt, (Q1.out (by rwa [tb_ne (by decide)] at h)).2.2⟩, fun h h' => D0_1.out (by rwa [tb_ne (by decide)] at h) (by rwa [tb_ne (by decide)] at h'), fun h h' => B0_0.out (by rwa [tb_ne (by decide)] at h) (by rwa [tb_ne (by decide)] at h'), fun h h' => B0_1.out (by rwa [tb_ne (by decide)] at h) (by rwa [tb_ne (by decide)] at h'), fun h h' => Nat.ne_of_gt (Nat.lt_of_lt_of_le (Q0.out (by rwa [tb_ne (by decide)] at h')).2.1.lt ln), fun h h' => Nat.ne_of_gt (Nat.lt_of_lt_of_le (Q1.out (by rwa [tb_ne (by decide)] at h')).2.1.lt ln)⟩
    · refine wpOp_at rfl (by kernel_rfl) (fun K hK => ?_)
      go_simp
      have hb1 := below_more HB0.out (.cells #[Value.bool false, Value.slice none 0 0, Value.int IntKind.i64 0] 35)
      exact hK _ _ ⟨HO.out _ hb1, v0, v1, .pointer (some ⟨w9.heap.size, 0, none⟩), p1, w9.heap.size, g1, h0, h1, by go_simp, hb1, fun h => (C0.out (by rwa [tb_ne (by decide)] at h)).below (below_new _ _), fun h => (C1.out (by rwa [tb_ne (by decide)] at h)).below (below_new _ _), fun _ => ⟨rfl, Blk.new_at _ _ _ rfl, HB0.out.size⟩, fun h => ⟨(Q1.out (by rwa [tb_ne (by decide)] at h)).1, (Q1.out (by rwa [tb_ne (by decide)] at h)).2.1.alloc _, (Q1.out (by rwa [tb_ne (by decide)] at h)).2.2⟩, fun h h' => Nat.ne_of_gt (Q1.out (by rwa [tb_ne (by decide)] at h')).2.1.lt, fun h h' => Nat.ne_of_lt (C0.out (by rwa [tb_ne (by decide)] at h)).lt, fun h h' => B0_1.out (by rwa [tb_ne (by decide)] at h) (by rwa [tb_ne (by decide)] at h'), fun h h' => Nat.ne_of_lt (C1.out (by rwa [tb_ne (by decide)] at h)).lt, fun h h' => B1_1.out (by rwa [tb_ne (by decide)] at h) (by rwa [tb_ne (by decide)] at h')⟩
    · refine wpOp_at rfl (by kernel_rfl) (fun K hK => ?_)
      go_simp
      have hb1 := below_more HB0.out (.cells #[Value.bool false, Value.slice none 0 0, Value.int IntKind.i64 0] 35)
      exact hK _ _ ⟨HO.out _ hb1, v0, v1, p0, .pointer (some ⟨w9.heap.size, 0, none⟩), g0, w9.heap.size, h0, h1, by go_simp, hb1, fun h => (C0.out (by rwa [tb_ne (by decide)] at h)).below (below_new _ _), fun h => (C1.out (by rwa [tb_ne (by decide)] at h)).below (below_new _ _), fun h => ⟨(Q0.out (by rwa [tb_ne (by decide)] at h)).1, (Q0.out (by rwa [tb_ne (by decide)] at h)).2.1.alloc _, (Q0.out (by rwa [tb_ne (by decide)] at h)).2.2⟩, fun _ => ⟨rfl, Blk.new_at _ _ _ rfl, HB0.out.size⟩, fun h h' => Nat.ne_of_lt (Q0.out (by rwa [tb_ne (by decide)] at h)).2.1.lt, fun h h' => B0_0.out (by rwa [tb_ne (by decide)] at h) (by rwa [tb_ne (by decide)] at h'), fun h h' => Nat.ne_of_lt (C0.out (by rwa [tb_ne (by decide)] at h)).lt, fun h h' => B1_0.out (by rwa [tb_ne (by decide)] at h) (by rwa [tb_ne (by decide)] at h'), fun h h' => Nat.ne_of_lt (C1.out (by rwa [tb_ne (by decide)] at h)).lt⟩
  intro a' w9 hJ
  obtain ⟨v0, v1, p0, p1, g0, g1, h0, h1, rfl, hb0, c0, c1, q0, q1, d0_1, b0_0, b0_1, b1_0, b1_1⟩ := hJ
  obtain ⟨nb0, nc0, rfl, hrn0, hpn0⟩ := c0 (by decide)
  have HRn0 := Lib.hid hrn0
  have HPn0 := Lib.hid hpn0
  clear hrn0 hpn0
  obtain ⟨nb1, nc1, rfl, hrn1, hpn1⟩ := c1 (by decide)
  have HRn1 := Lib.hid hrn1
  have HPn1 := Lib.hid hpn1
  clear hrn1 hpn1
  have e50_0 := b0_0 (by decide) (by decide)
  clear b0_0
  have e50_1 := b0_1 (by decide) (by decide)
  clear b0_1
  have e51_0 := b1_0 (by decide) (by decide)
  clear b1_0
  have e51_1 := b1_1 (by decide) (by decide)
  clear b1_1
  obtain ⟨rfl, k0, l0⟩ := q0 (by decide)
  obtain ⟨rfl, k1, l1⟩ := q1 (by decide)
  have e0_1 := d0_1 (by decide) (by decide)
  clear d0_1
  have DB := Lib.hid hb0
  clear hb0 hS0
  have KK0 := Lib.hid k0
  clear k0
  have KK1 := Lib.hid k1
  clear k1
  refine wpAnyH_frame (a' := ?fr6) ?fe6 ?fg6
  case fe6 => (go_simp; try with_reducible rfl)
  have hS0 := HO.out _ DB.out
  refine wpAnyH_oneM (i := 8) (l' := bm 10 511) rfl (by kernel_rfl) (by kernel_rfl) (by kernel_rfl) (fun K hK => ?_)
  have f0 := KK0.out.cell 0
  have u0 := KK0.out.frz 0
  have f1 := KK0.out.cell 1
  have u1 := KK0.out.frz 1
  have f2 := KK0.out.cell 2
  have u2 := KK0.out.frz 2
  obtain ⟨ws0, hv⟩ : ∃ V, (((w9.setCell ⟨g0, 0, none⟩ (Value.bool nb0.neg)).setCell ⟨g0, 1, none⟩ (Value.slice (some ⟨h0, 0, none⟩) nb0.ws.length nc0)).setCell ⟨g0, 2, none⟩ (Value.int IntKind.i64 nb0.e)) = V := ⟨_, rfl⟩
  have DB' := Lib.hid (hv ▸ Below.setCell (Below.setCell (Below.setCell (DB.out) l0 _) l0 _) l0 _ : Below V.heap.size V ws0)
  have KK0' := Lib.hid (hv ▸ (Blk.set_ (Blk.set_ (Blk.set_ (KK0.out) 0 _) 1 _) 2 _) : Blk ws0 g0 35 #[Value.bool nb0.neg, Value.slice (some ⟨h0, 0, none⟩) nb0.ws.length nc0, Value.int IntKind.i64 nb0.e])
  have KK1' := Lib.hid (hv ▸ (Blk.off (Blk.off (Blk.off (KK1.out) ⟨g0, 0, none⟩ _ (by show g1 ≠ g0; omega)) ⟨g0, 1, none⟩ _ (by show g1 ≠ g0; omega)) ⟨g0, 2, none⟩ _ (by show g1 ≠ g0; omega)) : Blk ws0 g1 35 #[Value.bool false, Value.slice none 0 0, Value.int IntKind.i64 0])
  have HRn0 := Lib.hid (hv ▸ (RL.off (RL.off (RL.off (HRn0.out) ⟨g0, 0, none⟩ _ (by show h0 ≠ g0; exact e50_0)) ⟨g0, 1, none⟩ _ (by show h0 ≠ g0; exact e50_0)) ⟨g0, 2, none⟩ _ (by show h0 ≠ g0; exact e50_0)) : RL ws0 h0 nb0.ws)
  have HRn1 := Lib.hid (hv ▸ (RL.off (RL.off (RL.off (HRn1.out) ⟨g0, 0, none⟩ _ (by show h1 ≠ g0; exact e51_0)) ⟨g0, 1, none⟩ _ (by show h1 ≠ g0; exact e51_0)) ⟨g0, 2, none⟩ _ (by show h1 ≠ g0; exact e51_0)) : RL ws0 h1 nb1.ws)
  go_simp
  clear hv f0 u0 f1 u1 f2 u2
  have DB := DB'
  clear DB'
  have KK0 := KK0'
  clear KK0'
  have KK1 := KK1'
  clear KK1'
  have hS1 := HO.out _ DB.out
  refine hK _ _ hS1 ?_
  clear hK K hS0
  refine wpAnyH_oneM (i := 9) (l' := bm 10 1023) rfl (by kernel_rfl) (by kernel_rfl) (by kernel_rfl) (fun K hK => ?_)
  have f0 := KK1.out.cell 0
  have u0 := KK1.out.frz 0
  have f1 := KK1.out.cell 1
  have u1 := KK1.out.frz 1
  have f2 := KK1.out.cell 2
  have u2 := KK1.out.frz 2
  obtain ⟨ws1, hv⟩ : ∃ V, (((ws0.setCell ⟨g1, 0, none⟩ (Value.bool nb1.neg)).setCell ⟨g1, 1, none⟩ (Value.slice (some ⟨h1, 0, none⟩) nb1.ws.length nc1)).setCell ⟨g1, 2, none⟩ (Value.int IntKind.i64 nb1.e)) = V := ⟨_, rfl⟩
  have DB' := Lib.hid (hv ▸ Below.setCell (Below.setCell (Below.setCell (DB.out) l1 _) l1 _) l1 _ : Below V.heap.size V ws1)
  have KK0' := Lib.hid (hv ▸ (Blk.off (Blk.off (Blk.off (KK0.out) ⟨g1, 0, none⟩ _ (by show g0 ≠ g1; omega)) ⟨g1, 1, none⟩ _ (by show g0 ≠ g1; omega)) ⟨g1, 2, none⟩ _ (by show g0 ≠ g1; omega)) : Blk ws1 g0 35 #[Value.bool nb0.neg, Value.slice (some ⟨h0, 0, none⟩) nb0.ws.length nc0, Value.int IntKind.i64 nb0.e])
  have KK1' := Lib.hid (hv ▸ (Blk.set_ (Blk.set_ (Blk.set_ (KK1.out) 0 _) 1 _) 2 _) : Blk ws1 g1 35 #[Value.bool nb1.neg, Value.slice (some ⟨h1, 0, none⟩) nb1.ws.length nc1, Value.int IntKind.i64 nb1.e])
  have HRn0 := Lib.hid (hv ▸ (RL.off (RL.off (RL.off (HRn0.out) ⟨g1, 0, none⟩ _ (by show h0 ≠ g1; exact e50_1)) ⟨g1, 1, none⟩ _ (by show h0 ≠ g1; exact e50_1)) ⟨g1, 2, none⟩ _ (by show h0 ≠ g1; exact e50_1)) : RL ws1 h0 nb0.ws)
  have HRn1 := Lib.hid (hv ▸ (RL.off (RL.off (RL.off (HRn1.out) ⟨g1, 0, none⟩ _ (by show h1 ≠ g1; exact e51_1)) ⟨g1, 1, none⟩ _ (by show h1 ≠ g1; exact e51_1)) ⟨g1, 2, none⟩ _ (by show h1 ≠ g1; exact e51_1)) : RL ws1 h1 nb1.ws)
  go_simp
  clear hv f0 u0 f1 u1 f2 u2
  have DB := DB'
  clear DB'
  have KK0 := KK0'
  clear KK0'
  have KK1 := KK1'
  clear KK1'
  have hS2 := HO.out _ DB.out
  refine hK _ _ hS2 ?_
  clear hK K hS1
  refine wpAnyH_done (by kernel_rfl) ?_ _
  clear hS2
  have K0' := Lib.hid (K0.out.below DB.out K0.out.lt)
  clear K0
  have K1' := Lib.hid (K1.out.below DB.out K1.out.lt)
  clear K1
  have HB' := Lib.hid (below_step HB.out DB.out)
  clear HB HO D6
  have HB := HB'
  clear HB'
  have K0 := K0'
  clear K0'
  have K1 := K1'
  clear K1'
  have K2 := KK0
  clear KK0
  have K3 := KK1
  clear KK1
  have HO := Lib.hid (show ∀ w', Below ws1.heap.size ws1 w' → (Below ws1.heap.size ws1 w' ∧ w'.cell? ⟨gv, 0, none⟩ = some (Value.bool bx.neg) ∧ w'.cell? ⟨gv, 1, none⟩ = some (Value.slice (some ⟨gx, 0, none⟩) bx.ws.length cx) ∧ w'.cell? ⟨gv, 2, none⟩ = some (Value.int IntKind.i64 bx.e) ∧ w'.cell? ⟨gv + 1, 0, none⟩ = some (Value.bool by_.neg) ∧ w'.cell? ⟨gv + 1, 1, none⟩ = some (Value.slice (some ⟨gy, 0, none⟩) by_.ws.length cy) ∧ w'.cell? ⟨gv + 1, 2, none⟩ = some (Value.int IntKind.i64 by_.e) ∧ w'.cell? ⟨g0, 0, none⟩ = some (Value.bool nb0.neg) ∧ w'.cell? ⟨g0, 1, none⟩ = some (Value.slice (some ⟨h0, 0, none⟩) nb0.ws.length nc0) ∧ w'.cell? ⟨g0, 2, none⟩ = some (Value.int IntKind.i64 nb0.e) ∧ w'.cell? ⟨g1, 0, none⟩ = some (Value.bool nb1.neg) ∧ w'.cell? ⟨g1, 1, none⟩ = some (Value.slice (some ⟨h1, 0, none⟩) nb1.ws.length nc1) ∧ w'.cell? ⟨g1, 2, none⟩ = some (Value.int IntKind.i64 nb1.e)) from fun w' h => ⟨h, (K0.out.below h K0.out.lt).cell 0, (K0.out.below h K0.out.lt).cell 1, (K0.out.below h K0.out.lt).cell 2, (K1.out.below h K1.out.lt).cell 0, (K1.out.below h K1.out.lt).cell 1, (K1.out.below h K1.out.lt).cell 2, (K2.out.below h K2.out.lt).cell 0, (K2.out.below h K2.out.lt).cell 1, (K2.out.below h K2.out.lt).cell 2, (K3.out.below h K3.out.lt).cell 0, (K3.out.below h K3.out.lt).cell 1, (K3.out.below h K3.out.lt).cell 2⟩)
  have D7 := Lib.hid (Below.refl ws1.heap.size ws1)
  have hq := (HO.out _ D7.out).2
  have HRn0 := Lib.hid (fun w' (b : Below ws1.heap.size ws1 w') => HRn0.out.below' b)
  have HRn1 := Lib.hid (fun w' (b : Below ws1.heap.size ws1 w') => HRn1.out.below' b)
  clear hq
  go_wp2_with fail
  have hq := (HO.out _ D7.out).2
  refine (R1.out _).mono ?_
  clear hq
  rintro r w8 ⟨rfl, hb⟩
  have D8 := Lib.hid (below_step D7.out hb)
  clear hb
  have hq := (HO.out _ D8.out).2
  go_wp2_with fail
  refine (R2.out _).mono ?_
  clear hq
  rintro r w9 ⟨rfl, hb⟩
  have D9 := Lib.hid (below_step D8.out hb)
  clear hb
  have hq := (HO.out _ D9.out).2
  go_wp2_with fail
  refine (btw_rd (HRn0.out _ D9.out) nc0 HPn0.out (by decide) (by decide) (by decide) DD1.out DD2.out).mono ?_
  clear hq
  rintro r w10 ⟨rfl, hb⟩
  have D10 := Lib.hid (below_step D9.out hb)
  clear hb
  have hq := (HO.out _ D10.out).2
  go_wp2_with fail
  refine (CL1.out _).mono ?_
  clear hq
  rintro r w11 ⟨rfl, hb⟩
  have D11 := Lib.hid (below_step D10.out hb)
  clear hb
  have hq := (HO.out _ D11.out).2
  clear hq
  go_wp2_with fail
  go_wp2_with fail
  refine wp_region_held (S := (fun w' => Below ws1.heap.size ws1 w' ∧ w'.cell? ⟨gv, 0, none⟩ = some (Value.bool bx.neg) ∧ w'.cell? ⟨gv, 1, none⟩ = some (Value.slice (some ⟨gx, 0, none⟩) bx.ws.length cx) ∧ w'.cell? ⟨gv, 2, none⟩ = some (Value.int IntKind.i64 bx.e) ∧ w'.cell? ⟨gv + 1, 0, none⟩ = some (Value.bool by_.neg) ∧ w'.cell? ⟨gv + 1, 1, none⟩ = some (Value.slice (some ⟨gy, 0, none⟩) by_.ws.length cy) ∧ w'.cell? ⟨gv + 1, 2, none⟩ = some (Value.int IntKind.i64 by_.e) ∧ w'.cell? ⟨g0, 0, none⟩ = some (Value.bool nb0.neg) ∧ w'.cell? ⟨g0, 1, none⟩ = some (Value.slice (some ⟨h0, 0, none⟩) nb0.ws.length nc0) ∧ w'.cell? ⟨g0, 2, none⟩ = some (Value.int IntKind.i64 nb0.e) ∧ w'.cell? ⟨g1, 0, none⟩ = some (Value.bool nb1.neg) ∧ w'.cell? ⟨g1, 1, none⟩ = some (Value.slice (some ⟨h1, 0, none⟩) nb1.ws.length nc1) ∧ w'.cell? ⟨g1, 2, none⟩ = some (Value.int IntKind.i64 nb1.e))) (by kernel_rfl) ?_
  (try change wpAnyH _ _ _ _ _ _ _ (World.drew _))
  have hS0 := HO.out _ (Below.drew D11.out)
  refine wpAnyH_takeM (i := 0) (v := ?v11_0x1) (l' := bm 18 1) (a' := ?a11_0x1) rfl (by kernel_rfl) (by kernel_rfl) (by kernel_rfl) (fun _ _ _ h => h) (Or.inl ⟨by kernel_rfl, ?h11_0x1⟩) (by kernel_rfl) ?p11_0x1 hS0 ?r11_0x1
  case h11_0x1 => (intro w hS; go_simp; try with_reducible rfl)
  case p11_0x1 => (go_simp; try with_reducible rfl)
  refine wpAnyH_oneM (i := 1) (l' := bm 18 3) rfl (by kernel_rfl) (by kernel_rfl) (by kernel_rfl) (fun K hK => ?_)
  have hP := hS0.1
  go_simp
  go_at_call 20
  refine (N1.out _).mono ?_
  rintro r w12 ⟨rfl, hb⟩
  dsimp only
  have D12 := Lib.hid (below_step hP hb)
  clear hb
  have hS1 := HO.out _ (D12.out)
  clear hP hS0
  refine hK _ _ hS1 ?_
  clear hK K
  refine wpAnyH_takeM (i := 2) (v := ?v11_2x1) (l' := bm 18 7) (a' := ?a11_2x1) rfl (by kernel_rfl) (by kernel_rfl) (by kernel_rfl) (fun _ _ _ h => h) (Or.inl ⟨by kernel_rfl, ?h11_2x1⟩) (by kernel_rfl) ?p11_2x1 hS1 ?r11_2x1
  case h11_2x1 => (intro w hS; go_simp; try with_reducible rfl)
  case p11_2x1 => (go_simp; try with_reducible rfl)
  refine wpAnyH_takeM (i := 3) (v := ?v11_3x1) (l' := bm 18 15) (a' := ?a11_3x1) rfl (by kernel_rfl) (by kernel_rfl) (by kernel_rfl) (fun _ _ _ h => h) (Or.inl ⟨by kernel_rfl, ?h11_3x1⟩) (by kernel_rfl) ?p11_3x1 hS1 ?r11_3x1
  case h11_3x1 => (intro w hS; go_simp; try with_reducible rfl)
  case p11_3x1 => (go_simp; try with_reducible rfl)
  refine wpAnyH_takeM (i := 4) (v := ?v11_4x1) (l' := bm 18 31) (a' := ?a11_4x1) rfl (by kernel_rfl) (by kernel_rfl) (by kernel_rfl) (fun _ _ _ h => h) (Or.inl ⟨by kernel_rfl, ?h11_4x1⟩) (by kernel_rfl) ?p11_4x1 hS1 ?r11_4x1
  case h11_4x1 => (intro w hS; go_simp; try with_reducible rfl)
  case p11_4x1 => (go_simp; try with_reducible rfl)
  refine wpAnyH_takeM (i := 5) (v := ?v11_5x1) (l' := bm 18 63) (a' := ?a11_5x1) rfl (by kernel_rfl) (by kernel_rfl) (by kernel_rfl) (fun _ _ _ h => h) (Or.inl ⟨by kernel_rfl, ?h11_5x1⟩) (by kernel_rfl) ?p11_5x1 hS1 ?r11_5x1
  case h11_5x1 => (intro w hS; go_simp; try with_reducible rfl)
  case p11_5x1 => (go_simp; try with_reducible rfl)
  refine wpAnyH_takeM (i := 6) (v := ?v11_6x1) (l' := bm 18 127) (a' := ?a11_6x1) rfl (by kernel_rfl) (by kernel_rfl) (by kernel_rfl) (fun _ _ _ h => h) (Or.inl ⟨by kernel_rfl, ?h11_6x1⟩) (by kernel_rfl) ?p11_6x1 hS1 ?r11_6x1
  case h11_6x1 => (intro w hS; go_simp; try with_reducible rfl)
  case p11_6x1 => (go_simp; try with_reducible rfl)
  refine wpAnyH_takeM (i := 7) (v := ?v11_7x1) (l' := bm 18 255) (a' := ?a11_7x1) rfl (by kernel_rfl) (by kernel_rfl) (by kernel_rfl) (fun _ _ _ h => h) (Or.inl ⟨by kernel_rfl, ?h11_7x1⟩) (by kernel_rfl) ?p11_7x1 hS1 ?r11_7x1
  case h11_7x1 => (intro w hS; go_simp; try with_reducible rfl)
  case p11_7x1 => (go_simp; try with_reducible rfl)
  refine wpAnyH_oneM (i := 8) (l' := bm 18 511) rfl (by kernel_rfl) (by kernel_rfl) (by kernel_rfl) (fun K hK => ?_)
  have hP := hS1.1
  go_simp
  go_at_call 22
  refine (OL.out _).mono ?_
  rintro r w13 ⟨s1_, h1_, c1_, rfl, hr1, hp1, hb⟩
  dsimp only
  have D13 := Lib.hid (below_step hP hb)
  clear hb
  have hS2 := HO.out _ (D13.out)
  clear hP hS1
  refine hK _ _ hS2 ?_
  clear hK K
  refine wpAnyH_oneM (i := 9) (l' := bm 18 1023) rfl (by kernel_rfl) (by kernel_rfl) (by kernel_rfl) (fun K hK => ?_)
  have hP := hS2.1
  go_simp
  go_at_call 33
  refine (sub_rp (HRn0.out _ hP) hr1 nc0 c1_ HPn0.out hp1 (by decide) (by decide) (by decide) (by decide)).mono ?_
  rintro r w14 ⟨s2_, h2_, c2_, rfl, hr2, hp2, hb⟩
  dsimp only
  have D14 := Lib.hid (below_step hP hb)
  clear hb
  have hS3 := HO.out _ (D14.out)
  clear hP hS2
  refine hK _ _ hS3 ?_
  clear hK K
  refine wpAnyH_oneM (i := 10) (l' := bm 18 2047) rfl (by kernel_rfl) (by kernel_rfl) (by kernel_rfl) (fun K hK => ?_)
  have hP := hS3.1
  go_simp
  go_at_call 32
  refine (sgn_q hr2 c2_ hp2 (by decide) qs_ HQ1.out).mono ?_
  rintro r w15 ⟨n1, rfl, hn1, hn1', hb⟩
  dsimp only
  have D15 := Lib.hid (below_step hP hb)
  clear hb
  have hS4 := HO.out _ (D15.out)
  clear hP hS3
  refine hK _ _ hS4 ?_
  clear hK K
  refine wpAnyH_takeM (i := 11) (v := ?v11_11x1) (l' := bm 18 4095) (a' := ?a11_11x1) rfl (by kernel_rfl) (by kernel_rfl) (by kernel_rfl) (fun _ _ _ h => h) (Or.inl ⟨by kernel_rfl, ?h11_11x1⟩) (by kernel_rfl) ?p11_11x1 hS4 ?r11_11x1
  case h11_11x1 => (intro w hS; go_simp; try with_reducible rfl)
  case p11_11x1 => (go_simp; try with_reducible rfl)
  refine wpAnyH_takeM (i := 12) (v := ?v11_12x1) (l' := bm 18 8191) (a' := ?a11_12x1) rfl (by kernel_rfl) (by kernel_rfl) (by kernel_rfl) (fun _ _ _ h => h) (Or.inl ⟨by kernel_rfl, ?h11_12x1⟩) (by kernel_rfl) ?p11_12x1 hS4 ?r11_12x1
  case h11_12x1 => (intro w hS; go_simp; try with_reducible rfl)
  case p11_12x1 => (go_simp; try with_reducible rfl)
  refine wpAnyH_takeM (i := 13) (v := ?v11_13x1) (l' := bm 18 16383) (a' := ?a11_13x1) rfl (by kernel_rfl) (by kernel_rfl) (by kernel_rfl) (fun _ _ _ h => h) (Or.inl ⟨by kernel_rfl, ?h11_13x1⟩) (by kernel_rfl) ?p11_13x1 hS4 ?r11_13x1
  case h11_13x1 => (intro w hS; go_simp; try with_reducible rfl)
  case p11_13x1 => (go_simp; try with_reducible rfl)
  refine wpAnyH_takeM (i := 14) (v := ?v11_14x1) (l' := bm 18 32767) (a' := ?a11_14x1) rfl (by kernel_rfl) (by kernel_rfl) (by kernel_rfl) (fun _ _ _ h => h) (Or.inl ⟨by kernel_rfl, ?h11_14x1⟩) (by kernel_rfl) ?p11_14x1 hS4 ?r11_14x1
  case h11_14x1 => (intro w hS; go_simp; try with_reducible rfl)
  case p11_14x1 => (go_simp; try with_reducible rfl)
  refine wpAnyH_takeM (i := 15) (v := undef) (l' := bm 18 65535) (a' := ?a11_15x1) rfl (by kernel_rfl) (by kernel_rfl) (by kernel_rfl) (fun _ _ _ h => h) (Or.inr ⟨by kernel_rfl, rfl⟩) (by kernel_rfl) ?p11_15x1 hS4 ?_
  case p11_15x1 => (go_simp; try with_reducible rfl)
  refine wpAnyH_takeM (i := 16) (v := undef) (l' := bm 18 131071) (a' := ?a11_16x1) rfl (by kernel_rfl) (by kernel_rfl) (by kernel_rfl) (fun _ _ _ h => h) (Or.inr ⟨by kernel_rfl, rfl⟩) (by kernel_rfl) ?p11_16x1 hS4 ?_
  case p11_16x1 => (go_simp; try with_reducible rfl)
  refine wpAnyH_takeM (i := 17) (v := ?v11_17x1) (l' := bm 18 262143) (a' := ?a11_17x1) rfl (by kernel_rfl) (by kernel_rfl) (by kernel_rfl) (fun _ _ _ h => h) (Or.inl ⟨by kernel_rfl, ?h11_17x1⟩) (by kernel_rfl) ?p11_17x1 hS4 ?r11_17x1
  case h11_17x1 => (intro w hS; go_simp; try with_reducible rfl)
  case p11_17x1 => (go_simp; try with_reducible rfl)
  refine wpAnyH_done (by kernel_rfl) ?_ _
  clear hS4
  have hq := (HO.out _ D15.out).2
  clear hq hn1 hn1' hr1 hp1 hr2 hp2
  go_wp2_with fail
  have hq := (HO.out _ D15.out).2
  refine (R3.out _).mono ?_
  clear hq
  rintro r w16 ⟨rfl, hb⟩
  have D16 := Lib.hid (below_step D15.out hb)
  clear hb
  have hq := (HO.out _ D16.out).2
  go_wp2_with fail
  refine (R4.out _).mono ?_
  clear hq
  rintro r w17 ⟨rfl, hb⟩
  have D17 := Lib.hid (below_step D16.out hb)
  clear hb
  have hq := (HO.out _ D17.out).2
  go_wp2_with fail
  refine (btw_rd (HRn1.out _ D17.out) nc1 HPn1.out (by decide) (by decide) (by decide) EE1.out EE2.out).mono ?_
  clear hq
  rintro r w18 ⟨rfl, hb⟩
  have D18 := Lib.hid (below_step D17.out hb)
  clear hb
  have hq := (HO.out _ D18.out).2
  go_wp2_with fail
  refine (CL2.out _).mono ?_
  clear hq
  rintro r w19 ⟨rfl, hb⟩
  have D19 := Lib.hid (below_step D18.out hb)
  clear hb
  have hq := (HO.out _ D19.out).2
  clear hq
  go_wp2_with fail
  go_wp2_with fail
  refine wp_region_held (S := (fun w' => Below ws1.heap.size ws1 w' ∧ w'.cell? ⟨gv, 0, none⟩ = some (Value.bool bx.neg) ∧ w'.cell? ⟨gv, 1, none⟩ = some (Value.slice (some ⟨gx, 0, none⟩) bx.ws.length cx) ∧ w'.cell? ⟨gv, 2, none⟩ = some (Value.int IntKind.i64 bx.e) ∧ w'.cell? ⟨gv + 1, 0, none⟩ = some (Value.bool by_.neg) ∧ w'.cell? ⟨gv + 1, 1, none⟩ = some (Value.slice (some ⟨gy, 0, none⟩) by_.ws.length cy) ∧ w'.cell? ⟨gv + 1, 2, none⟩ = some (Value.int IntKind.i64 by_.e) ∧ w'.cell? ⟨g0, 0, none⟩ = some (Value.bool nb0.neg) ∧ w'.cell? ⟨g0, 1, none⟩ = some (Value.slice (some ⟨h0, 0, none⟩) nb0.ws.length nc0) ∧ w'.cell? ⟨g0, 2, none⟩ = some (Value.int IntKind.i64 nb0.e) ∧ w'.cell? ⟨g1, 0, none⟩ = some (Value.bool nb1.neg) ∧ w'.cell? ⟨g1, 1, none⟩ = some (Value.slice (some ⟨h1, 0, none⟩) nb1.ws.length nc1) ∧ w'.cell? ⟨g1, 2, none⟩ = some (Value.int IntKind.i64 nb1.e))) (by kernel_rfl) ?_
  (try change wpAnyH _ _ _ _ _ _ _ (World.drew _))
  have hS0 := HO.out _ (Below.drew D19.out)
  refine wpAnyH_takeM (i := 0) (v := ?v17_0x1) (l' := bm 21 1) (a' := ?a17_0x1) rfl (by kernel_rfl) (by kernel_rfl) (by kernel_rfl) (fun _ _ _ h => h) (Or.inl ⟨by kernel_rfl, ?h17_0x1⟩) (by kernel_rfl) ?p17_0x1 hS0 ?r17_0x1
  case h17_0x1 => (intro w hS; go_simp; try with_reducible rfl)
  case p17_0x1 => (go_simp; try with_reducible rfl)
  refine wpAnyH_oneM (i := 1) (l' := bm 21 3) rfl (by kernel_rfl) (by kernel_rfl) (by kernel_rfl) (fun K hK => ?_)
  have hP := hS0.1
  go_simp
  go_at_call 20
  refine (N2.out _).mono ?_
  rintro r w20 ⟨rfl, hb⟩
  dsimp only
  have D20 := Lib.hid (below_step hP hb)
  clear hb
  have hS1 := HO.out _ (D20.out)
  clear hP hS0
  refine hK _ _ hS1 ?_
  clear hK K
  refine wpAnyH_takeM (i := 2) (v := ?v17_2x1) (l' := bm 21 7) (a' := ?a17_2x1) rfl (by kernel_rfl) (by kernel_rfl) (by kernel_rfl) (fun _ _ _ h => h) (Or.inl ⟨by kernel_rfl, ?h17_2x1⟩) (by kernel_rfl) ?p17_2x1 hS1 ?r17_2x1
  case h17_2x1 => (intro w hS; go_simp; try with_reducible rfl)
  case p17_2x1 => (go_simp; try with_reducible rfl)
  refine wpAnyH_takeM (i := 3) (v := ?v17_3x1) (l' := bm 21 15) (a' := ?a17_3x1) rfl (by kernel_rfl) (by kernel_rfl) (by kernel_rfl) (fun _ _ _ h => h) (Or.inl ⟨by kernel_rfl, ?h17_3x1⟩) (by kernel_rfl) ?p17_3x1 hS1 ?r17_3x1
  case h17_3x1 => (intro w hS; go_simp; try with_reducible rfl)
  case p17_3x1 => (go_simp; try with_reducible rfl)
  refine wpAnyH_takeM (i := 4) (v := ?v17_4x1) (l' := bm 21 31) (a' := ?a17_4x1) rfl (by kernel_rfl) (by kernel_rfl) (by kernel_rfl) (fun _ _ _ h => h) (Or.inl ⟨by kernel_rfl, ?h17_4x1⟩) (by kernel_rfl) ?p17_4x1 hS1 ?r17_4x1
  case h17_4x1 => (intro w hS; go_simp; try with_reducible rfl)
  case p17_4x1 => (go_simp; try with_reducible rfl)
  refine wpAnyH_oneM (i := 5) (l' := bm 21 63) rfl (by kernel_rfl) (by kernel_rfl) (by kernel_rfl) (fun K hK => ?_)
  have hP := hS1.1
  go_simp
  go_at_call 20
  refine (N3.out _).mono ?_
  rintro r w21 ⟨rfl, hb⟩
  dsimp only
  have D21 := Lib.hid (below_step hP hb)
  clear hb
  have hS2 := HO.out _ (D21.out)
  clear hP hS1
  refine hK _ _ hS2 ?_
  clear hK K
  refine wpAnyH_takeM (i := 6) (v := ?v17_6x1) (l' := bm 21 127) (a' := ?a17_6x1) rfl (by kernel_rfl) (by kernel_rfl) (by kernel_rfl) (fun _ _ _ h => h) (Or.inl ⟨by kernel_rfl, ?h17_6x1⟩) (by kernel_rfl) ?p17_6x1 hS2 ?r17_6x1
  case h17_6x1 => (intro w hS; go_simp; try with_reducible rfl)
  case p17_6x1 => (go_simp; try with_reducible rfl)
  refine wpAnyH_takeM (i := 7) (v := ?v17_7x1) (l' := bm 21 255) (a' := ?a17_7x1) rfl (by kernel_rfl) (by kernel_rfl) (by kernel_rfl) (fun _ _ _ h => h) (Or.inl ⟨by kernel_rfl, ?h17_7x1⟩) (by kernel_rfl) ?p17_7x1 hS2 ?r17_7x1
  case h17_7x1 => (intro w hS; go_simp; try with_reducible rfl)
  case p17_7x1 => (go_simp; try with_reducible rfl)
  refine wpAnyH_takeM (i := 8) (v := ?v17_8x1) (l' := bm 21 511) (a' := ?a17_8x1) rfl (by kernel_rfl) (by kernel_rfl) (by kernel_rfl) (fun _ _ _ h => h) (Or.inl ⟨by kernel_rfl, ?h17_8x1⟩) (by kernel_rfl) ?p17_8x1 hS2 ?r17_8x1
  case h17_8x1 => (intro w hS; go_simp; try with_reducible rfl)
  case p17_8x1 => (go_simp; try with_reducible rfl)
  refine wpAnyH_takeM (i := 9) (v := undef) (l' := bm 21 1023) (a' := ?a17_9x1) rfl (by kernel_rfl) (by kernel_rfl) (by kernel_rfl) (fun _ _ _ h => h) (Or.inr ⟨by kernel_rfl, rfl⟩) (by kernel_rfl) ?p17_9x1 hS2 ?_
  case p17_9x1 => (go_simp; try with_reducible rfl)
  refine wpAnyH_takeM (i := 10) (v := undef) (l' := bm 21 2047) (a' := ?a17_10x1) rfl (by kernel_rfl) (by kernel_rfl) (by kernel_rfl) (fun _ _ _ h => h) (Or.inr ⟨by kernel_rfl, rfl⟩) (by kernel_rfl) ?p17_10x1 hS2 ?_
  case p17_10x1 => (go_simp; try with_reducible rfl)
  refine wpAnyH_takeM (i := 11) (v := undef) (l' := bm 21 4095) (a' := ?a17_11x1) rfl (by kernel_rfl) (by kernel_rfl) (by kernel_rfl) (fun _ _ _ h => h) (Or.inr ⟨by kernel_rfl, rfl⟩) (by kernel_rfl) ?p17_11x1 hS2 ?_
  case p17_11x1 => (go_simp; try with_reducible rfl)
  refine wpAnyH_takeM (i := 12) (v := undef) (l' := bm 21 8191) (a' := ?a17_12x1) rfl (by kernel_rfl) (by kernel_rfl) (by kernel_rfl) (fun _ _ _ h => h) (Or.inr ⟨by kernel_rfl, rfl⟩) (by kernel_rfl) ?p17_12x1 hS2 ?_
  case p17_12x1 => (go_simp; try with_reducible rfl)
  refine wpAnyH_takeM (i := 13) (v := undef) (l' := bm 21 16383) (a' := ?a17_13x1) rfl (by kernel_rfl) (by kernel_rfl) (by kernel_rfl) (fun _ _ _ h => h) (Or.inr ⟨by kernel_rfl, rfl⟩) (by kernel_rfl) ?p17_13x1 hS2 ?_
  case p17_13x1 => (go_simp; try with_reducible rfl)
  refine wpAnyH_takeM (i := 14) (v := undef) (l' := bm 21 32767) (a' := ?a17_14x1) rfl (by kernel_rfl) (by kernel_rfl) (by kernel_rfl) (fun _ _ _ h => h) (Or.inr ⟨by kernel_rfl, rfl⟩) (by kernel_rfl) ?p17_14x1 hS2 ?_
  case p17_14x1 => (go_simp; try with_reducible rfl)
  refine wpAnyH_takeM (i := 15) (v := undef) (l' := bm 21 65535) (a' := ?a17_15x1) rfl (by kernel_rfl) (by kernel_rfl) (by kernel_rfl) (fun _ _ _ h => h) (Or.inr ⟨by kernel_rfl, rfl⟩) (by kernel_rfl) ?p17_15x1 hS2 ?_
  case p17_15x1 => (go_simp; try with_reducible rfl)
  refine wpAnyH_takeM (i := 16) (v := undef) (l' := bm 21 131071) (a' := ?a17_16x1) rfl (by kernel_rfl) (by kernel_rfl) (by kernel_rfl) (fun _ _ _ h => h) (Or.inr ⟨by kernel_rfl, rfl⟩) (by kernel_rfl) ?p17_16x1 hS2 ?_
  case p17_16x1 => (go_simp; try with_reducible rfl)
  refine wpAnyH_takeM (i := 17) (v := undef) (l' := bm 21 262143) (a' := ?a17_17x1) rfl (by kernel_rfl) (by kernel_rfl) (by kernel_rfl) (fun _ _ _ h => h) (Or.inr ⟨by kernel_rfl, rfl⟩) (by kernel_rfl) ?p17_17x1 hS2 ?_
  case p17_17x1 => (go_simp; try with_reducible rfl)
  refine wpAnyH_takeM (i := 18) (v := undef) (l' := bm 21 524287) (a' := ?a17_18x1) rfl (by kernel_rfl) (by kernel_rfl) (by kernel_rfl) (fun _ _ _ h => h) (Or.inr ⟨by kernel_rfl, rfl⟩) (by kernel_rfl) ?p17_18x1 hS2 ?_
  case p17_18x1 => (go_simp; try with_reducible rfl)
  refine wpAnyH_takeM (i := 19) (v := ?v17_19x1) (l' := bm 21 1048575) (a' := ?a17_19x1) rfl (by kernel_rfl) (by kernel_rfl) (by kernel_rfl) (fun _ _ _ h => h) (Or.inl ⟨by kernel_rfl, ?h17_19x1⟩) (by kernel_rfl) ?p17_19x1 hS2 ?r17_19x1
  case h17_19x1 => (intro w hS; go_simp; try with_reducible rfl)
  case p17_19x1 => (go_simp; try with_reducible rfl)
  refine wpAnyH_takeM (i := 20) (v := ?v17_20x1) (l' := bm 21 2097151) (a' := ?a17_20x1) rfl (by kernel_rfl) (by kernel_rfl) (by kernel_rfl) (fun _ _ _ h => h) (Or.inl ⟨by kernel_rfl, ?h17_20x1⟩) (by kernel_rfl) ?p17_20x1 hS2 ?r17_20x1
  case h17_20x1 => (intro w hS; go_simp; try with_reducible rfl)
  case p17_20x1 => (go_simp; try with_reducible rfl)
  refine wpAnyH_done (by kernel_rfl) ?_ _
  clear hS2
  have hq := (HO.out _ D21.out).2
  go_wp2_with fail
  go_ret
  exact ⟨rfl, below_step HB.out D21.out⟩
set_option maxRecDepth 100000 in
set_option maxHeartbeats 8000000 in
theorem real_yc (a b : Nat) (ha : a < 18446744073709551616) (hb : b < 18446744073709551616) (fa : fin a = true) (fb : fin b = true) (c1 : fin (addR a b true).1 = true) (c2 : fin (mulR a b true).1 = true) (c3 : fin (mulR a b false).1 = true) (w : World) : Calls Try.prog 8 #[.float .f64 a, .float .f64 b] w fun r w' => r = .returned (.bool true) ∧ Below w.heap.size w w' := by
  have H0 := Lib.hid awake
  have H1 := Lib.hid (fun w => num_b a ha w)
  have H2 := Lib.hid (fun w => num_b b hb w)
  rw [fa] at H1
  rw [fb] at H2
  have OX := Lib.hid (fun w => of_rp ha fa w)
  have OY := Lib.hid (fun w => of_rp hb fb w)
  have d1 := add_dn fa fb
  have d2 := add_up fa fb
  have e1 := mul_dn fa fb
  have e2 := mul_up fa fb
  have R1 := Lib.hid (fun w => add_any a b true ha hb w)
  have R2 := Lib.hid (fun w => add_any a b false ha hb w)
  have R3 := Lib.hid (fun w => mul_any a b true ha hb w)
  have R4 := Lib.hid (fun w => mul_any a b false ha hb w)
  rw [addR_fin fa fb true] at R1
  rw [addR_fin fa fb false] at R2
  rw [mulR_fin fa fb true] at R3
  rw [mulR_fin fa fb false] at R4
  simp only [pV, numV] at R1 R2 R3 R4
  generalize (addR a b true).1 = lo at *
  generalize (addR a b false).1 = hi at *
  generalize (mulR a b true).1 = lo2 at *
  generalize (mulR a b false).1 = hi2 at *
  have N1 := Lib.hid (fun w => num_b lo d1.gd.lt w)
  have N2 := Lib.hid (fun w => num_b lo2 e1.gd.lt w)
  rw [c1] at N1
  rw [c2] at N2
  have CL1 := Lib.hid (fun w => close_any d1.gd d2.gd (nbr_rd d1 d2) w)
  have CL2 := Lib.hid (fun w => close_any e1.gd e2.gd (nbr_rd e1 e2) w)
  have DD1 := Lib.hid d1
  have DD2 := Lib.hid d2
  have EE1 := Lib.hid e1
  have EE2 := Lib.hid e2
  have OL := Lib.hid (fun w => of_rp d1.gd.lt c1 w)
  have HQ1 := Lib.hid (diff_q d1 d2 c1)
  obtain ⟨qs_, hq1⟩ : ∃ q, (FloatKind.f64.format.order lo hi == some .eq) = q := ⟨_, rfl⟩
  rw [hq1] at HQ1
  have N3 := Lib.hid (fun w => num_b hi2 e2.gd.lt w)
  rw [c3] at N3
  have OM := Lib.hid (fun w => of_rp e1.gd.lt c2 w)
  have HQ2 := Lib.hid (diff_q e1 e2 c2)
  obtain ⟨qm_, hq2⟩ : ∃ q, (FloatKind.f64.format.order lo2 hi2 == some .eq) = q := ⟨_, rfl⟩
  rw [hq2] at HQ2
  clear d1 d2 e1 e2 c1 c2 c3 fa fb ha hb
  generalize fv a = xa at *
  generalize fv b = xb at *
  generalize fv lo = xl at *
  generalize fv lo2 = xm at *
  go_enter Try.func8, Try.ntmps8
  go_wp2_with fail
  obtain ⟨W, hW⟩ : ∃ W, W = w := ⟨_, rfl⟩
  rw [← hW]
  have HB := Lib.hid (hW ▸ Below.refl w.heap.size w : Below w.heap.size w W)
  clear hW
  have HO := Lib.hid (show ∀ w', Below W.heap.size W w' → (Below W.heap.size W w') from fun w' h => h)
  have D0 := Lib.hid (Below.refl W.heap.size W)
  refine (H0.out _).mono ?_
  rintro r w1 ⟨rfl, hb⟩
  have D1 := Lib.hid (below_step D0.out hb)
  clear hb
  go_wp2_with fail
  refine (H1.out _).mono ?_
  rintro r w2 ⟨rfl, hb⟩
  have D2 := Lib.hid (below_step D1.out hb)
  clear hb
  go_wp2_with fail
  refine (H2.out _).mono ?_
  rintro r w3 ⟨rfl, hb⟩
  have D3 := Lib.hid (below_step D2.out hb)
  clear hb
  go_wp2_with fail
  refine (OX.out _).mono ?_
  rintro r w4 ⟨bx, gx, cx, rfl, hrx, hpx, hb⟩
  have D4 := Lib.hid (below_step D3.out hb)
  clear hb
  have HRbx := Lib.hid hrx
  have HPbx := Lib.hid hpx
  clear hrx hpx
  go_wp2_with fail
  refine (OY.out _).mono ?_
  rintro r w5 ⟨by_, gy, cy, rfl, hrx, hpx, hb⟩
  have D5 := Lib.hid (below_step D4.out hb)
  have HRbx := Lib.hid (HRbx.out.below' hb)
  clear hb
  have HRby_ := Lib.hid hrx
  have HPby_ := Lib.hid hpx
  clear hrx hpx
  go_wp2_with fail
  obtain ⟨V, hV, KN0, KN1, hBV, hz⟩ := by2 w5 35 35 #[Value.bool bx.neg, Value.slice (some ⟨gx, 0, none⟩) bx.ws.length cx, Value.int IntKind.i64 bx.e] #[Value.bool by_.neg, Value.slice (some ⟨gy, 0, none⟩) by_.ws.length cy, Value.int IntKind.i64 by_.e]
  rw [← hV]
  have HLTbx := Lib.hid HRbx.out.lt
  have HRbx := Lib.hid (HRbx.out.below' hBV)
  have HLTby_ := Lib.hid HRby_.out.lt
  have HRby_ := Lib.hid (HRby_.out.below' hBV)
  have HB' := Lib.hid (below_step (below_step HB.out D5.out) hBV)
  obtain ⟨gv, hgv⟩ : ∃ g, w5.heap.size = g := ⟨_, rfl⟩
  have hwg : w.heap.size ≤ gv := by rw [← hgv]; exact (below_step HB.out D5.out).size
  have lt_bx : gx < gv := by rw [← hgv]; exact HLTbx.out
  have lt_by_ : gy < gv := by rw [← hgv]; exact HLTby_.out
  rw [hgv] at KN0 KN1
  rw [hgv]
  have K0 := Lib.hid KN0
  have K1 := Lib.hid KN1
  clear HB HO KN0 KN1 hV hBV hz hgv
  have HB := HB'
  clear HB'
  have HO := Lib.hid (show ∀ w', Below V.heap.size V w' → (Below V.heap.size V w' ∧ w'.cell? ⟨gv, 0, none⟩ = some (Value.bool bx.neg) ∧ w'.cell? ⟨gv, 1, none⟩ = some (Value.slice (some ⟨gx, 0, none⟩) bx.ws.length cx) ∧ w'.cell? ⟨gv, 2, none⟩ = some (Value.int IntKind.i64 bx.e) ∧ w'.cell? ⟨gv + 1, 0, none⟩ = some (Value.bool by_.neg) ∧ w'.cell? ⟨gv + 1, 1, none⟩ = some (Value.slice (some ⟨gy, 0, none⟩) by_.ws.length cy) ∧ w'.cell? ⟨gv + 1, 2, none⟩ = some (Value.int IntKind.i64 by_.e)) from fun w' h => ⟨h, (K0.out.below h K0.out.lt).cell 0, (K0.out.below h K0.out.lt).cell 1, (K0.out.below h K0.out.lt).cell 2, (K1.out.below h K1.out.lt).cell 0, (K1.out.below h K1.out.lt).cell 1, (K1.out.below h K1.out.lt).cell 2⟩)
  have D6 := Lib.hid (Below.refl V.heap.size V)
  have hq := (HO.out _ D6.out).2
  have HRbx := Lib.hid (fun w' (b : Below V.heap.size V w') => HRbx.out.below' b)
  have HRby_ := Lib.hid (fun w' (b : Below V.heap.size V w') => HRby_.out.below' b)
  clear hq
  refine wp_region_held (S := (fun w' => Below V.heap.size V w' ∧ w'.cell? ⟨gv, 0, none⟩ = some (Value.bool bx.neg) ∧ w'.cell? ⟨gv, 1, none⟩ = some (Value.slice (some ⟨gx, 0, none⟩) bx.ws.length cx) ∧ w'.cell? ⟨gv, 2, none⟩ = some (Value.int IntKind.i64 bx.e) ∧ w'.cell? ⟨gv + 1, 0, none⟩ = some (Value.bool by_.neg) ∧ w'.cell? ⟨gv + 1, 1, none⟩ = some (Value.slice (some ⟨gy, 0, none⟩) by_.ws.length cy) ∧ w'.cell? ⟨gv + 1, 2, none⟩ = some (Value.int IntKind.i64 by_.e))) (by kernel_rfl) ?_
  change wpAnyH _ _ _ _ _ _ _ _ (World.drew _)
  obtain ⟨wd, hwd⟩ : ∃ x, x = World.drew V := ⟨_, rfl⟩
  rw [← hwd]
  have DD := Lib.hid (hwd ▸ Below.drew D6.out : Below V.heap.size V wd)
  clear hwd
  have hS0 := HO.out _ DD.out
  refine wpAnyH_takeM (i := 0) (v := ?vs6_0) (l' := bm 10 1) (a' := ?as6_0) rfl (by kernel_rfl) (by kernel_rfl) (by kernel_rfl) (fun _ _ _ h => h) (Or.inl ⟨by kernel_rfl, ?hs6_0⟩) (by kernel_rfl) ?ps6_0 hS0 ?rs6_0
  case hs6_0 => (intro w hS; go_simp; try with_reducible rfl)
  case ps6_0 => (go_simp; try with_reducible rfl)
  refine wpAnyH_takeM (i := 1) (v := ?vs6_1) (l' := bm 10 3) (a' := ?as6_1) rfl (by kernel_rfl) (by kernel_rfl) (by kernel_rfl) (fun _ _ _ h => h) (Or.inl ⟨by kernel_rfl, ?hs6_1⟩) (by kernel_rfl) ?ps6_1 hS0 ?rs6_1
  case hs6_1 => (intro w hS; go_simp; try with_reducible rfl)
  case ps6_1 => (go_simp; try with_reducible rfl)
  refine wpAnyH_takeM (i := 3) (v := ?vs6_3) (l' := bm 10 11) (a' := ?as6_3) rfl (by kernel_rfl) (by kernel_rfl) (by kernel_rfl) (fun _ _ _ h => h) (Or.inl ⟨by kernel_rfl, ?hs6_3⟩) (by kernel_rfl) ?ps6_3 hS0 ?rs6_3
  case hs6_3 => (intro w hS; go_simp; try with_reducible rfl)
  case ps6_3 => (go_simp; try with_reducible rfl)
  refine wpAnyH_takeM (i := 4) (v := ?vs6_4) (l' := bm 10 27) (a' := ?as6_4) rfl (by kernel_rfl) (by kernel_rfl) (by kernel_rfl) (fun _ _ _ h => h) (Or.inl ⟨by kernel_rfl, ?hs6_4⟩) (by kernel_rfl) ?ps6_4 hS0 ?rs6_4
  case hs6_4 => (intro w hS; go_simp; try with_reducible rfl)
  case ps6_4 => (go_simp; try with_reducible rfl)
  refine wpAnyH_sets (N := 10) (stop := 255) (F := 2) (m := 27) (R := [2, 5, 6, 7]) (M := [27, 91, 155, 219, 31, 95, 159, 223, 63, 127, 191, 255]) (fun a0 m a w9 => ∃ (v0 v1 p0 p1 : Value) (g0 g1 h0 h1 : Nat), a = ((((a0.put (some 29) v0).put (some 32) v1).put (some 7) p0).put (some 8) p1) ∧ Below V.heap.size V w9 ∧ (m.testBit 2 = true → BigG w9 v0 h0 (xa + xb) (2 * (((971 : Int) - -1074).toNat / 32) + 2 + 2 + 2) (-1074) (971)) ∧ (m.testBit 5 = true → BigG w9 v1 h1 (xa * xb) (2 + 2 + 1) (-1074 + -1074) (971 + 971)) ∧ (m.testBit 6 = true → p0 = .pointer (some ⟨g0, 0, none⟩) ∧ Blk w9 g0 35 #[Value.bool false, Value.slice none 0 0, Value.int IntKind.i64 0] ∧ V.heap.size ≤ g0) ∧ (m.testBit 7 = true → p1 = .pointer (some ⟨g1, 0, none⟩) ∧ Blk w9 g1 35 #[Value.bool false, Value.slice none 0 0, Value.int IntKind.i64 0] ∧ V.heap.size ≤ g1) ∧ (m.testBit 6 = true → m.testBit 7 = true → g0 ≠ g1) ∧ (m.testBit 2 = true → m.testBit 6 = true → h0 ≠ g0) ∧ (m.testBit 2 = true → m.testBit 7 = true → h0 ≠ g1) ∧ (m.testBit 5 = true → m.testBit 6 = true → h1 ≠ g0) ∧ (m.testBit 5 = true → m.testBit 7 = true → h1 ≠ g1)) (by kernel_rfl) (by kernel_rfl) (by kernel_rfl) ?st6 ?sp6 ?re6
  case st6 =>
    exact ⟨undef, undef, undef, undef, 0, 0, 0, 0, by go_simp, DD.out, fun h => absurd h (by decide), fun h => absurd h (by decide), fun h => absurd h (by decide), fun h => absurd h (by decide), fun h => absurd h (by decide), fun h => absurd h (by decide), fun h => absurd h (by decide), fun h => absurd h (by decide), fun h => absurd h (by decide)⟩
  case sp6 =>
    intro m a' w9 i hi hm hJ
    obtain ⟨v0, v1, p0, p1, g0, g1, h0, h1, rfl, hb0, c0, c1, q0, q1, d0_1, b0_0, b0_1, b1_0, b1_1⟩ := hJ
    have C0 := Lib.hid c0
    have C1 := Lib.hid c1
    have Q0 := Lib.hid q0
    have Q1 := Lib.hid q1
    have D0_1 := Lib.hid d0_1
    have B0_0 := Lib.hid b0_0
    have B0_1 := Lib.hid b0_1
    have B1_0 := Lib.hid b1_0
    have B1_1 := Lib.hid b1_1
    have HB0 := Lib.hid hb0
    have hS9 := HO.out _ hb0
    clear c0 c1 q0 q1 d0_1 b0_0 b0_1 b1_0 b1_1 hb0 hm hS0
    simp only [List.mem_cons, List.not_mem_nil, or_false] at hi
    rcases hi with rfl | rfl | rfl | rfl
    · refine wpOp_at rfl (by kernel_rfl) (fun K hK => ?_)
      go_simp
      go_at_call 30
      refine (add_rq (HRbx.out _ HB0.out) (HRby_.out _ HB0.out) cx cy HPbx.out HPby_.out (by decide) (by decide) (by decide) (by decide)).mono ?_
      rintro r w10 ⟨vn, hn, rfl, kn, ln, hb⟩
      dsimp only
      have hb1 := below_step HB0.out hb
      exact hK _ _ ⟨HO.out _ hb1, vn, v1, p0, p1, g0, g1, hn, h1, by go_simp, hb1, fun _ => kn, fun h => (C1.out (by rwa [tb_ne (by decide)] at h)).below hb, fun h => ⟨(Q0.out (by rwa [tb_ne (by decide)] at h)).1, (Q0.out (by rwa [tb_ne (by decide)] at h)).2.1.below hb (Q0.out (by rwa [tb_ne (by decide)] at h)).2.1.lt, (Q0.out (by rwa [tb_ne (by decide)] at h)).2.2⟩, fun h => ⟨(Q1.out (by rwa [tb_ne (by decide)] at h)).1, (Q1.out (by rwa [tb_ne (by decide)] at h)).2.1.below hb (Q1.out (by rwa [tb_ne (by decide)] at h)).2.1.lt, (Q1.out (by rwa [tb_ne (by decide)] at h)).2.2⟩, fun h h' => D0_1.out (by rwa [tb_ne (by decide)] at h) (by rwa [tb_ne (by decide)] at h'), fun h h' => Nat.ne_of_gt (Nat.lt_of_lt_of_le (Q0.out (by rwa [tb_ne (by decide)] at h')).2.1.lt ln), fun h h' => Nat.ne_of_gt (Nat.lt_of_lt_of_le (Q1.out (by rwa [tb_ne (by decide)] at h')).2.1.lt ln), fun h h' => B1_0.out (by rwa [tb_ne (by decide)] at h) (by rwa [tb_ne (by decide)] at h'), fun h h' => B1_1.out (by rwa [tb_ne (by decide)] at h) (by rwa [tb_ne (by decide)] at h')⟩
    · refine wpOp_at rfl (by kernel_rfl) (fun K hK => ?_)
      go_simp
      go_at_call 25
      refine (mul_rq (HRbx.out _ HB0.out) (HRby_.out _ HB0.out) cx cy HPbx.out HPby_.out (by decide) (by decide) (by decide) (by decide) (by decide) (by decide)).mono ?_
      rintro r w10 ⟨vn, hn, rfl, kn, ln, hb⟩
      dsimp only
      have hb1 := below_step HB0.out hb
      exact hK _ _ ⟨HO.out _ hb1, v0, vn, p0, p1, g0, g1, h0, hn, by go_simp, hb1, fun h => (C0.out (by rwa [tb_ne (by decide)] at h)).below hb, fun _ => kn, fun h => ⟨(Q0.out (by rwa [tb_ne (by decide)] at h)).1, (Q0.out (by rwa [tb_ne (by decide)] at h)).2.1.below hb (Q0.out (by rwa [tb_ne (by decide)] at h)).2.1.lt, (Q0.out (by rwa [tb_ne (by decide)] at h)).2.2⟩, fun h => ⟨(Q1.out (by rwa [tb_ne (by decide)] at h)).1, (Q1.out (by rwa [tb_ne (by decide)] at h)).2.1.below hb (Q1.out (by rwa [tb_ne (by decide)] at h)).2.1.lt, (Q1.out (by rwa [tb_ne (by decide)] at h)).2.2⟩, fun h h' => D0_1.out (by rwa [tb_ne (by decide)] at h) (by rwa [tb_ne (by decide)] at h'), fun h h' => B0_0.out (by rwa [tb_ne (by decide)] at h) (by rwa [tb_ne (by decide)] at h'), fun h h' => B0_1.out (by rwa [tb_ne (by decide)] at h) (by rwa [tb_ne (by decide)] at h'), fun h h' => Nat.ne_of_gt (Nat.lt_of_lt_of_le (Q0.out (by rwa [tb_ne (by decide)] at h')).2.1.lt ln), fun h h' => Nat.ne_of_gt (Nat.lt_of_lt_of_le (Q1.out (by rwa [tb_ne (by decide)] at h')).2.1.lt ln)⟩
    · refine wpOp_at rfl (by kernel_rfl) (fun K hK => ?_)
      go_simp
      have hb1 := below_more HB0.out (.cells #[Value.bool false, Value.slice none 0 0, Value.int IntKind.i64 0] 35)
      exact hK _ _ ⟨HO.out _ hb1, v0, v1, .pointer (some ⟨w9.heap.size, 0, none⟩), p1, w9.heap.size, g1, h0, h1, by go_simp, hb1, fun h => (C0.out (by rwa [tb_ne (by decide)] at h)).below (below_new _ _), fun h => (C1.out (by rwa [tb_ne (by decide)] at h)).below (below_new _ _), fun _ => ⟨rfl, Blk.new_at _ _ _ rfl, HB0.out.size⟩, fun h => ⟨(Q1.out (by rwa [tb_ne (by decide)] at h)).1, (Q1.out (by rwa [tb_ne (by decide)] at h)).2.1.alloc _, (Q1.out (by rwa [tb_ne (by decide)] at h)).2.2⟩, fun h h' => Nat.ne_of_gt (Q1.out (by rwa [tb_ne (by decide)] at h')).2.1.lt, fun h h' => Nat.ne_of_lt (C0.out (by rwa [tb_ne (by decide)] at h)).lt, fun h h' => B0_1.out (by rwa [tb_ne (by decide)] at h) (by rwa [tb_ne (by decide)] at h'), fun h h' => Nat.ne_of_lt (C1.out (by rwa [tb_ne (by decide)] at h)).lt, fun h h' => B1_1.out (by rwa [tb_ne (by decide)] at h) (by rwa [tb_ne (by decide)] at h')⟩
    · refine wpOp_at rfl (by kernel_rfl) (fun K hK => ?_)
      go_simp
      have hb1 := below_more HB0.out (.cells #[Value.bool false, Value.slice none 0 0, Value.int IntKind.i64 0] 35)
      exact hK _ _ ⟨HO.out _ hb1, v0, v1, p0, .pointer (some ⟨w9.heap.size, 0, none⟩), g0, w9.heap.size, h0, h1, by go_simp, hb1, fun h => (C0.out (by rwa [tb_ne (by decide)] at h)).below (below_new _ _), fun h => (C1.out (by rwa [tb_ne (by decide)] at h)).below (below_new _ _), fun h => ⟨(Q0.out (by rwa [tb_ne (by decide)] at h)).1, (Q0.out (by rwa [tb_ne (by decide)] at h)).2.1.alloc _, (Q0.out (by rwa [tb_ne (by decide)] at h)).2.2⟩, fun _ => ⟨rfl, Blk.new_at _ _ _ rfl, HB0.out.size⟩, fun h h' => Nat.ne_of_lt (Q0.out (by rwa [tb_ne (by decide)] at h)).2.1.lt, fun h h' => B0_0.out (by rwa [tb_ne (by decide)] at h) (by rwa [tb_ne (by decide)] at h'), fun h h' => Nat.ne_of_lt (C0.out (by rwa [tb_ne (by decide)] at h)).lt, fun h h' => B1_0.out (by rwa [tb_ne (by decide)] at h) (by rwa [tb_ne (by decide)] at h'), fun h h' => Nat.ne_of_lt (C1.out (by rwa [tb_ne (by decide)] at h)).lt⟩
  intro a' w9 hJ
  obtain ⟨v0, v1, p0, p1, g0, g1, h0, h1, rfl, hb0, c0, c1, q0, q1, d0_1, b0_0, b0_1, b1_0, b1_1⟩ := hJ
  obtain ⟨nb0, nc0, rfl, hrn0, hpn0⟩ := c0 (by decide)
  have HRn0 := Lib.hid hrn0
  have HPn0 := Lib.hid hpn0
  clear hrn0 hpn0
  obtain ⟨nb1, nc1, rfl, hrn1, hpn1⟩ := c1 (by decide)
  have HRn1 := Lib.hid hrn1
  have HPn1 := Lib.hid hpn1
  clear hrn1 hpn1
  have e50_0 := b0_0 (by decide) (by decide)
  clear b0_0
  have e50_1 := b0_1 (by decide) (by decide)
  clear b0_1
  have e51_0 := b1_0 (by decide) (by decide)
  clear b1_0
  have e51_1 := b1_1 (by decide) (by decide)
  clear b1_1
  obtain ⟨rfl, k0, l0⟩ := q0 (by decide)
  obtain ⟨rfl, k1, l1⟩ := q1 (by decide)
  have e0_1 := d0_1 (by decide) (by decide)
  clear d0_1
  have DB := Lib.hid hb0
  clear hb0 hS0
  have KK0 := Lib.hid k0
  clear k0
  have KK1 := Lib.hid k1
  clear k1
  refine wpAnyH_frame (a' := ?fr6) ?fe6 ?fg6
  case fe6 => (go_simp; try with_reducible rfl)
  have hS0 := HO.out _ DB.out
  refine wpAnyH_oneM (i := 8) (l' := bm 10 511) rfl (by kernel_rfl) (by kernel_rfl) (by kernel_rfl) (fun K hK => ?_)
  have f0 := KK0.out.cell 0
  have u0 := KK0.out.frz 0
  have f1 := KK0.out.cell 1
  have u1 := KK0.out.frz 1
  have f2 := KK0.out.cell 2
  have u2 := KK0.out.frz 2
  obtain ⟨ws0, hv⟩ : ∃ V, (((w9.setCell ⟨g0, 0, none⟩ (Value.bool nb0.neg)).setCell ⟨g0, 1, none⟩ (Value.slice (some ⟨h0, 0, none⟩) nb0.ws.length nc0)).setCell ⟨g0, 2, none⟩ (Value.int IntKind.i64 nb0.e)) = V := ⟨_, rfl⟩
  have DB' := Lib.hid (hv ▸ Below.setCell (Below.setCell (Below.setCell (DB.out) l0 _) l0 _) l0 _ : Below V.heap.size V ws0)
  have KK0' := Lib.hid (hv ▸ (Blk.set_ (Blk.set_ (Blk.set_ (KK0.out) 0 _) 1 _) 2 _) : Blk ws0 g0 35 #[Value.bool nb0.neg, Value.slice (some ⟨h0, 0, none⟩) nb0.ws.length nc0, Value.int IntKind.i64 nb0.e])
  have KK1' := Lib.hid (hv ▸ (Blk.off (Blk.off (Blk.off (KK1.out) ⟨g0, 0, none⟩ _ (by show g1 ≠ g0; omega)) ⟨g0, 1, none⟩ _ (by show g1 ≠ g0; omega)) ⟨g0, 2, none⟩ _ (by show g1 ≠ g0; omega)) : Blk ws0 g1 35 #[Value.bool false, Value.slice none 0 0, Value.int IntKind.i64 0])
  have HRn0 := Lib.hid (hv ▸ (RL.off (RL.off (RL.off (HRn0.out) ⟨g0, 0, none⟩ _ (by show h0 ≠ g0; exact e50_0)) ⟨g0, 1, none⟩ _ (by show h0 ≠ g0; exact e50_0)) ⟨g0, 2, none⟩ _ (by show h0 ≠ g0; exact e50_0)) : RL ws0 h0 nb0.ws)
  have HRn1 := Lib.hid (hv ▸ (RL.off (RL.off (RL.off (HRn1.out) ⟨g0, 0, none⟩ _ (by show h1 ≠ g0; exact e51_0)) ⟨g0, 1, none⟩ _ (by show h1 ≠ g0; exact e51_0)) ⟨g0, 2, none⟩ _ (by show h1 ≠ g0; exact e51_0)) : RL ws0 h1 nb1.ws)
  go_simp
  clear hv f0 u0 f1 u1 f2 u2
  have DB := DB'
  clear DB'
  have KK0 := KK0'
  clear KK0'
  have KK1 := KK1'
  clear KK1'
  have hS1 := HO.out _ DB.out
  refine hK _ _ hS1 ?_
  clear hK K hS0
  refine wpAnyH_oneM (i := 9) (l' := bm 10 1023) rfl (by kernel_rfl) (by kernel_rfl) (by kernel_rfl) (fun K hK => ?_)
  have f0 := KK1.out.cell 0
  have u0 := KK1.out.frz 0
  have f1 := KK1.out.cell 1
  have u1 := KK1.out.frz 1
  have f2 := KK1.out.cell 2
  have u2 := KK1.out.frz 2
  obtain ⟨ws1, hv⟩ : ∃ V, (((ws0.setCell ⟨g1, 0, none⟩ (Value.bool nb1.neg)).setCell ⟨g1, 1, none⟩ (Value.slice (some ⟨h1, 0, none⟩) nb1.ws.length nc1)).setCell ⟨g1, 2, none⟩ (Value.int IntKind.i64 nb1.e)) = V := ⟨_, rfl⟩
  have DB' := Lib.hid (hv ▸ Below.setCell (Below.setCell (Below.setCell (DB.out) l1 _) l1 _) l1 _ : Below V.heap.size V ws1)
  have KK0' := Lib.hid (hv ▸ (Blk.off (Blk.off (Blk.off (KK0.out) ⟨g1, 0, none⟩ _ (by show g0 ≠ g1; omega)) ⟨g1, 1, none⟩ _ (by show g0 ≠ g1; omega)) ⟨g1, 2, none⟩ _ (by show g0 ≠ g1; omega)) : Blk ws1 g0 35 #[Value.bool nb0.neg, Value.slice (some ⟨h0, 0, none⟩) nb0.ws.length nc0, Value.int IntKind.i64 nb0.e])
  have KK1' := Lib.hid (hv ▸ (Blk.set_ (Blk.set_ (Blk.set_ (KK1.out) 0 _) 1 _) 2 _) : Blk ws1 g1 35 #[Value.bool nb1.neg, Value.slice (some ⟨h1, 0, none⟩) nb1.ws.length nc1, Value.int IntKind.i64 nb1.e])
  have HRn0 := Lib.hid (hv ▸ (RL.off (RL.off (RL.off (HRn0.out) ⟨g1, 0, none⟩ _ (by show h0 ≠ g1; exact e50_1)) ⟨g1, 1, none⟩ _ (by show h0 ≠ g1; exact e50_1)) ⟨g1, 2, none⟩ _ (by show h0 ≠ g1; exact e50_1)) : RL ws1 h0 nb0.ws)
  have HRn1 := Lib.hid (hv ▸ (RL.off (RL.off (RL.off (HRn1.out) ⟨g1, 0, none⟩ _ (by show h1 ≠ g1; exact e51_1)) ⟨g1, 1, none⟩ _ (by show h1 ≠ g1; exact e51_1)) ⟨g1, 2, none⟩ _ (by show h1 ≠ g1; exact e51_1)) : RL ws1 h1 nb1.ws)
  go_simp
  clear hv f0 u0 f1 u1 f2 u2
  have DB := DB'
  clear DB'
  have KK0 := KK0'
  clear KK0'
  have KK1 := KK1'
  clear KK1'
  have hS2 := HO.out _ DB.out
  refine hK _ _ hS2 ?_
  clear hK K hS1
  refine wpAnyH_done (by kernel_rfl) ?_ _
  clear hS2
  have K0' := Lib.hid (K0.out.below DB.out K0.out.lt)
  clear K0
  have K1' := Lib.hid (K1.out.below DB.out K1.out.lt)
  clear K1
  have HB' := Lib.hid (below_step HB.out DB.out)
  clear HB HO D6
  have HB := HB'
  clear HB'
  have K0 := K0'
  clear K0'
  have K1 := K1'
  clear K1'
  have K2 := KK0
  clear KK0
  have K3 := KK1
  clear KK1
  have HO := Lib.hid (show ∀ w', Below ws1.heap.size ws1 w' → (Below ws1.heap.size ws1 w' ∧ w'.cell? ⟨gv, 0, none⟩ = some (Value.bool bx.neg) ∧ w'.cell? ⟨gv, 1, none⟩ = some (Value.slice (some ⟨gx, 0, none⟩) bx.ws.length cx) ∧ w'.cell? ⟨gv, 2, none⟩ = some (Value.int IntKind.i64 bx.e) ∧ w'.cell? ⟨gv + 1, 0, none⟩ = some (Value.bool by_.neg) ∧ w'.cell? ⟨gv + 1, 1, none⟩ = some (Value.slice (some ⟨gy, 0, none⟩) by_.ws.length cy) ∧ w'.cell? ⟨gv + 1, 2, none⟩ = some (Value.int IntKind.i64 by_.e) ∧ w'.cell? ⟨g0, 0, none⟩ = some (Value.bool nb0.neg) ∧ w'.cell? ⟨g0, 1, none⟩ = some (Value.slice (some ⟨h0, 0, none⟩) nb0.ws.length nc0) ∧ w'.cell? ⟨g0, 2, none⟩ = some (Value.int IntKind.i64 nb0.e) ∧ w'.cell? ⟨g1, 0, none⟩ = some (Value.bool nb1.neg) ∧ w'.cell? ⟨g1, 1, none⟩ = some (Value.slice (some ⟨h1, 0, none⟩) nb1.ws.length nc1) ∧ w'.cell? ⟨g1, 2, none⟩ = some (Value.int IntKind.i64 nb1.e)) from fun w' h => ⟨h, (K0.out.below h K0.out.lt).cell 0, (K0.out.below h K0.out.lt).cell 1, (K0.out.below h K0.out.lt).cell 2, (K1.out.below h K1.out.lt).cell 0, (K1.out.below h K1.out.lt).cell 1, (K1.out.below h K1.out.lt).cell 2, (K2.out.below h K2.out.lt).cell 0, (K2.out.below h K2.out.lt).cell 1, (K2.out.below h K2.out.lt).cell 2, (K3.out.below h K3.out.lt).cell 0, (K3.out.below h K3.out.lt).cell 1, (K3.out.below h K3.out.lt).cell 2⟩)
  have D7 := Lib.hid (Below.refl ws1.heap.size ws1)
  have hq := (HO.out _ D7.out).2
  have HRn0 := Lib.hid (fun w' (b : Below ws1.heap.size ws1 w') => HRn0.out.below' b)
  have HRn1 := Lib.hid (fun w' (b : Below ws1.heap.size ws1 w') => HRn1.out.below' b)
  clear hq
  go_wp2_with fail
  have hq := (HO.out _ D7.out).2
  refine (R1.out _).mono ?_
  clear hq
  rintro r w8 ⟨rfl, hb⟩
  have D8 := Lib.hid (below_step D7.out hb)
  clear hb
  have hq := (HO.out _ D8.out).2
  go_wp2_with fail
  refine (R2.out _).mono ?_
  clear hq
  rintro r w9 ⟨rfl, hb⟩
  have D9 := Lib.hid (below_step D8.out hb)
  clear hb
  have hq := (HO.out _ D9.out).2
  go_wp2_with fail
  refine (btw_rd (HRn0.out _ D9.out) nc0 HPn0.out (by decide) (by decide) (by decide) DD1.out DD2.out).mono ?_
  clear hq
  rintro r w10 ⟨rfl, hb⟩
  have D10 := Lib.hid (below_step D9.out hb)
  clear hb
  have hq := (HO.out _ D10.out).2
  go_wp2_with fail
  refine (CL1.out _).mono ?_
  clear hq
  rintro r w11 ⟨rfl, hb⟩
  have D11 := Lib.hid (below_step D10.out hb)
  clear hb
  have hq := (HO.out _ D11.out).2
  clear hq
  go_wp2_with fail
  go_wp2_with fail
  refine wp_region_held (S := (fun w' => Below ws1.heap.size ws1 w' ∧ w'.cell? ⟨gv, 0, none⟩ = some (Value.bool bx.neg) ∧ w'.cell? ⟨gv, 1, none⟩ = some (Value.slice (some ⟨gx, 0, none⟩) bx.ws.length cx) ∧ w'.cell? ⟨gv, 2, none⟩ = some (Value.int IntKind.i64 bx.e) ∧ w'.cell? ⟨gv + 1, 0, none⟩ = some (Value.bool by_.neg) ∧ w'.cell? ⟨gv + 1, 1, none⟩ = some (Value.slice (some ⟨gy, 0, none⟩) by_.ws.length cy) ∧ w'.cell? ⟨gv + 1, 2, none⟩ = some (Value.int IntKind.i64 by_.e) ∧ w'.cell? ⟨g0, 0, none⟩ = some (Value.bool nb0.neg) ∧ w'.cell? ⟨g0, 1, none⟩ = some (Value.slice (some ⟨h0, 0, none⟩) nb0.ws.length nc0) ∧ w'.cell? ⟨g0, 2, none⟩ = some (Value.int IntKind.i64 nb0.e) ∧ w'.cell? ⟨g1, 0, none⟩ = some (Value.bool nb1.neg) ∧ w'.cell? ⟨g1, 1, none⟩ = some (Value.slice (some ⟨h1, 0, none⟩) nb1.ws.length nc1) ∧ w'.cell? ⟨g1, 2, none⟩ = some (Value.int IntKind.i64 nb1.e))) (by kernel_rfl) ?_
  (try change wpAnyH _ _ _ _ _ _ _ (World.drew _))
  have hS0 := HO.out _ (Below.drew D11.out)
  refine wpAnyH_takeM (i := 0) (v := ?v11_0x2) (l' := bm 18 1) (a' := ?a11_0x2) rfl (by kernel_rfl) (by kernel_rfl) (by kernel_rfl) (fun _ _ _ h => h) (Or.inl ⟨by kernel_rfl, ?h11_0x2⟩) (by kernel_rfl) ?p11_0x2 hS0 ?r11_0x2
  case h11_0x2 => (intro w hS; go_simp; try with_reducible rfl)
  case p11_0x2 => (go_simp; try with_reducible rfl)
  refine wpAnyH_oneM (i := 1) (l' := bm 18 3) rfl (by kernel_rfl) (by kernel_rfl) (by kernel_rfl) (fun K hK => ?_)
  have hP := hS0.1
  go_simp
  go_at_call 20
  refine (N1.out _).mono ?_
  rintro r w12 ⟨rfl, hb⟩
  dsimp only
  have D12 := Lib.hid (below_step hP hb)
  clear hb
  have hS1 := HO.out _ (D12.out)
  clear hP hS0
  refine hK _ _ hS1 ?_
  clear hK K
  refine wpAnyH_takeM (i := 2) (v := ?v11_2x2) (l' := bm 18 7) (a' := ?a11_2x2) rfl (by kernel_rfl) (by kernel_rfl) (by kernel_rfl) (fun _ _ _ h => h) (Or.inl ⟨by kernel_rfl, ?h11_2x2⟩) (by kernel_rfl) ?p11_2x2 hS1 ?r11_2x2
  case h11_2x2 => (intro w hS; go_simp; try with_reducible rfl)
  case p11_2x2 => (go_simp; try with_reducible rfl)
  refine wpAnyH_takeM (i := 3) (v := ?v11_3x2) (l' := bm 18 15) (a' := ?a11_3x2) rfl (by kernel_rfl) (by kernel_rfl) (by kernel_rfl) (fun _ _ _ h => h) (Or.inl ⟨by kernel_rfl, ?h11_3x2⟩) (by kernel_rfl) ?p11_3x2 hS1 ?r11_3x2
  case h11_3x2 => (intro w hS; go_simp; try with_reducible rfl)
  case p11_3x2 => (go_simp; try with_reducible rfl)
  refine wpAnyH_takeM (i := 4) (v := ?v11_4x2) (l' := bm 18 31) (a' := ?a11_4x2) rfl (by kernel_rfl) (by kernel_rfl) (by kernel_rfl) (fun _ _ _ h => h) (Or.inl ⟨by kernel_rfl, ?h11_4x2⟩) (by kernel_rfl) ?p11_4x2 hS1 ?r11_4x2
  case h11_4x2 => (intro w hS; go_simp; try with_reducible rfl)
  case p11_4x2 => (go_simp; try with_reducible rfl)
  refine wpAnyH_takeM (i := 5) (v := ?v11_5x2) (l' := bm 18 63) (a' := ?a11_5x2) rfl (by kernel_rfl) (by kernel_rfl) (by kernel_rfl) (fun _ _ _ h => h) (Or.inl ⟨by kernel_rfl, ?h11_5x2⟩) (by kernel_rfl) ?p11_5x2 hS1 ?r11_5x2
  case h11_5x2 => (intro w hS; go_simp; try with_reducible rfl)
  case p11_5x2 => (go_simp; try with_reducible rfl)
  refine wpAnyH_takeM (i := 6) (v := ?v11_6x2) (l' := bm 18 127) (a' := ?a11_6x2) rfl (by kernel_rfl) (by kernel_rfl) (by kernel_rfl) (fun _ _ _ h => h) (Or.inl ⟨by kernel_rfl, ?h11_6x2⟩) (by kernel_rfl) ?p11_6x2 hS1 ?r11_6x2
  case h11_6x2 => (intro w hS; go_simp; try with_reducible rfl)
  case p11_6x2 => (go_simp; try with_reducible rfl)
  refine wpAnyH_takeM (i := 7) (v := ?v11_7x2) (l' := bm 18 255) (a' := ?a11_7x2) rfl (by kernel_rfl) (by kernel_rfl) (by kernel_rfl) (fun _ _ _ h => h) (Or.inl ⟨by kernel_rfl, ?h11_7x2⟩) (by kernel_rfl) ?p11_7x2 hS1 ?r11_7x2
  case h11_7x2 => (intro w hS; go_simp; try with_reducible rfl)
  case p11_7x2 => (go_simp; try with_reducible rfl)
  refine wpAnyH_oneM (i := 8) (l' := bm 18 511) rfl (by kernel_rfl) (by kernel_rfl) (by kernel_rfl) (fun K hK => ?_)
  have hP := hS1.1
  go_simp
  go_at_call 22
  refine (OL.out _).mono ?_
  rintro r w13 ⟨s1_, h1_, c1_, rfl, hr1, hp1, hb⟩
  dsimp only
  have D13 := Lib.hid (below_step hP hb)
  clear hb
  have hS2 := HO.out _ (D13.out)
  clear hP hS1
  refine hK _ _ hS2 ?_
  clear hK K
  refine wpAnyH_oneM (i := 9) (l' := bm 18 1023) rfl (by kernel_rfl) (by kernel_rfl) (by kernel_rfl) (fun K hK => ?_)
  have hP := hS2.1
  go_simp
  go_at_call 33
  refine (sub_rp (HRn0.out _ hP) hr1 nc0 c1_ HPn0.out hp1 (by decide) (by decide) (by decide) (by decide)).mono ?_
  rintro r w14 ⟨s2_, h2_, c2_, rfl, hr2, hp2, hb⟩
  dsimp only
  have D14 := Lib.hid (below_step hP hb)
  clear hb
  have hS3 := HO.out _ (D14.out)
  clear hP hS2
  refine hK _ _ hS3 ?_
  clear hK K
  refine wpAnyH_oneM (i := 10) (l' := bm 18 2047) rfl (by kernel_rfl) (by kernel_rfl) (by kernel_rfl) (fun K hK => ?_)
  have hP := hS3.1
  go_simp
  go_at_call 32
  refine (sgn_q hr2 c2_ hp2 (by decide) qs_ HQ1.out).mono ?_
  rintro r w15 ⟨n1, rfl, hn1, hn1', hb⟩
  dsimp only
  have D15 := Lib.hid (below_step hP hb)
  clear hb
  have hS4 := HO.out _ (D15.out)
  clear hP hS3
  refine hK _ _ hS4 ?_
  clear hK K
  refine wpAnyH_takeM (i := 11) (v := ?v11_11x2) (l' := bm 18 4095) (a' := ?a11_11x2) rfl (by kernel_rfl) (by kernel_rfl) (by kernel_rfl) (fun _ _ _ h => h) (Or.inl ⟨by kernel_rfl, ?h11_11x2⟩) (by kernel_rfl) ?p11_11x2 hS4 ?r11_11x2
  case h11_11x2 => (intro w hS; go_simp; try with_reducible rfl)
  case p11_11x2 => (go_simp; try with_reducible rfl)
  refine wpAnyH_takeM (i := 12) (v := ?v11_12x2) (l' := bm 18 8191) (a' := ?a11_12x2) rfl (by kernel_rfl) (by kernel_rfl) (by kernel_rfl) (fun _ _ _ h => h) (Or.inl ⟨by kernel_rfl, ?h11_12x2⟩) (by kernel_rfl) ?p11_12x2 hS4 ?r11_12x2
  case h11_12x2 => (intro w hS; go_simp; try with_reducible rfl)
  case p11_12x2 => (go_simp; try with_reducible rfl)
  refine wpAnyH_takeM (i := 13) (v := ?v11_13x2) (l' := bm 18 16383) (a' := ?a11_13x2) rfl (by kernel_rfl) (by kernel_rfl) (by kernel_rfl) (fun _ _ _ h => h) (Or.inl ⟨by kernel_rfl, ?h11_13x2⟩) (by kernel_rfl) ?p11_13x2 hS4 ?r11_13x2
  case h11_13x2 => (intro w hS; go_simp; try with_reducible rfl)
  case p11_13x2 => (go_simp; try with_reducible rfl)
  refine wpAnyH_takeM (i := 14) (v := ?v11_14x2) (l' := bm 18 32767) (a' := ?a11_14x2) rfl (by kernel_rfl) (by kernel_rfl) (by kernel_rfl) (fun _ _ _ h => h) (Or.inl ⟨by kernel_rfl, ?h11_14x2⟩) (by kernel_rfl) ?p11_14x2 hS4 ?r11_14x2
  case h11_14x2 => (intro w hS; go_simp; try with_reducible rfl)
  case p11_14x2 => (go_simp; try with_reducible rfl)
  refine wpAnyH_takeM (i := 15) (v := undef) (l' := bm 18 65535) (a' := ?a11_15x2) rfl (by kernel_rfl) (by kernel_rfl) (by kernel_rfl) (fun _ _ _ h => h) (Or.inr ⟨by kernel_rfl, rfl⟩) (by kernel_rfl) ?p11_15x2 hS4 ?_
  case p11_15x2 => (go_simp; try with_reducible rfl)
  refine wpAnyH_takeM (i := 16) (v := undef) (l' := bm 18 131071) (a' := ?a11_16x2) rfl (by kernel_rfl) (by kernel_rfl) (by kernel_rfl) (fun _ _ _ h => h) (Or.inr ⟨by kernel_rfl, rfl⟩) (by kernel_rfl) ?p11_16x2 hS4 ?_
  case p11_16x2 => (go_simp; try with_reducible rfl)
  refine wpAnyH_takeM (i := 17) (v := ?v11_17x2) (l' := bm 18 262143) (a' := ?a11_17x2) rfl (by kernel_rfl) (by kernel_rfl) (by kernel_rfl) (fun _ _ _ h => h) (Or.inl ⟨by kernel_rfl, ?h11_17x2⟩) (by kernel_rfl) ?p11_17x2 hS4 ?r11_17x2
  case h11_17x2 => (intro w hS; go_simp; try with_reducible rfl)
  case p11_17x2 => (go_simp; try with_reducible rfl)
  refine wpAnyH_done (by kernel_rfl) ?_ _
  clear hS4
  have hq := (HO.out _ D15.out).2
  clear hq hn1 hn1' hr1 hp1 hr2 hp2
  go_wp2_with fail
  have hq := (HO.out _ D15.out).2
  refine (R3.out _).mono ?_
  clear hq
  rintro r w16 ⟨rfl, hb⟩
  have D16 := Lib.hid (below_step D15.out hb)
  clear hb
  have hq := (HO.out _ D16.out).2
  go_wp2_with fail
  refine (R4.out _).mono ?_
  clear hq
  rintro r w17 ⟨rfl, hb⟩
  have D17 := Lib.hid (below_step D16.out hb)
  clear hb
  have hq := (HO.out _ D17.out).2
  go_wp2_with fail
  refine (btw_rd (HRn1.out _ D17.out) nc1 HPn1.out (by decide) (by decide) (by decide) EE1.out EE2.out).mono ?_
  clear hq
  rintro r w18 ⟨rfl, hb⟩
  have D18 := Lib.hid (below_step D17.out hb)
  clear hb
  have hq := (HO.out _ D18.out).2
  go_wp2_with fail
  refine (CL2.out _).mono ?_
  clear hq
  rintro r w19 ⟨rfl, hb⟩
  have D19 := Lib.hid (below_step D18.out hb)
  clear hb
  have hq := (HO.out _ D19.out).2
  clear hq
  go_wp2_with fail
  go_wp2_with fail
  refine wp_region_held (S := (fun w' => Below ws1.heap.size ws1 w' ∧ w'.cell? ⟨gv, 0, none⟩ = some (Value.bool bx.neg) ∧ w'.cell? ⟨gv, 1, none⟩ = some (Value.slice (some ⟨gx, 0, none⟩) bx.ws.length cx) ∧ w'.cell? ⟨gv, 2, none⟩ = some (Value.int IntKind.i64 bx.e) ∧ w'.cell? ⟨gv + 1, 0, none⟩ = some (Value.bool by_.neg) ∧ w'.cell? ⟨gv + 1, 1, none⟩ = some (Value.slice (some ⟨gy, 0, none⟩) by_.ws.length cy) ∧ w'.cell? ⟨gv + 1, 2, none⟩ = some (Value.int IntKind.i64 by_.e) ∧ w'.cell? ⟨g0, 0, none⟩ = some (Value.bool nb0.neg) ∧ w'.cell? ⟨g0, 1, none⟩ = some (Value.slice (some ⟨h0, 0, none⟩) nb0.ws.length nc0) ∧ w'.cell? ⟨g0, 2, none⟩ = some (Value.int IntKind.i64 nb0.e) ∧ w'.cell? ⟨g1, 0, none⟩ = some (Value.bool nb1.neg) ∧ w'.cell? ⟨g1, 1, none⟩ = some (Value.slice (some ⟨h1, 0, none⟩) nb1.ws.length nc1) ∧ w'.cell? ⟨g1, 2, none⟩ = some (Value.int IntKind.i64 nb1.e))) (by kernel_rfl) ?_
  (try change wpAnyH _ _ _ _ _ _ _ (World.drew _))
  have hS0 := HO.out _ (Below.drew D19.out)
  refine wpAnyH_takeM (i := 0) (v := ?v17_0x2) (l' := bm 21 1) (a' := ?a17_0x2) rfl (by kernel_rfl) (by kernel_rfl) (by kernel_rfl) (fun _ _ _ h => h) (Or.inl ⟨by kernel_rfl, ?h17_0x2⟩) (by kernel_rfl) ?p17_0x2 hS0 ?r17_0x2
  case h17_0x2 => (intro w hS; go_simp; try with_reducible rfl)
  case p17_0x2 => (go_simp; try with_reducible rfl)
  refine wpAnyH_oneM (i := 1) (l' := bm 21 3) rfl (by kernel_rfl) (by kernel_rfl) (by kernel_rfl) (fun K hK => ?_)
  have hP := hS0.1
  go_simp
  go_at_call 20
  refine (N2.out _).mono ?_
  rintro r w20 ⟨rfl, hb⟩
  dsimp only
  have D20 := Lib.hid (below_step hP hb)
  clear hb
  have hS1 := HO.out _ (D20.out)
  clear hP hS0
  refine hK _ _ hS1 ?_
  clear hK K
  refine wpAnyH_takeM (i := 2) (v := ?v17_2x2) (l' := bm 21 7) (a' := ?a17_2x2) rfl (by kernel_rfl) (by kernel_rfl) (by kernel_rfl) (fun _ _ _ h => h) (Or.inl ⟨by kernel_rfl, ?h17_2x2⟩) (by kernel_rfl) ?p17_2x2 hS1 ?r17_2x2
  case h17_2x2 => (intro w hS; go_simp; try with_reducible rfl)
  case p17_2x2 => (go_simp; try with_reducible rfl)
  refine wpAnyH_takeM (i := 3) (v := ?v17_3x2) (l' := bm 21 15) (a' := ?a17_3x2) rfl (by kernel_rfl) (by kernel_rfl) (by kernel_rfl) (fun _ _ _ h => h) (Or.inl ⟨by kernel_rfl, ?h17_3x2⟩) (by kernel_rfl) ?p17_3x2 hS1 ?r17_3x2
  case h17_3x2 => (intro w hS; go_simp; try with_reducible rfl)
  case p17_3x2 => (go_simp; try with_reducible rfl)
  refine wpAnyH_takeM (i := 4) (v := ?v17_4x2) (l' := bm 21 31) (a' := ?a17_4x2) rfl (by kernel_rfl) (by kernel_rfl) (by kernel_rfl) (fun _ _ _ h => h) (Or.inl ⟨by kernel_rfl, ?h17_4x2⟩) (by kernel_rfl) ?p17_4x2 hS1 ?r17_4x2
  case h17_4x2 => (intro w hS; go_simp; try with_reducible rfl)
  case p17_4x2 => (go_simp; try with_reducible rfl)
  refine wpAnyH_oneM (i := 5) (l' := bm 21 63) rfl (by kernel_rfl) (by kernel_rfl) (by kernel_rfl) (fun K hK => ?_)
  have hP := hS1.1
  go_simp
  go_at_call 20
  refine (N3.out _).mono ?_
  rintro r w21 ⟨rfl, hb⟩
  dsimp only
  have D21 := Lib.hid (below_step hP hb)
  clear hb
  have hS2 := HO.out _ (D21.out)
  clear hP hS1
  refine hK _ _ hS2 ?_
  clear hK K
  refine wpAnyH_takeM (i := 6) (v := ?v17_6x2) (l' := bm 21 127) (a' := ?a17_6x2) rfl (by kernel_rfl) (by kernel_rfl) (by kernel_rfl) (fun _ _ _ h => h) (Or.inl ⟨by kernel_rfl, ?h17_6x2⟩) (by kernel_rfl) ?p17_6x2 hS2 ?r17_6x2
  case h17_6x2 => (intro w hS; go_simp; try with_reducible rfl)
  case p17_6x2 => (go_simp; try with_reducible rfl)
  refine wpAnyH_takeM (i := 7) (v := ?v17_7x2) (l' := bm 21 255) (a' := ?a17_7x2) rfl (by kernel_rfl) (by kernel_rfl) (by kernel_rfl) (fun _ _ _ h => h) (Or.inl ⟨by kernel_rfl, ?h17_7x2⟩) (by kernel_rfl) ?p17_7x2 hS2 ?r17_7x2
  case h17_7x2 => (intro w hS; go_simp; try with_reducible rfl)
  case p17_7x2 => (go_simp; try with_reducible rfl)
  refine wpAnyH_takeM (i := 8) (v := ?v17_8x2) (l' := bm 21 511) (a' := ?a17_8x2) rfl (by kernel_rfl) (by kernel_rfl) (by kernel_rfl) (fun _ _ _ h => h) (Or.inl ⟨by kernel_rfl, ?h17_8x2⟩) (by kernel_rfl) ?p17_8x2 hS2 ?r17_8x2
  case h17_8x2 => (intro w hS; go_simp; try with_reducible rfl)
  case p17_8x2 => (go_simp; try with_reducible rfl)
  refine wpAnyH_takeM (i := 9) (v := ?v17_9x2) (l' := bm 21 1023) (a' := ?a17_9x2) rfl (by kernel_rfl) (by kernel_rfl) (by kernel_rfl) (fun _ _ _ h => h) (Or.inl ⟨by kernel_rfl, ?h17_9x2⟩) (by kernel_rfl) ?p17_9x2 hS2 ?r17_9x2
  case h17_9x2 => (intro w hS; go_simp; try with_reducible rfl)
  case p17_9x2 => (go_simp; try with_reducible rfl)
  refine wpAnyH_takeM (i := 10) (v := ?v17_10x2) (l' := bm 21 2047) (a' := ?a17_10x2) rfl (by kernel_rfl) (by kernel_rfl) (by kernel_rfl) (fun _ _ _ h => h) (Or.inl ⟨by kernel_rfl, ?h17_10x2⟩) (by kernel_rfl) ?p17_10x2 hS2 ?r17_10x2
  case h17_10x2 => (intro w hS; go_simp; try with_reducible rfl)
  case p17_10x2 => (go_simp; try with_reducible rfl)
  refine wpAnyH_takeM (i := 11) (v := ?v17_11x2) (l' := bm 21 4095) (a' := ?a17_11x2) rfl (by kernel_rfl) (by kernel_rfl) (by kernel_rfl) (fun _ _ _ h => h) (Or.inl ⟨by kernel_rfl, ?h17_11x2⟩) (by kernel_rfl) ?p17_11x2 hS2 ?r17_11x2
  case h17_11x2 => (intro w hS; go_simp; try with_reducible rfl)
  case p17_11x2 => (go_simp; try with_reducible rfl)
  refine wpAnyH_takeM (i := 12) (v := ?v17_12x2) (l' := bm 21 8191) (a' := ?a17_12x2) rfl (by kernel_rfl) (by kernel_rfl) (by kernel_rfl) (fun _ _ _ h => h) (Or.inl ⟨by kernel_rfl, ?h17_12x2⟩) (by kernel_rfl) ?p17_12x2 hS2 ?r17_12x2
  case h17_12x2 => (intro w hS; go_simp; try with_reducible rfl)
  case p17_12x2 => (go_simp; try with_reducible rfl)
  refine wpAnyH_takeM (i := 13) (v := ?v17_13x2) (l' := bm 21 16383) (a' := ?a17_13x2) rfl (by kernel_rfl) (by kernel_rfl) (by kernel_rfl) (fun _ _ _ h => h) (Or.inl ⟨by kernel_rfl, ?h17_13x2⟩) (by kernel_rfl) ?p17_13x2 hS2 ?r17_13x2
  case h17_13x2 => (intro w hS; go_simp; try with_reducible rfl)
  case p17_13x2 => (go_simp; try with_reducible rfl)
  refine wpAnyH_oneM (i := 14) (l' := bm 21 32767) rfl (by kernel_rfl) (by kernel_rfl) (by kernel_rfl) (fun K hK => ?_)
  have hP := hS2.1
  go_simp
  go_at_call 22
  refine (OM.out _).mono ?_
  rintro r w22 ⟨s3_, h3_, c3_, rfl, hr3, hp3, hb⟩
  dsimp only
  have D22 := Lib.hid (below_step hP hb)
  clear hb
  have hS3 := HO.out _ (D22.out)
  clear hP hS2
  refine hK _ _ hS3 ?_
  clear hK K
  refine wpAnyH_oneM (i := 15) (l' := bm 21 65535) rfl (by kernel_rfl) (by kernel_rfl) (by kernel_rfl) (fun K hK => ?_)
  have hP := hS3.1
  go_simp
  go_at_call 33
  refine (sub_rp (HRn1.out _ hP) hr3 nc1 c3_ HPn1.out (Rp.wide (L' := 2) hp3 (Nat.le_refl _) (by decide) (by decide)) (by decide) (by decide) (by decide) (by decide)).mono ?_
  rintro r w23 ⟨s4_, h4_, c4_, rfl, hr4, hp4, hb⟩
  dsimp only
  have D23 := Lib.hid (below_step hP hb)
  clear hb
  have hS4 := HO.out _ (D23.out)
  clear hP hS3
  refine hK _ _ hS4 ?_
  clear hK K
  refine wpAnyH_oneM (i := 16) (l' := bm 21 131071) rfl (by kernel_rfl) (by kernel_rfl) (by kernel_rfl) (fun K hK => ?_)
  have hP := hS4.1
  go_simp
  go_at_call 32
  refine (sgn_q hr4 c4_ hp4 (by decide) qm_ HQ2.out).mono ?_
  rintro r w24 ⟨n2, rfl, hn2, hn2', hb⟩
  dsimp only
  have D24 := Lib.hid (below_step hP hb)
  clear hb
  have hS5 := HO.out _ (D24.out)
  clear hP hS4
  refine hK _ _ hS5 ?_
  clear hK K
  refine wpAnyH_takeM (i := 17) (v := ?v17_17x2) (l' := bm 21 262143) (a' := ?a17_17x2) rfl (by kernel_rfl) (by kernel_rfl) (by kernel_rfl) (fun _ _ _ h => h) (Or.inl ⟨by kernel_rfl, ?h17_17x2⟩) (by kernel_rfl) ?p17_17x2 hS5 ?r17_17x2
  case h17_17x2 => (intro w hS; go_simp; try with_reducible rfl)
  case p17_17x2 => (go_simp; try with_reducible rfl)
  refine wpAnyH_takeM (i := 18) (v := ?v17_18x2) (l' := bm 21 524287) (a' := ?a17_18x2) rfl (by kernel_rfl) (by kernel_rfl) (by kernel_rfl) (fun _ _ _ h => h) (Or.inl ⟨by kernel_rfl, ?h17_18x2⟩) (by kernel_rfl) ?p17_18x2 hS5 ?r17_18x2
  case h17_18x2 => (intro w hS; go_simp; try with_reducible rfl)
  case p17_18x2 => (go_simp; try with_reducible rfl)
  refine wpAnyH_takeM (i := 19) (v := ?v17_19x2) (l' := bm 21 1048575) (a' := ?a17_19x2) rfl (by kernel_rfl) (by kernel_rfl) (by kernel_rfl) (fun _ _ _ h => h) (Or.inl ⟨by kernel_rfl, ?h17_19x2⟩) (by kernel_rfl) ?p17_19x2 hS5 ?r17_19x2
  case h17_19x2 => (intro w hS; go_simp; try with_reducible rfl)
  case p17_19x2 => (go_simp; try with_reducible rfl)
  refine wpAnyH_takeM (i := 20) (v := ?v17_20x2) (l' := bm 21 2097151) (a' := ?a17_20x2) rfl (by kernel_rfl) (by kernel_rfl) (by kernel_rfl) (fun _ _ _ h => h) (Or.inl ⟨by kernel_rfl, ?h17_20x2⟩) (by kernel_rfl) ?p17_20x2 hS5 ?r17_20x2
  case h17_20x2 => (intro w hS; go_simp; try with_reducible rfl)
  case p17_20x2 => (go_simp; try with_reducible rfl)
  refine wpAnyH_done (by kernel_rfl) ?_ _
  clear hS5
  have hq := (HO.out _ D24.out).2
  go_wp2_with fail
  go_ret
  exact ⟨rfl, below_step HB.out D24.out⟩
set_option maxRecDepth 100000 in
set_option maxHeartbeats 8000000 in
theorem real_na (a b : Nat) (ha : a < 18446744073709551616) (hb : b < 18446744073709551616) (fa : fin a = true) (fb : fin b = true) (c1 : fin (addR a b true).1 = false) (c2 : fin (mulR a b true).1 = false) (w : World) : Calls Try.prog 8 #[.float .f64 a, .float .f64 b] w fun r w' => r = .returned (.bool true) ∧ Below w.heap.size w w' := by
  have H0 := Lib.hid awake
  have H1 := Lib.hid (fun w => num_b a ha w)
  have H2 := Lib.hid (fun w => num_b b hb w)
  rw [fa] at H1
  rw [fb] at H2
  have OX := Lib.hid (fun w => of_rp ha fa w)
  have OY := Lib.hid (fun w => of_rp hb fb w)
  have d1 := add_dn fa fb
  have d2 := add_up fa fb
  have e1 := mul_dn fa fb
  have e2 := mul_up fa fb
  have R1 := Lib.hid (fun w => add_any a b true ha hb w)
  have R2 := Lib.hid (fun w => add_any a b false ha hb w)
  have R3 := Lib.hid (fun w => mul_any a b true ha hb w)
  have R4 := Lib.hid (fun w => mul_any a b false ha hb w)
  rw [addR_fin fa fb true] at R1
  rw [addR_fin fa fb false] at R2
  rw [mulR_fin fa fb true] at R3
  rw [mulR_fin fa fb false] at R4
  simp only [pV, numV] at R1 R2 R3 R4
  generalize (addR a b true).1 = lo at *
  generalize (addR a b false).1 = hi at *
  generalize (mulR a b true).1 = lo2 at *
  generalize (mulR a b false).1 = hi2 at *
  have N1 := Lib.hid (fun w => num_b lo d1.gd.lt w)
  have N2 := Lib.hid (fun w => num_b lo2 e1.gd.lt w)
  rw [c1] at N1
  rw [c2] at N2
  have CL1 := Lib.hid (fun w => close_any d1.gd d2.gd (nbr_rd d1 d2) w)
  have CL2 := Lib.hid (fun w => close_any e1.gd e2.gd (nbr_rd e1 e2) w)
  have DD1 := Lib.hid d1
  have DD2 := Lib.hid d2
  have EE1 := Lib.hid e1
  have EE2 := Lib.hid e2
  clear d1 d2 e1 e2 c1 c2 fa fb ha hb
  generalize fv a = xa at *
  generalize fv b = xb at *
  go_enter Try.func8, Try.ntmps8
  go_wp2_with fail
  obtain ⟨W, hW⟩ : ∃ W, W = w := ⟨_, rfl⟩
  rw [← hW]
  have HB := Lib.hid (hW ▸ Below.refl w.heap.size w : Below w.heap.size w W)
  clear hW
  have HO := Lib.hid (show ∀ w', Below W.heap.size W w' → (Below W.heap.size W w') from fun w' h => h)
  have D0 := Lib.hid (Below.refl W.heap.size W)
  refine (H0.out _).mono ?_
  rintro r w1 ⟨rfl, hb⟩
  have D1 := Lib.hid (below_step D0.out hb)
  clear hb
  go_wp2_with fail
  refine (H1.out _).mono ?_
  rintro r w2 ⟨rfl, hb⟩
  have D2 := Lib.hid (below_step D1.out hb)
  clear hb
  go_wp2_with fail
  refine (H2.out _).mono ?_
  rintro r w3 ⟨rfl, hb⟩
  have D3 := Lib.hid (below_step D2.out hb)
  clear hb
  go_wp2_with fail
  refine (OX.out _).mono ?_
  rintro r w4 ⟨bx, gx, cx, rfl, hrx, hpx, hb⟩
  have D4 := Lib.hid (below_step D3.out hb)
  clear hb
  have HRbx := Lib.hid hrx
  have HPbx := Lib.hid hpx
  clear hrx hpx
  go_wp2_with fail
  refine (OY.out _).mono ?_
  rintro r w5 ⟨by_, gy, cy, rfl, hrx, hpx, hb⟩
  have D5 := Lib.hid (below_step D4.out hb)
  have HRbx := Lib.hid (HRbx.out.below' hb)
  clear hb
  have HRby_ := Lib.hid hrx
  have HPby_ := Lib.hid hpx
  clear hrx hpx
  go_wp2_with fail
  obtain ⟨V, hV, KN0, KN1, hBV, hz⟩ := by2 w5 35 35 #[Value.bool bx.neg, Value.slice (some ⟨gx, 0, none⟩) bx.ws.length cx, Value.int IntKind.i64 bx.e] #[Value.bool by_.neg, Value.slice (some ⟨gy, 0, none⟩) by_.ws.length cy, Value.int IntKind.i64 by_.e]
  rw [← hV]
  have HLTbx := Lib.hid HRbx.out.lt
  have HRbx := Lib.hid (HRbx.out.below' hBV)
  have HLTby_ := Lib.hid HRby_.out.lt
  have HRby_ := Lib.hid (HRby_.out.below' hBV)
  have HB' := Lib.hid (below_step (below_step HB.out D5.out) hBV)
  obtain ⟨gv, hgv⟩ : ∃ g, w5.heap.size = g := ⟨_, rfl⟩
  have hwg : w.heap.size ≤ gv := by rw [← hgv]; exact (below_step HB.out D5.out).size
  have lt_bx : gx < gv := by rw [← hgv]; exact HLTbx.out
  have lt_by_ : gy < gv := by rw [← hgv]; exact HLTby_.out
  rw [hgv] at KN0 KN1
  rw [hgv]
  have K0 := Lib.hid KN0
  have K1 := Lib.hid KN1
  clear HB HO KN0 KN1 hV hBV hz hgv
  have HB := HB'
  clear HB'
  have HO := Lib.hid (show ∀ w', Below V.heap.size V w' → (Below V.heap.size V w' ∧ w'.cell? ⟨gv, 0, none⟩ = some (Value.bool bx.neg) ∧ w'.cell? ⟨gv, 1, none⟩ = some (Value.slice (some ⟨gx, 0, none⟩) bx.ws.length cx) ∧ w'.cell? ⟨gv, 2, none⟩ = some (Value.int IntKind.i64 bx.e) ∧ w'.cell? ⟨gv + 1, 0, none⟩ = some (Value.bool by_.neg) ∧ w'.cell? ⟨gv + 1, 1, none⟩ = some (Value.slice (some ⟨gy, 0, none⟩) by_.ws.length cy) ∧ w'.cell? ⟨gv + 1, 2, none⟩ = some (Value.int IntKind.i64 by_.e)) from fun w' h => ⟨h, (K0.out.below h K0.out.lt).cell 0, (K0.out.below h K0.out.lt).cell 1, (K0.out.below h K0.out.lt).cell 2, (K1.out.below h K1.out.lt).cell 0, (K1.out.below h K1.out.lt).cell 1, (K1.out.below h K1.out.lt).cell 2⟩)
  have D6 := Lib.hid (Below.refl V.heap.size V)
  have hq := (HO.out _ D6.out).2
  have HRbx := Lib.hid (fun w' (b : Below V.heap.size V w') => HRbx.out.below' b)
  have HRby_ := Lib.hid (fun w' (b : Below V.heap.size V w') => HRby_.out.below' b)
  clear hq
  refine wp_region_held (S := (fun w' => Below V.heap.size V w' ∧ w'.cell? ⟨gv, 0, none⟩ = some (Value.bool bx.neg) ∧ w'.cell? ⟨gv, 1, none⟩ = some (Value.slice (some ⟨gx, 0, none⟩) bx.ws.length cx) ∧ w'.cell? ⟨gv, 2, none⟩ = some (Value.int IntKind.i64 bx.e) ∧ w'.cell? ⟨gv + 1, 0, none⟩ = some (Value.bool by_.neg) ∧ w'.cell? ⟨gv + 1, 1, none⟩ = some (Value.slice (some ⟨gy, 0, none⟩) by_.ws.length cy) ∧ w'.cell? ⟨gv + 1, 2, none⟩ = some (Value.int IntKind.i64 by_.e))) (by kernel_rfl) ?_
  change wpAnyH _ _ _ _ _ _ _ _ (World.drew _)
  obtain ⟨wd, hwd⟩ : ∃ x, x = World.drew V := ⟨_, rfl⟩
  rw [← hwd]
  have DD := Lib.hid (hwd ▸ Below.drew D6.out : Below V.heap.size V wd)
  clear hwd
  have hS0 := HO.out _ DD.out
  refine wpAnyH_takeM (i := 0) (v := ?vs6_0) (l' := bm 10 1) (a' := ?as6_0) rfl (by kernel_rfl) (by kernel_rfl) (by kernel_rfl) (fun _ _ _ h => h) (Or.inl ⟨by kernel_rfl, ?hs6_0⟩) (by kernel_rfl) ?ps6_0 hS0 ?rs6_0
  case hs6_0 => (intro w hS; go_simp; try with_reducible rfl)
  case ps6_0 => (go_simp; try with_reducible rfl)
  refine wpAnyH_takeM (i := 1) (v := ?vs6_1) (l' := bm 10 3) (a' := ?as6_1) rfl (by kernel_rfl) (by kernel_rfl) (by kernel_rfl) (fun _ _ _ h => h) (Or.inl ⟨by kernel_rfl, ?hs6_1⟩) (by kernel_rfl) ?ps6_1 hS0 ?rs6_1
  case hs6_1 => (intro w hS; go_simp; try with_reducible rfl)
  case ps6_1 => (go_simp; try with_reducible rfl)
  refine wpAnyH_takeM (i := 3) (v := ?vs6_3) (l' := bm 10 11) (a' := ?as6_3) rfl (by kernel_rfl) (by kernel_rfl) (by kernel_rfl) (fun _ _ _ h => h) (Or.inl ⟨by kernel_rfl, ?hs6_3⟩) (by kernel_rfl) ?ps6_3 hS0 ?rs6_3
  case hs6_3 => (intro w hS; go_simp; try with_reducible rfl)
  case ps6_3 => (go_simp; try with_reducible rfl)
  refine wpAnyH_takeM (i := 4) (v := ?vs6_4) (l' := bm 10 27) (a' := ?as6_4) rfl (by kernel_rfl) (by kernel_rfl) (by kernel_rfl) (fun _ _ _ h => h) (Or.inl ⟨by kernel_rfl, ?hs6_4⟩) (by kernel_rfl) ?ps6_4 hS0 ?rs6_4
  case hs6_4 => (intro w hS; go_simp; try with_reducible rfl)
  case ps6_4 => (go_simp; try with_reducible rfl)
  refine wpAnyH_sets (N := 10) (stop := 255) (F := 2) (m := 27) (R := [2, 5, 6, 7]) (M := [27, 91, 155, 219, 31, 95, 159, 223, 63, 127, 191, 255]) (fun a0 m a w9 => ∃ (v0 v1 p0 p1 : Value) (g0 g1 h0 h1 : Nat), a = ((((a0.put (some 29) v0).put (some 32) v1).put (some 7) p0).put (some 8) p1) ∧ Below V.heap.size V w9 ∧ (m.testBit 2 = true → BigG w9 v0 h0 (xa + xb) (2 * (((971 : Int) - -1074).toNat / 32) + 2 + 2 + 2) (-1074) (971)) ∧ (m.testBit 5 = true → BigG w9 v1 h1 (xa * xb) (2 + 2 + 1) (-1074 + -1074) (971 + 971)) ∧ (m.testBit 6 = true → p0 = .pointer (some ⟨g0, 0, none⟩) ∧ Blk w9 g0 35 #[Value.bool false, Value.slice none 0 0, Value.int IntKind.i64 0] ∧ V.heap.size ≤ g0) ∧ (m.testBit 7 = true → p1 = .pointer (some ⟨g1, 0, none⟩) ∧ Blk w9 g1 35 #[Value.bool false, Value.slice none 0 0, Value.int IntKind.i64 0] ∧ V.heap.size ≤ g1) ∧ (m.testBit 6 = true → m.testBit 7 = true → g0 ≠ g1) ∧ (m.testBit 2 = true → m.testBit 6 = true → h0 ≠ g0) ∧ (m.testBit 2 = true → m.testBit 7 = true → h0 ≠ g1) ∧ (m.testBit 5 = true → m.testBit 6 = true → h1 ≠ g0) ∧ (m.testBit 5 = true → m.testBit 7 = true → h1 ≠ g1)) (by kernel_rfl) (by kernel_rfl) (by kernel_rfl) ?st6 ?sp6 ?re6
  case st6 =>
    exact ⟨undef, undef, undef, undef, 0, 0, 0, 0, by go_simp, DD.out, fun h => absurd h (by decide), fun h => absurd h (by decide), fun h => absurd h (by decide), fun h => absurd h (by decide), fun h => absurd h (by decide), fun h => absurd h (by decide), fun h => absurd h (by decide), fun h => absurd h (by decide), fun h => absurd h (by decide)⟩
  case sp6 =>
    intro m a' w9 i hi hm hJ
    obtain ⟨v0, v1, p0, p1, g0, g1, h0, h1, rfl, hb0, c0, c1, q0, q1, d0_1, b0_0, b0_1, b1_0, b1_1⟩ := hJ
    have C0 := Lib.hid c0
    have C1 := Lib.hid c1
    have Q0 := Lib.hid q0
    have Q1 := Lib.hid q1
    have D0_1 := Lib.hid d0_1
    have B0_0 := Lib.hid b0_0
    have B0_1 := Lib.hid b0_1
    have B1_0 := Lib.hid b1_0
    have B1_1 := Lib.hid b1_1
    have HB0 := Lib.hid hb0
    have hS9 := HO.out _ hb0
    clear c0 c1 q0 q1 d0_1 b0_0 b0_1 b1_0 b1_1 hb0 hm hS0
    simp only [List.mem_cons, List.not_mem_nil, or_false] at hi
    rcases hi with rfl | rfl | rfl | rfl
    · refine wpOp_at rfl (by kernel_rfl) (fun K hK => ?_)
      go_simp
      go_at_call 30
      refine (add_rq (HRbx.out _ HB0.out) (HRby_.out _ HB0.out) cx cy HPbx.out HPby_.out (by decide) (by decide) (by decide) (by decide)).mono ?_
      rintro r w10 ⟨vn, hn, rfl, kn, ln, hb⟩
      dsimp only
      have hb1 := below_step HB0.out hb
      exact hK _ _ ⟨HO.out _ hb1, vn, v1, p0, p1, g0, g1, hn, h1, by go_simp, hb1, fun _ => kn, fun h => (C1.out (by rwa [tb_ne (by decide)] at h)).below hb, fun h => ⟨(Q0.out (by rwa [tb_ne (by decide)] at h)).1, (Q0.out (by rwa [tb_ne (by decide)] at h)).2.1.below hb (Q0.out (by rwa [tb_ne (by decide)] at h)).2.1.lt, (Q0.out (by rwa [tb_ne (by decide)] at h)).2.2⟩, fun h => ⟨(Q1.out (by rwa [tb_ne (by decide)] at h)).1, (Q1.out (by rwa [tb_ne (by decide)] at h)).2.1.below hb (Q1.out (by rwa [tb_ne (by decide)] at h)).2.1.lt, (Q1.out (by rwa [tb_ne (by decide)] at h)).2.2⟩, fun h h' => D0_1.out (by rwa [tb_ne (by decide)] at h) (by rwa [tb_ne (by decide)] at h'), fun h h' => Nat.ne_of_gt (Nat.lt_of_lt_of_le (Q0.out (by rwa [tb_ne (by decide)] at h')).2.1.lt ln), fun h h' => Nat.ne_of_gt (Nat.lt_of_lt_of_le (Q1.out (by rwa [tb_ne (by decide)] at h')).2.1.lt ln), fun h h' => B1_0.out (by rwa [tb_ne (by decide)] at h) (by rwa [tb_ne (by decide)] at h'), fun h h' => B1_1.out (by rwa [tb_ne (by decide)] at h) (by rwa [tb_ne (by decide)] at h')⟩
    · refine wpOp_at rfl (by kernel_rfl) (fun K hK => ?_)
      go_simp
      go_at_call 25
      refine (mul_rq (HRbx.out _ HB0.out) (HRby_.out _ HB0.out) cx cy HPbx.out HPby_.out (by decide) (by decide) (by decide) (by decide) (by decide) (by decide)).mono ?_
      rintro r w10 ⟨vn, hn, rfl, kn, ln, hb⟩
      dsimp only
      have hb1 := below_step HB0.out hb
      exact hK _ _ ⟨HO.out _ hb1, v0, vn, p0, p1, g0, g1, h0, hn, by go_simp, hb1, fun h => (C0.out (by rwa [tb_ne (by decide)] at h)).below hb, fun _ => kn, fun h => ⟨(Q0.out (by rwa [tb_ne (by decide)] at h)).1, (Q0.out (by rwa [tb_ne (by decide)] at h)).2.1.below hb (Q0.out (by rwa [tb_ne (by decide)] at h)).2.1.lt, (Q0.out (by rwa [tb_ne (by decide)] at h)).2.2⟩, fun h => ⟨(Q1.out (by rwa [tb_ne (by decide)] at h)).1, (Q1.out (by rwa [tb_ne (by decide)] at h)).2.1.below hb (Q1.out (by rwa [tb_ne (by decide)] at h)).2.1.lt, (Q1.out (by rwa [tb_ne (by decide)] at h)).2.2⟩, fun h h' => D0_1.out (by rwa [tb_ne (by decide)] at h) (by rwa [tb_ne (by decide)] at h'), fun h h' => B0_0.out (by rwa [tb_ne (by decide)] at h) (by rwa [tb_ne (by decide)] at h'), fun h h' => B0_1.out (by rwa [tb_ne (by decide)] at h) (by rwa [tb_ne (by decide)] at h'), fun h h' => Nat.ne_of_gt (Nat.lt_of_lt_of_le (Q0.out (by rwa [tb_ne (by decide)] at h')).2.1.lt ln), fun h h' => Nat.ne_of_gt (Nat.lt_of_lt_of_le (Q1.out (by rwa [tb_ne (by decide)] at h')).2.1.lt ln)⟩
    · refine wpOp_at rfl (by kernel_rfl) (fun K hK => ?_)
      go_simp
      have hb1 := below_more HB0.out (.cells #[Value.bool false, Value.slice none 0 0, Value.int IntKind.i64 0] 35)
      exact hK _ _ ⟨HO.out _ hb1, v0, v1, .pointer (some ⟨w9.heap.size, 0, none⟩), p1, w9.heap.size, g1, h0, h1, by go_simp, hb1, fun h => (C0.out (by rwa [tb_ne (by decide)] at h)).below (below_new _ _), fun h => (C1.out (by rwa [tb_ne (by decide)] at h)).below (below_new _ _), fun _ => ⟨rfl, Blk.new_at _ _ _ rfl, HB0.out.size⟩, fun h => ⟨(Q1.out (by rwa [tb_ne (by decide)] at h)).1, (Q1.out (by rwa [tb_ne (by decide)] at h)).2.1.alloc _, (Q1.out (by rwa [tb_ne (by decide)] at h)).2.2⟩, fun h h' => Nat.ne_of_gt (Q1.out (by rwa [tb_ne (by decide)] at h')).2.1.lt, fun h h' => Nat.ne_of_lt (C0.out (by rwa [tb_ne (by decide)] at h)).lt, fun h h' => B0_1.out (by rwa [tb_ne (by decide)] at h) (by rwa [tb_ne (by decide)] at h'), fun h h' => Nat.ne_of_lt (C1.out (by rwa [tb_ne (by decide)] at h)).lt, fun h h' => B1_1.out (by rwa [tb_ne (by decide)] at h) (by rwa [tb_ne (by decide)] at h')⟩
    · refine wpOp_at rfl (by kernel_rfl) (fun K hK => ?_)
      go_simp
      have hb1 := below_more HB0.out (.cells #[Value.bool false, Value.slice none 0 0, Value.int IntKind.i64 0] 35)
      exact hK _ _ ⟨HO.out _ hb1, v0, v1, p0, .pointer (some ⟨w9.heap.size, 0, none⟩), g0, w9.heap.size, h0, h1, by go_simp, hb1, fun h => (C0.out (by rwa [tb_ne (by decide)] at h)).below (below_new _ _), fun h => (C1.out (by rwa [tb_ne (by decide)] at h)).below (below_new _ _), fun h => ⟨(Q0.out (by rwa [tb_ne (by decide)] at h)).1, (Q0.out (by rwa [tb_ne (by decide)] at h)).2.1.alloc _, (Q0.out (by rwa [tb_ne (by decide)] at h)).2.2⟩, fun _ => ⟨rfl, Blk.new_at _ _ _ rfl, HB0.out.size⟩, fun h h' => Nat.ne_of_lt (Q0.out (by rwa [tb_ne (by decide)] at h)).2.1.lt, fun h h' => B0_0.out (by rwa [tb_ne (by decide)] at h) (by rwa [tb_ne (by decide)] at h'), fun h h' => Nat.ne_of_lt (C0.out (by rwa [tb_ne (by decide)] at h)).lt, fun h h' => B1_0.out (by rwa [tb_ne (by decide)] at h) (by rwa [tb_ne (by decide)] at h'), fun h h' => Nat.ne_of_lt (C1.out (by rwa [tb_ne (by decide)] at h)).lt⟩
  intro a' w9 hJ
  obtain ⟨v0, v1, p0, p1, g0, g1, h0, h1, rfl, hb0, c0, c1, q0, q1, d0_1, b0_0, b0_1, b1_0, b1_1⟩ := hJ
  obtain ⟨nb0, nc0, rfl, hrn0, hpn0⟩ := c0 (by decide)
  have HRn0 := Lib.hid hrn0
  have HPn0 := Lib.hid hpn0
  clear hrn0 hpn0
  obtain ⟨nb1, nc1, rfl, hrn1, hpn1⟩ := c1 (by decide)
  have HRn1 := Lib.hid hrn1
  have HPn1 := Lib.hid hpn1
  clear hrn1 hpn1
  have e50_0 := b0_0 (by decide) (by decide)
  clear b0_0
  have e50_1 := b0_1 (by decide) (by decide)
  clear b0_1
  have e51_0 := b1_0 (by decide) (by decide)
  clear b1_0
  have e51_1 := b1_1 (by decide) (by decide)
  clear b1_1
  obtain ⟨rfl, k0, l0⟩ := q0 (by decide)
  obtain ⟨rfl, k1, l1⟩ := q1 (by decide)
  have e0_1 := d0_1 (by decide) (by decide)
  clear d0_1
  have DB := Lib.hid hb0
  clear hb0 hS0
  have KK0 := Lib.hid k0
  clear k0
  have KK1 := Lib.hid k1
  clear k1
  refine wpAnyH_frame (a' := ?fr6) ?fe6 ?fg6
  case fe6 => (go_simp; try with_reducible rfl)
  have hS0 := HO.out _ DB.out
  refine wpAnyH_oneM (i := 8) (l' := bm 10 511) rfl (by kernel_rfl) (by kernel_rfl) (by kernel_rfl) (fun K hK => ?_)
  have f0 := KK0.out.cell 0
  have u0 := KK0.out.frz 0
  have f1 := KK0.out.cell 1
  have u1 := KK0.out.frz 1
  have f2 := KK0.out.cell 2
  have u2 := KK0.out.frz 2
  obtain ⟨ws0, hv⟩ : ∃ V, (((w9.setCell ⟨g0, 0, none⟩ (Value.bool nb0.neg)).setCell ⟨g0, 1, none⟩ (Value.slice (some ⟨h0, 0, none⟩) nb0.ws.length nc0)).setCell ⟨g0, 2, none⟩ (Value.int IntKind.i64 nb0.e)) = V := ⟨_, rfl⟩
  have DB' := Lib.hid (hv ▸ Below.setCell (Below.setCell (Below.setCell (DB.out) l0 _) l0 _) l0 _ : Below V.heap.size V ws0)
  have KK0' := Lib.hid (hv ▸ (Blk.set_ (Blk.set_ (Blk.set_ (KK0.out) 0 _) 1 _) 2 _) : Blk ws0 g0 35 #[Value.bool nb0.neg, Value.slice (some ⟨h0, 0, none⟩) nb0.ws.length nc0, Value.int IntKind.i64 nb0.e])
  have KK1' := Lib.hid (hv ▸ (Blk.off (Blk.off (Blk.off (KK1.out) ⟨g0, 0, none⟩ _ (by show g1 ≠ g0; omega)) ⟨g0, 1, none⟩ _ (by show g1 ≠ g0; omega)) ⟨g0, 2, none⟩ _ (by show g1 ≠ g0; omega)) : Blk ws0 g1 35 #[Value.bool false, Value.slice none 0 0, Value.int IntKind.i64 0])
  have HRn0 := Lib.hid (hv ▸ (RL.off (RL.off (RL.off (HRn0.out) ⟨g0, 0, none⟩ _ (by show h0 ≠ g0; exact e50_0)) ⟨g0, 1, none⟩ _ (by show h0 ≠ g0; exact e50_0)) ⟨g0, 2, none⟩ _ (by show h0 ≠ g0; exact e50_0)) : RL ws0 h0 nb0.ws)
  have HRn1 := Lib.hid (hv ▸ (RL.off (RL.off (RL.off (HRn1.out) ⟨g0, 0, none⟩ _ (by show h1 ≠ g0; exact e51_0)) ⟨g0, 1, none⟩ _ (by show h1 ≠ g0; exact e51_0)) ⟨g0, 2, none⟩ _ (by show h1 ≠ g0; exact e51_0)) : RL ws0 h1 nb1.ws)
  go_simp
  clear hv f0 u0 f1 u1 f2 u2
  have DB := DB'
  clear DB'
  have KK0 := KK0'
  clear KK0'
  have KK1 := KK1'
  clear KK1'
  have hS1 := HO.out _ DB.out
  refine hK _ _ hS1 ?_
  clear hK K hS0
  refine wpAnyH_oneM (i := 9) (l' := bm 10 1023) rfl (by kernel_rfl) (by kernel_rfl) (by kernel_rfl) (fun K hK => ?_)
  have f0 := KK1.out.cell 0
  have u0 := KK1.out.frz 0
  have f1 := KK1.out.cell 1
  have u1 := KK1.out.frz 1
  have f2 := KK1.out.cell 2
  have u2 := KK1.out.frz 2
  obtain ⟨ws1, hv⟩ : ∃ V, (((ws0.setCell ⟨g1, 0, none⟩ (Value.bool nb1.neg)).setCell ⟨g1, 1, none⟩ (Value.slice (some ⟨h1, 0, none⟩) nb1.ws.length nc1)).setCell ⟨g1, 2, none⟩ (Value.int IntKind.i64 nb1.e)) = V := ⟨_, rfl⟩
  have DB' := Lib.hid (hv ▸ Below.setCell (Below.setCell (Below.setCell (DB.out) l1 _) l1 _) l1 _ : Below V.heap.size V ws1)
  have KK0' := Lib.hid (hv ▸ (Blk.off (Blk.off (Blk.off (KK0.out) ⟨g1, 0, none⟩ _ (by show g0 ≠ g1; omega)) ⟨g1, 1, none⟩ _ (by show g0 ≠ g1; omega)) ⟨g1, 2, none⟩ _ (by show g0 ≠ g1; omega)) : Blk ws1 g0 35 #[Value.bool nb0.neg, Value.slice (some ⟨h0, 0, none⟩) nb0.ws.length nc0, Value.int IntKind.i64 nb0.e])
  have KK1' := Lib.hid (hv ▸ (Blk.set_ (Blk.set_ (Blk.set_ (KK1.out) 0 _) 1 _) 2 _) : Blk ws1 g1 35 #[Value.bool nb1.neg, Value.slice (some ⟨h1, 0, none⟩) nb1.ws.length nc1, Value.int IntKind.i64 nb1.e])
  have HRn0 := Lib.hid (hv ▸ (RL.off (RL.off (RL.off (HRn0.out) ⟨g1, 0, none⟩ _ (by show h0 ≠ g1; exact e50_1)) ⟨g1, 1, none⟩ _ (by show h0 ≠ g1; exact e50_1)) ⟨g1, 2, none⟩ _ (by show h0 ≠ g1; exact e50_1)) : RL ws1 h0 nb0.ws)
  have HRn1 := Lib.hid (hv ▸ (RL.off (RL.off (RL.off (HRn1.out) ⟨g1, 0, none⟩ _ (by show h1 ≠ g1; exact e51_1)) ⟨g1, 1, none⟩ _ (by show h1 ≠ g1; exact e51_1)) ⟨g1, 2, none⟩ _ (by show h1 ≠ g1; exact e51_1)) : RL ws1 h1 nb1.ws)
  go_simp
  clear hv f0 u0 f1 u1 f2 u2
  have DB := DB'
  clear DB'
  have KK0 := KK0'
  clear KK0'
  have KK1 := KK1'
  clear KK1'
  have hS2 := HO.out _ DB.out
  refine hK _ _ hS2 ?_
  clear hK K hS1
  refine wpAnyH_done (by kernel_rfl) ?_ _
  clear hS2
  have K0' := Lib.hid (K0.out.below DB.out K0.out.lt)
  clear K0
  have K1' := Lib.hid (K1.out.below DB.out K1.out.lt)
  clear K1
  have HB' := Lib.hid (below_step HB.out DB.out)
  clear HB HO D6
  have HB := HB'
  clear HB'
  have K0 := K0'
  clear K0'
  have K1 := K1'
  clear K1'
  have K2 := KK0
  clear KK0
  have K3 := KK1
  clear KK1
  have HO := Lib.hid (show ∀ w', Below ws1.heap.size ws1 w' → (Below ws1.heap.size ws1 w' ∧ w'.cell? ⟨gv, 0, none⟩ = some (Value.bool bx.neg) ∧ w'.cell? ⟨gv, 1, none⟩ = some (Value.slice (some ⟨gx, 0, none⟩) bx.ws.length cx) ∧ w'.cell? ⟨gv, 2, none⟩ = some (Value.int IntKind.i64 bx.e) ∧ w'.cell? ⟨gv + 1, 0, none⟩ = some (Value.bool by_.neg) ∧ w'.cell? ⟨gv + 1, 1, none⟩ = some (Value.slice (some ⟨gy, 0, none⟩) by_.ws.length cy) ∧ w'.cell? ⟨gv + 1, 2, none⟩ = some (Value.int IntKind.i64 by_.e) ∧ w'.cell? ⟨g0, 0, none⟩ = some (Value.bool nb0.neg) ∧ w'.cell? ⟨g0, 1, none⟩ = some (Value.slice (some ⟨h0, 0, none⟩) nb0.ws.length nc0) ∧ w'.cell? ⟨g0, 2, none⟩ = some (Value.int IntKind.i64 nb0.e) ∧ w'.cell? ⟨g1, 0, none⟩ = some (Value.bool nb1.neg) ∧ w'.cell? ⟨g1, 1, none⟩ = some (Value.slice (some ⟨h1, 0, none⟩) nb1.ws.length nc1) ∧ w'.cell? ⟨g1, 2, none⟩ = some (Value.int IntKind.i64 nb1.e)) from fun w' h => ⟨h, (K0.out.below h K0.out.lt).cell 0, (K0.out.below h K0.out.lt).cell 1, (K0.out.below h K0.out.lt).cell 2, (K1.out.below h K1.out.lt).cell 0, (K1.out.below h K1.out.lt).cell 1, (K1.out.below h K1.out.lt).cell 2, (K2.out.below h K2.out.lt).cell 0, (K2.out.below h K2.out.lt).cell 1, (K2.out.below h K2.out.lt).cell 2, (K3.out.below h K3.out.lt).cell 0, (K3.out.below h K3.out.lt).cell 1, (K3.out.below h K3.out.lt).cell 2⟩)
  have D7 := Lib.hid (Below.refl ws1.heap.size ws1)
  have hq := (HO.out _ D7.out).2
  have HRn0 := Lib.hid (fun w' (b : Below ws1.heap.size ws1 w') => HRn0.out.below' b)
  have HRn1 := Lib.hid (fun w' (b : Below ws1.heap.size ws1 w') => HRn1.out.below' b)
  clear hq
  go_wp2_with fail
  have hq := (HO.out _ D7.out).2
  refine (R1.out _).mono ?_
  clear hq
  rintro r w8 ⟨rfl, hb⟩
  have D8 := Lib.hid (below_step D7.out hb)
  clear hb
  have hq := (HO.out _ D8.out).2
  go_wp2_with fail
  refine (R2.out _).mono ?_
  clear hq
  rintro r w9 ⟨rfl, hb⟩
  have D9 := Lib.hid (below_step D8.out hb)
  clear hb
  have hq := (HO.out _ D9.out).2
  go_wp2_with fail
  refine (btw_rd (HRn0.out _ D9.out) nc0 HPn0.out (by decide) (by decide) (by decide) DD1.out DD2.out).mono ?_
  clear hq
  rintro r w10 ⟨rfl, hb⟩
  have D10 := Lib.hid (below_step D9.out hb)
  clear hb
  have hq := (HO.out _ D10.out).2
  go_wp2_with fail
  refine (CL1.out _).mono ?_
  clear hq
  rintro r w11 ⟨rfl, hb⟩
  have D11 := Lib.hid (below_step D10.out hb)
  clear hb
  have hq := (HO.out _ D11.out).2
  clear hq
  go_wp2_with fail
  go_wp2_with fail
  refine wp_region_held (S := (fun w' => Below ws1.heap.size ws1 w' ∧ w'.cell? ⟨gv, 0, none⟩ = some (Value.bool bx.neg) ∧ w'.cell? ⟨gv, 1, none⟩ = some (Value.slice (some ⟨gx, 0, none⟩) bx.ws.length cx) ∧ w'.cell? ⟨gv, 2, none⟩ = some (Value.int IntKind.i64 bx.e) ∧ w'.cell? ⟨gv + 1, 0, none⟩ = some (Value.bool by_.neg) ∧ w'.cell? ⟨gv + 1, 1, none⟩ = some (Value.slice (some ⟨gy, 0, none⟩) by_.ws.length cy) ∧ w'.cell? ⟨gv + 1, 2, none⟩ = some (Value.int IntKind.i64 by_.e) ∧ w'.cell? ⟨g0, 0, none⟩ = some (Value.bool nb0.neg) ∧ w'.cell? ⟨g0, 1, none⟩ = some (Value.slice (some ⟨h0, 0, none⟩) nb0.ws.length nc0) ∧ w'.cell? ⟨g0, 2, none⟩ = some (Value.int IntKind.i64 nb0.e) ∧ w'.cell? ⟨g1, 0, none⟩ = some (Value.bool nb1.neg) ∧ w'.cell? ⟨g1, 1, none⟩ = some (Value.slice (some ⟨h1, 0, none⟩) nb1.ws.length nc1) ∧ w'.cell? ⟨g1, 2, none⟩ = some (Value.int IntKind.i64 nb1.e))) (by kernel_rfl) ?_
  (try change wpAnyH _ _ _ _ _ _ _ (World.drew _))
  have hS0 := HO.out _ (Below.drew D11.out)
  refine wpAnyH_takeM (i := 0) (v := ?v11_0x3) (l' := bm 18 1) (a' := ?a11_0x3) rfl (by kernel_rfl) (by kernel_rfl) (by kernel_rfl) (fun _ _ _ h => h) (Or.inl ⟨by kernel_rfl, ?h11_0x3⟩) (by kernel_rfl) ?p11_0x3 hS0 ?r11_0x3
  case h11_0x3 => (intro w hS; go_simp; try with_reducible rfl)
  case p11_0x3 => (go_simp; try with_reducible rfl)
  refine wpAnyH_oneM (i := 1) (l' := bm 18 3) rfl (by kernel_rfl) (by kernel_rfl) (by kernel_rfl) (fun K hK => ?_)
  have hP := hS0.1
  go_simp
  go_at_call 20
  refine (N1.out _).mono ?_
  rintro r w12 ⟨rfl, hb⟩
  dsimp only
  have D12 := Lib.hid (below_step hP hb)
  clear hb
  have hS1 := HO.out _ (D12.out)
  clear hP hS0
  refine hK _ _ hS1 ?_
  clear hK K
  refine wpAnyH_takeM (i := 2) (v := ?v11_2x3) (l' := bm 18 7) (a' := ?a11_2x3) rfl (by kernel_rfl) (by kernel_rfl) (by kernel_rfl) (fun _ _ _ h => h) (Or.inl ⟨by kernel_rfl, ?h11_2x3⟩) (by kernel_rfl) ?p11_2x3 hS1 ?r11_2x3
  case h11_2x3 => (intro w hS; go_simp; try with_reducible rfl)
  case p11_2x3 => (go_simp; try with_reducible rfl)
  refine wpAnyH_takeM (i := 3) (v := undef) (l' := bm 18 15) (a' := ?a11_3x3) rfl (by kernel_rfl) (by kernel_rfl) (by kernel_rfl) (fun _ _ _ h => h) (Or.inr ⟨by kernel_rfl, rfl⟩) (by kernel_rfl) ?p11_3x3 hS1 ?_
  case p11_3x3 => (go_simp; try with_reducible rfl)
  refine wpAnyH_takeM (i := 4) (v := undef) (l' := bm 18 31) (a' := ?a11_4x3) rfl (by kernel_rfl) (by kernel_rfl) (by kernel_rfl) (fun _ _ _ h => h) (Or.inr ⟨by kernel_rfl, rfl⟩) (by kernel_rfl) ?p11_4x3 hS1 ?_
  case p11_4x3 => (go_simp; try with_reducible rfl)
  refine wpAnyH_takeM (i := 5) (v := undef) (l' := bm 18 63) (a' := ?a11_5x3) rfl (by kernel_rfl) (by kernel_rfl) (by kernel_rfl) (fun _ _ _ h => h) (Or.inr ⟨by kernel_rfl, rfl⟩) (by kernel_rfl) ?p11_5x3 hS1 ?_
  case p11_5x3 => (go_simp; try with_reducible rfl)
  refine wpAnyH_takeM (i := 6) (v := undef) (l' := bm 18 127) (a' := ?a11_6x3) rfl (by kernel_rfl) (by kernel_rfl) (by kernel_rfl) (fun _ _ _ h => h) (Or.inr ⟨by kernel_rfl, rfl⟩) (by kernel_rfl) ?p11_6x3 hS1 ?_
  case p11_6x3 => (go_simp; try with_reducible rfl)
  refine wpAnyH_takeM (i := 7) (v := undef) (l' := bm 18 255) (a' := ?a11_7x3) rfl (by kernel_rfl) (by kernel_rfl) (by kernel_rfl) (fun _ _ _ h => h) (Or.inr ⟨by kernel_rfl, rfl⟩) (by kernel_rfl) ?p11_7x3 hS1 ?_
  case p11_7x3 => (go_simp; try with_reducible rfl)
  refine wpAnyH_takeM (i := 8) (v := undef) (l' := bm 18 511) (a' := ?a11_8x3) rfl (by kernel_rfl) (by kernel_rfl) (by kernel_rfl) (fun _ _ _ h => h) (Or.inr ⟨by kernel_rfl, rfl⟩) (by kernel_rfl) ?p11_8x3 hS1 ?_
  case p11_8x3 => (go_simp; try with_reducible rfl)
  refine wpAnyH_takeM (i := 9) (v := undef) (l' := bm 18 1023) (a' := ?a11_9x3) rfl (by kernel_rfl) (by kernel_rfl) (by kernel_rfl) (fun _ _ _ h => h) (Or.inr ⟨by kernel_rfl, rfl⟩) (by kernel_rfl) ?p11_9x3 hS1 ?_
  case p11_9x3 => (go_simp; try with_reducible rfl)
  refine wpAnyH_takeM (i := 10) (v := undef) (l' := bm 18 2047) (a' := ?a11_10x3) rfl (by kernel_rfl) (by kernel_rfl) (by kernel_rfl) (fun _ _ _ h => h) (Or.inr ⟨by kernel_rfl, rfl⟩) (by kernel_rfl) ?p11_10x3 hS1 ?_
  case p11_10x3 => (go_simp; try with_reducible rfl)
  refine wpAnyH_takeM (i := 11) (v := undef) (l' := bm 18 4095) (a' := ?a11_11x3) rfl (by kernel_rfl) (by kernel_rfl) (by kernel_rfl) (fun _ _ _ h => h) (Or.inr ⟨by kernel_rfl, rfl⟩) (by kernel_rfl) ?p11_11x3 hS1 ?_
  case p11_11x3 => (go_simp; try with_reducible rfl)
  refine wpAnyH_takeM (i := 12) (v := undef) (l' := bm 18 8191) (a' := ?a11_12x3) rfl (by kernel_rfl) (by kernel_rfl) (by kernel_rfl) (fun _ _ _ h => h) (Or.inr ⟨by kernel_rfl, rfl⟩) (by kernel_rfl) ?p11_12x3 hS1 ?_
  case p11_12x3 => (go_simp; try with_reducible rfl)
  refine wpAnyH_takeM (i := 13) (v := ?v11_13x3) (l' := bm 18 16383) (a' := ?a11_13x3) rfl (by kernel_rfl) (by kernel_rfl) (by kernel_rfl) (fun _ _ _ h => h) (Or.inl ⟨by kernel_rfl, ?h11_13x3⟩) (by kernel_rfl) ?p11_13x3 hS1 ?r11_13x3
  case h11_13x3 => (intro w hS; go_simp; try with_reducible rfl)
  case p11_13x3 => (go_simp; try with_reducible rfl)
  refine wpAnyH_takeM (i := 14) (v := ?v11_14x3) (l' := bm 18 32767) (a' := ?a11_14x3) rfl (by kernel_rfl) (by kernel_rfl) (by kernel_rfl) (fun _ _ _ h => h) (Or.inl ⟨by kernel_rfl, ?h11_14x3⟩) (by kernel_rfl) ?p11_14x3 hS1 ?r11_14x3
  case h11_14x3 => (intro w hS; go_simp; try with_reducible rfl)
  case p11_14x3 => (go_simp; try with_reducible rfl)
  refine wpAnyH_takeM (i := 15) (v := undef) (l' := bm 18 65535) (a' := ?a11_15x3) rfl (by kernel_rfl) (by kernel_rfl) (by kernel_rfl) (fun _ _ _ h => h) (Or.inr ⟨by kernel_rfl, rfl⟩) (by kernel_rfl) ?p11_15x3 hS1 ?_
  case p11_15x3 => (go_simp; try with_reducible rfl)
  refine wpAnyH_takeM (i := 16) (v := undef) (l' := bm 18 131071) (a' := ?a11_16x3) rfl (by kernel_rfl) (by kernel_rfl) (by kernel_rfl) (fun _ _ _ h => h) (Or.inr ⟨by kernel_rfl, rfl⟩) (by kernel_rfl) ?p11_16x3 hS1 ?_
  case p11_16x3 => (go_simp; try with_reducible rfl)
  refine wpAnyH_takeM (i := 17) (v := ?v11_17x3) (l' := bm 18 262143) (a' := ?a11_17x3) rfl (by kernel_rfl) (by kernel_rfl) (by kernel_rfl) (fun _ _ _ h => h) (Or.inl ⟨by kernel_rfl, ?h11_17x3⟩) (by kernel_rfl) ?p11_17x3 hS1 ?r11_17x3
  case h11_17x3 => (intro w hS; go_simp; try with_reducible rfl)
  case p11_17x3 => (go_simp; try with_reducible rfl)
  refine wpAnyH_done (by kernel_rfl) ?_ _
  clear hS1
  have hq := (HO.out _ D12.out).2
  clear hq
  go_wp2_with fail
  have hq := (HO.out _ D12.out).2
  refine (R3.out _).mono ?_
  clear hq
  rintro r w13 ⟨rfl, hb⟩
  have D13 := Lib.hid (below_step D12.out hb)
  clear hb
  have hq := (HO.out _ D13.out).2
  go_wp2_with fail
  refine (R4.out _).mono ?_
  clear hq
  rintro r w14 ⟨rfl, hb⟩
  have D14 := Lib.hid (below_step D13.out hb)
  clear hb
  have hq := (HO.out _ D14.out).2
  go_wp2_with fail
  refine (btw_rd (HRn1.out _ D14.out) nc1 HPn1.out (by decide) (by decide) (by decide) EE1.out EE2.out).mono ?_
  clear hq
  rintro r w15 ⟨rfl, hb⟩
  have D15 := Lib.hid (below_step D14.out hb)
  clear hb
  have hq := (HO.out _ D15.out).2
  go_wp2_with fail
  refine (CL2.out _).mono ?_
  clear hq
  rintro r w16 ⟨rfl, hb⟩
  have D16 := Lib.hid (below_step D15.out hb)
  clear hb
  have hq := (HO.out _ D16.out).2
  clear hq
  go_wp2_with fail
  go_wp2_with fail
  refine wp_region_held (S := (fun w' => Below ws1.heap.size ws1 w' ∧ w'.cell? ⟨gv, 0, none⟩ = some (Value.bool bx.neg) ∧ w'.cell? ⟨gv, 1, none⟩ = some (Value.slice (some ⟨gx, 0, none⟩) bx.ws.length cx) ∧ w'.cell? ⟨gv, 2, none⟩ = some (Value.int IntKind.i64 bx.e) ∧ w'.cell? ⟨gv + 1, 0, none⟩ = some (Value.bool by_.neg) ∧ w'.cell? ⟨gv + 1, 1, none⟩ = some (Value.slice (some ⟨gy, 0, none⟩) by_.ws.length cy) ∧ w'.cell? ⟨gv + 1, 2, none⟩ = some (Value.int IntKind.i64 by_.e) ∧ w'.cell? ⟨g0, 0, none⟩ = some (Value.bool nb0.neg) ∧ w'.cell? ⟨g0, 1, none⟩ = some (Value.slice (some ⟨h0, 0, none⟩) nb0.ws.length nc0) ∧ w'.cell? ⟨g0, 2, none⟩ = some (Value.int IntKind.i64 nb0.e) ∧ w'.cell? ⟨g1, 0, none⟩ = some (Value.bool nb1.neg) ∧ w'.cell? ⟨g1, 1, none⟩ = some (Value.slice (some ⟨h1, 0, none⟩) nb1.ws.length nc1) ∧ w'.cell? ⟨g1, 2, none⟩ = some (Value.int IntKind.i64 nb1.e))) (by kernel_rfl) ?_
  (try change wpAnyH _ _ _ _ _ _ _ (World.drew _))
  have hS0 := HO.out _ (Below.drew D16.out)
  refine wpAnyH_takeM (i := 0) (v := ?v17_0x3) (l' := bm 21 1) (a' := ?a17_0x3) rfl (by kernel_rfl) (by kernel_rfl) (by kernel_rfl) (fun _ _ _ h => h) (Or.inl ⟨by kernel_rfl, ?h17_0x3⟩) (by kernel_rfl) ?p17_0x3 hS0 ?r17_0x3
  case h17_0x3 => (intro w hS; go_simp; try with_reducible rfl)
  case p17_0x3 => (go_simp; try with_reducible rfl)
  refine wpAnyH_oneM (i := 1) (l' := bm 21 3) rfl (by kernel_rfl) (by kernel_rfl) (by kernel_rfl) (fun K hK => ?_)
  have hP := hS0.1
  go_simp
  go_at_call 20
  refine (N2.out _).mono ?_
  rintro r w17 ⟨rfl, hb⟩
  dsimp only
  have D17 := Lib.hid (below_step hP hb)
  clear hb
  have hS1 := HO.out _ (D17.out)
  clear hP hS0
  refine hK _ _ hS1 ?_
  clear hK K
  refine wpAnyH_takeM (i := 2) (v := ?v17_2x3) (l' := bm 21 7) (a' := ?a17_2x3) rfl (by kernel_rfl) (by kernel_rfl) (by kernel_rfl) (fun _ _ _ h => h) (Or.inl ⟨by kernel_rfl, ?h17_2x3⟩) (by kernel_rfl) ?p17_2x3 hS1 ?r17_2x3
  case h17_2x3 => (intro w hS; go_simp; try with_reducible rfl)
  case p17_2x3 => (go_simp; try with_reducible rfl)
  refine wpAnyH_takeM (i := 3) (v := ?v17_3x3) (l' := bm 21 15) (a' := ?a17_3x3) rfl (by kernel_rfl) (by kernel_rfl) (by kernel_rfl) (fun _ _ _ h => h) (Or.inl ⟨by kernel_rfl, ?h17_3x3⟩) (by kernel_rfl) ?p17_3x3 hS1 ?r17_3x3
  case h17_3x3 => (intro w hS; go_simp; try with_reducible rfl)
  case p17_3x3 => (go_simp; try with_reducible rfl)
  refine wpAnyH_takeM (i := 4) (v := undef) (l' := bm 21 31) (a' := ?a17_4x3) rfl (by kernel_rfl) (by kernel_rfl) (by kernel_rfl) (fun _ _ _ h => h) (Or.inr ⟨by kernel_rfl, rfl⟩) (by kernel_rfl) ?p17_4x3 hS1 ?_
  case p17_4x3 => (go_simp; try with_reducible rfl)
  refine wpAnyH_takeM (i := 5) (v := undef) (l' := bm 21 63) (a' := ?a17_5x3) rfl (by kernel_rfl) (by kernel_rfl) (by kernel_rfl) (fun _ _ _ h => h) (Or.inr ⟨by kernel_rfl, rfl⟩) (by kernel_rfl) ?p17_5x3 hS1 ?_
  case p17_5x3 => (go_simp; try with_reducible rfl)
  refine wpAnyH_takeM (i := 6) (v := undef) (l' := bm 21 127) (a' := ?a17_6x3) rfl (by kernel_rfl) (by kernel_rfl) (by kernel_rfl) (fun _ _ _ h => h) (Or.inr ⟨by kernel_rfl, rfl⟩) (by kernel_rfl) ?p17_6x3 hS1 ?_
  case p17_6x3 => (go_simp; try with_reducible rfl)
  refine wpAnyH_takeM (i := 7) (v := ?v17_7x3) (l' := bm 21 255) (a' := ?a17_7x3) rfl (by kernel_rfl) (by kernel_rfl) (by kernel_rfl) (fun _ _ _ h => h) (Or.inl ⟨by kernel_rfl, ?h17_7x3⟩) (by kernel_rfl) ?p17_7x3 hS1 ?r17_7x3
  case h17_7x3 => (intro w hS; go_simp; try with_reducible rfl)
  case p17_7x3 => (go_simp; try with_reducible rfl)
  refine wpAnyH_takeM (i := 8) (v := ?v17_8x3) (l' := bm 21 511) (a' := ?a17_8x3) rfl (by kernel_rfl) (by kernel_rfl) (by kernel_rfl) (fun _ _ _ h => h) (Or.inl ⟨by kernel_rfl, ?h17_8x3⟩) (by kernel_rfl) ?p17_8x3 hS1 ?r17_8x3
  case h17_8x3 => (intro w hS; go_simp; try with_reducible rfl)
  case p17_8x3 => (go_simp; try with_reducible rfl)
  refine wpAnyH_takeM (i := 9) (v := undef) (l' := bm 21 1023) (a' := ?a17_9x3) rfl (by kernel_rfl) (by kernel_rfl) (by kernel_rfl) (fun _ _ _ h => h) (Or.inr ⟨by kernel_rfl, rfl⟩) (by kernel_rfl) ?p17_9x3 hS1 ?_
  case p17_9x3 => (go_simp; try with_reducible rfl)
  refine wpAnyH_takeM (i := 10) (v := undef) (l' := bm 21 2047) (a' := ?a17_10x3) rfl (by kernel_rfl) (by kernel_rfl) (by kernel_rfl) (fun _ _ _ h => h) (Or.inr ⟨by kernel_rfl, rfl⟩) (by kernel_rfl) ?p17_10x3 hS1 ?_
  case p17_10x3 => (go_simp; try with_reducible rfl)
  refine wpAnyH_takeM (i := 11) (v := undef) (l' := bm 21 4095) (a' := ?a17_11x3) rfl (by kernel_rfl) (by kernel_rfl) (by kernel_rfl) (fun _ _ _ h => h) (Or.inr ⟨by kernel_rfl, rfl⟩) (by kernel_rfl) ?p17_11x3 hS1 ?_
  case p17_11x3 => (go_simp; try with_reducible rfl)
  refine wpAnyH_takeM (i := 12) (v := undef) (l' := bm 21 8191) (a' := ?a17_12x3) rfl (by kernel_rfl) (by kernel_rfl) (by kernel_rfl) (fun _ _ _ h => h) (Or.inr ⟨by kernel_rfl, rfl⟩) (by kernel_rfl) ?p17_12x3 hS1 ?_
  case p17_12x3 => (go_simp; try with_reducible rfl)
  refine wpAnyH_takeM (i := 13) (v := undef) (l' := bm 21 16383) (a' := ?a17_13x3) rfl (by kernel_rfl) (by kernel_rfl) (by kernel_rfl) (fun _ _ _ h => h) (Or.inr ⟨by kernel_rfl, rfl⟩) (by kernel_rfl) ?p17_13x3 hS1 ?_
  case p17_13x3 => (go_simp; try with_reducible rfl)
  refine wpAnyH_takeM (i := 14) (v := undef) (l' := bm 21 32767) (a' := ?a17_14x3) rfl (by kernel_rfl) (by kernel_rfl) (by kernel_rfl) (fun _ _ _ h => h) (Or.inr ⟨by kernel_rfl, rfl⟩) (by kernel_rfl) ?p17_14x3 hS1 ?_
  case p17_14x3 => (go_simp; try with_reducible rfl)
  refine wpAnyH_takeM (i := 15) (v := undef) (l' := bm 21 65535) (a' := ?a17_15x3) rfl (by kernel_rfl) (by kernel_rfl) (by kernel_rfl) (fun _ _ _ h => h) (Or.inr ⟨by kernel_rfl, rfl⟩) (by kernel_rfl) ?p17_15x3 hS1 ?_
  case p17_15x3 => (go_simp; try with_reducible rfl)
  refine wpAnyH_takeM (i := 16) (v := undef) (l' := bm 21 131071) (a' := ?a17_16x3) rfl (by kernel_rfl) (by kernel_rfl) (by kernel_rfl) (fun _ _ _ h => h) (Or.inr ⟨by kernel_rfl, rfl⟩) (by kernel_rfl) ?p17_16x3 hS1 ?_
  case p17_16x3 => (go_simp; try with_reducible rfl)
  refine wpAnyH_takeM (i := 17) (v := undef) (l' := bm 21 262143) (a' := ?a17_17x3) rfl (by kernel_rfl) (by kernel_rfl) (by kernel_rfl) (fun _ _ _ h => h) (Or.inr ⟨by kernel_rfl, rfl⟩) (by kernel_rfl) ?p17_17x3 hS1 ?_
  case p17_17x3 => (go_simp; try with_reducible rfl)
  refine wpAnyH_takeM (i := 18) (v := undef) (l' := bm 21 524287) (a' := ?a17_18x3) rfl (by kernel_rfl) (by kernel_rfl) (by kernel_rfl) (fun _ _ _ h => h) (Or.inr ⟨by kernel_rfl, rfl⟩) (by kernel_rfl) ?p17_18x3 hS1 ?_
  case p17_18x3 => (go_simp; try with_reducible rfl)
  refine wpAnyH_takeM (i := 19) (v := ?v17_19x3) (l' := bm 21 1048575) (a' := ?a17_19x3) rfl (by kernel_rfl) (by kernel_rfl) (by kernel_rfl) (fun _ _ _ h => h) (Or.inl ⟨by kernel_rfl, ?h17_19x3⟩) (by kernel_rfl) ?p17_19x3 hS1 ?r17_19x3
  case h17_19x3 => (intro w hS; go_simp; try with_reducible rfl)
  case p17_19x3 => (go_simp; try with_reducible rfl)
  refine wpAnyH_takeM (i := 20) (v := ?v17_20x3) (l' := bm 21 2097151) (a' := ?a17_20x3) rfl (by kernel_rfl) (by kernel_rfl) (by kernel_rfl) (fun _ _ _ h => h) (Or.inl ⟨by kernel_rfl, ?h17_20x3⟩) (by kernel_rfl) ?p17_20x3 hS1 ?r17_20x3
  case h17_20x3 => (intro w hS; go_simp; try with_reducible rfl)
  case p17_20x3 => (go_simp; try with_reducible rfl)
  refine wpAnyH_done (by kernel_rfl) ?_ _
  clear hS1
  have hq := (HO.out _ D17.out).2
  go_wp2_with fail
  go_ret
  exact ⟨rfl, below_step HB.out D17.out⟩
set_option maxRecDepth 100000 in
set_option maxHeartbeats 8000000 in
theorem real_nb (a b : Nat) (ha : a < 18446744073709551616) (hb : b < 18446744073709551616) (fa : fin a = true) (fb : fin b = true) (c1 : fin (addR a b true).1 = false) (c2 : fin (mulR a b true).1 = true) (c3 : fin (mulR a b false).1 = false) (w : World) : Calls Try.prog 8 #[.float .f64 a, .float .f64 b] w fun r w' => r = .returned (.bool true) ∧ Below w.heap.size w w' := by
  have H0 := Lib.hid awake
  have H1 := Lib.hid (fun w => num_b a ha w)
  have H2 := Lib.hid (fun w => num_b b hb w)
  rw [fa] at H1
  rw [fb] at H2
  have OX := Lib.hid (fun w => of_rp ha fa w)
  have OY := Lib.hid (fun w => of_rp hb fb w)
  have d1 := add_dn fa fb
  have d2 := add_up fa fb
  have e1 := mul_dn fa fb
  have e2 := mul_up fa fb
  have R1 := Lib.hid (fun w => add_any a b true ha hb w)
  have R2 := Lib.hid (fun w => add_any a b false ha hb w)
  have R3 := Lib.hid (fun w => mul_any a b true ha hb w)
  have R4 := Lib.hid (fun w => mul_any a b false ha hb w)
  rw [addR_fin fa fb true] at R1
  rw [addR_fin fa fb false] at R2
  rw [mulR_fin fa fb true] at R3
  rw [mulR_fin fa fb false] at R4
  simp only [pV, numV] at R1 R2 R3 R4
  generalize (addR a b true).1 = lo at *
  generalize (addR a b false).1 = hi at *
  generalize (mulR a b true).1 = lo2 at *
  generalize (mulR a b false).1 = hi2 at *
  have N1 := Lib.hid (fun w => num_b lo d1.gd.lt w)
  have N2 := Lib.hid (fun w => num_b lo2 e1.gd.lt w)
  rw [c1] at N1
  rw [c2] at N2
  have CL1 := Lib.hid (fun w => close_any d1.gd d2.gd (nbr_rd d1 d2) w)
  have CL2 := Lib.hid (fun w => close_any e1.gd e2.gd (nbr_rd e1 e2) w)
  have DD1 := Lib.hid d1
  have DD2 := Lib.hid d2
  have EE1 := Lib.hid e1
  have EE2 := Lib.hid e2
  have N3 := Lib.hid (fun w => num_b hi2 e2.gd.lt w)
  rw [c3] at N3
  clear d1 d2 e1 e2 c1 c2 c3 fa fb ha hb
  generalize fv a = xa at *
  generalize fv b = xb at *
  go_enter Try.func8, Try.ntmps8
  go_wp2_with fail
  obtain ⟨W, hW⟩ : ∃ W, W = w := ⟨_, rfl⟩
  rw [← hW]
  have HB := Lib.hid (hW ▸ Below.refl w.heap.size w : Below w.heap.size w W)
  clear hW
  have HO := Lib.hid (show ∀ w', Below W.heap.size W w' → (Below W.heap.size W w') from fun w' h => h)
  have D0 := Lib.hid (Below.refl W.heap.size W)
  refine (H0.out _).mono ?_
  rintro r w1 ⟨rfl, hb⟩
  have D1 := Lib.hid (below_step D0.out hb)
  clear hb
  go_wp2_with fail
  refine (H1.out _).mono ?_
  rintro r w2 ⟨rfl, hb⟩
  have D2 := Lib.hid (below_step D1.out hb)
  clear hb
  go_wp2_with fail
  refine (H2.out _).mono ?_
  rintro r w3 ⟨rfl, hb⟩
  have D3 := Lib.hid (below_step D2.out hb)
  clear hb
  go_wp2_with fail
  refine (OX.out _).mono ?_
  rintro r w4 ⟨bx, gx, cx, rfl, hrx, hpx, hb⟩
  have D4 := Lib.hid (below_step D3.out hb)
  clear hb
  have HRbx := Lib.hid hrx
  have HPbx := Lib.hid hpx
  clear hrx hpx
  go_wp2_with fail
  refine (OY.out _).mono ?_
  rintro r w5 ⟨by_, gy, cy, rfl, hrx, hpx, hb⟩
  have D5 := Lib.hid (below_step D4.out hb)
  have HRbx := Lib.hid (HRbx.out.below' hb)
  clear hb
  have HRby_ := Lib.hid hrx
  have HPby_ := Lib.hid hpx
  clear hrx hpx
  go_wp2_with fail
  obtain ⟨V, hV, KN0, KN1, hBV, hz⟩ := by2 w5 35 35 #[Value.bool bx.neg, Value.slice (some ⟨gx, 0, none⟩) bx.ws.length cx, Value.int IntKind.i64 bx.e] #[Value.bool by_.neg, Value.slice (some ⟨gy, 0, none⟩) by_.ws.length cy, Value.int IntKind.i64 by_.e]
  rw [← hV]
  have HLTbx := Lib.hid HRbx.out.lt
  have HRbx := Lib.hid (HRbx.out.below' hBV)
  have HLTby_ := Lib.hid HRby_.out.lt
  have HRby_ := Lib.hid (HRby_.out.below' hBV)
  have HB' := Lib.hid (below_step (below_step HB.out D5.out) hBV)
  obtain ⟨gv, hgv⟩ : ∃ g, w5.heap.size = g := ⟨_, rfl⟩
  have hwg : w.heap.size ≤ gv := by rw [← hgv]; exact (below_step HB.out D5.out).size
  have lt_bx : gx < gv := by rw [← hgv]; exact HLTbx.out
  have lt_by_ : gy < gv := by rw [← hgv]; exact HLTby_.out
  rw [hgv] at KN0 KN1
  rw [hgv]
  have K0 := Lib.hid KN0
  have K1 := Lib.hid KN1
  clear HB HO KN0 KN1 hV hBV hz hgv
  have HB := HB'
  clear HB'
  have HO := Lib.hid (show ∀ w', Below V.heap.size V w' → (Below V.heap.size V w' ∧ w'.cell? ⟨gv, 0, none⟩ = some (Value.bool bx.neg) ∧ w'.cell? ⟨gv, 1, none⟩ = some (Value.slice (some ⟨gx, 0, none⟩) bx.ws.length cx) ∧ w'.cell? ⟨gv, 2, none⟩ = some (Value.int IntKind.i64 bx.e) ∧ w'.cell? ⟨gv + 1, 0, none⟩ = some (Value.bool by_.neg) ∧ w'.cell? ⟨gv + 1, 1, none⟩ = some (Value.slice (some ⟨gy, 0, none⟩) by_.ws.length cy) ∧ w'.cell? ⟨gv + 1, 2, none⟩ = some (Value.int IntKind.i64 by_.e)) from fun w' h => ⟨h, (K0.out.below h K0.out.lt).cell 0, (K0.out.below h K0.out.lt).cell 1, (K0.out.below h K0.out.lt).cell 2, (K1.out.below h K1.out.lt).cell 0, (K1.out.below h K1.out.lt).cell 1, (K1.out.below h K1.out.lt).cell 2⟩)
  have D6 := Lib.hid (Below.refl V.heap.size V)
  have hq := (HO.out _ D6.out).2
  have HRbx := Lib.hid (fun w' (b : Below V.heap.size V w') => HRbx.out.below' b)
  have HRby_ := Lib.hid (fun w' (b : Below V.heap.size V w') => HRby_.out.below' b)
  clear hq
  refine wp_region_held (S := (fun w' => Below V.heap.size V w' ∧ w'.cell? ⟨gv, 0, none⟩ = some (Value.bool bx.neg) ∧ w'.cell? ⟨gv, 1, none⟩ = some (Value.slice (some ⟨gx, 0, none⟩) bx.ws.length cx) ∧ w'.cell? ⟨gv, 2, none⟩ = some (Value.int IntKind.i64 bx.e) ∧ w'.cell? ⟨gv + 1, 0, none⟩ = some (Value.bool by_.neg) ∧ w'.cell? ⟨gv + 1, 1, none⟩ = some (Value.slice (some ⟨gy, 0, none⟩) by_.ws.length cy) ∧ w'.cell? ⟨gv + 1, 2, none⟩ = some (Value.int IntKind.i64 by_.e))) (by kernel_rfl) ?_
  change wpAnyH _ _ _ _ _ _ _ _ (World.drew _)
  obtain ⟨wd, hwd⟩ : ∃ x, x = World.drew V := ⟨_, rfl⟩
  rw [← hwd]
  have DD := Lib.hid (hwd ▸ Below.drew D6.out : Below V.heap.size V wd)
  clear hwd
  have hS0 := HO.out _ DD.out
  refine wpAnyH_takeM (i := 0) (v := ?vs6_0) (l' := bm 10 1) (a' := ?as6_0) rfl (by kernel_rfl) (by kernel_rfl) (by kernel_rfl) (fun _ _ _ h => h) (Or.inl ⟨by kernel_rfl, ?hs6_0⟩) (by kernel_rfl) ?ps6_0 hS0 ?rs6_0
  case hs6_0 => (intro w hS; go_simp; try with_reducible rfl)
  case ps6_0 => (go_simp; try with_reducible rfl)
  refine wpAnyH_takeM (i := 1) (v := ?vs6_1) (l' := bm 10 3) (a' := ?as6_1) rfl (by kernel_rfl) (by kernel_rfl) (by kernel_rfl) (fun _ _ _ h => h) (Or.inl ⟨by kernel_rfl, ?hs6_1⟩) (by kernel_rfl) ?ps6_1 hS0 ?rs6_1
  case hs6_1 => (intro w hS; go_simp; try with_reducible rfl)
  case ps6_1 => (go_simp; try with_reducible rfl)
  refine wpAnyH_takeM (i := 3) (v := ?vs6_3) (l' := bm 10 11) (a' := ?as6_3) rfl (by kernel_rfl) (by kernel_rfl) (by kernel_rfl) (fun _ _ _ h => h) (Or.inl ⟨by kernel_rfl, ?hs6_3⟩) (by kernel_rfl) ?ps6_3 hS0 ?rs6_3
  case hs6_3 => (intro w hS; go_simp; try with_reducible rfl)
  case ps6_3 => (go_simp; try with_reducible rfl)
  refine wpAnyH_takeM (i := 4) (v := ?vs6_4) (l' := bm 10 27) (a' := ?as6_4) rfl (by kernel_rfl) (by kernel_rfl) (by kernel_rfl) (fun _ _ _ h => h) (Or.inl ⟨by kernel_rfl, ?hs6_4⟩) (by kernel_rfl) ?ps6_4 hS0 ?rs6_4
  case hs6_4 => (intro w hS; go_simp; try with_reducible rfl)
  case ps6_4 => (go_simp; try with_reducible rfl)
  refine wpAnyH_sets (N := 10) (stop := 255) (F := 2) (m := 27) (R := [2, 5, 6, 7]) (M := [27, 91, 155, 219, 31, 95, 159, 223, 63, 127, 191, 255]) (fun a0 m a w9 => ∃ (v0 v1 p0 p1 : Value) (g0 g1 h0 h1 : Nat), a = ((((a0.put (some 29) v0).put (some 32) v1).put (some 7) p0).put (some 8) p1) ∧ Below V.heap.size V w9 ∧ (m.testBit 2 = true → BigG w9 v0 h0 (xa + xb) (2 * (((971 : Int) - -1074).toNat / 32) + 2 + 2 + 2) (-1074) (971)) ∧ (m.testBit 5 = true → BigG w9 v1 h1 (xa * xb) (2 + 2 + 1) (-1074 + -1074) (971 + 971)) ∧ (m.testBit 6 = true → p0 = .pointer (some ⟨g0, 0, none⟩) ∧ Blk w9 g0 35 #[Value.bool false, Value.slice none 0 0, Value.int IntKind.i64 0] ∧ V.heap.size ≤ g0) ∧ (m.testBit 7 = true → p1 = .pointer (some ⟨g1, 0, none⟩) ∧ Blk w9 g1 35 #[Value.bool false, Value.slice none 0 0, Value.int IntKind.i64 0] ∧ V.heap.size ≤ g1) ∧ (m.testBit 6 = true → m.testBit 7 = true → g0 ≠ g1) ∧ (m.testBit 2 = true → m.testBit 6 = true → h0 ≠ g0) ∧ (m.testBit 2 = true → m.testBit 7 = true → h0 ≠ g1) ∧ (m.testBit 5 = true → m.testBit 6 = true → h1 ≠ g0) ∧ (m.testBit 5 = true → m.testBit 7 = true → h1 ≠ g1)) (by kernel_rfl) (by kernel_rfl) (by kernel_rfl) ?st6 ?sp6 ?re6
  case st6 =>
    exact ⟨undef, undef, undef, undef, 0, 0, 0, 0, by go_simp, DD.out, fun h => absurd h (by decide), fun h => absurd h (by decide), fun h => absurd h (by decide), fun h => absurd h (by decide), fun h => absurd h (by decide), fun h => absurd h (by decide), fun h => absurd h (by decide), fun h => absurd h (by decide), fun h => absurd h (by decide)⟩
  case sp6 =>
    intro m a' w9 i hi hm hJ
    obtain ⟨v0, v1, p0, p1, g0, g1, h0, h1, rfl, hb0, c0, c1, q0, q1, d0_1, b0_0, b0_1, b1_0, b1_1⟩ := hJ
    have C0 := Lib.hid c0
    have C1 := Lib.hid c1
    have Q0 := Lib.hid q0
    have Q1 := Lib.hid q1
    have D0_1 := Lib.hid d0_1
    have B0_0 := Lib.hid b0_0
    have B0_1 := Lib.hid b0_1
    have B1_0 := Lib.hid b1_0
    have B1_1 := Lib.hid b1_1
    have HB0 := Lib.hid hb0
    have hS9 := HO.out _ hb0
    clear c0 c1 q0 q1 d0_1 b0_0 b0_1 b1_0 b1_1 hb0 hm hS0
    simp only [List.mem_cons, List.not_mem_nil, or_false] at hi
    rcases hi with rfl | rfl | rfl | rfl
    · refine wpOp_at rfl (by kernel_rfl) (fun K hK => ?_)
      go_simp
      go_at_call 30
      refine (add_rq (HRbx.out _ HB0.out) (HRby_.out _ HB0.out) cx cy HPbx.out HPby_.out (by decide) (by decide) (by decide) (by decide)).mono ?_
      rintro r w10 ⟨vn, hn, rfl, kn, ln, hb⟩
      dsimp only
      have hb1 := below_step HB0.out hb
      exact hK _ _ ⟨HO.out _ hb1, vn, v1, p0, p1, g0, g1, hn, h1, by go_simp, hb1, fun _ => kn, fun h => (C1.out (by rwa [tb_ne (by decide)] at h)).below hb, fun h => ⟨(Q0.out (by rwa [tb_ne (by decide)] at h)).1, (Q0.out (by rwa [tb_ne (by decide)] at h)).2.1.below hb (Q0.out (by rwa [tb_ne (by decide)] at h)).2.1.lt, (Q0.out (by rwa [tb_ne (by decide)] at h)).2.2⟩, fun h => ⟨(Q1.out (by rwa [tb_ne (by decide)] at h)).1, (Q1.out (by rwa [tb_ne (by decide)] at h)).2.1.below hb (Q1.out (by rwa [tb_ne (by decide)] at h)).2.1.lt, (Q1.out (by rwa [tb_ne (by decide)] at h)).2.2⟩, fun h h' => D0_1.out (by rwa [tb_ne (by decide)] at h) (by rwa [tb_ne (by decide)] at h'), fun h h' => Nat.ne_of_gt (Nat.lt_of_lt_of_le (Q0.out (by rwa [tb_ne (by decide)] at h')).2.1.lt ln), fun h h' => Nat.ne_of_gt (Nat.lt_of_lt_of_le (Q1.out (by rwa [tb_ne (by decide)] at h')).2.1.lt ln), fun h h' => B1_0.out (by rwa [tb_ne (by decide)] at h) (by rwa [tb_ne (by decide)] at h'), fun h h' => B1_1.out (by rwa [tb_ne (by decide)] at h) (by rwa [tb_ne (by decide)] at h')⟩
    · refine wpOp_at rfl (by kernel_rfl) (fun K hK => ?_)
      go_simp
      go_at_call 25
      refine (mul_rq (HRbx.out _ HB0.out) (HRby_.out _ HB0.out) cx cy HPbx.out HPby_.out (by decide) (by decide) (by decide) (by decide) (by decide) (by decide)).mono ?_
      rintro r w10 ⟨vn, hn, rfl, kn, ln, hb⟩
      dsimp only
      have hb1 := below_step HB0.out hb
      exact hK _ _ ⟨HO.out _ hb1, v0, vn, p0, p1, g0, g1, h0, hn, by go_simp, hb1, fun h => (C0.out (by rwa [tb_ne (by decide)] at h)).below hb, fun _ => kn, fun h => ⟨(Q0.out (by rwa [tb_ne (by decide)] at h)).1, (Q0.out (by rwa [tb_ne (by decide)] at h)).2.1.below hb (Q0.out (by rwa [tb_ne (by decide)] at h)).2.1.lt, (Q0.out (by rwa [tb_ne (by decide)] at h)).2.2⟩, fun h => ⟨(Q1.out (by rwa [tb_ne (by decide)] at h)).1, (Q1.out (by rwa [tb_ne (by decide)] at h)).2.1.below hb (Q1.out (by rwa [tb_ne (by decide)] at h)).2.1.lt, (Q1.out (by rwa [tb_ne (by decide)] at h)).2.2⟩, fun h h' => D0_1.out (by rwa [tb_ne (by decide)] at h) (by rwa [tb_ne (by decide)] at h'), fun h h' => B0_0.out (by rwa [tb_ne (by decide)] at h) (by rwa [tb_ne (by decide)] at h'), fun h h' => B0_1.out (by rwa [tb_ne (by decide)] at h) (by rwa [tb_ne (by decide)] at h'), fun h h' => Nat.ne_of_gt (Nat.lt_of_lt_of_le (Q0.out (by rwa [tb_ne (by decide)] at h')).2.1.lt ln), fun h h' => Nat.ne_of_gt (Nat.lt_of_lt_of_le (Q1.out (by rwa [tb_ne (by decide)] at h')).2.1.lt ln)⟩
    · refine wpOp_at rfl (by kernel_rfl) (fun K hK => ?_)
      go_simp
      have hb1 := below_more HB0.out (.cells #[Value.bool false, Value.slice none 0 0, Value.int IntKind.i64 0] 35)
      exact hK _ _ ⟨HO.out _ hb1, v0, v1, .pointer (some ⟨w9.heap.size, 0, none⟩), p1, w9.heap.size, g1, h0, h1, by go_simp, hb1, fun h => (C0.out (by rwa [tb_ne (by decide)] at h)).below (below_new _ _), fun h => (C1.out (by rwa [tb_ne (by decide)] at h)).below (below_new _ _), fun _ => ⟨rfl, Blk.new_at _ _ _ rfl, HB0.out.size⟩, fun h => ⟨(Q1.out (by rwa [tb_ne (by decide)] at h)).1, (Q1.out (by rwa [tb_ne (by decide)] at h)).2.1.alloc _, (Q1.out (by rwa [tb_ne (by decide)] at h)).2.2⟩, fun h h' => Nat.ne_of_gt (Q1.out (by rwa [tb_ne (by decide)] at h')).2.1.lt, fun h h' => Nat.ne_of_lt (C0.out (by rwa [tb_ne (by decide)] at h)).lt, fun h h' => B0_1.out (by rwa [tb_ne (by decide)] at h) (by rwa [tb_ne (by decide)] at h'), fun h h' => Nat.ne_of_lt (C1.out (by rwa [tb_ne (by decide)] at h)).lt, fun h h' => B1_1.out (by rwa [tb_ne (by decide)] at h) (by rwa [tb_ne (by decide)] at h')⟩
    · refine wpOp_at rfl (by kernel_rfl) (fun K hK => ?_)
      go_simp
      have hb1 := below_more HB0.out (.cells #[Value.bool false, Value.slice none 0 0, Value.int IntKind.i64 0] 35)
      exact hK _ _ ⟨HO.out _ hb1, v0, v1, p0, .pointer (some ⟨w9.heap.size, 0, none⟩), g0, w9.heap.size, h0, h1, by go_simp, hb1, fun h => (C0.out (by rwa [tb_ne (by decide)] at h)).below (below_new _ _), fun h => (C1.out (by rwa [tb_ne (by decide)] at h)).below (below_new _ _), fun h => ⟨(Q0.out (by rwa [tb_ne (by decide)] at h)).1, (Q0.out (by rwa [tb_ne (by decide)] at h)).2.1.alloc _, (Q0.out (by rwa [tb_ne (by decide)] at h)).2.2⟩, fun _ => ⟨rfl, Blk.new_at _ _ _ rfl, HB0.out.size⟩, fun h h' => Nat.ne_of_lt (Q0.out (by rwa [tb_ne (by decide)] at h)).2.1.lt, fun h h' => B0_0.out (by rwa [tb_ne (by decide)] at h) (by rwa [tb_ne (by decide)] at h'), fun h h' => Nat.ne_of_lt (C0.out (by rwa [tb_ne (by decide)] at h)).lt, fun h h' => B1_0.out (by rwa [tb_ne (by decide)] at h) (by rwa [tb_ne (by decide)] at h'), fun h h' => Nat.ne_of_lt (C1.out (by rwa [tb_ne (by decide)] at h)).lt⟩
  intro a' w9 hJ
  obtain ⟨v0, v1, p0, p1, g0, g1, h0, h1, rfl, hb0, c0, c1, q0, q1, d0_1, b0_0, b0_1, b1_0, b1_1⟩ := hJ
  obtain ⟨nb0, nc0, rfl, hrn0, hpn0⟩ := c0 (by decide)
  have HRn0 := Lib.hid hrn0
  have HPn0 := Lib.hid hpn0
  clear hrn0 hpn0
  obtain ⟨nb1, nc1, rfl, hrn1, hpn1⟩ := c1 (by decide)
  have HRn1 := Lib.hid hrn1
  have HPn1 := Lib.hid hpn1
  clear hrn1 hpn1
  have e50_0 := b0_0 (by decide) (by decide)
  clear b0_0
  have e50_1 := b0_1 (by decide) (by decide)
  clear b0_1
  have e51_0 := b1_0 (by decide) (by decide)
  clear b1_0
  have e51_1 := b1_1 (by decide) (by decide)
  clear b1_1
  obtain ⟨rfl, k0, l0⟩ := q0 (by decide)
  obtain ⟨rfl, k1, l1⟩ := q1 (by decide)
  have e0_1 := d0_1 (by decide) (by decide)
  clear d0_1
  have DB := Lib.hid hb0
  clear hb0 hS0
  have KK0 := Lib.hid k0
  clear k0
  have KK1 := Lib.hid k1
  clear k1
  refine wpAnyH_frame (a' := ?fr6) ?fe6 ?fg6
  case fe6 => (go_simp; try with_reducible rfl)
  have hS0 := HO.out _ DB.out
  refine wpAnyH_oneM (i := 8) (l' := bm 10 511) rfl (by kernel_rfl) (by kernel_rfl) (by kernel_rfl) (fun K hK => ?_)
  have f0 := KK0.out.cell 0
  have u0 := KK0.out.frz 0
  have f1 := KK0.out.cell 1
  have u1 := KK0.out.frz 1
  have f2 := KK0.out.cell 2
  have u2 := KK0.out.frz 2
  obtain ⟨ws0, hv⟩ : ∃ V, (((w9.setCell ⟨g0, 0, none⟩ (Value.bool nb0.neg)).setCell ⟨g0, 1, none⟩ (Value.slice (some ⟨h0, 0, none⟩) nb0.ws.length nc0)).setCell ⟨g0, 2, none⟩ (Value.int IntKind.i64 nb0.e)) = V := ⟨_, rfl⟩
  have DB' := Lib.hid (hv ▸ Below.setCell (Below.setCell (Below.setCell (DB.out) l0 _) l0 _) l0 _ : Below V.heap.size V ws0)
  have KK0' := Lib.hid (hv ▸ (Blk.set_ (Blk.set_ (Blk.set_ (KK0.out) 0 _) 1 _) 2 _) : Blk ws0 g0 35 #[Value.bool nb0.neg, Value.slice (some ⟨h0, 0, none⟩) nb0.ws.length nc0, Value.int IntKind.i64 nb0.e])
  have KK1' := Lib.hid (hv ▸ (Blk.off (Blk.off (Blk.off (KK1.out) ⟨g0, 0, none⟩ _ (by show g1 ≠ g0; omega)) ⟨g0, 1, none⟩ _ (by show g1 ≠ g0; omega)) ⟨g0, 2, none⟩ _ (by show g1 ≠ g0; omega)) : Blk ws0 g1 35 #[Value.bool false, Value.slice none 0 0, Value.int IntKind.i64 0])
  have HRn0 := Lib.hid (hv ▸ (RL.off (RL.off (RL.off (HRn0.out) ⟨g0, 0, none⟩ _ (by show h0 ≠ g0; exact e50_0)) ⟨g0, 1, none⟩ _ (by show h0 ≠ g0; exact e50_0)) ⟨g0, 2, none⟩ _ (by show h0 ≠ g0; exact e50_0)) : RL ws0 h0 nb0.ws)
  have HRn1 := Lib.hid (hv ▸ (RL.off (RL.off (RL.off (HRn1.out) ⟨g0, 0, none⟩ _ (by show h1 ≠ g0; exact e51_0)) ⟨g0, 1, none⟩ _ (by show h1 ≠ g0; exact e51_0)) ⟨g0, 2, none⟩ _ (by show h1 ≠ g0; exact e51_0)) : RL ws0 h1 nb1.ws)
  go_simp
  clear hv f0 u0 f1 u1 f2 u2
  have DB := DB'
  clear DB'
  have KK0 := KK0'
  clear KK0'
  have KK1 := KK1'
  clear KK1'
  have hS1 := HO.out _ DB.out
  refine hK _ _ hS1 ?_
  clear hK K hS0
  refine wpAnyH_oneM (i := 9) (l' := bm 10 1023) rfl (by kernel_rfl) (by kernel_rfl) (by kernel_rfl) (fun K hK => ?_)
  have f0 := KK1.out.cell 0
  have u0 := KK1.out.frz 0
  have f1 := KK1.out.cell 1
  have u1 := KK1.out.frz 1
  have f2 := KK1.out.cell 2
  have u2 := KK1.out.frz 2
  obtain ⟨ws1, hv⟩ : ∃ V, (((ws0.setCell ⟨g1, 0, none⟩ (Value.bool nb1.neg)).setCell ⟨g1, 1, none⟩ (Value.slice (some ⟨h1, 0, none⟩) nb1.ws.length nc1)).setCell ⟨g1, 2, none⟩ (Value.int IntKind.i64 nb1.e)) = V := ⟨_, rfl⟩
  have DB' := Lib.hid (hv ▸ Below.setCell (Below.setCell (Below.setCell (DB.out) l1 _) l1 _) l1 _ : Below V.heap.size V ws1)
  have KK0' := Lib.hid (hv ▸ (Blk.off (Blk.off (Blk.off (KK0.out) ⟨g1, 0, none⟩ _ (by show g0 ≠ g1; omega)) ⟨g1, 1, none⟩ _ (by show g0 ≠ g1; omega)) ⟨g1, 2, none⟩ _ (by show g0 ≠ g1; omega)) : Blk ws1 g0 35 #[Value.bool nb0.neg, Value.slice (some ⟨h0, 0, none⟩) nb0.ws.length nc0, Value.int IntKind.i64 nb0.e])
  have KK1' := Lib.hid (hv ▸ (Blk.set_ (Blk.set_ (Blk.set_ (KK1.out) 0 _) 1 _) 2 _) : Blk ws1 g1 35 #[Value.bool nb1.neg, Value.slice (some ⟨h1, 0, none⟩) nb1.ws.length nc1, Value.int IntKind.i64 nb1.e])
  have HRn0 := Lib.hid (hv ▸ (RL.off (RL.off (RL.off (HRn0.out) ⟨g1, 0, none⟩ _ (by show h0 ≠ g1; exact e50_1)) ⟨g1, 1, none⟩ _ (by show h0 ≠ g1; exact e50_1)) ⟨g1, 2, none⟩ _ (by show h0 ≠ g1; exact e50_1)) : RL ws1 h0 nb0.ws)
  have HRn1 := Lib.hid (hv ▸ (RL.off (RL.off (RL.off (HRn1.out) ⟨g1, 0, none⟩ _ (by show h1 ≠ g1; exact e51_1)) ⟨g1, 1, none⟩ _ (by show h1 ≠ g1; exact e51_1)) ⟨g1, 2, none⟩ _ (by show h1 ≠ g1; exact e51_1)) : RL ws1 h1 nb1.ws)
  go_simp
  clear hv f0 u0 f1 u1 f2 u2
  have DB := DB'
  clear DB'
  have KK0 := KK0'
  clear KK0'
  have KK1 := KK1'
  clear KK1'
  have hS2 := HO.out _ DB.out
  refine hK _ _ hS2 ?_
  clear hK K hS1
  refine wpAnyH_done (by kernel_rfl) ?_ _
  clear hS2
  have K0' := Lib.hid (K0.out.below DB.out K0.out.lt)
  clear K0
  have K1' := Lib.hid (K1.out.below DB.out K1.out.lt)
  clear K1
  have HB' := Lib.hid (below_step HB.out DB.out)
  clear HB HO D6
  have HB := HB'
  clear HB'
  have K0 := K0'
  clear K0'
  have K1 := K1'
  clear K1'
  have K2 := KK0
  clear KK0
  have K3 := KK1
  clear KK1
  have HO := Lib.hid (show ∀ w', Below ws1.heap.size ws1 w' → (Below ws1.heap.size ws1 w' ∧ w'.cell? ⟨gv, 0, none⟩ = some (Value.bool bx.neg) ∧ w'.cell? ⟨gv, 1, none⟩ = some (Value.slice (some ⟨gx, 0, none⟩) bx.ws.length cx) ∧ w'.cell? ⟨gv, 2, none⟩ = some (Value.int IntKind.i64 bx.e) ∧ w'.cell? ⟨gv + 1, 0, none⟩ = some (Value.bool by_.neg) ∧ w'.cell? ⟨gv + 1, 1, none⟩ = some (Value.slice (some ⟨gy, 0, none⟩) by_.ws.length cy) ∧ w'.cell? ⟨gv + 1, 2, none⟩ = some (Value.int IntKind.i64 by_.e) ∧ w'.cell? ⟨g0, 0, none⟩ = some (Value.bool nb0.neg) ∧ w'.cell? ⟨g0, 1, none⟩ = some (Value.slice (some ⟨h0, 0, none⟩) nb0.ws.length nc0) ∧ w'.cell? ⟨g0, 2, none⟩ = some (Value.int IntKind.i64 nb0.e) ∧ w'.cell? ⟨g1, 0, none⟩ = some (Value.bool nb1.neg) ∧ w'.cell? ⟨g1, 1, none⟩ = some (Value.slice (some ⟨h1, 0, none⟩) nb1.ws.length nc1) ∧ w'.cell? ⟨g1, 2, none⟩ = some (Value.int IntKind.i64 nb1.e)) from fun w' h => ⟨h, (K0.out.below h K0.out.lt).cell 0, (K0.out.below h K0.out.lt).cell 1, (K0.out.below h K0.out.lt).cell 2, (K1.out.below h K1.out.lt).cell 0, (K1.out.below h K1.out.lt).cell 1, (K1.out.below h K1.out.lt).cell 2, (K2.out.below h K2.out.lt).cell 0, (K2.out.below h K2.out.lt).cell 1, (K2.out.below h K2.out.lt).cell 2, (K3.out.below h K3.out.lt).cell 0, (K3.out.below h K3.out.lt).cell 1, (K3.out.below h K3.out.lt).cell 2⟩)
  have D7 := Lib.hid (Below.refl ws1.heap.size ws1)
  have hq := (HO.out _ D7.out).2
  have HRn0 := Lib.hid (fun w' (b : Below ws1.heap.size ws1 w') => HRn0.out.below' b)
  have HRn1 := Lib.hid (fun w' (b : Below ws1.heap.size ws1 w') => HRn1.out.below' b)
  clear hq
  go_wp2_with fail
  have hq := (HO.out _ D7.out).2
  refine (R1.out _).mono ?_
  clear hq
  rintro r w8 ⟨rfl, hb⟩
  have D8 := Lib.hid (below_step D7.out hb)
  clear hb
  have hq := (HO.out _ D8.out).2
  go_wp2_with fail
  refine (R2.out _).mono ?_
  clear hq
  rintro r w9 ⟨rfl, hb⟩
  have D9 := Lib.hid (below_step D8.out hb)
  clear hb
  have hq := (HO.out _ D9.out).2
  go_wp2_with fail
  refine (btw_rd (HRn0.out _ D9.out) nc0 HPn0.out (by decide) (by decide) (by decide) DD1.out DD2.out).mono ?_
  clear hq
  rintro r w10 ⟨rfl, hb⟩
  have D10 := Lib.hid (below_step D9.out hb)
  clear hb
  have hq := (HO.out _ D10.out).2
  go_wp2_with fail
  refine (CL1.out _).mono ?_
  clear hq
  rintro r w11 ⟨rfl, hb⟩
  have D11 := Lib.hid (below_step D10.out hb)
  clear hb
  have hq := (HO.out _ D11.out).2
  clear hq
  go_wp2_with fail
  go_wp2_with fail
  refine wp_region_held (S := (fun w' => Below ws1.heap.size ws1 w' ∧ w'.cell? ⟨gv, 0, none⟩ = some (Value.bool bx.neg) ∧ w'.cell? ⟨gv, 1, none⟩ = some (Value.slice (some ⟨gx, 0, none⟩) bx.ws.length cx) ∧ w'.cell? ⟨gv, 2, none⟩ = some (Value.int IntKind.i64 bx.e) ∧ w'.cell? ⟨gv + 1, 0, none⟩ = some (Value.bool by_.neg) ∧ w'.cell? ⟨gv + 1, 1, none⟩ = some (Value.slice (some ⟨gy, 0, none⟩) by_.ws.length cy) ∧ w'.cell? ⟨gv + 1, 2, none⟩ = some (Value.int IntKind.i64 by_.e) ∧ w'.cell? ⟨g0, 0, none⟩ = some (Value.bool nb0.neg) ∧ w'.cell? ⟨g0, 1, none⟩ = some (Value.slice (some ⟨h0, 0, none⟩) nb0.ws.length nc0) ∧ w'.cell? ⟨g0, 2, none⟩ = some (Value.int IntKind.i64 nb0.e) ∧ w'.cell? ⟨g1, 0, none⟩ = some (Value.bool nb1.neg) ∧ w'.cell? ⟨g1, 1, none⟩ = some (Value.slice (some ⟨h1, 0, none⟩) nb1.ws.length nc1) ∧ w'.cell? ⟨g1, 2, none⟩ = some (Value.int IntKind.i64 nb1.e))) (by kernel_rfl) ?_
  (try change wpAnyH _ _ _ _ _ _ _ (World.drew _))
  have hS0 := HO.out _ (Below.drew D11.out)
  refine wpAnyH_takeM (i := 0) (v := ?v11_0x4) (l' := bm 18 1) (a' := ?a11_0x4) rfl (by kernel_rfl) (by kernel_rfl) (by kernel_rfl) (fun _ _ _ h => h) (Or.inl ⟨by kernel_rfl, ?h11_0x4⟩) (by kernel_rfl) ?p11_0x4 hS0 ?r11_0x4
  case h11_0x4 => (intro w hS; go_simp; try with_reducible rfl)
  case p11_0x4 => (go_simp; try with_reducible rfl)
  refine wpAnyH_oneM (i := 1) (l' := bm 18 3) rfl (by kernel_rfl) (by kernel_rfl) (by kernel_rfl) (fun K hK => ?_)
  have hP := hS0.1
  go_simp
  go_at_call 20
  refine (N1.out _).mono ?_
  rintro r w12 ⟨rfl, hb⟩
  dsimp only
  have D12 := Lib.hid (below_step hP hb)
  clear hb
  have hS1 := HO.out _ (D12.out)
  clear hP hS0
  refine hK _ _ hS1 ?_
  clear hK K
  refine wpAnyH_takeM (i := 2) (v := ?v11_2x4) (l' := bm 18 7) (a' := ?a11_2x4) rfl (by kernel_rfl) (by kernel_rfl) (by kernel_rfl) (fun _ _ _ h => h) (Or.inl ⟨by kernel_rfl, ?h11_2x4⟩) (by kernel_rfl) ?p11_2x4 hS1 ?r11_2x4
  case h11_2x4 => (intro w hS; go_simp; try with_reducible rfl)
  case p11_2x4 => (go_simp; try with_reducible rfl)
  refine wpAnyH_takeM (i := 3) (v := undef) (l' := bm 18 15) (a' := ?a11_3x4) rfl (by kernel_rfl) (by kernel_rfl) (by kernel_rfl) (fun _ _ _ h => h) (Or.inr ⟨by kernel_rfl, rfl⟩) (by kernel_rfl) ?p11_3x4 hS1 ?_
  case p11_3x4 => (go_simp; try with_reducible rfl)
  refine wpAnyH_takeM (i := 4) (v := undef) (l' := bm 18 31) (a' := ?a11_4x4) rfl (by kernel_rfl) (by kernel_rfl) (by kernel_rfl) (fun _ _ _ h => h) (Or.inr ⟨by kernel_rfl, rfl⟩) (by kernel_rfl) ?p11_4x4 hS1 ?_
  case p11_4x4 => (go_simp; try with_reducible rfl)
  refine wpAnyH_takeM (i := 5) (v := undef) (l' := bm 18 63) (a' := ?a11_5x4) rfl (by kernel_rfl) (by kernel_rfl) (by kernel_rfl) (fun _ _ _ h => h) (Or.inr ⟨by kernel_rfl, rfl⟩) (by kernel_rfl) ?p11_5x4 hS1 ?_
  case p11_5x4 => (go_simp; try with_reducible rfl)
  refine wpAnyH_takeM (i := 6) (v := undef) (l' := bm 18 127) (a' := ?a11_6x4) rfl (by kernel_rfl) (by kernel_rfl) (by kernel_rfl) (fun _ _ _ h => h) (Or.inr ⟨by kernel_rfl, rfl⟩) (by kernel_rfl) ?p11_6x4 hS1 ?_
  case p11_6x4 => (go_simp; try with_reducible rfl)
  refine wpAnyH_takeM (i := 7) (v := undef) (l' := bm 18 255) (a' := ?a11_7x4) rfl (by kernel_rfl) (by kernel_rfl) (by kernel_rfl) (fun _ _ _ h => h) (Or.inr ⟨by kernel_rfl, rfl⟩) (by kernel_rfl) ?p11_7x4 hS1 ?_
  case p11_7x4 => (go_simp; try with_reducible rfl)
  refine wpAnyH_takeM (i := 8) (v := undef) (l' := bm 18 511) (a' := ?a11_8x4) rfl (by kernel_rfl) (by kernel_rfl) (by kernel_rfl) (fun _ _ _ h => h) (Or.inr ⟨by kernel_rfl, rfl⟩) (by kernel_rfl) ?p11_8x4 hS1 ?_
  case p11_8x4 => (go_simp; try with_reducible rfl)
  refine wpAnyH_takeM (i := 9) (v := undef) (l' := bm 18 1023) (a' := ?a11_9x4) rfl (by kernel_rfl) (by kernel_rfl) (by kernel_rfl) (fun _ _ _ h => h) (Or.inr ⟨by kernel_rfl, rfl⟩) (by kernel_rfl) ?p11_9x4 hS1 ?_
  case p11_9x4 => (go_simp; try with_reducible rfl)
  refine wpAnyH_takeM (i := 10) (v := undef) (l' := bm 18 2047) (a' := ?a11_10x4) rfl (by kernel_rfl) (by kernel_rfl) (by kernel_rfl) (fun _ _ _ h => h) (Or.inr ⟨by kernel_rfl, rfl⟩) (by kernel_rfl) ?p11_10x4 hS1 ?_
  case p11_10x4 => (go_simp; try with_reducible rfl)
  refine wpAnyH_takeM (i := 11) (v := undef) (l' := bm 18 4095) (a' := ?a11_11x4) rfl (by kernel_rfl) (by kernel_rfl) (by kernel_rfl) (fun _ _ _ h => h) (Or.inr ⟨by kernel_rfl, rfl⟩) (by kernel_rfl) ?p11_11x4 hS1 ?_
  case p11_11x4 => (go_simp; try with_reducible rfl)
  refine wpAnyH_takeM (i := 12) (v := undef) (l' := bm 18 8191) (a' := ?a11_12x4) rfl (by kernel_rfl) (by kernel_rfl) (by kernel_rfl) (fun _ _ _ h => h) (Or.inr ⟨by kernel_rfl, rfl⟩) (by kernel_rfl) ?p11_12x4 hS1 ?_
  case p11_12x4 => (go_simp; try with_reducible rfl)
  refine wpAnyH_takeM (i := 13) (v := ?v11_13x4) (l' := bm 18 16383) (a' := ?a11_13x4) rfl (by kernel_rfl) (by kernel_rfl) (by kernel_rfl) (fun _ _ _ h => h) (Or.inl ⟨by kernel_rfl, ?h11_13x4⟩) (by kernel_rfl) ?p11_13x4 hS1 ?r11_13x4
  case h11_13x4 => (intro w hS; go_simp; try with_reducible rfl)
  case p11_13x4 => (go_simp; try with_reducible rfl)
  refine wpAnyH_takeM (i := 14) (v := ?v11_14x4) (l' := bm 18 32767) (a' := ?a11_14x4) rfl (by kernel_rfl) (by kernel_rfl) (by kernel_rfl) (fun _ _ _ h => h) (Or.inl ⟨by kernel_rfl, ?h11_14x4⟩) (by kernel_rfl) ?p11_14x4 hS1 ?r11_14x4
  case h11_14x4 => (intro w hS; go_simp; try with_reducible rfl)
  case p11_14x4 => (go_simp; try with_reducible rfl)
  refine wpAnyH_takeM (i := 15) (v := undef) (l' := bm 18 65535) (a' := ?a11_15x4) rfl (by kernel_rfl) (by kernel_rfl) (by kernel_rfl) (fun _ _ _ h => h) (Or.inr ⟨by kernel_rfl, rfl⟩) (by kernel_rfl) ?p11_15x4 hS1 ?_
  case p11_15x4 => (go_simp; try with_reducible rfl)
  refine wpAnyH_takeM (i := 16) (v := undef) (l' := bm 18 131071) (a' := ?a11_16x4) rfl (by kernel_rfl) (by kernel_rfl) (by kernel_rfl) (fun _ _ _ h => h) (Or.inr ⟨by kernel_rfl, rfl⟩) (by kernel_rfl) ?p11_16x4 hS1 ?_
  case p11_16x4 => (go_simp; try with_reducible rfl)
  refine wpAnyH_takeM (i := 17) (v := ?v11_17x4) (l' := bm 18 262143) (a' := ?a11_17x4) rfl (by kernel_rfl) (by kernel_rfl) (by kernel_rfl) (fun _ _ _ h => h) (Or.inl ⟨by kernel_rfl, ?h11_17x4⟩) (by kernel_rfl) ?p11_17x4 hS1 ?r11_17x4
  case h11_17x4 => (intro w hS; go_simp; try with_reducible rfl)
  case p11_17x4 => (go_simp; try with_reducible rfl)
  refine wpAnyH_done (by kernel_rfl) ?_ _
  clear hS1
  have hq := (HO.out _ D12.out).2
  clear hq
  go_wp2_with fail
  have hq := (HO.out _ D12.out).2
  refine (R3.out _).mono ?_
  clear hq
  rintro r w13 ⟨rfl, hb⟩
  have D13 := Lib.hid (below_step D12.out hb)
  clear hb
  have hq := (HO.out _ D13.out).2
  go_wp2_with fail
  refine (R4.out _).mono ?_
  clear hq
  rintro r w14 ⟨rfl, hb⟩
  have D14 := Lib.hid (below_step D13.out hb)
  clear hb
  have hq := (HO.out _ D14.out).2
  go_wp2_with fail
  refine (btw_rd (HRn1.out _ D14.out) nc1 HPn1.out (by decide) (by decide) (by decide) EE1.out EE2.out).mono ?_
  clear hq
  rintro r w15 ⟨rfl, hb⟩
  have D15 := Lib.hid (below_step D14.out hb)
  clear hb
  have hq := (HO.out _ D15.out).2
  go_wp2_with fail
  refine (CL2.out _).mono ?_
  clear hq
  rintro r w16 ⟨rfl, hb⟩
  have D16 := Lib.hid (below_step D15.out hb)
  clear hb
  have hq := (HO.out _ D16.out).2
  clear hq
  go_wp2_with fail
  go_wp2_with fail
  refine wp_region_held (S := (fun w' => Below ws1.heap.size ws1 w' ∧ w'.cell? ⟨gv, 0, none⟩ = some (Value.bool bx.neg) ∧ w'.cell? ⟨gv, 1, none⟩ = some (Value.slice (some ⟨gx, 0, none⟩) bx.ws.length cx) ∧ w'.cell? ⟨gv, 2, none⟩ = some (Value.int IntKind.i64 bx.e) ∧ w'.cell? ⟨gv + 1, 0, none⟩ = some (Value.bool by_.neg) ∧ w'.cell? ⟨gv + 1, 1, none⟩ = some (Value.slice (some ⟨gy, 0, none⟩) by_.ws.length cy) ∧ w'.cell? ⟨gv + 1, 2, none⟩ = some (Value.int IntKind.i64 by_.e) ∧ w'.cell? ⟨g0, 0, none⟩ = some (Value.bool nb0.neg) ∧ w'.cell? ⟨g0, 1, none⟩ = some (Value.slice (some ⟨h0, 0, none⟩) nb0.ws.length nc0) ∧ w'.cell? ⟨g0, 2, none⟩ = some (Value.int IntKind.i64 nb0.e) ∧ w'.cell? ⟨g1, 0, none⟩ = some (Value.bool nb1.neg) ∧ w'.cell? ⟨g1, 1, none⟩ = some (Value.slice (some ⟨h1, 0, none⟩) nb1.ws.length nc1) ∧ w'.cell? ⟨g1, 2, none⟩ = some (Value.int IntKind.i64 nb1.e))) (by kernel_rfl) ?_
  (try change wpAnyH _ _ _ _ _ _ _ (World.drew _))
  have hS0 := HO.out _ (Below.drew D16.out)
  refine wpAnyH_takeM (i := 0) (v := ?v17_0x4) (l' := bm 21 1) (a' := ?a17_0x4) rfl (by kernel_rfl) (by kernel_rfl) (by kernel_rfl) (fun _ _ _ h => h) (Or.inl ⟨by kernel_rfl, ?h17_0x4⟩) (by kernel_rfl) ?p17_0x4 hS0 ?r17_0x4
  case h17_0x4 => (intro w hS; go_simp; try with_reducible rfl)
  case p17_0x4 => (go_simp; try with_reducible rfl)
  refine wpAnyH_oneM (i := 1) (l' := bm 21 3) rfl (by kernel_rfl) (by kernel_rfl) (by kernel_rfl) (fun K hK => ?_)
  have hP := hS0.1
  go_simp
  go_at_call 20
  refine (N2.out _).mono ?_
  rintro r w17 ⟨rfl, hb⟩
  dsimp only
  have D17 := Lib.hid (below_step hP hb)
  clear hb
  have hS1 := HO.out _ (D17.out)
  clear hP hS0
  refine hK _ _ hS1 ?_
  clear hK K
  refine wpAnyH_takeM (i := 2) (v := ?v17_2x4) (l' := bm 21 7) (a' := ?a17_2x4) rfl (by kernel_rfl) (by kernel_rfl) (by kernel_rfl) (fun _ _ _ h => h) (Or.inl ⟨by kernel_rfl, ?h17_2x4⟩) (by kernel_rfl) ?p17_2x4 hS1 ?r17_2x4
  case h17_2x4 => (intro w hS; go_simp; try with_reducible rfl)
  case p17_2x4 => (go_simp; try with_reducible rfl)
  refine wpAnyH_takeM (i := 3) (v := ?v17_3x4) (l' := bm 21 15) (a' := ?a17_3x4) rfl (by kernel_rfl) (by kernel_rfl) (by kernel_rfl) (fun _ _ _ h => h) (Or.inl ⟨by kernel_rfl, ?h17_3x4⟩) (by kernel_rfl) ?p17_3x4 hS1 ?r17_3x4
  case h17_3x4 => (intro w hS; go_simp; try with_reducible rfl)
  case p17_3x4 => (go_simp; try with_reducible rfl)
  refine wpAnyH_takeM (i := 4) (v := ?v17_4x4) (l' := bm 21 31) (a' := ?a17_4x4) rfl (by kernel_rfl) (by kernel_rfl) (by kernel_rfl) (fun _ _ _ h => h) (Or.inl ⟨by kernel_rfl, ?h17_4x4⟩) (by kernel_rfl) ?p17_4x4 hS1 ?r17_4x4
  case h17_4x4 => (intro w hS; go_simp; try with_reducible rfl)
  case p17_4x4 => (go_simp; try with_reducible rfl)
  refine wpAnyH_oneM (i := 5) (l' := bm 21 63) rfl (by kernel_rfl) (by kernel_rfl) (by kernel_rfl) (fun K hK => ?_)
  have hP := hS1.1
  go_simp
  go_at_call 20
  refine (N3.out _).mono ?_
  rintro r w18 ⟨rfl, hb⟩
  dsimp only
  have D18 := Lib.hid (below_step hP hb)
  clear hb
  have hS2 := HO.out _ (D18.out)
  clear hP hS1
  refine hK _ _ hS2 ?_
  clear hK K
  refine wpAnyH_takeM (i := 6) (v := ?v17_6x4) (l' := bm 21 127) (a' := ?a17_6x4) rfl (by kernel_rfl) (by kernel_rfl) (by kernel_rfl) (fun _ _ _ h => h) (Or.inl ⟨by kernel_rfl, ?h17_6x4⟩) (by kernel_rfl) ?p17_6x4 hS2 ?r17_6x4
  case h17_6x4 => (intro w hS; go_simp; try with_reducible rfl)
  case p17_6x4 => (go_simp; try with_reducible rfl)
  refine wpAnyH_takeM (i := 7) (v := ?v17_7x4) (l' := bm 21 255) (a' := ?a17_7x4) rfl (by kernel_rfl) (by kernel_rfl) (by kernel_rfl) (fun _ _ _ h => h) (Or.inl ⟨by kernel_rfl, ?h17_7x4⟩) (by kernel_rfl) ?p17_7x4 hS2 ?r17_7x4
  case h17_7x4 => (intro w hS; go_simp; try with_reducible rfl)
  case p17_7x4 => (go_simp; try with_reducible rfl)
  refine wpAnyH_takeM (i := 8) (v := ?v17_8x4) (l' := bm 21 511) (a' := ?a17_8x4) rfl (by kernel_rfl) (by kernel_rfl) (by kernel_rfl) (fun _ _ _ h => h) (Or.inl ⟨by kernel_rfl, ?h17_8x4⟩) (by kernel_rfl) ?p17_8x4 hS2 ?r17_8x4
  case h17_8x4 => (intro w hS; go_simp; try with_reducible rfl)
  case p17_8x4 => (go_simp; try with_reducible rfl)
  refine wpAnyH_takeM (i := 9) (v := undef) (l' := bm 21 1023) (a' := ?a17_9x4) rfl (by kernel_rfl) (by kernel_rfl) (by kernel_rfl) (fun _ _ _ h => h) (Or.inr ⟨by kernel_rfl, rfl⟩) (by kernel_rfl) ?p17_9x4 hS2 ?_
  case p17_9x4 => (go_simp; try with_reducible rfl)
  refine wpAnyH_takeM (i := 10) (v := undef) (l' := bm 21 2047) (a' := ?a17_10x4) rfl (by kernel_rfl) (by kernel_rfl) (by kernel_rfl) (fun _ _ _ h => h) (Or.inr ⟨by kernel_rfl, rfl⟩) (by kernel_rfl) ?p17_10x4 hS2 ?_
  case p17_10x4 => (go_simp; try with_reducible rfl)
  refine wpAnyH_takeM (i := 11) (v := undef) (l' := bm 21 4095) (a' := ?a17_11x4) rfl (by kernel_rfl) (by kernel_rfl) (by kernel_rfl) (fun _ _ _ h => h) (Or.inr ⟨by kernel_rfl, rfl⟩) (by kernel_rfl) ?p17_11x4 hS2 ?_
  case p17_11x4 => (go_simp; try with_reducible rfl)
  refine wpAnyH_takeM (i := 12) (v := undef) (l' := bm 21 8191) (a' := ?a17_12x4) rfl (by kernel_rfl) (by kernel_rfl) (by kernel_rfl) (fun _ _ _ h => h) (Or.inr ⟨by kernel_rfl, rfl⟩) (by kernel_rfl) ?p17_12x4 hS2 ?_
  case p17_12x4 => (go_simp; try with_reducible rfl)
  refine wpAnyH_takeM (i := 13) (v := undef) (l' := bm 21 16383) (a' := ?a17_13x4) rfl (by kernel_rfl) (by kernel_rfl) (by kernel_rfl) (fun _ _ _ h => h) (Or.inr ⟨by kernel_rfl, rfl⟩) (by kernel_rfl) ?p17_13x4 hS2 ?_
  case p17_13x4 => (go_simp; try with_reducible rfl)
  refine wpAnyH_takeM (i := 14) (v := undef) (l' := bm 21 32767) (a' := ?a17_14x4) rfl (by kernel_rfl) (by kernel_rfl) (by kernel_rfl) (fun _ _ _ h => h) (Or.inr ⟨by kernel_rfl, rfl⟩) (by kernel_rfl) ?p17_14x4 hS2 ?_
  case p17_14x4 => (go_simp; try with_reducible rfl)
  refine wpAnyH_takeM (i := 15) (v := undef) (l' := bm 21 65535) (a' := ?a17_15x4) rfl (by kernel_rfl) (by kernel_rfl) (by kernel_rfl) (fun _ _ _ h => h) (Or.inr ⟨by kernel_rfl, rfl⟩) (by kernel_rfl) ?p17_15x4 hS2 ?_
  case p17_15x4 => (go_simp; try with_reducible rfl)
  refine wpAnyH_takeM (i := 16) (v := undef) (l' := bm 21 131071) (a' := ?a17_16x4) rfl (by kernel_rfl) (by kernel_rfl) (by kernel_rfl) (fun _ _ _ h => h) (Or.inr ⟨by kernel_rfl, rfl⟩) (by kernel_rfl) ?p17_16x4 hS2 ?_
  case p17_16x4 => (go_simp; try with_reducible rfl)
  refine wpAnyH_takeM (i := 17) (v := undef) (l' := bm 21 262143) (a' := ?a17_17x4) rfl (by kernel_rfl) (by kernel_rfl) (by kernel_rfl) (fun _ _ _ h => h) (Or.inr ⟨by kernel_rfl, rfl⟩) (by kernel_rfl) ?p17_17x4 hS2 ?_
  case p17_17x4 => (go_simp; try with_reducible rfl)
  refine wpAnyH_takeM (i := 18) (v := undef) (l' := bm 21 524287) (a' := ?a17_18x4) rfl (by kernel_rfl) (by kernel_rfl) (by kernel_rfl) (fun _ _ _ h => h) (Or.inr ⟨by kernel_rfl, rfl⟩) (by kernel_rfl) ?p17_18x4 hS2 ?_
  case p17_18x4 => (go_simp; try with_reducible rfl)
  refine wpAnyH_takeM (i := 19) (v := ?v17_19x4) (l' := bm 21 1048575) (a' := ?a17_19x4) rfl (by kernel_rfl) (by kernel_rfl) (by kernel_rfl) (fun _ _ _ h => h) (Or.inl ⟨by kernel_rfl, ?h17_19x4⟩) (by kernel_rfl) ?p17_19x4 hS2 ?r17_19x4
  case h17_19x4 => (intro w hS; go_simp; try with_reducible rfl)
  case p17_19x4 => (go_simp; try with_reducible rfl)
  refine wpAnyH_takeM (i := 20) (v := ?v17_20x4) (l' := bm 21 2097151) (a' := ?a17_20x4) rfl (by kernel_rfl) (by kernel_rfl) (by kernel_rfl) (fun _ _ _ h => h) (Or.inl ⟨by kernel_rfl, ?h17_20x4⟩) (by kernel_rfl) ?p17_20x4 hS2 ?r17_20x4
  case h17_20x4 => (intro w hS; go_simp; try with_reducible rfl)
  case p17_20x4 => (go_simp; try with_reducible rfl)
  refine wpAnyH_done (by kernel_rfl) ?_ _
  clear hS2
  have hq := (HO.out _ D18.out).2
  go_wp2_with fail
  go_ret
  exact ⟨rfl, below_step HB.out D18.out⟩
set_option maxRecDepth 100000 in
set_option maxHeartbeats 8000000 in
theorem real_nc (a b : Nat) (ha : a < 18446744073709551616) (hb : b < 18446744073709551616) (fa : fin a = true) (fb : fin b = true) (c1 : fin (addR a b true).1 = false) (c2 : fin (mulR a b true).1 = true) (c3 : fin (mulR a b false).1 = true) (w : World) : Calls Try.prog 8 #[.float .f64 a, .float .f64 b] w fun r w' => r = .returned (.bool true) ∧ Below w.heap.size w w' := by
  have H0 := Lib.hid awake
  have H1 := Lib.hid (fun w => num_b a ha w)
  have H2 := Lib.hid (fun w => num_b b hb w)
  rw [fa] at H1
  rw [fb] at H2
  have OX := Lib.hid (fun w => of_rp ha fa w)
  have OY := Lib.hid (fun w => of_rp hb fb w)
  have d1 := add_dn fa fb
  have d2 := add_up fa fb
  have e1 := mul_dn fa fb
  have e2 := mul_up fa fb
  have R1 := Lib.hid (fun w => add_any a b true ha hb w)
  have R2 := Lib.hid (fun w => add_any a b false ha hb w)
  have R3 := Lib.hid (fun w => mul_any a b true ha hb w)
  have R4 := Lib.hid (fun w => mul_any a b false ha hb w)
  rw [addR_fin fa fb true] at R1
  rw [addR_fin fa fb false] at R2
  rw [mulR_fin fa fb true] at R3
  rw [mulR_fin fa fb false] at R4
  simp only [pV, numV] at R1 R2 R3 R4
  generalize (addR a b true).1 = lo at *
  generalize (addR a b false).1 = hi at *
  generalize (mulR a b true).1 = lo2 at *
  generalize (mulR a b false).1 = hi2 at *
  have N1 := Lib.hid (fun w => num_b lo d1.gd.lt w)
  have N2 := Lib.hid (fun w => num_b lo2 e1.gd.lt w)
  rw [c1] at N1
  rw [c2] at N2
  have CL1 := Lib.hid (fun w => close_any d1.gd d2.gd (nbr_rd d1 d2) w)
  have CL2 := Lib.hid (fun w => close_any e1.gd e2.gd (nbr_rd e1 e2) w)
  have DD1 := Lib.hid d1
  have DD2 := Lib.hid d2
  have EE1 := Lib.hid e1
  have EE2 := Lib.hid e2
  have N3 := Lib.hid (fun w => num_b hi2 e2.gd.lt w)
  rw [c3] at N3
  have OM := Lib.hid (fun w => of_rp e1.gd.lt c2 w)
  have HQ2 := Lib.hid (diff_q e1 e2 c2)
  obtain ⟨qm_, hq2⟩ : ∃ q, (FloatKind.f64.format.order lo2 hi2 == some .eq) = q := ⟨_, rfl⟩
  rw [hq2] at HQ2
  clear d1 d2 e1 e2 c1 c2 c3 fa fb ha hb
  generalize fv a = xa at *
  generalize fv b = xb at *
  generalize fv lo2 = xm at *
  go_enter Try.func8, Try.ntmps8
  go_wp2_with fail
  obtain ⟨W, hW⟩ : ∃ W, W = w := ⟨_, rfl⟩
  rw [← hW]
  have HB := Lib.hid (hW ▸ Below.refl w.heap.size w : Below w.heap.size w W)
  clear hW
  have HO := Lib.hid (show ∀ w', Below W.heap.size W w' → (Below W.heap.size W w') from fun w' h => h)
  have D0 := Lib.hid (Below.refl W.heap.size W)
  refine (H0.out _).mono ?_
  rintro r w1 ⟨rfl, hb⟩
  have D1 := Lib.hid (below_step D0.out hb)
  clear hb
  go_wp2_with fail
  refine (H1.out _).mono ?_
  rintro r w2 ⟨rfl, hb⟩
  have D2 := Lib.hid (below_step D1.out hb)
  clear hb
  go_wp2_with fail
  refine (H2.out _).mono ?_
  rintro r w3 ⟨rfl, hb⟩
  have D3 := Lib.hid (below_step D2.out hb)
  clear hb
  go_wp2_with fail
  refine (OX.out _).mono ?_
  rintro r w4 ⟨bx, gx, cx, rfl, hrx, hpx, hb⟩
  have D4 := Lib.hid (below_step D3.out hb)
  clear hb
  have HRbx := Lib.hid hrx
  have HPbx := Lib.hid hpx
  clear hrx hpx
  go_wp2_with fail
  refine (OY.out _).mono ?_
  rintro r w5 ⟨by_, gy, cy, rfl, hrx, hpx, hb⟩
  have D5 := Lib.hid (below_step D4.out hb)
  have HRbx := Lib.hid (HRbx.out.below' hb)
  clear hb
  have HRby_ := Lib.hid hrx
  have HPby_ := Lib.hid hpx
  clear hrx hpx
  go_wp2_with fail
  obtain ⟨V, hV, KN0, KN1, hBV, hz⟩ := by2 w5 35 35 #[Value.bool bx.neg, Value.slice (some ⟨gx, 0, none⟩) bx.ws.length cx, Value.int IntKind.i64 bx.e] #[Value.bool by_.neg, Value.slice (some ⟨gy, 0, none⟩) by_.ws.length cy, Value.int IntKind.i64 by_.e]
  rw [← hV]
  have HLTbx := Lib.hid HRbx.out.lt
  have HRbx := Lib.hid (HRbx.out.below' hBV)
  have HLTby_ := Lib.hid HRby_.out.lt
  have HRby_ := Lib.hid (HRby_.out.below' hBV)
  have HB' := Lib.hid (below_step (below_step HB.out D5.out) hBV)
  obtain ⟨gv, hgv⟩ : ∃ g, w5.heap.size = g := ⟨_, rfl⟩
  have hwg : w.heap.size ≤ gv := by rw [← hgv]; exact (below_step HB.out D5.out).size
  have lt_bx : gx < gv := by rw [← hgv]; exact HLTbx.out
  have lt_by_ : gy < gv := by rw [← hgv]; exact HLTby_.out
  rw [hgv] at KN0 KN1
  rw [hgv]
  have K0 := Lib.hid KN0
  have K1 := Lib.hid KN1
  clear HB HO KN0 KN1 hV hBV hz hgv
  have HB := HB'
  clear HB'
  have HO := Lib.hid (show ∀ w', Below V.heap.size V w' → (Below V.heap.size V w' ∧ w'.cell? ⟨gv, 0, none⟩ = some (Value.bool bx.neg) ∧ w'.cell? ⟨gv, 1, none⟩ = some (Value.slice (some ⟨gx, 0, none⟩) bx.ws.length cx) ∧ w'.cell? ⟨gv, 2, none⟩ = some (Value.int IntKind.i64 bx.e) ∧ w'.cell? ⟨gv + 1, 0, none⟩ = some (Value.bool by_.neg) ∧ w'.cell? ⟨gv + 1, 1, none⟩ = some (Value.slice (some ⟨gy, 0, none⟩) by_.ws.length cy) ∧ w'.cell? ⟨gv + 1, 2, none⟩ = some (Value.int IntKind.i64 by_.e)) from fun w' h => ⟨h, (K0.out.below h K0.out.lt).cell 0, (K0.out.below h K0.out.lt).cell 1, (K0.out.below h K0.out.lt).cell 2, (K1.out.below h K1.out.lt).cell 0, (K1.out.below h K1.out.lt).cell 1, (K1.out.below h K1.out.lt).cell 2⟩)
  have D6 := Lib.hid (Below.refl V.heap.size V)
  have hq := (HO.out _ D6.out).2
  have HRbx := Lib.hid (fun w' (b : Below V.heap.size V w') => HRbx.out.below' b)
  have HRby_ := Lib.hid (fun w' (b : Below V.heap.size V w') => HRby_.out.below' b)
  clear hq
  refine wp_region_held (S := (fun w' => Below V.heap.size V w' ∧ w'.cell? ⟨gv, 0, none⟩ = some (Value.bool bx.neg) ∧ w'.cell? ⟨gv, 1, none⟩ = some (Value.slice (some ⟨gx, 0, none⟩) bx.ws.length cx) ∧ w'.cell? ⟨gv, 2, none⟩ = some (Value.int IntKind.i64 bx.e) ∧ w'.cell? ⟨gv + 1, 0, none⟩ = some (Value.bool by_.neg) ∧ w'.cell? ⟨gv + 1, 1, none⟩ = some (Value.slice (some ⟨gy, 0, none⟩) by_.ws.length cy) ∧ w'.cell? ⟨gv + 1, 2, none⟩ = some (Value.int IntKind.i64 by_.e))) (by kernel_rfl) ?_
  change wpAnyH _ _ _ _ _ _ _ _ (World.drew _)
  obtain ⟨wd, hwd⟩ : ∃ x, x = World.drew V := ⟨_, rfl⟩
  rw [← hwd]
  have DD := Lib.hid (hwd ▸ Below.drew D6.out : Below V.heap.size V wd)
  clear hwd
  have hS0 := HO.out _ DD.out
  refine wpAnyH_takeM (i := 0) (v := ?vs6_0) (l' := bm 10 1) (a' := ?as6_0) rfl (by kernel_rfl) (by kernel_rfl) (by kernel_rfl) (fun _ _ _ h => h) (Or.inl ⟨by kernel_rfl, ?hs6_0⟩) (by kernel_rfl) ?ps6_0 hS0 ?rs6_0
  case hs6_0 => (intro w hS; go_simp; try with_reducible rfl)
  case ps6_0 => (go_simp; try with_reducible rfl)
  refine wpAnyH_takeM (i := 1) (v := ?vs6_1) (l' := bm 10 3) (a' := ?as6_1) rfl (by kernel_rfl) (by kernel_rfl) (by kernel_rfl) (fun _ _ _ h => h) (Or.inl ⟨by kernel_rfl, ?hs6_1⟩) (by kernel_rfl) ?ps6_1 hS0 ?rs6_1
  case hs6_1 => (intro w hS; go_simp; try with_reducible rfl)
  case ps6_1 => (go_simp; try with_reducible rfl)
  refine wpAnyH_takeM (i := 3) (v := ?vs6_3) (l' := bm 10 11) (a' := ?as6_3) rfl (by kernel_rfl) (by kernel_rfl) (by kernel_rfl) (fun _ _ _ h => h) (Or.inl ⟨by kernel_rfl, ?hs6_3⟩) (by kernel_rfl) ?ps6_3 hS0 ?rs6_3
  case hs6_3 => (intro w hS; go_simp; try with_reducible rfl)
  case ps6_3 => (go_simp; try with_reducible rfl)
  refine wpAnyH_takeM (i := 4) (v := ?vs6_4) (l' := bm 10 27) (a' := ?as6_4) rfl (by kernel_rfl) (by kernel_rfl) (by kernel_rfl) (fun _ _ _ h => h) (Or.inl ⟨by kernel_rfl, ?hs6_4⟩) (by kernel_rfl) ?ps6_4 hS0 ?rs6_4
  case hs6_4 => (intro w hS; go_simp; try with_reducible rfl)
  case ps6_4 => (go_simp; try with_reducible rfl)
  refine wpAnyH_sets (N := 10) (stop := 255) (F := 2) (m := 27) (R := [2, 5, 6, 7]) (M := [27, 91, 155, 219, 31, 95, 159, 223, 63, 127, 191, 255]) (fun a0 m a w9 => ∃ (v0 v1 p0 p1 : Value) (g0 g1 h0 h1 : Nat), a = ((((a0.put (some 29) v0).put (some 32) v1).put (some 7) p0).put (some 8) p1) ∧ Below V.heap.size V w9 ∧ (m.testBit 2 = true → BigG w9 v0 h0 (xa + xb) (2 * (((971 : Int) - -1074).toNat / 32) + 2 + 2 + 2) (-1074) (971)) ∧ (m.testBit 5 = true → BigG w9 v1 h1 (xa * xb) (2 + 2 + 1) (-1074 + -1074) (971 + 971)) ∧ (m.testBit 6 = true → p0 = .pointer (some ⟨g0, 0, none⟩) ∧ Blk w9 g0 35 #[Value.bool false, Value.slice none 0 0, Value.int IntKind.i64 0] ∧ V.heap.size ≤ g0) ∧ (m.testBit 7 = true → p1 = .pointer (some ⟨g1, 0, none⟩) ∧ Blk w9 g1 35 #[Value.bool false, Value.slice none 0 0, Value.int IntKind.i64 0] ∧ V.heap.size ≤ g1) ∧ (m.testBit 6 = true → m.testBit 7 = true → g0 ≠ g1) ∧ (m.testBit 2 = true → m.testBit 6 = true → h0 ≠ g0) ∧ (m.testBit 2 = true → m.testBit 7 = true → h0 ≠ g1) ∧ (m.testBit 5 = true → m.testBit 6 = true → h1 ≠ g0) ∧ (m.testBit 5 = true → m.testBit 7 = true → h1 ≠ g1)) (by kernel_rfl) (by kernel_rfl) (by kernel_rfl) ?st6 ?sp6 ?re6
  case st6 =>
    exact ⟨undef, undef, undef, undef, 0, 0, 0, 0, by go_simp, DD.out, fun h => absurd h (by decide), fun h => absurd h (by decide), fun h => absurd h (by decide), fun h => absurd h (by decide), fun h => absurd h (by decide), fun h => absurd h (by decide), fun h => absurd h (by decide), fun h => absurd h (by decide), fun h => absurd h (by decide)⟩
  case sp6 =>
    intro m a' w9 i hi hm hJ
    obtain ⟨v0, v1, p0, p1, g0, g1, h0, h1, rfl, hb0, c0, c1, q0, q1, d0_1, b0_0, b0_1, b1_0, b1_1⟩ := hJ
    have C0 := Lib.hid c0
    have C1 := Lib.hid c1
    have Q0 := Lib.hid q0
    have Q1 := Lib.hid q1
    have D0_1 := Lib.hid d0_1
    have B0_0 := Lib.hid b0_0
    have B0_1 := Lib.hid b0_1
    have B1_0 := Lib.hid b1_0
    have B1_1 := Lib.hid b1_1
    have HB0 := Lib.hid hb0
    have hS9 := HO.out _ hb0
    clear c0 c1 q0 q1 d0_1 b0_0 b0_1 b1_0 b1_1 hb0 hm hS0
    simp only [List.mem_cons, List.not_mem_nil, or_false] at hi
    rcases hi with rfl | rfl | rfl | rfl
    · refine wpOp_at rfl (by kernel_rfl) (fun K hK => ?_)
      go_simp
      go_at_call 30
      refine (add_rq (HRbx.out _ HB0.out) (HRby_.out _ HB0.out) cx cy HPbx.out HPby_.out (by decide) (by decide) (by decide) (by decide)).mono ?_
      rintro r w10 ⟨vn, hn, rfl, kn, ln, hb⟩
      dsimp only
      have hb1 := below_step HB0.out hb
      exact hK _ _ ⟨HO.out _ hb1, vn, v1, p0, p1, g0, g1, hn, h1, by go_simp, hb1, fun _ => kn, fun h => (C1.out (by rwa [tb_ne (by decide)] at h)).below hb, fun h => ⟨(Q0.out (by rwa [tb_ne (by decide)] at h)).1, (Q0.out (by rwa [tb_ne (by decide)] at h)).2.1.below hb (Q0.out (by rwa [tb_ne (by decide)] at h)).2.1.lt, (Q0.out (by rwa [tb_ne (by decide)] at h)).2.2⟩, fun h => ⟨(Q1.out (by rwa [tb_ne (by decide)] at h)).1, (Q1.out (by rwa [tb_ne (by decide)] at h)).2.1.below hb (Q1.out (by rwa [tb_ne (by decide)] at h)).2.1.lt, (Q1.out (by rwa [tb_ne (by decide)] at h)).2.2⟩, fun h h' => D0_1.out (by rwa [tb_ne (by decide)] at h) (by rwa [tb_ne (by decide)] at h'), fun h h' => Nat.ne_of_gt (Nat.lt_of_lt_of_le (Q0.out (by rwa [tb_ne (by decide)] at h')).2.1.lt ln), fun h h' => Nat.ne_of_gt (Nat.lt_of_lt_of_le (Q1.out (by rwa [tb_ne (by decide)] at h')).2.1.lt ln), fun h h' => B1_0.out (by rwa [tb_ne (by decide)] at h) (by rwa [tb_ne (by decide)] at h'), fun h h' => B1_1.out (by rwa [tb_ne (by decide)] at h) (by rwa [tb_ne (by decide)] at h')⟩
    · refine wpOp_at rfl (by kernel_rfl) (fun K hK => ?_)
      go_simp
      go_at_call 25
      refine (mul_rq (HRbx.out _ HB0.out) (HRby_.out _ HB0.out) cx cy HPbx.out HPby_.out (by decide) (by decide) (by decide) (by decide) (by decide) (by decide)).mono ?_
      rintro r w10 ⟨vn, hn, rfl, kn, ln, hb⟩
      dsimp only
      have hb1 := below_step HB0.out hb
      exact hK _ _ ⟨HO.out _ hb1, v0, vn, p0, p1, g0, g1, h0, hn, by go_simp, hb1, fun h => (C0.out (by rwa [tb_ne (by decide)] at h)).below hb, fun _ => kn, fun h => ⟨(Q0.out (by rwa [tb_ne (by decide)] at h)).1, (Q0.out (by rwa [tb_ne (by decide)] at h)).2.1.below hb (Q0.out (by rwa [tb_ne (by decide)] at h)).2.1.lt, (Q0.out (by rwa [tb_ne (by decide)] at h)).2.2⟩, fun h => ⟨(Q1.out (by rwa [tb_ne (by decide)] at h)).1, (Q1.out (by rwa [tb_ne (by decide)] at h)).2.1.below hb (Q1.out (by rwa [tb_ne (by decide)] at h)).2.1.lt, (Q1.out (by rwa [tb_ne (by decide)] at h)).2.2⟩, fun h h' => D0_1.out (by rwa [tb_ne (by decide)] at h) (by rwa [tb_ne (by decide)] at h'), fun h h' => B0_0.out (by rwa [tb_ne (by decide)] at h) (by rwa [tb_ne (by decide)] at h'), fun h h' => B0_1.out (by rwa [tb_ne (by decide)] at h) (by rwa [tb_ne (by decide)] at h'), fun h h' => Nat.ne_of_gt (Nat.lt_of_lt_of_le (Q0.out (by rwa [tb_ne (by decide)] at h')).2.1.lt ln), fun h h' => Nat.ne_of_gt (Nat.lt_of_lt_of_le (Q1.out (by rwa [tb_ne (by decide)] at h')).2.1.lt ln)⟩
    · refine wpOp_at rfl (by kernel_rfl) (fun K hK => ?_)
      go_simp
      have hb1 := below_more HB0.out (.cells #[Value.bool false, Value.slice none 0 0, Value.int IntKind.i64 0] 35)
      exact hK _ _ ⟨HO.out _ hb1, v0, v1, .pointer (some ⟨w9.heap.size, 0, none⟩), p1, w9.heap.size, g1, h0, h1, by go_simp, hb1, fun h => (C0.out (by rwa [tb_ne (by decide)] at h)).below (below_new _ _), fun h => (C1.out (by rwa [tb_ne (by decide)] at h)).below (below_new _ _), fun _ => ⟨rfl, Blk.new_at _ _ _ rfl, HB0.out.size⟩, fun h => ⟨(Q1.out (by rwa [tb_ne (by decide)] at h)).1, (Q1.out (by rwa [tb_ne (by decide)] at h)).2.1.alloc _, (Q1.out (by rwa [tb_ne (by decide)] at h)).2.2⟩, fun h h' => Nat.ne_of_gt (Q1.out (by rwa [tb_ne (by decide)] at h')).2.1.lt, fun h h' => Nat.ne_of_lt (C0.out (by rwa [tb_ne (by decide)] at h)).lt, fun h h' => B0_1.out (by rwa [tb_ne (by decide)] at h) (by rwa [tb_ne (by decide)] at h'), fun h h' => Nat.ne_of_lt (C1.out (by rwa [tb_ne (by decide)] at h)).lt, fun h h' => B1_1.out (by rwa [tb_ne (by decide)] at h) (by rwa [tb_ne (by decide)] at h')⟩
    · refine wpOp_at rfl (by kernel_rfl) (fun K hK => ?_)
      go_simp
      have hb1 := below_more HB0.out (.cells #[Value.bool false, Value.slice none 0 0, Value.int IntKind.i64 0] 35)
      exact hK _ _ ⟨HO.out _ hb1, v0, v1, p0, .pointer (some ⟨w9.heap.size, 0, none⟩), g0, w9.heap.size, h0, h1, by go_simp, hb1, fun h => (C0.out (by rwa [tb_ne (by decide)] at h)).below (below_new _ _), fun h => (C1.out (by rwa [tb_ne (by decide)] at h)).below (below_new _ _), fun h => ⟨(Q0.out (by rwa [tb_ne (by decide)] at h)).1, (Q0.out (by rwa [tb_ne (by decide)] at h)).2.1.alloc _, (Q0.out (by rwa [tb_ne (by decide)] at h)).2.2⟩, fun _ => ⟨rfl, Blk.new_at _ _ _ rfl, HB0.out.size⟩, fun h h' => Nat.ne_of_lt (Q0.out (by rwa [tb_ne (by decide)] at h)).2.1.lt, fun h h' => B0_0.out (by rwa [tb_ne (by decide)] at h) (by rwa [tb_ne (by decide)] at h'), fun h h' => Nat.ne_of_lt (C0.out (by rwa [tb_ne (by decide)] at h)).lt, fun h h' => B1_0.out (by rwa [tb_ne (by decide)] at h) (by rwa [tb_ne (by decide)] at h'), fun h h' => Nat.ne_of_lt (C1.out (by rwa [tb_ne (by decide)] at h)).lt⟩
  intro a' w9 hJ
  obtain ⟨v0, v1, p0, p1, g0, g1, h0, h1, rfl, hb0, c0, c1, q0, q1, d0_1, b0_0, b0_1, b1_0, b1_1⟩ := hJ
  obtain ⟨nb0, nc0, rfl, hrn0, hpn0⟩ := c0 (by decide)
  have HRn0 := Lib.hid hrn0
  have HPn0 := Lib.hid hpn0
  clear hrn0 hpn0
  obtain ⟨nb1, nc1, rfl, hrn1, hpn1⟩ := c1 (by decide)
  have HRn1 := Lib.hid hrn1
  have HPn1 := Lib.hid hpn1
  clear hrn1 hpn1
  have e50_0 := b0_0 (by decide) (by decide)
  clear b0_0
  have e50_1 := b0_1 (by decide) (by decide)
  clear b0_1
  have e51_0 := b1_0 (by decide) (by decide)
  clear b1_0
  have e51_1 := b1_1 (by decide) (by decide)
  clear b1_1
  obtain ⟨rfl, k0, l0⟩ := q0 (by decide)
  obtain ⟨rfl, k1, l1⟩ := q1 (by decide)
  have e0_1 := d0_1 (by decide) (by decide)
  clear d0_1
  have DB := Lib.hid hb0
  clear hb0 hS0
  have KK0 := Lib.hid k0
  clear k0
  have KK1 := Lib.hid k1
  clear k1
  refine wpAnyH_frame (a' := ?fr6) ?fe6 ?fg6
  case fe6 => (go_simp; try with_reducible rfl)
  have hS0 := HO.out _ DB.out
  refine wpAnyH_oneM (i := 8) (l' := bm 10 511) rfl (by kernel_rfl) (by kernel_rfl) (by kernel_rfl) (fun K hK => ?_)
  have f0 := KK0.out.cell 0
  have u0 := KK0.out.frz 0
  have f1 := KK0.out.cell 1
  have u1 := KK0.out.frz 1
  have f2 := KK0.out.cell 2
  have u2 := KK0.out.frz 2
  obtain ⟨ws0, hv⟩ : ∃ V, (((w9.setCell ⟨g0, 0, none⟩ (Value.bool nb0.neg)).setCell ⟨g0, 1, none⟩ (Value.slice (some ⟨h0, 0, none⟩) nb0.ws.length nc0)).setCell ⟨g0, 2, none⟩ (Value.int IntKind.i64 nb0.e)) = V := ⟨_, rfl⟩
  have DB' := Lib.hid (hv ▸ Below.setCell (Below.setCell (Below.setCell (DB.out) l0 _) l0 _) l0 _ : Below V.heap.size V ws0)
  have KK0' := Lib.hid (hv ▸ (Blk.set_ (Blk.set_ (Blk.set_ (KK0.out) 0 _) 1 _) 2 _) : Blk ws0 g0 35 #[Value.bool nb0.neg, Value.slice (some ⟨h0, 0, none⟩) nb0.ws.length nc0, Value.int IntKind.i64 nb0.e])
  have KK1' := Lib.hid (hv ▸ (Blk.off (Blk.off (Blk.off (KK1.out) ⟨g0, 0, none⟩ _ (by show g1 ≠ g0; omega)) ⟨g0, 1, none⟩ _ (by show g1 ≠ g0; omega)) ⟨g0, 2, none⟩ _ (by show g1 ≠ g0; omega)) : Blk ws0 g1 35 #[Value.bool false, Value.slice none 0 0, Value.int IntKind.i64 0])
  have HRn0 := Lib.hid (hv ▸ (RL.off (RL.off (RL.off (HRn0.out) ⟨g0, 0, none⟩ _ (by show h0 ≠ g0; exact e50_0)) ⟨g0, 1, none⟩ _ (by show h0 ≠ g0; exact e50_0)) ⟨g0, 2, none⟩ _ (by show h0 ≠ g0; exact e50_0)) : RL ws0 h0 nb0.ws)
  have HRn1 := Lib.hid (hv ▸ (RL.off (RL.off (RL.off (HRn1.out) ⟨g0, 0, none⟩ _ (by show h1 ≠ g0; exact e51_0)) ⟨g0, 1, none⟩ _ (by show h1 ≠ g0; exact e51_0)) ⟨g0, 2, none⟩ _ (by show h1 ≠ g0; exact e51_0)) : RL ws0 h1 nb1.ws)
  go_simp
  clear hv f0 u0 f1 u1 f2 u2
  have DB := DB'
  clear DB'
  have KK0 := KK0'
  clear KK0'
  have KK1 := KK1'
  clear KK1'
  have hS1 := HO.out _ DB.out
  refine hK _ _ hS1 ?_
  clear hK K hS0
  refine wpAnyH_oneM (i := 9) (l' := bm 10 1023) rfl (by kernel_rfl) (by kernel_rfl) (by kernel_rfl) (fun K hK => ?_)
  have f0 := KK1.out.cell 0
  have u0 := KK1.out.frz 0
  have f1 := KK1.out.cell 1
  have u1 := KK1.out.frz 1
  have f2 := KK1.out.cell 2
  have u2 := KK1.out.frz 2
  obtain ⟨ws1, hv⟩ : ∃ V, (((ws0.setCell ⟨g1, 0, none⟩ (Value.bool nb1.neg)).setCell ⟨g1, 1, none⟩ (Value.slice (some ⟨h1, 0, none⟩) nb1.ws.length nc1)).setCell ⟨g1, 2, none⟩ (Value.int IntKind.i64 nb1.e)) = V := ⟨_, rfl⟩
  have DB' := Lib.hid (hv ▸ Below.setCell (Below.setCell (Below.setCell (DB.out) l1 _) l1 _) l1 _ : Below V.heap.size V ws1)
  have KK0' := Lib.hid (hv ▸ (Blk.off (Blk.off (Blk.off (KK0.out) ⟨g1, 0, none⟩ _ (by show g0 ≠ g1; omega)) ⟨g1, 1, none⟩ _ (by show g0 ≠ g1; omega)) ⟨g1, 2, none⟩ _ (by show g0 ≠ g1; omega)) : Blk ws1 g0 35 #[Value.bool nb0.neg, Value.slice (some ⟨h0, 0, none⟩) nb0.ws.length nc0, Value.int IntKind.i64 nb0.e])
  have KK1' := Lib.hid (hv ▸ (Blk.set_ (Blk.set_ (Blk.set_ (KK1.out) 0 _) 1 _) 2 _) : Blk ws1 g1 35 #[Value.bool nb1.neg, Value.slice (some ⟨h1, 0, none⟩) nb1.ws.length nc1, Value.int IntKind.i64 nb1.e])
  have HRn0 := Lib.hid (hv ▸ (RL.off (RL.off (RL.off (HRn0.out) ⟨g1, 0, none⟩ _ (by show h0 ≠ g1; exact e50_1)) ⟨g1, 1, none⟩ _ (by show h0 ≠ g1; exact e50_1)) ⟨g1, 2, none⟩ _ (by show h0 ≠ g1; exact e50_1)) : RL ws1 h0 nb0.ws)
  have HRn1 := Lib.hid (hv ▸ (RL.off (RL.off (RL.off (HRn1.out) ⟨g1, 0, none⟩ _ (by show h1 ≠ g1; exact e51_1)) ⟨g1, 1, none⟩ _ (by show h1 ≠ g1; exact e51_1)) ⟨g1, 2, none⟩ _ (by show h1 ≠ g1; exact e51_1)) : RL ws1 h1 nb1.ws)
  go_simp
  clear hv f0 u0 f1 u1 f2 u2
  have DB := DB'
  clear DB'
  have KK0 := KK0'
  clear KK0'
  have KK1 := KK1'
  clear KK1'
  have hS2 := HO.out _ DB.out
  refine hK _ _ hS2 ?_
  clear hK K hS1
  refine wpAnyH_done (by kernel_rfl) ?_ _
  clear hS2
  have K0' := Lib.hid (K0.out.below DB.out K0.out.lt)
  clear K0
  have K1' := Lib.hid (K1.out.below DB.out K1.out.lt)
  clear K1
  have HB' := Lib.hid (below_step HB.out DB.out)
  clear HB HO D6
  have HB := HB'
  clear HB'
  have K0 := K0'
  clear K0'
  have K1 := K1'
  clear K1'
  have K2 := KK0
  clear KK0
  have K3 := KK1
  clear KK1
  have HO := Lib.hid (show ∀ w', Below ws1.heap.size ws1 w' → (Below ws1.heap.size ws1 w' ∧ w'.cell? ⟨gv, 0, none⟩ = some (Value.bool bx.neg) ∧ w'.cell? ⟨gv, 1, none⟩ = some (Value.slice (some ⟨gx, 0, none⟩) bx.ws.length cx) ∧ w'.cell? ⟨gv, 2, none⟩ = some (Value.int IntKind.i64 bx.e) ∧ w'.cell? ⟨gv + 1, 0, none⟩ = some (Value.bool by_.neg) ∧ w'.cell? ⟨gv + 1, 1, none⟩ = some (Value.slice (some ⟨gy, 0, none⟩) by_.ws.length cy) ∧ w'.cell? ⟨gv + 1, 2, none⟩ = some (Value.int IntKind.i64 by_.e) ∧ w'.cell? ⟨g0, 0, none⟩ = some (Value.bool nb0.neg) ∧ w'.cell? ⟨g0, 1, none⟩ = some (Value.slice (some ⟨h0, 0, none⟩) nb0.ws.length nc0) ∧ w'.cell? ⟨g0, 2, none⟩ = some (Value.int IntKind.i64 nb0.e) ∧ w'.cell? ⟨g1, 0, none⟩ = some (Value.bool nb1.neg) ∧ w'.cell? ⟨g1, 1, none⟩ = some (Value.slice (some ⟨h1, 0, none⟩) nb1.ws.length nc1) ∧ w'.cell? ⟨g1, 2, none⟩ = some (Value.int IntKind.i64 nb1.e)) from fun w' h => ⟨h, (K0.out.below h K0.out.lt).cell 0, (K0.out.below h K0.out.lt).cell 1, (K0.out.below h K0.out.lt).cell 2, (K1.out.below h K1.out.lt).cell 0, (K1.out.below h K1.out.lt).cell 1, (K1.out.below h K1.out.lt).cell 2, (K2.out.below h K2.out.lt).cell 0, (K2.out.below h K2.out.lt).cell 1, (K2.out.below h K2.out.lt).cell 2, (K3.out.below h K3.out.lt).cell 0, (K3.out.below h K3.out.lt).cell 1, (K3.out.below h K3.out.lt).cell 2⟩)
  have D7 := Lib.hid (Below.refl ws1.heap.size ws1)
  have hq := (HO.out _ D7.out).2
  have HRn0 := Lib.hid (fun w' (b : Below ws1.heap.size ws1 w') => HRn0.out.below' b)
  have HRn1 := Lib.hid (fun w' (b : Below ws1.heap.size ws1 w') => HRn1.out.below' b)
  clear hq
  go_wp2_with fail
  have hq := (HO.out _ D7.out).2
  refine (R1.out _).mono ?_
  clear hq
  rintro r w8 ⟨rfl, hb⟩
  have D8 := Lib.hid (below_step D7.out hb)
  clear hb
  have hq := (HO.out _ D8.out).2
  go_wp2_with fail
  refine (R2.out _).mono ?_
  clear hq
  rintro r w9 ⟨rfl, hb⟩
  have D9 := Lib.hid (below_step D8.out hb)
  clear hb
  have hq := (HO.out _ D9.out).2
  go_wp2_with fail
  refine (btw_rd (HRn0.out _ D9.out) nc0 HPn0.out (by decide) (by decide) (by decide) DD1.out DD2.out).mono ?_
  clear hq
  rintro r w10 ⟨rfl, hb⟩
  have D10 := Lib.hid (below_step D9.out hb)
  clear hb
  have hq := (HO.out _ D10.out).2
  go_wp2_with fail
  refine (CL1.out _).mono ?_
  clear hq
  rintro r w11 ⟨rfl, hb⟩
  have D11 := Lib.hid (below_step D10.out hb)
  clear hb
  have hq := (HO.out _ D11.out).2
  clear hq
  go_wp2_with fail
  go_wp2_with fail
  refine wp_region_held (S := (fun w' => Below ws1.heap.size ws1 w' ∧ w'.cell? ⟨gv, 0, none⟩ = some (Value.bool bx.neg) ∧ w'.cell? ⟨gv, 1, none⟩ = some (Value.slice (some ⟨gx, 0, none⟩) bx.ws.length cx) ∧ w'.cell? ⟨gv, 2, none⟩ = some (Value.int IntKind.i64 bx.e) ∧ w'.cell? ⟨gv + 1, 0, none⟩ = some (Value.bool by_.neg) ∧ w'.cell? ⟨gv + 1, 1, none⟩ = some (Value.slice (some ⟨gy, 0, none⟩) by_.ws.length cy) ∧ w'.cell? ⟨gv + 1, 2, none⟩ = some (Value.int IntKind.i64 by_.e) ∧ w'.cell? ⟨g0, 0, none⟩ = some (Value.bool nb0.neg) ∧ w'.cell? ⟨g0, 1, none⟩ = some (Value.slice (some ⟨h0, 0, none⟩) nb0.ws.length nc0) ∧ w'.cell? ⟨g0, 2, none⟩ = some (Value.int IntKind.i64 nb0.e) ∧ w'.cell? ⟨g1, 0, none⟩ = some (Value.bool nb1.neg) ∧ w'.cell? ⟨g1, 1, none⟩ = some (Value.slice (some ⟨h1, 0, none⟩) nb1.ws.length nc1) ∧ w'.cell? ⟨g1, 2, none⟩ = some (Value.int IntKind.i64 nb1.e))) (by kernel_rfl) ?_
  (try change wpAnyH _ _ _ _ _ _ _ (World.drew _))
  have hS0 := HO.out _ (Below.drew D11.out)
  refine wpAnyH_takeM (i := 0) (v := ?v11_0x5) (l' := bm 18 1) (a' := ?a11_0x5) rfl (by kernel_rfl) (by kernel_rfl) (by kernel_rfl) (fun _ _ _ h => h) (Or.inl ⟨by kernel_rfl, ?h11_0x5⟩) (by kernel_rfl) ?p11_0x5 hS0 ?r11_0x5
  case h11_0x5 => (intro w hS; go_simp; try with_reducible rfl)
  case p11_0x5 => (go_simp; try with_reducible rfl)
  refine wpAnyH_oneM (i := 1) (l' := bm 18 3) rfl (by kernel_rfl) (by kernel_rfl) (by kernel_rfl) (fun K hK => ?_)
  have hP := hS0.1
  go_simp
  go_at_call 20
  refine (N1.out _).mono ?_
  rintro r w12 ⟨rfl, hb⟩
  dsimp only
  have D12 := Lib.hid (below_step hP hb)
  clear hb
  have hS1 := HO.out _ (D12.out)
  clear hP hS0
  refine hK _ _ hS1 ?_
  clear hK K
  refine wpAnyH_takeM (i := 2) (v := ?v11_2x5) (l' := bm 18 7) (a' := ?a11_2x5) rfl (by kernel_rfl) (by kernel_rfl) (by kernel_rfl) (fun _ _ _ h => h) (Or.inl ⟨by kernel_rfl, ?h11_2x5⟩) (by kernel_rfl) ?p11_2x5 hS1 ?r11_2x5
  case h11_2x5 => (intro w hS; go_simp; try with_reducible rfl)
  case p11_2x5 => (go_simp; try with_reducible rfl)
  refine wpAnyH_takeM (i := 3) (v := undef) (l' := bm 18 15) (a' := ?a11_3x5) rfl (by kernel_rfl) (by kernel_rfl) (by kernel_rfl) (fun _ _ _ h => h) (Or.inr ⟨by kernel_rfl, rfl⟩) (by kernel_rfl) ?p11_3x5 hS1 ?_
  case p11_3x5 => (go_simp; try with_reducible rfl)
  refine wpAnyH_takeM (i := 4) (v := undef) (l' := bm 18 31) (a' := ?a11_4x5) rfl (by kernel_rfl) (by kernel_rfl) (by kernel_rfl) (fun _ _ _ h => h) (Or.inr ⟨by kernel_rfl, rfl⟩) (by kernel_rfl) ?p11_4x5 hS1 ?_
  case p11_4x5 => (go_simp; try with_reducible rfl)
  refine wpAnyH_takeM (i := 5) (v := undef) (l' := bm 18 63) (a' := ?a11_5x5) rfl (by kernel_rfl) (by kernel_rfl) (by kernel_rfl) (fun _ _ _ h => h) (Or.inr ⟨by kernel_rfl, rfl⟩) (by kernel_rfl) ?p11_5x5 hS1 ?_
  case p11_5x5 => (go_simp; try with_reducible rfl)
  refine wpAnyH_takeM (i := 6) (v := undef) (l' := bm 18 127) (a' := ?a11_6x5) rfl (by kernel_rfl) (by kernel_rfl) (by kernel_rfl) (fun _ _ _ h => h) (Or.inr ⟨by kernel_rfl, rfl⟩) (by kernel_rfl) ?p11_6x5 hS1 ?_
  case p11_6x5 => (go_simp; try with_reducible rfl)
  refine wpAnyH_takeM (i := 7) (v := undef) (l' := bm 18 255) (a' := ?a11_7x5) rfl (by kernel_rfl) (by kernel_rfl) (by kernel_rfl) (fun _ _ _ h => h) (Or.inr ⟨by kernel_rfl, rfl⟩) (by kernel_rfl) ?p11_7x5 hS1 ?_
  case p11_7x5 => (go_simp; try with_reducible rfl)
  refine wpAnyH_takeM (i := 8) (v := undef) (l' := bm 18 511) (a' := ?a11_8x5) rfl (by kernel_rfl) (by kernel_rfl) (by kernel_rfl) (fun _ _ _ h => h) (Or.inr ⟨by kernel_rfl, rfl⟩) (by kernel_rfl) ?p11_8x5 hS1 ?_
  case p11_8x5 => (go_simp; try with_reducible rfl)
  refine wpAnyH_takeM (i := 9) (v := undef) (l' := bm 18 1023) (a' := ?a11_9x5) rfl (by kernel_rfl) (by kernel_rfl) (by kernel_rfl) (fun _ _ _ h => h) (Or.inr ⟨by kernel_rfl, rfl⟩) (by kernel_rfl) ?p11_9x5 hS1 ?_
  case p11_9x5 => (go_simp; try with_reducible rfl)
  refine wpAnyH_takeM (i := 10) (v := undef) (l' := bm 18 2047) (a' := ?a11_10x5) rfl (by kernel_rfl) (by kernel_rfl) (by kernel_rfl) (fun _ _ _ h => h) (Or.inr ⟨by kernel_rfl, rfl⟩) (by kernel_rfl) ?p11_10x5 hS1 ?_
  case p11_10x5 => (go_simp; try with_reducible rfl)
  refine wpAnyH_takeM (i := 11) (v := undef) (l' := bm 18 4095) (a' := ?a11_11x5) rfl (by kernel_rfl) (by kernel_rfl) (by kernel_rfl) (fun _ _ _ h => h) (Or.inr ⟨by kernel_rfl, rfl⟩) (by kernel_rfl) ?p11_11x5 hS1 ?_
  case p11_11x5 => (go_simp; try with_reducible rfl)
  refine wpAnyH_takeM (i := 12) (v := undef) (l' := bm 18 8191) (a' := ?a11_12x5) rfl (by kernel_rfl) (by kernel_rfl) (by kernel_rfl) (fun _ _ _ h => h) (Or.inr ⟨by kernel_rfl, rfl⟩) (by kernel_rfl) ?p11_12x5 hS1 ?_
  case p11_12x5 => (go_simp; try with_reducible rfl)
  refine wpAnyH_takeM (i := 13) (v := ?v11_13x5) (l' := bm 18 16383) (a' := ?a11_13x5) rfl (by kernel_rfl) (by kernel_rfl) (by kernel_rfl) (fun _ _ _ h => h) (Or.inl ⟨by kernel_rfl, ?h11_13x5⟩) (by kernel_rfl) ?p11_13x5 hS1 ?r11_13x5
  case h11_13x5 => (intro w hS; go_simp; try with_reducible rfl)
  case p11_13x5 => (go_simp; try with_reducible rfl)
  refine wpAnyH_takeM (i := 14) (v := ?v11_14x5) (l' := bm 18 32767) (a' := ?a11_14x5) rfl (by kernel_rfl) (by kernel_rfl) (by kernel_rfl) (fun _ _ _ h => h) (Or.inl ⟨by kernel_rfl, ?h11_14x5⟩) (by kernel_rfl) ?p11_14x5 hS1 ?r11_14x5
  case h11_14x5 => (intro w hS; go_simp; try with_reducible rfl)
  case p11_14x5 => (go_simp; try with_reducible rfl)
  refine wpAnyH_takeM (i := 15) (v := undef) (l' := bm 18 65535) (a' := ?a11_15x5) rfl (by kernel_rfl) (by kernel_rfl) (by kernel_rfl) (fun _ _ _ h => h) (Or.inr ⟨by kernel_rfl, rfl⟩) (by kernel_rfl) ?p11_15x5 hS1 ?_
  case p11_15x5 => (go_simp; try with_reducible rfl)
  refine wpAnyH_takeM (i := 16) (v := undef) (l' := bm 18 131071) (a' := ?a11_16x5) rfl (by kernel_rfl) (by kernel_rfl) (by kernel_rfl) (fun _ _ _ h => h) (Or.inr ⟨by kernel_rfl, rfl⟩) (by kernel_rfl) ?p11_16x5 hS1 ?_
  case p11_16x5 => (go_simp; try with_reducible rfl)
  refine wpAnyH_takeM (i := 17) (v := ?v11_17x5) (l' := bm 18 262143) (a' := ?a11_17x5) rfl (by kernel_rfl) (by kernel_rfl) (by kernel_rfl) (fun _ _ _ h => h) (Or.inl ⟨by kernel_rfl, ?h11_17x5⟩) (by kernel_rfl) ?p11_17x5 hS1 ?r11_17x5
  case h11_17x5 => (intro w hS; go_simp; try with_reducible rfl)
  case p11_17x5 => (go_simp; try with_reducible rfl)
  refine wpAnyH_done (by kernel_rfl) ?_ _
  clear hS1
  have hq := (HO.out _ D12.out).2
  clear hq
  go_wp2_with fail
  have hq := (HO.out _ D12.out).2
  refine (R3.out _).mono ?_
  clear hq
  rintro r w13 ⟨rfl, hb⟩
  have D13 := Lib.hid (below_step D12.out hb)
  clear hb
  have hq := (HO.out _ D13.out).2
  go_wp2_with fail
  refine (R4.out _).mono ?_
  clear hq
  rintro r w14 ⟨rfl, hb⟩
  have D14 := Lib.hid (below_step D13.out hb)
  clear hb
  have hq := (HO.out _ D14.out).2
  go_wp2_with fail
  refine (btw_rd (HRn1.out _ D14.out) nc1 HPn1.out (by decide) (by decide) (by decide) EE1.out EE2.out).mono ?_
  clear hq
  rintro r w15 ⟨rfl, hb⟩
  have D15 := Lib.hid (below_step D14.out hb)
  clear hb
  have hq := (HO.out _ D15.out).2
  go_wp2_with fail
  refine (CL2.out _).mono ?_
  clear hq
  rintro r w16 ⟨rfl, hb⟩
  have D16 := Lib.hid (below_step D15.out hb)
  clear hb
  have hq := (HO.out _ D16.out).2
  clear hq
  go_wp2_with fail
  go_wp2_with fail
  refine wp_region_held (S := (fun w' => Below ws1.heap.size ws1 w' ∧ w'.cell? ⟨gv, 0, none⟩ = some (Value.bool bx.neg) ∧ w'.cell? ⟨gv, 1, none⟩ = some (Value.slice (some ⟨gx, 0, none⟩) bx.ws.length cx) ∧ w'.cell? ⟨gv, 2, none⟩ = some (Value.int IntKind.i64 bx.e) ∧ w'.cell? ⟨gv + 1, 0, none⟩ = some (Value.bool by_.neg) ∧ w'.cell? ⟨gv + 1, 1, none⟩ = some (Value.slice (some ⟨gy, 0, none⟩) by_.ws.length cy) ∧ w'.cell? ⟨gv + 1, 2, none⟩ = some (Value.int IntKind.i64 by_.e) ∧ w'.cell? ⟨g0, 0, none⟩ = some (Value.bool nb0.neg) ∧ w'.cell? ⟨g0, 1, none⟩ = some (Value.slice (some ⟨h0, 0, none⟩) nb0.ws.length nc0) ∧ w'.cell? ⟨g0, 2, none⟩ = some (Value.int IntKind.i64 nb0.e) ∧ w'.cell? ⟨g1, 0, none⟩ = some (Value.bool nb1.neg) ∧ w'.cell? ⟨g1, 1, none⟩ = some (Value.slice (some ⟨h1, 0, none⟩) nb1.ws.length nc1) ∧ w'.cell? ⟨g1, 2, none⟩ = some (Value.int IntKind.i64 nb1.e))) (by kernel_rfl) ?_
  (try change wpAnyH _ _ _ _ _ _ _ (World.drew _))
  have hS0 := HO.out _ (Below.drew D16.out)
  refine wpAnyH_takeM (i := 0) (v := ?v17_0x5) (l' := bm 21 1) (a' := ?a17_0x5) rfl (by kernel_rfl) (by kernel_rfl) (by kernel_rfl) (fun _ _ _ h => h) (Or.inl ⟨by kernel_rfl, ?h17_0x5⟩) (by kernel_rfl) ?p17_0x5 hS0 ?r17_0x5
  case h17_0x5 => (intro w hS; go_simp; try with_reducible rfl)
  case p17_0x5 => (go_simp; try with_reducible rfl)
  refine wpAnyH_oneM (i := 1) (l' := bm 21 3) rfl (by kernel_rfl) (by kernel_rfl) (by kernel_rfl) (fun K hK => ?_)
  have hP := hS0.1
  go_simp
  go_at_call 20
  refine (N2.out _).mono ?_
  rintro r w17 ⟨rfl, hb⟩
  dsimp only
  have D17 := Lib.hid (below_step hP hb)
  clear hb
  have hS1 := HO.out _ (D17.out)
  clear hP hS0
  refine hK _ _ hS1 ?_
  clear hK K
  refine wpAnyH_takeM (i := 2) (v := ?v17_2x5) (l' := bm 21 7) (a' := ?a17_2x5) rfl (by kernel_rfl) (by kernel_rfl) (by kernel_rfl) (fun _ _ _ h => h) (Or.inl ⟨by kernel_rfl, ?h17_2x5⟩) (by kernel_rfl) ?p17_2x5 hS1 ?r17_2x5
  case h17_2x5 => (intro w hS; go_simp; try with_reducible rfl)
  case p17_2x5 => (go_simp; try with_reducible rfl)
  refine wpAnyH_takeM (i := 3) (v := ?v17_3x5) (l' := bm 21 15) (a' := ?a17_3x5) rfl (by kernel_rfl) (by kernel_rfl) (by kernel_rfl) (fun _ _ _ h => h) (Or.inl ⟨by kernel_rfl, ?h17_3x5⟩) (by kernel_rfl) ?p17_3x5 hS1 ?r17_3x5
  case h17_3x5 => (intro w hS; go_simp; try with_reducible rfl)
  case p17_3x5 => (go_simp; try with_reducible rfl)
  refine wpAnyH_takeM (i := 4) (v := ?v17_4x5) (l' := bm 21 31) (a' := ?a17_4x5) rfl (by kernel_rfl) (by kernel_rfl) (by kernel_rfl) (fun _ _ _ h => h) (Or.inl ⟨by kernel_rfl, ?h17_4x5⟩) (by kernel_rfl) ?p17_4x5 hS1 ?r17_4x5
  case h17_4x5 => (intro w hS; go_simp; try with_reducible rfl)
  case p17_4x5 => (go_simp; try with_reducible rfl)
  refine wpAnyH_oneM (i := 5) (l' := bm 21 63) rfl (by kernel_rfl) (by kernel_rfl) (by kernel_rfl) (fun K hK => ?_)
  have hP := hS1.1
  go_simp
  go_at_call 20
  refine (N3.out _).mono ?_
  rintro r w18 ⟨rfl, hb⟩
  dsimp only
  have D18 := Lib.hid (below_step hP hb)
  clear hb
  have hS2 := HO.out _ (D18.out)
  clear hP hS1
  refine hK _ _ hS2 ?_
  clear hK K
  refine wpAnyH_takeM (i := 6) (v := ?v17_6x5) (l' := bm 21 127) (a' := ?a17_6x5) rfl (by kernel_rfl) (by kernel_rfl) (by kernel_rfl) (fun _ _ _ h => h) (Or.inl ⟨by kernel_rfl, ?h17_6x5⟩) (by kernel_rfl) ?p17_6x5 hS2 ?r17_6x5
  case h17_6x5 => (intro w hS; go_simp; try with_reducible rfl)
  case p17_6x5 => (go_simp; try with_reducible rfl)
  refine wpAnyH_takeM (i := 7) (v := ?v17_7x5) (l' := bm 21 255) (a' := ?a17_7x5) rfl (by kernel_rfl) (by kernel_rfl) (by kernel_rfl) (fun _ _ _ h => h) (Or.inl ⟨by kernel_rfl, ?h17_7x5⟩) (by kernel_rfl) ?p17_7x5 hS2 ?r17_7x5
  case h17_7x5 => (intro w hS; go_simp; try with_reducible rfl)
  case p17_7x5 => (go_simp; try with_reducible rfl)
  refine wpAnyH_takeM (i := 8) (v := ?v17_8x5) (l' := bm 21 511) (a' := ?a17_8x5) rfl (by kernel_rfl) (by kernel_rfl) (by kernel_rfl) (fun _ _ _ h => h) (Or.inl ⟨by kernel_rfl, ?h17_8x5⟩) (by kernel_rfl) ?p17_8x5 hS2 ?r17_8x5
  case h17_8x5 => (intro w hS; go_simp; try with_reducible rfl)
  case p17_8x5 => (go_simp; try with_reducible rfl)
  refine wpAnyH_takeM (i := 9) (v := ?v17_9x5) (l' := bm 21 1023) (a' := ?a17_9x5) rfl (by kernel_rfl) (by kernel_rfl) (by kernel_rfl) (fun _ _ _ h => h) (Or.inl ⟨by kernel_rfl, ?h17_9x5⟩) (by kernel_rfl) ?p17_9x5 hS2 ?r17_9x5
  case h17_9x5 => (intro w hS; go_simp; try with_reducible rfl)
  case p17_9x5 => (go_simp; try with_reducible rfl)
  refine wpAnyH_takeM (i := 10) (v := ?v17_10x5) (l' := bm 21 2047) (a' := ?a17_10x5) rfl (by kernel_rfl) (by kernel_rfl) (by kernel_rfl) (fun _ _ _ h => h) (Or.inl ⟨by kernel_rfl, ?h17_10x5⟩) (by kernel_rfl) ?p17_10x5 hS2 ?r17_10x5
  case h17_10x5 => (intro w hS; go_simp; try with_reducible rfl)
  case p17_10x5 => (go_simp; try with_reducible rfl)
  refine wpAnyH_takeM (i := 11) (v := ?v17_11x5) (l' := bm 21 4095) (a' := ?a17_11x5) rfl (by kernel_rfl) (by kernel_rfl) (by kernel_rfl) (fun _ _ _ h => h) (Or.inl ⟨by kernel_rfl, ?h17_11x5⟩) (by kernel_rfl) ?p17_11x5 hS2 ?r17_11x5
  case h17_11x5 => (intro w hS; go_simp; try with_reducible rfl)
  case p17_11x5 => (go_simp; try with_reducible rfl)
  refine wpAnyH_takeM (i := 12) (v := ?v17_12x5) (l' := bm 21 8191) (a' := ?a17_12x5) rfl (by kernel_rfl) (by kernel_rfl) (by kernel_rfl) (fun _ _ _ h => h) (Or.inl ⟨by kernel_rfl, ?h17_12x5⟩) (by kernel_rfl) ?p17_12x5 hS2 ?r17_12x5
  case h17_12x5 => (intro w hS; go_simp; try with_reducible rfl)
  case p17_12x5 => (go_simp; try with_reducible rfl)
  refine wpAnyH_takeM (i := 13) (v := ?v17_13x5) (l' := bm 21 16383) (a' := ?a17_13x5) rfl (by kernel_rfl) (by kernel_rfl) (by kernel_rfl) (fun _ _ _ h => h) (Or.inl ⟨by kernel_rfl, ?h17_13x5⟩) (by kernel_rfl) ?p17_13x5 hS2 ?r17_13x5
  case h17_13x5 => (intro w hS; go_simp; try with_reducible rfl)
  case p17_13x5 => (go_simp; try with_reducible rfl)
  refine wpAnyH_oneM (i := 14) (l' := bm 21 32767) rfl (by kernel_rfl) (by kernel_rfl) (by kernel_rfl) (fun K hK => ?_)
  have hP := hS2.1
  go_simp
  go_at_call 22
  refine (OM.out _).mono ?_
  rintro r w19 ⟨s3_, h3_, c3_, rfl, hr3, hp3, hb⟩
  dsimp only
  have D19 := Lib.hid (below_step hP hb)
  clear hb
  have hS3 := HO.out _ (D19.out)
  clear hP hS2
  refine hK _ _ hS3 ?_
  clear hK K
  refine wpAnyH_oneM (i := 15) (l' := bm 21 65535) rfl (by kernel_rfl) (by kernel_rfl) (by kernel_rfl) (fun K hK => ?_)
  have hP := hS3.1
  go_simp
  go_at_call 33
  refine (sub_rp (HRn1.out _ hP) hr3 nc1 c3_ HPn1.out (Rp.wide (L' := 2) hp3 (Nat.le_refl _) (by decide) (by decide)) (by decide) (by decide) (by decide) (by decide)).mono ?_
  rintro r w20 ⟨s4_, h4_, c4_, rfl, hr4, hp4, hb⟩
  dsimp only
  have D20 := Lib.hid (below_step hP hb)
  clear hb
  have hS4 := HO.out _ (D20.out)
  clear hP hS3
  refine hK _ _ hS4 ?_
  clear hK K
  refine wpAnyH_oneM (i := 16) (l' := bm 21 131071) rfl (by kernel_rfl) (by kernel_rfl) (by kernel_rfl) (fun K hK => ?_)
  have hP := hS4.1
  go_simp
  go_at_call 32
  refine (sgn_q hr4 c4_ hp4 (by decide) qm_ HQ2.out).mono ?_
  rintro r w21 ⟨n2, rfl, hn2, hn2', hb⟩
  dsimp only
  have D21 := Lib.hid (below_step hP hb)
  clear hb
  have hS5 := HO.out _ (D21.out)
  clear hP hS4
  refine hK _ _ hS5 ?_
  clear hK K
  refine wpAnyH_takeM (i := 17) (v := ?v17_17x5) (l' := bm 21 262143) (a' := ?a17_17x5) rfl (by kernel_rfl) (by kernel_rfl) (by kernel_rfl) (fun _ _ _ h => h) (Or.inl ⟨by kernel_rfl, ?h17_17x5⟩) (by kernel_rfl) ?p17_17x5 hS5 ?r17_17x5
  case h17_17x5 => (intro w hS; go_simp; try with_reducible rfl)
  case p17_17x5 => (go_simp; try with_reducible rfl)
  refine wpAnyH_takeM (i := 18) (v := ?v17_18x5) (l' := bm 21 524287) (a' := ?a17_18x5) rfl (by kernel_rfl) (by kernel_rfl) (by kernel_rfl) (fun _ _ _ h => h) (Or.inl ⟨by kernel_rfl, ?h17_18x5⟩) (by kernel_rfl) ?p17_18x5 hS5 ?r17_18x5
  case h17_18x5 => (intro w hS; go_simp; try with_reducible rfl)
  case p17_18x5 => (go_simp; try with_reducible rfl)
  refine wpAnyH_takeM (i := 19) (v := ?v17_19x5) (l' := bm 21 1048575) (a' := ?a17_19x5) rfl (by kernel_rfl) (by kernel_rfl) (by kernel_rfl) (fun _ _ _ h => h) (Or.inl ⟨by kernel_rfl, ?h17_19x5⟩) (by kernel_rfl) ?p17_19x5 hS5 ?r17_19x5
  case h17_19x5 => (intro w hS; go_simp; try with_reducible rfl)
  case p17_19x5 => (go_simp; try with_reducible rfl)
  refine wpAnyH_takeM (i := 20) (v := ?v17_20x5) (l' := bm 21 2097151) (a' := ?a17_20x5) rfl (by kernel_rfl) (by kernel_rfl) (by kernel_rfl) (fun _ _ _ h => h) (Or.inl ⟨by kernel_rfl, ?h17_20x5⟩) (by kernel_rfl) ?p17_20x5 hS5 ?r17_20x5
  case h17_20x5 => (intro w hS; go_simp; try with_reducible rfl)
  case p17_20x5 => (go_simp; try with_reducible rfl)
  refine wpAnyH_done (by kernel_rfl) ?_ _
  clear hS5
  have hq := (HO.out _ D21.out).2
  go_wp2_with fail
  go_ret
  exact ⟨rfl, below_step HB.out D21.out⟩
theorem walk_real (a b : Nat) (ha : a < 18446744073709551616) (hb : b < 18446744073709551616) (w : World) : Calls Try.prog 8 #[.float .f64 a, .float .f64 b] w fun r w' => r = .returned (.bool true) ∧ Below w.heap.size w w' := by
  cases fa : fin a
  · exact real_n1 a b ha hb fa w
  · cases fb : fin b
    · exact real_n2 a b ha hb fa fb w
    · cases c1 : fin (addR a b true).1 <;> cases c2 : fin (mulR a b true).1
      · exact real_na a b ha hb fa fb c1 c2 w
      · cases c3 : fin (mulR a b false).1
        · exact real_nb a b ha hb fa fb c1 c2 c3 w
        · exact real_nc a b ha hb fa fb c1 c2 c3 w
      · exact real_ya a b ha hb fa fb c1 c2 w
      · cases c3 : fin (mulR a b false).1
        · exact real_yb a b ha hb fa fb c1 c2 c3 w
        · exact real_yc a b ha hb fa fb c1 c2 c3 w
end Go.Proofs.Ythkfaacgabkhhaa
