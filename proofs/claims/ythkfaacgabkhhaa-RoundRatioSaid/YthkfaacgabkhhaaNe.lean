/- The law RoundRatio (gen_ne.py). -/
import Derived.Test.YthkfaacgabkhhaaNc
import Derived.Test.YthkfaacgabkhhaaVz
import Derived.Test.YthkfaacgabkhhaaGh
set_option linter.unusedVariables false
set_option linter.unusedSimpArgs false
namespace Go.Proofs.Ythkfaacgabkhhaa
open Go.RowKit Fl

theorem ne_pi {x : Nat} (h : Gd x) (k : x ≠ PI) : (FloatKind.f64.format.order x 9218868437227405312 == some .eq) = false ∧ (FloatKind.f64.format.order x 9218868437227405312 != some .eq) = true := by
  have e := eq_gd h gdPI
  rw [decide_eq_false (fun z => k (h.inj gdPI z))] at e
  exact ⟨e, by unfold bne; rw [e]; rfl⟩
theorem ne_ni {x : Nat} (h : Gd x) (k : x ≠ NI) : (FloatKind.f64.format.order x 18442240474082181120 == some .eq) = false ∧ (FloatKind.f64.format.order x 18442240474082181120 != some .eq) = true := by
  have e := eq_gd h gdNI
  rw [decide_eq_false (fun z => k (h.inj gdNI z))] at e
  exact ⟨e, by unfold bne; rw [e]; rfl⟩
theorem div_mul_id {x y : Rat} (h : y ≠ 0) : x / y * y = x := Rat.div_mul_cancel h
theorem ratio_dn_p {x y l : Rat} (h : 0 < y) (k : l ≤ x / y) : l * y ≤ x := by
  have := Rat.mul_le_mul_of_nonneg_right k (Rat.le_of_lt h)
  rwa [div_mul_id (Rat.ne_of_gt h)] at this
theorem ratio_up_p {x y l : Rat} (h : 0 < y) (k : x / y ≤ l) : x ≤ l * y := by
  have := Rat.mul_le_mul_of_nonneg_right k (Rat.le_of_lt h)
  rwa [div_mul_id (Rat.ne_of_gt h)] at this
theorem ratio_dn_n {x y l : Rat} (h : y < 0) (k : l ≤ x / y) : l * (-y) ≤ -x := by
  have h' : 0 ≤ -y := by grind
  have := Rat.mul_le_mul_of_nonneg_right k h'
  have e := div_mul_id (x := x) (y := y) (Rat.ne_of_lt h)
  grind
theorem ratio_up_n {x y l : Rat} (h : y < 0) (k : x / y ≤ l) : -x ≤ l * (-y) := by
  have h' : 0 ≤ -y := by grind
  have := Rat.mul_le_mul_of_nonneg_right k h'
  have e := div_mul_id (x := x) (y := y) (Rat.ne_of_lt h)
  grind
set_option maxRecDepth 100000 in
set_option maxHeartbeats 8000000 in
theorem ratio_n1 (a b : Nat) (ha : a < 18446744073709551616) (hb : b < 18446744073709551616) (fa : fin a = false) (w : World) : Calls Try.prog 5 #[.float .f64 a, .float .f64 b] w fun r w' => r = .returned (.bool true) ∧ Below w.heap.size w w' := by
  have H0 := Lib.hid awake
  have H1 := Lib.hid (fun w => num_b a ha w)
  have H2 := Lib.hid (fun w => num_b b hb w)
  rw [fa] at H1
  go_enter Try.func5, Try.ntmps5
  go_wp2_with fail
  obtain ⟨W, hW⟩ : ∃ W, W = w := ⟨_, rfl⟩
  rw [← hW]
  have HB := Lib.hid (hW ▸ Below.refl w.heap.size w : Below w.heap.size w W)
  clear hW
  have HO := Lib.hid (show ∀ w', Below W.heap.size W w' → (Below W.heap.size W w') from fun w' h => h)
  have D0 := Lib.hid (Below.refl W.heap.size W)
  refine (H0.out _).mono ?_
  rintro r w1 ⟨rfl, hb⟩
  have D1 := Lib.hid (below_step D0.out hb)
  clear hb
  go_wp2_with fail
  refine (H1.out _).mono ?_
  rintro r w2 ⟨rfl, hb⟩
  have D2 := Lib.hid (below_step D1.out hb)
  clear hb
  go_wp2_with fail
  go_ret
  exact ⟨rfl, below_step HB.out D2.out⟩
set_option maxRecDepth 100000 in
set_option maxHeartbeats 8000000 in
theorem ratio_n2 (a b : Nat) (ha : a < 18446744073709551616) (hb : b < 18446744073709551616) (fa : fin a = true) (fb : fin b = false) (w : World) : Calls Try.prog 5 #[.float .f64 a, .float .f64 b] w fun r w' => r = .returned (.bool true) ∧ Below w.heap.size w w' := by
  have H0 := Lib.hid awake
  have H1 := Lib.hid (fun w => num_b a ha w)
  have H2 := Lib.hid (fun w => num_b b hb w)
  rw [fa] at H1
  rw [fb] at H2
  go_enter Try.func5, Try.ntmps5
  go_wp2_with fail
  obtain ⟨W, hW⟩ : ∃ W, W = w := ⟨_, rfl⟩
  rw [← hW]
  have HB := Lib.hid (hW ▸ Below.refl w.heap.size w : Below w.heap.size w W)
  clear hW
  have HO := Lib.hid (show ∀ w', Below W.heap.size W w' → (Below W.heap.size W w') from fun w' h => h)
  have D0 := Lib.hid (Below.refl W.heap.size W)
  refine (H0.out _).mono ?_
  rintro r w1 ⟨rfl, hb⟩
  have D1 := Lib.hid (below_step D0.out hb)
  clear hb
  go_wp2_with fail
  refine (H1.out _).mono ?_
  rintro r w2 ⟨rfl, hb⟩
  have D2 := Lib.hid (below_step D1.out hb)
  clear hb
  go_wp2_with fail
  refine (H2.out _).mono ?_
  rintro r w3 ⟨rfl, hb⟩
  have D3 := Lib.hid (below_step D2.out hb)
  clear hb
  go_wp2_with fail
  go_ret
  exact ⟨rfl, below_step HB.out D3.out⟩
set_option maxRecDepth 100000 in
set_option maxHeartbeats 8000000 in
theorem ratio_n3 (a b : Nat) (ha : a < 18446744073709551616) (hb : b < 18446744073709551616) (fa : fin a = true) (fb : fin b = true) (zb : Z b = 0) (w : World) : Calls Try.prog 5 #[.float .f64 a, .float .f64 b] w fun r w' => r = .returned (.bool true) ∧ Below w.heap.size w w' := by
  have H0 := Lib.hid awake
  have H1 := Lib.hid (fun w => num_b a ha w)
  have H2 := Lib.hid (fun w => num_b b hb w)
  rw [fa] at H1
  rw [fb] at H2
  have eb := Nb.c0_eq hb (nan_of_fin fb)
  rw [decide_eq_true zb] at eb
  go_enter Try.func5, Try.ntmps5
  go_wp2_with fail
  obtain ⟨W, hW⟩ : ∃ W, W = w := ⟨_, rfl⟩
  rw [← hW]
  have HB := Lib.hid (hW ▸ Below.refl w.heap.size w : Below w.heap.size w W)
  clear hW
  have HO := Lib.hid (show ∀ w', Below W.heap.size W w' → (Below W.heap.size W w') from fun w' h => h)
  have D0 := Lib.hid (Below.refl W.heap.size W)
  refine (H0.out _).mono ?_
  rintro r w1 ⟨rfl, hb⟩
  have D1 := Lib.hid (below_step D0.out hb)
  clear hb
  go_wp2_with fail
  refine (H1.out _).mono ?_
  rintro r w2 ⟨rfl, hb⟩
  have D2 := Lib.hid (below_step D1.out hb)
  clear hb
  go_wp2_with fail
  refine (H2.out _).mono ?_
  rintro r w3 ⟨rfl, hb⟩
  have D3 := Lib.hid (below_step D2.out hb)
  clear hb
  go_wp2_with fail
  go_ret
  exact ⟨rfl, below_step HB.out D3.out⟩
set_option maxRecDepth 100000 in
set_option maxHeartbeats 8000000 in
theorem ratio_pyy (a b : Nat) (ha : a < 18446744073709551616) (hb : b < 18446744073709551616) (fa : fin a = true) (fb : fin b = true) (zb : 0 < Z b) (c1 : fin (divR a b true).1 = true) (c2 : fin (divR a b false).1 = true) (w : World) : Calls Try.prog 5 #[.float .f64 a, .float .f64 b] w fun r w' => r = .returned (.bool true) ∧ Below w.heap.size w w' := by
  have H0 := Lib.hid awake
  have H1 := Lib.hid (fun w => num_b a ha w)
  have H2 := Lib.hid (fun w => num_b b hb w)
  rw [fa] at H1
  rw [fb] at H2
  have z0 : Z b ≠ 0 := by omega
  have eb := Nb.c0_eq hb (nan_of_fin fb)
  rw [decide_eq_false z0] at eb
  have el := Z_lt0 b hb fb
  rw [decide_eq_false (by omega)] at el
  have OX := Lib.hid (fun w => of_rp ha fa w)
  have OY := Lib.hid (fun w => of_rp hb fb w)
  have d1 := div_dn fa fb z0
  have d2 := div_up fa fb z0
  have R1 := Lib.hid (fun w => div_any a b true ha hb w)
  have R2 := Lib.hid (fun w => div_any a b false ha hb w)
  rw [divR_fin fa fb z0 true] at R1
  rw [divR_fin fa fb z0 false] at R2
  simp only [pV, numV] at R1 R2
  generalize (divR a b true).1 = lo at *
  generalize (divR a b false).1 = hi at *
  have N1 := Lib.hid (fun w => num_b lo d1.gd.lt w)
  have N2 := Lib.hid (fun w => num_b hi d2.gd.lt w)
  rw [c1] at N1
  rw [c2] at N2
  have CL1 := Lib.hid (fun w => close_any d1.gd d2.gd (nbr_rd d1 d2) w)
  have IF := Lib.hid (fun w => rinf_any w)
  have ⟨i1, i2⟩ := ne_pi d1.gd d1.np
  have ⟨i3, i4⟩ := ne_ni d2.gd d2.np
  have np := Nb.neg_PI
  have xb0 : 0 < fv b := fv_pos.2 zb
  have OL := Lib.hid (fun w => of_rp d1.gd.lt c1 w)
  have G1 := Lib.hid (ratio_dn_p xb0 (d1.lo.resolve_left (fun k => by rw [k] at c1; exact absurd c1 (by decide))))
  have OM := Lib.hid (fun w => of_rp d2.gd.lt c2 w)
  have G2 := Lib.hid (ratio_up_p xb0 (d2.hi.resolve_left (fun k => by rw [k] at c2; exact absurd c2 (by decide))))
  clear d1 d2 c1 c2 fa fb ha hb zb z0 xb0
  generalize fv a = xa at *
  generalize fv b = xb at *
  generalize fv lo = xl at *
  generalize fv hi = xm at *
  go_enter Try.func5, Try.ntmps5
  go_wp2_with fail
  obtain ⟨W, hW⟩ : ∃ W, W = w := ⟨_, rfl⟩
  rw [← hW]
  have HB := Lib.hid (hW ▸ Below.refl w.heap.size w : Below w.heap.size w W)
  clear hW
  have HO := Lib.hid (show ∀ w', Below W.heap.size W w' → (Below W.heap.size W w') from fun w' h => h)
  have D0 := Lib.hid (Below.refl W.heap.size W)
  refine (H0.out _).mono ?_
  rintro r w1 ⟨rfl, hb⟩
  have D1 := Lib.hid (below_step D0.out hb)
  clear hb
  go_wp2_with fail
  refine (H1.out _).mono ?_
  rintro r w2 ⟨rfl, hb⟩
  have D2 := Lib.hid (below_step D1.out hb)
  clear hb
  go_wp2_with fail
  refine (H2.out _).mono ?_
  rintro r w3 ⟨rfl, hb⟩
  have D3 := Lib.hid (below_step D2.out hb)
  clear hb
  go_wp2_with fail
  refine (R1.out _).mono ?_
  rintro r w4 ⟨rfl, hb⟩
  have D4 := Lib.hid (below_step D3.out hb)
  clear hb
  go_wp2_with fail
  refine (R2.out _).mono ?_
  rintro r w5 ⟨rfl, hb⟩
  have D5 := Lib.hid (below_step D4.out hb)
  clear hb
  go_wp2_with fail
  refine (CL1.out _).mono ?_
  rintro r w6 ⟨rfl, hb⟩
  have D6 := Lib.hid (below_step D5.out hb)
  clear hb
  go_wp2_with fail
  refine (OX.out _).mono ?_
  rintro r w7 ⟨bx, gx, cx, rfl, hrx, hpx, hb⟩
  have D7 := Lib.hid (below_step D6.out hb)
  clear hb
  have HRbx := Lib.hid hrx
  have HPbx := Lib.hid hpx
  clear hrx hpx
  go_wp2_with fail
  refine (OY.out _).mono ?_
  rintro r w8 ⟨by_, gy, cy, rfl, hrx, hpx, hb⟩
  have D8 := Lib.hid (below_step D7.out hb)
  have HRbx := Lib.hid (HRbx.out.below' hb)
  clear hb
  have HRby_ := Lib.hid hrx
  have HPby_ := Lib.hid hpx
  clear hrx hpx
  go_wp2_with fail
  obtain ⟨V, hV, KN0, KN1, hBV, hz⟩ := by2 w8 35 35 #[Value.bool bx.neg, Value.slice (some ⟨gx, 0, none⟩) bx.ws.length cx, Value.int IntKind.i64 bx.e] #[Value.bool by_.neg, Value.slice (some ⟨gy, 0, none⟩) by_.ws.length cy, Value.int IntKind.i64 by_.e]
  rw [← hV]
  have HLTbx := Lib.hid HRbx.out.lt
  have HRbx := Lib.hid (HRbx.out.below' hBV)
  have HLTby_ := Lib.hid HRby_.out.lt
  have HRby_ := Lib.hid (HRby_.out.below' hBV)
  have HB' := Lib.hid (below_step (below_step HB.out D8.out) hBV)
  obtain ⟨gv, hgv⟩ : ∃ g, w8.heap.size = g := ⟨_, rfl⟩
  have hwg : w.heap.size ≤ gv := by rw [← hgv]; exact (below_step HB.out D8.out).size
  have lt_bx : gx < gv := by rw [← hgv]; exact HLTbx.out
  have lt_by_ : gy < gv := by rw [← hgv]; exact HLTby_.out
  rw [hgv] at KN0 KN1
  rw [hgv]
  have K0 := Lib.hid KN0
  have K1 := Lib.hid KN1
  clear HB HO KN0 KN1 hV hBV hz hgv
  have HB := HB'
  clear HB'
  have HO := Lib.hid (show ∀ w', Below V.heap.size V w' → (Below V.heap.size V w' ∧ w'.cell? ⟨gv, 0, none⟩ = some (Value.bool bx.neg) ∧ w'.cell? ⟨gv, 1, none⟩ = some (Value.slice (some ⟨gx, 0, none⟩) bx.ws.length cx) ∧ w'.cell? ⟨gv, 2, none⟩ = some (Value.int IntKind.i64 bx.e) ∧ w'.cell? ⟨gv + 1, 0, none⟩ = some (Value.bool by_.neg) ∧ w'.cell? ⟨gv + 1, 1, none⟩ = some (Value.slice (some ⟨gy, 0, none⟩) by_.ws.length cy) ∧ w'.cell? ⟨gv + 1, 2, none⟩ = some (Value.int IntKind.i64 by_.e)) from fun w' h => ⟨h, (K0.out.below h K0.out.lt).cell 0, (K0.out.below h K0.out.lt).cell 1, (K0.out.below h K0.out.lt).cell 2, (K1.out.below h K1.out.lt).cell 0, (K1.out.below h K1.out.lt).cell 1, (K1.out.below h K1.out.lt).cell 2⟩)
  have D9 := Lib.hid (Below.refl V.heap.size V)
  have hq := (HO.out _ D9.out).2
  have HRbx := Lib.hid (fun w' (b : Below V.heap.size V w') => HRbx.out.below' b)
  have HRby_ := Lib.hid (fun w' (b : Below V.heap.size V w') => HRby_.out.below' b)
  go_wp2_with fail
  clear hq
  refine wp_region_held (S := (fun w' => Below V.heap.size V w' ∧ w'.cell? ⟨gv, 0, none⟩ = some (Value.bool bx.neg) ∧ w'.cell? ⟨gv, 1, none⟩ = some (Value.slice (some ⟨gx, 0, none⟩) bx.ws.length cx) ∧ w'.cell? ⟨gv, 2, none⟩ = some (Value.int IntKind.i64 bx.e) ∧ w'.cell? ⟨gv + 1, 0, none⟩ = some (Value.bool by_.neg) ∧ w'.cell? ⟨gv + 1, 1, none⟩ = some (Value.slice (some ⟨gy, 0, none⟩) by_.ws.length cy) ∧ w'.cell? ⟨gv + 1, 2, none⟩ = some (Value.int IntKind.i64 by_.e))) (by kernel_rfl) ?_
  (try change wpAnyH _ _ _ _ _ _ _ (World.drew _))
  have hS0 := HO.out _ (Below.drew D9.out)
  refine wpAnyH_takeM (i := 0) (v := ?v12_0) (l' := bm 13 1) (a' := ?a12_0) rfl (by kernel_rfl) (by kernel_rfl) (by kernel_rfl) (fun _ _ _ h => h) (Or.inl ⟨by kernel_rfl, ?h12_0⟩) (by kernel_rfl) ?p12_0 hS0 ?r12_0
  case h12_0 => (intro w hS; go_simp; try with_reducible rfl)
  case p12_0 => (go_simp; try with_reducible rfl)
  refine wpAnyH_oneM (i := 1) (l' := bm 13 3) rfl (by kernel_rfl) (by kernel_rfl) (by kernel_rfl) (fun K hK => ?_)
  have hP := hS0.1
  go_simp
  go_at_call 20
  refine (N1.out _).mono ?_
  rintro r w10 ⟨rfl, hb⟩
  dsimp only
  have D10 := Lib.hid (below_step hP hb)
  clear hb
  have hS1 := HO.out _ (D10.out)
  clear hP hS0
  refine hK _ _ hS1 ?_
  clear hK K
  refine wpAnyH_takeM (i := 2) (v := ?v12_2) (l' := bm 13 7) (a' := ?a12_2) rfl (by kernel_rfl) (by kernel_rfl) (by kernel_rfl) (fun _ _ _ h => h) (Or.inl ⟨by kernel_rfl, ?h12_2⟩) (by kernel_rfl) ?p12_2 hS1 ?r12_2
  case h12_2 => (intro w hS; go_simp; try with_reducible rfl)
  case p12_2 => (go_simp; try with_reducible rfl)
  refine wpAnyH_takeM (i := 3) (v := ?v12_3) (l' := bm 13 15) (a' := ?a12_3) rfl (by kernel_rfl) (by kernel_rfl) (by kernel_rfl) (fun _ _ _ h => h) (Or.inl ⟨by kernel_rfl, ?h12_3⟩) (by kernel_rfl) ?p12_3 hS1 ?r12_3
  case h12_3 => (intro w hS; go_simp; try with_reducible rfl)
  case p12_3 => (go_simp; try with_reducible rfl)
  refine wpAnyH_takeM (i := 4) (v := ?v12_4) (l' := bm 13 31) (a' := ?a12_4) rfl (by kernel_rfl) (by kernel_rfl) (by kernel_rfl) (fun _ _ _ h => h) (Or.inl ⟨by kernel_rfl, ?h12_4⟩) (by kernel_rfl) ?p12_4 hS1 ?r12_4
  case h12_4 => (intro w hS; go_simp; try with_reducible rfl)
  case p12_4 => (go_simp; try with_reducible rfl)
  refine wpAnyH_takeM (i := 5) (v := ?v12_5) (l' := bm 13 63) (a' := ?a12_5) rfl (by kernel_rfl) (by kernel_rfl) (by kernel_rfl) (fun _ _ _ h => h) (Or.inl ⟨by kernel_rfl, ?h12_5⟩) (by kernel_rfl) ?p12_5 hS1 ?r12_5
  case h12_5 => (intro w hS; go_simp; try with_reducible rfl)
  case p12_5 => (go_simp; try with_reducible rfl)
  refine wpAnyH_takeM (i := 7) (v := ?v12_7) (l' := bm 13 191) (a' := ?a12_7) rfl (by kernel_rfl) (by kernel_rfl) (by kernel_rfl) (fun _ _ _ h => h) (Or.inl ⟨by kernel_rfl, ?h12_7⟩) (by kernel_rfl) ?p12_7 hS1 ?r12_7
  case h12_7 => (intro w hS; go_simp; try with_reducible rfl)
  case p12_7 => (go_simp; try with_reducible rfl)
  refine wpAnyH_oneM (i := 6) (l' := bm 13 255) rfl (by kernel_rfl) (by kernel_rfl) (by kernel_rfl) (fun K hK => ?_)
  have hP := hS1.1
  go_simp
  go_at_call 22
  refine (OL.out _).mono ?_
  rintro r w11 ⟨s1_, h1_, c1_, rfl, hr1, hp1, hb⟩
  dsimp only
  have D11 := Lib.hid (below_step hP hb)
  clear hb
  have hS2 := HO.out _ (D11.out)
  clear hP hS1
  refine hK _ _ hS2 ?_
  clear hK K
  refine wpAnyH_oneM (i := 8) (l' := bm 13 511) rfl (by kernel_rfl) (by kernel_rfl) (by kernel_rfl) (fun K hK => ?_)
  have hP := hS2.1
  go_simp
  go_at_call 25
  refine (mul_rp hr1 (HRby_.out _ hP) c1_ cy hp1 HPby_.out (by decide) (by decide) (by decide) (by decide) (by decide) (by decide)).mono ?_
  rintro r w12 ⟨s2_, h2_, c2_, rfl, hr2, hp2, hb⟩
  dsimp only
  have D12 := Lib.hid (below_step hP hb)
  clear hb
  have hS3 := HO.out _ (D12.out)
  clear hP hS2
  refine hK _ _ hS3 ?_
  clear hK K
  refine wpAnyH_oneM (i := 9) (l' := bm 13 1023) rfl (by kernel_rfl) (by kernel_rfl) (by kernel_rfl) (fun K hK => ?_)
  have hP := hS3.1
  go_simp
  go_at_call 24
  refine (less_rp (HRbx.out _ hP) hr2 cx c2_ HPbx.out hp2 (by decide) (by decide) (by decide) (by decide) (by decide) (by decide) G1.out).mono ?_
  rintro r w13 ⟨rfl, hb⟩
  dsimp only
  have D13 := Lib.hid (below_step hP hb)
  clear hb
  have hS4 := HO.out _ (D13.out)
  clear hP hS3
  refine hK _ _ hS4 ?_
  clear hK K
  refine wpAnyH_takeM (i := 10) (v := ?v12_10) (l' := bm 13 2047) (a' := ?a12_10) rfl (by kernel_rfl) (by kernel_rfl) (by kernel_rfl) (fun _ _ _ h => h) (Or.inl ⟨by kernel_rfl, ?h12_10⟩) (by kernel_rfl) ?p12_10 hS4 ?r12_10
  case h12_10 => (intro w hS; go_simp; try with_reducible rfl)
  case p12_10 => (go_simp; try with_reducible rfl)
  refine wpAnyH_takeM (i := 11) (v := ?v12_11) (l' := bm 13 4095) (a' := ?a12_11) rfl (by kernel_rfl) (by kernel_rfl) (by kernel_rfl) (fun _ _ _ h => h) (Or.inl ⟨by kernel_rfl, ?h12_11⟩) (by kernel_rfl) ?p12_11 hS4 ?r12_11
  case h12_11 => (intro w hS; go_simp; try with_reducible rfl)
  case p12_11 => (go_simp; try with_reducible rfl)
  refine wpAnyH_takeM (i := 12) (v := ?v12_12) (l' := bm 13 8191) (a' := ?a12_12) rfl (by kernel_rfl) (by kernel_rfl) (by kernel_rfl) (fun _ _ _ h => h) (Or.inl ⟨by kernel_rfl, ?h12_12⟩) (by kernel_rfl) ?p12_12 hS4 ?r12_12
  case h12_12 => (intro w hS; go_simp; try with_reducible rfl)
  case p12_12 => (go_simp; try with_reducible rfl)
  refine wpAnyH_done (by kernel_rfl) ?_ _
  clear hS4
  have hq := (HO.out _ D13.out).2
  clear hq hr1 hp1 hr2 hp2
  go_wp2_with fail
  go_wp2_with fail
  refine wp_region_held (S := (fun w' => Below V.heap.size V w' ∧ w'.cell? ⟨gv, 0, none⟩ = some (Value.bool bx.neg) ∧ w'.cell? ⟨gv, 1, none⟩ = some (Value.slice (some ⟨gx, 0, none⟩) bx.ws.length cx) ∧ w'.cell? ⟨gv, 2, none⟩ = some (Value.int IntKind.i64 bx.e) ∧ w'.cell? ⟨gv + 1, 0, none⟩ = some (Value.bool by_.neg) ∧ w'.cell? ⟨gv + 1, 1, none⟩ = some (Value.slice (some ⟨gy, 0, none⟩) by_.ws.length cy) ∧ w'.cell? ⟨gv + 1, 2, none⟩ = some (Value.int IntKind.i64 by_.e))) (by kernel_rfl) ?_
  (try change wpAnyH _ _ _ _ _ _ _ (World.drew _))
  have hS0 := HO.out _ (Below.drew D13.out)
  refine wpAnyH_takeM (i := 0) (v := ?v13_0) (l' := bm 13 1) (a' := ?a13_0) rfl (by kernel_rfl) (by kernel_rfl) (by kernel_rfl) (fun _ _ _ h => h) (Or.inl ⟨by kernel_rfl, ?h13_0⟩) (by kernel_rfl) ?p13_0 hS0 ?r13_0
  case h13_0 => (intro w hS; go_simp; try with_reducible rfl)
  case p13_0 => (go_simp; try with_reducible rfl)
  refine wpAnyH_oneM (i := 1) (l' := bm 13 3) rfl (by kernel_rfl) (by kernel_rfl) (by kernel_rfl) (fun K hK => ?_)
  have hP := hS0.1
  go_simp
  go_at_call 20
  refine (N2.out _).mono ?_
  rintro r w14 ⟨rfl, hb⟩
  dsimp only
  have D14 := Lib.hid (below_step hP hb)
  clear hb
  have hS1 := HO.out _ (D14.out)
  clear hP hS0
  refine hK _ _ hS1 ?_
  clear hK K
  refine wpAnyH_takeM (i := 2) (v := ?v13_2) (l' := bm 13 7) (a' := ?a13_2) rfl (by kernel_rfl) (by kernel_rfl) (by kernel_rfl) (fun _ _ _ h => h) (Or.inl ⟨by kernel_rfl, ?h13_2⟩) (by kernel_rfl) ?p13_2 hS1 ?r13_2
  case h13_2 => (intro w hS; go_simp; try with_reducible rfl)
  case p13_2 => (go_simp; try with_reducible rfl)
  refine wpAnyH_takeM (i := 3) (v := ?v13_3) (l' := bm 13 15) (a' := ?a13_3) rfl (by kernel_rfl) (by kernel_rfl) (by kernel_rfl) (fun _ _ _ h => h) (Or.inl ⟨by kernel_rfl, ?h13_3⟩) (by kernel_rfl) ?p13_3 hS1 ?r13_3
  case h13_3 => (intro w hS; go_simp; try with_reducible rfl)
  case p13_3 => (go_simp; try with_reducible rfl)
  refine wpAnyH_takeM (i := 4) (v := ?v13_4) (l' := bm 13 31) (a' := ?a13_4) rfl (by kernel_rfl) (by kernel_rfl) (by kernel_rfl) (fun _ _ _ h => h) (Or.inl ⟨by kernel_rfl, ?h13_4⟩) (by kernel_rfl) ?p13_4 hS1 ?r13_4
  case h13_4 => (intro w hS; go_simp; try with_reducible rfl)
  case p13_4 => (go_simp; try with_reducible rfl)
  refine wpAnyH_takeM (i := 6) (v := ?v13_6) (l' := bm 13 95) (a' := ?a13_6) rfl (by kernel_rfl) (by kernel_rfl) (by kernel_rfl) (fun _ _ _ h => h) (Or.inl ⟨by kernel_rfl, ?h13_6⟩) (by kernel_rfl) ?p13_6 hS1 ?r13_6
  case h13_6 => (intro w hS; go_simp; try with_reducible rfl)
  case p13_6 => (go_simp; try with_reducible rfl)
  refine wpAnyH_takeM (i := 8) (v := ?v13_8) (l' := bm 13 351) (a' := ?a13_8) rfl (by kernel_rfl) (by kernel_rfl) (by kernel_rfl) (fun _ _ _ h => h) (Or.inl ⟨by kernel_rfl, ?h13_8⟩) (by kernel_rfl) ?p13_8 hS1 ?r13_8
  case h13_8 => (intro w hS; go_simp; try with_reducible rfl)
  case p13_8 => (go_simp; try with_reducible rfl)
  refine wpAnyH_oneM (i := 5) (l' := bm 13 383) rfl (by kernel_rfl) (by kernel_rfl) (by kernel_rfl) (fun K hK => ?_)
  have hP := hS1.1
  go_simp
  go_at_call 22
  refine (OM.out _).mono ?_
  rintro r w15 ⟨s3_, h3_, c3_, rfl, hr3, hp3, hb⟩
  dsimp only
  have D15 := Lib.hid (below_step hP hb)
  clear hb
  have hS2 := HO.out _ (D15.out)
  clear hP hS1
  refine hK _ _ hS2 ?_
  clear hK K
  refine wpAnyH_oneM (i := 7) (l' := bm 13 511) rfl (by kernel_rfl) (by kernel_rfl) (by kernel_rfl) (fun K hK => ?_)
  have hP := hS2.1
  go_simp
  go_at_call 25
  refine (mul_rp hr3 (HRby_.out _ hP) c3_ cy hp3 HPby_.out (by decide) (by decide) (by decide) (by decide) (by decide) (by decide)).mono ?_
  rintro r w16 ⟨s4_, h4_, c4_, rfl, hr4, hp4, hb⟩
  dsimp only
  have D16 := Lib.hid (below_step hP hb)
  clear hb
  have hS3 := HO.out _ (D16.out)
  clear hP hS2
  refine hK _ _ hS3 ?_
  clear hK K
  refine wpAnyH_oneM (i := 9) (l' := bm 13 1023) rfl (by kernel_rfl) (by kernel_rfl) (by kernel_rfl) (fun K hK => ?_)
  have hP := hS3.1
  go_simp
  go_at_call 24
  refine (less_rp hr4 (HRbx.out _ hP) c4_ cx hp4 HPbx.out (by decide) (by decide) (by decide) (by decide) (by decide) (by decide) G2.out).mono ?_
  rintro r w17 ⟨rfl, hb⟩
  dsimp only
  have D17 := Lib.hid (below_step hP hb)
  clear hb
  have hS4 := HO.out _ (D17.out)
  clear hP hS3
  refine hK _ _ hS4 ?_
  clear hK K
  refine wpAnyH_takeM (i := 10) (v := ?v13_10) (l' := bm 13 2047) (a' := ?a13_10) rfl (by kernel_rfl) (by kernel_rfl) (by kernel_rfl) (fun _ _ _ h => h) (Or.inl ⟨by kernel_rfl, ?h13_10⟩) (by kernel_rfl) ?p13_10 hS4 ?r13_10
  case h13_10 => (intro w hS; go_simp; try with_reducible rfl)
  case p13_10 => (go_simp; try with_reducible rfl)
  refine wpAnyH_takeM (i := 11) (v := ?v13_11) (l' := bm 13 4095) (a' := ?a13_11) rfl (by kernel_rfl) (by kernel_rfl) (by kernel_rfl) (fun _ _ _ h => h) (Or.inl ⟨by kernel_rfl, ?h13_11⟩) (by kernel_rfl) ?p13_11 hS4 ?r13_11
  case h13_11 => (intro w hS; go_simp; try with_reducible rfl)
  case p13_11 => (go_simp; try with_reducible rfl)
  refine wpAnyH_takeM (i := 12) (v := ?v13_12) (l' := bm 13 8191) (a' := ?a13_12) rfl (by kernel_rfl) (by kernel_rfl) (by kernel_rfl) (fun _ _ _ h => h) (Or.inl ⟨by kernel_rfl, ?h13_12⟩) (by kernel_rfl) ?p13_12 hS4 ?r13_12
  case h13_12 => (intro w hS; go_simp; try with_reducible rfl)
  case p13_12 => (go_simp; try with_reducible rfl)
  refine wpAnyH_done (by kernel_rfl) ?_ _
  clear hS4
  have hq := (HO.out _ D17.out).2
  clear hq hr3 hp3 hr4 hp4
  go_wp2_with fail
  refine (IF.out _).mono ?_
  rintro r w' ⟨rfl, rfl⟩
  go_wp2_with fail
  refine (IF.out _).mono ?_
  rintro r w' ⟨rfl, rfl⟩
  go_wp2_with fail
  go_ret
  exact ⟨rfl, below_step HB.out D17.out⟩
set_option maxRecDepth 100000 in
set_option maxHeartbeats 8000000 in
theorem ratio_pyn (a b : Nat) (ha : a < 18446744073709551616) (hb : b < 18446744073709551616) (fa : fin a = true) (fb : fin b = true) (zb : 0 < Z b) (c1 : fin (divR a b true).1 = true) (c2 : fin (divR a b false).1 = false) (w : World) : Calls Try.prog 5 #[.float .f64 a, .float .f64 b] w fun r w' => r = .returned (.bool true) ∧ Below w.heap.size w w' := by
  have H0 := Lib.hid awake
  have H1 := Lib.hid (fun w => num_b a ha w)
  have H2 := Lib.hid (fun w => num_b b hb w)
  rw [fa] at H1
  rw [fb] at H2
  have z0 : Z b ≠ 0 := by omega
  have eb := Nb.c0_eq hb (nan_of_fin fb)
  rw [decide_eq_false z0] at eb
  have el := Z_lt0 b hb fb
  rw [decide_eq_false (by omega)] at el
  have OX := Lib.hid (fun w => of_rp ha fa w)
  have OY := Lib.hid (fun w => of_rp hb fb w)
  have d1 := div_dn fa fb z0
  have d2 := div_up fa fb z0
  have R1 := Lib.hid (fun w => div_any a b true ha hb w)
  have R2 := Lib.hid (fun w => div_any a b false ha hb w)
  rw [divR_fin fa fb z0 true] at R1
  rw [divR_fin fa fb z0 false] at R2
  simp only [pV, numV] at R1 R2
  generalize (divR a b true).1 = lo at *
  generalize (divR a b false).1 = hi at *
  have N1 := Lib.hid (fun w => num_b lo d1.gd.lt w)
  have N2 := Lib.hid (fun w => num_b hi d2.gd.lt w)
  rw [c1] at N1
  rw [c2] at N2
  have CL1 := Lib.hid (fun w => close_any d1.gd d2.gd (nbr_rd d1 d2) w)
  have IF := Lib.hid (fun w => rinf_any w)
  have ⟨i1, i2⟩ := ne_pi d1.gd d1.np
  have ⟨i3, i4⟩ := ne_ni d2.gd d2.np
  have np := Nb.neg_PI
  have xb0 : 0 < fv b := fv_pos.2 zb
  have OL := Lib.hid (fun w => of_rp d1.gd.lt c1 w)
  have G1 := Lib.hid (ratio_dn_p xb0 (d1.lo.resolve_left (fun k => by rw [k] at c1; exact absurd c1 (by decide))))
  clear d1 d2 c1 c2 fa fb ha hb zb z0 xb0
  generalize fv a = xa at *
  generalize fv b = xb at *
  generalize fv lo = xl at *
  go_enter Try.func5, Try.ntmps5
  go_wp2_with fail
  obtain ⟨W, hW⟩ : ∃ W, W = w := ⟨_, rfl⟩
  rw [← hW]
  have HB := Lib.hid (hW ▸ Below.refl w.heap.size w : Below w.heap.size w W)
  clear hW
  have HO := Lib.hid (show ∀ w', Below W.heap.size W w' → (Below W.heap.size W w') from fun w' h => h)
  have D0 := Lib.hid (Below.refl W.heap.size W)
  refine (H0.out _).mono ?_
  rintro r w1 ⟨rfl, hb⟩
  have D1 := Lib.hid (below_step D0.out hb)
  clear hb
  go_wp2_with fail
  refine (H1.out _).mono ?_
  rintro r w2 ⟨rfl, hb⟩
  have D2 := Lib.hid (below_step D1.out hb)
  clear hb
  go_wp2_with fail
  refine (H2.out _).mono ?_
  rintro r w3 ⟨rfl, hb⟩
  have D3 := Lib.hid (below_step D2.out hb)
  clear hb
  go_wp2_with fail
  refine (R1.out _).mono ?_
  rintro r w4 ⟨rfl, hb⟩
  have D4 := Lib.hid (below_step D3.out hb)
  clear hb
  go_wp2_with fail
  refine (R2.out _).mono ?_
  rintro r w5 ⟨rfl, hb⟩
  have D5 := Lib.hid (below_step D4.out hb)
  clear hb
  go_wp2_with fail
  refine (CL1.out _).mono ?_
  rintro r w6 ⟨rfl, hb⟩
  have D6 := Lib.hid (below_step D5.out hb)
  clear hb
  go_wp2_with fail
  refine (OX.out _).mono ?_
  rintro r w7 ⟨bx, gx, cx, rfl, hrx, hpx, hb⟩
  have D7 := Lib.hid (below_step D6.out hb)
  clear hb
  have HRbx := Lib.hid hrx
  have HPbx := Lib.hid hpx
  clear hrx hpx
  go_wp2_with fail
  refine (OY.out _).mono ?_
  rintro r w8 ⟨by_, gy, cy, rfl, hrx, hpx, hb⟩
  have D8 := Lib.hid (below_step D7.out hb)
  have HRbx := Lib.hid (HRbx.out.below' hb)
  clear hb
  have HRby_ := Lib.hid hrx
  have HPby_ := Lib.hid hpx
  clear hrx hpx
  go_wp2_with fail
  obtain ⟨V, hV, KN0, KN1, hBV, hz⟩ := by2 w8 35 35 #[Value.bool bx.neg, Value.slice (some ⟨gx, 0, none⟩) bx.ws.length cx, Value.int IntKind.i64 bx.e] #[Value.bool by_.neg, Value.slice (some ⟨gy, 0, none⟩) by_.ws.length cy, Value.int IntKind.i64 by_.e]
  rw [← hV]
  have HLTbx := Lib.hid HRbx.out.lt
  have HRbx := Lib.hid (HRbx.out.below' hBV)
  have HLTby_ := Lib.hid HRby_.out.lt
  have HRby_ := Lib.hid (HRby_.out.below' hBV)
  have HB' := Lib.hid (below_step (below_step HB.out D8.out) hBV)
  obtain ⟨gv, hgv⟩ : ∃ g, w8.heap.size = g := ⟨_, rfl⟩
  have hwg : w.heap.size ≤ gv := by rw [← hgv]; exact (below_step HB.out D8.out).size
  have lt_bx : gx < gv := by rw [← hgv]; exact HLTbx.out
  have lt_by_ : gy < gv := by rw [← hgv]; exact HLTby_.out
  rw [hgv] at KN0 KN1
  rw [hgv]
  have K0 := Lib.hid KN0
  have K1 := Lib.hid KN1
  clear HB HO KN0 KN1 hV hBV hz hgv
  have HB := HB'
  clear HB'
  have HO := Lib.hid (show ∀ w', Below V.heap.size V w' → (Below V.heap.size V w' ∧ w'.cell? ⟨gv, 0, none⟩ = some (Value.bool bx.neg) ∧ w'.cell? ⟨gv, 1, none⟩ = some (Value.slice (some ⟨gx, 0, none⟩) bx.ws.length cx) ∧ w'.cell? ⟨gv, 2, none⟩ = some (Value.int IntKind.i64 bx.e) ∧ w'.cell? ⟨gv + 1, 0, none⟩ = some (Value.bool by_.neg) ∧ w'.cell? ⟨gv + 1, 1, none⟩ = some (Value.slice (some ⟨gy, 0, none⟩) by_.ws.length cy) ∧ w'.cell? ⟨gv + 1, 2, none⟩ = some (Value.int IntKind.i64 by_.e)) from fun w' h => ⟨h, (K0.out.below h K0.out.lt).cell 0, (K0.out.below h K0.out.lt).cell 1, (K0.out.below h K0.out.lt).cell 2, (K1.out.below h K1.out.lt).cell 0, (K1.out.below h K1.out.lt).cell 1, (K1.out.below h K1.out.lt).cell 2⟩)
  have D9 := Lib.hid (Below.refl V.heap.size V)
  have hq := (HO.out _ D9.out).2
  have HRbx := Lib.hid (fun w' (b : Below V.heap.size V w') => HRbx.out.below' b)
  have HRby_ := Lib.hid (fun w' (b : Below V.heap.size V w') => HRby_.out.below' b)
  go_wp2_with fail
  clear hq
  refine wp_region_held (S := (fun w' => Below V.heap.size V w' ∧ w'.cell? ⟨gv, 0, none⟩ = some (Value.bool bx.neg) ∧ w'.cell? ⟨gv, 1, none⟩ = some (Value.slice (some ⟨gx, 0, none⟩) bx.ws.length cx) ∧ w'.cell? ⟨gv, 2, none⟩ = some (Value.int IntKind.i64 bx.e) ∧ w'.cell? ⟨gv + 1, 0, none⟩ = some (Value.bool by_.neg) ∧ w'.cell? ⟨gv + 1, 1, none⟩ = some (Value.slice (some ⟨gy, 0, none⟩) by_.ws.length cy) ∧ w'.cell? ⟨gv + 1, 2, none⟩ = some (Value.int IntKind.i64 by_.e))) (by kernel_rfl) ?_
  (try change wpAnyH _ _ _ _ _ _ _ (World.drew _))
  have hS0 := HO.out _ (Below.drew D9.out)
  refine wpAnyH_takeM (i := 0) (v := ?v12_0x1) (l' := bm 13 1) (a' := ?a12_0x1) rfl (by kernel_rfl) (by kernel_rfl) (by kernel_rfl) (fun _ _ _ h => h) (Or.inl ⟨by kernel_rfl, ?h12_0x1⟩) (by kernel_rfl) ?p12_0x1 hS0 ?r12_0x1
  case h12_0x1 => (intro w hS; go_simp; try with_reducible rfl)
  case p12_0x1 => (go_simp; try with_reducible rfl)
  refine wpAnyH_oneM (i := 1) (l' := bm 13 3) rfl (by kernel_rfl) (by kernel_rfl) (by kernel_rfl) (fun K hK => ?_)
  have hP := hS0.1
  go_simp
  go_at_call 20
  refine (N1.out _).mono ?_
  rintro r w10 ⟨rfl, hb⟩
  dsimp only
  have D10 := Lib.hid (below_step hP hb)
  clear hb
  have hS1 := HO.out _ (D10.out)
  clear hP hS0
  refine hK _ _ hS1 ?_
  clear hK K
  refine wpAnyH_takeM (i := 2) (v := ?v12_2x1) (l' := bm 13 7) (a' := ?a12_2x1) rfl (by kernel_rfl) (by kernel_rfl) (by kernel_rfl) (fun _ _ _ h => h) (Or.inl ⟨by kernel_rfl, ?h12_2x1⟩) (by kernel_rfl) ?p12_2x1 hS1 ?r12_2x1
  case h12_2x1 => (intro w hS; go_simp; try with_reducible rfl)
  case p12_2x1 => (go_simp; try with_reducible rfl)
  refine wpAnyH_takeM (i := 3) (v := ?v12_3x1) (l' := bm 13 15) (a' := ?a12_3x1) rfl (by kernel_rfl) (by kernel_rfl) (by kernel_rfl) (fun _ _ _ h => h) (Or.inl ⟨by kernel_rfl, ?h12_3x1⟩) (by kernel_rfl) ?p12_3x1 hS1 ?r12_3x1
  case h12_3x1 => (intro w hS; go_simp; try with_reducible rfl)
  case p12_3x1 => (go_simp; try with_reducible rfl)
  refine wpAnyH_takeM (i := 4) (v := ?v12_4x1) (l' := bm 13 31) (a' := ?a12_4x1) rfl (by kernel_rfl) (by kernel_rfl) (by kernel_rfl) (fun _ _ _ h => h) (Or.inl ⟨by kernel_rfl, ?h12_4x1⟩) (by kernel_rfl) ?p12_4x1 hS1 ?r12_4x1
  case h12_4x1 => (intro w hS; go_simp; try with_reducible rfl)
  case p12_4x1 => (go_simp; try with_reducible rfl)
  refine wpAnyH_takeM (i := 5) (v := ?v12_5x1) (l' := bm 13 63) (a' := ?a12_5x1) rfl (by kernel_rfl) (by kernel_rfl) (by kernel_rfl) (fun _ _ _ h => h) (Or.inl ⟨by kernel_rfl, ?h12_5x1⟩) (by kernel_rfl) ?p12_5x1 hS1 ?r12_5x1
  case h12_5x1 => (intro w hS; go_simp; try with_reducible rfl)
  case p12_5x1 => (go_simp; try with_reducible rfl)
  refine wpAnyH_takeM (i := 7) (v := ?v12_7x1) (l' := bm 13 191) (a' := ?a12_7x1) rfl (by kernel_rfl) (by kernel_rfl) (by kernel_rfl) (fun _ _ _ h => h) (Or.inl ⟨by kernel_rfl, ?h12_7x1⟩) (by kernel_rfl) ?p12_7x1 hS1 ?r12_7x1
  case h12_7x1 => (intro w hS; go_simp; try with_reducible rfl)
  case p12_7x1 => (go_simp; try with_reducible rfl)
  refine wpAnyH_oneM (i := 6) (l' := bm 13 255) rfl (by kernel_rfl) (by kernel_rfl) (by kernel_rfl) (fun K hK => ?_)
  have hP := hS1.1
  go_simp
  go_at_call 22
  refine (OL.out _).mono ?_
  rintro r w11 ⟨s1_, h1_, c1_, rfl, hr1, hp1, hb⟩
  dsimp only
  have D11 := Lib.hid (below_step hP hb)
  clear hb
  have hS2 := HO.out _ (D11.out)
  clear hP hS1
  refine hK _ _ hS2 ?_
  clear hK K
  refine wpAnyH_oneM (i := 8) (l' := bm 13 511) rfl (by kernel_rfl) (by kernel_rfl) (by kernel_rfl) (fun K hK => ?_)
  have hP := hS2.1
  go_simp
  go_at_call 25
  refine (mul_rp hr1 (HRby_.out _ hP) c1_ cy hp1 HPby_.out (by decide) (by decide) (by decide) (by decide) (by decide) (by decide)).mono ?_
  rintro r w12 ⟨s2_, h2_, c2_, rfl, hr2, hp2, hb⟩
  dsimp only
  have D12 := Lib.hid (below_step hP hb)
  clear hb
  have hS3 := HO.out _ (D12.out)
  clear hP hS2
  refine hK _ _ hS3 ?_
  clear hK K
  refine wpAnyH_oneM (i := 9) (l' := bm 13 1023) rfl (by kernel_rfl) (by kernel_rfl) (by kernel_rfl) (fun K hK => ?_)
  have hP := hS3.1
  go_simp
  go_at_call 24
  refine (less_rp (HRbx.out _ hP) hr2 cx c2_ HPbx.out hp2 (by decide) (by decide) (by decide) (by decide) (by decide) (by decide) G1.out).mono ?_
  rintro r w13 ⟨rfl, hb⟩
  dsimp only
  have D13 := Lib.hid (below_step hP hb)
  clear hb
  have hS4 := HO.out _ (D13.out)
  clear hP hS3
  refine hK _ _ hS4 ?_
  clear hK K
  refine wpAnyH_takeM (i := 10) (v := ?v12_10x1) (l' := bm 13 2047) (a' := ?a12_10x1) rfl (by kernel_rfl) (by kernel_rfl) (by kernel_rfl) (fun _ _ _ h => h) (Or.inl ⟨by kernel_rfl, ?h12_10x1⟩) (by kernel_rfl) ?p12_10x1 hS4 ?r12_10x1
  case h12_10x1 => (intro w hS; go_simp; try with_reducible rfl)
  case p12_10x1 => (go_simp; try with_reducible rfl)
  refine wpAnyH_takeM (i := 11) (v := ?v12_11x1) (l' := bm 13 4095) (a' := ?a12_11x1) rfl (by kernel_rfl) (by kernel_rfl) (by kernel_rfl) (fun _ _ _ h => h) (Or.inl ⟨by kernel_rfl, ?h12_11x1⟩) (by kernel_rfl) ?p12_11x1 hS4 ?r12_11x1
  case h12_11x1 => (intro w hS; go_simp; try with_reducible rfl)
  case p12_11x1 => (go_simp; try with_reducible rfl)
  refine wpAnyH_takeM (i := 12) (v := ?v12_12x1) (l' := bm 13 8191) (a' := ?a12_12x1) rfl (by kernel_rfl) (by kernel_rfl) (by kernel_rfl) (fun _ _ _ h => h) (Or.inl ⟨by kernel_rfl, ?h12_12x1⟩) (by kernel_rfl) ?p12_12x1 hS4 ?r12_12x1
  case h12_12x1 => (intro w hS; go_simp; try with_reducible rfl)
  case p12_12x1 => (go_simp; try with_reducible rfl)
  refine wpAnyH_done (by kernel_rfl) ?_ _
  clear hS4
  have hq := (HO.out _ D13.out).2
  clear hq hr1 hp1 hr2 hp2
  go_wp2_with fail
  go_wp2_with fail
  refine wp_region_held (S := (fun w' => Below V.heap.size V w' ∧ w'.cell? ⟨gv, 0, none⟩ = some (Value.bool bx.neg) ∧ w'.cell? ⟨gv, 1, none⟩ = some (Value.slice (some ⟨gx, 0, none⟩) bx.ws.length cx) ∧ w'.cell? ⟨gv, 2, none⟩ = some (Value.int IntKind.i64 bx.e) ∧ w'.cell? ⟨gv + 1, 0, none⟩ = some (Value.bool by_.neg) ∧ w'.cell? ⟨gv + 1, 1, none⟩ = some (Value.slice (some ⟨gy, 0, none⟩) by_.ws.length cy) ∧ w'.cell? ⟨gv + 1, 2, none⟩ = some (Value.int IntKind.i64 by_.e))) (by kernel_rfl) ?_
  (try change wpAnyH _ _ _ _ _ _ _ (World.drew _))
  have hS0 := HO.out _ (Below.drew D13.out)
  refine wpAnyH_takeM (i := 0) (v := ?v13_0x1) (l' := bm 13 1) (a' := ?a13_0x1) rfl (by kernel_rfl) (by kernel_rfl) (by kernel_rfl) (fun _ _ _ h => h) (Or.inl ⟨by kernel_rfl, ?h13_0x1⟩) (by kernel_rfl) ?p13_0x1 hS0 ?r13_0x1
  case h13_0x1 => (intro w hS; go_simp; try with_reducible rfl)
  case p13_0x1 => (go_simp; try with_reducible rfl)
  refine wpAnyH_oneM (i := 1) (l' := bm 13 3) rfl (by kernel_rfl) (by kernel_rfl) (by kernel_rfl) (fun K hK => ?_)
  have hP := hS0.1
  go_simp
  go_at_call 20
  refine (N2.out _).mono ?_
  rintro r w14 ⟨rfl, hb⟩
  dsimp only
  have D14 := Lib.hid (below_step hP hb)
  clear hb
  have hS1 := HO.out _ (D14.out)
  clear hP hS0
  refine hK _ _ hS1 ?_
  clear hK K
  refine wpAnyH_takeM (i := 2) (v := ?v13_2x1) (l' := bm 13 7) (a' := ?a13_2x1) rfl (by kernel_rfl) (by kernel_rfl) (by kernel_rfl) (fun _ _ _ h => h) (Or.inl ⟨by kernel_rfl, ?h13_2x1⟩) (by kernel_rfl) ?p13_2x1 hS1 ?r13_2x1
  case h13_2x1 => (intro w hS; go_simp; try with_reducible rfl)
  case p13_2x1 => (go_simp; try with_reducible rfl)
  refine wpAnyH_takeM (i := 3) (v := ?v13_3x1) (l' := bm 13 15) (a' := ?a13_3x1) rfl (by kernel_rfl) (by kernel_rfl) (by kernel_rfl) (fun _ _ _ h => h) (Or.inl ⟨by kernel_rfl, ?h13_3x1⟩) (by kernel_rfl) ?p13_3x1 hS1 ?r13_3x1
  case h13_3x1 => (intro w hS; go_simp; try with_reducible rfl)
  case p13_3x1 => (go_simp; try with_reducible rfl)
  refine wpAnyH_takeM (i := 4) (v := undef) (l' := bm 13 31) (a' := ?a13_4x1) rfl (by kernel_rfl) (by kernel_rfl) (by kernel_rfl) (fun _ _ _ h => h) (Or.inr ⟨by kernel_rfl, rfl⟩) (by kernel_rfl) ?p13_4x1 hS1 ?_
  case p13_4x1 => (go_simp; try with_reducible rfl)
  refine wpAnyH_takeM (i := 5) (v := undef) (l' := bm 13 63) (a' := ?a13_5x1) rfl (by kernel_rfl) (by kernel_rfl) (by kernel_rfl) (fun _ _ _ h => h) (Or.inr ⟨by kernel_rfl, rfl⟩) (by kernel_rfl) ?p13_5x1 hS1 ?_
  case p13_5x1 => (go_simp; try with_reducible rfl)
  refine wpAnyH_takeM (i := 6) (v := undef) (l' := bm 13 127) (a' := ?a13_6x1) rfl (by kernel_rfl) (by kernel_rfl) (by kernel_rfl) (fun _ _ _ h => h) (Or.inr ⟨by kernel_rfl, rfl⟩) (by kernel_rfl) ?p13_6x1 hS1 ?_
  case p13_6x1 => (go_simp; try with_reducible rfl)
  refine wpAnyH_takeM (i := 7) (v := undef) (l' := bm 13 255) (a' := ?a13_7x1) rfl (by kernel_rfl) (by kernel_rfl) (by kernel_rfl) (fun _ _ _ h => h) (Or.inr ⟨by kernel_rfl, rfl⟩) (by kernel_rfl) ?p13_7x1 hS1 ?_
  case p13_7x1 => (go_simp; try with_reducible rfl)
  refine wpAnyH_takeM (i := 8) (v := undef) (l' := bm 13 511) (a' := ?a13_8x1) rfl (by kernel_rfl) (by kernel_rfl) (by kernel_rfl) (fun _ _ _ h => h) (Or.inr ⟨by kernel_rfl, rfl⟩) (by kernel_rfl) ?p13_8x1 hS1 ?_
  case p13_8x1 => (go_simp; try with_reducible rfl)
  refine wpAnyH_takeM (i := 9) (v := undef) (l' := bm 13 1023) (a' := ?a13_9x1) rfl (by kernel_rfl) (by kernel_rfl) (by kernel_rfl) (fun _ _ _ h => h) (Or.inr ⟨by kernel_rfl, rfl⟩) (by kernel_rfl) ?p13_9x1 hS1 ?_
  case p13_9x1 => (go_simp; try with_reducible rfl)
  refine wpAnyH_takeM (i := 10) (v := undef) (l' := bm 13 2047) (a' := ?a13_10x1) rfl (by kernel_rfl) (by kernel_rfl) (by kernel_rfl) (fun _ _ _ h => h) (Or.inr ⟨by kernel_rfl, rfl⟩) (by kernel_rfl) ?p13_10x1 hS1 ?_
  case p13_10x1 => (go_simp; try with_reducible rfl)
  refine wpAnyH_takeM (i := 11) (v := ?v13_11x1) (l' := bm 13 4095) (a' := ?a13_11x1) rfl (by kernel_rfl) (by kernel_rfl) (by kernel_rfl) (fun _ _ _ h => h) (Or.inl ⟨by kernel_rfl, ?h13_11x1⟩) (by kernel_rfl) ?p13_11x1 hS1 ?r13_11x1
  case h13_11x1 => (intro w hS; go_simp; try with_reducible rfl)
  case p13_11x1 => (go_simp; try with_reducible rfl)
  refine wpAnyH_takeM (i := 12) (v := ?v13_12x1) (l' := bm 13 8191) (a' := ?a13_12x1) rfl (by kernel_rfl) (by kernel_rfl) (by kernel_rfl) (fun _ _ _ h => h) (Or.inl ⟨by kernel_rfl, ?h13_12x1⟩) (by kernel_rfl) ?p13_12x1 hS1 ?r13_12x1
  case h13_12x1 => (intro w hS; go_simp; try with_reducible rfl)
  case p13_12x1 => (go_simp; try with_reducible rfl)
  refine wpAnyH_done (by kernel_rfl) ?_ _
  clear hS1
  have hq := (HO.out _ D14.out).2
  clear hq
  go_wp2_with fail
  refine (IF.out _).mono ?_
  rintro r w' ⟨rfl, rfl⟩
  go_wp2_with fail
  refine (IF.out _).mono ?_
  rintro r w' ⟨rfl, rfl⟩
  go_wp2_with fail
  go_ret
  exact ⟨rfl, below_step HB.out D14.out⟩
set_option maxRecDepth 100000 in
set_option maxHeartbeats 8000000 in
theorem ratio_pny (a b : Nat) (ha : a < 18446744073709551616) (hb : b < 18446744073709551616) (fa : fin a = true) (fb : fin b = true) (zb : 0 < Z b) (c1 : fin (divR a b true).1 = false) (c2 : fin (divR a b false).1 = true) (w : World) : Calls Try.prog 5 #[.float .f64 a, .float .f64 b] w fun r w' => r = .returned (.bool true) ∧ Below w.heap.size w w' := by
  have H0 := Lib.hid awake
  have H1 := Lib.hid (fun w => num_b a ha w)
  have H2 := Lib.hid (fun w => num_b b hb w)
  rw [fa] at H1
  rw [fb] at H2
  have z0 : Z b ≠ 0 := by omega
  have eb := Nb.c0_eq hb (nan_of_fin fb)
  rw [decide_eq_false z0] at eb
  have el := Z_lt0 b hb fb
  rw [decide_eq_false (by omega)] at el
  have OX := Lib.hid (fun w => of_rp ha fa w)
  have OY := Lib.hid (fun w => of_rp hb fb w)
  have d1 := div_dn fa fb z0
  have d2 := div_up fa fb z0
  have R1 := Lib.hid (fun w => div_any a b true ha hb w)
  have R2 := Lib.hid (fun w => div_any a b false ha hb w)
  rw [divR_fin fa fb z0 true] at R1
  rw [divR_fin fa fb z0 false] at R2
  simp only [pV, numV] at R1 R2
  generalize (divR a b true).1 = lo at *
  generalize (divR a b false).1 = hi at *
  have N1 := Lib.hid (fun w => num_b lo d1.gd.lt w)
  have N2 := Lib.hid (fun w => num_b hi d2.gd.lt w)
  rw [c1] at N1
  rw [c2] at N2
  have CL1 := Lib.hid (fun w => close_any d1.gd d2.gd (nbr_rd d1 d2) w)
  have IF := Lib.hid (fun w => rinf_any w)
  have ⟨i1, i2⟩ := ne_pi d1.gd d1.np
  have ⟨i3, i4⟩ := ne_ni d2.gd d2.np
  have np := Nb.neg_PI
  have xb0 : 0 < fv b := fv_pos.2 zb
  have OM := Lib.hid (fun w => of_rp d2.gd.lt c2 w)
  have G2 := Lib.hid (ratio_up_p xb0 (d2.hi.resolve_left (fun k => by rw [k] at c2; exact absurd c2 (by decide))))
  clear d1 d2 c1 c2 fa fb ha hb zb z0 xb0
  generalize fv a = xa at *
  generalize fv b = xb at *
  generalize fv hi = xm at *
  go_enter Try.func5, Try.ntmps5
  go_wp2_with fail
  obtain ⟨W, hW⟩ : ∃ W, W = w := ⟨_, rfl⟩
  rw [← hW]
  have HB := Lib.hid (hW ▸ Below.refl w.heap.size w : Below w.heap.size w W)
  clear hW
  have HO := Lib.hid (show ∀ w', Below W.heap.size W w' → (Below W.heap.size W w') from fun w' h => h)
  have D0 := Lib.hid (Below.refl W.heap.size W)
  refine (H0.out _).mono ?_
  rintro r w1 ⟨rfl, hb⟩
  have D1 := Lib.hid (below_step D0.out hb)
  clear hb
  go_wp2_with fail
  refine (H1.out _).mono ?_
  rintro r w2 ⟨rfl, hb⟩
  have D2 := Lib.hid (below_step D1.out hb)
  clear hb
  go_wp2_with fail
  refine (H2.out _).mono ?_
  rintro r w3 ⟨rfl, hb⟩
  have D3 := Lib.hid (below_step D2.out hb)
  clear hb
  go_wp2_with fail
  refine (R1.out _).mono ?_
  rintro r w4 ⟨rfl, hb⟩
  have D4 := Lib.hid (below_step D3.out hb)
  clear hb
  go_wp2_with fail
  refine (R2.out _).mono ?_
  rintro r w5 ⟨rfl, hb⟩
  have D5 := Lib.hid (below_step D4.out hb)
  clear hb
  go_wp2_with fail
  refine (CL1.out _).mono ?_
  rintro r w6 ⟨rfl, hb⟩
  have D6 := Lib.hid (below_step D5.out hb)
  clear hb
  go_wp2_with fail
  refine (OX.out _).mono ?_
  rintro r w7 ⟨bx, gx, cx, rfl, hrx, hpx, hb⟩
  have D7 := Lib.hid (below_step D6.out hb)
  clear hb
  have HRbx := Lib.hid hrx
  have HPbx := Lib.hid hpx
  clear hrx hpx
  go_wp2_with fail
  refine (OY.out _).mono ?_
  rintro r w8 ⟨by_, gy, cy, rfl, hrx, hpx, hb⟩
  have D8 := Lib.hid (below_step D7.out hb)
  have HRbx := Lib.hid (HRbx.out.below' hb)
  clear hb
  have HRby_ := Lib.hid hrx
  have HPby_ := Lib.hid hpx
  clear hrx hpx
  go_wp2_with fail
  obtain ⟨V, hV, KN0, KN1, hBV, hz⟩ := by2 w8 35 35 #[Value.bool bx.neg, Value.slice (some ⟨gx, 0, none⟩) bx.ws.length cx, Value.int IntKind.i64 bx.e] #[Value.bool by_.neg, Value.slice (some ⟨gy, 0, none⟩) by_.ws.length cy, Value.int IntKind.i64 by_.e]
  rw [← hV]
  have HLTbx := Lib.hid HRbx.out.lt
  have HRbx := Lib.hid (HRbx.out.below' hBV)
  have HLTby_ := Lib.hid HRby_.out.lt
  have HRby_ := Lib.hid (HRby_.out.below' hBV)
  have HB' := Lib.hid (below_step (below_step HB.out D8.out) hBV)
  obtain ⟨gv, hgv⟩ : ∃ g, w8.heap.size = g := ⟨_, rfl⟩
  have hwg : w.heap.size ≤ gv := by rw [← hgv]; exact (below_step HB.out D8.out).size
  have lt_bx : gx < gv := by rw [← hgv]; exact HLTbx.out
  have lt_by_ : gy < gv := by rw [← hgv]; exact HLTby_.out
  rw [hgv] at KN0 KN1
  rw [hgv]
  have K0 := Lib.hid KN0
  have K1 := Lib.hid KN1
  clear HB HO KN0 KN1 hV hBV hz hgv
  have HB := HB'
  clear HB'
  have HO := Lib.hid (show ∀ w', Below V.heap.size V w' → (Below V.heap.size V w' ∧ w'.cell? ⟨gv, 0, none⟩ = some (Value.bool bx.neg) ∧ w'.cell? ⟨gv, 1, none⟩ = some (Value.slice (some ⟨gx, 0, none⟩) bx.ws.length cx) ∧ w'.cell? ⟨gv, 2, none⟩ = some (Value.int IntKind.i64 bx.e) ∧ w'.cell? ⟨gv + 1, 0, none⟩ = some (Value.bool by_.neg) ∧ w'.cell? ⟨gv + 1, 1, none⟩ = some (Value.slice (some ⟨gy, 0, none⟩) by_.ws.length cy) ∧ w'.cell? ⟨gv + 1, 2, none⟩ = some (Value.int IntKind.i64 by_.e)) from fun w' h => ⟨h, (K0.out.below h K0.out.lt).cell 0, (K0.out.below h K0.out.lt).cell 1, (K0.out.below h K0.out.lt).cell 2, (K1.out.below h K1.out.lt).cell 0, (K1.out.below h K1.out.lt).cell 1, (K1.out.below h K1.out.lt).cell 2⟩)
  have D9 := Lib.hid (Below.refl V.heap.size V)
  have hq := (HO.out _ D9.out).2
  have HRbx := Lib.hid (fun w' (b : Below V.heap.size V w') => HRbx.out.below' b)
  have HRby_ := Lib.hid (fun w' (b : Below V.heap.size V w') => HRby_.out.below' b)
  go_wp2_with fail
  clear hq
  refine wp_region_held (S := (fun w' => Below V.heap.size V w' ∧ w'.cell? ⟨gv, 0, none⟩ = some (Value.bool bx.neg) ∧ w'.cell? ⟨gv, 1, none⟩ = some (Value.slice (some ⟨gx, 0, none⟩) bx.ws.length cx) ∧ w'.cell? ⟨gv, 2, none⟩ = some (Value.int IntKind.i64 bx.e) ∧ w'.cell? ⟨gv + 1, 0, none⟩ = some (Value.bool by_.neg) ∧ w'.cell? ⟨gv + 1, 1, none⟩ = some (Value.slice (some ⟨gy, 0, none⟩) by_.ws.length cy) ∧ w'.cell? ⟨gv + 1, 2, none⟩ = some (Value.int IntKind.i64 by_.e))) (by kernel_rfl) ?_
  (try change wpAnyH _ _ _ _ _ _ _ (World.drew _))
  have hS0 := HO.out _ (Below.drew D9.out)
  refine wpAnyH_takeM (i := 0) (v := ?v12_0x2) (l' := bm 13 1) (a' := ?a12_0x2) rfl (by kernel_rfl) (by kernel_rfl) (by kernel_rfl) (fun _ _ _ h => h) (Or.inl ⟨by kernel_rfl, ?h12_0x2⟩) (by kernel_rfl) ?p12_0x2 hS0 ?r12_0x2
  case h12_0x2 => (intro w hS; go_simp; try with_reducible rfl)
  case p12_0x2 => (go_simp; try with_reducible rfl)
  refine wpAnyH_oneM (i := 1) (l' := bm 13 3) rfl (by kernel_rfl) (by kernel_rfl) (by kernel_rfl) (fun K hK => ?_)
  have hP := hS0.1
  go_simp
  go_at_call 20
  refine (N1.out _).mono ?_
  rintro r w10 ⟨rfl, hb⟩
  dsimp only
  have D10 := Lib.hid (below_step hP hb)
  clear hb
  have hS1 := HO.out _ (D10.out)
  clear hP hS0
  refine hK _ _ hS1 ?_
  clear hK K
  refine wpAnyH_takeM (i := 2) (v := ?v12_2x2) (l' := bm 13 7) (a' := ?a12_2x2) rfl (by kernel_rfl) (by kernel_rfl) (by kernel_rfl) (fun _ _ _ h => h) (Or.inl ⟨by kernel_rfl, ?h12_2x2⟩) (by kernel_rfl) ?p12_2x2 hS1 ?r12_2x2
  case h12_2x2 => (intro w hS; go_simp; try with_reducible rfl)
  case p12_2x2 => (go_simp; try with_reducible rfl)
  refine wpAnyH_takeM (i := 3) (v := ?v12_3x2) (l' := bm 13 15) (a' := ?a12_3x2) rfl (by kernel_rfl) (by kernel_rfl) (by kernel_rfl) (fun _ _ _ h => h) (Or.inl ⟨by kernel_rfl, ?h12_3x2⟩) (by kernel_rfl) ?p12_3x2 hS1 ?r12_3x2
  case h12_3x2 => (intro w hS; go_simp; try with_reducible rfl)
  case p12_3x2 => (go_simp; try with_reducible rfl)
  refine wpAnyH_takeM (i := 4) (v := undef) (l' := bm 13 31) (a' := ?a12_4x2) rfl (by kernel_rfl) (by kernel_rfl) (by kernel_rfl) (fun _ _ _ h => h) (Or.inr ⟨by kernel_rfl, rfl⟩) (by kernel_rfl) ?p12_4x2 hS1 ?_
  case p12_4x2 => (go_simp; try with_reducible rfl)
  refine wpAnyH_takeM (i := 5) (v := undef) (l' := bm 13 63) (a' := ?a12_5x2) rfl (by kernel_rfl) (by kernel_rfl) (by kernel_rfl) (fun _ _ _ h => h) (Or.inr ⟨by kernel_rfl, rfl⟩) (by kernel_rfl) ?p12_5x2 hS1 ?_
  case p12_5x2 => (go_simp; try with_reducible rfl)
  refine wpAnyH_takeM (i := 6) (v := undef) (l' := bm 13 127) (a' := ?a12_6x2) rfl (by kernel_rfl) (by kernel_rfl) (by kernel_rfl) (fun _ _ _ h => h) (Or.inr ⟨by kernel_rfl, rfl⟩) (by kernel_rfl) ?p12_6x2 hS1 ?_
  case p12_6x2 => (go_simp; try with_reducible rfl)
  refine wpAnyH_takeM (i := 7) (v := undef) (l' := bm 13 255) (a' := ?a12_7x2) rfl (by kernel_rfl) (by kernel_rfl) (by kernel_rfl) (fun _ _ _ h => h) (Or.inr ⟨by kernel_rfl, rfl⟩) (by kernel_rfl) ?p12_7x2 hS1 ?_
  case p12_7x2 => (go_simp; try with_reducible rfl)
  refine wpAnyH_takeM (i := 8) (v := undef) (l' := bm 13 511) (a' := ?a12_8x2) rfl (by kernel_rfl) (by kernel_rfl) (by kernel_rfl) (fun _ _ _ h => h) (Or.inr ⟨by kernel_rfl, rfl⟩) (by kernel_rfl) ?p12_8x2 hS1 ?_
  case p12_8x2 => (go_simp; try with_reducible rfl)
  refine wpAnyH_takeM (i := 9) (v := undef) (l' := bm 13 1023) (a' := ?a12_9x2) rfl (by kernel_rfl) (by kernel_rfl) (by kernel_rfl) (fun _ _ _ h => h) (Or.inr ⟨by kernel_rfl, rfl⟩) (by kernel_rfl) ?p12_9x2 hS1 ?_
  case p12_9x2 => (go_simp; try with_reducible rfl)
  refine wpAnyH_takeM (i := 10) (v := undef) (l' := bm 13 2047) (a' := ?a12_10x2) rfl (by kernel_rfl) (by kernel_rfl) (by kernel_rfl) (fun _ _ _ h => h) (Or.inr ⟨by kernel_rfl, rfl⟩) (by kernel_rfl) ?p12_10x2 hS1 ?_
  case p12_10x2 => (go_simp; try with_reducible rfl)
  refine wpAnyH_takeM (i := 11) (v := ?v12_11x2) (l' := bm 13 4095) (a' := ?a12_11x2) rfl (by kernel_rfl) (by kernel_rfl) (by kernel_rfl) (fun _ _ _ h => h) (Or.inl ⟨by kernel_rfl, ?h12_11x2⟩) (by kernel_rfl) ?p12_11x2 hS1 ?r12_11x2
  case h12_11x2 => (intro w hS; go_simp; try with_reducible rfl)
  case p12_11x2 => (go_simp; try with_reducible rfl)
  refine wpAnyH_takeM (i := 12) (v := ?v12_12x2) (l' := bm 13 8191) (a' := ?a12_12x2) rfl (by kernel_rfl) (by kernel_rfl) (by kernel_rfl) (fun _ _ _ h => h) (Or.inl ⟨by kernel_rfl, ?h12_12x2⟩) (by kernel_rfl) ?p12_12x2 hS1 ?r12_12x2
  case h12_12x2 => (intro w hS; go_simp; try with_reducible rfl)
  case p12_12x2 => (go_simp; try with_reducible rfl)
  refine wpAnyH_done (by kernel_rfl) ?_ _
  clear hS1
  have hq := (HO.out _ D10.out).2
  clear hq
  go_wp2_with fail
  go_wp2_with fail
  refine wp_region_held (S := (fun w' => Below V.heap.size V w' ∧ w'.cell? ⟨gv, 0, none⟩ = some (Value.bool bx.neg) ∧ w'.cell? ⟨gv, 1, none⟩ = some (Value.slice (some ⟨gx, 0, none⟩) bx.ws.length cx) ∧ w'.cell? ⟨gv, 2, none⟩ = some (Value.int IntKind.i64 bx.e) ∧ w'.cell? ⟨gv + 1, 0, none⟩ = some (Value.bool by_.neg) ∧ w'.cell? ⟨gv + 1, 1, none⟩ = some (Value.slice (some ⟨gy, 0, none⟩) by_.ws.length cy) ∧ w'.cell? ⟨gv + 1, 2, none⟩ = some (Value.int IntKind.i64 by_.e))) (by kernel_rfl) ?_
  (try change wpAnyH _ _ _ _ _ _ _ (World.drew _))
  have hS0 := HO.out _ (Below.drew D10.out)
  refine wpAnyH_takeM (i := 0) (v := ?v13_0x2) (l' := bm 13 1) (a' := ?a13_0x2) rfl (by kernel_rfl) (by kernel_rfl) (by kernel_rfl) (fun _ _ _ h => h) (Or.inl ⟨by kernel_rfl, ?h13_0x2⟩) (by kernel_rfl) ?p13_0x2 hS0 ?r13_0x2
  case h13_0x2 => (intro w hS; go_simp; try with_reducible rfl)
  case p13_0x2 => (go_simp; try with_reducible rfl)
  refine wpAnyH_oneM (i := 1) (l' := bm 13 3) rfl (by kernel_rfl) (by kernel_rfl) (by kernel_rfl) (fun K hK => ?_)
  have hP := hS0.1
  go_simp
  go_at_call 20
  refine (N2.out _).mono ?_
  rintro r w11 ⟨rfl, hb⟩
  dsimp only
  have D11 := Lib.hid (below_step hP hb)
  clear hb
  have hS1 := HO.out _ (D11.out)
  clear hP hS0
  refine hK _ _ hS1 ?_
  clear hK K
  refine wpAnyH_takeM (i := 2) (v := ?v13_2x2) (l' := bm 13 7) (a' := ?a13_2x2) rfl (by kernel_rfl) (by kernel_rfl) (by kernel_rfl) (fun _ _ _ h => h) (Or.inl ⟨by kernel_rfl, ?h13_2x2⟩) (by kernel_rfl) ?p13_2x2 hS1 ?r13_2x2
  case h13_2x2 => (intro w hS; go_simp; try with_reducible rfl)
  case p13_2x2 => (go_simp; try with_reducible rfl)
  refine wpAnyH_takeM (i := 3) (v := ?v13_3x2) (l' := bm 13 15) (a' := ?a13_3x2) rfl (by kernel_rfl) (by kernel_rfl) (by kernel_rfl) (fun _ _ _ h => h) (Or.inl ⟨by kernel_rfl, ?h13_3x2⟩) (by kernel_rfl) ?p13_3x2 hS1 ?r13_3x2
  case h13_3x2 => (intro w hS; go_simp; try with_reducible rfl)
  case p13_3x2 => (go_simp; try with_reducible rfl)
  refine wpAnyH_takeM (i := 4) (v := ?v13_4x2) (l' := bm 13 31) (a' := ?a13_4x2) rfl (by kernel_rfl) (by kernel_rfl) (by kernel_rfl) (fun _ _ _ h => h) (Or.inl ⟨by kernel_rfl, ?h13_4x2⟩) (by kernel_rfl) ?p13_4x2 hS1 ?r13_4x2
  case h13_4x2 => (intro w hS; go_simp; try with_reducible rfl)
  case p13_4x2 => (go_simp; try with_reducible rfl)
  refine wpAnyH_takeM (i := 6) (v := ?v13_6x2) (l' := bm 13 95) (a' := ?a13_6x2) rfl (by kernel_rfl) (by kernel_rfl) (by kernel_rfl) (fun _ _ _ h => h) (Or.inl ⟨by kernel_rfl, ?h13_6x2⟩) (by kernel_rfl) ?p13_6x2 hS1 ?r13_6x2
  case h13_6x2 => (intro w hS; go_simp; try with_reducible rfl)
  case p13_6x2 => (go_simp; try with_reducible rfl)
  refine wpAnyH_takeM (i := 8) (v := ?v13_8x2) (l' := bm 13 351) (a' := ?a13_8x2) rfl (by kernel_rfl) (by kernel_rfl) (by kernel_rfl) (fun _ _ _ h => h) (Or.inl ⟨by kernel_rfl, ?h13_8x2⟩) (by kernel_rfl) ?p13_8x2 hS1 ?r13_8x2
  case h13_8x2 => (intro w hS; go_simp; try with_reducible rfl)
  case p13_8x2 => (go_simp; try with_reducible rfl)
  refine wpAnyH_oneM (i := 5) (l' := bm 13 383) rfl (by kernel_rfl) (by kernel_rfl) (by kernel_rfl) (fun K hK => ?_)
  have hP := hS1.1
  go_simp
  go_at_call 22
  refine (OM.out _).mono ?_
  rintro r w12 ⟨s3_, h3_, c3_, rfl, hr3, hp3, hb⟩
  dsimp only
  have D12 := Lib.hid (below_step hP hb)
  clear hb
  have hS2 := HO.out _ (D12.out)
  clear hP hS1
  refine hK _ _ hS2 ?_
  clear hK K
  refine wpAnyH_oneM (i := 7) (l' := bm 13 511) rfl (by kernel_rfl) (by kernel_rfl) (by kernel_rfl) (fun K hK => ?_)
  have hP := hS2.1
  go_simp
  go_at_call 25
  refine (mul_rp hr3 (HRby_.out _ hP) c3_ cy hp3 HPby_.out (by decide) (by decide) (by decide) (by decide) (by decide) (by decide)).mono ?_
  rintro r w13 ⟨s4_, h4_, c4_, rfl, hr4, hp4, hb⟩
  dsimp only
  have D13 := Lib.hid (below_step hP hb)
  clear hb
  have hS3 := HO.out _ (D13.out)
  clear hP hS2
  refine hK _ _ hS3 ?_
  clear hK K
  refine wpAnyH_oneM (i := 9) (l' := bm 13 1023) rfl (by kernel_rfl) (by kernel_rfl) (by kernel_rfl) (fun K hK => ?_)
  have hP := hS3.1
  go_simp
  go_at_call 24
  refine (less_rp hr4 (HRbx.out _ hP) c4_ cx hp4 HPbx.out (by decide) (by decide) (by decide) (by decide) (by decide) (by decide) G2.out).mono ?_
  rintro r w14 ⟨rfl, hb⟩
  dsimp only
  have D14 := Lib.hid (below_step hP hb)
  clear hb
  have hS4 := HO.out _ (D14.out)
  clear hP hS3
  refine hK _ _ hS4 ?_
  clear hK K
  refine wpAnyH_takeM (i := 10) (v := ?v13_10x2) (l' := bm 13 2047) (a' := ?a13_10x2) rfl (by kernel_rfl) (by kernel_rfl) (by kernel_rfl) (fun _ _ _ h => h) (Or.inl ⟨by kernel_rfl, ?h13_10x2⟩) (by kernel_rfl) ?p13_10x2 hS4 ?r13_10x2
  case h13_10x2 => (intro w hS; go_simp; try with_reducible rfl)
  case p13_10x2 => (go_simp; try with_reducible rfl)
  refine wpAnyH_takeM (i := 11) (v := ?v13_11x2) (l' := bm 13 4095) (a' := ?a13_11x2) rfl (by kernel_rfl) (by kernel_rfl) (by kernel_rfl) (fun _ _ _ h => h) (Or.inl ⟨by kernel_rfl, ?h13_11x2⟩) (by kernel_rfl) ?p13_11x2 hS4 ?r13_11x2
  case h13_11x2 => (intro w hS; go_simp; try with_reducible rfl)
  case p13_11x2 => (go_simp; try with_reducible rfl)
  refine wpAnyH_takeM (i := 12) (v := ?v13_12x2) (l' := bm 13 8191) (a' := ?a13_12x2) rfl (by kernel_rfl) (by kernel_rfl) (by kernel_rfl) (fun _ _ _ h => h) (Or.inl ⟨by kernel_rfl, ?h13_12x2⟩) (by kernel_rfl) ?p13_12x2 hS4 ?r13_12x2
  case h13_12x2 => (intro w hS; go_simp; try with_reducible rfl)
  case p13_12x2 => (go_simp; try with_reducible rfl)
  refine wpAnyH_done (by kernel_rfl) ?_ _
  clear hS4
  have hq := (HO.out _ D14.out).2
  clear hq hr3 hp3 hr4 hp4
  go_wp2_with fail
  refine (IF.out _).mono ?_
  rintro r w' ⟨rfl, rfl⟩
  go_wp2_with fail
  refine (IF.out _).mono ?_
  rintro r w' ⟨rfl, rfl⟩
  go_wp2_with fail
  go_ret
  exact ⟨rfl, below_step HB.out D14.out⟩
set_option maxRecDepth 100000 in
set_option maxHeartbeats 8000000 in
theorem ratio_pnn (a b : Nat) (ha : a < 18446744073709551616) (hb : b < 18446744073709551616) (fa : fin a = true) (fb : fin b = true) (zb : 0 < Z b) (c1 : fin (divR a b true).1 = false) (c2 : fin (divR a b false).1 = false) (w : World) : Calls Try.prog 5 #[.float .f64 a, .float .f64 b] w fun r w' => r = .returned (.bool true) ∧ Below w.heap.size w w' := by
  have H0 := Lib.hid awake
  have H1 := Lib.hid (fun w => num_b a ha w)
  have H2 := Lib.hid (fun w => num_b b hb w)
  rw [fa] at H1
  rw [fb] at H2
  have z0 : Z b ≠ 0 := by omega
  have eb := Nb.c0_eq hb (nan_of_fin fb)
  rw [decide_eq_false z0] at eb
  have el := Z_lt0 b hb fb
  rw [decide_eq_false (by omega)] at el
  have OX := Lib.hid (fun w => of_rp ha fa w)
  have OY := Lib.hid (fun w => of_rp hb fb w)
  have d1 := div_dn fa fb z0
  have d2 := div_up fa fb z0
  have R1 := Lib.hid (fun w => div_any a b true ha hb w)
  have R2 := Lib.hid (fun w => div_any a b false ha hb w)
  rw [divR_fin fa fb z0 true] at R1
  rw [divR_fin fa fb z0 false] at R2
  simp only [pV, numV] at R1 R2
  generalize (divR a b true).1 = lo at *
  generalize (divR a b false).1 = hi at *
  have N1 := Lib.hid (fun w => num_b lo d1.gd.lt w)
  have N2 := Lib.hid (fun w => num_b hi d2.gd.lt w)
  rw [c1] at N1
  rw [c2] at N2
  have CL1 := Lib.hid (fun w => close_any d1.gd d2.gd (nbr_rd d1 d2) w)
  have IF := Lib.hid (fun w => rinf_any w)
  have ⟨i1, i2⟩ := ne_pi d1.gd d1.np
  have ⟨i3, i4⟩ := ne_ni d2.gd d2.np
  have np := Nb.neg_PI
  have xb0 : 0 < fv b := fv_pos.2 zb
  clear d1 d2 c1 c2 fa fb ha hb zb z0 xb0
  generalize fv a = xa at *
  generalize fv b = xb at *
  go_enter Try.func5, Try.ntmps5
  go_wp2_with fail
  obtain ⟨W, hW⟩ : ∃ W, W = w := ⟨_, rfl⟩
  rw [← hW]
  have HB := Lib.hid (hW ▸ Below.refl w.heap.size w : Below w.heap.size w W)
  clear hW
  have HO := Lib.hid (show ∀ w', Below W.heap.size W w' → (Below W.heap.size W w') from fun w' h => h)
  have D0 := Lib.hid (Below.refl W.heap.size W)
  refine (H0.out _).mono ?_
  rintro r w1 ⟨rfl, hb⟩
  have D1 := Lib.hid (below_step D0.out hb)
  clear hb
  go_wp2_with fail
  refine (H1.out _).mono ?_
  rintro r w2 ⟨rfl, hb⟩
  have D2 := Lib.hid (below_step D1.out hb)
  clear hb
  go_wp2_with fail
  refine (H2.out _).mono ?_
  rintro r w3 ⟨rfl, hb⟩
  have D3 := Lib.hid (below_step D2.out hb)
  clear hb
  go_wp2_with fail
  refine (R1.out _).mono ?_
  rintro r w4 ⟨rfl, hb⟩
  have D4 := Lib.hid (below_step D3.out hb)
  clear hb
  go_wp2_with fail
  refine (R2.out _).mono ?_
  rintro r w5 ⟨rfl, hb⟩
  have D5 := Lib.hid (below_step D4.out hb)
  clear hb
  go_wp2_with fail
  refine (CL1.out _).mono ?_
  rintro r w6 ⟨rfl, hb⟩
  have D6 := Lib.hid (below_step D5.out hb)
  clear hb
  go_wp2_with fail
  refine (OX.out _).mono ?_
  rintro r w7 ⟨bx, gx, cx, rfl, hrx, hpx, hb⟩
  have D7 := Lib.hid (below_step D6.out hb)
  clear hb
  have HRbx := Lib.hid hrx
  have HPbx := Lib.hid hpx
  clear hrx hpx
  go_wp2_with fail
  refine (OY.out _).mono ?_
  rintro r w8 ⟨by_, gy, cy, rfl, hrx, hpx, hb⟩
  have D8 := Lib.hid (below_step D7.out hb)
  have HRbx := Lib.hid (HRbx.out.below' hb)
  clear hb
  have HRby_ := Lib.hid hrx
  have HPby_ := Lib.hid hpx
  clear hrx hpx
  go_wp2_with fail
  obtain ⟨V, hV, KN0, KN1, hBV, hz⟩ := by2 w8 35 35 #[Value.bool bx.neg, Value.slice (some ⟨gx, 0, none⟩) bx.ws.length cx, Value.int IntKind.i64 bx.e] #[Value.bool by_.neg, Value.slice (some ⟨gy, 0, none⟩) by_.ws.length cy, Value.int IntKind.i64 by_.e]
  rw [← hV]
  have HLTbx := Lib.hid HRbx.out.lt
  have HRbx := Lib.hid (HRbx.out.below' hBV)
  have HLTby_ := Lib.hid HRby_.out.lt
  have HRby_ := Lib.hid (HRby_.out.below' hBV)
  have HB' := Lib.hid (below_step (below_step HB.out D8.out) hBV)
  obtain ⟨gv, hgv⟩ : ∃ g, w8.heap.size = g := ⟨_, rfl⟩
  have hwg : w.heap.size ≤ gv := by rw [← hgv]; exact (below_step HB.out D8.out).size
  have lt_bx : gx < gv := by rw [← hgv]; exact HLTbx.out
  have lt_by_ : gy < gv := by rw [← hgv]; exact HLTby_.out
  rw [hgv] at KN0 KN1
  rw [hgv]
  have K0 := Lib.hid KN0
  have K1 := Lib.hid KN1
  clear HB HO KN0 KN1 hV hBV hz hgv
  have HB := HB'
  clear HB'
  have HO := Lib.hid (show ∀ w', Below V.heap.size V w' → (Below V.heap.size V w' ∧ w'.cell? ⟨gv, 0, none⟩ = some (Value.bool bx.neg) ∧ w'.cell? ⟨gv, 1, none⟩ = some (Value.slice (some ⟨gx, 0, none⟩) bx.ws.length cx) ∧ w'.cell? ⟨gv, 2, none⟩ = some (Value.int IntKind.i64 bx.e) ∧ w'.cell? ⟨gv + 1, 0, none⟩ = some (Value.bool by_.neg) ∧ w'.cell? ⟨gv + 1, 1, none⟩ = some (Value.slice (some ⟨gy, 0, none⟩) by_.ws.length cy) ∧ w'.cell? ⟨gv + 1, 2, none⟩ = some (Value.int IntKind.i64 by_.e)) from fun w' h => ⟨h, (K0.out.below h K0.out.lt).cell 0, (K0.out.below h K0.out.lt).cell 1, (K0.out.below h K0.out.lt).cell 2, (K1.out.below h K1.out.lt).cell 0, (K1.out.below h K1.out.lt).cell 1, (K1.out.below h K1.out.lt).cell 2⟩)
  have D9 := Lib.hid (Below.refl V.heap.size V)
  have hq := (HO.out _ D9.out).2
  have HRbx := Lib.hid (fun w' (b : Below V.heap.size V w') => HRbx.out.below' b)
  have HRby_ := Lib.hid (fun w' (b : Below V.heap.size V w') => HRby_.out.below' b)
  go_wp2_with fail
  clear hq
  refine wp_region_held (S := (fun w' => Below V.heap.size V w' ∧ w'.cell? ⟨gv, 0, none⟩ = some (Value.bool bx.neg) ∧ w'.cell? ⟨gv, 1, none⟩ = some (Value.slice (some ⟨gx, 0, none⟩) bx.ws.length cx) ∧ w'.cell? ⟨gv, 2, none⟩ = some (Value.int IntKind.i64 bx.e) ∧ w'.cell? ⟨gv + 1, 0, none⟩ = some (Value.bool by_.neg) ∧ w'.cell? ⟨gv + 1, 1, none⟩ = some (Value.slice (some ⟨gy, 0, none⟩) by_.ws.length cy) ∧ w'.cell? ⟨gv + 1, 2, none⟩ = some (Value.int IntKind.i64 by_.e))) (by kernel_rfl) ?_
  (try change wpAnyH _ _ _ _ _ _ _ (World.drew _))
  have hS0 := HO.out _ (Below.drew D9.out)
  refine wpAnyH_takeM (i := 0) (v := ?v12_0x3) (l' := bm 13 1) (a' := ?a12_0x3) rfl (by kernel_rfl) (by kernel_rfl) (by kernel_rfl) (fun _ _ _ h => h) (Or.inl ⟨by kernel_rfl, ?h12_0x3⟩) (by kernel_rfl) ?p12_0x3 hS0 ?r12_0x3
  case h12_0x3 => (intro w hS; go_simp; try with_reducible rfl)
  case p12_0x3 => (go_simp; try with_reducible rfl)
  refine wpAnyH_oneM (i := 1) (l' := bm 13 3) rfl (by kernel_rfl) (by kernel_rfl) (by kernel_rfl) (fun K hK => ?_)
  have hP := hS0.1
  go_simp
  go_at_call 20
  refine (N1.out _).mono ?_
  rintro r w10 ⟨rfl, hb⟩
  dsimp only
  have D10 := Lib.hid (below_step hP hb)
  clear hb
  have hS1 := HO.out _ (D10.out)
  clear hP hS0
  refine hK _ _ hS1 ?_
  clear hK K
  refine wpAnyH_takeM (i := 2) (v := ?v12_2x3) (l' := bm 13 7) (a' := ?a12_2x3) rfl (by kernel_rfl) (by kernel_rfl) (by kernel_rfl) (fun _ _ _ h => h) (Or.inl ⟨by kernel_rfl, ?h12_2x3⟩) (by kernel_rfl) ?p12_2x3 hS1 ?r12_2x3
  case h12_2x3 => (intro w hS; go_simp; try with_reducible rfl)
  case p12_2x3 => (go_simp; try with_reducible rfl)
  refine wpAnyH_takeM (i := 3) (v := ?v12_3x3) (l' := bm 13 15) (a' := ?a12_3x3) rfl (by kernel_rfl) (by kernel_rfl) (by kernel_rfl) (fun _ _ _ h => h) (Or.inl ⟨by kernel_rfl, ?h12_3x3⟩) (by kernel_rfl) ?p12_3x3 hS1 ?r12_3x3
  case h12_3x3 => (intro w hS; go_simp; try with_reducible rfl)
  case p12_3x3 => (go_simp; try with_reducible rfl)
  refine wpAnyH_takeM (i := 4) (v := undef) (l' := bm 13 31) (a' := ?a12_4x3) rfl (by kernel_rfl) (by kernel_rfl) (by kernel_rfl) (fun _ _ _ h => h) (Or.inr ⟨by kernel_rfl, rfl⟩) (by kernel_rfl) ?p12_4x3 hS1 ?_
  case p12_4x3 => (go_simp; try with_reducible rfl)
  refine wpAnyH_takeM (i := 5) (v := undef) (l' := bm 13 63) (a' := ?a12_5x3) rfl (by kernel_rfl) (by kernel_rfl) (by kernel_rfl) (fun _ _ _ h => h) (Or.inr ⟨by kernel_rfl, rfl⟩) (by kernel_rfl) ?p12_5x3 hS1 ?_
  case p12_5x3 => (go_simp; try with_reducible rfl)
  refine wpAnyH_takeM (i := 6) (v := undef) (l' := bm 13 127) (a' := ?a12_6x3) rfl (by kernel_rfl) (by kernel_rfl) (by kernel_rfl) (fun _ _ _ h => h) (Or.inr ⟨by kernel_rfl, rfl⟩) (by kernel_rfl) ?p12_6x3 hS1 ?_
  case p12_6x3 => (go_simp; try with_reducible rfl)
  refine wpAnyH_takeM (i := 7) (v := undef) (l' := bm 13 255) (a' := ?a12_7x3) rfl (by kernel_rfl) (by kernel_rfl) (by kernel_rfl) (fun _ _ _ h => h) (Or.inr ⟨by kernel_rfl, rfl⟩) (by kernel_rfl) ?p12_7x3 hS1 ?_
  case p12_7x3 => (go_simp; try with_reducible rfl)
  refine wpAnyH_takeM (i := 8) (v := undef) (l' := bm 13 511) (a' := ?a12_8x3) rfl (by kernel_rfl) (by kernel_rfl) (by kernel_rfl) (fun _ _ _ h => h) (Or.inr ⟨by kernel_rfl, rfl⟩) (by kernel_rfl) ?p12_8x3 hS1 ?_
  case p12_8x3 => (go_simp; try with_reducible rfl)
  refine wpAnyH_takeM (i := 9) (v := undef) (l' := bm 13 1023) (a' := ?a12_9x3) rfl (by kernel_rfl) (by kernel_rfl) (by kernel_rfl) (fun _ _ _ h => h) (Or.inr ⟨by kernel_rfl, rfl⟩) (by kernel_rfl) ?p12_9x3 hS1 ?_
  case p12_9x3 => (go_simp; try with_reducible rfl)
  refine wpAnyH_takeM (i := 10) (v := undef) (l' := bm 13 2047) (a' := ?a12_10x3) rfl (by kernel_rfl) (by kernel_rfl) (by kernel_rfl) (fun _ _ _ h => h) (Or.inr ⟨by kernel_rfl, rfl⟩) (by kernel_rfl) ?p12_10x3 hS1 ?_
  case p12_10x3 => (go_simp; try with_reducible rfl)
  refine wpAnyH_takeM (i := 11) (v := ?v12_11x3) (l' := bm 13 4095) (a' := ?a12_11x3) rfl (by kernel_rfl) (by kernel_rfl) (by kernel_rfl) (fun _ _ _ h => h) (Or.inl ⟨by kernel_rfl, ?h12_11x3⟩) (by kernel_rfl) ?p12_11x3 hS1 ?r12_11x3
  case h12_11x3 => (intro w hS; go_simp; try with_reducible rfl)
  case p12_11x3 => (go_simp; try with_reducible rfl)
  refine wpAnyH_takeM (i := 12) (v := ?v12_12x3) (l' := bm 13 8191) (a' := ?a12_12x3) rfl (by kernel_rfl) (by kernel_rfl) (by kernel_rfl) (fun _ _ _ h => h) (Or.inl ⟨by kernel_rfl, ?h12_12x3⟩) (by kernel_rfl) ?p12_12x3 hS1 ?r12_12x3
  case h12_12x3 => (intro w hS; go_simp; try with_reducible rfl)
  case p12_12x3 => (go_simp; try with_reducible rfl)
  refine wpAnyH_done (by kernel_rfl) ?_ _
  clear hS1
  have hq := (HO.out _ D10.out).2
  clear hq
  go_wp2_with fail
  go_wp2_with fail
  refine wp_region_held (S := (fun w' => Below V.heap.size V w' ∧ w'.cell? ⟨gv, 0, none⟩ = some (Value.bool bx.neg) ∧ w'.cell? ⟨gv, 1, none⟩ = some (Value.slice (some ⟨gx, 0, none⟩) bx.ws.length cx) ∧ w'.cell? ⟨gv, 2, none⟩ = some (Value.int IntKind.i64 bx.e) ∧ w'.cell? ⟨gv + 1, 0, none⟩ = some (Value.bool by_.neg) ∧ w'.cell? ⟨gv + 1, 1, none⟩ = some (Value.slice (some ⟨gy, 0, none⟩) by_.ws.length cy) ∧ w'.cell? ⟨gv + 1, 2, none⟩ = some (Value.int IntKind.i64 by_.e))) (by kernel_rfl) ?_
  (try change wpAnyH _ _ _ _ _ _ _ (World.drew _))
  have hS0 := HO.out _ (Below.drew D10.out)
  refine wpAnyH_takeM (i := 0) (v := ?v13_0x3) (l' := bm 13 1) (a' := ?a13_0x3) rfl (by kernel_rfl) (by kernel_rfl) (by kernel_rfl) (fun _ _ _ h => h) (Or.inl ⟨by kernel_rfl, ?h13_0x3⟩) (by kernel_rfl) ?p13_0x3 hS0 ?r13_0x3
  case h13_0x3 => (intro w hS; go_simp; try with_reducible rfl)
  case p13_0x3 => (go_simp; try with_reducible rfl)
  refine wpAnyH_oneM (i := 1) (l' := bm 13 3) rfl (by kernel_rfl) (by kernel_rfl) (by kernel_rfl) (fun K hK => ?_)
  have hP := hS0.1
  go_simp
  go_at_call 20
  refine (N2.out _).mono ?_
  rintro r w11 ⟨rfl, hb⟩
  dsimp only
  have D11 := Lib.hid (below_step hP hb)
  clear hb
  have hS1 := HO.out _ (D11.out)
  clear hP hS0
  refine hK _ _ hS1 ?_
  clear hK K
  refine wpAnyH_takeM (i := 2) (v := ?v13_2x3) (l' := bm 13 7) (a' := ?a13_2x3) rfl (by kernel_rfl) (by kernel_rfl) (by kernel_rfl) (fun _ _ _ h => h) (Or.inl ⟨by kernel_rfl, ?h13_2x3⟩) (by kernel_rfl) ?p13_2x3 hS1 ?r13_2x3
  case h13_2x3 => (intro w hS; go_simp; try with_reducible rfl)
  case p13_2x3 => (go_simp; try with_reducible rfl)
  refine wpAnyH_takeM (i := 3) (v := ?v13_3x3) (l' := bm 13 15) (a' := ?a13_3x3) rfl (by kernel_rfl) (by kernel_rfl) (by kernel_rfl) (fun _ _ _ h => h) (Or.inl ⟨by kernel_rfl, ?h13_3x3⟩) (by kernel_rfl) ?p13_3x3 hS1 ?r13_3x3
  case h13_3x3 => (intro w hS; go_simp; try with_reducible rfl)
  case p13_3x3 => (go_simp; try with_reducible rfl)
  refine wpAnyH_takeM (i := 4) (v := undef) (l' := bm 13 31) (a' := ?a13_4x3) rfl (by kernel_rfl) (by kernel_rfl) (by kernel_rfl) (fun _ _ _ h => h) (Or.inr ⟨by kernel_rfl, rfl⟩) (by kernel_rfl) ?p13_4x3 hS1 ?_
  case p13_4x3 => (go_simp; try with_reducible rfl)
  refine wpAnyH_takeM (i := 5) (v := undef) (l' := bm 13 63) (a' := ?a13_5x3) rfl (by kernel_rfl) (by kernel_rfl) (by kernel_rfl) (fun _ _ _ h => h) (Or.inr ⟨by kernel_rfl, rfl⟩) (by kernel_rfl) ?p13_5x3 hS1 ?_
  case p13_5x3 => (go_simp; try with_reducible rfl)
  refine wpAnyH_takeM (i := 6) (v := undef) (l' := bm 13 127) (a' := ?a13_6x3) rfl (by kernel_rfl) (by kernel_rfl) (by kernel_rfl) (fun _ _ _ h => h) (Or.inr ⟨by kernel_rfl, rfl⟩) (by kernel_rfl) ?p13_6x3 hS1 ?_
  case p13_6x3 => (go_simp; try with_reducible rfl)
  refine wpAnyH_takeM (i := 7) (v := undef) (l' := bm 13 255) (a' := ?a13_7x3) rfl (by kernel_rfl) (by kernel_rfl) (by kernel_rfl) (fun _ _ _ h => h) (Or.inr ⟨by kernel_rfl, rfl⟩) (by kernel_rfl) ?p13_7x3 hS1 ?_
  case p13_7x3 => (go_simp; try with_reducible rfl)
  refine wpAnyH_takeM (i := 8) (v := undef) (l' := bm 13 511) (a' := ?a13_8x3) rfl (by kernel_rfl) (by kernel_rfl) (by kernel_rfl) (fun _ _ _ h => h) (Or.inr ⟨by kernel_rfl, rfl⟩) (by kernel_rfl) ?p13_8x3 hS1 ?_
  case p13_8x3 => (go_simp; try with_reducible rfl)
  refine wpAnyH_takeM (i := 9) (v := undef) (l' := bm 13 1023) (a' := ?a13_9x3) rfl (by kernel_rfl) (by kernel_rfl) (by kernel_rfl) (fun _ _ _ h => h) (Or.inr ⟨by kernel_rfl, rfl⟩) (by kernel_rfl) ?p13_9x3 hS1 ?_
  case p13_9x3 => (go_simp; try with_reducible rfl)
  refine wpAnyH_takeM (i := 10) (v := undef) (l' := bm 13 2047) (a' := ?a13_10x3) rfl (by kernel_rfl) (by kernel_rfl) (by kernel_rfl) (fun _ _ _ h => h) (Or.inr ⟨by kernel_rfl, rfl⟩) (by kernel_rfl) ?p13_10x3 hS1 ?_
  case p13_10x3 => (go_simp; try with_reducible rfl)
  refine wpAnyH_takeM (i := 11) (v := ?v13_11x3) (l' := bm 13 4095) (a' := ?a13_11x3) rfl (by kernel_rfl) (by kernel_rfl) (by kernel_rfl) (fun _ _ _ h => h) (Or.inl ⟨by kernel_rfl, ?h13_11x3⟩) (by kernel_rfl) ?p13_11x3 hS1 ?r13_11x3
  case h13_11x3 => (intro w hS; go_simp; try with_reducible rfl)
  case p13_11x3 => (go_simp; try with_reducible rfl)
  refine wpAnyH_takeM (i := 12) (v := ?v13_12x3) (l' := bm 13 8191) (a' := ?a13_12x3) rfl (by kernel_rfl) (by kernel_rfl) (by kernel_rfl) (fun _ _ _ h => h) (Or.inl ⟨by kernel_rfl, ?h13_12x3⟩) (by kernel_rfl) ?p13_12x3 hS1 ?r13_12x3
  case h13_12x3 => (intro w hS; go_simp; try with_reducible rfl)
  case p13_12x3 => (go_simp; try with_reducible rfl)
  refine wpAnyH_done (by kernel_rfl) ?_ _
  clear hS1
  have hq := (HO.out _ D11.out).2
  clear hq
  go_wp2_with fail
  refine (IF.out _).mono ?_
  rintro r w' ⟨rfl, rfl⟩
  go_wp2_with fail
  refine (IF.out _).mono ?_
  rintro r w' ⟨rfl, rfl⟩
  go_wp2_with fail
  go_ret
  exact ⟨rfl, below_step HB.out D11.out⟩
set_option maxRecDepth 100000 in
set_option maxHeartbeats 8000000 in
theorem ratio_nyy (a b : Nat) (ha : a < 18446744073709551616) (hb : b < 18446744073709551616) (fa : fin a = true) (fb : fin b = true) (zb : Z b < 0) (c1 : fin (divR a b true).1 = true) (c2 : fin (divR a b false).1 = true) (w : World) : Calls Try.prog 5 #[.float .f64 a, .float .f64 b] w fun r w' => r = .returned (.bool true) ∧ Below w.heap.size w w' := by
  have H0 := Lib.hid awake
  have H1 := Lib.hid (fun w => num_b a ha w)
  have H2 := Lib.hid (fun w => num_b b hb w)
  rw [fa] at H1
  rw [fb] at H2
  have z0 : Z b ≠ 0 := by omega
  have eb := Nb.c0_eq hb (nan_of_fin fb)
  rw [decide_eq_false z0] at eb
  have el := Z_lt0 b hb fb
  rw [decide_eq_true zb] at el
  have OX := Lib.hid (fun w => of_rp ha fa w)
  have OY := Lib.hid (fun w => of_rp hb fb w)
  have d1 := div_dn fa fb z0
  have d2 := div_up fa fb z0
  have R1 := Lib.hid (fun w => div_any a b true ha hb w)
  have R2 := Lib.hid (fun w => div_any a b false ha hb w)
  rw [divR_fin fa fb z0 true] at R1
  rw [divR_fin fa fb z0 false] at R2
  simp only [pV, numV] at R1 R2
  generalize (divR a b true).1 = lo at *
  generalize (divR a b false).1 = hi at *
  have N1 := Lib.hid (fun w => num_b lo d1.gd.lt w)
  have N2 := Lib.hid (fun w => num_b hi d2.gd.lt w)
  rw [c1] at N1
  rw [c2] at N2
  have CL1 := Lib.hid (fun w => close_any d1.gd d2.gd (nbr_rd d1 d2) w)
  have IF := Lib.hid (fun w => rinf_any w)
  have ⟨i1, i2⟩ := ne_pi d1.gd d1.np
  have ⟨i3, i4⟩ := ne_ni d2.gd d2.np
  have np := Nb.neg_PI
  have xb0 : fv b < 0 := fv_neg.2 zb
  have OL := Lib.hid (fun w => of_rp d1.gd.lt c1 w)
  have G1 := Lib.hid (ratio_dn_n xb0 (d1.lo.resolve_left (fun k => by rw [k] at c1; exact absurd c1 (by decide))))
  have OM := Lib.hid (fun w => of_rp d2.gd.lt c2 w)
  have G2 := Lib.hid (ratio_up_n xb0 (d2.hi.resolve_left (fun k => by rw [k] at c2; exact absurd c2 (by decide))))
  clear d1 d2 c1 c2 fa fb ha hb zb z0 xb0
  generalize fv a = xa at *
  generalize fv b = xb at *
  generalize fv lo = xl at *
  generalize fv hi = xm at *
  go_enter Try.func5, Try.ntmps5
  go_wp2_with fail
  obtain ⟨W, hW⟩ : ∃ W, W = w := ⟨_, rfl⟩
  rw [← hW]
  have HB := Lib.hid (hW ▸ Below.refl w.heap.size w : Below w.heap.size w W)
  clear hW
  have HO := Lib.hid (show ∀ w', Below W.heap.size W w' → (Below W.heap.size W w') from fun w' h => h)
  have D0 := Lib.hid (Below.refl W.heap.size W)
  refine (H0.out _).mono ?_
  rintro r w1 ⟨rfl, hb⟩
  have D1 := Lib.hid (below_step D0.out hb)
  clear hb
  go_wp2_with fail
  refine (H1.out _).mono ?_
  rintro r w2 ⟨rfl, hb⟩
  have D2 := Lib.hid (below_step D1.out hb)
  clear hb
  go_wp2_with fail
  refine (H2.out _).mono ?_
  rintro r w3 ⟨rfl, hb⟩
  have D3 := Lib.hid (below_step D2.out hb)
  clear hb
  go_wp2_with fail
  refine (R1.out _).mono ?_
  rintro r w4 ⟨rfl, hb⟩
  have D4 := Lib.hid (below_step D3.out hb)
  clear hb
  go_wp2_with fail
  refine (R2.out _).mono ?_
  rintro r w5 ⟨rfl, hb⟩
  have D5 := Lib.hid (below_step D4.out hb)
  clear hb
  go_wp2_with fail
  refine (CL1.out _).mono ?_
  rintro r w6 ⟨rfl, hb⟩
  have D6 := Lib.hid (below_step D5.out hb)
  clear hb
  go_wp2_with fail
  refine (OX.out _).mono ?_
  rintro r w7 ⟨bx, gx, cx, rfl, hrx, hpx, hb⟩
  have D7 := Lib.hid (below_step D6.out hb)
  clear hb
  have HRbx := Lib.hid hrx
  have HPbx := Lib.hid hpx
  clear hrx hpx
  go_wp2_with fail
  refine (OY.out _).mono ?_
  rintro r w8 ⟨by_, gy, cy, rfl, hrx, hpx, hb⟩
  have D8 := Lib.hid (below_step D7.out hb)
  have HRbx := Lib.hid (HRbx.out.below' hb)
  clear hb
  have HRby_ := Lib.hid hrx
  have HPby_ := Lib.hid hpx
  clear hrx hpx
  go_upto_region 11 with fail
  obtain ⟨V, hV, KN0, KN1, hBV, hz⟩ := by2 w8 35 35 #[Value.bool bx.neg, Value.slice (some ⟨gx, 0, none⟩) bx.ws.length cx, Value.int IntKind.i64 bx.e] #[Value.bool by_.neg, Value.slice (some ⟨gy, 0, none⟩) by_.ws.length cy, Value.int IntKind.i64 by_.e]
  rw [← hV]
  have HLTbx := Lib.hid HRbx.out.lt
  have HRbx := Lib.hid (HRbx.out.below' hBV)
  have HLTby_ := Lib.hid HRby_.out.lt
  have HRby_ := Lib.hid (HRby_.out.below' hBV)
  have HB' := Lib.hid (below_step (below_step HB.out D8.out) hBV)
  obtain ⟨gv, hgv⟩ : ∃ g, w8.heap.size = g := ⟨_, rfl⟩
  have hwg : w.heap.size ≤ gv := by rw [← hgv]; exact (below_step HB.out D8.out).size
  have lt_bx : gx < gv := by rw [← hgv]; exact HLTbx.out
  have lt_by_ : gy < gv := by rw [← hgv]; exact HLTby_.out
  rw [hgv] at KN0 KN1
  rw [hgv]
  have K0 := Lib.hid KN0
  have K1 := Lib.hid KN1
  clear HB HO KN0 KN1 hV hBV hz hgv
  have HB := HB'
  clear HB'
  have HO := Lib.hid (show ∀ w', Below V.heap.size V w' → (Below V.heap.size V w' ∧ w'.cell? ⟨gv, 0, none⟩ = some (Value.bool bx.neg) ∧ w'.cell? ⟨gv, 1, none⟩ = some (Value.slice (some ⟨gx, 0, none⟩) bx.ws.length cx) ∧ w'.cell? ⟨gv, 2, none⟩ = some (Value.int IntKind.i64 bx.e) ∧ w'.cell? ⟨gv + 1, 0, none⟩ = some (Value.bool by_.neg) ∧ w'.cell? ⟨gv + 1, 1, none⟩ = some (Value.slice (some ⟨gy, 0, none⟩) by_.ws.length cy) ∧ w'.cell? ⟨gv + 1, 2, none⟩ = some (Value.int IntKind.i64 by_.e)) from fun w' h => ⟨h, (K0.out.below h K0.out.lt).cell 0, (K0.out.below h K0.out.lt).cell 1, (K0.out.below h K0.out.lt).cell 2, (K1.out.below h K1.out.lt).cell 0, (K1.out.below h K1.out.lt).cell 1, (K1.out.below h K1.out.lt).cell 2⟩)
  have D9 := Lib.hid (Below.refl V.heap.size V)
  have hq := (HO.out _ D9.out).2
  have HRbx := Lib.hid (fun w' (b : Below V.heap.size V w') => HRbx.out.below' b)
  have HRby_ := Lib.hid (fun w' (b : Below V.heap.size V w') => HRby_.out.below' b)
  clear hq
  have HNX := Lib.hid (fun w' => neg_any w' bx.neg (some ⟨gx, 0, none⟩) bx.ws.length cx bx.e)
  have HNY := Lib.hid (fun w' => neg_any w' by_.neg (some ⟨gy, 0, none⟩) by_.ws.length cy by_.e)
  have HF := Lib.hid (show ∀ w', Below V.heap.size V w' → (w'.cell? ⟨gv, 0, none⟩ = some (Value.bool bx.neg) ∧ w'.cell? ⟨gv, 1, none⟩ = some (Value.slice (some ⟨gx, 0, none⟩) bx.ws.length cx) ∧ w'.cell? ⟨gv, 2, none⟩ = some (Value.int IntKind.i64 bx.e) ∧ w'.cell? ⟨gv + 1, 0, none⟩ = some (Value.bool by_.neg) ∧ w'.cell? ⟨gv + 1, 1, none⟩ = some (Value.slice (some ⟨gy, 0, none⟩) by_.ws.length cy) ∧ w'.cell? ⟨gv + 1, 2, none⟩ = some (Value.int IntKind.i64 by_.e)) from fun w' h => ⟨(K0.out.below h K0.out.lt).cell 0 , (K0.out.below h K0.out.lt).cell 1 , (K0.out.below h K0.out.lt).cell 2 , (K1.out.below h K1.out.lt).cell 0 , (K1.out.below h K1.out.lt).cell 1 , (K1.out.below h K1.out.lt).cell 2⟩)
  go_cut [58] (fun s58 wx => True ∧ Below w.heap.size w wx ∧ Blk wx gv 35 #[Value.bool (!bx.neg), Value.slice (some ⟨gx, 0, none⟩) bx.ws.length cx, Value.int IntKind.i64 bx.e] ∧ Blk wx (gv + 1) 35 #[Value.bool (!by_.neg), Value.slice (some ⟨gy, 0, none⟩) by_.ws.length cy, Value.int IntKind.i64 by_.e] ∧ RL wx gx bx.ws ∧ RL wx gy by_.ws)
  case first =>
    refine wp_region_any (by kernel_rfl) ?_
    change wpAny _ _ _ _ _ _ _ (World.drew _)
    obtain ⟨wd, hwd⟩ : ∃ x, x = World.drew V := ⟨_, rfl⟩
    rw [← hwd]
    have DD := Lib.hid (hwd ▸ D9.out.drew : Below V.heap.size V wd)
    clear hwd
    have ⟨y0, y1, y2, y3, y4, y5⟩ := HF.out _ DD.out
    refine wpAny_ready (rs := [0, 2]) (by kernel_rfl) (by simp) ?_
    refine AllReady.cons rfl (fun K hK => ?_) (AllReady.cons rfl (fun K hK => ?_) AllReady.nil)
    · go_simp
      refine hK _ _ ?_
      clear hK K
      refine wpAny_ready (rs := [1, 2]) (by kernel_rfl) (by simp) ?_
      refine AllReady.cons rfl (fun K hK => ?_) (AllReady.cons rfl (fun K hK => ?_) AllReady.nil)
      · go_simp
        go_at_call 23
        refine (HNX.out _).mono ?_
        rintro r w21 ⟨rfl, hb⟩
        dsimp only
        have DE := Lib.hid (below_step DD.out hb)
        clear hb
        have ⟨z0, z1, z2, z3, z4, z5⟩ := HF.out _ DE.out
        refine hK _ _ ?_
        clear hK K
        refine wpAny_ready (rs := [2]) (by kernel_rfl) (by simp) ?_
        refine AllReady.cons rfl (fun K hK => ?_) AllReady.nil
        go_simp
        refine hK _ _ ?_
        clear hK K
        refine wpAny_ready (rs := [3]) (by kernel_rfl) (by simp) ?_
        refine AllReady.cons rfl (fun K hK => ?_) AllReady.nil
        go_simp
        go_at_call 23
        refine (HNY.out _).mono ?_
        rintro r w22 ⟨rfl, hb⟩
        dsimp only
        have DG := Lib.hid (below_step DE.out hb)
        clear hb
        have ⟨z0, z1, z2, z3, z4, z5⟩ := HF.out _ DG.out
        refine hK _ _ ?_
        clear hK K
        have kx := Lib.hid (K0.out.below DG.out K0.out.lt)
        have ky := Lib.hid (K1.out.below DG.out K1.out.lt)
        have f0 := kx.out.frz 0
        have k0 := ky.out.frz 0
        have f1 := kx.out.frz 1
        have k1 := ky.out.frz 1
        have f2 := kx.out.frz 2
        have k2 := ky.out.frz 2
        refine wpAny_ready (rs := [4]) (by kernel_rfl) (by simp) ?_
        refine AllReady.cons rfl (fun K hK => ?_) AllReady.nil
        go_simp
        refine hK _ _ ?_
        clear hK K
        refine wpAny_ready (rs := [5]) (by kernel_rfl) (by simp) ?_
        refine AllReady.cons rfl (fun K hK => ?_) AllReady.nil
        go_simp
        refine hK _ _ ?_
        clear hK K
        refine wpAny_done (by kernel_rfl) ?_ _
        go_wp2_with fail
        go_meet
        exact ⟨trivial, (Below.setCell (Below.setCell (Below.setCell (Below.setCell (Below.setCell (Below.setCell (below_step HB.out DG.out) (p := ⟨gv, 0, none⟩) (by show w.heap.size ≤ gv; omega) _) (p := ⟨gv, 1, none⟩) (by show w.heap.size ≤ gv; omega) _) (p := ⟨gv, 2, none⟩) (by show w.heap.size ≤ gv; omega) _) (p := ⟨gv + 1, 0, none⟩) (by show w.heap.size ≤ gv + 1; omega) _) (p := ⟨gv + 1, 1, none⟩) (by show w.heap.size ≤ gv + 1; omega) _) (p := ⟨gv + 1, 2, none⟩) (by show w.heap.size ≤ gv + 1; omega) _), (Blk.off (Blk.off (Blk.off (Blk.set_ (Blk.set_ (Blk.set_ kx.out 0 _) 1 _) 2 _) ⟨gv + 1, 0, none⟩ _ (by show gv ≠ gv + 1; omega)) ⟨gv + 1, 1, none⟩ _ (by show gv ≠ gv + 1; omega)) ⟨gv + 1, 2, none⟩ _ (by show gv ≠ gv + 1; omega)), (Blk.set_ (Blk.set_ (Blk.set_ (Blk.off (Blk.off (Blk.off ky.out ⟨gv, 0, none⟩ _ (by show gv + 1 ≠ gv; omega)) ⟨gv, 1, none⟩ _ (by show gv + 1 ≠ gv; omega)) ⟨gv, 2, none⟩ _ (by show gv + 1 ≠ gv; omega)) 0 _) 1 _) 2 _), (RL.off (RL.off (RL.off (RL.off (RL.off (RL.off (HRbx.out _ DG.out) ⟨gv, 0, none⟩ _ (by show gx ≠ gv; omega)) ⟨gv, 1, none⟩ _ (by show gx ≠ gv; omega)) ⟨gv, 2, none⟩ _ (by show gx ≠ gv; omega)) ⟨gv + 1, 0, none⟩ _ (by show gx ≠ gv + 1; omega)) ⟨gv + 1, 1, none⟩ _ (by show gx ≠ gv + 1; omega)) ⟨gv + 1, 2, none⟩ _ (by show gx ≠ gv + 1; omega)), (RL.off (RL.off (RL.off (RL.off (RL.off (RL.off (HRby_.out _ DG.out) ⟨gv, 0, none⟩ _ (by show gy ≠ gv; omega)) ⟨gv, 1, none⟩ _ (by show gy ≠ gv; omega)) ⟨gv, 2, none⟩ _ (by show gy ≠ gv; omega)) ⟨gv + 1, 0, none⟩ _ (by show gy ≠ gv + 1; omega)) ⟨gv + 1, 1, none⟩ _ (by show gy ≠ gv + 1; omega)) ⟨gv + 1, 2, none⟩ _ (by show gy ≠ gv + 1; omega))⟩
      · go_simp
        refine hK _ _ ?_
        clear hK K
        refine wpAny_ready (rs := [1]) (by kernel_rfl) (by simp) ?_
        refine AllReady.cons rfl (fun K hK => ?_) AllReady.nil
        go_simp
        go_at_call 23
        refine (HNX.out _).mono ?_
        rintro r w21 ⟨rfl, hb⟩
        dsimp only
        have DE := Lib.hid (below_step DD.out hb)
        clear hb
        have ⟨z0, z1, z2, z3, z4, z5⟩ := HF.out _ DE.out
        refine hK _ _ ?_
        clear hK K
        refine wpAny_ready (rs := [3]) (by kernel_rfl) (by simp) ?_
        refine AllReady.cons rfl (fun K hK => ?_) AllReady.nil
        go_simp
        go_at_call 23
        refine (HNY.out _).mono ?_
        rintro r w22 ⟨rfl, hb⟩
        dsimp only
        have DG := Lib.hid (below_step DE.out hb)
        clear hb
        have ⟨z0, z1, z2, z3, z4, z5⟩ := HF.out _ DG.out
        refine hK _ _ ?_
        clear hK K
        have kx := Lib.hid (K0.out.below DG.out K0.out.lt)
        have ky := Lib.hid (K1.out.below DG.out K1.out.lt)
        have f0 := kx.out.frz 0
        have k0 := ky.out.frz 0
        have f1 := kx.out.frz 1
        have k1 := ky.out.frz 1
        have f2 := kx.out.frz 2
        have k2 := ky.out.frz 2
        refine wpAny_ready (rs := [4]) (by kernel_rfl) (by simp) ?_
        refine AllReady.cons rfl (fun K hK => ?_) AllReady.nil
        go_simp
        refine hK _ _ ?_
        clear hK K
        refine wpAny_ready (rs := [5]) (by kernel_rfl) (by simp) ?_
        refine AllReady.cons rfl (fun K hK => ?_) AllReady.nil
        go_simp
        refine hK _ _ ?_
        clear hK K
        refine wpAny_done (by kernel_rfl) ?_ _
        go_wp2_with fail
        go_meet
        exact ⟨trivial, (Below.setCell (Below.setCell (Below.setCell (Below.setCell (Below.setCell (Below.setCell (below_step HB.out DG.out) (p := ⟨gv, 0, none⟩) (by show w.heap.size ≤ gv; omega) _) (p := ⟨gv, 1, none⟩) (by show w.heap.size ≤ gv; omega) _) (p := ⟨gv, 2, none⟩) (by show w.heap.size ≤ gv; omega) _) (p := ⟨gv + 1, 0, none⟩) (by show w.heap.size ≤ gv + 1; omega) _) (p := ⟨gv + 1, 1, none⟩) (by show w.heap.size ≤ gv + 1; omega) _) (p := ⟨gv + 1, 2, none⟩) (by show w.heap.size ≤ gv + 1; omega) _), (Blk.off (Blk.off (Blk.off (Blk.set_ (Blk.set_ (Blk.set_ kx.out 0 _) 1 _) 2 _) ⟨gv + 1, 0, none⟩ _ (by show gv ≠ gv + 1; omega)) ⟨gv + 1, 1, none⟩ _ (by show gv ≠ gv + 1; omega)) ⟨gv + 1, 2, none⟩ _ (by show gv ≠ gv + 1; omega)), (Blk.set_ (Blk.set_ (Blk.set_ (Blk.off (Blk.off (Blk.off ky.out ⟨gv, 0, none⟩ _ (by show gv + 1 ≠ gv; omega)) ⟨gv, 1, none⟩ _ (by show gv + 1 ≠ gv; omega)) ⟨gv, 2, none⟩ _ (by show gv + 1 ≠ gv; omega)) 0 _) 1 _) 2 _), (RL.off (RL.off (RL.off (RL.off (RL.off (RL.off (HRbx.out _ DG.out) ⟨gv, 0, none⟩ _ (by show gx ≠ gv; omega)) ⟨gv, 1, none⟩ _ (by show gx ≠ gv; omega)) ⟨gv, 2, none⟩ _ (by show gx ≠ gv; omega)) ⟨gv + 1, 0, none⟩ _ (by show gx ≠ gv + 1; omega)) ⟨gv + 1, 1, none⟩ _ (by show gx ≠ gv + 1; omega)) ⟨gv + 1, 2, none⟩ _ (by show gx ≠ gv + 1; omega)), (RL.off (RL.off (RL.off (RL.off (RL.off (RL.off (HRby_.out _ DG.out) ⟨gv, 0, none⟩ _ (by show gy ≠ gv; omega)) ⟨gv, 1, none⟩ _ (by show gy ≠ gv; omega)) ⟨gv, 2, none⟩ _ (by show gy ≠ gv; omega)) ⟨gv + 1, 0, none⟩ _ (by show gy ≠ gv + 1; omega)) ⟨gv + 1, 1, none⟩ _ (by show gy ≠ gv + 1; omega)) ⟨gv + 1, 2, none⟩ _ (by show gy ≠ gv + 1; omega))⟩
    · go_simp
      refine hK _ _ ?_
      clear hK K
      refine wpAny_ready (rs := [0]) (by kernel_rfl) (by simp) ?_
      refine AllReady.cons rfl (fun K hK => ?_) AllReady.nil
      go_simp
      refine hK _ _ ?_
      clear hK K
      refine wpAny_ready (rs := [1]) (by kernel_rfl) (by simp) ?_
      refine AllReady.cons rfl (fun K hK => ?_) AllReady.nil
      go_simp
      go_at_call 23
      refine (HNX.out _).mono ?_
      rintro r w21 ⟨rfl, hb⟩
      dsimp only
      have DE := Lib.hid (below_step DD.out hb)
      clear hb
      have ⟨z0, z1, z2, z3, z4, z5⟩ := HF.out _ DE.out
      refine hK _ _ ?_
      clear hK K
      refine wpAny_ready (rs := [3]) (by kernel_rfl) (by simp) ?_
      refine AllReady.cons rfl (fun K hK => ?_) AllReady.nil
      go_simp
      go_at_call 23
      refine (HNY.out _).mono ?_
      rintro r w22 ⟨rfl, hb⟩
      dsimp only
      have DG := Lib.hid (below_step DE.out hb)
      clear hb
      have ⟨z0, z1, z2, z3, z4, z5⟩ := HF.out _ DG.out
      refine hK _ _ ?_
      clear hK K
      have kx := Lib.hid (K0.out.below DG.out K0.out.lt)
      have ky := Lib.hid (K1.out.below DG.out K1.out.lt)
      have f0 := kx.out.frz 0
      have k0 := ky.out.frz 0
      have f1 := kx.out.frz 1
      have k1 := ky.out.frz 1
      have f2 := kx.out.frz 2
      have k2 := ky.out.frz 2
      refine wpAny_ready (rs := [4]) (by kernel_rfl) (by simp) ?_
      refine AllReady.cons rfl (fun K hK => ?_) AllReady.nil
      go_simp
      refine hK _ _ ?_
      clear hK K
      refine wpAny_ready (rs := [5]) (by kernel_rfl) (by simp) ?_
      refine AllReady.cons rfl (fun K hK => ?_) AllReady.nil
      go_simp
      refine hK _ _ ?_
      clear hK K
      refine wpAny_done (by kernel_rfl) ?_ _
      go_wp2_with fail
      go_meet
      exact ⟨trivial, (Below.setCell (Below.setCell (Below.setCell (Below.setCell (Below.setCell (Below.setCell (below_step HB.out DG.out) (p := ⟨gv, 0, none⟩) (by show w.heap.size ≤ gv; omega) _) (p := ⟨gv, 1, none⟩) (by show w.heap.size ≤ gv; omega) _) (p := ⟨gv, 2, none⟩) (by show w.heap.size ≤ gv; omega) _) (p := ⟨gv + 1, 0, none⟩) (by show w.heap.size ≤ gv + 1; omega) _) (p := ⟨gv + 1, 1, none⟩) (by show w.heap.size ≤ gv + 1; omega) _) (p := ⟨gv + 1, 2, none⟩) (by show w.heap.size ≤ gv + 1; omega) _), (Blk.off (Blk.off (Blk.off (Blk.set_ (Blk.set_ (Blk.set_ kx.out 0 _) 1 _) 2 _) ⟨gv + 1, 0, none⟩ _ (by show gv ≠ gv + 1; omega)) ⟨gv + 1, 1, none⟩ _ (by show gv ≠ gv + 1; omega)) ⟨gv + 1, 2, none⟩ _ (by show gv ≠ gv + 1; omega)), (Blk.set_ (Blk.set_ (Blk.set_ (Blk.off (Blk.off (Blk.off ky.out ⟨gv, 0, none⟩ _ (by show gv + 1 ≠ gv; omega)) ⟨gv, 1, none⟩ _ (by show gv + 1 ≠ gv; omega)) ⟨gv, 2, none⟩ _ (by show gv + 1 ≠ gv; omega)) 0 _) 1 _) 2 _), (RL.off (RL.off (RL.off (RL.off (RL.off (RL.off (HRbx.out _ DG.out) ⟨gv, 0, none⟩ _ (by show gx ≠ gv; omega)) ⟨gv, 1, none⟩ _ (by show gx ≠ gv; omega)) ⟨gv, 2, none⟩ _ (by show gx ≠ gv; omega)) ⟨gv + 1, 0, none⟩ _ (by show gx ≠ gv + 1; omega)) ⟨gv + 1, 1, none⟩ _ (by show gx ≠ gv + 1; omega)) ⟨gv + 1, 2, none⟩ _ (by show gx ≠ gv + 1; omega)), (RL.off (RL.off (RL.off (RL.off (RL.off (RL.off (HRby_.out _ DG.out) ⟨gv, 0, none⟩ _ (by show gy ≠ gv; omega)) ⟨gv, 1, none⟩ _ (by show gy ≠ gv; omega)) ⟨gv, 2, none⟩ _ (by show gy ≠ gv; omega)) ⟨gv + 1, 0, none⟩ _ (by show gy ≠ gv + 1; omega)) ⟨gv + 1, 1, none⟩ _ (by show gy ≠ gv + 1; omega)) ⟨gv + 1, 2, none⟩ _ (by show gy ≠ gv + 1; omega))⟩
  case rest =>
    obtain ⟨-, hbx, kx, ky, rx, ry⟩ := hcut
    have HB := Lib.hid hbx
    have K0 := Lib.hid kx
    have K1 := Lib.hid ky
    have HRbx := Lib.hid rx
    have HRby_ := Lib.hid ry
    have HPbx := Lib.hid HPbx.out.opp
    have HPby_ := Lib.hid HPby_.out.opp
    clear hbx kx ky rx ry HNX HNY HF
    have HRbx : Hid (RL wc gx bx.opp.ws) := HRbx
    have HRby_ : Hid (RL wc gy by_.opp.ws) := HRby_
    have K0 : Hid (Blk wc gv 35 #[Value.bool bx.opp.neg, Value.slice (some ⟨gx, 0, none⟩) bx.opp.ws.length cx, Value.int IntKind.i64 bx.opp.e]) := K0
    have K1 : Hid (Blk wc (gv + 1) 35 #[Value.bool by_.opp.neg, Value.slice (some ⟨gy, 0, none⟩) by_.opp.ws.length cy, Value.int IntKind.i64 by_.opp.e]) := K1
    generalize bx.opp = bx at *
    generalize by_.opp = by_ at *
    have HO := Lib.hid (show ∀ w', Below wc.heap.size wc w' → (Below wc.heap.size wc w' ∧ w'.cell? ⟨gv, 0, none⟩ = some (Value.bool bx.neg) ∧ w'.cell? ⟨gv, 1, none⟩ = some (Value.slice (some ⟨gx, 0, none⟩) bx.ws.length cx) ∧ w'.cell? ⟨gv, 2, none⟩ = some (Value.int IntKind.i64 bx.e) ∧ w'.cell? ⟨gv + 1, 0, none⟩ = some (Value.bool by_.neg) ∧ w'.cell? ⟨gv + 1, 1, none⟩ = some (Value.slice (some ⟨gy, 0, none⟩) by_.ws.length cy) ∧ w'.cell? ⟨gv + 1, 2, none⟩ = some (Value.int IntKind.i64 by_.e)) from fun w' h => ⟨h, (K0.out.below h K0.out.lt).cell 0, (K0.out.below h K0.out.lt).cell 1, (K0.out.below h K0.out.lt).cell 2, (K1.out.below h K1.out.lt).cell 0, (K1.out.below h K1.out.lt).cell 1, (K1.out.below h K1.out.lt).cell 2⟩)
    have D10 := Lib.hid (Below.refl wc.heap.size wc)
    have hq := (HO.out _ D10.out).2
    have HRbx := Lib.hid (fun w' (b : Below wc.heap.size wc w') => HRbx.out.below' b)
    have HRby_ := Lib.hid (fun w' (b : Below wc.heap.size wc w') => HRby_.out.below' b)
    clear hq
    go_wp2_with fail
    go_wp2_with fail
    refine wp_region_held (S := (fun w' => Below wc.heap.size wc w' ∧ w'.cell? ⟨gv, 0, none⟩ = some (Value.bool bx.neg) ∧ w'.cell? ⟨gv, 1, none⟩ = some (Value.slice (some ⟨gx, 0, none⟩) bx.ws.length cx) ∧ w'.cell? ⟨gv, 2, none⟩ = some (Value.int IntKind.i64 bx.e) ∧ w'.cell? ⟨gv + 1, 0, none⟩ = some (Value.bool by_.neg) ∧ w'.cell? ⟨gv + 1, 1, none⟩ = some (Value.slice (some ⟨gy, 0, none⟩) by_.ws.length cy) ∧ w'.cell? ⟨gv + 1, 2, none⟩ = some (Value.int IntKind.i64 by_.e))) (by kernel_rfl) ?_
    (try change wpAnyH _ _ _ _ _ _ _ (World.drew _))
    have hS0 := HO.out _ (Below.drew D10.out)
    refine wpAnyH_takeM (i := 0) (v := ?v12_0x4) (l' := bm 13 1) (a' := ?a12_0x4) rfl (by kernel_rfl) (by kernel_rfl) (by kernel_rfl) (fun _ _ _ h => h) (Or.inl ⟨by kernel_rfl, ?h12_0x4⟩) (by kernel_rfl) ?p12_0x4 hS0 ?r12_0x4
    case h12_0x4 => (intro w hS; go_simp; try with_reducible rfl)
    case p12_0x4 => (go_simp; try with_reducible rfl)
    refine wpAnyH_oneM (i := 1) (l' := bm 13 3) rfl (by kernel_rfl) (by kernel_rfl) (by kernel_rfl) (fun K hK => ?_)
    have hP := hS0.1
    go_simp
    go_at_call 20
    refine (N1.out _).mono ?_
    rintro r w11 ⟨rfl, hb⟩
    dsimp only
    have D11 := Lib.hid (below_step hP hb)
    clear hb
    have hS1 := HO.out _ (D11.out)
    clear hP hS0
    refine hK _ _ hS1 ?_
    clear hK K
    refine wpAnyH_takeM (i := 2) (v := ?v12_2x4) (l' := bm 13 7) (a' := ?a12_2x4) rfl (by kernel_rfl) (by kernel_rfl) (by kernel_rfl) (fun _ _ _ h => h) (Or.inl ⟨by kernel_rfl, ?h12_2x4⟩) (by kernel_rfl) ?p12_2x4 hS1 ?r12_2x4
    case h12_2x4 => (intro w hS; go_simp; try with_reducible rfl)
    case p12_2x4 => (go_simp; try with_reducible rfl)
    refine wpAnyH_takeM (i := 3) (v := ?v12_3x4) (l' := bm 13 15) (a' := ?a12_3x4) rfl (by kernel_rfl) (by kernel_rfl) (by kernel_rfl) (fun _ _ _ h => h) (Or.inl ⟨by kernel_rfl, ?h12_3x4⟩) (by kernel_rfl) ?p12_3x4 hS1 ?r12_3x4
    case h12_3x4 => (intro w hS; go_simp; try with_reducible rfl)
    case p12_3x4 => (go_simp; try with_reducible rfl)
    refine wpAnyH_takeM (i := 4) (v := ?v12_4x4) (l' := bm 13 31) (a' := ?a12_4x4) rfl (by kernel_rfl) (by kernel_rfl) (by kernel_rfl) (fun _ _ _ h => h) (Or.inl ⟨by kernel_rfl, ?h12_4x4⟩) (by kernel_rfl) ?p12_4x4 hS1 ?r12_4x4
    case h12_4x4 => (intro w hS; go_simp; try with_reducible rfl)
    case p12_4x4 => (go_simp; try with_reducible rfl)
    refine wpAnyH_takeM (i := 5) (v := ?v12_5x4) (l' := bm 13 63) (a' := ?a12_5x4) rfl (by kernel_rfl) (by kernel_rfl) (by kernel_rfl) (fun _ _ _ h => h) (Or.inl ⟨by kernel_rfl, ?h12_5x4⟩) (by kernel_rfl) ?p12_5x4 hS1 ?r12_5x4
    case h12_5x4 => (intro w hS; go_simp; try with_reducible rfl)
    case p12_5x4 => (go_simp; try with_reducible rfl)
    refine wpAnyH_takeM (i := 7) (v := ?v12_7x4) (l' := bm 13 191) (a' := ?a12_7x4) rfl (by kernel_rfl) (by kernel_rfl) (by kernel_rfl) (fun _ _ _ h => h) (Or.inl ⟨by kernel_rfl, ?h12_7x4⟩) (by kernel_rfl) ?p12_7x4 hS1 ?r12_7x4
    case h12_7x4 => (intro w hS; go_simp; try with_reducible rfl)
    case p12_7x4 => (go_simp; try with_reducible rfl)
    refine wpAnyH_oneM (i := 6) (l' := bm 13 255) rfl (by kernel_rfl) (by kernel_rfl) (by kernel_rfl) (fun K hK => ?_)
    have hP := hS1.1
    go_simp
    go_at_call 22
    refine (OL.out _).mono ?_
    rintro r w12 ⟨s1_, h1_, c1_, rfl, hr1, hp1, hb⟩
    dsimp only
    have D12 := Lib.hid (below_step hP hb)
    clear hb
    have hS2 := HO.out _ (D12.out)
    clear hP hS1
    refine hK _ _ hS2 ?_
    clear hK K
    refine wpAnyH_oneM (i := 8) (l' := bm 13 511) rfl (by kernel_rfl) (by kernel_rfl) (by kernel_rfl) (fun K hK => ?_)
    have hP := hS2.1
    go_simp
    go_at_call 25
    refine (mul_rp hr1 (HRby_.out _ hP) c1_ cy hp1 HPby_.out (by decide) (by decide) (by decide) (by decide) (by decide) (by decide)).mono ?_
    rintro r w13 ⟨s2_, h2_, c2_, rfl, hr2, hp2, hb⟩
    dsimp only
    have D13 := Lib.hid (below_step hP hb)
    clear hb
    have hS3 := HO.out _ (D13.out)
    clear hP hS2
    refine hK _ _ hS3 ?_
    clear hK K
    refine wpAnyH_oneM (i := 9) (l' := bm 13 1023) rfl (by kernel_rfl) (by kernel_rfl) (by kernel_rfl) (fun K hK => ?_)
    have hP := hS3.1
    go_simp
    go_at_call 24
    refine (less_rp (HRbx.out _ hP) hr2 cx c2_ HPbx.out hp2 (by decide) (by decide) (by decide) (by decide) (by decide) (by decide) G1.out).mono ?_
    rintro r w14 ⟨rfl, hb⟩
    dsimp only
    have D14 := Lib.hid (below_step hP hb)
    clear hb
    have hS4 := HO.out _ (D14.out)
    clear hP hS3
    refine hK _ _ hS4 ?_
    clear hK K
    refine wpAnyH_takeM (i := 10) (v := ?v12_10x4) (l' := bm 13 2047) (a' := ?a12_10x4) rfl (by kernel_rfl) (by kernel_rfl) (by kernel_rfl) (fun _ _ _ h => h) (Or.inl ⟨by kernel_rfl, ?h12_10x4⟩) (by kernel_rfl) ?p12_10x4 hS4 ?r12_10x4
    case h12_10x4 => (intro w hS; go_simp; try with_reducible rfl)
    case p12_10x4 => (go_simp; try with_reducible rfl)
    refine wpAnyH_takeM (i := 11) (v := ?v12_11x4) (l' := bm 13 4095) (a' := ?a12_11x4) rfl (by kernel_rfl) (by kernel_rfl) (by kernel_rfl) (fun _ _ _ h => h) (Or.inl ⟨by kernel_rfl, ?h12_11x4⟩) (by kernel_rfl) ?p12_11x4 hS4 ?r12_11x4
    case h12_11x4 => (intro w hS; go_simp; try with_reducible rfl)
    case p12_11x4 => (go_simp; try with_reducible rfl)
    refine wpAnyH_takeM (i := 12) (v := ?v12_12x4) (l' := bm 13 8191) (a' := ?a12_12x4) rfl (by kernel_rfl) (by kernel_rfl) (by kernel_rfl) (fun _ _ _ h => h) (Or.inl ⟨by kernel_rfl, ?h12_12x4⟩) (by kernel_rfl) ?p12_12x4 hS4 ?r12_12x4
    case h12_12x4 => (intro w hS; go_simp; try with_reducible rfl)
    case p12_12x4 => (go_simp; try with_reducible rfl)
    refine wpAnyH_done (by kernel_rfl) ?_ _
    clear hS4
    have hq := (HO.out _ D14.out).2
    clear hq hr1 hp1 hr2 hp2
    go_wp2_with fail
    go_wp2_with fail
    refine wp_region_held (S := (fun w' => Below wc.heap.size wc w' ∧ w'.cell? ⟨gv, 0, none⟩ = some (Value.bool bx.neg) ∧ w'.cell? ⟨gv, 1, none⟩ = some (Value.slice (some ⟨gx, 0, none⟩) bx.ws.length cx) ∧ w'.cell? ⟨gv, 2, none⟩ = some (Value.int IntKind.i64 bx.e) ∧ w'.cell? ⟨gv + 1, 0, none⟩ = some (Value.bool by_.neg) ∧ w'.cell? ⟨gv + 1, 1, none⟩ = some (Value.slice (some ⟨gy, 0, none⟩) by_.ws.length cy) ∧ w'.cell? ⟨gv + 1, 2, none⟩ = some (Value.int IntKind.i64 by_.e))) (by kernel_rfl) ?_
    (try change wpAnyH _ _ _ _ _ _ _ (World.drew _))
    have hS0 := HO.out _ (Below.drew D14.out)
    refine wpAnyH_takeM (i := 0) (v := ?v13_0x4) (l' := bm 13 1) (a' := ?a13_0x4) rfl (by kernel_rfl) (by kernel_rfl) (by kernel_rfl) (fun _ _ _ h => h) (Or.inl ⟨by kernel_rfl, ?h13_0x4⟩) (by kernel_rfl) ?p13_0x4 hS0 ?r13_0x4
    case h13_0x4 => (intro w hS; go_simp; try with_reducible rfl)
    case p13_0x4 => (go_simp; try with_reducible rfl)
    refine wpAnyH_oneM (i := 1) (l' := bm 13 3) rfl (by kernel_rfl) (by kernel_rfl) (by kernel_rfl) (fun K hK => ?_)
    have hP := hS0.1
    go_simp
    go_at_call 20
    refine (N2.out _).mono ?_
    rintro r w15 ⟨rfl, hb⟩
    dsimp only
    have D15 := Lib.hid (below_step hP hb)
    clear hb
    have hS1 := HO.out _ (D15.out)
    clear hP hS0
    refine hK _ _ hS1 ?_
    clear hK K
    refine wpAnyH_takeM (i := 2) (v := ?v13_2x4) (l' := bm 13 7) (a' := ?a13_2x4) rfl (by kernel_rfl) (by kernel_rfl) (by kernel_rfl) (fun _ _ _ h => h) (Or.inl ⟨by kernel_rfl, ?h13_2x4⟩) (by kernel_rfl) ?p13_2x4 hS1 ?r13_2x4
    case h13_2x4 => (intro w hS; go_simp; try with_reducible rfl)
    case p13_2x4 => (go_simp; try with_reducible rfl)
    refine wpAnyH_takeM (i := 3) (v := ?v13_3x4) (l' := bm 13 15) (a' := ?a13_3x4) rfl (by kernel_rfl) (by kernel_rfl) (by kernel_rfl) (fun _ _ _ h => h) (Or.inl ⟨by kernel_rfl, ?h13_3x4⟩) (by kernel_rfl) ?p13_3x4 hS1 ?r13_3x4
    case h13_3x4 => (intro w hS; go_simp; try with_reducible rfl)
    case p13_3x4 => (go_simp; try with_reducible rfl)
    refine wpAnyH_takeM (i := 4) (v := ?v13_4x4) (l' := bm 13 31) (a' := ?a13_4x4) rfl (by kernel_rfl) (by kernel_rfl) (by kernel_rfl) (fun _ _ _ h => h) (Or.inl ⟨by kernel_rfl, ?h13_4x4⟩) (by kernel_rfl) ?p13_4x4 hS1 ?r13_4x4
    case h13_4x4 => (intro w hS; go_simp; try with_reducible rfl)
    case p13_4x4 => (go_simp; try with_reducible rfl)
    refine wpAnyH_takeM (i := 6) (v := ?v13_6x4) (l' := bm 13 95) (a' := ?a13_6x4) rfl (by kernel_rfl) (by kernel_rfl) (by kernel_rfl) (fun _ _ _ h => h) (Or.inl ⟨by kernel_rfl, ?h13_6x4⟩) (by kernel_rfl) ?p13_6x4 hS1 ?r13_6x4
    case h13_6x4 => (intro w hS; go_simp; try with_reducible rfl)
    case p13_6x4 => (go_simp; try with_reducible rfl)
    refine wpAnyH_takeM (i := 8) (v := ?v13_8x4) (l' := bm 13 351) (a' := ?a13_8x4) rfl (by kernel_rfl) (by kernel_rfl) (by kernel_rfl) (fun _ _ _ h => h) (Or.inl ⟨by kernel_rfl, ?h13_8x4⟩) (by kernel_rfl) ?p13_8x4 hS1 ?r13_8x4
    case h13_8x4 => (intro w hS; go_simp; try with_reducible rfl)
    case p13_8x4 => (go_simp; try with_reducible rfl)
    refine wpAnyH_oneM (i := 5) (l' := bm 13 383) rfl (by kernel_rfl) (by kernel_rfl) (by kernel_rfl) (fun K hK => ?_)
    have hP := hS1.1
    go_simp
    go_at_call 22
    refine (OM.out _).mono ?_
    rintro r w16 ⟨s3_, h3_, c3_, rfl, hr3, hp3, hb⟩
    dsimp only
    have D16 := Lib.hid (below_step hP hb)
    clear hb
    have hS2 := HO.out _ (D16.out)
    clear hP hS1
    refine hK _ _ hS2 ?_
    clear hK K
    refine wpAnyH_oneM (i := 7) (l' := bm 13 511) rfl (by kernel_rfl) (by kernel_rfl) (by kernel_rfl) (fun K hK => ?_)
    have hP := hS2.1
    go_simp
    go_at_call 25
    refine (mul_rp hr3 (HRby_.out _ hP) c3_ cy hp3 HPby_.out (by decide) (by decide) (by decide) (by decide) (by decide) (by decide)).mono ?_
    rintro r w17 ⟨s4_, h4_, c4_, rfl, hr4, hp4, hb⟩
    dsimp only
    have D17 := Lib.hid (below_step hP hb)
    clear hb
    have hS3 := HO.out _ (D17.out)
    clear hP hS2
    refine hK _ _ hS3 ?_
    clear hK K
    refine wpAnyH_oneM (i := 9) (l' := bm 13 1023) rfl (by kernel_rfl) (by kernel_rfl) (by kernel_rfl) (fun K hK => ?_)
    have hP := hS3.1
    go_simp
    go_at_call 24
    refine (less_rp hr4 (HRbx.out _ hP) c4_ cx hp4 HPbx.out (by decide) (by decide) (by decide) (by decide) (by decide) (by decide) G2.out).mono ?_
    rintro r w18 ⟨rfl, hb⟩
    dsimp only
    have D18 := Lib.hid (below_step hP hb)
    clear hb
    have hS4 := HO.out _ (D18.out)
    clear hP hS3
    refine hK _ _ hS4 ?_
    clear hK K
    refine wpAnyH_takeM (i := 10) (v := ?v13_10x4) (l' := bm 13 2047) (a' := ?a13_10x4) rfl (by kernel_rfl) (by kernel_rfl) (by kernel_rfl) (fun _ _ _ h => h) (Or.inl ⟨by kernel_rfl, ?h13_10x4⟩) (by kernel_rfl) ?p13_10x4 hS4 ?r13_10x4
    case h13_10x4 => (intro w hS; go_simp; try with_reducible rfl)
    case p13_10x4 => (go_simp; try with_reducible rfl)
    refine wpAnyH_takeM (i := 11) (v := ?v13_11x4) (l' := bm 13 4095) (a' := ?a13_11x4) rfl (by kernel_rfl) (by kernel_rfl) (by kernel_rfl) (fun _ _ _ h => h) (Or.inl ⟨by kernel_rfl, ?h13_11x4⟩) (by kernel_rfl) ?p13_11x4 hS4 ?r13_11x4
    case h13_11x4 => (intro w hS; go_simp; try with_reducible rfl)
    case p13_11x4 => (go_simp; try with_reducible rfl)
    refine wpAnyH_takeM (i := 12) (v := ?v13_12x4) (l' := bm 13 8191) (a' := ?a13_12x4) rfl (by kernel_rfl) (by kernel_rfl) (by kernel_rfl) (fun _ _ _ h => h) (Or.inl ⟨by kernel_rfl, ?h13_12x4⟩) (by kernel_rfl) ?p13_12x4 hS4 ?r13_12x4
    case h13_12x4 => (intro w hS; go_simp; try with_reducible rfl)
    case p13_12x4 => (go_simp; try with_reducible rfl)
    refine wpAnyH_done (by kernel_rfl) ?_ _
    clear hS4
    have hq := (HO.out _ D18.out).2
    clear hq hr3 hp3 hr4 hp4
    go_wp2_with fail
    refine (IF.out _).mono ?_
    rintro r w' ⟨rfl, rfl⟩
    go_wp2_with fail
    refine (IF.out _).mono ?_
    rintro r w' ⟨rfl, rfl⟩
    go_wp2_with fail
    go_ret
    exact ⟨rfl, below_step HB.out D18.out⟩
set_option maxRecDepth 100000 in
set_option maxHeartbeats 8000000 in
theorem ratio_nyn (a b : Nat) (ha : a < 18446744073709551616) (hb : b < 18446744073709551616) (fa : fin a = true) (fb : fin b = true) (zb : Z b < 0) (c1 : fin (divR a b true).1 = true) (c2 : fin (divR a b false).1 = false) (w : World) : Calls Try.prog 5 #[.float .f64 a, .float .f64 b] w fun r w' => r = .returned (.bool true) ∧ Below w.heap.size w w' := by
  have H0 := Lib.hid awake
  have H1 := Lib.hid (fun w => num_b a ha w)
  have H2 := Lib.hid (fun w => num_b b hb w)
  rw [fa] at H1
  rw [fb] at H2
  have z0 : Z b ≠ 0 := by omega
  have eb := Nb.c0_eq hb (nan_of_fin fb)
  rw [decide_eq_false z0] at eb
  have el := Z_lt0 b hb fb
  rw [decide_eq_true zb] at el
  have OX := Lib.hid (fun w => of_rp ha fa w)
  have OY := Lib.hid (fun w => of_rp hb fb w)
  have d1 := div_dn fa fb z0
  have d2 := div_up fa fb z0
  have R1 := Lib.hid (fun w => div_any a b true ha hb w)
  have R2 := Lib.hid (fun w => div_any a b false ha hb w)
  rw [divR_fin fa fb z0 true] at R1
  rw [divR_fin fa fb z0 false] at R2
  simp only [pV, numV] at R1 R2
  generalize (divR a b true).1 = lo at *
  generalize (divR a b false).1 = hi at *
  have N1 := Lib.hid (fun w => num_b lo d1.gd.lt w)
  have N2 := Lib.hid (fun w => num_b hi d2.gd.lt w)
  rw [c1] at N1
  rw [c2] at N2
  have CL1 := Lib.hid (fun w => close_any d1.gd d2.gd (nbr_rd d1 d2) w)
  have IF := Lib.hid (fun w => rinf_any w)
  have ⟨i1, i2⟩ := ne_pi d1.gd d1.np
  have ⟨i3, i4⟩ := ne_ni d2.gd d2.np
  have np := Nb.neg_PI
  have xb0 : fv b < 0 := fv_neg.2 zb
  have OL := Lib.hid (fun w => of_rp d1.gd.lt c1 w)
  have G1 := Lib.hid (ratio_dn_n xb0 (d1.lo.resolve_left (fun k => by rw [k] at c1; exact absurd c1 (by decide))))
  clear d1 d2 c1 c2 fa fb ha hb zb z0 xb0
  generalize fv a = xa at *
  generalize fv b = xb at *
  generalize fv lo = xl at *
  go_enter Try.func5, Try.ntmps5
  go_wp2_with fail
  obtain ⟨W, hW⟩ : ∃ W, W = w := ⟨_, rfl⟩
  rw [← hW]
  have HB := Lib.hid (hW ▸ Below.refl w.heap.size w : Below w.heap.size w W)
  clear hW
  have HO := Lib.hid (show ∀ w', Below W.heap.size W w' → (Below W.heap.size W w') from fun w' h => h)
  have D0 := Lib.hid (Below.refl W.heap.size W)
  refine (H0.out _).mono ?_
  rintro r w1 ⟨rfl, hb⟩
  have D1 := Lib.hid (below_step D0.out hb)
  clear hb
  go_wp2_with fail
  refine (H1.out _).mono ?_
  rintro r w2 ⟨rfl, hb⟩
  have D2 := Lib.hid (below_step D1.out hb)
  clear hb
  go_wp2_with fail
  refine (H2.out _).mono ?_
  rintro r w3 ⟨rfl, hb⟩
  have D3 := Lib.hid (below_step D2.out hb)
  clear hb
  go_wp2_with fail
  refine (R1.out _).mono ?_
  rintro r w4 ⟨rfl, hb⟩
  have D4 := Lib.hid (below_step D3.out hb)
  clear hb
  go_wp2_with fail
  refine (R2.out _).mono ?_
  rintro r w5 ⟨rfl, hb⟩
  have D5 := Lib.hid (below_step D4.out hb)
  clear hb
  go_wp2_with fail
  refine (CL1.out _).mono ?_
  rintro r w6 ⟨rfl, hb⟩
  have D6 := Lib.hid (below_step D5.out hb)
  clear hb
  go_wp2_with fail
  refine (OX.out _).mono ?_
  rintro r w7 ⟨bx, gx, cx, rfl, hrx, hpx, hb⟩
  have D7 := Lib.hid (below_step D6.out hb)
  clear hb
  have HRbx := Lib.hid hrx
  have HPbx := Lib.hid hpx
  clear hrx hpx
  go_wp2_with fail
  refine (OY.out _).mono ?_
  rintro r w8 ⟨by_, gy, cy, rfl, hrx, hpx, hb⟩
  have D8 := Lib.hid (below_step D7.out hb)
  have HRbx := Lib.hid (HRbx.out.below' hb)
  clear hb
  have HRby_ := Lib.hid hrx
  have HPby_ := Lib.hid hpx
  clear hrx hpx
  go_upto_region 11 with fail
  obtain ⟨V, hV, KN0, KN1, hBV, hz⟩ := by2 w8 35 35 #[Value.bool bx.neg, Value.slice (some ⟨gx, 0, none⟩) bx.ws.length cx, Value.int IntKind.i64 bx.e] #[Value.bool by_.neg, Value.slice (some ⟨gy, 0, none⟩) by_.ws.length cy, Value.int IntKind.i64 by_.e]
  rw [← hV]
  have HLTbx := Lib.hid HRbx.out.lt
  have HRbx := Lib.hid (HRbx.out.below' hBV)
  have HLTby_ := Lib.hid HRby_.out.lt
  have HRby_ := Lib.hid (HRby_.out.below' hBV)
  have HB' := Lib.hid (below_step (below_step HB.out D8.out) hBV)
  obtain ⟨gv, hgv⟩ : ∃ g, w8.heap.size = g := ⟨_, rfl⟩
  have hwg : w.heap.size ≤ gv := by rw [← hgv]; exact (below_step HB.out D8.out).size
  have lt_bx : gx < gv := by rw [← hgv]; exact HLTbx.out
  have lt_by_ : gy < gv := by rw [← hgv]; exact HLTby_.out
  rw [hgv] at KN0 KN1
  rw [hgv]
  have K0 := Lib.hid KN0
  have K1 := Lib.hid KN1
  clear HB HO KN0 KN1 hV hBV hz hgv
  have HB := HB'
  clear HB'
  have HO := Lib.hid (show ∀ w', Below V.heap.size V w' → (Below V.heap.size V w' ∧ w'.cell? ⟨gv, 0, none⟩ = some (Value.bool bx.neg) ∧ w'.cell? ⟨gv, 1, none⟩ = some (Value.slice (some ⟨gx, 0, none⟩) bx.ws.length cx) ∧ w'.cell? ⟨gv, 2, none⟩ = some (Value.int IntKind.i64 bx.e) ∧ w'.cell? ⟨gv + 1, 0, none⟩ = some (Value.bool by_.neg) ∧ w'.cell? ⟨gv + 1, 1, none⟩ = some (Value.slice (some ⟨gy, 0, none⟩) by_.ws.length cy) ∧ w'.cell? ⟨gv + 1, 2, none⟩ = some (Value.int IntKind.i64 by_.e)) from fun w' h => ⟨h, (K0.out.below h K0.out.lt).cell 0, (K0.out.below h K0.out.lt).cell 1, (K0.out.below h K0.out.lt).cell 2, (K1.out.below h K1.out.lt).cell 0, (K1.out.below h K1.out.lt).cell 1, (K1.out.below h K1.out.lt).cell 2⟩)
  have D9 := Lib.hid (Below.refl V.heap.size V)
  have hq := (HO.out _ D9.out).2
  have HRbx := Lib.hid (fun w' (b : Below V.heap.size V w') => HRbx.out.below' b)
  have HRby_ := Lib.hid (fun w' (b : Below V.heap.size V w') => HRby_.out.below' b)
  clear hq
  have HNX := Lib.hid (fun w' => neg_any w' bx.neg (some ⟨gx, 0, none⟩) bx.ws.length cx bx.e)
  have HNY := Lib.hid (fun w' => neg_any w' by_.neg (some ⟨gy, 0, none⟩) by_.ws.length cy by_.e)
  have HF := Lib.hid (show ∀ w', Below V.heap.size V w' → (w'.cell? ⟨gv, 0, none⟩ = some (Value.bool bx.neg) ∧ w'.cell? ⟨gv, 1, none⟩ = some (Value.slice (some ⟨gx, 0, none⟩) bx.ws.length cx) ∧ w'.cell? ⟨gv, 2, none⟩ = some (Value.int IntKind.i64 bx.e) ∧ w'.cell? ⟨gv + 1, 0, none⟩ = some (Value.bool by_.neg) ∧ w'.cell? ⟨gv + 1, 1, none⟩ = some (Value.slice (some ⟨gy, 0, none⟩) by_.ws.length cy) ∧ w'.cell? ⟨gv + 1, 2, none⟩ = some (Value.int IntKind.i64 by_.e)) from fun w' h => ⟨(K0.out.below h K0.out.lt).cell 0 , (K0.out.below h K0.out.lt).cell 1 , (K0.out.below h K0.out.lt).cell 2 , (K1.out.below h K1.out.lt).cell 0 , (K1.out.below h K1.out.lt).cell 1 , (K1.out.below h K1.out.lt).cell 2⟩)
  go_cut [58] (fun s58 wx => True ∧ Below w.heap.size w wx ∧ Blk wx gv 35 #[Value.bool (!bx.neg), Value.slice (some ⟨gx, 0, none⟩) bx.ws.length cx, Value.int IntKind.i64 bx.e] ∧ Blk wx (gv + 1) 35 #[Value.bool (!by_.neg), Value.slice (some ⟨gy, 0, none⟩) by_.ws.length cy, Value.int IntKind.i64 by_.e] ∧ RL wx gx bx.ws ∧ RL wx gy by_.ws)
  case first =>
    refine wp_region_any (by kernel_rfl) ?_
    change wpAny _ _ _ _ _ _ _ (World.drew _)
    obtain ⟨wd, hwd⟩ : ∃ x, x = World.drew V := ⟨_, rfl⟩
    rw [← hwd]
    have DD := Lib.hid (hwd ▸ D9.out.drew : Below V.heap.size V wd)
    clear hwd
    have ⟨y0, y1, y2, y3, y4, y5⟩ := HF.out _ DD.out
    refine wpAny_ready (rs := [0, 2]) (by kernel_rfl) (by simp) ?_
    refine AllReady.cons rfl (fun K hK => ?_) (AllReady.cons rfl (fun K hK => ?_) AllReady.nil)
    · go_simp
      refine hK _ _ ?_
      clear hK K
      refine wpAny_ready (rs := [1, 2]) (by kernel_rfl) (by simp) ?_
      refine AllReady.cons rfl (fun K hK => ?_) (AllReady.cons rfl (fun K hK => ?_) AllReady.nil)
      · go_simp
        go_at_call 23
        refine (HNX.out _).mono ?_
        rintro r w21 ⟨rfl, hb⟩
        dsimp only
        have DE := Lib.hid (below_step DD.out hb)
        clear hb
        have ⟨z0, z1, z2, z3, z4, z5⟩ := HF.out _ DE.out
        refine hK _ _ ?_
        clear hK K
        refine wpAny_ready (rs := [2]) (by kernel_rfl) (by simp) ?_
        refine AllReady.cons rfl (fun K hK => ?_) AllReady.nil
        go_simp
        refine hK _ _ ?_
        clear hK K
        refine wpAny_ready (rs := [3]) (by kernel_rfl) (by simp) ?_
        refine AllReady.cons rfl (fun K hK => ?_) AllReady.nil
        go_simp
        go_at_call 23
        refine (HNY.out _).mono ?_
        rintro r w22 ⟨rfl, hb⟩
        dsimp only
        have DG := Lib.hid (below_step DE.out hb)
        clear hb
        have ⟨z0, z1, z2, z3, z4, z5⟩ := HF.out _ DG.out
        refine hK _ _ ?_
        clear hK K
        have kx := Lib.hid (K0.out.below DG.out K0.out.lt)
        have ky := Lib.hid (K1.out.below DG.out K1.out.lt)
        have f0 := kx.out.frz 0
        have k0 := ky.out.frz 0
        have f1 := kx.out.frz 1
        have k1 := ky.out.frz 1
        have f2 := kx.out.frz 2
        have k2 := ky.out.frz 2
        refine wpAny_ready (rs := [4]) (by kernel_rfl) (by simp) ?_
        refine AllReady.cons rfl (fun K hK => ?_) AllReady.nil
        go_simp
        refine hK _ _ ?_
        clear hK K
        refine wpAny_ready (rs := [5]) (by kernel_rfl) (by simp) ?_
        refine AllReady.cons rfl (fun K hK => ?_) AllReady.nil
        go_simp
        refine hK _ _ ?_
        clear hK K
        refine wpAny_done (by kernel_rfl) ?_ _
        go_wp2_with fail
        go_meet
        exact ⟨trivial, (Below.setCell (Below.setCell (Below.setCell (Below.setCell (Below.setCell (Below.setCell (below_step HB.out DG.out) (p := ⟨gv, 0, none⟩) (by show w.heap.size ≤ gv; omega) _) (p := ⟨gv, 1, none⟩) (by show w.heap.size ≤ gv; omega) _) (p := ⟨gv, 2, none⟩) (by show w.heap.size ≤ gv; omega) _) (p := ⟨gv + 1, 0, none⟩) (by show w.heap.size ≤ gv + 1; omega) _) (p := ⟨gv + 1, 1, none⟩) (by show w.heap.size ≤ gv + 1; omega) _) (p := ⟨gv + 1, 2, none⟩) (by show w.heap.size ≤ gv + 1; omega) _), (Blk.off (Blk.off (Blk.off (Blk.set_ (Blk.set_ (Blk.set_ kx.out 0 _) 1 _) 2 _) ⟨gv + 1, 0, none⟩ _ (by show gv ≠ gv + 1; omega)) ⟨gv + 1, 1, none⟩ _ (by show gv ≠ gv + 1; omega)) ⟨gv + 1, 2, none⟩ _ (by show gv ≠ gv + 1; omega)), (Blk.set_ (Blk.set_ (Blk.set_ (Blk.off (Blk.off (Blk.off ky.out ⟨gv, 0, none⟩ _ (by show gv + 1 ≠ gv; omega)) ⟨gv, 1, none⟩ _ (by show gv + 1 ≠ gv; omega)) ⟨gv, 2, none⟩ _ (by show gv + 1 ≠ gv; omega)) 0 _) 1 _) 2 _), (RL.off (RL.off (RL.off (RL.off (RL.off (RL.off (HRbx.out _ DG.out) ⟨gv, 0, none⟩ _ (by show gx ≠ gv; omega)) ⟨gv, 1, none⟩ _ (by show gx ≠ gv; omega)) ⟨gv, 2, none⟩ _ (by show gx ≠ gv; omega)) ⟨gv + 1, 0, none⟩ _ (by show gx ≠ gv + 1; omega)) ⟨gv + 1, 1, none⟩ _ (by show gx ≠ gv + 1; omega)) ⟨gv + 1, 2, none⟩ _ (by show gx ≠ gv + 1; omega)), (RL.off (RL.off (RL.off (RL.off (RL.off (RL.off (HRby_.out _ DG.out) ⟨gv, 0, none⟩ _ (by show gy ≠ gv; omega)) ⟨gv, 1, none⟩ _ (by show gy ≠ gv; omega)) ⟨gv, 2, none⟩ _ (by show gy ≠ gv; omega)) ⟨gv + 1, 0, none⟩ _ (by show gy ≠ gv + 1; omega)) ⟨gv + 1, 1, none⟩ _ (by show gy ≠ gv + 1; omega)) ⟨gv + 1, 2, none⟩ _ (by show gy ≠ gv + 1; omega))⟩
      · go_simp
        refine hK _ _ ?_
        clear hK K
        refine wpAny_ready (rs := [1]) (by kernel_rfl) (by simp) ?_
        refine AllReady.cons rfl (fun K hK => ?_) AllReady.nil
        go_simp
        go_at_call 23
        refine (HNX.out _).mono ?_
        rintro r w21 ⟨rfl, hb⟩
        dsimp only
        have DE := Lib.hid (below_step DD.out hb)
        clear hb
        have ⟨z0, z1, z2, z3, z4, z5⟩ := HF.out _ DE.out
        refine hK _ _ ?_
        clear hK K
        refine wpAny_ready (rs := [3]) (by kernel_rfl) (by simp) ?_
        refine AllReady.cons rfl (fun K hK => ?_) AllReady.nil
        go_simp
        go_at_call 23
        refine (HNY.out _).mono ?_
        rintro r w22 ⟨rfl, hb⟩
        dsimp only
        have DG := Lib.hid (below_step DE.out hb)
        clear hb
        have ⟨z0, z1, z2, z3, z4, z5⟩ := HF.out _ DG.out
        refine hK _ _ ?_
        clear hK K
        have kx := Lib.hid (K0.out.below DG.out K0.out.lt)
        have ky := Lib.hid (K1.out.below DG.out K1.out.lt)
        have f0 := kx.out.frz 0
        have k0 := ky.out.frz 0
        have f1 := kx.out.frz 1
        have k1 := ky.out.frz 1
        have f2 := kx.out.frz 2
        have k2 := ky.out.frz 2
        refine wpAny_ready (rs := [4]) (by kernel_rfl) (by simp) ?_
        refine AllReady.cons rfl (fun K hK => ?_) AllReady.nil
        go_simp
        refine hK _ _ ?_
        clear hK K
        refine wpAny_ready (rs := [5]) (by kernel_rfl) (by simp) ?_
        refine AllReady.cons rfl (fun K hK => ?_) AllReady.nil
        go_simp
        refine hK _ _ ?_
        clear hK K
        refine wpAny_done (by kernel_rfl) ?_ _
        go_wp2_with fail
        go_meet
        exact ⟨trivial, (Below.setCell (Below.setCell (Below.setCell (Below.setCell (Below.setCell (Below.setCell (below_step HB.out DG.out) (p := ⟨gv, 0, none⟩) (by show w.heap.size ≤ gv; omega) _) (p := ⟨gv, 1, none⟩) (by show w.heap.size ≤ gv; omega) _) (p := ⟨gv, 2, none⟩) (by show w.heap.size ≤ gv; omega) _) (p := ⟨gv + 1, 0, none⟩) (by show w.heap.size ≤ gv + 1; omega) _) (p := ⟨gv + 1, 1, none⟩) (by show w.heap.size ≤ gv + 1; omega) _) (p := ⟨gv + 1, 2, none⟩) (by show w.heap.size ≤ gv + 1; omega) _), (Blk.off (Blk.off (Blk.off (Blk.set_ (Blk.set_ (Blk.set_ kx.out 0 _) 1 _) 2 _) ⟨gv + 1, 0, none⟩ _ (by show gv ≠ gv + 1; omega)) ⟨gv + 1, 1, none⟩ _ (by show gv ≠ gv + 1; omega)) ⟨gv + 1, 2, none⟩ _ (by show gv ≠ gv + 1; omega)), (Blk.set_ (Blk.set_ (Blk.set_ (Blk.off (Blk.off (Blk.off ky.out ⟨gv, 0, none⟩ _ (by show gv + 1 ≠ gv; omega)) ⟨gv, 1, none⟩ _ (by show gv + 1 ≠ gv; omega)) ⟨gv, 2, none⟩ _ (by show gv + 1 ≠ gv; omega)) 0 _) 1 _) 2 _), (RL.off (RL.off (RL.off (RL.off (RL.off (RL.off (HRbx.out _ DG.out) ⟨gv, 0, none⟩ _ (by show gx ≠ gv; omega)) ⟨gv, 1, none⟩ _ (by show gx ≠ gv; omega)) ⟨gv, 2, none⟩ _ (by show gx ≠ gv; omega)) ⟨gv + 1, 0, none⟩ _ (by show gx ≠ gv + 1; omega)) ⟨gv + 1, 1, none⟩ _ (by show gx ≠ gv + 1; omega)) ⟨gv + 1, 2, none⟩ _ (by show gx ≠ gv + 1; omega)), (RL.off (RL.off (RL.off (RL.off (RL.off (RL.off (HRby_.out _ DG.out) ⟨gv, 0, none⟩ _ (by show gy ≠ gv; omega)) ⟨gv, 1, none⟩ _ (by show gy ≠ gv; omega)) ⟨gv, 2, none⟩ _ (by show gy ≠ gv; omega)) ⟨gv + 1, 0, none⟩ _ (by show gy ≠ gv + 1; omega)) ⟨gv + 1, 1, none⟩ _ (by show gy ≠ gv + 1; omega)) ⟨gv + 1, 2, none⟩ _ (by show gy ≠ gv + 1; omega))⟩
    · go_simp
      refine hK _ _ ?_
      clear hK K
      refine wpAny_ready (rs := [0]) (by kernel_rfl) (by simp) ?_
      refine AllReady.cons rfl (fun K hK => ?_) AllReady.nil
      go_simp
      refine hK _ _ ?_
      clear hK K
      refine wpAny_ready (rs := [1]) (by kernel_rfl) (by simp) ?_
      refine AllReady.cons rfl (fun K hK => ?_) AllReady.nil
      go_simp
      go_at_call 23
      refine (HNX.out _).mono ?_
      rintro r w21 ⟨rfl, hb⟩
      dsimp only
      have DE := Lib.hid (below_step DD.out hb)
      clear hb
      have ⟨z0, z1, z2, z3, z4, z5⟩ := HF.out _ DE.out
      refine hK _ _ ?_
      clear hK K
      refine wpAny_ready (rs := [3]) (by kernel_rfl) (by simp) ?_
      refine AllReady.cons rfl (fun K hK => ?_) AllReady.nil
      go_simp
      go_at_call 23
      refine (HNY.out _).mono ?_
      rintro r w22 ⟨rfl, hb⟩
      dsimp only
      have DG := Lib.hid (below_step DE.out hb)
      clear hb
      have ⟨z0, z1, z2, z3, z4, z5⟩ := HF.out _ DG.out
      refine hK _ _ ?_
      clear hK K
      have kx := Lib.hid (K0.out.below DG.out K0.out.lt)
      have ky := Lib.hid (K1.out.below DG.out K1.out.lt)
      have f0 := kx.out.frz 0
      have k0 := ky.out.frz 0
      have f1 := kx.out.frz 1
      have k1 := ky.out.frz 1
      have f2 := kx.out.frz 2
      have k2 := ky.out.frz 2
      refine wpAny_ready (rs := [4]) (by kernel_rfl) (by simp) ?_
      refine AllReady.cons rfl (fun K hK => ?_) AllReady.nil
      go_simp
      refine hK _ _ ?_
      clear hK K
      refine wpAny_ready (rs := [5]) (by kernel_rfl) (by simp) ?_
      refine AllReady.cons rfl (fun K hK => ?_) AllReady.nil
      go_simp
      refine hK _ _ ?_
      clear hK K
      refine wpAny_done (by kernel_rfl) ?_ _
      go_wp2_with fail
      go_meet
      exact ⟨trivial, (Below.setCell (Below.setCell (Below.setCell (Below.setCell (Below.setCell (Below.setCell (below_step HB.out DG.out) (p := ⟨gv, 0, none⟩) (by show w.heap.size ≤ gv; omega) _) (p := ⟨gv, 1, none⟩) (by show w.heap.size ≤ gv; omega) _) (p := ⟨gv, 2, none⟩) (by show w.heap.size ≤ gv; omega) _) (p := ⟨gv + 1, 0, none⟩) (by show w.heap.size ≤ gv + 1; omega) _) (p := ⟨gv + 1, 1, none⟩) (by show w.heap.size ≤ gv + 1; omega) _) (p := ⟨gv + 1, 2, none⟩) (by show w.heap.size ≤ gv + 1; omega) _), (Blk.off (Blk.off (Blk.off (Blk.set_ (Blk.set_ (Blk.set_ kx.out 0 _) 1 _) 2 _) ⟨gv + 1, 0, none⟩ _ (by show gv ≠ gv + 1; omega)) ⟨gv + 1, 1, none⟩ _ (by show gv ≠ gv + 1; omega)) ⟨gv + 1, 2, none⟩ _ (by show gv ≠ gv + 1; omega)), (Blk.set_ (Blk.set_ (Blk.set_ (Blk.off (Blk.off (Blk.off ky.out ⟨gv, 0, none⟩ _ (by show gv + 1 ≠ gv; omega)) ⟨gv, 1, none⟩ _ (by show gv + 1 ≠ gv; omega)) ⟨gv, 2, none⟩ _ (by show gv + 1 ≠ gv; omega)) 0 _) 1 _) 2 _), (RL.off (RL.off (RL.off (RL.off (RL.off (RL.off (HRbx.out _ DG.out) ⟨gv, 0, none⟩ _ (by show gx ≠ gv; omega)) ⟨gv, 1, none⟩ _ (by show gx ≠ gv; omega)) ⟨gv, 2, none⟩ _ (by show gx ≠ gv; omega)) ⟨gv + 1, 0, none⟩ _ (by show gx ≠ gv + 1; omega)) ⟨gv + 1, 1, none⟩ _ (by show gx ≠ gv + 1; omega)) ⟨gv + 1, 2, none⟩ _ (by show gx ≠ gv + 1; omega)), (RL.off (RL.off (RL.off (RL.off (RL.off (RL.off (HRby_.out _ DG.out) ⟨gv, 0, none⟩ _ (by show gy ≠ gv; omega)) ⟨gv, 1, none⟩ _ (by show gy ≠ gv; omega)) ⟨gv, 2, none⟩ _ (by show gy ≠ gv; omega)) ⟨gv + 1, 0, none⟩ _ (by show gy ≠ gv + 1; omega)) ⟨gv + 1, 1, none⟩ _ (by show gy ≠ gv + 1; omega)) ⟨gv + 1, 2, none⟩ _ (by show gy ≠ gv + 1; omega))⟩
  case rest =>
    obtain ⟨-, hbx, kx, ky, rx, ry⟩ := hcut
    have HB := Lib.hid hbx
    have K0 := Lib.hid kx
    have K1 := Lib.hid ky
    have HRbx := Lib.hid rx
    have HRby_ := Lib.hid ry
    have HPbx := Lib.hid HPbx.out.opp
    have HPby_ := Lib.hid HPby_.out.opp
    clear hbx kx ky rx ry HNX HNY HF
    have HRbx : Hid (RL wc gx bx.opp.ws) := HRbx
    have HRby_ : Hid (RL wc gy by_.opp.ws) := HRby_
    have K0 : Hid (Blk wc gv 35 #[Value.bool bx.opp.neg, Value.slice (some ⟨gx, 0, none⟩) bx.opp.ws.length cx, Value.int IntKind.i64 bx.opp.e]) := K0
    have K1 : Hid (Blk wc (gv + 1) 35 #[Value.bool by_.opp.neg, Value.slice (some ⟨gy, 0, none⟩) by_.opp.ws.length cy, Value.int IntKind.i64 by_.opp.e]) := K1
    generalize bx.opp = bx at *
    generalize by_.opp = by_ at *
    have HO := Lib.hid (show ∀ w', Below wc.heap.size wc w' → (Below wc.heap.size wc w' ∧ w'.cell? ⟨gv, 0, none⟩ = some (Value.bool bx.neg) ∧ w'.cell? ⟨gv, 1, none⟩ = some (Value.slice (some ⟨gx, 0, none⟩) bx.ws.length cx) ∧ w'.cell? ⟨gv, 2, none⟩ = some (Value.int IntKind.i64 bx.e) ∧ w'.cell? ⟨gv + 1, 0, none⟩ = some (Value.bool by_.neg) ∧ w'.cell? ⟨gv + 1, 1, none⟩ = some (Value.slice (some ⟨gy, 0, none⟩) by_.ws.length cy) ∧ w'.cell? ⟨gv + 1, 2, none⟩ = some (Value.int IntKind.i64 by_.e)) from fun w' h => ⟨h, (K0.out.below h K0.out.lt).cell 0, (K0.out.below h K0.out.lt).cell 1, (K0.out.below h K0.out.lt).cell 2, (K1.out.below h K1.out.lt).cell 0, (K1.out.below h K1.out.lt).cell 1, (K1.out.below h K1.out.lt).cell 2⟩)
    have D10 := Lib.hid (Below.refl wc.heap.size wc)
    have hq := (HO.out _ D10.out).2
    have HRbx := Lib.hid (fun w' (b : Below wc.heap.size wc w') => HRbx.out.below' b)
    have HRby_ := Lib.hid (fun w' (b : Below wc.heap.size wc w') => HRby_.out.below' b)
    clear hq
    go_wp2_with fail
    go_wp2_with fail
    refine wp_region_held (S := (fun w' => Below wc.heap.size wc w' ∧ w'.cell? ⟨gv, 0, none⟩ = some (Value.bool bx.neg) ∧ w'.cell? ⟨gv, 1, none⟩ = some (Value.slice (some ⟨gx, 0, none⟩) bx.ws.length cx) ∧ w'.cell? ⟨gv, 2, none⟩ = some (Value.int IntKind.i64 bx.e) ∧ w'.cell? ⟨gv + 1, 0, none⟩ = some (Value.bool by_.neg) ∧ w'.cell? ⟨gv + 1, 1, none⟩ = some (Value.slice (some ⟨gy, 0, none⟩) by_.ws.length cy) ∧ w'.cell? ⟨gv + 1, 2, none⟩ = some (Value.int IntKind.i64 by_.e))) (by kernel_rfl) ?_
    (try change wpAnyH _ _ _ _ _ _ _ (World.drew _))
    have hS0 := HO.out _ (Below.drew D10.out)
    refine wpAnyH_takeM (i := 0) (v := ?v12_0x5) (l' := bm 13 1) (a' := ?a12_0x5) rfl (by kernel_rfl) (by kernel_rfl) (by kernel_rfl) (fun _ _ _ h => h) (Or.inl ⟨by kernel_rfl, ?h12_0x5⟩) (by kernel_rfl) ?p12_0x5 hS0 ?r12_0x5
    case h12_0x5 => (intro w hS; go_simp; try with_reducible rfl)
    case p12_0x5 => (go_simp; try with_reducible rfl)
    refine wpAnyH_oneM (i := 1) (l' := bm 13 3) rfl (by kernel_rfl) (by kernel_rfl) (by kernel_rfl) (fun K hK => ?_)
    have hP := hS0.1
    go_simp
    go_at_call 20
    refine (N1.out _).mono ?_
    rintro r w11 ⟨rfl, hb⟩
    dsimp only
    have D11 := Lib.hid (below_step hP hb)
    clear hb
    have hS1 := HO.out _ (D11.out)
    clear hP hS0
    refine hK _ _ hS1 ?_
    clear hK K
    refine wpAnyH_takeM (i := 2) (v := ?v12_2x5) (l' := bm 13 7) (a' := ?a12_2x5) rfl (by kernel_rfl) (by kernel_rfl) (by kernel_rfl) (fun _ _ _ h => h) (Or.inl ⟨by kernel_rfl, ?h12_2x5⟩) (by kernel_rfl) ?p12_2x5 hS1 ?r12_2x5
    case h12_2x5 => (intro w hS; go_simp; try with_reducible rfl)
    case p12_2x5 => (go_simp; try with_reducible rfl)
    refine wpAnyH_takeM (i := 3) (v := ?v12_3x5) (l' := bm 13 15) (a' := ?a12_3x5) rfl (by kernel_rfl) (by kernel_rfl) (by kernel_rfl) (fun _ _ _ h => h) (Or.inl ⟨by kernel_rfl, ?h12_3x5⟩) (by kernel_rfl) ?p12_3x5 hS1 ?r12_3x5
    case h12_3x5 => (intro w hS; go_simp; try with_reducible rfl)
    case p12_3x5 => (go_simp; try with_reducible rfl)
    refine wpAnyH_takeM (i := 4) (v := ?v12_4x5) (l' := bm 13 31) (a' := ?a12_4x5) rfl (by kernel_rfl) (by kernel_rfl) (by kernel_rfl) (fun _ _ _ h => h) (Or.inl ⟨by kernel_rfl, ?h12_4x5⟩) (by kernel_rfl) ?p12_4x5 hS1 ?r12_4x5
    case h12_4x5 => (intro w hS; go_simp; try with_reducible rfl)
    case p12_4x5 => (go_simp; try with_reducible rfl)
    refine wpAnyH_takeM (i := 5) (v := ?v12_5x5) (l' := bm 13 63) (a' := ?a12_5x5) rfl (by kernel_rfl) (by kernel_rfl) (by kernel_rfl) (fun _ _ _ h => h) (Or.inl ⟨by kernel_rfl, ?h12_5x5⟩) (by kernel_rfl) ?p12_5x5 hS1 ?r12_5x5
    case h12_5x5 => (intro w hS; go_simp; try with_reducible rfl)
    case p12_5x5 => (go_simp; try with_reducible rfl)
    refine wpAnyH_takeM (i := 7) (v := ?v12_7x5) (l' := bm 13 191) (a' := ?a12_7x5) rfl (by kernel_rfl) (by kernel_rfl) (by kernel_rfl) (fun _ _ _ h => h) (Or.inl ⟨by kernel_rfl, ?h12_7x5⟩) (by kernel_rfl) ?p12_7x5 hS1 ?r12_7x5
    case h12_7x5 => (intro w hS; go_simp; try with_reducible rfl)
    case p12_7x5 => (go_simp; try with_reducible rfl)
    refine wpAnyH_oneM (i := 6) (l' := bm 13 255) rfl (by kernel_rfl) (by kernel_rfl) (by kernel_rfl) (fun K hK => ?_)
    have hP := hS1.1
    go_simp
    go_at_call 22
    refine (OL.out _).mono ?_
    rintro r w12 ⟨s1_, h1_, c1_, rfl, hr1, hp1, hb⟩
    dsimp only
    have D12 := Lib.hid (below_step hP hb)
    clear hb
    have hS2 := HO.out _ (D12.out)
    clear hP hS1
    refine hK _ _ hS2 ?_
    clear hK K
    refine wpAnyH_oneM (i := 8) (l' := bm 13 511) rfl (by kernel_rfl) (by kernel_rfl) (by kernel_rfl) (fun K hK => ?_)
    have hP := hS2.1
    go_simp
    go_at_call 25
    refine (mul_rp hr1 (HRby_.out _ hP) c1_ cy hp1 HPby_.out (by decide) (by decide) (by decide) (by decide) (by decide) (by decide)).mono ?_
    rintro r w13 ⟨s2_, h2_, c2_, rfl, hr2, hp2, hb⟩
    dsimp only
    have D13 := Lib.hid (below_step hP hb)
    clear hb
    have hS3 := HO.out _ (D13.out)
    clear hP hS2
    refine hK _ _ hS3 ?_
    clear hK K
    refine wpAnyH_oneM (i := 9) (l' := bm 13 1023) rfl (by kernel_rfl) (by kernel_rfl) (by kernel_rfl) (fun K hK => ?_)
    have hP := hS3.1
    go_simp
    go_at_call 24
    refine (less_rp (HRbx.out _ hP) hr2 cx c2_ HPbx.out hp2 (by decide) (by decide) (by decide) (by decide) (by decide) (by decide) G1.out).mono ?_
    rintro r w14 ⟨rfl, hb⟩
    dsimp only
    have D14 := Lib.hid (below_step hP hb)
    clear hb
    have hS4 := HO.out _ (D14.out)
    clear hP hS3
    refine hK _ _ hS4 ?_
    clear hK K
    refine wpAnyH_takeM (i := 10) (v := ?v12_10x5) (l' := bm 13 2047) (a' := ?a12_10x5) rfl (by kernel_rfl) (by kernel_rfl) (by kernel_rfl) (fun _ _ _ h => h) (Or.inl ⟨by kernel_rfl, ?h12_10x5⟩) (by kernel_rfl) ?p12_10x5 hS4 ?r12_10x5
    case h12_10x5 => (intro w hS; go_simp; try with_reducible rfl)
    case p12_10x5 => (go_simp; try with_reducible rfl)
    refine wpAnyH_takeM (i := 11) (v := ?v12_11x5) (l' := bm 13 4095) (a' := ?a12_11x5) rfl (by kernel_rfl) (by kernel_rfl) (by kernel_rfl) (fun _ _ _ h => h) (Or.inl ⟨by kernel_rfl, ?h12_11x5⟩) (by kernel_rfl) ?p12_11x5 hS4 ?r12_11x5
    case h12_11x5 => (intro w hS; go_simp; try with_reducible rfl)
    case p12_11x5 => (go_simp; try with_reducible rfl)
    refine wpAnyH_takeM (i := 12) (v := ?v12_12x5) (l' := bm 13 8191) (a' := ?a12_12x5) rfl (by kernel_rfl) (by kernel_rfl) (by kernel_rfl) (fun _ _ _ h => h) (Or.inl ⟨by kernel_rfl, ?h12_12x5⟩) (by kernel_rfl) ?p12_12x5 hS4 ?r12_12x5
    case h12_12x5 => (intro w hS; go_simp; try with_reducible rfl)
    case p12_12x5 => (go_simp; try with_reducible rfl)
    refine wpAnyH_done (by kernel_rfl) ?_ _
    clear hS4
    have hq := (HO.out _ D14.out).2
    clear hq hr1 hp1 hr2 hp2
    go_wp2_with fail
    go_wp2_with fail
    refine wp_region_held (S := (fun w' => Below wc.heap.size wc w' ∧ w'.cell? ⟨gv, 0, none⟩ = some (Value.bool bx.neg) ∧ w'.cell? ⟨gv, 1, none⟩ = some (Value.slice (some ⟨gx, 0, none⟩) bx.ws.length cx) ∧ w'.cell? ⟨gv, 2, none⟩ = some (Value.int IntKind.i64 bx.e) ∧ w'.cell? ⟨gv + 1, 0, none⟩ = some (Value.bool by_.neg) ∧ w'.cell? ⟨gv + 1, 1, none⟩ = some (Value.slice (some ⟨gy, 0, none⟩) by_.ws.length cy) ∧ w'.cell? ⟨gv + 1, 2, none⟩ = some (Value.int IntKind.i64 by_.e))) (by kernel_rfl) ?_
    (try change wpAnyH _ _ _ _ _ _ _ (World.drew _))
    have hS0 := HO.out _ (Below.drew D14.out)
    refine wpAnyH_takeM (i := 0) (v := ?v13_0x5) (l' := bm 13 1) (a' := ?a13_0x5) rfl (by kernel_rfl) (by kernel_rfl) (by kernel_rfl) (fun _ _ _ h => h) (Or.inl ⟨by kernel_rfl, ?h13_0x5⟩) (by kernel_rfl) ?p13_0x5 hS0 ?r13_0x5
    case h13_0x5 => (intro w hS; go_simp; try with_reducible rfl)
    case p13_0x5 => (go_simp; try with_reducible rfl)
    refine wpAnyH_oneM (i := 1) (l' := bm 13 3) rfl (by kernel_rfl) (by kernel_rfl) (by kernel_rfl) (fun K hK => ?_)
    have hP := hS0.1
    go_simp
    go_at_call 20
    refine (N2.out _).mono ?_
    rintro r w15 ⟨rfl, hb⟩
    dsimp only
    have D15 := Lib.hid (below_step hP hb)
    clear hb
    have hS1 := HO.out _ (D15.out)
    clear hP hS0
    refine hK _ _ hS1 ?_
    clear hK K
    refine wpAnyH_takeM (i := 2) (v := ?v13_2x5) (l' := bm 13 7) (a' := ?a13_2x5) rfl (by kernel_rfl) (by kernel_rfl) (by kernel_rfl) (fun _ _ _ h => h) (Or.inl ⟨by kernel_rfl, ?h13_2x5⟩) (by kernel_rfl) ?p13_2x5 hS1 ?r13_2x5
    case h13_2x5 => (intro w hS; go_simp; try with_reducible rfl)
    case p13_2x5 => (go_simp; try with_reducible rfl)
    refine wpAnyH_takeM (i := 3) (v := ?v13_3x5) (l' := bm 13 15) (a' := ?a13_3x5) rfl (by kernel_rfl) (by kernel_rfl) (by kernel_rfl) (fun _ _ _ h => h) (Or.inl ⟨by kernel_rfl, ?h13_3x5⟩) (by kernel_rfl) ?p13_3x5 hS1 ?r13_3x5
    case h13_3x5 => (intro w hS; go_simp; try with_reducible rfl)
    case p13_3x5 => (go_simp; try with_reducible rfl)
    refine wpAnyH_takeM (i := 4) (v := undef) (l' := bm 13 31) (a' := ?a13_4x5) rfl (by kernel_rfl) (by kernel_rfl) (by kernel_rfl) (fun _ _ _ h => h) (Or.inr ⟨by kernel_rfl, rfl⟩) (by kernel_rfl) ?p13_4x5 hS1 ?_
    case p13_4x5 => (go_simp; try with_reducible rfl)
    refine wpAnyH_takeM (i := 5) (v := undef) (l' := bm 13 63) (a' := ?a13_5x5) rfl (by kernel_rfl) (by kernel_rfl) (by kernel_rfl) (fun _ _ _ h => h) (Or.inr ⟨by kernel_rfl, rfl⟩) (by kernel_rfl) ?p13_5x5 hS1 ?_
    case p13_5x5 => (go_simp; try with_reducible rfl)
    refine wpAnyH_takeM (i := 6) (v := undef) (l' := bm 13 127) (a' := ?a13_6x5) rfl (by kernel_rfl) (by kernel_rfl) (by kernel_rfl) (fun _ _ _ h => h) (Or.inr ⟨by kernel_rfl, rfl⟩) (by kernel_rfl) ?p13_6x5 hS1 ?_
    case p13_6x5 => (go_simp; try with_reducible rfl)
    refine wpAnyH_takeM (i := 7) (v := undef) (l' := bm 13 255) (a' := ?a13_7x5) rfl (by kernel_rfl) (by kernel_rfl) (by kernel_rfl) (fun _ _ _ h => h) (Or.inr ⟨by kernel_rfl, rfl⟩) (by kernel_rfl) ?p13_7x5 hS1 ?_
    case p13_7x5 => (go_simp; try with_reducible rfl)
    refine wpAnyH_takeM (i := 8) (v := undef) (l' := bm 13 511) (a' := ?a13_8x5) rfl (by kernel_rfl) (by kernel_rfl) (by kernel_rfl) (fun _ _ _ h => h) (Or.inr ⟨by kernel_rfl, rfl⟩) (by kernel_rfl) ?p13_8x5 hS1 ?_
    case p13_8x5 => (go_simp; try with_reducible rfl)
    refine wpAnyH_takeM (i := 9) (v := undef) (l' := bm 13 1023) (a' := ?a13_9x5) rfl (by kernel_rfl) (by kernel_rfl) (by kernel_rfl) (fun _ _ _ h => h) (Or.inr ⟨by kernel_rfl, rfl⟩) (by kernel_rfl) ?p13_9x5 hS1 ?_
    case p13_9x5 => (go_simp; try with_reducible rfl)
    refine wpAnyH_takeM (i := 10) (v := undef) (l' := bm 13 2047) (a' := ?a13_10x5) rfl (by kernel_rfl) (by kernel_rfl) (by kernel_rfl) (fun _ _ _ h => h) (Or.inr ⟨by kernel_rfl, rfl⟩) (by kernel_rfl) ?p13_10x5 hS1 ?_
    case p13_10x5 => (go_simp; try with_reducible rfl)
    refine wpAnyH_takeM (i := 11) (v := ?v13_11x5) (l' := bm 13 4095) (a' := ?a13_11x5) rfl (by kernel_rfl) (by kernel_rfl) (by kernel_rfl) (fun _ _ _ h => h) (Or.inl ⟨by kernel_rfl, ?h13_11x5⟩) (by kernel_rfl) ?p13_11x5 hS1 ?r13_11x5
    case h13_11x5 => (intro w hS; go_simp; try with_reducible rfl)
    case p13_11x5 => (go_simp; try with_reducible rfl)
    refine wpAnyH_takeM (i := 12) (v := ?v13_12x5) (l' := bm 13 8191) (a' := ?a13_12x5) rfl (by kernel_rfl) (by kernel_rfl) (by kernel_rfl) (fun _ _ _ h => h) (Or.inl ⟨by kernel_rfl, ?h13_12x5⟩) (by kernel_rfl) ?p13_12x5 hS1 ?r13_12x5
    case h13_12x5 => (intro w hS; go_simp; try with_reducible rfl)
    case p13_12x5 => (go_simp; try with_reducible rfl)
    refine wpAnyH_done (by kernel_rfl) ?_ _
    clear hS1
    have hq := (HO.out _ D15.out).2
    clear hq
    go_wp2_with fail
    refine (IF.out _).mono ?_
    rintro r w' ⟨rfl, rfl⟩
    go_wp2_with fail
    refine (IF.out _).mono ?_
    rintro r w' ⟨rfl, rfl⟩
    go_wp2_with fail
    go_ret
    exact ⟨rfl, below_step HB.out D15.out⟩
set_option maxRecDepth 100000 in
set_option maxHeartbeats 8000000 in
theorem ratio_nny (a b : Nat) (ha : a < 18446744073709551616) (hb : b < 18446744073709551616) (fa : fin a = true) (fb : fin b = true) (zb : Z b < 0) (c1 : fin (divR a b true).1 = false) (c2 : fin (divR a b false).1 = true) (w : World) : Calls Try.prog 5 #[.float .f64 a, .float .f64 b] w fun r w' => r = .returned (.bool true) ∧ Below w.heap.size w w' := by
  have H0 := Lib.hid awake
  have H1 := Lib.hid (fun w => num_b a ha w)
  have H2 := Lib.hid (fun w => num_b b hb w)
  rw [fa] at H1
  rw [fb] at H2
  have z0 : Z b ≠ 0 := by omega
  have eb := Nb.c0_eq hb (nan_of_fin fb)
  rw [decide_eq_false z0] at eb
  have el := Z_lt0 b hb fb
  rw [decide_eq_true zb] at el
  have OX := Lib.hid (fun w => of_rp ha fa w)
  have OY := Lib.hid (fun w => of_rp hb fb w)
  have d1 := div_dn fa fb z0
  have d2 := div_up fa fb z0
  have R1 := Lib.hid (fun w => div_any a b true ha hb w)
  have R2 := Lib.hid (fun w => div_any a b false ha hb w)
  rw [divR_fin fa fb z0 true] at R1
  rw [divR_fin fa fb z0 false] at R2
  simp only [pV, numV] at R1 R2
  generalize (divR a b true).1 = lo at *
  generalize (divR a b false).1 = hi at *
  have N1 := Lib.hid (fun w => num_b lo d1.gd.lt w)
  have N2 := Lib.hid (fun w => num_b hi d2.gd.lt w)
  rw [c1] at N1
  rw [c2] at N2
  have CL1 := Lib.hid (fun w => close_any d1.gd d2.gd (nbr_rd d1 d2) w)
  have IF := Lib.hid (fun w => rinf_any w)
  have ⟨i1, i2⟩ := ne_pi d1.gd d1.np
  have ⟨i3, i4⟩ := ne_ni d2.gd d2.np
  have np := Nb.neg_PI
  have xb0 : fv b < 0 := fv_neg.2 zb
  have OM := Lib.hid (fun w => of_rp d2.gd.lt c2 w)
  have G2 := Lib.hid (ratio_up_n xb0 (d2.hi.resolve_left (fun k => by rw [k] at c2; exact absurd c2 (by decide))))
  clear d1 d2 c1 c2 fa fb ha hb zb z0 xb0
  generalize fv a = xa at *
  generalize fv b = xb at *
  generalize fv hi = xm at *
  go_enter Try.func5, Try.ntmps5
  go_wp2_with fail
  obtain ⟨W, hW⟩ : ∃ W, W = w := ⟨_, rfl⟩
  rw [← hW]
  have HB := Lib.hid (hW ▸ Below.refl w.heap.size w : Below w.heap.size w W)
  clear hW
  have HO := Lib.hid (show ∀ w', Below W.heap.size W w' → (Below W.heap.size W w') from fun w' h => h)
  have D0 := Lib.hid (Below.refl W.heap.size W)
  refine (H0.out _).mono ?_
  rintro r w1 ⟨rfl, hb⟩
  have D1 := Lib.hid (below_step D0.out hb)
  clear hb
  go_wp2_with fail
  refine (H1.out _).mono ?_
  rintro r w2 ⟨rfl, hb⟩
  have D2 := Lib.hid (below_step D1.out hb)
  clear hb
  go_wp2_with fail
  refine (H2.out _).mono ?_
  rintro r w3 ⟨rfl, hb⟩
  have D3 := Lib.hid (below_step D2.out hb)
  clear hb
  go_wp2_with fail
  refine (R1.out _).mono ?_
  rintro r w4 ⟨rfl, hb⟩
  have D4 := Lib.hid (below_step D3.out hb)
  clear hb
  go_wp2_with fail
  refine (R2.out _).mono ?_
  rintro r w5 ⟨rfl, hb⟩
  have D5 := Lib.hid (below_step D4.out hb)
  clear hb
  go_wp2_with fail
  refine (CL1.out _).mono ?_
  rintro r w6 ⟨rfl, hb⟩
  have D6 := Lib.hid (below_step D5.out hb)
  clear hb
  go_wp2_with fail
  refine (OX.out _).mono ?_
  rintro r w7 ⟨bx, gx, cx, rfl, hrx, hpx, hb⟩
  have D7 := Lib.hid (below_step D6.out hb)
  clear hb
  have HRbx := Lib.hid hrx
  have HPbx := Lib.hid hpx
  clear hrx hpx
  go_wp2_with fail
  refine (OY.out _).mono ?_
  rintro r w8 ⟨by_, gy, cy, rfl, hrx, hpx, hb⟩
  have D8 := Lib.hid (below_step D7.out hb)
  have HRbx := Lib.hid (HRbx.out.below' hb)
  clear hb
  have HRby_ := Lib.hid hrx
  have HPby_ := Lib.hid hpx
  clear hrx hpx
  go_upto_region 11 with fail
  obtain ⟨V, hV, KN0, KN1, hBV, hz⟩ := by2 w8 35 35 #[Value.bool bx.neg, Value.slice (some ⟨gx, 0, none⟩) bx.ws.length cx, Value.int IntKind.i64 bx.e] #[Value.bool by_.neg, Value.slice (some ⟨gy, 0, none⟩) by_.ws.length cy, Value.int IntKind.i64 by_.e]
  rw [← hV]
  have HLTbx := Lib.hid HRbx.out.lt
  have HRbx := Lib.hid (HRbx.out.below' hBV)
  have HLTby_ := Lib.hid HRby_.out.lt
  have HRby_ := Lib.hid (HRby_.out.below' hBV)
  have HB' := Lib.hid (below_step (below_step HB.out D8.out) hBV)
  obtain ⟨gv, hgv⟩ : ∃ g, w8.heap.size = g := ⟨_, rfl⟩
  have hwg : w.heap.size ≤ gv := by rw [← hgv]; exact (below_step HB.out D8.out).size
  have lt_bx : gx < gv := by rw [← hgv]; exact HLTbx.out
  have lt_by_ : gy < gv := by rw [← hgv]; exact HLTby_.out
  rw [hgv] at KN0 KN1
  rw [hgv]
  have K0 := Lib.hid KN0
  have K1 := Lib.hid KN1
  clear HB HO KN0 KN1 hV hBV hz hgv
  have HB := HB'
  clear HB'
  have HO := Lib.hid (show ∀ w', Below V.heap.size V w' → (Below V.heap.size V w' ∧ w'.cell? ⟨gv, 0, none⟩ = some (Value.bool bx.neg) ∧ w'.cell? ⟨gv, 1, none⟩ = some (Value.slice (some ⟨gx, 0, none⟩) bx.ws.length cx) ∧ w'.cell? ⟨gv, 2, none⟩ = some (Value.int IntKind.i64 bx.e) ∧ w'.cell? ⟨gv + 1, 0, none⟩ = some (Value.bool by_.neg) ∧ w'.cell? ⟨gv + 1, 1, none⟩ = some (Value.slice (some ⟨gy, 0, none⟩) by_.ws.length cy) ∧ w'.cell? ⟨gv + 1, 2, none⟩ = some (Value.int IntKind.i64 by_.e)) from fun w' h => ⟨h, (K0.out.below h K0.out.lt).cell 0, (K0.out.below h K0.out.lt).cell 1, (K0.out.below h K0.out.lt).cell 2, (K1.out.below h K1.out.lt).cell 0, (K1.out.below h K1.out.lt).cell 1, (K1.out.below h K1.out.lt).cell 2⟩)
  have D9 := Lib.hid (Below.refl V.heap.size V)
  have hq := (HO.out _ D9.out).2
  have HRbx := Lib.hid (fun w' (b : Below V.heap.size V w') => HRbx.out.below' b)
  have HRby_ := Lib.hid (fun w' (b : Below V.heap.size V w') => HRby_.out.below' b)
  clear hq
  have HNX := Lib.hid (fun w' => neg_any w' bx.neg (some ⟨gx, 0, none⟩) bx.ws.length cx bx.e)
  have HNY := Lib.hid (fun w' => neg_any w' by_.neg (some ⟨gy, 0, none⟩) by_.ws.length cy by_.e)
  have HF := Lib.hid (show ∀ w', Below V.heap.size V w' → (w'.cell? ⟨gv, 0, none⟩ = some (Value.bool bx.neg) ∧ w'.cell? ⟨gv, 1, none⟩ = some (Value.slice (some ⟨gx, 0, none⟩) bx.ws.length cx) ∧ w'.cell? ⟨gv, 2, none⟩ = some (Value.int IntKind.i64 bx.e) ∧ w'.cell? ⟨gv + 1, 0, none⟩ = some (Value.bool by_.neg) ∧ w'.cell? ⟨gv + 1, 1, none⟩ = some (Value.slice (some ⟨gy, 0, none⟩) by_.ws.length cy) ∧ w'.cell? ⟨gv + 1, 2, none⟩ = some (Value.int IntKind.i64 by_.e)) from fun w' h => ⟨(K0.out.below h K0.out.lt).cell 0 , (K0.out.below h K0.out.lt).cell 1 , (K0.out.below h K0.out.lt).cell 2 , (K1.out.below h K1.out.lt).cell 0 , (K1.out.below h K1.out.lt).cell 1 , (K1.out.below h K1.out.lt).cell 2⟩)
  go_cut [58] (fun s58 wx => True ∧ Below w.heap.size w wx ∧ Blk wx gv 35 #[Value.bool (!bx.neg), Value.slice (some ⟨gx, 0, none⟩) bx.ws.length cx, Value.int IntKind.i64 bx.e] ∧ Blk wx (gv + 1) 35 #[Value.bool (!by_.neg), Value.slice (some ⟨gy, 0, none⟩) by_.ws.length cy, Value.int IntKind.i64 by_.e] ∧ RL wx gx bx.ws ∧ RL wx gy by_.ws)
  case first =>
    refine wp_region_any (by kernel_rfl) ?_
    change wpAny _ _ _ _ _ _ _ (World.drew _)
    obtain ⟨wd, hwd⟩ : ∃ x, x = World.drew V := ⟨_, rfl⟩
    rw [← hwd]
    have DD := Lib.hid (hwd ▸ D9.out.drew : Below V.heap.size V wd)
    clear hwd
    have ⟨y0, y1, y2, y3, y4, y5⟩ := HF.out _ DD.out
    refine wpAny_ready (rs := [0, 2]) (by kernel_rfl) (by simp) ?_
    refine AllReady.cons rfl (fun K hK => ?_) (AllReady.cons rfl (fun K hK => ?_) AllReady.nil)
    · go_simp
      refine hK _ _ ?_
      clear hK K
      refine wpAny_ready (rs := [1, 2]) (by kernel_rfl) (by simp) ?_
      refine AllReady.cons rfl (fun K hK => ?_) (AllReady.cons rfl (fun K hK => ?_) AllReady.nil)
      · go_simp
        go_at_call 23
        refine (HNX.out _).mono ?_
        rintro r w21 ⟨rfl, hb⟩
        dsimp only
        have DE := Lib.hid (below_step DD.out hb)
        clear hb
        have ⟨z0, z1, z2, z3, z4, z5⟩ := HF.out _ DE.out
        refine hK _ _ ?_
        clear hK K
        refine wpAny_ready (rs := [2]) (by kernel_rfl) (by simp) ?_
        refine AllReady.cons rfl (fun K hK => ?_) AllReady.nil
        go_simp
        refine hK _ _ ?_
        clear hK K
        refine wpAny_ready (rs := [3]) (by kernel_rfl) (by simp) ?_
        refine AllReady.cons rfl (fun K hK => ?_) AllReady.nil
        go_simp
        go_at_call 23
        refine (HNY.out _).mono ?_
        rintro r w22 ⟨rfl, hb⟩
        dsimp only
        have DG := Lib.hid (below_step DE.out hb)
        clear hb
        have ⟨z0, z1, z2, z3, z4, z5⟩ := HF.out _ DG.out
        refine hK _ _ ?_
        clear hK K
        have kx := Lib.hid (K0.out.below DG.out K0.out.lt)
        have ky := Lib.hid (K1.out.below DG.out K1.out.lt)
        have f0 := kx.out.frz 0
        have k0 := ky.out.frz 0
        have f1 := kx.out.frz 1
        have k1 := ky.out.frz 1
        have f2 := kx.out.frz 2
        have k2 := ky.out.frz 2
        refine wpAny_ready (rs := [4]) (by kernel_rfl) (by simp) ?_
        refine AllReady.cons rfl (fun K hK => ?_) AllReady.nil
        go_simp
        refine hK _ _ ?_
        clear hK K
        refine wpAny_ready (rs := [5]) (by kernel_rfl) (by simp) ?_
        refine AllReady.cons rfl (fun K hK => ?_) AllReady.nil
        go_simp
        refine hK _ _ ?_
        clear hK K
        refine wpAny_done (by kernel_rfl) ?_ _
        go_wp2_with fail
        go_meet
        exact ⟨trivial, (Below.setCell (Below.setCell (Below.setCell (Below.setCell (Below.setCell (Below.setCell (below_step HB.out DG.out) (p := ⟨gv, 0, none⟩) (by show w.heap.size ≤ gv; omega) _) (p := ⟨gv, 1, none⟩) (by show w.heap.size ≤ gv; omega) _) (p := ⟨gv, 2, none⟩) (by show w.heap.size ≤ gv; omega) _) (p := ⟨gv + 1, 0, none⟩) (by show w.heap.size ≤ gv + 1; omega) _) (p := ⟨gv + 1, 1, none⟩) (by show w.heap.size ≤ gv + 1; omega) _) (p := ⟨gv + 1, 2, none⟩) (by show w.heap.size ≤ gv + 1; omega) _), (Blk.off (Blk.off (Blk.off (Blk.set_ (Blk.set_ (Blk.set_ kx.out 0 _) 1 _) 2 _) ⟨gv + 1, 0, none⟩ _ (by show gv ≠ gv + 1; omega)) ⟨gv + 1, 1, none⟩ _ (by show gv ≠ gv + 1; omega)) ⟨gv + 1, 2, none⟩ _ (by show gv ≠ gv + 1; omega)), (Blk.set_ (Blk.set_ (Blk.set_ (Blk.off (Blk.off (Blk.off ky.out ⟨gv, 0, none⟩ _ (by show gv + 1 ≠ gv; omega)) ⟨gv, 1, none⟩ _ (by show gv + 1 ≠ gv; omega)) ⟨gv, 2, none⟩ _ (by show gv + 1 ≠ gv; omega)) 0 _) 1 _) 2 _), (RL.off (RL.off (RL.off (RL.off (RL.off (RL.off (HRbx.out _ DG.out) ⟨gv, 0, none⟩ _ (by show gx ≠ gv; omega)) ⟨gv, 1, none⟩ _ (by show gx ≠ gv; omega)) ⟨gv, 2, none⟩ _ (by show gx ≠ gv; omega)) ⟨gv + 1, 0, none⟩ _ (by show gx ≠ gv + 1; omega)) ⟨gv + 1, 1, none⟩ _ (by show gx ≠ gv + 1; omega)) ⟨gv + 1, 2, none⟩ _ (by show gx ≠ gv + 1; omega)), (RL.off (RL.off (RL.off (RL.off (RL.off (RL.off (HRby_.out _ DG.out) ⟨gv, 0, none⟩ _ (by show gy ≠ gv; omega)) ⟨gv, 1, none⟩ _ (by show gy ≠ gv; omega)) ⟨gv, 2, none⟩ _ (by show gy ≠ gv; omega)) ⟨gv + 1, 0, none⟩ _ (by show gy ≠ gv + 1; omega)) ⟨gv + 1, 1, none⟩ _ (by show gy ≠ gv + 1; omega)) ⟨gv + 1, 2, none⟩ _ (by show gy ≠ gv + 1; omega))⟩
      · go_simp
        refine hK _ _ ?_
        clear hK K
        refine wpAny_ready (rs := [1]) (by kernel_rfl) (by simp) ?_
        refine AllReady.cons rfl (fun K hK => ?_) AllReady.nil
        go_simp
        go_at_call 23
        refine (HNX.out _).mono ?_
        rintro r w21 ⟨rfl, hb⟩
        dsimp only
        have DE := Lib.hid (below_step DD.out hb)
        clear hb
        have ⟨z0, z1, z2, z3, z4, z5⟩ := HF.out _ DE.out
        refine hK _ _ ?_
        clear hK K
        refine wpAny_ready (rs := [3]) (by kernel_rfl) (by simp) ?_
        refine AllReady.cons rfl (fun K hK => ?_) AllReady.nil
        go_simp
        go_at_call 23
        refine (HNY.out _).mono ?_
        rintro r w22 ⟨rfl, hb⟩
        dsimp only
        have DG := Lib.hid (below_step DE.out hb)
        clear hb
        have ⟨z0, z1, z2, z3, z4, z5⟩ := HF.out _ DG.out
        refine hK _ _ ?_
        clear hK K
        have kx := Lib.hid (K0.out.below DG.out K0.out.lt)
        have ky := Lib.hid (K1.out.below DG.out K1.out.lt)
        have f0 := kx.out.frz 0
        have k0 := ky.out.frz 0
        have f1 := kx.out.frz 1
        have k1 := ky.out.frz 1
        have f2 := kx.out.frz 2
        have k2 := ky.out.frz 2
        refine wpAny_ready (rs := [4]) (by kernel_rfl) (by simp) ?_
        refine AllReady.cons rfl (fun K hK => ?_) AllReady.nil
        go_simp
        refine hK _ _ ?_
        clear hK K
        refine wpAny_ready (rs := [5]) (by kernel_rfl) (by simp) ?_
        refine AllReady.cons rfl (fun K hK => ?_) AllReady.nil
        go_simp
        refine hK _ _ ?_
        clear hK K
        refine wpAny_done (by kernel_rfl) ?_ _
        go_wp2_with fail
        go_meet
        exact ⟨trivial, (Below.setCell (Below.setCell (Below.setCell (Below.setCell (Below.setCell (Below.setCell (below_step HB.out DG.out) (p := ⟨gv, 0, none⟩) (by show w.heap.size ≤ gv; omega) _) (p := ⟨gv, 1, none⟩) (by show w.heap.size ≤ gv; omega) _) (p := ⟨gv, 2, none⟩) (by show w.heap.size ≤ gv; omega) _) (p := ⟨gv + 1, 0, none⟩) (by show w.heap.size ≤ gv + 1; omega) _) (p := ⟨gv + 1, 1, none⟩) (by show w.heap.size ≤ gv + 1; omega) _) (p := ⟨gv + 1, 2, none⟩) (by show w.heap.size ≤ gv + 1; omega) _), (Blk.off (Blk.off (Blk.off (Blk.set_ (Blk.set_ (Blk.set_ kx.out 0 _) 1 _) 2 _) ⟨gv + 1, 0, none⟩ _ (by show gv ≠ gv + 1; omega)) ⟨gv + 1, 1, none⟩ _ (by show gv ≠ gv + 1; omega)) ⟨gv + 1, 2, none⟩ _ (by show gv ≠ gv + 1; omega)), (Blk.set_ (Blk.set_ (Blk.set_ (Blk.off (Blk.off (Blk.off ky.out ⟨gv, 0, none⟩ _ (by show gv + 1 ≠ gv; omega)) ⟨gv, 1, none⟩ _ (by show gv + 1 ≠ gv; omega)) ⟨gv, 2, none⟩ _ (by show gv + 1 ≠ gv; omega)) 0 _) 1 _) 2 _), (RL.off (RL.off (RL.off (RL.off (RL.off (RL.off (HRbx.out _ DG.out) ⟨gv, 0, none⟩ _ (by show gx ≠ gv; omega)) ⟨gv, 1, none⟩ _ (by show gx ≠ gv; omega)) ⟨gv, 2, none⟩ _ (by show gx ≠ gv; omega)) ⟨gv + 1, 0, none⟩ _ (by show gx ≠ gv + 1; omega)) ⟨gv + 1, 1, none⟩ _ (by show gx ≠ gv + 1; omega)) ⟨gv + 1, 2, none⟩ _ (by show gx ≠ gv + 1; omega)), (RL.off (RL.off (RL.off (RL.off (RL.off (RL.off (HRby_.out _ DG.out) ⟨gv, 0, none⟩ _ (by show gy ≠ gv; omega)) ⟨gv, 1, none⟩ _ (by show gy ≠ gv; omega)) ⟨gv, 2, none⟩ _ (by show gy ≠ gv; omega)) ⟨gv + 1, 0, none⟩ _ (by show gy ≠ gv + 1; omega)) ⟨gv + 1, 1, none⟩ _ (by show gy ≠ gv + 1; omega)) ⟨gv + 1, 2, none⟩ _ (by show gy ≠ gv + 1; omega))⟩
    · go_simp
      refine hK _ _ ?_
      clear hK K
      refine wpAny_ready (rs := [0]) (by kernel_rfl) (by simp) ?_
      refine AllReady.cons rfl (fun K hK => ?_) AllReady.nil
      go_simp
      refine hK _ _ ?_
      clear hK K
      refine wpAny_ready (rs := [1]) (by kernel_rfl) (by simp) ?_
      refine AllReady.cons rfl (fun K hK => ?_) AllReady.nil
      go_simp
      go_at_call 23
      refine (HNX.out _).mono ?_
      rintro r w21 ⟨rfl, hb⟩
      dsimp only
      have DE := Lib.hid (below_step DD.out hb)
      clear hb
      have ⟨z0, z1, z2, z3, z4, z5⟩ := HF.out _ DE.out
      refine hK _ _ ?_
      clear hK K
      refine wpAny_ready (rs := [3]) (by kernel_rfl) (by simp) ?_
      refine AllReady.cons rfl (fun K hK => ?_) AllReady.nil
      go_simp
      go_at_call 23
      refine (HNY.out _).mono ?_
      rintro r w22 ⟨rfl, hb⟩
      dsimp only
      have DG := Lib.hid (below_step DE.out hb)
      clear hb
      have ⟨z0, z1, z2, z3, z4, z5⟩ := HF.out _ DG.out
      refine hK _ _ ?_
      clear hK K
      have kx := Lib.hid (K0.out.below DG.out K0.out.lt)
      have ky := Lib.hid (K1.out.below DG.out K1.out.lt)
      have f0 := kx.out.frz 0
      have k0 := ky.out.frz 0
      have f1 := kx.out.frz 1
      have k1 := ky.out.frz 1
      have f2 := kx.out.frz 2
      have k2 := ky.out.frz 2
      refine wpAny_ready (rs := [4]) (by kernel_rfl) (by simp) ?_
      refine AllReady.cons rfl (fun K hK => ?_) AllReady.nil
      go_simp
      refine hK _ _ ?_
      clear hK K
      refine wpAny_ready (rs := [5]) (by kernel_rfl) (by simp) ?_
      refine AllReady.cons rfl (fun K hK => ?_) AllReady.nil
      go_simp
      refine hK _ _ ?_
      clear hK K
      refine wpAny_done (by kernel_rfl) ?_ _
      go_wp2_with fail
      go_meet
      exact ⟨trivial, (Below.setCell (Below.setCell (Below.setCell (Below.setCell (Below.setCell (Below.setCell (below_step HB.out DG.out) (p := ⟨gv, 0, none⟩) (by show w.heap.size ≤ gv; omega) _) (p := ⟨gv, 1, none⟩) (by show w.heap.size ≤ gv; omega) _) (p := ⟨gv, 2, none⟩) (by show w.heap.size ≤ gv; omega) _) (p := ⟨gv + 1, 0, none⟩) (by show w.heap.size ≤ gv + 1; omega) _) (p := ⟨gv + 1, 1, none⟩) (by show w.heap.size ≤ gv + 1; omega) _) (p := ⟨gv + 1, 2, none⟩) (by show w.heap.size ≤ gv + 1; omega) _), (Blk.off (Blk.off (Blk.off (Blk.set_ (Blk.set_ (Blk.set_ kx.out 0 _) 1 _) 2 _) ⟨gv + 1, 0, none⟩ _ (by show gv ≠ gv + 1; omega)) ⟨gv + 1, 1, none⟩ _ (by show gv ≠ gv + 1; omega)) ⟨gv + 1, 2, none⟩ _ (by show gv ≠ gv + 1; omega)), (Blk.set_ (Blk.set_ (Blk.set_ (Blk.off (Blk.off (Blk.off ky.out ⟨gv, 0, none⟩ _ (by show gv + 1 ≠ gv; omega)) ⟨gv, 1, none⟩ _ (by show gv + 1 ≠ gv; omega)) ⟨gv, 2, none⟩ _ (by show gv + 1 ≠ gv; omega)) 0 _) 1 _) 2 _), (RL.off (RL.off (RL.off (RL.off (RL.off (RL.off (HRbx.out _ DG.out) ⟨gv, 0, none⟩ _ (by show gx ≠ gv; omega)) ⟨gv, 1, none⟩ _ (by show gx ≠ gv; omega)) ⟨gv, 2, none⟩ _ (by show gx ≠ gv; omega)) ⟨gv + 1, 0, none⟩ _ (by show gx ≠ gv + 1; omega)) ⟨gv + 1, 1, none⟩ _ (by show gx ≠ gv + 1; omega)) ⟨gv + 1, 2, none⟩ _ (by show gx ≠ gv + 1; omega)), (RL.off (RL.off (RL.off (RL.off (RL.off (RL.off (HRby_.out _ DG.out) ⟨gv, 0, none⟩ _ (by show gy ≠ gv; omega)) ⟨gv, 1, none⟩ _ (by show gy ≠ gv; omega)) ⟨gv, 2, none⟩ _ (by show gy ≠ gv; omega)) ⟨gv + 1, 0, none⟩ _ (by show gy ≠ gv + 1; omega)) ⟨gv + 1, 1, none⟩ _ (by show gy ≠ gv + 1; omega)) ⟨gv + 1, 2, none⟩ _ (by show gy ≠ gv + 1; omega))⟩
  case rest =>
    obtain ⟨-, hbx, kx, ky, rx, ry⟩ := hcut
    have HB := Lib.hid hbx
    have K0 := Lib.hid kx
    have K1 := Lib.hid ky
    have HRbx := Lib.hid rx
    have HRby_ := Lib.hid ry
    have HPbx := Lib.hid HPbx.out.opp
    have HPby_ := Lib.hid HPby_.out.opp
    clear hbx kx ky rx ry HNX HNY HF
    have HRbx : Hid (RL wc gx bx.opp.ws) := HRbx
    have HRby_ : Hid (RL wc gy by_.opp.ws) := HRby_
    have K0 : Hid (Blk wc gv 35 #[Value.bool bx.opp.neg, Value.slice (some ⟨gx, 0, none⟩) bx.opp.ws.length cx, Value.int IntKind.i64 bx.opp.e]) := K0
    have K1 : Hid (Blk wc (gv + 1) 35 #[Value.bool by_.opp.neg, Value.slice (some ⟨gy, 0, none⟩) by_.opp.ws.length cy, Value.int IntKind.i64 by_.opp.e]) := K1
    generalize bx.opp = bx at *
    generalize by_.opp = by_ at *
    have HO := Lib.hid (show ∀ w', Below wc.heap.size wc w' → (Below wc.heap.size wc w' ∧ w'.cell? ⟨gv, 0, none⟩ = some (Value.bool bx.neg) ∧ w'.cell? ⟨gv, 1, none⟩ = some (Value.slice (some ⟨gx, 0, none⟩) bx.ws.length cx) ∧ w'.cell? ⟨gv, 2, none⟩ = some (Value.int IntKind.i64 bx.e) ∧ w'.cell? ⟨gv + 1, 0, none⟩ = some (Value.bool by_.neg) ∧ w'.cell? ⟨gv + 1, 1, none⟩ = some (Value.slice (some ⟨gy, 0, none⟩) by_.ws.length cy) ∧ w'.cell? ⟨gv + 1, 2, none⟩ = some (Value.int IntKind.i64 by_.e)) from fun w' h => ⟨h, (K0.out.below h K0.out.lt).cell 0, (K0.out.below h K0.out.lt).cell 1, (K0.out.below h K0.out.lt).cell 2, (K1.out.below h K1.out.lt).cell 0, (K1.out.below h K1.out.lt).cell 1, (K1.out.below h K1.out.lt).cell 2⟩)
    have D10 := Lib.hid (Below.refl wc.heap.size wc)
    have hq := (HO.out _ D10.out).2
    have HRbx := Lib.hid (fun w' (b : Below wc.heap.size wc w') => HRbx.out.below' b)
    have HRby_ := Lib.hid (fun w' (b : Below wc.heap.size wc w') => HRby_.out.below' b)
    clear hq
    go_wp2_with fail
    go_wp2_with fail
    refine wp_region_held (S := (fun w' => Below wc.heap.size wc w' ∧ w'.cell? ⟨gv, 0, none⟩ = some (Value.bool bx.neg) ∧ w'.cell? ⟨gv, 1, none⟩ = some (Value.slice (some ⟨gx, 0, none⟩) bx.ws.length cx) ∧ w'.cell? ⟨gv, 2, none⟩ = some (Value.int IntKind.i64 bx.e) ∧ w'.cell? ⟨gv + 1, 0, none⟩ = some (Value.bool by_.neg) ∧ w'.cell? ⟨gv + 1, 1, none⟩ = some (Value.slice (some ⟨gy, 0, none⟩) by_.ws.length cy) ∧ w'.cell? ⟨gv + 1, 2, none⟩ = some (Value.int IntKind.i64 by_.e))) (by kernel_rfl) ?_
    (try change wpAnyH _ _ _ _ _ _ _ (World.drew _))
    have hS0 := HO.out _ (Below.drew D10.out)
    refine wpAnyH_takeM (i := 0) (v := ?v12_0x6) (l' := bm 13 1) (a' := ?a12_0x6) rfl (by kernel_rfl) (by kernel_rfl) (by kernel_rfl) (fun _ _ _ h => h) (Or.inl ⟨by kernel_rfl, ?h12_0x6⟩) (by kernel_rfl) ?p12_0x6 hS0 ?r12_0x6
    case h12_0x6 => (intro w hS; go_simp; try with_reducible rfl)
    case p12_0x6 => (go_simp; try with_reducible rfl)
    refine wpAnyH_oneM (i := 1) (l' := bm 13 3) rfl (by kernel_rfl) (by kernel_rfl) (by kernel_rfl) (fun K hK => ?_)
    have hP := hS0.1
    go_simp
    go_at_call 20
    refine (N1.out _).mono ?_
    rintro r w11 ⟨rfl, hb⟩
    dsimp only
    have D11 := Lib.hid (below_step hP hb)
    clear hb
    have hS1 := HO.out _ (D11.out)
    clear hP hS0
    refine hK _ _ hS1 ?_
    clear hK K
    refine wpAnyH_takeM (i := 2) (v := ?v12_2x6) (l' := bm 13 7) (a' := ?a12_2x6) rfl (by kernel_rfl) (by kernel_rfl) (by kernel_rfl) (fun _ _ _ h => h) (Or.inl ⟨by kernel_rfl, ?h12_2x6⟩) (by kernel_rfl) ?p12_2x6 hS1 ?r12_2x6
    case h12_2x6 => (intro w hS; go_simp; try with_reducible rfl)
    case p12_2x6 => (go_simp; try with_reducible rfl)
    refine wpAnyH_takeM (i := 3) (v := ?v12_3x6) (l' := bm 13 15) (a' := ?a12_3x6) rfl (by kernel_rfl) (by kernel_rfl) (by kernel_rfl) (fun _ _ _ h => h) (Or.inl ⟨by kernel_rfl, ?h12_3x6⟩) (by kernel_rfl) ?p12_3x6 hS1 ?r12_3x6
    case h12_3x6 => (intro w hS; go_simp; try with_reducible rfl)
    case p12_3x6 => (go_simp; try with_reducible rfl)
    refine wpAnyH_takeM (i := 4) (v := undef) (l' := bm 13 31) (a' := ?a12_4x6) rfl (by kernel_rfl) (by kernel_rfl) (by kernel_rfl) (fun _ _ _ h => h) (Or.inr ⟨by kernel_rfl, rfl⟩) (by kernel_rfl) ?p12_4x6 hS1 ?_
    case p12_4x6 => (go_simp; try with_reducible rfl)
    refine wpAnyH_takeM (i := 5) (v := undef) (l' := bm 13 63) (a' := ?a12_5x6) rfl (by kernel_rfl) (by kernel_rfl) (by kernel_rfl) (fun _ _ _ h => h) (Or.inr ⟨by kernel_rfl, rfl⟩) (by kernel_rfl) ?p12_5x6 hS1 ?_
    case p12_5x6 => (go_simp; try with_reducible rfl)
    refine wpAnyH_takeM (i := 6) (v := undef) (l' := bm 13 127) (a' := ?a12_6x6) rfl (by kernel_rfl) (by kernel_rfl) (by kernel_rfl) (fun _ _ _ h => h) (Or.inr ⟨by kernel_rfl, rfl⟩) (by kernel_rfl) ?p12_6x6 hS1 ?_
    case p12_6x6 => (go_simp; try with_reducible rfl)
    refine wpAnyH_takeM (i := 7) (v := undef) (l' := bm 13 255) (a' := ?a12_7x6) rfl (by kernel_rfl) (by kernel_rfl) (by kernel_rfl) (fun _ _ _ h => h) (Or.inr ⟨by kernel_rfl, rfl⟩) (by kernel_rfl) ?p12_7x6 hS1 ?_
    case p12_7x6 => (go_simp; try with_reducible rfl)
    refine wpAnyH_takeM (i := 8) (v := undef) (l' := bm 13 511) (a' := ?a12_8x6) rfl (by kernel_rfl) (by kernel_rfl) (by kernel_rfl) (fun _ _ _ h => h) (Or.inr ⟨by kernel_rfl, rfl⟩) (by kernel_rfl) ?p12_8x6 hS1 ?_
    case p12_8x6 => (go_simp; try with_reducible rfl)
    refine wpAnyH_takeM (i := 9) (v := undef) (l' := bm 13 1023) (a' := ?a12_9x6) rfl (by kernel_rfl) (by kernel_rfl) (by kernel_rfl) (fun _ _ _ h => h) (Or.inr ⟨by kernel_rfl, rfl⟩) (by kernel_rfl) ?p12_9x6 hS1 ?_
    case p12_9x6 => (go_simp; try with_reducible rfl)
    refine wpAnyH_takeM (i := 10) (v := undef) (l' := bm 13 2047) (a' := ?a12_10x6) rfl (by kernel_rfl) (by kernel_rfl) (by kernel_rfl) (fun _ _ _ h => h) (Or.inr ⟨by kernel_rfl, rfl⟩) (by kernel_rfl) ?p12_10x6 hS1 ?_
    case p12_10x6 => (go_simp; try with_reducible rfl)
    refine wpAnyH_takeM (i := 11) (v := ?v12_11x6) (l' := bm 13 4095) (a' := ?a12_11x6) rfl (by kernel_rfl) (by kernel_rfl) (by kernel_rfl) (fun _ _ _ h => h) (Or.inl ⟨by kernel_rfl, ?h12_11x6⟩) (by kernel_rfl) ?p12_11x6 hS1 ?r12_11x6
    case h12_11x6 => (intro w hS; go_simp; try with_reducible rfl)
    case p12_11x6 => (go_simp; try with_reducible rfl)
    refine wpAnyH_takeM (i := 12) (v := ?v12_12x6) (l' := bm 13 8191) (a' := ?a12_12x6) rfl (by kernel_rfl) (by kernel_rfl) (by kernel_rfl) (fun _ _ _ h => h) (Or.inl ⟨by kernel_rfl, ?h12_12x6⟩) (by kernel_rfl) ?p12_12x6 hS1 ?r12_12x6
    case h12_12x6 => (intro w hS; go_simp; try with_reducible rfl)
    case p12_12x6 => (go_simp; try with_reducible rfl)
    refine wpAnyH_done (by kernel_rfl) ?_ _
    clear hS1
    have hq := (HO.out _ D11.out).2
    clear hq
    go_wp2_with fail
    go_wp2_with fail
    refine wp_region_held (S := (fun w' => Below wc.heap.size wc w' ∧ w'.cell? ⟨gv, 0, none⟩ = some (Value.bool bx.neg) ∧ w'.cell? ⟨gv, 1, none⟩ = some (Value.slice (some ⟨gx, 0, none⟩) bx.ws.length cx) ∧ w'.cell? ⟨gv, 2, none⟩ = some (Value.int IntKind.i64 bx.e) ∧ w'.cell? ⟨gv + 1, 0, none⟩ = some (Value.bool by_.neg) ∧ w'.cell? ⟨gv + 1, 1, none⟩ = some (Value.slice (some ⟨gy, 0, none⟩) by_.ws.length cy) ∧ w'.cell? ⟨gv + 1, 2, none⟩ = some (Value.int IntKind.i64 by_.e))) (by kernel_rfl) ?_
    (try change wpAnyH _ _ _ _ _ _ _ (World.drew _))
    have hS0 := HO.out _ (Below.drew D11.out)
    refine wpAnyH_takeM (i := 0) (v := ?v13_0x6) (l' := bm 13 1) (a' := ?a13_0x6) rfl (by kernel_rfl) (by kernel_rfl) (by kernel_rfl) (fun _ _ _ h => h) (Or.inl ⟨by kernel_rfl, ?h13_0x6⟩) (by kernel_rfl) ?p13_0x6 hS0 ?r13_0x6
    case h13_0x6 => (intro w hS; go_simp; try with_reducible rfl)
    case p13_0x6 => (go_simp; try with_reducible rfl)
    refine wpAnyH_oneM (i := 1) (l' := bm 13 3) rfl (by kernel_rfl) (by kernel_rfl) (by kernel_rfl) (fun K hK => ?_)
    have hP := hS0.1
    go_simp
    go_at_call 20
    refine (N2.out _).mono ?_
    rintro r w12 ⟨rfl, hb⟩
    dsimp only
    have D12 := Lib.hid (below_step hP hb)
    clear hb
    have hS1 := HO.out _ (D12.out)
    clear hP hS0
    refine hK _ _ hS1 ?_
    clear hK K
    refine wpAnyH_takeM (i := 2) (v := ?v13_2x6) (l' := bm 13 7) (a' := ?a13_2x6) rfl (by kernel_rfl) (by kernel_rfl) (by kernel_rfl) (fun _ _ _ h => h) (Or.inl ⟨by kernel_rfl, ?h13_2x6⟩) (by kernel_rfl) ?p13_2x6 hS1 ?r13_2x6
    case h13_2x6 => (intro w hS; go_simp; try with_reducible rfl)
    case p13_2x6 => (go_simp; try with_reducible rfl)
    refine wpAnyH_takeM (i := 3) (v := ?v13_3x6) (l' := bm 13 15) (a' := ?a13_3x6) rfl (by kernel_rfl) (by kernel_rfl) (by kernel_rfl) (fun _ _ _ h => h) (Or.inl ⟨by kernel_rfl, ?h13_3x6⟩) (by kernel_rfl) ?p13_3x6 hS1 ?r13_3x6
    case h13_3x6 => (intro w hS; go_simp; try with_reducible rfl)
    case p13_3x6 => (go_simp; try with_reducible rfl)
    refine wpAnyH_takeM (i := 4) (v := ?v13_4x6) (l' := bm 13 31) (a' := ?a13_4x6) rfl (by kernel_rfl) (by kernel_rfl) (by kernel_rfl) (fun _ _ _ h => h) (Or.inl ⟨by kernel_rfl, ?h13_4x6⟩) (by kernel_rfl) ?p13_4x6 hS1 ?r13_4x6
    case h13_4x6 => (intro w hS; go_simp; try with_reducible rfl)
    case p13_4x6 => (go_simp; try with_reducible rfl)
    refine wpAnyH_takeM (i := 6) (v := ?v13_6x6) (l' := bm 13 95) (a' := ?a13_6x6) rfl (by kernel_rfl) (by kernel_rfl) (by kernel_rfl) (fun _ _ _ h => h) (Or.inl ⟨by kernel_rfl, ?h13_6x6⟩) (by kernel_rfl) ?p13_6x6 hS1 ?r13_6x6
    case h13_6x6 => (intro w hS; go_simp; try with_reducible rfl)
    case p13_6x6 => (go_simp; try with_reducible rfl)
    refine wpAnyH_takeM (i := 8) (v := ?v13_8x6) (l' := bm 13 351) (a' := ?a13_8x6) rfl (by kernel_rfl) (by kernel_rfl) (by kernel_rfl) (fun _ _ _ h => h) (Or.inl ⟨by kernel_rfl, ?h13_8x6⟩) (by kernel_rfl) ?p13_8x6 hS1 ?r13_8x6
    case h13_8x6 => (intro w hS; go_simp; try with_reducible rfl)
    case p13_8x6 => (go_simp; try with_reducible rfl)
    refine wpAnyH_oneM (i := 5) (l' := bm 13 383) rfl (by kernel_rfl) (by kernel_rfl) (by kernel_rfl) (fun K hK => ?_)
    have hP := hS1.1
    go_simp
    go_at_call 22
    refine (OM.out _).mono ?_
    rintro r w13 ⟨s3_, h3_, c3_, rfl, hr3, hp3, hb⟩
    dsimp only
    have D13 := Lib.hid (below_step hP hb)
    clear hb
    have hS2 := HO.out _ (D13.out)
    clear hP hS1
    refine hK _ _ hS2 ?_
    clear hK K
    refine wpAnyH_oneM (i := 7) (l' := bm 13 511) rfl (by kernel_rfl) (by kernel_rfl) (by kernel_rfl) (fun K hK => ?_)
    have hP := hS2.1
    go_simp
    go_at_call 25
    refine (mul_rp hr3 (HRby_.out _ hP) c3_ cy hp3 HPby_.out (by decide) (by decide) (by decide) (by decide) (by decide) (by decide)).mono ?_
    rintro r w14 ⟨s4_, h4_, c4_, rfl, hr4, hp4, hb⟩
    dsimp only
    have D14 := Lib.hid (below_step hP hb)
    clear hb
    have hS3 := HO.out _ (D14.out)
    clear hP hS2
    refine hK _ _ hS3 ?_
    clear hK K
    refine wpAnyH_oneM (i := 9) (l' := bm 13 1023) rfl (by kernel_rfl) (by kernel_rfl) (by kernel_rfl) (fun K hK => ?_)
    have hP := hS3.1
    go_simp
    go_at_call 24
    refine (less_rp hr4 (HRbx.out _ hP) c4_ cx hp4 HPbx.out (by decide) (by decide) (by decide) (by decide) (by decide) (by decide) G2.out).mono ?_
    rintro r w15 ⟨rfl, hb⟩
    dsimp only
    have D15 := Lib.hid (below_step hP hb)
    clear hb
    have hS4 := HO.out _ (D15.out)
    clear hP hS3
    refine hK _ _ hS4 ?_
    clear hK K
    refine wpAnyH_takeM (i := 10) (v := ?v13_10x6) (l' := bm 13 2047) (a' := ?a13_10x6) rfl (by kernel_rfl) (by kernel_rfl) (by kernel_rfl) (fun _ _ _ h => h) (Or.inl ⟨by kernel_rfl, ?h13_10x6⟩) (by kernel_rfl) ?p13_10x6 hS4 ?r13_10x6
    case h13_10x6 => (intro w hS; go_simp; try with_reducible rfl)
    case p13_10x6 => (go_simp; try with_reducible rfl)
    refine wpAnyH_takeM (i := 11) (v := ?v13_11x6) (l' := bm 13 4095) (a' := ?a13_11x6) rfl (by kernel_rfl) (by kernel_rfl) (by kernel_rfl) (fun _ _ _ h => h) (Or.inl ⟨by kernel_rfl, ?h13_11x6⟩) (by kernel_rfl) ?p13_11x6 hS4 ?r13_11x6
    case h13_11x6 => (intro w hS; go_simp; try with_reducible rfl)
    case p13_11x6 => (go_simp; try with_reducible rfl)
    refine wpAnyH_takeM (i := 12) (v := ?v13_12x6) (l' := bm 13 8191) (a' := ?a13_12x6) rfl (by kernel_rfl) (by kernel_rfl) (by kernel_rfl) (fun _ _ _ h => h) (Or.inl ⟨by kernel_rfl, ?h13_12x6⟩) (by kernel_rfl) ?p13_12x6 hS4 ?r13_12x6
    case h13_12x6 => (intro w hS; go_simp; try with_reducible rfl)
    case p13_12x6 => (go_simp; try with_reducible rfl)
    refine wpAnyH_done (by kernel_rfl) ?_ _
    clear hS4
    have hq := (HO.out _ D15.out).2
    clear hq hr3 hp3 hr4 hp4
    go_wp2_with fail
    refine (IF.out _).mono ?_
    rintro r w' ⟨rfl, rfl⟩
    go_wp2_with fail
    refine (IF.out _).mono ?_
    rintro r w' ⟨rfl, rfl⟩
    go_wp2_with fail
    go_ret
    exact ⟨rfl, below_step HB.out D15.out⟩
set_option maxRecDepth 100000 in
set_option maxHeartbeats 8000000 in
theorem ratio_nnn (a b : Nat) (ha : a < 18446744073709551616) (hb : b < 18446744073709551616) (fa : fin a = true) (fb : fin b = true) (zb : Z b < 0) (c1 : fin (divR a b true).1 = false) (c2 : fin (divR a b false).1 = false) (w : World) : Calls Try.prog 5 #[.float .f64 a, .float .f64 b] w fun r w' => r = .returned (.bool true) ∧ Below w.heap.size w w' := by
  have H0 := Lib.hid awake
  have H1 := Lib.hid (fun w => num_b a ha w)
  have H2 := Lib.hid (fun w => num_b b hb w)
  rw [fa] at H1
  rw [fb] at H2
  have z0 : Z b ≠ 0 := by omega
  have eb := Nb.c0_eq hb (nan_of_fin fb)
  rw [decide_eq_false z0] at eb
  have el := Z_lt0 b hb fb
  rw [decide_eq_true zb] at el
  have OX := Lib.hid (fun w => of_rp ha fa w)
  have OY := Lib.hid (fun w => of_rp hb fb w)
  have d1 := div_dn fa fb z0
  have d2 := div_up fa fb z0
  have R1 := Lib.hid (fun w => div_any a b true ha hb w)
  have R2 := Lib.hid (fun w => div_any a b false ha hb w)
  rw [divR_fin fa fb z0 true] at R1
  rw [divR_fin fa fb z0 false] at R2
  simp only [pV, numV] at R1 R2
  generalize (divR a b true).1 = lo at *
  generalize (divR a b false).1 = hi at *
  have N1 := Lib.hid (fun w => num_b lo d1.gd.lt w)
  have N2 := Lib.hid (fun w => num_b hi d2.gd.lt w)
  rw [c1] at N1
  rw [c2] at N2
  have CL1 := Lib.hid (fun w => close_any d1.gd d2.gd (nbr_rd d1 d2) w)
  have IF := Lib.hid (fun w => rinf_any w)
  have ⟨i1, i2⟩ := ne_pi d1.gd d1.np
  have ⟨i3, i4⟩ := ne_ni d2.gd d2.np
  have np := Nb.neg_PI
  have xb0 : fv b < 0 := fv_neg.2 zb
  clear d1 d2 c1 c2 fa fb ha hb zb z0 xb0
  generalize fv a = xa at *
  generalize fv b = xb at *
  go_enter Try.func5, Try.ntmps5
  go_wp2_with fail
  obtain ⟨W, hW⟩ : ∃ W, W = w := ⟨_, rfl⟩
  rw [← hW]
  have HB := Lib.hid (hW ▸ Below.refl w.heap.size w : Below w.heap.size w W)
  clear hW
  have HO := Lib.hid (show ∀ w', Below W.heap.size W w' → (Below W.heap.size W w') from fun w' h => h)
  have D0 := Lib.hid (Below.refl W.heap.size W)
  refine (H0.out _).mono ?_
  rintro r w1 ⟨rfl, hb⟩
  have D1 := Lib.hid (below_step D0.out hb)
  clear hb
  go_wp2_with fail
  refine (H1.out _).mono ?_
  rintro r w2 ⟨rfl, hb⟩
  have D2 := Lib.hid (below_step D1.out hb)
  clear hb
  go_wp2_with fail
  refine (H2.out _).mono ?_
  rintro r w3 ⟨rfl, hb⟩
  have D3 := Lib.hid (below_step D2.out hb)
  clear hb
  go_wp2_with fail
  refine (R1.out _).mono ?_
  rintro r w4 ⟨rfl, hb⟩
  have D4 := Lib.hid (below_step D3.out hb)
  clear hb
  go_wp2_with fail
  refine (R2.out _).mono ?_
  rintro r w5 ⟨rfl, hb⟩
  have D5 := Lib.hid (below_step D4.out hb)
  clear hb
  go_wp2_with fail
  refine (CL1.out _).mono ?_
  rintro r w6 ⟨rfl, hb⟩
  have D6 := Lib.hid (below_step D5.out hb)
  clear hb
  go_wp2_with fail
  refine (OX.out _).mono ?_
  rintro r w7 ⟨bx, gx, cx, rfl, hrx, hpx, hb⟩
  have D7 := Lib.hid (below_step D6.out hb)
  clear hb
  have HRbx := Lib.hid hrx
  have HPbx := Lib.hid hpx
  clear hrx hpx
  go_wp2_with fail
  refine (OY.out _).mono ?_
  rintro r w8 ⟨by_, gy, cy, rfl, hrx, hpx, hb⟩
  have D8 := Lib.hid (below_step D7.out hb)
  have HRbx := Lib.hid (HRbx.out.below' hb)
  clear hb
  have HRby_ := Lib.hid hrx
  have HPby_ := Lib.hid hpx
  clear hrx hpx
  go_upto_region 11 with fail
  obtain ⟨V, hV, KN0, KN1, hBV, hz⟩ := by2 w8 35 35 #[Value.bool bx.neg, Value.slice (some ⟨gx, 0, none⟩) bx.ws.length cx, Value.int IntKind.i64 bx.e] #[Value.bool by_.neg, Value.slice (some ⟨gy, 0, none⟩) by_.ws.length cy, Value.int IntKind.i64 by_.e]
  rw [← hV]
  have HLTbx := Lib.hid HRbx.out.lt
  have HRbx := Lib.hid (HRbx.out.below' hBV)
  have HLTby_ := Lib.hid HRby_.out.lt
  have HRby_ := Lib.hid (HRby_.out.below' hBV)
  have HB' := Lib.hid (below_step (below_step HB.out D8.out) hBV)
  obtain ⟨gv, hgv⟩ : ∃ g, w8.heap.size = g := ⟨_, rfl⟩
  have hwg : w.heap.size ≤ gv := by rw [← hgv]; exact (below_step HB.out D8.out).size
  have lt_bx : gx < gv := by rw [← hgv]; exact HLTbx.out
  have lt_by_ : gy < gv := by rw [← hgv]; exact HLTby_.out
  rw [hgv] at KN0 KN1
  rw [hgv]
  have K0 := Lib.hid KN0
  have K1 := Lib.hid KN1
  clear HB HO KN0 KN1 hV hBV hz hgv
  have HB := HB'
  clear HB'
  have HO := Lib.hid (show ∀ w', Below V.heap.size V w' → (Below V.heap.size V w' ∧ w'.cell? ⟨gv, 0, none⟩ = some (Value.bool bx.neg) ∧ w'.cell? ⟨gv, 1, none⟩ = some (Value.slice (some ⟨gx, 0, none⟩) bx.ws.length cx) ∧ w'.cell? ⟨gv, 2, none⟩ = some (Value.int IntKind.i64 bx.e) ∧ w'.cell? ⟨gv + 1, 0, none⟩ = some (Value.bool by_.neg) ∧ w'.cell? ⟨gv + 1, 1, none⟩ = some (Value.slice (some ⟨gy, 0, none⟩) by_.ws.length cy) ∧ w'.cell? ⟨gv + 1, 2, none⟩ = some (Value.int IntKind.i64 by_.e)) from fun w' h => ⟨h, (K0.out.below h K0.out.lt).cell 0, (K0.out.below h K0.out.lt).cell 1, (K0.out.below h K0.out.lt).cell 2, (K1.out.below h K1.out.lt).cell 0, (K1.out.below h K1.out.lt).cell 1, (K1.out.below h K1.out.lt).cell 2⟩)
  have D9 := Lib.hid (Below.refl V.heap.size V)
  have hq := (HO.out _ D9.out).2
  have HRbx := Lib.hid (fun w' (b : Below V.heap.size V w') => HRbx.out.below' b)
  have HRby_ := Lib.hid (fun w' (b : Below V.heap.size V w') => HRby_.out.below' b)
  clear hq
  have HNX := Lib.hid (fun w' => neg_any w' bx.neg (some ⟨gx, 0, none⟩) bx.ws.length cx bx.e)
  have HNY := Lib.hid (fun w' => neg_any w' by_.neg (some ⟨gy, 0, none⟩) by_.ws.length cy by_.e)
  have HF := Lib.hid (show ∀ w', Below V.heap.size V w' → (w'.cell? ⟨gv, 0, none⟩ = some (Value.bool bx.neg) ∧ w'.cell? ⟨gv, 1, none⟩ = some (Value.slice (some ⟨gx, 0, none⟩) bx.ws.length cx) ∧ w'.cell? ⟨gv, 2, none⟩ = some (Value.int IntKind.i64 bx.e) ∧ w'.cell? ⟨gv + 1, 0, none⟩ = some (Value.bool by_.neg) ∧ w'.cell? ⟨gv + 1, 1, none⟩ = some (Value.slice (some ⟨gy, 0, none⟩) by_.ws.length cy) ∧ w'.cell? ⟨gv + 1, 2, none⟩ = some (Value.int IntKind.i64 by_.e)) from fun w' h => ⟨(K0.out.below h K0.out.lt).cell 0 , (K0.out.below h K0.out.lt).cell 1 , (K0.out.below h K0.out.lt).cell 2 , (K1.out.below h K1.out.lt).cell 0 , (K1.out.below h K1.out.lt).cell 1 , (K1.out.below h K1.out.lt).cell 2⟩)
  go_cut [58] (fun s58 wx => True ∧ Below w.heap.size w wx ∧ Blk wx gv 35 #[Value.bool (!bx.neg), Value.slice (some ⟨gx, 0, none⟩) bx.ws.length cx, Value.int IntKind.i64 bx.e] ∧ Blk wx (gv + 1) 35 #[Value.bool (!by_.neg), Value.slice (some ⟨gy, 0, none⟩) by_.ws.length cy, Value.int IntKind.i64 by_.e] ∧ RL wx gx bx.ws ∧ RL wx gy by_.ws)
  case first =>
    refine wp_region_any (by kernel_rfl) ?_
    change wpAny _ _ _ _ _ _ _ (World.drew _)
    obtain ⟨wd, hwd⟩ : ∃ x, x = World.drew V := ⟨_, rfl⟩
    rw [← hwd]
    have DD := Lib.hid (hwd ▸ D9.out.drew : Below V.heap.size V wd)
    clear hwd
    have ⟨y0, y1, y2, y3, y4, y5⟩ := HF.out _ DD.out
    refine wpAny_ready (rs := [0, 2]) (by kernel_rfl) (by simp) ?_
    refine AllReady.cons rfl (fun K hK => ?_) (AllReady.cons rfl (fun K hK => ?_) AllReady.nil)
    · go_simp
      refine hK _ _ ?_
      clear hK K
      refine wpAny_ready (rs := [1, 2]) (by kernel_rfl) (by simp) ?_
      refine AllReady.cons rfl (fun K hK => ?_) (AllReady.cons rfl (fun K hK => ?_) AllReady.nil)
      · go_simp
        go_at_call 23
        refine (HNX.out _).mono ?_
        rintro r w21 ⟨rfl, hb⟩
        dsimp only
        have DE := Lib.hid (below_step DD.out hb)
        clear hb
        have ⟨z0, z1, z2, z3, z4, z5⟩ := HF.out _ DE.out
        refine hK _ _ ?_
        clear hK K
        refine wpAny_ready (rs := [2]) (by kernel_rfl) (by simp) ?_
        refine AllReady.cons rfl (fun K hK => ?_) AllReady.nil
        go_simp
        refine hK _ _ ?_
        clear hK K
        refine wpAny_ready (rs := [3]) (by kernel_rfl) (by simp) ?_
        refine AllReady.cons rfl (fun K hK => ?_) AllReady.nil
        go_simp
        go_at_call 23
        refine (HNY.out _).mono ?_
        rintro r w22 ⟨rfl, hb⟩
        dsimp only
        have DG := Lib.hid (below_step DE.out hb)
        clear hb
        have ⟨z0, z1, z2, z3, z4, z5⟩ := HF.out _ DG.out
        refine hK _ _ ?_
        clear hK K
        have kx := Lib.hid (K0.out.below DG.out K0.out.lt)
        have ky := Lib.hid (K1.out.below DG.out K1.out.lt)
        have f0 := kx.out.frz 0
        have k0 := ky.out.frz 0
        have f1 := kx.out.frz 1
        have k1 := ky.out.frz 1
        have f2 := kx.out.frz 2
        have k2 := ky.out.frz 2
        refine wpAny_ready (rs := [4]) (by kernel_rfl) (by simp) ?_
        refine AllReady.cons rfl (fun K hK => ?_) AllReady.nil
        go_simp
        refine hK _ _ ?_
        clear hK K
        refine wpAny_ready (rs := [5]) (by kernel_rfl) (by simp) ?_
        refine AllReady.cons rfl (fun K hK => ?_) AllReady.nil
        go_simp
        refine hK _ _ ?_
        clear hK K
        refine wpAny_done (by kernel_rfl) ?_ _
        go_wp2_with fail
        go_meet
        exact ⟨trivial, (Below.setCell (Below.setCell (Below.setCell (Below.setCell (Below.setCell (Below.setCell (below_step HB.out DG.out) (p := ⟨gv, 0, none⟩) (by show w.heap.size ≤ gv; omega) _) (p := ⟨gv, 1, none⟩) (by show w.heap.size ≤ gv; omega) _) (p := ⟨gv, 2, none⟩) (by show w.heap.size ≤ gv; omega) _) (p := ⟨gv + 1, 0, none⟩) (by show w.heap.size ≤ gv + 1; omega) _) (p := ⟨gv + 1, 1, none⟩) (by show w.heap.size ≤ gv + 1; omega) _) (p := ⟨gv + 1, 2, none⟩) (by show w.heap.size ≤ gv + 1; omega) _), (Blk.off (Blk.off (Blk.off (Blk.set_ (Blk.set_ (Blk.set_ kx.out 0 _) 1 _) 2 _) ⟨gv + 1, 0, none⟩ _ (by show gv ≠ gv + 1; omega)) ⟨gv + 1, 1, none⟩ _ (by show gv ≠ gv + 1; omega)) ⟨gv + 1, 2, none⟩ _ (by show gv ≠ gv + 1; omega)), (Blk.set_ (Blk.set_ (Blk.set_ (Blk.off (Blk.off (Blk.off ky.out ⟨gv, 0, none⟩ _ (by show gv + 1 ≠ gv; omega)) ⟨gv, 1, none⟩ _ (by show gv + 1 ≠ gv; omega)) ⟨gv, 2, none⟩ _ (by show gv + 1 ≠ gv; omega)) 0 _) 1 _) 2 _), (RL.off (RL.off (RL.off (RL.off (RL.off (RL.off (HRbx.out _ DG.out) ⟨gv, 0, none⟩ _ (by show gx ≠ gv; omega)) ⟨gv, 1, none⟩ _ (by show gx ≠ gv; omega)) ⟨gv, 2, none⟩ _ (by show gx ≠ gv; omega)) ⟨gv + 1, 0, none⟩ _ (by show gx ≠ gv + 1; omega)) ⟨gv + 1, 1, none⟩ _ (by show gx ≠ gv + 1; omega)) ⟨gv + 1, 2, none⟩ _ (by show gx ≠ gv + 1; omega)), (RL.off (RL.off (RL.off (RL.off (RL.off (RL.off (HRby_.out _ DG.out) ⟨gv, 0, none⟩ _ (by show gy ≠ gv; omega)) ⟨gv, 1, none⟩ _ (by show gy ≠ gv; omega)) ⟨gv, 2, none⟩ _ (by show gy ≠ gv; omega)) ⟨gv + 1, 0, none⟩ _ (by show gy ≠ gv + 1; omega)) ⟨gv + 1, 1, none⟩ _ (by show gy ≠ gv + 1; omega)) ⟨gv + 1, 2, none⟩ _ (by show gy ≠ gv + 1; omega))⟩
      · go_simp
        refine hK _ _ ?_
        clear hK K
        refine wpAny_ready (rs := [1]) (by kernel_rfl) (by simp) ?_
        refine AllReady.cons rfl (fun K hK => ?_) AllReady.nil
        go_simp
        go_at_call 23
        refine (HNX.out _).mono ?_
        rintro r w21 ⟨rfl, hb⟩
        dsimp only
        have DE := Lib.hid (below_step DD.out hb)
        clear hb
        have ⟨z0, z1, z2, z3, z4, z5⟩ := HF.out _ DE.out
        refine hK _ _ ?_
        clear hK K
        refine wpAny_ready (rs := [3]) (by kernel_rfl) (by simp) ?_
        refine AllReady.cons rfl (fun K hK => ?_) AllReady.nil
        go_simp
        go_at_call 23
        refine (HNY.out _).mono ?_
        rintro r w22 ⟨rfl, hb⟩
        dsimp only
        have DG := Lib.hid (below_step DE.out hb)
        clear hb
        have ⟨z0, z1, z2, z3, z4, z5⟩ := HF.out _ DG.out
        refine hK _ _ ?_
        clear hK K
        have kx := Lib.hid (K0.out.below DG.out K0.out.lt)
        have ky := Lib.hid (K1.out.below DG.out K1.out.lt)
        have f0 := kx.out.frz 0
        have k0 := ky.out.frz 0
        have f1 := kx.out.frz 1
        have k1 := ky.out.frz 1
        have f2 := kx.out.frz 2
        have k2 := ky.out.frz 2
        refine wpAny_ready (rs := [4]) (by kernel_rfl) (by simp) ?_
        refine AllReady.cons rfl (fun K hK => ?_) AllReady.nil
        go_simp
        refine hK _ _ ?_
        clear hK K
        refine wpAny_ready (rs := [5]) (by kernel_rfl) (by simp) ?_
        refine AllReady.cons rfl (fun K hK => ?_) AllReady.nil
        go_simp
        refine hK _ _ ?_
        clear hK K
        refine wpAny_done (by kernel_rfl) ?_ _
        go_wp2_with fail
        go_meet
        exact ⟨trivial, (Below.setCell (Below.setCell (Below.setCell (Below.setCell (Below.setCell (Below.setCell (below_step HB.out DG.out) (p := ⟨gv, 0, none⟩) (by show w.heap.size ≤ gv; omega) _) (p := ⟨gv, 1, none⟩) (by show w.heap.size ≤ gv; omega) _) (p := ⟨gv, 2, none⟩) (by show w.heap.size ≤ gv; omega) _) (p := ⟨gv + 1, 0, none⟩) (by show w.heap.size ≤ gv + 1; omega) _) (p := ⟨gv + 1, 1, none⟩) (by show w.heap.size ≤ gv + 1; omega) _) (p := ⟨gv + 1, 2, none⟩) (by show w.heap.size ≤ gv + 1; omega) _), (Blk.off (Blk.off (Blk.off (Blk.set_ (Blk.set_ (Blk.set_ kx.out 0 _) 1 _) 2 _) ⟨gv + 1, 0, none⟩ _ (by show gv ≠ gv + 1; omega)) ⟨gv + 1, 1, none⟩ _ (by show gv ≠ gv + 1; omega)) ⟨gv + 1, 2, none⟩ _ (by show gv ≠ gv + 1; omega)), (Blk.set_ (Blk.set_ (Blk.set_ (Blk.off (Blk.off (Blk.off ky.out ⟨gv, 0, none⟩ _ (by show gv + 1 ≠ gv; omega)) ⟨gv, 1, none⟩ _ (by show gv + 1 ≠ gv; omega)) ⟨gv, 2, none⟩ _ (by show gv + 1 ≠ gv; omega)) 0 _) 1 _) 2 _), (RL.off (RL.off (RL.off (RL.off (RL.off (RL.off (HRbx.out _ DG.out) ⟨gv, 0, none⟩ _ (by show gx ≠ gv; omega)) ⟨gv, 1, none⟩ _ (by show gx ≠ gv; omega)) ⟨gv, 2, none⟩ _ (by show gx ≠ gv; omega)) ⟨gv + 1, 0, none⟩ _ (by show gx ≠ gv + 1; omega)) ⟨gv + 1, 1, none⟩ _ (by show gx ≠ gv + 1; omega)) ⟨gv + 1, 2, none⟩ _ (by show gx ≠ gv + 1; omega)), (RL.off (RL.off (RL.off (RL.off (RL.off (RL.off (HRby_.out _ DG.out) ⟨gv, 0, none⟩ _ (by show gy ≠ gv; omega)) ⟨gv, 1, none⟩ _ (by show gy ≠ gv; omega)) ⟨gv, 2, none⟩ _ (by show gy ≠ gv; omega)) ⟨gv + 1, 0, none⟩ _ (by show gy ≠ gv + 1; omega)) ⟨gv + 1, 1, none⟩ _ (by show gy ≠ gv + 1; omega)) ⟨gv + 1, 2, none⟩ _ (by show gy ≠ gv + 1; omega))⟩
    · go_simp
      refine hK _ _ ?_
      clear hK K
      refine wpAny_ready (rs := [0]) (by kernel_rfl) (by simp) ?_
      refine AllReady.cons rfl (fun K hK => ?_) AllReady.nil
      go_simp
      refine hK _ _ ?_
      clear hK K
      refine wpAny_ready (rs := [1]) (by kernel_rfl) (by simp) ?_
      refine AllReady.cons rfl (fun K hK => ?_) AllReady.nil
      go_simp
      go_at_call 23
      refine (HNX.out _).mono ?_
      rintro r w21 ⟨rfl, hb⟩
      dsimp only
      have DE := Lib.hid (below_step DD.out hb)
      clear hb
      have ⟨z0, z1, z2, z3, z4, z5⟩ := HF.out _ DE.out
      refine hK _ _ ?_
      clear hK K
      refine wpAny_ready (rs := [3]) (by kernel_rfl) (by simp) ?_
      refine AllReady.cons rfl (fun K hK => ?_) AllReady.nil
      go_simp
      go_at_call 23
      refine (HNY.out _).mono ?_
      rintro r w22 ⟨rfl, hb⟩
      dsimp only
      have DG := Lib.hid (below_step DE.out hb)
      clear hb
      have ⟨z0, z1, z2, z3, z4, z5⟩ := HF.out _ DG.out
      refine hK _ _ ?_
      clear hK K
      have kx := Lib.hid (K0.out.below DG.out K0.out.lt)
      have ky := Lib.hid (K1.out.below DG.out K1.out.lt)
      have f0 := kx.out.frz 0
      have k0 := ky.out.frz 0
      have f1 := kx.out.frz 1
      have k1 := ky.out.frz 1
      have f2 := kx.out.frz 2
      have k2 := ky.out.frz 2
      refine wpAny_ready (rs := [4]) (by kernel_rfl) (by simp) ?_
      refine AllReady.cons rfl (fun K hK => ?_) AllReady.nil
      go_simp
      refine hK _ _ ?_
      clear hK K
      refine wpAny_ready (rs := [5]) (by kernel_rfl) (by simp) ?_
      refine AllReady.cons rfl (fun K hK => ?_) AllReady.nil
      go_simp
      refine hK _ _ ?_
      clear hK K
      refine wpAny_done (by kernel_rfl) ?_ _
      go_wp2_with fail
      go_meet
      exact ⟨trivial, (Below.setCell (Below.setCell (Below.setCell (Below.setCell (Below.setCell (Below.setCell (below_step HB.out DG.out) (p := ⟨gv, 0, none⟩) (by show w.heap.size ≤ gv; omega) _) (p := ⟨gv, 1, none⟩) (by show w.heap.size ≤ gv; omega) _) (p := ⟨gv, 2, none⟩) (by show w.heap.size ≤ gv; omega) _) (p := ⟨gv + 1, 0, none⟩) (by show w.heap.size ≤ gv + 1; omega) _) (p := ⟨gv + 1, 1, none⟩) (by show w.heap.size ≤ gv + 1; omega) _) (p := ⟨gv + 1, 2, none⟩) (by show w.heap.size ≤ gv + 1; omega) _), (Blk.off (Blk.off (Blk.off (Blk.set_ (Blk.set_ (Blk.set_ kx.out 0 _) 1 _) 2 _) ⟨gv + 1, 0, none⟩ _ (by show gv ≠ gv + 1; omega)) ⟨gv + 1, 1, none⟩ _ (by show gv ≠ gv + 1; omega)) ⟨gv + 1, 2, none⟩ _ (by show gv ≠ gv + 1; omega)), (Blk.set_ (Blk.set_ (Blk.set_ (Blk.off (Blk.off (Blk.off ky.out ⟨gv, 0, none⟩ _ (by show gv + 1 ≠ gv; omega)) ⟨gv, 1, none⟩ _ (by show gv + 1 ≠ gv; omega)) ⟨gv, 2, none⟩ _ (by show gv + 1 ≠ gv; omega)) 0 _) 1 _) 2 _), (RL.off (RL.off (RL.off (RL.off (RL.off (RL.off (HRbx.out _ DG.out) ⟨gv, 0, none⟩ _ (by show gx ≠ gv; omega)) ⟨gv, 1, none⟩ _ (by show gx ≠ gv; omega)) ⟨gv, 2, none⟩ _ (by show gx ≠ gv; omega)) ⟨gv + 1, 0, none⟩ _ (by show gx ≠ gv + 1; omega)) ⟨gv + 1, 1, none⟩ _ (by show gx ≠ gv + 1; omega)) ⟨gv + 1, 2, none⟩ _ (by show gx ≠ gv + 1; omega)), (RL.off (RL.off (RL.off (RL.off (RL.off (RL.off (HRby_.out _ DG.out) ⟨gv, 0, none⟩ _ (by show gy ≠ gv; omega)) ⟨gv, 1, none⟩ _ (by show gy ≠ gv; omega)) ⟨gv, 2, none⟩ _ (by show gy ≠ gv; omega)) ⟨gv + 1, 0, none⟩ _ (by show gy ≠ gv + 1; omega)) ⟨gv + 1, 1, none⟩ _ (by show gy ≠ gv + 1; omega)) ⟨gv + 1, 2, none⟩ _ (by show gy ≠ gv + 1; omega))⟩
  case rest =>
    obtain ⟨-, hbx, kx, ky, rx, ry⟩ := hcut
    have HB := Lib.hid hbx
    have K0 := Lib.hid kx
    have K1 := Lib.hid ky
    have HRbx := Lib.hid rx
    have HRby_ := Lib.hid ry
    have HPbx := Lib.hid HPbx.out.opp
    have HPby_ := Lib.hid HPby_.out.opp
    clear hbx kx ky rx ry HNX HNY HF
    have HRbx : Hid (RL wc gx bx.opp.ws) := HRbx
    have HRby_ : Hid (RL wc gy by_.opp.ws) := HRby_
    have K0 : Hid (Blk wc gv 35 #[Value.bool bx.opp.neg, Value.slice (some ⟨gx, 0, none⟩) bx.opp.ws.length cx, Value.int IntKind.i64 bx.opp.e]) := K0
    have K1 : Hid (Blk wc (gv + 1) 35 #[Value.bool by_.opp.neg, Value.slice (some ⟨gy, 0, none⟩) by_.opp.ws.length cy, Value.int IntKind.i64 by_.opp.e]) := K1
    generalize bx.opp = bx at *
    generalize by_.opp = by_ at *
    have HO := Lib.hid (show ∀ w', Below wc.heap.size wc w' → (Below wc.heap.size wc w' ∧ w'.cell? ⟨gv, 0, none⟩ = some (Value.bool bx.neg) ∧ w'.cell? ⟨gv, 1, none⟩ = some (Value.slice (some ⟨gx, 0, none⟩) bx.ws.length cx) ∧ w'.cell? ⟨gv, 2, none⟩ = some (Value.int IntKind.i64 bx.e) ∧ w'.cell? ⟨gv + 1, 0, none⟩ = some (Value.bool by_.neg) ∧ w'.cell? ⟨gv + 1, 1, none⟩ = some (Value.slice (some ⟨gy, 0, none⟩) by_.ws.length cy) ∧ w'.cell? ⟨gv + 1, 2, none⟩ = some (Value.int IntKind.i64 by_.e)) from fun w' h => ⟨h, (K0.out.below h K0.out.lt).cell 0, (K0.out.below h K0.out.lt).cell 1, (K0.out.below h K0.out.lt).cell 2, (K1.out.below h K1.out.lt).cell 0, (K1.out.below h K1.out.lt).cell 1, (K1.out.below h K1.out.lt).cell 2⟩)
    have D10 := Lib.hid (Below.refl wc.heap.size wc)
    have hq := (HO.out _ D10.out).2
    have HRbx := Lib.hid (fun w' (b : Below wc.heap.size wc w') => HRbx.out.below' b)
    have HRby_ := Lib.hid (fun w' (b : Below wc.heap.size wc w') => HRby_.out.below' b)
    clear hq
    go_wp2_with fail
    go_wp2_with fail
    refine wp_region_held (S := (fun w' => Below wc.heap.size wc w' ∧ w'.cell? ⟨gv, 0, none⟩ = some (Value.bool bx.neg) ∧ w'.cell? ⟨gv, 1, none⟩ = some (Value.slice (some ⟨gx, 0, none⟩) bx.ws.length cx) ∧ w'.cell? ⟨gv, 2, none⟩ = some (Value.int IntKind.i64 bx.e) ∧ w'.cell? ⟨gv + 1, 0, none⟩ = some (Value.bool by_.neg) ∧ w'.cell? ⟨gv + 1, 1, none⟩ = some (Value.slice (some ⟨gy, 0, none⟩) by_.ws.length cy) ∧ w'.cell? ⟨gv + 1, 2, none⟩ = some (Value.int IntKind.i64 by_.e))) (by kernel_rfl) ?_
    (try change wpAnyH _ _ _ _ _ _ _ (World.drew _))
    have hS0 := HO.out _ (Below.drew D10.out)
    refine wpAnyH_takeM (i := 0) (v := ?v12_0x7) (l' := bm 13 1) (a' := ?a12_0x7) rfl (by kernel_rfl) (by kernel_rfl) (by kernel_rfl) (fun _ _ _ h => h) (Or.inl ⟨by kernel_rfl, ?h12_0x7⟩) (by kernel_rfl) ?p12_0x7 hS0 ?r12_0x7
    case h12_0x7 => (intro w hS; go_simp; try with_reducible rfl)
    case p12_0x7 => (go_simp; try with_reducible rfl)
    refine wpAnyH_oneM (i := 1) (l' := bm 13 3) rfl (by kernel_rfl) (by kernel_rfl) (by kernel_rfl) (fun K hK => ?_)
    have hP := hS0.1
    go_simp
    go_at_call 20
    refine (N1.out _).mono ?_
    rintro r w11 ⟨rfl, hb⟩
    dsimp only
    have D11 := Lib.hid (below_step hP hb)
    clear hb
    have hS1 := HO.out _ (D11.out)
    clear hP hS0
    refine hK _ _ hS1 ?_
    clear hK K
    refine wpAnyH_takeM (i := 2) (v := ?v12_2x7) (l' := bm 13 7) (a' := ?a12_2x7) rfl (by kernel_rfl) (by kernel_rfl) (by kernel_rfl) (fun _ _ _ h => h) (Or.inl ⟨by kernel_rfl, ?h12_2x7⟩) (by kernel_rfl) ?p12_2x7 hS1 ?r12_2x7
    case h12_2x7 => (intro w hS; go_simp; try with_reducible rfl)
    case p12_2x7 => (go_simp; try with_reducible rfl)
    refine wpAnyH_takeM (i := 3) (v := ?v12_3x7) (l' := bm 13 15) (a' := ?a12_3x7) rfl (by kernel_rfl) (by kernel_rfl) (by kernel_rfl) (fun _ _ _ h => h) (Or.inl ⟨by kernel_rfl, ?h12_3x7⟩) (by kernel_rfl) ?p12_3x7 hS1 ?r12_3x7
    case h12_3x7 => (intro w hS; go_simp; try with_reducible rfl)
    case p12_3x7 => (go_simp; try with_reducible rfl)
    refine wpAnyH_takeM (i := 4) (v := undef) (l' := bm 13 31) (a' := ?a12_4x7) rfl (by kernel_rfl) (by kernel_rfl) (by kernel_rfl) (fun _ _ _ h => h) (Or.inr ⟨by kernel_rfl, rfl⟩) (by kernel_rfl) ?p12_4x7 hS1 ?_
    case p12_4x7 => (go_simp; try with_reducible rfl)
    refine wpAnyH_takeM (i := 5) (v := undef) (l' := bm 13 63) (a' := ?a12_5x7) rfl (by kernel_rfl) (by kernel_rfl) (by kernel_rfl) (fun _ _ _ h => h) (Or.inr ⟨by kernel_rfl, rfl⟩) (by kernel_rfl) ?p12_5x7 hS1 ?_
    case p12_5x7 => (go_simp; try with_reducible rfl)
    refine wpAnyH_takeM (i := 6) (v := undef) (l' := bm 13 127) (a' := ?a12_6x7) rfl (by kernel_rfl) (by kernel_rfl) (by kernel_rfl) (fun _ _ _ h => h) (Or.inr ⟨by kernel_rfl, rfl⟩) (by kernel_rfl) ?p12_6x7 hS1 ?_
    case p12_6x7 => (go_simp; try with_reducible rfl)
    refine wpAnyH_takeM (i := 7) (v := undef) (l' := bm 13 255) (a' := ?a12_7x7) rfl (by kernel_rfl) (by kernel_rfl) (by kernel_rfl) (fun _ _ _ h => h) (Or.inr ⟨by kernel_rfl, rfl⟩) (by kernel_rfl) ?p12_7x7 hS1 ?_
    case p12_7x7 => (go_simp; try with_reducible rfl)
    refine wpAnyH_takeM (i := 8) (v := undef) (l' := bm 13 511) (a' := ?a12_8x7) rfl (by kernel_rfl) (by kernel_rfl) (by kernel_rfl) (fun _ _ _ h => h) (Or.inr ⟨by kernel_rfl, rfl⟩) (by kernel_rfl) ?p12_8x7 hS1 ?_
    case p12_8x7 => (go_simp; try with_reducible rfl)
    refine wpAnyH_takeM (i := 9) (v := undef) (l' := bm 13 1023) (a' := ?a12_9x7) rfl (by kernel_rfl) (by kernel_rfl) (by kernel_rfl) (fun _ _ _ h => h) (Or.inr ⟨by kernel_rfl, rfl⟩) (by kernel_rfl) ?p12_9x7 hS1 ?_
    case p12_9x7 => (go_simp; try with_reducible rfl)
    refine wpAnyH_takeM (i := 10) (v := undef) (l' := bm 13 2047) (a' := ?a12_10x7) rfl (by kernel_rfl) (by kernel_rfl) (by kernel_rfl) (fun _ _ _ h => h) (Or.inr ⟨by kernel_rfl, rfl⟩) (by kernel_rfl) ?p12_10x7 hS1 ?_
    case p12_10x7 => (go_simp; try with_reducible rfl)
    refine wpAnyH_takeM (i := 11) (v := ?v12_11x7) (l' := bm 13 4095) (a' := ?a12_11x7) rfl (by kernel_rfl) (by kernel_rfl) (by kernel_rfl) (fun _ _ _ h => h) (Or.inl ⟨by kernel_rfl, ?h12_11x7⟩) (by kernel_rfl) ?p12_11x7 hS1 ?r12_11x7
    case h12_11x7 => (intro w hS; go_simp; try with_reducible rfl)
    case p12_11x7 => (go_simp; try with_reducible rfl)
    refine wpAnyH_takeM (i := 12) (v := ?v12_12x7) (l' := bm 13 8191) (a' := ?a12_12x7) rfl (by kernel_rfl) (by kernel_rfl) (by kernel_rfl) (fun _ _ _ h => h) (Or.inl ⟨by kernel_rfl, ?h12_12x7⟩) (by kernel_rfl) ?p12_12x7 hS1 ?r12_12x7
    case h12_12x7 => (intro w hS; go_simp; try with_reducible rfl)
    case p12_12x7 => (go_simp; try with_reducible rfl)
    refine wpAnyH_done (by kernel_rfl) ?_ _
    clear hS1
    have hq := (HO.out _ D11.out).2
    clear hq
    go_wp2_with fail
    go_wp2_with fail
    refine wp_region_held (S := (fun w' => Below wc.heap.size wc w' ∧ w'.cell? ⟨gv, 0, none⟩ = some (Value.bool bx.neg) ∧ w'.cell? ⟨gv, 1, none⟩ = some (Value.slice (some ⟨gx, 0, none⟩) bx.ws.length cx) ∧ w'.cell? ⟨gv, 2, none⟩ = some (Value.int IntKind.i64 bx.e) ∧ w'.cell? ⟨gv + 1, 0, none⟩ = some (Value.bool by_.neg) ∧ w'.cell? ⟨gv + 1, 1, none⟩ = some (Value.slice (some ⟨gy, 0, none⟩) by_.ws.length cy) ∧ w'.cell? ⟨gv + 1, 2, none⟩ = some (Value.int IntKind.i64 by_.e))) (by kernel_rfl) ?_
    (try change wpAnyH _ _ _ _ _ _ _ (World.drew _))
    have hS0 := HO.out _ (Below.drew D11.out)
    refine wpAnyH_takeM (i := 0) (v := ?v13_0x7) (l' := bm 13 1) (a' := ?a13_0x7) rfl (by kernel_rfl) (by kernel_rfl) (by kernel_rfl) (fun _ _ _ h => h) (Or.inl ⟨by kernel_rfl, ?h13_0x7⟩) (by kernel_rfl) ?p13_0x7 hS0 ?r13_0x7
    case h13_0x7 => (intro w hS; go_simp; try with_reducible rfl)
    case p13_0x7 => (go_simp; try with_reducible rfl)
    refine wpAnyH_oneM (i := 1) (l' := bm 13 3) rfl (by kernel_rfl) (by kernel_rfl) (by kernel_rfl) (fun K hK => ?_)
    have hP := hS0.1
    go_simp
    go_at_call 20
    refine (N2.out _).mono ?_
    rintro r w12 ⟨rfl, hb⟩
    dsimp only
    have D12 := Lib.hid (below_step hP hb)
    clear hb
    have hS1 := HO.out _ (D12.out)
    clear hP hS0
    refine hK _ _ hS1 ?_
    clear hK K
    refine wpAnyH_takeM (i := 2) (v := ?v13_2x7) (l' := bm 13 7) (a' := ?a13_2x7) rfl (by kernel_rfl) (by kernel_rfl) (by kernel_rfl) (fun _ _ _ h => h) (Or.inl ⟨by kernel_rfl, ?h13_2x7⟩) (by kernel_rfl) ?p13_2x7 hS1 ?r13_2x7
    case h13_2x7 => (intro w hS; go_simp; try with_reducible rfl)
    case p13_2x7 => (go_simp; try with_reducible rfl)
    refine wpAnyH_takeM (i := 3) (v := ?v13_3x7) (l' := bm 13 15) (a' := ?a13_3x7) rfl (by kernel_rfl) (by kernel_rfl) (by kernel_rfl) (fun _ _ _ h => h) (Or.inl ⟨by kernel_rfl, ?h13_3x7⟩) (by kernel_rfl) ?p13_3x7 hS1 ?r13_3x7
    case h13_3x7 => (intro w hS; go_simp; try with_reducible rfl)
    case p13_3x7 => (go_simp; try with_reducible rfl)
    refine wpAnyH_takeM (i := 4) (v := undef) (l' := bm 13 31) (a' := ?a13_4x7) rfl (by kernel_rfl) (by kernel_rfl) (by kernel_rfl) (fun _ _ _ h => h) (Or.inr ⟨by kernel_rfl, rfl⟩) (by kernel_rfl) ?p13_4x7 hS1 ?_
    case p13_4x7 => (go_simp; try with_reducible rfl)
    refine wpAnyH_takeM (i := 5) (v := undef) (l' := bm 13 63) (a' := ?a13_5x7) rfl (by kernel_rfl) (by kernel_rfl) (by kernel_rfl) (fun _ _ _ h => h) (Or.inr ⟨by kernel_rfl, rfl⟩) (by kernel_rfl) ?p13_5x7 hS1 ?_
    case p13_5x7 => (go_simp; try with_reducible rfl)
    refine wpAnyH_takeM (i := 6) (v := undef) (l' := bm 13 127) (a' := ?a13_6x7) rfl (by kernel_rfl) (by kernel_rfl) (by kernel_rfl) (fun _ _ _ h => h) (Or.inr ⟨by kernel_rfl, rfl⟩) (by kernel_rfl) ?p13_6x7 hS1 ?_
    case p13_6x7 => (go_simp; try with_reducible rfl)
    refine wpAnyH_takeM (i := 7) (v := undef) (l' := bm 13 255) (a' := ?a13_7x7) rfl (by kernel_rfl) (by kernel_rfl) (by kernel_rfl) (fun _ _ _ h => h) (Or.inr ⟨by kernel_rfl, rfl⟩) (by kernel_rfl) ?p13_7x7 hS1 ?_
    case p13_7x7 => (go_simp; try with_reducible rfl)
    refine wpAnyH_takeM (i := 8) (v := undef) (l' := bm 13 511) (a' := ?a13_8x7) rfl (by kernel_rfl) (by kernel_rfl) (by kernel_rfl) (fun _ _ _ h => h) (Or.inr ⟨by kernel_rfl, rfl⟩) (by kernel_rfl) ?p13_8x7 hS1 ?_
    case p13_8x7 => (go_simp; try with_reducible rfl)
    refine wpAnyH_takeM (i := 9) (v := undef) (l' := bm 13 1023) (a' := ?a13_9x7) rfl (by kernel_rfl) (by kernel_rfl) (by kernel_rfl) (fun _ _ _ h => h) (Or.inr ⟨by kernel_rfl, rfl⟩) (by kernel_rfl) ?p13_9x7 hS1 ?_
    case p13_9x7 => (go_simp; try with_reducible rfl)
    refine wpAnyH_takeM (i := 10) (v := undef) (l' := bm 13 2047) (a' := ?a13_10x7) rfl (by kernel_rfl) (by kernel_rfl) (by kernel_rfl) (fun _ _ _ h => h) (Or.inr ⟨by kernel_rfl, rfl⟩) (by kernel_rfl) ?p13_10x7 hS1 ?_
    case p13_10x7 => (go_simp; try with_reducible rfl)
    refine wpAnyH_takeM (i := 11) (v := ?v13_11x7) (l' := bm 13 4095) (a' := ?a13_11x7) rfl (by kernel_rfl) (by kernel_rfl) (by kernel_rfl) (fun _ _ _ h => h) (Or.inl ⟨by kernel_rfl, ?h13_11x7⟩) (by kernel_rfl) ?p13_11x7 hS1 ?r13_11x7
    case h13_11x7 => (intro w hS; go_simp; try with_reducible rfl)
    case p13_11x7 => (go_simp; try with_reducible rfl)
    refine wpAnyH_takeM (i := 12) (v := ?v13_12x7) (l' := bm 13 8191) (a' := ?a13_12x7) rfl (by kernel_rfl) (by kernel_rfl) (by kernel_rfl) (fun _ _ _ h => h) (Or.inl ⟨by kernel_rfl, ?h13_12x7⟩) (by kernel_rfl) ?p13_12x7 hS1 ?r13_12x7
    case h13_12x7 => (intro w hS; go_simp; try with_reducible rfl)
    case p13_12x7 => (go_simp; try with_reducible rfl)
    refine wpAnyH_done (by kernel_rfl) ?_ _
    clear hS1
    have hq := (HO.out _ D12.out).2
    clear hq
    go_wp2_with fail
    refine (IF.out _).mono ?_
    rintro r w' ⟨rfl, rfl⟩
    go_wp2_with fail
    refine (IF.out _).mono ?_
    rintro r w' ⟨rfl, rfl⟩
    go_wp2_with fail
    go_ret
    exact ⟨rfl, below_step HB.out D12.out⟩
theorem walk_ratio (a b : Nat) (ha : a < 18446744073709551616) (hb : b < 18446744073709551616) (w : World) : Calls Try.prog 5 #[.float .f64 a, .float .f64 b] w fun r w' => r = .returned (.bool true) ∧ Below w.heap.size w w' := by
  cases fa : fin a
  · exact ratio_n1 a b ha hb fa w
  · cases fb : fin b
    · exact ratio_n2 a b ha hb fa fb w
    · by_cases zb : Z b = 0
      · exact ratio_n3 a b ha hb fa fb zb w
      · cases c1 : fin (divR a b true).1 <;> cases c2 : fin (divR a b false).1 <;> by_cases zn : Z b < 0
        · exact ratio_nnn a b ha hb fa fb zn c1 c2 w
        · exact ratio_pnn a b ha hb fa fb (by omega) c1 c2 w
        · exact ratio_nny a b ha hb fa fb zn c1 c2 w
        · exact ratio_pny a b ha hb fa fb (by omega) c1 c2 w
        · exact ratio_nyn a b ha hb fa fb zn c1 c2 w
        · exact ratio_pyn a b ha hb fa fb (by omega) c1 c2 w
        · exact ratio_nyy a b ha hb fa fb zn c1 c2 w
        · exact ratio_pyy a b ha hb fa fb (by omega) c1 c2 w
end Go.Proofs.Ythkfaacgabkhhaa
