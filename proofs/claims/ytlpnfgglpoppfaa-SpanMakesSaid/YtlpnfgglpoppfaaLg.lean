/- The walk of SpanMakes (gen_lg.py). -/
import Derived.Test.YtlpnfgglpoppfaaGf
import Derived.Test.YtlpnfgglpoppfaaRh
set_option linter.unusedVariables false
set_option linter.unusedSimpArgs false
namespace Go.Proofs.Ytlpnfgglpoppfaa
open Go.RowKit Fl

theorem pi_below (w : World) : Calls Try.prog 27 #[] w fun r w' => r = .returned (.agg #[.float .f64 4614256656552045848, .float .f64 4614256656552045849]) ∧ Below w.heap.size w w' := (pi_any w).mono fun _ _ ⟨h, o, e⟩ => ⟨h, e ▸ below_new w o⟩
theorem rpi_below (w : World) : Calls Try.prog 28 #[] w fun r w' => r = .returned (.agg #[.float .f64 4614256656552045848, .float .f64 4614256656552045849]) ∧ Below w.heap.size w w' := (rpi_any w).mono fun _ _ ⟨h, o, e⟩ => ⟨h, e ▸ below_new w o⟩
set_option maxRecDepth 100000 in
set_option maxHeartbeats 4000000 in
theorem makes_n (x y z : Nat) (hx : x < 18446744073709551616) (hy : y < 18446744073709551616) (hz : z < 18446744073709551616) (g : vdB x y = false) (w : World) : Calls Try.prog 4 #[.float .f64 x, .float .f64 y, .float .f64 z] w fun r w' => r = .returned (.bool true) ∧ Below w.heap.size w w' := by
  have H0 := Lib.hid awake2
  have HV := Lib.hid (fun w => rvalid_any x y hx hy w)
  have PV := Lib.hid (fun w => valid_any x y hx hy w)
  have O1 := Lib.hid (fun w => of_sp x hx w)
  have O2 := Lib.hid (fun w => rof_sp x hx w)
  have Q1 := Lib.hid (fun w => rsame_sp (ofS x) w)
  generalize ofS x = s at *
  have A1 := Lib.hid all_below
  have A2 := Lib.hid rall_below
  have Q2 := Lib.hid (fun w => rsame_any 18442240474082181120 9218868437227405312 w)
  have P1 := Lib.hid (fun w => pi_below w)
  have P2 := Lib.hid (fun w => rpi_below w)
  have Q3 := Lib.hid (fun w => rsame_any 4614256656552045848 4614256656552045849 w)
  rw [g] at HV PV
  clear g hx hy hz
  go_enter Try.func4, Try.ntmps4
  go_wp2_with fail
  obtain ⟨W, hW⟩ : ∃ W, W = w := ⟨_, rfl⟩
  rw [← hW]
  have HB := Lib.hid (hW ▸ Below.refl w.heap.size w : Below w.heap.size w W)
  clear hW
  have HO := Lib.hid (show ∀ w', Below W.heap.size W w' → (Below W.heap.size W w') from fun w' h => h)
  have D0 := Lib.hid (Below.refl W.heap.size W)
  refine (H0.out _).mono ?_
  rintro r w1 ⟨rfl, hb⟩
  have D1 := Lib.hid (below_step D0.out hb)
  clear hb
  obtain ⟨g1, hg1⟩ : ∃ g, w1.heap.size = g := ⟨_, rfl⟩
  obtain ⟨V1, hV⟩ : ∃ V, w1.alloc (.cells #[Value.float FloatKind.f64 x, Value.float FloatKind.f64 y] 24) = V := ⟨_, rfl⟩
  have K0 := Lib.hid (show Blk V1 g1 24 #[Value.float FloatKind.f64 x, Value.float FloatKind.f64 y] by rw [← hV, ← hg1]; exact Blk.new_at _ _ _ rfl)
  have HB' := Lib.hid (hV ▸ below_more (below_step HB.out D1.out) _ : Below w.heap.size w V1)
  clear HB HO 
  have HB := HB'
  clear HB'
  have HO := Lib.hid (show ∀ w', Below V1.heap.size V1 w' → (Below V1.heap.size V1 w' ∧ w'.cell? ⟨g1, 0, none⟩ = some (Value.float FloatKind.f64 x) ∧ w'.cell? ⟨g1, 1, none⟩ = some (Value.float FloatKind.f64 y)) from fun w' h => ⟨h, (K0.out.below h K0.out.lt).cell 0, (K0.out.below h K0.out.lt).cell 1⟩)
  have D2 := Lib.hid (Below.refl V1.heap.size V1)
  have hq2 := (HO.out _ D2.out).2
  go_wp2_with fail
  clear hV hg1
  have hq := hq2
  clear hq2
  refine (HV.out _).mono ?_
  clear hq
  rintro r w3 ⟨rfl, hb⟩
  have D3 := Lib.hid (below_step D2.out hb)
  clear hb
  have hq := (HO.out _ D3.out).2
  go_wp2_with fail
  clear hq
  refine wp_region_held (S := (fun w' => Below V1.heap.size V1 w' ∧ w'.cell? ⟨g1, 0, none⟩ = some (Value.float FloatKind.f64 x) ∧ w'.cell? ⟨g1, 1, none⟩ = some (Value.float FloatKind.f64 y))) (by kernel_rfl) ?_
  (try change wpAnyH _ _ _ _ _ _ _ (World.drew _))
  have hS0 := HO.out _ (Below.drew D3.out)
  refine wpAnyH_takeN (i := 0) (v := ?v5_0) (l' := bm 22 1) (a' := ?a5_0) rfl (by kernel_rfl) (by kernel_rfl) (by kernel_rfl) (fun _ _ _ h => h) (Or.inl ⟨by kernel_rfl, ?h5_0⟩) (by kernel_rfl) ?p5_0 hS0 ?r5_0
  case h5_0 => (intro w hS; go_simp; try with_reducible rfl)
  case p5_0 => (go_simp; try with_reducible rfl)
  refine wpAnyH_takeN (i := 1) (v := ?v5_1) (l' := bm 22 3) (a' := ?a5_1) rfl (by kernel_rfl) (by kernel_rfl) (by kernel_rfl) (fun _ _ _ h => h) (Or.inl ⟨by kernel_rfl, ?h5_1⟩) (by kernel_rfl) ?p5_1 hS0 ?r5_1
  case h5_1 => (intro w hS; go_simp; try with_reducible rfl)
  case p5_1 => (go_simp; try with_reducible rfl)
  refine wpAnyH_takeN (i := 2) (v := undef) (l' := bm 22 7) (a' := ?a5_2) rfl (by kernel_rfl) (by kernel_rfl) (by kernel_rfl) (fun _ _ _ h => h) (Or.inr ⟨by kernel_rfl, rfl⟩) (by kernel_rfl) ?p5_2 hS0 ?_
  case p5_2 => (go_simp; try with_reducible rfl)
  refine wpAnyH_takeN (i := 3) (v := undef) (l' := bm 22 15) (a' := ?a5_3) rfl (by kernel_rfl) (by kernel_rfl) (by kernel_rfl) (fun _ _ _ h => h) (Or.inr ⟨by kernel_rfl, rfl⟩) (by kernel_rfl) ?p5_3 hS0 ?_
  case p5_3 => (go_simp; try with_reducible rfl)
  refine wpAnyH_takeN (i := 4) (v := undef) (l' := bm 22 31) (a' := ?a5_4) rfl (by kernel_rfl) (by kernel_rfl) (by kernel_rfl) (fun _ _ _ h => h) (Or.inr ⟨by kernel_rfl, rfl⟩) (by kernel_rfl) ?p5_4 hS0 ?_
  case p5_4 => (go_simp; try with_reducible rfl)
  refine wpAnyH_takeN (i := 5) (v := undef) (l' := bm 22 63) (a' := ?a5_5) rfl (by kernel_rfl) (by kernel_rfl) (by kernel_rfl) (fun _ _ _ h => h) (Or.inr ⟨by kernel_rfl, rfl⟩) (by kernel_rfl) ?p5_5 hS0 ?_
  case p5_5 => (go_simp; try with_reducible rfl)
  refine wpAnyH_takeN (i := 6) (v := undef) (l' := bm 22 127) (a' := ?a5_6) rfl (by kernel_rfl) (by kernel_rfl) (by kernel_rfl) (fun _ _ _ h => h) (Or.inr ⟨by kernel_rfl, rfl⟩) (by kernel_rfl) ?p5_6 hS0 ?_
  case p5_6 => (go_simp; try with_reducible rfl)
  refine wpAnyH_takeN (i := 7) (v := undef) (l' := bm 22 255) (a' := ?a5_7) rfl (by kernel_rfl) (by kernel_rfl) (by kernel_rfl) (fun _ _ _ h => h) (Or.inr ⟨by kernel_rfl, rfl⟩) (by kernel_rfl) ?p5_7 hS0 ?_
  case p5_7 => (go_simp; try with_reducible rfl)
  refine wpAnyH_takeN (i := 8) (v := undef) (l' := bm 22 511) (a' := ?a5_8) rfl (by kernel_rfl) (by kernel_rfl) (by kernel_rfl) (fun _ _ _ h => h) (Or.inr ⟨by kernel_rfl, rfl⟩) (by kernel_rfl) ?p5_8 hS0 ?_
  case p5_8 => (go_simp; try with_reducible rfl)
  refine wpAnyH_takeN (i := 9) (v := undef) (l' := bm 22 1023) (a' := ?a5_9) rfl (by kernel_rfl) (by kernel_rfl) (by kernel_rfl) (fun _ _ _ h => h) (Or.inr ⟨by kernel_rfl, rfl⟩) (by kernel_rfl) ?p5_9 hS0 ?_
  case p5_9 => (go_simp; try with_reducible rfl)
  refine wpAnyH_takeN (i := 10) (v := undef) (l' := bm 22 2047) (a' := ?a5_10) rfl (by kernel_rfl) (by kernel_rfl) (by kernel_rfl) (fun _ _ _ h => h) (Or.inr ⟨by kernel_rfl, rfl⟩) (by kernel_rfl) ?p5_10 hS0 ?_
  case p5_10 => (go_simp; try with_reducible rfl)
  refine wpAnyH_takeN (i := 11) (v := undef) (l' := bm 22 4095) (a' := ?a5_11) rfl (by kernel_rfl) (by kernel_rfl) (by kernel_rfl) (fun _ _ _ h => h) (Or.inr ⟨by kernel_rfl, rfl⟩) (by kernel_rfl) ?p5_11 hS0 ?_
  case p5_11 => (go_simp; try with_reducible rfl)
  refine wpAnyH_takeN (i := 12) (v := undef) (l' := bm 22 8191) (a' := ?a5_12) rfl (by kernel_rfl) (by kernel_rfl) (by kernel_rfl) (fun _ _ _ h => h) (Or.inr ⟨by kernel_rfl, rfl⟩) (by kernel_rfl) ?p5_12 hS0 ?_
  case p5_12 => (go_simp; try with_reducible rfl)
  refine wpAnyH_takeN (i := 13) (v := undef) (l' := bm 22 16383) (a' := ?a5_13) rfl (by kernel_rfl) (by kernel_rfl) (by kernel_rfl) (fun _ _ _ h => h) (Or.inr ⟨by kernel_rfl, rfl⟩) (by kernel_rfl) ?p5_13 hS0 ?_
  case p5_13 => (go_simp; try with_reducible rfl)
  refine wpAnyH_takeN (i := 14) (v := undef) (l' := bm 22 32767) (a' := ?a5_14) rfl (by kernel_rfl) (by kernel_rfl) (by kernel_rfl) (fun _ _ _ h => h) (Or.inr ⟨by kernel_rfl, rfl⟩) (by kernel_rfl) ?p5_14 hS0 ?_
  case p5_14 => (go_simp; try with_reducible rfl)
  refine wpAnyH_takeN (i := 15) (v := undef) (l' := bm 22 65535) (a' := ?a5_15) rfl (by kernel_rfl) (by kernel_rfl) (by kernel_rfl) (fun _ _ _ h => h) (Or.inr ⟨by kernel_rfl, rfl⟩) (by kernel_rfl) ?p5_15 hS0 ?_
  case p5_15 => (go_simp; try with_reducible rfl)
  refine wpAnyH_takeN (i := 16) (v := undef) (l' := bm 22 131071) (a' := ?a5_16) rfl (by kernel_rfl) (by kernel_rfl) (by kernel_rfl) (fun _ _ _ h => h) (Or.inr ⟨by kernel_rfl, rfl⟩) (by kernel_rfl) ?p5_16 hS0 ?_
  case p5_16 => (go_simp; try with_reducible rfl)
  refine wpAnyH_takeN (i := 17) (v := undef) (l' := bm 22 262143) (a' := ?a5_17) rfl (by kernel_rfl) (by kernel_rfl) (by kernel_rfl) (fun _ _ _ h => h) (Or.inr ⟨by kernel_rfl, rfl⟩) (by kernel_rfl) ?p5_17 hS0 ?_
  case p5_17 => (go_simp; try with_reducible rfl)
  refine wpAnyH_takeN (i := 18) (v := undef) (l' := bm 22 524287) (a' := ?a5_18) rfl (by kernel_rfl) (by kernel_rfl) (by kernel_rfl) (fun _ _ _ h => h) (Or.inr ⟨by kernel_rfl, rfl⟩) (by kernel_rfl) ?p5_18 hS0 ?_
  case p5_18 => (go_simp; try with_reducible rfl)
  refine wpAnyH_takeN (i := 19) (v := undef) (l' := bm 22 1048575) (a' := ?a5_19) rfl (by kernel_rfl) (by kernel_rfl) (by kernel_rfl) (fun _ _ _ h => h) (Or.inr ⟨by kernel_rfl, rfl⟩) (by kernel_rfl) ?p5_19 hS0 ?_
  case p5_19 => (go_simp; try with_reducible rfl)
  refine wpAnyH_takeN (i := 20) (v := undef) (l' := bm 22 2097151) (a' := ?a5_20) rfl (by kernel_rfl) (by kernel_rfl) (by kernel_rfl) (fun _ _ _ h => h) (Or.inr ⟨by kernel_rfl, rfl⟩) (by kernel_rfl) ?p5_20 hS0 ?_
  case p5_20 => (go_simp; try with_reducible rfl)
  refine wpAnyH_takeN (i := 21) (v := ?v5_21) (l' := bm 22 4194303) (a' := ?a5_21) rfl (by kernel_rfl) (by kernel_rfl) (by kernel_rfl) (fun _ _ _ h => h) (Or.inl ⟨by kernel_rfl, ?h5_21⟩) (by kernel_rfl) ?p5_21 hS0 ?r5_21
  case h5_21 => (intro w hS; go_simp; try with_reducible rfl)
  case p5_21 => (go_simp; try with_reducible rfl)
  refine wpAnyH_done (by kernel_rfl) ?_ _
  have D4 := Lib.hid (Below.drew D3.out)
  clear hS0
  have hq := (HO.out _ D4.out).2
  go_wp2_with fail
  refine (O1.out _).mono ?_
  clear hq
  rintro r w5 ⟨rfl, hb⟩
  have D5 := Lib.hid (below_step D4.out hb)
  clear hb
  have hq := (HO.out _ D5.out).2
  go_wp2_with fail
  refine (O2.out _).mono ?_
  clear hq
  rintro r w6 ⟨rfl, hb⟩
  have D6 := Lib.hid (below_step D5.out hb)
  clear hb
  have hq := (HO.out _ D6.out).2
  go_wp2_with fail
  refine (Q1.out _).mono ?_
  clear hq
  rintro r w7 ⟨rfl, hb⟩
  have D7 := Lib.hid (below_step D6.out hb)
  clear hb
  have hq := (HO.out _ D7.out).2
  go_wp2_with fail
  refine (PV.out _).mono ?_
  clear hq
  rintro r w8 ⟨rfl, hb⟩
  have D8 := Lib.hid (below_step D7.out hb)
  clear hb
  have hq := (HO.out _ D8.out).2
  go_wp2_with fail
  refine (A1.out _).mono ?_
  clear hq
  rintro r w9 ⟨rfl, hb⟩
  have D9 := Lib.hid (below_step D8.out hb)
  clear hb
  have hq := (HO.out _ D9.out).2
  go_wp2_with fail
  refine (A2.out _).mono ?_
  clear hq
  rintro r w10 ⟨rfl, hb⟩
  have D10 := Lib.hid (below_step D9.out hb)
  clear hb
  have hq := (HO.out _ D10.out).2
  go_wp2_with fail
  refine (Q2.out _).mono ?_
  clear hq
  rintro r w11 ⟨rfl, hb⟩
  have D11 := Lib.hid (below_step D10.out hb)
  clear hb
  have hq := (HO.out _ D11.out).2
  go_wp2_with fail
  refine (P1.out _).mono ?_
  clear hq
  rintro r w12 ⟨rfl, hb⟩
  have D12 := Lib.hid (below_step D11.out hb)
  clear hb
  have hq := (HO.out _ D12.out).2
  go_wp2_with fail
  refine (P2.out _).mono ?_
  clear hq
  rintro r w13 ⟨rfl, hb⟩
  have D13 := Lib.hid (below_step D12.out hb)
  clear hb
  have hq := (HO.out _ D13.out).2
  go_wp2_with fail
  refine (Q3.out _).mono ?_
  clear hq
  rintro r w14 ⟨rfl, hb⟩
  have D14 := Lib.hid (below_step D13.out hb)
  clear hb
  have hq := (HO.out _ D14.out).2
  go_wp2_with fail
  go_ret
  exact ⟨rfl, below_step HB.out D14.out⟩
set_option maxRecDepth 100000 in
set_option maxHeartbeats 4000000 in
theorem makes_a (x y z : Nat) (hx : x < 18446744073709551616) (hy : y < 18446744073709551616) (hz : z < 18446744073709551616) (g : vdB x y = true) (A : Sp) (hA : A.lo = x) (hB : A.hi = y) (e1 : (FloatKind.f64.format.order x z == some .lt || FloatKind.f64.format.order x z == some .eq) = false)  (w : World) : Calls Try.prog 4 #[.float .f64 x, .float .f64 y, .float .f64 z] w fun r w' => r = .returned (.bool true) ∧ Below w.heap.size w w' := by
  have H0 := Lib.hid awake2
  have HV := Lib.hid (fun w => rvalid_any x y hx hy w)
  have PV := Lib.hid (fun w => valid_any x y hx hy w)
  have O1 := Lib.hid (fun w => of_sp x hx w)
  have O2 := Lib.hid (fun w => rof_sp x hx w)
  have Q1 := Lib.hid (fun w => rsame_sp (ofS x) w)
  generalize ofS x = s at *
  have A1 := Lib.hid all_below
  have A2 := Lib.hid rall_below
  have Q2 := Lib.hid (fun w => rsame_any 18442240474082181120 9218868437227405312 w)
  have P1 := Lib.hid (fun w => pi_below w)
  have P2 := Lib.hid (fun w => rpi_below w)
  have Q3 := Lib.hid (fun w => rsame_any 4614256656552045848 4614256656552045849 w)
  rw [g] at HV PV
  have W1 := Lib.hid (fun w => wide_sp A w)
  have W2 := Lib.hid (fun w => rwide_sp A w)
  have HH := Lib.hid (fun w => has_sp A z w)
  have hh : hasB A z = false := by unfold hasB leF; rw [hA, hB, e1]; rfl
  rw [hh] at HH
  rw [hA, hB] at W1 W2 HH
  clear hh
  generalize A.wide = wd at *
  clear g hx hy hz hA hB
  go_enter Try.func4, Try.ntmps4
  go_wp2_with fail
  obtain ⟨W, hW⟩ : ∃ W, W = w := ⟨_, rfl⟩
  rw [← hW]
  have HB := Lib.hid (hW ▸ Below.refl w.heap.size w : Below w.heap.size w W)
  clear hW
  have HO := Lib.hid (show ∀ w', Below W.heap.size W w' → (Below W.heap.size W w') from fun w' h => h)
  have D0 := Lib.hid (Below.refl W.heap.size W)
  refine (H0.out _).mono ?_
  rintro r w1 ⟨rfl, hb⟩
  have D1 := Lib.hid (below_step D0.out hb)
  clear hb
  obtain ⟨g1, hg1⟩ : ∃ g, w1.heap.size = g := ⟨_, rfl⟩
  obtain ⟨V1, hV⟩ : ∃ V, w1.alloc (.cells #[Value.float FloatKind.f64 x, Value.float FloatKind.f64 y] 24) = V := ⟨_, rfl⟩
  have K0 := Lib.hid (show Blk V1 g1 24 #[Value.float FloatKind.f64 x, Value.float FloatKind.f64 y] by rw [← hV, ← hg1]; exact Blk.new_at _ _ _ rfl)
  have HB' := Lib.hid (hV ▸ below_more (below_step HB.out D1.out) _ : Below w.heap.size w V1)
  clear HB HO 
  have HB := HB'
  clear HB'
  have HO := Lib.hid (show ∀ w', Below V1.heap.size V1 w' → (Below V1.heap.size V1 w' ∧ w'.cell? ⟨g1, 0, none⟩ = some (Value.float FloatKind.f64 x) ∧ w'.cell? ⟨g1, 1, none⟩ = some (Value.float FloatKind.f64 y)) from fun w' h => ⟨h, (K0.out.below h K0.out.lt).cell 0, (K0.out.below h K0.out.lt).cell 1⟩)
  have D2 := Lib.hid (Below.refl V1.heap.size V1)
  have hq2 := (HO.out _ D2.out).2
  go_wp2_with fail
  clear hV hg1
  have hq := hq2
  clear hq2
  refine (HV.out _).mono ?_
  clear hq
  rintro r w3 ⟨rfl, hb⟩
  have D3 := Lib.hid (below_step D2.out hb)
  clear hb
  have hq := (HO.out _ D3.out).2
  go_wp2_with fail
  clear hq
  refine wp_region_held (S := (fun w' => Below V1.heap.size V1 w' ∧ w'.cell? ⟨g1, 0, none⟩ = some (Value.float FloatKind.f64 x) ∧ w'.cell? ⟨g1, 1, none⟩ = some (Value.float FloatKind.f64 y))) (by kernel_rfl) ?_
  (try change wpAnyH _ _ _ _ _ _ _ (World.drew _))
  have hS0 := HO.out _ (Below.drew D3.out)
  refine wpAnyH_takeN (i := 0) (v := ?v5_0) (l' := bm 22 1) (a' := ?a5_0) rfl (by kernel_rfl) (by kernel_rfl) (by kernel_rfl) (fun _ _ _ h => h) (Or.inl ⟨by kernel_rfl, ?h5_0⟩) (by kernel_rfl) ?p5_0 hS0 ?r5_0
  case h5_0 => (intro w hS; go_simp; try with_reducible rfl)
  case p5_0 => (go_simp; try with_reducible rfl)
  refine wpAnyH_takeN (i := 1) (v := ?v5_1) (l' := bm 22 3) (a' := ?a5_1) rfl (by kernel_rfl) (by kernel_rfl) (by kernel_rfl) (fun _ _ _ h => h) (Or.inl ⟨by kernel_rfl, ?h5_1⟩) (by kernel_rfl) ?p5_1 hS0 ?r5_1
  case h5_1 => (intro w hS; go_simp; try with_reducible rfl)
  case p5_1 => (go_simp; try with_reducible rfl)
  refine wpAnyH_takeN (i := 2) (v := ?v5_2) (l' := bm 22 7) (a' := ?a5_2) rfl (by kernel_rfl) (by kernel_rfl) (by kernel_rfl) (fun _ _ _ h => h) (Or.inl ⟨by kernel_rfl, ?h5_2⟩) (by kernel_rfl) ?p5_2 hS0 ?r5_2
  case h5_2 => (intro w hS; go_simp; try with_reducible rfl)
  case p5_2 => (go_simp; try with_reducible rfl)
  refine wpAnyH_takeN (i := 4) (v := ?v5_4) (l' := bm 22 23) (a' := ?a5_4) rfl (by kernel_rfl) (by kernel_rfl) (by kernel_rfl) (fun _ _ _ h => h) (Or.inl ⟨by kernel_rfl, ?h5_4⟩) (by kernel_rfl) ?p5_4 hS0 ?r5_4
  case h5_4 => (intro w hS; go_simp; try with_reducible rfl)
  case p5_4 => (go_simp; try with_reducible rfl)
  refine wpAnyH_oneN (i := 3) (l' := bm 22 31) rfl (by kernel_rfl) (by kernel_rfl) (by kernel_rfl) (fun K hK => ?_)
  have hP := hS0.1
  go_simp
  go_at_call 19
  refine (W1.out _).mono ?_
  rintro r w4 ⟨rfl, hb⟩
  dsimp only
  have D4 := Lib.hid (below_step hP hb)
  clear hb
  have hS1 := HO.out _ (D4.out)
  clear hP hS0
  refine hK _ _ hS1 ?_
  clear hK K
  refine wpAnyH_oneN (i := 5) (l' := bm 22 63) rfl (by kernel_rfl) (by kernel_rfl) (by kernel_rfl) (fun K hK => ?_)
  have hP := hS1.1
  go_simp
  go_at_call 20
  refine (W2.out _).mono ?_
  rintro r w5 ⟨rfl, hb⟩
  dsimp only
  have D5 := Lib.hid (below_step hP hb)
  clear hb
  have hS2 := HO.out _ (D5.out)
  clear hP hS1
  refine hK _ _ hS2 ?_
  clear hK K
  refine wpAnyH_takeN (i := 6) (v := ?v5_6) (l' := bm 22 127) (a' := ?a5_6) rfl (by kernel_rfl) (by kernel_rfl) (by kernel_rfl) (fun _ _ _ h => h) (Or.inl ⟨by kernel_rfl, ?h5_6⟩) (by kernel_rfl) ?p5_6 hS2 ?r5_6
  case h5_6 => (intro w hS; go_simp; try with_reducible rfl)
  case p5_6 => (go_simp; try with_reducible rfl)
  refine wpAnyH_takeN (i := 7) (v := ?v5_7) (l' := bm 22 255) (a' := ?a5_7) rfl (by kernel_rfl) (by kernel_rfl) (by kernel_rfl) (fun _ _ _ h => h) (Or.inl ⟨by kernel_rfl, ?h5_7⟩) (by kernel_rfl) ?p5_7 hS2 ?r5_7
  case h5_7 => (intro w hS; go_simp; try with_reducible rfl)
  case p5_7 => (go_simp; try with_reducible rfl)
  refine wpAnyH_takeN (i := 8) (v := ?v5_8) (l' := bm 22 511) (a' := ?a5_8) rfl (by kernel_rfl) (by kernel_rfl) (by kernel_rfl) (fun _ _ _ h => h) (Or.inl ⟨by kernel_rfl, ?h5_8⟩) (by kernel_rfl) ?p5_8 hS2 ?r5_8
  case h5_8 => (intro w hS; go_simp; try with_reducible rfl)
  case p5_8 => (go_simp; try with_reducible rfl)
  refine wpAnyH_takeN (i := 9) (v := ?v5_9) (l' := bm 22 1023) (a' := ?a5_9) rfl (by kernel_rfl) (by kernel_rfl) (by kernel_rfl) (fun _ _ _ h => h) (Or.inl ⟨by kernel_rfl, ?h5_9⟩) (by kernel_rfl) ?p5_9 hS2 ?r5_9
  case h5_9 => (intro w hS; go_simp; try with_reducible rfl)
  case p5_9 => (go_simp; try with_reducible rfl)
  refine wpAnyH_takeN (i := 11) (v := ?v5_11) (l' := bm 22 3071) (a' := ?a5_11) rfl (by kernel_rfl) (by kernel_rfl) (by kernel_rfl) (fun _ _ _ h => h) (Or.inl ⟨by kernel_rfl, ?h5_11⟩) (by kernel_rfl) ?p5_11 hS2 ?r5_11
  case h5_11 => (intro w hS; go_simp; try with_reducible rfl)
  case p5_11 => (go_simp; try with_reducible rfl)
  refine wpAnyH_takeN (i := 12) (v := ?v5_12) (l' := bm 22 7167) (a' := ?a5_12) rfl (by kernel_rfl) (by kernel_rfl) (by kernel_rfl) (fun _ _ _ h => h) (Or.inl ⟨by kernel_rfl, ?h5_12⟩) (by kernel_rfl) ?p5_12 hS2 ?r5_12
  case h5_12 => (intro w hS; go_simp; try with_reducible rfl)
  case p5_12 => (go_simp; try with_reducible rfl)
  refine wpAnyH_takeN (i := 13) (v := ?v5_13) (l' := bm 22 15359) (a' := ?a5_13) rfl (by kernel_rfl) (by kernel_rfl) (by kernel_rfl) (fun _ _ _ h => h) (Or.inl ⟨by kernel_rfl, ?h5_13⟩) (by kernel_rfl) ?p5_13 hS2 ?r5_13
  case h5_13 => (intro w hS; go_simp; try with_reducible rfl)
  case p5_13 => (go_simp; try with_reducible rfl)
  refine wpAnyH_oneN (i := 10) (l' := bm 22 16383) rfl (by kernel_rfl) (by kernel_rfl) (by kernel_rfl) (fun K hK => ?_)
  have hP := hS2.1
  go_simp
  go_at_call 18
  refine (HH.out _).mono ?_
  rintro r w6 ⟨rfl, hb⟩
  dsimp only
  have D6 := Lib.hid (below_step hP hb)
  clear hb
  have hS3 := HO.out _ (D6.out)
  clear hP hS2
  refine hK _ _ hS3 ?_
  clear hK K
  refine wpAnyH_takeN (i := 14) (v := ?v5_14) (l' := bm 22 32767) (a' := ?a5_14) rfl (by kernel_rfl) (by kernel_rfl) (by kernel_rfl) (fun _ _ _ h => h) (Or.inl ⟨by kernel_rfl, ?h5_14⟩) (by kernel_rfl) ?p5_14 hS3 ?r5_14
  case h5_14 => (intro w hS; go_simp; try with_reducible rfl)
  case p5_14 => (go_simp; try with_reducible rfl)
  refine wpAnyH_takeN (i := 15) (v := undef) (l' := bm 22 65535) (a' := ?a5_15) rfl (by kernel_rfl) (by kernel_rfl) (by kernel_rfl) (fun _ _ _ h => h) (Or.inr ⟨by kernel_rfl, rfl⟩) (by kernel_rfl) ?p5_15 hS3 ?_
  case p5_15 => (go_simp; try with_reducible rfl)
  refine wpAnyH_takeN (i := 16) (v := undef) (l' := bm 22 131071) (a' := ?a5_16) rfl (by kernel_rfl) (by kernel_rfl) (by kernel_rfl) (fun _ _ _ h => h) (Or.inr ⟨by kernel_rfl, rfl⟩) (by kernel_rfl) ?p5_16 hS3 ?_
  case p5_16 => (go_simp; try with_reducible rfl)
  refine wpAnyH_takeN (i := 17) (v := undef) (l' := bm 22 262143) (a' := ?a5_17) rfl (by kernel_rfl) (by kernel_rfl) (by kernel_rfl) (fun _ _ _ h => h) (Or.inr ⟨by kernel_rfl, rfl⟩) (by kernel_rfl) ?p5_17 hS3 ?_
  case p5_17 => (go_simp; try with_reducible rfl)
  refine wpAnyH_takeN (i := 18) (v := ?v5_18) (l' := bm 22 524287) (a' := ?a5_18) rfl (by kernel_rfl) (by kernel_rfl) (by kernel_rfl) (fun _ _ _ h => h) (Or.inl ⟨by kernel_rfl, ?h5_18⟩) (by kernel_rfl) ?p5_18 hS3 ?r5_18
  case h5_18 => (intro w hS; go_simp; try with_reducible rfl)
  case p5_18 => (go_simp; try with_reducible rfl)
  refine wpAnyH_takeN (i := 19) (v := ?v5_19) (l' := bm 22 1048575) (a' := ?a5_19) rfl (by kernel_rfl) (by kernel_rfl) (by kernel_rfl) (fun _ _ _ h => h) (Or.inl ⟨by kernel_rfl, ?h5_19⟩) (by kernel_rfl) ?p5_19 hS3 ?r5_19
  case h5_19 => (intro w hS; go_simp; try with_reducible rfl)
  case p5_19 => (go_simp; try with_reducible rfl)
  refine wpAnyH_takeN (i := 20) (v := ?v5_20) (l' := bm 22 2097151) (a' := ?a5_20) rfl (by kernel_rfl) (by kernel_rfl) (by kernel_rfl) (fun _ _ _ h => h) (Or.inl ⟨by kernel_rfl, ?h5_20⟩) (by kernel_rfl) ?p5_20 hS3 ?r5_20
  case h5_20 => (intro w hS; go_simp; try with_reducible rfl)
  case p5_20 => (go_simp; try with_reducible rfl)
  refine wpAnyH_takeN (i := 21) (v := ?v5_21) (l' := bm 22 4194303) (a' := ?a5_21) rfl (by kernel_rfl) (by kernel_rfl) (by kernel_rfl) (fun _ _ _ h => h) (Or.inl ⟨by kernel_rfl, ?h5_21⟩) (by kernel_rfl) ?p5_21 hS3 ?r5_21
  case h5_21 => (intro w hS; go_simp; try with_reducible rfl)
  case p5_21 => (go_simp; try with_reducible rfl)
  refine wpAnyH_done (by kernel_rfl) ?_ _
  clear hS3
  have hq := (HO.out _ D6.out).2
  go_wp2_with fail
  refine (O1.out _).mono ?_
  clear hq
  rintro r w7 ⟨rfl, hb⟩
  have D7 := Lib.hid (below_step D6.out hb)
  clear hb
  have hq := (HO.out _ D7.out).2
  go_wp2_with fail
  refine (O2.out _).mono ?_
  clear hq
  rintro r w8 ⟨rfl, hb⟩
  have D8 := Lib.hid (below_step D7.out hb)
  clear hb
  have hq := (HO.out _ D8.out).2
  go_wp2_with fail
  refine (Q1.out _).mono ?_
  clear hq
  rintro r w9 ⟨rfl, hb⟩
  have D9 := Lib.hid (below_step D8.out hb)
  clear hb
  have hq := (HO.out _ D9.out).2
  go_wp2_with fail
  refine (PV.out _).mono ?_
  clear hq
  rintro r w10 ⟨rfl, hb⟩
  have D10 := Lib.hid (below_step D9.out hb)
  clear hb
  have hq := (HO.out _ D10.out).2
  go_wp2_with fail
  refine (A1.out _).mono ?_
  clear hq
  rintro r w11 ⟨rfl, hb⟩
  have D11 := Lib.hid (below_step D10.out hb)
  clear hb
  have hq := (HO.out _ D11.out).2
  go_wp2_with fail
  refine (A2.out _).mono ?_
  clear hq
  rintro r w12 ⟨rfl, hb⟩
  have D12 := Lib.hid (below_step D11.out hb)
  clear hb
  have hq := (HO.out _ D12.out).2
  go_wp2_with fail
  refine (Q2.out _).mono ?_
  clear hq
  rintro r w13 ⟨rfl, hb⟩
  have D13 := Lib.hid (below_step D12.out hb)
  clear hb
  have hq := (HO.out _ D13.out).2
  go_wp2_with fail
  refine (P1.out _).mono ?_
  clear hq
  rintro r w14 ⟨rfl, hb⟩
  have D14 := Lib.hid (below_step D13.out hb)
  clear hb
  have hq := (HO.out _ D14.out).2
  go_wp2_with fail
  refine (P2.out _).mono ?_
  clear hq
  rintro r w15 ⟨rfl, hb⟩
  have D15 := Lib.hid (below_step D14.out hb)
  clear hb
  have hq := (HO.out _ D15.out).2
  go_wp2_with fail
  refine (Q3.out _).mono ?_
  clear hq
  rintro r w16 ⟨rfl, hb⟩
  have D16 := Lib.hid (below_step D15.out hb)
  clear hb
  have hq := (HO.out _ D16.out).2
  go_wp2_with fail
  go_ret
  exact ⟨rfl, below_step HB.out D16.out⟩
set_option maxRecDepth 100000 in
set_option maxHeartbeats 4000000 in
theorem makes_b (x y z : Nat) (hx : x < 18446744073709551616) (hy : y < 18446744073709551616) (hz : z < 18446744073709551616) (g : vdB x y = true) (A : Sp) (hA : A.lo = x) (hB : A.hi = y) (e1 : (FloatKind.f64.format.order x z == some .lt || FloatKind.f64.format.order x z == some .eq) = true) (e2 : (FloatKind.f64.format.order z y == some .lt || FloatKind.f64.format.order z y == some .eq) = false) (w : World) : Calls Try.prog 4 #[.float .f64 x, .float .f64 y, .float .f64 z] w fun r w' => r = .returned (.bool true) ∧ Below w.heap.size w w' := by
  have H0 := Lib.hid awake2
  have HV := Lib.hid (fun w => rvalid_any x y hx hy w)
  have PV := Lib.hid (fun w => valid_any x y hx hy w)
  have O1 := Lib.hid (fun w => of_sp x hx w)
  have O2 := Lib.hid (fun w => rof_sp x hx w)
  have Q1 := Lib.hid (fun w => rsame_sp (ofS x) w)
  generalize ofS x = s at *
  have A1 := Lib.hid all_below
  have A2 := Lib.hid rall_below
  have Q2 := Lib.hid (fun w => rsame_any 18442240474082181120 9218868437227405312 w)
  have P1 := Lib.hid (fun w => pi_below w)
  have P2 := Lib.hid (fun w => rpi_below w)
  have Q3 := Lib.hid (fun w => rsame_any 4614256656552045848 4614256656552045849 w)
  rw [g] at HV PV
  have W1 := Lib.hid (fun w => wide_sp A w)
  have W2 := Lib.hid (fun w => rwide_sp A w)
  have HH := Lib.hid (fun w => has_sp A z w)
  have hh : hasB A z = false := by unfold hasB leF; rw [hA, hB, e1, e2]; rfl
  rw [hh] at HH
  rw [hA, hB] at W1 W2 HH
  clear hh
  generalize A.wide = wd at *
  clear g hx hy hz hA hB
  go_enter Try.func4, Try.ntmps4
  go_wp2_with fail
  obtain ⟨W, hW⟩ : ∃ W, W = w := ⟨_, rfl⟩
  rw [← hW]
  have HB := Lib.hid (hW ▸ Below.refl w.heap.size w : Below w.heap.size w W)
  clear hW
  have HO := Lib.hid (show ∀ w', Below W.heap.size W w' → (Below W.heap.size W w') from fun w' h => h)
  have D0 := Lib.hid (Below.refl W.heap.size W)
  refine (H0.out _).mono ?_
  rintro r w1 ⟨rfl, hb⟩
  have D1 := Lib.hid (below_step D0.out hb)
  clear hb
  obtain ⟨g1, hg1⟩ : ∃ g, w1.heap.size = g := ⟨_, rfl⟩
  obtain ⟨V1, hV⟩ : ∃ V, w1.alloc (.cells #[Value.float FloatKind.f64 x, Value.float FloatKind.f64 y] 24) = V := ⟨_, rfl⟩
  have K0 := Lib.hid (show Blk V1 g1 24 #[Value.float FloatKind.f64 x, Value.float FloatKind.f64 y] by rw [← hV, ← hg1]; exact Blk.new_at _ _ _ rfl)
  have HB' := Lib.hid (hV ▸ below_more (below_step HB.out D1.out) _ : Below w.heap.size w V1)
  clear HB HO 
  have HB := HB'
  clear HB'
  have HO := Lib.hid (show ∀ w', Below V1.heap.size V1 w' → (Below V1.heap.size V1 w' ∧ w'.cell? ⟨g1, 0, none⟩ = some (Value.float FloatKind.f64 x) ∧ w'.cell? ⟨g1, 1, none⟩ = some (Value.float FloatKind.f64 y)) from fun w' h => ⟨h, (K0.out.below h K0.out.lt).cell 0, (K0.out.below h K0.out.lt).cell 1⟩)
  have D2 := Lib.hid (Below.refl V1.heap.size V1)
  have hq2 := (HO.out _ D2.out).2
  go_wp2_with fail
  clear hV hg1
  have hq := hq2
  clear hq2
  refine (HV.out _).mono ?_
  clear hq
  rintro r w3 ⟨rfl, hb⟩
  have D3 := Lib.hid (below_step D2.out hb)
  clear hb
  have hq := (HO.out _ D3.out).2
  go_wp2_with fail
  clear hq
  refine wp_region_held (S := (fun w' => Below V1.heap.size V1 w' ∧ w'.cell? ⟨g1, 0, none⟩ = some (Value.float FloatKind.f64 x) ∧ w'.cell? ⟨g1, 1, none⟩ = some (Value.float FloatKind.f64 y))) (by kernel_rfl) ?_
  (try change wpAnyH _ _ _ _ _ _ _ (World.drew _))
  have hS0 := HO.out _ (Below.drew D3.out)
  refine wpAnyH_takeN (i := 0) (v := ?v5_0) (l' := bm 22 1) (a' := ?a5_0) rfl (by kernel_rfl) (by kernel_rfl) (by kernel_rfl) (fun _ _ _ h => h) (Or.inl ⟨by kernel_rfl, ?h5_0⟩) (by kernel_rfl) ?p5_0 hS0 ?r5_0
  case h5_0 => (intro w hS; go_simp; try with_reducible rfl)
  case p5_0 => (go_simp; try with_reducible rfl)
  refine wpAnyH_takeN (i := 1) (v := ?v5_1) (l' := bm 22 3) (a' := ?a5_1) rfl (by kernel_rfl) (by kernel_rfl) (by kernel_rfl) (fun _ _ _ h => h) (Or.inl ⟨by kernel_rfl, ?h5_1⟩) (by kernel_rfl) ?p5_1 hS0 ?r5_1
  case h5_1 => (intro w hS; go_simp; try with_reducible rfl)
  case p5_1 => (go_simp; try with_reducible rfl)
  refine wpAnyH_takeN (i := 2) (v := ?v5_2) (l' := bm 22 7) (a' := ?a5_2) rfl (by kernel_rfl) (by kernel_rfl) (by kernel_rfl) (fun _ _ _ h => h) (Or.inl ⟨by kernel_rfl, ?h5_2⟩) (by kernel_rfl) ?p5_2 hS0 ?r5_2
  case h5_2 => (intro w hS; go_simp; try with_reducible rfl)
  case p5_2 => (go_simp; try with_reducible rfl)
  refine wpAnyH_takeN (i := 4) (v := ?v5_4) (l' := bm 22 23) (a' := ?a5_4) rfl (by kernel_rfl) (by kernel_rfl) (by kernel_rfl) (fun _ _ _ h => h) (Or.inl ⟨by kernel_rfl, ?h5_4⟩) (by kernel_rfl) ?p5_4 hS0 ?r5_4
  case h5_4 => (intro w hS; go_simp; try with_reducible rfl)
  case p5_4 => (go_simp; try with_reducible rfl)
  refine wpAnyH_oneN (i := 3) (l' := bm 22 31) rfl (by kernel_rfl) (by kernel_rfl) (by kernel_rfl) (fun K hK => ?_)
  have hP := hS0.1
  go_simp
  go_at_call 19
  refine (W1.out _).mono ?_
  rintro r w4 ⟨rfl, hb⟩
  dsimp only
  have D4 := Lib.hid (below_step hP hb)
  clear hb
  have hS1 := HO.out _ (D4.out)
  clear hP hS0
  refine hK _ _ hS1 ?_
  clear hK K
  refine wpAnyH_oneN (i := 5) (l' := bm 22 63) rfl (by kernel_rfl) (by kernel_rfl) (by kernel_rfl) (fun K hK => ?_)
  have hP := hS1.1
  go_simp
  go_at_call 20
  refine (W2.out _).mono ?_
  rintro r w5 ⟨rfl, hb⟩
  dsimp only
  have D5 := Lib.hid (below_step hP hb)
  clear hb
  have hS2 := HO.out _ (D5.out)
  clear hP hS1
  refine hK _ _ hS2 ?_
  clear hK K
  refine wpAnyH_takeN (i := 6) (v := ?v5_6) (l' := bm 22 127) (a' := ?a5_6) rfl (by kernel_rfl) (by kernel_rfl) (by kernel_rfl) (fun _ _ _ h => h) (Or.inl ⟨by kernel_rfl, ?h5_6⟩) (by kernel_rfl) ?p5_6 hS2 ?r5_6
  case h5_6 => (intro w hS; go_simp; try with_reducible rfl)
  case p5_6 => (go_simp; try with_reducible rfl)
  refine wpAnyH_takeN (i := 7) (v := ?v5_7) (l' := bm 22 255) (a' := ?a5_7) rfl (by kernel_rfl) (by kernel_rfl) (by kernel_rfl) (fun _ _ _ h => h) (Or.inl ⟨by kernel_rfl, ?h5_7⟩) (by kernel_rfl) ?p5_7 hS2 ?r5_7
  case h5_7 => (intro w hS; go_simp; try with_reducible rfl)
  case p5_7 => (go_simp; try with_reducible rfl)
  refine wpAnyH_takeN (i := 8) (v := ?v5_8) (l' := bm 22 511) (a' := ?a5_8) rfl (by kernel_rfl) (by kernel_rfl) (by kernel_rfl) (fun _ _ _ h => h) (Or.inl ⟨by kernel_rfl, ?h5_8⟩) (by kernel_rfl) ?p5_8 hS2 ?r5_8
  case h5_8 => (intro w hS; go_simp; try with_reducible rfl)
  case p5_8 => (go_simp; try with_reducible rfl)
  refine wpAnyH_takeN (i := 9) (v := ?v5_9) (l' := bm 22 1023) (a' := ?a5_9) rfl (by kernel_rfl) (by kernel_rfl) (by kernel_rfl) (fun _ _ _ h => h) (Or.inl ⟨by kernel_rfl, ?h5_9⟩) (by kernel_rfl) ?p5_9 hS2 ?r5_9
  case h5_9 => (intro w hS; go_simp; try with_reducible rfl)
  case p5_9 => (go_simp; try with_reducible rfl)
  refine wpAnyH_takeN (i := 11) (v := ?v5_11) (l' := bm 22 3071) (a' := ?a5_11) rfl (by kernel_rfl) (by kernel_rfl) (by kernel_rfl) (fun _ _ _ h => h) (Or.inl ⟨by kernel_rfl, ?h5_11⟩) (by kernel_rfl) ?p5_11 hS2 ?r5_11
  case h5_11 => (intro w hS; go_simp; try with_reducible rfl)
  case p5_11 => (go_simp; try with_reducible rfl)
  refine wpAnyH_takeN (i := 12) (v := ?v5_12) (l' := bm 22 7167) (a' := ?a5_12) rfl (by kernel_rfl) (by kernel_rfl) (by kernel_rfl) (fun _ _ _ h => h) (Or.inl ⟨by kernel_rfl, ?h5_12⟩) (by kernel_rfl) ?p5_12 hS2 ?r5_12
  case h5_12 => (intro w hS; go_simp; try with_reducible rfl)
  case p5_12 => (go_simp; try with_reducible rfl)
  refine wpAnyH_takeN (i := 13) (v := ?v5_13) (l' := bm 22 15359) (a' := ?a5_13) rfl (by kernel_rfl) (by kernel_rfl) (by kernel_rfl) (fun _ _ _ h => h) (Or.inl ⟨by kernel_rfl, ?h5_13⟩) (by kernel_rfl) ?p5_13 hS2 ?r5_13
  case h5_13 => (intro w hS; go_simp; try with_reducible rfl)
  case p5_13 => (go_simp; try with_reducible rfl)
  refine wpAnyH_oneN (i := 10) (l' := bm 22 16383) rfl (by kernel_rfl) (by kernel_rfl) (by kernel_rfl) (fun K hK => ?_)
  have hP := hS2.1
  go_simp
  go_at_call 18
  refine (HH.out _).mono ?_
  rintro r w6 ⟨rfl, hb⟩
  dsimp only
  have D6 := Lib.hid (below_step hP hb)
  clear hb
  have hS3 := HO.out _ (D6.out)
  clear hP hS2
  refine hK _ _ hS3 ?_
  clear hK K
  refine wpAnyH_takeN (i := 14) (v := ?v5_14) (l' := bm 22 32767) (a' := ?a5_14) rfl (by kernel_rfl) (by kernel_rfl) (by kernel_rfl) (fun _ _ _ h => h) (Or.inl ⟨by kernel_rfl, ?h5_14⟩) (by kernel_rfl) ?p5_14 hS3 ?r5_14
  case h5_14 => (intro w hS; go_simp; try with_reducible rfl)
  case p5_14 => (go_simp; try with_reducible rfl)
  refine wpAnyH_takeN (i := 15) (v := ?v5_15) (l' := bm 22 65535) (a' := ?a5_15) rfl (by kernel_rfl) (by kernel_rfl) (by kernel_rfl) (fun _ _ _ h => h) (Or.inl ⟨by kernel_rfl, ?h5_15⟩) (by kernel_rfl) ?p5_15 hS3 ?r5_15
  case h5_15 => (intro w hS; go_simp; try with_reducible rfl)
  case p5_15 => (go_simp; try with_reducible rfl)
  refine wpAnyH_takeN (i := 16) (v := ?v5_16) (l' := bm 22 131071) (a' := ?a5_16) rfl (by kernel_rfl) (by kernel_rfl) (by kernel_rfl) (fun _ _ _ h => h) (Or.inl ⟨by kernel_rfl, ?h5_16⟩) (by kernel_rfl) ?p5_16 hS3 ?r5_16
  case h5_16 => (intro w hS; go_simp; try with_reducible rfl)
  case p5_16 => (go_simp; try with_reducible rfl)
  refine wpAnyH_takeN (i := 17) (v := ?v5_17) (l' := bm 22 262143) (a' := ?a5_17) rfl (by kernel_rfl) (by kernel_rfl) (by kernel_rfl) (fun _ _ _ h => h) (Or.inl ⟨by kernel_rfl, ?h5_17⟩) (by kernel_rfl) ?p5_17 hS3 ?r5_17
  case h5_17 => (intro w hS; go_simp; try with_reducible rfl)
  case p5_17 => (go_simp; try with_reducible rfl)
  refine wpAnyH_takeN (i := 18) (v := ?v5_18) (l' := bm 22 524287) (a' := ?a5_18) rfl (by kernel_rfl) (by kernel_rfl) (by kernel_rfl) (fun _ _ _ h => h) (Or.inl ⟨by kernel_rfl, ?h5_18⟩) (by kernel_rfl) ?p5_18 hS3 ?r5_18
  case h5_18 => (intro w hS; go_simp; try with_reducible rfl)
  case p5_18 => (go_simp; try with_reducible rfl)
  refine wpAnyH_takeN (i := 19) (v := ?v5_19) (l' := bm 22 1048575) (a' := ?a5_19) rfl (by kernel_rfl) (by kernel_rfl) (by kernel_rfl) (fun _ _ _ h => h) (Or.inl ⟨by kernel_rfl, ?h5_19⟩) (by kernel_rfl) ?p5_19 hS3 ?r5_19
  case h5_19 => (intro w hS; go_simp; try with_reducible rfl)
  case p5_19 => (go_simp; try with_reducible rfl)
  refine wpAnyH_takeN (i := 20) (v := ?v5_20) (l' := bm 22 2097151) (a' := ?a5_20) rfl (by kernel_rfl) (by kernel_rfl) (by kernel_rfl) (fun _ _ _ h => h) (Or.inl ⟨by kernel_rfl, ?h5_20⟩) (by kernel_rfl) ?p5_20 hS3 ?r5_20
  case h5_20 => (intro w hS; go_simp; try with_reducible rfl)
  case p5_20 => (go_simp; try with_reducible rfl)
  refine wpAnyH_takeN (i := 21) (v := ?v5_21) (l' := bm 22 4194303) (a' := ?a5_21) rfl (by kernel_rfl) (by kernel_rfl) (by kernel_rfl) (fun _ _ _ h => h) (Or.inl ⟨by kernel_rfl, ?h5_21⟩) (by kernel_rfl) ?p5_21 hS3 ?r5_21
  case h5_21 => (intro w hS; go_simp; try with_reducible rfl)
  case p5_21 => (go_simp; try with_reducible rfl)
  refine wpAnyH_done (by kernel_rfl) ?_ _
  clear hS3
  have hq := (HO.out _ D6.out).2
  go_wp2_with fail
  refine (O1.out _).mono ?_
  clear hq
  rintro r w7 ⟨rfl, hb⟩
  have D7 := Lib.hid (below_step D6.out hb)
  clear hb
  have hq := (HO.out _ D7.out).2
  go_wp2_with fail
  refine (O2.out _).mono ?_
  clear hq
  rintro r w8 ⟨rfl, hb⟩
  have D8 := Lib.hid (below_step D7.out hb)
  clear hb
  have hq := (HO.out _ D8.out).2
  go_wp2_with fail
  refine (Q1.out _).mono ?_
  clear hq
  rintro r w9 ⟨rfl, hb⟩
  have D9 := Lib.hid (below_step D8.out hb)
  clear hb
  have hq := (HO.out _ D9.out).2
  go_wp2_with fail
  refine (PV.out _).mono ?_
  clear hq
  rintro r w10 ⟨rfl, hb⟩
  have D10 := Lib.hid (below_step D9.out hb)
  clear hb
  have hq := (HO.out _ D10.out).2
  go_wp2_with fail
  refine (A1.out _).mono ?_
  clear hq
  rintro r w11 ⟨rfl, hb⟩
  have D11 := Lib.hid (below_step D10.out hb)
  clear hb
  have hq := (HO.out _ D11.out).2
  go_wp2_with fail
  refine (A2.out _).mono ?_
  clear hq
  rintro r w12 ⟨rfl, hb⟩
  have D12 := Lib.hid (below_step D11.out hb)
  clear hb
  have hq := (HO.out _ D12.out).2
  go_wp2_with fail
  refine (Q2.out _).mono ?_
  clear hq
  rintro r w13 ⟨rfl, hb⟩
  have D13 := Lib.hid (below_step D12.out hb)
  clear hb
  have hq := (HO.out _ D13.out).2
  go_wp2_with fail
  refine (P1.out _).mono ?_
  clear hq
  rintro r w14 ⟨rfl, hb⟩
  have D14 := Lib.hid (below_step D13.out hb)
  clear hb
  have hq := (HO.out _ D14.out).2
  go_wp2_with fail
  refine (P2.out _).mono ?_
  clear hq
  rintro r w15 ⟨rfl, hb⟩
  have D15 := Lib.hid (below_step D14.out hb)
  clear hb
  have hq := (HO.out _ D15.out).2
  go_wp2_with fail
  refine (Q3.out _).mono ?_
  clear hq
  rintro r w16 ⟨rfl, hb⟩
  have D16 := Lib.hid (below_step D15.out hb)
  clear hb
  have hq := (HO.out _ D16.out).2
  go_wp2_with fail
  go_ret
  exact ⟨rfl, below_step HB.out D16.out⟩
set_option maxRecDepth 100000 in
set_option maxHeartbeats 4000000 in
theorem makes_c (x y z : Nat) (hx : x < 18446744073709551616) (hy : y < 18446744073709551616) (hz : z < 18446744073709551616) (g : vdB x y = true) (A : Sp) (hA : A.lo = x) (hB : A.hi = y) (e1 : (FloatKind.f64.format.order x z == some .lt || FloatKind.f64.format.order x z == some .eq) = true) (e2 : (FloatKind.f64.format.order z y == some .lt || FloatKind.f64.format.order z y == some .eq) = true) (w : World) : Calls Try.prog 4 #[.float .f64 x, .float .f64 y, .float .f64 z] w fun r w' => r = .returned (.bool true) ∧ Below w.heap.size w w' := by
  have H0 := Lib.hid awake2
  have HV := Lib.hid (fun w => rvalid_any x y hx hy w)
  have PV := Lib.hid (fun w => valid_any x y hx hy w)
  have O1 := Lib.hid (fun w => of_sp x hx w)
  have O2 := Lib.hid (fun w => rof_sp x hx w)
  have Q1 := Lib.hid (fun w => rsame_sp (ofS x) w)
  generalize ofS x = s at *
  have A1 := Lib.hid all_below
  have A2 := Lib.hid rall_below
  have Q2 := Lib.hid (fun w => rsame_any 18442240474082181120 9218868437227405312 w)
  have P1 := Lib.hid (fun w => pi_below w)
  have P2 := Lib.hid (fun w => rpi_below w)
  have Q3 := Lib.hid (fun w => rsame_any 4614256656552045848 4614256656552045849 w)
  rw [g] at HV PV
  have W1 := Lib.hid (fun w => wide_sp A w)
  have W2 := Lib.hid (fun w => rwide_sp A w)
  have HH := Lib.hid (fun w => has_sp A z w)
  have hh : hasB A z = true := by unfold hasB leF; rw [hA, hB, e1, e2]; rfl
  rw [hh] at HH
  rw [hA, hB] at W1 W2 HH
  clear hh
  generalize A.wide = wd at *
  clear g hx hy hz hA hB
  go_enter Try.func4, Try.ntmps4
  go_wp2_with fail
  obtain ⟨W, hW⟩ : ∃ W, W = w := ⟨_, rfl⟩
  rw [← hW]
  have HB := Lib.hid (hW ▸ Below.refl w.heap.size w : Below w.heap.size w W)
  clear hW
  have HO := Lib.hid (show ∀ w', Below W.heap.size W w' → (Below W.heap.size W w') from fun w' h => h)
  have D0 := Lib.hid (Below.refl W.heap.size W)
  refine (H0.out _).mono ?_
  rintro r w1 ⟨rfl, hb⟩
  have D1 := Lib.hid (below_step D0.out hb)
  clear hb
  obtain ⟨g1, hg1⟩ : ∃ g, w1.heap.size = g := ⟨_, rfl⟩
  obtain ⟨V1, hV⟩ : ∃ V, w1.alloc (.cells #[Value.float FloatKind.f64 x, Value.float FloatKind.f64 y] 24) = V := ⟨_, rfl⟩
  have K0 := Lib.hid (show Blk V1 g1 24 #[Value.float FloatKind.f64 x, Value.float FloatKind.f64 y] by rw [← hV, ← hg1]; exact Blk.new_at _ _ _ rfl)
  have HB' := Lib.hid (hV ▸ below_more (below_step HB.out D1.out) _ : Below w.heap.size w V1)
  clear HB HO 
  have HB := HB'
  clear HB'
  have HO := Lib.hid (show ∀ w', Below V1.heap.size V1 w' → (Below V1.heap.size V1 w' ∧ w'.cell? ⟨g1, 0, none⟩ = some (Value.float FloatKind.f64 x) ∧ w'.cell? ⟨g1, 1, none⟩ = some (Value.float FloatKind.f64 y)) from fun w' h => ⟨h, (K0.out.below h K0.out.lt).cell 0, (K0.out.below h K0.out.lt).cell 1⟩)
  have D2 := Lib.hid (Below.refl V1.heap.size V1)
  have hq2 := (HO.out _ D2.out).2
  go_wp2_with fail
  clear hV hg1
  have hq := hq2
  clear hq2
  refine (HV.out _).mono ?_
  clear hq
  rintro r w3 ⟨rfl, hb⟩
  have D3 := Lib.hid (below_step D2.out hb)
  clear hb
  have hq := (HO.out _ D3.out).2
  go_wp2_with fail
  clear hq
  refine wp_region_held (S := (fun w' => Below V1.heap.size V1 w' ∧ w'.cell? ⟨g1, 0, none⟩ = some (Value.float FloatKind.f64 x) ∧ w'.cell? ⟨g1, 1, none⟩ = some (Value.float FloatKind.f64 y))) (by kernel_rfl) ?_
  (try change wpAnyH _ _ _ _ _ _ _ (World.drew _))
  have hS0 := HO.out _ (Below.drew D3.out)
  refine wpAnyH_takeN (i := 0) (v := ?v5_0) (l' := bm 22 1) (a' := ?a5_0) rfl (by kernel_rfl) (by kernel_rfl) (by kernel_rfl) (fun _ _ _ h => h) (Or.inl ⟨by kernel_rfl, ?h5_0⟩) (by kernel_rfl) ?p5_0 hS0 ?r5_0
  case h5_0 => (intro w hS; go_simp; try with_reducible rfl)
  case p5_0 => (go_simp; try with_reducible rfl)
  refine wpAnyH_takeN (i := 1) (v := ?v5_1) (l' := bm 22 3) (a' := ?a5_1) rfl (by kernel_rfl) (by kernel_rfl) (by kernel_rfl) (fun _ _ _ h => h) (Or.inl ⟨by kernel_rfl, ?h5_1⟩) (by kernel_rfl) ?p5_1 hS0 ?r5_1
  case h5_1 => (intro w hS; go_simp; try with_reducible rfl)
  case p5_1 => (go_simp; try with_reducible rfl)
  refine wpAnyH_takeN (i := 2) (v := ?v5_2) (l' := bm 22 7) (a' := ?a5_2) rfl (by kernel_rfl) (by kernel_rfl) (by kernel_rfl) (fun _ _ _ h => h) (Or.inl ⟨by kernel_rfl, ?h5_2⟩) (by kernel_rfl) ?p5_2 hS0 ?r5_2
  case h5_2 => (intro w hS; go_simp; try with_reducible rfl)
  case p5_2 => (go_simp; try with_reducible rfl)
  refine wpAnyH_takeN (i := 4) (v := ?v5_4) (l' := bm 22 23) (a' := ?a5_4) rfl (by kernel_rfl) (by kernel_rfl) (by kernel_rfl) (fun _ _ _ h => h) (Or.inl ⟨by kernel_rfl, ?h5_4⟩) (by kernel_rfl) ?p5_4 hS0 ?r5_4
  case h5_4 => (intro w hS; go_simp; try with_reducible rfl)
  case p5_4 => (go_simp; try with_reducible rfl)
  refine wpAnyH_oneN (i := 3) (l' := bm 22 31) rfl (by kernel_rfl) (by kernel_rfl) (by kernel_rfl) (fun K hK => ?_)
  have hP := hS0.1
  go_simp
  go_at_call 19
  refine (W1.out _).mono ?_
  rintro r w4 ⟨rfl, hb⟩
  dsimp only
  have D4 := Lib.hid (below_step hP hb)
  clear hb
  have hS1 := HO.out _ (D4.out)
  clear hP hS0
  refine hK _ _ hS1 ?_
  clear hK K
  refine wpAnyH_oneN (i := 5) (l' := bm 22 63) rfl (by kernel_rfl) (by kernel_rfl) (by kernel_rfl) (fun K hK => ?_)
  have hP := hS1.1
  go_simp
  go_at_call 20
  refine (W2.out _).mono ?_
  rintro r w5 ⟨rfl, hb⟩
  dsimp only
  have D5 := Lib.hid (below_step hP hb)
  clear hb
  have hS2 := HO.out _ (D5.out)
  clear hP hS1
  refine hK _ _ hS2 ?_
  clear hK K
  refine wpAnyH_takeN (i := 6) (v := ?v5_6) (l' := bm 22 127) (a' := ?a5_6) rfl (by kernel_rfl) (by kernel_rfl) (by kernel_rfl) (fun _ _ _ h => h) (Or.inl ⟨by kernel_rfl, ?h5_6⟩) (by kernel_rfl) ?p5_6 hS2 ?r5_6
  case h5_6 => (intro w hS; go_simp; try with_reducible rfl)
  case p5_6 => (go_simp; try with_reducible rfl)
  refine wpAnyH_takeN (i := 7) (v := ?v5_7) (l' := bm 22 255) (a' := ?a5_7) rfl (by kernel_rfl) (by kernel_rfl) (by kernel_rfl) (fun _ _ _ h => h) (Or.inl ⟨by kernel_rfl, ?h5_7⟩) (by kernel_rfl) ?p5_7 hS2 ?r5_7
  case h5_7 => (intro w hS; go_simp; try with_reducible rfl)
  case p5_7 => (go_simp; try with_reducible rfl)
  refine wpAnyH_takeN (i := 8) (v := ?v5_8) (l' := bm 22 511) (a' := ?a5_8) rfl (by kernel_rfl) (by kernel_rfl) (by kernel_rfl) (fun _ _ _ h => h) (Or.inl ⟨by kernel_rfl, ?h5_8⟩) (by kernel_rfl) ?p5_8 hS2 ?r5_8
  case h5_8 => (intro w hS; go_simp; try with_reducible rfl)
  case p5_8 => (go_simp; try with_reducible rfl)
  refine wpAnyH_takeN (i := 9) (v := ?v5_9) (l' := bm 22 1023) (a' := ?a5_9) rfl (by kernel_rfl) (by kernel_rfl) (by kernel_rfl) (fun _ _ _ h => h) (Or.inl ⟨by kernel_rfl, ?h5_9⟩) (by kernel_rfl) ?p5_9 hS2 ?r5_9
  case h5_9 => (intro w hS; go_simp; try with_reducible rfl)
  case p5_9 => (go_simp; try with_reducible rfl)
  refine wpAnyH_takeN (i := 11) (v := ?v5_11) (l' := bm 22 3071) (a' := ?a5_11) rfl (by kernel_rfl) (by kernel_rfl) (by kernel_rfl) (fun _ _ _ h => h) (Or.inl ⟨by kernel_rfl, ?h5_11⟩) (by kernel_rfl) ?p5_11 hS2 ?r5_11
  case h5_11 => (intro w hS; go_simp; try with_reducible rfl)
  case p5_11 => (go_simp; try with_reducible rfl)
  refine wpAnyH_takeN (i := 12) (v := ?v5_12) (l' := bm 22 7167) (a' := ?a5_12) rfl (by kernel_rfl) (by kernel_rfl) (by kernel_rfl) (fun _ _ _ h => h) (Or.inl ⟨by kernel_rfl, ?h5_12⟩) (by kernel_rfl) ?p5_12 hS2 ?r5_12
  case h5_12 => (intro w hS; go_simp; try with_reducible rfl)
  case p5_12 => (go_simp; try with_reducible rfl)
  refine wpAnyH_takeN (i := 13) (v := ?v5_13) (l' := bm 22 15359) (a' := ?a5_13) rfl (by kernel_rfl) (by kernel_rfl) (by kernel_rfl) (fun _ _ _ h => h) (Or.inl ⟨by kernel_rfl, ?h5_13⟩) (by kernel_rfl) ?p5_13 hS2 ?r5_13
  case h5_13 => (intro w hS; go_simp; try with_reducible rfl)
  case p5_13 => (go_simp; try with_reducible rfl)
  refine wpAnyH_oneN (i := 10) (l' := bm 22 16383) rfl (by kernel_rfl) (by kernel_rfl) (by kernel_rfl) (fun K hK => ?_)
  have hP := hS2.1
  go_simp
  go_at_call 18
  refine (HH.out _).mono ?_
  rintro r w6 ⟨rfl, hb⟩
  dsimp only
  have D6 := Lib.hid (below_step hP hb)
  clear hb
  have hS3 := HO.out _ (D6.out)
  clear hP hS2
  refine hK _ _ hS3 ?_
  clear hK K
  refine wpAnyH_takeN (i := 14) (v := ?v5_14) (l' := bm 22 32767) (a' := ?a5_14) rfl (by kernel_rfl) (by kernel_rfl) (by kernel_rfl) (fun _ _ _ h => h) (Or.inl ⟨by kernel_rfl, ?h5_14⟩) (by kernel_rfl) ?p5_14 hS3 ?r5_14
  case h5_14 => (intro w hS; go_simp; try with_reducible rfl)
  case p5_14 => (go_simp; try with_reducible rfl)
  refine wpAnyH_takeN (i := 15) (v := ?v5_15) (l' := bm 22 65535) (a' := ?a5_15) rfl (by kernel_rfl) (by kernel_rfl) (by kernel_rfl) (fun _ _ _ h => h) (Or.inl ⟨by kernel_rfl, ?h5_15⟩) (by kernel_rfl) ?p5_15 hS3 ?r5_15
  case h5_15 => (intro w hS; go_simp; try with_reducible rfl)
  case p5_15 => (go_simp; try with_reducible rfl)
  refine wpAnyH_takeN (i := 16) (v := ?v5_16) (l' := bm 22 131071) (a' := ?a5_16) rfl (by kernel_rfl) (by kernel_rfl) (by kernel_rfl) (fun _ _ _ h => h) (Or.inl ⟨by kernel_rfl, ?h5_16⟩) (by kernel_rfl) ?p5_16 hS3 ?r5_16
  case h5_16 => (intro w hS; go_simp; try with_reducible rfl)
  case p5_16 => (go_simp; try with_reducible rfl)
  refine wpAnyH_takeN (i := 17) (v := ?v5_17) (l' := bm 22 262143) (a' := ?a5_17) rfl (by kernel_rfl) (by kernel_rfl) (by kernel_rfl) (fun _ _ _ h => h) (Or.inl ⟨by kernel_rfl, ?h5_17⟩) (by kernel_rfl) ?p5_17 hS3 ?r5_17
  case h5_17 => (intro w hS; go_simp; try with_reducible rfl)
  case p5_17 => (go_simp; try with_reducible rfl)
  refine wpAnyH_takeN (i := 18) (v := ?v5_18) (l' := bm 22 524287) (a' := ?a5_18) rfl (by kernel_rfl) (by kernel_rfl) (by kernel_rfl) (fun _ _ _ h => h) (Or.inl ⟨by kernel_rfl, ?h5_18⟩) (by kernel_rfl) ?p5_18 hS3 ?r5_18
  case h5_18 => (intro w hS; go_simp; try with_reducible rfl)
  case p5_18 => (go_simp; try with_reducible rfl)
  refine wpAnyH_takeN (i := 19) (v := ?v5_19) (l' := bm 22 1048575) (a' := ?a5_19) rfl (by kernel_rfl) (by kernel_rfl) (by kernel_rfl) (fun _ _ _ h => h) (Or.inl ⟨by kernel_rfl, ?h5_19⟩) (by kernel_rfl) ?p5_19 hS3 ?r5_19
  case h5_19 => (intro w hS; go_simp; try with_reducible rfl)
  case p5_19 => (go_simp; try with_reducible rfl)
  refine wpAnyH_takeN (i := 20) (v := ?v5_20) (l' := bm 22 2097151) (a' := ?a5_20) rfl (by kernel_rfl) (by kernel_rfl) (by kernel_rfl) (fun _ _ _ h => h) (Or.inl ⟨by kernel_rfl, ?h5_20⟩) (by kernel_rfl) ?p5_20 hS3 ?r5_20
  case h5_20 => (intro w hS; go_simp; try with_reducible rfl)
  case p5_20 => (go_simp; try with_reducible rfl)
  refine wpAnyH_takeN (i := 21) (v := ?v5_21) (l' := bm 22 4194303) (a' := ?a5_21) rfl (by kernel_rfl) (by kernel_rfl) (by kernel_rfl) (fun _ _ _ h => h) (Or.inl ⟨by kernel_rfl, ?h5_21⟩) (by kernel_rfl) ?p5_21 hS3 ?r5_21
  case h5_21 => (intro w hS; go_simp; try with_reducible rfl)
  case p5_21 => (go_simp; try with_reducible rfl)
  refine wpAnyH_done (by kernel_rfl) ?_ _
  clear hS3
  have hq := (HO.out _ D6.out).2
  go_wp2_with fail
  refine (O1.out _).mono ?_
  clear hq
  rintro r w7 ⟨rfl, hb⟩
  have D7 := Lib.hid (below_step D6.out hb)
  clear hb
  have hq := (HO.out _ D7.out).2
  go_wp2_with fail
  refine (O2.out _).mono ?_
  clear hq
  rintro r w8 ⟨rfl, hb⟩
  have D8 := Lib.hid (below_step D7.out hb)
  clear hb
  have hq := (HO.out _ D8.out).2
  go_wp2_with fail
  refine (Q1.out _).mono ?_
  clear hq
  rintro r w9 ⟨rfl, hb⟩
  have D9 := Lib.hid (below_step D8.out hb)
  clear hb
  have hq := (HO.out _ D9.out).2
  go_wp2_with fail
  refine (PV.out _).mono ?_
  clear hq
  rintro r w10 ⟨rfl, hb⟩
  have D10 := Lib.hid (below_step D9.out hb)
  clear hb
  have hq := (HO.out _ D10.out).2
  go_wp2_with fail
  refine (A1.out _).mono ?_
  clear hq
  rintro r w11 ⟨rfl, hb⟩
  have D11 := Lib.hid (below_step D10.out hb)
  clear hb
  have hq := (HO.out _ D11.out).2
  go_wp2_with fail
  refine (A2.out _).mono ?_
  clear hq
  rintro r w12 ⟨rfl, hb⟩
  have D12 := Lib.hid (below_step D11.out hb)
  clear hb
  have hq := (HO.out _ D12.out).2
  go_wp2_with fail
  refine (Q2.out _).mono ?_
  clear hq
  rintro r w13 ⟨rfl, hb⟩
  have D13 := Lib.hid (below_step D12.out hb)
  clear hb
  have hq := (HO.out _ D13.out).2
  go_wp2_with fail
  refine (P1.out _).mono ?_
  clear hq
  rintro r w14 ⟨rfl, hb⟩
  have D14 := Lib.hid (below_step D13.out hb)
  clear hb
  have hq := (HO.out _ D14.out).2
  go_wp2_with fail
  refine (P2.out _).mono ?_
  clear hq
  rintro r w15 ⟨rfl, hb⟩
  have D15 := Lib.hid (below_step D14.out hb)
  clear hb
  have hq := (HO.out _ D15.out).2
  go_wp2_with fail
  refine (Q3.out _).mono ?_
  clear hq
  rintro r w16 ⟨rfl, hb⟩
  have D16 := Lib.hid (below_step D15.out hb)
  clear hb
  have hq := (HO.out _ D16.out).2
  go_wp2_with fail
  go_ret
  exact ⟨rfl, below_step HB.out D16.out⟩
theorem walk_makes (x y z : Nat) (hx : x < 18446744073709551616) (hy : y < 18446744073709551616) (hz : z < 18446744073709551616) (w : World) : Calls Try.prog 4 #[.float .f64 x, .float .f64 y, .float .f64 z] w fun r w' => r = .returned (.bool true) ∧ Below w.heap.size w w' := by
  cases g : vdB x y
  · exact makes_n x y z hx hy hz g w
  · cases e1 : (FloatKind.f64.format.order x z == some .lt || FloatKind.f64.format.order x z == some .eq)
    · exact makes_a x y z hx hy hz g ⟨x, y, vdB_true hx hy g⟩ rfl rfl e1 w
    · cases e2 : (FloatKind.f64.format.order z y == some .lt || FloatKind.f64.format.order z y == some .eq)
      · exact makes_b x y z hx hy hz g ⟨x, y, vdB_true hx hy g⟩ rfl rfl e1 e2 w
      · exact makes_c x y z hx hy hz g ⟨x, y, vdB_true hx hy g⟩ rfl rfl e1 e2 w
end Go.Proofs.Ytlpnfgglpoppfaa
