/- The walk of SpanHolds (gen_lm.py). -/
import Derived.Test.YtlpnfgglpoppfaaSq
import Derived.Test.YtlpnfgglpoppfaaBl
import Derived.Test.YtlpnfgglpoppfaaGd
import Derived.Test.YtlpnfgglpoppfaaGh
set_option linter.unusedVariables false
set_option linter.unusedSimpArgs false
namespace Go.Proofs.Ytlpnfgglpoppfaa
open Go.RowKit Fl

set_option maxRecDepth 100000 in
theorem holds_n1 (a b c d s t : Nat) (ha : a < 18446744073709551616) (hb : b < 18446744073709551616) (hc : c < 18446744073709551616) (hd : d < 18446744073709551616) (h1 : vdB a b = false) (w : World) : Calls Try.prog 7 #[.agg #[.float .f64 a, .float .f64 b], .agg #[.float .f64 c, .float .f64 d], .float .f64 s, .float .f64 t] w fun r w' => r = .returned (.bool true) ∧ Below w.heap.size w w' := by
  have H0 := Lib.hid awake2
  have H1 := Lib.hid (fun w => rvalid_any a b ha hb w)
  have H2 := Lib.hid (fun w => rvalid_any c d hc hd w)
  rw [h1] at H1
  go_enter Try.func7, Try.ntmps7
  go_wp2_with fail
  obtain ⟨W, hW, K0, K1, hB, hz⟩ := bx2 w 24 24 #[Value.float FloatKind.f64 a, Value.float FloatKind.f64 b] #[Value.float FloatKind.f64 c, Value.float FloatKind.f64 d]
  rw [← hW]
  have K0 := Lib.hid K0
  have K1 := Lib.hid K1
  have HB := Lib.hid hB
  clear hW hB hz
  have HO := Lib.hid (show ∀ w', Below W.heap.size W w' → (Below W.heap.size W w' ∧ w'.cell? ⟨w.heap.size, 0, none⟩ = some (Value.float FloatKind.f64 a) ∧ w'.cell? ⟨w.heap.size, 1, none⟩ = some (Value.float FloatKind.f64 b) ∧ w'.cell? ⟨w.heap.size + 1, 0, none⟩ = some (Value.float FloatKind.f64 c) ∧ w'.cell? ⟨w.heap.size + 1, 1, none⟩ = some (Value.float FloatKind.f64 d)) from fun w' h => ⟨h, (K0.out.below h K0.out.lt).cell 0, (K0.out.below h K0.out.lt).cell 1, (K1.out.below h K1.out.lt).cell 0, (K1.out.below h K1.out.lt).cell 1⟩)
  have D0 := Lib.hid (Below.refl W.heap.size W)
  refine (H0.out _).mono ?_
  rintro r w1 ⟨rfl, hb⟩
  have D1 := Lib.hid (below_step D0.out hb)
  clear hb
  have hq := (HO.out _ D1.out).2
  go_wp2_with fail
  refine (H1.out _).mono ?_
  clear hq
  rintro r w2 ⟨rfl, hb⟩
  have D2 := Lib.hid (below_step D1.out hb)
  clear hb
  have hq := (HO.out _ D2.out).2
  go_wp2_with fail
  go_ret
  exact ⟨rfl, below_step HB.out D2.out⟩
set_option maxRecDepth 100000 in
theorem holds_n2 (a b c d s t : Nat) (ha : a < 18446744073709551616) (hb : b < 18446744073709551616) (hc : c < 18446744073709551616) (hd : d < 18446744073709551616) (h1 : vdB a b = true) (h2 : vdB c d = false) (w : World) : Calls Try.prog 7 #[.agg #[.float .f64 a, .float .f64 b], .agg #[.float .f64 c, .float .f64 d], .float .f64 s, .float .f64 t] w fun r w' => r = .returned (.bool true) ∧ Below w.heap.size w w' := by
  have H0 := Lib.hid awake2
  have H1 := Lib.hid (fun w => rvalid_any a b ha hb w)
  have H2 := Lib.hid (fun w => rvalid_any c d hc hd w)
  rw [h1] at H1
  rw [h2] at H2
  go_enter Try.func7, Try.ntmps7
  go_wp2_with fail
  obtain ⟨W, hW, K0, K1, hB, hz⟩ := bx2 w 24 24 #[Value.float FloatKind.f64 a, Value.float FloatKind.f64 b] #[Value.float FloatKind.f64 c, Value.float FloatKind.f64 d]
  rw [← hW]
  have K0 := Lib.hid K0
  have K1 := Lib.hid K1
  have HB := Lib.hid hB
  clear hW hB hz
  have HO := Lib.hid (show ∀ w', Below W.heap.size W w' → (Below W.heap.size W w' ∧ w'.cell? ⟨w.heap.size, 0, none⟩ = some (Value.float FloatKind.f64 a) ∧ w'.cell? ⟨w.heap.size, 1, none⟩ = some (Value.float FloatKind.f64 b) ∧ w'.cell? ⟨w.heap.size + 1, 0, none⟩ = some (Value.float FloatKind.f64 c) ∧ w'.cell? ⟨w.heap.size + 1, 1, none⟩ = some (Value.float FloatKind.f64 d)) from fun w' h => ⟨h, (K0.out.below h K0.out.lt).cell 0, (K0.out.below h K0.out.lt).cell 1, (K1.out.below h K1.out.lt).cell 0, (K1.out.below h K1.out.lt).cell 1⟩)
  have D0 := Lib.hid (Below.refl W.heap.size W)
  refine (H0.out _).mono ?_
  rintro r w1 ⟨rfl, hb⟩
  have D1 := Lib.hid (below_step D0.out hb)
  clear hb
  have hq := (HO.out _ D1.out).2
  go_wp2_with fail
  refine (H1.out _).mono ?_
  clear hq
  rintro r w2 ⟨rfl, hb⟩
  have D2 := Lib.hid (below_step D1.out hb)
  clear hb
  have hq := (HO.out _ D2.out).2
  go_wp2_with fail
  refine (H2.out _).mono ?_
  clear hq
  rintro r w3 ⟨rfl, hb⟩
  have D3 := Lib.hid (below_step D2.out hb)
  clear hb
  have hq := (HO.out _ D3.out).2
  go_wp2_with fail
  go_ret
  exact ⟨rfl, below_step HB.out D3.out⟩
set_option maxRecDepth 100000 in
set_option maxHeartbeats 8000000 in
theorem holds_y (A B : Sp) (s t : Nat) (hs : s < 18446744073709551616) (ht : t < 18446744073709551616) (w : World) : Calls Try.prog 7 #[.agg #[.float .f64 A.lo, .float .f64 A.hi], .agg #[.float .f64 B.lo, .float .f64 B.hi], .float .f64 s, .float .f64 t] w fun r w' => r = .returned (.bool true) ∧ Below w.heap.size w w' := by
  have H0 := Lib.hid awake2
  have HV := Lib.hid (fun w => rvalid_any A.lo A.hi A.vd.l.lt A.vd.h.lt w)
  have HW := Lib.hid (fun w => rvalid_any B.lo B.hi B.vd.l.lt B.vd.h.lt w)
  rw [vdB_of A.vd] at HV
  rw [vdB_of B.vd] at HW
  have I1 := Lib.hid (fun w => inner_sp A s hs w)
  have I2 := Lib.hid (fun w => inner_sp B t ht w)
  have CA := Lib.hid (fun w => add_sp A B w)
  have CS := Lib.hid (fun w => sub_sp A B w)
  have CM := Lib.hid (fun w => mul_sp A B w)
  have CQ := Lib.hid (fun w => sqr_sp A w)
  have GA := Lib.hid (fun x y (h : InS x A) (k : InS y B) => in_add h k)
  have GS := Lib.hid (fun x y (h : InS x A) (k : InS y B) => in_sub h k)
  have GM := Lib.hid (fun x y (h : InS x A) (k : InS y B) => in_mul h k)
  have GQ := Lib.hid (fun x (h : InS x A) => in_sqr h)
  generalize addS A B = sa at *
  generalize subS A B = sb at *
  generalize mulS A B = sm at *
  generalize sqrS A = sq at *
  clear hs ht
  go_enter Try.func7, Try.ntmps7
  go_wp2_with fail
  obtain ⟨W, hW, K0, K1, hB, hz⟩ := by2 w 24 24 #[Value.float FloatKind.f64 A.lo, Value.float FloatKind.f64 A.hi] #[Value.float FloatKind.f64 B.lo, Value.float FloatKind.f64 B.hi]
  rw [← hW]
  have K0 := Lib.hid K0
  have K1 := Lib.hid K1
  have HB := Lib.hid hB
  clear hW hB hz
  have HO := Lib.hid (show ∀ w', Below W.heap.size W w' → (Below W.heap.size W w' ∧ w'.cell? ⟨w.heap.size, 0, none⟩ = some (Value.float FloatKind.f64 A.lo) ∧ w'.cell? ⟨w.heap.size, 1, none⟩ = some (Value.float FloatKind.f64 A.hi) ∧ w'.cell? ⟨w.heap.size + 1, 0, none⟩ = some (Value.float FloatKind.f64 B.lo) ∧ w'.cell? ⟨w.heap.size + 1, 1, none⟩ = some (Value.float FloatKind.f64 B.hi)) from fun w' h => ⟨h, (K0.out.below h K0.out.lt).cell 0, (K0.out.below h K0.out.lt).cell 1, (K1.out.below h K1.out.lt).cell 0, (K1.out.below h K1.out.lt).cell 1⟩)
  have D0 := Lib.hid (Below.refl W.heap.size W)
  refine (H0.out _).mono ?_
  rintro r w1 ⟨rfl, hb⟩
  have D1 := Lib.hid (below_step D0.out hb)
  clear hb
  have hq := (HO.out _ D1.out).2
  go_wp2_with fail
  refine (HV.out _).mono ?_
  clear hq
  rintro r w2 ⟨rfl, hb⟩
  have D2 := Lib.hid (below_step D1.out hb)
  clear hb
  have hq := (HO.out _ D2.out).2
  go_wp2_with fail
  refine (HW.out _).mono ?_
  clear hq
  rintro r w3 ⟨rfl, hb⟩
  have D3 := Lib.hid (below_step D2.out hb)
  clear hb
  have hq := (HO.out _ D3.out).2
  go_wp2_with fail
  clear hq
  refine wp_region_held (S := (fun w' => Below W.heap.size W w' ∧ w'.cell? ⟨w.heap.size, 0, none⟩ = some (Value.float FloatKind.f64 A.lo) ∧ w'.cell? ⟨w.heap.size, 1, none⟩ = some (Value.float FloatKind.f64 A.hi) ∧ w'.cell? ⟨w.heap.size + 1, 0, none⟩ = some (Value.float FloatKind.f64 B.lo) ∧ w'.cell? ⟨w.heap.size + 1, 1, none⟩ = some (Value.float FloatKind.f64 B.hi))) (by kernel_rfl) ?_
  (try change wpAnyH _ _ _ _ _ _ _ (World.drew _))
  have hS0 := HO.out _ (Below.drew D3.out)
  refine wpAnyH_takeM (i := 0) (v := ?v5_0) (l' := bm 8 1) (a' := ?a5_0) rfl (by kernel_rfl) (by kernel_rfl) (by kernel_rfl) (fun _ _ _ h => h) (Or.inl ⟨by kernel_rfl, ?h5_0⟩) (by kernel_rfl) ?p5_0 hS0 ?r5_0
  case h5_0 => (intro w hS; go_simp; try with_reducible rfl)
  case p5_0 => (go_simp; try with_reducible rfl)
  refine wpAnyH_takeM (i := 1) (v := ?v5_1) (l' := bm 8 3) (a' := ?a5_1) rfl (by kernel_rfl) (by kernel_rfl) (by kernel_rfl) (fun _ _ _ h => h) (Or.inl ⟨by kernel_rfl, ?h5_1⟩) (by kernel_rfl) ?p5_1 hS0 ?r5_1
  case h5_1 => (intro w hS; go_simp; try with_reducible rfl)
  case p5_1 => (go_simp; try with_reducible rfl)
  refine wpAnyH_takeM (i := 3) (v := ?v5_3) (l' := bm 8 11) (a' := ?a5_3) rfl (by kernel_rfl) (by kernel_rfl) (by kernel_rfl) (fun _ _ _ h => h) (Or.inl ⟨by kernel_rfl, ?h5_3⟩) (by kernel_rfl) ?p5_3 hS0 ?r5_3
  case h5_3 => (intro w hS; go_simp; try with_reducible rfl)
  case p5_3 => (go_simp; try with_reducible rfl)
  refine wpAnyH_takeM (i := 4) (v := ?v5_4) (l' := bm 8 27) (a' := ?a5_4) rfl (by kernel_rfl) (by kernel_rfl) (by kernel_rfl) (fun _ _ _ h => h) (Or.inl ⟨by kernel_rfl, ?h5_4⟩) (by kernel_rfl) ?p5_4 hS0 ?r5_4
  case h5_4 => (intro w hS; go_simp; try with_reducible rfl)
  case p5_4 => (go_simp; try with_reducible rfl)
  refine wpAnyH_oneM (i := 2) (l' := bm 8 31) rfl (by kernel_rfl) (by kernel_rfl) (by kernel_rfl) (fun K hK => ?_)
  have hP := hS0.1
  go_simp
  go_at_call 29
  refine (I1.out _).mono ?_
  rintro r w4 ⟨p, hp', rfl, hb⟩
  dsimp only
  have D4 := Lib.hid (below_step hP hb)
  clear hb
  have hS1 := HO.out _ (D4.out)
  clear hP hS0
  refine hK _ _ hS1 ?_
  clear hK K
  refine wpAnyH_oneM (i := 5) (l' := bm 8 63) rfl (by kernel_rfl) (by kernel_rfl) (by kernel_rfl) (fun K hK => ?_)
  have hP := hS1.1
  go_simp
  go_at_call 29
  refine (I2.out _).mono ?_
  rintro r w5 ⟨q, hi', rfl, hb⟩
  dsimp only
  have D5 := Lib.hid (below_step hP hb)
  clear hb
  have hS2 := HO.out _ (D5.out)
  clear hP hS1
  refine hK _ _ hS2 ?_
  clear hK K
  refine wpAnyH_takeM (i := 6) (v := ?v5_6) (l' := bm 8 127) (a' := ?a5_6) rfl (by kernel_rfl) (by kernel_rfl) (by kernel_rfl) (fun _ _ _ h => h) (Or.inl ⟨by kernel_rfl, ?h5_6⟩) (by kernel_rfl) ?p5_6 hS2 ?r5_6
  case h5_6 => (intro w hS; go_simp; try with_reducible rfl)
  case p5_6 => (go_simp; try with_reducible rfl)
  refine wpAnyH_takeM (i := 7) (v := ?v5_7) (l' := bm 8 255) (a' := ?a5_7) rfl (by kernel_rfl) (by kernel_rfl) (by kernel_rfl) (fun _ _ _ h => h) (Or.inl ⟨by kernel_rfl, ?h5_7⟩) (by kernel_rfl) ?p5_7 hS2 ?r5_7
  case h5_7 => (intro w hS; go_simp; try with_reducible rfl)
  case p5_7 => (go_simp; try with_reducible rfl)
  refine wpAnyH_done (by kernel_rfl) ?_ _
  clear hS2
  have hq := (HO.out _ D5.out).2
  have N1 := Lib.hid (fun w => rnum_good p hp'.lt hp'.fin w)
  have N2 := Lib.hid (fun w => rnum_good q hi'.lt hi'.fin w)
  have O1 := Lib.hid (fun w => of_rp hp'.lt hp'.fin w)
  have O2 := Lib.hid (fun w => of_rp hi'.lt hi'.fin w)
  have JP := Lib.hid hp'.ins
  have JQ := Lib.hid hi'.ins
  clear hp' hi'
  generalize fv p = xp at *
  generalize fv q = xq at *
  go_wp2_with fail
  refine (N1.out _).mono ?_
  rintro r w' ⟨rfl, rfl⟩
  go_wp2_with fail
  refine (N2.out _).mono ?_
  rintro r w' ⟨rfl, rfl⟩
  go_wp2_with fail
  refine (O1.out _).mono ?_
  clear hq
  rintro r w6 ⟨bx, gx, cx, rfl, hrx, hpx, hb⟩
  have D6 := Lib.hid (below_step D5.out hb)
  clear hb
  have hq := (HO.out _ D6.out).2
  have HRX := Lib.hid hrx
  have HPX := Lib.hid hpx
  clear hrx hpx
  go_wp2_with fail
  refine (O2.out _).mono ?_
  clear hq
  rintro r w7 ⟨by_, gy, cy, rfl, hry, hpy, hb⟩
  have D7 := Lib.hid (below_step D6.out hb)
  have HRX := Lib.hid (HRX.out.below' hb)
  clear hb
  have hq := (HO.out _ D7.out).2
  have HRY := Lib.hid hry
  have HPY := Lib.hid hpy
  clear hry hpy
  go_wp2_with fail
  clear hq
  obtain ⟨V, hV, KX, KY, hBV, hz⟩ := by2 w7 49 49 #[Value.bool bx.neg, Value.slice (some ⟨gx, 0, none⟩) bx.ws.length cx, Value.int IntKind.i64 bx.e] #[Value.bool by_.neg, Value.slice (some ⟨gy, 0, none⟩) by_.ws.length cy, Value.int IntKind.i64 by_.e]
  rw [← hV]
  have HRX := Lib.hid (HRX.out.below' hBV)
  have HRY := Lib.hid (HRY.out.below' hBV)
  have K0' := Lib.hid ((K0.out.below D7.out K0.out.lt).below hBV (K0.out.below D7.out K0.out.lt).lt)
  have K1' := Lib.hid ((K1.out.below D7.out K1.out.lt).below hBV (K1.out.below D7.out K1.out.lt).lt)
  have HB' := Lib.hid (below_step (below_step HB.out D7.out) hBV)
  obtain ⟨gv, hgv⟩ : ∃ g, w7.heap.size = g := ⟨_, rfl⟩
  rw [hgv] at KX KY
  rw [hgv]
  have K2 := Lib.hid KX
  have K3 := Lib.hid KY
  clear HB HO K0 K1 KX KY hV hBV hz hgv
  have HB := HB'
  clear HB'
  have K0 := K0'
  clear K0'
  have K1 := K1'
  clear K1'
  have HO := Lib.hid (show ∀ w', Below V.heap.size V w' → (Below V.heap.size V w' ∧ w'.cell? ⟨w.heap.size, 0, none⟩ = some (Value.float FloatKind.f64 A.lo) ∧ w'.cell? ⟨w.heap.size, 1, none⟩ = some (Value.float FloatKind.f64 A.hi) ∧ w'.cell? ⟨w.heap.size + 1, 0, none⟩ = some (Value.float FloatKind.f64 B.lo) ∧ w'.cell? ⟨w.heap.size + 1, 1, none⟩ = some (Value.float FloatKind.f64 B.hi) ∧ w'.cell? ⟨gv, 0, none⟩ = some (Value.bool bx.neg) ∧ w'.cell? ⟨gv, 1, none⟩ = some (Value.slice (some ⟨gx, 0, none⟩) bx.ws.length cx) ∧ w'.cell? ⟨gv, 2, none⟩ = some (Value.int IntKind.i64 bx.e) ∧ w'.cell? ⟨gv + 1, 0, none⟩ = some (Value.bool by_.neg) ∧ w'.cell? ⟨gv + 1, 1, none⟩ = some (Value.slice (some ⟨gy, 0, none⟩) by_.ws.length cy) ∧ w'.cell? ⟨gv + 1, 2, none⟩ = some (Value.int IntKind.i64 by_.e)) from fun w' h => ⟨h, (K0.out.below h K0.out.lt).cell 0, (K0.out.below h K0.out.lt).cell 1, (K1.out.below h K1.out.lt).cell 0, (K1.out.below h K1.out.lt).cell 1, (K2.out.below h K2.out.lt).cell 0, (K2.out.below h K2.out.lt).cell 1, (K2.out.below h K2.out.lt).cell 2, (K3.out.below h K3.out.lt).cell 0, (K3.out.below h K3.out.lt).cell 1, (K3.out.below h K3.out.lt).cell 2⟩)
  have D8 := Lib.hid (Below.refl V.heap.size V)
  have hq := (HO.out _ D8.out).2
  clear hq
  refine wp_region_held (S := (fun w' => Below V.heap.size V w' ∧ w'.cell? ⟨w.heap.size, 0, none⟩ = some (Value.float FloatKind.f64 A.lo) ∧ w'.cell? ⟨w.heap.size, 1, none⟩ = some (Value.float FloatKind.f64 A.hi) ∧ w'.cell? ⟨w.heap.size + 1, 0, none⟩ = some (Value.float FloatKind.f64 B.lo) ∧ w'.cell? ⟨w.heap.size + 1, 1, none⟩ = some (Value.float FloatKind.f64 B.hi) ∧ w'.cell? ⟨gv, 0, none⟩ = some (Value.bool bx.neg) ∧ w'.cell? ⟨gv, 1, none⟩ = some (Value.slice (some ⟨gx, 0, none⟩) bx.ws.length cx) ∧ w'.cell? ⟨gv, 2, none⟩ = some (Value.int IntKind.i64 bx.e) ∧ w'.cell? ⟨gv + 1, 0, none⟩ = some (Value.bool by_.neg) ∧ w'.cell? ⟨gv + 1, 1, none⟩ = some (Value.slice (some ⟨gy, 0, none⟩) by_.ws.length cy) ∧ w'.cell? ⟨gv + 1, 2, none⟩ = some (Value.int IntKind.i64 by_.e))) (by kernel_rfl) ?_
  change wpAnyH _ _ _ _ _ _ _ _ (World.drew _)
  obtain ⟨wd, hwd⟩ : ∃ x, x = World.drew V := ⟨_, rfl⟩
  rw [← hwd]
  have DD := Lib.hid (hwd ▸ Below.drew D8.out : Below V.heap.size V wd)
  clear hwd
  have hS0 := HO.out _ DD.out
  refine wpAnyH_takeM (i := 0) (v := ?vs9_0) (l' := bm 19 1) (a' := ?as9_0) rfl (by kernel_rfl) (by kernel_rfl) (by kernel_rfl) (fun _ _ _ h => h) (Or.inl ⟨by kernel_rfl, ?hs9_0⟩) (by kernel_rfl) ?ps9_0 hS0 ?rs9_0
  case hs9_0 => (intro w hS; go_simp; try with_reducible rfl)
  case ps9_0 => (go_simp; try with_reducible rfl)
  refine wpAnyH_takeM (i := 1) (v := ?vs9_1) (l' := bm 19 3) (a' := ?as9_1) rfl (by kernel_rfl) (by kernel_rfl) (by kernel_rfl) (fun _ _ _ h => h) (Or.inl ⟨by kernel_rfl, ?hs9_1⟩) (by kernel_rfl) ?ps9_1 hS0 ?rs9_1
  case hs9_1 => (intro w hS; go_simp; try with_reducible rfl)
  case ps9_1 => (go_simp; try with_reducible rfl)
  refine wpAnyH_takeM (i := 3) (v := ?vs9_3) (l' := bm 19 11) (a' := ?as9_3) rfl (by kernel_rfl) (by kernel_rfl) (by kernel_rfl) (fun _ _ _ h => h) (Or.inl ⟨by kernel_rfl, ?hs9_3⟩) (by kernel_rfl) ?ps9_3 hS0 ?rs9_3
  case hs9_3 => (intro w hS; go_simp; try with_reducible rfl)
  case ps9_3 => (go_simp; try with_reducible rfl)
  refine wpAnyH_takeM (i := 4) (v := ?vs9_4) (l' := bm 19 27) (a' := ?as9_4) rfl (by kernel_rfl) (by kernel_rfl) (by kernel_rfl) (fun _ _ _ h => h) (Or.inl ⟨by kernel_rfl, ?hs9_4⟩) (by kernel_rfl) ?ps9_4 hS0 ?rs9_4
  case hs9_4 => (intro w hS; go_simp; try with_reducible rfl)
  case ps9_4 => (go_simp; try with_reducible rfl)
  refine wpAnyH_takeM (i := 6) (v := ?vs9_6) (l' := bm 19 91) (a' := ?as9_6) rfl (by kernel_rfl) (by kernel_rfl) (by kernel_rfl) (fun _ _ _ h => h) (Or.inl ⟨by kernel_rfl, ?hs9_6⟩) (by kernel_rfl) ?ps9_6 hS0 ?rs9_6
  case hs9_6 => (intro w hS; go_simp; try with_reducible rfl)
  case ps9_6 => (go_simp; try with_reducible rfl)
  refine wpAnyH_takeM (i := 7) (v := ?vs9_7) (l' := bm 19 219) (a' := ?as9_7) rfl (by kernel_rfl) (by kernel_rfl) (by kernel_rfl) (fun _ _ _ h => h) (Or.inl ⟨by kernel_rfl, ?hs9_7⟩) (by kernel_rfl) ?ps9_7 hS0 ?rs9_7
  case hs9_7 => (intro w hS; go_simp; try with_reducible rfl)
  case ps9_7 => (go_simp; try with_reducible rfl)
  refine wpAnyH_takeM (i := 9) (v := ?vs9_9) (l' := bm 19 731) (a' := ?as9_9) rfl (by kernel_rfl) (by kernel_rfl) (by kernel_rfl) (fun _ _ _ h => h) (Or.inl ⟨by kernel_rfl, ?hs9_9⟩) (by kernel_rfl) ?ps9_9 hS0 ?rs9_9
  case hs9_9 => (intro w hS; go_simp; try with_reducible rfl)
  case ps9_9 => (go_simp; try with_reducible rfl)
  refine wpAnyH_sets (N := 19) (stop := 32767) (F := 4) (m := 731) (R := [2, 5, 8, 10, 11, 12, 13, 14]) (M := [731, 2779, 4827, 8923, 17115, 6875, 10971, 19163, 13019, 21211, 25307, 15067, 23259, 27355, 29403, 31451, 735, 2783, 4831, 8927, 17119, 6879, 10975, 19167, 13023, 21215, 25311, 15071, 23263, 27359, 29407, 31455, 767, 2815, 4863, 8959, 17151, 6911, 11007, 19199, 13055, 21247, 25343, 15103, 23295, 27391, 29439, 31487, 1023, 3071, 5119, 9215, 17407, 7167, 11263, 19455, 13311, 21503, 25599, 15359, 23551, 27647, 29695, 31743, 2047, 4095, 6143, 10239, 18431, 8191, 12287, 20479, 14335, 22527, 26623, 16383, 24575, 28671, 30719, 32767]) (fun a0 m a w9 => ∃ (v0 v1 v2 v3 p0 p1 p2 p3 : Value) (g0 g1 g2 g3 : Nat), a = ((((((((a0.put (some 47) v0).put (some 50) v1).put (some 53) v2).put (some 55) v3).put (some 13) p0).put (some 14) p1).put (some 15) p2).put (some 16) p3) ∧ Below V.heap.size V w9 ∧ (m.testBit 2 = true → v0 = .agg #[Value.float FloatKind.f64 sa.lo, Value.float FloatKind.f64 sa.hi]) ∧ (m.testBit 5 = true → v1 = .agg #[Value.float FloatKind.f64 sb.lo, Value.float FloatKind.f64 sb.hi]) ∧ (m.testBit 8 = true → v2 = .agg #[Value.float FloatKind.f64 sm.lo, Value.float FloatKind.f64 sm.hi]) ∧ (m.testBit 10 = true → v3 = .agg #[Value.float FloatKind.f64 sq.lo, Value.float FloatKind.f64 sq.hi]) ∧ (m.testBit 11 = true → p0 = .pointer (some ⟨g0, 0, none⟩) ∧ Blk w9 g0 24 #[Value.float FloatKind.f64 0, Value.float FloatKind.f64 0] ∧ V.heap.size ≤ g0) ∧ (m.testBit 12 = true → p1 = .pointer (some ⟨g1, 0, none⟩) ∧ Blk w9 g1 24 #[Value.float FloatKind.f64 0, Value.float FloatKind.f64 0] ∧ V.heap.size ≤ g1) ∧ (m.testBit 13 = true → p2 = .pointer (some ⟨g2, 0, none⟩) ∧ Blk w9 g2 24 #[Value.float FloatKind.f64 0, Value.float FloatKind.f64 0] ∧ V.heap.size ≤ g2) ∧ (m.testBit 14 = true → p3 = .pointer (some ⟨g3, 0, none⟩) ∧ Blk w9 g3 24 #[Value.float FloatKind.f64 0, Value.float FloatKind.f64 0] ∧ V.heap.size ≤ g3) ∧ (m.testBit 11 = true → m.testBit 12 = true → g0 ≠ g1) ∧ (m.testBit 11 = true → m.testBit 13 = true → g0 ≠ g2) ∧ (m.testBit 11 = true → m.testBit 14 = true → g0 ≠ g3) ∧ (m.testBit 12 = true → m.testBit 13 = true → g1 ≠ g2) ∧ (m.testBit 12 = true → m.testBit 14 = true → g1 ≠ g3) ∧ (m.testBit 13 = true → m.testBit 14 = true → g2 ≠ g3)) (by kernel_rfl) (by kernel_rfl) (by kernel_rfl) ?st9 ?sp9 ?re9
  case st9 =>
    exact ⟨undef, undef, undef, undef, undef, undef, undef, undef, 0, 0, 0, 0, by go_simp, DD.out, fun h => absurd h (by decide), fun h => absurd h (by decide), fun h => absurd h (by decide), fun h => absurd h (by decide), fun h => absurd h (by decide), fun h => absurd h (by decide), fun h => absurd h (by decide), fun h => absurd h (by decide), fun h => absurd h (by decide), fun h => absurd h (by decide), fun h => absurd h (by decide), fun h => absurd h (by decide), fun h => absurd h (by decide), fun h => absurd h (by decide)⟩
  case sp9 =>
    intro m a' w9 i hi hm hJ
    obtain ⟨v0, v1, v2, v3, p0, p1, p2, p3, g0, g1, g2, g3, rfl, hb0, c0, c1, c2, c3, q0, q1, q2, q3, d0_1, d0_2, d0_3, d1_2, d1_3, d2_3⟩ := hJ
    have C0 := Lib.hid c0
    have C1 := Lib.hid c1
    have C2 := Lib.hid c2
    have C3 := Lib.hid c3
    have Q0 := Lib.hid q0
    have Q1 := Lib.hid q1
    have Q2 := Lib.hid q2
    have Q3 := Lib.hid q3
    have D0_1 := Lib.hid d0_1
    have D0_2 := Lib.hid d0_2
    have D0_3 := Lib.hid d0_3
    have D1_2 := Lib.hid d1_2
    have D1_3 := Lib.hid d1_3
    have D2_3 := Lib.hid d2_3
    have HB0 := Lib.hid hb0
    have hS9 := HO.out _ hb0
    clear c0 c1 c2 c3 q0 q1 q2 q3 d0_1 d0_2 d0_3 d1_2 d1_3 d2_3 hb0 hm hS0
    simp only [List.mem_cons, List.not_mem_nil, or_false] at hi
    rcases hi with rfl | rfl | rfl | rfl | rfl | rfl | rfl | rfl
    · refine wpOp_at rfl (by kernel_rfl) (fun K hK => ?_)
      go_simp
      go_at_call 37
      refine (CA.out _).mono ?_
      rintro r w10 ⟨rfl, hb⟩
      dsimp only
      have hb1 := below_step HB0.out hb
      exact hK _ _ ⟨HO.out _ hb1, _, v1, v2, v3, p0, p1, p2, p3, g0, g1, g2, g3, by go_simp, hb1, fun _ => rfl, fun h => C1.out (by rwa [tb_ne (by decide)] at h), fun h => C2.out (by rwa [tb_ne (by decide)] at h), fun h => C3.out (by rwa [tb_ne (by decide)] at h), fun h => ⟨(Q0.out (by rwa [tb_ne (by decide)] at h)).1, (Q0.out (by rwa [tb_ne (by decide)] at h)).2.1.below hb (Q0.out (by rwa [tb_ne (by decide)] at h)).2.1.lt, (Q0.out (by rwa [tb_ne (by decide)] at h)).2.2⟩, fun h => ⟨(Q1.out (by rwa [tb_ne (by decide)] at h)).1, (Q1.out (by rwa [tb_ne (by decide)] at h)).2.1.below hb (Q1.out (by rwa [tb_ne (by decide)] at h)).2.1.lt, (Q1.out (by rwa [tb_ne (by decide)] at h)).2.2⟩, fun h => ⟨(Q2.out (by rwa [tb_ne (by decide)] at h)).1, (Q2.out (by rwa [tb_ne (by decide)] at h)).2.1.below hb (Q2.out (by rwa [tb_ne (by decide)] at h)).2.1.lt, (Q2.out (by rwa [tb_ne (by decide)] at h)).2.2⟩, fun h => ⟨(Q3.out (by rwa [tb_ne (by decide)] at h)).1, (Q3.out (by rwa [tb_ne (by decide)] at h)).2.1.below hb (Q3.out (by rwa [tb_ne (by decide)] at h)).2.1.lt, (Q3.out (by rwa [tb_ne (by decide)] at h)).2.2⟩, fun h h' => D0_1.out (by rwa [tb_ne (by decide)] at h) (by rwa [tb_ne (by decide)] at h'), fun h h' => D0_2.out (by rwa [tb_ne (by decide)] at h) (by rwa [tb_ne (by decide)] at h'), fun h h' => D0_3.out (by rwa [tb_ne (by decide)] at h) (by rwa [tb_ne (by decide)] at h'), fun h h' => D1_2.out (by rwa [tb_ne (by decide)] at h) (by rwa [tb_ne (by decide)] at h'), fun h h' => D1_3.out (by rwa [tb_ne (by decide)] at h) (by rwa [tb_ne (by decide)] at h'), fun h h' => D2_3.out (by rwa [tb_ne (by decide)] at h) (by rwa [tb_ne (by decide)] at h')⟩
    · refine wpOp_at rfl (by kernel_rfl) (fun K hK => ?_)
      go_simp
      go_at_call 38
      refine (CS.out _).mono ?_
      rintro r w10 ⟨rfl, hb⟩
      dsimp only
      have hb1 := below_step HB0.out hb
      exact hK _ _ ⟨HO.out _ hb1, v0, _, v2, v3, p0, p1, p2, p3, g0, g1, g2, g3, by go_simp, hb1, fun h => C0.out (by rwa [tb_ne (by decide)] at h), fun _ => rfl, fun h => C2.out (by rwa [tb_ne (by decide)] at h), fun h => C3.out (by rwa [tb_ne (by decide)] at h), fun h => ⟨(Q0.out (by rwa [tb_ne (by decide)] at h)).1, (Q0.out (by rwa [tb_ne (by decide)] at h)).2.1.below hb (Q0.out (by rwa [tb_ne (by decide)] at h)).2.1.lt, (Q0.out (by rwa [tb_ne (by decide)] at h)).2.2⟩, fun h => ⟨(Q1.out (by rwa [tb_ne (by decide)] at h)).1, (Q1.out (by rwa [tb_ne (by decide)] at h)).2.1.below hb (Q1.out (by rwa [tb_ne (by decide)] at h)).2.1.lt, (Q1.out (by rwa [tb_ne (by decide)] at h)).2.2⟩, fun h => ⟨(Q2.out (by rwa [tb_ne (by decide)] at h)).1, (Q2.out (by rwa [tb_ne (by decide)] at h)).2.1.below hb (Q2.out (by rwa [tb_ne (by decide)] at h)).2.1.lt, (Q2.out (by rwa [tb_ne (by decide)] at h)).2.2⟩, fun h => ⟨(Q3.out (by rwa [tb_ne (by decide)] at h)).1, (Q3.out (by rwa [tb_ne (by decide)] at h)).2.1.below hb (Q3.out (by rwa [tb_ne (by decide)] at h)).2.1.lt, (Q3.out (by rwa [tb_ne (by decide)] at h)).2.2⟩, fun h h' => D0_1.out (by rwa [tb_ne (by decide)] at h) (by rwa [tb_ne (by decide)] at h'), fun h h' => D0_2.out (by rwa [tb_ne (by decide)] at h) (by rwa [tb_ne (by decide)] at h'), fun h h' => D0_3.out (by rwa [tb_ne (by decide)] at h) (by rwa [tb_ne (by decide)] at h'), fun h h' => D1_2.out (by rwa [tb_ne (by decide)] at h) (by rwa [tb_ne (by decide)] at h'), fun h h' => D1_3.out (by rwa [tb_ne (by decide)] at h) (by rwa [tb_ne (by decide)] at h'), fun h h' => D2_3.out (by rwa [tb_ne (by decide)] at h) (by rwa [tb_ne (by decide)] at h')⟩
    · refine wpOp_at rfl (by kernel_rfl) (fun K hK => ?_)
      go_simp
      go_at_call 39
      refine (CM.out _).mono ?_
      rintro r w10 ⟨rfl, hb⟩
      dsimp only
      have hb1 := below_step HB0.out hb
      exact hK _ _ ⟨HO.out _ hb1, v0, v1, _, v3, p0, p1, p2, p3, g0, g1, g2, g3, by go_simp, hb1, fun h => C0.out (by rwa [tb_ne (by decide)] at h), fun h => C1.out (by rwa [tb_ne (by decide)] at h), fun _ => rfl, fun h => C3.out (by rwa [tb_ne (by decide)] at h), fun h => ⟨(Q0.out (by rwa [tb_ne (by decide)] at h)).1, (Q0.out (by rwa [tb_ne (by decide)] at h)).2.1.below hb (Q0.out (by rwa [tb_ne (by decide)] at h)).2.1.lt, (Q0.out (by rwa [tb_ne (by decide)] at h)).2.2⟩, fun h => ⟨(Q1.out (by rwa [tb_ne (by decide)] at h)).1, (Q1.out (by rwa [tb_ne (by decide)] at h)).2.1.below hb (Q1.out (by rwa [tb_ne (by decide)] at h)).2.1.lt, (Q1.out (by rwa [tb_ne (by decide)] at h)).2.2⟩, fun h => ⟨(Q2.out (by rwa [tb_ne (by decide)] at h)).1, (Q2.out (by rwa [tb_ne (by decide)] at h)).2.1.below hb (Q2.out (by rwa [tb_ne (by decide)] at h)).2.1.lt, (Q2.out (by rwa [tb_ne (by decide)] at h)).2.2⟩, fun h => ⟨(Q3.out (by rwa [tb_ne (by decide)] at h)).1, (Q3.out (by rwa [tb_ne (by decide)] at h)).2.1.below hb (Q3.out (by rwa [tb_ne (by decide)] at h)).2.1.lt, (Q3.out (by rwa [tb_ne (by decide)] at h)).2.2⟩, fun h h' => D0_1.out (by rwa [tb_ne (by decide)] at h) (by rwa [tb_ne (by decide)] at h'), fun h h' => D0_2.out (by rwa [tb_ne (by decide)] at h) (by rwa [tb_ne (by decide)] at h'), fun h h' => D0_3.out (by rwa [tb_ne (by decide)] at h) (by rwa [tb_ne (by decide)] at h'), fun h h' => D1_2.out (by rwa [tb_ne (by decide)] at h) (by rwa [tb_ne (by decide)] at h'), fun h h' => D1_3.out (by rwa [tb_ne (by decide)] at h) (by rwa [tb_ne (by decide)] at h'), fun h h' => D2_3.out (by rwa [tb_ne (by decide)] at h) (by rwa [tb_ne (by decide)] at h')⟩
    · refine wpOp_at rfl (by kernel_rfl) (fun K hK => ?_)
      go_simp
      go_at_call 40
      refine (CQ.out _).mono ?_
      rintro r w10 ⟨rfl, hb⟩
      dsimp only
      have hb1 := below_step HB0.out hb
      exact hK _ _ ⟨HO.out _ hb1, v0, v1, v2, _, p0, p1, p2, p3, g0, g1, g2, g3, by go_simp, hb1, fun h => C0.out (by rwa [tb_ne (by decide)] at h), fun h => C1.out (by rwa [tb_ne (by decide)] at h), fun h => C2.out (by rwa [tb_ne (by decide)] at h), fun _ => rfl, fun h => ⟨(Q0.out (by rwa [tb_ne (by decide)] at h)).1, (Q0.out (by rwa [tb_ne (by decide)] at h)).2.1.below hb (Q0.out (by rwa [tb_ne (by decide)] at h)).2.1.lt, (Q0.out (by rwa [tb_ne (by decide)] at h)).2.2⟩, fun h => ⟨(Q1.out (by rwa [tb_ne (by decide)] at h)).1, (Q1.out (by rwa [tb_ne (by decide)] at h)).2.1.below hb (Q1.out (by rwa [tb_ne (by decide)] at h)).2.1.lt, (Q1.out (by rwa [tb_ne (by decide)] at h)).2.2⟩, fun h => ⟨(Q2.out (by rwa [tb_ne (by decide)] at h)).1, (Q2.out (by rwa [tb_ne (by decide)] at h)).2.1.below hb (Q2.out (by rwa [tb_ne (by decide)] at h)).2.1.lt, (Q2.out (by rwa [tb_ne (by decide)] at h)).2.2⟩, fun h => ⟨(Q3.out (by rwa [tb_ne (by decide)] at h)).1, (Q3.out (by rwa [tb_ne (by decide)] at h)).2.1.below hb (Q3.out (by rwa [tb_ne (by decide)] at h)).2.1.lt, (Q3.out (by rwa [tb_ne (by decide)] at h)).2.2⟩, fun h h' => D0_1.out (by rwa [tb_ne (by decide)] at h) (by rwa [tb_ne (by decide)] at h'), fun h h' => D0_2.out (by rwa [tb_ne (by decide)] at h) (by rwa [tb_ne (by decide)] at h'), fun h h' => D0_3.out (by rwa [tb_ne (by decide)] at h) (by rwa [tb_ne (by decide)] at h'), fun h h' => D1_2.out (by rwa [tb_ne (by decide)] at h) (by rwa [tb_ne (by decide)] at h'), fun h h' => D1_3.out (by rwa [tb_ne (by decide)] at h) (by rwa [tb_ne (by decide)] at h'), fun h h' => D2_3.out (by rwa [tb_ne (by decide)] at h) (by rwa [tb_ne (by decide)] at h')⟩
    · refine wpOp_at rfl (by kernel_rfl) (fun K hK => ?_)
      go_simp
      have hb1 := below_more HB0.out (.cells #[Value.float FloatKind.f64 0, Value.float FloatKind.f64 0] 24)
      exact hK _ _ ⟨HO.out _ hb1, v0, v1, v2, v3, .pointer (some ⟨w9.heap.size, 0, none⟩), p1, p2, p3, w9.heap.size, g1, g2, g3, by go_simp, hb1, fun h => C0.out (by rwa [tb_ne (by decide)] at h), fun h => C1.out (by rwa [tb_ne (by decide)] at h), fun h => C2.out (by rwa [tb_ne (by decide)] at h), fun h => C3.out (by rwa [tb_ne (by decide)] at h), fun _ => ⟨rfl, Blk.new_at _ _ _ rfl, HB0.out.size⟩, fun h => ⟨(Q1.out (by rwa [tb_ne (by decide)] at h)).1, (Q1.out (by rwa [tb_ne (by decide)] at h)).2.1.alloc _, (Q1.out (by rwa [tb_ne (by decide)] at h)).2.2⟩, fun h => ⟨(Q2.out (by rwa [tb_ne (by decide)] at h)).1, (Q2.out (by rwa [tb_ne (by decide)] at h)).2.1.alloc _, (Q2.out (by rwa [tb_ne (by decide)] at h)).2.2⟩, fun h => ⟨(Q3.out (by rwa [tb_ne (by decide)] at h)).1, (Q3.out (by rwa [tb_ne (by decide)] at h)).2.1.alloc _, (Q3.out (by rwa [tb_ne (by decide)] at h)).2.2⟩, fun h h' => Nat.ne_of_gt (Q1.out (by rwa [tb_ne (by decide)] at h')).2.1.lt, fun h h' => Nat.ne_of_gt (Q2.out (by rwa [tb_ne (by decide)] at h')).2.1.lt, fun h h' => Nat.ne_of_gt (Q3.out (by rwa [tb_ne (by decide)] at h')).2.1.lt, fun h h' => D1_2.out (by rwa [tb_ne (by decide)] at h) (by rwa [tb_ne (by decide)] at h'), fun h h' => D1_3.out (by rwa [tb_ne (by decide)] at h) (by rwa [tb_ne (by decide)] at h'), fun h h' => D2_3.out (by rwa [tb_ne (by decide)] at h) (by rwa [tb_ne (by decide)] at h')⟩
    · refine wpOp_at rfl (by kernel_rfl) (fun K hK => ?_)
      go_simp
      have hb1 := below_more HB0.out (.cells #[Value.float FloatKind.f64 0, Value.float FloatKind.f64 0] 24)
      exact hK _ _ ⟨HO.out _ hb1, v0, v1, v2, v3, p0, .pointer (some ⟨w9.heap.size, 0, none⟩), p2, p3, g0, w9.heap.size, g2, g3, by go_simp, hb1, fun h => C0.out (by rwa [tb_ne (by decide)] at h), fun h => C1.out (by rwa [tb_ne (by decide)] at h), fun h => C2.out (by rwa [tb_ne (by decide)] at h), fun h => C3.out (by rwa [tb_ne (by decide)] at h), fun h => ⟨(Q0.out (by rwa [tb_ne (by decide)] at h)).1, (Q0.out (by rwa [tb_ne (by decide)] at h)).2.1.alloc _, (Q0.out (by rwa [tb_ne (by decide)] at h)).2.2⟩, fun _ => ⟨rfl, Blk.new_at _ _ _ rfl, HB0.out.size⟩, fun h => ⟨(Q2.out (by rwa [tb_ne (by decide)] at h)).1, (Q2.out (by rwa [tb_ne (by decide)] at h)).2.1.alloc _, (Q2.out (by rwa [tb_ne (by decide)] at h)).2.2⟩, fun h => ⟨(Q3.out (by rwa [tb_ne (by decide)] at h)).1, (Q3.out (by rwa [tb_ne (by decide)] at h)).2.1.alloc _, (Q3.out (by rwa [tb_ne (by decide)] at h)).2.2⟩, fun h h' => Nat.ne_of_lt (Q0.out (by rwa [tb_ne (by decide)] at h)).2.1.lt, fun h h' => D0_2.out (by rwa [tb_ne (by decide)] at h) (by rwa [tb_ne (by decide)] at h'), fun h h' => D0_3.out (by rwa [tb_ne (by decide)] at h) (by rwa [tb_ne (by decide)] at h'), fun h h' => Nat.ne_of_gt (Q2.out (by rwa [tb_ne (by decide)] at h')).2.1.lt, fun h h' => Nat.ne_of_gt (Q3.out (by rwa [tb_ne (by decide)] at h')).2.1.lt, fun h h' => D2_3.out (by rwa [tb_ne (by decide)] at h) (by rwa [tb_ne (by decide)] at h')⟩
    · refine wpOp_at rfl (by kernel_rfl) (fun K hK => ?_)
      go_simp
      have hb1 := below_more HB0.out (.cells #[Value.float FloatKind.f64 0, Value.float FloatKind.f64 0] 24)
      exact hK _ _ ⟨HO.out _ hb1, v0, v1, v2, v3, p0, p1, .pointer (some ⟨w9.heap.size, 0, none⟩), p3, g0, g1, w9.heap.size, g3, by go_simp, hb1, fun h => C0.out (by rwa [tb_ne (by decide)] at h), fun h => C1.out (by rwa [tb_ne (by decide)] at h), fun h => C2.out (by rwa [tb_ne (by decide)] at h), fun h => C3.out (by rwa [tb_ne (by decide)] at h), fun h => ⟨(Q0.out (by rwa [tb_ne (by decide)] at h)).1, (Q0.out (by rwa [tb_ne (by decide)] at h)).2.1.alloc _, (Q0.out (by rwa [tb_ne (by decide)] at h)).2.2⟩, fun h => ⟨(Q1.out (by rwa [tb_ne (by decide)] at h)).1, (Q1.out (by rwa [tb_ne (by decide)] at h)).2.1.alloc _, (Q1.out (by rwa [tb_ne (by decide)] at h)).2.2⟩, fun _ => ⟨rfl, Blk.new_at _ _ _ rfl, HB0.out.size⟩, fun h => ⟨(Q3.out (by rwa [tb_ne (by decide)] at h)).1, (Q3.out (by rwa [tb_ne (by decide)] at h)).2.1.alloc _, (Q3.out (by rwa [tb_ne (by decide)] at h)).2.2⟩, fun h h' => D0_1.out (by rwa [tb_ne (by decide)] at h) (by rwa [tb_ne (by decide)] at h'), fun h h' => Nat.ne_of_lt (Q0.out (by rwa [tb_ne (by decide)] at h)).2.1.lt, fun h h' => D0_3.out (by rwa [tb_ne (by decide)] at h) (by rwa [tb_ne (by decide)] at h'), fun h h' => Nat.ne_of_lt (Q1.out (by rwa [tb_ne (by decide)] at h)).2.1.lt, fun h h' => D1_3.out (by rwa [tb_ne (by decide)] at h) (by rwa [tb_ne (by decide)] at h'), fun h h' => Nat.ne_of_gt (Q3.out (by rwa [tb_ne (by decide)] at h')).2.1.lt⟩
    · refine wpOp_at rfl (by kernel_rfl) (fun K hK => ?_)
      go_simp
      have hb1 := below_more HB0.out (.cells #[Value.float FloatKind.f64 0, Value.float FloatKind.f64 0] 24)
      exact hK _ _ ⟨HO.out _ hb1, v0, v1, v2, v3, p0, p1, p2, .pointer (some ⟨w9.heap.size, 0, none⟩), g0, g1, g2, w9.heap.size, by go_simp, hb1, fun h => C0.out (by rwa [tb_ne (by decide)] at h), fun h => C1.out (by rwa [tb_ne (by decide)] at h), fun h => C2.out (by rwa [tb_ne (by decide)] at h), fun h => C3.out (by rwa [tb_ne (by decide)] at h), fun h => ⟨(Q0.out (by rwa [tb_ne (by decide)] at h)).1, (Q0.out (by rwa [tb_ne (by decide)] at h)).2.1.alloc _, (Q0.out (by rwa [tb_ne (by decide)] at h)).2.2⟩, fun h => ⟨(Q1.out (by rwa [tb_ne (by decide)] at h)).1, (Q1.out (by rwa [tb_ne (by decide)] at h)).2.1.alloc _, (Q1.out (by rwa [tb_ne (by decide)] at h)).2.2⟩, fun h => ⟨(Q2.out (by rwa [tb_ne (by decide)] at h)).1, (Q2.out (by rwa [tb_ne (by decide)] at h)).2.1.alloc _, (Q2.out (by rwa [tb_ne (by decide)] at h)).2.2⟩, fun _ => ⟨rfl, Blk.new_at _ _ _ rfl, HB0.out.size⟩, fun h h' => D0_1.out (by rwa [tb_ne (by decide)] at h) (by rwa [tb_ne (by decide)] at h'), fun h h' => D0_2.out (by rwa [tb_ne (by decide)] at h) (by rwa [tb_ne (by decide)] at h'), fun h h' => Nat.ne_of_lt (Q0.out (by rwa [tb_ne (by decide)] at h)).2.1.lt, fun h h' => D1_2.out (by rwa [tb_ne (by decide)] at h) (by rwa [tb_ne (by decide)] at h'), fun h h' => Nat.ne_of_lt (Q1.out (by rwa [tb_ne (by decide)] at h)).2.1.lt, fun h h' => Nat.ne_of_lt (Q2.out (by rwa [tb_ne (by decide)] at h)).2.1.lt⟩
  intro a' w9 hJ
  obtain ⟨v0, v1, v2, v3, p0, p1, p2, p3, g0, g1, g2, g3, rfl, hb0, c0, c1, c2, c3, q0, q1, q2, q3, d0_1, d0_2, d0_3, d1_2, d1_3, d2_3⟩ := hJ
  obtain rfl := c0 (by decide)
  obtain rfl := c1 (by decide)
  obtain rfl := c2 (by decide)
  obtain rfl := c3 (by decide)
  obtain ⟨rfl, k0, l0⟩ := q0 (by decide)
  obtain ⟨rfl, k1, l1⟩ := q1 (by decide)
  obtain ⟨rfl, k2, l2⟩ := q2 (by decide)
  obtain ⟨rfl, k3, l3⟩ := q3 (by decide)
  have e0_1 := d0_1 (by decide) (by decide)
  clear d0_1
  have e0_2 := d0_2 (by decide) (by decide)
  clear d0_2
  have e0_3 := d0_3 (by decide) (by decide)
  clear d0_3
  have e1_2 := d1_2 (by decide) (by decide)
  clear d1_2
  have e1_3 := d1_3 (by decide) (by decide)
  clear d1_3
  have e2_3 := d2_3 (by decide) (by decide)
  clear d2_3
  have DB := Lib.hid hb0
  clear hb0 hS0
  have KK0 := Lib.hid k0
  clear k0
  have KK1 := Lib.hid k1
  clear k1
  have KK2 := Lib.hid k2
  clear k2
  have KK3 := Lib.hid k3
  clear k3
  refine wpAnyH_frame (a' := ?fr9) ?fe9 ?fg9
  case fe9 => (go_simp; try with_reducible rfl)
  have hS0 := HO.out _ DB.out
  refine wpAnyH_oneM (i := 15) (l' := bm 19 65535) rfl (by kernel_rfl) (by kernel_rfl) (by kernel_rfl) (fun K hK => ?_)
  have f0 := KK0.out.cell 0
  have u0 := KK0.out.frz 0
  have f1 := KK0.out.cell 1
  have u1 := KK0.out.frz 1
  obtain ⟨ws0, hv⟩ : ∃ V, ((w9.setCell ⟨g0, 0, none⟩ (Value.float FloatKind.f64 sa.lo)).setCell ⟨g0, 1, none⟩ (Value.float FloatKind.f64 sa.hi)) = V := ⟨_, rfl⟩
  have DB' := Lib.hid (hv ▸ Below.setCell (Below.setCell (DB.out) l0 _) l0 _ : Below V.heap.size V ws0)
  have KK0' := Lib.hid (hv ▸ (Blk.set_ (Blk.set_ (KK0.out) 0 _) 1 _) : Blk ws0 g0 24 #[Value.float FloatKind.f64 sa.lo, Value.float FloatKind.f64 sa.hi])
  have KK1' := Lib.hid (hv ▸ (Blk.off (Blk.off (KK1.out) ⟨g0, 0, none⟩ _ (by show g1 ≠ g0; omega)) ⟨g0, 1, none⟩ _ (by show g1 ≠ g0; omega)) : Blk ws0 g1 24 #[Value.float FloatKind.f64 0, Value.float FloatKind.f64 0])
  have KK2' := Lib.hid (hv ▸ (Blk.off (Blk.off (KK2.out) ⟨g0, 0, none⟩ _ (by show g2 ≠ g0; omega)) ⟨g0, 1, none⟩ _ (by show g2 ≠ g0; omega)) : Blk ws0 g2 24 #[Value.float FloatKind.f64 0, Value.float FloatKind.f64 0])
  have KK3' := Lib.hid (hv ▸ (Blk.off (Blk.off (KK3.out) ⟨g0, 0, none⟩ _ (by show g3 ≠ g0; omega)) ⟨g0, 1, none⟩ _ (by show g3 ≠ g0; omega)) : Blk ws0 g3 24 #[Value.float FloatKind.f64 0, Value.float FloatKind.f64 0])
  go_simp
  clear hv f0 u0 f1 u1
  have DB := DB'
  clear DB'
  have KK0 := KK0'
  clear KK0'
  have KK1 := KK1'
  clear KK1'
  have KK2 := KK2'
  clear KK2'
  have KK3 := KK3'
  clear KK3'
  have hS1 := HO.out _ DB.out
  refine hK _ _ hS1 ?_
  clear hK K hS0
  refine wpAnyH_oneM (i := 16) (l' := bm 19 131071) rfl (by kernel_rfl) (by kernel_rfl) (by kernel_rfl) (fun K hK => ?_)
  have f0 := KK1.out.cell 0
  have u0 := KK1.out.frz 0
  have f1 := KK1.out.cell 1
  have u1 := KK1.out.frz 1
  obtain ⟨ws1, hv⟩ : ∃ V, ((ws0.setCell ⟨g1, 0, none⟩ (Value.float FloatKind.f64 sb.lo)).setCell ⟨g1, 1, none⟩ (Value.float FloatKind.f64 sb.hi)) = V := ⟨_, rfl⟩
  have DB' := Lib.hid (hv ▸ Below.setCell (Below.setCell (DB.out) l1 _) l1 _ : Below V.heap.size V ws1)
  have KK0' := Lib.hid (hv ▸ (Blk.off (Blk.off (KK0.out) ⟨g1, 0, none⟩ _ (by show g0 ≠ g1; omega)) ⟨g1, 1, none⟩ _ (by show g0 ≠ g1; omega)) : Blk ws1 g0 24 #[Value.float FloatKind.f64 sa.lo, Value.float FloatKind.f64 sa.hi])
  have KK1' := Lib.hid (hv ▸ (Blk.set_ (Blk.set_ (KK1.out) 0 _) 1 _) : Blk ws1 g1 24 #[Value.float FloatKind.f64 sb.lo, Value.float FloatKind.f64 sb.hi])
  have KK2' := Lib.hid (hv ▸ (Blk.off (Blk.off (KK2.out) ⟨g1, 0, none⟩ _ (by show g2 ≠ g1; omega)) ⟨g1, 1, none⟩ _ (by show g2 ≠ g1; omega)) : Blk ws1 g2 24 #[Value.float FloatKind.f64 0, Value.float FloatKind.f64 0])
  have KK3' := Lib.hid (hv ▸ (Blk.off (Blk.off (KK3.out) ⟨g1, 0, none⟩ _ (by show g3 ≠ g1; omega)) ⟨g1, 1, none⟩ _ (by show g3 ≠ g1; omega)) : Blk ws1 g3 24 #[Value.float FloatKind.f64 0, Value.float FloatKind.f64 0])
  go_simp
  clear hv f0 u0 f1 u1
  have DB := DB'
  clear DB'
  have KK0 := KK0'
  clear KK0'
  have KK1 := KK1'
  clear KK1'
  have KK2 := KK2'
  clear KK2'
  have KK3 := KK3'
  clear KK3'
  have hS2 := HO.out _ DB.out
  refine hK _ _ hS2 ?_
  clear hK K hS1
  refine wpAnyH_oneM (i := 17) (l' := bm 19 262143) rfl (by kernel_rfl) (by kernel_rfl) (by kernel_rfl) (fun K hK => ?_)
  have f0 := KK2.out.cell 0
  have u0 := KK2.out.frz 0
  have f1 := KK2.out.cell 1
  have u1 := KK2.out.frz 1
  obtain ⟨ws2, hv⟩ : ∃ V, ((ws1.setCell ⟨g2, 0, none⟩ (Value.float FloatKind.f64 sm.lo)).setCell ⟨g2, 1, none⟩ (Value.float FloatKind.f64 sm.hi)) = V := ⟨_, rfl⟩
  have DB' := Lib.hid (hv ▸ Below.setCell (Below.setCell (DB.out) l2 _) l2 _ : Below V.heap.size V ws2)
  have KK0' := Lib.hid (hv ▸ (Blk.off (Blk.off (KK0.out) ⟨g2, 0, none⟩ _ (by show g0 ≠ g2; omega)) ⟨g2, 1, none⟩ _ (by show g0 ≠ g2; omega)) : Blk ws2 g0 24 #[Value.float FloatKind.f64 sa.lo, Value.float FloatKind.f64 sa.hi])
  have KK1' := Lib.hid (hv ▸ (Blk.off (Blk.off (KK1.out) ⟨g2, 0, none⟩ _ (by show g1 ≠ g2; omega)) ⟨g2, 1, none⟩ _ (by show g1 ≠ g2; omega)) : Blk ws2 g1 24 #[Value.float FloatKind.f64 sb.lo, Value.float FloatKind.f64 sb.hi])
  have KK2' := Lib.hid (hv ▸ (Blk.set_ (Blk.set_ (KK2.out) 0 _) 1 _) : Blk ws2 g2 24 #[Value.float FloatKind.f64 sm.lo, Value.float FloatKind.f64 sm.hi])
  have KK3' := Lib.hid (hv ▸ (Blk.off (Blk.off (KK3.out) ⟨g2, 0, none⟩ _ (by show g3 ≠ g2; omega)) ⟨g2, 1, none⟩ _ (by show g3 ≠ g2; omega)) : Blk ws2 g3 24 #[Value.float FloatKind.f64 0, Value.float FloatKind.f64 0])
  go_simp
  clear hv f0 u0 f1 u1
  have DB := DB'
  clear DB'
  have KK0 := KK0'
  clear KK0'
  have KK1 := KK1'
  clear KK1'
  have KK2 := KK2'
  clear KK2'
  have KK3 := KK3'
  clear KK3'
  have hS3 := HO.out _ DB.out
  refine hK _ _ hS3 ?_
  clear hK K hS2
  refine wpAnyH_oneM (i := 18) (l' := bm 19 524287) rfl (by kernel_rfl) (by kernel_rfl) (by kernel_rfl) (fun K hK => ?_)
  have f0 := KK3.out.cell 0
  have u0 := KK3.out.frz 0
  have f1 := KK3.out.cell 1
  have u1 := KK3.out.frz 1
  obtain ⟨ws3, hv⟩ : ∃ V, ((ws2.setCell ⟨g3, 0, none⟩ (Value.float FloatKind.f64 sq.lo)).setCell ⟨g3, 1, none⟩ (Value.float FloatKind.f64 sq.hi)) = V := ⟨_, rfl⟩
  have DB' := Lib.hid (hv ▸ Below.setCell (Below.setCell (DB.out) l3 _) l3 _ : Below V.heap.size V ws3)
  have KK0' := Lib.hid (hv ▸ (Blk.off (Blk.off (KK0.out) ⟨g3, 0, none⟩ _ (by show g0 ≠ g3; omega)) ⟨g3, 1, none⟩ _ (by show g0 ≠ g3; omega)) : Blk ws3 g0 24 #[Value.float FloatKind.f64 sa.lo, Value.float FloatKind.f64 sa.hi])
  have KK1' := Lib.hid (hv ▸ (Blk.off (Blk.off (KK1.out) ⟨g3, 0, none⟩ _ (by show g1 ≠ g3; omega)) ⟨g3, 1, none⟩ _ (by show g1 ≠ g3; omega)) : Blk ws3 g1 24 #[Value.float FloatKind.f64 sb.lo, Value.float FloatKind.f64 sb.hi])
  have KK2' := Lib.hid (hv ▸ (Blk.off (Blk.off (KK2.out) ⟨g3, 0, none⟩ _ (by show g2 ≠ g3; omega)) ⟨g3, 1, none⟩ _ (by show g2 ≠ g3; omega)) : Blk ws3 g2 24 #[Value.float FloatKind.f64 sm.lo, Value.float FloatKind.f64 sm.hi])
  have KK3' := Lib.hid (hv ▸ (Blk.set_ (Blk.set_ (KK3.out) 0 _) 1 _) : Blk ws3 g3 24 #[Value.float FloatKind.f64 sq.lo, Value.float FloatKind.f64 sq.hi])
  go_simp
  clear hv f0 u0 f1 u1
  have DB := DB'
  clear DB'
  have KK0 := KK0'
  clear KK0'
  have KK1 := KK1'
  clear KK1'
  have KK2 := KK2'
  clear KK2'
  have KK3 := KK3'
  clear KK3'
  have hS4 := HO.out _ DB.out
  refine hK _ _ hS4 ?_
  clear hK K hS3
  refine wpAnyH_done (by kernel_rfl) ?_ _
  clear hS4
  have K0' := Lib.hid (K0.out.below DB.out K0.out.lt)
  clear K0
  have K1' := Lib.hid (K1.out.below DB.out K1.out.lt)
  clear K1
  have K2' := Lib.hid (K2.out.below DB.out K2.out.lt)
  clear K2
  have K3' := Lib.hid (K3.out.below DB.out K3.out.lt)
  clear K3
  have HB' := Lib.hid (below_step HB.out DB.out)
  clear HB HO D8
  have HB := HB'
  clear HB'
  have K0 := K0'
  clear K0'
  have K1 := K1'
  clear K1'
  have K2 := K2'
  clear K2'
  have K3 := K3'
  clear K3'
  have K4 := KK0
  clear KK0
  have K5 := KK1
  clear KK1
  have K6 := KK2
  clear KK2
  have K7 := KK3
  clear KK3
  have HO := Lib.hid (show ∀ w', Below ws3.heap.size ws3 w' → (Below ws3.heap.size ws3 w' ∧ w'.cell? ⟨w.heap.size, 0, none⟩ = some (Value.float FloatKind.f64 A.lo) ∧ w'.cell? ⟨w.heap.size, 1, none⟩ = some (Value.float FloatKind.f64 A.hi) ∧ w'.cell? ⟨w.heap.size + 1, 0, none⟩ = some (Value.float FloatKind.f64 B.lo) ∧ w'.cell? ⟨w.heap.size + 1, 1, none⟩ = some (Value.float FloatKind.f64 B.hi) ∧ w'.cell? ⟨gv, 0, none⟩ = some (Value.bool bx.neg) ∧ w'.cell? ⟨gv, 1, none⟩ = some (Value.slice (some ⟨gx, 0, none⟩) bx.ws.length cx) ∧ w'.cell? ⟨gv, 2, none⟩ = some (Value.int IntKind.i64 bx.e) ∧ w'.cell? ⟨gv + 1, 0, none⟩ = some (Value.bool by_.neg) ∧ w'.cell? ⟨gv + 1, 1, none⟩ = some (Value.slice (some ⟨gy, 0, none⟩) by_.ws.length cy) ∧ w'.cell? ⟨gv + 1, 2, none⟩ = some (Value.int IntKind.i64 by_.e) ∧ w'.cell? ⟨g0, 0, none⟩ = some (Value.float FloatKind.f64 sa.lo) ∧ w'.cell? ⟨g0, 1, none⟩ = some (Value.float FloatKind.f64 sa.hi) ∧ w'.cell? ⟨g1, 0, none⟩ = some (Value.float FloatKind.f64 sb.lo) ∧ w'.cell? ⟨g1, 1, none⟩ = some (Value.float FloatKind.f64 sb.hi) ∧ w'.cell? ⟨g2, 0, none⟩ = some (Value.float FloatKind.f64 sm.lo) ∧ w'.cell? ⟨g2, 1, none⟩ = some (Value.float FloatKind.f64 sm.hi) ∧ w'.cell? ⟨g3, 0, none⟩ = some (Value.float FloatKind.f64 sq.lo) ∧ w'.cell? ⟨g3, 1, none⟩ = some (Value.float FloatKind.f64 sq.hi)) from fun w' h => ⟨h, (K0.out.below h K0.out.lt).cell 0, (K0.out.below h K0.out.lt).cell 1, (K1.out.below h K1.out.lt).cell 0, (K1.out.below h K1.out.lt).cell 1, (K2.out.below h K2.out.lt).cell 0, (K2.out.below h K2.out.lt).cell 1, (K2.out.below h K2.out.lt).cell 2, (K3.out.below h K3.out.lt).cell 0, (K3.out.below h K3.out.lt).cell 1, (K3.out.below h K3.out.lt).cell 2, (K4.out.below h K4.out.lt).cell 0, (K4.out.below h K4.out.lt).cell 1, (K5.out.below h K5.out.lt).cell 0, (K5.out.below h K5.out.lt).cell 1, (K6.out.below h K6.out.lt).cell 0, (K6.out.below h K6.out.lt).cell 1, (K7.out.below h K7.out.lt).cell 0, (K7.out.below h K7.out.lt).cell 1⟩)
  have D9 := Lib.hid (Below.refl ws3.heap.size ws3)
  have hq := (HO.out _ D9.out).2
  have HRX := Lib.hid (fun w' (b : Below ws3.heap.size ws3 w') => (HRX.out.below' DB.out).below' b)
  have HRY := Lib.hid (fun w' (b : Below ws3.heap.size ws3 w') => (HRY.out.below' DB.out).below' b)
  clear hq
  go_wp2_with fail
  go_wp2_with fail
  refine wp_region_held (S := (fun w' => Below ws3.heap.size ws3 w' ∧ w'.cell? ⟨w.heap.size, 0, none⟩ = some (Value.float FloatKind.f64 A.lo) ∧ w'.cell? ⟨w.heap.size, 1, none⟩ = some (Value.float FloatKind.f64 A.hi) ∧ w'.cell? ⟨w.heap.size + 1, 0, none⟩ = some (Value.float FloatKind.f64 B.lo) ∧ w'.cell? ⟨w.heap.size + 1, 1, none⟩ = some (Value.float FloatKind.f64 B.hi) ∧ w'.cell? ⟨gv, 0, none⟩ = some (Value.bool bx.neg) ∧ w'.cell? ⟨gv, 1, none⟩ = some (Value.slice (some ⟨gx, 0, none⟩) bx.ws.length cx) ∧ w'.cell? ⟨gv, 2, none⟩ = some (Value.int IntKind.i64 bx.e) ∧ w'.cell? ⟨gv + 1, 0, none⟩ = some (Value.bool by_.neg) ∧ w'.cell? ⟨gv + 1, 1, none⟩ = some (Value.slice (some ⟨gy, 0, none⟩) by_.ws.length cy) ∧ w'.cell? ⟨gv + 1, 2, none⟩ = some (Value.int IntKind.i64 by_.e) ∧ w'.cell? ⟨g0, 0, none⟩ = some (Value.float FloatKind.f64 sa.lo) ∧ w'.cell? ⟨g0, 1, none⟩ = some (Value.float FloatKind.f64 sa.hi) ∧ w'.cell? ⟨g1, 0, none⟩ = some (Value.float FloatKind.f64 sb.lo) ∧ w'.cell? ⟨g1, 1, none⟩ = some (Value.float FloatKind.f64 sb.hi) ∧ w'.cell? ⟨g2, 0, none⟩ = some (Value.float FloatKind.f64 sm.lo) ∧ w'.cell? ⟨g2, 1, none⟩ = some (Value.float FloatKind.f64 sm.hi) ∧ w'.cell? ⟨g3, 0, none⟩ = some (Value.float FloatKind.f64 sq.lo) ∧ w'.cell? ⟨g3, 1, none⟩ = some (Value.float FloatKind.f64 sq.hi))) (by kernel_rfl) ?_
  (try change wpAnyH _ _ _ _ _ _ _ (World.drew _))
  have hS0 := HO.out _ (Below.drew D9.out)
  refine wpAnyH_takeM (i := 0) (v := ?v10_0) (l' := bm 39 1) (a' := ?a10_0) rfl (by kernel_rfl) (by kernel_rfl) (by kernel_rfl) (fun _ _ _ h => h) (Or.inl ⟨by kernel_rfl, ?h10_0⟩) (by kernel_rfl) ?p10_0 hS0 ?r10_0
  case h10_0 => (intro w hS; go_simp; try with_reducible rfl)
  case p10_0 => (go_simp; try with_reducible rfl)
  refine wpAnyH_takeM (i := 1) (v := ?v10_1) (l' := bm 39 3) (a' := ?a10_1) rfl (by kernel_rfl) (by kernel_rfl) (by kernel_rfl) (fun _ _ _ h => h) (Or.inl ⟨by kernel_rfl, ?h10_1⟩) (by kernel_rfl) ?p10_1 hS0 ?r10_1
  case h10_1 => (intro w hS; go_simp; try with_reducible rfl)
  case p10_1 => (go_simp; try with_reducible rfl)
  refine wpAnyH_takeM (i := 3) (v := ?v10_3) (l' := bm 39 11) (a' := ?a10_3) rfl (by kernel_rfl) (by kernel_rfl) (by kernel_rfl) (fun _ _ _ h => h) (Or.inl ⟨by kernel_rfl, ?h10_3⟩) (by kernel_rfl) ?p10_3 hS0 ?r10_3
  case h10_3 => (intro w hS; go_simp; try with_reducible rfl)
  case p10_3 => (go_simp; try with_reducible rfl)
  refine wpAnyH_takeM (i := 4) (v := ?v10_4) (l' := bm 39 27) (a' := ?a10_4) rfl (by kernel_rfl) (by kernel_rfl) (by kernel_rfl) (fun _ _ _ h => h) (Or.inl ⟨by kernel_rfl, ?h10_4⟩) (by kernel_rfl) ?p10_4 hS0 ?r10_4
  case h10_4 => (intro w hS; go_simp; try with_reducible rfl)
  case p10_4 => (go_simp; try with_reducible rfl)
  refine wpAnyH_takeM (i := 5) (v := ?v10_5) (l' := bm 39 59) (a' := ?a10_5) rfl (by kernel_rfl) (by kernel_rfl) (by kernel_rfl) (fun _ _ _ h => h) (Or.inl ⟨by kernel_rfl, ?h10_5⟩) (by kernel_rfl) ?p10_5 hS0 ?r10_5
  case h10_5 => (intro w hS; go_simp; try with_reducible rfl)
  case p10_5 => (go_simp; try with_reducible rfl)
  refine wpAnyH_takeM (i := 6) (v := ?v10_6) (l' := bm 39 123) (a' := ?a10_6) rfl (by kernel_rfl) (by kernel_rfl) (by kernel_rfl) (fun _ _ _ h => h) (Or.inl ⟨by kernel_rfl, ?h10_6⟩) (by kernel_rfl) ?p10_6 hS0 ?r10_6
  case h10_6 => (intro w hS; go_simp; try with_reducible rfl)
  case p10_6 => (go_simp; try with_reducible rfl)
  refine wpAnyH_oneM (i := 2) (l' := bm 39 127) rfl (by kernel_rfl) (by kernel_rfl) (by kernel_rfl) (fun K hK => ?_)
  have hP := hS0.1
  go_simp
  go_at_call 42
  refine (add_rp (HRX.out _ hP) (HRY.out _ hP) cx cy HPX.out HPY.out (by decide) (by decide) (by decide) (by decide)).mono ?_
  rintro r w10 ⟨s1_, h1_, c1_, rfl, hr1, hp1, hb⟩
  dsimp only
  have D10 := Lib.hid (below_step hP hb)
  clear hb
  have hS1 := HO.out _ (D10.out)
  clear hP hS0
  refine hK _ _ hS1 ?_
  clear hK K
  refine wpAnyH_oneM (i := 7) (l' := bm 39 255) rfl (by kernel_rfl) (by kernel_rfl) (by kernel_rfl) (fun K hK => ?_)
  have hP := hS1.1
  go_simp
  go_at_call 41
  refine (btw_rp hr1 c1_ hp1 (by decide) (by decide) (by decide) (GA.out _ _ JP.out JQ.out)).mono ?_
  rintro r w11 ⟨rfl, hb⟩
  dsimp only
  have D11 := Lib.hid (below_step hP hb)
  clear hb
  have hS2 := HO.out _ (D11.out)
  clear hP hS1
  refine hK _ _ hS2 ?_
  clear hK K
  refine wpAnyH_takeM (i := 8) (v := ?v10_8) (l' := bm 39 511) (a' := ?a10_8) rfl (by kernel_rfl) (by kernel_rfl) (by kernel_rfl) (fun _ _ _ h => h) (Or.inl ⟨by kernel_rfl, ?h10_8⟩) (by kernel_rfl) ?p10_8 hS2 ?r10_8
  case h10_8 => (intro w hS; go_simp; try with_reducible rfl)
  case p10_8 => (go_simp; try with_reducible rfl)
  refine wpAnyH_takeM (i := 9) (v := ?v10_9) (l' := bm 39 1023) (a' := ?a10_9) rfl (by kernel_rfl) (by kernel_rfl) (by kernel_rfl) (fun _ _ _ h => h) (Or.inl ⟨by kernel_rfl, ?h10_9⟩) (by kernel_rfl) ?p10_9 hS2 ?r10_9
  case h10_9 => (intro w hS; go_simp; try with_reducible rfl)
  case p10_9 => (go_simp; try with_reducible rfl)
  refine wpAnyH_takeM (i := 10) (v := ?v10_10) (l' := bm 39 2047) (a' := ?a10_10) rfl (by kernel_rfl) (by kernel_rfl) (by kernel_rfl) (fun _ _ _ h => h) (Or.inl ⟨by kernel_rfl, ?h10_10⟩) (by kernel_rfl) ?p10_10 hS2 ?r10_10
  case h10_10 => (intro w hS; go_simp; try with_reducible rfl)
  case p10_10 => (go_simp; try with_reducible rfl)
  refine wpAnyH_takeM (i := 12) (v := ?v10_12) (l' := bm 39 6143) (a' := ?a10_12) rfl (by kernel_rfl) (by kernel_rfl) (by kernel_rfl) (fun _ _ _ h => h) (Or.inl ⟨by kernel_rfl, ?h10_12⟩) (by kernel_rfl) ?p10_12 hS2 ?r10_12
  case h10_12 => (intro w hS; go_simp; try with_reducible rfl)
  case p10_12 => (go_simp; try with_reducible rfl)
  refine wpAnyH_takeM (i := 13) (v := ?v10_13) (l' := bm 39 14335) (a' := ?a10_13) rfl (by kernel_rfl) (by kernel_rfl) (by kernel_rfl) (fun _ _ _ h => h) (Or.inl ⟨by kernel_rfl, ?h10_13⟩) (by kernel_rfl) ?p10_13 hS2 ?r10_13
  case h10_13 => (intro w hS; go_simp; try with_reducible rfl)
  case p10_13 => (go_simp; try with_reducible rfl)
  refine wpAnyH_takeM (i := 14) (v := ?v10_14) (l' := bm 39 30719) (a' := ?a10_14) rfl (by kernel_rfl) (by kernel_rfl) (by kernel_rfl) (fun _ _ _ h => h) (Or.inl ⟨by kernel_rfl, ?h10_14⟩) (by kernel_rfl) ?p10_14 hS2 ?r10_14
  case h10_14 => (intro w hS; go_simp; try with_reducible rfl)
  case p10_14 => (go_simp; try with_reducible rfl)
  refine wpAnyH_takeM (i := 15) (v := ?v10_15) (l' := bm 39 63487) (a' := ?a10_15) rfl (by kernel_rfl) (by kernel_rfl) (by kernel_rfl) (fun _ _ _ h => h) (Or.inl ⟨by kernel_rfl, ?h10_15⟩) (by kernel_rfl) ?p10_15 hS2 ?r10_15
  case h10_15 => (intro w hS; go_simp; try with_reducible rfl)
  case p10_15 => (go_simp; try with_reducible rfl)
  refine wpAnyH_oneM (i := 11) (l' := bm 39 65535) rfl (by kernel_rfl) (by kernel_rfl) (by kernel_rfl) (fun K hK => ?_)
  have hP := hS2.1
  go_simp
  go_at_call 43
  refine (sub_rp (HRX.out _ hP) (HRY.out _ hP) cx cy HPX.out HPY.out (by decide) (by decide) (by decide) (by decide)).mono ?_
  rintro r w12 ⟨s2_, h2_, c2_, rfl, hr2, hp2, hb⟩
  dsimp only
  have D12 := Lib.hid (below_step hP hb)
  clear hb
  have hS3 := HO.out _ (D12.out)
  clear hP hS2
  refine hK _ _ hS3 ?_
  clear hK K
  refine wpAnyH_oneM (i := 16) (l' := bm 39 131071) rfl (by kernel_rfl) (by kernel_rfl) (by kernel_rfl) (fun K hK => ?_)
  have hP := hS3.1
  go_simp
  go_at_call 41
  refine (btw_rp hr2 c2_ hp2 (by decide) (by decide) (by decide) (GS.out _ _ JP.out JQ.out)).mono ?_
  rintro r w13 ⟨rfl, hb⟩
  dsimp only
  have D13 := Lib.hid (below_step hP hb)
  clear hb
  have hS4 := HO.out _ (D13.out)
  clear hP hS3
  refine hK _ _ hS4 ?_
  clear hK K
  refine wpAnyH_takeM (i := 17) (v := ?v10_17) (l' := bm 39 262143) (a' := ?a10_17) rfl (by kernel_rfl) (by kernel_rfl) (by kernel_rfl) (fun _ _ _ h => h) (Or.inl ⟨by kernel_rfl, ?h10_17⟩) (by kernel_rfl) ?p10_17 hS4 ?r10_17
  case h10_17 => (intro w hS; go_simp; try with_reducible rfl)
  case p10_17 => (go_simp; try with_reducible rfl)
  refine wpAnyH_takeM (i := 18) (v := ?v10_18) (l' := bm 39 524287) (a' := ?a10_18) rfl (by kernel_rfl) (by kernel_rfl) (by kernel_rfl) (fun _ _ _ h => h) (Or.inl ⟨by kernel_rfl, ?h10_18⟩) (by kernel_rfl) ?p10_18 hS4 ?r10_18
  case h10_18 => (intro w hS; go_simp; try with_reducible rfl)
  case p10_18 => (go_simp; try with_reducible rfl)
  refine wpAnyH_takeM (i := 19) (v := ?v10_19) (l' := bm 39 1048575) (a' := ?a10_19) rfl (by kernel_rfl) (by kernel_rfl) (by kernel_rfl) (fun _ _ _ h => h) (Or.inl ⟨by kernel_rfl, ?h10_19⟩) (by kernel_rfl) ?p10_19 hS4 ?r10_19
  case h10_19 => (intro w hS; go_simp; try with_reducible rfl)
  case p10_19 => (go_simp; try with_reducible rfl)
  refine wpAnyH_takeM (i := 20) (v := ?v10_20) (l' := bm 39 2097151) (a' := ?a10_20) rfl (by kernel_rfl) (by kernel_rfl) (by kernel_rfl) (fun _ _ _ h => h) (Or.inl ⟨by kernel_rfl, ?h10_20⟩) (by kernel_rfl) ?p10_20 hS4 ?r10_20
  case h10_20 => (intro w hS; go_simp; try with_reducible rfl)
  case p10_20 => (go_simp; try with_reducible rfl)
  refine wpAnyH_takeM (i := 22) (v := ?v10_22) (l' := bm 39 6291455) (a' := ?a10_22) rfl (by kernel_rfl) (by kernel_rfl) (by kernel_rfl) (fun _ _ _ h => h) (Or.inl ⟨by kernel_rfl, ?h10_22⟩) (by kernel_rfl) ?p10_22 hS4 ?r10_22
  case h10_22 => (intro w hS; go_simp; try with_reducible rfl)
  case p10_22 => (go_simp; try with_reducible rfl)
  refine wpAnyH_takeM (i := 23) (v := ?v10_23) (l' := bm 39 14680063) (a' := ?a10_23) rfl (by kernel_rfl) (by kernel_rfl) (by kernel_rfl) (fun _ _ _ h => h) (Or.inl ⟨by kernel_rfl, ?h10_23⟩) (by kernel_rfl) ?p10_23 hS4 ?r10_23
  case h10_23 => (intro w hS; go_simp; try with_reducible rfl)
  case p10_23 => (go_simp; try with_reducible rfl)
  refine wpAnyH_takeM (i := 24) (v := ?v10_24) (l' := bm 39 31457279) (a' := ?a10_24) rfl (by kernel_rfl) (by kernel_rfl) (by kernel_rfl) (fun _ _ _ h => h) (Or.inl ⟨by kernel_rfl, ?h10_24⟩) (by kernel_rfl) ?p10_24 hS4 ?r10_24
  case h10_24 => (intro w hS; go_simp; try with_reducible rfl)
  case p10_24 => (go_simp; try with_reducible rfl)
  refine wpAnyH_takeM (i := 25) (v := ?v10_25) (l' := bm 39 65011711) (a' := ?a10_25) rfl (by kernel_rfl) (by kernel_rfl) (by kernel_rfl) (fun _ _ _ h => h) (Or.inl ⟨by kernel_rfl, ?h10_25⟩) (by kernel_rfl) ?p10_25 hS4 ?r10_25
  case h10_25 => (intro w hS; go_simp; try with_reducible rfl)
  case p10_25 => (go_simp; try with_reducible rfl)
  refine wpAnyH_oneM (i := 21) (l' := bm 39 67108863) rfl (by kernel_rfl) (by kernel_rfl) (by kernel_rfl) (fun K hK => ?_)
  have hP := hS4.1
  go_simp
  go_at_call 44
  refine (mul_rp (HRX.out _ hP) (HRY.out _ hP) cx cy HPX.out HPY.out (by decide) (by decide) (by decide) (by decide) (by decide) (by decide)).mono ?_
  rintro r w14 ⟨s3_, h3_, c3_, rfl, hr3, hp3, hb⟩
  dsimp only
  have D14 := Lib.hid (below_step hP hb)
  clear hb
  have hS5 := HO.out _ (D14.out)
  clear hP hS4
  refine hK _ _ hS5 ?_
  clear hK K
  refine wpAnyH_oneM (i := 26) (l' := bm 39 134217727) rfl (by kernel_rfl) (by kernel_rfl) (by kernel_rfl) (fun K hK => ?_)
  have hP := hS5.1
  go_simp
  go_at_call 41
  refine (btw_rp hr3 c3_ hp3 (by decide) (by decide) (by decide) (GM.out _ _ JP.out JQ.out)).mono ?_
  rintro r w15 ⟨rfl, hb⟩
  dsimp only
  have D15 := Lib.hid (below_step hP hb)
  clear hb
  have hS6 := HO.out _ (D15.out)
  clear hP hS5
  refine hK _ _ hS6 ?_
  clear hK K
  refine wpAnyH_takeM (i := 27) (v := ?v10_27) (l' := bm 39 268435455) (a' := ?a10_27) rfl (by kernel_rfl) (by kernel_rfl) (by kernel_rfl) (fun _ _ _ h => h) (Or.inl ⟨by kernel_rfl, ?h10_27⟩) (by kernel_rfl) ?p10_27 hS6 ?r10_27
  case h10_27 => (intro w hS; go_simp; try with_reducible rfl)
  case p10_27 => (go_simp; try with_reducible rfl)
  refine wpAnyH_takeM (i := 28) (v := ?v10_28) (l' := bm 39 536870911) (a' := ?a10_28) rfl (by kernel_rfl) (by kernel_rfl) (by kernel_rfl) (fun _ _ _ h => h) (Or.inl ⟨by kernel_rfl, ?h10_28⟩) (by kernel_rfl) ?p10_28 hS6 ?r10_28
  case h10_28 => (intro w hS; go_simp; try with_reducible rfl)
  case p10_28 => (go_simp; try with_reducible rfl)
  refine wpAnyH_takeM (i := 29) (v := ?v10_29) (l' := bm 39 1073741823) (a' := ?a10_29) rfl (by kernel_rfl) (by kernel_rfl) (by kernel_rfl) (fun _ _ _ h => h) (Or.inl ⟨by kernel_rfl, ?h10_29⟩) (by kernel_rfl) ?p10_29 hS6 ?r10_29
  case h10_29 => (intro w hS; go_simp; try with_reducible rfl)
  case p10_29 => (go_simp; try with_reducible rfl)
  refine wpAnyH_takeM (i := 30) (v := ?v10_30) (l' := bm 39 2147483647) (a' := ?a10_30) rfl (by kernel_rfl) (by kernel_rfl) (by kernel_rfl) (fun _ _ _ h => h) (Or.inl ⟨by kernel_rfl, ?h10_30⟩) (by kernel_rfl) ?p10_30 hS6 ?r10_30
  case h10_30 => (intro w hS; go_simp; try with_reducible rfl)
  case p10_30 => (go_simp; try with_reducible rfl)
  refine wpAnyH_takeM (i := 32) (v := ?v10_32) (l' := bm 39 6442450943) (a' := ?a10_32) rfl (by kernel_rfl) (by kernel_rfl) (by kernel_rfl) (fun _ _ _ h => h) (Or.inl ⟨by kernel_rfl, ?h10_32⟩) (by kernel_rfl) ?p10_32 hS6 ?r10_32
  case h10_32 => (intro w hS; go_simp; try with_reducible rfl)
  case p10_32 => (go_simp; try with_reducible rfl)
  refine wpAnyH_takeM (i := 33) (v := ?v10_33) (l' := bm 39 15032385535) (a' := ?a10_33) rfl (by kernel_rfl) (by kernel_rfl) (by kernel_rfl) (fun _ _ _ h => h) (Or.inl ⟨by kernel_rfl, ?h10_33⟩) (by kernel_rfl) ?p10_33 hS6 ?r10_33
  case h10_33 => (intro w hS; go_simp; try with_reducible rfl)
  case p10_33 => (go_simp; try with_reducible rfl)
  refine wpAnyH_takeM (i := 34) (v := ?v10_34) (l' := bm 39 32212254719) (a' := ?a10_34) rfl (by kernel_rfl) (by kernel_rfl) (by kernel_rfl) (fun _ _ _ h => h) (Or.inl ⟨by kernel_rfl, ?h10_34⟩) (by kernel_rfl) ?p10_34 hS6 ?r10_34
  case h10_34 => (intro w hS; go_simp; try with_reducible rfl)
  case p10_34 => (go_simp; try with_reducible rfl)
  refine wpAnyH_takeM (i := 35) (v := ?v10_35) (l' := bm 39 66571993087) (a' := ?a10_35) rfl (by kernel_rfl) (by kernel_rfl) (by kernel_rfl) (fun _ _ _ h => h) (Or.inl ⟨by kernel_rfl, ?h10_35⟩) (by kernel_rfl) ?p10_35 hS6 ?r10_35
  case h10_35 => (intro w hS; go_simp; try with_reducible rfl)
  case p10_35 => (go_simp; try with_reducible rfl)
  refine wpAnyH_oneM (i := 31) (l' := bm 39 68719476735) rfl (by kernel_rfl) (by kernel_rfl) (by kernel_rfl) (fun K hK => ?_)
  have hP := hS6.1
  go_simp
  go_at_call 44
  refine (mul_rp (HRX.out _ hP) (HRX.out _ hP) cx cx HPX.out HPX.out (by decide) (by decide) (by decide) (by decide) (by decide) (by decide)).mono ?_
  rintro r w16 ⟨s4_, h4_, c4_, rfl, hr4, hp4, hb⟩
  dsimp only
  have D16 := Lib.hid (below_step hP hb)
  clear hb
  have hS7 := HO.out _ (D16.out)
  clear hP hS6
  refine hK _ _ hS7 ?_
  clear hK K
  refine wpAnyH_oneM (i := 36) (l' := bm 39 137438953471) rfl (by kernel_rfl) (by kernel_rfl) (by kernel_rfl) (fun K hK => ?_)
  have hP := hS7.1
  go_simp
  go_at_call 41
  refine (btw_rp hr4 c4_ hp4 (by decide) (by decide) (by decide) (GQ.out _ JP.out)).mono ?_
  rintro r w17 ⟨rfl, hb⟩
  dsimp only
  have D17 := Lib.hid (below_step hP hb)
  clear hb
  have hS8 := HO.out _ (D17.out)
  clear hP hS7
  refine hK _ _ hS8 ?_
  clear hK K
  refine wpAnyH_takeM (i := 37) (v := ?v10_37) (l' := bm 39 274877906943) (a' := ?a10_37) rfl (by kernel_rfl) (by kernel_rfl) (by kernel_rfl) (fun _ _ _ h => h) (Or.inl ⟨by kernel_rfl, ?h10_37⟩) (by kernel_rfl) ?p10_37 hS8 ?r10_37
  case h10_37 => (intro w hS; go_simp; try with_reducible rfl)
  case p10_37 => (go_simp; try with_reducible rfl)
  refine wpAnyH_takeM (i := 38) (v := ?v10_38) (l' := bm 39 549755813887) (a' := ?a10_38) rfl (by kernel_rfl) (by kernel_rfl) (by kernel_rfl) (fun _ _ _ h => h) (Or.inl ⟨by kernel_rfl, ?h10_38⟩) (by kernel_rfl) ?p10_38 hS8 ?r10_38
  case h10_38 => (intro w hS; go_simp; try with_reducible rfl)
  case p10_38 => (go_simp; try with_reducible rfl)
  refine wpAnyH_done (by kernel_rfl) ?_ _
  clear hS8
  have hq := (HO.out _ D17.out).2
  go_wp2_with fail
  go_ret
  exact ⟨rfl, below_step HB.out D17.out⟩
theorem walk_holds (a b c d s t : Nat) (ha : a < 18446744073709551616) (hb : b < 18446744073709551616) (hc : c < 18446744073709551616) (hd : d < 18446744073709551616) (hs : s < 18446744073709551616) (ht : t < 18446744073709551616) (w : World) : Calls Try.prog 7 #[.agg #[.float .f64 a, .float .f64 b], .agg #[.float .f64 c, .float .f64 d], .float .f64 s, .float .f64 t] w fun r w' => r = .returned (.bool true) ∧ Below w.heap.size w w' := by
  cases h1 : vdB a b
  · exact holds_n1 a b c d s t ha hb hc hd h1 w
  · cases h2 : vdB c d
    · exact holds_n2 a b c d s t ha hb hc hd h1 h2 w
    · exact holds_y ⟨a, b, vdB_true ha hb h1⟩ ⟨c, d, vdB_true hc hd h2⟩ s t hs ht w
end Go.Proofs.Ytlpnfgglpoppfaa
