/- Shaken: Wj Vi Vl Gf Yc Ua RowV. -/
import Derived.Test.YtnljfcebmgifdaaZRabcef
import Derived.Test.YtnljfcebmgifdaaZTb
set_option maxRecDepth 100000
set_option maxHeartbeats 2000000
set_option linter.unusedVariables false
set_option linter.unusedSimpArgs false
namespace Go.Proofs.Ytnljfcebmgifdaa
open Go.RowKit Ieee
end Go.Proofs.Ytnljfcebmgifdaa
namespace Go.Proofs.Ytnljfcebmgifdaa
open Go.RowKit Ieee
theorem RtR.yes {N i r : Nat} (h : RtR N i r) (hi : i < 58) (hc : (r + 2 ^ (57 - i)) * (r + 2 ^ (57 - i)) ≤ N) : RtR N (i + 1) (r + 2 ^ (57 - i)) := by
 have hb := h.bit hi
 refine ⟨hi, hc, ?_, hb.2.1, ?_⟩
 · have := h.high
   rw [show 58 - i = (57 - i) + 1 by omega, Nat.pow_succ, Nat.mul_two, ← Nat.add_assoc] at this
   rw [show 58 - (i + 1) = 57 - i by omega]
   exact this
 · have := h.dvd
   rw [show 58 - i = (57 - i) + 1 by omega, Nat.pow_succ] at this
   rw [show 58 - (i + 1) = 57 - i by omega, Nat.add_mod_right]
   exact Nat.mod_eq_zero_of_dvd (Nat.dvd_trans (Nat.dvd_mul_right _ 2) (Nat.dvd_of_mod_eq_zero this))
theorem rt_mul0 {x : Nat} (h : x < 18446744073709551616) : ∃ ph pl : Nat, (x * x = ph * 18446744073709551616 + pl ∧ pl < 18446744073709551616) ∧ (∀ w, Calls Try.prog 151 #[.int .u64 (x : Int), .int .u64 (x : Int)] w fun e w' => e = .returned (.tuple #[.int .u64 (ph : Int), .int .u64 (pl : Int)]) ∧ w = w') :=
 ⟨x * x / 18446744073709551616, x * x % 18446744073709551616, ⟨by generalize x * x = y; omega, Nat.mod_lt _ (by decide)⟩, fun w => mul64_any x x h h w⟩
theorem rt_mul {N k a : Nat} (h : RtR N k a) (hk : k < 58) : ∃ T : Nat, (T = a + 2 ^ (57 - k)) ∧ bits .or .u64 (a : Int) (IntKind.u64.wrap (2 ^ (57 - k))) = (T : Int) ∧ ∃ ph pl : Nat, (T * T = ph * 18446744073709551616 + pl ∧ pl < 18446744073709551616) ∧
   (∀ w, Calls Try.prog 151 #[.int .u64 (T : Int), .int .u64 (T : Int)] w fun e w' => e = .returned (.tuple #[.int .u64 (ph : Int), .int .u64 (pl : Int)]) ∧ w = w') := by
 obtain ⟨b1, b2, b3⟩ := h.bit hk
 refine ⟨_, rfl, ?_, rt_mul0 (by omega)⟩
 have e1 : ((2 : Int) ^ (57 - k)) = ((2 ^ (57 - k) : Nat) : Int) := by simp
 have e2 : IntKind.u64.wrap ((2 ^ (57 - k) : Nat) : Int) = ((2 ^ (57 - k) : Nat) : Int) := by
   generalize 2 ^ (57 - k) = z at *
   rw [IntKind.wrap_u64]; omega
 rw [e1, e2]
 have := bits_or_u64_nat a (2 ^ (57 - k)) (by have := h.lt; omega) b3
 rw [b1] at this
 exact this
end Go.Proofs.Ytnljfcebmgifdaa
set_option linter.unusedVariables false
set_option linter.unusedSimpArgs false
namespace Go.Proofs.Ytnljfcebmgifdaa
open Go.RowKit Ieee
theorem LdR.yes {X N k q r : Nat} (h : LdR X N k q r) (hk : k < 60) (hc : N ≤ r) : LdR X N (k + 1) (q * 2 + 1) ((r - N) * 2) := by
 refine ⟨hk, ?_, by have := h.lt; omega⟩
 have h1 := h.eq
 rw [Nat.pow_succ, ← Nat.mul_assoc X, ← h1]
 have h2 : (q * 2 + 1) * N = 2 * (q * N) + N := by rw [Nat.add_mul, Nat.one_mul, Nat.mul_right_comm, Nat.mul_comm]
 omega
end Go.Proofs.Ytnljfcebmgifdaa
set_option linter.unusedVariables false
set_option linter.unusedSimpArgs false
namespace Go.Proofs.Ytnljfcebmgifdaa
open Go.RowKit Ieee
theorem pos_cmp (a : Nat) (ha : a < 18446744073709551616) (fa : Fl.fin a = true) (hp : 0 < Fl.Z a) :
   (FloatKind.f64.format.order a 0 == some .lt) = false ∧ (FloatKind.f64.format.order a 0 == some .eq) = false ∧ Fl.sM a ≠ 0 := by
 have hn := Fl.nan_of_fin fa
 have z0 : Fl.Z 0 = 0 := by decide
 have hm : Fl.mg a ≠ 0 := by
   intro h
   unfold Fl.Z at hp
   rw [h, Fl.rv_zero] at hp
   revert hp
   cases Fl.sg a <;> simp
 refine ⟨?_, ?_, fun h => hm ((Fl.sM_zero a).1 h)⟩
 · refine (Fl.lt_eq (a := a) (b := 0) ha (by decide) hn (by decide)).trans ?_
   rw [z0]
   exact decide_eq_false (by omega)
 · rw [eq0_of a ha fa]
   exact decide_eq_false hm
end Go.Proofs.Ytnljfcebmgifdaa
namespace Go.Proofs.Ytnljfcebmgifdaa
open Go.RowKit Ieee
end Go.Proofs.Ytnljfcebmgifdaa
namespace Go.Proofs.Ytnljfcebmgifdaa
open Go.RowKit Ieee
section
variable (F : FuncId)
end
end Go.Proofs.Ytnljfcebmgifdaa
namespace Go.Proofs.Ytnljfcebmgifdaa
open Go.RowKit Ieee
theorem Z_lt0 (a : Nat) (ha : a < 18446744073709551616) (fa : Fl.fin a = true) : (FloatKind.f64.format.order a 0 == some .lt) = decide (Fl.Z a < 0) := by
 have z0 : Fl.Z 0 = 0 := by decide
 refine (Fl.lt_eq (a := a) (b := 0) ha (by decide) (Fl.nan_of_fin fa) (by decide)).trans ?_
 rw [z0]
theorem Z_pos {a : Nat} (h1 : ¬ Fl.Z a < 0) (h2 : Fl.mg a ≠ 0) : 0 < Fl.Z a := by
 have := Fl.rv_pos (r := Fl.mg a) (by omega)
 unfold Fl.Z at h1 ⊢
 revert h1
 cases Fl.sg a
 · simp; omega
 · simp; omega
end Go.Proofs.Ytnljfcebmgifdaa
set_option linter.unusedVariables false
set_option linter.unusedSimpArgs false
namespace Go.Proofs.Ytnljfcebmgifdaa
open Go.RowKit Fl
theorem lt0_gd {x : Nat} (h : Gd x) : (FloatKind.f64.format.order x 0 == some .lt) = decide (Z x < 0) := by
 have z0 : Z 0 = 0 := by decide
 have := ltb h gd0
 rw [z0] at this
 exact this
theorem rsqr_w (a : Sp) (h : a.wide = true) (w : World) : Calls Try.prog 69 #[.agg #[.float .f64 a.lo, .float .f64 a.hi]] w fun r w' => r = .returned (.agg #[.float .f64 0, .float .f64 9218868437227405312]) ∧ Below w.heap.size w w' := by
 have H1 := Lib.hid (fun w => rwide_sp a w)
 have I := Lib.hid (fun w => rall_below w)
 rw [h] at H1
 clear h
 go_enter Try.func69, Try.ntmps69
 go_wp2_with fail
 obtain ⟨W, hW, K0, K1, hB, hz⟩ := box2 w 28 28 #[Value.float FloatKind.f64 a.lo, Value.float FloatKind.f64 a.hi] #[Value.float FloatKind.f64 0, Value.float FloatKind.f64 0]
 rw [← hW]
 have K0 := Lib.hid K0
 have K1 := Lib.hid K1
 have HB := Lib.hid hB
 clear hW hB hz
 have HO := Lib.hid (show ∀ w', Hd W (w.heap.size + 1) 28 2 w' → (Hd W (w.heap.size + 1) 28 2 w' ∧ w'.cell? ⟨w.heap.size, 0, none⟩ = some (Value.float FloatKind.f64 a.lo) ∧ w'.cell? ⟨w.heap.size, 1, none⟩ = some (Value.float FloatKind.f64 a.hi) ∧ w'.cell? ⟨w.heap.size + 1, 0, none⟩ = some (cellAt w' ⟨w.heap.size + 1, 0, none⟩) ∧ w'.frozen? ⟨w.heap.size + 1, 0, none⟩ = false ∧ w'.cell? ⟨w.heap.size + 1, 1, none⟩ = some (cellAt w' ⟨w.heap.size + 1, 1, none⟩) ∧ w'.frozen? ⟨w.heap.size + 1, 1, none⟩ = false) from fun w' h => ⟨h, (h.blk K0.out (by omega)).cell 0, (h.blk K0.out (by omega)).cell 1, (h.at_ 0 (by decide)).1, (h.at_ 0 (by decide)).2, (h.at_ 1 (by decide)).1, (h.at_ 1 (by decide)).2⟩)
 have D0 := Lib.hid (show Hd W (w.heap.size + 1) 28 2 W from Hd.start K1.out)
 refine (H1.out _).mono ?_
 rintro r w1 ⟨rfl, hb⟩
 have D1 := Lib.hid (Hd.call D0.out hb)
 clear hb
 obtain ⟨-, q0, q1, q2, q3, q4, q5⟩ := HO.out _ D1.out
 have z1 := Hd.lt D1.out
 go_wp2_with fail
 refine (I.out _).mono ?_
 rintro r w2 ⟨rfl, hb⟩
 have D2 := Lib.hid (Hd.call D1.out hb)
 clear hb
 clear q0 q1 q2 q3 q4 q5
 obtain ⟨-, q0, q1, q2, q3, q4, q5⟩ := HO.out _ D2.out
 have z2 := Hd.lt D2.out
 go_wp2_with fail
 (try simp only [Exit.inBlock, Exit.then])
 have hF := (Hd.set (Hd.set D2.out 0 (.float .f64 0)) 1 (.float .f64 9218868437227405312))
 exact bodyPost_ret (resS rfl _ _ (w.heap.size + 1) (.float .f64 0) (.float .f64 9218868437227405312) rfl (Hd.wrote2 hF)) rfl ⟨rfl, Hd.below hF HB.out (by omega)⟩
theorem rsqr_h (a : Sp) (h : a.wide = false) (k : has0 a = true) (w : World) : Calls Try.prog 69 #[.agg #[.float .f64 a.lo, .float .f64 a.hi]] w fun r w' => r = .returned (.agg #[.float .f64 0, .float .f64 (mulS a a).hi]) ∧ Below w.heap.size w w' := by
 have H1 := Lib.hid (fun w => rwide_sp a w)
 have H2 := Lib.hid (fun w => rmul_sp a a w)
 rw [h] at H1
 have B1 := le0_gd a.vd.l
 have B2 := ge0_gd a.vd.h
 have B3 : decide (Z a.lo ≤ 0) = true ∧ decide (0 ≤ Z a.hi) = true := by unfold has0 at k; simpa using k
 generalize decide (Z a.lo ≤ 0) = p1 at *
 generalize decide (0 ≤ Z a.hi) = p2 at *
 generalize mulS a a = s at *
 clear h k
 obtain ⟨rfl, rfl⟩ := B3
 go_enter Try.func69, Try.ntmps69
 go_wp2_with fail
 obtain ⟨W, hW, K0, K1, hB, hz⟩ := box2 w 28 28 #[Value.float FloatKind.f64 a.lo, Value.float FloatKind.f64 a.hi] #[Value.float FloatKind.f64 0, Value.float FloatKind.f64 0]
 rw [← hW]
 have K0 := Lib.hid K0
 have K1 := Lib.hid K1
 have HB := Lib.hid hB
 clear hW hB hz
 have HO := Lib.hid (show ∀ w', Hd W (w.heap.size + 1) 28 2 w' → (Hd W (w.heap.size + 1) 28 2 w' ∧ w'.cell? ⟨w.heap.size, 0, none⟩ = some (Value.float FloatKind.f64 a.lo) ∧ w'.cell? ⟨w.heap.size, 1, none⟩ = some (Value.float FloatKind.f64 a.hi) ∧ w'.cell? ⟨w.heap.size + 1, 0, none⟩ = some (cellAt w' ⟨w.heap.size + 1, 0, none⟩) ∧ w'.frozen? ⟨w.heap.size + 1, 0, none⟩ = false ∧ w'.cell? ⟨w.heap.size + 1, 1, none⟩ = some (cellAt w' ⟨w.heap.size + 1, 1, none⟩) ∧ w'.frozen? ⟨w.heap.size + 1, 1, none⟩ = false) from fun w' h => ⟨h, (h.blk K0.out (by omega)).cell 0, (h.blk K0.out (by omega)).cell 1, (h.at_ 0 (by decide)).1, (h.at_ 0 (by decide)).2, (h.at_ 1 (by decide)).1, (h.at_ 1 (by decide)).2⟩)
 have D0 := Lib.hid (show Hd W (w.heap.size + 1) 28 2 W from Hd.start K1.out)
 refine (H1.out _).mono ?_
 rintro r w1 ⟨rfl, hb⟩
 have D1 := Lib.hid (Hd.call D0.out hb)
 clear hb
 obtain ⟨-, q0, q1, q2, q3, q4, q5⟩ := HO.out _ D1.out
 have z1 := Hd.lt D1.out
 go_wp2_with fail
 refine (H2.out _).mono ?_
 rintro r w2 ⟨rfl, hb⟩
 have D2 := Lib.hid (Hd.call D1.out hb)
 clear hb
 clear q0 q1 q2 q3 q4 q5
 obtain ⟨-, q0, q1, q2, q3, q4, q5⟩ := HO.out _ D2.out
 have z2 := Hd.lt D2.out
 have hz9 := z2
 have y0 : w.heap.size < w2.heap.size := by omega
 obtain ⟨g, hg⟩ : ∃ g, w2.heap.size = g := ⟨_, rfl⟩
 obtain ⟨V, hV⟩ : ∃ V, w2.alloc (.cells #[Value.float FloatKind.f64 s.lo, Value.float FloatKind.f64 s.hi] 28) = V := ⟨_, rfl⟩
 have O0 : Blk V g 28 #[Value.float FloatKind.f64 s.lo, Value.float FloatKind.f64 s.hi] := by rw [← hV, ← hg]; exact Blk.new_at _ _ _ rfl
 have E0 := Lib.hid (hV ▸ Hd.alloc D2.out _ : Hd W (w.heap.size + 1) 28 2 V)
 rw [hg] at hz9 y0
 obtain ⟨o0, o1, o2, o3⟩ := O0.both
 clear q0 q1 q2 q3 q4 q5 z2
 obtain ⟨-, q0, q1, q2, q3, q4, q5⟩ := HO.out _ E0.out
 have O0' := Lib.hid O0
 clear O0
 obtain ⟨V1, hV1⟩ : ∃ V1, V.setCell ⟨g, 0, none⟩ (.float .f64 0) = V1 := ⟨_, rfl⟩
 have O1 := (hV1 ▸ Blk.set_ O0'.out 0 _ : Blk V1 g 28 #[.float .f64 0, .float .f64 s.hi])
 have E1 := Lib.hid (hV1 ▸ Hd.far E0.out (by omega) 0 _ : Hd W (w.heap.size + 1) 28 2 V1)
 obtain ⟨r0, r1, r2, r3⟩ := O1.both
 obtain ⟨-, p0, p1, p2, p3, p4, p5⟩ := HO.out _ E1.out
 go_wp2_with fail
 (try simp only [Exit.inBlock, Exit.then])
 have hF := Hd.set (Hd.set E1.out 0 (.float .f64 0)) 1 (.float .f64 s.hi)
 exact bodyPost_ret (resS rfl _ _ (w.heap.size + 1) (.float .f64 0) (.float .f64 s.hi) rfl (Hd.wrote2 hF)) rfl ⟨rfl, Hd.below hF HB.out (by omega)⟩
theorem rsqr_n (a : Sp) (h : a.wide = false) (k : has0 a = false) (w : World) : Calls Try.prog 69 #[.agg #[.float .f64 a.lo, .float .f64 a.hi]] w fun r w' => r = .returned (.agg #[.float .f64 (mulS a a).lo, .float .f64 (mulS a a).hi]) ∧ Below w.heap.size w w' := by
 have H1 := Lib.hid (fun w => rwide_sp a w)
 have H2 := Lib.hid (fun w => rmul_sp a a w)
 rw [h] at H1
 have B1 := le0_gd a.vd.l
 have B2 := ge0_gd a.vd.h
 have B3 : (decide (Z a.lo ≤ 0) = false) ∨ (decide (Z a.lo ≤ 0) = true ∧ decide (0 ≤ Z a.hi) = false) := by
   unfold has0 at k
   cases p : decide (Z a.lo ≤ 0)
   · exact Or.inl rfl
   · rw [p, Bool.true_and] at k
     exact Or.inr ⟨rfl, k⟩
 generalize decide (Z a.lo ≤ 0) = p1 at *
 generalize decide (0 ≤ Z a.hi) = p2 at *
 generalize mulS a a = s at *
 clear h k
 rcases B3 with rfl | ⟨rfl, rfl⟩
 all_goals
   go_enter Try.func69, Try.ntmps69
   go_wp2_with fail
   obtain ⟨W, hW, K0, K1, hB, hz⟩ := box2 w 28 28 #[Value.float FloatKind.f64 a.lo, Value.float FloatKind.f64 a.hi] #[Value.float FloatKind.f64 0, Value.float FloatKind.f64 0]
   rw [← hW]
   have K0 := Lib.hid K0
   have K1 := Lib.hid K1
   have HB := Lib.hid hB
   clear hW hB hz
   have HO := Lib.hid (show ∀ w', Hd W (w.heap.size + 1) 28 2 w' → (Hd W (w.heap.size + 1) 28 2 w' ∧ w'.cell? ⟨w.heap.size, 0, none⟩ = some (Value.float FloatKind.f64 a.lo) ∧ w'.cell? ⟨w.heap.size, 1, none⟩ = some (Value.float FloatKind.f64 a.hi) ∧ w'.cell? ⟨w.heap.size + 1, 0, none⟩ = some (cellAt w' ⟨w.heap.size + 1, 0, none⟩) ∧ w'.frozen? ⟨w.heap.size + 1, 0, none⟩ = false ∧ w'.cell? ⟨w.heap.size + 1, 1, none⟩ = some (cellAt w' ⟨w.heap.size + 1, 1, none⟩) ∧ w'.frozen? ⟨w.heap.size + 1, 1, none⟩ = false) from fun w' h => ⟨h, (h.blk K0.out (by omega)).cell 0, (h.blk K0.out (by omega)).cell 1, (h.at_ 0 (by decide)).1, (h.at_ 0 (by decide)).2, (h.at_ 1 (by decide)).1, (h.at_ 1 (by decide)).2⟩)
   have D0 := Lib.hid (show Hd W (w.heap.size + 1) 28 2 W from Hd.start K1.out)
   refine (H1.out _).mono ?_
   rintro r w1 ⟨rfl, hb⟩
   have D1 := Lib.hid (Hd.call D0.out hb)
   clear hb
   obtain ⟨-, q0, q1, q2, q3, q4, q5⟩ := HO.out _ D1.out
   have z1 := Hd.lt D1.out
   go_wp2_with fail
   refine (H2.out _).mono ?_
   rintro r w2 ⟨rfl, hb⟩
   have D2 := Lib.hid (Hd.call D1.out hb)
   clear hb
   clear q0 q1 q2 q3 q4 q5
   obtain ⟨-, q0, q1, q2, q3, q4, q5⟩ := HO.out _ D2.out
   have z2 := Hd.lt D2.out
   have hz9 := z2
   have y0 : w.heap.size < w2.heap.size := by omega
   obtain ⟨g, hg⟩ : ∃ g, w2.heap.size = g := ⟨_, rfl⟩
   obtain ⟨V, hV⟩ : ∃ V, w2.alloc (.cells #[Value.float FloatKind.f64 s.lo, Value.float FloatKind.f64 s.hi] 28) = V := ⟨_, rfl⟩
   have O0 : Blk V g 28 #[Value.float FloatKind.f64 s.lo, Value.float FloatKind.f64 s.hi] := by rw [← hV, ← hg]; exact Blk.new_at _ _ _ rfl
   have E0 := Lib.hid (hV ▸ Hd.alloc D2.out _ : Hd W (w.heap.size + 1) 28 2 V)
   rw [hg] at hz9 y0
   obtain ⟨o0, o1, o2, o3⟩ := O0.both
   clear q0 q1 q2 q3 q4 q5 z2
   obtain ⟨-, q0, q1, q2, q3, q4, q5⟩ := HO.out _ E0.out
   have O0' := Lib.hid O0
   clear O0
   go_wp2_with fail
   (try simp only [Exit.inBlock, Exit.then])
   have hF := Hd.set (Hd.set E0.out 0 (.float .f64 s.lo)) 1 (.float .f64 s.hi)
   exact bodyPost_ret (resS rfl _ _ (w.heap.size + 1) (.float .f64 s.lo) (.float .f64 s.hi) rfl (Hd.wrote2 hF)) rfl ⟨rfl, Hd.below hF HB.out (by omega)⟩
theorem rsqr_sp (a : Sp) (w : World) : Calls Try.prog 69 #[.agg #[.float .f64 a.lo, .float .f64 a.hi]] w fun r w' => r = .returned (.agg #[.float .f64 (sqrS a).lo, .float .f64 (sqrS a).hi]) ∧ Below w.heap.size w w' := by
 cases h : a.wide
 · cases k : has0 a
   · rw [sqrS_not h k]; exact rsqr_n a h k w
   · rw [sqrS_has h k]; exact rsqr_h a h k w
 · rw [sqrS_wide h]; exact rsqr_w a h w
end Go.Proofs.Ytnljfcebmgifdaa
namespace Go.Proofs.Ytnljfcebmgifdaa
open Go.RowKit Fl
end Go.Proofs.Ytnljfcebmgifdaa
namespace Go.Proofs.Ytnljfcebmgifdaa
open Go.RowKit Fl
end Go.Proofs.Ytnljfcebmgifdaa
namespace Go.Proofs.Ytnljfcebmgifdaa
open Go.RowKit Fl
end Go.Proofs.Ytnljfcebmgifdaa
namespace Go.Proofs.Ytnljfcebmgifdaa
open Go.RowKit Fl
end Go.Proofs.Ytnljfcebmgifdaa
namespace Go.Proofs.Ytnljfcebmgifdaa
open Go.RowKit Fl
end Go.Proofs.Ytnljfcebmgifdaa
set_option linter.unusedVariables false
set_option linter.unusedSimpArgs false
namespace Go.Proofs.Ytnljfcebmgifdaa
open Fl
def zeroV : V3 := ⟨zeroS, zeroS, zeroS⟩
def zeroA : Af := ⟨zeroV, zeroV, zeroV, zeroV⟩
end Go.Proofs.Ytnljfcebmgifdaa
set_option linter.unusedVariables false
set_option linter.unusedSimpArgs false
namespace Go.Proofs.Ytnljfcebmgifdaa
open Go.RowKit Fl
theorem Af.ext {a b : Af} (h1 : a.a = b.a) (h2 : a.b = b.b) (h3 : a.c = b.c) (h4 : a.t = b.t) : a = b := by
 cases a; cases b; simp only at h1 h2 h3 h4; subst h1 h2 h3 h4; rfl
end Go.Proofs.Ytnljfcebmgifdaa
set_option linter.unusedVariables false
set_option linter.unusedSimpArgs false
namespace Go.Proofs.Ytnljfcebmgifdaa
open Go.ChangeShapes Go.WideShapes Go.ChangeAt Go.RowKit Go.Joins
section
variable {H : Type} {enc : TypeId × Value → H} {w : World} {base : Nat} {spare : Nat → Bool} {held : Bool}
theorem list3 {α : Type} {l : List α} (h : l.length = 3) : ∃ x0 x1 x2, l = [x0, x1, x2] := by
 match l, h with
 | [x0, x1, x2], _ => exact ⟨x0, x1, x2, rfl⟩
abbrev shT : List Nat → DataW H := sh3 1 shF
theorem flatT : Flat enc w base spare held 24 3 shT := (flat3 Try.underlying24 (by kernel_rfl) (by kernel_rfl) (flatF Try.underlying22))
theorem open_tri {r : Reach} {b0 : Nat} {v : Value} {d : DataW H} {p : List MemPlace} (hv : Value.okWide Try.prog w r b0 24 v) (h : DataW.Trod enc Try.prog w base spare held 24 v d p) :
   ∃ x0 x1 x2 : Nat, v = .agg #[.float .f64 x0, .float .f64 x1, .float .f64 x2] ∧ d = shT [x0, x1, x2] ∧ p = [] ∧ (wfF x0 ∧ wfF x1 ∧ wfF x2) := by
 obtain ⟨cs, rfl, hsz⟩ := okWide_arr Try.underlying24 hv
 obtain ⟨ws, e, hl, rfl, rfl, hw⟩ := flat_open flatT (hsz.trans (by kernel_rfl)) h
 obtain ⟨x0, x1, x2, rfl⟩ := list3 hl
 refine ⟨x0, x1, x2, ?_, rfl, rfl, hw _ (by simp), hw _ (by simp), hw _ (by simp)⟩
 rw [show cs = cs.toList.toArray by simp, e]; rfl
theorem shut_tri {x0 x1 x2 : Nat} (h : wfF x0 ∧ wfF x1 ∧ wfF x2) : DataW.Trod enc Try.prog w base spare held 24 (.agg #[.float .f64 x0, .float .f64 x1, .float .f64 x2]) (shT [x0, x1, x2]) [] := by
 obtain ⟨h0, h1, h2⟩ := h
 exact flat_shut flatT [x0, x1, x2] rfl (by intro x hx; simp only [List.mem_cons, List.not_mem_nil, or_false] at hx; rcases hx with rfl | rfl | rfl <;> assumption)
end
end Go.Proofs.Ytnljfcebmgifdaa
