/- Plain and walk: with both signs turned the other rounding's opposite is told (gen_vp.py). -/
import Derived.Test.YthkfaacgabkhhaaVl
set_option linter.unusedVariables false
set_option linter.unusedSimpArgs false
namespace Go.Proofs.Ythkfaacgabkhhaa
open Go.RowKit Ieee

/-- 0 - a. -/
def ng (a : Nat) : Nat := if Fl.mg a = 0 then 0 else Fl.flip a
theorem ng_lt (a : Nat) : ng a < 18446744073709551616 := by
  unfold ng; split
  · omega
  · exact Fl.flip_lt a
theorem ng_mg (a : Nat) : Fl.mg (ng a) = Fl.mg a := by
  unfold ng; split
  · rename_i h; rw [h]; rfl
  · exact Fl.flip_mg a
theorem ng_sg (a : Nat) (h : Fl.mg a ≠ 0) : Fl.sg (ng a) = !Fl.sg a := by
  unfold ng
  rw [if_neg h]; exact Fl.flip_sg a
theorem ng_fin (a : Nat) : Fl.fin (ng a) = Fl.fin a := by unfold Fl.fin; rw [ng_mg]
theorem ng_nan (a : Nat) : Fl.nan (ng a) = Fl.nan a := by unfold Fl.nan; rw [ng_mg]
theorem ng_sM (a : Nat) : Fl.sM (ng a) = Fl.sM a := by unfold Fl.sM; rw [ng_mg]
theorem ng_sE (a : Nat) : Fl.sE (ng a) = Fl.sE a := by unfold Fl.sE; rw [ng_mg]
theorem ng_Z (a : Nat) : Fl.Z (ng a) = -Fl.Z a := by
  unfold ng; split
  · rename_i h
    unfold Fl.Z
    rw [h]
    have : Fl.mg 0 = 0 := rfl
    rw [this, Fl.rv_zero]
    cases Fl.sg a <;> cases Fl.sg 0 <;> rfl
  · exact Fl.flip_Z a
theorem ng_sub (a : Nat) (h : a < 18446744073709551616) (hn : Fl.nan a = false) : floatBits .sub .f64 0 a = some (ng a) := zero_sub64 a h hn

theorem Z_wrd (n : Bool) {r : Nat} (h : r ≤ Fl.INF) : Fl.Z (Fl.wrd n r) = if n then -(Fl.rv r : Int) else (Fl.rv r : Int) := by
  have hs : r < Fl.SGN := Nat.lt_of_le_of_lt h Fl.inf_sgn
  unfold Fl.Z
  rw [Fl.wrd_sg n hs, Fl.wrd_mg n hs]
theorem Z_pl (b : Nat) : Fl.Z (Fl.pl b) = Fl.Z b := by
  unfold Fl.pl
  split
  · rename_i h; rw [h]; decide
  · rfl
theorem toVal_ok (n d : Bool) (W : Nat) (e : Int) (m : Bool) : toVal n d W e m < 18446744073709551616 ∧ Fl.nan (toVal n d W e m) = false := by
  unfold toVal
  have h := wrd_ok n (Fl.near (n == d) W e m) (near_le _ _ _ _)
  generalize Fl.wrd n (Fl.near (n == d) W e m) = b at *
  unfold Fl.pl
  split
  · exact ⟨by omega, by decide⟩
  · exact h
theorem Z_toVal (n d : Bool) (W : Nat) (e : Int) (m : Bool) : Fl.Z (toVal n d W e m) = if n then -(Fl.rv (Fl.near (n == d) W e m) : Int) else (Fl.rv (Fl.near (n == d) W e m) : Int) := by
  unfold toVal
  rw [Z_pl, Z_wrd n (near_le _ _ _ _)]
theorem toVal_turn (n : Bool) (W : Nat) (e : Int) (m : Bool) : Fl.Z (toVal n true W e m) = -Fl.Z (toVal (!n) false W e m) := by
  rw [Z_toVal, Z_toVal, show ((!n) == false) = (n == true) by cases n <;> rfl]
  cases n <;> simp

theorem sumFin_turn (na nb : Bool) (A B : Nat) (e : Int) (m : Bool) : sumFin (!na) (!nb) A B e m = (!(sumFin na nb A B e m).1, (sumFin na nb A B e m).2) := by
  unfold sumFin
  rw [show ((!na) == (!nb)) = (na == nb) by cases na <;> cases nb <;> rfl]
  split
  · rfl
  · split
    · rfl
    · split <;> rfl
theorem sumCore_turn (na nb : Bool) (A B : Nat) (ea eb : Int) : sumCore (!na) (!nb) A B ea eb = (!(sumCore na nb A B ea eb).1, (sumCore na nb A B ea eb).2) := by
  unfold sumCore
  split
  · exact sumFin_turn na nb _ _ _ _
  · exact sumFin_turn na nb _ _ _ _

theorem toS_turn (s : Bool × Nat × Int × Bool) : Fl.Z (toS true s) = -Fl.Z (toS false (!s.1, s.2)) := toVal_turn _ _ _ _
theorem Z0 : Fl.Z 0 = 0 := by decide

theorem sum_turn (a b : Nat) : Fl.Z (toS true (sumOf (Fl.sg a) (Fl.sg b) (Fl.sM a) (Fl.sM b) (Fl.sE a) (Fl.sE b))) =
    -Fl.Z (toS false (sumOf (Fl.sg (ng a)) (Fl.sg (ng b)) (Fl.sM (ng a)) (Fl.sM (ng b)) (Fl.sE (ng a)) (Fl.sE (ng b)))) := by
  rw [ng_sM, ng_sM, ng_sE, ng_sE]
  unfold sumOf
  by_cases hA : Fl.sM a = 0
  · rw [if_pos hA, if_pos hA]
    by_cases hB : Fl.sM b = 0
    · unfold toS
      dsimp only
      rw [hB, toVal_zero, toVal_zero, Z0]; rfl
    · have hb : Fl.mg b ≠ 0 := fun h => hB ((Fl.sM_zero b).2 h)
      rw [ng_sg b hb]
      exact toVal_turn _ _ _ _
  · have ha : Fl.mg a ≠ 0 := fun h => hA ((Fl.sM_zero a).2 h)
    rw [if_neg hA, if_neg hA, ng_sg a ha]
    by_cases hB : Fl.sM b = 0
    · rw [if_pos hB, if_pos hB]
      exact toVal_turn _ _ _ _
    · have hb : Fl.mg b ≠ 0 := fun h => hB ((Fl.sM_zero b).2 h)
      rw [if_neg hB, if_neg hB, ng_sg b hb]
      split
      · rw [sumCore_turn]; exact toS_turn _
      · rw [sumCore_turn]; exact toS_turn _

theorem add_turn (a b : Nat) : (addR a b true).2 = (addR (ng a) (ng b) false).2 ∧ Fl.Z (addR a b true).1 = -Fl.Z (addR (ng a) (ng b) false).1 := by
  unfold addR
  rw [ng_fin, ng_fin]
  split
  · exact ⟨rfl, sum_turn a b⟩
  · exact ⟨rfl, by rw [Z0]; rfl⟩
theorem mul_turn (a b : Nat) : (mulR a b true).2 = (mulR (ng a) b false).2 ∧ Fl.Z (mulR a b true).1 = -Fl.Z (mulR (ng a) b false).1 := by
  unfold mulR
  rw [ng_fin]
  split
  · refine ⟨rfl, ?_⟩
    unfold mulV
    rw [ng_sM, ng_sE]
    by_cases hA : Fl.sM a = 0
    · rw [hA, Nat.zero_mul, toVal_zero, toVal_zero, Z0]; rfl
    · have ha : Fl.mg a ≠ 0 := fun h => hA ((Fl.sM_zero a).2 h)
      rw [ng_sg a ha, show ((!Fl.sg a) != Fl.sg b) = !(Fl.sg a != Fl.sg b) by cases Fl.sg a <;> cases Fl.sg b <;> rfl]
      exact toVal_turn _ _ _ _
  · exact ⟨rfl, by rw [Z0]; rfl⟩
theorem addR_ok (a b : Nat) (d : Bool) : (addR a b d).1 < 18446744073709551616 ∧ Fl.nan (addR a b d).1 = false := by
  unfold addR
  split
  · exact toVal_ok _ _ _ _ _
  · exact ⟨by decide, by decide⟩
theorem mulR_ok (a b : Nat) (d : Bool) : (mulR a b d).1 < 18446744073709551616 ∧ Fl.nan (mulR a b d).1 = false := by
  unfold mulR
  split
  · exact toVal_ok _ _ _ _ _
  · exact ⟨by decide, by decide⟩
theorem eq_ng {x y : Nat} (hx : x < 18446744073709551616 ∧ Fl.nan x = false) (hy : y < 18446744073709551616 ∧ Fl.nan y = false) (h : Fl.Z x = -Fl.Z y) : (FloatKind.f64.format.order x (ng y) == some .eq) = true := by
  refine (Fl.eq_eq (a := x) (b := ng y) hx.1 (ng_lt y) hx.2 (by rw [ng_nan]; exact hy.2)).trans ?_
  rw [ng_Z]
  exact decide_eq_true h

theorem add_not (c d : Nat) (dn : Bool) (hc : c < 18446744073709551616) (hd : d < 18446744073709551616) (h : (Fl.fin c && Fl.fin d) = false) (w : World) :
    Calls Try.prog 14 #[.float .f64 c, .float .f64 d, .bool dn] w fun r w' => r = .returned (.tuple #[.float .f64 0, .int .i64 10]) ∧ Below w.heap.size w w' := add_bad c d dn hc hd h w
theorem mul_not (c d : Nat) (dn : Bool) (hc : c < 18446744073709551616) (hd : d < 18446744073709551616) (h : (Fl.fin c && Fl.fin d) = false) (w : World) :
    Calls Try.prog 28 #[.float .f64 c, .float .f64 d, .bool dn] w fun r w' => r = .returned (.tuple #[.float .f64 0, .int .i64 10]) ∧ Below w.heap.size w w' := mul_bad c d dn hc hd h w
theorem below_d1 {w1 w2 : World} (h : Below w1.drew.heap.size w1.drew w2) : Below w1.heap.size w1 w2 := ((Below.refl _ w1).drew).trans h
theorem below_d2 {w1 w2 : World} (h : Below w1.drew.drew.heap.size w1.drew.drew w2) : Below w1.heap.size w1 w2 := (((Below.refl _ w1).drew).drew).trans h
theorem fin_nan {a : Nat} (h : Fl.nan a = true) : Fl.fin a = false := by
  have h1 : Fl.INF < Fl.mg a := of_decide_eq_true h
  exact decide_eq_false (by omega)
theorem fin_nanW (x y : Nat) (w : World) : Fl.fin (nanW x y w) = false := fin_nan (nanW_nan x y w)
theorem run_sub_nan0 (t : TypeId) (a : Nat) (h : a < 18446744073709551616) (hn : Fl.nan a = true) (w : World) : (binOp .sub t (.float .f64 0) (.float .f64 a)).run Try.prog w = .ok (.float .f64 (nanW 0 a w)) w.drew :=
  run_sub_nan w t 0 a (Fl.zero_sub_nan a h hn)

theorem signs_num (a b : Nat) (ha : a < 18446744073709551616) (hb : b < 18446744073709551616) (na : Fl.nan a = false) (nb : Fl.nan b = false) (w : World) :
    Calls Try.prog 9 #[.float .f64 a, .float .f64 b] w fun r w' => r = .returned (.bool true) ∧ Below w.heap.size w w' := by
  have H0 := Lib.hid awake
  have H1 := Lib.hid (fun w => add_any a b true ha hb w)
  have H2 := Lib.hid (fun w => add_any (ng a) (ng b) false (ng_lt a) (ng_lt b) w)
  have H3 := Lib.hid (fun w => mul_any a b true ha hb w)
  have H4 := Lib.hid (fun w => mul_any (ng a) b false (ng_lt a) hb w)
  obtain ⟨c1, z1⟩ := add_turn a b
  obtain ⟨c2, z2⟩ := mul_turn a b
  have E1 := eq_ng (addR_ok a b true) (addR_ok (ng a) (ng b) false) z1
  have E2 := eq_ng (mulR_ok a b true) (mulR_ok (ng a) b false) z2
  have k1 := addR_ok (ng a) (ng b) false
  have k2 := mulR_ok (ng a) b false
  have r1 := fun (t : TypeId) (w : World) => run_float_arith (P := Try.prog) w .sub t .f64 _ _ _ (ng_sub a ha na)
  have r2 := fun (t : TypeId) (w : World) => run_float_arith (P := Try.prog) w .sub t .f64 _ _ _ (ng_sub b hb nb)
  have r3 := fun (t : TypeId) (w : World) => run_float_arith (P := Try.prog) w .sub t .f64 _ _ _ (ng_sub _ k1.1 k1.2)
  have r4 := fun (t : TypeId) (w : World) => run_float_arith (P := Try.prog) w .sub t .f64 _ _ _ (ng_sub _ k2.1 k2.2)
  unfold pV at H1 H2 H3 H4
  rw [← c1] at H2
  rw [← c2] at H4
  generalize (addR a b true).1 = x at *
  generalize (addR a b true).2 = e at *
  generalize (addR (ng a) (ng b) false).1 = y at *
  generalize (mulR a b true).1 = p at *
  generalize (mulR a b true).2 = g at *
  generalize (mulR (ng a) b false).1 = q at *
  generalize ng y = y' at *
  generalize ng q = q' at *
  generalize ng a = a' at *
  generalize ng b = b' at *
  clear c1 c2 z1 z2 k1 k2 na nb
  go_enter Try.func9, Try.ntmps9
  go_wp2_with fail
  · refine (H0.out _).mono ?_
    rintro r w0 ⟨rfl, h0⟩
    have B0 := Lib.hid h0
    clear h0
    go_wp2_with fail
    refine (H1.out _).mono ?_
    rintro r w1 ⟨rfl, h1⟩
    have B1 := Lib.hid h1
    clear h1
    go_wp2_with fail
    refine (H2.out _).mono ?_
    rintro r w2 ⟨rfl, h2⟩
    have B2 := Lib.hid h2
    clear h2
    go_wp2_with fail
    refine (H3.out _).mono ?_
    rintro r w3 ⟨rfl, h3⟩
    have B3 := Lib.hid h3
    clear h3
    go_wp2_with fail
    refine (H4.out _).mono ?_
    rintro r w4 ⟨rfl, h4⟩
    have B4 := Lib.hid h4
    clear h4
    go_wp2_with fail
    go_ret
    exact ⟨ret_bool (by simp), below_step (below_step (below_step (below_step B0.out B1.out) B2.out) B3.out) B4.out⟩

theorem signs_nn (a b : Nat) (ha : a < 18446744073709551616) (hb : b < 18446744073709551616) (na : Fl.nan a = true) (nb : Fl.nan b = true) (w : World) :
    Calls Try.prog 9 #[.float .f64 a, .float .f64 b] w fun r w' => r = .returned (.bool true) ∧ Below w.heap.size w w' := by
  have H0 := Lib.hid awake
  have H1 := Lib.hid (fun w => add_not a b true ha hb (by rw [fin_nan na]; rfl) w)
  have H3 := Lib.hid (fun w => mul_not a b true ha hb (by rw [fin_nan na]; rfl) w)
  have H2 := Lib.hid (fun (u v w : World) => add_not (nanW 0 a u) (nanW 0 b v) false (nanW_lt _ _ _) (nanW_lt _ _ _) (by rw [fin_nanW]; rfl) w)
  have H4 := Lib.hid (fun (u w : World) => mul_not (nanW 0 a u) b false (nanW_lt _ _ _) hb (by rw [fin_nanW]; rfl) w)
  have r1 := fun (t : TypeId) (w : World) => run_sub_nan0 t a ha na w
  have r2 := fun (t : TypeId) (w : World) => run_sub_nan0 t b hb nb w
  have r3 := fun (t : TypeId) (w : World) => run_float_arith (P := Try.prog) w .sub t .f64 _ _ _ (ng_sub 0 (by decide) (by decide))
  have E1 : (FloatKind.f64.format.order 0 (ng 0) == some .eq) = true := eq_ng ⟨by decide, by decide⟩ ⟨by decide, by decide⟩ (by decide)
  generalize ng 0 = z at *
  clear na nb
  go_enter Try.func9, Try.ntmps9
  go_wp2_with fail
  · refine (H0.out _).mono ?_
    rintro r w0 ⟨rfl, h0⟩
    have B0 := Lib.hid h0
    clear h0
    go_wp2_with fail
    refine (H1.out _).mono ?_
    rintro r w1 ⟨rfl, h1⟩
    have B1 := Lib.hid h1
    clear h1
    go_wp2_with fail
    refine (H2.out _ _ _).mono ?_
    rintro r w2 ⟨rfl, h2⟩
    have B2 := Lib.hid h2
    clear h2
    go_wp2_with fail
    refine (H3.out _).mono ?_
    rintro r w3 ⟨rfl, h3⟩
    have B3 := Lib.hid h3
    clear h3
    go_wp2_with fail
    refine (H4.out _ _).mono ?_
    rintro r w4 ⟨rfl, h4⟩
    have B4 := Lib.hid h4
    clear h4
    go_wp2_with fail
    go_ret
    exact ⟨rfl, below_step (below_step (below_step (below_step B0.out B1.out) (below_d2 B2.out)) B3.out) (below_d1 B4.out)⟩

theorem signs_nf (a b : Nat) (ha : a < 18446744073709551616) (hb : b < 18446744073709551616) (na : Fl.nan a = true) (nb : Fl.nan b = false) (w : World) :
    Calls Try.prog 9 #[.float .f64 a, .float .f64 b] w fun r w' => r = .returned (.bool true) ∧ Below w.heap.size w w' := by
  have H0 := Lib.hid awake
  have H1 := Lib.hid (fun w => add_not a b true ha hb (by rw [fin_nan na]; rfl) w)
  have H3 := Lib.hid (fun w => mul_not a b true ha hb (by rw [fin_nan na]; rfl) w)
  have H2 := Lib.hid (fun (u w : World) => add_not (nanW 0 a u) (ng b) false (nanW_lt _ _ _) (ng_lt b) (by rw [fin_nanW]; rfl) w)
  have H4 := Lib.hid (fun (u w : World) => mul_not (nanW 0 a u) b false (nanW_lt _ _ _) hb (by rw [fin_nanW]; rfl) w)
  have r1 := fun (t : TypeId) (w : World) => run_sub_nan0 t a ha na w
  have r2 := fun (t : TypeId) (w : World) => run_float_arith (P := Try.prog) w .sub t .f64 _ _ _ (ng_sub b hb nb)
  have r3 := fun (t : TypeId) (w : World) => run_float_arith (P := Try.prog) w .sub t .f64 _ _ _ (ng_sub 0 (by decide) (by decide))
  have E1 : (FloatKind.f64.format.order 0 (ng 0) == some .eq) = true := eq_ng ⟨by decide, by decide⟩ ⟨by decide, by decide⟩ (by decide)
  generalize ng 0 = z at *
  generalize ng b = b' at *
  clear na nb
  go_enter Try.func9, Try.ntmps9
  go_wp2_with fail
  · refine (H0.out _).mono ?_
    rintro r w0 ⟨rfl, h0⟩
    have B0 := Lib.hid h0
    clear h0
    go_wp2_with fail
    refine (H1.out _).mono ?_
    rintro r w1 ⟨rfl, h1⟩
    have B1 := Lib.hid h1
    clear h1
    go_wp2_with fail
    refine (H2.out _ _).mono ?_
    rintro r w2 ⟨rfl, h2⟩
    have B2 := Lib.hid h2
    clear h2
    go_wp2_with fail
    refine (H3.out _).mono ?_
    rintro r w3 ⟨rfl, h3⟩
    have B3 := Lib.hid h3
    clear h3
    go_wp2_with fail
    refine (H4.out _ _).mono ?_
    rintro r w4 ⟨rfl, h4⟩
    have B4 := Lib.hid h4
    clear h4
    go_wp2_with fail
    go_ret
    exact ⟨rfl, below_step (below_step (below_step (below_step B0.out B1.out) (below_d1 B2.out)) B3.out) (below_d1 B4.out)⟩

theorem signs_fn (a b : Nat) (ha : a < 18446744073709551616) (hb : b < 18446744073709551616) (na : Fl.nan a = false) (nb : Fl.nan b = true) (w : World) :
    Calls Try.prog 9 #[.float .f64 a, .float .f64 b] w fun r w' => r = .returned (.bool true) ∧ Below w.heap.size w w' := by
  have H0 := Lib.hid awake
  have H1 := Lib.hid (fun w => add_not a b true ha hb (by rw [fin_nan nb, Bool.and_false]) w)
  have H3 := Lib.hid (fun w => mul_not a b true ha hb (by rw [fin_nan nb, Bool.and_false]) w)
  have H2 := Lib.hid (fun (v w : World) => add_not (ng a) (nanW 0 b v) false (ng_lt a) (nanW_lt _ _ _) (by rw [fin_nanW, Bool.and_false]) w)
  have H4 := Lib.hid (fun (w : World) => mul_not (ng a) b false (ng_lt a) hb (by rw [fin_nan nb, Bool.and_false]) w)
  have r1 := fun (t : TypeId) (w : World) => run_float_arith (P := Try.prog) w .sub t .f64 _ _ _ (ng_sub a ha na)
  have r2 := fun (t : TypeId) (w : World) => run_sub_nan0 t b hb nb w
  have r3 := fun (t : TypeId) (w : World) => run_float_arith (P := Try.prog) w .sub t .f64 _ _ _ (ng_sub 0 (by decide) (by decide))
  have E1 : (FloatKind.f64.format.order 0 (ng 0) == some .eq) = true := eq_ng ⟨by decide, by decide⟩ ⟨by decide, by decide⟩ (by decide)
  generalize ng 0 = z at *
  generalize ng a = a' at *
  clear na nb
  go_enter Try.func9, Try.ntmps9
  go_wp2_with fail
  · refine (H0.out _).mono ?_
    rintro r w0 ⟨rfl, h0⟩
    have B0 := Lib.hid h0
    clear h0
    go_wp2_with fail
    refine (H1.out _).mono ?_
    rintro r w1 ⟨rfl, h1⟩
    have B1 := Lib.hid h1
    clear h1
    go_wp2_with fail
    refine (H2.out _ _).mono ?_
    rintro r w2 ⟨rfl, h2⟩
    have B2 := Lib.hid h2
    clear h2
    go_wp2_with fail
    refine (H3.out _).mono ?_
    rintro r w3 ⟨rfl, h3⟩
    have B3 := Lib.hid h3
    clear h3
    go_wp2_with fail
    refine (H4.out _).mono ?_
    rintro r w4 ⟨rfl, h4⟩
    have B4 := Lib.hid h4
    clear h4
    go_wp2_with fail
    go_ret
    exact ⟨rfl, below_step (below_step (below_step (below_step B0.out B1.out) (below_d1 B2.out)) B3.out) B4.out⟩

theorem walk_signs (a b : Nat) (ha : a < 18446744073709551616) (hb : b < 18446744073709551616) (w : World) :
    Calls Try.prog 9 #[.float .f64 a, .float .f64 b] w fun r w' => r = .returned (.bool true) ∧ Below w.heap.size w w' := by
  cases na : Fl.nan a <;> cases nb : Fl.nan b
  · exact signs_num a b ha hb na nb w
  · exact signs_fn a b ha hb na nb w
  · exact signs_nf a b ha hb na nb w
  · exact signs_nn a b ha hb na nb w
end Go.Proofs.Ythkfaacgabkhhaa
