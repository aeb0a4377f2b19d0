/- The neighbours of a number, as both sides find them. -/
import Derived.Test.YthkfaacgabkhhaaVp
set_option linter.unusedVariables false
set_option linter.unusedSimpArgs false
namespace Go.Proofs.Ythkfaacgabkhhaa
open Go.RowKit Ieee

abbrev NI : Nat := 18442240474082181120
abbrev PI : Nat := 9218868437227405312
theorem NI_Z : Fl.Z NI = -(Fl.rv Fl.INF : Int) := by
  have h : Fl.wrd true Fl.INF = NI := by decide
  rw [← h, Z_wrd true (Nat.le_refl _)]; rfl
theorem PI_Z : Fl.Z PI = (Fl.rv Fl.INF : Int) := by
  have h : Fl.wrd false Fl.INF = PI := by decide
  rw [← h, Z_wrd false (Nat.le_refl _)]; rfl
theorem Z_abs (b : Nat) (hn : Fl.nan b = false) : -(Fl.rv Fl.INF : Int) ≤ Fl.Z b ∧ Fl.Z b ≤ (Fl.rv Fl.INF : Int) := by
  have h : Fl.mg b ≤ Fl.INF := by have := of_decide_eq_false hn; omega
  have h2 := Fl.rv_le h
  unfold Fl.Z
  cases Fl.sg b
  · rw [if_neg Bool.false_ne_true]; omega
  · rw [if_pos rfl]; omega
theorem Z_sg (b : Nat) (h0 : Fl.mg b ≠ 0) : (Fl.sg b = false → 0 < Fl.Z b) ∧ (Fl.sg b = true → Fl.Z b < 0) := by
  have := Fl.rv_pos (r := Fl.mg b) (by omega)
  unfold Fl.Z
  refine ⟨fun h => ?_, fun h => ?_⟩
  · rw [h, if_neg Bool.false_ne_true]; omega
  · rw [h, if_pos rfl]; omega
theorem Z_mg0 {b : Nat} (h : Fl.mg b = 0) : Fl.Z b = 0 := by
  unfold Fl.Z
  rw [h, Fl.rv_zero]
  cases Fl.sg b <;> rfl
theorem INF_pos : (0 : Int) < (Fl.rv Fl.INF : Int) := by
  have := Fl.rv_pos (r := Fl.INF) (by decide)
  omega

section
variable {b : Nat} (hb : b < 18446744073709551616) (hn : Fl.nan b = false)
include hb hn
theorem cNI_eq : (FloatKind.f64.format.order b NI == some .eq) = decide (Fl.Z b = -(Fl.rv Fl.INF : Int)) := by
  refine (Fl.eq_eq (a := b) (b := NI) hb (by decide) hn (by decide)).trans ?_
  rw [NI_Z]
theorem cPI_eq : (FloatKind.f64.format.order b PI == some .eq) = decide (Fl.Z b = (Fl.rv Fl.INF : Int)) := by
  refine (Fl.eq_eq (a := b) (b := PI) hb (by decide) hn (by decide)).trans ?_
  rw [PI_Z]
theorem c0_eq : (FloatKind.f64.format.order b 0 == some .eq) = decide (Fl.Z b = 0) := by
  refine (Fl.eq_eq (a := b) (b := 0) hb (by decide) hn (by decide)).trans ?_
  rw [Z0]
theorem c0_gt : (FloatKind.f64.format.order b 0 == some .gt) = decide (0 < Fl.Z b) := by
  refine (Fl.gt_eq (a := b) (b := 0) hb (by decide) hn (by decide)).trans ?_
  rw [Z0]
theorem cNI_gt : (FloatKind.f64.format.order NI b == some .gt) = false := by
  refine (Fl.gt_eq (a := NI) (b := b) (by decide) hb (by decide) hn).trans ?_
  rw [NI_Z]
  have := (Z_abs b hn).1
  exact decide_eq_false (by omega)
theorem cPI_gt : (FloatKind.f64.format.order PI b == some .gt) = decide (Fl.Z b < (Fl.rv Fl.INF : Int)) := by
  refine (Fl.gt_eq (a := PI) (b := b) (by decide) hb (by decide) hn).trans ?_
  rw [PI_Z]
theorem c_ne : (FloatKind.f64.format.order b b != some .eq) = false := by rw [ne_self b hb]; exact hn
end

/-- The next one below. -/
def belowV (b : Nat) : Nat := if b = NI then b else if Fl.mg b = 0 then 9223372036854775809 else if Fl.sg b = true then b + 1 else b - 1
/-- The next one above, ahead of +0. -/
def aboveV (b : Nat) : Nat := if b = PI then b else if Fl.mg b = 0 then 1 else if Fl.sg b = true then b - 1 else b + 1

/-- What the tests tell, by the kinds. -/
structure Kind (b : Nat) (n p z s : Bool) : Prop where
  ni : decide (Fl.Z b = -(Fl.rv Fl.INF : Int)) = n
  pi : decide (Fl.Z b = (Fl.rv Fl.INF : Int)) = p
  z : decide (Fl.Z b = 0) = z
  pos : decide (0 < Fl.Z b) = s
  lt : decide (Fl.Z b < (Fl.rv Fl.INF : Int)) = !p
theorem kind_mk {b : Nat} {n p z s : Bool} (I Z : Int) (hI : (Fl.rv Fl.INF : Int) = I) (hZ : Fl.Z b = Z) (h1 : decide (Z = -I) = n) (h2 : decide (Z = I) = p) (h3 : decide (Z = 0) = z) (h4 : decide (0 < Z) = s) (h5 : decide (Z < I) = !p) : Kind b n p z s := by
  subst hI hZ
  exact ⟨h1, h2, h3, h4, h5⟩
theorem kind_ni {b : Nat} (I : Int) (hI : (Fl.rv Fl.INF : Int) = I) (hi : 0 < I) (hZ : Fl.Z b = -I) : Kind b true false false false :=
  kind_mk I _ hI hZ (decide_eq_true rfl) (decide_eq_false (by omega)) (decide_eq_false (by omega)) (decide_eq_false (by omega)) (decide_eq_true (by omega))
theorem kind_pi {b : Nat} (I : Int) (hI : (Fl.rv Fl.INF : Int) = I) (hi : 0 < I) (hZ : Fl.Z b = I) : Kind b false true false true :=
  kind_mk I _ hI hZ (decide_eq_false (by omega)) (decide_eq_true rfl) (decide_eq_false (by omega)) (decide_eq_true (by omega)) (decide_eq_false (by omega))
theorem kind_ze {b : Nat} (I : Int) (hI : (Fl.rv Fl.INF : Int) = I) (hi : 0 < I) (hZ : Fl.Z b = 0) : Kind b false false true false :=
  kind_mk I _ hI hZ (decide_eq_false (by omega)) (decide_eq_false (by omega)) (decide_eq_true rfl) (decide_eq_false (by omega)) (decide_eq_true (by omega))
theorem kind_po {b : Nat} (I r : Int) (hI : (Fl.rv Fl.INF : Int) = I) (hr : 0 < r) (hrI : r < I) (hZ : Fl.Z b = r) : Kind b false false false true :=
  kind_mk I _ hI hZ (decide_eq_false (by omega)) (decide_eq_false (by omega)) (decide_eq_false (by omega)) (decide_eq_true (by omega)) (decide_eq_true (by omega))
theorem kind_ne {b : Nat} (I r : Int) (hI : (Fl.rv Fl.INF : Int) = I) (hr : 0 < r) (hrI : r < I) (hZ : Fl.Z b = -r) : Kind b false false false false :=
  kind_mk I _ hI hZ (decide_eq_false (by omega)) (decide_eq_false (by omega)) (decide_eq_false (by omega)) (decide_eq_false (by omega)) (decide_eq_true (by omega))
theorem mg_sg (b : Nat) : b = Fl.wrd (Fl.sg b) (Fl.mg b) ∨ 18446744073709551616 ≤ b := by
  by_cases h : b < 18446744073709551616
  · exact .inl (Fl.wrd_of b h).symm
  · exact .inr (by omega)
theorem kind_of {b : Nat} (hb : b < 18446744073709551616) (hn : Fl.nan b = false) :
    (b = NI ∧ Kind b true false false false) ∨ (b = PI ∧ Kind b false true false true) ∨ (b ≠ NI ∧ b ≠ PI ∧ Fl.mg b = 0 ∧ Kind b false false true false) ∨
    (b ≠ NI ∧ b ≠ PI ∧ Fl.mg b ≠ 0 ∧ Fl.mg b < Fl.INF ∧ Fl.sg b = false ∧ Kind b false false false true) ∨ (b ≠ NI ∧ b ≠ PI ∧ Fl.mg b ≠ 0 ∧ Fl.mg b < Fl.INF ∧ Fl.sg b = true ∧ Kind b false false false false) := by
  by_cases h1 : b = NI
  · exact .inl ⟨h1, kind_ni _ rfl INF_pos (by rw [h1]; exact NI_Z)⟩
  · right
    by_cases h2 : b = PI
    · exact .inl ⟨h2, kind_pi _ rfl INF_pos (by rw [h2]; exact PI_Z)⟩
    · right
      by_cases h3 : Fl.mg b = 0
      · exact .inl ⟨h1, h2, h3, kind_ze _ rfl INF_pos (Z_mg0 h3)⟩
      · right
        have hw := Fl.wrd_of b hb
        have hle : Fl.mg b ≤ Fl.INF := by have := of_decide_eq_false hn; omega
        have hlt : Fl.mg b < Fl.INF := by
          apply Nat.lt_of_le_of_ne hle
          intro he
          rw [he] at hw
          cases hs : Fl.sg b
          · rw [hs] at hw; exact h2 (hw.symm.trans (by decide))
          · rw [hs] at hw; exact h1 (hw.symm.trans (by decide))
        have hrv := Fl.rv_lt hlt
        have hpos := Fl.rv_pos (r := Fl.mg b) (by omega)
        cases hs : Fl.sg b
        · left
          have hz : Fl.Z b = (Fl.rv (Fl.mg b) : Int) := by unfold Fl.Z; rw [hs]; rfl
          exact ⟨h1, h2, h3, hlt, rfl, kind_po _ _ rfl (Int.ofNat_lt.2 hpos) (Int.ofNat_lt.2 hrv) hz⟩
        · right
          have hz : Fl.Z b = -(Fl.rv (Fl.mg b) : Int) := by unfold Fl.Z; rw [hs]; rfl
          exact ⟨h1, h2, h3, hlt, rfl, kind_ne _ _ rfl (Int.ofNat_lt.2 hpos) (Int.ofNat_lt.2 hrv) hz⟩

theorem word_pos {b : Nat} (hb : b < 18446744073709551616) (hs : Fl.sg b = false) : b = Fl.mg b := by
  have := Fl.wrd_of b hb
  rw [hs] at this
  exact this.symm
theorem word_neg {b : Nat} (hb : b < 18446744073709551616) (hs : Fl.sg b = true) : b = Fl.SGN + Fl.mg b := by
  have := Fl.wrd_of b hb
  rw [hs] at this
  exact this.symm




theorem csign_dn (w : World) : Calls Try.prog 83 #[.float .f64 1, .float .f64 NI] w fun r w' => r = .returned (.float .f64 9223372036854775809) ∧ w = w' := by
  go_enter Try.func83, Try.ntmps83
  go_wp2_with fail
  go_ret
  exact ⟨ret_float (by decide), rfl⟩
theorem csign_up (w : World) : Calls Try.prog 83 #[.float .f64 1, .float .f64 PI] w fun r w' => r = .returned (.float .f64 1) ∧ w = w' := by
  go_enter Try.func83, Try.ntmps83
  go_wp2_with fail
  go_ret
  exact ⟨ret_float (by decide), rfl⟩
theorem nan_NI (w : World) : Calls Try.prog 66 #[.float .f64 NI] w fun r w' => r = .returned (.bool false) ∧ w = w' := isNaN_any NI (by decide) w
theorem nan_PI (w : World) : Calls Try.prog 66 #[.float .f64 PI] w fun r w' => r = .returned (.bool false) ∧ w = w' := isNaN_any PI (by decide) w
theorem nan_no {b : Nat} (hb : b < 18446744073709551616) (hn : Fl.nan b = false) (w : World) : Calls Try.prog 66 #[.float .f64 b] w fun r w' => r = .returned (.bool false) ∧ w = w' := by
  have := isNaN_any b hb w
  rw [hn] at this
  exact this
theorem neg_PI : Op.negFloat .f64 PI = NI := by decide
theorem next_dn_ni {b : Nat} (HN : ∀ w, Calls Try.prog 66 #[.float .f64 b] w fun r w' => r = .returned (.bool false) ∧ w = w') (E1 : (FloatKind.f64.format.order b NI == some .eq) = true) (E2 : (FloatKind.f64.format.order b 0 == some .eq) = false) (E3 : (FloatKind.f64.format.order NI b == some .gt) = false) (E4 : (FloatKind.f64.format.order b 0 == some .gt) = false) (w : World) :
    Calls Try.prog 69 #[.float .f64 b, .float .f64 NI] w fun r w' => r = .returned (.float .f64 b) ∧ w = w' := by
  have HN' := Lib.hid HN
  clear HN
  have HY := Lib.hid (fun w => nan_NI w)
  have HC := Lib.hid (fun w => csign_dn w)
  go_enter Try.func69, Try.ntmps69
  go_wp2_with fail
  refine (HN'.out _).mono ?_
  rintro r w' ⟨rfl, rfl⟩
  go_wp2_with fail
  refine (HY.out _).mono ?_
  rintro r w' ⟨rfl, rfl⟩
  go_wp2_with fail
  go_ret
  exact ⟨rfl, rfl⟩
theorem next_dn_pi {b : Nat} (HN : ∀ w, Calls Try.prog 66 #[.float .f64 b] w fun r w' => r = .returned (.bool false) ∧ w = w') (E1 : (FloatKind.f64.format.order b NI == some .eq) = false) (E2 : (FloatKind.f64.format.order b 0 == some .eq) = false) (E3 : (FloatKind.f64.format.order NI b == some .gt) = false) (E4 : (FloatKind.f64.format.order b 0 == some .gt) = true) (hlo : (1 : Int) ≤ (b : Int)) (hhi : (b : Int) + 1 < 18446744073709551616) (w : World) :
    Calls Try.prog 69 #[.float .f64 b, .float .f64 NI] w fun r w' => r = .returned (.float .f64 (b - 1)) ∧ w = w' := by
  have HN' := Lib.hid HN
  clear HN
  have HY := Lib.hid (fun w => nan_NI w)
  have HC := Lib.hid (fun w => csign_dn w)
  go_enter Try.func69, Try.ntmps69
  go_wp2_with fail
  refine (HN'.out _).mono ?_
  rintro r w' ⟨rfl, rfl⟩
  go_wp2_with fail
  refine (HY.out _).mono ?_
  rintro r w' ⟨rfl, rfl⟩
  go_wp2_with fail
  go_ret
  exact ⟨ret_float (by omega), rfl⟩
theorem next_dn_ze {b : Nat} (HN : ∀ w, Calls Try.prog 66 #[.float .f64 b] w fun r w' => r = .returned (.bool false) ∧ w = w') (E1 : (FloatKind.f64.format.order b NI == some .eq) = false) (E2 : (FloatKind.f64.format.order b 0 == some .eq) = true) (E3 : (FloatKind.f64.format.order NI b == some .gt) = false) (E4 : (FloatKind.f64.format.order b 0 == some .gt) = false) (w : World) :
    Calls Try.prog 69 #[.float .f64 b, .float .f64 NI] w fun r w' => r = .returned (.float .f64 9223372036854775809) ∧ w = w' := by
  have HN' := Lib.hid HN
  clear HN
  have HY := Lib.hid (fun w => nan_NI w)
  have HC := Lib.hid (fun w => csign_dn w)
  go_enter Try.func69, Try.ntmps69
  go_wp2_with fail
  refine (HN'.out _).mono ?_
  rintro r w' ⟨rfl, rfl⟩
  go_wp2_with fail
  refine (HY.out _).mono ?_
  rintro r w' ⟨rfl, rfl⟩
  go_wp2_with fail
  refine (HC.out _).mono ?_
  rintro r w' ⟨rfl, rfl⟩
  go_wp2_with fail
  go_ret
  exact ⟨rfl, rfl⟩
theorem next_dn_po {b : Nat} (HN : ∀ w, Calls Try.prog 66 #[.float .f64 b] w fun r w' => r = .returned (.bool false) ∧ w = w') (E1 : (FloatKind.f64.format.order b NI == some .eq) = false) (E2 : (FloatKind.f64.format.order b 0 == some .eq) = false) (E3 : (FloatKind.f64.format.order NI b == some .gt) = false) (E4 : (FloatKind.f64.format.order b 0 == some .gt) = true) (hlo : (1 : Int) ≤ (b : Int)) (hhi : (b : Int) + 1 < 18446744073709551616) (w : World) :
    Calls Try.prog 69 #[.float .f64 b, .float .f64 NI] w fun r w' => r = .returned (.float .f64 (b - 1)) ∧ w = w' := by
  have HN' := Lib.hid HN
  clear HN
  have HY := Lib.hid (fun w => nan_NI w)
  have HC := Lib.hid (fun w => csign_dn w)
  go_enter Try.func69, Try.ntmps69
  go_wp2_with fail
  refine (HN'.out _).mono ?_
  rintro r w' ⟨rfl, rfl⟩
  go_wp2_with fail
  refine (HY.out _).mono ?_
  rintro r w' ⟨rfl, rfl⟩
  go_wp2_with fail
  go_ret
  exact ⟨ret_float (by omega), rfl⟩
theorem next_dn_ne {b : Nat} (HN : ∀ w, Calls Try.prog 66 #[.float .f64 b] w fun r w' => r = .returned (.bool false) ∧ w = w') (E1 : (FloatKind.f64.format.order b NI == some .eq) = false) (E2 : (FloatKind.f64.format.order b 0 == some .eq) = false) (E3 : (FloatKind.f64.format.order NI b == some .gt) = false) (E4 : (FloatKind.f64.format.order b 0 == some .gt) = false) (hlo : (1 : Int) ≤ (b : Int)) (hhi : (b : Int) + 1 < 18446744073709551616) (w : World) :
    Calls Try.prog 69 #[.float .f64 b, .float .f64 NI] w fun r w' => r = .returned (.float .f64 (b + 1)) ∧ w = w' := by
  have HN' := Lib.hid HN
  clear HN
  have HY := Lib.hid (fun w => nan_NI w)
  have HC := Lib.hid (fun w => csign_dn w)
  go_enter Try.func69, Try.ntmps69
  go_wp2_with fail
  refine (HN'.out _).mono ?_
  rintro r w' ⟨rfl, rfl⟩
  go_wp2_with fail
  refine (HY.out _).mono ?_
  rintro r w' ⟨rfl, rfl⟩
  go_wp2_with fail
  go_ret
  exact ⟨ret_float (by omega), rfl⟩
theorem next_up_ni {b : Nat} (HN : ∀ w, Calls Try.prog 66 #[.float .f64 b] w fun r w' => r = .returned (.bool false) ∧ w = w') (E1 : (FloatKind.f64.format.order b PI == some .eq) = false) (E2 : (FloatKind.f64.format.order b 0 == some .eq) = false) (E3 : (FloatKind.f64.format.order PI b == some .gt) = true) (E4 : (FloatKind.f64.format.order b 0 == some .gt) = false) (hlo : (1 : Int) ≤ (b : Int)) (hhi : (b : Int) + 1 < 18446744073709551616) (w : World) :
    Calls Try.prog 69 #[.float .f64 b, .float .f64 PI] w fun r w' => r = .returned (.float .f64 (b - 1)) ∧ w = w' := by
  have HN' := Lib.hid HN
  clear HN
  have HY := Lib.hid (fun w => nan_PI w)
  have HC := Lib.hid (fun w => csign_up w)
  go_enter Try.func69, Try.ntmps69
  go_wp2_with fail
  refine (HN'.out _).mono ?_
  rintro r w' ⟨rfl, rfl⟩
  go_wp2_with fail
  refine (HY.out _).mono ?_
  rintro r w' ⟨rfl, rfl⟩
  go_wp2_with fail
  go_ret
  exact ⟨ret_float (by omega), rfl⟩
theorem next_up_pi {b : Nat} (HN : ∀ w, Calls Try.prog 66 #[.float .f64 b] w fun r w' => r = .returned (.bool false) ∧ w = w') (E1 : (FloatKind.f64.format.order b PI == some .eq) = true) (E2 : (FloatKind.f64.format.order b 0 == some .eq) = false) (E3 : (FloatKind.f64.format.order PI b == some .gt) = false) (E4 : (FloatKind.f64.format.order b 0 == some .gt) = true) (w : World) :
    Calls Try.prog 69 #[.float .f64 b, .float .f64 PI] w fun r w' => r = .returned (.float .f64 b) ∧ w = w' := by
  have HN' := Lib.hid HN
  clear HN
  have HY := Lib.hid (fun w => nan_PI w)
  have HC := Lib.hid (fun w => csign_up w)
  go_enter Try.func69, Try.ntmps69
  go_wp2_with fail
  refine (HN'.out _).mono ?_
  rintro r w' ⟨rfl, rfl⟩
  go_wp2_with fail
  refine (HY.out _).mono ?_
  rintro r w' ⟨rfl, rfl⟩
  go_wp2_with fail
  go_ret
  exact ⟨rfl, rfl⟩
theorem next_up_ze {b : Nat} (HN : ∀ w, Calls Try.prog 66 #[.float .f64 b] w fun r w' => r = .returned (.bool false) ∧ w = w') (E1 : (FloatKind.f64.format.order b PI == some .eq) = false) (E2 : (FloatKind.f64.format.order b 0 == some .eq) = true) (E3 : (FloatKind.f64.format.order PI b == some .gt) = true) (E4 : (FloatKind.f64.format.order b 0 == some .gt) = false) (w : World) :
    Calls Try.prog 69 #[.float .f64 b, .float .f64 PI] w fun r w' => r = .returned (.float .f64 1) ∧ w = w' := by
  have HN' := Lib.hid HN
  clear HN
  have HY := Lib.hid (fun w => nan_PI w)
  have HC := Lib.hid (fun w => csign_up w)
  go_enter Try.func69, Try.ntmps69
  go_wp2_with fail
  refine (HN'.out _).mono ?_
  rintro r w' ⟨rfl, rfl⟩
  go_wp2_with fail
  refine (HY.out _).mono ?_
  rintro r w' ⟨rfl, rfl⟩
  go_wp2_with fail
  refine (HC.out _).mono ?_
  rintro r w' ⟨rfl, rfl⟩
  go_wp2_with fail
  go_ret
  exact ⟨rfl, rfl⟩
theorem next_up_po {b : Nat} (HN : ∀ w, Calls Try.prog 66 #[.float .f64 b] w fun r w' => r = .returned (.bool false) ∧ w = w') (E1 : (FloatKind.f64.format.order b PI == some .eq) = false) (E2 : (FloatKind.f64.format.order b 0 == some .eq) = false) (E3 : (FloatKind.f64.format.order PI b == some .gt) = true) (E4 : (FloatKind.f64.format.order b 0 == some .gt) = true) (hlo : (1 : Int) ≤ (b : Int)) (hhi : (b : Int) + 1 < 18446744073709551616) (w : World) :
    Calls Try.prog 69 #[.float .f64 b, .float .f64 PI] w fun r w' => r = .returned (.float .f64 (b + 1)) ∧ w = w' := by
  have HN' := Lib.hid HN
  clear HN
  have HY := Lib.hid (fun w => nan_PI w)
  have HC := Lib.hid (fun w => csign_up w)
  go_enter Try.func69, Try.ntmps69
  go_wp2_with fail
  refine (HN'.out _).mono ?_
  rintro r w' ⟨rfl, rfl⟩
  go_wp2_with fail
  refine (HY.out _).mono ?_
  rintro r w' ⟨rfl, rfl⟩
  go_wp2_with fail
  go_ret
  exact ⟨ret_float (by omega), rfl⟩
theorem next_up_ne {b : Nat} (HN : ∀ w, Calls Try.prog 66 #[.float .f64 b] w fun r w' => r = .returned (.bool false) ∧ w = w') (E1 : (FloatKind.f64.format.order b PI == some .eq) = false) (E2 : (FloatKind.f64.format.order b 0 == some .eq) = false) (E3 : (FloatKind.f64.format.order PI b == some .gt) = true) (E4 : (FloatKind.f64.format.order b 0 == some .gt) = false) (hlo : (1 : Int) ≤ (b : Int)) (hhi : (b : Int) + 1 < 18446744073709551616) (w : World) :
    Calls Try.prog 69 #[.float .f64 b, .float .f64 PI] w fun r w' => r = .returned (.float .f64 (b - 1)) ∧ w = w' := by
  have HN' := Lib.hid HN
  clear HN
  have HY := Lib.hid (fun w => nan_PI w)
  have HC := Lib.hid (fun w => csign_up w)
  go_enter Try.func69, Try.ntmps69
  go_wp2_with fail
  refine (HN'.out _).mono ?_
  rintro r w' ⟨rfl, rfl⟩
  go_wp2_with fail
  refine (HY.out _).mono ?_
  rintro r w' ⟨rfl, rfl⟩
  go_wp2_with fail
  go_ret
  exact ⟨ret_float (by omega), rfl⟩
theorem rb_ni {b : Nat} (E0 : (FloatKind.f64.format.order b b != some .eq) = false) (E1 : (FloatKind.f64.format.order b NI == some .eq) = true) (E2 : (FloatKind.f64.format.order b 0 == some .eq) = false) (E4 : (FloatKind.f64.format.order b 0 == some .gt) = false) (w : World) :
    Calls Try.prog 37 #[.float .f64 b] w fun r w' => r = .returned (.float .f64 b) ∧ w = w' := by
  have HI := Lib.hid rinf_any
  have EN := neg_PI
  go_enter Try.func37, Try.ntmps37
  go_wp2_with fail
  refine (HI.out _).mono ?_
  rintro r w' ⟨rfl, rfl⟩
  go_wp2_with fail
  go_ret
  exact ⟨rfl, rfl⟩
theorem rb_pi {b : Nat} (E0 : (FloatKind.f64.format.order b b != some .eq) = false) (E1 : (FloatKind.f64.format.order b NI == some .eq) = false) (E2 : (FloatKind.f64.format.order b 0 == some .eq) = false) (E4 : (FloatKind.f64.format.order b 0 == some .gt) = true) (hlo : (1 : Int) ≤ (b : Int)) (hhi : (b : Int) + 1 < 18446744073709551616) (HZ : ∀ w, Calls Try.prog 47 #[.float .f64 (b - 1)] w fun r w' => r = .returned (.float .f64 (b - 1)) ∧ w = w') (w : World) :
    Calls Try.prog 37 #[.float .f64 b] w fun r w' => r = .returned (.float .f64 (b - 1)) ∧ w = w' := by
  have HI := Lib.hid rinf_any
  have EN := neg_PI
  have HZ' := Lib.hid HZ
  clear HZ
  go_enter Try.func37, Try.ntmps37
  go_wp2_with fail
  refine (HI.out _).mono ?_
  rintro r w' ⟨rfl, rfl⟩
  go_wp2_with fail
  refine (HZ'.out _).mono ?_
  rintro r w' ⟨rfl, rfl⟩
  go_wp2_with fail
  go_ret
  exact ⟨rfl, rfl⟩
theorem rb_ze {b : Nat} (E0 : (FloatKind.f64.format.order b b != some .eq) = false) (E1 : (FloatKind.f64.format.order b NI == some .eq) = false) (E2 : (FloatKind.f64.format.order b 0 == some .eq) = true) (E4 : (FloatKind.f64.format.order b 0 == some .gt) = false) (w : World) :
    Calls Try.prog 37 #[.float .f64 b] w fun r w' => r = .returned (.float .f64 9223372036854775809) ∧ w = w' := by
  have HI := Lib.hid rinf_any
  have EN := neg_PI
  go_enter Try.func37, Try.ntmps37
  go_wp2_with fail
  refine (HI.out _).mono ?_
  rintro r w' ⟨rfl, rfl⟩
  go_wp2_with fail
  go_ret
  exact ⟨rfl, rfl⟩
theorem rb_po {b : Nat} (E0 : (FloatKind.f64.format.order b b != some .eq) = false) (E1 : (FloatKind.f64.format.order b NI == some .eq) = false) (E2 : (FloatKind.f64.format.order b 0 == some .eq) = false) (E4 : (FloatKind.f64.format.order b 0 == some .gt) = true) (hlo : (1 : Int) ≤ (b : Int)) (hhi : (b : Int) + 1 < 18446744073709551616) (HZ : ∀ w, Calls Try.prog 47 #[.float .f64 (b - 1)] w fun r w' => r = .returned (.float .f64 (b - 1)) ∧ w = w') (w : World) :
    Calls Try.prog 37 #[.float .f64 b] w fun r w' => r = .returned (.float .f64 (b - 1)) ∧ w = w' := by
  have HI := Lib.hid rinf_any
  have EN := neg_PI
  have HZ' := Lib.hid HZ
  clear HZ
  go_enter Try.func37, Try.ntmps37
  go_wp2_with fail
  refine (HI.out _).mono ?_
  rintro r w' ⟨rfl, rfl⟩
  go_wp2_with fail
  refine (HZ'.out _).mono ?_
  rintro r w' ⟨rfl, rfl⟩
  go_wp2_with fail
  go_ret
  exact ⟨rfl, rfl⟩
theorem rb_ne {b : Nat} (E0 : (FloatKind.f64.format.order b b != some .eq) = false) (E1 : (FloatKind.f64.format.order b NI == some .eq) = false) (E2 : (FloatKind.f64.format.order b 0 == some .eq) = false) (E4 : (FloatKind.f64.format.order b 0 == some .gt) = false) (hlo : (1 : Int) ≤ (b : Int)) (hhi : (b : Int) + 1 < 18446744073709551616) (w : World) :
    Calls Try.prog 37 #[.float .f64 b] w fun r w' => r = .returned (.float .f64 (b + 1)) ∧ w = w' := by
  have HI := Lib.hid rinf_any
  have EN := neg_PI
  go_enter Try.func37, Try.ntmps37
  go_wp2_with fail
  refine (HI.out _).mono ?_
  rintro r w' ⟨rfl, rfl⟩
  go_wp2_with fail
  go_ret
  exact ⟨ret_float (by omega), rfl⟩
end Go.Proofs.Ythkfaacgabkhhaa
