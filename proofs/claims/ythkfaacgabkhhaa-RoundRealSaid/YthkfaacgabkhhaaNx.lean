/- The neighbours of a number (Vq, Vr), in a namespace of their own: beside the plain texts of the spans. -/
import Derived.Test.YthkfaacgabkhhaaGc
set_option linter.unusedVariables false
set_option linter.unusedSimpArgs false
namespace Go.Proofs.Ythkfaacgabkhhaa.Nb
open Go.RowKit Ieee

abbrev NI : Nat := 18442240474082181120
abbrev PI : Nat := 9218868437227405312
theorem NI_Z : Fl.Z NI = -(Fl.rv Fl.INF : Int) := by
  have h : Fl.wrd true Fl.INF = NI := by decide
  rw [← h, Z_wrd true (Nat.le_refl _)]; rfl
theorem PI_Z : Fl.Z PI = (Fl.rv Fl.INF : Int) := by
  have h : Fl.wrd false Fl.INF = PI := by decide
  rw [← h, Z_wrd false (Nat.le_refl _)]; rfl
theorem Z_abs (b : Nat) (hn : Fl.nan b = false) : -(Fl.rv Fl.INF : Int) ≤ Fl.Z b ∧ Fl.Z b ≤ (Fl.rv Fl.INF : Int) := by
  have h : Fl.mg b ≤ Fl.INF := by have := of_decide_eq_false hn; omega
  have h2 := Fl.rv_le h
  unfold Fl.Z
  cases Fl.sg b
  · rw [if_neg Bool.false_ne_true]; omega
  · rw [if_pos rfl]; omega
theorem Z_sg (b : Nat) (h0 : Fl.mg b ≠ 0) : (Fl.sg b = false → 0 < Fl.Z b) ∧ (Fl.sg b = true → Fl.Z b < 0) := by
  have := Fl.rv_pos (r := Fl.mg b) (by omega)
  unfold Fl.Z
  refine ⟨fun h => ?_, fun h => ?_⟩
  · rw [h, if_neg Bool.false_ne_true]; omega
  · rw [h, if_pos rfl]; omega
theorem Z_mg0 {b : Nat} (h : Fl.mg b = 0) : Fl.Z b = 0 := by
  unfold Fl.Z
  rw [h, Fl.rv_zero]
  cases Fl.sg b <;> rfl
theorem INF_pos : (0 : Int) < (Fl.rv Fl.INF : Int) := by
  have := Fl.rv_pos (r := Fl.INF) (by decide)
  omega

section
variable {b : Nat} (hb : b < 18446744073709551616) (hn : Fl.nan b = false)
include hb hn
theorem cNI_eq : (FloatKind.f64.format.order b NI == some .eq) = decide (Fl.Z b = -(Fl.rv Fl.INF : Int)) := by
  refine (Fl.eq_eq (a := b) (b := NI) hb (by decide) hn (by decide)).trans ?_
  rw [NI_Z]
theorem cPI_eq : (FloatKind.f64.format.order b PI == some .eq) = decide (Fl.Z b = (Fl.rv Fl.INF : Int)) := by
  refine (Fl.eq_eq (a := b) (b := PI) hb (by decide) hn (by decide)).trans ?_
  rw [PI_Z]
theorem c0_eq : (FloatKind.f64.format.order b 0 == some .eq) = decide (Fl.Z b = 0) := by
  refine (Fl.eq_eq (a := b) (b := 0) hb (by decide) hn (by decide)).trans ?_
  rw [Z0]
theorem c0_gt : (FloatKind.f64.format.order b 0 == some .gt) = decide (0 < Fl.Z b) := by
  refine (Fl.gt_eq (a := b) (b := 0) hb (by decide) hn (by decide)).trans ?_
  rw [Z0]
theorem cNI_gt : (FloatKind.f64.format.order NI b == some .gt) = false := by
  refine (Fl.gt_eq (a := NI) (b := b) (by decide) hb (by decide) hn).trans ?_
  rw [NI_Z]
  have := (Z_abs b hn).1
  exact decide_eq_false (by omega)
theorem cPI_gt : (FloatKind.f64.format.order PI b == some .gt) = decide (Fl.Z b < (Fl.rv Fl.INF : Int)) := by
  refine (Fl.gt_eq (a := PI) (b := b) (by decide) hb (by decide) hn).trans ?_
  rw [PI_Z]
theorem c_ne : (FloatKind.f64.format.order b b != some .eq) = false := by rw [ne_self b hb]; exact hn
end

/-- The next one below. -/
def belowV (b : Nat) : Nat := if b = NI then b else if Fl.mg b = 0 then 9223372036854775809 else if Fl.sg b = true then b + 1 else b - 1
/-- The next one above, ahead of +0. -/
def aboveV (b : Nat) : Nat := if b = PI then b else if Fl.mg b = 0 then 1 else if Fl.sg b = true then b - 1 else b + 1

/-- What the tests tell, by the kinds. -/
structure Kind (b : Nat) (n p z s : Bool) : Prop where
  ni : decide (Fl.Z b = -(Fl.rv Fl.INF : Int)) = n
  pi : decide (Fl.Z b = (Fl.rv Fl.INF : Int)) = p
  z : decide (Fl.Z b = 0) = z
  pos : decide (0 < Fl.Z b) = s
  lt : decide (Fl.Z b < (Fl.rv Fl.INF : Int)) = !p
theorem kind_mk {b : Nat} {n p z s : Bool} (I Z : Int) (hI : (Fl.rv Fl.INF : Int) = I) (hZ : Fl.Z b = Z) (h1 : decide (Z = -I) = n) (h2 : decide (Z = I) = p) (h3 : decide (Z = 0) = z) (h4 : decide (0 < Z) = s) (h5 : decide (Z < I) = !p) : Kind b n p z s := by
  subst hI hZ
  exact ⟨h1, h2, h3, h4, h5⟩
theorem kind_ni {b : Nat} (I : Int) (hI : (Fl.rv Fl.INF : Int) = I) (hi : 0 < I) (hZ : Fl.Z b = -I) : Kind b true false false false :=
  kind_mk I _ hI hZ (decide_eq_true rfl) (decide_eq_false (by omega)) (decide_eq_false (by omega)) (decide_eq_false (by omega)) (decide_eq_true (by omega))
theorem kind_pi {b : Nat} (I : Int) (hI : (Fl.rv Fl.INF : Int) = I) (hi : 0 < I) (hZ : Fl.Z b = I) : Kind b false true false true :=
  kind_mk I _ hI hZ (decide_eq_false (by omega)) (decide_eq_true rfl) (decide_eq_false (by omega)) (decide_eq_true (by omega)) (decide_eq_false (by omega))
theorem kind_ze {b : Nat} (I : Int) (hI : (Fl.rv Fl.INF : Int) = I) (hi : 0 < I) (hZ : Fl.Z b = 0) : Kind b false false true false :=
  kind_mk I _ hI hZ (decide_eq_false (by omega)) (decide_eq_false (by omega)) (decide_eq_true rfl) (decide_eq_false (by omega)) (decide_eq_true (by omega))
theorem kind_po {b : Nat} (I r : Int) (hI : (Fl.rv Fl.INF : Int) = I) (hr : 0 < r) (hrI : r < I) (hZ : Fl.Z b = r) : Kind b false false false true :=
  kind_mk I _ hI hZ (decide_eq_false (by omega)) (decide_eq_false (by omega)) (decide_eq_false (by omega)) (decide_eq_true (by omega)) (decide_eq_true (by omega))
theorem kind_ne {b : Nat} (I r : Int) (hI : (Fl.rv Fl.INF : Int) = I) (hr : 0 < r) (hrI : r < I) (hZ : Fl.Z b = -r) : Kind b false false false false :=
  kind_mk I _ hI hZ (decide_eq_false (by omega)) (decide_eq_false (by omega)) (decide_eq_false (by omega)) (decide_eq_false (by omega)) (decide_eq_true (by omega))
theorem mg_sg (b : Nat) : b = Fl.wrd (Fl.sg b) (Fl.mg b) ∨ 18446744073709551616 ≤ b := by
  by_cases h : b < 18446744073709551616
  · exact .inl (Fl.wrd_of b h).symm
  · exact .inr (by omega)
theorem kind_of {b : Nat} (hb : b < 18446744073709551616) (hn : Fl.nan b = false) :
    (b = NI ∧ Kind b true false false false) ∨ (b = PI ∧ Kind b false true false true) ∨ (b ≠ NI ∧ b ≠ PI ∧ Fl.mg b = 0 ∧ Kind b false false true false) ∨
    (b ≠ NI ∧ b ≠ PI ∧ Fl.mg b ≠ 0 ∧ Fl.mg b < Fl.INF ∧ Fl.sg b = false ∧ Kind b false false false true) ∨ (b ≠ NI ∧ b ≠ PI ∧ Fl.mg b ≠ 0 ∧ Fl.mg b < Fl.INF ∧ Fl.sg b = true ∧ Kind b false false false false) := by
  by_cases h1 : b = NI
  · exact .inl ⟨h1, kind_ni _ rfl INF_pos (by rw [h1]; exact NI_Z)⟩
  · right
    by_cases h2 : b = PI
    · exact .inl ⟨h2, kind_pi _ rfl INF_pos (by rw [h2]; exact PI_Z)⟩
    · right
      by_cases h3 : Fl.mg b = 0
      · exact .inl ⟨h1, h2, h3, kind_ze _ rfl INF_pos (Z_mg0 h3)⟩
      · right
        have hw := Fl.wrd_of b hb
        have hle : Fl.mg b ≤ Fl.INF := by have := of_decide_eq_false hn; omega
        have hlt : Fl.mg b < Fl.INF := by
          apply Nat.lt_of_le_of_ne hle
          intro he
          rw [he] at hw
          cases hs : Fl.sg b
          · rw [hs] at hw; exact h2 (hw.symm.trans (by decide))
          · rw [hs] at hw; exact h1 (hw.symm.trans (by decide))
        have hrv := Fl.rv_lt hlt
        have hpos := Fl.rv_pos (r := Fl.mg b) (by omega)
        cases hs : Fl.sg b
        · left
          have hz : Fl.Z b = (Fl.rv (Fl.mg b) : Int) := by unfold Fl.Z; rw [hs]; rfl
          exact ⟨h1, h2, h3, hlt, rfl, kind_po _ _ rfl (Int.ofNat_lt.2 hpos) (Int.ofNat_lt.2 hrv) hz⟩
        · right
          have hz : Fl.Z b = -(Fl.rv (Fl.mg b) : Int) := by unfold Fl.Z; rw [hs]; rfl
          exact ⟨h1, h2, h3, hlt, rfl, kind_ne _ _ rfl (Int.ofNat_lt.2 hpos) (Int.ofNat_lt.2 hrv) hz⟩

theorem word_pos {b : Nat} (hb : b < 18446744073709551616) (hs : Fl.sg b = false) : b = Fl.mg b := by
  have := Fl.wrd_of b hb
  rw [hs] at this
  exact this.symm
theorem word_neg {b : Nat} (hb : b < 18446744073709551616) (hs : Fl.sg b = true) : b = Fl.SGN + Fl.mg b := by
  have := Fl.wrd_of b hb
  rw [hs] at this
  exact this.symm




theorem csign_dn (w : World) : Calls Try.prog 83 #[.float .f64 1, .float .f64 NI] w fun r w' => r = .returned (.float .f64 9223372036854775809) ∧ w = w' := by
  go_enter Try.func83, Try.ntmps83
  go_wp2_with fail
  go_ret
  exact ⟨ret_float (by decide), rfl⟩
theorem csign_up (w : World) : Calls Try.prog 83 #[.float .f64 1, .float .f64 PI] w fun r w' => r = .returned (.float .f64 1) ∧ w = w' := by
  go_enter Try.func83, Try.ntmps83
  go_wp2_with fail
  go_ret
  exact ⟨ret_float (by decide), rfl⟩
theorem nan_NI (w : World) : Calls Try.prog 66 #[.float .f64 NI] w fun r w' => r = .returned (.bool false) ∧ w = w' := isNaN_any NI (by decide) w
theorem nan_PI (w : World) : Calls Try.prog 66 #[.float .f64 PI] w fun r w' => r = .returned (.bool false) ∧ w = w' := isNaN_any PI (by decide) w
theorem nan_no {b : Nat} (hb : b < 18446744073709551616) (hn : Fl.nan b = false) (w : World) : Calls Try.prog 66 #[.float .f64 b] w fun r w' => r = .returned (.bool false) ∧ w = w' := by
  have := isNaN_any b hb w
  rw [hn] at this
  exact this
theorem neg_PI : Op.negFloat .f64 PI = NI := by decide
theorem next_dn_ni {b : Nat} (HN : ∀ w, Calls Try.prog 66 #[.float .f64 b] w fun r w' => r = .returned (.bool false) ∧ w = w') (E1 : (FloatKind.f64.format.order b NI == some .eq) = true) (E2 : (FloatKind.f64.format.order b 0 == some .eq) = false) (E3 : (FloatKind.f64.format.order NI b == some .gt) = false) (E4 : (FloatKind.f64.format.order b 0 == some .gt) = false) (w : World) :
    Calls Try.prog 69 #[.float .f64 b, .float .f64 NI] w fun r w' => r = .returned (.float .f64 b) ∧ w = w' := by
  have HN' := Lib.hid HN
  clear HN
  have HY := Lib.hid (fun w => nan_NI w)
  have HC := Lib.hid (fun w => csign_dn w)
  go_enter Try.func69, Try.ntmps69
  go_wp2_with fail
  refine (HN'.out _).mono ?_
  rintro r w' ⟨rfl, rfl⟩
  go_wp2_with fail
  refine (HY.out _).mono ?_
  rintro r w' ⟨rfl, rfl⟩
  go_wp2_with fail
  go_ret
  exact ⟨rfl, rfl⟩
theorem next_dn_pi {b : Nat} (HN : ∀ w, Calls Try.prog 66 #[.float .f64 b] w fun r w' => r = .returned (.bool false) ∧ w = w') (E1 : (FloatKind.f64.format.order b NI == some .eq) = false) (E2 : (FloatKind.f64.format.order b 0 == some .eq) = false) (E3 : (FloatKind.f64.format.order NI b == some .gt) = false) (E4 : (FloatKind.f64.format.order b 0 == some .gt) = true) (hlo : (1 : Int) ≤ (b : Int)) (hhi : (b : Int) + 1 < 18446744073709551616) (w : World) :
    Calls Try.prog 69 #[.float .f64 b, .float .f64 NI] w fun r w' => r = .returned (.float .f64 (b - 1)) ∧ w = w' := by
  have HN' := Lib.hid HN
  clear HN
  have HY := Lib.hid (fun w => nan_NI w)
  have HC := Lib.hid (fun w => csign_dn w)
  go_enter Try.func69, Try.ntmps69
  go_wp2_with fail
  refine (HN'.out _).mono ?_
  rintro r w' ⟨rfl, rfl⟩
  go_wp2_with fail
  refine (HY.out _).mono ?_
  rintro r w' ⟨rfl, rfl⟩
  go_wp2_with fail
  go_ret
  exact ⟨ret_float (by omega), rfl⟩
theorem next_dn_ze {b : Nat} (HN : ∀ w, Calls Try.prog 66 #[.float .f64 b] w fun r w' => r = .returned (.bool false) ∧ w = w') (E1 : (FloatKind.f64.format.order b NI == some .eq) = false) (E2 : (FloatKind.f64.format.order b 0 == some .eq) = true) (E3 : (FloatKind.f64.format.order NI b == some .gt) = false) (E4 : (FloatKind.f64.format.order b 0 == some .gt) = false) (w : World) :
    Calls Try.prog 69 #[.float .f64 b, .float .f64 NI] w fun r w' => r = .returned (.float .f64 9223372036854775809) ∧ w = w' := by
  have HN' := Lib.hid HN
  clear HN
  have HY := Lib.hid (fun w => nan_NI w)
  have HC := Lib.hid (fun w => csign_dn w)
  go_enter Try.func69, Try.ntmps69
  go_wp2_with fail
  refine (HN'.out _).mono ?_
  rintro r w' ⟨rfl, rfl⟩
  go_wp2_with fail
  refine (HY.out _).mono ?_
  rintro r w' ⟨rfl, rfl⟩
  go_wp2_with fail
  refine (HC.out _).mono ?_
  rintro r w' ⟨rfl, rfl⟩
  go_wp2_with fail
  go_ret
  exact ⟨rfl, rfl⟩
theorem next_dn_po {b : Nat} (HN : ∀ w, Calls Try.prog 66 #[.float .f64 b] w fun r w' => r = .returned (.bool false) ∧ w = w') (E1 : (FloatKind.f64.format.order b NI == some .eq) = false) (E2 : (FloatKind.f64.format.order b 0 == some .eq) = false) (E3 : (FloatKind.f64.format.order NI b == some .gt) = false) (E4 : (FloatKind.f64.format.order b 0 == some .gt) = true) (hlo : (1 : Int) ≤ (b : Int)) (hhi : (b : Int) + 1 < 18446744073709551616) (w : World) :
    Calls Try.prog 69 #[.float .f64 b, .float .f64 NI] w fun r w' => r = .returned (.float .f64 (b - 1)) ∧ w = w' := by
  have HN' := Lib.hid HN
  clear HN
  have HY := Lib.hid (fun w => nan_NI w)
  have HC := Lib.hid (fun w => csign_dn w)
  go_enter Try.func69, Try.ntmps69
  go_wp2_with fail
  refine (HN'.out _).mono ?_
  rintro r w' ⟨rfl, rfl⟩
  go_wp2_with fail
  refine (HY.out _).mono ?_
  rintro r w' ⟨rfl, rfl⟩
  go_wp2_with fail
  go_ret
  exact ⟨ret_float (by omega), rfl⟩
theorem next_dn_ne {b : Nat} (HN : ∀ w, Calls Try.prog 66 #[.float .f64 b] w fun r w' => r = .returned (.bool false) ∧ w = w') (E1 : (FloatKind.f64.format.order b NI == some .eq) = false) (E2 : (FloatKind.f64.format.order b 0 == some .eq) = false) (E3 : (FloatKind.f64.format.order NI b == some .gt) = false) (E4 : (FloatKind.f64.format.order b 0 == some .gt) = false) (hlo : (1 : Int) ≤ (b : Int)) (hhi : (b : Int) + 1 < 18446744073709551616) (w : World) :
    Calls Try.prog 69 #[.float .f64 b, .float .f64 NI] w fun r w' => r = .returned (.float .f64 (b + 1)) ∧ w = w' := by
  have HN' := Lib.hid HN
  clear HN
  have HY := Lib.hid (fun w => nan_NI w)
  have HC := Lib.hid (fun w => csign_dn w)
  go_enter Try.func69, Try.ntmps69
  go_wp2_with fail
  refine (HN'.out _).mono ?_
  rintro r w' ⟨rfl, rfl⟩
  go_wp2_with fail
  refine (HY.out _).mono ?_
  rintro r w' ⟨rfl, rfl⟩
  go_wp2_with fail
  go_ret
  exact ⟨ret_float (by omega), rfl⟩
theorem next_up_ni {b : Nat} (HN : ∀ w, Calls Try.prog 66 #[.float .f64 b] w fun r w' => r = .returned (.bool false) ∧ w = w') (E1 : (FloatKind.f64.format.order b PI == some .eq) = false) (E2 : (FloatKind.f64.format.order b 0 == some .eq) = false) (E3 : (FloatKind.f64.format.order PI b == some .gt) = true) (E4 : (FloatKind.f64.format.order b 0 == some .gt) = false) (hlo : (1 : Int) ≤ (b : Int)) (hhi : (b : Int) + 1 < 18446744073709551616) (w : World) :
    Calls Try.prog 69 #[.float .f64 b, .float .f64 PI] w fun r w' => r = .returned (.float .f64 (b - 1)) ∧ w = w' := by
  have HN' := Lib.hid HN
  clear HN
  have HY := Lib.hid (fun w => nan_PI w)
  have HC := Lib.hid (fun w => csign_up w)
  go_enter Try.func69, Try.ntmps69
  go_wp2_with fail
  refine (HN'.out _).mono ?_
  rintro r w' ⟨rfl, rfl⟩
  go_wp2_with fail
  refine (HY.out _).mono ?_
  rintro r w' ⟨rfl, rfl⟩
  go_wp2_with fail
  go_ret
  exact ⟨ret_float (by omega), rfl⟩
theorem next_up_pi {b : Nat} (HN : ∀ w, Calls Try.prog 66 #[.float .f64 b] w fun r w' => r = .returned (.bool false) ∧ w = w') (E1 : (FloatKind.f64.format.order b PI == some .eq) = true) (E2 : (FloatKind.f64.format.order b 0 == some .eq) = false) (E3 : (FloatKind.f64.format.order PI b == some .gt) = false) (E4 : (FloatKind.f64.format.order b 0 == some .gt) = true) (w : World) :
    Calls Try.prog 69 #[.float .f64 b, .float .f64 PI] w fun r w' => r = .returned (.float .f64 b) ∧ w = w' := by
  have HN' := Lib.hid HN
  clear HN
  have HY := Lib.hid (fun w => nan_PI w)
  have HC := Lib.hid (fun w => csign_up w)
  go_enter Try.func69, Try.ntmps69
  go_wp2_with fail
  refine (HN'.out _).mono ?_
  rintro r w' ⟨rfl, rfl⟩
  go_wp2_with fail
  refine (HY.out _).mono ?_
  rintro r w' ⟨rfl, rfl⟩
  go_wp2_with fail
  go_ret
  exact ⟨rfl, rfl⟩
theorem next_up_ze {b : Nat} (HN : ∀ w, Calls Try.prog 66 #[.float .f64 b] w fun r w' => r = .returned (.bool false) ∧ w = w') (E1 : (FloatKind.f64.format.order b PI == some .eq) = false) (E2 : (FloatKind.f64.format.order b 0 == some .eq) = true) (E3 : (FloatKind.f64.format.order PI b == some .gt) = true) (E4 : (FloatKind.f64.format.order b 0 == some .gt) = false) (w : World) :
    Calls Try.prog 69 #[.float .f64 b, .float .f64 PI] w fun r w' => r = .returned (.float .f64 1) ∧ w = w' := by
  have HN' := Lib.hid HN
  clear HN
  have HY := Lib.hid (fun w => nan_PI w)
  have HC := Lib.hid (fun w => csign_up w)
  go_enter Try.func69, Try.ntmps69
  go_wp2_with fail
  refine (HN'.out _).mono ?_
  rintro r w' ⟨rfl, rfl⟩
  go_wp2_with fail
  refine (HY.out _).mono ?_
  rintro r w' ⟨rfl, rfl⟩
  go_wp2_with fail
  refine (HC.out _).mono ?_
  rintro r w' ⟨rfl, rfl⟩
  go_wp2_with fail
  go_ret
  exact ⟨rfl, rfl⟩
theorem next_up_po {b : Nat} (HN : ∀ w, Calls Try.prog 66 #[.float .f64 b] w fun r w' => r = .returned (.bool false) ∧ w = w') (E1 : (FloatKind.f64.format.order b PI == some .eq) = false) (E2 : (FloatKind.f64.format.order b 0 == some .eq) = false) (E3 : (FloatKind.f64.format.order PI b == some .gt) = true) (E4 : (FloatKind.f64.format.order b 0 == some .gt) = true) (hlo : (1 : Int) ≤ (b : Int)) (hhi : (b : Int) + 1 < 18446744073709551616) (w : World) :
    Calls Try.prog 69 #[.float .f64 b, .float .f64 PI] w fun r w' => r = .returned (.float .f64 (b + 1)) ∧ w = w' := by
  have HN' := Lib.hid HN
  clear HN
  have HY := Lib.hid (fun w => nan_PI w)
  have HC := Lib.hid (fun w => csign_up w)
  go_enter Try.func69, Try.ntmps69
  go_wp2_with fail
  refine (HN'.out _).mono ?_
  rintro r w' ⟨rfl, rfl⟩
  go_wp2_with fail
  refine (HY.out _).mono ?_
  rintro r w' ⟨rfl, rfl⟩
  go_wp2_with fail
  go_ret
  exact ⟨ret_float (by omega), rfl⟩
theorem next_up_ne {b : Nat} (HN : ∀ w, Calls Try.prog 66 #[.float .f64 b] w fun r w' => r = .returned (.bool false) ∧ w = w') (E1 : (FloatKind.f64.format.order b PI == some .eq) = false) (E2 : (FloatKind.f64.format.order b 0 == some .eq) = false) (E3 : (FloatKind.f64.format.order PI b == some .gt) = true) (E4 : (FloatKind.f64.format.order b 0 == some .gt) = false) (hlo : (1 : Int) ≤ (b : Int)) (hhi : (b : Int) + 1 < 18446744073709551616) (w : World) :
    Calls Try.prog 69 #[.float .f64 b, .float .f64 PI] w fun r w' => r = .returned (.float .f64 (b - 1)) ∧ w = w' := by
  have HN' := Lib.hid HN
  clear HN
  have HY := Lib.hid (fun w => nan_PI w)
  have HC := Lib.hid (fun w => csign_up w)
  go_enter Try.func69, Try.ntmps69
  go_wp2_with fail
  refine (HN'.out _).mono ?_
  rintro r w' ⟨rfl, rfl⟩
  go_wp2_with fail
  refine (HY.out _).mono ?_
  rintro r w' ⟨rfl, rfl⟩
  go_wp2_with fail
  go_ret
  exact ⟨ret_float (by omega), rfl⟩
theorem rb_ni {b : Nat} (E0 : (FloatKind.f64.format.order b b != some .eq) = false) (E1 : (FloatKind.f64.format.order b NI == some .eq) = true) (E2 : (FloatKind.f64.format.order b 0 == some .eq) = false) (E4 : (FloatKind.f64.format.order b 0 == some .gt) = false) (w : World) :
    Calls Try.prog 37 #[.float .f64 b] w fun r w' => r = .returned (.float .f64 b) ∧ w = w' := by
  have HI := Lib.hid rinf_any
  have EN := neg_PI
  go_enter Try.func37, Try.ntmps37
  go_wp2_with fail
  refine (HI.out _).mono ?_
  rintro r w' ⟨rfl, rfl⟩
  go_wp2_with fail
  go_ret
  exact ⟨rfl, rfl⟩
theorem rb_pi {b : Nat} (E0 : (FloatKind.f64.format.order b b != some .eq) = false) (E1 : (FloatKind.f64.format.order b NI == some .eq) = false) (E2 : (FloatKind.f64.format.order b 0 == some .eq) = false) (E4 : (FloatKind.f64.format.order b 0 == some .gt) = true) (hlo : (1 : Int) ≤ (b : Int)) (hhi : (b : Int) + 1 < 18446744073709551616) (HZ : ∀ w, Calls Try.prog 47 #[.float .f64 (b - 1)] w fun r w' => r = .returned (.float .f64 (b - 1)) ∧ w = w') (w : World) :
    Calls Try.prog 37 #[.float .f64 b] w fun r w' => r = .returned (.float .f64 (b - 1)) ∧ w = w' := by
  have HI := Lib.hid rinf_any
  have EN := neg_PI
  have HZ' := Lib.hid HZ
  clear HZ
  go_enter Try.func37, Try.ntmps37
  go_wp2_with fail
  refine (HI.out _).mono ?_
  rintro r w' ⟨rfl, rfl⟩
  go_wp2_with fail
  refine (HZ'.out _).mono ?_
  rintro r w' ⟨rfl, rfl⟩
  go_wp2_with fail
  go_ret
  exact ⟨rfl, rfl⟩
theorem rb_ze {b : Nat} (E0 : (FloatKind.f64.format.order b b != some .eq) = false) (E1 : (FloatKind.f64.format.order b NI == some .eq) = false) (E2 : (FloatKind.f64.format.order b 0 == some .eq) = true) (E4 : (FloatKind.f64.format.order b 0 == some .gt) = false) (w : World) :
    Calls Try.prog 37 #[.float .f64 b] w fun r w' => r = .returned (.float .f64 9223372036854775809) ∧ w = w' := by
  have HI := Lib.hid rinf_any
  have EN := neg_PI
  go_enter Try.func37, Try.ntmps37
  go_wp2_with fail
  refine (HI.out _).mono ?_
  rintro r w' ⟨rfl, rfl⟩
  go_wp2_with fail
  go_ret
  exact ⟨rfl, rfl⟩
theorem rb_po {b : Nat} (E0 : (FloatKind.f64.format.order b b != some .eq) = false) (E1 : (FloatKind.f64.format.order b NI == some .eq) = false) (E2 : (FloatKind.f64.format.order b 0 == some .eq) = false) (E4 : (FloatKind.f64.format.order b 0 == some .gt) = true) (hlo : (1 : Int) ≤ (b : Int)) (hhi : (b : Int) + 1 < 18446744073709551616) (HZ : ∀ w, Calls Try.prog 47 #[.float .f64 (b - 1)] w fun r w' => r = .returned (.float .f64 (b - 1)) ∧ w = w') (w : World) :
    Calls Try.prog 37 #[.float .f64 b] w fun r w' => r = .returned (.float .f64 (b - 1)) ∧ w = w' := by
  have HI := Lib.hid rinf_any
  have EN := neg_PI
  have HZ' := Lib.hid HZ
  clear HZ
  go_enter Try.func37, Try.ntmps37
  go_wp2_with fail
  refine (HI.out _).mono ?_
  rintro r w' ⟨rfl, rfl⟩
  go_wp2_with fail
  refine (HZ'.out _).mono ?_
  rintro r w' ⟨rfl, rfl⟩
  go_wp2_with fail
  go_ret
  exact ⟨rfl, rfl⟩
theorem rb_ne {b : Nat} (E0 : (FloatKind.f64.format.order b b != some .eq) = false) (E1 : (FloatKind.f64.format.order b NI == some .eq) = false) (E2 : (FloatKind.f64.format.order b 0 == some .eq) = false) (E4 : (FloatKind.f64.format.order b 0 == some .gt) = false) (hlo : (1 : Int) ≤ (b : Int)) (hhi : (b : Int) + 1 < 18446744073709551616) (w : World) :
    Calls Try.prog 37 #[.float .f64 b] w fun r w' => r = .returned (.float .f64 (b + 1)) ∧ w = w' := by
  have HI := Lib.hid rinf_any
  have EN := neg_PI
  go_enter Try.func37, Try.ntmps37
  go_wp2_with fail
  refine (HI.out _).mono ?_
  rintro r w' ⟨rfl, rfl⟩
  go_wp2_with fail
  go_ret
  exact ⟨ret_float (by omega), rfl⟩
end Go.Proofs.Ythkfaacgabkhhaa.Nb

namespace Go.Proofs.Ythkfaacgabkhhaa.Nb
open Go.RowKit Ieee

theorem wrd_t (r : Nat) : Fl.wrd true r = Fl.SGN + r := rfl
theorem small_mg {r : Nat} (h : r ≤ Fl.INF) : Fl.mg r = r ∧ Fl.sg r = false := by
  have hs : r < Fl.SGN := Nat.lt_of_le_of_lt h Fl.inf_sgn
  exact ⟨Nat.mod_eq_of_lt hs, decide_eq_false (by omega)⟩
theorem big_mg {r : Nat} (h : r ≤ Fl.INF) : Fl.mg (Fl.SGN + r) = r ∧ Fl.sg (Fl.SGN + r) = true := by
  have hs : r < Fl.SGN := Nat.lt_of_le_of_lt h Fl.inf_sgn
  have h1 := Fl.wrd_mg true hs
  have h2 := Fl.wrd_sg true hs
  exact ⟨h1, h2⟩
theorem nan_of_mg {b r : Nat} (h : Fl.mg b = r) (hr : r ≤ Fl.INF) : Fl.nan b = false := by
  unfold Fl.nan
  rw [h]
  exact decide_eq_false (by omega)
theorem SGN_eq : Fl.SGN = 9223372036854775808 := rfl
theorem INF_eq : Fl.INF = 9218868437227405312 := rfl
theorem NI_eq : NI = Fl.SGN + Fl.INF := by decide
theorem PI_eq : PI = Fl.INF := by decide

theorem below_ni : belowV NI = NI := by decide
theorem below_po {r : Nat} (h0 : r ≠ 0) (h : r ≤ Fl.INF) : belowV r = r - 1 := by
  obtain ⟨m, s⟩ := small_mg h
  unfold belowV
  rw [if_neg (by rw [NI_eq]; have := Fl.inf_sgn; omega), m, if_neg h0, s, if_neg Bool.false_ne_true]
theorem below_ne {r : Nat} (h0 : r ≠ 0) (h : r < Fl.INF) : belowV (Fl.SGN + r) = Fl.SGN + (r + 1) := by
  obtain ⟨m, s⟩ := big_mg (Nat.le_of_lt h)
  unfold belowV
  rw [if_neg (by rw [NI_eq]; omega), m, if_neg h0, s, if_pos rfl, Nat.add_assoc]
theorem below_ze {b : Nat} (h : Fl.mg b = 0) : belowV b = 9223372036854775809 := by
  unfold belowV
  rw [if_neg, if_pos h]
  intro e
  rw [e] at h
  exact absurd h (by decide)
theorem above_po {r : Nat} (h0 : r ≠ 0) (h : r < Fl.INF) : aboveV r = r + 1 := by
  obtain ⟨m, s⟩ := small_mg (Nat.le_of_lt h)
  unfold aboveV
  rw [if_neg (by rw [PI_eq]; omega), m, if_neg h0, s, if_neg Bool.false_ne_true]
theorem above_ne {r : Nat} (h0 : r ≠ 0) (h : r ≤ Fl.INF) : aboveV (Fl.SGN + r) = Fl.SGN + (r - 1) := by
  obtain ⟨m, s⟩ := big_mg h
  unfold aboveV
  rw [if_neg (by rw [PI_eq]; have := Fl.inf_sgn; omega), m, if_neg h0, s, if_pos rfl]
  omega
theorem above_ze {b : Nat} (h : Fl.mg b = 0) : aboveV b = 1 := by
  unfold aboveV
  rw [if_neg, if_pos h]
  intro e
  rw [e] at h
  exact absurd h (by decide)
theorem above_pi : aboveV PI = PI := by decide

/-- What is told of b, by its kind. -/
theorem ok_of {v r : Nat} (hm : Fl.mg v = r) (hr : r ≤ Fl.INF) (hv : v < 18446744073709551616) (h0 : v ≠ Fl.SGN) : v < 18446744073709551616 ∧ Fl.nan v = false ∧ Fl.pl v = v :=
  ⟨hv, nan_of_mg hm hr, by unfold Fl.pl; rw [if_neg h0]⟩
theorem belowV_ok {b : Nat} (hb : b < 18446744073709551616) (hn : Fl.nan b = false) : belowV b < 18446744073709551616 ∧ Fl.nan (belowV b) = false ∧ Fl.pl (belowV b) = belowV b := by
  have e1 := SGN_eq
  have e2 := INF_eq
  rcases kind_of hb hn with ⟨rfl, _⟩ | ⟨rfl, _⟩ | ⟨_, _, h0, _⟩ | ⟨_, _, h0, hl, hs, _⟩ | ⟨_, _, h0, hl, hs, _⟩
  · decide
  · decide
  · rw [below_ze h0]; decide
  · have hw := word_pos hb hs
    generalize Fl.mg b = r at *
    subst hw
    rw [below_po h0 (Nat.le_of_lt hl)]
    exact ok_of (small_mg (r := b - 1) (by omega)).1 (by omega) (by omega) (by omega)
  · have hw := word_neg hb hs
    generalize Fl.mg b = r at *
    subst hw
    rw [below_ne h0 hl]
    exact ok_of (big_mg (r := r + 1) (by omega)).1 (by omega) (by omega) (by omega)
theorem aboveV_ok {b : Nat} (hb : b < 18446744073709551616) (hn : Fl.nan b = false) : aboveV b < 18446744073709551616 ∧ Fl.nan (aboveV b) = false := by
  have e1 := SGN_eq
  have e2 := INF_eq
  rcases kind_of hb hn with ⟨rfl, _⟩ | ⟨rfl, _⟩ | ⟨_, _, h0, _⟩ | ⟨_, _, h0, hl, hs, _⟩ | ⟨_, _, h0, hl, hs, _⟩
  · decide
  · decide
  · rw [above_ze h0]; decide
  · have hw := word_pos hb hs
    generalize Fl.mg b = r at *
    subst hw
    rw [above_po h0 hl]
    exact ⟨by omega, nan_of_mg (small_mg (r := b + 1) (by omega)).1 (by omega)⟩
  · have hw := word_neg hb hs
    generalize Fl.mg b = r at *
    subst hw
    rw [above_ne h0 (Nat.le_of_lt hl)]
    exact ⟨by omega, nan_of_mg (big_mg (r := r - 1) (by omega)).1 (by omega)⟩
theorem flip_po {r : Nat} (h : r ≤ Fl.INF) (h0 : r ≠ 0) : ng r = Fl.SGN + r := by
  unfold ng
  rw [(small_mg h).1, if_neg h0, flip_pos h h0]; rfl
theorem flip_ne {r : Nat} (h : r ≤ Fl.INF) (h0 : r ≠ 0) : ng (Fl.SGN + r) = r := by
  obtain ⟨m, s⟩ := big_mg h
  unfold ng Fl.flip
  rw [m, s, if_neg h0]; rfl
theorem above_eq {b : Nat} (hb : b < 18446744073709551616) (hn : Fl.nan b = false) : Fl.pl (ng (belowV (ng b))) = Fl.pl (aboveV b) := by
  have e1 := SGN_eq
  have e2 := INF_eq
  rcases kind_of hb hn with ⟨rfl, _⟩ | ⟨rfl, _⟩ | ⟨_, _, h0, _⟩ | ⟨_, _, h0, hl, hs, _⟩ | ⟨_, _, h0, hl, hs, _⟩
  · decide
  · decide
  · rw [above_ze h0, show ng b = 0 by unfold ng; rw [if_pos h0]]; decide
  · have hw := word_pos hb hs
    generalize Fl.mg b = r at *
    subst hw
    rw [flip_po (Nat.le_of_lt hl) h0, below_ne h0 hl, flip_ne (by omega) (by omega), above_po h0 hl]
  · have hw := word_neg hb hs
    generalize Fl.mg b = r at *
    subst hw
    rw [flip_ne (Nat.le_of_lt hl) h0, below_po h0 (Nat.le_of_lt hl), above_ne h0 (Nat.le_of_lt hl)]
    by_cases h1 : r - 1 = 0
    · rw [h1]; decide
    · rw [flip_po (by omega) h1]

/-! ### the walks by kind -/
theorem next_dn_any {b : Nat} (hb : b < 18446744073709551616) (hn : Fl.nan b = false) (w : World) : Calls Try.prog 69 #[.float .f64 b, .float .f64 NI] w fun r w' => r = .returned (.float .f64 (belowV b)) ∧ w = w' := by
  have e1 := SGN_eq
  have e2 := INF_eq
  have HN := fun w => nan_no hb hn w
  have c1 := cNI_eq hb hn
  have c2 := c0_eq hb hn
  have c3 := cNI_gt hb hn
  have c4 := c0_gt hb hn
  rcases kind_of hb hn with ⟨h, k⟩ | ⟨h, k⟩ | ⟨_, _, h0, k⟩ | ⟨_, _, h0, hl, hs, k⟩ | ⟨_, _, h0, hl, hs, k⟩
  all_goals
    rw [k.ni] at c1
    rw [k.z] at c2
    rw [k.pos] at c4
  · have := next_dn_ni HN c1 c2 c3 c4 w
    rw [show belowV b = b by rw [h]; decide]
    exact this
  · have := next_dn_pi HN c1 c2 c3 c4 (by rw [h]; decide) (by rw [h]; decide) w
    rw [show belowV b = b - 1 by rw [h]; decide]
    exact this
  · rw [below_ze h0]
    exact next_dn_ze HN c1 c2 c3 c4 w
  · have hw := word_pos hb hs
    have := next_dn_po HN c1 c2 c3 c4 (by omega) (by omega) w
    rw [hw] at this ⊢
    rw [below_po h0 (Nat.le_of_lt hl)]
    exact this
  · have hw := word_neg hb hs
    have := next_dn_ne HN c1 c2 c3 c4 (by omega) (by omega) w
    rw [hw] at this ⊢
    rw [below_ne h0 hl]
    exact this
theorem next_up_any {b : Nat} (hb : b < 18446744073709551616) (hn : Fl.nan b = false) (w : World) : Calls Try.prog 69 #[.float .f64 b, .float .f64 PI] w fun r w' => r = .returned (.float .f64 (aboveV b)) ∧ w = w' := by
  have e1 := SGN_eq
  have e2 := INF_eq
  have HN := fun w => nan_no hb hn w
  have c1 := cPI_eq hb hn
  have c2 := c0_eq hb hn
  have c3 := cPI_gt hb hn
  have c4 := c0_gt hb hn
  rcases kind_of hb hn with ⟨h, k⟩ | ⟨h, k⟩ | ⟨_, _, h0, k⟩ | ⟨_, _, h0, hl, hs, k⟩ | ⟨_, _, h0, hl, hs, k⟩
  all_goals
    rw [k.pi] at c1
    rw [k.z] at c2
    rw [k.lt] at c3
    rw [k.pos] at c4
  · have := next_up_ni HN c1 c2 c3 c4 (by rw [h]; decide) (by rw [h]; decide) w
    rw [show aboveV b = b - 1 by rw [h]; decide]
    exact this
  · have := next_up_pi HN c1 c2 c3 c4 w
    rw [show aboveV b = b by rw [h]; decide]
    exact this
  · rw [above_ze h0]
    exact next_up_ze HN c1 c2 c3 c4 w
  · have hw := word_pos hb hs
    have := next_up_po HN c1 c2 c3 c4 (by omega) (by omega) w
    rw [hw] at this ⊢
    rw [above_po h0 hl]
    exact this
  · have hw := word_neg hb hs
    have := next_up_ne HN c1 c2 c3 c4 (by omega) (by omega) w
    rw [hw] at this ⊢
    rw [above_ne h0 (Nat.le_of_lt hl), show Fl.SGN + (Fl.mg b - 1) = Fl.SGN + Fl.mg b - 1 by omega]
    exact this
theorem rb_any {b : Nat} (hb : b < 18446744073709551616) (hn : Fl.nan b = false) (w : World) : Calls Try.prog 37 #[.float .f64 b] w fun r w' => r = .returned (.float .f64 (belowV b)) ∧ w = w' := by
  have e1 := SGN_eq
  have e2 := INF_eq
  have c0 := c_ne hb hn
  have c1 := cNI_eq hb hn
  have c2 := c0_eq hb hn
  have c4 := c0_gt hb hn
  have HZ : ∀ r : Nat, r ≤ Fl.INF → ∀ w, Calls Try.prog 47 #[.float .f64 r] w fun s w' => s = .returned (.float .f64 r) ∧ w = w' := by
    intro r hr w
    obtain ⟨b1, b2, b3⟩ := pos_nan hr
    have := zeroed_any r b1 b2 w
    rw [pl_pos hr] at this
    exact this
  have HW : ∀ w, b ≤ Fl.INF → 1 ≤ b → Calls Try.prog 47 #[.float .f64 (b - 1)] w fun s w' => s = .returned (.float .f64 (b - 1)) ∧ w = w' := by
    intro w h1 h2
    exact HZ (b - 1) (by omega) w
  rcases kind_of hb hn with ⟨h, k⟩ | ⟨h, k⟩ | ⟨_, _, h0, k⟩ | ⟨_, _, h0, hl, hs, k⟩ | ⟨_, _, h0, hl, hs, k⟩
  all_goals
    rw [k.ni] at c1
    rw [k.z] at c2
    rw [k.pos] at c4
  · have := rb_ni c0 c1 c2 c4 w
    rw [show belowV b = b by rw [h]; decide]
    exact this
  · have hp : b ≤ Fl.INF := by rw [h]; decide
    have := rb_pi c0 c1 c2 c4 (by rw [h]; decide) (by rw [h]; decide) (fun w => HW w hp (by rw [h]; decide)) w
    rw [show belowV b = b - 1 by rw [h]; decide]
    exact this
  · rw [below_ze h0]
    exact rb_ze c0 c1 c2 c4 w
  · have hw := word_pos hb hs
    have := rb_po c0 c1 c2 c4 (by omega) (by omega) (fun w => HW w (by omega) (by omega)) w
    rw [show belowV b = b - 1 by rw [hw]; exact below_po h0 (Nat.le_of_lt hl)]
    exact this
  · have hw := word_neg hb hs
    have := rb_ne c0 c1 c2 c4 (by omega) (by omega) w
    rw [show belowV b = b + 1 by rw [hw]; exact below_ne h0 hl]
    exact this

theorem below_any {b : Nat} (hb : b < 18446744073709551616) (hn : Fl.nan b = false) (w : World) : Calls Try.prog 35 #[.float .f64 b] w fun r w' => r = .returned (.float .f64 (belowV b)) ∧ w = w' := by
  obtain ⟨k1, k2, k3⟩ := belowV_ok hb hn
  have HI := Lib.hid (fun w => inf_neg (-1) (by omega) w)
  have HX := Lib.hid (fun w => next_dn_any hb hn w)
  have HP := Lib.hid (fun w => plain_any (belowV b) k1 k2 w)
  rw [k3] at HP
  generalize belowV b = v at *
  clear hn k1 k2 k3
  go_enter Try.func35, Try.ntmps35
  go_wp2_with fail
  refine (HI.out _).mono ?_
  rintro r w' ⟨rfl, rfl⟩
  go_wp2_with fail
  refine (HX.out _).mono ?_
  rintro r w' ⟨rfl, rfl⟩
  go_wp2_with fail
  refine (HP.out _).mono ?_
  rintro r w' ⟨rfl, rfl⟩
  go_wp2_with fail
  go_ret
  exact ⟨rfl, rfl⟩
theorem above_any {b : Nat} (hb : b < 18446744073709551616) (hn : Fl.nan b = false) (w : World) : Calls Try.prog 36 #[.float .f64 b] w fun r w' => r = .returned (.float .f64 (Fl.pl (aboveV b))) ∧ w = w' := by
  obtain ⟨k1, k2⟩ := aboveV_ok hb hn
  have HI := Lib.hid (fun w => inf_pos 1 (by omega) w)
  have HX := Lib.hid (fun w => next_up_any hb hn w)
  have HP := Lib.hid (fun w => plain_any (aboveV b) k1 k2 w)
  generalize Fl.pl (aboveV b) = u at *
  generalize aboveV b = v at *
  clear hn k1 k2
  go_enter Try.func36, Try.ntmps36
  go_wp2_with fail
  refine (HI.out _).mono ?_
  rintro r w' ⟨rfl, rfl⟩
  go_wp2_with fail
  refine (HX.out _).mono ?_
  rintro r w' ⟨rfl, rfl⟩
  go_wp2_with fail
  refine (HP.out _).mono ?_
  rintro r w' ⟨rfl, rfl⟩
  go_wp2_with fail
  go_ret
  exact ⟨rfl, rfl⟩
theorem ra_any {b : Nat} (hb : b < 18446744073709551616) (hn : Fl.nan b = false) (w : World) : Calls Try.prog 38 #[.float .f64 b] w fun r w' => r = .returned (.float .f64 (Fl.pl (aboveV b))) ∧ w = w' := by
  have hn2 : Fl.nan (ng b) = false := by rw [ng_nan]; exact hn
  obtain ⟨k1, k2, k3⟩ := belowV_ok (ng_lt b) hn2
  have r1 := fun (t : TypeId) (w : World) => run_float_arith (P := Try.prog) w .sub t .f64 _ _ _ (ng_sub b hb hn)
  have r2 := fun (t : TypeId) (w : World) => run_float_arith (P := Try.prog) w .sub t .f64 _ _ _ (ng_sub _ k1 k2)
  have HX := Lib.hid (fun w => rb_any (ng_lt b) hn2 w)
  have HP := Lib.hid (fun w => zeroed_any (ng (belowV (ng b))) (ng_lt _) (by rw [ng_nan]; exact k2) w)
  rw [above_eq hb hn] at HP
  generalize Fl.pl (aboveV b) = u at *
  generalize ng (belowV (ng b)) = z at *
  generalize belowV (ng b) = y at *
  generalize ng b = b' at *
  clear hn k1 k2 k3 hn2
  go_enter Try.func38, Try.ntmps38
  go_wp2_with fail
  refine (HX.out _).mono ?_
  rintro r w' ⟨rfl, rfl⟩
  go_wp2_with fail
  refine (HP.out _).mono ?_
  rintro r w' ⟨rfl, rfl⟩
  go_wp2_with fail
  go_ret
  exact ⟨rfl, rfl⟩

/-! ### of a NaN -/
theorem nan_const (w : World) : Calls Try.prog 82 #[] w fun e w' => e = .returned (.float .f64 9221120237041090561) ∧ w = w' := by
  go_enter Try.func82, Try.ntmps82
  go_wp2
  go_ret
  exact ⟨rfl, rfl⟩
theorem next_nan {b : Nat} (hb : b < 18446744073709551616) (hn : Fl.nan b = true) (y : Nat) (w : World) : Calls Try.prog 69 #[.float .f64 b, .float .f64 y] w fun r w' => r = .returned (.float .f64 9221120237041090561) ∧ w = w' := by
  have HN := Lib.hid (fun w => isNaN_any b hb w)
  rw [hn] at HN
  have HC := Lib.hid nan_const
  clear hn
  go_enter Try.func69, Try.ntmps69
  go_wp2_with fail
  refine (HN.out _).mono ?_
  rintro r w' ⟨rfl, rfl⟩
  go_wp2_with fail
  refine (HC.out _).mono ?_
  rintro r w' ⟨rfl, rfl⟩
  go_wp2_with fail
  go_ret
  exact ⟨rfl, rfl⟩
theorem bnan {b : Nat} (hb : b < 18446744073709551616) (hn : Fl.nan b = true) (w : World) : Calls Try.prog 35 #[.float .f64 b] w fun r w' => ∃ u, r = .returned (.float .f64 (nanW 9221120237041090561 0 u)) ∧ w.drew = w' := by
  have HI := Lib.hid (fun w => inf_neg (-1) (by omega) w)
  have HX := Lib.hid (fun w => next_nan hb hn 18442240474082181120 w)
  have HP := Lib.hid (fun w => plain_nan 9221120237041090561 (by decide) (by decide) w)
  clear hn
  go_enter Try.func35, Try.ntmps35
  go_wp2_with fail
  refine (HI.out _).mono ?_
  rintro r w' ⟨rfl, rfl⟩
  go_wp2_with fail
  refine (HX.out _).mono ?_
  rintro r w' ⟨rfl, rfl⟩
  go_wp2_with fail
  refine (HP.out _).mono ?_
  rintro r w' ⟨rfl, rfl⟩
  go_wp2_with fail
  go_ret
  exact ⟨_, rfl, rfl⟩
theorem anan {b : Nat} (hb : b < 18446744073709551616) (hn : Fl.nan b = true) (w : World) : Calls Try.prog 36 #[.float .f64 b] w fun r w' => ∃ u, r = .returned (.float .f64 (nanW 9221120237041090561 0 u)) ∧ w.drew = w' := by
  have HI := Lib.hid (fun w => inf_pos 1 (by omega) w)
  have HX := Lib.hid (fun w => next_nan hb hn 9218868437227405312 w)
  have HP := Lib.hid (fun w => plain_nan 9221120237041090561 (by decide) (by decide) w)
  clear hn
  go_enter Try.func36, Try.ntmps36
  go_wp2_with fail
  refine (HI.out _).mono ?_
  rintro r w' ⟨rfl, rfl⟩
  go_wp2_with fail
  refine (HX.out _).mono ?_
  rintro r w' ⟨rfl, rfl⟩
  go_wp2_with fail
  refine (HP.out _).mono ?_
  rintro r w' ⟨rfl, rfl⟩
  go_wp2_with fail
  go_ret
  exact ⟨_, rfl, rfl⟩
theorem nanW_ne (x y : Nat) (u : World) (z : Nat) (hz : z < 18446744073709551616) : (FloatKind.f64.format.order (nanW x y u) z != some .eq) = true := by
  show (Ieee.double.order (nanW x y u) z != some .eq) = true
  rw [Fl.order_nan_left _ _ (nanW_lt x y u) (nanW_nan x y u)]; rfl
end Go.Proofs.Ythkfaacgabkhhaa.Nb
