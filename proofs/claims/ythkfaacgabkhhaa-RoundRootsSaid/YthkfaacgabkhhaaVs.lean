/- Floor: the walks of both sides; the row of roots. -/
import Derived.Test.YthkfaacgabkhhaaPd
import Derived.Laws.Externs
set_option linter.unusedVariables false
set_option linter.unusedSimpArgs false
namespace Go.Proofs.Ythkfaacgabkhhaa
open Go.RowKit Ieee

theorem archFloor_call (b : Nat) (h : b < 18446744073709551616) (hf : Fl.fin b = true) (w : World) :
    (callFunc 84 #[.float .f64 b]).run Try.prog w = .ok (.value (.float .f64 (Fl.flW b))) w := by
  rw [run_callFunc_extern Try.func84 (by kernel_rfl) (by kernel_rfl) (by kernel_rfl) (e := Extern.MathFloor.toIntegral "math.archFloor" .down) (by kernel_rfl)]
  obtain ⟨e1, m, p, e2⟩ := Fl.flW_read b h hf
  have d : FloatKind.f64.decode b = .number (Fl.sg b) m p := e2
  have e3 : FloatKind.f64.encode (Datum.integral .down (.number (Fl.sg b) m p)) = Fl.flW b := by rw [← e1, e2]; rfl
  have key : (Extern.MathFloor.toIntegral "math.archFloor" .down #[.float .f64 b]).run Try.prog w = .ok (.float .f64 (Fl.flW b)) w := by
    rw [← e3]
    show Sem.run Try.prog (Extern.MathFloor.toIntegral.match_1 (fun _ => Sem Value) (FloatKind.f64.decode b) _ _) w = _
    rw [d]
    rfl
  rw [key]
  rfl

/-- What Floor tells of a finite number. -/
def floorV (b : Nat) : Nat := Fl.pl (Fl.flW b)
theorem flW_ok (b : Nat) (h : b < 18446744073709551616) (hf : Fl.fin b = true) : Fl.flW b < 18446744073709551616 ∧ Fl.nan (Fl.flW b) = false := by
  by_cases hr : Fl.rest b = true
  · obtain ⟨r1, r2, r3⟩ := Fl.rest_true hr
    unfold Fl.flW
    by_cases h0 : Fl.whole b + (Fl.sg b && Fl.rest b).toNat = 0
    · rw [h0, Fl.nearest_zero]
      cases Fl.sg b <;> decide
    · have hle : Fl.whole b + (Fl.sg b && Fl.rest b).toNat ≤ 9007199254740992 := by
        have : (Fl.sg b && Fl.rest b).toNat ≤ 1 := Bool.toNat_le _
        omega
      obtain ⟨h1, h2, h3, h4⟩ := Fl.nst (Fl.sg b) _ h0 hle
      rw [h1]
      exact wrd_ok _ _ (Nat.le_of_lt h2)
  · rw [Fl.flW_exact h hf (by revert hr; cases Fl.rest b <;> simp)]
    exact ⟨h, Fl.nan_of_fin hf⟩

theorem mfloor (b : Nat) (h : b < 18446744073709551616) (hf : Fl.fin b = true) (w : World) : Calls Try.prog 71 #[.float .f64 b] w fun r w' => r = .returned (.float .f64 (Fl.flW b)) ∧ w = w' := by
  have hF := fun w => archFloor_call b h hf w
  generalize Fl.flW b = v at *
  clear hf
  go_enter Try.func71, Try.ntmps71
  go_wp2_with fail
  go_ret
  exact ⟨rfl, rfl⟩
theorem floor_good (b : Nat) (h : b < 18446744073709551616) (hf : Fl.fin b = true) (w : World) : Calls Try.prog 40 #[.float .f64 b] w fun r w' => r = .returned (numV (floorV b) 0) ∧ w = w' := by
  have HN := Lib.hid (fun w => number_any b h w)
  rw [hf] at HN
  obtain ⟨k1, k2⟩ := flW_ok b h hf
  have HF := Lib.hid (fun w => mfloor b h hf w)
  have HP := Lib.hid (fun w => plain_any (Fl.flW b) k1 k2 w)
  unfold floorV
  generalize Fl.pl (Fl.flW b) = u at *
  generalize Fl.flW b = v at *
  clear hf k1 k2
  go_enter Try.func40, Try.ntmps40
  go_wp2_with fail
  refine (HN.out _).mono ?_
  rintro r w' ⟨rfl, rfl⟩
  go_wp2_with fail
  refine (HF.out _).mono ?_
  rintro r w' ⟨rfl, rfl⟩
  go_wp2_with fail
  refine (HP.out _).mono ?_
  rintro r w' ⟨rfl, rfl⟩
  go_wp2_with fail
  go_ret2
  exact ⟨rfl, rfl⟩
theorem floor_bad (b : Nat) (h : b < 18446744073709551616) (hf : Fl.fin b = false) (w : World) : Calls Try.prog 40 #[.float .f64 b] w fun r w' => r = .returned (numV 0 10) ∧ w = w' := by
  have HN := Lib.hid (fun w => number_any b h w)
  rw [hf] at HN
  clear hf
  go_enter Try.func40, Try.ntmps40
  go_wp2_with fail
  refine (HN.out _).mono ?_
  rintro r w' ⟨rfl, rfl⟩
  go_wp2_with fail
  go_ret2
  exact ⟨rfl, rfl⟩
theorem rfloor_bad (b : Nat) (h : b < 18446744073709551616) (hf : Fl.fin b = false) (w : World) : Calls Try.prog 41 #[.float .f64 b] w fun r w' => r = .returned (numV 0 10) ∧ w.drew = w' := by
  have HN := Lib.hid (fun w => rnum_bad b h hf w)
  clear hf
  go_enter Try.func41, Try.ntmps41
  go_wp2_with fail
  refine (HN.out _).mono ?_
  rintro r w' ⟨rfl, rfl⟩
  go_wp2_with fail
  go_ret2
  exact ⟨rfl, rfl⟩

theorem rfloor_big (b : Nat) (h : b < 18446744073709551616) (hf : Fl.fin b = true) (g1 l1 : Bool) (hg : (FloatKind.f64.format.order b C53 == some .gt || FloatKind.f64.format.order b C53 == some .eq) = g1) (hl : (FloatKind.f64.format.order b N53 == some .lt || FloatKind.f64.format.order b N53 == some .eq) = l1) (hor : (g1 || l1) = true) (w : World) :
    Calls Try.prog 41 #[.float .f64 b] w fun r w' => r = .returned (numV b 0) ∧ w = w' := by
  have HN := Lib.hid (fun w => rnum_good b h hf w)
  clear hf
  cases g1
  · obtain rfl : l1 = true := by simpa using hor
    clear hor
    go_enter Try.func41, Try.ntmps41
    go_wp2_with fail
    refine (HN.out _).mono ?_
    rintro r w' ⟨rfl, rfl⟩
    go_wp2_with fail
    go_ret2
    exact ⟨rfl, rfl⟩
  · clear hor
    go_enter Try.func41, Try.ntmps41
    go_wp2_with fail
    refine (HN.out _).mono ?_
    rintro r w' ⟨rfl, rfl⟩
    go_wp2_with fail
    go_ret2
    exact ⟨rfl, rfl⟩

theorem rfloor_mid (b : Nat) (h : b < 18446744073709551616) (hf : Fl.fin b = true) (hg : (FloatKind.f64.format.order b C53 == some .gt || FloatKind.f64.format.order b C53 == some .eq) = false) (hl : (FloatKind.f64.format.order b N53 == some .lt || FloatKind.f64.format.order b N53 == some .eq) = false)
    (n : Int) (hn : floatToIntVal .f64 b .i64 = some n) (hgt : (FloatKind.f64.format.order (floatOfInt .f64 n) b == some .gt) = false) (z : Nat) (HZ : ∀ w, Calls Try.prog 47 #[.float .f64 (floatOfInt .f64 n)] w fun r w' => r = .returned (.float .f64 z) ∧ w = w') (w : World) :
    Calls Try.prog 41 #[.float .f64 b] w fun r w' => r = .returned (numV z 0) ∧ w = w' := by
  have HN := Lib.hid (fun w => rnum_good b h hf w)
  have HZ' := Lib.hid HZ
  have hc := fun w => run_convert_float_int (P := Try.prog) w 22 3 .f64 .i64 b n (by kernel_rfl) Try.underlying3 hn
  clear hf HZ hn
  go_enter Try.func41, Try.ntmps41
  go_wp2_with fail
  refine (HN.out _).mono ?_
  rintro r w' ⟨rfl, rfl⟩
  go_wp2_with fail
  refine (HZ'.out _).mono ?_
  rintro r w' ⟨rfl, rfl⟩
  go_wp2_with fail
  go_ret2
  exact ⟨rfl, rfl⟩
theorem rfloor_low (b : Nat) (h : b < 18446744073709551616) (hf : Fl.fin b = true) (hg : (FloatKind.f64.format.order b C53 == some .gt || FloatKind.f64.format.order b C53 == some .eq) = false) (hl : (FloatKind.f64.format.order b N53 == some .lt || FloatKind.f64.format.order b N53 == some .eq) = false)
    (n : Int) (hn : floatToIntVal .f64 b .i64 = some n) (hgt : (FloatKind.f64.format.order (floatOfInt .f64 n) b == some .gt) = true) (u z : Nat) (hu : floatBits .sub .f64 (floatOfInt .f64 n) 4607182418800017408 = some u) (HZ : ∀ w, Calls Try.prog 47 #[.float .f64 u] w fun r w' => r = .returned (.float .f64 z) ∧ w = w') (w : World) :
    Calls Try.prog 41 #[.float .f64 b] w fun r w' => r = .returned (numV z 0) ∧ w = w' := by
  have HN := Lib.hid (fun w => rnum_good b h hf w)
  have HZ' := Lib.hid HZ
  have hc := fun w => run_convert_float_int (P := Try.prog) w 22 3 .f64 .i64 b n (by kernel_rfl) Try.underlying3 hn
  have hs := fun (t : TypeId) (w : World) => run_float_arith (P := Try.prog) w .sub t .f64 _ _ _ hu
  clear hf HZ hn hu
  go_enter Try.func41, Try.ntmps41
  go_wp2_with fail
  refine (HN.out _).mono ?_
  rintro r w' ⟨rfl, rfl⟩
  go_wp2_with fail
  refine (HZ'.out _).mono ?_
  rintro r w' ⟨rfl, rfl⟩
  go_wp2_with fail
  go_ret2
  exact ⟨rfl, rfl⟩

theorem C53_ge (b : Nat) (h : b < 18446744073709551616) (hf : Fl.fin b = true) : (FloatKind.f64.format.order b C53 == some .gt || FloatKind.f64.format.order b C53 == some .eq) = decide (((9007199254740992 * 2 ^ Fl.BB : Nat) : Int) ≤ Fl.Z b) := by
  refine (Fl.ge_eq (a := b) (b := C53) h (by decide) (Fl.nan_of_fin hf) (by decide)).trans ?_
  rw [C53_Z]
theorem N53_le (b : Nat) (h : b < 18446744073709551616) (hf : Fl.fin b = true) : (FloatKind.f64.format.order b N53 == some .lt || FloatKind.f64.format.order b N53 == some .eq) = decide (Fl.Z b ≤ -((9007199254740992 * 2 ^ Fl.BB : Nat) : Int)) := by
  refine (Fl.le_eq (a := b) (b := N53) h (by decide) (Fl.nan_of_fin hf) (by decide)).trans ?_
  rw [N53_Z]
theorem Z_parts (b : Nat) : (Fl.sg b = false ∧ Fl.Z b = (Fl.rv (Fl.mg b) : Int)) ∨ (Fl.sg b = true ∧ Fl.Z b = -(Fl.rv (Fl.mg b) : Int)) := by
  unfold Fl.Z
  cases Fl.sg b
  · exact .inl ⟨rfl, rfl⟩
  · exact .inr ⟨rfl, rfl⟩
theorem sg_wrd {b : Nat} (h : b < 18446744073709551616) (s : Bool) (hs : Fl.sg b = s) : Fl.wrd s (Fl.mg b) = b := by rw [← hs]; exact Fl.wrd_of b h

theorem rfloor_good (b : Nat) (h : b < 18446744073709551616) (hf : Fl.fin b = true) (w : World) : Calls Try.prog 41 #[.float .f64 b] w fun r w' => r = .returned (numV (floorV b) 0) ∧ w = w' := by
  have hg := C53_ge b h hf
  have hl := N53_le b h hf
  have hpB := Nat.two_pow_pos Fl.BB
  by_cases hbig : 9007199254740992 * 2 ^ Fl.BB ≤ Fl.rv (Fl.mg b)
  · -- nothing behind the point
    have hr : Fl.rest b = false := by
      cases hr : Fl.rest b
      · rfl
      · obtain ⟨r1, r2, r3⟩ := Fl.rest_true hr
        have : (Fl.whole b + 1) * 2 ^ Fl.BB ≤ 9007199254740992 * 2 ^ Fl.BB := Nat.mul_le_mul_right _ r3
        omega
    have hv : floorV b = b := by
      unfold floorV
      rw [Fl.flW_exact h hf hr]
      refine pl_nonzero ?_
      intro h0
      rw [h0, Fl.rv_zero] at hbig
      have : 0 < 9007199254740992 * 2 ^ Fl.BB := Nat.mul_pos (by omega) hpB
      omega
    rw [hv]
    refine rfloor_big b h hf _ _ hg hl ?_ w
    generalize 9007199254740992 * 2 ^ Fl.BB = K at *
    rcases Z_parts b with ⟨_, hz⟩ | ⟨_, hz⟩
    · rw [decide_eq_true (by omega), Bool.true_or]
    · rw [Bool.or_comm, decide_eq_true (by omega), Bool.true_or]
  · have hw : Fl.whole b < 9007199254740992 := Fl.whole_lt (by omega)
    have hg' : decide (((9007199254740992 * 2 ^ Fl.BB : Nat) : Int) ≤ Fl.Z b) = false := by
      generalize 9007199254740992 * 2 ^ Fl.BB = K at *
      rcases Z_parts b with ⟨_, hz⟩ | ⟨_, hz⟩ <;> exact decide_eq_false (by omega)
    have hl' : decide (Fl.Z b ≤ -((9007199254740992 * 2 ^ Fl.BB : Nat) : Int)) = false := by
      generalize 9007199254740992 * 2 ^ Fl.BB = K at *
      rcases Z_parts b with ⟨_, hz⟩ | ⟨_, hz⟩ <;> exact decide_eq_false (by omega)
    rw [hg'] at hg
    rw [hl'] at hl
    obtain ⟨t1, t2, t3⟩ := tr_Z b (Nat.le_of_lt hw)
    have hn : floatToIntVal .f64 b .i64 = some (if Fl.sg b then -(Fl.whole b : Int) else (Fl.whole b : Int)) := by
      unfold floatToIntVal
      have e : (FloatKind.f64.decode b).toInt .zero = some (if Fl.sg b then -(Fl.whole b : Int) else (Fl.whole b : Int)) := Fl.toInt_read b h hf
      rw [e]
      have hb : IntKind.i64.min ≤ (if Fl.sg b then -(Fl.whole b : Int) else (Fl.whole b : Int)) ∧ (if Fl.sg b then -(Fl.whole b : Int) else (Fl.whole b : Int)) ≤ IntKind.i64.max := by
        have e1 : IntKind.i64.min = -9223372036854775808 := by decide
        have e2 : IntKind.i64.max = 9223372036854775807 := by decide
        rw [e1, e2]
        cases Fl.sg b <;> simp <;> omega
      exact if_pos hb
    have hgt : (FloatKind.f64.format.order (trV b) b == some .gt) = decide (Fl.Z b < Fl.Z (trV b)) := Fl.gt_eq (a := trV b) (b := b) t2 h (Fl.nan_of_fin t3) (Fl.nan_of_fin hf)
    have hz : ∀ x, x < 18446744073709551616 → Fl.fin x = true → ∀ w, Calls Try.prog 47 #[.float .f64 x] w fun r w' => r = .returned (.float .f64 (Fl.pl x)) ∧ w = w' := fun x hx hfx w => zeroed_any x hx (Fl.nan_of_fin hfx) w
    cases hr : Fl.rest b
    · -- whole already
      have hrv := Fl.rest_false hr
      have hv : floorV b = Fl.pl (trV b) := by
        unfold floorV
        rw [Fl.flW_exact h hf hr]
        unfold trV
        by_cases h0 : Fl.whole b = 0
        · rw [h0, Nat.zero_mul] at hrv
          have hm : Fl.mg b = 0 := by
            apply Nat.eq_zero_of_not_pos
            intro hp
            have := Fl.rv_pos hp
            omega
          rw [pl_zero h hm, h0]
          have : (if Fl.sg b = true then -((0 : Nat) : Int) else ((0 : Nat) : Int)) = 0 := by cases Fl.sg b <;> rfl
          rw [this, ofInt_zero]; rfl
        · rw [ofInt_word _ _ h0]
          have := Fl.flW_exact h hf hr
          unfold Fl.flW at this
          rw [hr, Bool.and_false] at this
          exact congrArg Fl.pl this.symm
      rw [hv]
      refine rfloor_mid b h hf hg hl _ hn ?_ _ (hz _ t2 t3) w
      refine hgt.trans (decide_eq_false ?_)
      rw [t1]
      rcases Z_parts b with ⟨hs, hzz⟩ | ⟨hs, hzz⟩
      · rw [hs, if_neg Bool.false_ne_true, hzz, hrv]; omega
      · rw [hs, if_pos rfl, hzz, hrv]; omega
    · obtain ⟨r1, r2, r3⟩ := Fl.rest_true hr
      rcases Z_parts b with ⟨hs, hzz⟩ | ⟨hs, hzz⟩
      · have hv : floorV b = Fl.pl (trV b) := by
          unfold floorV Fl.flW trV
          rw [hs, Bool.false_and, if_neg Bool.false_ne_true]
          by_cases h0 : Fl.whole b = 0
          · rw [h0]
            have e1 : floatOfInt .f64 ((0 : Nat) : Int) = 0 := ofInt_zero
            rw [e1]
            show Fl.pl (double.nearest false 0 0) = _
            rw [Fl.nearest_zero]; rfl
          · have := ofInt_word false (Fl.whole b) h0
            rw [if_neg Bool.false_ne_true] at this
            rw [this]; rfl
        rw [hv]
        refine rfloor_mid b h hf hg hl _ hn ?_ _ (hz _ t2 t3) w
        refine hgt.trans (decide_eq_false ?_)
        rw [t1, hs, if_neg Bool.false_ne_true, hzz]
        generalize Fl.whole b * 2 ^ Fl.BB = K at *
        omega
      · obtain ⟨n1, n2, n3, n4⟩ := Fl.nst true (Fl.whole b + 1) (by omega) (by omega)
        have hone : Fl.fin 4607182418800017408 = true := by decide
        have hsub : floatBits .sub .f64 (trV b) 4607182418800017408 = some (Fl.wrd true (Fl.rung (Fl.whole b + 1) 1074)) := by
          refine Fl.sub_exact (trV b) 4607182418800017408 (Fl.rung (Fl.whole b + 1) 1074) true t2 (by decide) t3 hone (Nat.le_of_lt n2) n4 ?_
          rw [t1, one_Z, n3, hs, if_pos rfl, if_pos rfl, Nat.add_mul, Nat.one_mul]
          generalize Fl.whole b * 2 ^ Fl.BB = K at *
          generalize 2 ^ Fl.BB = L at *
          omega
        have hv : floorV b = Fl.pl (Fl.wrd true (Fl.rung (Fl.whole b + 1) 1074)) := by
          unfold floorV Fl.flW
          rw [hs, hr]
          exact congrArg Fl.pl n1
        rw [hv]
        have hwk := wrd_ok true _ (Nat.le_of_lt n2)
        refine rfloor_low b h hf hg hl _ hn ?_ _ _ hsub (fun w => zeroed_any _ hwk.1 hwk.2 w) w
        refine hgt.trans (decide_eq_true ?_)
        rw [t1, hs, if_pos rfl, hzz]
        generalize Fl.whole b * 2 ^ Fl.BB = K at *
        omega

def floorR (b : Nat) : Nat × Nat := if Fl.fin b = true then (floorV b, 0) else (0, 10)
theorem floor_any (b : Nat) (h : b < 18446744073709551616) (w : World) : Calls Try.prog 40 #[.float .f64 b] w fun r w' => r = .returned (pV (floorR b)) ∧ Below w.heap.size w w' := by
  unfold floorR pV
  by_cases hf : Fl.fin b = true
  · rw [if_pos hf]
    refine (floor_good b h hf w).mono ?_
    rintro r w' ⟨rfl, rfl⟩
    exact ⟨rfl, Below.refl _ _⟩
  · rw [if_neg hf]
    refine (floor_bad b h (by revert hf; cases Fl.fin b <;> simp) w).mono ?_
    rintro r w' ⟨rfl, rfl⟩
    exact ⟨rfl, Below.refl _ _⟩
theorem rfloor_any (b : Nat) (h : b < 18446744073709551616) (w : World) : Calls Try.prog 41 #[.float .f64 b] w fun r w' => r = .returned (pV (floorR b)) ∧ Below w.heap.size w w' := by
  unfold floorR pV
  by_cases hf : Fl.fin b = true
  · rw [if_pos hf]
    refine (rfloor_good b h hf w).mono ?_
    rintro r w' ⟨rfl, rfl⟩
    exact ⟨rfl, Below.refl _ _⟩
  · rw [if_neg hf]
    refine (rfloor_bad b h (by revert hf; cases Fl.fin b <;> simp) w).mono ?_
    rintro r w' ⟨rfl, rfl⟩
    exact ⟨rfl, (Below.refl _ _).drew⟩

theorem walk_roots (a : Nat) (down : Bool) (ha : a < 18446744073709551616) (w : World) :
    Calls Try.prog 12 #[.float .f64 a, .bool down] w fun r w' => r = .returned (.bool true) ∧ Below w.heap.size w w' := by
  have H0 := Lib.hid awake
  have H1 := Lib.hid (fun w => sqrt_any a down ha w)
  have H2 := Lib.hid (fun w => rsqrt_any a down ha w)
  have H3 := Lib.hid (fun w => floor_any a ha w)
  have H4 := Lib.hid (fun w => rfloor_any a ha w)
  obtain ⟨x, hx⟩ : ∃ x, x = sqrtR a down := ⟨_, rfl⟩
  rw [← hx] at H1 H2
  obtain ⟨v, e⟩ := x
  obtain ⟨y, hy⟩ : ∃ y, y = floorR a := ⟨_, rfl⟩
  rw [← hy] at H3 H4
  obtain ⟨u, g⟩ := y
  clear hx hy
  unfold pV at H1 H2 H3 H4
  have H5 := Lib.hid (fun w => same_two v (e : Int) w)
  have H6 := Lib.hid (fun w => same_two u (g : Int) w)
  go_enter Try.func12, Try.ntmps12
  go_wp2_with fail
  refine (H0.out _).mono ?_
  rintro r w0 ⟨rfl, h0⟩
  have B0 := Lib.hid h0
  clear h0
  go_wp2_with fail
  refine (H1.out _).mono ?_
  rintro r w1 ⟨rfl, h1⟩
  have B1 := Lib.hid h1
  clear h1
  go_wp2_with fail
  refine (H2.out _).mono ?_
  rintro r w2 ⟨rfl, h2⟩
  have B2 := Lib.hid h2
  clear h2
  go_wp2_with fail
  refine (H3.out _).mono ?_
  rintro r w3 ⟨rfl, h3⟩
  have B3 := Lib.hid h3
  clear h3
  go_wp2_with fail
  refine (H4.out _).mono ?_
  rintro r w4 ⟨rfl, h4⟩
  have B4 := Lib.hid h4
  clear h4
  go_wp2_with fail
  refine (H5.out _).mono ?_
  rintro r w' ⟨rfl, rfl⟩
  go_wp2_with fail
  refine (H6.out _).mono ?_
  rintro r w' ⟨rfl, rfl⟩
  go_wp2_with fail
  go_ret
  exact ⟨rfl, below_step (below_step (below_step (below_step B0.out B1.out) B2.out) B3.out) B4.out⟩
end Go.Proofs.Ythkfaacgabkhhaa
