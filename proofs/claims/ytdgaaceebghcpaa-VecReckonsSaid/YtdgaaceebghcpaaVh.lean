/- The document's Number and Mul. -/
import Derived.Test.YtdgaaceebghcpaaVf
import Derived.Test.YtdgaaceebghcpaaWn
set_option linter.unusedVariables false
set_option linter.unusedSimpArgs false
namespace Go.Proofs.Ytdgaaceebghcpaa
open Go.RowKit Ieee

theorem eight_of {w : World} {g g' : Nat} {t t' : TypeId} {a b c d a' b' c' d' : Value} (h : Blk w g t #[a, b, c, d]) (h' : Blk w g' t' #[a', b', c', d']) :
    w.cell? ⟨g, 0, none⟩ = some a ∧ w.cell? ⟨g, 1, none⟩ = some b ∧ w.cell? ⟨g, 2, none⟩ = some c ∧ w.cell? ⟨g, 3, none⟩ = some d ∧
    w.cell? ⟨g', 0, none⟩ = some a' ∧ w.cell? ⟨g', 1, none⟩ = some b' ∧ w.cell? ⟨g', 2, none⟩ = some c' ∧ w.cell? ⟨g', 3, none⟩ = some d' :=
  ⟨h.cell 0, h.cell 1, h.cell 2, h.cell 3, h'.cell 0, h'.cell 1, h'.cell 2, h'.cell 3⟩

theorem rnum_good (b : Nat) (h : b < 18446744073709551616) (hf : Fl.fin b = true) (w : World) :
    Calls Try.prog 103 #[.float .f64 b] w fun e w' => e = .returned (.bool true) ∧ w = w' := by
  have hd : floatBits .sub .f64 b b = some 0 := Fl.sub_self b h hf
  have hr := fun (t : TypeId) (w : World) => run_float_arith (P := Try.prog) w .sub t .f64 _ _ _ hd
  have E : (FloatKind.f64.format.order 0 0 == some .eq) = true := by
    have := pl_of 0 (by decide) (by decide)
    rw [this]; decide
  clear hd hf
  go_enter Try.func103, Try.ntmps103
  go_wp2_with fail
  go_ret
  exact ⟨rfl, rfl⟩
theorem rnum_bad (b : Nat) (h : b < 18446744073709551616) (hf : Fl.fin b = false) (w : World) :
    Calls Try.prog 103 #[.float .f64 b] w fun e w' => e = .returned (.bool false) ∧ w.drew = w' := by
  have hd := Fl.sub_self_none b h hf
  have hr := fun (t : TypeId) (w : World) => run_sub_nan (P := Try.prog) w t _ _ hd
  have E : (FloatKind.f64.format.order (nanW b b w) 0 == some .eq) = false := by
    show (Ieee.double.order (nanW b b w) 0 == some .eq) = false
    rw [Fl.order_nan_left _ _ (nanW_lt b b w) (nanW_nan b b w)]; rfl
  clear hd hf
  go_enter Try.func103, Try.ntmps103
  go_wp2_with fail
  go_ret
  exact ⟨rfl, rfl⟩
theorem rnum_any (b : Nat) (h : b < 18446744073709551616) (w : World) :
    Calls Try.prog 103 #[.float .f64 b] w fun e w' => e = .returned (.bool (Fl.fin b)) ∧ ∃ k, w' = w.drewN k := by
  cases hf : Fl.fin b
  · refine (rnum_bad b h hf w).mono ?_
    rintro e w' ⟨rfl, rfl⟩
    exact ⟨rfl, 1, rfl⟩
  · refine (rnum_good b h hf w).mono ?_
    rintro e w' ⟨rfl, rfl⟩
    exact ⟨rfl, 0, rfl⟩

theorem rto_ok (neg down : Bool) (W : Nat) (e : Int) (more : Bool) (h : RoundOk W e more) (w : World) :
    Calls Try.prog 145 #[wdW W e more, .bool neg, .bool down] w fun r w' => r = .returned (.float .f64 (toVal neg down W e more)) ∧ Below w.heap.size w w' :=
  rto_any neg down W e more h.lt h.zero h.more (by have := h.lo; omega) (by rcases h.hi with h | h; omega; have := h.2; omega) (by rcases h.hi with h | h; exact .inl h; exact .inr h.1) w

set_option maxRecDepth 100000 in
theorem rmul_good (a b : Nat) (down : Bool) (ha : a < 18446744073709551616) (hb : b < 18446744073709551616) (fa : Fl.fin a = true) (fb : Fl.fin b = true) (w : World) :
    Calls Try.prog 122 #[.float .f64 a, .float .f64 b, .bool down] w fun r w' => r = .returned (numV (mulV a b down) 0) ∧ Below w.heap.size w w' := by
  have HX := Lib.hid (fun w => rnum_good a ha fa w)
  have HY := Lib.hid (fun w => rnum_good b hb fb w)
  have HA := Lib.hid (fun w => part_any a ha w)
  have HB := Lib.hid (fun w => part_any b hb w)
  have HM := Lib.hid (fun w => times_any (Fl.sM a) (Fl.sM b) (by have := Fl.sM_lt a; omega) (by have := Fl.sM_lt b; omega) w)
  have HO := Lib.hid (fun w => rto_ok (Fl.sg a != Fl.sg b) down _ _ _ (mul_ok a b fa fb) w)
  have hE : (-1074 : Int) ≤ Fl.sE a ∧ Fl.sE a ≤ 971 ∧ -1074 ≤ Fl.sE b ∧ Fl.sE b ≤ 971 := ⟨Fl.sE_ge a, Fl.sE_le a fa, Fl.sE_ge b, Fl.sE_le b fb⟩
  unfold mulV
  generalize toVal (Fl.sg a != Fl.sg b) down (Fl.sM a * Fl.sM b) (Fl.sE a + Fl.sE b) false = v at *
  unfold wdW wdv at HO
  generalize Fl.sM a * Fl.sM b / 18446744073709551616 = ph at *
  generalize Fl.sM a * Fl.sM b % 18446744073709551616 = pl at *
  generalize Fl.sM a = A at *
  generalize Fl.sM b = B at *
  generalize Fl.sE a = ea at *
  generalize Fl.sE b = eb at *
  generalize Fl.sg a = na at *
  generalize Fl.sg b = nb at *
  obtain ⟨hE1, hE2, hE3, hE4⟩ := hE
  clear fa fb
  go_enter Try.func122, Try.ntmps122
  go_wp2_with fail
  refine (HX.out _).mono ?_
  rintro e w' ⟨rfl, rfl⟩
  go_wp2_with fail
  refine (HY.out _).mono ?_
  rintro e w' ⟨rfl, rfl⟩
  go_wp2_with fail
  refine (HA.out _).mono ?_
  rintro e w' ⟨rfl, o1, rfl⟩
  go_wp2_with fail
  refine (HB.out _).mono ?_
  rintro e w' ⟨rfl, o2, rfl⟩
  go_wp2_with fail
  refine (HM.out _).mono ?_
  rintro e w' ⟨rfl, rfl⟩
  go_wp2_with fail
  refine (HO.out _).mono ?_
  rintro e w2 ⟨rfl, h2⟩
  have HW2 := Lib.hid h2
  clear h2
  go_wp2_with fail
  go_ret2
  exact ⟨rfl, (below_more (below_more (below_more (below_new w o1) _) _) _).trans (HW2.out.mono (by simp; omega))⟩

/-- Where one of the two is no number: the error. -/
theorem rbad (F : Nat) : True := trivial
theorem rmul_bad (a b : Nat) (down : Bool) (ha : a < 18446744073709551616) (hb : b < 18446744073709551616) (hf : (Fl.fin a && Fl.fin b) = false) (w : World) :
    Calls Try.prog 122 #[.float .f64 a, .float .f64 b, .bool down] w fun r w' => r = .returned (numV 0 10) ∧ ∃ k, w' = w.drewN k := by
  have HX := Lib.hid (fun w => rnum_any a ha w)
  have HY := Lib.hid (fun w => rnum_any b hb w)
  generalize Fl.fin a = x at *
  generalize Fl.fin b = y at *
  cases x
  · go_enter Try.func122, Try.ntmps122
    go_wp2_with fail
    refine (HX.out _).mono ?_
    rintro e w' ⟨rfl, k, rfl⟩
    go_wp2_with fail
    go_ret2
    exact ⟨rfl, _, rfl⟩
  · obtain rfl : y = false := by simpa using hf
    go_enter Try.func122, Try.ntmps122
    go_wp2_with fail
    refine (HX.out _).mono ?_
    rintro e w' ⟨rfl, k, rfl⟩
    go_wp2_with fail
    refine (HY.out _).mono ?_
    rintro e w' ⟨rfl, k', rfl⟩
    go_wp2_with fail
    go_ret2
    exact ⟨rfl, _, rfl⟩
end Go.Proofs.Ytdgaaceebghcpaa
