/- Shaken: Wn. -/
import Derived.Test.YtnljfcebmgifdaaGreatZWl
import Derived.Test.YtnljfcebmgifdaaGreatZWm
set_option linter.unusedVariables false
set_option linter.unusedSimpArgs false
namespace Go.Proofs.YtnljfcebmgifdaaGreat
open Go.RowKit Ieee
theorem sum_any (na nb : Bool) (A B : Nat) (ea eb : Int) (hA : A < 9007199254740992) (hB : B < 9007199254740992) (hea : -1074 ≤ ea) (hea2 : ea ≤ 971) (heb : -1074 ≤ eb) (heb2 : eb ≤ 971) (w : World) :
   Calls Tryz.prog 132 #[exv na 0 A ea false, exv nb 0 B eb false] w fun r w' => r = .returned (exS (sumOf na nb A B ea eb)) ∧ Below w.heap.size w w' := by
 unfold sumOf
 by_cases hA0 : A = 0
 · rw [if_pos hA0]
   have := sum_left0 na nb 0 0 A B ea eb (fun w => by
     have := zero_any na 0 A ea false w
     rw [decide_eq_true hA0, Bool.and_true] at this
     exact this) w
   refine this.mono ?_
   rintro r w' ⟨rfl, hb⟩
   exact ⟨congrArg Ending.returned (exW_small nb B eb false (by omega)).symm, hb⟩
 · rw [if_neg hA0]
   by_cases hB0 : B = 0
   · rw [if_pos hB0]
     have := sum_right0 na nb 0 0 A B ea eb (fun w => by
       have := zero_any na 0 A ea false w
       rw [decide_eq_false hA0, Bool.and_false] at this
       exact this) (fun w => by
       have := zero_any nb 0 B eb false w
       rw [decide_eq_true hB0, Bool.and_true] at this
       exact this) w
     refine this.mono ?_
     rintro r w' ⟨rfl, hb⟩
     exact ⟨congrArg Ending.returned (exW_small na A ea false (by omega)).symm, hb⟩
   · rw [if_neg hB0]
     by_cases hc : ea + (Fl.len A : Int) < eb + (Fl.len B : Int)
     · rw [if_pos hc]
       exact core_y nb na B A eb ea hB hA hB0 hA0 heb heb2 hea hea2 hc w
     · rw [if_neg hc]
       exact core_n na nb A B ea eb hA hB hA0 hB0 hea hea2 heb heb2 (by omega) w
theorem sumOf_ok (na nb : Bool) (A B : Nat) (ea eb : Int) (hA : A < 9007199254740992) (hB : B < 9007199254740992) (hea : -1074 ≤ ea) (hea2 : ea ≤ 971) (heb : -1074 ≤ eb) (heb2 : eb ≤ 971) :
   RoundOk (sumOf na nb A B ea eb).2.1 (sumOf na nb A B ea eb).2.2.1 (sumOf na nb A B ea eb).2.2.2 := by
 unfold sumOf
 by_cases hA0 : A = 0
 · rw [if_pos hA0]; exact ⟨by show B < _; omega, fun _ => rfl, (fun h => by cases h), by show _ ≤ eb; omega, .inl heb2⟩
 · rw [if_neg hA0]
   by_cases hB0 : B = 0
   · rw [if_pos hB0]; exact ⟨by show A < _; omega, fun _ => rfl, (fun h => by cases h), by show _ ≤ ea; omega, .inl hea2⟩
   · rw [if_neg hB0]
     by_cases hc : ea + (Fl.len A : Int) < eb + (Fl.len B : Int)
     · rw [if_pos hc]; exact sumCore_ok nb na B A eb ea hB hA hB0 hA0 heb heb2 hea hea2 (by omega)
     · rw [if_neg hc]; exact sumCore_ok na nb A B ea eb hA hB hA0 hB0 hea hea2 heb heb2 (by omega)
/-- What Add tells of finite numbers. -/
def addV (a b : Nat) (down : Bool) : Nat :=
 let s := sumOf (Fl.sg a) (Fl.sg b) (Fl.sM a) (Fl.sM b) (Fl.sE a) (Fl.sE b)
 toVal s.1 down s.2.1 s.2.2.1 s.2.2.2
/-- A number and an error. -/
abbrev numV (x e : Nat) : Value := .tuple #[.float .f64 x, .int .i64 (e : Int)]
theorem to_ok (neg down : Bool) (W : Nat) (e : Int) (more : Bool) (h : RoundOk W e more) (w : World) :
   Calls Tryz.prog 123 #[exW neg W e more, .bool down] w fun r w' => r = .returned (.float .f64 (toVal neg down W e more)) ∧ Below w.heap.size w w' :=
 to_any neg down W e more h.lt h.zero h.more (by have := h.lo; omega) (by rcases h.hi with h | h; omega; have := h.2; omega) w
theorem add_bad (a b : Nat) (down : Bool) (ha : a < 18446744073709551616) (hb : b < 18446744073709551616) (hf : (Fl.fin a && Fl.fin b) = false) (w : World) :
   Calls Tryz.prog 104 #[.float .f64 a, .float .f64 b, .bool down] w fun r w' => r = .returned (numV 0 10) ∧ Below w.heap.size w w' := by
 have HT := Lib.hid (fun w => two_any a b ha hb w)
 rw [hf] at HT
 clear hf
 go_enter Tryz.func104, Tryz.ntmps104
 go_wp2_with fail
 refine (HT.out _).mono ?_
 rintro e w' ⟨rfl, rfl⟩
 go_wp2_with fail
 go_ret2
 exact ⟨rfl, Below.refl _ _⟩
theorem add_good (a b : Nat) (down : Bool) (ha : a < 18446744073709551616) (hb : b < 18446744073709551616) (hf : (Fl.fin a && Fl.fin b) = true) (w : World) :
   Calls Tryz.prog 104 #[.float .f64 a, .float .f64 b, .bool down] w fun r w' => r = .returned (numV (addV a b down) 0) ∧ Below w.heap.size w w' := by
 have HT := Lib.hid (fun w => two_any a b ha hb w)
 rw [hf] at HT
 have fa : Fl.fin a = true := by revert hf; cases Fl.fin a <;> simp
 have fb : Fl.fin b = true := by revert hf; cases Fl.fin b <;> simp
 have HA := Lib.hid (fun w => split_any a ha w)
 have HB := Lib.hid (fun w => split_any b hb w)
 have HS := Lib.hid (fun w => sum_any (Fl.sg a) (Fl.sg b) (Fl.sM a) (Fl.sM b) (Fl.sE a) (Fl.sE b) (Fl.sM_lt a) (Fl.sM_lt b) (Fl.sE_ge a) (Fl.sE_le a fa) (Fl.sE_ge b) (Fl.sE_le b fb) w)
 have HO := Lib.hid (fun w => to_ok (sumOf (Fl.sg a) (Fl.sg b) (Fl.sM a) (Fl.sM b) (Fl.sE a) (Fl.sE b)).1 down _ _ _ (sumOf_ok (Fl.sg a) (Fl.sg b) (Fl.sM a) (Fl.sM b) (Fl.sE a) (Fl.sE b) (Fl.sM_lt a) (Fl.sM_lt b) (Fl.sE_ge a) (Fl.sE_le a fa) (Fl.sE_ge b) (Fl.sE_le b fb)) w)
 unfold addV
 generalize hs : sumOf (Fl.sg a) (Fl.sg b) (Fl.sM a) (Fl.sM b) (Fl.sE a) (Fl.sE b) = s at *
 obtain ⟨s1, s2, s3, s4⟩ := s
 dsimp only [exS] at HS HO ⊢
 generalize toVal s1 down s2 s3 s4 = v at *
 generalize exW s1 s2 s3 s4 = x at *
 generalize Fl.sM a = A at *
 generalize Fl.sM b = B at *
 generalize Fl.sE a = ea at *
 generalize Fl.sE b = eb at *
 generalize Fl.sg a = na at *
 generalize Fl.sg b = nb at *
 clear hf fa fb hs
 go_enter Tryz.func104, Tryz.ntmps104
 go_wp2_with fail
 refine (HT.out _).mono ?_
 rintro e w' ⟨rfl, rfl⟩
 go_wp2_with fail
 refine (HA.out _).mono ?_
 rintro e w' ⟨rfl, o1, rfl⟩
 go_wp2_with fail
 refine (HB.out _).mono ?_
 rintro e w' ⟨rfl, o2, rfl⟩
 go_wp2_with fail
 refine (HS.out _).mono ?_
 rintro e w1 ⟨rfl, h1⟩
 have HW1 := Lib.hid h1
 clear h1
 go_wp2_with fail
 refine (HO.out _).mono ?_
 rintro e w2 ⟨rfl, h2⟩
 have HW2 := Lib.hid h2
 clear h2
 go_wp2_with fail
 go_ret2
 exact ⟨rfl, ((below_new2 w o1 o2).trans (HW1.out.mono (by simp; omega))).trans (HW2.out.mono (by have := HW1.out.size; simp at this; omega))⟩
/-- What Mul tells of finite numbers. -/
def mulV (a b : Nat) (down : Bool) : Nat := toVal (Fl.sg a != Fl.sg b) down (Fl.sM a * Fl.sM b) (Fl.sE a + Fl.sE b) false
theorem mul_bad (a b : Nat) (down : Bool) (ha : a < 18446744073709551616) (hb : b < 18446744073709551616) (hf : (Fl.fin a && Fl.fin b) = false) (w : World) :
   Calls Tryz.prog 106 #[.float .f64 a, .float .f64 b, .bool down] w fun r w' => r = .returned (numV 0 10) ∧ Below w.heap.size w w' := by
 have HT := Lib.hid (fun w => two_any a b ha hb w)
 rw [hf] at HT
 clear hf
 go_enter Tryz.func106, Tryz.ntmps106
 go_wp2_with fail
 refine (HT.out _).mono ?_
 rintro e w' ⟨rfl, rfl⟩
 go_wp2_with fail
 go_ret2
 exact ⟨rfl, Below.refl _ _⟩
set_option maxRecDepth 100000 in
theorem mul_good (a b : Nat) (down : Bool) (ha : a < 18446744073709551616) (hb : b < 18446744073709551616) (hf : (Fl.fin a && Fl.fin b) = true) (w : World) :
   Calls Tryz.prog 106 #[.float .f64 a, .float .f64 b, .bool down] w fun r w' => r = .returned (numV (mulV a b down) 0) ∧ Below w.heap.size w w' := by
 have HT := Lib.hid (fun w => two_any a b ha hb w)
 rw [hf] at HT
 have fa : Fl.fin a = true := by revert hf; cases Fl.fin a <;> simp
 have fb : Fl.fin b = true := by revert hf; cases Fl.fin b <;> simp
 have HA := Lib.hid (fun w => split_any a ha w)
 have HB := Lib.hid (fun w => split_any b hb w)
 have HM := Lib.hid (fun w => mul64_any (Fl.sM a) (Fl.sM b) (by have := Fl.sM_lt a; omega) (by have := Fl.sM_lt b; omega) w)
 have HO := Lib.hid (fun w => to_ok (Fl.sg a != Fl.sg b) down _ _ _ (mul_ok a b fa fb) w)
 have hE : (-1074 : Int) ≤ Fl.sE a ∧ Fl.sE a ≤ 971 ∧ -1074 ≤ Fl.sE b ∧ Fl.sE b ≤ 971 := ⟨Fl.sE_ge a, Fl.sE_le a fa, Fl.sE_ge b, Fl.sE_le b fb⟩
 unfold mulV
 generalize toVal (Fl.sg a != Fl.sg b) down (Fl.sM a * Fl.sM b) (Fl.sE a + Fl.sE b) false = v at *
 unfold exW exv at HO
 generalize Fl.sM a * Fl.sM b / 18446744073709551616 = ph at *
 generalize Fl.sM a * Fl.sM b % 18446744073709551616 = pl at *
 generalize Fl.sM a = A at *
 generalize Fl.sM b = B at *
 generalize Fl.sE a = ea at *
 generalize Fl.sE b = eb at *
 generalize Fl.sg a = na at *
 generalize Fl.sg b = nb at *
 obtain ⟨hE1, hE2, hE3, hE4⟩ := hE
 clear hf fa fb
 go_enter Tryz.func106, Tryz.ntmps106
 go_wp2_with fail
 refine (HT.out _).mono ?_
 rintro e w' ⟨rfl, rfl⟩
 go_wp2_with fail
 refine (HA.out _).mono ?_
 rintro e w' ⟨rfl, o1, rfl⟩
 go_wp2_with fail
 refine (HB.out _).mono ?_
 rintro e w' ⟨rfl, o2, rfl⟩
 go_wp2_with fail
 refine (HM.out _).mono ?_
 rintro e w' ⟨rfl, rfl⟩
 go_wp2_with fail
 refine (HO.out _).mono ?_
 rintro e w2 ⟨rfl, h2⟩
 have HW2 := Lib.hid h2
 clear h2
 go_wp2_with fail
 go_ret2
 exact ⟨rfl, (below_more (below_more (below_new2 w o1 o2) _) _).trans (HW2.out.mono (by simp; omega))⟩
end Go.Proofs.YtnljfcebmgifdaaGreat
