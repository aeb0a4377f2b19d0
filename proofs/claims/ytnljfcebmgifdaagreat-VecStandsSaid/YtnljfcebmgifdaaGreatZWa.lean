/- Shaken: Wa. -/
import Derived.Test.YtnljfcebmgifdaaGreatZFl1
import Derived.Test.YtnljfcebmgifdaaGreatChecked
import Derived.WalkKit
import Derived.WalkSpells
import Derived.WalkLawsBesides
import Derived.Laws.BitsAllLaws
import Derived.Laws.Bits64b
import Derived.Lib.Hide
import Derived.Lib.Mul64
import Derived.Lib.BitFns
import Derived.Lib.Strings
import Derived.Lib.Slices
import Derived.Lib.Small
import Derived.Lib.Walk
set_option linter.unusedVariables false
set_option linter.unusedSimpArgs false
namespace Go.Proofs.YtnljfcebmgifdaaGreat
open Go.RowKit
theorem ret_float {a b : Nat} (h : a = b) : Ending.returned (.float .f64 a) = .returned (.float .f64 b) := by rw [h]
theorem ret_bool {a b : Bool} (h : a = b) : Ending.returned (.bool a) = .returned (.bool b) := by rw [h]
theorem ret_int {k : IntKind} {a b : Int} (h : a = b) : Ending.returned (.int k a) = .returned (.int k b) := by rw [h]
@[go_sem] theorem f64bits (b : Nat) (w : World) : (callFunc 56 #[.float .f64 b]).run Tryz.prog w = .ok (.value (.int .u64 b)) w := by kernel_rfl
@[go_sem] theorem f64from (n : Int) (w : World) : (callFunc 98 #[.int .u64 n]).run Tryz.prog w = .ok (.value (.float .f64 n.toNat)) w := by kernel_rfl
theorem ne_self (b : Nat) (h : b < 18446744073709551616) : (FloatKind.f64.format.order b b != some .eq) = Fl.nan b := by
 show (Ieee.double.order b b != some .eq) = _
 cases hn : Fl.nan b with
 | false => rw [Fl.order_eq b b h h hn hn, Int.compare_eq_eq.2 rfl]; rfl
 | true => rw [Fl.order_nan_left b b h hn]; rfl
def nanW (x y : Nat) (w : World) : Nat := (Question.nanBits .f64 x y).cut (w.tape w.drawn (.nanBits .f64 x y))
theorem nanW_lt (x y : Nat) (w : World) : nanW x y w < 18446744073709551616 := by
 unfold nanW Question.cut
 generalize w.tape w.drawn (.nanBits .f64 x y) = t
 show t % 2 * 9223372036854775808 + 9218868437227405312 + 1 + t / 2 % 4503599627370495 < _
 omega
theorem nanW_nan (x y : Nat) (w : World) : Fl.nan (nanW x y w) = true := by
 unfold nanW Question.cut
 generalize w.tape w.drawn (.nanBits .f64 x y) = t
 refine decide_eq_true ?_
 show 9218868437227405312 < (t % 2 * 9223372036854775808 + 9218868437227405312 + 1 + t / 2 % 4503599627370495) % 9223372036854775808
 have h1 : t / 2 % 4503599627370495 < 4503599627370495 := Nat.mod_lt _ (by decide)
 generalize t / 2 % 4503599627370495 = r at *
 have h2 : t % 2 = 0 ∨ t % 2 = 1 := by omega
 rcases h2 with h2 | h2 <;> rw [h2] <;> omega
section
variable {P : Program} (w : World)
theorem run_sub_nan (t : TypeId) (x y : Nat) (h : Ieee.double.sub x y = none) : (binOp .sub t (.float .f64 x) (.float .f64 y)).run P w = .ok (.float .f64 (nanW x y w)) w.drew := by
 have h' : FloatKind.f64.format.sub x y = none := h
 simp [binOp, Op.floatArith, h', Question.forced, nanW]
end
theorem isNaN_any (b : Nat) (h : b < 18446744073709551616) (w : World) :
   Calls Tryz.prog 131 #[.float .f64 b] w fun e w' => e = .returned (.bool (Fl.nan b)) ∧ w = w' := by
 have E := Lib.hid (ne_self b h)
 go_enter Tryz.func131, Tryz.ntmps131
 go_wp2
 go_ret
 exact ⟨ret_bool E.out, rfl⟩
theorem abs_int (b : Nat) (h : b < 18446744073709551616) : (bits BinOp.andNot IntKind.u64 (b : Int) 9223372036854775808).toNat = Fl.mg b := by
 have e := u64_andNot_nat b 9223372036854775808 h (by decide)
 have e' : bits BinOp.andNot IntKind.u64 (b : Int) 9223372036854775808 = ((b &&& (18446744073709551615 - 9223372036854775808) : Nat) : Int) := e
 rw [e']
 have e2 : b &&& (18446744073709551615 - 9223372036854775808) = b % 9223372036854775808 := Nat.and_two_pow_sub_one_eq_mod b 63
 rw [e2]
 rfl
theorem abs_any (b : Nat) (h : b < 18446744073709551616) (w : World) :
   Calls Tryz.prog 117 #[.float .f64 b] w fun e w' => e = .returned (.float .f64 (Fl.mg b)) ∧ w = w' := by
 have E := Lib.hid (abs_int b h)
 go_enter Tryz.func117, Tryz.ntmps117
 go_wp2
 go_ret
 exact ⟨ret_float E.out, rfl⟩
/-- IsInf(x, 0). -/
theorem isInf_any (b : Nat) (h : b < 18446744073709551616) (w : World) :
   Calls Tryz.prog 88 #[.float .f64 b, .int .i64 0] w fun e w' => e = .returned (.bool (decide (Fl.mg b = Fl.INF))) ∧ w = w' := by
 have E := Lib.hid (Fl.gt_max b)
 have HA := Lib.hid (fun w => abs_any b h w)
 go_enter Tryz.func88, Tryz.ntmps88
 go_wp2_with fail
 refine (HA.out _).mono ?_
 rintro e w' ⟨rfl, rfl⟩
 go_wp2_with fail
 go_ret
 exact ⟨ret_bool E.out, rfl⟩
theorem number_any (b : Nat) (h : b < 18446744073709551616) (w : World) :
   Calls Tryz.prog 102 #[.float .f64 b] w fun e w' => e = .returned (.bool (Fl.fin b)) ∧ w = w' := by
 have HN := Lib.hid (fun w => isNaN_any b h w)
 have HI := Lib.hid (fun w => isInf_any b h w)
 cases hn : Fl.nan b with
 | true =>
   have hf : Fl.fin b = false := decide_eq_false (by have := of_decide_eq_true hn; unfold Fl.INF at *; omega)
   rw [hn] at HN
   rw [hf]
   clear hn hf HI
   go_enter Tryz.func102, Tryz.ntmps102
   go_wp2_with fail
   refine (HN.out _).mono ?_
   rintro e w' ⟨rfl, rfl⟩
   go_wp2_with fail
   go_ret
   exact ⟨rfl, rfl⟩
 | false =>
   have hf : Fl.fin b = !decide (Fl.mg b = Fl.INF) := by
     have := of_decide_eq_false hn
     unfold Fl.fin
     by_cases h1 : Fl.mg b = Fl.INF
     · rw [decide_eq_true h1, decide_eq_false (by omega)]; rfl
     · rw [decide_eq_false h1, decide_eq_true (by omega)]; rfl
   rw [hn] at HN
   rw [hf]
   clear hn hf
   generalize decide (Fl.mg b = Fl.INF) = c at *
   go_enter Tryz.func102, Tryz.ntmps102
   go_wp2_with fail
   refine (HN.out _).mono ?_
   rintro e w' ⟨rfl, rfl⟩
   go_wp2_with fail
   refine (HI.out _).mono ?_
   rintro e w' ⟨rfl, rfl⟩
   go_wp2_with fail
   go_ret
   exact ⟨rfl, rfl⟩
theorem plain_any (b : Nat) (h : b < 18446744073709551616) (hn : Fl.nan b = false) (w : World) :
   Calls Tryz.prog 141 #[.float .f64 b] w fun e w' => e = .returned (.float .f64 (Fl.pl b)) ∧ w = w' := by
 have hd : floatBits .add .f64 b 0 = some (Fl.pl b) := Fl.add_zero b h hn
 have hr := fun (t : TypeId) (w : World) => run_float_arith (P := Tryz.prog) w .add t .f64 _ _ _ hd
 clear hd hn
 go_enter Tryz.func141, Tryz.ntmps141
 go_wp2
 go_ret
 exact ⟨rfl, rfl⟩
theorem two_any (a b : Nat) (ha : a < 18446744073709551616) (hb : b < 18446744073709551616) (w : World) :
   Calls Tryz.prog 118 #[.float .f64 a, .float .f64 b] w fun e w' => e = .returned (.bool (Fl.fin a && Fl.fin b)) ∧ w = w' := by
 have HA := Lib.hid (fun w => number_any a ha w)
 have HB := Lib.hid (fun w => number_any b hb w)
 generalize Fl.fin a = x at *
 generalize Fl.fin b = y at *
 cases x
 · go_enter Tryz.func118, Tryz.ntmps118
   go_wp2_with fail
   refine (HA.out _).mono ?_
   rintro e w' ⟨rfl, rfl⟩
   go_wp2_with fail
   go_ret
   exact ⟨rfl, rfl⟩
 · go_enter Tryz.func118, Tryz.ntmps118
   go_wp2_with fail
   refine (HA.out _).mono ?_
   rintro e w' ⟨rfl, rfl⟩
   go_wp2_with fail
   refine (HB.out _).mono ?_
   rintro e w' ⟨rfl, rfl⟩
   go_wp2_with fail
   go_ret
   exact ⟨rfl, rfl⟩
theorem inf_pos (n : Int) (h : 0 ≤ n) (w : World) : Calls Tryz.prog 90 #[.int .i64 n] w fun e w' => e = .returned (.float .f64 9218868437227405312) ∧ w = w' := by
 go_enter Tryz.func90, Tryz.ntmps90
 go_wp2
 go_ret
 exact ⟨rfl, rfl⟩
theorem inf_neg (n : Int) (h : n < 0) (w : World) : Calls Tryz.prog 90 #[.int .i64 n] w fun e w' => e = .returned (.float .f64 18442240474082181120) ∧ w = w' := by
 go_enter Tryz.func90, Tryz.ntmps90
 go_wp2
 go_ret
 exact ⟨rfl, rfl⟩
end Go.Proofs.YtnljfcebmgifdaaGreat
