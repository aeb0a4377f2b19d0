/- Shaken: Vh. -/
import Derived.Test.YtnljfcebmgifdaaGreatZWn
import Derived.Test.YtnljfcebmgifdaaGreatZVf
set_option linter.unusedVariables false
set_option linter.unusedSimpArgs false
namespace Go.Proofs.YtnljfcebmgifdaaGreat
open Go.RowKit Ieee
theorem rnum_good (b : Nat) (h : b < 18446744073709551616) (hf : Fl.fin b = true) (w : World) :
   Calls Tryz.prog 92 #[.float .f64 b] w fun e w' => e = .returned (.bool true) ∧ w = w' := by
 have hd : floatBits .sub .f64 b b = some 0 := Fl.sub_self b h hf
 have hr := fun (t : TypeId) (w : World) => run_float_arith (P := Tryz.prog) w .sub t .f64 _ _ _ hd
 have E : (FloatKind.f64.format.order 0 0 == some .eq) = true := by
   have := pl_of 0 (by decide) (by decide)
   rw [this]; decide
 clear hd hf
 go_enter Tryz.func92, Tryz.ntmps92
 go_wp2_with fail
 go_ret
 exact ⟨rfl, rfl⟩
theorem rnum_bad (b : Nat) (h : b < 18446744073709551616) (hf : Fl.fin b = false) (w : World) :
   Calls Tryz.prog 92 #[.float .f64 b] w fun e w' => e = .returned (.bool false) ∧ w.drew = w' := by
 have hd := Fl.sub_self_none b h hf
 have hr := fun (t : TypeId) (w : World) => run_sub_nan (P := Tryz.prog) w t _ _ hd
 have E : (FloatKind.f64.format.order (nanW b b w) 0 == some .eq) = false := by
   show (Ieee.double.order (nanW b b w) 0 == some .eq) = false
   rw [Fl.order_nan_left _ _ (nanW_lt b b w) (nanW_nan b b w)]; rfl
 clear hd hf
 go_enter Tryz.func92, Tryz.ntmps92
 go_wp2_with fail
 go_ret
 exact ⟨rfl, rfl⟩
theorem rnum_any (b : Nat) (h : b < 18446744073709551616) (w : World) :
   Calls Tryz.prog 92 #[.float .f64 b] w fun e w' => e = .returned (.bool (Fl.fin b)) ∧ ∃ k, w' = w.drewN k := by
 cases hf : Fl.fin b
 · refine (rnum_bad b h hf w).mono ?_
   rintro e w' ⟨rfl, rfl⟩
   exact ⟨rfl, 1, rfl⟩
 · refine (rnum_good b h hf w).mono ?_
   rintro e w' ⟨rfl, rfl⟩
   exact ⟨rfl, 0, rfl⟩
end Go.Proofs.YtnljfcebmgifdaaGreat
