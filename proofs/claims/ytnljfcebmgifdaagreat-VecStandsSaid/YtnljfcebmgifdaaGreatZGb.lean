/- Shaken: Gb. -/
import Derived.Test.YtnljfcebmgifdaaGreatZGa
set_option linter.unusedVariables false
set_option linter.unusedSimpArgs false
namespace Go.Proofs.YtnljfcebmgifdaaGreat
open Go.RowKit Ieee
end Go.Proofs.YtnljfcebmgifdaaGreat
namespace Go.Proofs.YtnljfcebmgifdaaGreat
open Go.RowKit Ieee
end Go.Proofs.YtnljfcebmgifdaaGreat
namespace Go.Proofs.YtnljfcebmgifdaaGreat
open Go.RowKit Ieee
end Go.Proofs.YtnljfcebmgifdaaGreat
namespace Go.Proofs.YtnljfcebmgifdaaGreat
open Go.RowKit Ieee
namespace Fl
end Fl
theorem rinf_any (w : World) : Calls Tryz.prog 58 #[] w fun r w' => r = .returned (.float .f64 9218868437227405312) ∧ w = w' := by
 go_enter Tryz.func58, Tryz.ntmps58
 go_wp2_with fail
 go_ret
 exact ⟨rfl, rfl⟩
theorem pl_of (b : Nat) (h : b < 18446744073709551616) (hn : Fl.nan b = false) : (FloatKind.f64.format.order b 0 == some .eq) = decide (Fl.mg b = 0) := by
 have := Fl.eq_eq (a := b) (b := 0) h (by decide) hn (by decide)
 refine this.trans ?_
 rw [decide_eq_decide, Fl.Z_eq_iff h (by decide)]
 constructor
 · rintro (h | ⟨h, _⟩)
   · rw [h]; decide
   · exact h
 · intro h
   exact .inr ⟨h, by decide⟩
theorem zeroed_any (b : Nat) (h : b < 18446744073709551616) (hn : Fl.nan b = false) (w : World) :
   Calls Tryz.prog 107 #[.float .f64 b] w fun r w' => r = .returned (.float .f64 (Fl.pl b)) ∧ w = w' := by
 have E := pl_of b h hn
 have HP : Hid ((Fl.mg b = 0 → Fl.pl b = 0) ∧ (Fl.mg b ≠ 0 → Fl.pl b = b)) := by
   refine Lib.hid ⟨fun h0 => ?_, fun h0 => ?_⟩
   · rcases Fl.mg_zero_cases h h0 with rfl | rfl <;> decide
   · unfold Fl.pl
     rw [if_neg]
     rintro rfl
     exact h0 (by decide)
 generalize Fl.pl b = p at *
 by_cases h0 : Fl.mg b = 0
 · rw [decide_eq_true h0] at E
   have q := HP.out.1 h0
   go_enter Tryz.func107, Tryz.ntmps107
   go_wp2_with fail
   go_ret
   exact ⟨ret_float (HP.out.1 h0).symm, rfl⟩
 · rw [decide_eq_false h0] at E
   go_enter Tryz.func107, Tryz.ntmps107
   go_wp2_with fail
   go_ret
   exact ⟨ret_float (HP.out.2 h0).symm, rfl⟩
end Go.Proofs.YtnljfcebmgifdaaGreat
