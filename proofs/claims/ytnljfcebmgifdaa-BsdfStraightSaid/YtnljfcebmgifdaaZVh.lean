/- Shaken: Vh. -/
import Derived.Test.YtnljfcebmgifdaaZWn
import Derived.Test.YtnljfcebmgifdaaZVf
set_option linter.unusedVariables false
set_option linter.unusedSimpArgs false
namespace Go.Proofs.Ytnljfcebmgifdaa
open Go.RowKit Ieee
theorem eight_of {w : World} {g g' : Nat} {t t' : TypeId} {a b c d a' b' c' d' : Value} (h : Blk w g t #[a, b, c, d]) (h' : Blk w g' t' #[a', b', c', d']) :
   w.cell? ⟨g, 0, none⟩ = some a ∧ w.cell? ⟨g, 1, none⟩ = some b ∧ w.cell? ⟨g, 2, none⟩ = some c ∧ w.cell? ⟨g, 3, none⟩ = some d ∧
   w.cell? ⟨g', 0, none⟩ = some a' ∧ w.cell? ⟨g', 1, none⟩ = some b' ∧ w.cell? ⟨g', 2, none⟩ = some c' ∧ w.cell? ⟨g', 3, none⟩ = some d' :=
 ⟨h.cell 0, h.cell 1, h.cell 2, h.cell 3, h'.cell 0, h'.cell 1, h'.cell 2, h'.cell 3⟩
theorem rnum_good (b : Nat) (h : b < 18446744073709551616) (hf : Fl.fin b = true) (w : World) :
   Calls Try.prog 90 #[.float .f64 b] w fun e w' => e = .returned (.bool true) ∧ w = w' := by
 have hd : floatBits .sub .f64 b b = some 0 := Fl.sub_self b h hf
 have hr := fun (t : TypeId) (w : World) => run_float_arith (P := Try.prog) w .sub t .f64 _ _ _ hd
 have E : (FloatKind.f64.format.order 0 0 == some .eq) = true := by
   have := pl_of 0 (by decide) (by decide)
   rw [this]; decide
 clear hd hf
 go_enter Try.func90, Try.ntmps90
 go_wp2_with fail
 go_ret
 exact ⟨rfl, rfl⟩
theorem rnum_bad (b : Nat) (h : b < 18446744073709551616) (hf : Fl.fin b = false) (w : World) :
   Calls Try.prog 90 #[.float .f64 b] w fun e w' => e = .returned (.bool false) ∧ w.drew = w' := by
 have hd := Fl.sub_self_none b h hf
 have hr := fun (t : TypeId) (w : World) => run_sub_nan (P := Try.prog) w t _ _ hd
 have E : (FloatKind.f64.format.order (nanW b b w) 0 == some .eq) = false := by
   show (Ieee.double.order (nanW b b w) 0 == some .eq) = false
   rw [Fl.order_nan_left _ _ (nanW_lt b b w) (nanW_nan b b w)]; rfl
 clear hd hf
 go_enter Try.func90, Try.ntmps90
 go_wp2_with fail
 go_ret
 exact ⟨rfl, rfl⟩
theorem rnum_any (b : Nat) (h : b < 18446744073709551616) (w : World) :
   Calls Try.prog 90 #[.float .f64 b] w fun e w' => e = .returned (.bool (Fl.fin b)) ∧ ∃ k, w' = w.drewN k := by
 cases hf : Fl.fin b
 · refine (rnum_bad b h hf w).mono ?_
   rintro e w' ⟨rfl, rfl⟩
   exact ⟨rfl, 1, rfl⟩
 · refine (rnum_good b h hf w).mono ?_
   rintro e w' ⟨rfl, rfl⟩
   exact ⟨rfl, 0, rfl⟩
theorem rto_ok (neg down : Bool) (W : Nat) (e : Int) (more : Bool) (h : RoundOk W e more) (w : World) :
   Calls Try.prog 147 #[wdW W e more, .bool neg, .bool down] w fun r w' => r = .returned (.float .f64 (toVal neg down W e more)) ∧ Below w.heap.size w w' :=
 rto_any neg down W e more h.lt h.zero h.more (by have := h.lo; omega) (by rcases h.hi with h | h; omega; have := h.2; omega) (by rcases h.hi with h | h; exact .inl h; exact .inr h.1) w
end Go.Proofs.Ytnljfcebmgifdaa
