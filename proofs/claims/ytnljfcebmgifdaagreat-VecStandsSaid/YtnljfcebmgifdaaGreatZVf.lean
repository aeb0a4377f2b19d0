/- Shaken: Vf. -/
import Derived.Test.YtnljfcebmgifdaaGreatZGb
set_option linter.unusedVariables false
set_option linter.unusedSimpArgs false
namespace Go.Proofs.YtnljfcebmgifdaaGreat
open Go.RowKit Ieee
namespace Fl
end Fl
end Go.Proofs.YtnljfcebmgifdaaGreat
namespace Go.Proofs.YtnljfcebmgifdaaGreat
open Go.RowKit Ieee
theorem near_le (grow : Bool) (W : Nat) (e : Int) (more : Bool) : Fl.near grow W e more ≤ Fl.INF := by
 unfold Fl.near
 split
 · exact Nat.zero_le _
 · split
   · exact Nat.min_le_right _ _
   · exact Nat.le_trans (Nat.min_le_right _ _) (Nat.sub_le _ _)
theorem zero_sub64 (x : Nat) (h : x < 18446744073709551616) (hn : Fl.nan x = false) : floatBits .sub .f64 0 x = some (if Fl.mg x = 0 then 0 else Fl.flip x) := Fl.zero_sub x h hn
end Go.Proofs.YtnljfcebmgifdaaGreat
