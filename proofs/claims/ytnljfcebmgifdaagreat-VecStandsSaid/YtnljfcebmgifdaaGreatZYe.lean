/- Shaken: Ye. -/
import Derived.Test.YtnljfcebmgifdaaGreatZGe
import Derived.Test.YtnljfcebmgifdaaGreatZYa
set_option linter.unusedVariables false
set_option linter.unusedSimpArgs false
namespace Go.Proofs.YtnljfcebmgifdaaGreat
open Go.RowKit Fl
theorem und_V3 : Tryz.prog.underlying 26 = some (.array 3 24) := Tryz.underlying26
theorem sizeOf_span (w : World) : (sizeOf 24).run Tryz.prog w = .ok 2 w := by kernel_rfl
theorem equalIn_span (d : Nat) {a b c e : Nat} (h1 : (FloatKind.f64.format.order a c == some .eq) = true) (h2 : (FloatKind.f64.format.order b e == some .eq) = true) (w : World) :
   (Op.equalIn (d + 2) 24 (.agg #[.float .f64 a, .float .f64 b]) (.agg #[.float .f64 c, .float .f64 e])).run Tryz.prog w = .ok true w := by
 go_simp
@[go_sem] theorem guard_v3 (op : BinOp) (x y : Operand) (xs ys : Array Value) (w : World) : (eqGuard op 26 x y (.agg xs) (.agg ys)).run Tryz.prog w = .ok () w :=
 run_eqGuard_agg w op _ x y xs ys (by kernel_rfl)
@[go_sem ↓] theorem eql_v3 {x0 x1 x2 x3 x4 x5 y0 y1 y2 y3 y4 y5 : Nat} (h0 : (FloatKind.f64.format.order x0 y0 == some .eq) = true) (h1 : (FloatKind.f64.format.order x1 y1 == some .eq) = true) (h2 : (FloatKind.f64.format.order x2 y2 == some .eq) = true)
   (h3 : (FloatKind.f64.format.order x3 y3 == some .eq) = true) (h4 : (FloatKind.f64.format.order x4 y4 == some .eq) = true) (h5 : (FloatKind.f64.format.order x5 y5 == some .eq) = true) (w : World) :
   (binOp .eql 26 (.agg #[.float .f64 x0, .float .f64 x1, .float .f64 x2, .float .f64 x3, .float .f64 x4, .float .f64 x5]) (.agg #[.float .f64 y0, .float .f64 y1, .float .f64 y2, .float .f64 y3, .float .f64 y4, .float .f64 y5])).run Tryz.prog w = .ok (.bool true) w := by
 have p0 : ∀ a b c d e f : Value, (part 24 #[a, b, c, d, e, f] (0 * 2)).run Tryz.prog w = .ok (.agg #[a, b]) w := by intros; kernel_rfl
 have p1 : ∀ a b c d e f : Value, (part 24 #[a, b, c, d, e, f] (1 * 2)).run Tryz.prog w = .ok (.agg #[c, d]) w := by intros; kernel_rfl
 have p2 : ∀ a b c d e f : Value, (part 24 #[a, b, c, d, e, f] (2 * 2)).run Tryz.prog w = .ok (.agg #[e, f]) w := by intros; kernel_rfl
 rw [run_eql_struct]
 have : ∀ d, (Op.equalIn (d + 3) 26 (.agg #[.float .f64 x0, .float .f64 x1, .float .f64 x2, .float .f64 x3, .float .f64 x4, .float .f64 x5]) (.agg #[.float .f64 y0, .float .f64 y1, .float .f64 y2, .float .f64 y3, .float .f64 y4, .float .f64 y5])).run Tryz.prog w = .ok true w := by
   intro d
   unfold Op.equalIn
   simp [run_underlying und_V3, sizeOf_span, Std.Legacy.Range.forIn_eq_forIn_range', Std.Legacy.Range.size, List.range', p0, p1, p2, equalIn_span d h0 h1, equalIn_span d h2 h3, equalIn_span d h4 h5]
 rw [this 9997]
 rfl
end Go.Proofs.YtnljfcebmgifdaaGreat
