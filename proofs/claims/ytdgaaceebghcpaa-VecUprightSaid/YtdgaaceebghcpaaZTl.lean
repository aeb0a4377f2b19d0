/- The walk of VecUpright, whole (gen_tk.py). -/
import Derived.Test.YtdgaaceebghcpaaZTl1
import Derived.Test.YtdgaaceebghcpaaZTl2
set_option linter.unusedVariables false
set_option linter.unusedSimpArgs false
namespace Go.Proofs.Ytdgaaceebghcpaa
open Go.RowKit Fl

theorem walk_vecUpright (t0 t1 t2 : Nat) (ht0 : t0 < 18446744073709551616) (ht1 : t1 < 18446744073709551616) (ht2 : t2 < 18446744073709551616) (w : World) : Calls Try.prog 9 #[.agg #[.float .f64 t0, .float .f64 t1, .float .f64 t2]] w fun r w' => r = .returned (.bool true) ∧ Below w.heap.size w w' := by
  by_cases h0 : Z (vLen (vOf (fitW t0) (fitW t1) (fitW t2))).lo ≤ 0
  · exact vecUpright_z t0 t1 t2 ht0 ht1 ht2 h0 w
  · by_cases hq : posS (negS ((vUnit (vOf (fitW t0) (fitW t1) (fitW t2)))).z) = 2
    · exact vecUpright_q t0 t1 t2 ht0 ht1 ht2 h0 (by unfold frQ; rw [if_pos hq]) w
    · exact vecUpright_k t0 t1 t2 ht0 ht1 ht2 h0 (by unfold frQ; rw [if_neg hq]) (unit_up _ _ _ (by omega) hq) w
end Go.Proofs.Ytdgaaceebghcpaa
