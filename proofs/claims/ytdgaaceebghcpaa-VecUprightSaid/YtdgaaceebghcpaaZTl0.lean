/- The walk of VecUpright (gen_tk.py). -/
import Derived.Test.YtdgaaceebghcpaaZTk
import Derived.Test.YtdgaaceebghcpaaZTh
set_option linter.unusedVariables false
set_option linter.unusedSimpArgs false
namespace Go.Proofs.Ytdgaaceebghcpaa
open Go.RowKit Fl

theorem le_yes3 {a b : Nat} (ha : Gd a) (hb : Gd b) (h : Z a ≤ Z b) : (FloatKind.f64.format.order a b == some .lt || FloatKind.f64.format.order a b == some .eq) = true := by
  rw [leb ha hb]; exact decide_eq_true h
theorem gdOne : Gd 4607182418800017408 := gd_lit (by decide)
theorem InS.one_wi {s : Sp} (h : InS 1 s) : Z s.lo ≤ Z 4607182418800017408 ∧ Z 4607182418800017408 ≤ Z s.hi := InS.wi (x := 4607182418800017408) (by rw [fv_one]; exact h) (by decide)
theorem InS.zero_wi {s : Sp} (h : InS 0 s) : Z s.lo ≤ Z 0 ∧ Z 0 ≤ Z s.hi := InS.wi (x := 0) (by rw [fv0]; exact h) (by decide)
set_option maxRecDepth 100000 in
set_option maxHeartbeats 8000000 in
theorem share_any (a0 a1 b0 b1 : Nat) (e1 : (FloatKind.f64.format.order a0 b1 == some .lt || FloatKind.f64.format.order a0 b1 == some .eq) = true) (e2 : (FloatKind.f64.format.order b0 a1 == some .lt || FloatKind.f64.format.order b0 a1 == some .eq) = true) (w : World) : Calls Try.prog 55 #[Value.agg #[.float .f64 a0, .float .f64 a1], Value.agg #[.float .f64 b0, .float .f64 b1]] w fun r w' => r = .returned (.bool true) ∧ Below w.heap.size w w' := by
  go_enter Try.func55, Try.ntmps55
  go_wp2_with fail
  go_ret
  exact ⟨rfl, (((Below.refl _ w).alloc (Nat.le_refl _) _).alloc (by simp) _)⟩
theorem share_at {d : Sp} {x : Nat} (gx : Gd x) (h : Z d.lo ≤ Z x ∧ Z x ≤ Z d.hi) (w : World) : Calls Try.prog 55 #[.agg #[.float .f64 d.lo, .float .f64 d.hi], .agg #[.float .f64 x, .float .f64 x]] w fun r w' => r = .returned (.bool true) ∧ Below w.heap.size w w' :=
  share_any _ _ _ _ (le_yes3 d.vd.l gx h.1) (le_yes3 gx d.vd.h h.2) w
end Go.Proofs.Ytdgaaceebghcpaa
