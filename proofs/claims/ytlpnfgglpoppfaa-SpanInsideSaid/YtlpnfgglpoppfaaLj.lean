/- The walk of SpanInside, whole (gen_li.py). -/
import Derived.Test.YtlpnfgglpoppfaaLj0
set_option linter.unusedVariables false
set_option linter.unusedSimpArgs false
namespace Go.Proofs.Ytlpnfgglpoppfaa
open Go.RowKit Fl

theorem inside_good (A B C D : Sp) (hC : Wi C A) (hD : Wi D B) (w : World) : Calls Try.prog 13 #[.agg #[.float .f64 A.lo, .float .f64 A.hi], .agg #[.float .f64 B.lo, .float .f64 B.hi], .agg #[.float .f64 C.lo, .float .f64 C.hi], .agg #[.float .f64 D.lo, .float .f64 D.hi]] w fun r w' => r = .returned (.bool true) ∧ Below w.heap.size w w' := by
  by_cases s : ∃ n, FlSure A n
  · obtain ⟨n, hn⟩ := s
    exact inside_gen A B C D hC hD (Or.inl ⟨n, fun w => flo_sure A n hn w, fun w => flo_sure C n (hn.wi hC) w⟩) w
  · have FA : ∀ n, ¬ FlSure A n := fun n q => s ⟨n, q⟩
    by_cases t : ∃ n, FlSure C n
    · obtain ⟨n, hn⟩ := t
      exact inside_gen A B C D hC hD (Or.inr ⟨n, 1, fun w => flo_not A FA w, fun w => flo_sure C n hn w⟩) w
    · exact inside_gen A B C D hC hD (Or.inr ⟨0, 2, fun w => flo_not A FA w, fun w => flo_not C (fun n q => t ⟨n, q⟩) w⟩) w
theorem walk_inside (a b c d e f g h : Nat) (ha' : a < 18446744073709551616) (hb' : b < 18446744073709551616) (hc' : c < 18446744073709551616) (hd' : d < 18446744073709551616) (he' : e < 18446744073709551616) (hf' : f < 18446744073709551616) (hg' : g < 18446744073709551616) (hh' : h < 18446744073709551616) (w : World) : Calls Try.prog 13 #[.agg #[.float .f64 a, .float .f64 b], .agg #[.float .f64 c, .float .f64 d], .agg #[.float .f64 e, .float .f64 f], .agg #[.float .f64 g, .float .f64 h]] w fun r w' => r = .returned (.bool true) ∧ Below w.heap.size w w' := by
  cases v0 : vdB a b
  · exact inside_n0 a b c d e f g h ha' hb' hc' hd' he' hf' hg' hh' v0 w
  · cases v1 : vdB c d
    · exact inside_n1 a b c d e f g h ha' hb' hc' hd' he' hf' hg' hh' v0 v1 w
    · cases v2 : vdB e f
      · exact inside_n2 a b c d e f g h ha' hb' hc' hd' he' hf' hg' hh' v0 v1 v2 w
      · cases v3 : vdB g h
        · exact inside_n3 a b c d e f g h ha' hb' hc' hd' he' hf' hg' hh' v0 v1 v2 v3 w
        · cases k1 : wiB ⟨e, f, vdB_true he' hf' v2⟩ ⟨a, b, vdB_true ha' hb' v0⟩
          · exact inside_n4 ⟨a, b, vdB_true ha' hb' v0⟩ ⟨c, d, vdB_true hc' hd' v1⟩ ⟨e, f, vdB_true he' hf' v2⟩ ⟨g, h, vdB_true hg' hh' v3⟩ k1 w
          · cases k2 : wiB ⟨g, h, vdB_true hg' hh' v3⟩ ⟨c, d, vdB_true hc' hd' v1⟩
            · exact inside_n5 ⟨a, b, vdB_true ha' hb' v0⟩ ⟨c, d, vdB_true hc' hd' v1⟩ ⟨e, f, vdB_true he' hf' v2⟩ ⟨g, h, vdB_true hg' hh' v3⟩ k1 k2 w
            · exact inside_good ⟨a, b, vdB_true ha' hb' v0⟩ ⟨c, d, vdB_true hc' hd' v1⟩ ⟨e, f, vdB_true he' hf' v2⟩ ⟨g, h, vdB_true hg' hh' v3⟩ ((wiB_iff _ _).1 k1) ((wiB_iff _ _).1 k2) w
end Go.Proofs.Ytlpnfgglpoppfaa
