/- Within, of vectors (gen_uc.py). -/
import Derived.Test.YtdgaaceebghcpaaZUc
set_option linter.unusedVariables false
set_option linter.unusedSimpArgs false
namespace Go.Proofs.Ytdgaaceebghcpaa
open Go.RowKit Fl

theorem rwithin_sp {c a : Sp} (h : Wi c a) (w : World) : Calls Try.prog 68 #[.agg #[.float .f64 c.lo, .float .f64 c.hi], .agg #[.float .f64 a.lo, .float .f64 a.hi]] w fun r w' => r = .returned (.bool true) ∧ Below w.heap.size w w' := by
  have e : (leF a.lo c.lo && leF c.hi a.hi) = true := by rw [leF_gd a.vd.l c.vd.l, leF_gd c.vd.h a.vd.h, decide_eq_true h.lo, decide_eq_true h.hi]; rfl
  exact (within_any c.lo c.hi a.lo a.hi w).mono fun _ _ ⟨h, o, o', e'⟩ => ⟨by rw [h, e], e' ▸ below_new2 w o o'⟩
set_option maxRecDepth 100000 in
set_option maxHeartbeats 8000000 in
theorem rwithinV_any (c a : V3) (h : WiV c a) (w : World) : Calls Try.prog 25 #[Value.agg #[.float .f64 c.x.lo, .float .f64 c.x.hi, .float .f64 c.y.lo, .float .f64 c.y.hi, .float .f64 c.z.lo, .float .f64 c.z.hi], Value.agg #[.float .f64 a.x.lo, .float .f64 a.x.hi, .float .f64 a.y.lo, .float .f64 a.y.hi, .float .f64 a.z.lo, .float .f64 a.z.hi]] w fun r w' => r = .returned (.bool true) ∧ Below w.heap.size w w' := by
  have C0 := Lib.hid (fun w => rwithin_sp h.x w)
  have C1 := Lib.hid (fun w => rwithin_sp h.y w)
  have C2 := Lib.hid (fun w => rwithin_sp h.z w)
  go_enter Try.func25, Try.ntmps25
  go_wp2_with fail
  obtain ⟨W, hW, K0, K1, hB, hz⟩ := bx2 w 26 26 (vc c) (vc a)
  rw [← hW]
  have K0 := Lib.hid K0
  have K1 := Lib.hid K1
  have HB := Lib.hid hB
  clear hW hB hz
  have D1 := dr W
  refine (C0.out _).mono ?_
  rintro r w2 ⟨rfl, hb⟩
  have D3 := ds D1 hb
  clear D1
  clear hb
  have hq4 := (kb K0 D3).cellsL 2 [.float .f64 c.y.lo, .float .f64 c.y.hi] rfl
  dsimp only [CellsL, al, vl, Nat.reduceAdd] at hq4
  have hq5 := (kb K1 D3).cellsL 2 [.float .f64 a.y.lo, .float .f64 a.y.hi] rfl
  dsimp only [CellsL, al, vl, Nat.reduceAdd] at hq5
  go_wp2_with fail
  clear hq4 hq5
  refine (C1.out _).mono ?_
  rintro r w6 ⟨rfl, hb⟩
  have D7 := ds D3 hb
  clear D3
  clear hb
  have hq8 := (kb K0 D7).cellsL 4 [.float .f64 c.z.lo, .float .f64 c.z.hi] rfl
  dsimp only [CellsL, al, vl, Nat.reduceAdd] at hq8
  have hq9 := (kb K1 D7).cellsL 4 [.float .f64 a.z.lo, .float .f64 a.z.hi] rfl
  dsimp only [CellsL, al, vl, Nat.reduceAdd] at hq9
  go_wp2_with fail
  clear hq8 hq9
  refine (C2.out _).mono ?_
  rintro r w10 ⟨rfl, hb⟩
  have D11 := ds D7 hb
  clear D7
  clear hb
  go_wp2_with fail
  go_ret
  exact ⟨rfl, below_step HB.out D11.out⟩
end Go.Proofs.Ytdgaaceebghcpaa
