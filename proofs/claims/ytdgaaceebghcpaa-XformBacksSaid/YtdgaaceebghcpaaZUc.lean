/- Guards and fixed facts of layer 4 (gen_ub.py). -/
import Derived.Test.YtdgaaceebghcpaaZUb
import Derived.Test.YtdgaaceebghcpaaZTd
import Derived.Test.YtdgaaceebghcpaaZTa
import Derived.Test.YtdgaaceebghcpaaZYe
set_option linter.unusedVariables false
set_option linter.unusedSimpArgs false
namespace Go.Proofs.Ytdgaaceebghcpaa
open Go.RowKit Fl

def vdA (x0 x1 x2 x3 x4 x5 x6 x7 x8 x9 x10 x11 x12 x13 x14 x15 x16 x17 x18 x19 x20 x21 x22 x23 : Nat) : Bool := vdV x18 x19 x20 x21 x22 x23 && vdV x0 x1 x2 x3 x4 x5 && vdV x6 x7 x8 x9 x10 x11 && vdV x12 x13 x14 x15 x16 x17
set_option maxRecDepth 100000 in
set_option maxHeartbeats 8000000 in
theorem rvalidA_f (x0 x1 x2 x3 x4 x5 x6 x7 x8 x9 x10 x11 x12 x13 x14 x15 x16 x17 x18 x19 x20 x21 x22 x23 : Nat) (hx0 : x0 < 18446744073709551616) (hx1 : x1 < 18446744073709551616) (hx2 : x2 < 18446744073709551616) (hx3 : x3 < 18446744073709551616) (hx4 : x4 < 18446744073709551616) (hx5 : x5 < 18446744073709551616) (hx6 : x6 < 18446744073709551616) (hx7 : x7 < 18446744073709551616) (hx8 : x8 < 18446744073709551616) (hx9 : x9 < 18446744073709551616) (hx10 : x10 < 18446744073709551616) (hx11 : x11 < 18446744073709551616) (hx12 : x12 < 18446744073709551616) (hx13 : x13 < 18446744073709551616) (hx14 : x14 < 18446744073709551616) (hx15 : x15 < 18446744073709551616) (hx16 : x16 < 18446744073709551616) (hx17 : x17 < 18446744073709551616) (hx18 : x18 < 18446744073709551616) (hx19 : x19 < 18446744073709551616) (hx20 : x20 < 18446744073709551616) (hx21 : x21 < 18446744073709551616) (hx22 : x22 < 18446744073709551616) (hx23 : x23 < 18446744073709551616) (v0 : vdV x18 x19 x20 x21 x22 x23 = false) (w : World) : Calls Try.prog 14 #[Value.agg #[.float .f64 x0, .float .f64 x1, .float .f64 x2, .float .f64 x3, .float .f64 x4, .float .f64 x5, .float .f64 x6, .float .f64 x7, .float .f64 x8, .float .f64 x9, .float .f64 x10, .float .f64 x11, .float .f64 x12, .float .f64 x13, .float .f64 x14, .float .f64 x15, .float .f64 x16, .float .f64 x17, .float .f64 x18, .float .f64 x19, .float .f64 x20, .float .f64 x21, .float .f64 x22, .float .f64 x23]] w fun r w' => r = .returned (.bool false) ∧ Below w.heap.size w w' := by
  have C0 := Lib.hid (fun w => rvalidV_any x18 x19 x20 x21 x22 x23 hx18 hx19 hx20 hx21 hx22 hx23 w)
  rw [v0] at C0
  go_enter Try.func14, Try.ntmps14
  go_wp2_with fail
  obtain ⟨W, hW, K0, hB, hz⟩ := bx1 w 29 #[.float .f64 x0, .float .f64 x1, .float .f64 x2, .float .f64 x3, .float .f64 x4, .float .f64 x5, .float .f64 x6, .float .f64 x7, .float .f64 x8, .float .f64 x9, .float .f64 x10, .float .f64 x11, .float .f64 x12, .float .f64 x13, .float .f64 x14, .float .f64 x15, .float .f64 x16, .float .f64 x17, .float .f64 x18, .float .f64 x19, .float .f64 x20, .float .f64 x21, .float .f64 x22, .float .f64 x23]
  rw [← hW]
  have K0 := Lib.hid K0
  have HB := Lib.hid hB
  clear hW hB hz
  have D1 := dr W
  refine (C0.out _).mono ?_
  rintro r w2 ⟨rfl, hb⟩
  have D3 := ds D1 hb
  clear D1
  clear hb
  go_wp2_with fail
  go_ret
  exact ⟨rfl, below_step HB.out D3.out⟩
set_option maxRecDepth 100000 in
set_option maxHeartbeats 8000000 in
theorem rvalidA_tf (x0 x1 x2 x3 x4 x5 x6 x7 x8 x9 x10 x11 x12 x13 x14 x15 x16 x17 x18 x19 x20 x21 x22 x23 : Nat) (hx0 : x0 < 18446744073709551616) (hx1 : x1 < 18446744073709551616) (hx2 : x2 < 18446744073709551616) (hx3 : x3 < 18446744073709551616) (hx4 : x4 < 18446744073709551616) (hx5 : x5 < 18446744073709551616) (hx6 : x6 < 18446744073709551616) (hx7 : x7 < 18446744073709551616) (hx8 : x8 < 18446744073709551616) (hx9 : x9 < 18446744073709551616) (hx10 : x10 < 18446744073709551616) (hx11 : x11 < 18446744073709551616) (hx12 : x12 < 18446744073709551616) (hx13 : x13 < 18446744073709551616) (hx14 : x14 < 18446744073709551616) (hx15 : x15 < 18446744073709551616) (hx16 : x16 < 18446744073709551616) (hx17 : x17 < 18446744073709551616) (hx18 : x18 < 18446744073709551616) (hx19 : x19 < 18446744073709551616) (hx20 : x20 < 18446744073709551616) (hx21 : x21 < 18446744073709551616) (hx22 : x22 < 18446744073709551616) (hx23 : x23 < 18446744073709551616) (v0 : vdV x18 x19 x20 x21 x22 x23 = true) (v1 : vdV x0 x1 x2 x3 x4 x5 = false) (w : World) : Calls Try.prog 14 #[Value.agg #[.float .f64 x0, .float .f64 x1, .float .f64 x2, .float .f64 x3, .float .f64 x4, .float .f64 x5, .float .f64 x6, .float .f64 x7, .float .f64 x8, .float .f64 x9, .float .f64 x10, .float .f64 x11, .float .f64 x12, .float .f64 x13, .float .f64 x14, .float .f64 x15, .float .f64 x16, .float .f64 x17, .float .f64 x18, .float .f64 x19, .float .f64 x20, .float .f64 x21, .float .f64 x22, .float .f64 x23]] w fun r w' => r = .returned (.bool false) ∧ Below w.heap.size w w' := by
  have C0 := Lib.hid (fun w => rvalidV_any x18 x19 x20 x21 x22 x23 hx18 hx19 hx20 hx21 hx22 hx23 w)
  rw [v0] at C0
  have C1 := Lib.hid (fun w => rvalidV_any x0 x1 x2 x3 x4 x5 hx0 hx1 hx2 hx3 hx4 hx5 w)
  rw [v1] at C1
  go_enter Try.func14, Try.ntmps14
  go_wp2_with fail
  obtain ⟨W, hW, K0, hB, hz⟩ := bx1 w 29 #[.float .f64 x0, .float .f64 x1, .float .f64 x2, .float .f64 x3, .float .f64 x4, .float .f64 x5, .float .f64 x6, .float .f64 x7, .float .f64 x8, .float .f64 x9, .float .f64 x10, .float .f64 x11, .float .f64 x12, .float .f64 x13, .float .f64 x14, .float .f64 x15, .float .f64 x16, .float .f64 x17, .float .f64 x18, .float .f64 x19, .float .f64 x20, .float .f64 x21, .float .f64 x22, .float .f64 x23]
  rw [← hW]
  have K0 := Lib.hid K0
  have HB := Lib.hid hB
  clear hW hB hz
  have D1 := dr W
  refine (C0.out _).mono ?_
  rintro r w2 ⟨rfl, hb⟩
  have D3 := ds D1 hb
  clear D1
  clear hb
  have hq4 := (kb K0 D3).cellsL 0 [.float .f64 x0, .float .f64 x1, .float .f64 x2, .float .f64 x3, .float .f64 x4, .float .f64 x5] rfl
  dsimp only [CellsL, al, vl, Nat.reduceAdd] at hq4
  go_wp2_with fail
  clear hq4
  refine (C1.out _).mono ?_
  rintro r w5 ⟨rfl, hb⟩
  have D6 := ds D3 hb
  clear D3
  clear hb
  go_wp2_with fail
  go_ret
  exact ⟨rfl, below_step HB.out D6.out⟩
set_option maxRecDepth 100000 in
set_option maxHeartbeats 8000000 in
theorem rvalidA_ttf (x0 x1 x2 x3 x4 x5 x6 x7 x8 x9 x10 x11 x12 x13 x14 x15 x16 x17 x18 x19 x20 x21 x22 x23 : Nat) (hx0 : x0 < 18446744073709551616) (hx1 : x1 < 18446744073709551616) (hx2 : x2 < 18446744073709551616) (hx3 : x3 < 18446744073709551616) (hx4 : x4 < 18446744073709551616) (hx5 : x5 < 18446744073709551616) (hx6 : x6 < 18446744073709551616) (hx7 : x7 < 18446744073709551616) (hx8 : x8 < 18446744073709551616) (hx9 : x9 < 18446744073709551616) (hx10 : x10 < 18446744073709551616) (hx11 : x11 < 18446744073709551616) (hx12 : x12 < 18446744073709551616) (hx13 : x13 < 18446744073709551616) (hx14 : x14 < 18446744073709551616) (hx15 : x15 < 18446744073709551616) (hx16 : x16 < 18446744073709551616) (hx17 : x17 < 18446744073709551616) (hx18 : x18 < 18446744073709551616) (hx19 : x19 < 18446744073709551616) (hx20 : x20 < 18446744073709551616) (hx21 : x21 < 18446744073709551616) (hx22 : x22 < 18446744073709551616) (hx23 : x23 < 18446744073709551616) (v0 : vdV x18 x19 x20 x21 x22 x23 = true) (v1 : vdV x0 x1 x2 x3 x4 x5 = true) (v2 : vdV x6 x7 x8 x9 x10 x11 = false) (w : World) : Calls Try.prog 14 #[Value.agg #[.float .f64 x0, .float .f64 x1, .float .f64 x2, .float .f64 x3, .float .f64 x4, .float .f64 x5, .float .f64 x6, .float .f64 x7, .float .f64 x8, .float .f64 x9, .float .f64 x10, .float .f64 x11, .float .f64 x12, .float .f64 x13, .float .f64 x14, .float .f64 x15, .float .f64 x16, .float .f64 x17, .float .f64 x18, .float .f64 x19, .float .f64 x20, .float .f64 x21, .float .f64 x22, .float .f64 x23]] w fun r w' => r = .returned (.bool false) ∧ Below w.heap.size w w' := by
  have C0 := Lib.hid (fun w => rvalidV_any x18 x19 x20 x21 x22 x23 hx18 hx19 hx20 hx21 hx22 hx23 w)
  rw [v0] at C0
  have C1 := Lib.hid (fun w => rvalidV_any x0 x1 x2 x3 x4 x5 hx0 hx1 hx2 hx3 hx4 hx5 w)
  rw [v1] at C1
  have C2 := Lib.hid (fun w => rvalidV_any x6 x7 x8 x9 x10 x11 hx6 hx7 hx8 hx9 hx10 hx11 w)
  rw [v2] at C2
  go_enter Try.func14, Try.ntmps14
  go_wp2_with fail
  obtain ⟨W, hW, K0, hB, hz⟩ := bx1 w 29 #[.float .f64 x0, .float .f64 x1, .float .f64 x2, .float .f64 x3, .float .f64 x4, .float .f64 x5, .float .f64 x6, .float .f64 x7, .float .f64 x8, .float .f64 x9, .float .f64 x10, .float .f64 x11, .float .f64 x12, .float .f64 x13, .float .f64 x14, .float .f64 x15, .float .f64 x16, .float .f64 x17, .float .f64 x18, .float .f64 x19, .float .f64 x20, .float .f64 x21, .float .f64 x22, .float .f64 x23]
  rw [← hW]
  have K0 := Lib.hid K0
  have HB := Lib.hid hB
  clear hW hB hz
  have D1 := dr W
  refine (C0.out _).mono ?_
  rintro r w2 ⟨rfl, hb⟩
  have D3 := ds D1 hb
  clear D1
  clear hb
  have hq4 := (kb K0 D3).cellsL 0 [.float .f64 x0, .float .f64 x1, .float .f64 x2, .float .f64 x3, .float .f64 x4, .float .f64 x5] rfl
  dsimp only [CellsL, al, vl, Nat.reduceAdd] at hq4
  go_wp2_with fail
  clear hq4
  refine (C1.out _).mono ?_
  rintro r w5 ⟨rfl, hb⟩
  have D6 := ds D3 hb
  clear D3
  clear hb
  have hq7 := (kb K0 D6).cellsL 6 [.float .f64 x6, .float .f64 x7, .float .f64 x8, .float .f64 x9, .float .f64 x10, .float .f64 x11] rfl
  dsimp only [CellsL, al, vl, Nat.reduceAdd] at hq7
  go_wp2_with fail
  clear hq7
  refine (C2.out _).mono ?_
  rintro r w8 ⟨rfl, hb⟩
  have D9 := ds D6 hb
  clear D6
  clear hb
  go_wp2_with fail
  go_ret
  exact ⟨rfl, below_step HB.out D9.out⟩
set_option maxRecDepth 100000 in
set_option maxHeartbeats 8000000 in
theorem rvalidA_tttf (x0 x1 x2 x3 x4 x5 x6 x7 x8 x9 x10 x11 x12 x13 x14 x15 x16 x17 x18 x19 x20 x21 x22 x23 : Nat) (hx0 : x0 < 18446744073709551616) (hx1 : x1 < 18446744073709551616) (hx2 : x2 < 18446744073709551616) (hx3 : x3 < 18446744073709551616) (hx4 : x4 < 18446744073709551616) (hx5 : x5 < 18446744073709551616) (hx6 : x6 < 18446744073709551616) (hx7 : x7 < 18446744073709551616) (hx8 : x8 < 18446744073709551616) (hx9 : x9 < 18446744073709551616) (hx10 : x10 < 18446744073709551616) (hx11 : x11 < 18446744073709551616) (hx12 : x12 < 18446744073709551616) (hx13 : x13 < 18446744073709551616) (hx14 : x14 < 18446744073709551616) (hx15 : x15 < 18446744073709551616) (hx16 : x16 < 18446744073709551616) (hx17 : x17 < 18446744073709551616) (hx18 : x18 < 18446744073709551616) (hx19 : x19 < 18446744073709551616) (hx20 : x20 < 18446744073709551616) (hx21 : x21 < 18446744073709551616) (hx22 : x22 < 18446744073709551616) (hx23 : x23 < 18446744073709551616) (v0 : vdV x18 x19 x20 x21 x22 x23 = true) (v1 : vdV x0 x1 x2 x3 x4 x5 = true) (v2 : vdV x6 x7 x8 x9 x10 x11 = true) (v3 : vdV x12 x13 x14 x15 x16 x17 = false) (w : World) : Calls Try.prog 14 #[Value.agg #[.float .f64 x0, .float .f64 x1, .float .f64 x2, .float .f64 x3, .float .f64 x4, .float .f64 x5, .float .f64 x6, .float .f64 x7, .float .f64 x8, .float .f64 x9, .float .f64 x10, .float .f64 x11, .float .f64 x12, .float .f64 x13, .float .f64 x14, .float .f64 x15, .float .f64 x16, .float .f64 x17, .float .f64 x18, .float .f64 x19, .float .f64 x20, .float .f64 x21, .float .f64 x22, .float .f64 x23]] w fun r w' => r = .returned (.bool false) ∧ Below w.heap.size w w' := by
  have C0 := Lib.hid (fun w => rvalidV_any x18 x19 x20 x21 x22 x23 hx18 hx19 hx20 hx21 hx22 hx23 w)
  rw [v0] at C0
  have C1 := Lib.hid (fun w => rvalidV_any x0 x1 x2 x3 x4 x5 hx0 hx1 hx2 hx3 hx4 hx5 w)
  rw [v1] at C1
  have C2 := Lib.hid (fun w => rvalidV_any x6 x7 x8 x9 x10 x11 hx6 hx7 hx8 hx9 hx10 hx11 w)
  rw [v2] at C2
  have C3 := Lib.hid (fun w => rvalidV_any x12 x13 x14 x15 x16 x17 hx12 hx13 hx14 hx15 hx16 hx17 w)
  rw [v3] at C3
  go_enter Try.func14, Try.ntmps14
  go_wp2_with fail
  obtain ⟨W, hW, K0, hB, hz⟩ := bx1 w 29 #[.float .f64 x0, .float .f64 x1, .float .f64 x2, .float .f64 x3, .float .f64 x4, .float .f64 x5, .float .f64 x6, .float .f64 x7, .float .f64 x8, .float .f64 x9, .float .f64 x10, .float .f64 x11, .float .f64 x12, .float .f64 x13, .float .f64 x14, .float .f64 x15, .float .f64 x16, .float .f64 x17, .float .f64 x18, .float .f64 x19, .float .f64 x20, .float .f64 x21, .float .f64 x22, .float .f64 x23]
  rw [← hW]
  have K0 := Lib.hid K0
  have HB := Lib.hid hB
  clear hW hB hz
  have D1 := dr W
  refine (C0.out _).mono ?_
  rintro r w2 ⟨rfl, hb⟩
  have D3 := ds D1 hb
  clear D1
  clear hb
  have hq4 := (kb K0 D3).cellsL 0 [.float .f64 x0, .float .f64 x1, .float .f64 x2, .float .f64 x3, .float .f64 x4, .float .f64 x5] rfl
  dsimp only [CellsL, al, vl, Nat.reduceAdd] at hq4
  go_wp2_with fail
  clear hq4
  refine (C1.out _).mono ?_
  rintro r w5 ⟨rfl, hb⟩
  have D6 := ds D3 hb
  clear D3
  clear hb
  have hq7 := (kb K0 D6).cellsL 6 [.float .f64 x6, .float .f64 x7, .float .f64 x8, .float .f64 x9, .float .f64 x10, .float .f64 x11] rfl
  dsimp only [CellsL, al, vl, Nat.reduceAdd] at hq7
  go_wp2_with fail
  clear hq7
  refine (C2.out _).mono ?_
  rintro r w8 ⟨rfl, hb⟩
  have D9 := ds D6 hb
  clear D6
  clear hb
  have hq10 := (kb K0 D9).cellsL 12 [.float .f64 x12, .float .f64 x13, .float .f64 x14, .float .f64 x15, .float .f64 x16, .float .f64 x17] rfl
  dsimp only [CellsL, al, vl, Nat.reduceAdd] at hq10
  go_wp2_with fail
  clear hq10
  refine (C3.out _).mono ?_
  rintro r w11 ⟨rfl, hb⟩
  have D12 := ds D9 hb
  clear D9
  clear hb
  go_wp2_with fail
  go_ret
  exact ⟨rfl, below_step HB.out D12.out⟩
set_option maxRecDepth 100000 in
set_option maxHeartbeats 8000000 in
theorem rvalidA_tttt (x0 x1 x2 x3 x4 x5 x6 x7 x8 x9 x10 x11 x12 x13 x14 x15 x16 x17 x18 x19 x20 x21 x22 x23 : Nat) (hx0 : x0 < 18446744073709551616) (hx1 : x1 < 18446744073709551616) (hx2 : x2 < 18446744073709551616) (hx3 : x3 < 18446744073709551616) (hx4 : x4 < 18446744073709551616) (hx5 : x5 < 18446744073709551616) (hx6 : x6 < 18446744073709551616) (hx7 : x7 < 18446744073709551616) (hx8 : x8 < 18446744073709551616) (hx9 : x9 < 18446744073709551616) (hx10 : x10 < 18446744073709551616) (hx11 : x11 < 18446744073709551616) (hx12 : x12 < 18446744073709551616) (hx13 : x13 < 18446744073709551616) (hx14 : x14 < 18446744073709551616) (hx15 : x15 < 18446744073709551616) (hx16 : x16 < 18446744073709551616) (hx17 : x17 < 18446744073709551616) (hx18 : x18 < 18446744073709551616) (hx19 : x19 < 18446744073709551616) (hx20 : x20 < 18446744073709551616) (hx21 : x21 < 18446744073709551616) (hx22 : x22 < 18446744073709551616) (hx23 : x23 < 18446744073709551616) (v0 : vdV x18 x19 x20 x21 x22 x23 = true) (v1 : vdV x0 x1 x2 x3 x4 x5 = true) (v2 : vdV x6 x7 x8 x9 x10 x11 = true) (v3 : vdV x12 x13 x14 x15 x16 x17 = true) (w : World) : Calls Try.prog 14 #[Value.agg #[.float .f64 x0, .float .f64 x1, .float .f64 x2, .float .f64 x3, .float .f64 x4, .float .f64 x5, .float .f64 x6, .float .f64 x7, .float .f64 x8, .float .f64 x9, .float .f64 x10, .float .f64 x11, .float .f64 x12, .float .f64 x13, .float .f64 x14, .float .f64 x15, .float .f64 x16, .float .f64 x17, .float .f64 x18, .float .f64 x19, .float .f64 x20, .float .f64 x21, .float .f64 x22, .float .f64 x23]] w fun r w' => r = .returned (.bool true) ∧ Below w.heap.size w w' := by
  have C0 := Lib.hid (fun w => rvalidV_any x18 x19 x20 x21 x22 x23 hx18 hx19 hx20 hx21 hx22 hx23 w)
  rw [v0] at C0
  have C1 := Lib.hid (fun w => rvalidV_any x0 x1 x2 x3 x4 x5 hx0 hx1 hx2 hx3 hx4 hx5 w)
  rw [v1] at C1
  have C2 := Lib.hid (fun w => rvalidV_any x6 x7 x8 x9 x10 x11 hx6 hx7 hx8 hx9 hx10 hx11 w)
  rw [v2] at C2
  have C3 := Lib.hid (fun w => rvalidV_any x12 x13 x14 x15 x16 x17 hx12 hx13 hx14 hx15 hx16 hx17 w)
  rw [v3] at C3
  go_enter Try.func14, Try.ntmps14
  go_wp2_with fail
  obtain ⟨W, hW, K0, hB, hz⟩ := bx1 w 29 #[.float .f64 x0, .float .f64 x1, .float .f64 x2, .float .f64 x3, .float .f64 x4, .float .f64 x5, .float .f64 x6, .float .f64 x7, .float .f64 x8, .float .f64 x9, .float .f64 x10, .float .f64 x11, .float .f64 x12, .float .f64 x13, .float .f64 x14, .float .f64 x15, .float .f64 x16, .float .f64 x17, .float .f64 x18, .float .f64 x19, .float .f64 x20, .float .f64 x21, .float .f64 x22, .float .f64 x23]
  rw [← hW]
  have K0 := Lib.hid K0
  have HB := Lib.hid hB
  clear hW hB hz
  have D1 := dr W
  refine (C0.out _).mono ?_
  rintro r w2 ⟨rfl, hb⟩
  have D3 := ds D1 hb
  clear D1
  clear hb
  have hq4 := (kb K0 D3).cellsL 0 [.float .f64 x0, .float .f64 x1, .float .f64 x2, .float .f64 x3, .float .f64 x4, .float .f64 x5] rfl
  dsimp only [CellsL, al, vl, Nat.reduceAdd] at hq4
  go_wp2_with fail
  clear hq4
  refine (C1.out _).mono ?_
  rintro r w5 ⟨rfl, hb⟩
  have D6 := ds D3 hb
  clear D3
  clear hb
  have hq7 := (kb K0 D6).cellsL 6 [.float .f64 x6, .float .f64 x7, .float .f64 x8, .float .f64 x9, .float .f64 x10, .float .f64 x11] rfl
  dsimp only [CellsL, al, vl, Nat.reduceAdd] at hq7
  go_wp2_with fail
  clear hq7
  refine (C2.out _).mono ?_
  rintro r w8 ⟨rfl, hb⟩
  have D9 := ds D6 hb
  clear D6
  clear hb
  have hq10 := (kb K0 D9).cellsL 12 [.float .f64 x12, .float .f64 x13, .float .f64 x14, .float .f64 x15, .float .f64 x16, .float .f64 x17] rfl
  dsimp only [CellsL, al, vl, Nat.reduceAdd] at hq10
  go_wp2_with fail
  clear hq10
  refine (C3.out _).mono ?_
  rintro r w11 ⟨rfl, hb⟩
  have D12 := ds D9 hb
  clear D9
  clear hb
  go_wp2_with fail
  go_ret
  exact ⟨rfl, below_step HB.out D12.out⟩
theorem rvalidA_any (x0 x1 x2 x3 x4 x5 x6 x7 x8 x9 x10 x11 x12 x13 x14 x15 x16 x17 x18 x19 x20 x21 x22 x23 : Nat) (hx0 : x0 < 18446744073709551616) (hx1 : x1 < 18446744073709551616) (hx2 : x2 < 18446744073709551616) (hx3 : x3 < 18446744073709551616) (hx4 : x4 < 18446744073709551616) (hx5 : x5 < 18446744073709551616) (hx6 : x6 < 18446744073709551616) (hx7 : x7 < 18446744073709551616) (hx8 : x8 < 18446744073709551616) (hx9 : x9 < 18446744073709551616) (hx10 : x10 < 18446744073709551616) (hx11 : x11 < 18446744073709551616) (hx12 : x12 < 18446744073709551616) (hx13 : x13 < 18446744073709551616) (hx14 : x14 < 18446744073709551616) (hx15 : x15 < 18446744073709551616) (hx16 : x16 < 18446744073709551616) (hx17 : x17 < 18446744073709551616) (hx18 : x18 < 18446744073709551616) (hx19 : x19 < 18446744073709551616) (hx20 : x20 < 18446744073709551616) (hx21 : x21 < 18446744073709551616) (hx22 : x22 < 18446744073709551616) (hx23 : x23 < 18446744073709551616) (w : World) : Calls Try.prog 14 #[.agg #[.float .f64 x0, .float .f64 x1, .float .f64 x2, .float .f64 x3, .float .f64 x4, .float .f64 x5, .float .f64 x6, .float .f64 x7, .float .f64 x8, .float .f64 x9, .float .f64 x10, .float .f64 x11, .float .f64 x12, .float .f64 x13, .float .f64 x14, .float .f64 x15, .float .f64 x16, .float .f64 x17, .float .f64 x18, .float .f64 x19, .float .f64 x20, .float .f64 x21, .float .f64 x22, .float .f64 x23]] w fun r w' => r = .returned (.bool (vdA x0 x1 x2 x3 x4 x5 x6 x7 x8 x9 x10 x11 x12 x13 x14 x15 x16 x17 x18 x19 x20 x21 x22 x23)) ∧ Below w.heap.size w w' := by
  unfold vdA
  cases v0 : vdV x18 x19 x20 x21 x22 x23
  · exact rvalidA_f x0 x1 x2 x3 x4 x5 x6 x7 x8 x9 x10 x11 x12 x13 x14 x15 x16 x17 x18 x19 x20 x21 x22 x23 hx0 hx1 hx2 hx3 hx4 hx5 hx6 hx7 hx8 hx9 hx10 hx11 hx12 hx13 hx14 hx15 hx16 hx17 hx18 hx19 hx20 hx21 hx22 hx23 v0 w
  · cases v1 : vdV x0 x1 x2 x3 x4 x5
    · exact rvalidA_tf x0 x1 x2 x3 x4 x5 x6 x7 x8 x9 x10 x11 x12 x13 x14 x15 x16 x17 x18 x19 x20 x21 x22 x23 hx0 hx1 hx2 hx3 hx4 hx5 hx6 hx7 hx8 hx9 hx10 hx11 hx12 hx13 hx14 hx15 hx16 hx17 hx18 hx19 hx20 hx21 hx22 hx23 v0 v1 w
    · cases v2 : vdV x6 x7 x8 x9 x10 x11
      · exact rvalidA_ttf x0 x1 x2 x3 x4 x5 x6 x7 x8 x9 x10 x11 x12 x13 x14 x15 x16 x17 x18 x19 x20 x21 x22 x23 hx0 hx1 hx2 hx3 hx4 hx5 hx6 hx7 hx8 hx9 hx10 hx11 hx12 hx13 hx14 hx15 hx16 hx17 hx18 hx19 hx20 hx21 hx22 hx23 v0 v1 v2 w
      · cases v3 : vdV x12 x13 x14 x15 x16 x17
        · exact rvalidA_tttf x0 x1 x2 x3 x4 x5 x6 x7 x8 x9 x10 x11 x12 x13 x14 x15 x16 x17 x18 x19 x20 x21 x22 x23 hx0 hx1 hx2 hx3 hx4 hx5 hx6 hx7 hx8 hx9 hx10 hx11 hx12 hx13 hx14 hx15 hx16 hx17 hx18 hx19 hx20 hx21 hx22 hx23 v0 v1 v2 v3 w
        · exact rvalidA_tttt x0 x1 x2 x3 x4 x5 x6 x7 x8 x9 x10 x11 x12 x13 x14 x15 x16 x17 x18 x19 x20 x21 x22 x23 hx0 hx1 hx2 hx3 hx4 hx5 hx6 hx7 hx8 hx9 hx10 hx11 hx12 hx13 hx14 hx15 hx16 hx17 hx18 hx19 hx20 hx21 hx22 hx23 v0 v1 v2 v3 w
theorem af_of {x0 x1 x2 x3 x4 x5 x6 x7 x8 x9 x10 x11 x12 x13 x14 x15 x16 x17 x18 x19 x20 x21 x22 x23 : Nat} (hx0 : x0 < 18446744073709551616) (hx1 : x1 < 18446744073709551616) (hx2 : x2 < 18446744073709551616) (hx3 : x3 < 18446744073709551616) (hx4 : x4 < 18446744073709551616) (hx5 : x5 < 18446744073709551616) (hx6 : x6 < 18446744073709551616) (hx7 : x7 < 18446744073709551616) (hx8 : x8 < 18446744073709551616) (hx9 : x9 < 18446744073709551616) (hx10 : x10 < 18446744073709551616) (hx11 : x11 < 18446744073709551616) (hx12 : x12 < 18446744073709551616) (hx13 : x13 < 18446744073709551616) (hx14 : x14 < 18446744073709551616) (hx15 : x15 < 18446744073709551616) (hx16 : x16 < 18446744073709551616) (hx17 : x17 < 18446744073709551616) (hx18 : x18 < 18446744073709551616) (hx19 : x19 < 18446744073709551616) (hx20 : x20 < 18446744073709551616) (hx21 : x21 < 18446744073709551616) (hx22 : x22 < 18446744073709551616) (hx23 : x23 < 18446744073709551616) (h : vdA x0 x1 x2 x3 x4 x5 x6 x7 x8 x9 x10 x11 x12 x13 x14 x15 x16 x17 x18 x19 x20 x21 x22 x23 = true) : ∃ m : Af, m.a.x.lo = x0 ∧ m.a.x.hi = x1 ∧ m.a.y.lo = x2 ∧ m.a.y.hi = x3 ∧ m.a.z.lo = x4 ∧ m.a.z.hi = x5 ∧ m.b.x.lo = x6 ∧ m.b.x.hi = x7 ∧ m.b.y.lo = x8 ∧ m.b.y.hi = x9 ∧ m.b.z.lo = x10 ∧ m.b.z.hi = x11 ∧ m.c.x.lo = x12 ∧ m.c.x.hi = x13 ∧ m.c.y.lo = x14 ∧ m.c.y.hi = x15 ∧ m.c.z.lo = x16 ∧ m.c.z.hi = x17 ∧ m.t.x.lo = x18 ∧ m.t.x.hi = x19 ∧ m.t.y.lo = x20 ∧ m.t.y.hi = x21 ∧ m.t.z.lo = x22 ∧ m.t.z.hi = x23 := by
  unfold vdA at h
  have ⟨⟨⟨h1, h2⟩, h3⟩, h4⟩ : ((vdV x18 x19 x20 x21 x22 x23 = true ∧ vdV x0 x1 x2 x3 x4 x5 = true) ∧ vdV x6 x7 x8 x9 x10 x11 = true) ∧ vdV x12 x13 x14 x15 x16 x17 = true := by simpa using h
  obtain ⟨t, t0, t1, t2, t3, t4, t5⟩ := v3_of hx18 hx19 hx20 hx21 hx22 hx23 h1
  obtain ⟨a, a0, a1, a2, a3, a4, a5⟩ := v3_of hx0 hx1 hx2 hx3 hx4 hx5 h2
  obtain ⟨b, b0, b1, b2, b3, b4, b5⟩ := v3_of hx6 hx7 hx8 hx9 hx10 hx11 h3
  obtain ⟨c, c0, c1, c2, c3, c4, c5⟩ := v3_of hx12 hx13 hx14 hx15 hx16 hx17 h4
  exact ⟨⟨a, b, c, t⟩, a0, a1, a2, a3, a4, a5, b0, b1, b2, b3, b4, b5, c0, c1, c2, c3, c4, c5, t0, t1, t2, t3, t4, t5⟩
theorem rvalidA_a (m : Af) (w : World) : Calls Try.prog 14 #[aval m] w fun r w' => r = .returned (.bool true) ∧ Below w.heap.size w w' :=
  rvalidA_tttt _ _ _ _ _ _ _ _ _ _ _ _ _ _ _ _ _ _ _ _ _ _ _ _ m.a.x.vd.l.lt m.a.x.vd.h.lt m.a.y.vd.l.lt m.a.y.vd.h.lt m.a.z.vd.l.lt m.a.z.vd.h.lt m.b.x.vd.l.lt m.b.x.vd.h.lt m.b.y.vd.l.lt m.b.y.vd.h.lt m.b.z.vd.l.lt m.b.z.vd.h.lt m.c.x.vd.l.lt m.c.x.vd.h.lt m.c.y.vd.l.lt m.c.y.vd.h.lt m.c.z.vd.l.lt m.c.z.vd.h.lt m.t.x.vd.l.lt m.t.x.vd.h.lt m.t.y.vd.l.lt m.t.y.vd.h.lt m.t.z.vd.l.lt m.t.z.vd.h.lt (by unfold vdV; rw [vdB_of m.t.x.vd, vdB_of m.t.y.vd, vdB_of m.t.z.vd]; rfl) (by unfold vdV; rw [vdB_of m.a.x.vd, vdB_of m.a.y.vd, vdB_of m.a.z.vd]; rfl) (by unfold vdV; rw [vdB_of m.b.x.vd, vdB_of m.b.y.vd, vdB_of m.b.z.vd]; rfl) (by unfold vdV; rw [vdB_of m.c.x.vd, vdB_of m.c.y.vd, vdB_of m.c.z.vd]; rfl) w
set_option maxRecDepth 100000 in
set_option maxHeartbeats 8000000 in
theorem requalA_self (m : Af) (w : World) : Calls Try.prog 24 #[Value.agg #[.float .f64 m.a.x.lo, .float .f64 m.a.x.hi, .float .f64 m.a.y.lo, .float .f64 m.a.y.hi, .float .f64 m.a.z.lo, .float .f64 m.a.z.hi, .float .f64 m.b.x.lo, .float .f64 m.b.x.hi, .float .f64 m.b.y.lo, .float .f64 m.b.y.hi, .float .f64 m.b.z.lo, .float .f64 m.b.z.hi, .float .f64 m.c.x.lo, .float .f64 m.c.x.hi, .float .f64 m.c.y.lo, .float .f64 m.c.y.hi, .float .f64 m.c.z.lo, .float .f64 m.c.z.hi, .float .f64 m.t.x.lo, .float .f64 m.t.x.hi, .float .f64 m.t.y.lo, .float .f64 m.t.y.hi, .float .f64 m.t.z.lo, .float .f64 m.t.z.hi], Value.agg #[.float .f64 m.a.x.lo, .float .f64 m.a.x.hi, .float .f64 m.a.y.lo, .float .f64 m.a.y.hi, .float .f64 m.a.z.lo, .float .f64 m.a.z.hi, .float .f64 m.b.x.lo, .float .f64 m.b.x.hi, .float .f64 m.b.y.lo, .float .f64 m.b.y.hi, .float .f64 m.b.z.lo, .float .f64 m.b.z.hi, .float .f64 m.c.x.lo, .float .f64 m.c.x.hi, .float .f64 m.c.y.lo, .float .f64 m.c.y.hi, .float .f64 m.c.z.lo, .float .f64 m.c.z.hi, .float .f64 m.t.x.lo, .float .f64 m.t.x.hi, .float .f64 m.t.y.lo, .float .f64 m.t.y.hi, .float .f64 m.t.z.lo, .float .f64 m.t.z.hi]] w fun r w' => r = .returned (.bool true) ∧ Below w.heap.size w w' := by
  have C0 := Lib.hid (fun w => rsameV_self m.t w)
  have C1 := Lib.hid (fun w => rsameV_self m.a w)
  have C2 := Lib.hid (fun w => rsameV_self m.b w)
  have C3 := Lib.hid (fun w => rsameV_self m.c w)
  go_enter Try.func24, Try.ntmps24
  go_wp2_with fail
  obtain ⟨W, hW, K0, K1, hB, hz⟩ := bx2 w 29 29 (ac m) (ac m)
  rw [← hW]
  have K0 := Lib.hid K0
  have K1 := Lib.hid K1
  have HB := Lib.hid hB
  clear hW hB hz
  have D1 := dr W
  refine (C0.out _).mono ?_
  rintro r w2 ⟨rfl, hb⟩
  have D3 := ds D1 hb
  clear D1
  clear hb
  have hq4 := (kb K0 D3).cellsL 0 (vl m.a) rfl
  dsimp only [CellsL, al, vl, Nat.reduceAdd] at hq4
  have hq5 := (kb K1 D3).cellsL 0 (vl m.a) rfl
  dsimp only [CellsL, al, vl, Nat.reduceAdd] at hq5
  go_wp2_with fail
  clear hq4 hq5
  refine (C1.out _).mono ?_
  rintro r w6 ⟨rfl, hb⟩
  have D7 := ds D3 hb
  clear D3
  clear hb
  have hq8 := (kb K0 D7).cellsL 6 (vl m.b) rfl
  dsimp only [CellsL, al, vl, Nat.reduceAdd] at hq8
  have hq9 := (kb K1 D7).cellsL 6 (vl m.b) rfl
  dsimp only [CellsL, al, vl, Nat.reduceAdd] at hq9
  go_wp2_with fail
  clear hq8 hq9
  refine (C2.out _).mono ?_
  rintro r w10 ⟨rfl, hb⟩
  have D11 := ds D7 hb
  clear D7
  clear hb
  have hq12 := (kb K0 D11).cellsL 12 (vl m.c) rfl
  dsimp only [CellsL, al, vl, Nat.reduceAdd] at hq12
  have hq13 := (kb K1 D11).cellsL 12 (vl m.c) rfl
  dsimp only [CellsL, al, vl, Nat.reduceAdd] at hq13
  go_wp2_with fail
  clear hq12 hq13
  refine (C3.out _).mono ?_
  rintro r w14 ⟨rfl, hb⟩
  have D15 := ds D11 hb
  clear D11
  clear hb
  go_wp2_with fail
  go_ret
  exact ⟨rfl, below_step HB.out D15.out⟩
set_option maxRecDepth 100000 in
set_option maxHeartbeats 8000000 in
theorem rwideV_t (v : V3) (v0 : v.x.wide = true) (w : World) : Calls Try.prog 21 #[Value.agg #[.float .f64 v.x.lo, .float .f64 v.x.hi, .float .f64 v.y.lo, .float .f64 v.y.hi, .float .f64 v.z.lo, .float .f64 v.z.hi]] w fun r w' => r = .returned (.bool true) ∧ Below w.heap.size w w' := by
  have C0 := Lib.hid (fun w => rwide_sp v.x w)
  rw [v0] at C0
  go_enter Try.func21, Try.ntmps21
  go_wp2_with fail
  obtain ⟨W, hW, K0, hB, hz⟩ := bx1 w 26 (vc v)
  rw [← hW]
  have K0 := Lib.hid K0
  have HB := Lib.hid hB
  clear hW hB hz
  have D1 := dr W
  refine (C0.out _).mono ?_
  rintro r w2 ⟨rfl, hb⟩
  have D3 := ds D1 hb
  clear D1
  clear hb
  go_wp2_with fail
  go_ret
  exact ⟨rfl, below_step HB.out D3.out⟩
set_option maxRecDepth 100000 in
set_option maxHeartbeats 8000000 in
theorem rwideV_ft (v : V3) (v0 : v.x.wide = false) (v1 : v.y.wide = true) (w : World) : Calls Try.prog 21 #[Value.agg #[.float .f64 v.x.lo, .float .f64 v.x.hi, .float .f64 v.y.lo, .float .f64 v.y.hi, .float .f64 v.z.lo, .float .f64 v.z.hi]] w fun r w' => r = .returned (.bool true) ∧ Below w.heap.size w w' := by
  have C0 := Lib.hid (fun w => rwide_sp v.x w)
  rw [v0] at C0
  have C1 := Lib.hid (fun w => rwide_sp v.y w)
  rw [v1] at C1
  go_enter Try.func21, Try.ntmps21
  go_wp2_with fail
  obtain ⟨W, hW, K0, hB, hz⟩ := bx1 w 26 (vc v)
  rw [← hW]
  have K0 := Lib.hid K0
  have HB := Lib.hid hB
  clear hW hB hz
  have D1 := dr W
  refine (C0.out _).mono ?_
  rintro r w2 ⟨rfl, hb⟩
  have D3 := ds D1 hb
  clear D1
  clear hb
  have hq4 := (kb K0 D3).cellsL 2 [.float .f64 v.y.lo, .float .f64 v.y.hi] rfl
  dsimp only [CellsL, al, vl, Nat.reduceAdd] at hq4
  go_wp2_with fail
  clear hq4
  refine (C1.out _).mono ?_
  rintro r w5 ⟨rfl, hb⟩
  have D6 := ds D3 hb
  clear D3
  clear hb
  go_wp2_with fail
  go_ret
  exact ⟨rfl, below_step HB.out D6.out⟩
set_option maxRecDepth 100000 in
set_option maxHeartbeats 8000000 in
theorem rwideV_fft (v : V3) (v0 : v.x.wide = false) (v1 : v.y.wide = false) (v2 : v.z.wide = true) (w : World) : Calls Try.prog 21 #[Value.agg #[.float .f64 v.x.lo, .float .f64 v.x.hi, .float .f64 v.y.lo, .float .f64 v.y.hi, .float .f64 v.z.lo, .float .f64 v.z.hi]] w fun r w' => r = .returned (.bool true) ∧ Below w.heap.size w w' := by
  have C0 := Lib.hid (fun w => rwide_sp v.x w)
  rw [v0] at C0
  have C1 := Lib.hid (fun w => rwide_sp v.y w)
  rw [v1] at C1
  have C2 := Lib.hid (fun w => rwide_sp v.z w)
  rw [v2] at C2
  go_enter Try.func21, Try.ntmps21
  go_wp2_with fail
  obtain ⟨W, hW, K0, hB, hz⟩ := bx1 w 26 (vc v)
  rw [← hW]
  have K0 := Lib.hid K0
  have HB := Lib.hid hB
  clear hW hB hz
  have D1 := dr W
  refine (C0.out _).mono ?_
  rintro r w2 ⟨rfl, hb⟩
  have D3 := ds D1 hb
  clear D1
  clear hb
  have hq4 := (kb K0 D3).cellsL 2 [.float .f64 v.y.lo, .float .f64 v.y.hi] rfl
  dsimp only [CellsL, al, vl, Nat.reduceAdd] at hq4
  go_wp2_with fail
  clear hq4
  refine (C1.out _).mono ?_
  rintro r w5 ⟨rfl, hb⟩
  have D6 := ds D3 hb
  clear D3
  clear hb
  have hq7 := (kb K0 D6).cellsL 4 [.float .f64 v.z.lo, .float .f64 v.z.hi] rfl
  dsimp only [CellsL, al, vl, Nat.reduceAdd] at hq7
  go_wp2_with fail
  clear hq7
  refine (C2.out _).mono ?_
  rintro r w8 ⟨rfl, hb⟩
  have D9 := ds D6 hb
  clear D6
  clear hb
  go_wp2_with fail
  go_ret
  exact ⟨rfl, below_step HB.out D9.out⟩
set_option maxRecDepth 100000 in
set_option maxHeartbeats 8000000 in
theorem rwideV_fff (v : V3) (v0 : v.x.wide = false) (v1 : v.y.wide = false) (v2 : v.z.wide = false) (w : World) : Calls Try.prog 21 #[Value.agg #[.float .f64 v.x.lo, .float .f64 v.x.hi, .float .f64 v.y.lo, .float .f64 v.y.hi, .float .f64 v.z.lo, .float .f64 v.z.hi]] w fun r w' => r = .returned (.bool false) ∧ Below w.heap.size w w' := by
  have C0 := Lib.hid (fun w => rwide_sp v.x w)
  rw [v0] at C0
  have C1 := Lib.hid (fun w => rwide_sp v.y w)
  rw [v1] at C1
  have C2 := Lib.hid (fun w => rwide_sp v.z w)
  rw [v2] at C2
  go_enter Try.func21, Try.ntmps21
  go_wp2_with fail
  obtain ⟨W, hW, K0, hB, hz⟩ := bx1 w 26 (vc v)
  rw [← hW]
  have K0 := Lib.hid K0
  have HB := Lib.hid hB
  clear hW hB hz
  have D1 := dr W
  refine (C0.out _).mono ?_
  rintro r w2 ⟨rfl, hb⟩
  have D3 := ds D1 hb
  clear D1
  clear hb
  have hq4 := (kb K0 D3).cellsL 2 [.float .f64 v.y.lo, .float .f64 v.y.hi] rfl
  dsimp only [CellsL, al, vl, Nat.reduceAdd] at hq4
  go_wp2_with fail
  clear hq4
  refine (C1.out _).mono ?_
  rintro r w5 ⟨rfl, hb⟩
  have D6 := ds D3 hb
  clear D3
  clear hb
  have hq7 := (kb K0 D6).cellsL 4 [.float .f64 v.z.lo, .float .f64 v.z.hi] rfl
  dsimp only [CellsL, al, vl, Nat.reduceAdd] at hq7
  go_wp2_with fail
  clear hq7
  refine (C2.out _).mono ?_
  rintro r w8 ⟨rfl, hb⟩
  have D9 := ds D6 hb
  clear D6
  clear hb
  go_wp2_with fail
  go_ret
  exact ⟨rfl, below_step HB.out D9.out⟩
theorem rwideV_any (v : V3) (w : World) : Calls Try.prog 21 #[vval v] w fun r w' => r = .returned (.bool v.wide) ∧ Below w.heap.size w w' := by
  unfold V3.wide
  cases v0 : v.x.wide
  · cases v1 : v.y.wide
    · cases v2 : v.z.wide
      · exact rwideV_fff v v0 v1 v2 w
      · exact rwideV_fft v v0 v1 v2 w
    · exact rwideV_ft v v0 v1 w
  · exact rwideV_t v v0 w
def nmB (p q r : Nat) : Bool := vdB p p && vdB q q && vdB r r
set_option maxRecDepth 100000 in
set_option maxHeartbeats 8000000 in
theorem rnumbers_f (p q r : Nat) (hp : p < 18446744073709551616) (hq : q < 18446744073709551616) (hr : r < 18446744073709551616) (v0 : vdB p p = false) (w : World) : Calls Try.prog 20 #[Value.agg #[.float .f64 p, .float .f64 q, .float .f64 r]] w fun r w' => r = .returned (.bool false) ∧ Below w.heap.size w w' := by
  have C0 := Lib.hid (fun w => rvalid_any p p hp hp w)
  rw [v0] at C0
  go_enter Try.func20, Try.ntmps20
  go_wp2_with fail
  obtain ⟨W, hW, K0, hB, hz⟩ := bx1 w 38 #[.float .f64 p, .float .f64 q, .float .f64 r]
  rw [← hW]
  have K0 := Lib.hid K0
  have HB := Lib.hid hB
  clear hW hB hz
  have D1 := dr W
  go_wp2_with fail
  refine wp_loop_rounds 1 ?_
  rw [rounds_succ]
  go_wp2_with fail
  refine wp_region_held (S := (fun w' => True ∧ CellsL w' (w.heap.size) 0 [.float .f64 p])) (by kernel_rfl) ?_
  change wpAnyH _ _ _ _ _ _ _ _ (World.drew _)
  obtain ⟨wd2, hwd⟩ : ∃ x, x = World.drew W := ⟨_, rfl⟩
  rw [← hwd]
  have D3 := Lib.hid (hwd ▸ Below.drew D1.out : Below W.heap.size W wd2)
  clear D1 hwd
  have hS4 : True ∧ CellsL wd2 (w.heap.size) 0 [.float .f64 p] := ⟨trivial, (kb K0 D3).cellsL 0 [.float .f64 p] rfl⟩
  refine tk 0 (bm 9 1) ?vq5 ?aq5 rfl (by kernel_rfl) (fun _ _ _ h => h) (by kernel_rfl) ?hq5 ?pq5 hS4 ?rq5
  case hq5 => (intro w hS; go_simp; try with_reducible rfl)
  case pq5 => (go_simp; try with_reducible rfl)
  refine tk 1 (bm 9 3) ?vq6 ?aq6 rfl (by kernel_rfl) (fun _ _ _ h => h) (by kernel_rfl) ?hq6 ?pq6 hS4 ?rq6
  case hq6 => (intro w hS; go_simp; try with_reducible rfl)
  case pq6 => (go_simp; try with_reducible rfl)
  refine tk 2 (bm 9 7) ?vq7 ?aq7 rfl (by kernel_rfl) (fun _ _ _ h => h) (by kernel_rfl) ?hq7 ?pq7 hS4 ?rq7
  case hq7 => (intro w hS; dsimp only [CellsL, al, vl, Nat.reduceAdd] at hS; go_simp; try with_reducible rfl)
  case pq7 => (go_simp; try with_reducible rfl)
  refine tk 3 (bm 9 15) ?vq8 ?aq8 rfl (by kernel_rfl) (fun _ _ _ h => h) (by kernel_rfl) ?hq8 ?pq8 hS4 ?rq8
  case hq8 => (intro w hS; go_simp; try with_reducible rfl)
  case pq8 => (go_simp; try with_reducible rfl)
  refine tk 4 (bm 9 31) ?vq9 ?aq9 rfl (by kernel_rfl) (fun _ _ _ h => h) (by kernel_rfl) ?hq9 ?pq9 hS4 ?rq9
  case hq9 => (intro w hS; go_simp; try with_reducible rfl)
  case pq9 => (go_simp; try with_reducible rfl)
  refine tk 5 (bm 9 63) ?vq10 ?aq10 rfl (by kernel_rfl) (fun _ _ _ h => h) (by kernel_rfl) ?hq10 ?pq10 hS4 ?rq10
  case hq10 => (intro w hS; dsimp only [CellsL, al, vl, Nat.reduceAdd] at hS; go_simp; try with_reducible rfl)
  case pq10 => (go_simp; try with_reducible rfl)
  refine tk 6 (bm 9 127) ?vq11 ?aq11 rfl (by kernel_rfl) (fun _ _ _ h => h) (by kernel_rfl) ?hq11 ?pq11 hS4 ?rq11
  case hq11 => (intro w hS; go_simp; try with_reducible rfl)
  case pq11 => (go_simp; try with_reducible rfl)
  refine wpAnyH_oneN (i := 7) (l' := bm 9 255) rfl (by kernel_rfl) (by kernel_rfl) (by kernel_rfl) (fun K hK => ?_)
  go_simp
  go_at_call 65
  refine (C0.out _).mono ?_
  rintro r w12 ⟨rfl, hb⟩
  dsimp only
  have D13 := ds D3 hb
  clear D3
  clear hb
  have hS14 : True ∧ CellsL w12 (w.heap.size) 0 [.float .f64 p] := ⟨trivial, (kb K0 D13).cellsL 0 [.float .f64 p] rfl⟩
  refine hK _ _ hS14 ?_
  clear hK K hS4
  refine tk 8 (bm 9 511) ?vq15 ?aq15 rfl (by kernel_rfl) (fun _ _ _ h => h) (by kernel_rfl) ?hq15 ?pq15 hS14 ?rq15
  case hq15 => (intro w hS; go_simp; try with_reducible rfl)
  case pq15 => (go_simp; try with_reducible rfl)
  refine wpAnyH_done (by kernel_rfl) ?_ _
  clear hS14
  go_wp2_with fail
  go_ret
  exact ⟨rfl, below_step HB.out D13.out⟩
set_option maxRecDepth 100000 in
set_option maxHeartbeats 8000000 in
theorem rnumbers_tf (p q r : Nat) (hp : p < 18446744073709551616) (hq : q < 18446744073709551616) (hr : r < 18446744073709551616) (v0 : vdB p p = true) (v1 : vdB q q = false) (w : World) : Calls Try.prog 20 #[Value.agg #[.float .f64 p, .float .f64 q, .float .f64 r]] w fun r w' => r = .returned (.bool false) ∧ Below w.heap.size w w' := by
  have C0 := Lib.hid (fun w => rvalid_any p p hp hp w)
  rw [v0] at C0
  have C1 := Lib.hid (fun w => rvalid_any q q hq hq w)
  rw [v1] at C1
  go_enter Try.func20, Try.ntmps20
  go_wp2_with fail
  obtain ⟨W, hW, K0, hB, hz⟩ := bx1 w 38 #[.float .f64 p, .float .f64 q, .float .f64 r]
  rw [← hW]
  have K0 := Lib.hid K0
  have HB := Lib.hid hB
  clear hW hB hz
  have D1 := dr W
  go_wp2_with fail
  refine wp_loop_rounds 2 ?_
  rw [rounds_succ]
  go_wp2_with fail
  refine wp_region_held (S := (fun w' => True ∧ CellsL w' (w.heap.size) 0 [.float .f64 p])) (by kernel_rfl) ?_
  change wpAnyH _ _ _ _ _ _ _ _ (World.drew _)
  obtain ⟨wd2, hwd⟩ : ∃ x, x = World.drew W := ⟨_, rfl⟩
  rw [← hwd]
  have D3 := Lib.hid (hwd ▸ Below.drew D1.out : Below W.heap.size W wd2)
  clear D1 hwd
  have hS4 : True ∧ CellsL wd2 (w.heap.size) 0 [.float .f64 p] := ⟨trivial, (kb K0 D3).cellsL 0 [.float .f64 p] rfl⟩
  refine tk 0 (bm 9 1) ?vq5 ?aq5 rfl (by kernel_rfl) (fun _ _ _ h => h) (by kernel_rfl) ?hq5 ?pq5 hS4 ?rq5
  case hq5 => (intro w hS; go_simp; try with_reducible rfl)
  case pq5 => (go_simp; try with_reducible rfl)
  refine tk 1 (bm 9 3) ?vq6 ?aq6 rfl (by kernel_rfl) (fun _ _ _ h => h) (by kernel_rfl) ?hq6 ?pq6 hS4 ?rq6
  case hq6 => (intro w hS; go_simp; try with_reducible rfl)
  case pq6 => (go_simp; try with_reducible rfl)
  refine tk 2 (bm 9 7) ?vq7 ?aq7 rfl (by kernel_rfl) (fun _ _ _ h => h) (by kernel_rfl) ?hq7 ?pq7 hS4 ?rq7
  case hq7 => (intro w hS; dsimp only [CellsL, al, vl, Nat.reduceAdd] at hS; go_simp; try with_reducible rfl)
  case pq7 => (go_simp; try with_reducible rfl)
  refine tk 3 (bm 9 15) ?vq8 ?aq8 rfl (by kernel_rfl) (fun _ _ _ h => h) (by kernel_rfl) ?hq8 ?pq8 hS4 ?rq8
  case hq8 => (intro w hS; go_simp; try with_reducible rfl)
  case pq8 => (go_simp; try with_reducible rfl)
  refine tk 4 (bm 9 31) ?vq9 ?aq9 rfl (by kernel_rfl) (fun _ _ _ h => h) (by kernel_rfl) ?hq9 ?pq9 hS4 ?rq9
  case hq9 => (intro w hS; go_simp; try with_reducible rfl)
  case pq9 => (go_simp; try with_reducible rfl)
  refine tk 5 (bm 9 63) ?vq10 ?aq10 rfl (by kernel_rfl) (fun _ _ _ h => h) (by kernel_rfl) ?hq10 ?pq10 hS4 ?rq10
  case hq10 => (intro w hS; dsimp only [CellsL, al, vl, Nat.reduceAdd] at hS; go_simp; try with_reducible rfl)
  case pq10 => (go_simp; try with_reducible rfl)
  refine tk 6 (bm 9 127) ?vq11 ?aq11 rfl (by kernel_rfl) (fun _ _ _ h => h) (by kernel_rfl) ?hq11 ?pq11 hS4 ?rq11
  case hq11 => (intro w hS; go_simp; try with_reducible rfl)
  case pq11 => (go_simp; try with_reducible rfl)
  refine wpAnyH_oneN (i := 7) (l' := bm 9 255) rfl (by kernel_rfl) (by kernel_rfl) (by kernel_rfl) (fun K hK => ?_)
  go_simp
  go_at_call 65
  refine (C0.out _).mono ?_
  rintro r w12 ⟨rfl, hb⟩
  dsimp only
  have D13 := ds D3 hb
  clear D3
  clear hb
  have hS14 : True ∧ CellsL w12 (w.heap.size) 0 [.float .f64 p] := ⟨trivial, (kb K0 D13).cellsL 0 [.float .f64 p] rfl⟩
  refine hK _ _ hS14 ?_
  clear hK K hS4
  refine tk 8 (bm 9 511) ?vq15 ?aq15 rfl (by kernel_rfl) (fun _ _ _ h => h) (by kernel_rfl) ?hq15 ?pq15 hS14 ?rq15
  case hq15 => (intro w hS; go_simp; try with_reducible rfl)
  case pq15 => (go_simp; try with_reducible rfl)
  refine wpAnyH_done (by kernel_rfl) ?_ _
  clear hS14
  go_wp2_with fail
  rw [rounds_succ]
  go_wp2_with fail
  refine wp_region_held (S := (fun w' => True ∧ CellsL w' (w.heap.size) 1 [.float .f64 q])) (by kernel_rfl) ?_
  change wpAnyH _ _ _ _ _ _ _ _ (World.drew _)
  obtain ⟨wd16, hwd⟩ : ∃ x, x = World.drew w12 := ⟨_, rfl⟩
  rw [← hwd]
  have D17 := Lib.hid (hwd ▸ Below.drew D13.out : Below W.heap.size W wd16)
  clear D13 hwd
  have hS18 : True ∧ CellsL wd16 (w.heap.size) 1 [.float .f64 q] := ⟨trivial, (kb K0 D17).cellsL 1 [.float .f64 q] rfl⟩
  refine tk 0 (bm 9 1) ?vq19 ?aq19 rfl (by kernel_rfl) (fun _ _ _ h => h) (by kernel_rfl) ?hq19 ?pq19 hS18 ?rq19
  case hq19 => (intro w hS; go_simp; try with_reducible rfl)
  case pq19 => (go_simp; try with_reducible rfl)
  refine tk 1 (bm 9 3) ?vq20 ?aq20 rfl (by kernel_rfl) (fun _ _ _ h => h) (by kernel_rfl) ?hq20 ?pq20 hS18 ?rq20
  case hq20 => (intro w hS; go_simp; try with_reducible rfl)
  case pq20 => (go_simp; try with_reducible rfl)
  refine tk 2 (bm 9 7) ?vq21 ?aq21 rfl (by kernel_rfl) (fun _ _ _ h => h) (by kernel_rfl) ?hq21 ?pq21 hS18 ?rq21
  case hq21 => (intro w hS; dsimp only [CellsL, al, vl, Nat.reduceAdd] at hS; go_simp; try with_reducible rfl)
  case pq21 => (go_simp; try with_reducible rfl)
  refine tk 3 (bm 9 15) ?vq22 ?aq22 rfl (by kernel_rfl) (fun _ _ _ h => h) (by kernel_rfl) ?hq22 ?pq22 hS18 ?rq22
  case hq22 => (intro w hS; go_simp; try with_reducible rfl)
  case pq22 => (go_simp; try with_reducible rfl)
  refine tk 4 (bm 9 31) ?vq23 ?aq23 rfl (by kernel_rfl) (fun _ _ _ h => h) (by kernel_rfl) ?hq23 ?pq23 hS18 ?rq23
  case hq23 => (intro w hS; go_simp; try with_reducible rfl)
  case pq23 => (go_simp; try with_reducible rfl)
  refine tk 5 (bm 9 63) ?vq24 ?aq24 rfl (by kernel_rfl) (fun _ _ _ h => h) (by kernel_rfl) ?hq24 ?pq24 hS18 ?rq24
  case hq24 => (intro w hS; dsimp only [CellsL, al, vl, Nat.reduceAdd] at hS; go_simp; try with_reducible rfl)
  case pq24 => (go_simp; try with_reducible rfl)
  refine tk 6 (bm 9 127) ?vq25 ?aq25 rfl (by kernel_rfl) (fun _ _ _ h => h) (by kernel_rfl) ?hq25 ?pq25 hS18 ?rq25
  case hq25 => (intro w hS; go_simp; try with_reducible rfl)
  case pq25 => (go_simp; try with_reducible rfl)
  refine wpAnyH_oneN (i := 7) (l' := bm 9 255) rfl (by kernel_rfl) (by kernel_rfl) (by kernel_rfl) (fun K hK => ?_)
  go_simp
  go_at_call 65
  refine (C1.out _).mono ?_
  rintro r w26 ⟨rfl, hb⟩
  dsimp only
  have D27 := ds D17 hb
  clear D17
  clear hb
  have hS28 : True ∧ CellsL w26 (w.heap.size) 1 [.float .f64 q] := ⟨trivial, (kb K0 D27).cellsL 1 [.float .f64 q] rfl⟩
  refine hK _ _ hS28 ?_
  clear hK K hS18
  refine tk 8 (bm 9 511) ?vq29 ?aq29 rfl (by kernel_rfl) (fun _ _ _ h => h) (by kernel_rfl) ?hq29 ?pq29 hS28 ?rq29
  case hq29 => (intro w hS; go_simp; try with_reducible rfl)
  case pq29 => (go_simp; try with_reducible rfl)
  refine wpAnyH_done (by kernel_rfl) ?_ _
  clear hS28
  go_wp2_with fail
  go_ret
  exact ⟨rfl, below_step HB.out D27.out⟩
set_option maxRecDepth 100000 in
set_option maxHeartbeats 8000000 in
theorem rnumbers_ttf (p q r : Nat) (hp : p < 18446744073709551616) (hq : q < 18446744073709551616) (hr : r < 18446744073709551616) (v0 : vdB p p = true) (v1 : vdB q q = true) (v2 : vdB r r = false) (w : World) : Calls Try.prog 20 #[Value.agg #[.float .f64 p, .float .f64 q, .float .f64 r]] w fun r w' => r = .returned (.bool false) ∧ Below w.heap.size w w' := by
  have C0 := Lib.hid (fun w => rvalid_any p p hp hp w)
  rw [v0] at C0
  have C1 := Lib.hid (fun w => rvalid_any q q hq hq w)
  rw [v1] at C1
  have C2 := Lib.hid (fun w => rvalid_any r r hr hr w)
  rw [v2] at C2
  go_enter Try.func20, Try.ntmps20
  go_wp2_with fail
  obtain ⟨W, hW, K0, hB, hz⟩ := bx1 w 38 #[.float .f64 p, .float .f64 q, .float .f64 r]
  rw [← hW]
  have K0 := Lib.hid K0
  have HB := Lib.hid hB
  clear hW hB hz
  have D1 := dr W
  go_wp2_with fail
  refine wp_loop_rounds 3 ?_
  rw [rounds_succ]
  go_wp2_with fail
  refine wp_region_held (S := (fun w' => True ∧ CellsL w' (w.heap.size) 0 [.float .f64 p])) (by kernel_rfl) ?_
  change wpAnyH _ _ _ _ _ _ _ _ (World.drew _)
  obtain ⟨wd2, hwd⟩ : ∃ x, x = World.drew W := ⟨_, rfl⟩
  rw [← hwd]
  have D3 := Lib.hid (hwd ▸ Below.drew D1.out : Below W.heap.size W wd2)
  clear D1 hwd
  have hS4 : True ∧ CellsL wd2 (w.heap.size) 0 [.float .f64 p] := ⟨trivial, (kb K0 D3).cellsL 0 [.float .f64 p] rfl⟩
  refine tk 0 (bm 9 1) ?vq5 ?aq5 rfl (by kernel_rfl) (fun _ _ _ h => h) (by kernel_rfl) ?hq5 ?pq5 hS4 ?rq5
  case hq5 => (intro w hS; go_simp; try with_reducible rfl)
  case pq5 => (go_simp; try with_reducible rfl)
  refine tk 1 (bm 9 3) ?vq6 ?aq6 rfl (by kernel_rfl) (fun _ _ _ h => h) (by kernel_rfl) ?hq6 ?pq6 hS4 ?rq6
  case hq6 => (intro w hS; go_simp; try with_reducible rfl)
  case pq6 => (go_simp; try with_reducible rfl)
  refine tk 2 (bm 9 7) ?vq7 ?aq7 rfl (by kernel_rfl) (fun _ _ _ h => h) (by kernel_rfl) ?hq7 ?pq7 hS4 ?rq7
  case hq7 => (intro w hS; dsimp only [CellsL, al, vl, Nat.reduceAdd] at hS; go_simp; try with_reducible rfl)
  case pq7 => (go_simp; try with_reducible rfl)
  refine tk 3 (bm 9 15) ?vq8 ?aq8 rfl (by kernel_rfl) (fun _ _ _ h => h) (by kernel_rfl) ?hq8 ?pq8 hS4 ?rq8
  case hq8 => (intro w hS; go_simp; try with_reducible rfl)
  case pq8 => (go_simp; try with_reducible rfl)
  refine tk 4 (bm 9 31) ?vq9 ?aq9 rfl (by kernel_rfl) (fun _ _ _ h => h) (by kernel_rfl) ?hq9 ?pq9 hS4 ?rq9
  case hq9 => (intro w hS; go_simp; try with_reducible rfl)
  case pq9 => (go_simp; try with_reducible rfl)
  refine tk 5 (bm 9 63) ?vq10 ?aq10 rfl (by kernel_rfl) (fun _ _ _ h => h) (by kernel_rfl) ?hq10 ?pq10 hS4 ?rq10
  case hq10 => (intro w hS; dsimp only [CellsL, al, vl, Nat.reduceAdd] at hS; go_simp; try with_reducible rfl)
  case pq10 => (go_simp; try with_reducible rfl)
  refine tk 6 (bm 9 127) ?vq11 ?aq11 rfl (by kernel_rfl) (fun _ _ _ h => h) (by kernel_rfl) ?hq11 ?pq11 hS4 ?rq11
  case hq11 => (intro w hS; go_simp; try with_reducible rfl)
  case pq11 => (go_simp; try with_reducible rfl)
  refine wpAnyH_oneN (i := 7) (l' := bm 9 255) rfl (by kernel_rfl) (by kernel_rfl) (by kernel_rfl) (fun K hK => ?_)
  go_simp
  go_at_call 65
  refine (C0.out _).mono ?_
  rintro r w12 ⟨rfl, hb⟩
  dsimp only
  have D13 := ds D3 hb
  clear D3
  clear hb
  have hS14 : True ∧ CellsL w12 (w.heap.size) 0 [.float .f64 p] := ⟨trivial, (kb K0 D13).cellsL 0 [.float .f64 p] rfl⟩
  refine hK _ _ hS14 ?_
  clear hK K hS4
  refine tk 8 (bm 9 511) ?vq15 ?aq15 rfl (by kernel_rfl) (fun _ _ _ h => h) (by kernel_rfl) ?hq15 ?pq15 hS14 ?rq15
  case hq15 => (intro w hS; go_simp; try with_reducible rfl)
  case pq15 => (go_simp; try with_reducible rfl)
  refine wpAnyH_done (by kernel_rfl) ?_ _
  clear hS14
  go_wp2_with fail
  rw [rounds_succ]
  go_wp2_with fail
  refine wp_region_held (S := (fun w' => True ∧ CellsL w' (w.heap.size) 1 [.float .f64 q])) (by kernel_rfl) ?_
  change wpAnyH _ _ _ _ _ _ _ _ (World.drew _)
  obtain ⟨wd16, hwd⟩ : ∃ x, x = World.drew w12 := ⟨_, rfl⟩
  rw [← hwd]
  have D17 := Lib.hid (hwd ▸ Below.drew D13.out : Below W.heap.size W wd16)
  clear D13 hwd
  have hS18 : True ∧ CellsL wd16 (w.heap.size) 1 [.float .f64 q] := ⟨trivial, (kb K0 D17).cellsL 1 [.float .f64 q] rfl⟩
  refine tk 0 (bm 9 1) ?vq19 ?aq19 rfl (by kernel_rfl) (fun _ _ _ h => h) (by kernel_rfl) ?hq19 ?pq19 hS18 ?rq19
  case hq19 => (intro w hS; go_simp; try with_reducible rfl)
  case pq19 => (go_simp; try with_reducible rfl)
  refine tk 1 (bm 9 3) ?vq20 ?aq20 rfl (by kernel_rfl) (fun _ _ _ h => h) (by kernel_rfl) ?hq20 ?pq20 hS18 ?rq20
  case hq20 => (intro w hS; go_simp; try with_reducible rfl)
  case pq20 => (go_simp; try with_reducible rfl)
  refine tk 2 (bm 9 7) ?vq21 ?aq21 rfl (by kernel_rfl) (fun _ _ _ h => h) (by kernel_rfl) ?hq21 ?pq21 hS18 ?rq21
  case hq21 => (intro w hS; dsimp only [CellsL, al, vl, Nat.reduceAdd] at hS; go_simp; try with_reducible rfl)
  case pq21 => (go_simp; try with_reducible rfl)
  refine tk 3 (bm 9 15) ?vq22 ?aq22 rfl (by kernel_rfl) (fun _ _ _ h => h) (by kernel_rfl) ?hq22 ?pq22 hS18 ?rq22
  case hq22 => (intro w hS; go_simp; try with_reducible rfl)
  case pq22 => (go_simp; try with_reducible rfl)
  refine tk 4 (bm 9 31) ?vq23 ?aq23 rfl (by kernel_rfl) (fun _ _ _ h => h) (by kernel_rfl) ?hq23 ?pq23 hS18 ?rq23
  case hq23 => (intro w hS; go_simp; try with_reducible rfl)
  case pq23 => (go_simp; try with_reducible rfl)
  refine tk 5 (bm 9 63) ?vq24 ?aq24 rfl (by kernel_rfl) (fun _ _ _ h => h) (by kernel_rfl) ?hq24 ?pq24 hS18 ?rq24
  case hq24 => (intro w hS; dsimp only [CellsL, al, vl, Nat.reduceAdd] at hS; go_simp; try with_reducible rfl)
  case pq24 => (go_simp; try with_reducible rfl)
  refine tk 6 (bm 9 127) ?vq25 ?aq25 rfl (by kernel_rfl) (fun _ _ _ h => h) (by kernel_rfl) ?hq25 ?pq25 hS18 ?rq25
  case hq25 => (intro w hS; go_simp; try with_reducible rfl)
  case pq25 => (go_simp; try with_reducible rfl)
  refine wpAnyH_oneN (i := 7) (l' := bm 9 255) rfl (by kernel_rfl) (by kernel_rfl) (by kernel_rfl) (fun K hK => ?_)
  go_simp
  go_at_call 65
  refine (C1.out _).mono ?_
  rintro r w26 ⟨rfl, hb⟩
  dsimp only
  have D27 := ds D17 hb
  clear D17
  clear hb
  have hS28 : True ∧ CellsL w26 (w.heap.size) 1 [.float .f64 q] := ⟨trivial, (kb K0 D27).cellsL 1 [.float .f64 q] rfl⟩
  refine hK _ _ hS28 ?_
  clear hK K hS18
  refine tk 8 (bm 9 511) ?vq29 ?aq29 rfl (by kernel_rfl) (fun _ _ _ h => h) (by kernel_rfl) ?hq29 ?pq29 hS28 ?rq29
  case hq29 => (intro w hS; go_simp; try with_reducible rfl)
  case pq29 => (go_simp; try with_reducible rfl)
  refine wpAnyH_done (by kernel_rfl) ?_ _
  clear hS28
  go_wp2_with fail
  rw [rounds_succ]
  go_wp2_with fail
  refine wp_region_held (S := (fun w' => True ∧ CellsL w' (w.heap.size) 2 [.float .f64 r])) (by kernel_rfl) ?_
  change wpAnyH _ _ _ _ _ _ _ _ (World.drew _)
  obtain ⟨wd30, hwd⟩ : ∃ x, x = World.drew w26 := ⟨_, rfl⟩
  rw [← hwd]
  have D31 := Lib.hid (hwd ▸ Below.drew D27.out : Below W.heap.size W wd30)
  clear D27 hwd
  have hS32 : True ∧ CellsL wd30 (w.heap.size) 2 [.float .f64 r] := ⟨trivial, (kb K0 D31).cellsL 2 [.float .f64 r] rfl⟩
  refine tk 0 (bm 9 1) ?vq33 ?aq33 rfl (by kernel_rfl) (fun _ _ _ h => h) (by kernel_rfl) ?hq33 ?pq33 hS32 ?rq33
  case hq33 => (intro w hS; go_simp; try with_reducible rfl)
  case pq33 => (go_simp; try with_reducible rfl)
  refine tk 1 (bm 9 3) ?vq34 ?aq34 rfl (by kernel_rfl) (fun _ _ _ h => h) (by kernel_rfl) ?hq34 ?pq34 hS32 ?rq34
  case hq34 => (intro w hS; go_simp; try with_reducible rfl)
  case pq34 => (go_simp; try with_reducible rfl)
  refine tk 2 (bm 9 7) ?vq35 ?aq35 rfl (by kernel_rfl) (fun _ _ _ h => h) (by kernel_rfl) ?hq35 ?pq35 hS32 ?rq35
  case hq35 => (intro w hS; dsimp only [CellsL, al, vl, Nat.reduceAdd] at hS; go_simp; try with_reducible rfl)
  case pq35 => (go_simp; try with_reducible rfl)
  refine tk 3 (bm 9 15) ?vq36 ?aq36 rfl (by kernel_rfl) (fun _ _ _ h => h) (by kernel_rfl) ?hq36 ?pq36 hS32 ?rq36
  case hq36 => (intro w hS; go_simp; try with_reducible rfl)
  case pq36 => (go_simp; try with_reducible rfl)
  refine tk 4 (bm 9 31) ?vq37 ?aq37 rfl (by kernel_rfl) (fun _ _ _ h => h) (by kernel_rfl) ?hq37 ?pq37 hS32 ?rq37
  case hq37 => (intro w hS; go_simp; try with_reducible rfl)
  case pq37 => (go_simp; try with_reducible rfl)
  refine tk 5 (bm 9 63) ?vq38 ?aq38 rfl (by kernel_rfl) (fun _ _ _ h => h) (by kernel_rfl) ?hq38 ?pq38 hS32 ?rq38
  case hq38 => (intro w hS; dsimp only [CellsL, al, vl, Nat.reduceAdd] at hS; go_simp; try with_reducible rfl)
  case pq38 => (go_simp; try with_reducible rfl)
  refine tk 6 (bm 9 127) ?vq39 ?aq39 rfl (by kernel_rfl) (fun _ _ _ h => h) (by kernel_rfl) ?hq39 ?pq39 hS32 ?rq39
  case hq39 => (intro w hS; go_simp; try with_reducible rfl)
  case pq39 => (go_simp; try with_reducible rfl)
  refine wpAnyH_oneN (i := 7) (l' := bm 9 255) rfl (by kernel_rfl) (by kernel_rfl) (by kernel_rfl) (fun K hK => ?_)
  go_simp
  go_at_call 65
  refine (C2.out _).mono ?_
  rintro r w40 ⟨rfl, hb⟩
  dsimp only
  have D41 := ds D31 hb
  clear D31
  clear hb
  have hS42 : True ∧ CellsL w40 (w.heap.size) 2 [.float .f64 r] := ⟨trivial, (kb K0 D41).cellsL 2 [.float .f64 r] rfl⟩
  refine hK _ _ hS42 ?_
  clear hK K hS32
  refine tk 8 (bm 9 511) ?vq43 ?aq43 rfl (by kernel_rfl) (fun _ _ _ h => h) (by kernel_rfl) ?hq43 ?pq43 hS42 ?rq43
  case hq43 => (intro w hS; go_simp; try with_reducible rfl)
  case pq43 => (go_simp; try with_reducible rfl)
  refine wpAnyH_done (by kernel_rfl) ?_ _
  clear hS42
  go_wp2_with fail
  go_ret
  exact ⟨rfl, below_step HB.out D41.out⟩
set_option maxRecDepth 100000 in
set_option maxHeartbeats 8000000 in
theorem rnumbers_ttt (p q r : Nat) (hp : p < 18446744073709551616) (hq : q < 18446744073709551616) (hr : r < 18446744073709551616) (v0 : vdB p p = true) (v1 : vdB q q = true) (v2 : vdB r r = true) (w : World) : Calls Try.prog 20 #[Value.agg #[.float .f64 p, .float .f64 q, .float .f64 r]] w fun r w' => r = .returned (.bool true) ∧ Below w.heap.size w w' := by
  have C0 := Lib.hid (fun w => rvalid_any p p hp hp w)
  rw [v0] at C0
  have C1 := Lib.hid (fun w => rvalid_any q q hq hq w)
  rw [v1] at C1
  have C2 := Lib.hid (fun w => rvalid_any r r hr hr w)
  rw [v2] at C2
  go_enter Try.func20, Try.ntmps20
  go_wp2_with fail
  obtain ⟨W, hW, K0, hB, hz⟩ := bx1 w 38 #[.float .f64 p, .float .f64 q, .float .f64 r]
  rw [← hW]
  have K0 := Lib.hid K0
  have HB := Lib.hid hB
  clear hW hB hz
  have D1 := dr W
  go_wp2_with fail
  refine wp_loop_rounds 4 ?_
  rw [rounds_succ]
  go_wp2_with fail
  refine wp_region_held (S := (fun w' => True ∧ CellsL w' (w.heap.size) 0 [.float .f64 p])) (by kernel_rfl) ?_
  change wpAnyH _ _ _ _ _ _ _ _ (World.drew _)
  obtain ⟨wd2, hwd⟩ : ∃ x, x = World.drew W := ⟨_, rfl⟩
  rw [← hwd]
  have D3 := Lib.hid (hwd ▸ Below.drew D1.out : Below W.heap.size W wd2)
  clear D1 hwd
  have hS4 : True ∧ CellsL wd2 (w.heap.size) 0 [.float .f64 p] := ⟨trivial, (kb K0 D3).cellsL 0 [.float .f64 p] rfl⟩
  refine tk 0 (bm 9 1) ?vq5 ?aq5 rfl (by kernel_rfl) (fun _ _ _ h => h) (by kernel_rfl) ?hq5 ?pq5 hS4 ?rq5
  case hq5 => (intro w hS; go_simp; try with_reducible rfl)
  case pq5 => (go_simp; try with_reducible rfl)
  refine tk 1 (bm 9 3) ?vq6 ?aq6 rfl (by kernel_rfl) (fun _ _ _ h => h) (by kernel_rfl) ?hq6 ?pq6 hS4 ?rq6
  case hq6 => (intro w hS; go_simp; try with_reducible rfl)
  case pq6 => (go_simp; try with_reducible rfl)
  refine tk 2 (bm 9 7) ?vq7 ?aq7 rfl (by kernel_rfl) (fun _ _ _ h => h) (by kernel_rfl) ?hq7 ?pq7 hS4 ?rq7
  case hq7 => (intro w hS; dsimp only [CellsL, al, vl, Nat.reduceAdd] at hS; go_simp; try with_reducible rfl)
  case pq7 => (go_simp; try with_reducible rfl)
  refine tk 3 (bm 9 15) ?vq8 ?aq8 rfl (by kernel_rfl) (fun _ _ _ h => h) (by kernel_rfl) ?hq8 ?pq8 hS4 ?rq8
  case hq8 => (intro w hS; go_simp; try with_reducible rfl)
  case pq8 => (go_simp; try with_reducible rfl)
  refine tk 4 (bm 9 31) ?vq9 ?aq9 rfl (by kernel_rfl) (fun _ _ _ h => h) (by kernel_rfl) ?hq9 ?pq9 hS4 ?rq9
  case hq9 => (intro w hS; go_simp; try with_reducible rfl)
  case pq9 => (go_simp; try with_reducible rfl)
  refine tk 5 (bm 9 63) ?vq10 ?aq10 rfl (by kernel_rfl) (fun _ _ _ h => h) (by kernel_rfl) ?hq10 ?pq10 hS4 ?rq10
  case hq10 => (intro w hS; dsimp only [CellsL, al, vl, Nat.reduceAdd] at hS; go_simp; try with_reducible rfl)
  case pq10 => (go_simp; try with_reducible rfl)
  refine tk 6 (bm 9 127) ?vq11 ?aq11 rfl (by kernel_rfl) (fun _ _ _ h => h) (by kernel_rfl) ?hq11 ?pq11 hS4 ?rq11
  case hq11 => (intro w hS; go_simp; try with_reducible rfl)
  case pq11 => (go_simp; try with_reducible rfl)
  refine wpAnyH_oneN (i := 7) (l' := bm 9 255) rfl (by kernel_rfl) (by kernel_rfl) (by kernel_rfl) (fun K hK => ?_)
  go_simp
  go_at_call 65
  refine (C0.out _).mono ?_
  rintro r w12 ⟨rfl, hb⟩
  dsimp only
  have D13 := ds D3 hb
  clear D3
  clear hb
  have hS14 : True ∧ CellsL w12 (w.heap.size) 0 [.float .f64 p] := ⟨trivial, (kb K0 D13).cellsL 0 [.float .f64 p] rfl⟩
  refine hK _ _ hS14 ?_
  clear hK K hS4
  refine tk 8 (bm 9 511) ?vq15 ?aq15 rfl (by kernel_rfl) (fun _ _ _ h => h) (by kernel_rfl) ?hq15 ?pq15 hS14 ?rq15
  case hq15 => (intro w hS; go_simp; try with_reducible rfl)
  case pq15 => (go_simp; try with_reducible rfl)
  refine wpAnyH_done (by kernel_rfl) ?_ _
  clear hS14
  go_wp2_with fail
  rw [rounds_succ]
  go_wp2_with fail
  refine wp_region_held (S := (fun w' => True ∧ CellsL w' (w.heap.size) 1 [.float .f64 q])) (by kernel_rfl) ?_
  change wpAnyH _ _ _ _ _ _ _ _ (World.drew _)
  obtain ⟨wd16, hwd⟩ : ∃ x, x = World.drew w12 := ⟨_, rfl⟩
  rw [← hwd]
  have D17 := Lib.hid (hwd ▸ Below.drew D13.out : Below W.heap.size W wd16)
  clear D13 hwd
  have hS18 : True ∧ CellsL wd16 (w.heap.size) 1 [.float .f64 q] := ⟨trivial, (kb K0 D17).cellsL 1 [.float .f64 q] rfl⟩
  refine tk 0 (bm 9 1) ?vq19 ?aq19 rfl (by kernel_rfl) (fun _ _ _ h => h) (by kernel_rfl) ?hq19 ?pq19 hS18 ?rq19
  case hq19 => (intro w hS; go_simp; try with_reducible rfl)
  case pq19 => (go_simp; try with_reducible rfl)
  refine tk 1 (bm 9 3) ?vq20 ?aq20 rfl (by kernel_rfl) (fun _ _ _ h => h) (by kernel_rfl) ?hq20 ?pq20 hS18 ?rq20
  case hq20 => (intro w hS; go_simp; try with_reducible rfl)
  case pq20 => (go_simp; try with_reducible rfl)
  refine tk 2 (bm 9 7) ?vq21 ?aq21 rfl (by kernel_rfl) (fun _ _ _ h => h) (by kernel_rfl) ?hq21 ?pq21 hS18 ?rq21
  case hq21 => (intro w hS; dsimp only [CellsL, al, vl, Nat.reduceAdd] at hS; go_simp; try with_reducible rfl)
  case pq21 => (go_simp; try with_reducible rfl)
  refine tk 3 (bm 9 15) ?vq22 ?aq22 rfl (by kernel_rfl) (fun _ _ _ h => h) (by kernel_rfl) ?hq22 ?pq22 hS18 ?rq22
  case hq22 => (intro w hS; go_simp; try with_reducible rfl)
  case pq22 => (go_simp; try with_reducible rfl)
  refine tk 4 (bm 9 31) ?vq23 ?aq23 rfl (by kernel_rfl) (fun _ _ _ h => h) (by kernel_rfl) ?hq23 ?pq23 hS18 ?rq23
  case hq23 => (intro w hS; go_simp; try with_reducible rfl)
  case pq23 => (go_simp; try with_reducible rfl)
  refine tk 5 (bm 9 63) ?vq24 ?aq24 rfl (by kernel_rfl) (fun _ _ _ h => h) (by kernel_rfl) ?hq24 ?pq24 hS18 ?rq24
  case hq24 => (intro w hS; dsimp only [CellsL, al, vl, Nat.reduceAdd] at hS; go_simp; try with_reducible rfl)
  case pq24 => (go_simp; try with_reducible rfl)
  refine tk 6 (bm 9 127) ?vq25 ?aq25 rfl (by kernel_rfl) (fun _ _ _ h => h) (by kernel_rfl) ?hq25 ?pq25 hS18 ?rq25
  case hq25 => (intro w hS; go_simp; try with_reducible rfl)
  case pq25 => (go_simp; try with_reducible rfl)
  refine wpAnyH_oneN (i := 7) (l' := bm 9 255) rfl (by kernel_rfl) (by kernel_rfl) (by kernel_rfl) (fun K hK => ?_)
  go_simp
  go_at_call 65
  refine (C1.out _).mono ?_
  rintro r w26 ⟨rfl, hb⟩
  dsimp only
  have D27 := ds D17 hb
  clear D17
  clear hb
  have hS28 : True ∧ CellsL w26 (w.heap.size) 1 [.float .f64 q] := ⟨trivial, (kb K0 D27).cellsL 1 [.float .f64 q] rfl⟩
  refine hK _ _ hS28 ?_
  clear hK K hS18
  refine tk 8 (bm 9 511) ?vq29 ?aq29 rfl (by kernel_rfl) (fun _ _ _ h => h) (by kernel_rfl) ?hq29 ?pq29 hS28 ?rq29
  case hq29 => (intro w hS; go_simp; try with_reducible rfl)
  case pq29 => (go_simp; try with_reducible rfl)
  refine wpAnyH_done (by kernel_rfl) ?_ _
  clear hS28
  go_wp2_with fail
  rw [rounds_succ]
  go_wp2_with fail
  refine wp_region_held (S := (fun w' => True ∧ CellsL w' (w.heap.size) 2 [.float .f64 r])) (by kernel_rfl) ?_
  change wpAnyH _ _ _ _ _ _ _ _ (World.drew _)
  obtain ⟨wd30, hwd⟩ : ∃ x, x = World.drew w26 := ⟨_, rfl⟩
  rw [← hwd]
  have D31 := Lib.hid (hwd ▸ Below.drew D27.out : Below W.heap.size W wd30)
  clear D27 hwd
  have hS32 : True ∧ CellsL wd30 (w.heap.size) 2 [.float .f64 r] := ⟨trivial, (kb K0 D31).cellsL 2 [.float .f64 r] rfl⟩
  refine tk 0 (bm 9 1) ?vq33 ?aq33 rfl (by kernel_rfl) (fun _ _ _ h => h) (by kernel_rfl) ?hq33 ?pq33 hS32 ?rq33
  case hq33 => (intro w hS; go_simp; try with_reducible rfl)
  case pq33 => (go_simp; try with_reducible rfl)
  refine tk 1 (bm 9 3) ?vq34 ?aq34 rfl (by kernel_rfl) (fun _ _ _ h => h) (by kernel_rfl) ?hq34 ?pq34 hS32 ?rq34
  case hq34 => (intro w hS; go_simp; try with_reducible rfl)
  case pq34 => (go_simp; try with_reducible rfl)
  refine tk 2 (bm 9 7) ?vq35 ?aq35 rfl (by kernel_rfl) (fun _ _ _ h => h) (by kernel_rfl) ?hq35 ?pq35 hS32 ?rq35
  case hq35 => (intro w hS; dsimp only [CellsL, al, vl, Nat.reduceAdd] at hS; go_simp; try with_reducible rfl)
  case pq35 => (go_simp; try with_reducible rfl)
  refine tk 3 (bm 9 15) ?vq36 ?aq36 rfl (by kernel_rfl) (fun _ _ _ h => h) (by kernel_rfl) ?hq36 ?pq36 hS32 ?rq36
  case hq36 => (intro w hS; go_simp; try with_reducible rfl)
  case pq36 => (go_simp; try with_reducible rfl)
  refine tk 4 (bm 9 31) ?vq37 ?aq37 rfl (by kernel_rfl) (fun _ _ _ h => h) (by kernel_rfl) ?hq37 ?pq37 hS32 ?rq37
  case hq37 => (intro w hS; go_simp; try with_reducible rfl)
  case pq37 => (go_simp; try with_reducible rfl)
  refine tk 5 (bm 9 63) ?vq38 ?aq38 rfl (by kernel_rfl) (fun _ _ _ h => h) (by kernel_rfl) ?hq38 ?pq38 hS32 ?rq38
  case hq38 => (intro w hS; dsimp only [CellsL, al, vl, Nat.reduceAdd] at hS; go_simp; try with_reducible rfl)
  case pq38 => (go_simp; try with_reducible rfl)
  refine tk 6 (bm 9 127) ?vq39 ?aq39 rfl (by kernel_rfl) (fun _ _ _ h => h) (by kernel_rfl) ?hq39 ?pq39 hS32 ?rq39
  case hq39 => (intro w hS; go_simp; try with_reducible rfl)
  case pq39 => (go_simp; try with_reducible rfl)
  refine wpAnyH_oneN (i := 7) (l' := bm 9 255) rfl (by kernel_rfl) (by kernel_rfl) (by kernel_rfl) (fun K hK => ?_)
  go_simp
  go_at_call 65
  refine (C2.out _).mono ?_
  rintro r w40 ⟨rfl, hb⟩
  dsimp only
  have D41 := ds D31 hb
  clear D31
  clear hb
  have hS42 : True ∧ CellsL w40 (w.heap.size) 2 [.float .f64 r] := ⟨trivial, (kb K0 D41).cellsL 2 [.float .f64 r] rfl⟩
  refine hK _ _ hS42 ?_
  clear hK K hS32
  refine tk 8 (bm 9 511) ?vq43 ?aq43 rfl (by kernel_rfl) (fun _ _ _ h => h) (by kernel_rfl) ?hq43 ?pq43 hS42 ?rq43
  case hq43 => (intro w hS; go_simp; try with_reducible rfl)
  case pq43 => (go_simp; try with_reducible rfl)
  refine wpAnyH_done (by kernel_rfl) ?_ _
  clear hS42
  go_wp2_with fail
  rw [rounds_succ]
  go_wp2_with fail
  go_ret
  exact ⟨rfl, below_step HB.out D41.out⟩
theorem rnumbers_any (p q r : Nat) (hp : p < 18446744073709551616) (hq : q < 18446744073709551616) (hr : r < 18446744073709551616) (w : World) : Calls Try.prog 20 #[.agg #[.float .f64 p, .float .f64 q, .float .f64 r]] w fun e w' => e = .returned (.bool (nmB p q r)) ∧ Below w.heap.size w w' := by
  unfold nmB
  cases v0 : vdB p p
  · exact rnumbers_f p q r hp hq hr v0 w
  · cases v1 : vdB q q
    · exact rnumbers_tf p q r hp hq hr v0 v1 w
    · cases v2 : vdB r r
      · exact rnumbers_ttf p q r hp hq hr v0 v1 v2 w
      · exact rnumbers_ttt p q r hp hq hr v0 v1 v2 w
theorem nm_fin {p q r : Nat} (hp : p < 18446744073709551616) (hq : q < 18446744073709551616) (hr : r < 18446744073709551616) (h : nmB p q r = true) : fin p = true ∧ fin q = true ∧ fin r = true := by
  unfold nmB at h
  have ⟨⟨h1, h2⟩, h3⟩ : (vdB p p = true ∧ vdB q q = true) ∧ vdB r r = true := by simpa using h
  have f : ∀ x, x < 18446744073709551616 → vdB x x = true → fin x = true := fun x hx hv => by
    have v := vdB_true hx hx hv
    refine fin_Z v.l.nn ?_ ?_
    · have := (Z_range v.l.nn).1
      have : Z x ≠ -(rv INF : Int) := fun k => v.hi (Z_eq_NI v.l k)
      omega
    · have := (Z_range v.l.nn).2
      have : Z x ≠ (rv INF : Int) := fun k => v.li (Z_eq_PI v.l k)
      omega
  exact ⟨f p hp h1, f q hq h2, f r hr h3⟩
theorem gt_no {a b : Nat} (ha : Gd a) (hb : Gd b) (h : Z a ≤ Z b) : (FloatKind.f64.format.order a b == some .gt) = false := by
  rw [gtb ha hb]; exact decide_eq_false (by omega)
set_option maxRecDepth 100000 in
set_option maxHeartbeats 8000000 in
theorem share3_any (x y : V3) (h : ShV x y) (w : World) : Calls Try.prog 16 #[Value.agg #[.float .f64 x.x.lo, .float .f64 x.x.hi, .float .f64 x.y.lo, .float .f64 x.y.hi, .float .f64 x.z.lo, .float .f64 x.z.hi], Value.agg #[.float .f64 y.x.lo, .float .f64 y.x.hi, .float .f64 y.y.lo, .float .f64 y.y.hi, .float .f64 y.z.lo, .float .f64 y.z.hi]] w fun r w' => r = .returned (.bool true) ∧ Below w.heap.size w w' := by
  have e0 := gt_no x.x.vd.l y.x.vd.h h.x1
  have f0 := gt_no y.x.vd.l x.x.vd.h h.x2
  have e1 := gt_no x.y.vd.l y.y.vd.h h.y1
  have f1 := gt_no y.y.vd.l x.y.vd.h h.y2
  have e2 := gt_no x.z.vd.l y.z.vd.h h.z1
  have f2 := gt_no y.z.vd.l x.z.vd.h h.z2
  go_enter Try.func16, Try.ntmps16
  go_wp2_with fail
  obtain ⟨W, hW, K0, K1, hB, hz⟩ := bx2 w 26 26 (vc x) (vc y)
  rw [← hW]
  have K0 := Lib.hid K0
  have K1 := Lib.hid K1
  have HB := Lib.hid hB
  clear hW hB hz
  have D1 := dr W
  go_wp2_with fail
  refine wp_loop_rounds 4 ?_
  rw [rounds_succ]
  go_wp2_with fail
  refine wp_region_held (S := (fun w' => True ∧ CellsL w' (w.heap.size) 0 [.float .f64 x.x.lo, .float .f64 x.x.hi] ∧ CellsL w' (w.heap.size + 1) 0 [.float .f64 y.x.lo, .float .f64 y.x.hi])) (by kernel_rfl) ?_
  change wpAnyH _ _ _ _ _ _ _ _ (World.drew _)
  obtain ⟨wd2, hwd⟩ : ∃ x, x = World.drew W := ⟨_, rfl⟩
  rw [← hwd]
  have D3 := Lib.hid (hwd ▸ Below.drew D1.out : Below W.heap.size W wd2)
  clear D1 hwd
  have hS4 : True ∧ CellsL wd2 (w.heap.size) 0 [.float .f64 x.x.lo, .float .f64 x.x.hi] ∧ CellsL wd2 (w.heap.size + 1) 0 [.float .f64 y.x.lo, .float .f64 y.x.hi] := ⟨trivial, (kb K0 D3).cellsL 0 [.float .f64 x.x.lo, .float .f64 x.x.hi] rfl, (kb K1 D3).cellsL 0 [.float .f64 y.x.lo, .float .f64 y.x.hi] rfl⟩
  refine tk 0 (bm 20 1) ?vq5 ?aq5 rfl (by kernel_rfl) (fun _ _ _ h => h) (by kernel_rfl) ?hq5 ?pq5 hS4 ?rq5
  case hq5 => (intro w hS; go_simp; try with_reducible rfl)
  case pq5 => (go_simp; try with_reducible rfl)
  refine tk 1 (bm 20 3) ?vq6 ?aq6 rfl (by kernel_rfl) (fun _ _ _ h => h) (by kernel_rfl) ?hq6 ?pq6 hS4 ?rq6
  case hq6 => (intro w hS; go_simp; try with_reducible rfl)
  case pq6 => (go_simp; try with_reducible rfl)
  refine tk 2 (bm 20 7) ?vq7 ?aq7 rfl (by kernel_rfl) (fun _ _ _ h => h) (by kernel_rfl) ?hq7 ?pq7 hS4 ?rq7
  case hq7 => (intro w hS; go_simp; try with_reducible rfl)
  case pq7 => (go_simp; try with_reducible rfl)
  refine tk 3 (bm 20 15) ?vq8 ?aq8 rfl (by kernel_rfl) (fun _ _ _ h => h) (by kernel_rfl) ?hq8 ?pq8 hS4 ?rq8
  case hq8 => (intro w hS; dsimp only [CellsL, al, vl, Nat.reduceAdd] at hS; go_simp; try with_reducible rfl)
  case pq8 => (go_simp; try with_reducible rfl)
  refine tk 4 (bm 20 31) ?vq9 ?aq9 rfl (by kernel_rfl) (fun _ _ _ h => h) (by kernel_rfl) ?hq9 ?pq9 hS4 ?rq9
  case hq9 => (intro w hS; go_simp; try with_reducible rfl)
  case pq9 => (go_simp; try with_reducible rfl)
  refine tk 5 (bm 20 63) ?vq10 ?aq10 rfl (by kernel_rfl) (fun _ _ _ h => h) (by kernel_rfl) ?hq10 ?pq10 hS4 ?rq10
  case hq10 => (intro w hS; go_simp; try with_reducible rfl)
  case pq10 => (go_simp; try with_reducible rfl)
  refine tk 6 (bm 20 127) ?vq11 ?aq11 rfl (by kernel_rfl) (fun _ _ _ h => h) (by kernel_rfl) ?hq11 ?pq11 hS4 ?rq11
  case hq11 => (intro w hS; go_simp; try with_reducible rfl)
  case pq11 => (go_simp; try with_reducible rfl)
  refine tk 7 (bm 20 255) ?vq12 ?aq12 rfl (by kernel_rfl) (fun _ _ _ h => h) (by kernel_rfl) ?hq12 ?pq12 hS4 ?rq12
  case hq12 => (intro w hS; dsimp only [CellsL, al, vl, Nat.reduceAdd] at hS; go_simp; try with_reducible rfl)
  case pq12 => (go_simp; try with_reducible rfl)
  refine tk 8 (bm 20 511) ?vq13 ?aq13 rfl (by kernel_rfl) (fun _ _ _ h => h) (by kernel_rfl) ?hq13 ?pq13 hS4 ?rq13
  case hq13 => (intro w hS; go_simp; try with_reducible rfl)
  case pq13 => (go_simp; try with_reducible rfl)
  refine tk 9 (bm 20 1023) ?vq14 ?aq14 rfl (by kernel_rfl) (fun _ _ _ h => h) (by kernel_rfl) ?hq14 ?pq14 hS4 ?rq14
  case hq14 => (intro w hS; go_simp; try with_reducible rfl)
  case pq14 => (go_simp; try with_reducible rfl)
  refine tk 10 (bm 20 2047) ?vq15 ?aq15 rfl (by kernel_rfl) (fun _ _ _ h => h) (by kernel_rfl) ?hq15 ?pq15 hS4 ?rq15
  case hq15 => (intro w hS; go_simp; try with_reducible rfl)
  case pq15 => (go_simp; try with_reducible rfl)
  refine tk 11 (bm 20 4095) ?vq16 ?aq16 rfl (by kernel_rfl) (fun _ _ _ h => h) (by kernel_rfl) ?hq16 ?pq16 hS4 ?rq16
  case hq16 => (intro w hS; go_simp; try with_reducible rfl)
  case pq16 => (go_simp; try with_reducible rfl)
  refine tk 12 (bm 20 8191) ?vq17 ?aq17 rfl (by kernel_rfl) (fun _ _ _ h => h) (by kernel_rfl) ?hq17 ?pq17 hS4 ?rq17
  case hq17 => (intro w hS; go_simp; try with_reducible rfl)
  case pq17 => (go_simp; try with_reducible rfl)
  refine tk 13 (bm 20 16383) ?vq18 ?aq18 rfl (by kernel_rfl) (fun _ _ _ h => h) (by kernel_rfl) ?hq18 ?pq18 hS4 ?rq18
  case hq18 => (intro w hS; dsimp only [CellsL, al, vl, Nat.reduceAdd] at hS; go_simp; try with_reducible rfl)
  case pq18 => (go_simp; try with_reducible rfl)
  refine tk 14 (bm 20 32767) ?vq19 ?aq19 rfl (by kernel_rfl) (fun _ _ _ h => h) (by kernel_rfl) ?hq19 ?pq19 hS4 ?rq19
  case hq19 => (intro w hS; go_simp; try with_reducible rfl)
  case pq19 => (go_simp; try with_reducible rfl)
  refine tk 15 (bm 20 65535) ?vq20 ?aq20 rfl (by kernel_rfl) (fun _ _ _ h => h) (by kernel_rfl) ?hq20 ?pq20 hS4 ?rq20
  case hq20 => (intro w hS; go_simp; try with_reducible rfl)
  case pq20 => (go_simp; try with_reducible rfl)
  refine tk 16 (bm 20 131071) ?vq21 ?aq21 rfl (by kernel_rfl) (fun _ _ _ h => h) (by kernel_rfl) ?hq21 ?pq21 hS4 ?rq21
  case hq21 => (intro w hS; go_simp; try with_reducible rfl)
  case pq21 => (go_simp; try with_reducible rfl)
  refine tk 17 (bm 20 262143) ?vq22 ?aq22 rfl (by kernel_rfl) (fun _ _ _ h => h) (by kernel_rfl) ?hq22 ?pq22 hS4 ?rq22
  case hq22 => (intro w hS; dsimp only [CellsL, al, vl, Nat.reduceAdd] at hS; go_simp; try with_reducible rfl)
  case pq22 => (go_simp; try with_reducible rfl)
  refine tk 18 (bm 20 524287) ?vq23 ?aq23 rfl (by kernel_rfl) (fun _ _ _ h => h) (by kernel_rfl) ?hq23 ?pq23 hS4 ?rq23
  case hq23 => (intro w hS; go_simp; try with_reducible rfl)
  case pq23 => (go_simp; try with_reducible rfl)
  refine tk 19 (bm 20 1048575) ?vq24 ?aq24 rfl (by kernel_rfl) (fun _ _ _ h => h) (by kernel_rfl) ?hq24 ?pq24 hS4 ?rq24
  case hq24 => (intro w hS; go_simp; try with_reducible rfl)
  case pq24 => (go_simp; try with_reducible rfl)
  refine wpAnyH_done (by kernel_rfl) ?_ _
  clear hS4
  go_wp2_with fail
  rw [rounds_succ]
  go_wp2_with fail
  refine wp_region_held (S := (fun w' => True ∧ CellsL w' (w.heap.size) 2 [.float .f64 x.y.lo, .float .f64 x.y.hi] ∧ CellsL w' (w.heap.size + 1) 2 [.float .f64 y.y.lo, .float .f64 y.y.hi])) (by kernel_rfl) ?_
  change wpAnyH _ _ _ _ _ _ _ _ (World.drew _)
  obtain ⟨wd25, hwd⟩ : ∃ x, x = World.drew wd2 := ⟨_, rfl⟩
  rw [← hwd]
  have D26 := Lib.hid (hwd ▸ Below.drew D3.out : Below W.heap.size W wd25)
  clear D3 hwd
  have hS27 : True ∧ CellsL wd25 (w.heap.size) 2 [.float .f64 x.y.lo, .float .f64 x.y.hi] ∧ CellsL wd25 (w.heap.size + 1) 2 [.float .f64 y.y.lo, .float .f64 y.y.hi] := ⟨trivial, (kb K0 D26).cellsL 2 [.float .f64 x.y.lo, .float .f64 x.y.hi] rfl, (kb K1 D26).cellsL 2 [.float .f64 y.y.lo, .float .f64 y.y.hi] rfl⟩
  refine tk 0 (bm 20 1) ?vq28 ?aq28 rfl (by kernel_rfl) (fun _ _ _ h => h) (by kernel_rfl) ?hq28 ?pq28 hS27 ?rq28
  case hq28 => (intro w hS; go_simp; try with_reducible rfl)
  case pq28 => (go_simp; try with_reducible rfl)
  refine tk 1 (bm 20 3) ?vq29 ?aq29 rfl (by kernel_rfl) (fun _ _ _ h => h) (by kernel_rfl) ?hq29 ?pq29 hS27 ?rq29
  case hq29 => (intro w hS; go_simp; try with_reducible rfl)
  case pq29 => (go_simp; try with_reducible rfl)
  refine tk 2 (bm 20 7) ?vq30 ?aq30 rfl (by kernel_rfl) (fun _ _ _ h => h) (by kernel_rfl) ?hq30 ?pq30 hS27 ?rq30
  case hq30 => (intro w hS; go_simp; try with_reducible rfl)
  case pq30 => (go_simp; try with_reducible rfl)
  refine tk 3 (bm 20 15) ?vq31 ?aq31 rfl (by kernel_rfl) (fun _ _ _ h => h) (by kernel_rfl) ?hq31 ?pq31 hS27 ?rq31
  case hq31 => (intro w hS; dsimp only [CellsL, al, vl, Nat.reduceAdd] at hS; go_simp; try with_reducible rfl)
  case pq31 => (go_simp; try with_reducible rfl)
  refine tk 4 (bm 20 31) ?vq32 ?aq32 rfl (by kernel_rfl) (fun _ _ _ h => h) (by kernel_rfl) ?hq32 ?pq32 hS27 ?rq32
  case hq32 => (intro w hS; go_simp; try with_reducible rfl)
  case pq32 => (go_simp; try with_reducible rfl)
  refine tk 5 (bm 20 63) ?vq33 ?aq33 rfl (by kernel_rfl) (fun _ _ _ h => h) (by kernel_rfl) ?hq33 ?pq33 hS27 ?rq33
  case hq33 => (intro w hS; go_simp; try with_reducible rfl)
  case pq33 => (go_simp; try with_reducible rfl)
  refine tk 6 (bm 20 127) ?vq34 ?aq34 rfl (by kernel_rfl) (fun _ _ _ h => h) (by kernel_rfl) ?hq34 ?pq34 hS27 ?rq34
  case hq34 => (intro w hS; go_simp; try with_reducible rfl)
  case pq34 => (go_simp; try with_reducible rfl)
  refine tk 7 (bm 20 255) ?vq35 ?aq35 rfl (by kernel_rfl) (fun _ _ _ h => h) (by kernel_rfl) ?hq35 ?pq35 hS27 ?rq35
  case hq35 => (intro w hS; dsimp only [CellsL, al, vl, Nat.reduceAdd] at hS; go_simp; try with_reducible rfl)
  case pq35 => (go_simp; try with_reducible rfl)
  refine tk 8 (bm 20 511) ?vq36 ?aq36 rfl (by kernel_rfl) (fun _ _ _ h => h) (by kernel_rfl) ?hq36 ?pq36 hS27 ?rq36
  case hq36 => (intro w hS; go_simp; try with_reducible rfl)
  case pq36 => (go_simp; try with_reducible rfl)
  refine tk 9 (bm 20 1023) ?vq37 ?aq37 rfl (by kernel_rfl) (fun _ _ _ h => h) (by kernel_rfl) ?hq37 ?pq37 hS27 ?rq37
  case hq37 => (intro w hS; go_simp; try with_reducible rfl)
  case pq37 => (go_simp; try with_reducible rfl)
  refine tk 10 (bm 20 2047) ?vq38 ?aq38 rfl (by kernel_rfl) (fun _ _ _ h => h) (by kernel_rfl) ?hq38 ?pq38 hS27 ?rq38
  case hq38 => (intro w hS; go_simp; try with_reducible rfl)
  case pq38 => (go_simp; try with_reducible rfl)
  refine tk 11 (bm 20 4095) ?vq39 ?aq39 rfl (by kernel_rfl) (fun _ _ _ h => h) (by kernel_rfl) ?hq39 ?pq39 hS27 ?rq39
  case hq39 => (intro w hS; go_simp; try with_reducible rfl)
  case pq39 => (go_simp; try with_reducible rfl)
  refine tk 12 (bm 20 8191) ?vq40 ?aq40 rfl (by kernel_rfl) (fun _ _ _ h => h) (by kernel_rfl) ?hq40 ?pq40 hS27 ?rq40
  case hq40 => (intro w hS; go_simp; try with_reducible rfl)
  case pq40 => (go_simp; try with_reducible rfl)
  refine tk 13 (bm 20 16383) ?vq41 ?aq41 rfl (by kernel_rfl) (fun _ _ _ h => h) (by kernel_rfl) ?hq41 ?pq41 hS27 ?rq41
  case hq41 => (intro w hS; dsimp only [CellsL, al, vl, Nat.reduceAdd] at hS; go_simp; try with_reducible rfl)
  case pq41 => (go_simp; try with_reducible rfl)
  refine tk 14 (bm 20 32767) ?vq42 ?aq42 rfl (by kernel_rfl) (fun _ _ _ h => h) (by kernel_rfl) ?hq42 ?pq42 hS27 ?rq42
  case hq42 => (intro w hS; go_simp; try with_reducible rfl)
  case pq42 => (go_simp; try with_reducible rfl)
  refine tk 15 (bm 20 65535) ?vq43 ?aq43 rfl (by kernel_rfl) (fun _ _ _ h => h) (by kernel_rfl) ?hq43 ?pq43 hS27 ?rq43
  case hq43 => (intro w hS; go_simp; try with_reducible rfl)
  case pq43 => (go_simp; try with_reducible rfl)
  refine tk 16 (bm 20 131071) ?vq44 ?aq44 rfl (by kernel_rfl) (fun _ _ _ h => h) (by kernel_rfl) ?hq44 ?pq44 hS27 ?rq44
  case hq44 => (intro w hS; go_simp; try with_reducible rfl)
  case pq44 => (go_simp; try with_reducible rfl)
  refine tk 17 (bm 20 262143) ?vq45 ?aq45 rfl (by kernel_rfl) (fun _ _ _ h => h) (by kernel_rfl) ?hq45 ?pq45 hS27 ?rq45
  case hq45 => (intro w hS; dsimp only [CellsL, al, vl, Nat.reduceAdd] at hS; go_simp; try with_reducible rfl)
  case pq45 => (go_simp; try with_reducible rfl)
  refine tk 18 (bm 20 524287) ?vq46 ?aq46 rfl (by kernel_rfl) (fun _ _ _ h => h) (by kernel_rfl) ?hq46 ?pq46 hS27 ?rq46
  case hq46 => (intro w hS; go_simp; try with_reducible rfl)
  case pq46 => (go_simp; try with_reducible rfl)
  refine tk 19 (bm 20 1048575) ?vq47 ?aq47 rfl (by kernel_rfl) (fun _ _ _ h => h) (by kernel_rfl) ?hq47 ?pq47 hS27 ?rq47
  case hq47 => (intro w hS; go_simp; try with_reducible rfl)
  case pq47 => (go_simp; try with_reducible rfl)
  refine wpAnyH_done (by kernel_rfl) ?_ _
  clear hS27
  go_wp2_with fail
  rw [rounds_succ]
  go_wp2_with fail
  refine wp_region_held (S := (fun w' => True ∧ CellsL w' (w.heap.size) 4 [.float .f64 x.z.lo, .float .f64 x.z.hi] ∧ CellsL w' (w.heap.size + 1) 4 [.float .f64 y.z.lo, .float .f64 y.z.hi])) (by kernel_rfl) ?_
  change wpAnyH _ _ _ _ _ _ _ _ (World.drew _)
  obtain ⟨wd48, hwd⟩ : ∃ x, x = World.drew wd25 := ⟨_, rfl⟩
  rw [← hwd]
  have D49 := Lib.hid (hwd ▸ Below.drew D26.out : Below W.heap.size W wd48)
  clear D26 hwd
  have hS50 : True ∧ CellsL wd48 (w.heap.size) 4 [.float .f64 x.z.lo, .float .f64 x.z.hi] ∧ CellsL wd48 (w.heap.size + 1) 4 [.float .f64 y.z.lo, .float .f64 y.z.hi] := ⟨trivial, (kb K0 D49).cellsL 4 [.float .f64 x.z.lo, .float .f64 x.z.hi] rfl, (kb K1 D49).cellsL 4 [.float .f64 y.z.lo, .float .f64 y.z.hi] rfl⟩
  refine tk 0 (bm 20 1) ?vq51 ?aq51 rfl (by kernel_rfl) (fun _ _ _ h => h) (by kernel_rfl) ?hq51 ?pq51 hS50 ?rq51
  case hq51 => (intro w hS; go_simp; try with_reducible rfl)
  case pq51 => (go_simp; try with_reducible rfl)
  refine tk 1 (bm 20 3) ?vq52 ?aq52 rfl (by kernel_rfl) (fun _ _ _ h => h) (by kernel_rfl) ?hq52 ?pq52 hS50 ?rq52
  case hq52 => (intro w hS; go_simp; try with_reducible rfl)
  case pq52 => (go_simp; try with_reducible rfl)
  refine tk 2 (bm 20 7) ?vq53 ?aq53 rfl (by kernel_rfl) (fun _ _ _ h => h) (by kernel_rfl) ?hq53 ?pq53 hS50 ?rq53
  case hq53 => (intro w hS; go_simp; try with_reducible rfl)
  case pq53 => (go_simp; try with_reducible rfl)
  refine tk 3 (bm 20 15) ?vq54 ?aq54 rfl (by kernel_rfl) (fun _ _ _ h => h) (by kernel_rfl) ?hq54 ?pq54 hS50 ?rq54
  case hq54 => (intro w hS; dsimp only [CellsL, al, vl, Nat.reduceAdd] at hS; go_simp; try with_reducible rfl)
  case pq54 => (go_simp; try with_reducible rfl)
  refine tk 4 (bm 20 31) ?vq55 ?aq55 rfl (by kernel_rfl) (fun _ _ _ h => h) (by kernel_rfl) ?hq55 ?pq55 hS50 ?rq55
  case hq55 => (intro w hS; go_simp; try with_reducible rfl)
  case pq55 => (go_simp; try with_reducible rfl)
  refine tk 5 (bm 20 63) ?vq56 ?aq56 rfl (by kernel_rfl) (fun _ _ _ h => h) (by kernel_rfl) ?hq56 ?pq56 hS50 ?rq56
  case hq56 => (intro w hS; go_simp; try with_reducible rfl)
  case pq56 => (go_simp; try with_reducible rfl)
  refine tk 6 (bm 20 127) ?vq57 ?aq57 rfl (by kernel_rfl) (fun _ _ _ h => h) (by kernel_rfl) ?hq57 ?pq57 hS50 ?rq57
  case hq57 => (intro w hS; go_simp; try with_reducible rfl)
  case pq57 => (go_simp; try with_reducible rfl)
  refine tk 7 (bm 20 255) ?vq58 ?aq58 rfl (by kernel_rfl) (fun _ _ _ h => h) (by kernel_rfl) ?hq58 ?pq58 hS50 ?rq58
  case hq58 => (intro w hS; dsimp only [CellsL, al, vl, Nat.reduceAdd] at hS; go_simp; try with_reducible rfl)
  case pq58 => (go_simp; try with_reducible rfl)
  refine tk 8 (bm 20 511) ?vq59 ?aq59 rfl (by kernel_rfl) (fun _ _ _ h => h) (by kernel_rfl) ?hq59 ?pq59 hS50 ?rq59
  case hq59 => (intro w hS; go_simp; try with_reducible rfl)
  case pq59 => (go_simp; try with_reducible rfl)
  refine tk 9 (bm 20 1023) ?vq60 ?aq60 rfl (by kernel_rfl) (fun _ _ _ h => h) (by kernel_rfl) ?hq60 ?pq60 hS50 ?rq60
  case hq60 => (intro w hS; go_simp; try with_reducible rfl)
  case pq60 => (go_simp; try with_reducible rfl)
  refine tk 10 (bm 20 2047) ?vq61 ?aq61 rfl (by kernel_rfl) (fun _ _ _ h => h) (by kernel_rfl) ?hq61 ?pq61 hS50 ?rq61
  case hq61 => (intro w hS; go_simp; try with_reducible rfl)
  case pq61 => (go_simp; try with_reducible rfl)
  refine tk 11 (bm 20 4095) ?vq62 ?aq62 rfl (by kernel_rfl) (fun _ _ _ h => h) (by kernel_rfl) ?hq62 ?pq62 hS50 ?rq62
  case hq62 => (intro w hS; go_simp; try with_reducible rfl)
  case pq62 => (go_simp; try with_reducible rfl)
  refine tk 12 (bm 20 8191) ?vq63 ?aq63 rfl (by kernel_rfl) (fun _ _ _ h => h) (by kernel_rfl) ?hq63 ?pq63 hS50 ?rq63
  case hq63 => (intro w hS; go_simp; try with_reducible rfl)
  case pq63 => (go_simp; try with_reducible rfl)
  refine tk 13 (bm 20 16383) ?vq64 ?aq64 rfl (by kernel_rfl) (fun _ _ _ h => h) (by kernel_rfl) ?hq64 ?pq64 hS50 ?rq64
  case hq64 => (intro w hS; dsimp only [CellsL, al, vl, Nat.reduceAdd] at hS; go_simp; try with_reducible rfl)
  case pq64 => (go_simp; try with_reducible rfl)
  refine tk 14 (bm 20 32767) ?vq65 ?aq65 rfl (by kernel_rfl) (fun _ _ _ h => h) (by kernel_rfl) ?hq65 ?pq65 hS50 ?rq65
  case hq65 => (intro w hS; go_simp; try with_reducible rfl)
  case pq65 => (go_simp; try with_reducible rfl)
  refine tk 15 (bm 20 65535) ?vq66 ?aq66 rfl (by kernel_rfl) (fun _ _ _ h => h) (by kernel_rfl) ?hq66 ?pq66 hS50 ?rq66
  case hq66 => (intro w hS; go_simp; try with_reducible rfl)
  case pq66 => (go_simp; try with_reducible rfl)
  refine tk 16 (bm 20 131071) ?vq67 ?aq67 rfl (by kernel_rfl) (fun _ _ _ h => h) (by kernel_rfl) ?hq67 ?pq67 hS50 ?rq67
  case hq67 => (intro w hS; go_simp; try with_reducible rfl)
  case pq67 => (go_simp; try with_reducible rfl)
  refine tk 17 (bm 20 262143) ?vq68 ?aq68 rfl (by kernel_rfl) (fun _ _ _ h => h) (by kernel_rfl) ?hq68 ?pq68 hS50 ?rq68
  case hq68 => (intro w hS; dsimp only [CellsL, al, vl, Nat.reduceAdd] at hS; go_simp; try with_reducible rfl)
  case pq68 => (go_simp; try with_reducible rfl)
  refine tk 18 (bm 20 524287) ?vq69 ?aq69 rfl (by kernel_rfl) (fun _ _ _ h => h) (by kernel_rfl) ?hq69 ?pq69 hS50 ?rq69
  case hq69 => (intro w hS; go_simp; try with_reducible rfl)
  case pq69 => (go_simp; try with_reducible rfl)
  refine tk 19 (bm 20 1048575) ?vq70 ?aq70 rfl (by kernel_rfl) (fun _ _ _ h => h) (by kernel_rfl) ?hq70 ?pq70 hS50 ?rq70
  case hq70 => (intro w hS; go_simp; try with_reducible rfl)
  case pq70 => (go_simp; try with_reducible rfl)
  refine wpAnyH_done (by kernel_rfl) ?_ _
  clear hS50
  go_wp2_with fail
  rw [rounds_succ]
  go_wp2_with fail
  go_ret
  exact ⟨rfl, below_step HB.out D49.out⟩
theorem aw_pt : afPt (afThen (afMove 4607182418800017408 0 0) (afStretch 4611686018427387904 4611686018427387904 4611686018427387904)) (vOf 4607182418800017408 4607182418800017408 4607182418800017408) = vOf 4613937818241073152 4611686018427387904 4611686018427387904 := by refine V3.ext (Sp.ext ?_ ?_) (Sp.ext ?_ ?_) (Sp.ext ?_ ?_) <;> decide +kernel
theorem v_24 : Vd 4627448617123184640 4627448617123184640 := ⟨gd_lit (by decide), gd_lit (by decide), by decide +kernel, by decide, by decide⟩
def s24 : Sp := ⟨4627448617123184640, 4627448617123184640, v_24⟩
theorem s24_lo : s24.lo = 4627448617123184640 := rfl
theorem s24_hi : s24.hi = 4627448617123184640 := rfl
theorem aw_det : afDet (afStretch 4611686018427387904 4613937818241073152 4616189618054758400) = s24 := by refine Sp.ext ?_ ?_ <;> decide +kernel
set_option maxRecDepth 100000 in
set_option maxHeartbeats 8000000 in
theorem awake4  (w : World) : Calls Try.prog 13 #[] w fun r w' => r = .returned (.bool true) ∧ Below w.heap.size w w' := by
  have C0 := Lib.hid (fun w => moveA_any 4607182418800017408 0 0 (by decide) (by decide) (by decide) w)
  obtain ⟨p0, hp0⟩ : ∃ z_, afMove 4607182418800017408 0 0 = z_ := ⟨_, rfl⟩
  rw [hp0] at C0
  have C1 := Lib.hid (fun w => stretchA_any 4611686018427387904 4611686018427387904 4611686018427387904 (by decide) (by decide) (by decide) w)
  obtain ⟨p1, hp1⟩ : ∃ z_, afStretch 4611686018427387904 4611686018427387904 4611686018427387904 = z_ := ⟨_, rfl⟩
  rw [hp1] at C1
  have C2 := Lib.hid (fun w => thenA_any p0 p1 w)
  obtain ⟨p2, hp2⟩ : ∃ z_, afThen p0 p1 = z_ := ⟨_, rfl⟩
  rw [hp2] at C2
  have C3 := Lib.hid (fun w => rofV_any 4607182418800017408 4607182418800017408 4607182418800017408 (by decide) (by decide) (by decide) w)
  obtain ⟨p3, hp3⟩ : ∃ z_, vOf 4607182418800017408 4607182418800017408 4607182418800017408 = z_ := ⟨_, rfl⟩
  rw [hp3] at C3
  have C4 := Lib.hid (fun w => ptA_any p2 p3 w)
  have hl : afPt p2 p3 = vOf 4613937818241073152 4611686018427387904 4611686018427387904 := by rw [← hp3, ← hp2, ← hp1, ← hp0]; exact aw_pt
  rw [hl] at C4
  clear hl
  obtain ⟨p4, hp4⟩ : ∃ z_, vOf 4613937818241073152 4611686018427387904 4611686018427387904 = z_ := ⟨_, rfl⟩
  rw [hp4] at C4
  have C5 := Lib.hid (fun w => rofV_any 4613937818241073152 4611686018427387904 4611686018427387904 (by decide) (by decide) (by decide) w)
  rw [hp4] at C5
  have C6 := Lib.hid (fun w => stretchA_any 4611686018427387904 4613937818241073152 4616189618054758400 (by decide) (by decide) (by decide) w)
  obtain ⟨p6, hp6⟩ : ∃ z_, afStretch 4611686018427387904 4613937818241073152 4616189618054758400 = z_ := ⟨_, rfl⟩
  rw [hp6] at C6
  have C7 := Lib.hid (fun w => detA_any p6 w)
  have hl : afDet p6 = s24 := by rw [← hp6]; exact aw_det
  rw [hl] at C7
  clear hl
  simp only [s24_lo, s24_hi] at C7
  clear hp0 hp1 hp2 hp3 hp4 hp6
  have eq_0 := order_self p4.x.vd.l
  have eq_1 := order_self p4.x.vd.h
  have eq_2 := order_self p4.y.vd.l
  have eq_3 := order_self p4.y.vd.h
  have eq_4 := order_self p4.z.vd.l
  have eq_5 := order_self p4.z.vd.h
  have eq24 := order_self v_24.l
  go_enter Try.func13, Try.ntmps13
  go_wp2_with fail
  obtain ⟨W, hW⟩ : ∃ W, W = w := ⟨_, rfl⟩
  rw [← hW]
  have HB := Lib.hid (hW ▸ Below.refl w.heap.size w : Below w.heap.size w W)
  clear hW
  have D1 := dr W
  refine (C0.out _).mono ?_
  rintro r w2 ⟨rfl, hb⟩
  have D3 := ds D1 hb
  clear D1
  clear hb
  go_wp2_with fail
  refine (C1.out _).mono ?_
  rintro r w4 ⟨rfl, hb⟩
  have D5 := ds D3 hb
  clear D3
  clear hb
  go_wp2_with fail
  refine (C2.out _).mono ?_
  rintro r w6 ⟨rfl, hb⟩
  have D7 := ds D5 hb
  clear D5
  clear hb
  go_wp2_with fail
  refine (C3.out _).mono ?_
  rintro r w8 ⟨rfl, hb⟩
  have D9 := ds D7 hb
  clear D7
  clear hb
  go_wp2_with fail
  refine (C4.out _).mono ?_
  rintro r w10 ⟨rfl, hb⟩
  have D11 := ds D9 hb
  clear D9
  clear hb
  obtain ⟨g12, hg14⟩ : ∃ g, w10.heap.size = g := ⟨_, rfl⟩
  have Y16 := Lib.hid (show w.heap.size ≤ g12 by rw [← hg14]; exact (below_step HB.out D11.out).size)
  obtain ⟨V13, hV15⟩ : ∃ V, w10.alloc (.cells #[.float .f64 0, .float .f64 0, .float .f64 0, .float .f64 0, .float .f64 0, .float .f64 0] 26) = V := ⟨_, rfl⟩
  have K17 := kn hV15 hg14
  have HB18 := hba hV15 HB D11
  have D19 := dr V13
  clear  HB D11
  have f22 := (kb K17 D19)
  obtain ⟨V20, hV21⟩ : ∃ V, World.setRow V13 (g12) (vc p4) = V := ⟨_, rfl⟩
  have K23 := ksr hV21 K17 D19
  have HB24 := hbr hV21 HB18 D19 (by have := Y16.out; omega)
  have D25 := dr V20
  clear K17 HB18 D19
  go_wp2_with (refine wpList_store_row rfl 26 _ _ rfl (g12) (vc p4) rfl rfl _ _ f22 (by rw [info_V3]; rfl) rfl (by kernel_rfl) ?_; rw [hV21])
  clear hg14 hV15 hV21 f22
  refine wp_region_held (S := (fun w' => True ∧ Blk w' (g12) 26 (vc p4))) (by kernel_rfl) ?_
  change wpAnyH _ _ _ _ _ _ _ _ (World.drew _)
  obtain ⟨wd26, hwd⟩ : ∃ x, x = World.drew V20 := ⟨_, rfl⟩
  rw [← hwd]
  have D27 := Lib.hid (hwd ▸ Below.drew D25.out : Below V20.heap.size V20 wd26)
  clear D25 hwd
  have hS28 : True ∧ Blk wd26 (g12) 26 (vc p4) := ⟨trivial, (kb K23 D27)⟩
  refine tkL 0 (bm 12 1) ?aq29 rfl (by kernel_rfl) (fun _ _ _ h => h) (by kernel_rfl) rfl rfl (fun _ hS => hS.2) (by rw [info_V3]; rfl) Try.underlying26 rfl ?pq29 hS28 ?rq29
  case pq29 => (go_simp; try with_reducible rfl)
  refine tk 1 (bm 12 3) ?vq30 ?aq30 rfl (by kernel_rfl) (fun _ _ _ h => h) (by kernel_rfl) ?hq30 ?pq30 hS28 ?rq30
  case hq30 => (intro w hS; go_simp; try with_reducible rfl)
  case pq30 => (go_simp; try with_reducible rfl)
  refine wpAnyH_oneN (i := 2) (l' := bm 12 7) rfl (by kernel_rfl) (by kernel_rfl) (by kernel_rfl) (fun K hK => ?_)
  go_simp
  go_at_call 28
  refine (C5.out _).mono ?_
  rintro r w31 ⟨rfl, hb⟩
  dsimp only
  have D32 := ds D27 hb
  clear D27
  clear hb
  have hS33 : True ∧ Blk w31 (g12) 26 (vc p4) := ⟨trivial, (kb K23 D32)⟩
  refine hK _ _ hS33 ?_
  clear hK K hS28
  refine tk 3 (bm 12 15) ?vq34 ?aq34 rfl (by kernel_rfl) (fun _ _ _ h => h) (by kernel_rfl) ?hq34 ?pq34 hS33 ?rq34
  case hq34 => (intro w hS; go_simp; try with_reducible rfl)
  case pq34 => (go_simp; try with_reducible rfl)
  refine tk 4 (bm 12 31) ?vq35 ?aq35 rfl (by kernel_rfl) (fun _ _ _ h => h) (by kernel_rfl) ?hq35 ?pq35 hS33 ?rq35
  case hq35 => (intro w hS; go_simp; try with_reducible rfl)
  case pq35 => (go_simp; try with_reducible rfl)
  refine tk 5 (bm 12 63) ?vq36 ?aq36 rfl (by kernel_rfl) (fun _ _ _ h => h) (by kernel_rfl) ?hq36 ?pq36 hS33 ?rq36
  case hq36 => (intro w hS; go_simp; try with_reducible rfl)
  case pq36 => (go_simp; try with_reducible rfl)
  refine tk 8 (bm 12 319) ?vq37 ?aq37 rfl (by kernel_rfl) (fun _ _ _ h => h) (by kernel_rfl) ?hq37 ?pq37 hS33 ?rq37
  case hq37 => (intro w hS; go_simp; try with_reducible rfl)
  case pq37 => (go_simp; try with_reducible rfl)
  refine wpAnyH_oneN (i := 6) (l' := bm 12 383) rfl (by kernel_rfl) (by kernel_rfl) (by kernel_rfl) (fun K hK => ?_)
  go_simp
  go_at_call 62
  refine (C6.out _).mono ?_
  rintro r w38 ⟨rfl, hb⟩
  dsimp only
  have D39 := ds D32 hb
  clear D32
  clear hb
  have hS40 : True ∧ Blk w38 (g12) 26 (vc p4) := ⟨trivial, (kb K23 D39)⟩
  refine hK _ _ hS40 ?_
  clear hK K hS33
  refine wpAnyH_oneN (i := 7) (l' := bm 12 511) rfl (by kernel_rfl) (by kernel_rfl) (by kernel_rfl) (fun K hK => ?_)
  go_simp
  go_at_call 64
  refine (C7.out _).mono ?_
  rintro r w41 ⟨rfl, hb⟩
  dsimp only
  have D42 := ds D39 hb
  clear D39
  clear hb
  have hS43 : True ∧ Blk w41 (g12) 26 (vc p4) := ⟨trivial, (kb K23 D42)⟩
  refine hK _ _ hS43 ?_
  clear hK K hS40
  refine tk 9 (bm 12 1023) ?vq44 ?aq44 rfl (by kernel_rfl) (fun _ _ _ h => h) (by kernel_rfl) ?hq44 ?pq44 hS43 ?rq44
  case hq44 => (intro w hS; go_simp; try with_reducible rfl)
  case pq44 => (go_simp; try with_reducible rfl)
  refine tk 10 (bm 12 2047) ?vq45 ?aq45 rfl (by kernel_rfl) (fun _ _ _ h => h) (by kernel_rfl) ?hq45 ?pq45 hS43 ?rq45
  case hq45 => (intro w hS; go_simp; try with_reducible rfl)
  case pq45 => (go_simp; try with_reducible rfl)
  refine tk 11 (bm 12 4095) ?vq46 ?aq46 rfl (by kernel_rfl) (fun _ _ _ h => h) (by kernel_rfl) ?hq46 ?pq46 hS43 ?rq46
  case hq46 => (intro w hS; go_simp; try with_reducible rfl)
  case pq46 => (go_simp; try with_reducible rfl)
  refine wpAnyH_done (by kernel_rfl) ?_ _
  clear hS43
  go_wp2_with fail
  go_ret
  exact ⟨rfl, below_step HB24.out D42.out⟩
end Go.Proofs.Ytdgaaceebghcpaa
