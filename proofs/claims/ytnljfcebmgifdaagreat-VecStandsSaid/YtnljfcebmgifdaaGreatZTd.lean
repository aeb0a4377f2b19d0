/- Shaken: Td. -/
import Derived.Test.YtnljfcebmgifdaaGreatZTx
set_option maxRecDepth 100000
set_option maxHeartbeats 8000000
set_option linter.unusedVariables false
set_option linter.unusedSimpArgs false
namespace Go.Proofs.YtnljfcebmgifdaaGreat
open Go.RowKit Fl
theorem rsameV_self (a : V3) (w : World) : Calls Tryz.prog 11 #[Value.agg #[.float .f64 a.x.lo, .float .f64 a.x.hi, .float .f64 a.y.lo, .float .f64 a.y.hi, .float .f64 a.z.lo, .float .f64 a.z.hi], Value.agg #[.float .f64 a.x.lo, .float .f64 a.x.hi, .float .f64 a.y.lo, .float .f64 a.y.hi, .float .f64 a.z.lo, .float .f64 a.z.hi]] w fun r w' => r = .returned (.bool true) ∧ Below w.heap.size w w' := by
 have C0 := Lib.hid (fun w => rsame_sp a.x w)
 have C1 := Lib.hid (fun w => rsame_sp a.y w)
 have C2 := Lib.hid (fun w => rsame_sp a.z w)
 go_enter Tryz.func11, Tryz.ntmps11
 go_wp2_with fail
 obtain ⟨W, hW, K0, K1, hB, hz⟩ := bx2 w 26 26 (vc a) (vc a)
 rw [← hW]
 have K0 := Lib.hid K0
 have K1 := Lib.hid K1
 have HB := Lib.hid hB
 clear hW hB hz
 have D1 := dr W
 refine (C0.out _).mono ?_
 rintro r w2 ⟨rfl, hb⟩
 have D3 := ds D1 hb
 clear D1
 clear hb
 have hq4 := (kb K0 D3).cellsL 2 [.float .f64 a.y.lo, .float .f64 a.y.hi] rfl
 dsimp only [CellsL, al, vl, Nat.reduceAdd] at hq4
 have hq5 := (kb K1 D3).cellsL 2 [.float .f64 a.y.lo, .float .f64 a.y.hi] rfl
 dsimp only [CellsL, al, vl, Nat.reduceAdd] at hq5
 go_wp2_with fail
 clear hq4 hq5
 refine (C1.out _).mono ?_
 rintro r w6 ⟨rfl, hb⟩
 have D7 := ds D3 hb
 clear D3
 clear hb
 have hq8 := (kb K0 D7).cellsL 4 [.float .f64 a.z.lo, .float .f64 a.z.hi] rfl
 dsimp only [CellsL, al, vl, Nat.reduceAdd] at hq8
 have hq9 := (kb K1 D7).cellsL 4 [.float .f64 a.z.lo, .float .f64 a.z.hi] rfl
 dsimp only [CellsL, al, vl, Nat.reduceAdd] at hq9
 go_wp2_with fail
 clear hq8 hq9
 refine (C2.out _).mono ?_
 rintro r w10 ⟨rfl, hb⟩
 have D11 := ds D7 hb
 clear D7
 clear hb
 go_wp2_with fail
 go_ret
 exact ⟨rfl, below_step HB.out D11.out⟩
theorem rvalidV_f (a0 a1 b0 b1 c0 c1 : Nat) (ha0 : a0 < 18446744073709551616) (ha1 : a1 < 18446744073709551616) (hb0 : b0 < 18446744073709551616) (hb1 : b1 < 18446744073709551616) (hc0 : c0 < 18446744073709551616) (hc1 : c1 < 18446744073709551616) (v0 : vdB a0 a1 = false) (w : World) : Calls Tryz.prog 8 #[Value.agg #[.float .f64 a0, .float .f64 a1, .float .f64 b0, .float .f64 b1, .float .f64 c0, .float .f64 c1]] w fun r w' => r = .returned (.bool false) ∧ Below w.heap.size w w' := by
 have C0 := Lib.hid (fun w => rvalid_any a0 a1 ha0 ha1 w)
 rw [v0] at C0
 go_enter Tryz.func8, Tryz.ntmps8
 go_wp2_with fail
 obtain ⟨W, hW, K0, hB, hz⟩ := bx1 w 26 #[.float .f64 a0, .float .f64 a1, .float .f64 b0, .float .f64 b1, .float .f64 c0, .float .f64 c1]
 rw [← hW]
 have K0 := Lib.hid K0
 have HB := Lib.hid hB
 clear hW hB hz
 have D1 := dr W
 refine (C0.out _).mono ?_
 rintro r w2 ⟨rfl, hb⟩
 have D3 := ds D1 hb
 clear D1
 clear hb
 go_wp2_with fail
 go_ret
 exact ⟨rfl, below_step HB.out D3.out⟩
theorem rvalidV_tf (a0 a1 b0 b1 c0 c1 : Nat) (ha0 : a0 < 18446744073709551616) (ha1 : a1 < 18446744073709551616) (hb0 : b0 < 18446744073709551616) (hb1 : b1 < 18446744073709551616) (hc0 : c0 < 18446744073709551616) (hc1 : c1 < 18446744073709551616) (v0 : vdB a0 a1 = true) (v1 : vdB b0 b1 = false) (w : World) : Calls Tryz.prog 8 #[Value.agg #[.float .f64 a0, .float .f64 a1, .float .f64 b0, .float .f64 b1, .float .f64 c0, .float .f64 c1]] w fun r w' => r = .returned (.bool false) ∧ Below w.heap.size w w' := by
 have C0 := Lib.hid (fun w => rvalid_any a0 a1 ha0 ha1 w)
 rw [v0] at C0
 have C1 := Lib.hid (fun w => rvalid_any b0 b1 hb0 hb1 w)
 rw [v1] at C1
 go_enter Tryz.func8, Tryz.ntmps8
 go_wp2_with fail
 obtain ⟨W, hW, K0, hB, hz⟩ := bx1 w 26 #[.float .f64 a0, .float .f64 a1, .float .f64 b0, .float .f64 b1, .float .f64 c0, .float .f64 c1]
 rw [← hW]
 have K0 := Lib.hid K0
 have HB := Lib.hid hB
 clear hW hB hz
 have D1 := dr W
 refine (C0.out _).mono ?_
 rintro r w2 ⟨rfl, hb⟩
 have D3 := ds D1 hb
 clear D1
 clear hb
 have hq4 := (kb K0 D3).cellsL 2 [.float .f64 b0, .float .f64 b1] rfl
 dsimp only [CellsL, al, vl, Nat.reduceAdd] at hq4
 go_wp2_with fail
 clear hq4
 refine (C1.out _).mono ?_
 rintro r w5 ⟨rfl, hb⟩
 have D6 := ds D3 hb
 clear D3
 clear hb
 go_wp2_with fail
 go_ret
 exact ⟨rfl, below_step HB.out D6.out⟩
theorem rvalidV_ttf (a0 a1 b0 b1 c0 c1 : Nat) (ha0 : a0 < 18446744073709551616) (ha1 : a1 < 18446744073709551616) (hb0 : b0 < 18446744073709551616) (hb1 : b1 < 18446744073709551616) (hc0 : c0 < 18446744073709551616) (hc1 : c1 < 18446744073709551616) (v0 : vdB a0 a1 = true) (v1 : vdB b0 b1 = true) (v2 : vdB c0 c1 = false) (w : World) : Calls Tryz.prog 8 #[Value.agg #[.float .f64 a0, .float .f64 a1, .float .f64 b0, .float .f64 b1, .float .f64 c0, .float .f64 c1]] w fun r w' => r = .returned (.bool false) ∧ Below w.heap.size w w' := by
 have C0 := Lib.hid (fun w => rvalid_any a0 a1 ha0 ha1 w)
 rw [v0] at C0
 have C1 := Lib.hid (fun w => rvalid_any b0 b1 hb0 hb1 w)
 rw [v1] at C1
 have C2 := Lib.hid (fun w => rvalid_any c0 c1 hc0 hc1 w)
 rw [v2] at C2
 go_enter Tryz.func8, Tryz.ntmps8
 go_wp2_with fail
 obtain ⟨W, hW, K0, hB, hz⟩ := bx1 w 26 #[.float .f64 a0, .float .f64 a1, .float .f64 b0, .float .f64 b1, .float .f64 c0, .float .f64 c1]
 rw [← hW]
 have K0 := Lib.hid K0
 have HB := Lib.hid hB
 clear hW hB hz
 have D1 := dr W
 refine (C0.out _).mono ?_
 rintro r w2 ⟨rfl, hb⟩
 have D3 := ds D1 hb
 clear D1
 clear hb
 have hq4 := (kb K0 D3).cellsL 2 [.float .f64 b0, .float .f64 b1] rfl
 dsimp only [CellsL, al, vl, Nat.reduceAdd] at hq4
 go_wp2_with fail
 clear hq4
 refine (C1.out _).mono ?_
 rintro r w5 ⟨rfl, hb⟩
 have D6 := ds D3 hb
 clear D3
 clear hb
 have hq7 := (kb K0 D6).cellsL 4 [.float .f64 c0, .float .f64 c1] rfl
 dsimp only [CellsL, al, vl, Nat.reduceAdd] at hq7
 go_wp2_with fail
 clear hq7
 refine (C2.out _).mono ?_
 rintro r w8 ⟨rfl, hb⟩
 have D9 := ds D6 hb
 clear D6
 clear hb
 go_wp2_with fail
 go_ret
 exact ⟨rfl, below_step HB.out D9.out⟩
theorem rvalidV_ttt (a0 a1 b0 b1 c0 c1 : Nat) (ha0 : a0 < 18446744073709551616) (ha1 : a1 < 18446744073709551616) (hb0 : b0 < 18446744073709551616) (hb1 : b1 < 18446744073709551616) (hc0 : c0 < 18446744073709551616) (hc1 : c1 < 18446744073709551616) (v0 : vdB a0 a1 = true) (v1 : vdB b0 b1 = true) (v2 : vdB c0 c1 = true) (w : World) : Calls Tryz.prog 8 #[Value.agg #[.float .f64 a0, .float .f64 a1, .float .f64 b0, .float .f64 b1, .float .f64 c0, .float .f64 c1]] w fun r w' => r = .returned (.bool true) ∧ Below w.heap.size w w' := by
 have C0 := Lib.hid (fun w => rvalid_any a0 a1 ha0 ha1 w)
 rw [v0] at C0
 have C1 := Lib.hid (fun w => rvalid_any b0 b1 hb0 hb1 w)
 rw [v1] at C1
 have C2 := Lib.hid (fun w => rvalid_any c0 c1 hc0 hc1 w)
 rw [v2] at C2
 go_enter Tryz.func8, Tryz.ntmps8
 go_wp2_with fail
 obtain ⟨W, hW, K0, hB, hz⟩ := bx1 w 26 #[.float .f64 a0, .float .f64 a1, .float .f64 b0, .float .f64 b1, .float .f64 c0, .float .f64 c1]
 rw [← hW]
 have K0 := Lib.hid K0
 have HB := Lib.hid hB
 clear hW hB hz
 have D1 := dr W
 refine (C0.out _).mono ?_
 rintro r w2 ⟨rfl, hb⟩
 have D3 := ds D1 hb
 clear D1
 clear hb
 have hq4 := (kb K0 D3).cellsL 2 [.float .f64 b0, .float .f64 b1] rfl
 dsimp only [CellsL, al, vl, Nat.reduceAdd] at hq4
 go_wp2_with fail
 clear hq4
 refine (C1.out _).mono ?_
 rintro r w5 ⟨rfl, hb⟩
 have D6 := ds D3 hb
 clear D3
 clear hb
 have hq7 := (kb K0 D6).cellsL 4 [.float .f64 c0, .float .f64 c1] rfl
 dsimp only [CellsL, al, vl, Nat.reduceAdd] at hq7
 go_wp2_with fail
 clear hq7
 refine (C2.out _).mono ?_
 rintro r w8 ⟨rfl, hb⟩
 have D9 := ds D6 hb
 clear D6
 clear hb
 go_wp2_with fail
 go_ret
 exact ⟨rfl, below_step HB.out D9.out⟩
def vdV (a0 a1 b0 b1 c0 c1 : Nat) : Bool := vdB a0 a1 && vdB b0 b1 && vdB c0 c1
theorem rvalidV_any (a0 a1 b0 b1 c0 c1 : Nat) (ha0 : a0 < 18446744073709551616) (ha1 : a1 < 18446744073709551616) (hb0 : b0 < 18446744073709551616) (hb1 : b1 < 18446744073709551616) (hc0 : c0 < 18446744073709551616) (hc1 : c1 < 18446744073709551616) (w : World) : Calls Tryz.prog 8 #[.agg #[.float .f64 a0, .float .f64 a1, .float .f64 b0, .float .f64 b1, .float .f64 c0, .float .f64 c1]] w fun r w' => r = .returned (.bool (vdV a0 a1 b0 b1 c0 c1)) ∧ Below w.heap.size w w' := by
 unfold vdV
 cases h1 : vdB a0 a1
 · exact rvalidV_f a0 a1 b0 b1 c0 c1 ha0 ha1 hb0 hb1 hc0 hc1 h1 w
 · cases h2 : vdB b0 b1
   · exact rvalidV_tf a0 a1 b0 b1 c0 c1 ha0 ha1 hb0 hb1 hc0 hc1 h1 h2 w
   · cases h3 : vdB c0 c1
     · exact rvalidV_ttf a0 a1 b0 b1 c0 c1 ha0 ha1 hb0 hb1 hc0 hc1 h1 h2 h3 w
     · exact rvalidV_ttt a0 a1 b0 b1 c0 c1 ha0 ha1 hb0 hb1 hc0 hc1 h1 h2 h3 w
theorem rvalidV_v (a : V3) (w : World) : Calls Tryz.prog 8 #[vval a] w fun r w' => r = .returned (.bool true) ∧ Below w.heap.size w w' :=
 rvalidV_ttt _ _ _ _ _ _ a.x.vd.l.lt a.x.vd.h.lt a.y.vd.l.lt a.y.vd.h.lt a.z.vd.l.lt a.z.vd.h.lt (vdB_of a.x.vd) (vdB_of a.y.vd) (vdB_of a.z.vd) w
theorem v3_of {a0 a1 b0 b1 c0 c1 : Nat} (ha0 : a0 < 18446744073709551616) (ha1 : a1 < 18446744073709551616) (hb0 : b0 < 18446744073709551616) (hb1 : b1 < 18446744073709551616) (hc0 : c0 < 18446744073709551616) (hc1 : c1 < 18446744073709551616) (h : vdV a0 a1 b0 b1 c0 c1 = true) :
   ∃ a : V3, a.x.lo = a0 ∧ a.x.hi = a1 ∧ a.y.lo = b0 ∧ a.y.hi = b1 ∧ a.z.lo = c0 ∧ a.z.hi = c1 := by
 unfold vdV at h
 have ⟨⟨h1, h2⟩, h3⟩ : (vdB a0 a1 = true ∧ vdB b0 b1 = true) ∧ vdB c0 c1 = true := by simpa using h
 exact ⟨⟨⟨a0, a1, vdB_true ha0 ha1 h1⟩, ⟨b0, b1, vdB_true hb0 hb1 h2⟩, ⟨c0, c1, vdB_true hc0 hc1 h3⟩⟩, rfl, rfl, rfl, rfl, rfl, rfl⟩
end Go.Proofs.YtnljfcebmgifdaaGreat
