/- Shaken: Sa Ge Gf Td Ta RowV Bs2. -/
import Derived.Test.YtnljfcebmgifdaaZRef
set_option maxRecDepth 100000
set_option maxHeartbeats 8000000
set_option linter.unusedVariables false
set_option linter.unusedSimpArgs false
namespace Go.Proofs.Ytnljfcebmgifdaa
open Go.RowKit
theorem rpositive_any (a b : Nat) (p q : Bool) (h1 : (FloatKind.f64.format.order a 0 == some .gt) = p) (h2 : (FloatKind.f64.format.order b 0 == some .lt || FloatKind.f64.format.order b 0 == some .eq) = q) (w : World) : Calls Try.prog 96 #[.agg #[.float .f64 a, .float .f64 b]] w fun r w' => r = .returned (.int .i64 (if p then 1 else if q then 0 else 2)) ∧ ∃ o, w' = w.alloc o := by
 cases p
 · cases q
   all_goals (go_enter Try.func96, Try.ntmps96; go_wp2_with fail; go_ret; exact ⟨rfl, _, rfl⟩)
 · go_enter Try.func96, Try.ntmps96
   go_wp2_with fail
   go_ret
   exact ⟨rfl, _, rfl⟩
end Go.Proofs.Ytnljfcebmgifdaa
set_option linter.unusedVariables false
set_option linter.unusedSimpArgs false
namespace Go.Proofs.Ytnljfcebmgifdaa
end Go.Proofs.Ytnljfcebmgifdaa
namespace Go.Proofs.Ytnljfcebmgifdaa
open Go.RowKit
end Go.Proofs.Ytnljfcebmgifdaa
namespace Go.Proofs.Ytnljfcebmgifdaa
open Go.RowKit Fl
end Go.Proofs.Ytnljfcebmgifdaa
namespace Go.Proofs.Ytnljfcebmgifdaa
open Go.RowKit Fl
end Go.Proofs.Ytnljfcebmgifdaa
namespace Go.Proofs.Ytnljfcebmgifdaa
open Go.RowKit Fl
end Go.Proofs.Ytnljfcebmgifdaa
namespace Go.Proofs.Ytnljfcebmgifdaa
open Go.RowKit Fl
theorem rsub_sp (a b : Sp) (w : World) : Calls Try.prog 128 #[.agg #[.float .f64 a.lo, .float .f64 a.hi], .agg #[.float .f64 b.lo, .float .f64 b.hi]] w fun r w' => r = .returned (.agg #[.float .f64 (subS a b).lo, .float .f64 (subS a b).hi]) ∧ Below w.heap.size w w' := by
 have H1 := Lib.hid (fun w => rneg_sp b w)
 have H2 := Lib.hid (fun w => radd_sp a (negS b) w)
 unfold subS
 generalize addS a (negS b) = x at *
 generalize negS b = n at *
 go_enter Try.func128, Try.ntmps128
 go_wp2_with fail
 obtain ⟨W, hW, K0, K1, K2, hB, hz⟩ := box3 w 28 28 28 #[Value.float FloatKind.f64 a.lo, Value.float FloatKind.f64 a.hi] #[Value.float FloatKind.f64 b.lo, Value.float FloatKind.f64 b.hi] #[Value.float FloatKind.f64 0, Value.float FloatKind.f64 0]
 rw [← hW]
 have K0 := Lib.hid K0
 have K1 := Lib.hid K1
 have K2 := Lib.hid K2
 have HB := Lib.hid hB
 clear hW hB hz
 have HO := Lib.hid (show ∀ w', Hd W (w.heap.size + 1 + 1) 28 2 w' → (Hd W (w.heap.size + 1 + 1) 28 2 w' ∧ w'.cell? ⟨w.heap.size, 0, none⟩ = some (Value.float FloatKind.f64 a.lo) ∧ w'.cell? ⟨w.heap.size, 1, none⟩ = some (Value.float FloatKind.f64 a.hi) ∧ w'.cell? ⟨w.heap.size + 1, 0, none⟩ = some (Value.float FloatKind.f64 b.lo) ∧ w'.cell? ⟨w.heap.size + 1, 1, none⟩ = some (Value.float FloatKind.f64 b.hi) ∧ w'.cell? ⟨w.heap.size + 1 + 1, 0, none⟩ = some (cellAt w' ⟨w.heap.size + 1 + 1, 0, none⟩) ∧ w'.frozen? ⟨w.heap.size + 1 + 1, 0, none⟩ = false ∧ w'.cell? ⟨w.heap.size + 1 + 1, 1, none⟩ = some (cellAt w' ⟨w.heap.size + 1 + 1, 1, none⟩) ∧ w'.frozen? ⟨w.heap.size + 1 + 1, 1, none⟩ = false) from fun w' h => ⟨h, (h.blk K0.out (by omega)).cell 0, (h.blk K0.out (by omega)).cell 1, (h.blk K1.out (by omega)).cell 0, (h.blk K1.out (by omega)).cell 1, (h.at_ 0 (by decide)).1, (h.at_ 0 (by decide)).2, (h.at_ 1 (by decide)).1, (h.at_ 1 (by decide)).2⟩)
 have D0 := Lib.hid (show Hd W (w.heap.size + 1 + 1) 28 2 W from Hd.start K2.out)
 go_region_held3 (fun w' => Hd W (w.heap.size + 1 + 1) 28 2 w' ∧ w'.cell? ⟨w.heap.size, 0, none⟩ = some (Value.float FloatKind.f64 a.lo) ∧ w'.cell? ⟨w.heap.size, 1, none⟩ = some (Value.float FloatKind.f64 a.hi) ∧ w'.cell? ⟨w.heap.size + 1, 0, none⟩ = some (Value.float FloatKind.f64 b.lo) ∧ w'.cell? ⟨w.heap.size + 1, 1, none⟩ = some (Value.float FloatKind.f64 b.hi) ∧ w'.cell? ⟨w.heap.size + 1 + 1, 0, none⟩ = some (cellAt w' ⟨w.heap.size + 1 + 1, 0, none⟩) ∧ w'.frozen? ⟨w.heap.size + 1 + 1, 0, none⟩ = false ∧ w'.cell? ⟨w.heap.size + 1 + 1, 1, none⟩ = some (cellAt w' ⟨w.heap.size + 1 + 1, 1, none⟩) ∧ w'.frozen? ⟨w.heap.size + 1 + 1, 1, none⟩ = false)
   (exact HO.out _ (by first | exact D0.out.drew | exact Hd.call (And.left (by assumption)) hb | exact And.left (by assumption) | exact Hd.set (Hd.set (And.left (by assumption)) _ _) _ _))
   (first
     | ((go_simp; go_at_call 73; refine (H1.out _).mono ?_; rintro r w' ⟨rfl, hb⟩; dsimp only))
     | ((go_simp; go_at_call 71; refine (H2.out _).mono ?_; rintro r w' ⟨rfl, hb⟩; dsimp only)))
 go_wp2_with fail
 (try simp only [Exit.inBlock, Exit.then])
 have hF := And.left (by assumption)
 refine bodyPost_ret (resS rfl _ _ (w.heap.size + 1 + 1) (.float .f64 x.lo) (.float .f64 x.hi) rfl (Hd.wrote2 hF)) rfl ⟨rfl, Hd.below hF HB.out (by omega)⟩
end Go.Proofs.Ytnljfcebmgifdaa
set_option linter.unusedVariables false
set_option linter.unusedSimpArgs false
namespace Go.Proofs.Ytnljfcebmgifdaa
open Go.RowKit Fl
end Go.Proofs.Ytnljfcebmgifdaa
namespace Go.Proofs.Ytnljfcebmgifdaa
open Go.RowKit Fl
theorem rpos_sp (a : Sp) (w : World) : Calls Try.prog 96 #[.agg #[.float .f64 a.lo, .float .f64 a.hi]] w fun r w' => r = .returned (.int .i64 (posS a : Nat)) ∧ Below w.heap.size w w' := by
 refine (rpositive_any a.lo a.hi _ _ (gt0_gd a.vd.l) (le0_gd a.vd.h) w).mono ?_
 rintro _ _ ⟨rfl, o, rfl⟩
 refine ⟨?_, below_new w o⟩
 unfold posS
 by_cases h1 : 0 < Z a.lo
 · simp [h1]
 · by_cases h2 : Z a.hi ≤ 0 <;> simp [h1, h2]
end Go.Proofs.Ytnljfcebmgifdaa
namespace Go.Proofs.Ytnljfcebmgifdaa
open Go.RowKit Fl
end Go.Proofs.Ytnljfcebmgifdaa
namespace Go.Proofs.Ytnljfcebmgifdaa
open Go.RowKit Fl
end Go.Proofs.Ytnljfcebmgifdaa
namespace Go.Proofs.Ytnljfcebmgifdaa
open Go.RowKit Fl
end Go.Proofs.Ytnljfcebmgifdaa
namespace Go.Proofs.Ytnljfcebmgifdaa
open Go.RowKit Fl
end Go.Proofs.Ytnljfcebmgifdaa
set_option linter.unusedVariables false
set_option linter.unusedSimpArgs false
namespace Go.Proofs.Ytnljfcebmgifdaa
open Go.RowKit Fl
theorem rvalidV_f (a0 a1 b0 b1 c0 c1 : Nat) (ha0 : a0 < 18446744073709551616) (ha1 : a1 < 18446744073709551616) (hb0 : b0 < 18446744073709551616) (hb1 : b1 < 18446744073709551616) (hc0 : c0 < 18446744073709551616) (hc1 : c1 < 18446744073709551616) (v0 : vdB a0 a1 = false) (w : World) : Calls Try.prog 35 #[Value.agg #[.float .f64 a0, .float .f64 a1, .float .f64 b0, .float .f64 b1, .float .f64 c0, .float .f64 c1]] w fun r w' => r = .returned (.bool false) ∧ Below w.heap.size w w' := by
 have C0 := Lib.hid (fun w => rvalid_any a0 a1 ha0 ha1 w)
 rw [v0] at C0
 go_enter Try.func35, Try.ntmps35
 go_wp2_with fail
 obtain ⟨W, hW, K0, hB, hz⟩ := bx1 w 30 #[.float .f64 a0, .float .f64 a1, .float .f64 b0, .float .f64 b1, .float .f64 c0, .float .f64 c1]
 rw [← hW]
 have K0 := Lib.hid K0
 have HB := Lib.hid hB
 clear hW hB hz
 have D1 := dr W
 refine (C0.out _).mono ?_
 rintro r w2 ⟨rfl, hb⟩
 have D3 := ds D1 hb
 clear D1
 clear hb
 go_wp2_with fail
 go_ret
 exact ⟨rfl, below_step HB.out D3.out⟩
theorem rvalidV_tf (a0 a1 b0 b1 c0 c1 : Nat) (ha0 : a0 < 18446744073709551616) (ha1 : a1 < 18446744073709551616) (hb0 : b0 < 18446744073709551616) (hb1 : b1 < 18446744073709551616) (hc0 : c0 < 18446744073709551616) (hc1 : c1 < 18446744073709551616) (v0 : vdB a0 a1 = true) (v1 : vdB b0 b1 = false) (w : World) : Calls Try.prog 35 #[Value.agg #[.float .f64 a0, .float .f64 a1, .float .f64 b0, .float .f64 b1, .float .f64 c0, .float .f64 c1]] w fun r w' => r = .returned (.bool false) ∧ Below w.heap.size w w' := by
 have C0 := Lib.hid (fun w => rvalid_any a0 a1 ha0 ha1 w)
 rw [v0] at C0
 have C1 := Lib.hid (fun w => rvalid_any b0 b1 hb0 hb1 w)
 rw [v1] at C1
 go_enter Try.func35, Try.ntmps35
 go_wp2_with fail
 obtain ⟨W, hW, K0, hB, hz⟩ := bx1 w 30 #[.float .f64 a0, .float .f64 a1, .float .f64 b0, .float .f64 b1, .float .f64 c0, .float .f64 c1]
 rw [← hW]
 have K0 := Lib.hid K0
 have HB := Lib.hid hB
 clear hW hB hz
 have D1 := dr W
 refine (C0.out _).mono ?_
 rintro r w2 ⟨rfl, hb⟩
 have D3 := ds D1 hb
 clear D1
 clear hb
 have hq4 := (kb K0 D3).cellsL 2 [.float .f64 b0, .float .f64 b1] rfl
 dsimp only [CellsL, al, vl, Nat.reduceAdd] at hq4
 go_wp2_with fail
 clear hq4
 refine (C1.out _).mono ?_
 rintro r w5 ⟨rfl, hb⟩
 have D6 := ds D3 hb
 clear D3
 clear hb
 go_wp2_with fail
 go_ret
 exact ⟨rfl, below_step HB.out D6.out⟩
theorem rvalidV_ttf (a0 a1 b0 b1 c0 c1 : Nat) (ha0 : a0 < 18446744073709551616) (ha1 : a1 < 18446744073709551616) (hb0 : b0 < 18446744073709551616) (hb1 : b1 < 18446744073709551616) (hc0 : c0 < 18446744073709551616) (hc1 : c1 < 18446744073709551616) (v0 : vdB a0 a1 = true) (v1 : vdB b0 b1 = true) (v2 : vdB c0 c1 = false) (w : World) : Calls Try.prog 35 #[Value.agg #[.float .f64 a0, .float .f64 a1, .float .f64 b0, .float .f64 b1, .float .f64 c0, .float .f64 c1]] w fun r w' => r = .returned (.bool false) ∧ Below w.heap.size w w' := by
 have C0 := Lib.hid (fun w => rvalid_any a0 a1 ha0 ha1 w)
 rw [v0] at C0
 have C1 := Lib.hid (fun w => rvalid_any b0 b1 hb0 hb1 w)
 rw [v1] at C1
 have C2 := Lib.hid (fun w => rvalid_any c0 c1 hc0 hc1 w)
 rw [v2] at C2
 go_enter Try.func35, Try.ntmps35
 go_wp2_with fail
 obtain ⟨W, hW, K0, hB, hz⟩ := bx1 w 30 #[.float .f64 a0, .float .f64 a1, .float .f64 b0, .float .f64 b1, .float .f64 c0, .float .f64 c1]
 rw [← hW]
 have K0 := Lib.hid K0
 have HB := Lib.hid hB
 clear hW hB hz
 have D1 := dr W
 refine (C0.out _).mono ?_
 rintro r w2 ⟨rfl, hb⟩
 have D3 := ds D1 hb
 clear D1
 clear hb
 have hq4 := (kb K0 D3).cellsL 2 [.float .f64 b0, .float .f64 b1] rfl
 dsimp only [CellsL, al, vl, Nat.reduceAdd] at hq4
 go_wp2_with fail
 clear hq4
 refine (C1.out _).mono ?_
 rintro r w5 ⟨rfl, hb⟩
 have D6 := ds D3 hb
 clear D3
 clear hb
 have hq7 := (kb K0 D6).cellsL 4 [.float .f64 c0, .float .f64 c1] rfl
 dsimp only [CellsL, al, vl, Nat.reduceAdd] at hq7
 go_wp2_with fail
 clear hq7
 refine (C2.out _).mono ?_
 rintro r w8 ⟨rfl, hb⟩
 have D9 := ds D6 hb
 clear D6
 clear hb
 go_wp2_with fail
 go_ret
 exact ⟨rfl, below_step HB.out D9.out⟩
theorem rvalidV_ttt (a0 a1 b0 b1 c0 c1 : Nat) (ha0 : a0 < 18446744073709551616) (ha1 : a1 < 18446744073709551616) (hb0 : b0 < 18446744073709551616) (hb1 : b1 < 18446744073709551616) (hc0 : c0 < 18446744073709551616) (hc1 : c1 < 18446744073709551616) (v0 : vdB a0 a1 = true) (v1 : vdB b0 b1 = true) (v2 : vdB c0 c1 = true) (w : World) : Calls Try.prog 35 #[Value.agg #[.float .f64 a0, .float .f64 a1, .float .f64 b0, .float .f64 b1, .float .f64 c0, .float .f64 c1]] w fun r w' => r = .returned (.bool true) ∧ Below w.heap.size w w' := by
 have C0 := Lib.hid (fun w => rvalid_any a0 a1 ha0 ha1 w)
 rw [v0] at C0
 have C1 := Lib.hid (fun w => rvalid_any b0 b1 hb0 hb1 w)
 rw [v1] at C1
 have C2 := Lib.hid (fun w => rvalid_any c0 c1 hc0 hc1 w)
 rw [v2] at C2
 go_enter Try.func35, Try.ntmps35
 go_wp2_with fail
 obtain ⟨W, hW, K0, hB, hz⟩ := bx1 w 30 #[.float .f64 a0, .float .f64 a1, .float .f64 b0, .float .f64 b1, .float .f64 c0, .float .f64 c1]
 rw [← hW]
 have K0 := Lib.hid K0
 have HB := Lib.hid hB
 clear hW hB hz
 have D1 := dr W
 refine (C0.out _).mono ?_
 rintro r w2 ⟨rfl, hb⟩
 have D3 := ds D1 hb
 clear D1
 clear hb
 have hq4 := (kb K0 D3).cellsL 2 [.float .f64 b0, .float .f64 b1] rfl
 dsimp only [CellsL, al, vl, Nat.reduceAdd] at hq4
 go_wp2_with fail
 clear hq4
 refine (C1.out _).mono ?_
 rintro r w5 ⟨rfl, hb⟩
 have D6 := ds D3 hb
 clear D3
 clear hb
 have hq7 := (kb K0 D6).cellsL 4 [.float .f64 c0, .float .f64 c1] rfl
 dsimp only [CellsL, al, vl, Nat.reduceAdd] at hq7
 go_wp2_with fail
 clear hq7
 refine (C2.out _).mono ?_
 rintro r w8 ⟨rfl, hb⟩
 have D9 := ds D6 hb
 clear D6
 clear hb
 go_wp2_with fail
 go_ret
 exact ⟨rfl, below_step HB.out D9.out⟩
def vdV (a0 a1 b0 b1 c0 c1 : Nat) : Bool := vdB a0 a1 && vdB b0 b1 && vdB c0 c1
theorem rvalidV_any (a0 a1 b0 b1 c0 c1 : Nat) (ha0 : a0 < 18446744073709551616) (ha1 : a1 < 18446744073709551616) (hb0 : b0 < 18446744073709551616) (hb1 : b1 < 18446744073709551616) (hc0 : c0 < 18446744073709551616) (hc1 : c1 < 18446744073709551616) (w : World) : Calls Try.prog 35 #[.agg #[.float .f64 a0, .float .f64 a1, .float .f64 b0, .float .f64 b1, .float .f64 c0, .float .f64 c1]] w fun r w' => r = .returned (.bool (vdV a0 a1 b0 b1 c0 c1)) ∧ Below w.heap.size w w' := by
 unfold vdV
 cases h1 : vdB a0 a1
 · exact rvalidV_f a0 a1 b0 b1 c0 c1 ha0 ha1 hb0 hb1 hc0 hc1 h1 w
 · cases h2 : vdB b0 b1
   · exact rvalidV_tf a0 a1 b0 b1 c0 c1 ha0 ha1 hb0 hb1 hc0 hc1 h1 h2 w
   · cases h3 : vdB c0 c1
     · exact rvalidV_ttf a0 a1 b0 b1 c0 c1 ha0 ha1 hb0 hb1 hc0 hc1 h1 h2 h3 w
     · exact rvalidV_ttt a0 a1 b0 b1 c0 c1 ha0 ha1 hb0 hb1 hc0 hc1 h1 h2 h3 w
theorem rvalidV_v (a : V3) (w : World) : Calls Try.prog 35 #[vval a] w fun r w' => r = .returned (.bool true) ∧ Below w.heap.size w w' :=
 rvalidV_ttt _ _ _ _ _ _ a.x.vd.l.lt a.x.vd.h.lt a.y.vd.l.lt a.y.vd.h.lt a.z.vd.l.lt a.z.vd.h.lt (vdB_of a.x.vd) (vdB_of a.y.vd) (vdB_of a.z.vd) w
theorem v3_of {a0 a1 b0 b1 c0 c1 : Nat} (ha0 : a0 < 18446744073709551616) (ha1 : a1 < 18446744073709551616) (hb0 : b0 < 18446744073709551616) (hb1 : b1 < 18446744073709551616) (hc0 : c0 < 18446744073709551616) (hc1 : c1 < 18446744073709551616) (h : vdV a0 a1 b0 b1 c0 c1 = true) :
   ∃ a : V3, a.x.lo = a0 ∧ a.x.hi = a1 ∧ a.y.lo = b0 ∧ a.y.hi = b1 ∧ a.z.lo = c0 ∧ a.z.hi = c1 := by
 unfold vdV at h
 have ⟨⟨h1, h2⟩, h3⟩ : (vdB a0 a1 = true ∧ vdB b0 b1 = true) ∧ vdB c0 c1 = true := by simpa using h
 exact ⟨⟨⟨a0, a1, vdB_true ha0 ha1 h1⟩, ⟨b0, b1, vdB_true hb0 hb1 h2⟩, ⟨c0, c1, vdB_true hc0 hc1 h3⟩⟩, rfl, rfl, rfl, rfl, rfl, rfl⟩
end Go.Proofs.Ytnljfcebmgifdaa
set_option linter.unusedVariables false
set_option linter.unusedSimpArgs false
namespace Go.Proofs.Ytnljfcebmgifdaa
open Go.RowKit Fl
theorem rsubV_any (a b : V3) (w : World) : Calls Try.prog 99 #[Value.agg #[.float .f64 a.x.lo, .float .f64 a.x.hi, .float .f64 a.y.lo, .float .f64 a.y.hi, .float .f64 a.z.lo, .float .f64 a.z.hi], Value.agg #[.float .f64 b.x.lo, .float .f64 b.x.hi, .float .f64 b.y.lo, .float .f64 b.y.hi, .float .f64 b.z.lo, .float .f64 b.z.hi]] w fun r w' => r = .returned (vval (vSub a b)) ∧ Below w.heap.size w w' := by
 have C0 := Lib.hid (fun w => rsub_sp a.x b.x w)
 obtain ⟨p0, hp0⟩ : ∃ z_, subS a.x b.x = z_ := ⟨_, rfl⟩
 rw [hp0] at C0
 have C1 := Lib.hid (fun w => rsub_sp a.y b.y w)
 obtain ⟨p1, hp1⟩ : ∃ z_, subS a.y b.y = z_ := ⟨_, rfl⟩
 rw [hp1] at C1
 have C2 := Lib.hid (fun w => rsub_sp a.z b.z w)
 obtain ⟨p2, hp2⟩ : ∃ z_, subS a.z b.z = z_ := ⟨_, rfl⟩
 rw [hp2] at C2
 have hT : vSub a b = (⟨p0, p1, p2⟩ : V3) := by
   subst hp0 hp1 hp2; rfl
 rw [hT]
 clear hT
 clear hp0 hp1 hp2
 go_enter Try.func99, Try.ntmps99
 go_wp2_with fail
 obtain ⟨W, hW, K0, K1, K2, hB, hz⟩ := bx3 w 30 30 30 (vc a) (vc b) #[.float .f64 0, .float .f64 0, .float .f64 0, .float .f64 0, .float .f64 0, .float .f64 0]
 rw [← hW]
 have K0 := Lib.hid K0
 have K1 := Lib.hid K1
 have K2 := Lib.hid K2
 have HB := Lib.hid hB
 clear hW hB hz
 have D1 := dr W
 refine wp_region_held (S := (fun w' => True ∧ CellsL w' (w.heap.size) 0 (vl a) ∧ CellsL w' (w.heap.size + 1) 0 (vl b))) (by kernel_rfl) ?_
 change wpAnyH _ _ _ _ _ _ _ _ (World.drew _)
 obtain ⟨wd2, hwd⟩ : ∃ x, x = World.drew W := ⟨_, rfl⟩
 rw [← hwd]
 have D3 := Lib.hid (hwd ▸ Below.drew D1.out : Below W.heap.size W wd2)
 clear D1 hwd
 have hS4 : True ∧ CellsL wd2 (w.heap.size) 0 (vl a) ∧ CellsL wd2 (w.heap.size + 1) 0 (vl b) := ⟨trivial, (kb K0 D3).cellsL 0 (vl a) rfl, (kb K1 D3).cellsL 0 (vl b) rfl⟩
 refine tkq 0 (bm 17 1) hS4 ?_
 refine tke 1 (bm 17 3) hS4 ?_
 refine tkq 2 (bm 17 7) hS4 ?_
 refine tke 3 (bm 17 15) hS4 ?_
 refine tkq 5 (bm 17 47) hS4 ?_
 refine tke 6 (bm 17 111) hS4 ?_
 refine tkq 7 (bm 17 239) hS4 ?_
 refine tke 8 (bm 17 495) hS4 ?_
 refine tkq 10 (bm 17 1519) hS4 ?_
 refine tke 11 (bm 17 3567) hS4 ?_
 refine tkq 12 (bm 17 7663) hS4 ?_
 refine tke 13 (bm 17 15855) hS4 ?_
 refine wpAnyH_oneN (i := 4) (l' := bm 17 15871) rfl (by kernel_rfl) (by kernel_rfl) (by kernel_rfl) (fun K hK => ?_)
 go_simp
 go_at_call 128
 refine (C0.out _).mono ?_
 rintro r w17 ⟨rfl, hb⟩
 dsimp only
 have D18 := ds D3 hb
 clear D3
 clear hb
 have hS19 : True ∧ CellsL w17 (w.heap.size) 0 (vl a) ∧ CellsL w17 (w.heap.size + 1) 0 (vl b) := ⟨trivial, (kb K0 D18).cellsL 0 (vl a) rfl, (kb K1 D18).cellsL 0 (vl b) rfl⟩
 refine hK _ _ hS19 ?_
 clear hK K hS4
 refine wpAnyH_oneN (i := 9) (l' := bm 17 16383) rfl (by kernel_rfl) (by kernel_rfl) (by kernel_rfl) (fun K hK => ?_)
 go_simp
 go_at_call 128
 refine (C1.out _).mono ?_
 rintro r w20 ⟨rfl, hb⟩
 dsimp only
 have D21 := ds D18 hb
 clear D18
 clear hb
 have hS22 : True ∧ CellsL w20 (w.heap.size) 0 (vl a) ∧ CellsL w20 (w.heap.size + 1) 0 (vl b) := ⟨trivial, (kb K0 D21).cellsL 0 (vl a) rfl, (kb K1 D21).cellsL 0 (vl b) rfl⟩
 refine hK _ _ hS22 ?_
 clear hK K hS19
 refine wpAnyH_oneN (i := 14) (l' := bm 17 32767) rfl (by kernel_rfl) (by kernel_rfl) (by kernel_rfl) (fun K hK => ?_)
 go_simp
 go_at_call 128
 refine (C2.out _).mono ?_
 rintro r w23 ⟨rfl, hb⟩
 dsimp only
 have D24 := ds D21 hb
 clear D21
 clear hb
 have hS25 : True ∧ CellsL w23 (w.heap.size) 0 (vl a) ∧ CellsL w23 (w.heap.size + 1) 0 (vl b) := ⟨trivial, (kb K0 D24).cellsL 0 (vl a) rfl, (kb K1 D24).cellsL 0 (vl b) rfl⟩
 refine hK _ _ hS25 ?_
 clear hK K hS22
 refine tkq 15 (bm 17 65535) hS25 ?_
 refine wpAnyH_oneN (i := 16) (l' := bm 17 131071) rfl (by kernel_rfl) (by kernel_rfl) (by kernel_rfl) (fun K hK => ?_)
 have f29 := (kb K2 D24)
 obtain ⟨V27, hV28⟩ : ∃ V, World.setRow w23 (w.heap.size + 1 + 1) #[.float .f64 p0.lo, .float .f64 p0.hi, .float .f64 p1.lo, .float .f64 p1.hi, .float .f64 p2.lo, .float .f64 p2.hi] = V := ⟨_, rfl⟩
 have K30 := kfr hV28 K0 D24 (by omega)
 have K31 := kfr hV28 K1 D24 (by omega)
 have K32 := ksr hV28 K2 D24
 have HB33 := hbr hV28 HB D24 (by omega)
 have D34 := dr V27
 clear K0 K1 K2 HB D24
 refine wp_store_row 30 _ _ rfl (w.heap.size + 1 + 1) #[.float .f64 p0.lo, .float .f64 p0.hi, .float .f64 p1.lo, .float .f64 p1.hi, .float .f64 p2.lo, .float .f64 p2.hi] rfl rfl _ _ f29 (by rw [info_V3]; rfl) rfl (by kernel_rfl) ?_
 rw [hV28]
 go_simp
 clear hV28 f29
 have hS35 : True ∧ CellsL V27 (w.heap.size) 0 (vl a) ∧ CellsL V27 (w.heap.size + 1) 0 (vl b) := ⟨trivial, (kb K30 D34).cellsL 0 (vl a) rfl, (kb K31 D34).cellsL 0 (vl b) rfl⟩
 refine hK _ _ hS35 ?_
 clear hK K hS25
 refine wpAnyH_done (by kernel_rfl) ?_ _
 clear hS35
 go_wp2_with fail
 (try simp only [Exit.inBlock, Exit.then])
 exact bodyPost_ret (res_c rfl _ _ (w.heap.size + 1 + 1) #[.float .f64 p0.lo, .float .f64 p0.hi, .float .f64 p1.lo, .float .f64 p1.hi, .float .f64 p2.lo, .float .f64 p2.hi] rfl (kb K32 D34) (by rw [info_V3]; rfl) Try.underlying30 rfl) rfl ⟨rfl, below_step HB33.out D34.out⟩
theorem rmulV_any (a b : V3) (w : World) : Calls Try.prog 127 #[Value.agg #[.float .f64 a.x.lo, .float .f64 a.x.hi, .float .f64 a.y.lo, .float .f64 a.y.hi, .float .f64 a.z.lo, .float .f64 a.z.hi], Value.agg #[.float .f64 b.x.lo, .float .f64 b.x.hi, .float .f64 b.y.lo, .float .f64 b.y.hi, .float .f64 b.z.lo, .float .f64 b.z.hi]] w fun r w' => r = .returned (vval (vMul a b)) ∧ Below w.heap.size w w' := by
 have C0 := Lib.hid (fun w => rmul_sp a.x b.x w)
 obtain ⟨p0, hp0⟩ : ∃ z_, mulS a.x b.x = z_ := ⟨_, rfl⟩
 rw [hp0] at C0
 have C1 := Lib.hid (fun w => rmul_sp a.y b.y w)
 obtain ⟨p1, hp1⟩ : ∃ z_, mulS a.y b.y = z_ := ⟨_, rfl⟩
 rw [hp1] at C1
 have C2 := Lib.hid (fun w => rmul_sp a.z b.z w)
 obtain ⟨p2, hp2⟩ : ∃ z_, mulS a.z b.z = z_ := ⟨_, rfl⟩
 rw [hp2] at C2
 have hT : vMul a b = (⟨p0, p1, p2⟩ : V3) := by
   subst hp0 hp1 hp2; rfl
 rw [hT]
 clear hT
 clear hp0 hp1 hp2
 go_enter Try.func127, Try.ntmps127
 go_wp2_with fail
 obtain ⟨W, hW, K0, K1, K2, hB, hz⟩ := bx3 w 30 30 30 (vc a) (vc b) #[.float .f64 0, .float .f64 0, .float .f64 0, .float .f64 0, .float .f64 0, .float .f64 0]
 rw [← hW]
 have K0 := Lib.hid K0
 have K1 := Lib.hid K1
 have K2 := Lib.hid K2
 have HB := Lib.hid hB
 clear hW hB hz
 have D1 := dr W
 refine wp_region_held (S := (fun w' => True ∧ CellsL w' (w.heap.size) 0 (vl a) ∧ CellsL w' (w.heap.size + 1) 0 (vl b))) (by kernel_rfl) ?_
 change wpAnyH _ _ _ _ _ _ _ _ (World.drew _)
 obtain ⟨wd2, hwd⟩ : ∃ x, x = World.drew W := ⟨_, rfl⟩
 rw [← hwd]
 have D3 := Lib.hid (hwd ▸ Below.drew D1.out : Below W.heap.size W wd2)
 clear D1 hwd
 have hS4 : True ∧ CellsL wd2 (w.heap.size) 0 (vl a) ∧ CellsL wd2 (w.heap.size + 1) 0 (vl b) := ⟨trivial, (kb K0 D3).cellsL 0 (vl a) rfl, (kb K1 D3).cellsL 0 (vl b) rfl⟩
 refine tkq 0 (bm 17 1) hS4 ?_
 refine tke 1 (bm 17 3) hS4 ?_
 refine tkq 2 (bm 17 7) hS4 ?_
 refine tke 3 (bm 17 15) hS4 ?_
 refine tkq 5 (bm 17 47) hS4 ?_
 refine tke 6 (bm 17 111) hS4 ?_
 refine tkq 7 (bm 17 239) hS4 ?_
 refine tke 8 (bm 17 495) hS4 ?_
 refine tkq 10 (bm 17 1519) hS4 ?_
 refine tke 11 (bm 17 3567) hS4 ?_
 refine tkq 12 (bm 17 7663) hS4 ?_
 refine tke 13 (bm 17 15855) hS4 ?_
 refine wpAnyH_oneN (i := 4) (l' := bm 17 15871) rfl (by kernel_rfl) (by kernel_rfl) (by kernel_rfl) (fun K hK => ?_)
 go_simp
 go_at_call 101
 refine (C0.out _).mono ?_
 rintro r w17 ⟨rfl, hb⟩
 dsimp only
 have D18 := ds D3 hb
 clear D3
 clear hb
 have hS19 : True ∧ CellsL w17 (w.heap.size) 0 (vl a) ∧ CellsL w17 (w.heap.size + 1) 0 (vl b) := ⟨trivial, (kb K0 D18).cellsL 0 (vl a) rfl, (kb K1 D18).cellsL 0 (vl b) rfl⟩
 refine hK _ _ hS19 ?_
 clear hK K hS4
 refine wpAnyH_oneN (i := 9) (l' := bm 17 16383) rfl (by kernel_rfl) (by kernel_rfl) (by kernel_rfl) (fun K hK => ?_)
 go_simp
 go_at_call 101
 refine (C1.out _).mono ?_
 rintro r w20 ⟨rfl, hb⟩
 dsimp only
 have D21 := ds D18 hb
 clear D18
 clear hb
 have hS22 : True ∧ CellsL w20 (w.heap.size) 0 (vl a) ∧ CellsL w20 (w.heap.size + 1) 0 (vl b) := ⟨trivial, (kb K0 D21).cellsL 0 (vl a) rfl, (kb K1 D21).cellsL 0 (vl b) rfl⟩
 refine hK _ _ hS22 ?_
 clear hK K hS19
 refine wpAnyH_oneN (i := 14) (l' := bm 17 32767) rfl (by kernel_rfl) (by kernel_rfl) (by kernel_rfl) (fun K hK => ?_)
 go_simp
 go_at_call 101
 refine (C2.out _).mono ?_
 rintro r w23 ⟨rfl, hb⟩
 dsimp only
 have D24 := ds D21 hb
 clear D21
 clear hb
 have hS25 : True ∧ CellsL w23 (w.heap.size) 0 (vl a) ∧ CellsL w23 (w.heap.size + 1) 0 (vl b) := ⟨trivial, (kb K0 D24).cellsL 0 (vl a) rfl, (kb K1 D24).cellsL 0 (vl b) rfl⟩
 refine hK _ _ hS25 ?_
 clear hK K hS22
 refine tkq 15 (bm 17 65535) hS25 ?_
 refine wpAnyH_oneN (i := 16) (l' := bm 17 131071) rfl (by kernel_rfl) (by kernel_rfl) (by kernel_rfl) (fun K hK => ?_)
 have f29 := (kb K2 D24)
 obtain ⟨V27, hV28⟩ : ∃ V, World.setRow w23 (w.heap.size + 1 + 1) #[.float .f64 p0.lo, .float .f64 p0.hi, .float .f64 p1.lo, .float .f64 p1.hi, .float .f64 p2.lo, .float .f64 p2.hi] = V := ⟨_, rfl⟩
 have K30 := kfr hV28 K0 D24 (by omega)
 have K31 := kfr hV28 K1 D24 (by omega)
 have K32 := ksr hV28 K2 D24
 have HB33 := hbr hV28 HB D24 (by omega)
 have D34 := dr V27
 clear K0 K1 K2 HB D24
 refine wp_store_row 30 _ _ rfl (w.heap.size + 1 + 1) #[.float .f64 p0.lo, .float .f64 p0.hi, .float .f64 p1.lo, .float .f64 p1.hi, .float .f64 p2.lo, .float .f64 p2.hi] rfl rfl _ _ f29 (by rw [info_V3]; rfl) rfl (by kernel_rfl) ?_
 rw [hV28]
 go_simp
 clear hV28 f29
 have hS35 : True ∧ CellsL V27 (w.heap.size) 0 (vl a) ∧ CellsL V27 (w.heap.size + 1) 0 (vl b) := ⟨trivial, (kb K30 D34).cellsL 0 (vl a) rfl, (kb K31 D34).cellsL 0 (vl b) rfl⟩
 refine hK _ _ hS35 ?_
 clear hK K hS25
 refine wpAnyH_done (by kernel_rfl) ?_ _
 clear hS35
 go_wp2_with fail
 (try simp only [Exit.inBlock, Exit.then])
 exact bodyPost_ret (res_c rfl _ _ (w.heap.size + 1 + 1) #[.float .f64 p0.lo, .float .f64 p0.hi, .float .f64 p1.lo, .float .f64 p1.hi, .float .f64 p2.lo, .float .f64 p2.hi] rfl (kb K32 D34) (by rw [info_V3]; rfl) Try.underlying30 rfl) rfl ⟨rfl, below_step HB33.out D34.out⟩
theorem rnegV_any (a : V3) (w : World) : Calls Try.prog 97 #[Value.agg #[.float .f64 a.x.lo, .float .f64 a.x.hi, .float .f64 a.y.lo, .float .f64 a.y.hi, .float .f64 a.z.lo, .float .f64 a.z.hi]] w fun r w' => r = .returned (vval (vNeg a)) ∧ Below w.heap.size w w' := by
 have C0 := Lib.hid (fun w => rneg_sp a.x w)
 obtain ⟨p0, hp0⟩ : ∃ z_, negS a.x = z_ := ⟨_, rfl⟩
 rw [hp0] at C0
 have C1 := Lib.hid (fun w => rneg_sp a.y w)
 obtain ⟨p1, hp1⟩ : ∃ z_, negS a.y = z_ := ⟨_, rfl⟩
 rw [hp1] at C1
 have C2 := Lib.hid (fun w => rneg_sp a.z w)
 obtain ⟨p2, hp2⟩ : ∃ z_, negS a.z = z_ := ⟨_, rfl⟩
 rw [hp2] at C2
 have hT : vNeg a = (⟨p0, p1, p2⟩ : V3) := by
   subst hp0 hp1 hp2; rfl
 rw [hT]
 clear hT
 clear hp0 hp1 hp2
 go_enter Try.func97, Try.ntmps97
 go_wp2_with fail
 obtain ⟨W, hW, K0, K1, hB, hz⟩ := bx2 w 30 30 (vc a) #[.float .f64 0, .float .f64 0, .float .f64 0, .float .f64 0, .float .f64 0, .float .f64 0]
 rw [← hW]
 have K0 := Lib.hid K0
 have K1 := Lib.hid K1
 have HB := Lib.hid hB
 clear hW hB hz
 have D1 := dr W
 refine wp_region_held (S := (fun w' => True ∧ CellsL w' (w.heap.size) 0 (vl a))) (by kernel_rfl) ?_
 change wpAnyH _ _ _ _ _ _ _ _ (World.drew _)
 obtain ⟨wd2, hwd⟩ : ∃ x, x = World.drew W := ⟨_, rfl⟩
 rw [← hwd]
 have D3 := Lib.hid (hwd ▸ Below.drew D1.out : Below W.heap.size W wd2)
 clear D1 hwd
 have hS4 : True ∧ CellsL wd2 (w.heap.size) 0 (vl a) := ⟨trivial, (kb K0 D3).cellsL 0 (vl a) rfl⟩
 refine tkq 0 (bm 11 1) hS4 ?_
 refine tke 1 (bm 11 3) hS4 ?_
 refine tkq 3 (bm 11 11) hS4 ?_
 refine tke 4 (bm 11 27) hS4 ?_
 refine tkq 6 (bm 11 91) hS4 ?_
 refine tke 7 (bm 11 219) hS4 ?_
 refine wpAnyH_oneN (i := 2) (l' := bm 11 223) rfl (by kernel_rfl) (by kernel_rfl) (by kernel_rfl) (fun K hK => ?_)
 go_simp
 go_at_call 73
 refine (C0.out _).mono ?_
 rintro r w11 ⟨rfl, hb⟩
 dsimp only
 have D12 := ds D3 hb
 clear D3
 clear hb
 have hS13 : True ∧ CellsL w11 (w.heap.size) 0 (vl a) := ⟨trivial, (kb K0 D12).cellsL 0 (vl a) rfl⟩
 refine hK _ _ hS13 ?_
 clear hK K hS4
 refine wpAnyH_oneN (i := 5) (l' := bm 11 255) rfl (by kernel_rfl) (by kernel_rfl) (by kernel_rfl) (fun K hK => ?_)
 go_simp
 go_at_call 73
 refine (C1.out _).mono ?_
 rintro r w14 ⟨rfl, hb⟩
 dsimp only
 have D15 := ds D12 hb
 clear D12
 clear hb
 have hS16 : True ∧ CellsL w14 (w.heap.size) 0 (vl a) := ⟨trivial, (kb K0 D15).cellsL 0 (vl a) rfl⟩
 refine hK _ _ hS16 ?_
 clear hK K hS13
 refine wpAnyH_oneN (i := 8) (l' := bm 11 511) rfl (by kernel_rfl) (by kernel_rfl) (by kernel_rfl) (fun K hK => ?_)
 go_simp
 go_at_call 73
 refine (C2.out _).mono ?_
 rintro r w17 ⟨rfl, hb⟩
 dsimp only
 have D18 := ds D15 hb
 clear D15
 clear hb
 have hS19 : True ∧ CellsL w17 (w.heap.size) 0 (vl a) := ⟨trivial, (kb K0 D18).cellsL 0 (vl a) rfl⟩
 refine hK _ _ hS19 ?_
 clear hK K hS16
 refine tkq 9 (bm 11 1023) hS19 ?_
 refine wpAnyH_oneN (i := 10) (l' := bm 11 2047) rfl (by kernel_rfl) (by kernel_rfl) (by kernel_rfl) (fun K hK => ?_)
 have f23 := (kb K1 D18)
 obtain ⟨V21, hV22⟩ : ∃ V, World.setRow w17 (w.heap.size + 1) #[.float .f64 p0.lo, .float .f64 p0.hi, .float .f64 p1.lo, .float .f64 p1.hi, .float .f64 p2.lo, .float .f64 p2.hi] = V := ⟨_, rfl⟩
 have K24 := kfr hV22 K0 D18 (by omega)
 have K25 := ksr hV22 K1 D18
 have HB26 := hbr hV22 HB D18 (by omega)
 have D27 := dr V21
 clear K0 K1 HB D18
 refine wp_store_row 30 _ _ rfl (w.heap.size + 1) #[.float .f64 p0.lo, .float .f64 p0.hi, .float .f64 p1.lo, .float .f64 p1.hi, .float .f64 p2.lo, .float .f64 p2.hi] rfl rfl _ _ f23 (by rw [info_V3]; rfl) rfl (by kernel_rfl) ?_
 rw [hV22]
 go_simp
 clear hV22 f23
 have hS28 : True ∧ CellsL V21 (w.heap.size) 0 (vl a) := ⟨trivial, (kb K24 D27).cellsL 0 (vl a) rfl⟩
 refine hK _ _ hS28 ?_
 clear hK K hS19
 refine wpAnyH_done (by kernel_rfl) ?_ _
 clear hS28
 go_wp2_with fail
 (try simp only [Exit.inBlock, Exit.then])
 exact bodyPost_ret (res_c rfl _ _ (w.heap.size + 1) #[.float .f64 p0.lo, .float .f64 p0.hi, .float .f64 p1.lo, .float .f64 p1.hi, .float .f64 p2.lo, .float .f64 p2.hi] rfl (kb K25 D27) (by rw [info_V3]; rfl) Try.underlying30 rfl) rfl ⟨rfl, below_step HB26.out D27.out⟩
theorem rdotV_any (a b : V3) (w : World) : Calls Try.prog 95 #[Value.agg #[.float .f64 a.x.lo, .float .f64 a.x.hi, .float .f64 a.y.lo, .float .f64 a.y.hi, .float .f64 a.z.lo, .float .f64 a.z.hi], Value.agg #[.float .f64 b.x.lo, .float .f64 b.x.hi, .float .f64 b.y.lo, .float .f64 b.y.hi, .float .f64 b.z.lo, .float .f64 b.z.hi]] w fun r w' => r = .returned (.agg #[.float .f64 (vDot a b).lo, .float .f64 (vDot a b).hi]) ∧ Below w.heap.size w w' := by
 have C0 := Lib.hid (fun w => rmulV_any a b w)
 obtain ⟨p0, hp0⟩ : ∃ z_, vMul a b = z_ := ⟨_, rfl⟩
 rw [hp0] at C0
 have C1 := Lib.hid (fun w => rsumV_any p0 w)
 obtain ⟨p1, hp1⟩ : ∃ z_, vSum p0 = z_ := ⟨_, rfl⟩
 rw [hp1] at C1
 have hT : vDot a b = p1 := by
   subst hp0 hp1; rfl
 rw [hT]
 clear hT
 clear hp0 hp1
 go_enter Try.func95, Try.ntmps95
 go_wp2_with (first | (refine wl_load (by kernel_rfl) rfl rfl (((Blk.new_at _ _ _ rfl).alloc _).alloc _) (by rw [info_V3]; rfl) Try.underlying30 rfl ?_) | (refine wl_load (by kernel_rfl) rfl rfl ((Blk.new_at _ _ _ (by simp)).alloc _) (by rw [info_V3]; rfl) Try.underlying30 rfl ?_))
 obtain ⟨W, hW, K0, K1, K2, hB, hz⟩ := bx3 w 30 30 28 (vc a) (vc b) #[.float .f64 0, .float .f64 0]
 rw [← hW]
 have K0 := Lib.hid K0
 have K1 := Lib.hid K1
 have K2 := Lib.hid K2
 have HB := Lib.hid hB
 clear hW hB hz
 have D1 := dr W
 refine (C0.out _).mono ?_
 rintro r w2 ⟨rfl, hb⟩
 have D3 := ds D1 hb
 clear D1
 clear hb
 go_wp2_with fail
 refine (C1.out _).mono ?_
 rintro r w4 ⟨rfl, hb⟩
 have D5 := ds D3 hb
 clear D3
 clear hb
 have f8 := (kb K2 D5).cellsL 0 [.float .f64 0, .float .f64 0] rfl
 dsimp only [CellsL, al, vl, Nat.reduceAdd] at f8
 have u9 := (kb K2 D5).unfrozen
 obtain ⟨V6, hV7⟩ : ∃ V, setCells w4 (w.heap.size + 1 + 1) 0 [.float .f64 p1.lo, .float .f64 p1.hi] = V := ⟨_, rfl⟩
 have hv10 := hV7
 simp only [setCells, Nat.reduceAdd] at hv10
 have K11 := kf hV7 K0 D5 (by omega)
 have K12 := kf hV7 K1 D5 (by omega)
 have K13 := Lib.hid (show Blk V6 (w.heap.size + 1 + 1) 28 #[.float .f64 p1.lo, .float .f64 p1.hi] from (ks hV7 K2 D5).out)
 have HB14 := hbs hV7 HB D5 (by omega)
 have D15 := dr V6
 clear K0 K1 K2 HB D5
 go_wp2_with fail
 clear hV7 f8 u9 hv10
 (try simp only [Exit.inBlock, Exit.then])
 exact bodyPost_ret (res_c rfl _ _ (w.heap.size + 1 + 1) #[.float .f64 p1.lo, .float .f64 p1.hi] rfl (kb K13 D15) (by rw [info_Span]; rfl) Try.underlying28 rfl) rfl ⟨rfl, below_step HB14.out D15.out⟩
theorem rall3_any (s : Sp) (w : World) : Calls Try.prog 129 #[Value.agg #[.float .f64 s.lo, .float .f64 s.hi]] w fun r w' => r = .returned (vval ⟨s, s, s⟩) ∧ Below w.heap.size w w' := by
 go_enter Try.func129, Try.ntmps129
 go_wp2_with (refine wpList_store_row rfl 30 _ _ rfl (w.heap.size + 1) #[.float .f64 s.lo, .float .f64 s.hi, .float .f64 s.lo, .float .f64 s.hi, .float .f64 s.lo, .float .f64 s.hi] rfl rfl _ _ (Blk.new_at _ _ _ (by simp)) (by rw [info_V3]; rfl) rfl (by kernel_rfl) ?_)
 (try simp only [Exit.inBlock, Exit.then])
 exact bodyPost_ret (res_c rfl _ _ (w.heap.size + 1) #[.float .f64 s.lo, .float .f64 s.hi, .float .f64 s.lo, .float .f64 s.hi, .float .f64 s.lo, .float .f64 s.hi] rfl ((Blk.new_at _ _ _ (by simp)).setRow _) (by rw [info_V3]; rfl) Try.underlying30 rfl) rfl ⟨rfl, (Below.setRow (((Below.refl _ w).alloc (Nat.le_refl _) _).alloc (by simp) _) (by omega))⟩
theorem rscaleV_any (a : V3) (s : Sp) (w : World) : Calls Try.prog 100 #[Value.agg #[.float .f64 a.x.lo, .float .f64 a.x.hi, .float .f64 a.y.lo, .float .f64 a.y.hi, .float .f64 a.z.lo, .float .f64 a.z.hi], Value.agg #[.float .f64 s.lo, .float .f64 s.hi]] w fun r w' => r = .returned (vval (vMul a ⟨s, s, s⟩)) ∧ Below w.heap.size w w' := by
 have C0 := Lib.hid (fun w => rall3_any s w)
 have C1 := Lib.hid (fun w => rmulV_any a (⟨s, s, s⟩ : V3) w)
 obtain ⟨p1, hp1⟩ : ∃ z_, vMul a (⟨s, s, s⟩ : V3) = z_ := ⟨_, rfl⟩
 rw [hp1] at C1
 have hT : vMul a ⟨s, s, s⟩ = p1 := by
   subst hp1; rfl
 rw [hT]
 clear hT
 clear hp1
 go_enter Try.func100, Try.ntmps100
 go_wp2_with fail
 obtain ⟨W, hW, K0, K1, K2, hB, hz⟩ := bx3 w 30 28 30 (vc a) #[.float .f64 s.lo, .float .f64 s.hi] #[.float .f64 0, .float .f64 0, .float .f64 0, .float .f64 0, .float .f64 0, .float .f64 0]
 rw [← hW]
 have K0 := Lib.hid K0
 have K1 := Lib.hid K1
 have K2 := Lib.hid K2
 have HB := Lib.hid hB
 clear hW hB hz
 have D1 := dr W
 refine wp_region_held (S := (fun w' => True ∧ Blk w' (w.heap.size) 30 (vc a) ∧ CellsL w' (w.heap.size + 1) 0 [.float .f64 s.lo, .float .f64 s.hi])) (by kernel_rfl) ?_
 change wpAnyH _ _ _ _ _ _ _ _ (World.drew _)
 obtain ⟨wd2, hwd⟩ : ∃ x, x = World.drew W := ⟨_, rfl⟩
 rw [← hwd]
 have D3 := Lib.hid (hwd ▸ Below.drew D1.out : Below W.heap.size W wd2)
 clear D1 hwd
 have hS4 : True ∧ Blk wd2 (w.heap.size) 30 (vc a) ∧ CellsL wd2 (w.heap.size + 1) 0 [.float .f64 s.lo, .float .f64 s.hi] := ⟨trivial, (kb K0 D3), (kb K1 D3).cellsL 0 [.float .f64 s.lo, .float .f64 s.hi] rfl⟩
 refine tkL 0 (bm 5 1) ?aq5 rfl (by kernel_rfl) (fun _ _ _ h => h) (by kernel_rfl) rfl rfl (fun _ hS => hS.2.1) (by rw [info_V3]; rfl) Try.underlying30 rfl ?pq5 hS4 ?rq5
 case pq5 => (go_simp; try with_reducible rfl)
 refine tke 1 (bm 5 3) hS4 ?_
 refine wpAnyH_oneN (i := 2) (l' := bm 5 7) rfl (by kernel_rfl) (by kernel_rfl) (by kernel_rfl) (fun K hK => ?_)
 go_simp
 go_at_call 129
 refine (C0.out _).mono ?_
 rintro r w7 ⟨rfl, hb⟩
 dsimp only
 have D8 := ds D3 hb
 clear D3
 clear hb
 have hS9 : True ∧ Blk w7 (w.heap.size) 30 (vc a) ∧ CellsL w7 (w.heap.size + 1) 0 [.float .f64 s.lo, .float .f64 s.hi] := ⟨trivial, (kb K0 D8), (kb K1 D8).cellsL 0 [.float .f64 s.lo, .float .f64 s.hi] rfl⟩
 refine hK _ _ hS9 ?_
 clear hK K hS4
 refine wpAnyH_oneN (i := 3) (l' := bm 5 15) rfl (by kernel_rfl) (by kernel_rfl) (by kernel_rfl) (fun K hK => ?_)
 go_simp
 go_at_call 127
 refine (C1.out _).mono ?_
 rintro r w10 ⟨rfl, hb⟩
 dsimp only
 have D11 := ds D8 hb
 clear D8
 clear hb
 have hS12 : True ∧ Blk w10 (w.heap.size) 30 (vc a) ∧ CellsL w10 (w.heap.size + 1) 0 [.float .f64 s.lo, .float .f64 s.hi] := ⟨trivial, (kb K0 D11), (kb K1 D11).cellsL 0 [.float .f64 s.lo, .float .f64 s.hi] rfl⟩
 refine hK _ _ hS12 ?_
 clear hK K hS9
 refine wpAnyH_oneN (i := 4) (l' := bm 5 31) rfl (by kernel_rfl) (by kernel_rfl) (by kernel_rfl) (fun K hK => ?_)
 have f15 := (kb K2 D11)
 obtain ⟨V13, hV14⟩ : ∃ V, World.setRow w10 (w.heap.size + 1 + 1) (vc p1) = V := ⟨_, rfl⟩
 have K16 := kfr hV14 K0 D11 (by omega)
 have K17 := kfr hV14 K1 D11 (by omega)
 have K18 := ksr hV14 K2 D11
 have HB19 := hbr hV14 HB D11 (by omega)
 have D20 := dr V13
 clear K0 K1 K2 HB D11
 refine wp_store_row 30 _ _ rfl (w.heap.size + 1 + 1) (vc p1) rfl rfl _ _ f15 (by rw [info_V3]; rfl) rfl (by kernel_rfl) ?_
 rw [hV14]
 go_simp
 clear hV14 f15
 have hS21 : True ∧ Blk V13 (w.heap.size) 30 (vc a) ∧ CellsL V13 (w.heap.size + 1) 0 [.float .f64 s.lo, .float .f64 s.hi] := ⟨trivial, (kb K16 D20), (kb K17 D20).cellsL 0 [.float .f64 s.lo, .float .f64 s.hi] rfl⟩
 refine hK _ _ hS21 ?_
 clear hK K hS12
 refine wpAnyH_done (by kernel_rfl) ?_ _
 clear hS21
 go_wp2_with fail
 (try simp only [Exit.inBlock, Exit.then])
 exact bodyPost_ret (res_c rfl _ _ (w.heap.size + 1 + 1) (vc p1) rfl (kb K18 D20) (by rw [info_V3]; rfl) Try.underlying30 rfl) rfl ⟨rfl, below_step HB19.out D20.out⟩
end Go.Proofs.Ytnljfcebmgifdaa
set_option linter.unusedVariables false
set_option linter.unusedSimpArgs false
namespace Go.Proofs.Ytnljfcebmgifdaa
open Go.ChangeShapes Go.WideShapes Go.ChangeAt Go.RowKit Go.Joins
section
variable {H : Type} {enc : TypeId × Value → H} {w : World} {base : Nat} {spare : Nat → Bool} {held : Bool}
def sh2 (k l : Nat) (f g : List Nat → DataW H) (ws : List Nat) : DataW H := .agg [f (ws.take k), g ((ws.drop k).take l)]
theorem flat2 {T : TypeId} {f0 f1 : Field} {k l : Nat} {f g : List Nat → DataW H} (hT : Try.prog.underlying T = some (.struct #[f0, f1])) (hc : Try.prog.cellsOf T = k + l) (h0 : Try.prog.cellsOf f0.type = k) (h1 : Try.prog.cellsOf f1.type = l) (o0 : f0.offset = 0) (o1 : f1.offset = k)
   (F : Flat enc w base spare held f0.type k f) (G : Flat enc w base spare held f1.type l g) : Flat enc w base spare held T (k + l) (sh2 k l f g) := by
 have e2 : ∀ {α : Type} (cs : List α), cs.length = k + l → cs = cs.take k ++ (cs.drop k).take l := by
   intro α cs hl
   rw [show (cs.drop k).take l = cs.drop k from List.take_of_length_le (by simp; omega), List.take_append_drop]
 refine ⟨?_, ?_⟩
 · intro n cs y hl h
   obtain ⟨y0, y1, n, rfl, _, t0, t1⟩ := trod_struct2 hT h
   rw [o0, h0, List.drop_zero] at t0
   rw [o1, h1] at t1
   obtain ⟨w0, c0, rfl, q0⟩ := F.op _ _ _ (by simp; omega) t0
   obtain ⟨w1, c1, rfl, q1⟩ := G.op _ _ _ (by simp; omega) t1
   have s0 : w0.length = k := by have := congrArg List.length c0; simp at this; omega
   have s1 : w1.length = l := by have := congrArg List.length c1; simp at this; omega
   refine ⟨w0 ++ w1, ?_, ?_, ?_⟩
   · rw [List.map_append, ← c0, ← c1]; exact e2 cs hl
   · unfold sh2
     have a0 : List.take k (w0 ++ w1) = w0 := by rw [← s0, List.take_left]
     have a1 : List.take l (List.drop k (w0 ++ w1)) = w1 := by rw [show List.drop k (w0 ++ w1) = w1 by rw [← s0, List.drop_left], ← s1, List.take_length]
     rw [a0, a1]; rfl
   · intro x hx
     rcases List.mem_append.1 hx with hx | hx
     · exact q0 x hx
     · exact q1 x hx
 · intro ws hl hw
   obtain ⟨n0, k0⟩ := F.sh (ws.take k) (by simp; omega) (fun x hx => hw x (List.mem_of_mem_take hx))
   obtain ⟨n1, k1⟩ := G.sh ((ws.drop k).take l) (by simp; omega) (fun x hx => hw x (List.mem_of_mem_drop (List.mem_of_mem_take hx)))
   refine ⟨n0 + n1 + 1, fun n hn => ?_⟩
   cases n with
   | zero => omega
   | succ n =>
     have := trod_struct_mk (enc := enc) (w := w) (base := base) (spare := spare) (held := held) (n := n) (cs := ws.map (Value.float .f64)) (xs := [(f (ws.take k), []), (g ((ws.drop k).take l), [])]) hT (by rw [List.length_map]; exact hl.trans hc.symm) (by
       have a0 := k0 n (by omega)
       have a1 := k1 n (by omega)
       rw [List.map_take] at a0
       rw [List.map_take, List.map_drop] at a1
       simp [o0, o1, h0, h1, a0, a1])
     simpa [sh2] using this
theorem list6 {α : Type} {l : List α} (h : l.length = 6) : ∃ x0 x1 x2 x3 x4 x5, l = [x0, x1, x2, x3, x4, x5] := by
 match l, h with
 | [x0, x1, x2, x3, x4, x5], _ => exact ⟨x0, x1, x2, x3, x4, x5, rfl⟩
abbrev shV : List Nat → DataW H := sh3 2 (sh2 1 1 shF shF)
theorem flatV : Flat enc w base spare held 30 6 shV := (flat3 Try.underlying30 (by kernel_rfl) (by kernel_rfl) (flat2 Try.underlying28 (by kernel_rfl) (by kernel_rfl) (by kernel_rfl) rfl rfl (flatF Try.underlying22) (flatF Try.underlying22)))
theorem open_v3 {r : Reach} {b0 : Nat} {v : Value} {d : DataW H} {p : List MemPlace} (hv : Value.okWide Try.prog w r b0 30 v) (h : DataW.Trod enc Try.prog w base spare held 30 v d p) :
   ∃ x0 x1 x2 x3 x4 x5 : Nat, v = .agg #[.float .f64 x0, .float .f64 x1, .float .f64 x2, .float .f64 x3, .float .f64 x4, .float .f64 x5] ∧ d = shV [x0, x1, x2, x3, x4, x5] ∧ p = [] ∧ (wfF x0 ∧ wfF x1 ∧ wfF x2 ∧ wfF x3 ∧ wfF x4 ∧ wfF x5) := by
 obtain ⟨cs, rfl, hsz⟩ := okWide_arr Try.underlying30 hv
 obtain ⟨ws, e, hl, rfl, rfl, hw⟩ := flat_open flatV (hsz.trans (by kernel_rfl)) h
 obtain ⟨x0, x1, x2, x3, x4, x5, rfl⟩ := list6 hl
 refine ⟨x0, x1, x2, x3, x4, x5, ?_, rfl, rfl, hw _ (by simp), hw _ (by simp), hw _ (by simp), hw _ (by simp), hw _ (by simp), hw _ (by simp)⟩
 rw [show cs = cs.toList.toArray by simp, e]; rfl
theorem shut_v3 {x0 x1 x2 x3 x4 x5 : Nat} (h : wfF x0 ∧ wfF x1 ∧ wfF x2 ∧ wfF x3 ∧ wfF x4 ∧ wfF x5) : DataW.Trod enc Try.prog w base spare held 30 (.agg #[.float .f64 x0, .float .f64 x1, .float .f64 x2, .float .f64 x3, .float .f64 x4, .float .f64 x5]) (shV [x0, x1, x2, x3, x4, x5]) [] := by
 obtain ⟨h0, h1, h2, h3, h4, h5⟩ := h
 exact flat_shut flatV [x0, x1, x2, x3, x4, x5] rfl (by intro x hx; simp only [List.mem_cons, List.not_mem_nil, or_false] at hx; rcases hx with rfl | rfl | rfl | rfl | rfl | rfl <;> assumption)
end
end Go.Proofs.Ytnljfcebmgifdaa
set_option linter.unusedVariables false
set_option linter.unusedSimpArgs false
namespace Go.Proofs.Ytnljfcebmgifdaa
open Go.RowKit Fl
theorem rpos_lit {a : Sp} {k : Nat} (h : posS a = k) (w : World) : Calls Try.prog 96 #[.agg #[.float .f64 a.lo, .float .f64 a.hi]] w fun r w' => r = .returned (.int .i64 (k : Nat)) ∧ Below w.heap.size w w' := h ▸ rpos_sp a w
theorem rmirV_any (n d : V3) (w : World) : Calls Try.prog 56 #[Value.agg #[.float .f64 n.x.lo, .float .f64 n.x.hi, .float .f64 n.y.lo, .float .f64 n.y.hi, .float .f64 n.z.lo, .float .f64 n.z.hi], Value.agg #[.float .f64 d.x.lo, .float .f64 d.x.hi, .float .f64 d.y.lo, .float .f64 d.y.hi, .float .f64 d.z.lo, .float .f64 d.z.hi]] w fun r w' => r = .returned (vval (bdMir n d)) ∧ Below w.heap.size w w' := by
 have C0 := Lib.hid (fun w => rof_sp 4611686018427387904 (by decide) w)
 obtain ⟨p0, hp0⟩ : ∃ z_, ofS 4611686018427387904 = z_ := ⟨_, rfl⟩
 rw [hp0] at C0
 have C1 := Lib.hid (fun w => rdotV_any n d w)
 obtain ⟨p1, hp1⟩ : ∃ z_, vDot n d = z_ := ⟨_, rfl⟩
 rw [hp1] at C1
 have C2 := Lib.hid (fun w => rmul_sp p0 p1 w)
 obtain ⟨p2, hp2⟩ : ∃ z_, mulS p0 p1 = z_ := ⟨_, rfl⟩
 rw [hp2] at C2
 have C3 := Lib.hid (fun w => rscaleV_any n p2 w)
 obtain ⟨p3, hp3⟩ : ∃ z_, vMul n ⟨p2, p2, p2⟩ = z_ := ⟨_, rfl⟩
 rw [hp3] at C3
 have C4 := Lib.hid (fun w => rsubV_any d p3 w)
 obtain ⟨p4, hp4⟩ : ∃ z_, vSub d p3 = z_ := ⟨_, rfl⟩
 rw [hp4] at C4
 have hT : bdMir n d = p4 := by
   subst hp0 hp1 hp2 hp3 hp4; rfl
 rw [hT]
 clear hT
 clear hp0 hp1 hp2 hp3 hp4
 go_enter Try.func56, Try.ntmps56
 go_wp2_with fail
 obtain ⟨W, hW, K0, K1, K2, hB, hz⟩ := bx3 w 30 30 30 (vc n) (vc d) #[.float .f64 0, .float .f64 0, .float .f64 0, .float .f64 0, .float .f64 0, .float .f64 0]
 rw [← hW]
 have K0 := Lib.hid K0
 have K1 := Lib.hid K1
 have K2 := Lib.hid K2
 have HB := Lib.hid hB
 clear hW hB hz
 have D1 := dr W
 refine wp_region_held (S := (fun w' => True ∧ Blk w' (w.heap.size) 30 (vc n) ∧ Blk w' (w.heap.size + 1) 30 (vc d))) (by kernel_rfl) ?_
 change wpAnyH _ _ _ _ _ _ _ _ (World.drew _)
 obtain ⟨wd2, hwd⟩ : ∃ x, x = World.drew W := ⟨_, rfl⟩
 rw [← hwd]
 have D3 := Lib.hid (hwd ▸ Below.drew D1.out : Below W.heap.size W wd2)
 clear D1 hwd
 have hS4 : True ∧ Blk wd2 (w.heap.size) 30 (vc n) ∧ Blk wd2 (w.heap.size + 1) 30 (vc d) := ⟨trivial, (kb K0 D3), (kb K1 D3)⟩
 refine tkL 0 (bm 10 1) ?aq5 rfl (by kernel_rfl) (fun _ _ _ h => h) (by kernel_rfl) rfl rfl (fun _ hS => hS.2.2) (by rw [info_V3]; rfl) Try.underlying30 rfl ?pq5 hS4 ?rq5
 case pq5 => (go_simp; try with_reducible rfl)
 refine tkL 1 (bm 10 3) ?aq6 rfl (by kernel_rfl) (fun _ _ _ h => h) (by kernel_rfl) rfl rfl (fun _ hS => hS.2.1) (by rw [info_V3]; rfl) Try.underlying30 rfl ?pq6 hS4 ?rq6
 case pq6 => (go_simp; try with_reducible rfl)
 refine tkL 3 (bm 10 11) ?aq7 rfl (by kernel_rfl) (fun _ _ _ h => h) (by kernel_rfl) rfl rfl (fun _ hS => hS.2.1) (by rw [info_V3]; rfl) Try.underlying30 rfl ?pq7 hS4 ?rq7
 case pq7 => (go_simp; try with_reducible rfl)
 refine tkL 4 (bm 10 27) ?aq8 rfl (by kernel_rfl) (fun _ _ _ h => h) (by kernel_rfl) rfl rfl (fun _ hS => hS.2.2) (by rw [info_V3]; rfl) Try.underlying30 rfl ?pq8 hS4 ?rq8
 case pq8 => (go_simp; try with_reducible rfl)
 refine wpAnyH_oneN (i := 2) (l' := bm 10 31) rfl (by kernel_rfl) (by kernel_rfl) (by kernel_rfl) (fun K hK => ?_)
 go_simp
 go_at_call 50
 refine (C0.out _).mono ?_
 rintro r w9 ⟨rfl, hb⟩
 dsimp only
 have D10 := ds D3 hb
 clear D3
 clear hb
 have hS11 : True ∧ Blk w9 (w.heap.size) 30 (vc n) ∧ Blk w9 (w.heap.size + 1) 30 (vc d) := ⟨trivial, (kb K0 D10), (kb K1 D10)⟩
 refine hK _ _ hS11 ?_
 clear hK K hS4
 refine wpAnyH_oneN (i := 5) (l' := bm 10 63) rfl (by kernel_rfl) (by kernel_rfl) (by kernel_rfl) (fun K hK => ?_)
 go_simp
 go_at_call 95
 refine (C1.out _).mono ?_
 rintro r w12 ⟨rfl, hb⟩
 dsimp only
 have D13 := ds D10 hb
 clear D10
 clear hb
 have hS14 : True ∧ Blk w12 (w.heap.size) 30 (vc n) ∧ Blk w12 (w.heap.size + 1) 30 (vc d) := ⟨trivial, (kb K0 D13), (kb K1 D13)⟩
 refine hK _ _ hS14 ?_
 clear hK K hS11
 refine wpAnyH_oneN (i := 6) (l' := bm 10 127) rfl (by kernel_rfl) (by kernel_rfl) (by kernel_rfl) (fun K hK => ?_)
 go_simp
 go_at_call 101
 refine (C2.out _).mono ?_
 rintro r w15 ⟨rfl, hb⟩
 dsimp only
 have D16 := ds D13 hb
 clear D13
 clear hb
 have hS17 : True ∧ Blk w15 (w.heap.size) 30 (vc n) ∧ Blk w15 (w.heap.size + 1) 30 (vc d) := ⟨trivial, (kb K0 D16), (kb K1 D16)⟩
 refine hK _ _ hS17 ?_
 clear hK K hS14
 refine wpAnyH_oneN (i := 7) (l' := bm 10 255) rfl (by kernel_rfl) (by kernel_rfl) (by kernel_rfl) (fun K hK => ?_)
 go_simp
 go_at_call 100
 refine (C3.out _).mono ?_
 rintro r w18 ⟨rfl, hb⟩
 dsimp only
 have D19 := ds D16 hb
 clear D16
 clear hb
 have hS20 : True ∧ Blk w18 (w.heap.size) 30 (vc n) ∧ Blk w18 (w.heap.size + 1) 30 (vc d) := ⟨trivial, (kb K0 D19), (kb K1 D19)⟩
 refine hK _ _ hS20 ?_
 clear hK K hS17
 refine wpAnyH_oneN (i := 8) (l' := bm 10 511) rfl (by kernel_rfl) (by kernel_rfl) (by kernel_rfl) (fun K hK => ?_)
 go_simp
 go_at_call 99
 refine (C4.out _).mono ?_
 rintro r w21 ⟨rfl, hb⟩
 dsimp only
 have D22 := ds D19 hb
 clear D19
 clear hb
 have hS23 : True ∧ Blk w21 (w.heap.size) 30 (vc n) ∧ Blk w21 (w.heap.size + 1) 30 (vc d) := ⟨trivial, (kb K0 D22), (kb K1 D22)⟩
 refine hK _ _ hS23 ?_
 clear hK K hS20
 refine wpAnyH_oneN (i := 9) (l' := bm 10 1023) rfl (by kernel_rfl) (by kernel_rfl) (by kernel_rfl) (fun K hK => ?_)
 have f26 := (kb K2 D22)
 obtain ⟨V24, hV25⟩ : ∃ V, World.setRow w21 (w.heap.size + 1 + 1) (vc p4) = V := ⟨_, rfl⟩
 have K27 := kfr hV25 K0 D22 (by omega)
 have K28 := kfr hV25 K1 D22 (by omega)
 have K29 := ksr hV25 K2 D22
 have HB30 := hbr hV25 HB D22 (by omega)
 have D31 := dr V24
 clear K0 K1 K2 HB D22
 refine wp_store_row 30 _ _ rfl (w.heap.size + 1 + 1) (vc p4) rfl rfl _ _ f26 (by rw [info_V3]; rfl) rfl (by kernel_rfl) ?_
 rw [hV25]
 go_simp
 clear hV25 f26
 have hS32 : True ∧ Blk V24 (w.heap.size) 30 (vc n) ∧ Blk V24 (w.heap.size + 1) 30 (vc d) := ⟨trivial, (kb K27 D31), (kb K28 D31)⟩
 refine hK _ _ hS32 ?_
 clear hK K hS23
 refine wpAnyH_done (by kernel_rfl) ?_ _
 clear hS32
 go_wp2_with fail
 (try simp only [Exit.inBlock, Exit.then])
 exact bodyPost_ret (res_c rfl _ _ (w.heap.size + 1 + 1) (vc p4) rfl (kb K29 D31) (by rw [info_V3]; rfl) Try.underlying30 rfl) rfl ⟨rfl, below_step HB30.out D31.out⟩
theorem rface_1 (n d : V3) (h : posS (bdCos n d) = 1) (w : World) : Calls Try.prog 53 #[Value.agg #[.float .f64 n.x.lo, .float .f64 n.x.hi, .float .f64 n.y.lo, .float .f64 n.y.hi, .float .f64 n.z.lo, .float .f64 n.z.hi], Value.agg #[.float .f64 d.x.lo, .float .f64 d.x.hi, .float .f64 d.y.lo, .float .f64 d.y.hi, .float .f64 d.z.lo, .float .f64 d.z.hi]] w fun r w' => r = .returned (.tuple #[vval n, .agg #[.float .f64 (bdCos n d).lo, .float .f64 (bdCos n d).hi], .int .i64 1]) ∧ Below w.heap.size w w' := by
 have C0 := Lib.hid (fun w => rdotV_any n d w)
 obtain ⟨p0, hp0⟩ : ∃ z_, vDot n d = z_ := ⟨_, rfl⟩
 rw [hp0] at C0
 have C1 := Lib.hid (fun w => rneg_sp p0 w)
 obtain ⟨p1, hp1⟩ : ∃ z_, negS p0 = z_ := ⟨_, rfl⟩
 rw [hp1] at C1
 have hl : posS p1 = 1 := by rw [← hp1, ← hp0]; exact h
 have C2 := Lib.hid (fun w => rpos_lit hl w)
 have hT : bdCos n d = p1 := by
   subst hp0 hp1; rfl
 rw [hT]
 clear hT
 clear hp0 hp1
 go_enter Try.func53, Try.ntmps53
 go_wp2_with (first | (refine wl_load (by kernel_rfl) rfl rfl ((((Blk.new_at _ _ _ rfl).alloc _).alloc _).alloc _) (by rw [info_V3]; rfl) Try.underlying30 rfl ?_) | (refine wl_load (by kernel_rfl) rfl rfl (((Blk.new_at _ _ _ (by simp)).alloc _).alloc _) (by rw [info_V3]; rfl) Try.underlying30 rfl ?_))
 obtain ⟨W, hW, K0, K1, K2, K3, hB, hz⟩ := bx4 w 30 30 30 28 (vc n) (vc d) #[.float .f64 0, .float .f64 0, .float .f64 0, .float .f64 0, .float .f64 0, .float .f64 0] #[.float .f64 0, .float .f64 0]
 rw [← hW]
 have K0 := Lib.hid K0
 have K1 := Lib.hid K1
 have K2 := Lib.hid K2
 have K3 := Lib.hid K3
 have HB := Lib.hid hB
 clear hW hB hz
 have D1 := dr W
 refine (C0.out _).mono ?_
 rintro r w2 ⟨rfl, hb⟩
 have D3 := ds D1 hb
 clear D1
 clear hb
 go_wp2_with fail
 refine (C1.out _).mono ?_
 rintro r w4 ⟨rfl, hb⟩
 have D5 := ds D3 hb
 clear D3
 clear hb
 obtain ⟨g6, hg8⟩ : ∃ g, w4.heap.size = g := ⟨_, rfl⟩
 have Y10 := Lib.hid (show w.heap.size < g6 ∧ w.heap.size + 1 < g6 ∧ w.heap.size + 1 + 1 < g6 ∧ w.heap.size + 1 + 1 + 1 < g6 by rw [← hg8]; exact ⟨(kb K0 D5).lt, (kb K1 D5).lt, (kb K2 D5).lt, (kb K3 D5).lt⟩)
 obtain ⟨V7, hV9⟩ : ∃ V, w4.alloc (.cells #[.float .f64 0, .float .f64 0] 28) = V := ⟨_, rfl⟩
 have K11 := ka hV9 K0 D5
 have K12 := ka hV9 K1 D5
 have K13 := ka hV9 K2 D5
 have K14 := ka hV9 K3 D5
 have K15 := kn hV9 hg8
 have HB16 := hba hV9 HB D5
 have D17 := dr V7
 clear K0 K1 K2 K3 HB D5
 have f20 := (kb K15 D17).cellsL 0 [.float .f64 0, .float .f64 0] rfl
 dsimp only [CellsL, al, vl, Nat.reduceAdd] at f20
 have u21 := (kb K15 D17).unfrozen
 obtain ⟨V18, hV19⟩ : ∃ V, setCells V7 (g6) 0 [.float .f64 p1.lo, .float .f64 p1.hi] = V := ⟨_, rfl⟩
 have hv22 := hV19
 simp only [setCells, Nat.reduceAdd] at hv22
 have K23 := kf hV19 K11 D17 (by have := Y10.out; omega)
 have K24 := kf hV19 K12 D17 (by have := Y10.out; omega)
 have K25 := kf hV19 K13 D17 (by have := Y10.out; omega)
 have K26 := kf hV19 K14 D17 (by have := Y10.out; omega)
 have K27 := Lib.hid (show Blk V18 (g6) 28 #[.float .f64 p1.lo, .float .f64 p1.hi] from (ks hV19 K15 D17).out)
 have HB28 := hbs hV19 HB16 D17 (by have := Y10.out; omega)
 have D29 := dr V18
 clear K11 K12 K13 K14 K15 HB16 D17
 have hq30 := (kb K27 D29).cellsL 0 [.float .f64 p1.lo, .float .f64 p1.hi] rfl
 dsimp only [CellsL, al, vl, Nat.reduceAdd] at hq30
 go_wp2_with fail
 clear hg8 hV9 hV19 f20 u21 hv22 hq30
 refine (C2.out _).mono ?_
 rintro r w31 ⟨rfl, hb⟩
 have D32 := ds D29 hb
 clear D29
 clear hb
 go_wp2_with fail
 refine wp_region_held (S := (fun w' => True ∧ Blk w' (w.heap.size) 30 (vc n) ∧ CellsL w' (g6) 0 [.float .f64 p1.lo, .float .f64 p1.hi])) (by kernel_rfl) ?_
 change wpAnyH _ _ _ _ _ _ _ _ (World.drew _)
 obtain ⟨wd33, hwd⟩ : ∃ x, x = World.drew w31 := ⟨_, rfl⟩
 rw [← hwd]
 have D34 := Lib.hid (hwd ▸ Below.drew D32.out : Below V18.heap.size V18 wd33)
 clear D32 hwd
 have hS35 : True ∧ Blk wd33 (w.heap.size) 30 (vc n) ∧ CellsL wd33 (g6) 0 [.float .f64 p1.lo, .float .f64 p1.hi] := ⟨trivial, (kb K23 D34), (kb K27 D34).cellsL 0 [.float .f64 p1.lo, .float .f64 p1.hi] rfl⟩
 refine tkL 0 (bm 6 1) ?aq36 rfl (by kernel_rfl) (fun _ _ _ h => h) (by kernel_rfl) rfl rfl (fun _ hS => hS.2.1) (by rw [info_V3]; rfl) Try.underlying30 rfl ?pq36 hS35 ?rq36
 case pq36 => (go_simp; try with_reducible rfl)
 refine tke 1 (bm 6 3) hS35 ?_
 refine tkq 2 (bm 6 7) hS35 ?_
 refine wpAnyH_oneN (i := 3) (l' := bm 6 15) rfl (by kernel_rfl) (by kernel_rfl) (by kernel_rfl) (fun K hK => ?_)
 have f41 := (kb K25 D34)
 obtain ⟨V39, hV40⟩ : ∃ V, World.setRow wd33 (w.heap.size + 1 + 1) (vc n) = V := ⟨_, rfl⟩
 have K42 := kfr hV40 K23 D34 (by have := Y10.out; omega)
 have K43 := kfr hV40 K24 D34 (by have := Y10.out; omega)
 have K44 := ksr hV40 K25 D34
 have K45 := kfr hV40 K26 D34 (by have := Y10.out; omega)
 have K46 := kfr hV40 K27 D34 (by have := Y10.out; omega)
 have HB47 := hbr hV40 HB28 D34 (by have := Y10.out; omega)
 have D48 := dr V39
 clear K23 K24 K25 K26 K27 HB28 D34
 refine wp_store_row 30 _ _ rfl (w.heap.size + 1 + 1) (vc n) rfl rfl _ _ f41 (by rw [info_V3]; rfl) rfl (by kernel_rfl) ?_
 rw [hV40]
 go_simp
 clear hV40 f41
 have hS49 : True ∧ Blk V39 (w.heap.size) 30 (vc n) ∧ CellsL V39 (g6) 0 [.float .f64 p1.lo, .float .f64 p1.hi] := ⟨trivial, (kb K42 D48), (kb K46 D48).cellsL 0 [.float .f64 p1.lo, .float .f64 p1.hi] rfl⟩
 refine hK _ _ hS49 ?_
 clear hK K hS35
 refine wpAnyH_oneN (i := 4) (l' := bm 6 31) rfl (by kernel_rfl) (by kernel_rfl) (by kernel_rfl) (fun K hK => ?_)
 have f52 := (kb K45 D48).cellsL 0 [.float .f64 0, .float .f64 0] rfl
 dsimp only [CellsL, al, vl, Nat.reduceAdd] at f52
 have u53 := (kb K45 D48).unfrozen
 obtain ⟨V50, hV51⟩ : ∃ V, setCells V39 (w.heap.size + 1 + 1 + 1) 0 [.float .f64 p1.lo, .float .f64 p1.hi] = V := ⟨_, rfl⟩
 have hv54 := hV51
 simp only [setCells, Nat.reduceAdd] at hv54
 have K55 := kf hV51 K42 D48 (by have := Y10.out; omega)
 have K56 := kf hV51 K43 D48 (by have := Y10.out; omega)
 have K57 := kf hV51 K44 D48 (by have := Y10.out; omega)
 have K58 := Lib.hid (show Blk V50 (w.heap.size + 1 + 1 + 1) 28 #[.float .f64 p1.lo, .float .f64 p1.hi] from (ks hV51 K45 D48).out)
 have K59 := kf hV51 K46 D48 (by have := Y10.out; omega)
 have HB60 := hbs hV51 HB47 D48 (by have := Y10.out; omega)
 have D61 := dr V50
 clear K42 K43 K44 K45 K46 HB47 D48
 go_simp
 clear hV51 f52 u53 hv54
 have hS62 : True ∧ Blk V50 (w.heap.size) 30 (vc n) ∧ CellsL V50 (g6) 0 [.float .f64 p1.lo, .float .f64 p1.hi] := ⟨trivial, (kb K55 D61), (kb K59 D61).cellsL 0 [.float .f64 p1.lo, .float .f64 p1.hi] rfl⟩
 refine hK _ _ hS62 ?_
 clear hK K hS49
 refine tkq 5 (bm 6 63) hS62 ?_
 refine wpAnyH_done (by kernel_rfl) ?_ _
 clear hS62
 go_wp2_with fail
 (try simp only [Exit.inBlock, Exit.then])
 exact bodyPost_ret (res_cct rfl _ _ (w.heap.size + 1 + 1) (vc n) (w.heap.size + 1 + 1 + 1) #[.float .f64 p1.lo, .float .f64 p1.hi] rfl (kb K57 D61) (by rw [info_V3]; rfl) Try.underlying30 rfl rfl (kb K58 D61) (by rw [info_Span]; rfl) Try.underlying28 rfl) rfl ⟨rfl, below_step HB60.out D61.out⟩
theorem rface_0 (n d : V3) (h : posS (bdCos n d) = 0) (w : World) : Calls Try.prog 53 #[Value.agg #[.float .f64 n.x.lo, .float .f64 n.x.hi, .float .f64 n.y.lo, .float .f64 n.y.hi, .float .f64 n.z.lo, .float .f64 n.z.hi], Value.agg #[.float .f64 d.x.lo, .float .f64 d.x.hi, .float .f64 d.y.lo, .float .f64 d.y.hi, .float .f64 d.z.lo, .float .f64 d.z.hi]] w fun r w' => r = .returned (.tuple #[vval (vNeg n), .agg #[.float .f64 (negS (bdCos n d)).lo, .float .f64 (negS (bdCos n d)).hi], .int .i64 1]) ∧ Below w.heap.size w w' := by
 have C0 := Lib.hid (fun w => rdotV_any n d w)
 obtain ⟨p0, hp0⟩ : ∃ z_, vDot n d = z_ := ⟨_, rfl⟩
 rw [hp0] at C0
 have C1 := Lib.hid (fun w => rneg_sp p0 w)
 obtain ⟨p1, hp1⟩ : ∃ z_, negS p0 = z_ := ⟨_, rfl⟩
 rw [hp1] at C1
 have hl : posS p1 = 0 := by rw [← hp1, ← hp0]; exact h
 have C2 := Lib.hid (fun w => rpos_lit hl w)
 have C3 := Lib.hid (fun w => rnegV_any n w)
 obtain ⟨p3, hp3⟩ : ∃ z_, vNeg n = z_ := ⟨_, rfl⟩
 rw [hp3] at C3
 have C4 := Lib.hid (fun w => rneg_sp p1 w)
 obtain ⟨p4, hp4⟩ : ∃ z_, negS p1 = z_ := ⟨_, rfl⟩
 rw [hp4] at C4
 have hT0 : negS (bdCos n d) = p4 := by
   subst hp0 hp1 hp3 hp4; rfl
 have hT1 : vNeg n = p3 := by
   subst hp0 hp1 hp3 hp4; rfl
 rw [hT0, hT1]
 clear hT0 hT1
 clear hp0 hp1 hp3 hp4
 go_enter Try.func53, Try.ntmps53
 go_wp2_with (first | (refine wl_load (by kernel_rfl) rfl rfl ((((Blk.new_at _ _ _ rfl).alloc _).alloc _).alloc _) (by rw [info_V3]; rfl) Try.underlying30 rfl ?_) | (refine wl_load (by kernel_rfl) rfl rfl (((Blk.new_at _ _ _ (by simp)).alloc _).alloc _) (by rw [info_V3]; rfl) Try.underlying30 rfl ?_))
 obtain ⟨W, hW, K0, K1, K2, K3, hB, hz⟩ := bx4 w 30 30 30 28 (vc n) (vc d) #[.float .f64 0, .float .f64 0, .float .f64 0, .float .f64 0, .float .f64 0, .float .f64 0] #[.float .f64 0, .float .f64 0]
 rw [← hW]
 have K0 := Lib.hid K0
 have K1 := Lib.hid K1
 have K2 := Lib.hid K2
 have K3 := Lib.hid K3
 have HB := Lib.hid hB
 clear hW hB hz
 have D1 := dr W
 refine (C0.out _).mono ?_
 rintro r w2 ⟨rfl, hb⟩
 have D3 := ds D1 hb
 clear D1
 clear hb
 go_wp2_with fail
 refine (C1.out _).mono ?_
 rintro r w4 ⟨rfl, hb⟩
 have D5 := ds D3 hb
 clear D3
 clear hb
 obtain ⟨g6, hg8⟩ : ∃ g, w4.heap.size = g := ⟨_, rfl⟩
 have Y10 := Lib.hid (show w.heap.size < g6 ∧ w.heap.size + 1 < g6 ∧ w.heap.size + 1 + 1 < g6 ∧ w.heap.size + 1 + 1 + 1 < g6 by rw [← hg8]; exact ⟨(kb K0 D5).lt, (kb K1 D5).lt, (kb K2 D5).lt, (kb K3 D5).lt⟩)
 obtain ⟨V7, hV9⟩ : ∃ V, w4.alloc (.cells #[.float .f64 0, .float .f64 0] 28) = V := ⟨_, rfl⟩
 have K11 := ka hV9 K0 D5
 have K12 := ka hV9 K1 D5
 have K13 := ka hV9 K2 D5
 have K14 := ka hV9 K3 D5
 have K15 := kn hV9 hg8
 have HB16 := hba hV9 HB D5
 have D17 := dr V7
 clear K0 K1 K2 K3 HB D5
 have f20 := (kb K15 D17).cellsL 0 [.float .f64 0, .float .f64 0] rfl
 dsimp only [CellsL, al, vl, Nat.reduceAdd] at f20
 have u21 := (kb K15 D17).unfrozen
 obtain ⟨V18, hV19⟩ : ∃ V, setCells V7 (g6) 0 [.float .f64 p1.lo, .float .f64 p1.hi] = V := ⟨_, rfl⟩
 have hv22 := hV19
 simp only [setCells, Nat.reduceAdd] at hv22
 have K23 := kf hV19 K11 D17 (by have := Y10.out; omega)
 have K24 := kf hV19 K12 D17 (by have := Y10.out; omega)
 have K25 := kf hV19 K13 D17 (by have := Y10.out; omega)
 have K26 := kf hV19 K14 D17 (by have := Y10.out; omega)
 have K27 := Lib.hid (show Blk V18 (g6) 28 #[.float .f64 p1.lo, .float .f64 p1.hi] from (ks hV19 K15 D17).out)
 have HB28 := hbs hV19 HB16 D17 (by have := Y10.out; omega)
 have D29 := dr V18
 clear K11 K12 K13 K14 K15 HB16 D17
 have hq30 := (kb K27 D29).cellsL 0 [.float .f64 p1.lo, .float .f64 p1.hi] rfl
 dsimp only [CellsL, al, vl, Nat.reduceAdd] at hq30
 go_wp2_with fail
 clear hg8 hV9 hV19 f20 u21 hv22 hq30
 refine (C2.out _).mono ?_
 rintro r w31 ⟨rfl, hb⟩
 have D32 := ds D29 hb
 clear D29
 clear hb
 go_wp2_with fail
 refine wp_region_held (S := (fun w' => True ∧ Blk w' (w.heap.size) 30 (vc n) ∧ CellsL w' (g6) 0 [.float .f64 p1.lo, .float .f64 p1.hi])) (by kernel_rfl) ?_
 change wpAnyH _ _ _ _ _ _ _ _ (World.drew _)
 obtain ⟨wd33, hwd⟩ : ∃ x, x = World.drew w31 := ⟨_, rfl⟩
 rw [← hwd]
 have D34 := Lib.hid (hwd ▸ Below.drew D32.out : Below V18.heap.size V18 wd33)
 clear D32 hwd
 have hS35 : True ∧ Blk wd33 (w.heap.size) 30 (vc n) ∧ CellsL wd33 (g6) 0 [.float .f64 p1.lo, .float .f64 p1.hi] := ⟨trivial, (kb K23 D34), (kb K27 D34).cellsL 0 [.float .f64 p1.lo, .float .f64 p1.hi] rfl⟩
 refine tkL 0 (bm 7 1) ?aq36 rfl (by kernel_rfl) (fun _ _ _ h => h) (by kernel_rfl) rfl rfl (fun _ hS => hS.2.1) (by rw [info_V3]; rfl) Try.underlying30 rfl ?pq36 hS35 ?rq36
 case pq36 => (go_simp; try with_reducible rfl)
 refine tke 2 (bm 7 5) hS35 ?_
 refine wpAnyH_oneN (i := 1) (l' := bm 7 7) rfl (by kernel_rfl) (by kernel_rfl) (by kernel_rfl) (fun K hK => ?_)
 go_simp
 go_at_call 97
 refine (C3.out _).mono ?_
 rintro r w38 ⟨rfl, hb⟩
 dsimp only
 have D39 := ds D34 hb
 clear D34
 clear hb
 have hS40 : True ∧ Blk w38 (w.heap.size) 30 (vc n) ∧ CellsL w38 (g6) 0 [.float .f64 p1.lo, .float .f64 p1.hi] := ⟨trivial, (kb K23 D39), (kb K27 D39).cellsL 0 [.float .f64 p1.lo, .float .f64 p1.hi] rfl⟩
 refine hK _ _ hS40 ?_
 clear hK K hS35
 refine wpAnyH_oneN (i := 3) (l' := bm 7 15) rfl (by kernel_rfl) (by kernel_rfl) (by kernel_rfl) (fun K hK => ?_)
 go_simp
 go_at_call 73
 refine (C4.out _).mono ?_
 rintro r w41 ⟨rfl, hb⟩
 dsimp only
 have D42 := ds D39 hb
 clear D39
 clear hb
 have hS43 : True ∧ Blk w41 (w.heap.size) 30 (vc n) ∧ CellsL w41 (g6) 0 [.float .f64 p1.lo, .float .f64 p1.hi] := ⟨trivial, (kb K23 D42), (kb K27 D42).cellsL 0 [.float .f64 p1.lo, .float .f64 p1.hi] rfl⟩
 refine hK _ _ hS43 ?_
 clear hK K hS40
 refine wpAnyH_oneN (i := 4) (l' := bm 7 31) rfl (by kernel_rfl) (by kernel_rfl) (by kernel_rfl) (fun K hK => ?_)
 have f46 := (kb K25 D42)
 obtain ⟨V44, hV45⟩ : ∃ V, World.setRow w41 (w.heap.size + 1 + 1) (vc p3) = V := ⟨_, rfl⟩
 have K47 := kfr hV45 K23 D42 (by have := Y10.out; omega)
 have K48 := kfr hV45 K24 D42 (by have := Y10.out; omega)
 have K49 := ksr hV45 K25 D42
 have K50 := kfr hV45 K26 D42 (by have := Y10.out; omega)
 have K51 := kfr hV45 K27 D42 (by have := Y10.out; omega)
 have HB52 := hbr hV45 HB28 D42 (by have := Y10.out; omega)
 have D53 := dr V44
 clear K23 K24 K25 K26 K27 HB28 D42
 refine wp_store_row 30 _ _ rfl (w.heap.size + 1 + 1) (vc p3) rfl rfl _ _ f46 (by rw [info_V3]; rfl) rfl (by kernel_rfl) ?_
 rw [hV45]
 go_simp
 clear hV45 f46
 have hS54 : True ∧ Blk V44 (w.heap.size) 30 (vc n) ∧ CellsL V44 (g6) 0 [.float .f64 p1.lo, .float .f64 p1.hi] := ⟨trivial, (kb K47 D53), (kb K51 D53).cellsL 0 [.float .f64 p1.lo, .float .f64 p1.hi] rfl⟩
 refine hK _ _ hS54 ?_
 clear hK K hS43
 refine wpAnyH_oneN (i := 5) (l' := bm 7 63) rfl (by kernel_rfl) (by kernel_rfl) (by kernel_rfl) (fun K hK => ?_)
 have f57 := (kb K50 D53).cellsL 0 [.float .f64 0, .float .f64 0] rfl
 dsimp only [CellsL, al, vl, Nat.reduceAdd] at f57
 have u58 := (kb K50 D53).unfrozen
 obtain ⟨V55, hV56⟩ : ∃ V, setCells V44 (w.heap.size + 1 + 1 + 1) 0 [.float .f64 p4.lo, .float .f64 p4.hi] = V := ⟨_, rfl⟩
 have hv59 := hV56
 simp only [setCells, Nat.reduceAdd] at hv59
 have K60 := kf hV56 K47 D53 (by have := Y10.out; omega)
 have K61 := kf hV56 K48 D53 (by have := Y10.out; omega)
 have K62 := kf hV56 K49 D53 (by have := Y10.out; omega)
 have K63 := Lib.hid (show Blk V55 (w.heap.size + 1 + 1 + 1) 28 #[.float .f64 p4.lo, .float .f64 p4.hi] from (ks hV56 K50 D53).out)
 have K64 := kf hV56 K51 D53 (by have := Y10.out; omega)
 have HB65 := hbs hV56 HB52 D53 (by have := Y10.out; omega)
 have D66 := dr V55
 clear K47 K48 K49 K50 K51 HB52 D53
 go_simp
 clear hV56 f57 u58 hv59
 have hS67 : True ∧ Blk V55 (w.heap.size) 30 (vc n) ∧ CellsL V55 (g6) 0 [.float .f64 p1.lo, .float .f64 p1.hi] := ⟨trivial, (kb K60 D66), (kb K64 D66).cellsL 0 [.float .f64 p1.lo, .float .f64 p1.hi] rfl⟩
 refine hK _ _ hS67 ?_
 clear hK K hS54
 refine tkq 6 (bm 7 127) hS67 ?_
 refine wpAnyH_done (by kernel_rfl) ?_ _
 clear hS67
 go_wp2_with fail
 (try simp only [Exit.inBlock, Exit.then])
 exact bodyPost_ret (res_cct rfl _ _ (w.heap.size + 1 + 1) (vc p3) (w.heap.size + 1 + 1 + 1) #[.float .f64 p4.lo, .float .f64 p4.hi] rfl (kb K62 D66) (by rw [info_V3]; rfl) Try.underlying30 rfl rfl (kb K63 D66) (by rw [info_Span]; rfl) Try.underlying28 rfl) rfl ⟨rfl, below_step HB65.out D66.out⟩
theorem rface_2 (n d : V3) (h : posS (bdCos n d) = 2) (w : World) : Calls Try.prog 53 #[Value.agg #[.float .f64 n.x.lo, .float .f64 n.x.hi, .float .f64 n.y.lo, .float .f64 n.y.hi, .float .f64 n.z.lo, .float .f64 n.z.hi], Value.agg #[.float .f64 d.x.lo, .float .f64 d.x.hi, .float .f64 d.y.lo, .float .f64 d.y.hi, .float .f64 d.z.lo, .float .f64 d.z.hi]] w fun r w' => r = .returned (.tuple #[vval n, .agg #[.float .f64 (bdCos n d).lo, .float .f64 (bdCos n d).hi], .int .i64 2]) ∧ Below w.heap.size w w' := by
 have C0 := Lib.hid (fun w => rdotV_any n d w)
 obtain ⟨p0, hp0⟩ : ∃ z_, vDot n d = z_ := ⟨_, rfl⟩
 rw [hp0] at C0
 have C1 := Lib.hid (fun w => rneg_sp p0 w)
 obtain ⟨p1, hp1⟩ : ∃ z_, negS p0 = z_ := ⟨_, rfl⟩
 rw [hp1] at C1
 have hl : posS p1 = 2 := by rw [← hp1, ← hp0]; exact h
 have C2 := Lib.hid (fun w => rpos_lit hl w)
 have hT : bdCos n d = p1 := by
   subst hp0 hp1; rfl
 rw [hT]
 clear hT
 clear hp0 hp1
 go_enter Try.func53, Try.ntmps53
 go_wp2_with (first | (refine wl_load (by kernel_rfl) rfl rfl ((((Blk.new_at _ _ _ rfl).alloc _).alloc _).alloc _) (by rw [info_V3]; rfl) Try.underlying30 rfl ?_) | (refine wl_load (by kernel_rfl) rfl rfl (((Blk.new_at _ _ _ (by simp)).alloc _).alloc _) (by rw [info_V3]; rfl) Try.underlying30 rfl ?_))
 obtain ⟨W, hW, K0, K1, K2, K3, hB, hz⟩ := bx4 w 30 30 30 28 (vc n) (vc d) #[.float .f64 0, .float .f64 0, .float .f64 0, .float .f64 0, .float .f64 0, .float .f64 0] #[.float .f64 0, .float .f64 0]
 rw [← hW]
 have K0 := Lib.hid K0
 have K1 := Lib.hid K1
 have K2 := Lib.hid K2
 have K3 := Lib.hid K3
 have HB := Lib.hid hB
 clear hW hB hz
 have D1 := dr W
 refine (C0.out _).mono ?_
 rintro r w2 ⟨rfl, hb⟩
 have D3 := ds D1 hb
 clear D1
 clear hb
 go_wp2_with fail
 refine (C1.out _).mono ?_
 rintro r w4 ⟨rfl, hb⟩
 have D5 := ds D3 hb
 clear D3
 clear hb
 obtain ⟨g6, hg8⟩ : ∃ g, w4.heap.size = g := ⟨_, rfl⟩
 have Y10 := Lib.hid (show w.heap.size < g6 ∧ w.heap.size + 1 < g6 ∧ w.heap.size + 1 + 1 < g6 ∧ w.heap.size + 1 + 1 + 1 < g6 by rw [← hg8]; exact ⟨(kb K0 D5).lt, (kb K1 D5).lt, (kb K2 D5).lt, (kb K3 D5).lt⟩)
 obtain ⟨V7, hV9⟩ : ∃ V, w4.alloc (.cells #[.float .f64 0, .float .f64 0] 28) = V := ⟨_, rfl⟩
 have K11 := ka hV9 K0 D5
 have K12 := ka hV9 K1 D5
 have K13 := ka hV9 K2 D5
 have K14 := ka hV9 K3 D5
 have K15 := kn hV9 hg8
 have HB16 := hba hV9 HB D5
 have D17 := dr V7
 clear K0 K1 K2 K3 HB D5
 have f20 := (kb K15 D17).cellsL 0 [.float .f64 0, .float .f64 0] rfl
 dsimp only [CellsL, al, vl, Nat.reduceAdd] at f20
 have u21 := (kb K15 D17).unfrozen
 obtain ⟨V18, hV19⟩ : ∃ V, setCells V7 (g6) 0 [.float .f64 p1.lo, .float .f64 p1.hi] = V := ⟨_, rfl⟩
 have hv22 := hV19
 simp only [setCells, Nat.reduceAdd] at hv22
 have K23 := kf hV19 K11 D17 (by have := Y10.out; omega)
 have K24 := kf hV19 K12 D17 (by have := Y10.out; omega)
 have K25 := kf hV19 K13 D17 (by have := Y10.out; omega)
 have K26 := kf hV19 K14 D17 (by have := Y10.out; omega)
 have K27 := Lib.hid (show Blk V18 (g6) 28 #[.float .f64 p1.lo, .float .f64 p1.hi] from (ks hV19 K15 D17).out)
 have HB28 := hbs hV19 HB16 D17 (by have := Y10.out; omega)
 have D29 := dr V18
 clear K11 K12 K13 K14 K15 HB16 D17
 have hq30 := (kb K27 D29).cellsL 0 [.float .f64 p1.lo, .float .f64 p1.hi] rfl
 dsimp only [CellsL, al, vl, Nat.reduceAdd] at hq30
 go_wp2_with fail
 clear hg8 hV9 hV19 f20 u21 hv22 hq30
 refine (C2.out _).mono ?_
 rintro r w31 ⟨rfl, hb⟩
 have D32 := ds D29 hb
 clear D29
 clear hb
 go_wp2_with fail
 refine wp_region_held (S := (fun w' => True ∧ Blk w' (w.heap.size) 30 (vc n) ∧ CellsL w' (g6) 0 [.float .f64 p1.lo, .float .f64 p1.hi])) (by kernel_rfl) ?_
 change wpAnyH _ _ _ _ _ _ _ _ (World.drew _)
 obtain ⟨wd33, hwd⟩ : ∃ x, x = World.drew w31 := ⟨_, rfl⟩
 rw [← hwd]
 have D34 := Lib.hid (hwd ▸ Below.drew D32.out : Below V18.heap.size V18 wd33)
 clear D32 hwd
 have hS35 : True ∧ Blk wd33 (w.heap.size) 30 (vc n) ∧ CellsL wd33 (g6) 0 [.float .f64 p1.lo, .float .f64 p1.hi] := ⟨trivial, (kb K23 D34), (kb K27 D34).cellsL 0 [.float .f64 p1.lo, .float .f64 p1.hi] rfl⟩
 refine tkL 0 (bm 6 1) ?aq36 rfl (by kernel_rfl) (fun _ _ _ h => h) (by kernel_rfl) rfl rfl (fun _ hS => hS.2.1) (by rw [info_V3]; rfl) Try.underlying30 rfl ?pq36 hS35 ?rq36
 case pq36 => (go_simp; try with_reducible rfl)
 refine tke 1 (bm 6 3) hS35 ?_
 refine tkq 2 (bm 6 7) hS35 ?_
 refine wpAnyH_oneN (i := 3) (l' := bm 6 15) rfl (by kernel_rfl) (by kernel_rfl) (by kernel_rfl) (fun K hK => ?_)
 have f41 := (kb K25 D34)
 obtain ⟨V39, hV40⟩ : ∃ V, World.setRow wd33 (w.heap.size + 1 + 1) (vc n) = V := ⟨_, rfl⟩
 have K42 := kfr hV40 K23 D34 (by have := Y10.out; omega)
 have K43 := kfr hV40 K24 D34 (by have := Y10.out; omega)
 have K44 := ksr hV40 K25 D34
 have K45 := kfr hV40 K26 D34 (by have := Y10.out; omega)
 have K46 := kfr hV40 K27 D34 (by have := Y10.out; omega)
 have HB47 := hbr hV40 HB28 D34 (by have := Y10.out; omega)
 have D48 := dr V39
 clear K23 K24 K25 K26 K27 HB28 D34
 refine wp_store_row 30 _ _ rfl (w.heap.size + 1 + 1) (vc n) rfl rfl _ _ f41 (by rw [info_V3]; rfl) rfl (by kernel_rfl) ?_
 rw [hV40]
 go_simp
 clear hV40 f41
 have hS49 : True ∧ Blk V39 (w.heap.size) 30 (vc n) ∧ CellsL V39 (g6) 0 [.float .f64 p1.lo, .float .f64 p1.hi] := ⟨trivial, (kb K42 D48), (kb K46 D48).cellsL 0 [.float .f64 p1.lo, .float .f64 p1.hi] rfl⟩
 refine hK _ _ hS49 ?_
 clear hK K hS35
 refine wpAnyH_oneN (i := 4) (l' := bm 6 31) rfl (by kernel_rfl) (by kernel_rfl) (by kernel_rfl) (fun K hK => ?_)
 have f52 := (kb K45 D48).cellsL 0 [.float .f64 0, .float .f64 0] rfl
 dsimp only [CellsL, al, vl, Nat.reduceAdd] at f52
 have u53 := (kb K45 D48).unfrozen
 obtain ⟨V50, hV51⟩ : ∃ V, setCells V39 (w.heap.size + 1 + 1 + 1) 0 [.float .f64 p1.lo, .float .f64 p1.hi] = V := ⟨_, rfl⟩
 have hv54 := hV51
 simp only [setCells, Nat.reduceAdd] at hv54
 have K55 := kf hV51 K42 D48 (by have := Y10.out; omega)
 have K56 := kf hV51 K43 D48 (by have := Y10.out; omega)
 have K57 := kf hV51 K44 D48 (by have := Y10.out; omega)
 have K58 := Lib.hid (show Blk V50 (w.heap.size + 1 + 1 + 1) 28 #[.float .f64 p1.lo, .float .f64 p1.hi] from (ks hV51 K45 D48).out)
 have K59 := kf hV51 K46 D48 (by have := Y10.out; omega)
 have HB60 := hbs hV51 HB47 D48 (by have := Y10.out; omega)
 have D61 := dr V50
 clear K42 K43 K44 K45 K46 HB47 D48
 go_simp
 clear hV51 f52 u53 hv54
 have hS62 : True ∧ Blk V50 (w.heap.size) 30 (vc n) ∧ CellsL V50 (g6) 0 [.float .f64 p1.lo, .float .f64 p1.hi] := ⟨trivial, (kb K55 D61), (kb K59 D61).cellsL 0 [.float .f64 p1.lo, .float .f64 p1.hi] rfl⟩
 refine hK _ _ hS62 ?_
 clear hK K hS49
 refine tkq 5 (bm 6 63) hS62 ?_
 refine wpAnyH_done (by kernel_rfl) ?_ _
 clear hS62
 go_wp2_with fail
 (try simp only [Exit.inBlock, Exit.then])
 exact bodyPost_ret (res_cct rfl _ _ (w.heap.size + 1 + 1) (vc n) (w.heap.size + 1 + 1 + 1) #[.float .f64 p1.lo, .float .f64 p1.hi] rfl (kb K57 D61) (by rw [info_V3]; rfl) Try.underlying30 rfl rfl (kb K58 D61) (by rw [info_Span]; rfl) Try.underlying28 rfl) rfl ⟨rfl, below_step HB60.out D61.out⟩
end Go.Proofs.Ytnljfcebmgifdaa
