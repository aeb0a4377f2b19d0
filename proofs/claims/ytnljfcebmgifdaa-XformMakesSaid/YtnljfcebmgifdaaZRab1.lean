/- Shaken: Ub Uc Ue0. -/
import Derived.Test.YtnljfcebmgifdaaZRab
import Derived.Test.YtnljfcebmgifdaaZTa
import Derived.Test.YtnljfcebmgifdaaZYe
set_option maxRecDepth 100000
set_option maxHeartbeats 8000000
set_option linter.unusedVariables false
set_option linter.unusedSimpArgs false
namespace Go.Proofs.Ytnljfcebmgifdaa
open Go.RowKit Fl
theorem column0_any (m : Af) (w : World) : Calls Try.prog 102 #[Value.agg #[.float .f64 m.a.x.lo, .float .f64 m.a.x.hi, .float .f64 m.a.y.lo, .float .f64 m.a.y.hi, .float .f64 m.a.z.lo, .float .f64 m.a.z.hi, .float .f64 m.b.x.lo, .float .f64 m.b.x.hi, .float .f64 m.b.y.lo, .float .f64 m.b.y.hi, .float .f64 m.b.z.lo, .float .f64 m.b.z.hi, .float .f64 m.c.x.lo, .float .f64 m.c.x.hi, .float .f64 m.c.y.lo, .float .f64 m.c.y.hi, .float .f64 m.c.z.lo, .float .f64 m.c.z.hi, .float .f64 m.t.x.lo, .float .f64 m.t.x.hi, .float .f64 m.t.y.lo, .float .f64 m.t.y.hi, .float .f64 m.t.z.lo, .float .f64 m.t.z.hi], Value.int IntKind.i64 0] w fun r w' => r = .returned (.agg #[.float .f64 m.a.x.lo, .float .f64 m.a.x.hi, .float .f64 m.b.x.lo, .float .f64 m.b.x.hi, .float .f64 m.c.x.lo, .float .f64 m.c.x.hi]) ∧ Below w.heap.size w w' := by
 go_enter Try.func102, Try.ntmps102
 go_wp2_with fail
 obtain ⟨W, hW, K0, K1, hB, hz⟩ := bx2 w 33 30 (ac m) #[.float .f64 0, .float .f64 0, .float .f64 0, .float .f64 0, .float .f64 0, .float .f64 0]
 rw [← hW]
 have K0 := Lib.hid K0
 have K1 := Lib.hid K1
 have HB := Lib.hid hB
 clear hW hB hz
 have D1 := dr W
 refine wp_region_held (S := (fun w' => True ∧ CellsL w' (w.heap.size) 0 [.float .f64 m.a.x.lo, .float .f64 m.a.x.hi] ∧ CellsL w' (w.heap.size) 6 [.float .f64 m.b.x.lo, .float .f64 m.b.x.hi] ∧ CellsL w' (w.heap.size) 12 [.float .f64 m.c.x.lo, .float .f64 m.c.x.hi])) (by kernel_rfl) ?_
 change wpAnyH _ _ _ _ _ _ _ _ (World.drew _)
 obtain ⟨wd2, hwd⟩ : ∃ x, x = World.drew W := ⟨_, rfl⟩
 rw [← hwd]
 have D3 := Lib.hid (hwd ▸ Below.drew D1.out : Below W.heap.size W wd2)
 clear D1 hwd
 have hS4 : True ∧ CellsL wd2 (w.heap.size) 0 [.float .f64 m.a.x.lo, .float .f64 m.a.x.hi] ∧ CellsL wd2 (w.heap.size) 6 [.float .f64 m.b.x.lo, .float .f64 m.b.x.hi] ∧ CellsL wd2 (w.heap.size) 12 [.float .f64 m.c.x.lo, .float .f64 m.c.x.hi] := ⟨trivial, (kb K0 D3).cellsL 0 [.float .f64 m.a.x.lo, .float .f64 m.a.x.hi] rfl, (kb K0 D3).cellsL 6 [.float .f64 m.b.x.lo, .float .f64 m.b.x.hi] rfl, (kb K0 D3).cellsL 12 [.float .f64 m.c.x.lo, .float .f64 m.c.x.hi] rfl⟩
 refine tkq 0 (bm 17 1) hS4 ?_
 refine tkq 1 (bm 17 3) hS4 ?_
 refine tkq 2 (bm 17 7) hS4 ?_
 refine tkq 3 (bm 17 15) hS4 ?_
 refine tke 4 (bm 17 31) hS4 ?_
 refine tkq 5 (bm 17 63) hS4 ?_
 refine tkq 6 (bm 17 127) hS4 ?_
 refine tkq 7 (bm 17 255) hS4 ?_
 refine tkq 8 (bm 17 511) hS4 ?_
 refine tke 9 (bm 17 1023) hS4 ?_
 refine tkq 10 (bm 17 2047) hS4 ?_
 refine tkq 11 (bm 17 4095) hS4 ?_
 refine tkq 12 (bm 17 8191) hS4 ?_
 refine tkq 13 (bm 17 16383) hS4 ?_
 refine tke 14 (bm 17 32767) hS4 ?_
 refine tkq 15 (bm 17 65535) hS4 ?_
 refine wpAnyH_oneN (i := 16) (l' := bm 17 131071) rfl (by kernel_rfl) (by kernel_rfl) (by kernel_rfl) (fun K hK => ?_)
 have f23 := (kb K1 D3)
 obtain ⟨V21, hV22⟩ : ∃ V, World.setRow wd2 (w.heap.size + 1) #[.float .f64 m.a.x.lo, .float .f64 m.a.x.hi, .float .f64 m.b.x.lo, .float .f64 m.b.x.hi, .float .f64 m.c.x.lo, .float .f64 m.c.x.hi] = V := ⟨_, rfl⟩
 have K24 := kfr hV22 K0 D3 (by omega)
 have K25 := ksr hV22 K1 D3
 have HB26 := hbr hV22 HB D3 (by omega)
 have D27 := dr V21
 clear K0 K1 HB D3
 refine wp_store_row 30 _ _ rfl (w.heap.size + 1) #[.float .f64 m.a.x.lo, .float .f64 m.a.x.hi, .float .f64 m.b.x.lo, .float .f64 m.b.x.hi, .float .f64 m.c.x.lo, .float .f64 m.c.x.hi] rfl rfl _ _ f23 (by rw [info_V3]; rfl) rfl (by kernel_rfl) ?_
 rw [hV22]
 go_simp
 clear hV22 f23
 have hS28 : True ∧ CellsL V21 (w.heap.size) 0 [.float .f64 m.a.x.lo, .float .f64 m.a.x.hi] ∧ CellsL V21 (w.heap.size) 6 [.float .f64 m.b.x.lo, .float .f64 m.b.x.hi] ∧ CellsL V21 (w.heap.size) 12 [.float .f64 m.c.x.lo, .float .f64 m.c.x.hi] := ⟨trivial, (kb K24 D27).cellsL 0 [.float .f64 m.a.x.lo, .float .f64 m.a.x.hi] rfl, (kb K24 D27).cellsL 6 [.float .f64 m.b.x.lo, .float .f64 m.b.x.hi] rfl, (kb K24 D27).cellsL 12 [.float .f64 m.c.x.lo, .float .f64 m.c.x.hi] rfl⟩
 refine hK _ _ hS28 ?_
 clear hK K hS4
 refine wpAnyH_done (by kernel_rfl) ?_ _
 clear hS28
 go_wp2_with fail
 (try simp only [Exit.inBlock, Exit.then])
 exact bodyPost_ret (res_c rfl _ _ (w.heap.size + 1) #[.float .f64 m.a.x.lo, .float .f64 m.a.x.hi, .float .f64 m.b.x.lo, .float .f64 m.b.x.hi, .float .f64 m.c.x.lo, .float .f64 m.c.x.hi] rfl (kb K25 D27) (by rw [info_V3]; rfl) Try.underlying30 rfl) rfl ⟨rfl, below_step HB26.out D27.out⟩
theorem column1_any (m : Af) (w : World) : Calls Try.prog 102 #[Value.agg #[.float .f64 m.a.x.lo, .float .f64 m.a.x.hi, .float .f64 m.a.y.lo, .float .f64 m.a.y.hi, .float .f64 m.a.z.lo, .float .f64 m.a.z.hi, .float .f64 m.b.x.lo, .float .f64 m.b.x.hi, .float .f64 m.b.y.lo, .float .f64 m.b.y.hi, .float .f64 m.b.z.lo, .float .f64 m.b.z.hi, .float .f64 m.c.x.lo, .float .f64 m.c.x.hi, .float .f64 m.c.y.lo, .float .f64 m.c.y.hi, .float .f64 m.c.z.lo, .float .f64 m.c.z.hi, .float .f64 m.t.x.lo, .float .f64 m.t.x.hi, .float .f64 m.t.y.lo, .float .f64 m.t.y.hi, .float .f64 m.t.z.lo, .float .f64 m.t.z.hi], Value.int IntKind.i64 1] w fun r w' => r = .returned (.agg #[.float .f64 m.a.y.lo, .float .f64 m.a.y.hi, .float .f64 m.b.y.lo, .float .f64 m.b.y.hi, .float .f64 m.c.y.lo, .float .f64 m.c.y.hi]) ∧ Below w.heap.size w w' := by
 go_enter Try.func102, Try.ntmps102
 go_wp2_with fail
 obtain ⟨W, hW, K0, K1, hB, hz⟩ := bx2 w 33 30 (ac m) #[.float .f64 0, .float .f64 0, .float .f64 0, .float .f64 0, .float .f64 0, .float .f64 0]
 rw [← hW]
 have K0 := Lib.hid K0
 have K1 := Lib.hid K1
 have HB := Lib.hid hB
 clear hW hB hz
 have D1 := dr W
 refine wp_region_held (S := (fun w' => True ∧ CellsL w' (w.heap.size) 2 [.float .f64 m.a.y.lo, .float .f64 m.a.y.hi] ∧ CellsL w' (w.heap.size) 8 [.float .f64 m.b.y.lo, .float .f64 m.b.y.hi] ∧ CellsL w' (w.heap.size) 14 [.float .f64 m.c.y.lo, .float .f64 m.c.y.hi])) (by kernel_rfl) ?_
 change wpAnyH _ _ _ _ _ _ _ _ (World.drew _)
 obtain ⟨wd2, hwd⟩ : ∃ x, x = World.drew W := ⟨_, rfl⟩
 rw [← hwd]
 have D3 := Lib.hid (hwd ▸ Below.drew D1.out : Below W.heap.size W wd2)
 clear D1 hwd
 have hS4 : True ∧ CellsL wd2 (w.heap.size) 2 [.float .f64 m.a.y.lo, .float .f64 m.a.y.hi] ∧ CellsL wd2 (w.heap.size) 8 [.float .f64 m.b.y.lo, .float .f64 m.b.y.hi] ∧ CellsL wd2 (w.heap.size) 14 [.float .f64 m.c.y.lo, .float .f64 m.c.y.hi] := ⟨trivial, (kb K0 D3).cellsL 2 [.float .f64 m.a.y.lo, .float .f64 m.a.y.hi] rfl, (kb K0 D3).cellsL 8 [.float .f64 m.b.y.lo, .float .f64 m.b.y.hi] rfl, (kb K0 D3).cellsL 14 [.float .f64 m.c.y.lo, .float .f64 m.c.y.hi] rfl⟩
 refine tkq 0 (bm 17 1) hS4 ?_
 refine tkq 1 (bm 17 3) hS4 ?_
 refine tkq 2 (bm 17 7) hS4 ?_
 refine tkq 3 (bm 17 15) hS4 ?_
 refine tke 4 (bm 17 31) hS4 ?_
 refine tkq 5 (bm 17 63) hS4 ?_
 refine tkq 6 (bm 17 127) hS4 ?_
 refine tkq 7 (bm 17 255) hS4 ?_
 refine tkq 8 (bm 17 511) hS4 ?_
 refine tke 9 (bm 17 1023) hS4 ?_
 refine tkq 10 (bm 17 2047) hS4 ?_
 refine tkq 11 (bm 17 4095) hS4 ?_
 refine tkq 12 (bm 17 8191) hS4 ?_
 refine tkq 13 (bm 17 16383) hS4 ?_
 refine tke 14 (bm 17 32767) hS4 ?_
 refine tkq 15 (bm 17 65535) hS4 ?_
 refine wpAnyH_oneN (i := 16) (l' := bm 17 131071) rfl (by kernel_rfl) (by kernel_rfl) (by kernel_rfl) (fun K hK => ?_)
 have f23 := (kb K1 D3)
 obtain ⟨V21, hV22⟩ : ∃ V, World.setRow wd2 (w.heap.size + 1) #[.float .f64 m.a.y.lo, .float .f64 m.a.y.hi, .float .f64 m.b.y.lo, .float .f64 m.b.y.hi, .float .f64 m.c.y.lo, .float .f64 m.c.y.hi] = V := ⟨_, rfl⟩
 have K24 := kfr hV22 K0 D3 (by omega)
 have K25 := ksr hV22 K1 D3
 have HB26 := hbr hV22 HB D3 (by omega)
 have D27 := dr V21
 clear K0 K1 HB D3
 refine wp_store_row 30 _ _ rfl (w.heap.size + 1) #[.float .f64 m.a.y.lo, .float .f64 m.a.y.hi, .float .f64 m.b.y.lo, .float .f64 m.b.y.hi, .float .f64 m.c.y.lo, .float .f64 m.c.y.hi] rfl rfl _ _ f23 (by rw [info_V3]; rfl) rfl (by kernel_rfl) ?_
 rw [hV22]
 go_simp
 clear hV22 f23
 have hS28 : True ∧ CellsL V21 (w.heap.size) 2 [.float .f64 m.a.y.lo, .float .f64 m.a.y.hi] ∧ CellsL V21 (w.heap.size) 8 [.float .f64 m.b.y.lo, .float .f64 m.b.y.hi] ∧ CellsL V21 (w.heap.size) 14 [.float .f64 m.c.y.lo, .float .f64 m.c.y.hi] := ⟨trivial, (kb K24 D27).cellsL 2 [.float .f64 m.a.y.lo, .float .f64 m.a.y.hi] rfl, (kb K24 D27).cellsL 8 [.float .f64 m.b.y.lo, .float .f64 m.b.y.hi] rfl, (kb K24 D27).cellsL 14 [.float .f64 m.c.y.lo, .float .f64 m.c.y.hi] rfl⟩
 refine hK _ _ hS28 ?_
 clear hK K hS4
 refine wpAnyH_done (by kernel_rfl) ?_ _
 clear hS28
 go_wp2_with fail
 (try simp only [Exit.inBlock, Exit.then])
 exact bodyPost_ret (res_c rfl _ _ (w.heap.size + 1) #[.float .f64 m.a.y.lo, .float .f64 m.a.y.hi, .float .f64 m.b.y.lo, .float .f64 m.b.y.hi, .float .f64 m.c.y.lo, .float .f64 m.c.y.hi] rfl (kb K25 D27) (by rw [info_V3]; rfl) Try.underlying30 rfl) rfl ⟨rfl, below_step HB26.out D27.out⟩
theorem column2_any (m : Af) (w : World) : Calls Try.prog 102 #[Value.agg #[.float .f64 m.a.x.lo, .float .f64 m.a.x.hi, .float .f64 m.a.y.lo, .float .f64 m.a.y.hi, .float .f64 m.a.z.lo, .float .f64 m.a.z.hi, .float .f64 m.b.x.lo, .float .f64 m.b.x.hi, .float .f64 m.b.y.lo, .float .f64 m.b.y.hi, .float .f64 m.b.z.lo, .float .f64 m.b.z.hi, .float .f64 m.c.x.lo, .float .f64 m.c.x.hi, .float .f64 m.c.y.lo, .float .f64 m.c.y.hi, .float .f64 m.c.z.lo, .float .f64 m.c.z.hi, .float .f64 m.t.x.lo, .float .f64 m.t.x.hi, .float .f64 m.t.y.lo, .float .f64 m.t.y.hi, .float .f64 m.t.z.lo, .float .f64 m.t.z.hi], Value.int IntKind.i64 2] w fun r w' => r = .returned (.agg #[.float .f64 m.a.z.lo, .float .f64 m.a.z.hi, .float .f64 m.b.z.lo, .float .f64 m.b.z.hi, .float .f64 m.c.z.lo, .float .f64 m.c.z.hi]) ∧ Below w.heap.size w w' := by
 go_enter Try.func102, Try.ntmps102
 go_wp2_with fail
 obtain ⟨W, hW, K0, K1, hB, hz⟩ := bx2 w 33 30 (ac m) #[.float .f64 0, .float .f64 0, .float .f64 0, .float .f64 0, .float .f64 0, .float .f64 0]
 rw [← hW]
 have K0 := Lib.hid K0
 have K1 := Lib.hid K1
 have HB := Lib.hid hB
 clear hW hB hz
 have D1 := dr W
 refine wp_region_held (S := (fun w' => True ∧ CellsL w' (w.heap.size) 4 [.float .f64 m.a.z.lo, .float .f64 m.a.z.hi] ∧ CellsL w' (w.heap.size) 10 [.float .f64 m.b.z.lo, .float .f64 m.b.z.hi] ∧ CellsL w' (w.heap.size) 16 [.float .f64 m.c.z.lo, .float .f64 m.c.z.hi])) (by kernel_rfl) ?_
 change wpAnyH _ _ _ _ _ _ _ _ (World.drew _)
 obtain ⟨wd2, hwd⟩ : ∃ x, x = World.drew W := ⟨_, rfl⟩
 rw [← hwd]
 have D3 := Lib.hid (hwd ▸ Below.drew D1.out : Below W.heap.size W wd2)
 clear D1 hwd
 have hS4 : True ∧ CellsL wd2 (w.heap.size) 4 [.float .f64 m.a.z.lo, .float .f64 m.a.z.hi] ∧ CellsL wd2 (w.heap.size) 10 [.float .f64 m.b.z.lo, .float .f64 m.b.z.hi] ∧ CellsL wd2 (w.heap.size) 16 [.float .f64 m.c.z.lo, .float .f64 m.c.z.hi] := ⟨trivial, (kb K0 D3).cellsL 4 [.float .f64 m.a.z.lo, .float .f64 m.a.z.hi] rfl, (kb K0 D3).cellsL 10 [.float .f64 m.b.z.lo, .float .f64 m.b.z.hi] rfl, (kb K0 D3).cellsL 16 [.float .f64 m.c.z.lo, .float .f64 m.c.z.hi] rfl⟩
 refine tkq 0 (bm 17 1) hS4 ?_
 refine tkq 1 (bm 17 3) hS4 ?_
 refine tkq 2 (bm 17 7) hS4 ?_
 refine tkq 3 (bm 17 15) hS4 ?_
 refine tke 4 (bm 17 31) hS4 ?_
 refine tkq 5 (bm 17 63) hS4 ?_
 refine tkq 6 (bm 17 127) hS4 ?_
 refine tkq 7 (bm 17 255) hS4 ?_
 refine tkq 8 (bm 17 511) hS4 ?_
 refine tke 9 (bm 17 1023) hS4 ?_
 refine tkq 10 (bm 17 2047) hS4 ?_
 refine tkq 11 (bm 17 4095) hS4 ?_
 refine tkq 12 (bm 17 8191) hS4 ?_
 refine tkq 13 (bm 17 16383) hS4 ?_
 refine tke 14 (bm 17 32767) hS4 ?_
 refine tkq 15 (bm 17 65535) hS4 ?_
 refine wpAnyH_oneN (i := 16) (l' := bm 17 131071) rfl (by kernel_rfl) (by kernel_rfl) (by kernel_rfl) (fun K hK => ?_)
 have f23 := (kb K1 D3)
 obtain ⟨V21, hV22⟩ : ∃ V, World.setRow wd2 (w.heap.size + 1) #[.float .f64 m.a.z.lo, .float .f64 m.a.z.hi, .float .f64 m.b.z.lo, .float .f64 m.b.z.hi, .float .f64 m.c.z.lo, .float .f64 m.c.z.hi] = V := ⟨_, rfl⟩
 have K24 := kfr hV22 K0 D3 (by omega)
 have K25 := ksr hV22 K1 D3
 have HB26 := hbr hV22 HB D3 (by omega)
 have D27 := dr V21
 clear K0 K1 HB D3
 refine wp_store_row 30 _ _ rfl (w.heap.size + 1) #[.float .f64 m.a.z.lo, .float .f64 m.a.z.hi, .float .f64 m.b.z.lo, .float .f64 m.b.z.hi, .float .f64 m.c.z.lo, .float .f64 m.c.z.hi] rfl rfl _ _ f23 (by rw [info_V3]; rfl) rfl (by kernel_rfl) ?_
 rw [hV22]
 go_simp
 clear hV22 f23
 have hS28 : True ∧ CellsL V21 (w.heap.size) 4 [.float .f64 m.a.z.lo, .float .f64 m.a.z.hi] ∧ CellsL V21 (w.heap.size) 10 [.float .f64 m.b.z.lo, .float .f64 m.b.z.hi] ∧ CellsL V21 (w.heap.size) 16 [.float .f64 m.c.z.lo, .float .f64 m.c.z.hi] := ⟨trivial, (kb K24 D27).cellsL 4 [.float .f64 m.a.z.lo, .float .f64 m.a.z.hi] rfl, (kb K24 D27).cellsL 10 [.float .f64 m.b.z.lo, .float .f64 m.b.z.hi] rfl, (kb K24 D27).cellsL 16 [.float .f64 m.c.z.lo, .float .f64 m.c.z.hi] rfl⟩
 refine hK _ _ hS28 ?_
 clear hK K hS4
 refine wpAnyH_done (by kernel_rfl) ?_ _
 clear hS28
 go_wp2_with fail
 (try simp only [Exit.inBlock, Exit.then])
 exact bodyPost_ret (res_c rfl _ _ (w.heap.size + 1) #[.float .f64 m.a.z.lo, .float .f64 m.a.z.hi, .float .f64 m.b.z.lo, .float .f64 m.b.z.hi, .float .f64 m.c.z.lo, .float .f64 m.c.z.hi] rfl (kb K25 D27) (by rw [info_V3]; rfl) Try.underlying30 rfl) rfl ⟨rfl, below_step HB26.out D27.out⟩
theorem thenA_any (m n : Af) (w : World) : Calls Try.prog 60 #[Value.agg #[.float .f64 m.a.x.lo, .float .f64 m.a.x.hi, .float .f64 m.a.y.lo, .float .f64 m.a.y.hi, .float .f64 m.a.z.lo, .float .f64 m.a.z.hi, .float .f64 m.b.x.lo, .float .f64 m.b.x.hi, .float .f64 m.b.y.lo, .float .f64 m.b.y.hi, .float .f64 m.b.z.lo, .float .f64 m.b.z.hi, .float .f64 m.c.x.lo, .float .f64 m.c.x.hi, .float .f64 m.c.y.lo, .float .f64 m.c.y.hi, .float .f64 m.c.z.lo, .float .f64 m.c.z.hi, .float .f64 m.t.x.lo, .float .f64 m.t.x.hi, .float .f64 m.t.y.lo, .float .f64 m.t.y.hi, .float .f64 m.t.z.lo, .float .f64 m.t.z.hi], Value.agg #[.float .f64 n.a.x.lo, .float .f64 n.a.x.hi, .float .f64 n.a.y.lo, .float .f64 n.a.y.hi, .float .f64 n.a.z.lo, .float .f64 n.a.z.hi, .float .f64 n.b.x.lo, .float .f64 n.b.x.hi, .float .f64 n.b.y.lo, .float .f64 n.b.y.hi, .float .f64 n.b.z.lo, .float .f64 n.b.z.hi, .float .f64 n.c.x.lo, .float .f64 n.c.x.hi, .float .f64 n.c.y.lo, .float .f64 n.c.y.hi, .float .f64 n.c.z.lo, .float .f64 n.c.z.hi, .float .f64 n.t.x.lo, .float .f64 n.t.x.hi, .float .f64 n.t.y.lo, .float .f64 n.t.y.hi, .float .f64 n.t.z.lo, .float .f64 n.t.z.hi]] w fun r w' => r = .returned (aval (afThen m n)) ∧ Below w.heap.size w w' := by
 have C0 := Lib.hid (fun w => column0_any n w)
 have C1 := Lib.hid (fun w => dotV_any m.a (⟨n.a.x, n.b.x, n.c.x⟩ : V3) w)
 obtain ⟨p1, hp1⟩ : ∃ z_, vDot m.a (⟨n.a.x, n.b.x, n.c.x⟩ : V3) = z_ := ⟨_, rfl⟩
 rw [hp1] at C1
 have C2 := Lib.hid (fun w => column1_any n w)
 have C3 := Lib.hid (fun w => dotV_any m.a (⟨n.a.y, n.b.y, n.c.y⟩ : V3) w)
 obtain ⟨p3, hp3⟩ : ∃ z_, vDot m.a (⟨n.a.y, n.b.y, n.c.y⟩ : V3) = z_ := ⟨_, rfl⟩
 rw [hp3] at C3
 have C4 := Lib.hid (fun w => column2_any n w)
 have C5 := Lib.hid (fun w => dotV_any m.a (⟨n.a.z, n.b.z, n.c.z⟩ : V3) w)
 obtain ⟨p5, hp5⟩ : ∃ z_, vDot m.a (⟨n.a.z, n.b.z, n.c.z⟩ : V3) = z_ := ⟨_, rfl⟩
 rw [hp5] at C5
 have C6 := Lib.hid (fun w => column0_any n w)
 have C7 := Lib.hid (fun w => dotV_any m.b (⟨n.a.x, n.b.x, n.c.x⟩ : V3) w)
 obtain ⟨p7, hp7⟩ : ∃ z_, vDot m.b (⟨n.a.x, n.b.x, n.c.x⟩ : V3) = z_ := ⟨_, rfl⟩
 rw [hp7] at C7
 have C8 := Lib.hid (fun w => column1_any n w)
 have C9 := Lib.hid (fun w => dotV_any m.b (⟨n.a.y, n.b.y, n.c.y⟩ : V3) w)
 obtain ⟨p9, hp9⟩ : ∃ z_, vDot m.b (⟨n.a.y, n.b.y, n.c.y⟩ : V3) = z_ := ⟨_, rfl⟩
 rw [hp9] at C9
 have C10 := Lib.hid (fun w => column2_any n w)
 have C11 := Lib.hid (fun w => dotV_any m.b (⟨n.a.z, n.b.z, n.c.z⟩ : V3) w)
 obtain ⟨p11, hp11⟩ : ∃ z_, vDot m.b (⟨n.a.z, n.b.z, n.c.z⟩ : V3) = z_ := ⟨_, rfl⟩
 rw [hp11] at C11
 have C12 := Lib.hid (fun w => column0_any n w)
 have C13 := Lib.hid (fun w => dotV_any m.c (⟨n.a.x, n.b.x, n.c.x⟩ : V3) w)
 obtain ⟨p13, hp13⟩ : ∃ z_, vDot m.c (⟨n.a.x, n.b.x, n.c.x⟩ : V3) = z_ := ⟨_, rfl⟩
 rw [hp13] at C13
 have C14 := Lib.hid (fun w => column1_any n w)
 have C15 := Lib.hid (fun w => dotV_any m.c (⟨n.a.y, n.b.y, n.c.y⟩ : V3) w)
 obtain ⟨p15, hp15⟩ : ∃ z_, vDot m.c (⟨n.a.y, n.b.y, n.c.y⟩ : V3) = z_ := ⟨_, rfl⟩
 rw [hp15] at C15
 have C16 := Lib.hid (fun w => column2_any n w)
 have C17 := Lib.hid (fun w => dotV_any m.c (⟨n.a.z, n.b.z, n.c.z⟩ : V3) w)
 obtain ⟨p17, hp17⟩ : ∃ z_, vDot m.c (⟨n.a.z, n.b.z, n.c.z⟩ : V3) = z_ := ⟨_, rfl⟩
 rw [hp17] at C17
 have C18 := Lib.hid (fun w => ptA_any m n.t w)
 obtain ⟨p18, hp18⟩ : ∃ z_, afPt m n.t = z_ := ⟨_, rfl⟩
 rw [hp18] at C18
 have hT : afThen m n = (⟨(⟨p1, p3, p5⟩ : V3), (⟨p7, p9, p11⟩ : V3), (⟨p13, p15, p17⟩ : V3), p18⟩ : Af) := by
   subst hp1 hp3 hp5 hp7 hp9 hp11 hp13 hp15 hp17 hp18; rfl
 rw [hT]
 clear hT
 clear hp1 hp3 hp5 hp7 hp9 hp11 hp13 hp15 hp17 hp18
 go_enter Try.func60, Try.ntmps60
 go_wp2_with fail
 obtain ⟨W, hW, K0, K1, K2, K3, hB, hz⟩ := bx4 w 33 33 33 33 (ac m) (ac n) #[.float .f64 0, .float .f64 0, .float .f64 0, .float .f64 0, .float .f64 0, .float .f64 0, .float .f64 0, .float .f64 0, .float .f64 0, .float .f64 0, .float .f64 0, .float .f64 0, .float .f64 0, .float .f64 0, .float .f64 0, .float .f64 0, .float .f64 0, .float .f64 0, .float .f64 0, .float .f64 0, .float .f64 0, .float .f64 0, .float .f64 0, .float .f64 0] #[.float .f64 0, .float .f64 0, .float .f64 0, .float .f64 0, .float .f64 0, .float .f64 0, .float .f64 0, .float .f64 0, .float .f64 0, .float .f64 0, .float .f64 0, .float .f64 0, .float .f64 0, .float .f64 0, .float .f64 0, .float .f64 0, .float .f64 0, .float .f64 0, .float .f64 0, .float .f64 0, .float .f64 0, .float .f64 0, .float .f64 0, .float .f64 0]
 rw [← hW]
 have K0 := Lib.hid K0
 have K1 := Lib.hid K1
 have K2 := Lib.hid K2
 have K3 := Lib.hid K3
 have HB := Lib.hid hB
 clear hW hB hz
 have D1 := dr W
 go_wp2_with fail
 refine wp_loop_rounds 4 ?_
 rw [rounds_succ]
 go_wp2_with fail
 refine wp_loop_rounds 4 ?_
 rw [rounds_succ]
 go_wp2_with fail
 refine wp_region_held (S := (fun w' => True ∧ Blk w' (w.heap.size + 1) 33 (ac n) ∧ CellsL w' (w.heap.size) 0 (vl m.a))) (by kernel_rfl) ?_
 change wpAnyH _ _ _ _ _ _ _ _ (World.drew _)
 obtain ⟨wd2, hwd⟩ : ∃ x, x = World.drew W := ⟨_, rfl⟩
 rw [← hwd]
 have D3 := Lib.hid (hwd ▸ Below.drew D1.out : Below W.heap.size W wd2)
 clear D1 hwd
 have hS4 : True ∧ Blk wd2 (w.heap.size + 1) 33 (ac n) ∧ CellsL wd2 (w.heap.size) 0 (vl m.a) := ⟨trivial, (kb K1 D3), (kb K0 D3).cellsL 0 (vl m.a) rfl⟩
 refine tkq 0 (bm 14 1) hS4 ?_
 refine tkq 1 (bm 14 3) hS4 ?_
 refine tkq 2 (bm 14 7) hS4 ?_
 refine tkq 3 (bm 14 15) hS4 ?_
 refine tkq 4 (bm 14 31) hS4 ?_
 refine tke 5 (bm 14 63) hS4 ?_
 refine tkL 6 (bm 14 127) ?aq11 rfl (by kernel_rfl) (fun _ _ _ h => h) (by kernel_rfl) rfl rfl (fun _ hS => hS.2.1) (by rw [info_Affine]; rfl) Try.underlying33 rfl ?pq11 hS4 ?rq11
 case pq11 => (go_simp; try with_reducible rfl)
 refine tkq 7 (bm 14 255) hS4 ?_
 refine tkq 10 (bm 14 1279) hS4 ?_
 refine tkq 11 (bm 14 3327) hS4 ?_
 refine wpAnyH_oneN (i := 8) (l' := bm 14 3583) rfl (by kernel_rfl) (by kernel_rfl) (by kernel_rfl) (fun K hK => ?_)
 go_simp
 go_at_call 102
 refine (C0.out _).mono ?_
 rintro r w15 ⟨rfl, hb⟩
 dsimp only
 have D16 := ds D3 hb
 clear D3
 clear hb
 have hS17 : True ∧ Blk w15 (w.heap.size + 1) 33 (ac n) ∧ CellsL w15 (w.heap.size) 0 (vl m.a) := ⟨trivial, (kb K1 D16), (kb K0 D16).cellsL 0 (vl m.a) rfl⟩
 refine hK _ _ hS17 ?_
 clear hK K hS4
 refine wpAnyH_oneN (i := 9) (l' := bm 14 4095) rfl (by kernel_rfl) (by kernel_rfl) (by kernel_rfl) (fun K hK => ?_)
 go_simp
 go_at_call 29
 refine (C1.out _).mono ?_
 rintro r w18 ⟨rfl, hb⟩
 dsimp only
 have D19 := ds D16 hb
 clear D16
 clear hb
 have hS20 : True ∧ Blk w18 (w.heap.size + 1) 33 (ac n) ∧ CellsL w18 (w.heap.size) 0 (vl m.a) := ⟨trivial, (kb K1 D19), (kb K0 D19).cellsL 0 (vl m.a) rfl⟩
 refine hK _ _ hS20 ?_
 clear hK K hS17
 refine tkq 12 (bm 14 8191) hS20 ?_
 refine wpAnyH_oneN (i := 13) (l' := bm 14 16383) rfl (by kernel_rfl) (by kernel_rfl) (by kernel_rfl) (fun K hK => ?_)
 have f24 := (kb K3 D19).cellsL 0 [.float .f64 0, .float .f64 0] rfl
 dsimp only [CellsL, al, vl, Nat.reduceAdd] at f24
 have u25 := (kb K3 D19).unfrozen
 obtain ⟨V22, hV23⟩ : ∃ V, setCells w18 (w.heap.size + 1 + 1 + 1) 0 [.float .f64 p1.lo, .float .f64 p1.hi] = V := ⟨_, rfl⟩
 have hv26 := hV23
 simp only [setCells, Nat.reduceAdd] at hv26
 have K27 := kf hV23 K0 D19 (by omega)
 have K28 := kf hV23 K1 D19 (by omega)
 have K29 := kf hV23 K2 D19 (by omega)
 have K30 := Lib.hid (show Blk V22 (w.heap.size + 1 + 1 + 1) 33 #[.float .f64 p1.lo, .float .f64 p1.hi, .float .f64 0, .float .f64 0, .float .f64 0, .float .f64 0, .float .f64 0, .float .f64 0, .float .f64 0, .float .f64 0, .float .f64 0, .float .f64 0, .float .f64 0, .float .f64 0, .float .f64 0, .float .f64 0, .float .f64 0, .float .f64 0, .float .f64 0, .float .f64 0, .float .f64 0, .float .f64 0, .float .f64 0, .float .f64 0] from (ks hV23 K3 D19).out)
 have HB31 := hbs hV23 HB D19 (by omega)
 have D32 := dr V22
 clear K0 K1 K2 K3 HB D19
 go_simp
 clear hV23 f24 u25 hv26
 have hS33 : True ∧ Blk V22 (w.heap.size + 1) 33 (ac n) ∧ CellsL V22 (w.heap.size) 0 (vl m.a) := ⟨trivial, (kb K28 D32), (kb K27 D32).cellsL 0 (vl m.a) rfl⟩
 refine hK _ _ hS33 ?_
 clear hK K hS20
 refine wpAnyH_done (by kernel_rfl) ?_ _
 clear hS33
 go_wp2_with fail
 rw [rounds_succ]
 go_wp2_with fail
 refine wp_region_held (S := (fun w' => True ∧ Blk w' (w.heap.size + 1) 33 (ac n) ∧ CellsL w' (w.heap.size) 0 (vl m.a))) (by kernel_rfl) ?_
 change wpAnyH _ _ _ _ _ _ _ _ (World.drew _)
 obtain ⟨wd34, hwd⟩ : ∃ x, x = World.drew V22 := ⟨_, rfl⟩
 rw [← hwd]
 have D35 := Lib.hid (hwd ▸ Below.drew D32.out : Below V22.heap.size V22 wd34)
 clear D32 hwd
 have hS36 : True ∧ Blk wd34 (w.heap.size + 1) 33 (ac n) ∧ CellsL wd34 (w.heap.size) 0 (vl m.a) := ⟨trivial, (kb K28 D35), (kb K27 D35).cellsL 0 (vl m.a) rfl⟩
 refine tkq 0 (bm 14 1) hS36 ?_
 refine tkq 1 (bm 14 3) hS36 ?_
 refine tkq 2 (bm 14 7) hS36 ?_
 refine tkq 3 (bm 14 15) hS36 ?_
 refine tkq 4 (bm 14 31) hS36 ?_
 refine tke 5 (bm 14 63) hS36 ?_
 refine tkL 6 (bm 14 127) ?aq43 rfl (by kernel_rfl) (fun _ _ _ h => h) (by kernel_rfl) rfl rfl (fun _ hS => hS.2.1) (by rw [info_Affine]; rfl) Try.underlying33 rfl ?pq43 hS36 ?rq43
 case pq43 => (go_simp; try with_reducible rfl)
 refine tkq 7 (bm 14 255) hS36 ?_
 refine tkq 10 (bm 14 1279) hS36 ?_
 refine tkq 11 (bm 14 3327) hS36 ?_
 refine wpAnyH_oneN (i := 8) (l' := bm 14 3583) rfl (by kernel_rfl) (by kernel_rfl) (by kernel_rfl) (fun K hK => ?_)
 go_simp
 go_at_call 102
 refine (C2.out _).mono ?_
 rintro r w47 ⟨rfl, hb⟩
 dsimp only
 have D48 := ds D35 hb
 clear D35
 clear hb
 have hS49 : True ∧ Blk w47 (w.heap.size + 1) 33 (ac n) ∧ CellsL w47 (w.heap.size) 0 (vl m.a) := ⟨trivial, (kb K28 D48), (kb K27 D48).cellsL 0 (vl m.a) rfl⟩
 refine hK _ _ hS49 ?_
 clear hK K hS36
 refine wpAnyH_oneN (i := 9) (l' := bm 14 4095) rfl (by kernel_rfl) (by kernel_rfl) (by kernel_rfl) (fun K hK => ?_)
 go_simp
 go_at_call 29
 refine (C3.out _).mono ?_
 rintro r w50 ⟨rfl, hb⟩
 dsimp only
 have D51 := ds D48 hb
 clear D48
 clear hb
 have hS52 : True ∧ Blk w50 (w.heap.size + 1) 33 (ac n) ∧ CellsL w50 (w.heap.size) 0 (vl m.a) := ⟨trivial, (kb K28 D51), (kb K27 D51).cellsL 0 (vl m.a) rfl⟩
 refine hK _ _ hS52 ?_
 clear hK K hS49
 refine tkq 12 (bm 14 8191) hS52 ?_
 refine wpAnyH_oneN (i := 13) (l' := bm 14 16383) rfl (by kernel_rfl) (by kernel_rfl) (by kernel_rfl) (fun K hK => ?_)
 have f56 := (kb K30 D51).cellsL 2 [.float .f64 0, .float .f64 0] rfl
 dsimp only [CellsL, al, vl, Nat.reduceAdd] at f56
 have u57 := (kb K30 D51).unfrozen
 obtain ⟨V54, hV55⟩ : ∃ V, setCells w50 (w.heap.size + 1 + 1 + 1) 2 [.float .f64 p3.lo, .float .f64 p3.hi] = V := ⟨_, rfl⟩
 have hv58 := hV55
 simp only [setCells, Nat.reduceAdd] at hv58
 have K59 := kf hV55 K27 D51 (by omega)
 have K60 := kf hV55 K28 D51 (by omega)
 have K61 := kf hV55 K29 D51 (by omega)
 have K62 := Lib.hid (show Blk V54 (w.heap.size + 1 + 1 + 1) 33 #[.float .f64 p1.lo, .float .f64 p1.hi, .float .f64 p3.lo, .float .f64 p3.hi, .float .f64 0, .float .f64 0, .float .f64 0, .float .f64 0, .float .f64 0, .float .f64 0, .float .f64 0, .float .f64 0, .float .f64 0, .float .f64 0, .float .f64 0, .float .f64 0, .float .f64 0, .float .f64 0, .float .f64 0, .float .f64 0, .float .f64 0, .float .f64 0, .float .f64 0, .float .f64 0] from (ks hV55 K30 D51).out)
 have HB63 := hbs hV55 HB31 D51 (by omega)
 have D64 := dr V54
 clear K27 K28 K29 K30 HB31 D51
 go_simp
 clear hV55 f56 u57 hv58
 have hS65 : True ∧ Blk V54 (w.heap.size + 1) 33 (ac n) ∧ CellsL V54 (w.heap.size) 0 (vl m.a) := ⟨trivial, (kb K60 D64), (kb K59 D64).cellsL 0 (vl m.a) rfl⟩
 refine hK _ _ hS65 ?_
 clear hK K hS52
 refine wpAnyH_done (by kernel_rfl) ?_ _
 clear hS65
 go_wp2_with fail
 rw [rounds_succ]
 go_wp2_with fail
 refine wp_region_held (S := (fun w' => True ∧ Blk w' (w.heap.size + 1) 33 (ac n) ∧ CellsL w' (w.heap.size) 0 (vl m.a))) (by kernel_rfl) ?_
 change wpAnyH _ _ _ _ _ _ _ _ (World.drew _)
 obtain ⟨wd66, hwd⟩ : ∃ x, x = World.drew V54 := ⟨_, rfl⟩
 rw [← hwd]
 have D67 := Lib.hid (hwd ▸ Below.drew D64.out : Below V54.heap.size V54 wd66)
 clear D64 hwd
 have hS68 : True ∧ Blk wd66 (w.heap.size + 1) 33 (ac n) ∧ CellsL wd66 (w.heap.size) 0 (vl m.a) := ⟨trivial, (kb K60 D67), (kb K59 D67).cellsL 0 (vl m.a) rfl⟩
 refine tkq 0 (bm 14 1) hS68 ?_
 refine tkq 1 (bm 14 3) hS68 ?_
 refine tkq 2 (bm 14 7) hS68 ?_
 refine tkq 3 (bm 14 15) hS68 ?_
 refine tkq 4 (bm 14 31) hS68 ?_
 refine tke 5 (bm 14 63) hS68 ?_
 refine tkL 6 (bm 14 127) ?aq75 rfl (by kernel_rfl) (fun _ _ _ h => h) (by kernel_rfl) rfl rfl (fun _ hS => hS.2.1) (by rw [info_Affine]; rfl) Try.underlying33 rfl ?pq75 hS68 ?rq75
 case pq75 => (go_simp; try with_reducible rfl)
 refine tkq 7 (bm 14 255) hS68 ?_
 refine tkq 10 (bm 14 1279) hS68 ?_
 refine tkq 11 (bm 14 3327) hS68 ?_
 refine wpAnyH_oneN (i := 8) (l' := bm 14 3583) rfl (by kernel_rfl) (by kernel_rfl) (by kernel_rfl) (fun K hK => ?_)
 go_simp
 go_at_call 102
 refine (C4.out _).mono ?_
 rintro r w79 ⟨rfl, hb⟩
 dsimp only
 have D80 := ds D67 hb
 clear D67
 clear hb
 have hS81 : True ∧ Blk w79 (w.heap.size + 1) 33 (ac n) ∧ CellsL w79 (w.heap.size) 0 (vl m.a) := ⟨trivial, (kb K60 D80), (kb K59 D80).cellsL 0 (vl m.a) rfl⟩
 refine hK _ _ hS81 ?_
 clear hK K hS68
 refine wpAnyH_oneN (i := 9) (l' := bm 14 4095) rfl (by kernel_rfl) (by kernel_rfl) (by kernel_rfl) (fun K hK => ?_)
 go_simp
 go_at_call 29
 refine (C5.out _).mono ?_
 rintro r w82 ⟨rfl, hb⟩
 dsimp only
 have D83 := ds D80 hb
 clear D80
 clear hb
 have hS84 : True ∧ Blk w82 (w.heap.size + 1) 33 (ac n) ∧ CellsL w82 (w.heap.size) 0 (vl m.a) := ⟨trivial, (kb K60 D83), (kb K59 D83).cellsL 0 (vl m.a) rfl⟩
 refine hK _ _ hS84 ?_
 clear hK K hS81
 refine tkq 12 (bm 14 8191) hS84 ?_
 refine wpAnyH_oneN (i := 13) (l' := bm 14 16383) rfl (by kernel_rfl) (by kernel_rfl) (by kernel_rfl) (fun K hK => ?_)
 have f88 := (kb K62 D83).cellsL 4 [.float .f64 0, .float .f64 0] rfl
 dsimp only [CellsL, al, vl, Nat.reduceAdd] at f88
 have u89 := (kb K62 D83).unfrozen
 obtain ⟨V86, hV87⟩ : ∃ V, setCells w82 (w.heap.size + 1 + 1 + 1) 4 [.float .f64 p5.lo, .float .f64 p5.hi] = V := ⟨_, rfl⟩
 have hv90 := hV87
 simp only [setCells, Nat.reduceAdd] at hv90
 have K91 := kf hV87 K59 D83 (by omega)
 have K92 := kf hV87 K60 D83 (by omega)
 have K93 := kf hV87 K61 D83 (by omega)
 have K94 := Lib.hid (show Blk V86 (w.heap.size + 1 + 1 + 1) 33 #[.float .f64 p1.lo, .float .f64 p1.hi, .float .f64 p3.lo, .float .f64 p3.hi, .float .f64 p5.lo, .float .f64 p5.hi, .float .f64 0, .float .f64 0, .float .f64 0, .float .f64 0, .float .f64 0, .float .f64 0, .float .f64 0, .float .f64 0, .float .f64 0, .float .f64 0, .float .f64 0, .float .f64 0, .float .f64 0, .float .f64 0, .float .f64 0, .float .f64 0, .float .f64 0, .float .f64 0] from (ks hV87 K62 D83).out)
 have HB95 := hbs hV87 HB63 D83 (by omega)
 have D96 := dr V86
 clear K59 K60 K61 K62 HB63 D83
 go_simp
 clear hV87 f88 u89 hv90
 have hS97 : True ∧ Blk V86 (w.heap.size + 1) 33 (ac n) ∧ CellsL V86 (w.heap.size) 0 (vl m.a) := ⟨trivial, (kb K92 D96), (kb K91 D96).cellsL 0 (vl m.a) rfl⟩
 refine hK _ _ hS97 ?_
 clear hK K hS84
 refine wpAnyH_done (by kernel_rfl) ?_ _
 clear hS97
 go_wp2_with fail
 rw [rounds_succ]
 go_wp2_with fail
 rw [rounds_succ]
 go_wp2_with fail
 refine wp_loop_rounds 4 ?_
 rw [rounds_succ]
 go_wp2_with fail
 refine wp_region_held (S := (fun w' => True ∧ Blk w' (w.heap.size + 1) 33 (ac n) ∧ CellsL w' (w.heap.size) 6 (vl m.b))) (by kernel_rfl) ?_
 change wpAnyH _ _ _ _ _ _ _ _ (World.drew _)
 obtain ⟨wd98, hwd⟩ : ∃ x, x = World.drew V86 := ⟨_, rfl⟩
 rw [← hwd]
 have D99 := Lib.hid (hwd ▸ Below.drew D96.out : Below V86.heap.size V86 wd98)
 clear D96 hwd
 have hS100 : True ∧ Blk wd98 (w.heap.size + 1) 33 (ac n) ∧ CellsL wd98 (w.heap.size) 6 (vl m.b) := ⟨trivial, (kb K92 D99), (kb K91 D99).cellsL 6 (vl m.b) rfl⟩
 refine tkq 0 (bm 14 1) hS100 ?_
 refine tkq 1 (bm 14 3) hS100 ?_
 refine tkq 2 (bm 14 7) hS100 ?_
 refine tkq 3 (bm 14 15) hS100 ?_
 refine tkq 4 (bm 14 31) hS100 ?_
 refine tke 5 (bm 14 63) hS100 ?_
 refine tkL 6 (bm 14 127) ?aq107 rfl (by kernel_rfl) (fun _ _ _ h => h) (by kernel_rfl) rfl rfl (fun _ hS => hS.2.1) (by rw [info_Affine]; rfl) Try.underlying33 rfl ?pq107 hS100 ?rq107
 case pq107 => (go_simp; try with_reducible rfl)
 refine tkq 7 (bm 14 255) hS100 ?_
 refine tkq 10 (bm 14 1279) hS100 ?_
 refine tkq 11 (bm 14 3327) hS100 ?_
 refine wpAnyH_oneN (i := 8) (l' := bm 14 3583) rfl (by kernel_rfl) (by kernel_rfl) (by kernel_rfl) (fun K hK => ?_)
 go_simp
 go_at_call 102
 refine (C6.out _).mono ?_
 rintro r w111 ⟨rfl, hb⟩
 dsimp only
 have D112 := ds D99 hb
 clear D99
 clear hb
 have hS113 : True ∧ Blk w111 (w.heap.size + 1) 33 (ac n) ∧ CellsL w111 (w.heap.size) 6 (vl m.b) := ⟨trivial, (kb K92 D112), (kb K91 D112).cellsL 6 (vl m.b) rfl⟩
 refine hK _ _ hS113 ?_
 clear hK K hS100
 refine wpAnyH_oneN (i := 9) (l' := bm 14 4095) rfl (by kernel_rfl) (by kernel_rfl) (by kernel_rfl) (fun K hK => ?_)
 go_simp
 go_at_call 29
 refine (C7.out _).mono ?_
 rintro r w114 ⟨rfl, hb⟩
 dsimp only
 have D115 := ds D112 hb
 clear D112
 clear hb
 have hS116 : True ∧ Blk w114 (w.heap.size + 1) 33 (ac n) ∧ CellsL w114 (w.heap.size) 6 (vl m.b) := ⟨trivial, (kb K92 D115), (kb K91 D115).cellsL 6 (vl m.b) rfl⟩
 refine hK _ _ hS116 ?_
 clear hK K hS113
 refine tkq 12 (bm 14 8191) hS116 ?_
 refine wpAnyH_oneN (i := 13) (l' := bm 14 16383) rfl (by kernel_rfl) (by kernel_rfl) (by kernel_rfl) (fun K hK => ?_)
 have f120 := (kb K94 D115).cellsL 6 [.float .f64 0, .float .f64 0] rfl
 dsimp only [CellsL, al, vl, Nat.reduceAdd] at f120
 have u121 := (kb K94 D115).unfrozen
 obtain ⟨V118, hV119⟩ : ∃ V, setCells w114 (w.heap.size + 1 + 1 + 1) 6 [.float .f64 p7.lo, .float .f64 p7.hi] = V := ⟨_, rfl⟩
 have hv122 := hV119
 simp only [setCells, Nat.reduceAdd] at hv122
 have K123 := kf hV119 K91 D115 (by omega)
 have K124 := kf hV119 K92 D115 (by omega)
 have K125 := kf hV119 K93 D115 (by omega)
 have K126 := Lib.hid (show Blk V118 (w.heap.size + 1 + 1 + 1) 33 #[.float .f64 p1.lo, .float .f64 p1.hi, .float .f64 p3.lo, .float .f64 p3.hi, .float .f64 p5.lo, .float .f64 p5.hi, .float .f64 p7.lo, .float .f64 p7.hi, .float .f64 0, .float .f64 0, .float .f64 0, .float .f64 0, .float .f64 0, .float .f64 0, .float .f64 0, .float .f64 0, .float .f64 0, .float .f64 0, .float .f64 0, .float .f64 0, .float .f64 0, .float .f64 0, .float .f64 0, .float .f64 0] from (ks hV119 K94 D115).out)
 have HB127 := hbs hV119 HB95 D115 (by omega)
 have D128 := dr V118
 clear K91 K92 K93 K94 HB95 D115
 go_simp
 clear hV119 f120 u121 hv122
 have hS129 : True ∧ Blk V118 (w.heap.size + 1) 33 (ac n) ∧ CellsL V118 (w.heap.size) 6 (vl m.b) := ⟨trivial, (kb K124 D128), (kb K123 D128).cellsL 6 (vl m.b) rfl⟩
 refine hK _ _ hS129 ?_
 clear hK K hS116
 refine wpAnyH_done (by kernel_rfl) ?_ _
 clear hS129
 go_wp2_with fail
 rw [rounds_succ]
 go_wp2_with fail
 refine wp_region_held (S := (fun w' => True ∧ Blk w' (w.heap.size + 1) 33 (ac n) ∧ CellsL w' (w.heap.size) 6 (vl m.b))) (by kernel_rfl) ?_
 change wpAnyH _ _ _ _ _ _ _ _ (World.drew _)
 obtain ⟨wd130, hwd⟩ : ∃ x, x = World.drew V118 := ⟨_, rfl⟩
 rw [← hwd]
 have D131 := Lib.hid (hwd ▸ Below.drew D128.out : Below V118.heap.size V118 wd130)
 clear D128 hwd
 have hS132 : True ∧ Blk wd130 (w.heap.size + 1) 33 (ac n) ∧ CellsL wd130 (w.heap.size) 6 (vl m.b) := ⟨trivial, (kb K124 D131), (kb K123 D131).cellsL 6 (vl m.b) rfl⟩
 refine tkq 0 (bm 14 1) hS132 ?_
 refine tkq 1 (bm 14 3) hS132 ?_
 refine tkq 2 (bm 14 7) hS132 ?_
 refine tkq 3 (bm 14 15) hS132 ?_
 refine tkq 4 (bm 14 31) hS132 ?_
 refine tke 5 (bm 14 63) hS132 ?_
 refine tkL 6 (bm 14 127) ?aq139 rfl (by kernel_rfl) (fun _ _ _ h => h) (by kernel_rfl) rfl rfl (fun _ hS => hS.2.1) (by rw [info_Affine]; rfl) Try.underlying33 rfl ?pq139 hS132 ?rq139
 case pq139 => (go_simp; try with_reducible rfl)
 refine tkq 7 (bm 14 255) hS132 ?_
 refine tkq 10 (bm 14 1279) hS132 ?_
 refine tkq 11 (bm 14 3327) hS132 ?_
 refine wpAnyH_oneN (i := 8) (l' := bm 14 3583) rfl (by kernel_rfl) (by kernel_rfl) (by kernel_rfl) (fun K hK => ?_)
 go_simp
 go_at_call 102
 refine (C8.out _).mono ?_
 rintro r w143 ⟨rfl, hb⟩
 dsimp only
 have D144 := ds D131 hb
 clear D131
 clear hb
 have hS145 : True ∧ Blk w143 (w.heap.size + 1) 33 (ac n) ∧ CellsL w143 (w.heap.size) 6 (vl m.b) := ⟨trivial, (kb K124 D144), (kb K123 D144).cellsL 6 (vl m.b) rfl⟩
 refine hK _ _ hS145 ?_
 clear hK K hS132
 refine wpAnyH_oneN (i := 9) (l' := bm 14 4095) rfl (by kernel_rfl) (by kernel_rfl) (by kernel_rfl) (fun K hK => ?_)
 go_simp
 go_at_call 29
 refine (C9.out _).mono ?_
 rintro r w146 ⟨rfl, hb⟩
 dsimp only
 have D147 := ds D144 hb
 clear D144
 clear hb
 have hS148 : True ∧ Blk w146 (w.heap.size + 1) 33 (ac n) ∧ CellsL w146 (w.heap.size) 6 (vl m.b) := ⟨trivial, (kb K124 D147), (kb K123 D147).cellsL 6 (vl m.b) rfl⟩
 refine hK _ _ hS148 ?_
 clear hK K hS145
 refine tkq 12 (bm 14 8191) hS148 ?_
 refine wpAnyH_oneN (i := 13) (l' := bm 14 16383) rfl (by kernel_rfl) (by kernel_rfl) (by kernel_rfl) (fun K hK => ?_)
 have f152 := (kb K126 D147).cellsL 8 [.float .f64 0, .float .f64 0] rfl
 dsimp only [CellsL, al, vl, Nat.reduceAdd] at f152
 have u153 := (kb K126 D147).unfrozen
 obtain ⟨V150, hV151⟩ : ∃ V, setCells w146 (w.heap.size + 1 + 1 + 1) 8 [.float .f64 p9.lo, .float .f64 p9.hi] = V := ⟨_, rfl⟩
 have hv154 := hV151
 simp only [setCells, Nat.reduceAdd] at hv154
 have K155 := kf hV151 K123 D147 (by omega)
 have K156 := kf hV151 K124 D147 (by omega)
 have K157 := kf hV151 K125 D147 (by omega)
 have K158 := Lib.hid (show Blk V150 (w.heap.size + 1 + 1 + 1) 33 #[.float .f64 p1.lo, .float .f64 p1.hi, .float .f64 p3.lo, .float .f64 p3.hi, .float .f64 p5.lo, .float .f64 p5.hi, .float .f64 p7.lo, .float .f64 p7.hi, .float .f64 p9.lo, .float .f64 p9.hi, .float .f64 0, .float .f64 0, .float .f64 0, .float .f64 0, .float .f64 0, .float .f64 0, .float .f64 0, .float .f64 0, .float .f64 0, .float .f64 0, .float .f64 0, .float .f64 0, .float .f64 0, .float .f64 0] from (ks hV151 K126 D147).out)
 have HB159 := hbs hV151 HB127 D147 (by omega)
 have D160 := dr V150
 clear K123 K124 K125 K126 HB127 D147
 go_simp
 clear hV151 f152 u153 hv154
 have hS161 : True ∧ Blk V150 (w.heap.size + 1) 33 (ac n) ∧ CellsL V150 (w.heap.size) 6 (vl m.b) := ⟨trivial, (kb K156 D160), (kb K155 D160).cellsL 6 (vl m.b) rfl⟩
 refine hK _ _ hS161 ?_
 clear hK K hS148
 refine wpAnyH_done (by kernel_rfl) ?_ _
 clear hS161
 go_wp2_with fail
 rw [rounds_succ]
 go_wp2_with fail
 refine wp_region_held (S := (fun w' => True ∧ Blk w' (w.heap.size + 1) 33 (ac n) ∧ CellsL w' (w.heap.size) 6 (vl m.b))) (by kernel_rfl) ?_
 change wpAnyH _ _ _ _ _ _ _ _ (World.drew _)
 obtain ⟨wd162, hwd⟩ : ∃ x, x = World.drew V150 := ⟨_, rfl⟩
 rw [← hwd]
 have D163 := Lib.hid (hwd ▸ Below.drew D160.out : Below V150.heap.size V150 wd162)
 clear D160 hwd
 have hS164 : True ∧ Blk wd162 (w.heap.size + 1) 33 (ac n) ∧ CellsL wd162 (w.heap.size) 6 (vl m.b) := ⟨trivial, (kb K156 D163), (kb K155 D163).cellsL 6 (vl m.b) rfl⟩
 refine tkq 0 (bm 14 1) hS164 ?_
 refine tkq 1 (bm 14 3) hS164 ?_
 refine tkq 2 (bm 14 7) hS164 ?_
 refine tkq 3 (bm 14 15) hS164 ?_
 refine tkq 4 (bm 14 31) hS164 ?_
 refine tke 5 (bm 14 63) hS164 ?_
 refine tkL 6 (bm 14 127) ?aq171 rfl (by kernel_rfl) (fun _ _ _ h => h) (by kernel_rfl) rfl rfl (fun _ hS => hS.2.1) (by rw [info_Affine]; rfl) Try.underlying33 rfl ?pq171 hS164 ?rq171
 case pq171 => (go_simp; try with_reducible rfl)
 refine tkq 7 (bm 14 255) hS164 ?_
 refine tkq 10 (bm 14 1279) hS164 ?_
 refine tkq 11 (bm 14 3327) hS164 ?_
 refine wpAnyH_oneN (i := 8) (l' := bm 14 3583) rfl (by kernel_rfl) (by kernel_rfl) (by kernel_rfl) (fun K hK => ?_)
 go_simp
 go_at_call 102
 refine (C10.out _).mono ?_
 rintro r w175 ⟨rfl, hb⟩
 dsimp only
 have D176 := ds D163 hb
 clear D163
 clear hb
 have hS177 : True ∧ Blk w175 (w.heap.size + 1) 33 (ac n) ∧ CellsL w175 (w.heap.size) 6 (vl m.b) := ⟨trivial, (kb K156 D176), (kb K155 D176).cellsL 6 (vl m.b) rfl⟩
 refine hK _ _ hS177 ?_
 clear hK K hS164
 refine wpAnyH_oneN (i := 9) (l' := bm 14 4095) rfl (by kernel_rfl) (by kernel_rfl) (by kernel_rfl) (fun K hK => ?_)
 go_simp
 go_at_call 29
 refine (C11.out _).mono ?_
 rintro r w178 ⟨rfl, hb⟩
 dsimp only
 have D179 := ds D176 hb
 clear D176
 clear hb
 have hS180 : True ∧ Blk w178 (w.heap.size + 1) 33 (ac n) ∧ CellsL w178 (w.heap.size) 6 (vl m.b) := ⟨trivial, (kb K156 D179), (kb K155 D179).cellsL 6 (vl m.b) rfl⟩
 refine hK _ _ hS180 ?_
 clear hK K hS177
 refine tkq 12 (bm 14 8191) hS180 ?_
 refine wpAnyH_oneN (i := 13) (l' := bm 14 16383) rfl (by kernel_rfl) (by kernel_rfl) (by kernel_rfl) (fun K hK => ?_)
 have f184 := (kb K158 D179).cellsL 10 [.float .f64 0, .float .f64 0] rfl
 dsimp only [CellsL, al, vl, Nat.reduceAdd] at f184
 have u185 := (kb K158 D179).unfrozen
 obtain ⟨V182, hV183⟩ : ∃ V, setCells w178 (w.heap.size + 1 + 1 + 1) 10 [.float .f64 p11.lo, .float .f64 p11.hi] = V := ⟨_, rfl⟩
 have hv186 := hV183
 simp only [setCells, Nat.reduceAdd] at hv186
 have K187 := kf hV183 K155 D179 (by omega)
 have K188 := kf hV183 K156 D179 (by omega)
 have K189 := kf hV183 K157 D179 (by omega)
 have K190 := Lib.hid (show Blk V182 (w.heap.size + 1 + 1 + 1) 33 #[.float .f64 p1.lo, .float .f64 p1.hi, .float .f64 p3.lo, .float .f64 p3.hi, .float .f64 p5.lo, .float .f64 p5.hi, .float .f64 p7.lo, .float .f64 p7.hi, .float .f64 p9.lo, .float .f64 p9.hi, .float .f64 p11.lo, .float .f64 p11.hi, .float .f64 0, .float .f64 0, .float .f64 0, .float .f64 0, .float .f64 0, .float .f64 0, .float .f64 0, .float .f64 0, .float .f64 0, .float .f64 0, .float .f64 0, .float .f64 0] from (ks hV183 K158 D179).out)
 have HB191 := hbs hV183 HB159 D179 (by omega)
 have D192 := dr V182
 clear K155 K156 K157 K158 HB159 D179
 go_simp
 clear hV183 f184 u185 hv186
 have hS193 : True ∧ Blk V182 (w.heap.size + 1) 33 (ac n) ∧ CellsL V182 (w.heap.size) 6 (vl m.b) := ⟨trivial, (kb K188 D192), (kb K187 D192).cellsL 6 (vl m.b) rfl⟩
 refine hK _ _ hS193 ?_
 clear hK K hS180
 refine wpAnyH_done (by kernel_rfl) ?_ _
 clear hS193
 go_wp2_with fail
 rw [rounds_succ]
 go_wp2_with fail
 rw [rounds_succ]
 go_wp2_with fail
 refine wp_loop_rounds 4 ?_
 rw [rounds_succ]
 go_wp2_with fail
 refine wp_region_held (S := (fun w' => True ∧ Blk w' (w.heap.size + 1) 33 (ac n) ∧ CellsL w' (w.heap.size) 12 (vl m.c))) (by kernel_rfl) ?_
 change wpAnyH _ _ _ _ _ _ _ _ (World.drew _)
 obtain ⟨wd194, hwd⟩ : ∃ x, x = World.drew V182 := ⟨_, rfl⟩
 rw [← hwd]
 have D195 := Lib.hid (hwd ▸ Below.drew D192.out : Below V182.heap.size V182 wd194)
 clear D192 hwd
 have hS196 : True ∧ Blk wd194 (w.heap.size + 1) 33 (ac n) ∧ CellsL wd194 (w.heap.size) 12 (vl m.c) := ⟨trivial, (kb K188 D195), (kb K187 D195).cellsL 12 (vl m.c) rfl⟩
 refine tkq 0 (bm 14 1) hS196 ?_
 refine tkq 1 (bm 14 3) hS196 ?_
 refine tkq 2 (bm 14 7) hS196 ?_
 refine tkq 3 (bm 14 15) hS196 ?_
 refine tkq 4 (bm 14 31) hS196 ?_
 refine tke 5 (bm 14 63) hS196 ?_
 refine tkL 6 (bm 14 127) ?aq203 rfl (by kernel_rfl) (fun _ _ _ h => h) (by kernel_rfl) rfl rfl (fun _ hS => hS.2.1) (by rw [info_Affine]; rfl) Try.underlying33 rfl ?pq203 hS196 ?rq203
 case pq203 => (go_simp; try with_reducible rfl)
 refine tkq 7 (bm 14 255) hS196 ?_
 refine tkq 10 (bm 14 1279) hS196 ?_
 refine tkq 11 (bm 14 3327) hS196 ?_
 refine wpAnyH_oneN (i := 8) (l' := bm 14 3583) rfl (by kernel_rfl) (by kernel_rfl) (by kernel_rfl) (fun K hK => ?_)
 go_simp
 go_at_call 102
 refine (C12.out _).mono ?_
 rintro r w207 ⟨rfl, hb⟩
 dsimp only
 have D208 := ds D195 hb
 clear D195
 clear hb
 have hS209 : True ∧ Blk w207 (w.heap.size + 1) 33 (ac n) ∧ CellsL w207 (w.heap.size) 12 (vl m.c) := ⟨trivial, (kb K188 D208), (kb K187 D208).cellsL 12 (vl m.c) rfl⟩
 refine hK _ _ hS209 ?_
 clear hK K hS196
 refine wpAnyH_oneN (i := 9) (l' := bm 14 4095) rfl (by kernel_rfl) (by kernel_rfl) (by kernel_rfl) (fun K hK => ?_)
 go_simp
 go_at_call 29
 refine (C13.out _).mono ?_
 rintro r w210 ⟨rfl, hb⟩
 dsimp only
 have D211 := ds D208 hb
 clear D208
 clear hb
 have hS212 : True ∧ Blk w210 (w.heap.size + 1) 33 (ac n) ∧ CellsL w210 (w.heap.size) 12 (vl m.c) := ⟨trivial, (kb K188 D211), (kb K187 D211).cellsL 12 (vl m.c) rfl⟩
 refine hK _ _ hS212 ?_
 clear hK K hS209
 refine tkq 12 (bm 14 8191) hS212 ?_
 refine wpAnyH_oneN (i := 13) (l' := bm 14 16383) rfl (by kernel_rfl) (by kernel_rfl) (by kernel_rfl) (fun K hK => ?_)
 have f216 := (kb K190 D211).cellsL 12 [.float .f64 0, .float .f64 0] rfl
 dsimp only [CellsL, al, vl, Nat.reduceAdd] at f216
 have u217 := (kb K190 D211).unfrozen
 obtain ⟨V214, hV215⟩ : ∃ V, setCells w210 (w.heap.size + 1 + 1 + 1) 12 [.float .f64 p13.lo, .float .f64 p13.hi] = V := ⟨_, rfl⟩
 have hv218 := hV215
 simp only [setCells, Nat.reduceAdd] at hv218
 have K219 := kf hV215 K187 D211 (by omega)
 have K220 := kf hV215 K188 D211 (by omega)
 have K221 := kf hV215 K189 D211 (by omega)
 have K222 := Lib.hid (show Blk V214 (w.heap.size + 1 + 1 + 1) 33 #[.float .f64 p1.lo, .float .f64 p1.hi, .float .f64 p3.lo, .float .f64 p3.hi, .float .f64 p5.lo, .float .f64 p5.hi, .float .f64 p7.lo, .float .f64 p7.hi, .float .f64 p9.lo, .float .f64 p9.hi, .float .f64 p11.lo, .float .f64 p11.hi, .float .f64 p13.lo, .float .f64 p13.hi, .float .f64 0, .float .f64 0, .float .f64 0, .float .f64 0, .float .f64 0, .float .f64 0, .float .f64 0, .float .f64 0, .float .f64 0, .float .f64 0] from (ks hV215 K190 D211).out)
 have HB223 := hbs hV215 HB191 D211 (by omega)
 have D224 := dr V214
 clear K187 K188 K189 K190 HB191 D211
 go_simp
 clear hV215 f216 u217 hv218
 have hS225 : True ∧ Blk V214 (w.heap.size + 1) 33 (ac n) ∧ CellsL V214 (w.heap.size) 12 (vl m.c) := ⟨trivial, (kb K220 D224), (kb K219 D224).cellsL 12 (vl m.c) rfl⟩
 refine hK _ _ hS225 ?_
 clear hK K hS212
 refine wpAnyH_done (by kernel_rfl) ?_ _
 clear hS225
 go_wp2_with fail
 rw [rounds_succ]
 go_wp2_with fail
 refine wp_region_held (S := (fun w' => True ∧ Blk w' (w.heap.size + 1) 33 (ac n) ∧ CellsL w' (w.heap.size) 12 (vl m.c))) (by kernel_rfl) ?_
 change wpAnyH _ _ _ _ _ _ _ _ (World.drew _)
 obtain ⟨wd226, hwd⟩ : ∃ x, x = World.drew V214 := ⟨_, rfl⟩
 rw [← hwd]
 have D227 := Lib.hid (hwd ▸ Below.drew D224.out : Below V214.heap.size V214 wd226)
 clear D224 hwd
 have hS228 : True ∧ Blk wd226 (w.heap.size + 1) 33 (ac n) ∧ CellsL wd226 (w.heap.size) 12 (vl m.c) := ⟨trivial, (kb K220 D227), (kb K219 D227).cellsL 12 (vl m.c) rfl⟩
 refine tkq 0 (bm 14 1) hS228 ?_
 refine tkq 1 (bm 14 3) hS228 ?_
 refine tkq 2 (bm 14 7) hS228 ?_
 refine tkq 3 (bm 14 15) hS228 ?_
 refine tkq 4 (bm 14 31) hS228 ?_
 refine tke 5 (bm 14 63) hS228 ?_
 refine tkL 6 (bm 14 127) ?aq235 rfl (by kernel_rfl) (fun _ _ _ h => h) (by kernel_rfl) rfl rfl (fun _ hS => hS.2.1) (by rw [info_Affine]; rfl) Try.underlying33 rfl ?pq235 hS228 ?rq235
 case pq235 => (go_simp; try with_reducible rfl)
 refine tkq 7 (bm 14 255) hS228 ?_
 refine tkq 10 (bm 14 1279) hS228 ?_
 refine tkq 11 (bm 14 3327) hS228 ?_
 refine wpAnyH_oneN (i := 8) (l' := bm 14 3583) rfl (by kernel_rfl) (by kernel_rfl) (by kernel_rfl) (fun K hK => ?_)
 go_simp
 go_at_call 102
 refine (C14.out _).mono ?_
 rintro r w239 ⟨rfl, hb⟩
 dsimp only
 have D240 := ds D227 hb
 clear D227
 clear hb
 have hS241 : True ∧ Blk w239 (w.heap.size + 1) 33 (ac n) ∧ CellsL w239 (w.heap.size) 12 (vl m.c) := ⟨trivial, (kb K220 D240), (kb K219 D240).cellsL 12 (vl m.c) rfl⟩
 refine hK _ _ hS241 ?_
 clear hK K hS228
 refine wpAnyH_oneN (i := 9) (l' := bm 14 4095) rfl (by kernel_rfl) (by kernel_rfl) (by kernel_rfl) (fun K hK => ?_)
 go_simp
 go_at_call 29
 refine (C15.out _).mono ?_
 rintro r w242 ⟨rfl, hb⟩
 dsimp only
 have D243 := ds D240 hb
 clear D240
 clear hb
 have hS244 : True ∧ Blk w242 (w.heap.size + 1) 33 (ac n) ∧ CellsL w242 (w.heap.size) 12 (vl m.c) := ⟨trivial, (kb K220 D243), (kb K219 D243).cellsL 12 (vl m.c) rfl⟩
 refine hK _ _ hS244 ?_
 clear hK K hS241
 refine tkq 12 (bm 14 8191) hS244 ?_
 refine wpAnyH_oneN (i := 13) (l' := bm 14 16383) rfl (by kernel_rfl) (by kernel_rfl) (by kernel_rfl) (fun K hK => ?_)
 have f248 := (kb K222 D243).cellsL 14 [.float .f64 0, .float .f64 0] rfl
 dsimp only [CellsL, al, vl, Nat.reduceAdd] at f248
 have u249 := (kb K222 D243).unfrozen
 obtain ⟨V246, hV247⟩ : ∃ V, setCells w242 (w.heap.size + 1 + 1 + 1) 14 [.float .f64 p15.lo, .float .f64 p15.hi] = V := ⟨_, rfl⟩
 have hv250 := hV247
 simp only [setCells, Nat.reduceAdd] at hv250
 have K251 := kf hV247 K219 D243 (by omega)
 have K252 := kf hV247 K220 D243 (by omega)
 have K253 := kf hV247 K221 D243 (by omega)
 have K254 := Lib.hid (show Blk V246 (w.heap.size + 1 + 1 + 1) 33 #[.float .f64 p1.lo, .float .f64 p1.hi, .float .f64 p3.lo, .float .f64 p3.hi, .float .f64 p5.lo, .float .f64 p5.hi, .float .f64 p7.lo, .float .f64 p7.hi, .float .f64 p9.lo, .float .f64 p9.hi, .float .f64 p11.lo, .float .f64 p11.hi, .float .f64 p13.lo, .float .f64 p13.hi, .float .f64 p15.lo, .float .f64 p15.hi, .float .f64 0, .float .f64 0, .float .f64 0, .float .f64 0, .float .f64 0, .float .f64 0, .float .f64 0, .float .f64 0] from (ks hV247 K222 D243).out)
 have HB255 := hbs hV247 HB223 D243 (by omega)
 have D256 := dr V246
 clear K219 K220 K221 K222 HB223 D243
 go_simp
 clear hV247 f248 u249 hv250
 have hS257 : True ∧ Blk V246 (w.heap.size + 1) 33 (ac n) ∧ CellsL V246 (w.heap.size) 12 (vl m.c) := ⟨trivial, (kb K252 D256), (kb K251 D256).cellsL 12 (vl m.c) rfl⟩
 refine hK _ _ hS257 ?_
 clear hK K hS244
 refine wpAnyH_done (by kernel_rfl) ?_ _
 clear hS257
 go_wp2_with fail
 rw [rounds_succ]
 go_wp2_with fail
 refine wp_region_held (S := (fun w' => True ∧ Blk w' (w.heap.size + 1) 33 (ac n) ∧ CellsL w' (w.heap.size) 12 (vl m.c))) (by kernel_rfl) ?_
 change wpAnyH _ _ _ _ _ _ _ _ (World.drew _)
 obtain ⟨wd258, hwd⟩ : ∃ x, x = World.drew V246 := ⟨_, rfl⟩
 rw [← hwd]
 have D259 := Lib.hid (hwd ▸ Below.drew D256.out : Below V246.heap.size V246 wd258)
 clear D256 hwd
 have hS260 : True ∧ Blk wd258 (w.heap.size + 1) 33 (ac n) ∧ CellsL wd258 (w.heap.size) 12 (vl m.c) := ⟨trivial, (kb K252 D259), (kb K251 D259).cellsL 12 (vl m.c) rfl⟩
 refine tkq 0 (bm 14 1) hS260 ?_
 refine tkq 1 (bm 14 3) hS260 ?_
 refine tkq 2 (bm 14 7) hS260 ?_
 refine tkq 3 (bm 14 15) hS260 ?_
 refine tkq 4 (bm 14 31) hS260 ?_
 refine tke 5 (bm 14 63) hS260 ?_
 refine tkL 6 (bm 14 127) ?aq267 rfl (by kernel_rfl) (fun _ _ _ h => h) (by kernel_rfl) rfl rfl (fun _ hS => hS.2.1) (by rw [info_Affine]; rfl) Try.underlying33 rfl ?pq267 hS260 ?rq267
 case pq267 => (go_simp; try with_reducible rfl)
 refine tkq 7 (bm 14 255) hS260 ?_
 refine tkq 10 (bm 14 1279) hS260 ?_
 refine tkq 11 (bm 14 3327) hS260 ?_
 refine wpAnyH_oneN (i := 8) (l' := bm 14 3583) rfl (by kernel_rfl) (by kernel_rfl) (by kernel_rfl) (fun K hK => ?_)
 go_simp
 go_at_call 102
 refine (C16.out _).mono ?_
 rintro r w271 ⟨rfl, hb⟩
 dsimp only
 have D272 := ds D259 hb
 clear D259
 clear hb
 have hS273 : True ∧ Blk w271 (w.heap.size + 1) 33 (ac n) ∧ CellsL w271 (w.heap.size) 12 (vl m.c) := ⟨trivial, (kb K252 D272), (kb K251 D272).cellsL 12 (vl m.c) rfl⟩
 refine hK _ _ hS273 ?_
 clear hK K hS260
 refine wpAnyH_oneN (i := 9) (l' := bm 14 4095) rfl (by kernel_rfl) (by kernel_rfl) (by kernel_rfl) (fun K hK => ?_)
 go_simp
 go_at_call 29
 refine (C17.out _).mono ?_
 rintro r w274 ⟨rfl, hb⟩
 dsimp only
 have D275 := ds D272 hb
 clear D272
 clear hb
 have hS276 : True ∧ Blk w274 (w.heap.size + 1) 33 (ac n) ∧ CellsL w274 (w.heap.size) 12 (vl m.c) := ⟨trivial, (kb K252 D275), (kb K251 D275).cellsL 12 (vl m.c) rfl⟩
 refine hK _ _ hS276 ?_
 clear hK K hS273
 refine tkq 12 (bm 14 8191) hS276 ?_
 refine wpAnyH_oneN (i := 13) (l' := bm 14 16383) rfl (by kernel_rfl) (by kernel_rfl) (by kernel_rfl) (fun K hK => ?_)
 have f280 := (kb K254 D275).cellsL 16 [.float .f64 0, .float .f64 0] rfl
 dsimp only [CellsL, al, vl, Nat.reduceAdd] at f280
 have u281 := (kb K254 D275).unfrozen
 obtain ⟨V278, hV279⟩ : ∃ V, setCells w274 (w.heap.size + 1 + 1 + 1) 16 [.float .f64 p17.lo, .float .f64 p17.hi] = V := ⟨_, rfl⟩
 have hv282 := hV279
 simp only [setCells, Nat.reduceAdd] at hv282
 have K283 := kf hV279 K251 D275 (by omega)
 have K284 := kf hV279 K252 D275 (by omega)
 have K285 := kf hV279 K253 D275 (by omega)
 have K286 := Lib.hid (show Blk V278 (w.heap.size + 1 + 1 + 1) 33 #[.float .f64 p1.lo, .float .f64 p1.hi, .float .f64 p3.lo, .float .f64 p3.hi, .float .f64 p5.lo, .float .f64 p5.hi, .float .f64 p7.lo, .float .f64 p7.hi, .float .f64 p9.lo, .float .f64 p9.hi, .float .f64 p11.lo, .float .f64 p11.hi, .float .f64 p13.lo, .float .f64 p13.hi, .float .f64 p15.lo, .float .f64 p15.hi, .float .f64 p17.lo, .float .f64 p17.hi, .float .f64 0, .float .f64 0, .float .f64 0, .float .f64 0, .float .f64 0, .float .f64 0] from (ks hV279 K254 D275).out)
 have HB287 := hbs hV279 HB255 D275 (by omega)
 have D288 := dr V278
 clear K251 K252 K253 K254 HB255 D275
 go_simp
 clear hV279 f280 u281 hv282
 have hS289 : True ∧ Blk V278 (w.heap.size + 1) 33 (ac n) ∧ CellsL V278 (w.heap.size) 12 (vl m.c) := ⟨trivial, (kb K284 D288), (kb K283 D288).cellsL 12 (vl m.c) rfl⟩
 refine hK _ _ hS289 ?_
 clear hK K hS276
 refine wpAnyH_done (by kernel_rfl) ?_ _
 clear hS289
 go_wp2_with fail
 rw [rounds_succ]
 go_wp2_with fail
 rw [rounds_succ]
 have f290 := (kb K283 D288)
 have hq291 := (kb K284 D288).cellsL 18 (vl n.t) rfl
 dsimp only [CellsL, al, vl, Nat.reduceAdd] at hq291
 go_wp2_with (refine wl_load (by kernel_rfl) rfl rfl f290 (by rw [info_Affine]; rfl) Try.underlying33 rfl ?_)
 clear f290 hq291
 refine (C18.out _).mono ?_
 rintro r w292 ⟨rfl, hb⟩
 have D293 := ds D288 hb
 clear D288
 clear hb
 have f296 := (kb K286 D293).cellsL 18 [.float .f64 0, .float .f64 0, .float .f64 0, .float .f64 0, .float .f64 0, .float .f64 0] rfl
 dsimp only [CellsL, al, vl, Nat.reduceAdd] at f296
 have u297 := (kb K286 D293).unfrozen
 obtain ⟨V294, hV295⟩ : ∃ V, setCells w292 (w.heap.size + 1 + 1 + 1) 18 [.float .f64 p18.x.lo, .float .f64 p18.x.hi, .float .f64 p18.y.lo, .float .f64 p18.y.hi, .float .f64 p18.z.lo, .float .f64 p18.z.hi] = V := ⟨_, rfl⟩
 have hv298 := hV295
 simp only [setCells, Nat.reduceAdd] at hv298
 have K299 := kf hV295 K283 D293 (by omega)
 have K300 := kf hV295 K284 D293 (by omega)
 have K301 := kf hV295 K285 D293 (by omega)
 have K302 := Lib.hid (show Blk V294 (w.heap.size + 1 + 1 + 1) 33 #[.float .f64 p1.lo, .float .f64 p1.hi, .float .f64 p3.lo, .float .f64 p3.hi, .float .f64 p5.lo, .float .f64 p5.hi, .float .f64 p7.lo, .float .f64 p7.hi, .float .f64 p9.lo, .float .f64 p9.hi, .float .f64 p11.lo, .float .f64 p11.hi, .float .f64 p13.lo, .float .f64 p13.hi, .float .f64 p15.lo, .float .f64 p15.hi, .float .f64 p17.lo, .float .f64 p17.hi, .float .f64 p18.x.lo, .float .f64 p18.x.hi, .float .f64 p18.y.lo, .float .f64 p18.y.hi, .float .f64 p18.z.lo, .float .f64 p18.z.hi] from (ks hV295 K286 D293).out)
 have HB303 := hbs hV295 HB287 D293 (by omega)
 have D304 := dr V294
 clear K283 K284 K285 K286 HB287 D293
 have f305 := (kb K302 D304)
 have f308 := (kb K301 D304)
 obtain ⟨V306, hV307⟩ : ∃ V, World.setRow V294 (w.heap.size + 1 + 1) #[.float .f64 p1.lo, .float .f64 p1.hi, .float .f64 p3.lo, .float .f64 p3.hi, .float .f64 p5.lo, .float .f64 p5.hi, .float .f64 p7.lo, .float .f64 p7.hi, .float .f64 p9.lo, .float .f64 p9.hi, .float .f64 p11.lo, .float .f64 p11.hi, .float .f64 p13.lo, .float .f64 p13.hi, .float .f64 p15.lo, .float .f64 p15.hi, .float .f64 p17.lo, .float .f64 p17.hi, .float .f64 p18.x.lo, .float .f64 p18.x.hi, .float .f64 p18.y.lo, .float .f64 p18.y.hi, .float .f64 p18.z.lo, .float .f64 p18.z.hi] = V := ⟨_, rfl⟩
 have K309 := kfr hV307 K299 D304 (by omega)
 have K310 := kfr hV307 K300 D304 (by omega)
 have K311 := ksr hV307 K301 D304
 have K312 := kfr hV307 K302 D304 (by omega)
 have HB313 := hbr hV307 HB303 D304 (by omega)
 have D314 := dr V306
 clear K299 K300 K301 K302 HB303 D304
 go_wp2_with (first | (refine wpList_store_row rfl 33 _ _ rfl (w.heap.size + 1 + 1) #[.float .f64 p1.lo, .float .f64 p1.hi, .float .f64 p3.lo, .float .f64 p3.hi, .float .f64 p5.lo, .float .f64 p5.hi, .float .f64 p7.lo, .float .f64 p7.hi, .float .f64 p9.lo, .float .f64 p9.hi, .float .f64 p11.lo, .float .f64 p11.hi, .float .f64 p13.lo, .float .f64 p13.hi, .float .f64 p15.lo, .float .f64 p15.hi, .float .f64 p17.lo, .float .f64 p17.hi, .float .f64 p18.x.lo, .float .f64 p18.x.hi, .float .f64 p18.y.lo, .float .f64 p18.y.hi, .float .f64 p18.z.lo, .float .f64 p18.z.hi] rfl rfl _ _ f308 (by rw [info_Affine]; rfl) rfl (by kernel_rfl) ?_; rw [hV307]) | (refine wl_load (by kernel_rfl) rfl rfl f305 (by rw [info_Affine]; rfl) Try.underlying33 rfl ?_))
 clear hV295 f296 u297 hv298 f305 hV307 f308
 (try simp only [Exit.inBlock, Exit.then])
 exact bodyPost_ret (res_c rfl _ _ (w.heap.size + 1 + 1) #[.float .f64 p1.lo, .float .f64 p1.hi, .float .f64 p3.lo, .float .f64 p3.hi, .float .f64 p5.lo, .float .f64 p5.hi, .float .f64 p7.lo, .float .f64 p7.hi, .float .f64 p9.lo, .float .f64 p9.hi, .float .f64 p11.lo, .float .f64 p11.hi, .float .f64 p13.lo, .float .f64 p13.hi, .float .f64 p15.lo, .float .f64 p15.hi, .float .f64 p17.lo, .float .f64 p17.hi, .float .f64 p18.x.lo, .float .f64 p18.x.hi, .float .f64 p18.y.lo, .float .f64 p18.y.hi, .float .f64 p18.z.lo, .float .f64 p18.z.hi] rfl (kb K311 D314) (by rw [info_Affine]; rfl) Try.underlying33 rfl) rfl ⟨rfl, below_step HB313.out D314.out⟩
end Go.Proofs.Ytnljfcebmgifdaa
set_option linter.unusedVariables false
set_option linter.unusedSimpArgs false
namespace Go.Proofs.Ytnljfcebmgifdaa
open Go.RowKit Fl
theorem requalA_self (m : Af) (w : World) : Calls Try.prog 14 #[Value.agg #[.float .f64 m.a.x.lo, .float .f64 m.a.x.hi, .float .f64 m.a.y.lo, .float .f64 m.a.y.hi, .float .f64 m.a.z.lo, .float .f64 m.a.z.hi, .float .f64 m.b.x.lo, .float .f64 m.b.x.hi, .float .f64 m.b.y.lo, .float .f64 m.b.y.hi, .float .f64 m.b.z.lo, .float .f64 m.b.z.hi, .float .f64 m.c.x.lo, .float .f64 m.c.x.hi, .float .f64 m.c.y.lo, .float .f64 m.c.y.hi, .float .f64 m.c.z.lo, .float .f64 m.c.z.hi, .float .f64 m.t.x.lo, .float .f64 m.t.x.hi, .float .f64 m.t.y.lo, .float .f64 m.t.y.hi, .float .f64 m.t.z.lo, .float .f64 m.t.z.hi], Value.agg #[.float .f64 m.a.x.lo, .float .f64 m.a.x.hi, .float .f64 m.a.y.lo, .float .f64 m.a.y.hi, .float .f64 m.a.z.lo, .float .f64 m.a.z.hi, .float .f64 m.b.x.lo, .float .f64 m.b.x.hi, .float .f64 m.b.y.lo, .float .f64 m.b.y.hi, .float .f64 m.b.z.lo, .float .f64 m.b.z.hi, .float .f64 m.c.x.lo, .float .f64 m.c.x.hi, .float .f64 m.c.y.lo, .float .f64 m.c.y.hi, .float .f64 m.c.z.lo, .float .f64 m.c.z.hi, .float .f64 m.t.x.lo, .float .f64 m.t.x.hi, .float .f64 m.t.y.lo, .float .f64 m.t.y.hi, .float .f64 m.t.z.lo, .float .f64 m.t.z.hi]] w fun r w' => r = .returned (.bool true) ∧ Below w.heap.size w w' := by
 have C0 := Lib.hid (fun w => rsameV_self m.t w)
 have C1 := Lib.hid (fun w => rsameV_self m.a w)
 have C2 := Lib.hid (fun w => rsameV_self m.b w)
 have C3 := Lib.hid (fun w => rsameV_self m.c w)
 go_enter Try.func14, Try.ntmps14
 go_wp2_with fail
 obtain ⟨W, hW, K0, K1, hB, hz⟩ := bx2 w 33 33 (ac m) (ac m)
 rw [← hW]
 have K0 := Lib.hid K0
 have K1 := Lib.hid K1
 have HB := Lib.hid hB
 clear hW hB hz
 have D1 := dr W
 refine (C0.out _).mono ?_
 rintro r w2 ⟨rfl, hb⟩
 have D3 := ds D1 hb
 clear D1
 clear hb
 have hq4 := (kb K0 D3).cellsL 0 (vl m.a) rfl
 dsimp only [CellsL, al, vl, Nat.reduceAdd] at hq4
 have hq5 := (kb K1 D3).cellsL 0 (vl m.a) rfl
 dsimp only [CellsL, al, vl, Nat.reduceAdd] at hq5
 go_wp2_with fail
 clear hq4 hq5
 refine (C1.out _).mono ?_
 rintro r w6 ⟨rfl, hb⟩
 have D7 := ds D3 hb
 clear D3
 clear hb
 have hq8 := (kb K0 D7).cellsL 6 (vl m.b) rfl
 dsimp only [CellsL, al, vl, Nat.reduceAdd] at hq8
 have hq9 := (kb K1 D7).cellsL 6 (vl m.b) rfl
 dsimp only [CellsL, al, vl, Nat.reduceAdd] at hq9
 go_wp2_with fail
 clear hq8 hq9
 refine (C2.out _).mono ?_
 rintro r w10 ⟨rfl, hb⟩
 have D11 := ds D7 hb
 clear D7
 clear hb
 have hq12 := (kb K0 D11).cellsL 12 (vl m.c) rfl
 dsimp only [CellsL, al, vl, Nat.reduceAdd] at hq12
 have hq13 := (kb K1 D11).cellsL 12 (vl m.c) rfl
 dsimp only [CellsL, al, vl, Nat.reduceAdd] at hq13
 go_wp2_with fail
 clear hq12 hq13
 refine (C3.out _).mono ?_
 rintro r w14 ⟨rfl, hb⟩
 have D15 := ds D11 hb
 clear D11
 clear hb
 go_wp2_with fail
 go_ret
 exact ⟨rfl, below_step HB.out D15.out⟩
theorem aw_pt : afPt (afThen (afMove 4607182418800017408 0 0) (afStretch 4611686018427387904 4611686018427387904 4611686018427387904)) (vOf 4607182418800017408 4607182418800017408 4607182418800017408) = vOf 4613937818241073152 4611686018427387904 4611686018427387904 := by refine V3.ext (Sp.ext ?_ ?_) (Sp.ext ?_ ?_) (Sp.ext ?_ ?_) <;> decide +kernel
theorem v_24 : Vd 4627448617123184640 4627448617123184640 := ⟨gd_lit (by decide), gd_lit (by decide), by decide +kernel, by decide, by decide⟩
def s24 : Sp := ⟨4627448617123184640, 4627448617123184640, v_24⟩
theorem s24_lo : s24.lo = 4627448617123184640 := rfl
theorem s24_hi : s24.hi = 4627448617123184640 := rfl
theorem aw_det : afDet (afStretch 4611686018427387904 4613937818241073152 4616189618054758400) = s24 := by refine Sp.ext ?_ ?_ <;> decide +kernel
theorem awake4  (w : World) : Calls Try.prog 11 #[] w fun r w' => r = .returned (.bool true) ∧ Below w.heap.size w w' := by
 have C0 := Lib.hid (fun w => moveA_any 4607182418800017408 0 0 (by decide) (by decide) (by decide) w)
 obtain ⟨p0, hp0⟩ : ∃ z_, afMove 4607182418800017408 0 0 = z_ := ⟨_, rfl⟩
 rw [hp0] at C0
 have C1 := Lib.hid (fun w => stretchA_any 4611686018427387904 4611686018427387904 4611686018427387904 (by decide) (by decide) (by decide) w)
 obtain ⟨p1, hp1⟩ : ∃ z_, afStretch 4611686018427387904 4611686018427387904 4611686018427387904 = z_ := ⟨_, rfl⟩
 rw [hp1] at C1
 have C2 := Lib.hid (fun w => thenA_any p0 p1 w)
 obtain ⟨p2, hp2⟩ : ∃ z_, afThen p0 p1 = z_ := ⟨_, rfl⟩
 rw [hp2] at C2
 have C3 := Lib.hid (fun w => rofV_any 4607182418800017408 4607182418800017408 4607182418800017408 (by decide) (by decide) (by decide) w)
 obtain ⟨p3, hp3⟩ : ∃ z_, vOf 4607182418800017408 4607182418800017408 4607182418800017408 = z_ := ⟨_, rfl⟩
 rw [hp3] at C3
 have C4 := Lib.hid (fun w => ptA_any p2 p3 w)
 have hl : afPt p2 p3 = vOf 4613937818241073152 4611686018427387904 4611686018427387904 := by rw [← hp3, ← hp2, ← hp1, ← hp0]; exact aw_pt
 rw [hl] at C4
 clear hl
 obtain ⟨p4, hp4⟩ : ∃ z_, vOf 4613937818241073152 4611686018427387904 4611686018427387904 = z_ := ⟨_, rfl⟩
 rw [hp4] at C4
 have C5 := Lib.hid (fun w => rofV_any 4613937818241073152 4611686018427387904 4611686018427387904 (by decide) (by decide) (by decide) w)
 rw [hp4] at C5
 have C6 := Lib.hid (fun w => stretchA_any 4611686018427387904 4613937818241073152 4616189618054758400 (by decide) (by decide) (by decide) w)
 obtain ⟨p6, hp6⟩ : ∃ z_, afStretch 4611686018427387904 4613937818241073152 4616189618054758400 = z_ := ⟨_, rfl⟩
 rw [hp6] at C6
 have C7 := Lib.hid (fun w => detA_any p6 w)
 have hl : afDet p6 = s24 := by rw [← hp6]; exact aw_det
 rw [hl] at C7
 clear hl
 simp only [s24_lo, s24_hi] at C7
 clear hp0 hp1 hp2 hp3 hp4 hp6
 have eq_0 := order_self p4.x.vd.l
 have eq_1 := order_self p4.x.vd.h
 have eq_2 := order_self p4.y.vd.l
 have eq_3 := order_self p4.y.vd.h
 have eq_4 := order_self p4.z.vd.l
 have eq_5 := order_self p4.z.vd.h
 have eq24 := order_self v_24.l
 go_enter Try.func11, Try.ntmps11
 go_wp2_with fail
 obtain ⟨W, hW⟩ : ∃ W, W = w := ⟨_, rfl⟩
 rw [← hW]
 have HB := Lib.hid (hW ▸ Below.refl w.heap.size w : Below w.heap.size w W)
 clear hW
 have D1 := dr W
 refine (C0.out _).mono ?_
 rintro r w2 ⟨rfl, hb⟩
 have D3 := ds D1 hb
 clear D1
 clear hb
 go_wp2_with fail
 refine (C1.out _).mono ?_
 rintro r w4 ⟨rfl, hb⟩
 have D5 := ds D3 hb
 clear D3
 clear hb
 go_wp2_with fail
 refine (C2.out _).mono ?_
 rintro r w6 ⟨rfl, hb⟩
 have D7 := ds D5 hb
 clear D5
 clear hb
 go_wp2_with fail
 refine (C3.out _).mono ?_
 rintro r w8 ⟨rfl, hb⟩
 have D9 := ds D7 hb
 clear D7
 clear hb
 go_wp2_with fail
 refine (C4.out _).mono ?_
 rintro r w10 ⟨rfl, hb⟩
 have D11 := ds D9 hb
 clear D9
 clear hb
 obtain ⟨g12, hg14⟩ : ∃ g, w10.heap.size = g := ⟨_, rfl⟩
 have Y16 := Lib.hid (show w.heap.size ≤ g12 by rw [← hg14]; exact (below_step HB.out D11.out).size)
 obtain ⟨V13, hV15⟩ : ∃ V, w10.alloc (.cells #[.float .f64 0, .float .f64 0, .float .f64 0, .float .f64 0, .float .f64 0, .float .f64 0] 30) = V := ⟨_, rfl⟩
 have K17 := kn hV15 hg14
 have HB18 := hba hV15 HB D11
 have D19 := dr V13
 clear  HB D11
 have f22 := (kb K17 D19)
 obtain ⟨V20, hV21⟩ : ∃ V, World.setRow V13 (g12) (vc p4) = V := ⟨_, rfl⟩
 have K23 := ksr hV21 K17 D19
 have HB24 := hbr hV21 HB18 D19 (by have := Y16.out; omega)
 have D25 := dr V20
 clear K17 HB18 D19
 go_wp2_with (refine wpList_store_row rfl 30 _ _ rfl (g12) (vc p4) rfl rfl _ _ f22 (by rw [info_V3]; rfl) rfl (by kernel_rfl) ?_; rw [hV21])
 clear hg14 hV15 hV21 f22
 refine wp_region_held (S := (fun w' => True ∧ Blk w' (g12) 30 (vc p4))) (by kernel_rfl) ?_
 change wpAnyH _ _ _ _ _ _ _ _ (World.drew _)
 obtain ⟨wd26, hwd⟩ : ∃ x, x = World.drew V20 := ⟨_, rfl⟩
 rw [← hwd]
 have D27 := Lib.hid (hwd ▸ Below.drew D25.out : Below V20.heap.size V20 wd26)
 clear D25 hwd
 have hS28 : True ∧ Blk wd26 (g12) 30 (vc p4) := ⟨trivial, (kb K23 D27)⟩
 refine tkL 0 (bm 12 1) ?aq29 rfl (by kernel_rfl) (fun _ _ _ h => h) (by kernel_rfl) rfl rfl (fun _ hS => hS.2) (by rw [info_V3]; rfl) Try.underlying30 rfl ?pq29 hS28 ?rq29
 case pq29 => (go_simp; try with_reducible rfl)
 refine tkq 1 (bm 12 3) hS28 ?_
 refine wpAnyH_oneN (i := 2) (l' := bm 12 7) rfl (by kernel_rfl) (by kernel_rfl) (by kernel_rfl) (fun K hK => ?_)
 go_simp
 go_at_call 16
 refine (C5.out _).mono ?_
 rintro r w31 ⟨rfl, hb⟩
 dsimp only
 have D32 := ds D27 hb
 clear D27
 clear hb
 have hS33 : True ∧ Blk w31 (g12) 30 (vc p4) := ⟨trivial, (kb K23 D32)⟩
 refine hK _ _ hS33 ?_
 clear hK K hS28
 refine tkq 3 (bm 12 15) hS33 ?_
 refine tkq 4 (bm 12 31) hS33 ?_
 refine tkq 5 (bm 12 63) hS33 ?_
 refine tkq 8 (bm 12 319) hS33 ?_
 refine wpAnyH_oneN (i := 6) (l' := bm 12 383) rfl (by kernel_rfl) (by kernel_rfl) (by kernel_rfl) (fun K hK => ?_)
 go_simp
 go_at_call 24
 refine (C6.out _).mono ?_
 rintro r w38 ⟨rfl, hb⟩
 dsimp only
 have D39 := ds D32 hb
 clear D32
 clear hb
 have hS40 : True ∧ Blk w38 (g12) 30 (vc p4) := ⟨trivial, (kb K23 D39)⟩
 refine hK _ _ hS40 ?_
 clear hK K hS33
 refine wpAnyH_oneN (i := 7) (l' := bm 12 511) rfl (by kernel_rfl) (by kernel_rfl) (by kernel_rfl) (fun K hK => ?_)
 go_simp
 go_at_call 15
 refine (C7.out _).mono ?_
 rintro r w41 ⟨rfl, hb⟩
 dsimp only
 have D42 := ds D39 hb
 clear D39
 clear hb
 have hS43 : True ∧ Blk w41 (g12) 30 (vc p4) := ⟨trivial, (kb K23 D42)⟩
 refine hK _ _ hS43 ?_
 clear hK K hS40
 refine tkq 9 (bm 12 1023) hS43 ?_
 refine tkq 10 (bm 12 2047) hS43 ?_
 refine tkq 11 (bm 12 4095) hS43 ?_
 refine wpAnyH_done (by kernel_rfl) ?_ _
 clear hS43
 go_wp2_with fail
 go_ret
 exact ⟨rfl, below_step HB24.out D42.out⟩
end Go.Proofs.Ytnljfcebmgifdaa
set_option linter.unusedVariables false
set_option linter.unusedSimpArgs false
namespace Go.Proofs.Ytnljfcebmgifdaa
open Go.RowKit Fl
theorem turnA_lo (c s : Nat) (axis : Int) (h0 : decide (axis < 0) = true) (w : World) : Calls Try.prog 13 #[Value.int IntKind.i64 axis, .float .f64 c, .float .f64 s] w fun r w' => r = .returned (.tuple #[.agg #[.float .f64 0, .float .f64 0, .float .f64 0, .float .f64 0, .float .f64 0, .float .f64 0, .float .f64 0, .float .f64 0, .float .f64 0, .float .f64 0, .float .f64 0, .float .f64 0, .float .f64 0, .float .f64 0, .float .f64 0, .float .f64 0, .float .f64 0, .float .f64 0, .float .f64 0, .float .f64 0, .float .f64 0, .float .f64 0, .float .f64 0, .float .f64 0], .int .i64 2]) ∧ Below w.heap.size w w' := by
 go_enter Try.func13, Try.ntmps13
 go_wp2_with (refine wpList_store_row rfl 33 _ _ rfl (w.heap.size) #[.float .f64 0, .float .f64 0, .float .f64 0, .float .f64 0, .float .f64 0, .float .f64 0, .float .f64 0, .float .f64 0, .float .f64 0, .float .f64 0, .float .f64 0, .float .f64 0, .float .f64 0, .float .f64 0, .float .f64 0, .float .f64 0, .float .f64 0, .float .f64 0, .float .f64 0, .float .f64 0, .float .f64 0, .float .f64 0, .float .f64 0, .float .f64 0] rfl rfl _ _ (Blk.new_at _ _ _ rfl) (by rw [info_Affine]; rfl) rfl (by kernel_rfl) ?_)
 (try simp only [Exit.inBlock, Exit.then])
 exact bodyPost_ret (res_ct rfl _ _ (w.heap.size) #[.float .f64 0, .float .f64 0, .float .f64 0, .float .f64 0, .float .f64 0, .float .f64 0, .float .f64 0, .float .f64 0, .float .f64 0, .float .f64 0, .float .f64 0, .float .f64 0, .float .f64 0, .float .f64 0, .float .f64 0, .float .f64 0, .float .f64 0, .float .f64 0, .float .f64 0, .float .f64 0, .float .f64 0, .float .f64 0, .float .f64 0, .float .f64 0] rfl ((Blk.new_at _ _ _ rfl).setRow _) (by rw [info_Affine]; rfl) Try.underlying33 rfl) rfl ⟨rfl, (Below.setRow ((Below.refl _ w).alloc (Nat.le_refl _) _) (by omega))⟩
theorem turnA_hi (c s : Nat) (axis : Int) (h0 : decide (axis < 0) = false) (h3 : decide (axis > 2) = true) (h4 : decide (2 < axis) = true) (w : World) : Calls Try.prog 13 #[Value.int IntKind.i64 axis, .float .f64 c, .float .f64 s] w fun r w' => r = .returned (.tuple #[.agg #[.float .f64 0, .float .f64 0, .float .f64 0, .float .f64 0, .float .f64 0, .float .f64 0, .float .f64 0, .float .f64 0, .float .f64 0, .float .f64 0, .float .f64 0, .float .f64 0, .float .f64 0, .float .f64 0, .float .f64 0, .float .f64 0, .float .f64 0, .float .f64 0, .float .f64 0, .float .f64 0, .float .f64 0, .float .f64 0, .float .f64 0, .float .f64 0], .int .i64 2]) ∧ Below w.heap.size w w' := by
 go_enter Try.func13, Try.ntmps13
 go_wp2_with (refine wpList_store_row rfl 33 _ _ rfl (w.heap.size) #[.float .f64 0, .float .f64 0, .float .f64 0, .float .f64 0, .float .f64 0, .float .f64 0, .float .f64 0, .float .f64 0, .float .f64 0, .float .f64 0, .float .f64 0, .float .f64 0, .float .f64 0, .float .f64 0, .float .f64 0, .float .f64 0, .float .f64 0, .float .f64 0, .float .f64 0, .float .f64 0, .float .f64 0, .float .f64 0, .float .f64 0, .float .f64 0] rfl rfl _ _ (Blk.new_at _ _ _ rfl) (by rw [info_Affine]; rfl) rfl (by kernel_rfl) ?_)
 (try simp only [Exit.inBlock, Exit.then])
 exact bodyPost_ret (res_ct rfl _ _ (w.heap.size) #[.float .f64 0, .float .f64 0, .float .f64 0, .float .f64 0, .float .f64 0, .float .f64 0, .float .f64 0, .float .f64 0, .float .f64 0, .float .f64 0, .float .f64 0, .float .f64 0, .float .f64 0, .float .f64 0, .float .f64 0, .float .f64 0, .float .f64 0, .float .f64 0, .float .f64 0, .float .f64 0, .float .f64 0, .float .f64 0, .float .f64 0, .float .f64 0] rfl ((Blk.new_at _ _ _ rfl).setRow _) (by rw [info_Affine]; rfl) Try.underlying33 rfl) rfl ⟨rfl, (Below.setRow ((Below.refl _ w).alloc (Nat.le_refl _) _) (by omega))⟩
theorem turnA_b (axis : Int) (c s : Nat) (h0 : decide (axis < 0) = false) (h3 : decide (axis > 2) = false) (h4 : decide (2 < axis) = false) (hc : c < 18446744073709551616) (hs : s < 18446744073709551616) (h1 : ¬ 0 < Z (tuL c s).lo) (w : World) : Calls Try.prog 13 #[Value.int IntKind.i64 axis, .float .f64 c, .float .f64 s] w fun r w' => r = .returned (.tuple #[.agg #[.float .f64 0, .float .f64 0, .float .f64 0, .float .f64 0, .float .f64 0, .float .f64 0, .float .f64 0, .float .f64 0, .float .f64 0, .float .f64 0, .float .f64 0, .float .f64 0, .float .f64 0, .float .f64 0, .float .f64 0, .float .f64 0, .float .f64 0, .float .f64 0, .float .f64 0, .float .f64 0, .float .f64 0, .float .f64 0, .float .f64 0, .float .f64 0], .int .i64 11]) ∧ Below w.heap.size w w' := by
 have C0 := Lib.hid (fun w => of_sp c hc w)
 obtain ⟨p0, hp0⟩ : ∃ z_, ofS c = z_ := ⟨_, rfl⟩
 rw [hp0] at C0
 have C1 := Lib.hid (fun w => sqr_sp p0 w)
 obtain ⟨p1, hp1⟩ : ∃ z_, sqrS p0 = z_ := ⟨_, rfl⟩
 rw [hp1] at C1
 have C2 := Lib.hid (fun w => of_sp s hs w)
 obtain ⟨p2, hp2⟩ : ∃ z_, ofS s = z_ := ⟨_, rfl⟩
 rw [hp2] at C2
 have C3 := Lib.hid (fun w => sqr_sp p2 w)
 obtain ⟨p3, hp3⟩ : ∃ z_, sqrS p2 = z_ := ⟨_, rfl⟩
 rw [hp3] at C3
 have C4 := Lib.hid (fun w => add_sp p1 p3 w)
 obtain ⟨p4, hp4⟩ : ∃ z_, addS p1 p3 = z_ := ⟨_, rfl⟩
 rw [hp4] at C4
 have C5 := Lib.hid (fun w => sqrt_sp p4 w)
 obtain ⟨p5, hp5⟩ : ∃ z_, sqrtS p4 = z_ := ⟨_, rfl⟩
 rw [hp5] at C5
 have hl : tuL c s = p5 := by rw [← hp5, ← hp4, ← hp3, ← hp2, ← hp1, ← hp0]; rfl
 rw [hl] at h1
 clear hl
 have e1 : (FloatKind.f64.format.order p5.lo 0 == some .lt || FloatKind.f64.format.order p5.lo 0 == some .eq) = true := by rw [le0_gd p5.vd.l]; exact decide_eq_true (by omega)
 clear hp0 hp1 hp2 hp3 hp4 hp5
 go_enter Try.func13, Try.ntmps13
 go_wp2_with fail
 obtain ⟨W, hW, K0, hB, hz⟩ := bx1 w 33 #[.float .f64 0, .float .f64 0, .float .f64 0, .float .f64 0, .float .f64 0, .float .f64 0, .float .f64 0, .float .f64 0, .float .f64 0, .float .f64 0, .float .f64 0, .float .f64 0, .float .f64 0, .float .f64 0, .float .f64 0, .float .f64 0, .float .f64 0, .float .f64 0, .float .f64 0, .float .f64 0, .float .f64 0, .float .f64 0, .float .f64 0, .float .f64 0]
 rw [← hW]
 have K0 := Lib.hid K0
 have HB := Lib.hid hB
 clear hW hB hz
 have D1 := dr W
 refine (C0.out _).mono ?_
 rintro r w2 ⟨rfl, hb⟩
 have D3 := ds D1 hb
 clear D1
 clear hb
 go_wp2_with fail
 refine (C1.out _).mono ?_
 rintro r w4 ⟨rfl, hb⟩
 have D5 := ds D3 hb
 clear D3
 clear hb
 go_wp2_with fail
 refine (C2.out _).mono ?_
 rintro r w6 ⟨rfl, hb⟩
 have D7 := ds D5 hb
 clear D5
 clear hb
 go_wp2_with fail
 refine (C3.out _).mono ?_
 rintro r w8 ⟨rfl, hb⟩
 have D9 := ds D7 hb
 clear D7
 clear hb
 go_wp2_with fail
 refine (C4.out _).mono ?_
 rintro r w10 ⟨rfl, hb⟩
 have D11 := ds D9 hb
 clear D9
 clear hb
 go_wp2_with fail
 refine (C5.out _).mono ?_
 rintro r w12 ⟨rfl, hb⟩
 have D13 := ds D11 hb
 clear D11
 clear hb
 obtain ⟨g14, hg16⟩ : ∃ g, w12.heap.size = g := ⟨_, rfl⟩
 have Y18 := Lib.hid (show w.heap.size < g14 by rw [← hg16]; exact (kb K0 D13).lt)
 obtain ⟨V15, hV17⟩ : ∃ V, w12.alloc (.cells #[.float .f64 0, .float .f64 0] 28) = V := ⟨_, rfl⟩
 have K19 := ka hV17 K0 D13
 have K20 := kn hV17 hg16
 have HB21 := hba hV17 HB D13
 have D22 := dr V15
 clear K0 HB D13
 have f25 := (kb K20 D22).cellsL 0 [.float .f64 0, .float .f64 0] rfl
 dsimp only [CellsL, al, vl, Nat.reduceAdd] at f25
 have u26 := (kb K20 D22).unfrozen
 obtain ⟨V23, hV24⟩ : ∃ V, setCells V15 (g14) 0 [.float .f64 p5.lo, .float .f64 p5.hi] = V := ⟨_, rfl⟩
 have hv27 := hV24
 simp only [setCells, Nat.reduceAdd] at hv27
 have K28 := kf hV24 K19 D22 (by have := Y18.out; omega)
 have K29 := Lib.hid (show Blk V23 (g14) 28 #[.float .f64 p5.lo, .float .f64 p5.hi] from (ks hV24 K20 D22).out)
 have HB30 := hbs hV24 HB21 D22 (by have := Y18.out; omega)
 have D31 := dr V23
 clear K19 K20 HB21 D22
 have hq32 := (kb K29 D31).cellsL 0 [.float .f64 p5.lo] rfl
 dsimp only [CellsL, al, vl, Nat.reduceAdd] at hq32
 have f35 := (kb K28 D31)
 obtain ⟨V33, hV34⟩ : ∃ V, World.setRow V23 (w.heap.size) #[.float .f64 0, .float .f64 0, .float .f64 0, .float .f64 0, .float .f64 0, .float .f64 0, .float .f64 0, .float .f64 0, .float .f64 0, .float .f64 0, .float .f64 0, .float .f64 0, .float .f64 0, .float .f64 0, .float .f64 0, .float .f64 0, .float .f64 0, .float .f64 0, .float .f64 0, .float .f64 0, .float .f64 0, .float .f64 0, .float .f64 0, .float .f64 0] = V := ⟨_, rfl⟩
 have K36 := ksr hV34 K28 D31
 have K37 := kfr hV34 K29 D31 (by have := Y18.out; omega)
 have HB38 := hbr hV34 HB30 D31 (by have := Y18.out; omega)
 have D39 := dr V33
 clear K28 K29 HB30 D31
 go_wp2_with (refine wpList_store_row rfl 33 _ _ rfl (w.heap.size) #[.float .f64 0, .float .f64 0, .float .f64 0, .float .f64 0, .float .f64 0, .float .f64 0, .float .f64 0, .float .f64 0, .float .f64 0, .float .f64 0, .float .f64 0, .float .f64 0, .float .f64 0, .float .f64 0, .float .f64 0, .float .f64 0, .float .f64 0, .float .f64 0, .float .f64 0, .float .f64 0, .float .f64 0, .float .f64 0, .float .f64 0, .float .f64 0] rfl rfl _ _ f35 (by rw [info_Affine]; rfl) rfl (by kernel_rfl) ?_; rw [hV34])
 clear hg16 hV17 hV24 f25 u26 hv27 hq32 hV34 f35
 (try simp only [Exit.inBlock, Exit.then])
 exact bodyPost_ret (res_ct rfl _ _ (w.heap.size) #[.float .f64 0, .float .f64 0, .float .f64 0, .float .f64 0, .float .f64 0, .float .f64 0, .float .f64 0, .float .f64 0, .float .f64 0, .float .f64 0, .float .f64 0, .float .f64 0, .float .f64 0, .float .f64 0, .float .f64 0, .float .f64 0, .float .f64 0, .float .f64 0, .float .f64 0, .float .f64 0, .float .f64 0, .float .f64 0, .float .f64 0, .float .f64 0] rfl (kb K36 D39) (by rw [info_Affine]; rfl) Try.underlying33 rfl) rfl ⟨rfl, below_step HB38.out D39.out⟩
theorem turnA_w (axis : Int) (c s : Nat) (h0 : decide (axis < 0) = false) (h3 : decide (axis > 2) = false) (h4 : decide (2 < axis) = false) (hc : c < 18446744073709551616) (hs : s < 18446744073709551616) (h1 : 0 < Z (tuL c s).lo) (h2 : (tuL c s).wide = true) (w : World) : Calls Try.prog 13 #[Value.int IntKind.i64 axis, .float .f64 c, .float .f64 s] w fun r w' => r = .returned (.tuple #[.agg #[.float .f64 0, .float .f64 0, .float .f64 0, .float .f64 0, .float .f64 0, .float .f64 0, .float .f64 0, .float .f64 0, .float .f64 0, .float .f64 0, .float .f64 0, .float .f64 0, .float .f64 0, .float .f64 0, .float .f64 0, .float .f64 0, .float .f64 0, .float .f64 0, .float .f64 0, .float .f64 0, .float .f64 0, .float .f64 0, .float .f64 0, .float .f64 0], .int .i64 11]) ∧ Below w.heap.size w w' := by
 have C0 := Lib.hid (fun w => of_sp c hc w)
 obtain ⟨p0, hp0⟩ : ∃ z_, ofS c = z_ := ⟨_, rfl⟩
 rw [hp0] at C0
 have C1 := Lib.hid (fun w => sqr_sp p0 w)
 obtain ⟨p1, hp1⟩ : ∃ z_, sqrS p0 = z_ := ⟨_, rfl⟩
 rw [hp1] at C1
 have C2 := Lib.hid (fun w => of_sp s hs w)
 obtain ⟨p2, hp2⟩ : ∃ z_, ofS s = z_ := ⟨_, rfl⟩
 rw [hp2] at C2
 have C3 := Lib.hid (fun w => sqr_sp p2 w)
 obtain ⟨p3, hp3⟩ : ∃ z_, sqrS p2 = z_ := ⟨_, rfl⟩
 rw [hp3] at C3
 have C4 := Lib.hid (fun w => add_sp p1 p3 w)
 obtain ⟨p4, hp4⟩ : ∃ z_, addS p1 p3 = z_ := ⟨_, rfl⟩
 rw [hp4] at C4
 have C5 := Lib.hid (fun w => sqrt_sp p4 w)
 obtain ⟨p5, hp5⟩ : ∃ z_, sqrtS p4 = z_ := ⟨_, rfl⟩
 rw [hp5] at C5
 have hl : tuL c s = p5 := by rw [← hp5, ← hp4, ← hp3, ← hp2, ← hp1, ← hp0]; rfl
 rw [hl] at h1 h2
 clear hl
 have e1 : (FloatKind.f64.format.order p5.lo 0 == some .lt || FloatKind.f64.format.order p5.lo 0 == some .eq) = false := by rw [le0_gd p5.vd.l]; exact decide_eq_false (by omega)
 have C6 := Lib.hid (fun w => wide_sp p5 w)
 rw [h2] at C6
 clear hp0 hp1 hp2 hp3 hp4 hp5
 go_enter Try.func13, Try.ntmps13
 go_wp2_with fail
 obtain ⟨W, hW, K0, hB, hz⟩ := bx1 w 33 #[.float .f64 0, .float .f64 0, .float .f64 0, .float .f64 0, .float .f64 0, .float .f64 0, .float .f64 0, .float .f64 0, .float .f64 0, .float .f64 0, .float .f64 0, .float .f64 0, .float .f64 0, .float .f64 0, .float .f64 0, .float .f64 0, .float .f64 0, .float .f64 0, .float .f64 0, .float .f64 0, .float .f64 0, .float .f64 0, .float .f64 0, .float .f64 0]
 rw [← hW]
 have K0 := Lib.hid K0
 have HB := Lib.hid hB
 clear hW hB hz
 have D1 := dr W
 refine (C0.out _).mono ?_
 rintro r w2 ⟨rfl, hb⟩
 have D3 := ds D1 hb
 clear D1
 clear hb
 go_wp2_with fail
 refine (C1.out _).mono ?_
 rintro r w4 ⟨rfl, hb⟩
 have D5 := ds D3 hb
 clear D3
 clear hb
 go_wp2_with fail
 refine (C2.out _).mono ?_
 rintro r w6 ⟨rfl, hb⟩
 have D7 := ds D5 hb
 clear D5
 clear hb
 go_wp2_with fail
 refine (C3.out _).mono ?_
 rintro r w8 ⟨rfl, hb⟩
 have D9 := ds D7 hb
 clear D7
 clear hb
 go_wp2_with fail
 refine (C4.out _).mono ?_
 rintro r w10 ⟨rfl, hb⟩
 have D11 := ds D9 hb
 clear D9
 clear hb
 go_wp2_with fail
 refine (C5.out _).mono ?_
 rintro r w12 ⟨rfl, hb⟩
 have D13 := ds D11 hb
 clear D11
 clear hb
 obtain ⟨g14, hg16⟩ : ∃ g, w12.heap.size = g := ⟨_, rfl⟩
 have Y18 := Lib.hid (show w.heap.size < g14 by rw [← hg16]; exact (kb K0 D13).lt)
 obtain ⟨V15, hV17⟩ : ∃ V, w12.alloc (.cells #[.float .f64 0, .float .f64 0] 28) = V := ⟨_, rfl⟩
 have K19 := ka hV17 K0 D13
 have K20 := kn hV17 hg16
 have HB21 := hba hV17 HB D13
 have D22 := dr V15
 clear K0 HB D13
 have f25 := (kb K20 D22).cellsL 0 [.float .f64 0, .float .f64 0] rfl
 dsimp only [CellsL, al, vl, Nat.reduceAdd] at f25
 have u26 := (kb K20 D22).unfrozen
 obtain ⟨V23, hV24⟩ : ∃ V, setCells V15 (g14) 0 [.float .f64 p5.lo, .float .f64 p5.hi] = V := ⟨_, rfl⟩
 have hv27 := hV24
 simp only [setCells, Nat.reduceAdd] at hv27
 have K28 := kf hV24 K19 D22 (by have := Y18.out; omega)
 have K29 := Lib.hid (show Blk V23 (g14) 28 #[.float .f64 p5.lo, .float .f64 p5.hi] from (ks hV24 K20 D22).out)
 have HB30 := hbs hV24 HB21 D22 (by have := Y18.out; omega)
 have D31 := dr V23
 clear K19 K20 HB21 D22
 have hq32 := (kb K29 D31).cellsL 0 [.float .f64 p5.lo, .float .f64 p5.hi] rfl
 dsimp only [CellsL, al, vl, Nat.reduceAdd] at hq32
 go_wp2_with fail
 clear hg16 hV17 hV24 f25 u26 hv27 hq32
 refine (C6.out _).mono ?_
 rintro r w33 ⟨rfl, hb⟩
 have D34 := ds D31 hb
 clear D31
 clear hb
 have f37 := (kb K28 D34)
 obtain ⟨V35, hV36⟩ : ∃ V, World.setRow w33 (w.heap.size) #[.float .f64 0, .float .f64 0, .float .f64 0, .float .f64 0, .float .f64 0, .float .f64 0, .float .f64 0, .float .f64 0, .float .f64 0, .float .f64 0, .float .f64 0, .float .f64 0, .float .f64 0, .float .f64 0, .float .f64 0, .float .f64 0, .float .f64 0, .float .f64 0, .float .f64 0, .float .f64 0, .float .f64 0, .float .f64 0, .float .f64 0, .float .f64 0] = V := ⟨_, rfl⟩
 have K38 := ksr hV36 K28 D34
 have K39 := kfr hV36 K29 D34 (by have := Y18.out; omega)
 have HB40 := hbr hV36 HB30 D34 (by have := Y18.out; omega)
 have D41 := dr V35
 clear K28 K29 HB30 D34
 go_wp2_with (refine wpList_store_row rfl 33 _ _ rfl (w.heap.size) #[.float .f64 0, .float .f64 0, .float .f64 0, .float .f64 0, .float .f64 0, .float .f64 0, .float .f64 0, .float .f64 0, .float .f64 0, .float .f64 0, .float .f64 0, .float .f64 0, .float .f64 0, .float .f64 0, .float .f64 0, .float .f64 0, .float .f64 0, .float .f64 0, .float .f64 0, .float .f64 0, .float .f64 0, .float .f64 0, .float .f64 0, .float .f64 0] rfl rfl _ _ f37 (by rw [info_Affine]; rfl) rfl (by kernel_rfl) ?_; rw [hV36])
 clear hV36 f37
 (try simp only [Exit.inBlock, Exit.then])
 exact bodyPost_ret (res_ct rfl _ _ (w.heap.size) #[.float .f64 0, .float .f64 0, .float .f64 0, .float .f64 0, .float .f64 0, .float .f64 0, .float .f64 0, .float .f64 0, .float .f64 0, .float .f64 0, .float .f64 0, .float .f64 0, .float .f64 0, .float .f64 0, .float .f64 0, .float .f64 0, .float .f64 0, .float .f64 0, .float .f64 0, .float .f64 0, .float .f64 0, .float .f64 0, .float .f64 0, .float .f64 0] rfl (kb K38 D41) (by rw [info_Affine]; rfl) Try.underlying33 rfl) rfl ⟨rfl, below_step HB40.out D41.out⟩
end Go.Proofs.Ytnljfcebmgifdaa
