/- Shaken: Ta. -/
import Derived.Test.YtnljfcebmgifdaaGreatZTx
set_option linter.unusedVariables false
set_option linter.unusedSimpArgs false
namespace Go.Proofs.YtnljfcebmgifdaaGreat
open Go.RowKit Fl
set_option maxRecDepth 100000 in
set_option maxHeartbeats 8000000 in
theorem rofV_any (t0 t1 t2 : Nat) (h0 : t0 < 18446744073709551616) (h1 : t1 < 18446744073709551616) (h2 : t2 < 18446744073709551616) (w : World) : Calls Tryz.prog 41 #[Value.agg #[.float .f64 t0, .float .f64 t1, .float .f64 t2]] w fun r w' => r = .returned (vval (vOf t0 t1 t2)) ∧ Below w.heap.size w w' := by
 have C0 := Lib.hid (fun w => rof_sp t0 h0 w)
 obtain ⟨p0, hp0⟩ : ∃ z_, ofS t0 = z_ := ⟨_, rfl⟩
 rw [hp0] at C0
 have C1 := Lib.hid (fun w => rof_sp t1 h1 w)
 obtain ⟨p1, hp1⟩ : ∃ z_, ofS t1 = z_ := ⟨_, rfl⟩
 rw [hp1] at C1
 have C2 := Lib.hid (fun w => rof_sp t2 h2 w)
 obtain ⟨p2, hp2⟩ : ∃ z_, ofS t2 = z_ := ⟨_, rfl⟩
 rw [hp2] at C2
 have hT : vOf t0 t1 t2 = (⟨p0, p1, p2⟩ : V3) := by
   subst hp0 hp1 hp2; rfl
 rw [hT]
 clear hT
 clear hp0 hp1 hp2
 go_enter Tryz.func41, Tryz.ntmps41
 go_wp2_with fail
 obtain ⟨W, hW, K0, K1, hB, hz⟩ := bx2 w 62 26 #[.float .f64 t0, .float .f64 t1, .float .f64 t2] #[.float .f64 0, .float .f64 0, .float .f64 0, .float .f64 0, .float .f64 0, .float .f64 0]
 rw [← hW]
 have K0 := Lib.hid K0
 have K1 := Lib.hid K1
 have HB := Lib.hid hB
 clear hW hB hz
 have D1 := dr W
 refine wp_region_held (S := (fun w' => True ∧ CellsL w' (w.heap.size) 0 [.float .f64 t0, .float .f64 t1, .float .f64 t2])) (by kernel_rfl) ?_
 change wpAnyH _ _ _ _ _ _ _ _ (World.drew _)
 obtain ⟨wd2, hwd⟩ : ∃ x, x = World.drew W := ⟨_, rfl⟩
 rw [← hwd]
 have D3 := Lib.hid (hwd ▸ Below.drew D1.out : Below W.heap.size W wd2)
 clear D1 hwd
 have hS4 : True ∧ CellsL wd2 (w.heap.size) 0 [.float .f64 t0, .float .f64 t1, .float .f64 t2] := ⟨trivial, (kb K0 D3).cellsL 0 [.float .f64 t0, .float .f64 t1, .float .f64 t2] rfl⟩
 refine tkq 0 (bm 11 1) hS4 ?_
 refine tke 1 (bm 11 3) hS4 ?_
 refine tkq 3 (bm 11 11) hS4 ?_
 refine tke 4 (bm 11 27) hS4 ?_
 refine tkq 6 (bm 11 91) hS4 ?_
 refine tke 7 (bm 11 219) hS4 ?_
 refine wpAnyH_oneN (i := 2) (l' := bm 11 223) rfl (by kernel_rfl) (by kernel_rfl) (by kernel_rfl) (fun K hK => ?_)
 go_simp
 go_at_call 70
 refine (C0.out _).mono ?_
 rintro r w11 ⟨rfl, hb⟩
 dsimp only
 have D12 := ds D3 hb
 clear D3
 clear hb
 have hS13 : True ∧ CellsL w11 (w.heap.size) 0 [.float .f64 t0, .float .f64 t1, .float .f64 t2] := ⟨trivial, (kb K0 D12).cellsL 0 [.float .f64 t0, .float .f64 t1, .float .f64 t2] rfl⟩
 refine hK _ _ hS13 ?_
 clear hK K hS4
 refine wpAnyH_oneN (i := 5) (l' := bm 11 255) rfl (by kernel_rfl) (by kernel_rfl) (by kernel_rfl) (fun K hK => ?_)
 go_simp
 go_at_call 70
 refine (C1.out _).mono ?_
 rintro r w14 ⟨rfl, hb⟩
 dsimp only
 have D15 := ds D12 hb
 clear D12
 clear hb
 have hS16 : True ∧ CellsL w14 (w.heap.size) 0 [.float .f64 t0, .float .f64 t1, .float .f64 t2] := ⟨trivial, (kb K0 D15).cellsL 0 [.float .f64 t0, .float .f64 t1, .float .f64 t2] rfl⟩
 refine hK _ _ hS16 ?_
 clear hK K hS13
 refine wpAnyH_oneN (i := 8) (l' := bm 11 511) rfl (by kernel_rfl) (by kernel_rfl) (by kernel_rfl) (fun K hK => ?_)
 go_simp
 go_at_call 70
 refine (C2.out _).mono ?_
 rintro r w17 ⟨rfl, hb⟩
 dsimp only
 have D18 := ds D15 hb
 clear D15
 clear hb
 have hS19 : True ∧ CellsL w17 (w.heap.size) 0 [.float .f64 t0, .float .f64 t1, .float .f64 t2] := ⟨trivial, (kb K0 D18).cellsL 0 [.float .f64 t0, .float .f64 t1, .float .f64 t2] rfl⟩
 refine hK _ _ hS19 ?_
 clear hK K hS16
 refine tkq 9 (bm 11 1023) hS19 ?_
 refine wpAnyH_oneN (i := 10) (l' := bm 11 2047) rfl (by kernel_rfl) (by kernel_rfl) (by kernel_rfl) (fun K hK => ?_)
 have f23 := (kb K1 D18)
 obtain ⟨V21, hV22⟩ : ∃ V, World.setRow w17 (w.heap.size + 1) #[.float .f64 p0.lo, .float .f64 p0.hi, .float .f64 p1.lo, .float .f64 p1.hi, .float .f64 p2.lo, .float .f64 p2.hi] = V := ⟨_, rfl⟩
 have K24 := kfr hV22 K0 D18 (by omega)
 have K25 := ksr hV22 K1 D18
 have HB26 := hbr hV22 HB D18 (by omega)
 have D27 := dr V21
 clear K0 K1 HB D18
 refine wp_store_row 26 _ _ rfl (w.heap.size + 1) #[.float .f64 p0.lo, .float .f64 p0.hi, .float .f64 p1.lo, .float .f64 p1.hi, .float .f64 p2.lo, .float .f64 p2.hi] rfl rfl _ _ f23 (by rw [info_V3]; rfl) rfl (by kernel_rfl) ?_
 rw [hV22]
 go_simp
 clear hV22 f23
 have hS28 : True ∧ CellsL V21 (w.heap.size) 0 [.float .f64 t0, .float .f64 t1, .float .f64 t2] := ⟨trivial, (kb K24 D27).cellsL 0 [.float .f64 t0, .float .f64 t1, .float .f64 t2] rfl⟩
 refine hK _ _ hS28 ?_
 clear hK K hS19
 refine wpAnyH_done (by kernel_rfl) ?_ _
 clear hS28
 go_wp2_with fail
 (try simp only [Exit.inBlock, Exit.then])
 exact bodyPost_ret (res_c rfl _ _ (w.heap.size + 1) #[.float .f64 p0.lo, .float .f64 p0.hi, .float .f64 p1.lo, .float .f64 p1.hi, .float .f64 p2.lo, .float .f64 p2.hi] rfl (kb K25 D27) (by rw [info_V3]; rfl) Tryz.underlying26 rfl) rfl ⟨rfl, below_step HB26.out D27.out⟩
end Go.Proofs.YtnljfcebmgifdaaGreat
