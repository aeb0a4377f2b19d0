/- Shaken: Sa Gd Ge Gf Yd Tb Yf Bs1 Bs3. -/
import Derived.Test.YtnljfcebmgifdaaZRacdef
import Derived.Test.YtnljfcebmgifdaaZTb
import Derived.Test.YtnljfcebmgifdaaZYe
set_option maxRecDepth 100000
set_option maxHeartbeats 8000000
set_option linter.unusedVariables false
set_option linter.unusedSimpArgs false
namespace Go.Proofs.Ytnljfcebmgifdaa
open Go.RowKit
theorem less_any (a b c d : Nat) (p q : Bool) (h1 : (FloatKind.f64.format.order b c == some .lt) = p) (h2 : (FloatKind.f64.format.order a d == some .gt || FloatKind.f64.format.order a d == some .eq) = q) (w : World) : Calls Try.prog 125 #[.agg #[.float .f64 a, .float .f64 b], .agg #[.float .f64 c, .float .f64 d]] w fun r w' => r = .returned (.int .i64 (if p then 1 else if q then 0 else 2)) ∧ ∃ o o', w' = (w.alloc o).alloc o' := by
 cases p
 · cases q
   all_goals (go_enter Try.func125, Try.ntmps125; go_wp2_with fail; go_ret; exact ⟨rfl, _, _, rfl⟩)
 · go_enter Try.func125, Try.ntmps125
   go_wp2_with fail
   go_ret
   exact ⟨rfl, _, _, rfl⟩
end Go.Proofs.Ytnljfcebmgifdaa
set_option linter.unusedVariables false
set_option linter.unusedSimpArgs false
namespace Go.Proofs.Ytnljfcebmgifdaa
open Fl
end Go.Proofs.Ytnljfcebmgifdaa
namespace Go.Proofs.Ytnljfcebmgifdaa
open Fl
end Go.Proofs.Ytnljfcebmgifdaa
namespace Go.Proofs.Ytnljfcebmgifdaa
open Fl
end Go.Proofs.Ytnljfcebmgifdaa
namespace Go.Proofs.Ytnljfcebmgifdaa
open Fl
def lessS (a b : Sp) : Nat := if Z a.hi < Z b.lo then 1 else if Z b.hi ≤ Z a.lo then 0 else 2
end Go.Proofs.Ytnljfcebmgifdaa
namespace Go.Proofs.Ytnljfcebmgifdaa
open Fl Ieee
end Go.Proofs.Ytnljfcebmgifdaa
set_option linter.unusedVariables false
set_option linter.unusedSimpArgs false
namespace Go.Proofs.Ytnljfcebmgifdaa
end Go.Proofs.Ytnljfcebmgifdaa
namespace Go.Proofs.Ytnljfcebmgifdaa
open Go.RowKit
end Go.Proofs.Ytnljfcebmgifdaa
namespace Go.Proofs.Ytnljfcebmgifdaa
open Go.RowKit Fl
theorem vdB_of {a b : Nat} (h : Vd a b) : vdB a b = true := by
 unfold vdB
 simp only [Bool.and_eq_true, bne_iff_ne, ne_eq]
 exact ⟨⟨⟨⟨by rw [leF_gd h.l h.h]; exact decide_eq_true h.le, h.li⟩, h.hi⟩, h.l.nz⟩, h.h.nz⟩
end Go.Proofs.Ytnljfcebmgifdaa
namespace Go.Proofs.Ytnljfcebmgifdaa
open Go.RowKit Fl
end Go.Proofs.Ytnljfcebmgifdaa
namespace Go.Proofs.Ytnljfcebmgifdaa
open Go.RowKit Fl
end Go.Proofs.Ytnljfcebmgifdaa
namespace Go.Proofs.Ytnljfcebmgifdaa
open Go.RowKit Fl
end Go.Proofs.Ytnljfcebmgifdaa
set_option linter.unusedVariables false
set_option linter.unusedSimpArgs false
namespace Go.Proofs.Ytnljfcebmgifdaa
open Go.RowKit Fl
end Go.Proofs.Ytnljfcebmgifdaa
namespace Go.Proofs.Ytnljfcebmgifdaa
open Go.RowKit Fl
theorem less_sp (a b : Sp) (w : World) : Calls Try.prog 125 #[.agg #[.float .f64 a.lo, .float .f64 a.hi], .agg #[.float .f64 b.lo, .float .f64 b.hi]] w fun r w' => r = .returned (.int .i64 (lessS a b : Nat)) ∧ Below w.heap.size w w' := by
 refine (less_any a.lo a.hi b.lo b.hi _ _ (ltb a.vd.h b.vd.l) (geb a.vd.l b.vd.h) w).mono ?_
 rintro _ _ ⟨rfl, o, o', rfl⟩
 refine ⟨?_, below_new2 w o o'⟩
 unfold lessS
 by_cases h1 : Z a.hi < Z b.lo
 · simp [h1]
 · by_cases h2 : Z b.hi ≤ Z a.lo <;> simp [h1, h2]
end Go.Proofs.Ytnljfcebmgifdaa
namespace Go.Proofs.Ytnljfcebmgifdaa
open Go.RowKit Fl
end Go.Proofs.Ytnljfcebmgifdaa
namespace Go.Proofs.Ytnljfcebmgifdaa
open Go.RowKit Fl
end Go.Proofs.Ytnljfcebmgifdaa
namespace Go.Proofs.Ytnljfcebmgifdaa
open Go.RowKit Fl
end Go.Proofs.Ytnljfcebmgifdaa
namespace Go.Proofs.Ytnljfcebmgifdaa
open Go.RowKit Fl
end Go.Proofs.Ytnljfcebmgifdaa
set_option linter.unusedVariables false
set_option linter.unusedSimpArgs false
namespace Go.Proofs.Ytnljfcebmgifdaa
open Fl
theorem eq00 : (FloatKind.f64.format.order 0 0 == some .eq) = true := order_self gd0
theorem isZW00 : isZW 0 0 = true := by unfold isZW; rw [eq00]; rfl
end Go.Proofs.Ytnljfcebmgifdaa
set_option linter.unusedVariables false
set_option linter.unusedSimpArgs false
namespace Go.Proofs.Ytnljfcebmgifdaa
open Go.RowKit Fl
theorem each_sub (a b : V3) (w : World) : Calls Try.prog 83 #[Value.agg #[.float .f64 a.x.lo, .float .f64 a.x.hi, .float .f64 a.y.lo, .float .f64 a.y.hi, .float .f64 a.z.lo, .float .f64 a.z.hi], Value.agg #[.float .f64 b.x.lo, .float .f64 b.x.hi, .float .f64 b.y.lo, .float .f64 b.y.hi, .float .f64 b.z.lo, .float .f64 b.z.hi], Value.func (Fn.func 76) #[] #[]] w fun r w' => r = .returned (vval (vSub a b)) ∧ Below w.heap.size w w' := by
 have C0 := Lib.hid (fun w => sub_sp a.x b.x w)
 obtain ⟨p0, hp0⟩ : ∃ z_, subS a.x b.x = z_ := ⟨_, rfl⟩
 rw [hp0] at C0
 have C1 := Lib.hid (fun w => sub_sp a.y b.y w)
 obtain ⟨p1, hp1⟩ : ∃ z_, subS a.y b.y = z_ := ⟨_, rfl⟩
 rw [hp1] at C1
 have C2 := Lib.hid (fun w => sub_sp a.z b.z w)
 obtain ⟨p2, hp2⟩ : ∃ z_, subS a.z b.z = z_ := ⟨_, rfl⟩
 rw [hp2] at C2
 have hT : vSub a b = (⟨p0, p1, p2⟩ : V3) := by
   subst hp0 hp1 hp2; rfl
 rw [hT]
 clear hT
 clear hp0 hp1 hp2
 go_enter Try.func83, Try.ntmps83
 go_wp2_with fail
 obtain ⟨W, hW, K0, K1, K2, K3, hB, hz⟩ := bx4 w 30 30 30 30 (vc a) (vc b) #[.float .f64 0, .float .f64 0, .float .f64 0, .float .f64 0, .float .f64 0, .float .f64 0] #[.float .f64 0, .float .f64 0, .float .f64 0, .float .f64 0, .float .f64 0, .float .f64 0]
 rw [← hW]
 have K0 := Lib.hid K0
 have K1 := Lib.hid K1
 have K2 := Lib.hid K2
 have K3 := Lib.hid K3
 have HB := Lib.hid hB
 clear hW hB hz
 have D1 := dr W
 go_wp2_with fail
 refine wp_loop_rounds 4 ?_
 rw [rounds_succ]
 go_wp2_with fail
 refine wp_region_held (S := (fun w' => True ∧ CellsL w' (w.heap.size) 0 [.float .f64 a.x.lo, .float .f64 a.x.hi] ∧ CellsL w' (w.heap.size + 1) 0 [.float .f64 b.x.lo, .float .f64 b.x.hi])) (by kernel_rfl) ?_
 change wpAnyH _ _ _ _ _ _ _ _ (World.drew _)
 obtain ⟨wd2, hwd⟩ : ∃ x, x = World.drew W := ⟨_, rfl⟩
 rw [← hwd]
 have D3 := Lib.hid (hwd ▸ Below.drew D1.out : Below W.heap.size W wd2)
 clear D1 hwd
 have hS4 : True ∧ CellsL wd2 (w.heap.size) 0 [.float .f64 a.x.lo, .float .f64 a.x.hi] ∧ CellsL wd2 (w.heap.size + 1) 0 [.float .f64 b.x.lo, .float .f64 b.x.hi] := ⟨trivial, (kb K0 D3).cellsL 0 [.float .f64 a.x.lo, .float .f64 a.x.hi] rfl, (kb K1 D3).cellsL 0 [.float .f64 b.x.lo, .float .f64 b.x.hi] rfl⟩
 refine tkq 0 (bm 11 1) hS4 ?_
 refine tkq 1 (bm 11 3) hS4 ?_
 refine tkq 2 (bm 11 7) hS4 ?_
 refine tkq 3 (bm 11 15) hS4 ?_
 refine tke 4 (bm 11 31) hS4 ?_
 refine tkq 5 (bm 11 63) hS4 ?_
 refine tkq 6 (bm 11 127) hS4 ?_
 refine tke 7 (bm 11 255) hS4 ?_
 refine wpAnyH_oneN (i := 8) (l' := bm 11 511) rfl (by kernel_rfl) (by kernel_rfl) (by kernel_rfl) (fun K hK => ?_)
 go_simp
 go_at_call 76
 refine (C0.out _).mono ?_
 rintro r w13 ⟨rfl, hb⟩
 dsimp only
 have D14 := ds D3 hb
 clear D3
 clear hb
 have hS15 : True ∧ CellsL w13 (w.heap.size) 0 [.float .f64 a.x.lo, .float .f64 a.x.hi] ∧ CellsL w13 (w.heap.size + 1) 0 [.float .f64 b.x.lo, .float .f64 b.x.hi] := ⟨trivial, (kb K0 D14).cellsL 0 [.float .f64 a.x.lo, .float .f64 a.x.hi] rfl, (kb K1 D14).cellsL 0 [.float .f64 b.x.lo, .float .f64 b.x.hi] rfl⟩
 refine hK _ _ hS15 ?_
 clear hK K hS4
 refine tkq 9 (bm 11 1023) hS15 ?_
 refine wpAnyH_oneN (i := 10) (l' := bm 11 2047) rfl (by kernel_rfl) (by kernel_rfl) (by kernel_rfl) (fun K hK => ?_)
 have f19 := (kb K3 D14).cellsL 0 [.float .f64 0, .float .f64 0] rfl
 dsimp only [CellsL, al, vl, Nat.reduceAdd] at f19
 have u20 := (kb K3 D14).unfrozen
 obtain ⟨V17, hV18⟩ : ∃ V, setCells w13 (w.heap.size + 1 + 1 + 1) 0 [.float .f64 p0.lo, .float .f64 p0.hi] = V := ⟨_, rfl⟩
 have hv21 := hV18
 simp only [setCells, Nat.reduceAdd] at hv21
 have K22 := kf hV18 K0 D14 (by omega)
 have K23 := kf hV18 K1 D14 (by omega)
 have K24 := kf hV18 K2 D14 (by omega)
 have K25 := Lib.hid (show Blk V17 (w.heap.size + 1 + 1 + 1) 30 #[.float .f64 p0.lo, .float .f64 p0.hi, .float .f64 0, .float .f64 0, .float .f64 0, .float .f64 0] from (ks hV18 K3 D14).out)
 have HB26 := hbs hV18 HB D14 (by omega)
 have D27 := dr V17
 clear K0 K1 K2 K3 HB D14
 go_simp
 clear hV18 f19 u20 hv21
 have hS28 : True ∧ CellsL V17 (w.heap.size) 0 [.float .f64 a.x.lo, .float .f64 a.x.hi] ∧ CellsL V17 (w.heap.size + 1) 0 [.float .f64 b.x.lo, .float .f64 b.x.hi] := ⟨trivial, (kb K22 D27).cellsL 0 [.float .f64 a.x.lo, .float .f64 a.x.hi] rfl, (kb K23 D27).cellsL 0 [.float .f64 b.x.lo, .float .f64 b.x.hi] rfl⟩
 refine hK _ _ hS28 ?_
 clear hK K hS15
 refine wpAnyH_done (by kernel_rfl) ?_ _
 clear hS28
 go_wp2_with fail
 rw [rounds_succ]
 go_wp2_with fail
 refine wp_region_held (S := (fun w' => True ∧ CellsL w' (w.heap.size) 2 [.float .f64 a.y.lo, .float .f64 a.y.hi] ∧ CellsL w' (w.heap.size + 1) 2 [.float .f64 b.y.lo, .float .f64 b.y.hi])) (by kernel_rfl) ?_
 change wpAnyH _ _ _ _ _ _ _ _ (World.drew _)
 obtain ⟨wd29, hwd⟩ : ∃ x, x = World.drew V17 := ⟨_, rfl⟩
 rw [← hwd]
 have D30 := Lib.hid (hwd ▸ Below.drew D27.out : Below V17.heap.size V17 wd29)
 clear D27 hwd
 have hS31 : True ∧ CellsL wd29 (w.heap.size) 2 [.float .f64 a.y.lo, .float .f64 a.y.hi] ∧ CellsL wd29 (w.heap.size + 1) 2 [.float .f64 b.y.lo, .float .f64 b.y.hi] := ⟨trivial, (kb K22 D30).cellsL 2 [.float .f64 a.y.lo, .float .f64 a.y.hi] rfl, (kb K23 D30).cellsL 2 [.float .f64 b.y.lo, .float .f64 b.y.hi] rfl⟩
 refine tkq 0 (bm 11 1) hS31 ?_
 refine tkq 1 (bm 11 3) hS31 ?_
 refine tkq 2 (bm 11 7) hS31 ?_
 refine tkq 3 (bm 11 15) hS31 ?_
 refine tke 4 (bm 11 31) hS31 ?_
 refine tkq 5 (bm 11 63) hS31 ?_
 refine tkq 6 (bm 11 127) hS31 ?_
 refine tke 7 (bm 11 255) hS31 ?_
 refine wpAnyH_oneN (i := 8) (l' := bm 11 511) rfl (by kernel_rfl) (by kernel_rfl) (by kernel_rfl) (fun K hK => ?_)
 go_simp
 go_at_call 76
 refine (C1.out _).mono ?_
 rintro r w40 ⟨rfl, hb⟩
 dsimp only
 have D41 := ds D30 hb
 clear D30
 clear hb
 have hS42 : True ∧ CellsL w40 (w.heap.size) 2 [.float .f64 a.y.lo, .float .f64 a.y.hi] ∧ CellsL w40 (w.heap.size + 1) 2 [.float .f64 b.y.lo, .float .f64 b.y.hi] := ⟨trivial, (kb K22 D41).cellsL 2 [.float .f64 a.y.lo, .float .f64 a.y.hi] rfl, (kb K23 D41).cellsL 2 [.float .f64 b.y.lo, .float .f64 b.y.hi] rfl⟩
 refine hK _ _ hS42 ?_
 clear hK K hS31
 refine tkq 9 (bm 11 1023) hS42 ?_
 refine wpAnyH_oneN (i := 10) (l' := bm 11 2047) rfl (by kernel_rfl) (by kernel_rfl) (by kernel_rfl) (fun K hK => ?_)
 have f46 := (kb K25 D41).cellsL 2 [.float .f64 0, .float .f64 0] rfl
 dsimp only [CellsL, al, vl, Nat.reduceAdd] at f46
 have u47 := (kb K25 D41).unfrozen
 obtain ⟨V44, hV45⟩ : ∃ V, setCells w40 (w.heap.size + 1 + 1 + 1) 2 [.float .f64 p1.lo, .float .f64 p1.hi] = V := ⟨_, rfl⟩
 have hv48 := hV45
 simp only [setCells, Nat.reduceAdd] at hv48
 have K49 := kf hV45 K22 D41 (by omega)
 have K50 := kf hV45 K23 D41 (by omega)
 have K51 := kf hV45 K24 D41 (by omega)
 have K52 := Lib.hid (show Blk V44 (w.heap.size + 1 + 1 + 1) 30 #[.float .f64 p0.lo, .float .f64 p0.hi, .float .f64 p1.lo, .float .f64 p1.hi, .float .f64 0, .float .f64 0] from (ks hV45 K25 D41).out)
 have HB53 := hbs hV45 HB26 D41 (by omega)
 have D54 := dr V44
 clear K22 K23 K24 K25 HB26 D41
 go_simp
 clear hV45 f46 u47 hv48
 have hS55 : True ∧ CellsL V44 (w.heap.size) 2 [.float .f64 a.y.lo, .float .f64 a.y.hi] ∧ CellsL V44 (w.heap.size + 1) 2 [.float .f64 b.y.lo, .float .f64 b.y.hi] := ⟨trivial, (kb K49 D54).cellsL 2 [.float .f64 a.y.lo, .float .f64 a.y.hi] rfl, (kb K50 D54).cellsL 2 [.float .f64 b.y.lo, .float .f64 b.y.hi] rfl⟩
 refine hK _ _ hS55 ?_
 clear hK K hS42
 refine wpAnyH_done (by kernel_rfl) ?_ _
 clear hS55
 go_wp2_with fail
 rw [rounds_succ]
 go_wp2_with fail
 refine wp_region_held (S := (fun w' => True ∧ CellsL w' (w.heap.size) 4 [.float .f64 a.z.lo, .float .f64 a.z.hi] ∧ CellsL w' (w.heap.size + 1) 4 [.float .f64 b.z.lo, .float .f64 b.z.hi])) (by kernel_rfl) ?_
 change wpAnyH _ _ _ _ _ _ _ _ (World.drew _)
 obtain ⟨wd56, hwd⟩ : ∃ x, x = World.drew V44 := ⟨_, rfl⟩
 rw [← hwd]
 have D57 := Lib.hid (hwd ▸ Below.drew D54.out : Below V44.heap.size V44 wd56)
 clear D54 hwd
 have hS58 : True ∧ CellsL wd56 (w.heap.size) 4 [.float .f64 a.z.lo, .float .f64 a.z.hi] ∧ CellsL wd56 (w.heap.size + 1) 4 [.float .f64 b.z.lo, .float .f64 b.z.hi] := ⟨trivial, (kb K49 D57).cellsL 4 [.float .f64 a.z.lo, .float .f64 a.z.hi] rfl, (kb K50 D57).cellsL 4 [.float .f64 b.z.lo, .float .f64 b.z.hi] rfl⟩
 refine tkq 0 (bm 11 1) hS58 ?_
 refine tkq 1 (bm 11 3) hS58 ?_
 refine tkq 2 (bm 11 7) hS58 ?_
 refine tkq 3 (bm 11 15) hS58 ?_
 refine tke 4 (bm 11 31) hS58 ?_
 refine tkq 5 (bm 11 63) hS58 ?_
 refine tkq 6 (bm 11 127) hS58 ?_
 refine tke 7 (bm 11 255) hS58 ?_
 refine wpAnyH_oneN (i := 8) (l' := bm 11 511) rfl (by kernel_rfl) (by kernel_rfl) (by kernel_rfl) (fun K hK => ?_)
 go_simp
 go_at_call 76
 refine (C2.out _).mono ?_
 rintro r w67 ⟨rfl, hb⟩
 dsimp only
 have D68 := ds D57 hb
 clear D57
 clear hb
 have hS69 : True ∧ CellsL w67 (w.heap.size) 4 [.float .f64 a.z.lo, .float .f64 a.z.hi] ∧ CellsL w67 (w.heap.size + 1) 4 [.float .f64 b.z.lo, .float .f64 b.z.hi] := ⟨trivial, (kb K49 D68).cellsL 4 [.float .f64 a.z.lo, .float .f64 a.z.hi] rfl, (kb K50 D68).cellsL 4 [.float .f64 b.z.lo, .float .f64 b.z.hi] rfl⟩
 refine hK _ _ hS69 ?_
 clear hK K hS58
 refine tkq 9 (bm 11 1023) hS69 ?_
 refine wpAnyH_oneN (i := 10) (l' := bm 11 2047) rfl (by kernel_rfl) (by kernel_rfl) (by kernel_rfl) (fun K hK => ?_)
 have f73 := (kb K52 D68).cellsL 4 [.float .f64 0, .float .f64 0] rfl
 dsimp only [CellsL, al, vl, Nat.reduceAdd] at f73
 have u74 := (kb K52 D68).unfrozen
 obtain ⟨V71, hV72⟩ : ∃ V, setCells w67 (w.heap.size + 1 + 1 + 1) 4 [.float .f64 p2.lo, .float .f64 p2.hi] = V := ⟨_, rfl⟩
 have hv75 := hV72
 simp only [setCells, Nat.reduceAdd] at hv75
 have K76 := kf hV72 K49 D68 (by omega)
 have K77 := kf hV72 K50 D68 (by omega)
 have K78 := kf hV72 K51 D68 (by omega)
 have K79 := Lib.hid (show Blk V71 (w.heap.size + 1 + 1 + 1) 30 #[.float .f64 p0.lo, .float .f64 p0.hi, .float .f64 p1.lo, .float .f64 p1.hi, .float .f64 p2.lo, .float .f64 p2.hi] from (ks hV72 K52 D68).out)
 have HB80 := hbs hV72 HB53 D68 (by omega)
 have D81 := dr V71
 clear K49 K50 K51 K52 HB53 D68
 go_simp
 clear hV72 f73 u74 hv75
 have hS82 : True ∧ CellsL V71 (w.heap.size) 4 [.float .f64 a.z.lo, .float .f64 a.z.hi] ∧ CellsL V71 (w.heap.size + 1) 4 [.float .f64 b.z.lo, .float .f64 b.z.hi] := ⟨trivial, (kb K76 D81).cellsL 4 [.float .f64 a.z.lo, .float .f64 a.z.hi] rfl, (kb K77 D81).cellsL 4 [.float .f64 b.z.lo, .float .f64 b.z.hi] rfl⟩
 refine hK _ _ hS82 ?_
 clear hK K hS69
 refine wpAnyH_done (by kernel_rfl) ?_ _
 clear hS82
 go_wp2_with fail
 rw [rounds_succ]
 have f83 := (kb K79 D81)
 have f86 := (kb K78 D81)
 obtain ⟨V84, hV85⟩ : ∃ V, World.setRow V71 (w.heap.size + 1 + 1) #[.float .f64 p0.lo, .float .f64 p0.hi, .float .f64 p1.lo, .float .f64 p1.hi, .float .f64 p2.lo, .float .f64 p2.hi] = V := ⟨_, rfl⟩
 have K87 := kfr hV85 K76 D81 (by omega)
 have K88 := kfr hV85 K77 D81 (by omega)
 have K89 := ksr hV85 K78 D81
 have K90 := kfr hV85 K79 D81 (by omega)
 have HB91 := hbr hV85 HB80 D81 (by omega)
 have D92 := dr V84
 clear K76 K77 K78 K79 HB80 D81
 go_wp2_with (first | (refine wpList_store_row rfl 30 _ _ rfl (w.heap.size + 1 + 1) #[.float .f64 p0.lo, .float .f64 p0.hi, .float .f64 p1.lo, .float .f64 p1.hi, .float .f64 p2.lo, .float .f64 p2.hi] rfl rfl _ _ f86 (by rw [info_V3]; rfl) rfl (by kernel_rfl) ?_; rw [hV85]) | (refine wl_load (by kernel_rfl) rfl rfl f83 (by rw [info_V3]; rfl) Try.underlying30 rfl ?_))
 clear f83 hV85 f86
 (try simp only [Exit.inBlock, Exit.then])
 exact bodyPost_ret (res_c rfl _ _ (w.heap.size + 1 + 1) #[.float .f64 p0.lo, .float .f64 p0.hi, .float .f64 p1.lo, .float .f64 p1.hi, .float .f64 p2.lo, .float .f64 p2.hi] rfl (kb K89 D92) (by rw [info_V3]; rfl) Try.underlying30 rfl) rfl ⟨rfl, below_step HB91.out D92.out⟩
theorem vSub_any (a b : V3) (w : World) : Calls Try.prog 38 #[Value.agg #[.float .f64 a.x.lo, .float .f64 a.x.hi, .float .f64 a.y.lo, .float .f64 a.y.hi, .float .f64 a.z.lo, .float .f64 a.z.hi], Value.agg #[.float .f64 b.x.lo, .float .f64 b.x.hi, .float .f64 b.y.lo, .float .f64 b.y.hi, .float .f64 b.z.lo, .float .f64 b.z.hi]] w fun r w' => r = .returned (vval (vSub a b)) ∧ Below w.heap.size w w' := by
 have C0 := Lib.hid (fun w => each_sub a b w)
 obtain ⟨p0, hp0⟩ : ∃ z_, vSub a b = z_ := ⟨_, rfl⟩
 rw [hp0] at C0
 have hT : vSub a b = p0 := by
   subst hp0; rfl
 rw [hT]
 clear hT
 clear hp0
 go_enter Try.func38, Try.ntmps38
 go_wp2_with (first | (refine wl_load (by kernel_rfl) rfl rfl (((Blk.new_at _ _ _ rfl).alloc _).alloc _) (by rw [info_V3]; rfl) Try.underlying30 rfl ?_) | (refine wl_load (by kernel_rfl) rfl rfl ((Blk.new_at _ _ _ (by simp)).alloc _) (by rw [info_V3]; rfl) Try.underlying30 rfl ?_))
 obtain ⟨W, hW, K0, K1, K2, hB, hz⟩ := bx3 w 30 30 30 (vc a) (vc b) #[.float .f64 0, .float .f64 0, .float .f64 0, .float .f64 0, .float .f64 0, .float .f64 0]
 rw [← hW]
 have K0 := Lib.hid K0
 have K1 := Lib.hid K1
 have K2 := Lib.hid K2
 have HB := Lib.hid hB
 clear hW hB hz
 have D1 := dr W
 refine (C0.out _).mono ?_
 rintro r w2 ⟨rfl, hb⟩
 have D3 := ds D1 hb
 clear D1
 clear hb
 have f6 := (kb K2 D3)
 obtain ⟨V4, hV5⟩ : ∃ V, World.setRow w2 (w.heap.size + 1 + 1) (vc p0) = V := ⟨_, rfl⟩
 have K7 := kfr hV5 K0 D3 (by omega)
 have K8 := kfr hV5 K1 D3 (by omega)
 have K9 := ksr hV5 K2 D3
 have HB10 := hbr hV5 HB D3 (by omega)
 have D11 := dr V4
 clear K0 K1 K2 HB D3
 go_wp2_with (refine wpList_store_row rfl 30 _ _ rfl (w.heap.size + 1 + 1) (vc p0) rfl rfl _ _ f6 (by rw [info_V3]; rfl) rfl (by kernel_rfl) ?_; rw [hV5])
 clear hV5 f6
 (try simp only [Exit.inBlock, Exit.then])
 exact bodyPost_ret (res_c rfl _ _ (w.heap.size + 1 + 1) (vc p0) rfl (kb K9 D11) (by rw [info_V3]; rfl) Try.underlying30 rfl) rfl ⟨rfl, below_step HB10.out D11.out⟩
theorem scaleV_any (a : V3) (s : Sp) (w : World) : Calls Try.prog 89 #[Value.agg #[.float .f64 a.x.lo, .float .f64 a.x.hi, .float .f64 a.y.lo, .float .f64 a.y.hi, .float .f64 a.z.lo, .float .f64 a.z.hi], Value.agg #[.float .f64 s.lo, .float .f64 s.hi]] w fun r w' => r = .returned (vval (vMul a ⟨s, s, s⟩)) ∧ Below w.heap.size w w' := by
 have C0 := Lib.hid (fun w => vMul_any a (⟨s, s, s⟩ : V3) w)
 obtain ⟨p0, hp0⟩ : ∃ z_, vMul a (⟨s, s, s⟩ : V3) = z_ := ⟨_, rfl⟩
 rw [hp0] at C0
 have hT : vMul a ⟨s, s, s⟩ = p0 := by
   subst hp0; rfl
 rw [hT]
 clear hT
 clear hp0
 go_enter Try.func89, Try.ntmps89
 go_wp2_with (refine wl_load (by kernel_rfl) rfl rfl (((Blk.new_at _ _ _ rfl).alloc _).alloc _) (by rw [info_V3]; rfl) Try.underlying30 rfl ?_)
 obtain ⟨W, hW, K0, K1, K2, hB, hz⟩ := bx3 w 30 28 30 (vc a) #[.float .f64 s.lo, .float .f64 s.hi] #[.float .f64 0, .float .f64 0, .float .f64 0, .float .f64 0, .float .f64 0, .float .f64 0]
 rw [← hW]
 have K0 := Lib.hid K0
 have K1 := Lib.hid K1
 have K2 := Lib.hid K2
 have HB := Lib.hid hB
 clear hW hB hz
 have D1 := dr W
 refine (C0.out _).mono ?_
 rintro r w2 ⟨rfl, hb⟩
 have D3 := ds D1 hb
 clear D1
 clear hb
 have f6 := (kb K2 D3)
 obtain ⟨V4, hV5⟩ : ∃ V, World.setRow w2 (w.heap.size + 1 + 1) (vc p0) = V := ⟨_, rfl⟩
 have K7 := kfr hV5 K0 D3 (by omega)
 have K8 := kfr hV5 K1 D3 (by omega)
 have K9 := ksr hV5 K2 D3
 have HB10 := hbr hV5 HB D3 (by omega)
 have D11 := dr V4
 clear K0 K1 K2 HB D3
 go_wp2_with (refine wpList_store_row rfl 30 _ _ rfl (w.heap.size + 1 + 1) (vc p0) rfl rfl _ _ f6 (by rw [info_V3]; rfl) rfl (by kernel_rfl) ?_; rw [hV5])
 clear hV5 f6
 (try simp only [Exit.inBlock, Exit.then])
 exact bodyPost_ret (res_c rfl _ _ (w.heap.size + 1 + 1) (vc p0) rfl (kb K9 D11) (by rw [info_V3]; rfl) Try.underlying30 rfl) rfl ⟨rfl, below_step HB10.out D11.out⟩
end Go.Proofs.Ytnljfcebmgifdaa
set_option linter.unusedVariables false
set_option linter.unusedSimpArgs false
namespace Go.Proofs.Ytnljfcebmgifdaa
open Fl
abbrev W2 : Nat := 4611686018427387904
noncomputable def bdK (n d : V3) : Sp := mulS (ofS W2) (vDot n d)
noncomputable def bdMir (n d : V3) : V3 := vSub d (vMul n ⟨bdK n d, bdK n d, bdK n d⟩)
theorem InV.sub {x y z p q r : Rat} {a b : V3} (h : InV x y z a) (k : InV p q r b) : InV (x - p) (y - q) (z - r) (vSub a b) := ⟨in_sub h.x k.x, in_sub h.y k.y, in_sub h.z k.z⟩
end Go.Proofs.Ytnljfcebmgifdaa
set_option linter.unusedVariables false
set_option linter.unusedSimpArgs false
namespace Go.Proofs.Ytnljfcebmgifdaa
open Go.RowKit Fl
theorem mirV_any (n d : V3) (w : World) : Calls Try.prog 48 #[Value.agg #[.float .f64 n.x.lo, .float .f64 n.x.hi, .float .f64 n.y.lo, .float .f64 n.y.hi, .float .f64 n.z.lo, .float .f64 n.z.hi], Value.agg #[.float .f64 d.x.lo, .float .f64 d.x.hi, .float .f64 d.y.lo, .float .f64 d.y.hi, .float .f64 d.z.lo, .float .f64 d.z.hi]] w fun r w' => r = .returned (vval (bdMir n d)) ∧ Below w.heap.size w w' := by
 have C0 := Lib.hid (fun w => of_sp 4611686018427387904 (by decide) w)
 obtain ⟨p0, hp0⟩ : ∃ z_, ofS 4611686018427387904 = z_ := ⟨_, rfl⟩
 rw [hp0] at C0
 have C1 := Lib.hid (fun w => dotV_any n d w)
 obtain ⟨p1, hp1⟩ : ∃ z_, vDot n d = z_ := ⟨_, rfl⟩
 rw [hp1] at C1
 have C2 := Lib.hid (fun w => mul_sp p0 p1 w)
 obtain ⟨p2, hp2⟩ : ∃ z_, mulS p0 p1 = z_ := ⟨_, rfl⟩
 rw [hp2] at C2
 have C3 := Lib.hid (fun w => scaleV_any n p2 w)
 obtain ⟨p3, hp3⟩ : ∃ z_, vMul n ⟨p2, p2, p2⟩ = z_ := ⟨_, rfl⟩
 rw [hp3] at C3
 have C4 := Lib.hid (fun w => vSub_any d p3 w)
 obtain ⟨p4, hp4⟩ : ∃ z_, vSub d p3 = z_ := ⟨_, rfl⟩
 rw [hp4] at C4
 have hT : bdMir n d = p4 := by
   subst hp0 hp1 hp2 hp3 hp4; rfl
 rw [hT]
 clear hT
 clear hp0 hp1 hp2 hp3 hp4
 go_enter Try.func48, Try.ntmps48
 go_wp2_with fail
 obtain ⟨W, hW, K0, K1, K2, hB, hz⟩ := bx3 w 30 30 30 (vc n) (vc d) #[.float .f64 0, .float .f64 0, .float .f64 0, .float .f64 0, .float .f64 0, .float .f64 0]
 rw [← hW]
 have K0 := Lib.hid K0
 have K1 := Lib.hid K1
 have K2 := Lib.hid K2
 have HB := Lib.hid hB
 clear hW hB hz
 have D1 := dr W
 refine wp_region_held (S := (fun w' => True ∧ Blk w' (w.heap.size) 30 (vc n) ∧ Blk w' (w.heap.size + 1) 30 (vc d))) (by kernel_rfl) ?_
 change wpAnyH _ _ _ _ _ _ _ _ (World.drew _)
 obtain ⟨wd2, hwd⟩ : ∃ x, x = World.drew W := ⟨_, rfl⟩
 rw [← hwd]
 have D3 := Lib.hid (hwd ▸ Below.drew D1.out : Below W.heap.size W wd2)
 clear D1 hwd
 have hS4 : True ∧ Blk wd2 (w.heap.size) 30 (vc n) ∧ Blk wd2 (w.heap.size + 1) 30 (vc d) := ⟨trivial, (kb K0 D3), (kb K1 D3)⟩
 refine tkL 0 (bm 10 1) ?aq5 rfl (by kernel_rfl) (fun _ _ _ h => h) (by kernel_rfl) rfl rfl (fun _ hS => hS.2.2) (by rw [info_V3]; rfl) Try.underlying30 rfl ?pq5 hS4 ?rq5
 case pq5 => (go_simp; try with_reducible rfl)
 refine tkL 1 (bm 10 3) ?aq6 rfl (by kernel_rfl) (fun _ _ _ h => h) (by kernel_rfl) rfl rfl (fun _ hS => hS.2.1) (by rw [info_V3]; rfl) Try.underlying30 rfl ?pq6 hS4 ?rq6
 case pq6 => (go_simp; try with_reducible rfl)
 refine tkL 3 (bm 10 11) ?aq7 rfl (by kernel_rfl) (fun _ _ _ h => h) (by kernel_rfl) rfl rfl (fun _ hS => hS.2.1) (by rw [info_V3]; rfl) Try.underlying30 rfl ?pq7 hS4 ?rq7
 case pq7 => (go_simp; try with_reducible rfl)
 refine tkL 4 (bm 10 27) ?aq8 rfl (by kernel_rfl) (fun _ _ _ h => h) (by kernel_rfl) rfl rfl (fun _ hS => hS.2.2) (by rw [info_V3]; rfl) Try.underlying30 rfl ?pq8 hS4 ?rq8
 case pq8 => (go_simp; try with_reducible rfl)
 refine wpAnyH_oneN (i := 2) (l' := bm 10 31) rfl (by kernel_rfl) (by kernel_rfl) (by kernel_rfl) (fun K hK => ?_)
 go_simp
 go_at_call 64
 refine (C0.out _).mono ?_
 rintro r w9 ⟨rfl, hb⟩
 dsimp only
 have D10 := ds D3 hb
 clear D3
 clear hb
 have hS11 : True ∧ Blk w9 (w.heap.size) 30 (vc n) ∧ Blk w9 (w.heap.size + 1) 30 (vc d) := ⟨trivial, (kb K0 D10), (kb K1 D10)⟩
 refine hK _ _ hS11 ?_
 clear hK K hS4
 refine wpAnyH_oneN (i := 5) (l' := bm 10 63) rfl (by kernel_rfl) (by kernel_rfl) (by kernel_rfl) (fun K hK => ?_)
 go_simp
 go_at_call 29
 refine (C1.out _).mono ?_
 rintro r w12 ⟨rfl, hb⟩
 dsimp only
 have D13 := ds D10 hb
 clear D10
 clear hb
 have hS14 : True ∧ Blk w12 (w.heap.size) 30 (vc n) ∧ Blk w12 (w.heap.size + 1) 30 (vc d) := ⟨trivial, (kb K0 D13), (kb K1 D13)⟩
 refine hK _ _ hS14 ?_
 clear hK K hS11
 refine wpAnyH_oneN (i := 6) (l' := bm 10 127) rfl (by kernel_rfl) (by kernel_rfl) (by kernel_rfl) (fun K hK => ?_)
 go_simp
 go_at_call 77
 refine (C2.out _).mono ?_
 rintro r w15 ⟨rfl, hb⟩
 dsimp only
 have D16 := ds D13 hb
 clear D13
 clear hb
 have hS17 : True ∧ Blk w15 (w.heap.size) 30 (vc n) ∧ Blk w15 (w.heap.size + 1) 30 (vc d) := ⟨trivial, (kb K0 D16), (kb K1 D16)⟩
 refine hK _ _ hS17 ?_
 clear hK K hS14
 refine wpAnyH_oneN (i := 7) (l' := bm 10 255) rfl (by kernel_rfl) (by kernel_rfl) (by kernel_rfl) (fun K hK => ?_)
 go_simp
 go_at_call 89
 refine (C3.out _).mono ?_
 rintro r w18 ⟨rfl, hb⟩
 dsimp only
 have D19 := ds D16 hb
 clear D16
 clear hb
 have hS20 : True ∧ Blk w18 (w.heap.size) 30 (vc n) ∧ Blk w18 (w.heap.size + 1) 30 (vc d) := ⟨trivial, (kb K0 D19), (kb K1 D19)⟩
 refine hK _ _ hS20 ?_
 clear hK K hS17
 refine wpAnyH_oneN (i := 8) (l' := bm 10 511) rfl (by kernel_rfl) (by kernel_rfl) (by kernel_rfl) (fun K hK => ?_)
 go_simp
 go_at_call 38
 refine (C4.out _).mono ?_
 rintro r w21 ⟨rfl, hb⟩
 dsimp only
 have D22 := ds D19 hb
 clear D19
 clear hb
 have hS23 : True ∧ Blk w21 (w.heap.size) 30 (vc n) ∧ Blk w21 (w.heap.size + 1) 30 (vc d) := ⟨trivial, (kb K0 D22), (kb K1 D22)⟩
 refine hK _ _ hS23 ?_
 clear hK K hS20
 refine wpAnyH_oneN (i := 9) (l' := bm 10 1023) rfl (by kernel_rfl) (by kernel_rfl) (by kernel_rfl) (fun K hK => ?_)
 have f26 := (kb K2 D22)
 obtain ⟨V24, hV25⟩ : ∃ V, World.setRow w21 (w.heap.size + 1 + 1) (vc p4) = V := ⟨_, rfl⟩
 have K27 := kfr hV25 K0 D22 (by omega)
 have K28 := kfr hV25 K1 D22 (by omega)
 have K29 := ksr hV25 K2 D22
 have HB30 := hbr hV25 HB D22 (by omega)
 have D31 := dr V24
 clear K0 K1 K2 HB D22
 refine wp_store_row 30 _ _ rfl (w.heap.size + 1 + 1) (vc p4) rfl rfl _ _ f26 (by rw [info_V3]; rfl) rfl (by kernel_rfl) ?_
 rw [hV25]
 go_simp
 clear hV25 f26
 have hS32 : True ∧ Blk V24 (w.heap.size) 30 (vc n) ∧ Blk V24 (w.heap.size + 1) 30 (vc d) := ⟨trivial, (kb K27 D31), (kb K28 D31)⟩
 refine hK _ _ hS32 ?_
 clear hK K hS23
 refine wpAnyH_done (by kernel_rfl) ?_ _
 clear hS32
 go_wp2_with fail
 (try simp only [Exit.inBlock, Exit.then])
 exact bodyPost_ret (res_c rfl _ _ (w.heap.size + 1 + 1) (vc p4) rfl (kb K29 D31) (by rw [info_V3]; rfl) Try.underlying30 rfl) rfl ⟨rfl, below_step HB30.out D31.out⟩
end Go.Proofs.Ytnljfcebmgifdaa
set_option linter.unusedVariables false
set_option linter.unusedSimpArgs false
namespace Go.Proofs.Ytnljfcebmgifdaa
open Go.RowKit Fl
section
variable {fn : Func} {p q r s : Tmp} {ta tb : TypeId}
theorem res_cctt (h : fn.results = #[.cell p ta, .cell q tb, .tmp r, .tmp s]) (tmps : Array Value) (w : World) (g : Nat) (cs : Array Value) (g' : Nat) (cs' : Array Value) {t t' : TypeId} {d d' : TypeDesc}
   (hp : tmps.getD p undef = .pointer (some ⟨g, 0, none⟩)) (hg : Blk w g t cs) (hi : (Try.prog.info? ta).map (·.size) = some cs.size) (hu : Try.prog.underlying ta = some d) (hd : isRow d = true)
   (hp' : tmps.getD q undef = .pointer (some ⟨g', 0, none⟩)) (hg' : Blk w g' t' cs') (hi' : (Try.prog.info? tb).map (·.size) = some cs'.size) (hu' : Try.prog.underlying tb = some d') (hd' : isRow d' = true) :
   (results fn tmps).run Try.prog w = .ok (.tuple #[.agg cs, .agg cs', tmps.getD r undef, tmps.getD s undef]) w := by
 have e1 : tmps[p]?.getD undef = .pointer (some ⟨g, 0, none⟩) := by simpa using hp
 have e2 : tmps[q]?.getD undef = .pointer (some ⟨g', 0, none⟩) := by simpa using hp'
 simp [results, h, e1, e2, asAddr, run_row w g t ta cs d hg hu hd hi, run_row w g' t' tb cs' d' hg' hu' hd' hi']
end
theorem aw_mir : bdMir (vOf 0 0 4607182418800017408) (vOf 4607182418800017408 0 13830554455654793216) = vOf 4607182418800017408 0 4607182418800017408 := by refine V3.ext (Sp.ext ?_ ?_) (Sp.ext ?_ ?_) (Sp.ext ?_ ?_) <;> decide +kernel
theorem aw_less : lessS (addS (sqrS (ofS 0)) (sqrS (ofS 0))) (ofS 4607182418800017408) = 1 := by decide +kernel
theorem unit_half (w : World) : Calls Try.prog 124 #[.int .u32 2147483648] w fun e w' => e = .returned (.float .f64 4602678819172646912) ∧ Below w.heap.size w w' := by
 have hd : floatBits .quo .f64 (floatOfInt .f64 2147483648) 4751297606875873280 = some 4602678819172646912 := by decide +kernel
 have hr := fun (t : TypeId) (w : World) => run_float_arith (P := Try.prog) w .quo t .f64 _ _ _ hd
 clear hd
 go_enter Try.func124, Try.ntmps124
 go_wp2
 go_ret
 exact ⟨rfl, Below.refl _ w⟩
theorem disk_half (w : World) (g : Nat) (K : Blk w g 92 #[Value.int IntKind.u32 2147483648, Value.int IntKind.u32 2147483648]) : Calls Try.prog 87 #[Value.slice (some ⟨g, 0, none⟩) 2 2] w fun r w' => r = .returned (.tuple #[.agg #[.float .f64 (ofS 0).lo, .float .f64 (ofS 0).hi], .agg #[.float .f64 (ofS 0).lo, .float .f64 (ofS 0).hi], .int .i64 2, .int .i64 1]) ∧ Below w.heap.size w w' := by
 have w1_ : IntKind.wrap .i64 1 = 1 := by decide
 have dm : floatBits .mul .f64 4611686018427387904 4602678819172646912 = some 4607182418800017408 := by decide +kernel
 have ds_ : floatBits .sub .f64 4607182418800017408 4607182418800017408 = some 0 := by decide +kernel
 have rm := fun (t : TypeId) (w : World) => run_float_arith (P := Try.prog) w .mul t .f64 _ _ _ dm
 have rs_ := fun (t : TypeId) (w : World) => run_float_arith (P := Try.prog) w .sub t .f64 _ _ _ ds_
 clear dm ds_
 have C0 := Lib.hid (unit_half)
 have C1 := Lib.hid (unit_half)
 have C2 := Lib.hid (fun w => of_sp 0 (by decide) w)
 obtain ⟨p2, hp2⟩ : ∃ z_, ofS 0 = z_ := ⟨_, rfl⟩
 rw [hp2] at C2
 have C3 := Lib.hid (fun w => of_sp 0 (by decide) w)
 rw [hp2] at C3
 have C4 := Lib.hid (fun w => sqr_sp p2 w)
 obtain ⟨p4, hp4⟩ : ∃ z_, sqrS p2 = z_ := ⟨_, rfl⟩
 rw [hp4] at C4
 have C5 := Lib.hid (fun w => sqr_sp p2 w)
 rw [hp4] at C5
 have C6 := Lib.hid (fun w => add_sp p4 p4 w)
 obtain ⟨p6, hp6⟩ : ∃ z_, addS p4 p4 = z_ := ⟨_, rfl⟩
 rw [hp6] at C6
 have C7 := Lib.hid (fun w => of_sp 4607182418800017408 (by decide) w)
 obtain ⟨p7, hp7⟩ : ∃ z_, ofS 4607182418800017408 = z_ := ⟨_, rfl⟩
 rw [hp7] at C7
 have hl : lessS p6 p7 = 1 := by rw [← hp7, ← hp6, ← hp4, ← hp2]; exact aw_less
 have C8 := Lib.hid (fun w => less_sp p6 p7 w)
 rw [hl] at C8
 clear hl
 have hT : ofS 0 = p2 := by
   subst hp2 hp4 hp6 hp7; rfl
 rw [hT]
 clear hT
 clear hp2 hp4 hp6 hp7
 go_enter Try.func87, Try.ntmps87
 go_wp2_with fail
 obtain ⟨W, hW, K0, K1, hB, hz⟩ := bx2 w 28 28 #[.float .f64 0, .float .f64 0] #[.float .f64 0, .float .f64 0]
 rw [← hW]
 have K0 := Lib.hid K0
 have K1 := Lib.hid K1
 have KO0 := Lib.hid (show Blk W g 92 #[Value.int IntKind.u32 2147483648, Value.int IntKind.u32 2147483648] by rw [hW]; exact ((K.alloc _).alloc _))
 have YO0 := Lib.hid (show g < w.heap.size from K.lt)
 have HB := Lib.hid hB
 clear hW hB hz
 have D1 := dr W
 go_wp2_with fail
 refine wp_loop_rounds 1 ?_
 rw [rounds_succ]
 go_wp2_with fail
 refine wp_region_held (S := (fun w' => True ∧ CellsL w' (g) 0 [Value.int IntKind.u32 2147483648, Value.int IntKind.u32 2147483648])) (by kernel_rfl) ?_
 change wpAnyH _ _ _ _ _ _ _ _ (World.drew _)
 obtain ⟨wd2, hwd⟩ : ∃ x, x = World.drew W := ⟨_, rfl⟩
 rw [← hwd]
 have D3 := Lib.hid (hwd ▸ Below.drew D1.out : Below W.heap.size W wd2)
 clear D1 hwd
 have hS4 : True ∧ CellsL wd2 (g) 0 [Value.int IntKind.u32 2147483648, Value.int IntKind.u32 2147483648] := ⟨trivial, (kb KO0 D3).cellsL 0 [Value.int IntKind.u32 2147483648, Value.int IntKind.u32 2147483648] rfl⟩
 refine tkq 0 (bm 17 1) hS4 ?_
 refine tkq 1 (bm 17 3) hS4 ?_
 refine tkq 2 (bm 17 7) hS4 ?_
 refine tke 3 (bm 17 15) hS4 ?_
 refine tkq 7 (bm 17 143) hS4 ?_
 refine tkq 8 (bm 17 399) hS4 ?_
 refine tkq 9 (bm 17 911) hS4 ?_
 refine tkq 10 (bm 17 1935) hS4 ?_
 refine tke 11 (bm 17 3983) hS4 ?_
 refine wpAnyH_oneN (i := 4) (l' := bm 17 3999) rfl (by kernel_rfl) (by kernel_rfl) (by kernel_rfl) (fun K hK => ?_)
 go_simp
 go_at_call 124
 refine (C0.out _).mono ?_
 rintro r w14 ⟨rfl, hb⟩
 dsimp only
 have D15 := ds D3 hb
 clear D3
 clear hb
 have hS16 : True ∧ CellsL w14 (g) 0 [Value.int IntKind.u32 2147483648, Value.int IntKind.u32 2147483648] := ⟨trivial, (kb KO0 D15).cellsL 0 [Value.int IntKind.u32 2147483648, Value.int IntKind.u32 2147483648] rfl⟩
 refine hK _ _ hS16 ?_
 clear hK K hS4
 refine tkq 5 (bm 17 4031) hS16 ?_
 refine tkq 6 (bm 17 4095) hS16 ?_
 refine wpAnyH_oneN (i := 12) (l' := bm 17 8191) rfl (by kernel_rfl) (by kernel_rfl) (by kernel_rfl) (fun K hK => ?_)
 go_simp
 go_at_call 124
 refine (C1.out _).mono ?_
 rintro r w19 ⟨rfl, hb⟩
 dsimp only
 have D20 := ds D15 hb
 clear D15
 clear hb
 have hS21 : True ∧ CellsL w19 (g) 0 [Value.int IntKind.u32 2147483648, Value.int IntKind.u32 2147483648] := ⟨trivial, (kb KO0 D20).cellsL 0 [Value.int IntKind.u32 2147483648, Value.int IntKind.u32 2147483648] rfl⟩
 refine hK _ _ hS21 ?_
 clear hK K hS16
 refine tkq 13 (bm 17 16383) hS21 ?_
 refine tkq 14 (bm 17 32767) hS21 ?_
 refine tkq 15 (bm 17 65535) hS21 ?_
 refine tkq 16 (bm 17 131071) hS21 ?_
 refine wpAnyH_done (by kernel_rfl) ?_ _
 clear hS21
 go_wp2_with fail
 refine (C2.out _).mono ?_
 rintro r w26 ⟨rfl, hb⟩
 have D27 := ds D20 hb
 clear D20
 clear hb
 go_wp2_with fail
 refine (C3.out _).mono ?_
 rintro r w28 ⟨rfl, hb⟩
 have D29 := ds D27 hb
 clear D27
 clear hb
 obtain ⟨g30, hg32⟩ : ∃ g, w28.heap.size = g := ⟨_, rfl⟩
 have Y34 := Lib.hid (show w.heap.size < g30 ∧ w.heap.size + 1 < g30 ∧ g < g30 by rw [← hg32]; exact ⟨(kb K0 D29).lt, (kb K1 D29).lt, (kb KO0 D29).lt⟩)
 obtain ⟨V31, hV33⟩ : ∃ V, w28.alloc (.cells #[.float .f64 0, .float .f64 0] 28) = V := ⟨_, rfl⟩
 have K35 := ka hV33 K0 D29
 have K36 := ka hV33 K1 D29
 have K37 := ka hV33 KO0 D29
 have K38 := kn hV33 hg32
 have HB39 := hba hV33 HB D29
 have D40 := dr V31
 clear K0 K1 KO0 HB D29
 have Y41 := Lib.hid (And.intro YO0.out Y34.out)
 clear YO0 Y34
 obtain ⟨g42, hg44⟩ : ∃ g, V31.heap.size = g := ⟨_, rfl⟩
 have Y46 := Lib.hid (show w.heap.size < g42 ∧ w.heap.size + 1 < g42 ∧ g < g42 ∧ g30 < g42 by rw [← hg44]; exact ⟨(kb K35 D40).lt, (kb K36 D40).lt, (kb K37 D40).lt, (kb K38 D40).lt⟩)
 obtain ⟨V43, hV45⟩ : ∃ V, V31.alloc (.cells #[.float .f64 0, .float .f64 0] 28) = V := ⟨_, rfl⟩
 have K47 := ka hV45 K35 D40
 have K48 := ka hV45 K36 D40
 have K49 := ka hV45 K37 D40
 have K50 := ka hV45 K38 D40
 have K51 := kn hV45 hg44
 have HB52 := hba hV45 HB39 D40
 have D53 := dr V43
 clear K35 K36 K37 K38 HB39 D40
 have Y54 := Lib.hid (And.intro Y41.out Y46.out)
 clear Y41 Y46
 have f57 := (kb K50 D53).cellsL 0 [.float .f64 0, .float .f64 0] rfl
 dsimp only [CellsL, al, vl, Nat.reduceAdd] at f57
 have u58 := (kb K50 D53).unfrozen
 obtain ⟨V55, hV56⟩ : ∃ V, setCells V43 (g30) 0 [.float .f64 p2.lo, .float .f64 p2.hi] = V := ⟨_, rfl⟩
 have hv59 := hV56
 simp only [setCells, Nat.reduceAdd] at hv59
 have K60 := kf hV56 K47 D53 (by have := Y54.out; omega)
 have K61 := kf hV56 K48 D53 (by have := Y54.out; omega)
 have K62 := kf hV56 K49 D53 (by have := Y54.out; omega)
 have K63 := Lib.hid (show Blk V55 (g30) 28 #[.float .f64 p2.lo, .float .f64 p2.hi] from (ks hV56 K50 D53).out)
 have K64 := kf hV56 K51 D53 (by have := Y54.out; omega)
 have HB65 := hbs hV56 HB52 D53 (by have := Y54.out; omega)
 have D66 := dr V55
 clear K47 K48 K49 K50 K51 HB52 D53
 have f69 := (kb K64 D66).cellsL 0 [.float .f64 0, .float .f64 0] rfl
 dsimp only [CellsL, al, vl, Nat.reduceAdd] at f69
 have u70 := (kb K64 D66).unfrozen
 obtain ⟨V67, hV68⟩ : ∃ V, setCells V55 (g42) 0 [.float .f64 p2.lo, .float .f64 p2.hi] = V := ⟨_, rfl⟩
 have hv71 := hV68
 simp only [setCells, Nat.reduceAdd] at hv71
 have K72 := kf hV68 K60 D66 (by have := Y54.out; omega)
 have K73 := kf hV68 K61 D66 (by have := Y54.out; omega)
 have K74 := kf hV68 K62 D66 (by have := Y54.out; omega)
 have K75 := kf hV68 K63 D66 (by have := Y54.out; omega)
 have K76 := Lib.hid (show Blk V67 (g42) 28 #[.float .f64 p2.lo, .float .f64 p2.hi] from (ks hV68 K64 D66).out)
 have HB77 := hbs hV68 HB65 D66 (by have := Y54.out; omega)
 have D78 := dr V67
 clear K60 K61 K62 K63 K64 HB65 D66
 go_wp2_with fail
 clear hg32 hV33 hg44 hV45 hV56 f57 u58 hv59 hV68 f69 u70 hv71
 refine wp_region_held (S := (fun w' => True ∧ CellsL w' (g30) 0 [.float .f64 p2.lo, .float .f64 p2.hi] ∧ CellsL w' (g42) 0 [.float .f64 p2.lo, .float .f64 p2.hi])) (by kernel_rfl) ?_
 change wpAnyH _ _ _ _ _ _ _ _ (World.drew _)
 obtain ⟨wd79, hwd⟩ : ∃ x, x = World.drew V67 := ⟨_, rfl⟩
 rw [← hwd]
 have D80 := Lib.hid (hwd ▸ Below.drew D78.out : Below V67.heap.size V67 wd79)
 clear D78 hwd
 have hS81 : True ∧ CellsL wd79 (g30) 0 [.float .f64 p2.lo, .float .f64 p2.hi] ∧ CellsL wd79 (g42) 0 [.float .f64 p2.lo, .float .f64 p2.hi] := ⟨trivial, (kb K75 D80).cellsL 0 [.float .f64 p2.lo, .float .f64 p2.hi] rfl, (kb K76 D80).cellsL 0 [.float .f64 p2.lo, .float .f64 p2.hi] rfl⟩
 refine tke 0 (bm 8 1) hS81 ?_
 refine tke 2 (bm 8 5) hS81 ?_
 refine wpAnyH_oneN (i := 1) (l' := bm 8 7) rfl (by kernel_rfl) (by kernel_rfl) (by kernel_rfl) (fun K hK => ?_)
 go_simp
 go_at_call 63
 refine (C4.out _).mono ?_
 rintro r w84 ⟨rfl, hb⟩
 dsimp only
 have D85 := ds D80 hb
 clear D80
 clear hb
 have hS86 : True ∧ CellsL w84 (g30) 0 [.float .f64 p2.lo, .float .f64 p2.hi] ∧ CellsL w84 (g42) 0 [.float .f64 p2.lo, .float .f64 p2.hi] := ⟨trivial, (kb K75 D85).cellsL 0 [.float .f64 p2.lo, .float .f64 p2.hi] rfl, (kb K76 D85).cellsL 0 [.float .f64 p2.lo, .float .f64 p2.hi] rfl⟩
 refine hK _ _ hS86 ?_
 clear hK K hS81
 refine wpAnyH_oneN (i := 3) (l' := bm 8 15) rfl (by kernel_rfl) (by kernel_rfl) (by kernel_rfl) (fun K hK => ?_)
 go_simp
 go_at_call 63
 refine (C5.out _).mono ?_
 rintro r w87 ⟨rfl, hb⟩
 dsimp only
 have D88 := ds D85 hb
 clear D85
 clear hb
 have hS89 : True ∧ CellsL w87 (g30) 0 [.float .f64 p2.lo, .float .f64 p2.hi] ∧ CellsL w87 (g42) 0 [.float .f64 p2.lo, .float .f64 p2.hi] := ⟨trivial, (kb K75 D88).cellsL 0 [.float .f64 p2.lo, .float .f64 p2.hi] rfl, (kb K76 D88).cellsL 0 [.float .f64 p2.lo, .float .f64 p2.hi] rfl⟩
 refine hK _ _ hS89 ?_
 clear hK K hS86
 refine wpAnyH_oneN (i := 4) (l' := bm 8 31) rfl (by kernel_rfl) (by kernel_rfl) (by kernel_rfl) (fun K hK => ?_)
 go_simp
 go_at_call 62
 refine (C6.out _).mono ?_
 rintro r w90 ⟨rfl, hb⟩
 dsimp only
 have D91 := ds D88 hb
 clear D88
 clear hb
 have hS92 : True ∧ CellsL w90 (g30) 0 [.float .f64 p2.lo, .float .f64 p2.hi] ∧ CellsL w90 (g42) 0 [.float .f64 p2.lo, .float .f64 p2.hi] := ⟨trivial, (kb K75 D91).cellsL 0 [.float .f64 p2.lo, .float .f64 p2.hi] rfl, (kb K76 D91).cellsL 0 [.float .f64 p2.lo, .float .f64 p2.hi] rfl⟩
 refine hK _ _ hS92 ?_
 clear hK K hS89
 refine wpAnyH_oneN (i := 5) (l' := bm 8 63) rfl (by kernel_rfl) (by kernel_rfl) (by kernel_rfl) (fun K hK => ?_)
 go_simp
 go_at_call 64
 refine (C7.out _).mono ?_
 rintro r w93 ⟨rfl, hb⟩
 dsimp only
 have D94 := ds D91 hb
 clear D91
 clear hb
 have hS95 : True ∧ CellsL w93 (g30) 0 [.float .f64 p2.lo, .float .f64 p2.hi] ∧ CellsL w93 (g42) 0 [.float .f64 p2.lo, .float .f64 p2.hi] := ⟨trivial, (kb K75 D94).cellsL 0 [.float .f64 p2.lo, .float .f64 p2.hi] rfl, (kb K76 D94).cellsL 0 [.float .f64 p2.lo, .float .f64 p2.hi] rfl⟩
 refine hK _ _ hS95 ?_
 clear hK K hS92
 refine wpAnyH_oneN (i := 6) (l' := bm 8 127) rfl (by kernel_rfl) (by kernel_rfl) (by kernel_rfl) (fun K hK => ?_)
 go_simp
 go_at_call 125
 refine (C8.out _).mono ?_
 rintro r w96 ⟨rfl, hb⟩
 dsimp only
 have D97 := ds D94 hb
 clear D94
 clear hb
 have hS98 : True ∧ CellsL w96 (g30) 0 [.float .f64 p2.lo, .float .f64 p2.hi] ∧ CellsL w96 (g42) 0 [.float .f64 p2.lo, .float .f64 p2.hi] := ⟨trivial, (kb K75 D97).cellsL 0 [.float .f64 p2.lo, .float .f64 p2.hi] rfl, (kb K76 D97).cellsL 0 [.float .f64 p2.lo, .float .f64 p2.hi] rfl⟩
 refine hK _ _ hS98 ?_
 clear hK K hS95
 refine tkq 7 (bm 8 255) hS98 ?_
 refine wpAnyH_done (by kernel_rfl) ?_ _
 clear hS98
 go_wp2_with fail
 refine wp_region_held (S := (fun w' => True ∧ CellsL w' (g30) 0 [.float .f64 p2.lo, .float .f64 p2.hi] ∧ CellsL w' (g42) 0 [.float .f64 p2.lo, .float .f64 p2.hi])) (by kernel_rfl) ?_
 change wpAnyH _ _ _ _ _ _ _ _ (World.drew _)
 obtain ⟨wd100, hwd⟩ : ∃ x, x = World.drew w96 := ⟨_, rfl⟩
 rw [← hwd]
 have D101 := Lib.hid (hwd ▸ Below.drew D97.out : Below V67.heap.size V67 wd100)
 clear D97 hwd
 have hS102 : True ∧ CellsL wd100 (g30) 0 [.float .f64 p2.lo, .float .f64 p2.hi] ∧ CellsL wd100 (g42) 0 [.float .f64 p2.lo, .float .f64 p2.hi] := ⟨trivial, (kb K75 D101).cellsL 0 [.float .f64 p2.lo, .float .f64 p2.hi] rfl, (kb K76 D101).cellsL 0 [.float .f64 p2.lo, .float .f64 p2.hi] rfl⟩
 refine tke 0 (bm 8 1) hS102 ?_
 refine tke 1 (bm 8 3) hS102 ?_
 refine tkq 2 (bm 8 7) hS102 ?_
 refine tkq 3 (bm 8 15) hS102 ?_
 refine wpAnyH_oneN (i := 4) (l' := bm 8 31) rfl (by kernel_rfl) (by kernel_rfl) (by kernel_rfl) (fun K hK => ?_)
 have f109 := (kb K72 D101).cellsL 0 [.float .f64 0, .float .f64 0] rfl
 dsimp only [CellsL, al, vl, Nat.reduceAdd] at f109
 have u110 := (kb K72 D101).unfrozen
 obtain ⟨V107, hV108⟩ : ∃ V, setCells wd100 (w.heap.size) 0 [.float .f64 p2.lo, .float .f64 p2.hi] = V := ⟨_, rfl⟩
 have hv111 := hV108
 simp only [setCells, Nat.reduceAdd] at hv111
 have K112 := Lib.hid (show Blk V107 (w.heap.size) 28 #[.float .f64 p2.lo, .float .f64 p2.hi] from (ks hV108 K72 D101).out)
 have K113 := kf hV108 K73 D101 (by have := Y54.out; omega)
 have K114 := kf hV108 K74 D101 (by have := Y54.out; omega)
 have K115 := kf hV108 K75 D101 (by have := Y54.out; omega)
 have K116 := kf hV108 K76 D101 (by have := Y54.out; omega)
 have HB117 := hbs hV108 HB77 D101 (by have := Y54.out; omega)
 have D118 := dr V107
 clear K72 K73 K74 K75 K76 HB77 D101
 go_simp
 clear hV108 f109 u110 hv111
 have hS119 : True ∧ CellsL V107 (g30) 0 [.float .f64 p2.lo, .float .f64 p2.hi] ∧ CellsL V107 (g42) 0 [.float .f64 p2.lo, .float .f64 p2.hi] := ⟨trivial, (kb K115 D118).cellsL 0 [.float .f64 p2.lo, .float .f64 p2.hi] rfl, (kb K116 D118).cellsL 0 [.float .f64 p2.lo, .float .f64 p2.hi] rfl⟩
 refine hK _ _ hS119 ?_
 clear hK K hS102
 refine wpAnyH_oneN (i := 5) (l' := bm 8 63) rfl (by kernel_rfl) (by kernel_rfl) (by kernel_rfl) (fun K hK => ?_)
 have f122 := (kb K113 D118).cellsL 0 [.float .f64 0, .float .f64 0] rfl
 dsimp only [CellsL, al, vl, Nat.reduceAdd] at f122
 have u123 := (kb K113 D118).unfrozen
 obtain ⟨V120, hV121⟩ : ∃ V, setCells V107 (w.heap.size + 1) 0 [.float .f64 p2.lo, .float .f64 p2.hi] = V := ⟨_, rfl⟩
 have hv124 := hV121
 simp only [setCells, Nat.reduceAdd] at hv124
 have K125 := kf hV121 K112 D118 (by have := Y54.out; omega)
 have K126 := Lib.hid (show Blk V120 (w.heap.size + 1) 28 #[.float .f64 p2.lo, .float .f64 p2.hi] from (ks hV121 K113 D118).out)
 have K127 := kf hV121 K114 D118 (by have := Y54.out; omega)
 have K128 := kf hV121 K115 D118 (by have := Y54.out; omega)
 have K129 := kf hV121 K116 D118 (by have := Y54.out; omega)
 have HB130 := hbs hV121 HB117 D118 (by have := Y54.out; omega)
 have D131 := dr V120
 clear K112 K113 K114 K115 K116 HB117 D118
 go_simp
 clear hV121 f122 u123 hv124
 have hS132 : True ∧ CellsL V120 (g30) 0 [.float .f64 p2.lo, .float .f64 p2.hi] ∧ CellsL V120 (g42) 0 [.float .f64 p2.lo, .float .f64 p2.hi] := ⟨trivial, (kb K128 D131).cellsL 0 [.float .f64 p2.lo, .float .f64 p2.hi] rfl, (kb K129 D131).cellsL 0 [.float .f64 p2.lo, .float .f64 p2.hi] rfl⟩
 refine hK _ _ hS132 ?_
 clear hK K hS119
 refine tkq 6 (bm 8 127) hS132 ?_
 refine tkq 7 (bm 8 255) hS132 ?_
 refine wpAnyH_done (by kernel_rfl) ?_ _
 clear hS132
 go_wp2_with fail
 (try simp only [Exit.inBlock, Exit.then])
 exact bodyPost_ret (res_cctt rfl _ _ (w.heap.size) #[.float .f64 p2.lo, .float .f64 p2.hi] (w.heap.size + 1) #[.float .f64 p2.lo, .float .f64 p2.hi] rfl (kb K125 D131) (by rw [info_Span]; rfl) Try.underlying28 rfl rfl (kb K126 D131) (by rw [info_Span]; rfl) Try.underlying28 rfl) rfl ⟨rfl, below_step HB130.out D131.out⟩
theorem disk_zero (w : World) (g : Nat) (K : Blk w g 92 #[Value.int IntKind.u32 2147483648, Value.int IntKind.u32 2147483648]) : Calls Try.prog 87 #[.slice (some ⟨g, 0, none⟩) 2 2] w fun r w' => r = .returned (.tuple #[.agg #[.float .f64 0, .float .f64 0], .agg #[.float .f64 0, .float .f64 0], .int .i64 2, .int .i64 1]) ∧ Below w.heap.size w w' := by
 have h := disk_half w g K
 rw [show ofS 0 = zeroS from Sp.ext (by decide +kernel) (by decide +kernel)] at h
 exact h
theorem awake12  (w : World) : Calls Try.prog 46 #[] w fun r w' => r = .returned (.bool true) ∧ Below w.heap.size w w' := by
 have C0 := Lib.hid (fun w => rofV_any 0 0 4607182418800017408 (by decide) (by decide) (by decide) w)
 obtain ⟨p0, hp0⟩ : ∃ z_, vOf 0 0 4607182418800017408 = z_ := ⟨_, rfl⟩
 rw [hp0] at C0
 have C1 := Lib.hid (fun w => rofV_any 4607182418800017408 0 13830554455654793216 (by decide) (by decide) (by decide) w)
 obtain ⟨p1, hp1⟩ : ∃ z_, vOf 4607182418800017408 0 13830554455654793216 = z_ := ⟨_, rfl⟩
 rw [hp1] at C1
 have C2 := Lib.hid (fun w => mirV_any p0 p1 w)
 have hl : bdMir p0 p1 = vOf 4607182418800017408 0 4607182418800017408 := by rw [← hp1, ← hp0]; exact aw_mir
 rw [hl] at C2
 clear hl
 obtain ⟨p2, hp2⟩ : ∃ z_, vOf 4607182418800017408 0 4607182418800017408 = z_ := ⟨_, rfl⟩
 rw [hp2] at C2
 have C3 := Lib.hid (fun w => rofV_any 4607182418800017408 0 4607182418800017408 (by decide) (by decide) (by decide) w)
 rw [hp2] at C3
 clear hp0 hp1 hp2
 have eq_0 := order_self p2.x.vd.l
 have eq_1 := order_self p2.x.vd.h
 have eq_2 := order_self p2.y.vd.l
 have eq_3 := order_self p2.y.vd.h
 have eq_4 := order_self p2.z.vd.l
 have eq_5 := order_self p2.z.vd.h
 have z00 := isZW00
 have eq00 := eq00
 have z00 := isZW00
 have eq00 := eq00
 go_enter Try.func46, Try.ntmps46
 go_wp2_with fail
 obtain ⟨W, hW⟩ : ∃ W, W = w := ⟨_, rfl⟩
 rw [← hW]
 have HB := Lib.hid (hW ▸ Below.refl w.heap.size w : Below w.heap.size w W)
 clear hW
 have D1 := dr W
 refine (C0.out _).mono ?_
 rintro r w2 ⟨rfl, hb⟩
 have D3 := ds D1 hb
 clear D1
 clear hb
 go_wp2_with fail
 refine (C1.out _).mono ?_
 rintro r w4 ⟨rfl, hb⟩
 have D5 := ds D3 hb
 clear D3
 clear hb
 obtain ⟨g6, hg8⟩ : ∃ g, w4.heap.size = g := ⟨_, rfl⟩
 have Y10 := Lib.hid (show w.heap.size ≤ g6 by rw [← hg8]; exact (below_step HB.out D5.out).size)
 obtain ⟨V7, hV9⟩ : ∃ V, w4.alloc (.cells #[.float .f64 0, .float .f64 0, .float .f64 0, .float .f64 0, .float .f64 0, .float .f64 0] 30) = V := ⟨_, rfl⟩
 have K11 := kn hV9 hg8
 have HB12 := hba hV9 HB D5
 have D13 := dr V7
 clear  HB D5
 obtain ⟨g14, hg16⟩ : ∃ g, V7.heap.size = g := ⟨_, rfl⟩
 have Y18 := Lib.hid (show g6 < g14 by rw [← hg16]; exact (kb K11 D13).lt)
 obtain ⟨V15, hV17⟩ : ∃ V, V7.alloc (.cells #[.float .f64 0, .float .f64 0, .float .f64 0, .float .f64 0, .float .f64 0, .float .f64 0] 30) = V := ⟨_, rfl⟩
 have K19 := ka hV17 K11 D13
 have K20 := kn hV17 hg16
 have HB21 := hba hV17 HB12 D13
 have D22 := dr V15
 clear K11 HB12 D13
 have Y23 := Lib.hid (And.intro Y10.out Y18.out)
 clear Y10 Y18
 have f26 := (kb K19 D22)
 obtain ⟨V24, hV25⟩ : ∃ V, World.setRow V15 (g6) (vc p0) = V := ⟨_, rfl⟩
 have K27 := ksr hV25 K19 D22
 have K28 := kfr hV25 K20 D22 (by have := Y23.out; omega)
 have HB29 := hbr hV25 HB21 D22 (by have := Y23.out; omega)
 have D30 := dr V24
 clear K19 K20 HB21 D22
 have f33 := (kb K28 D30)
 obtain ⟨V31, hV32⟩ : ∃ V, World.setRow V24 (g14) (vc p1) = V := ⟨_, rfl⟩
 have K34 := kfr hV32 K27 D30 (by have := Y23.out; omega)
 have K35 := ksr hV32 K28 D30
 have HB36 := hbr hV32 HB29 D30 (by have := Y23.out; omega)
 have D37 := dr V31
 clear K27 K28 HB29 D30
 obtain ⟨g38, hg40⟩ : ∃ g, V31.heap.size = g := ⟨_, rfl⟩
 have Y42 := Lib.hid (show g6 < g38 ∧ g14 < g38 by rw [← hg40]; exact ⟨(kb K34 D37).lt, (kb K35 D37).lt⟩)
 obtain ⟨V39, hV41⟩ : ∃ V, V31.alloc (.cells #[Value.int IntKind.u32 2147483648, Value.int IntKind.u32 2147483648] 92) = V := ⟨_, rfl⟩
 have K43 := ka hV41 K34 D37
 have K44 := ka hV41 K35 D37
 have K45 := kn hV41 hg40
 have HB46 := hba hV41 HB36 D37
 have D47 := dr V39
 clear K34 K35 HB36 D37
 have Y48 := Lib.hid (And.intro Y23.out Y42.out)
 clear Y23 Y42
 go_wp2_with (first | (refine wpList_store_row rfl 30 _ _ rfl (g6) (vc p0) rfl rfl _ _ f26 (by rw [info_V3]; rfl) rfl (by kernel_rfl) ?_; rw [hV25]) | (refine wpList_store_row rfl 30 _ _ rfl (g14) (vc p1) rfl rfl _ _ f33 (by rw [info_V3]; rfl) rfl (by kernel_rfl) ?_; rw [hV32]))
 clear hg8 hV9 hg16 hV17 hV25 f26 hV32 f33 hg40 hV41
 refine ((disk_zero _ g38 (kb K45 D47))).mono ?_
 rintro r w49 ⟨rfl, hb⟩
 have D50 := ds D47 hb
 clear D47
 clear hb
 obtain ⟨g51, hg53⟩ : ∃ g, w49.heap.size = g := ⟨_, rfl⟩
 have Y55 := Lib.hid (show g6 < g51 ∧ g14 < g51 ∧ g38 < g51 by rw [← hg53]; exact ⟨(kb K43 D50).lt, (kb K44 D50).lt, (kb K45 D50).lt⟩)
 obtain ⟨V52, hV54⟩ : ∃ V, w49.alloc (.cells #[.float .f64 0, .float .f64 0] 28) = V := ⟨_, rfl⟩
 have K56 := ka hV54 K43 D50
 have K57 := ka hV54 K44 D50
 have K58 := ka hV54 K45 D50
 have K59 := kn hV54 hg53
 have HB60 := hba hV54 HB46 D50
 have D61 := dr V52
 clear K43 K44 K45 HB46 D50
 have Y62 := Lib.hid (And.intro Y48.out Y55.out)
 clear Y48 Y55
 obtain ⟨g63, hg65⟩ : ∃ g, V52.heap.size = g := ⟨_, rfl⟩
 have Y67 := Lib.hid (show g6 < g63 ∧ g14 < g63 ∧ g38 < g63 ∧ g51 < g63 by rw [← hg65]; exact ⟨(kb K56 D61).lt, (kb K57 D61).lt, (kb K58 D61).lt, (kb K59 D61).lt⟩)
 obtain ⟨V64, hV66⟩ : ∃ V, V52.alloc (.cells #[.float .f64 0, .float .f64 0] 28) = V := ⟨_, rfl⟩
 have K68 := ka hV66 K56 D61
 have K69 := ka hV66 K57 D61
 have K70 := ka hV66 K58 D61
 have K71 := ka hV66 K59 D61
 have K72 := kn hV66 hg65
 have HB73 := hba hV66 HB60 D61
 have D74 := dr V64
 clear K56 K57 K58 K59 HB60 D61
 have Y75 := Lib.hid (And.intro Y62.out Y67.out)
 clear Y62 Y67
 have f78 := (kb K71 D74).cellsL 0 [.float .f64 0, .float .f64 0] rfl
 dsimp only [CellsL, al, vl, Nat.reduceAdd] at f78
 have u79 := (kb K71 D74).unfrozen
 obtain ⟨V76, hV77⟩ : ∃ V, setCells V64 (g51) 0 [.float .f64 0, .float .f64 0] = V := ⟨_, rfl⟩
 have hv80 := hV77
 simp only [setCells, Nat.reduceAdd] at hv80
 have K81 := kf hV77 K68 D74 (by have := Y75.out; omega)
 have K82 := kf hV77 K69 D74 (by have := Y75.out; omega)
 have K83 := kf hV77 K70 D74 (by have := Y75.out; omega)
 have K84 := Lib.hid (show Blk V76 (g51) 28 #[.float .f64 0, .float .f64 0] from (ks hV77 K71 D74).out)
 have K85 := kf hV77 K72 D74 (by have := Y75.out; omega)
 have HB86 := hbs hV77 HB73 D74 (by have := Y75.out; omega)
 have D87 := dr V76
 clear K68 K69 K70 K71 K72 HB73 D74
 have f90 := (kb K85 D87).cellsL 0 [.float .f64 0, .float .f64 0] rfl
 dsimp only [CellsL, al, vl, Nat.reduceAdd] at f90
 have u91 := (kb K85 D87).unfrozen
 obtain ⟨V88, hV89⟩ : ∃ V, setCells V76 (g63) 0 [.float .f64 0, .float .f64 0] = V := ⟨_, rfl⟩
 have hv92 := hV89
 simp only [setCells, Nat.reduceAdd] at hv92
 have K93 := kf hV89 K81 D87 (by have := Y75.out; omega)
 have K94 := kf hV89 K82 D87 (by have := Y75.out; omega)
 have K95 := kf hV89 K83 D87 (by have := Y75.out; omega)
 have K96 := kf hV89 K84 D87 (by have := Y75.out; omega)
 have K97 := Lib.hid (show Blk V88 (g63) 28 #[.float .f64 0, .float .f64 0] from (ks hV89 K85 D87).out)
 have HB98 := hbs hV89 HB86 D87 (by have := Y75.out; omega)
 have D99 := dr V88
 clear K81 K82 K83 K84 K85 HB86 D87
 have f100 := (kb K93 D99)
 have f101 := (kb K94 D99)
 go_wp2_with (first | (refine wl_load (by kernel_rfl) rfl rfl f100 (by rw [info_V3]; rfl) Try.underlying30 rfl ?_) | (refine wl_load (by kernel_rfl) rfl rfl f101 (by rw [info_V3]; rfl) Try.underlying30 rfl ?_))
 clear hg53 hV54 hg65 hV66 hV77 f78 u79 hv80 hV89 f90 u91 hv92 f100 f101
 refine (C2.out _).mono ?_
 rintro r w102 ⟨rfl, hb⟩
 have D103 := ds D99 hb
 clear D99
 clear hb
 go_wp2_with fail
 refine (C3.out _).mono ?_
 rintro r w104 ⟨rfl, hb⟩
 have D105 := ds D103 hb
 clear D103
 clear hb
 have hq106 := (kb K96 D105).cellsL 0 [.float .f64 0, .float .f64 0] rfl
 dsimp only [CellsL, al, vl, Nat.reduceAdd] at hq106
 have hq107 := (kb K97 D105).cellsL 0 [.float .f64 0, .float .f64 0] rfl
 dsimp only [CellsL, al, vl, Nat.reduceAdd] at hq107
 go_wp2_with fail
 clear hq106 hq107
 go_ret
 exact ⟨rfl, below_step HB98.out D105.out⟩
end Go.Proofs.Ytnljfcebmgifdaa
