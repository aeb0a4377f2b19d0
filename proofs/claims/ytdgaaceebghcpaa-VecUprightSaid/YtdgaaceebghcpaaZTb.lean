/- Vectors of spans: vec (gen_td.py). -/
import Derived.Test.YtdgaaceebghcpaaZTx
import Derived.Test.YtdgaaceebghcpaaZSf
set_option linter.unusedVariables false
set_option linter.unusedSimpArgs false
namespace Go.Proofs.Ytdgaaceebghcpaa
open Go.RowKit Fl

set_option maxRecDepth 100000 in
set_option maxHeartbeats 8000000 in
theorem each_add (a b : V3) (w : World) : Calls Try.prog 84 #[Value.agg #[.float .f64 a.x.lo, .float .f64 a.x.hi, .float .f64 a.y.lo, .float .f64 a.y.hi, .float .f64 a.z.lo, .float .f64 a.z.hi], Value.agg #[.float .f64 b.x.lo, .float .f64 b.x.hi, .float .f64 b.y.lo, .float .f64 b.y.hi, .float .f64 b.z.lo, .float .f64 b.z.hi], Value.func (Fn.func 75) #[] #[]] w fun r w' => r = .returned (vval (vAdd a b)) ∧ Below w.heap.size w w' := by
  have C0 := Lib.hid (fun w => add_sp a.x b.x w)
  obtain ⟨p0, hp0⟩ : ∃ z_, addS a.x b.x = z_ := ⟨_, rfl⟩
  rw [hp0] at C0
  have C1 := Lib.hid (fun w => add_sp a.y b.y w)
  obtain ⟨p1, hp1⟩ : ∃ z_, addS a.y b.y = z_ := ⟨_, rfl⟩
  rw [hp1] at C1
  have C2 := Lib.hid (fun w => add_sp a.z b.z w)
  obtain ⟨p2, hp2⟩ : ∃ z_, addS a.z b.z = z_ := ⟨_, rfl⟩
  rw [hp2] at C2
  have hT : vAdd a b = (⟨p0, p1, p2⟩ : V3) := by
    subst hp0 hp1 hp2; rfl
  rw [hT]
  clear hT
  clear hp0 hp1 hp2
  go_enter Try.func84, Try.ntmps84
  go_wp2_with fail
  obtain ⟨W, hW, K0, K1, K2, K3, hB, hz⟩ := bx4 w 26 26 26 26 (vc a) (vc b) #[.float .f64 0, .float .f64 0, .float .f64 0, .float .f64 0, .float .f64 0, .float .f64 0] #[.float .f64 0, .float .f64 0, .float .f64 0, .float .f64 0, .float .f64 0, .float .f64 0]
  rw [← hW]
  have K0 := Lib.hid K0
  have K1 := Lib.hid K1
  have K2 := Lib.hid K2
  have K3 := Lib.hid K3
  have HB := Lib.hid hB
  clear hW hB hz
  have D1 := dr W
  go_wp2_with fail
  refine wp_loop_rounds 4 ?_
  rw [rounds_succ]
  go_wp2_with fail
  refine wp_region_held (S := (fun w' => True ∧ CellsL w' (w.heap.size) 0 [.float .f64 a.x.lo, .float .f64 a.x.hi] ∧ CellsL w' (w.heap.size + 1) 0 [.float .f64 b.x.lo, .float .f64 b.x.hi])) (by kernel_rfl) ?_
  change wpAnyH _ _ _ _ _ _ _ _ (World.drew _)
  obtain ⟨wd2, hwd⟩ : ∃ x, x = World.drew W := ⟨_, rfl⟩
  rw [← hwd]
  have D3 := Lib.hid (hwd ▸ Below.drew D1.out : Below W.heap.size W wd2)
  clear D1 hwd
  have hS4 : True ∧ CellsL wd2 (w.heap.size) 0 [.float .f64 a.x.lo, .float .f64 a.x.hi] ∧ CellsL wd2 (w.heap.size + 1) 0 [.float .f64 b.x.lo, .float .f64 b.x.hi] := ⟨trivial, (kb K0 D3).cellsL 0 [.float .f64 a.x.lo, .float .f64 a.x.hi] rfl, (kb K1 D3).cellsL 0 [.float .f64 b.x.lo, .float .f64 b.x.hi] rfl⟩
  refine tk 0 (bm 11 1) ?vq5 ?aq5 rfl (by kernel_rfl) (fun _ _ _ h => h) (by kernel_rfl) ?hq5 ?pq5 hS4 ?rq5
  case hq5 => (intro w hS; go_simp; try with_reducible rfl)
  case pq5 => (go_simp; try with_reducible rfl)
  refine tk 1 (bm 11 3) ?vq6 ?aq6 rfl (by kernel_rfl) (fun _ _ _ h => h) (by kernel_rfl) ?hq6 ?pq6 hS4 ?rq6
  case hq6 => (intro w hS; go_simp; try with_reducible rfl)
  case pq6 => (go_simp; try with_reducible rfl)
  refine tk 2 (bm 11 7) ?vq7 ?aq7 rfl (by kernel_rfl) (fun _ _ _ h => h) (by kernel_rfl) ?hq7 ?pq7 hS4 ?rq7
  case hq7 => (intro w hS; go_simp; try with_reducible rfl)
  case pq7 => (go_simp; try with_reducible rfl)
  refine tk 3 (bm 11 15) ?vq8 ?aq8 rfl (by kernel_rfl) (fun _ _ _ h => h) (by kernel_rfl) ?hq8 ?pq8 hS4 ?rq8
  case hq8 => (intro w hS; go_simp; try with_reducible rfl)
  case pq8 => (go_simp; try with_reducible rfl)
  refine tk 4 (bm 11 31) ?vq9 ?aq9 rfl (by kernel_rfl) (fun _ _ _ h => h) (by kernel_rfl) ?hq9 ?pq9 hS4 ?rq9
  case hq9 => (intro w hS; dsimp only [CellsL, al, vl, Nat.reduceAdd] at hS; go_simp; try with_reducible rfl)
  case pq9 => (go_simp; try with_reducible rfl)
  refine tk 5 (bm 11 63) ?vq10 ?aq10 rfl (by kernel_rfl) (fun _ _ _ h => h) (by kernel_rfl) ?hq10 ?pq10 hS4 ?rq10
  case hq10 => (intro w hS; go_simp; try with_reducible rfl)
  case pq10 => (go_simp; try with_reducible rfl)
  refine tk 6 (bm 11 127) ?vq11 ?aq11 rfl (by kernel_rfl) (fun _ _ _ h => h) (by kernel_rfl) ?hq11 ?pq11 hS4 ?rq11
  case hq11 => (intro w hS; go_simp; try with_reducible rfl)
  case pq11 => (go_simp; try with_reducible rfl)
  refine tk 7 (bm 11 255) ?vq12 ?aq12 rfl (by kernel_rfl) (fun _ _ _ h => h) (by kernel_rfl) ?hq12 ?pq12 hS4 ?rq12
  case hq12 => (intro w hS; dsimp only [CellsL, al, vl, Nat.reduceAdd] at hS; go_simp; try with_reducible rfl)
  case pq12 => (go_simp; try with_reducible rfl)
  refine wpAnyH_oneN (i := 8) (l' := bm 11 511) rfl (by kernel_rfl) (by kernel_rfl) (by kernel_rfl) (fun K hK => ?_)
  go_simp
  go_at_call 75
  refine (C0.out _).mono ?_
  rintro r w13 ⟨rfl, hb⟩
  dsimp only
  have D14 := ds D3 hb
  clear D3
  clear hb
  have hS15 : True ∧ CellsL w13 (w.heap.size) 0 [.float .f64 a.x.lo, .float .f64 a.x.hi] ∧ CellsL w13 (w.heap.size + 1) 0 [.float .f64 b.x.lo, .float .f64 b.x.hi] := ⟨trivial, (kb K0 D14).cellsL 0 [.float .f64 a.x.lo, .float .f64 a.x.hi] rfl, (kb K1 D14).cellsL 0 [.float .f64 b.x.lo, .float .f64 b.x.hi] rfl⟩
  refine hK _ _ hS15 ?_
  clear hK K hS4
  refine tk 9 (bm 11 1023) ?vq16 ?aq16 rfl (by kernel_rfl) (fun _ _ _ h => h) (by kernel_rfl) ?hq16 ?pq16 hS15 ?rq16
  case hq16 => (intro w hS; go_simp; try with_reducible rfl)
  case pq16 => (go_simp; try with_reducible rfl)
  refine wpAnyH_oneN (i := 10) (l' := bm 11 2047) rfl (by kernel_rfl) (by kernel_rfl) (by kernel_rfl) (fun K hK => ?_)
  have f19 := (kb K3 D14).cellsL 0 [.float .f64 0, .float .f64 0] rfl
  dsimp only [CellsL, al, vl, Nat.reduceAdd] at f19
  have u20 := (kb K3 D14).unfrozen
  obtain ⟨V17, hV18⟩ : ∃ V, setCells w13 (w.heap.size + 1 + 1 + 1) 0 [.float .f64 p0.lo, .float .f64 p0.hi] = V := ⟨_, rfl⟩
  have hv21 := hV18
  simp only [setCells, Nat.reduceAdd] at hv21
  have K22 := kf hV18 K0 D14 (by omega)
  have K23 := kf hV18 K1 D14 (by omega)
  have K24 := kf hV18 K2 D14 (by omega)
  have K25 := Lib.hid (show Blk V17 (w.heap.size + 1 + 1 + 1) 26 #[.float .f64 p0.lo, .float .f64 p0.hi, .float .f64 0, .float .f64 0, .float .f64 0, .float .f64 0] from (ks hV18 K3 D14).out)
  have HB26 := hbs hV18 HB D14 (by omega)
  have D27 := dr V17
  clear K0 K1 K2 K3 HB D14
  go_simp
  clear hV18 f19 u20 hv21
  have hS28 : True ∧ CellsL V17 (w.heap.size) 0 [.float .f64 a.x.lo, .float .f64 a.x.hi] ∧ CellsL V17 (w.heap.size + 1) 0 [.float .f64 b.x.lo, .float .f64 b.x.hi] := ⟨trivial, (kb K22 D27).cellsL 0 [.float .f64 a.x.lo, .float .f64 a.x.hi] rfl, (kb K23 D27).cellsL 0 [.float .f64 b.x.lo, .float .f64 b.x.hi] rfl⟩
  refine hK _ _ hS28 ?_
  clear hK K hS15
  refine wpAnyH_done (by kernel_rfl) ?_ _
  clear hS28
  go_wp2_with fail
  rw [rounds_succ]
  go_wp2_with fail
  refine wp_region_held (S := (fun w' => True ∧ CellsL w' (w.heap.size) 2 [.float .f64 a.y.lo, .float .f64 a.y.hi] ∧ CellsL w' (w.heap.size + 1) 2 [.float .f64 b.y.lo, .float .f64 b.y.hi])) (by kernel_rfl) ?_
  change wpAnyH _ _ _ _ _ _ _ _ (World.drew _)
  obtain ⟨wd29, hwd⟩ : ∃ x, x = World.drew V17 := ⟨_, rfl⟩
  rw [← hwd]
  have D30 := Lib.hid (hwd ▸ Below.drew D27.out : Below V17.heap.size V17 wd29)
  clear D27 hwd
  have hS31 : True ∧ CellsL wd29 (w.heap.size) 2 [.float .f64 a.y.lo, .float .f64 a.y.hi] ∧ CellsL wd29 (w.heap.size + 1) 2 [.float .f64 b.y.lo, .float .f64 b.y.hi] := ⟨trivial, (kb K22 D30).cellsL 2 [.float .f64 a.y.lo, .float .f64 a.y.hi] rfl, (kb K23 D30).cellsL 2 [.float .f64 b.y.lo, .float .f64 b.y.hi] rfl⟩
  refine tk 0 (bm 11 1) ?vq32 ?aq32 rfl (by kernel_rfl) (fun _ _ _ h => h) (by kernel_rfl) ?hq32 ?pq32 hS31 ?rq32
  case hq32 => (intro w hS; go_simp; try with_reducible rfl)
  case pq32 => (go_simp; try with_reducible rfl)
  refine tk 1 (bm 11 3) ?vq33 ?aq33 rfl (by kernel_rfl) (fun _ _ _ h => h) (by kernel_rfl) ?hq33 ?pq33 hS31 ?rq33
  case hq33 => (intro w hS; go_simp; try with_reducible rfl)
  case pq33 => (go_simp; try with_reducible rfl)
  refine tk 2 (bm 11 7) ?vq34 ?aq34 rfl (by kernel_rfl) (fun _ _ _ h => h) (by kernel_rfl) ?hq34 ?pq34 hS31 ?rq34
  case hq34 => (intro w hS; go_simp; try with_reducible rfl)
  case pq34 => (go_simp; try with_reducible rfl)
  refine tk 3 (bm 11 15) ?vq35 ?aq35 rfl (by kernel_rfl) (fun _ _ _ h => h) (by kernel_rfl) ?hq35 ?pq35 hS31 ?rq35
  case hq35 => (intro w hS; go_simp; try with_reducible rfl)
  case pq35 => (go_simp; try with_reducible rfl)
  refine tk 4 (bm 11 31) ?vq36 ?aq36 rfl (by kernel_rfl) (fun _ _ _ h => h) (by kernel_rfl) ?hq36 ?pq36 hS31 ?rq36
  case hq36 => (intro w hS; dsimp only [CellsL, al, vl, Nat.reduceAdd] at hS; go_simp; try with_reducible rfl)
  case pq36 => (go_simp; try with_reducible rfl)
  refine tk 5 (bm 11 63) ?vq37 ?aq37 rfl (by kernel_rfl) (fun _ _ _ h => h) (by kernel_rfl) ?hq37 ?pq37 hS31 ?rq37
  case hq37 => (intro w hS; go_simp; try with_reducible rfl)
  case pq37 => (go_simp; try with_reducible rfl)
  refine tk 6 (bm 11 127) ?vq38 ?aq38 rfl (by kernel_rfl) (fun _ _ _ h => h) (by kernel_rfl) ?hq38 ?pq38 hS31 ?rq38
  case hq38 => (intro w hS; go_simp; try with_reducible rfl)
  case pq38 => (go_simp; try with_reducible rfl)
  refine tk 7 (bm 11 255) ?vq39 ?aq39 rfl (by kernel_rfl) (fun _ _ _ h => h) (by kernel_rfl) ?hq39 ?pq39 hS31 ?rq39
  case hq39 => (intro w hS; dsimp only [CellsL, al, vl, Nat.reduceAdd] at hS; go_simp; try with_reducible rfl)
  case pq39 => (go_simp; try with_reducible rfl)
  refine wpAnyH_oneN (i := 8) (l' := bm 11 511) rfl (by kernel_rfl) (by kernel_rfl) (by kernel_rfl) (fun K hK => ?_)
  go_simp
  go_at_call 75
  refine (C1.out _).mono ?_
  rintro r w40 ⟨rfl, hb⟩
  dsimp only
  have D41 := ds D30 hb
  clear D30
  clear hb
  have hS42 : True ∧ CellsL w40 (w.heap.size) 2 [.float .f64 a.y.lo, .float .f64 a.y.hi] ∧ CellsL w40 (w.heap.size + 1) 2 [.float .f64 b.y.lo, .float .f64 b.y.hi] := ⟨trivial, (kb K22 D41).cellsL 2 [.float .f64 a.y.lo, .float .f64 a.y.hi] rfl, (kb K23 D41).cellsL 2 [.float .f64 b.y.lo, .float .f64 b.y.hi] rfl⟩
  refine hK _ _ hS42 ?_
  clear hK K hS31
  refine tk 9 (bm 11 1023) ?vq43 ?aq43 rfl (by kernel_rfl) (fun _ _ _ h => h) (by kernel_rfl) ?hq43 ?pq43 hS42 ?rq43
  case hq43 => (intro w hS; go_simp; try with_reducible rfl)
  case pq43 => (go_simp; try with_reducible rfl)
  refine wpAnyH_oneN (i := 10) (l' := bm 11 2047) rfl (by kernel_rfl) (by kernel_rfl) (by kernel_rfl) (fun K hK => ?_)
  have f46 := (kb K25 D41).cellsL 2 [.float .f64 0, .float .f64 0] rfl
  dsimp only [CellsL, al, vl, Nat.reduceAdd] at f46
  have u47 := (kb K25 D41).unfrozen
  obtain ⟨V44, hV45⟩ : ∃ V, setCells w40 (w.heap.size + 1 + 1 + 1) 2 [.float .f64 p1.lo, .float .f64 p1.hi] = V := ⟨_, rfl⟩
  have hv48 := hV45
  simp only [setCells, Nat.reduceAdd] at hv48
  have K49 := kf hV45 K22 D41 (by omega)
  have K50 := kf hV45 K23 D41 (by omega)
  have K51 := kf hV45 K24 D41 (by omega)
  have K52 := Lib.hid (show Blk V44 (w.heap.size + 1 + 1 + 1) 26 #[.float .f64 p0.lo, .float .f64 p0.hi, .float .f64 p1.lo, .float .f64 p1.hi, .float .f64 0, .float .f64 0] from (ks hV45 K25 D41).out)
  have HB53 := hbs hV45 HB26 D41 (by omega)
  have D54 := dr V44
  clear K22 K23 K24 K25 HB26 D41
  go_simp
  clear hV45 f46 u47 hv48
  have hS55 : True ∧ CellsL V44 (w.heap.size) 2 [.float .f64 a.y.lo, .float .f64 a.y.hi] ∧ CellsL V44 (w.heap.size + 1) 2 [.float .f64 b.y.lo, .float .f64 b.y.hi] := ⟨trivial, (kb K49 D54).cellsL 2 [.float .f64 a.y.lo, .float .f64 a.y.hi] rfl, (kb K50 D54).cellsL 2 [.float .f64 b.y.lo, .float .f64 b.y.hi] rfl⟩
  refine hK _ _ hS55 ?_
  clear hK K hS42
  refine wpAnyH_done (by kernel_rfl) ?_ _
  clear hS55
  go_wp2_with fail
  rw [rounds_succ]
  go_wp2_with fail
  refine wp_region_held (S := (fun w' => True ∧ CellsL w' (w.heap.size) 4 [.float .f64 a.z.lo, .float .f64 a.z.hi] ∧ CellsL w' (w.heap.size + 1) 4 [.float .f64 b.z.lo, .float .f64 b.z.hi])) (by kernel_rfl) ?_
  change wpAnyH _ _ _ _ _ _ _ _ (World.drew _)
  obtain ⟨wd56, hwd⟩ : ∃ x, x = World.drew V44 := ⟨_, rfl⟩
  rw [← hwd]
  have D57 := Lib.hid (hwd ▸ Below.drew D54.out : Below V44.heap.size V44 wd56)
  clear D54 hwd
  have hS58 : True ∧ CellsL wd56 (w.heap.size) 4 [.float .f64 a.z.lo, .float .f64 a.z.hi] ∧ CellsL wd56 (w.heap.size + 1) 4 [.float .f64 b.z.lo, .float .f64 b.z.hi] := ⟨trivial, (kb K49 D57).cellsL 4 [.float .f64 a.z.lo, .float .f64 a.z.hi] rfl, (kb K50 D57).cellsL 4 [.float .f64 b.z.lo, .float .f64 b.z.hi] rfl⟩
  refine tk 0 (bm 11 1) ?vq59 ?aq59 rfl (by kernel_rfl) (fun _ _ _ h => h) (by kernel_rfl) ?hq59 ?pq59 hS58 ?rq59
  case hq59 => (intro w hS; go_simp; try with_reducible rfl)
  case pq59 => (go_simp; try with_reducible rfl)
  refine tk 1 (bm 11 3) ?vq60 ?aq60 rfl (by kernel_rfl) (fun _ _ _ h => h) (by kernel_rfl) ?hq60 ?pq60 hS58 ?rq60
  case hq60 => (intro w hS; go_simp; try with_reducible rfl)
  case pq60 => (go_simp; try with_reducible rfl)
  refine tk 2 (bm 11 7) ?vq61 ?aq61 rfl (by kernel_rfl) (fun _ _ _ h => h) (by kernel_rfl) ?hq61 ?pq61 hS58 ?rq61
  case hq61 => (intro w hS; go_simp; try with_reducible rfl)
  case pq61 => (go_simp; try with_reducible rfl)
  refine tk 3 (bm 11 15) ?vq62 ?aq62 rfl (by kernel_rfl) (fun _ _ _ h => h) (by kernel_rfl) ?hq62 ?pq62 hS58 ?rq62
  case hq62 => (intro w hS; go_simp; try with_reducible rfl)
  case pq62 => (go_simp; try with_reducible rfl)
  refine tk 4 (bm 11 31) ?vq63 ?aq63 rfl (by kernel_rfl) (fun _ _ _ h => h) (by kernel_rfl) ?hq63 ?pq63 hS58 ?rq63
  case hq63 => (intro w hS; dsimp only [CellsL, al, vl, Nat.reduceAdd] at hS; go_simp; try with_reducible rfl)
  case pq63 => (go_simp; try with_reducible rfl)
  refine tk 5 (bm 11 63) ?vq64 ?aq64 rfl (by kernel_rfl) (fun _ _ _ h => h) (by kernel_rfl) ?hq64 ?pq64 hS58 ?rq64
  case hq64 => (intro w hS; go_simp; try with_reducible rfl)
  case pq64 => (go_simp; try with_reducible rfl)
  refine tk 6 (bm 11 127) ?vq65 ?aq65 rfl (by kernel_rfl) (fun _ _ _ h => h) (by kernel_rfl) ?hq65 ?pq65 hS58 ?rq65
  case hq65 => (intro w hS; go_simp; try with_reducible rfl)
  case pq65 => (go_simp; try with_reducible rfl)
  refine tk 7 (bm 11 255) ?vq66 ?aq66 rfl (by kernel_rfl) (fun _ _ _ h => h) (by kernel_rfl) ?hq66 ?pq66 hS58 ?rq66
  case hq66 => (intro w hS; dsimp only [CellsL, al, vl, Nat.reduceAdd] at hS; go_simp; try with_reducible rfl)
  case pq66 => (go_simp; try with_reducible rfl)
  refine wpAnyH_oneN (i := 8) (l' := bm 11 511) rfl (by kernel_rfl) (by kernel_rfl) (by kernel_rfl) (fun K hK => ?_)
  go_simp
  go_at_call 75
  refine (C2.out _).mono ?_
  rintro r w67 ⟨rfl, hb⟩
  dsimp only
  have D68 := ds D57 hb
  clear D57
  clear hb
  have hS69 : True ∧ CellsL w67 (w.heap.size) 4 [.float .f64 a.z.lo, .float .f64 a.z.hi] ∧ CellsL w67 (w.heap.size + 1) 4 [.float .f64 b.z.lo, .float .f64 b.z.hi] := ⟨trivial, (kb K49 D68).cellsL 4 [.float .f64 a.z.lo, .float .f64 a.z.hi] rfl, (kb K50 D68).cellsL 4 [.float .f64 b.z.lo, .float .f64 b.z.hi] rfl⟩
  refine hK _ _ hS69 ?_
  clear hK K hS58
  refine tk 9 (bm 11 1023) ?vq70 ?aq70 rfl (by kernel_rfl) (fun _ _ _ h => h) (by kernel_rfl) ?hq70 ?pq70 hS69 ?rq70
  case hq70 => (intro w hS; go_simp; try with_reducible rfl)
  case pq70 => (go_simp; try with_reducible rfl)
  refine wpAnyH_oneN (i := 10) (l' := bm 11 2047) rfl (by kernel_rfl) (by kernel_rfl) (by kernel_rfl) (fun K hK => ?_)
  have f73 := (kb K52 D68).cellsL 4 [.float .f64 0, .float .f64 0] rfl
  dsimp only [CellsL, al, vl, Nat.reduceAdd] at f73
  have u74 := (kb K52 D68).unfrozen
  obtain ⟨V71, hV72⟩ : ∃ V, setCells w67 (w.heap.size + 1 + 1 + 1) 4 [.float .f64 p2.lo, .float .f64 p2.hi] = V := ⟨_, rfl⟩
  have hv75 := hV72
  simp only [setCells, Nat.reduceAdd] at hv75
  have K76 := kf hV72 K49 D68 (by omega)
  have K77 := kf hV72 K50 D68 (by omega)
  have K78 := kf hV72 K51 D68 (by omega)
  have K79 := Lib.hid (show Blk V71 (w.heap.size + 1 + 1 + 1) 26 #[.float .f64 p0.lo, .float .f64 p0.hi, .float .f64 p1.lo, .float .f64 p1.hi, .float .f64 p2.lo, .float .f64 p2.hi] from (ks hV72 K52 D68).out)
  have HB80 := hbs hV72 HB53 D68 (by omega)
  have D81 := dr V71
  clear K49 K50 K51 K52 HB53 D68
  go_simp
  clear hV72 f73 u74 hv75
  have hS82 : True ∧ CellsL V71 (w.heap.size) 4 [.float .f64 a.z.lo, .float .f64 a.z.hi] ∧ CellsL V71 (w.heap.size + 1) 4 [.float .f64 b.z.lo, .float .f64 b.z.hi] := ⟨trivial, (kb K76 D81).cellsL 4 [.float .f64 a.z.lo, .float .f64 a.z.hi] rfl, (kb K77 D81).cellsL 4 [.float .f64 b.z.lo, .float .f64 b.z.hi] rfl⟩
  refine hK _ _ hS82 ?_
  clear hK K hS69
  refine wpAnyH_done (by kernel_rfl) ?_ _
  clear hS82
  go_wp2_with fail
  rw [rounds_succ]
  have f83 := (kb K79 D81)
  have f86 := (kb K78 D81)
  obtain ⟨V84, hV85⟩ : ∃ V, World.setRow V71 (w.heap.size + 1 + 1) #[.float .f64 p0.lo, .float .f64 p0.hi, .float .f64 p1.lo, .float .f64 p1.hi, .float .f64 p2.lo, .float .f64 p2.hi] = V := ⟨_, rfl⟩
  have K87 := kfr hV85 K76 D81 (by omega)
  have K88 := kfr hV85 K77 D81 (by omega)
  have K89 := ksr hV85 K78 D81
  have K90 := kfr hV85 K79 D81 (by omega)
  have HB91 := hbr hV85 HB80 D81 (by omega)
  have D92 := dr V84
  clear K76 K77 K78 K79 HB80 D81
  go_wp2_with (first | (refine wpList_store_row rfl 26 _ _ rfl (w.heap.size + 1 + 1) #[.float .f64 p0.lo, .float .f64 p0.hi, .float .f64 p1.lo, .float .f64 p1.hi, .float .f64 p2.lo, .float .f64 p2.hi] rfl rfl _ _ f86 (by rw [info_V3]; rfl) rfl (by kernel_rfl) ?_; rw [hV85]) | (refine wl_load (by kernel_rfl) rfl rfl f83 (by rw [info_V3]; rfl) Try.underlying26 rfl ?_))
  clear f83 hV85 f86
  (try simp only [Exit.inBlock, Exit.then])
  exact bodyPost_ret (res_c rfl _ _ (w.heap.size + 1 + 1) #[.float .f64 p0.lo, .float .f64 p0.hi, .float .f64 p1.lo, .float .f64 p1.hi, .float .f64 p2.lo, .float .f64 p2.hi] rfl (kb K89 D92) (by rw [info_V3]; rfl) Try.underlying26 rfl) rfl ⟨rfl, below_step HB91.out D92.out⟩
set_option maxRecDepth 100000 in
set_option maxHeartbeats 8000000 in
theorem vAdd_any (a b : V3) (w : World) : Calls Try.prog 39 #[Value.agg #[.float .f64 a.x.lo, .float .f64 a.x.hi, .float .f64 a.y.lo, .float .f64 a.y.hi, .float .f64 a.z.lo, .float .f64 a.z.hi], Value.agg #[.float .f64 b.x.lo, .float .f64 b.x.hi, .float .f64 b.y.lo, .float .f64 b.y.hi, .float .f64 b.z.lo, .float .f64 b.z.hi]] w fun r w' => r = .returned (vval (vAdd a b)) ∧ Below w.heap.size w w' := by
  have C0 := Lib.hid (fun w => each_add a b w)
  obtain ⟨p0, hp0⟩ : ∃ z_, vAdd a b = z_ := ⟨_, rfl⟩
  rw [hp0] at C0
  have hT : vAdd a b = p0 := by
    subst hp0; rfl
  rw [hT]
  clear hT
  clear hp0
  go_enter Try.func39, Try.ntmps39
  go_wp2_with (first | (refine wl_load (by kernel_rfl) rfl rfl (((Blk.new_at _ _ _ rfl).alloc _).alloc _) (by rw [info_V3]; rfl) Try.underlying26 rfl ?_) | (refine wl_load (by kernel_rfl) rfl rfl ((Blk.new_at _ _ _ (by simp)).alloc _) (by rw [info_V3]; rfl) Try.underlying26 rfl ?_))
  obtain ⟨W, hW, K0, K1, K2, hB, hz⟩ := bx3 w 26 26 26 (vc a) (vc b) #[.float .f64 0, .float .f64 0, .float .f64 0, .float .f64 0, .float .f64 0, .float .f64 0]
  rw [← hW]
  have K0 := Lib.hid K0
  have K1 := Lib.hid K1
  have K2 := Lib.hid K2
  have HB := Lib.hid hB
  clear hW hB hz
  have D1 := dr W
  refine (C0.out _).mono ?_
  rintro r w2 ⟨rfl, hb⟩
  have D3 := ds D1 hb
  clear D1
  clear hb
  have f6 := (kb K2 D3)
  obtain ⟨V4, hV5⟩ : ∃ V, World.setRow w2 (w.heap.size + 1 + 1) (vc p0) = V := ⟨_, rfl⟩
  have K7 := kfr hV5 K0 D3 (by omega)
  have K8 := kfr hV5 K1 D3 (by omega)
  have K9 := ksr hV5 K2 D3
  have HB10 := hbr hV5 HB D3 (by omega)
  have D11 := dr V4
  clear K0 K1 K2 HB D3
  go_wp2_with (refine wpList_store_row rfl 26 _ _ rfl (w.heap.size + 1 + 1) (vc p0) rfl rfl _ _ f6 (by rw [info_V3]; rfl) rfl (by kernel_rfl) ?_; rw [hV5])
  clear hV5 f6
  (try simp only [Exit.inBlock, Exit.then])
  exact bodyPost_ret (res_c rfl _ _ (w.heap.size + 1 + 1) (vc p0) rfl (kb K9 D11) (by rw [info_V3]; rfl) Try.underlying26 rfl) rfl ⟨rfl, below_step HB10.out D11.out⟩
set_option maxRecDepth 100000 in
set_option maxHeartbeats 8000000 in
theorem each_mul (a b : V3) (w : World) : Calls Try.prog 84 #[Value.agg #[.float .f64 a.x.lo, .float .f64 a.x.hi, .float .f64 a.y.lo, .float .f64 a.y.hi, .float .f64 a.z.lo, .float .f64 a.z.hi], Value.agg #[.float .f64 b.x.lo, .float .f64 b.x.hi, .float .f64 b.y.lo, .float .f64 b.y.hi, .float .f64 b.z.lo, .float .f64 b.z.hi], Value.func (Fn.func 78) #[] #[]] w fun r w' => r = .returned (vval (vMul a b)) ∧ Below w.heap.size w w' := by
  have C0 := Lib.hid (fun w => mul_sp a.x b.x w)
  obtain ⟨p0, hp0⟩ : ∃ z_, mulS a.x b.x = z_ := ⟨_, rfl⟩
  rw [hp0] at C0
  have C1 := Lib.hid (fun w => mul_sp a.y b.y w)
  obtain ⟨p1, hp1⟩ : ∃ z_, mulS a.y b.y = z_ := ⟨_, rfl⟩
  rw [hp1] at C1
  have C2 := Lib.hid (fun w => mul_sp a.z b.z w)
  obtain ⟨p2, hp2⟩ : ∃ z_, mulS a.z b.z = z_ := ⟨_, rfl⟩
  rw [hp2] at C2
  have hT : vMul a b = (⟨p0, p1, p2⟩ : V3) := by
    subst hp0 hp1 hp2; rfl
  rw [hT]
  clear hT
  clear hp0 hp1 hp2
  go_enter Try.func84, Try.ntmps84
  go_wp2_with fail
  obtain ⟨W, hW, K0, K1, K2, K3, hB, hz⟩ := bx4 w 26 26 26 26 (vc a) (vc b) #[.float .f64 0, .float .f64 0, .float .f64 0, .float .f64 0, .float .f64 0, .float .f64 0] #[.float .f64 0, .float .f64 0, .float .f64 0, .float .f64 0, .float .f64 0, .float .f64 0]
  rw [← hW]
  have K0 := Lib.hid K0
  have K1 := Lib.hid K1
  have K2 := Lib.hid K2
  have K3 := Lib.hid K3
  have HB := Lib.hid hB
  clear hW hB hz
  have D1 := dr W
  go_wp2_with fail
  refine wp_loop_rounds 4 ?_
  rw [rounds_succ]
  go_wp2_with fail
  refine wp_region_held (S := (fun w' => True ∧ CellsL w' (w.heap.size) 0 [.float .f64 a.x.lo, .float .f64 a.x.hi] ∧ CellsL w' (w.heap.size + 1) 0 [.float .f64 b.x.lo, .float .f64 b.x.hi])) (by kernel_rfl) ?_
  change wpAnyH _ _ _ _ _ _ _ _ (World.drew _)
  obtain ⟨wd2, hwd⟩ : ∃ x, x = World.drew W := ⟨_, rfl⟩
  rw [← hwd]
  have D3 := Lib.hid (hwd ▸ Below.drew D1.out : Below W.heap.size W wd2)
  clear D1 hwd
  have hS4 : True ∧ CellsL wd2 (w.heap.size) 0 [.float .f64 a.x.lo, .float .f64 a.x.hi] ∧ CellsL wd2 (w.heap.size + 1) 0 [.float .f64 b.x.lo, .float .f64 b.x.hi] := ⟨trivial, (kb K0 D3).cellsL 0 [.float .f64 a.x.lo, .float .f64 a.x.hi] rfl, (kb K1 D3).cellsL 0 [.float .f64 b.x.lo, .float .f64 b.x.hi] rfl⟩
  refine tk 0 (bm 11 1) ?vq5 ?aq5 rfl (by kernel_rfl) (fun _ _ _ h => h) (by kernel_rfl) ?hq5 ?pq5 hS4 ?rq5
  case hq5 => (intro w hS; go_simp; try with_reducible rfl)
  case pq5 => (go_simp; try with_reducible rfl)
  refine tk 1 (bm 11 3) ?vq6 ?aq6 rfl (by kernel_rfl) (fun _ _ _ h => h) (by kernel_rfl) ?hq6 ?pq6 hS4 ?rq6
  case hq6 => (intro w hS; go_simp; try with_reducible rfl)
  case pq6 => (go_simp; try with_reducible rfl)
  refine tk 2 (bm 11 7) ?vq7 ?aq7 rfl (by kernel_rfl) (fun _ _ _ h => h) (by kernel_rfl) ?hq7 ?pq7 hS4 ?rq7
  case hq7 => (intro w hS; go_simp; try with_reducible rfl)
  case pq7 => (go_simp; try with_reducible rfl)
  refine tk 3 (bm 11 15) ?vq8 ?aq8 rfl (by kernel_rfl) (fun _ _ _ h => h) (by kernel_rfl) ?hq8 ?pq8 hS4 ?rq8
  case hq8 => (intro w hS; go_simp; try with_reducible rfl)
  case pq8 => (go_simp; try with_reducible rfl)
  refine tk 4 (bm 11 31) ?vq9 ?aq9 rfl (by kernel_rfl) (fun _ _ _ h => h) (by kernel_rfl) ?hq9 ?pq9 hS4 ?rq9
  case hq9 => (intro w hS; dsimp only [CellsL, al, vl, Nat.reduceAdd] at hS; go_simp; try with_reducible rfl)
  case pq9 => (go_simp; try with_reducible rfl)
  refine tk 5 (bm 11 63) ?vq10 ?aq10 rfl (by kernel_rfl) (fun _ _ _ h => h) (by kernel_rfl) ?hq10 ?pq10 hS4 ?rq10
  case hq10 => (intro w hS; go_simp; try with_reducible rfl)
  case pq10 => (go_simp; try with_reducible rfl)
  refine tk 6 (bm 11 127) ?vq11 ?aq11 rfl (by kernel_rfl) (fun _ _ _ h => h) (by kernel_rfl) ?hq11 ?pq11 hS4 ?rq11
  case hq11 => (intro w hS; go_simp; try with_reducible rfl)
  case pq11 => (go_simp; try with_reducible rfl)
  refine tk 7 (bm 11 255) ?vq12 ?aq12 rfl (by kernel_rfl) (fun _ _ _ h => h) (by kernel_rfl) ?hq12 ?pq12 hS4 ?rq12
  case hq12 => (intro w hS; dsimp only [CellsL, al, vl, Nat.reduceAdd] at hS; go_simp; try with_reducible rfl)
  case pq12 => (go_simp; try with_reducible rfl)
  refine wpAnyH_oneN (i := 8) (l' := bm 11 511) rfl (by kernel_rfl) (by kernel_rfl) (by kernel_rfl) (fun K hK => ?_)
  go_simp
  go_at_call 78
  refine (C0.out _).mono ?_
  rintro r w13 ⟨rfl, hb⟩
  dsimp only
  have D14 := ds D3 hb
  clear D3
  clear hb
  have hS15 : True ∧ CellsL w13 (w.heap.size) 0 [.float .f64 a.x.lo, .float .f64 a.x.hi] ∧ CellsL w13 (w.heap.size + 1) 0 [.float .f64 b.x.lo, .float .f64 b.x.hi] := ⟨trivial, (kb K0 D14).cellsL 0 [.float .f64 a.x.lo, .float .f64 a.x.hi] rfl, (kb K1 D14).cellsL 0 [.float .f64 b.x.lo, .float .f64 b.x.hi] rfl⟩
  refine hK _ _ hS15 ?_
  clear hK K hS4
  refine tk 9 (bm 11 1023) ?vq16 ?aq16 rfl (by kernel_rfl) (fun _ _ _ h => h) (by kernel_rfl) ?hq16 ?pq16 hS15 ?rq16
  case hq16 => (intro w hS; go_simp; try with_reducible rfl)
  case pq16 => (go_simp; try with_reducible rfl)
  refine wpAnyH_oneN (i := 10) (l' := bm 11 2047) rfl (by kernel_rfl) (by kernel_rfl) (by kernel_rfl) (fun K hK => ?_)
  have f19 := (kb K3 D14).cellsL 0 [.float .f64 0, .float .f64 0] rfl
  dsimp only [CellsL, al, vl, Nat.reduceAdd] at f19
  have u20 := (kb K3 D14).unfrozen
  obtain ⟨V17, hV18⟩ : ∃ V, setCells w13 (w.heap.size + 1 + 1 + 1) 0 [.float .f64 p0.lo, .float .f64 p0.hi] = V := ⟨_, rfl⟩
  have hv21 := hV18
  simp only [setCells, Nat.reduceAdd] at hv21
  have K22 := kf hV18 K0 D14 (by omega)
  have K23 := kf hV18 K1 D14 (by omega)
  have K24 := kf hV18 K2 D14 (by omega)
  have K25 := Lib.hid (show Blk V17 (w.heap.size + 1 + 1 + 1) 26 #[.float .f64 p0.lo, .float .f64 p0.hi, .float .f64 0, .float .f64 0, .float .f64 0, .float .f64 0] from (ks hV18 K3 D14).out)
  have HB26 := hbs hV18 HB D14 (by omega)
  have D27 := dr V17
  clear K0 K1 K2 K3 HB D14
  go_simp
  clear hV18 f19 u20 hv21
  have hS28 : True ∧ CellsL V17 (w.heap.size) 0 [.float .f64 a.x.lo, .float .f64 a.x.hi] ∧ CellsL V17 (w.heap.size + 1) 0 [.float .f64 b.x.lo, .float .f64 b.x.hi] := ⟨trivial, (kb K22 D27).cellsL 0 [.float .f64 a.x.lo, .float .f64 a.x.hi] rfl, (kb K23 D27).cellsL 0 [.float .f64 b.x.lo, .float .f64 b.x.hi] rfl⟩
  refine hK _ _ hS28 ?_
  clear hK K hS15
  refine wpAnyH_done (by kernel_rfl) ?_ _
  clear hS28
  go_wp2_with fail
  rw [rounds_succ]
  go_wp2_with fail
  refine wp_region_held (S := (fun w' => True ∧ CellsL w' (w.heap.size) 2 [.float .f64 a.y.lo, .float .f64 a.y.hi] ∧ CellsL w' (w.heap.size + 1) 2 [.float .f64 b.y.lo, .float .f64 b.y.hi])) (by kernel_rfl) ?_
  change wpAnyH _ _ _ _ _ _ _ _ (World.drew _)
  obtain ⟨wd29, hwd⟩ : ∃ x, x = World.drew V17 := ⟨_, rfl⟩
  rw [← hwd]
  have D30 := Lib.hid (hwd ▸ Below.drew D27.out : Below V17.heap.size V17 wd29)
  clear D27 hwd
  have hS31 : True ∧ CellsL wd29 (w.heap.size) 2 [.float .f64 a.y.lo, .float .f64 a.y.hi] ∧ CellsL wd29 (w.heap.size + 1) 2 [.float .f64 b.y.lo, .float .f64 b.y.hi] := ⟨trivial, (kb K22 D30).cellsL 2 [.float .f64 a.y.lo, .float .f64 a.y.hi] rfl, (kb K23 D30).cellsL 2 [.float .f64 b.y.lo, .float .f64 b.y.hi] rfl⟩
  refine tk 0 (bm 11 1) ?vq32 ?aq32 rfl (by kernel_rfl) (fun _ _ _ h => h) (by kernel_rfl) ?hq32 ?pq32 hS31 ?rq32
  case hq32 => (intro w hS; go_simp; try with_reducible rfl)
  case pq32 => (go_simp; try with_reducible rfl)
  refine tk 1 (bm 11 3) ?vq33 ?aq33 rfl (by kernel_rfl) (fun _ _ _ h => h) (by kernel_rfl) ?hq33 ?pq33 hS31 ?rq33
  case hq33 => (intro w hS; go_simp; try with_reducible rfl)
  case pq33 => (go_simp; try with_reducible rfl)
  refine tk 2 (bm 11 7) ?vq34 ?aq34 rfl (by kernel_rfl) (fun _ _ _ h => h) (by kernel_rfl) ?hq34 ?pq34 hS31 ?rq34
  case hq34 => (intro w hS; go_simp; try with_reducible rfl)
  case pq34 => (go_simp; try with_reducible rfl)
  refine tk 3 (bm 11 15) ?vq35 ?aq35 rfl (by kernel_rfl) (fun _ _ _ h => h) (by kernel_rfl) ?hq35 ?pq35 hS31 ?rq35
  case hq35 => (intro w hS; go_simp; try with_reducible rfl)
  case pq35 => (go_simp; try with_reducible rfl)
  refine tk 4 (bm 11 31) ?vq36 ?aq36 rfl (by kernel_rfl) (fun _ _ _ h => h) (by kernel_rfl) ?hq36 ?pq36 hS31 ?rq36
  case hq36 => (intro w hS; dsimp only [CellsL, al, vl, Nat.reduceAdd] at hS; go_simp; try with_reducible rfl)
  case pq36 => (go_simp; try with_reducible rfl)
  refine tk 5 (bm 11 63) ?vq37 ?aq37 rfl (by kernel_rfl) (fun _ _ _ h => h) (by kernel_rfl) ?hq37 ?pq37 hS31 ?rq37
  case hq37 => (intro w hS; go_simp; try with_reducible rfl)
  case pq37 => (go_simp; try with_reducible rfl)
  refine tk 6 (bm 11 127) ?vq38 ?aq38 rfl (by kernel_rfl) (fun _ _ _ h => h) (by kernel_rfl) ?hq38 ?pq38 hS31 ?rq38
  case hq38 => (intro w hS; go_simp; try with_reducible rfl)
  case pq38 => (go_simp; try with_reducible rfl)
  refine tk 7 (bm 11 255) ?vq39 ?aq39 rfl (by kernel_rfl) (fun _ _ _ h => h) (by kernel_rfl) ?hq39 ?pq39 hS31 ?rq39
  case hq39 => (intro w hS; dsimp only [CellsL, al, vl, Nat.reduceAdd] at hS; go_simp; try with_reducible rfl)
  case pq39 => (go_simp; try with_reducible rfl)
  refine wpAnyH_oneN (i := 8) (l' := bm 11 511) rfl (by kernel_rfl) (by kernel_rfl) (by kernel_rfl) (fun K hK => ?_)
  go_simp
  go_at_call 78
  refine (C1.out _).mono ?_
  rintro r w40 ⟨rfl, hb⟩
  dsimp only
  have D41 := ds D30 hb
  clear D30
  clear hb
  have hS42 : True ∧ CellsL w40 (w.heap.size) 2 [.float .f64 a.y.lo, .float .f64 a.y.hi] ∧ CellsL w40 (w.heap.size + 1) 2 [.float .f64 b.y.lo, .float .f64 b.y.hi] := ⟨trivial, (kb K22 D41).cellsL 2 [.float .f64 a.y.lo, .float .f64 a.y.hi] rfl, (kb K23 D41).cellsL 2 [.float .f64 b.y.lo, .float .f64 b.y.hi] rfl⟩
  refine hK _ _ hS42 ?_
  clear hK K hS31
  refine tk 9 (bm 11 1023) ?vq43 ?aq43 rfl (by kernel_rfl) (fun _ _ _ h => h) (by kernel_rfl) ?hq43 ?pq43 hS42 ?rq43
  case hq43 => (intro w hS; go_simp; try with_reducible rfl)
  case pq43 => (go_simp; try with_reducible rfl)
  refine wpAnyH_oneN (i := 10) (l' := bm 11 2047) rfl (by kernel_rfl) (by kernel_rfl) (by kernel_rfl) (fun K hK => ?_)
  have f46 := (kb K25 D41).cellsL 2 [.float .f64 0, .float .f64 0] rfl
  dsimp only [CellsL, al, vl, Nat.reduceAdd] at f46
  have u47 := (kb K25 D41).unfrozen
  obtain ⟨V44, hV45⟩ : ∃ V, setCells w40 (w.heap.size + 1 + 1 + 1) 2 [.float .f64 p1.lo, .float .f64 p1.hi] = V := ⟨_, rfl⟩
  have hv48 := hV45
  simp only [setCells, Nat.reduceAdd] at hv48
  have K49 := kf hV45 K22 D41 (by omega)
  have K50 := kf hV45 K23 D41 (by omega)
  have K51 := kf hV45 K24 D41 (by omega)
  have K52 := Lib.hid (show Blk V44 (w.heap.size + 1 + 1 + 1) 26 #[.float .f64 p0.lo, .float .f64 p0.hi, .float .f64 p1.lo, .float .f64 p1.hi, .float .f64 0, .float .f64 0] from (ks hV45 K25 D41).out)
  have HB53 := hbs hV45 HB26 D41 (by omega)
  have D54 := dr V44
  clear K22 K23 K24 K25 HB26 D41
  go_simp
  clear hV45 f46 u47 hv48
  have hS55 : True ∧ CellsL V44 (w.heap.size) 2 [.float .f64 a.y.lo, .float .f64 a.y.hi] ∧ CellsL V44 (w.heap.size + 1) 2 [.float .f64 b.y.lo, .float .f64 b.y.hi] := ⟨trivial, (kb K49 D54).cellsL 2 [.float .f64 a.y.lo, .float .f64 a.y.hi] rfl, (kb K50 D54).cellsL 2 [.float .f64 b.y.lo, .float .f64 b.y.hi] rfl⟩
  refine hK _ _ hS55 ?_
  clear hK K hS42
  refine wpAnyH_done (by kernel_rfl) ?_ _
  clear hS55
  go_wp2_with fail
  rw [rounds_succ]
  go_wp2_with fail
  refine wp_region_held (S := (fun w' => True ∧ CellsL w' (w.heap.size) 4 [.float .f64 a.z.lo, .float .f64 a.z.hi] ∧ CellsL w' (w.heap.size + 1) 4 [.float .f64 b.z.lo, .float .f64 b.z.hi])) (by kernel_rfl) ?_
  change wpAnyH _ _ _ _ _ _ _ _ (World.drew _)
  obtain ⟨wd56, hwd⟩ : ∃ x, x = World.drew V44 := ⟨_, rfl⟩
  rw [← hwd]
  have D57 := Lib.hid (hwd ▸ Below.drew D54.out : Below V44.heap.size V44 wd56)
  clear D54 hwd
  have hS58 : True ∧ CellsL wd56 (w.heap.size) 4 [.float .f64 a.z.lo, .float .f64 a.z.hi] ∧ CellsL wd56 (w.heap.size + 1) 4 [.float .f64 b.z.lo, .float .f64 b.z.hi] := ⟨trivial, (kb K49 D57).cellsL 4 [.float .f64 a.z.lo, .float .f64 a.z.hi] rfl, (kb K50 D57).cellsL 4 [.float .f64 b.z.lo, .float .f64 b.z.hi] rfl⟩
  refine tk 0 (bm 11 1) ?vq59 ?aq59 rfl (by kernel_rfl) (fun _ _ _ h => h) (by kernel_rfl) ?hq59 ?pq59 hS58 ?rq59
  case hq59 => (intro w hS; go_simp; try with_reducible rfl)
  case pq59 => (go_simp; try with_reducible rfl)
  refine tk 1 (bm 11 3) ?vq60 ?aq60 rfl (by kernel_rfl) (fun _ _ _ h => h) (by kernel_rfl) ?hq60 ?pq60 hS58 ?rq60
  case hq60 => (intro w hS; go_simp; try with_reducible rfl)
  case pq60 => (go_simp; try with_reducible rfl)
  refine tk 2 (bm 11 7) ?vq61 ?aq61 rfl (by kernel_rfl) (fun _ _ _ h => h) (by kernel_rfl) ?hq61 ?pq61 hS58 ?rq61
  case hq61 => (intro w hS; go_simp; try with_reducible rfl)
  case pq61 => (go_simp; try with_reducible rfl)
  refine tk 3 (bm 11 15) ?vq62 ?aq62 rfl (by kernel_rfl) (fun _ _ _ h => h) (by kernel_rfl) ?hq62 ?pq62 hS58 ?rq62
  case hq62 => (intro w hS; go_simp; try with_reducible rfl)
  case pq62 => (go_simp; try with_reducible rfl)
  refine tk 4 (bm 11 31) ?vq63 ?aq63 rfl (by kernel_rfl) (fun _ _ _ h => h) (by kernel_rfl) ?hq63 ?pq63 hS58 ?rq63
  case hq63 => (intro w hS; dsimp only [CellsL, al, vl, Nat.reduceAdd] at hS; go_simp; try with_reducible rfl)
  case pq63 => (go_simp; try with_reducible rfl)
  refine tk 5 (bm 11 63) ?vq64 ?aq64 rfl (by kernel_rfl) (fun _ _ _ h => h) (by kernel_rfl) ?hq64 ?pq64 hS58 ?rq64
  case hq64 => (intro w hS; go_simp; try with_reducible rfl)
  case pq64 => (go_simp; try with_reducible rfl)
  refine tk 6 (bm 11 127) ?vq65 ?aq65 rfl (by kernel_rfl) (fun _ _ _ h => h) (by kernel_rfl) ?hq65 ?pq65 hS58 ?rq65
  case hq65 => (intro w hS; go_simp; try with_reducible rfl)
  case pq65 => (go_simp; try with_reducible rfl)
  refine tk 7 (bm 11 255) ?vq66 ?aq66 rfl (by kernel_rfl) (fun _ _ _ h => h) (by kernel_rfl) ?hq66 ?pq66 hS58 ?rq66
  case hq66 => (intro w hS; dsimp only [CellsL, al, vl, Nat.reduceAdd] at hS; go_simp; try with_reducible rfl)
  case pq66 => (go_simp; try with_reducible rfl)
  refine wpAnyH_oneN (i := 8) (l' := bm 11 511) rfl (by kernel_rfl) (by kernel_rfl) (by kernel_rfl) (fun K hK => ?_)
  go_simp
  go_at_call 78
  refine (C2.out _).mono ?_
  rintro r w67 ⟨rfl, hb⟩
  dsimp only
  have D68 := ds D57 hb
  clear D57
  clear hb
  have hS69 : True ∧ CellsL w67 (w.heap.size) 4 [.float .f64 a.z.lo, .float .f64 a.z.hi] ∧ CellsL w67 (w.heap.size + 1) 4 [.float .f64 b.z.lo, .float .f64 b.z.hi] := ⟨trivial, (kb K49 D68).cellsL 4 [.float .f64 a.z.lo, .float .f64 a.z.hi] rfl, (kb K50 D68).cellsL 4 [.float .f64 b.z.lo, .float .f64 b.z.hi] rfl⟩
  refine hK _ _ hS69 ?_
  clear hK K hS58
  refine tk 9 (bm 11 1023) ?vq70 ?aq70 rfl (by kernel_rfl) (fun _ _ _ h => h) (by kernel_rfl) ?hq70 ?pq70 hS69 ?rq70
  case hq70 => (intro w hS; go_simp; try with_reducible rfl)
  case pq70 => (go_simp; try with_reducible rfl)
  refine wpAnyH_oneN (i := 10) (l' := bm 11 2047) rfl (by kernel_rfl) (by kernel_rfl) (by kernel_rfl) (fun K hK => ?_)
  have f73 := (kb K52 D68).cellsL 4 [.float .f64 0, .float .f64 0] rfl
  dsimp only [CellsL, al, vl, Nat.reduceAdd] at f73
  have u74 := (kb K52 D68).unfrozen
  obtain ⟨V71, hV72⟩ : ∃ V, setCells w67 (w.heap.size + 1 + 1 + 1) 4 [.float .f64 p2.lo, .float .f64 p2.hi] = V := ⟨_, rfl⟩
  have hv75 := hV72
  simp only [setCells, Nat.reduceAdd] at hv75
  have K76 := kf hV72 K49 D68 (by omega)
  have K77 := kf hV72 K50 D68 (by omega)
  have K78 := kf hV72 K51 D68 (by omega)
  have K79 := Lib.hid (show Blk V71 (w.heap.size + 1 + 1 + 1) 26 #[.float .f64 p0.lo, .float .f64 p0.hi, .float .f64 p1.lo, .float .f64 p1.hi, .float .f64 p2.lo, .float .f64 p2.hi] from (ks hV72 K52 D68).out)
  have HB80 := hbs hV72 HB53 D68 (by omega)
  have D81 := dr V71
  clear K49 K50 K51 K52 HB53 D68
  go_simp
  clear hV72 f73 u74 hv75
  have hS82 : True ∧ CellsL V71 (w.heap.size) 4 [.float .f64 a.z.lo, .float .f64 a.z.hi] ∧ CellsL V71 (w.heap.size + 1) 4 [.float .f64 b.z.lo, .float .f64 b.z.hi] := ⟨trivial, (kb K76 D81).cellsL 4 [.float .f64 a.z.lo, .float .f64 a.z.hi] rfl, (kb K77 D81).cellsL 4 [.float .f64 b.z.lo, .float .f64 b.z.hi] rfl⟩
  refine hK _ _ hS82 ?_
  clear hK K hS69
  refine wpAnyH_done (by kernel_rfl) ?_ _
  clear hS82
  go_wp2_with fail
  rw [rounds_succ]
  have f83 := (kb K79 D81)
  have f86 := (kb K78 D81)
  obtain ⟨V84, hV85⟩ : ∃ V, World.setRow V71 (w.heap.size + 1 + 1) #[.float .f64 p0.lo, .float .f64 p0.hi, .float .f64 p1.lo, .float .f64 p1.hi, .float .f64 p2.lo, .float .f64 p2.hi] = V := ⟨_, rfl⟩
  have K87 := kfr hV85 K76 D81 (by omega)
  have K88 := kfr hV85 K77 D81 (by omega)
  have K89 := ksr hV85 K78 D81
  have K90 := kfr hV85 K79 D81 (by omega)
  have HB91 := hbr hV85 HB80 D81 (by omega)
  have D92 := dr V84
  clear K76 K77 K78 K79 HB80 D81
  go_wp2_with (first | (refine wpList_store_row rfl 26 _ _ rfl (w.heap.size + 1 + 1) #[.float .f64 p0.lo, .float .f64 p0.hi, .float .f64 p1.lo, .float .f64 p1.hi, .float .f64 p2.lo, .float .f64 p2.hi] rfl rfl _ _ f86 (by rw [info_V3]; rfl) rfl (by kernel_rfl) ?_; rw [hV85]) | (refine wl_load (by kernel_rfl) rfl rfl f83 (by rw [info_V3]; rfl) Try.underlying26 rfl ?_))
  clear f83 hV85 f86
  (try simp only [Exit.inBlock, Exit.then])
  exact bodyPost_ret (res_c rfl _ _ (w.heap.size + 1 + 1) #[.float .f64 p0.lo, .float .f64 p0.hi, .float .f64 p1.lo, .float .f64 p1.hi, .float .f64 p2.lo, .float .f64 p2.hi] rfl (kb K89 D92) (by rw [info_V3]; rfl) Try.underlying26 rfl) rfl ⟨rfl, below_step HB91.out D92.out⟩
set_option maxRecDepth 100000 in
set_option maxHeartbeats 8000000 in
theorem vMul_any (a b : V3) (w : World) : Calls Try.prog 40 #[Value.agg #[.float .f64 a.x.lo, .float .f64 a.x.hi, .float .f64 a.y.lo, .float .f64 a.y.hi, .float .f64 a.z.lo, .float .f64 a.z.hi], Value.agg #[.float .f64 b.x.lo, .float .f64 b.x.hi, .float .f64 b.y.lo, .float .f64 b.y.hi, .float .f64 b.z.lo, .float .f64 b.z.hi]] w fun r w' => r = .returned (vval (vMul a b)) ∧ Below w.heap.size w w' := by
  have C0 := Lib.hid (fun w => each_mul a b w)
  obtain ⟨p0, hp0⟩ : ∃ z_, vMul a b = z_ := ⟨_, rfl⟩
  rw [hp0] at C0
  have hT : vMul a b = p0 := by
    subst hp0; rfl
  rw [hT]
  clear hT
  clear hp0
  go_enter Try.func40, Try.ntmps40
  go_wp2_with (first | (refine wl_load (by kernel_rfl) rfl rfl (((Blk.new_at _ _ _ rfl).alloc _).alloc _) (by rw [info_V3]; rfl) Try.underlying26 rfl ?_) | (refine wl_load (by kernel_rfl) rfl rfl ((Blk.new_at _ _ _ (by simp)).alloc _) (by rw [info_V3]; rfl) Try.underlying26 rfl ?_))
  obtain ⟨W, hW, K0, K1, K2, hB, hz⟩ := bx3 w 26 26 26 (vc a) (vc b) #[.float .f64 0, .float .f64 0, .float .f64 0, .float .f64 0, .float .f64 0, .float .f64 0]
  rw [← hW]
  have K0 := Lib.hid K0
  have K1 := Lib.hid K1
  have K2 := Lib.hid K2
  have HB := Lib.hid hB
  clear hW hB hz
  have D1 := dr W
  refine (C0.out _).mono ?_
  rintro r w2 ⟨rfl, hb⟩
  have D3 := ds D1 hb
  clear D1
  clear hb
  have f6 := (kb K2 D3)
  obtain ⟨V4, hV5⟩ : ∃ V, World.setRow w2 (w.heap.size + 1 + 1) (vc p0) = V := ⟨_, rfl⟩
  have K7 := kfr hV5 K0 D3 (by omega)
  have K8 := kfr hV5 K1 D3 (by omega)
  have K9 := ksr hV5 K2 D3
  have HB10 := hbr hV5 HB D3 (by omega)
  have D11 := dr V4
  clear K0 K1 K2 HB D3
  go_wp2_with (refine wpList_store_row rfl 26 _ _ rfl (w.heap.size + 1 + 1) (vc p0) rfl rfl _ _ f6 (by rw [info_V3]; rfl) rfl (by kernel_rfl) ?_; rw [hV5])
  clear hV5 f6
  (try simp only [Exit.inBlock, Exit.then])
  exact bodyPost_ret (res_c rfl _ _ (w.heap.size + 1 + 1) (vc p0) rfl (kb K9 D11) (by rw [info_V3]; rfl) Try.underlying26 rfl) rfl ⟨rfl, below_step HB10.out D11.out⟩
set_option maxRecDepth 100000 in
set_option maxHeartbeats 8000000 in
theorem negV_any (a : V3) (w : World) : Calls Try.prog 38 #[Value.agg #[.float .f64 a.x.lo, .float .f64 a.x.hi, .float .f64 a.y.lo, .float .f64 a.y.hi, .float .f64 a.z.lo, .float .f64 a.z.hi]] w fun r w' => r = .returned (vval (vNeg a)) ∧ Below w.heap.size w w' := by
  have C0 := Lib.hid (fun w => neg_sp a.x w)
  obtain ⟨p0, hp0⟩ : ∃ z_, negS a.x = z_ := ⟨_, rfl⟩
  rw [hp0] at C0
  have C1 := Lib.hid (fun w => neg_sp a.y w)
  obtain ⟨p1, hp1⟩ : ∃ z_, negS a.y = z_ := ⟨_, rfl⟩
  rw [hp1] at C1
  have C2 := Lib.hid (fun w => neg_sp a.z w)
  obtain ⟨p2, hp2⟩ : ∃ z_, negS a.z = z_ := ⟨_, rfl⟩
  rw [hp2] at C2
  have hT : vNeg a = (⟨p0, p1, p2⟩ : V3) := by
    subst hp0 hp1 hp2; rfl
  rw [hT]
  clear hT
  clear hp0 hp1 hp2
  go_enter Try.func38, Try.ntmps38
  go_wp2_with fail
  obtain ⟨W, hW, K0, K1, hB, hz⟩ := bx2 w 26 26 (vc a) #[.float .f64 0, .float .f64 0, .float .f64 0, .float .f64 0, .float .f64 0, .float .f64 0]
  rw [← hW]
  have K0 := Lib.hid K0
  have K1 := Lib.hid K1
  have HB := Lib.hid hB
  clear hW hB hz
  have D1 := dr W
  refine wp_region_held (S := (fun w' => True ∧ CellsL w' (w.heap.size) 0 (vl a))) (by kernel_rfl) ?_
  change wpAnyH _ _ _ _ _ _ _ _ (World.drew _)
  obtain ⟨wd2, hwd⟩ : ∃ x, x = World.drew W := ⟨_, rfl⟩
  rw [← hwd]
  have D3 := Lib.hid (hwd ▸ Below.drew D1.out : Below W.heap.size W wd2)
  clear D1 hwd
  have hS4 : True ∧ CellsL wd2 (w.heap.size) 0 (vl a) := ⟨trivial, (kb K0 D3).cellsL 0 (vl a) rfl⟩
  refine tk 0 (bm 11 1) ?vq5 ?aq5 rfl (by kernel_rfl) (fun _ _ _ h => h) (by kernel_rfl) ?hq5 ?pq5 hS4 ?rq5
  case hq5 => (intro w hS; go_simp; try with_reducible rfl)
  case pq5 => (go_simp; try with_reducible rfl)
  refine tk 1 (bm 11 3) ?vq6 ?aq6 rfl (by kernel_rfl) (fun _ _ _ h => h) (by kernel_rfl) ?hq6 ?pq6 hS4 ?rq6
  case hq6 => (intro w hS; dsimp only [CellsL, al, vl, Nat.reduceAdd] at hS; go_simp; try with_reducible rfl)
  case pq6 => (go_simp; try with_reducible rfl)
  refine tk 3 (bm 11 11) ?vq7 ?aq7 rfl (by kernel_rfl) (fun _ _ _ h => h) (by kernel_rfl) ?hq7 ?pq7 hS4 ?rq7
  case hq7 => (intro w hS; go_simp; try with_reducible rfl)
  case pq7 => (go_simp; try with_reducible rfl)
  refine tk 4 (bm 11 27) ?vq8 ?aq8 rfl (by kernel_rfl) (fun _ _ _ h => h) (by kernel_rfl) ?hq8 ?pq8 hS4 ?rq8
  case hq8 => (intro w hS; dsimp only [CellsL, al, vl, Nat.reduceAdd] at hS; go_simp; try with_reducible rfl)
  case pq8 => (go_simp; try with_reducible rfl)
  refine tk 6 (bm 11 91) ?vq9 ?aq9 rfl (by kernel_rfl) (fun _ _ _ h => h) (by kernel_rfl) ?hq9 ?pq9 hS4 ?rq9
  case hq9 => (intro w hS; go_simp; try with_reducible rfl)
  case pq9 => (go_simp; try with_reducible rfl)
  refine tk 7 (bm 11 219) ?vq10 ?aq10 rfl (by kernel_rfl) (fun _ _ _ h => h) (by kernel_rfl) ?hq10 ?pq10 hS4 ?rq10
  case hq10 => (intro w hS; dsimp only [CellsL, al, vl, Nat.reduceAdd] at hS; go_simp; try with_reducible rfl)
  case pq10 => (go_simp; try with_reducible rfl)
  refine wpAnyH_oneN (i := 2) (l' := bm 11 223) rfl (by kernel_rfl) (by kernel_rfl) (by kernel_rfl) (fun K hK => ?_)
  go_simp
  go_at_call 83
  refine (C0.out _).mono ?_
  rintro r w11 ⟨rfl, hb⟩
  dsimp only
  have D12 := ds D3 hb
  clear D3
  clear hb
  have hS13 : True ∧ CellsL w11 (w.heap.size) 0 (vl a) := ⟨trivial, (kb K0 D12).cellsL 0 (vl a) rfl⟩
  refine hK _ _ hS13 ?_
  clear hK K hS4
  refine wpAnyH_oneN (i := 5) (l' := bm 11 255) rfl (by kernel_rfl) (by kernel_rfl) (by kernel_rfl) (fun K hK => ?_)
  go_simp
  go_at_call 83
  refine (C1.out _).mono ?_
  rintro r w14 ⟨rfl, hb⟩
  dsimp only
  have D15 := ds D12 hb
  clear D12
  clear hb
  have hS16 : True ∧ CellsL w14 (w.heap.size) 0 (vl a) := ⟨trivial, (kb K0 D15).cellsL 0 (vl a) rfl⟩
  refine hK _ _ hS16 ?_
  clear hK K hS13
  refine wpAnyH_oneN (i := 8) (l' := bm 11 511) rfl (by kernel_rfl) (by kernel_rfl) (by kernel_rfl) (fun K hK => ?_)
  go_simp
  go_at_call 83
  refine (C2.out _).mono ?_
  rintro r w17 ⟨rfl, hb⟩
  dsimp only
  have D18 := ds D15 hb
  clear D15
  clear hb
  have hS19 : True ∧ CellsL w17 (w.heap.size) 0 (vl a) := ⟨trivial, (kb K0 D18).cellsL 0 (vl a) rfl⟩
  refine hK _ _ hS19 ?_
  clear hK K hS16
  refine tk 9 (bm 11 1023) ?vq20 ?aq20 rfl (by kernel_rfl) (fun _ _ _ h => h) (by kernel_rfl) ?hq20 ?pq20 hS19 ?rq20
  case hq20 => (intro w hS; go_simp; try with_reducible rfl)
  case pq20 => (go_simp; try with_reducible rfl)
  refine wpAnyH_oneN (i := 10) (l' := bm 11 2047) rfl (by kernel_rfl) (by kernel_rfl) (by kernel_rfl) (fun K hK => ?_)
  have f23 := (kb K1 D18)
  obtain ⟨V21, hV22⟩ : ∃ V, World.setRow w17 (w.heap.size + 1) #[.float .f64 p0.lo, .float .f64 p0.hi, .float .f64 p1.lo, .float .f64 p1.hi, .float .f64 p2.lo, .float .f64 p2.hi] = V := ⟨_, rfl⟩
  have K24 := kfr hV22 K0 D18 (by omega)
  have K25 := ksr hV22 K1 D18
  have HB26 := hbr hV22 HB D18 (by omega)
  have D27 := dr V21
  clear K0 K1 HB D18
  refine wp_store_row 26 _ _ rfl (w.heap.size + 1) #[.float .f64 p0.lo, .float .f64 p0.hi, .float .f64 p1.lo, .float .f64 p1.hi, .float .f64 p2.lo, .float .f64 p2.hi] rfl rfl _ _ f23 (by rw [info_V3]; rfl) rfl (by kernel_rfl) ?_
  rw [hV22]
  go_simp
  clear hV22 f23
  have hS28 : True ∧ CellsL V21 (w.heap.size) 0 (vl a) := ⟨trivial, (kb K24 D27).cellsL 0 (vl a) rfl⟩
  refine hK _ _ hS28 ?_
  clear hK K hS19
  refine wpAnyH_done (by kernel_rfl) ?_ _
  clear hS28
  go_wp2_with fail
  (try simp only [Exit.inBlock, Exit.then])
  exact bodyPost_ret (res_c rfl _ _ (w.heap.size + 1) #[.float .f64 p0.lo, .float .f64 p0.hi, .float .f64 p1.lo, .float .f64 p1.hi, .float .f64 p2.lo, .float .f64 p2.hi] rfl (kb K25 D27) (by rw [info_V3]; rfl) Try.underlying26 rfl) rfl ⟨rfl, below_step HB26.out D27.out⟩
set_option maxRecDepth 100000 in
set_option maxHeartbeats 8000000 in
theorem ofV_any (t0 t1 t2 : Nat) (h0 : t0 < 18446744073709551616) (h1 : t1 < 18446744073709551616) (h2 : t2 < 18446744073709551616) (w : World) : Calls Try.prog 33 #[Value.agg #[.float .f64 t0, .float .f64 t1, .float .f64 t2]] w fun r w' => r = .returned (vval (vOf t0 t1 t2)) ∧ Below w.heap.size w w' := by
  have C0 := Lib.hid (fun w => of_sp t0 h0 w)
  obtain ⟨p0, hp0⟩ : ∃ z_, ofS t0 = z_ := ⟨_, rfl⟩
  rw [hp0] at C0
  have C1 := Lib.hid (fun w => of_sp t1 h1 w)
  obtain ⟨p1, hp1⟩ : ∃ z_, ofS t1 = z_ := ⟨_, rfl⟩
  rw [hp1] at C1
  have C2 := Lib.hid (fun w => of_sp t2 h2 w)
  obtain ⟨p2, hp2⟩ : ∃ z_, ofS t2 = z_ := ⟨_, rfl⟩
  rw [hp2] at C2
  have hT : vOf t0 t1 t2 = (⟨p0, p1, p2⟩ : V3) := by
    subst hp0 hp1 hp2; rfl
  rw [hT]
  clear hT
  clear hp0 hp1 hp2
  go_enter Try.func33, Try.ntmps33
  go_wp2_with fail
  obtain ⟨W, hW, K0, K1, hB, hz⟩ := bx2 w 38 26 #[.float .f64 t0, .float .f64 t1, .float .f64 t2] #[.float .f64 0, .float .f64 0, .float .f64 0, .float .f64 0, .float .f64 0, .float .f64 0]
  rw [← hW]
  have K0 := Lib.hid K0
  have K1 := Lib.hid K1
  have HB := Lib.hid hB
  clear hW hB hz
  have D1 := dr W
  refine wp_region_held (S := (fun w' => True ∧ CellsL w' (w.heap.size) 0 [.float .f64 t0, .float .f64 t1, .float .f64 t2])) (by kernel_rfl) ?_
  change wpAnyH _ _ _ _ _ _ _ _ (World.drew _)
  obtain ⟨wd2, hwd⟩ : ∃ x, x = World.drew W := ⟨_, rfl⟩
  rw [← hwd]
  have D3 := Lib.hid (hwd ▸ Below.drew D1.out : Below W.heap.size W wd2)
  clear D1 hwd
  have hS4 : True ∧ CellsL wd2 (w.heap.size) 0 [.float .f64 t0, .float .f64 t1, .float .f64 t2] := ⟨trivial, (kb K0 D3).cellsL 0 [.float .f64 t0, .float .f64 t1, .float .f64 t2] rfl⟩
  refine tk 0 (bm 11 1) ?vq5 ?aq5 rfl (by kernel_rfl) (fun _ _ _ h => h) (by kernel_rfl) ?hq5 ?pq5 hS4 ?rq5
  case hq5 => (intro w hS; go_simp; try with_reducible rfl)
  case pq5 => (go_simp; try with_reducible rfl)
  refine tk 1 (bm 11 3) ?vq6 ?aq6 rfl (by kernel_rfl) (fun _ _ _ h => h) (by kernel_rfl) ?hq6 ?pq6 hS4 ?rq6
  case hq6 => (intro w hS; dsimp only [CellsL, al, vl, Nat.reduceAdd] at hS; go_simp; try with_reducible rfl)
  case pq6 => (go_simp; try with_reducible rfl)
  refine tk 3 (bm 11 11) ?vq7 ?aq7 rfl (by kernel_rfl) (fun _ _ _ h => h) (by kernel_rfl) ?hq7 ?pq7 hS4 ?rq7
  case hq7 => (intro w hS; go_simp; try with_reducible rfl)
  case pq7 => (go_simp; try with_reducible rfl)
  refine tk 4 (bm 11 27) ?vq8 ?aq8 rfl (by kernel_rfl) (fun _ _ _ h => h) (by kernel_rfl) ?hq8 ?pq8 hS4 ?rq8
  case hq8 => (intro w hS; dsimp only [CellsL, al, vl, Nat.reduceAdd] at hS; go_simp; try with_reducible rfl)
  case pq8 => (go_simp; try with_reducible rfl)
  refine tk 6 (bm 11 91) ?vq9 ?aq9 rfl (by kernel_rfl) (fun _ _ _ h => h) (by kernel_rfl) ?hq9 ?pq9 hS4 ?rq9
  case hq9 => (intro w hS; go_simp; try with_reducible rfl)
  case pq9 => (go_simp; try with_reducible rfl)
  refine tk 7 (bm 11 219) ?vq10 ?aq10 rfl (by kernel_rfl) (fun _ _ _ h => h) (by kernel_rfl) ?hq10 ?pq10 hS4 ?rq10
  case hq10 => (intro w hS; dsimp only [CellsL, al, vl, Nat.reduceAdd] at hS; go_simp; try with_reducible rfl)
  case pq10 => (go_simp; try with_reducible rfl)
  refine wpAnyH_oneN (i := 2) (l' := bm 11 223) rfl (by kernel_rfl) (by kernel_rfl) (by kernel_rfl) (fun K hK => ?_)
  go_simp
  go_at_call 76
  refine (C0.out _).mono ?_
  rintro r w11 ⟨rfl, hb⟩
  dsimp only
  have D12 := ds D3 hb
  clear D3
  clear hb
  have hS13 : True ∧ CellsL w11 (w.heap.size) 0 [.float .f64 t0, .float .f64 t1, .float .f64 t2] := ⟨trivial, (kb K0 D12).cellsL 0 [.float .f64 t0, .float .f64 t1, .float .f64 t2] rfl⟩
  refine hK _ _ hS13 ?_
  clear hK K hS4
  refine wpAnyH_oneN (i := 5) (l' := bm 11 255) rfl (by kernel_rfl) (by kernel_rfl) (by kernel_rfl) (fun K hK => ?_)
  go_simp
  go_at_call 76
  refine (C1.out _).mono ?_
  rintro r w14 ⟨rfl, hb⟩
  dsimp only
  have D15 := ds D12 hb
  clear D12
  clear hb
  have hS16 : True ∧ CellsL w14 (w.heap.size) 0 [.float .f64 t0, .float .f64 t1, .float .f64 t2] := ⟨trivial, (kb K0 D15).cellsL 0 [.float .f64 t0, .float .f64 t1, .float .f64 t2] rfl⟩
  refine hK _ _ hS16 ?_
  clear hK K hS13
  refine wpAnyH_oneN (i := 8) (l' := bm 11 511) rfl (by kernel_rfl) (by kernel_rfl) (by kernel_rfl) (fun K hK => ?_)
  go_simp
  go_at_call 76
  refine (C2.out _).mono ?_
  rintro r w17 ⟨rfl, hb⟩
  dsimp only
  have D18 := ds D15 hb
  clear D15
  clear hb
  have hS19 : True ∧ CellsL w17 (w.heap.size) 0 [.float .f64 t0, .float .f64 t1, .float .f64 t2] := ⟨trivial, (kb K0 D18).cellsL 0 [.float .f64 t0, .float .f64 t1, .float .f64 t2] rfl⟩
  refine hK _ _ hS19 ?_
  clear hK K hS16
  refine tk 9 (bm 11 1023) ?vq20 ?aq20 rfl (by kernel_rfl) (fun _ _ _ h => h) (by kernel_rfl) ?hq20 ?pq20 hS19 ?rq20
  case hq20 => (intro w hS; go_simp; try with_reducible rfl)
  case pq20 => (go_simp; try with_reducible rfl)
  refine wpAnyH_oneN (i := 10) (l' := bm 11 2047) rfl (by kernel_rfl) (by kernel_rfl) (by kernel_rfl) (fun K hK => ?_)
  have f23 := (kb K1 D18)
  obtain ⟨V21, hV22⟩ : ∃ V, World.setRow w17 (w.heap.size + 1) #[.float .f64 p0.lo, .float .f64 p0.hi, .float .f64 p1.lo, .float .f64 p1.hi, .float .f64 p2.lo, .float .f64 p2.hi] = V := ⟨_, rfl⟩
  have K24 := kfr hV22 K0 D18 (by omega)
  have K25 := ksr hV22 K1 D18
  have HB26 := hbr hV22 HB D18 (by omega)
  have D27 := dr V21
  clear K0 K1 HB D18
  refine wp_store_row 26 _ _ rfl (w.heap.size + 1) #[.float .f64 p0.lo, .float .f64 p0.hi, .float .f64 p1.lo, .float .f64 p1.hi, .float .f64 p2.lo, .float .f64 p2.hi] rfl rfl _ _ f23 (by rw [info_V3]; rfl) rfl (by kernel_rfl) ?_
  rw [hV22]
  go_simp
  clear hV22 f23
  have hS28 : True ∧ CellsL V21 (w.heap.size) 0 [.float .f64 t0, .float .f64 t1, .float .f64 t2] := ⟨trivial, (kb K24 D27).cellsL 0 [.float .f64 t0, .float .f64 t1, .float .f64 t2] rfl⟩
  refine hK _ _ hS28 ?_
  clear hK K hS19
  refine wpAnyH_done (by kernel_rfl) ?_ _
  clear hS28
  go_wp2_with fail
  (try simp only [Exit.inBlock, Exit.then])
  exact bodyPost_ret (res_c rfl _ _ (w.heap.size + 1) #[.float .f64 p0.lo, .float .f64 p0.hi, .float .f64 p1.lo, .float .f64 p1.hi, .float .f64 p2.lo, .float .f64 p2.hi] rfl (kb K25 D27) (by rw [info_V3]; rfl) Try.underlying26 rfl) rfl ⟨rfl, below_step HB26.out D27.out⟩
set_option maxRecDepth 100000 in
set_option maxHeartbeats 8000000 in
theorem sqrV_any (a : V3) (w : World) : Calls Try.prog 51 #[Value.agg #[.float .f64 a.x.lo, .float .f64 a.x.hi, .float .f64 a.y.lo, .float .f64 a.y.hi, .float .f64 a.z.lo, .float .f64 a.z.hi]] w fun r w' => r = .returned (.agg #[.float .f64 (vSqr a).lo, .float .f64 (vSqr a).hi]) ∧ Below w.heap.size w w' := by
  have C0 := Lib.hid (fun w => sqr_sp a.x w)
  obtain ⟨p0, hp0⟩ : ∃ z_, sqrS a.x = z_ := ⟨_, rfl⟩
  rw [hp0] at C0
  have C1 := Lib.hid (fun w => sqr_sp a.y w)
  obtain ⟨p1, hp1⟩ : ∃ z_, sqrS a.y = z_ := ⟨_, rfl⟩
  rw [hp1] at C1
  have C2 := Lib.hid (fun w => add_sp p0 p1 w)
  obtain ⟨p2, hp2⟩ : ∃ z_, addS p0 p1 = z_ := ⟨_, rfl⟩
  rw [hp2] at C2
  have C3 := Lib.hid (fun w => sqr_sp a.z w)
  obtain ⟨p3, hp3⟩ : ∃ z_, sqrS a.z = z_ := ⟨_, rfl⟩
  rw [hp3] at C3
  have C4 := Lib.hid (fun w => add_sp p2 p3 w)
  obtain ⟨p4, hp4⟩ : ∃ z_, addS p2 p3 = z_ := ⟨_, rfl⟩
  rw [hp4] at C4
  have hT : vSqr a = p4 := by
    subst hp0 hp1 hp2 hp3 hp4; rfl
  rw [hT]
  clear hT
  clear hp0 hp1 hp2 hp3 hp4
  go_enter Try.func51, Try.ntmps51
  go_wp2_with fail
  obtain ⟨W, hW, K0, K1, hB, hz⟩ := bx2 w 26 24 (vc a) #[.float .f64 0, .float .f64 0]
  rw [← hW]
  have K0 := Lib.hid K0
  have K1 := Lib.hid K1
  have HB := Lib.hid hB
  clear hW hB hz
  have D1 := dr W
  refine wp_region_held (S := (fun w' => True ∧ CellsL w' (w.heap.size) 0 (vl a))) (by kernel_rfl) ?_
  change wpAnyH _ _ _ _ _ _ _ _ (World.drew _)
  obtain ⟨wd2, hwd⟩ : ∃ x, x = World.drew W := ⟨_, rfl⟩
  rw [← hwd]
  have D3 := Lib.hid (hwd ▸ Below.drew D1.out : Below W.heap.size W wd2)
  clear D1 hwd
  have hS4 : True ∧ CellsL wd2 (w.heap.size) 0 (vl a) := ⟨trivial, (kb K0 D3).cellsL 0 (vl a) rfl⟩
  refine tk 0 (bm 12 1) ?vq5 ?aq5 rfl (by kernel_rfl) (fun _ _ _ h => h) (by kernel_rfl) ?hq5 ?pq5 hS4 ?rq5
  case hq5 => (intro w hS; go_simp; try with_reducible rfl)
  case pq5 => (go_simp; try with_reducible rfl)
  refine tk 1 (bm 12 3) ?vq6 ?aq6 rfl (by kernel_rfl) (fun _ _ _ h => h) (by kernel_rfl) ?hq6 ?pq6 hS4 ?rq6
  case hq6 => (intro w hS; dsimp only [CellsL, al, vl, Nat.reduceAdd] at hS; go_simp; try with_reducible rfl)
  case pq6 => (go_simp; try with_reducible rfl)
  refine tk 3 (bm 12 11) ?vq7 ?aq7 rfl (by kernel_rfl) (fun _ _ _ h => h) (by kernel_rfl) ?hq7 ?pq7 hS4 ?rq7
  case hq7 => (intro w hS; go_simp; try with_reducible rfl)
  case pq7 => (go_simp; try with_reducible rfl)
  refine tk 4 (bm 12 27) ?vq8 ?aq8 rfl (by kernel_rfl) (fun _ _ _ h => h) (by kernel_rfl) ?hq8 ?pq8 hS4 ?rq8
  case hq8 => (intro w hS; dsimp only [CellsL, al, vl, Nat.reduceAdd] at hS; go_simp; try with_reducible rfl)
  case pq8 => (go_simp; try with_reducible rfl)
  refine tk 7 (bm 12 155) ?vq9 ?aq9 rfl (by kernel_rfl) (fun _ _ _ h => h) (by kernel_rfl) ?hq9 ?pq9 hS4 ?rq9
  case hq9 => (intro w hS; go_simp; try with_reducible rfl)
  case pq9 => (go_simp; try with_reducible rfl)
  refine tk 8 (bm 12 411) ?vq10 ?aq10 rfl (by kernel_rfl) (fun _ _ _ h => h) (by kernel_rfl) ?hq10 ?pq10 hS4 ?rq10
  case hq10 => (intro w hS; dsimp only [CellsL, al, vl, Nat.reduceAdd] at hS; go_simp; try with_reducible rfl)
  case pq10 => (go_simp; try with_reducible rfl)
  refine wpAnyH_oneN (i := 2) (l' := bm 12 415) rfl (by kernel_rfl) (by kernel_rfl) (by kernel_rfl) (fun K hK => ?_)
  go_simp
  go_at_call 93
  refine (C0.out _).mono ?_
  rintro r w11 ⟨rfl, hb⟩
  dsimp only
  have D12 := ds D3 hb
  clear D3
  clear hb
  have hS13 : True ∧ CellsL w11 (w.heap.size) 0 (vl a) := ⟨trivial, (kb K0 D12).cellsL 0 (vl a) rfl⟩
  refine hK _ _ hS13 ?_
  clear hK K hS4
  refine wpAnyH_oneN (i := 5) (l' := bm 12 447) rfl (by kernel_rfl) (by kernel_rfl) (by kernel_rfl) (fun K hK => ?_)
  go_simp
  go_at_call 93
  refine (C1.out _).mono ?_
  rintro r w14 ⟨rfl, hb⟩
  dsimp only
  have D15 := ds D12 hb
  clear D12
  clear hb
  have hS16 : True ∧ CellsL w14 (w.heap.size) 0 (vl a) := ⟨trivial, (kb K0 D15).cellsL 0 (vl a) rfl⟩
  refine hK _ _ hS16 ?_
  clear hK K hS13
  refine wpAnyH_oneN (i := 6) (l' := bm 12 511) rfl (by kernel_rfl) (by kernel_rfl) (by kernel_rfl) (fun K hK => ?_)
  go_simp
  go_at_call 75
  refine (C2.out _).mono ?_
  rintro r w17 ⟨rfl, hb⟩
  dsimp only
  have D18 := ds D15 hb
  clear D15
  clear hb
  have hS19 : True ∧ CellsL w17 (w.heap.size) 0 (vl a) := ⟨trivial, (kb K0 D18).cellsL 0 (vl a) rfl⟩
  refine hK _ _ hS19 ?_
  clear hK K hS16
  refine wpAnyH_oneN (i := 9) (l' := bm 12 1023) rfl (by kernel_rfl) (by kernel_rfl) (by kernel_rfl) (fun K hK => ?_)
  go_simp
  go_at_call 93
  refine (C3.out _).mono ?_
  rintro r w20 ⟨rfl, hb⟩
  dsimp only
  have D21 := ds D18 hb
  clear D18
  clear hb
  have hS22 : True ∧ CellsL w20 (w.heap.size) 0 (vl a) := ⟨trivial, (kb K0 D21).cellsL 0 (vl a) rfl⟩
  refine hK _ _ hS22 ?_
  clear hK K hS19
  refine wpAnyH_oneN (i := 10) (l' := bm 12 2047) rfl (by kernel_rfl) (by kernel_rfl) (by kernel_rfl) (fun K hK => ?_)
  go_simp
  go_at_call 75
  refine (C4.out _).mono ?_
  rintro r w23 ⟨rfl, hb⟩
  dsimp only
  have D24 := ds D21 hb
  clear D21
  clear hb
  have hS25 : True ∧ CellsL w23 (w.heap.size) 0 (vl a) := ⟨trivial, (kb K0 D24).cellsL 0 (vl a) rfl⟩
  refine hK _ _ hS25 ?_
  clear hK K hS22
  refine wpAnyH_oneN (i := 11) (l' := bm 12 4095) rfl (by kernel_rfl) (by kernel_rfl) (by kernel_rfl) (fun K hK => ?_)
  have f28 := (kb K1 D24).cellsL 0 [.float .f64 0, .float .f64 0] rfl
  dsimp only [CellsL, al, vl, Nat.reduceAdd] at f28
  have u29 := (kb K1 D24).unfrozen
  obtain ⟨V26, hV27⟩ : ∃ V, setCells w23 (w.heap.size + 1) 0 [.float .f64 p4.lo, .float .f64 p4.hi] = V := ⟨_, rfl⟩
  have hv30 := hV27
  simp only [setCells, Nat.reduceAdd] at hv30
  have K31 := kf hV27 K0 D24 (by omega)
  have K32 := Lib.hid (show Blk V26 (w.heap.size + 1) 24 #[.float .f64 p4.lo, .float .f64 p4.hi] from (ks hV27 K1 D24).out)
  have HB33 := hbs hV27 HB D24 (by omega)
  have D34 := dr V26
  clear K0 K1 HB D24
  go_simp
  clear hV27 f28 u29 hv30
  have hS35 : True ∧ CellsL V26 (w.heap.size) 0 (vl a) := ⟨trivial, (kb K31 D34).cellsL 0 (vl a) rfl⟩
  refine hK _ _ hS35 ?_
  clear hK K hS25
  refine wpAnyH_done (by kernel_rfl) ?_ _
  clear hS35
  go_wp2_with fail
  (try simp only [Exit.inBlock, Exit.then])
  exact bodyPost_ret (res_c rfl _ _ (w.heap.size + 1) #[.float .f64 p4.lo, .float .f64 p4.hi] rfl (kb K32 D34) (by rw [info_Span]; rfl) Try.underlying24 rfl) rfl ⟨rfl, below_step HB33.out D34.out⟩
set_option maxRecDepth 100000 in
set_option maxHeartbeats 8000000 in
theorem dotV_any (a b : V3) (w : World) : Calls Try.prog 32 #[Value.agg #[.float .f64 a.x.lo, .float .f64 a.x.hi, .float .f64 a.y.lo, .float .f64 a.y.hi, .float .f64 a.z.lo, .float .f64 a.z.hi], Value.agg #[.float .f64 b.x.lo, .float .f64 b.x.hi, .float .f64 b.y.lo, .float .f64 b.y.hi, .float .f64 b.z.lo, .float .f64 b.z.hi]] w fun r w' => r = .returned (.agg #[.float .f64 (vDot a b).lo, .float .f64 (vDot a b).hi]) ∧ Below w.heap.size w w' := by
  have C0 := Lib.hid (fun w => vMul_any a b w)
  obtain ⟨p0, hp0⟩ : ∃ z_, vMul a b = z_ := ⟨_, rfl⟩
  rw [hp0] at C0
  have C1 := Lib.hid (fun w => add_sp p0.x p0.y w)
  obtain ⟨p1, hp1⟩ : ∃ z_, addS p0.x p0.y = z_ := ⟨_, rfl⟩
  rw [hp1] at C1
  have C2 := Lib.hid (fun w => add_sp p1 p0.z w)
  obtain ⟨p2, hp2⟩ : ∃ z_, addS p1 p0.z = z_ := ⟨_, rfl⟩
  rw [hp2] at C2
  have hT : vDot a b = p2 := by
    subst hp0 hp1 hp2; rfl
  rw [hT]
  clear hT
  clear hp0 hp1 hp2
  go_enter Try.func32, Try.ntmps32
  go_wp2_with (first | (refine wl_load (by kernel_rfl) rfl rfl (((Blk.new_at _ _ _ rfl).alloc _).alloc _) (by rw [info_V3]; rfl) Try.underlying26 rfl ?_) | (refine wl_load (by kernel_rfl) rfl rfl ((Blk.new_at _ _ _ (by simp)).alloc _) (by rw [info_V3]; rfl) Try.underlying26 rfl ?_))
  obtain ⟨W, hW, K0, K1, K2, hB, hz⟩ := bx3 w 26 26 24 (vc a) (vc b) #[.float .f64 0, .float .f64 0]
  rw [← hW]
  have K0 := Lib.hid K0
  have K1 := Lib.hid K1
  have K2 := Lib.hid K2
  have HB := Lib.hid hB
  clear hW hB hz
  have D1 := dr W
  refine (C0.out _).mono ?_
  rintro r w2 ⟨rfl, hb⟩
  have D3 := ds D1 hb
  clear D1
  clear hb
  obtain ⟨g4, hg6⟩ : ∃ g, w2.heap.size = g := ⟨_, rfl⟩
  have Y8 := Lib.hid (show w.heap.size + 1 + 1 < g4 by rw [← hg6]; exact (kb K2 D3).lt)
  obtain ⟨V5, hV7⟩ : ∃ V, w2.alloc (.cells #[.float .f64 0, .float .f64 0, .float .f64 0, .float .f64 0, .float .f64 0, .float .f64 0] 26) = V := ⟨_, rfl⟩
  have K9 := ka hV7 K0 D3
  have K10 := ka hV7 K1 D3
  have K11 := ka hV7 K2 D3
  have K12 := kn hV7 hg6
  have HB13 := hba hV7 HB D3
  have D14 := dr V5
  clear K0 K1 K2 HB D3
  have f17 := (kb K12 D14)
  obtain ⟨V15, hV16⟩ : ∃ V, World.setRow V5 (g4) (vc p0) = V := ⟨_, rfl⟩
  have K18 := kfr hV16 K9 D14 (by have := Y8.out; omega)
  have K19 := kfr hV16 K10 D14 (by have := Y8.out; omega)
  have K20 := kfr hV16 K11 D14 (by have := Y8.out; omega)
  have K21 := ksr hV16 K12 D14
  have HB22 := hbr hV16 HB13 D14 (by have := Y8.out; omega)
  have D23 := dr V15
  clear K9 K10 K11 K12 HB13 D14
  go_wp2_with (refine wpList_store_row rfl 26 _ _ rfl (g4) (vc p0) rfl rfl _ _ f17 (by rw [info_V3]; rfl) rfl (by kernel_rfl) ?_; rw [hV16])
  clear hg6 hV7 hV16 f17
  refine wp_region_held (S := (fun w' => True ∧ CellsL w' (g4) 0 (vl p0))) (by kernel_rfl) ?_
  change wpAnyH _ _ _ _ _ _ _ _ (World.drew _)
  obtain ⟨wd24, hwd⟩ : ∃ x, x = World.drew V15 := ⟨_, rfl⟩
  rw [← hwd]
  have D25 := Lib.hid (hwd ▸ Below.drew D23.out : Below V15.heap.size V15 wd24)
  clear D23 hwd
  have hS26 : True ∧ CellsL wd24 (g4) 0 (vl p0) := ⟨trivial, (kb K21 D25).cellsL 0 (vl p0) rfl⟩
  refine tk 0 (bm 9 1) ?vq27 ?aq27 rfl (by kernel_rfl) (fun _ _ _ h => h) (by kernel_rfl) ?hq27 ?pq27 hS26 ?rq27
  case hq27 => (intro w hS; go_simp; try with_reducible rfl)
  case pq27 => (go_simp; try with_reducible rfl)
  refine tk 1 (bm 9 3) ?vq28 ?aq28 rfl (by kernel_rfl) (fun _ _ _ h => h) (by kernel_rfl) ?hq28 ?pq28 hS26 ?rq28
  case hq28 => (intro w hS; dsimp only [CellsL, al, vl, Nat.reduceAdd] at hS; go_simp; try with_reducible rfl)
  case pq28 => (go_simp; try with_reducible rfl)
  refine tk 2 (bm 9 7) ?vq29 ?aq29 rfl (by kernel_rfl) (fun _ _ _ h => h) (by kernel_rfl) ?hq29 ?pq29 hS26 ?rq29
  case hq29 => (intro w hS; go_simp; try with_reducible rfl)
  case pq29 => (go_simp; try with_reducible rfl)
  refine tk 3 (bm 9 15) ?vq30 ?aq30 rfl (by kernel_rfl) (fun _ _ _ h => h) (by kernel_rfl) ?hq30 ?pq30 hS26 ?rq30
  case hq30 => (intro w hS; dsimp only [CellsL, al, vl, Nat.reduceAdd] at hS; go_simp; try with_reducible rfl)
  case pq30 => (go_simp; try with_reducible rfl)
  refine tk 5 (bm 9 47) ?vq31 ?aq31 rfl (by kernel_rfl) (fun _ _ _ h => h) (by kernel_rfl) ?hq31 ?pq31 hS26 ?rq31
  case hq31 => (intro w hS; go_simp; try with_reducible rfl)
  case pq31 => (go_simp; try with_reducible rfl)
  refine tk 6 (bm 9 111) ?vq32 ?aq32 rfl (by kernel_rfl) (fun _ _ _ h => h) (by kernel_rfl) ?hq32 ?pq32 hS26 ?rq32
  case hq32 => (intro w hS; dsimp only [CellsL, al, vl, Nat.reduceAdd] at hS; go_simp; try with_reducible rfl)
  case pq32 => (go_simp; try with_reducible rfl)
  refine wpAnyH_oneN (i := 4) (l' := bm 9 127) rfl (by kernel_rfl) (by kernel_rfl) (by kernel_rfl) (fun K hK => ?_)
  go_simp
  go_at_call 75
  refine (C1.out _).mono ?_
  rintro r w33 ⟨rfl, hb⟩
  dsimp only
  have D34 := ds D25 hb
  clear D25
  clear hb
  have hS35 : True ∧ CellsL w33 (g4) 0 (vl p0) := ⟨trivial, (kb K21 D34).cellsL 0 (vl p0) rfl⟩
  refine hK _ _ hS35 ?_
  clear hK K hS26
  refine wpAnyH_oneN (i := 7) (l' := bm 9 255) rfl (by kernel_rfl) (by kernel_rfl) (by kernel_rfl) (fun K hK => ?_)
  go_simp
  go_at_call 75
  refine (C2.out _).mono ?_
  rintro r w36 ⟨rfl, hb⟩
  dsimp only
  have D37 := ds D34 hb
  clear D34
  clear hb
  have hS38 : True ∧ CellsL w36 (g4) 0 (vl p0) := ⟨trivial, (kb K21 D37).cellsL 0 (vl p0) rfl⟩
  refine hK _ _ hS38 ?_
  clear hK K hS35
  refine wpAnyH_oneN (i := 8) (l' := bm 9 511) rfl (by kernel_rfl) (by kernel_rfl) (by kernel_rfl) (fun K hK => ?_)
  have f41 := (kb K20 D37).cellsL 0 [.float .f64 0, .float .f64 0] rfl
  dsimp only [CellsL, al, vl, Nat.reduceAdd] at f41
  have u42 := (kb K20 D37).unfrozen
  obtain ⟨V39, hV40⟩ : ∃ V, setCells w36 (w.heap.size + 1 + 1) 0 [.float .f64 p2.lo, .float .f64 p2.hi] = V := ⟨_, rfl⟩
  have hv43 := hV40
  simp only [setCells, Nat.reduceAdd] at hv43
  have K44 := kf hV40 K18 D37 (by have := Y8.out; omega)
  have K45 := kf hV40 K19 D37 (by have := Y8.out; omega)
  have K46 := Lib.hid (show Blk V39 (w.heap.size + 1 + 1) 24 #[.float .f64 p2.lo, .float .f64 p2.hi] from (ks hV40 K20 D37).out)
  have K47 := kf hV40 K21 D37 (by have := Y8.out; omega)
  have HB48 := hbs hV40 HB22 D37 (by have := Y8.out; omega)
  have D49 := dr V39
  clear K18 K19 K20 K21 HB22 D37
  go_simp
  clear hV40 f41 u42 hv43
  have hS50 : True ∧ CellsL V39 (g4) 0 (vl p0) := ⟨trivial, (kb K47 D49).cellsL 0 (vl p0) rfl⟩
  refine hK _ _ hS50 ?_
  clear hK K hS38
  refine wpAnyH_done (by kernel_rfl) ?_ _
  clear hS50
  go_wp2_with fail
  (try simp only [Exit.inBlock, Exit.then])
  exact bodyPost_ret (res_c rfl _ _ (w.heap.size + 1 + 1) #[.float .f64 p2.lo, .float .f64 p2.hi] rfl (kb K46 D49) (by rw [info_Span]; rfl) Try.underlying24 rfl) rfl ⟨rfl, below_step HB48.out D49.out⟩
set_option maxRecDepth 100000 in
set_option maxHeartbeats 8000000 in
theorem crossV_any (a b : V3) (w : World) : Calls Try.prog 34 #[Value.agg #[.float .f64 a.x.lo, .float .f64 a.x.hi, .float .f64 a.y.lo, .float .f64 a.y.hi, .float .f64 a.z.lo, .float .f64 a.z.hi], Value.agg #[.float .f64 b.x.lo, .float .f64 b.x.hi, .float .f64 b.y.lo, .float .f64 b.y.hi, .float .f64 b.z.lo, .float .f64 b.z.hi]] w fun r w' => r = .returned (vval (vCross a b)) ∧ Below w.heap.size w w' := by
  have C0 := Lib.hid (fun w => mul_sp a.y b.z w)
  obtain ⟨p0, hp0⟩ : ∃ z_, mulS a.y b.z = z_ := ⟨_, rfl⟩
  rw [hp0] at C0
  have C1 := Lib.hid (fun w => mul_sp a.z b.y w)
  obtain ⟨p1, hp1⟩ : ∃ z_, mulS a.z b.y = z_ := ⟨_, rfl⟩
  rw [hp1] at C1
  have C2 := Lib.hid (fun w => sub_sp p0 p1 w)
  obtain ⟨p2, hp2⟩ : ∃ z_, subS p0 p1 = z_ := ⟨_, rfl⟩
  rw [hp2] at C2
  have C3 := Lib.hid (fun w => mul_sp a.z b.x w)
  obtain ⟨p3, hp3⟩ : ∃ z_, mulS a.z b.x = z_ := ⟨_, rfl⟩
  rw [hp3] at C3
  have C4 := Lib.hid (fun w => mul_sp a.x b.z w)
  obtain ⟨p4, hp4⟩ : ∃ z_, mulS a.x b.z = z_ := ⟨_, rfl⟩
  rw [hp4] at C4
  have C5 := Lib.hid (fun w => sub_sp p3 p4 w)
  obtain ⟨p5, hp5⟩ : ∃ z_, subS p3 p4 = z_ := ⟨_, rfl⟩
  rw [hp5] at C5
  have C6 := Lib.hid (fun w => mul_sp a.x b.y w)
  obtain ⟨p6, hp6⟩ : ∃ z_, mulS a.x b.y = z_ := ⟨_, rfl⟩
  rw [hp6] at C6
  have C7 := Lib.hid (fun w => mul_sp a.y b.x w)
  obtain ⟨p7, hp7⟩ : ∃ z_, mulS a.y b.x = z_ := ⟨_, rfl⟩
  rw [hp7] at C7
  have C8 := Lib.hid (fun w => sub_sp p6 p7 w)
  obtain ⟨p8, hp8⟩ : ∃ z_, subS p6 p7 = z_ := ⟨_, rfl⟩
  rw [hp8] at C8
  have hT : vCross a b = (⟨p2, p5, p8⟩ : V3) := by
    subst hp0 hp1 hp2 hp3 hp4 hp5 hp6 hp7 hp8; rfl
  rw [hT]
  clear hT
  clear hp0 hp1 hp2 hp3 hp4 hp5 hp6 hp7 hp8
  go_enter Try.func34, Try.ntmps34
  go_wp2_with fail
  obtain ⟨W, hW, K0, K1, K2, K3, hB, hz⟩ := bx4 w 26 26 26 26 (vc a) (vc b) #[.float .f64 0, .float .f64 0, .float .f64 0, .float .f64 0, .float .f64 0, .float .f64 0] #[.float .f64 0, .float .f64 0, .float .f64 0, .float .f64 0, .float .f64 0, .float .f64 0]
  rw [← hW]
  have K0 := Lib.hid K0
  have K1 := Lib.hid K1
  have K2 := Lib.hid K2
  have K3 := Lib.hid K3
  have HB := Lib.hid hB
  clear hW hB hz
  have D1 := dr W
  go_wp2_with fail
  refine wp_loop_rounds 4 ?_
  rw [rounds_succ]
  go_wp2_with fail
  refine wp_region_held (S := (fun w' => True ∧ CellsL w' (w.heap.size) 2 [.float .f64 a.y.lo, .float .f64 a.y.hi, .float .f64 a.z.lo, .float .f64 a.z.hi] ∧ CellsL w' (w.heap.size + 1) 2 [.float .f64 b.y.lo, .float .f64 b.y.hi, .float .f64 b.z.lo, .float .f64 b.z.hi])) (by kernel_rfl) ?_
  change wpAnyH _ _ _ _ _ _ _ _ (World.drew _)
  obtain ⟨wd2, hwd⟩ : ∃ x, x = World.drew W := ⟨_, rfl⟩
  rw [← hwd]
  have D3 := Lib.hid (hwd ▸ Below.drew D1.out : Below W.heap.size W wd2)
  clear D1 hwd
  have hS4 : True ∧ CellsL wd2 (w.heap.size) 2 [.float .f64 a.y.lo, .float .f64 a.y.hi, .float .f64 a.z.lo, .float .f64 a.z.hi] ∧ CellsL wd2 (w.heap.size + 1) 2 [.float .f64 b.y.lo, .float .f64 b.y.hi, .float .f64 b.z.lo, .float .f64 b.z.hi] := ⟨trivial, (kb K0 D3).cellsL 2 [.float .f64 a.y.lo, .float .f64 a.y.hi, .float .f64 a.z.lo, .float .f64 a.z.hi] rfl, (kb K1 D3).cellsL 2 [.float .f64 b.y.lo, .float .f64 b.y.hi, .float .f64 b.z.lo, .float .f64 b.z.hi] rfl⟩
  refine tk 0 (bm 18 1) ?vq5 ?aq5 rfl (by kernel_rfl) (fun _ _ _ h => h) (by kernel_rfl) ?hq5 ?pq5 hS4 ?rq5
  case hq5 => (intro w hS; go_simp; try with_reducible rfl)
  case pq5 => (go_simp; try with_reducible rfl)
  refine tk 1 (bm 18 3) ?vq6 ?aq6 rfl (by kernel_rfl) (fun _ _ _ h => h) (by kernel_rfl) ?hq6 ?pq6 hS4 ?rq6
  case hq6 => (intro w hS; go_simp; try with_reducible rfl)
  case pq6 => (go_simp; try with_reducible rfl)
  refine tk 2 (bm 18 7) ?vq7 ?aq7 rfl (by kernel_rfl) (fun _ _ _ h => h) (by kernel_rfl) ?hq7 ?pq7 hS4 ?rq7
  case hq7 => (intro w hS; go_simp; try with_reducible rfl)
  case pq7 => (go_simp; try with_reducible rfl)
  refine tk 3 (bm 18 15) ?vq8 ?aq8 rfl (by kernel_rfl) (fun _ _ _ h => h) (by kernel_rfl) ?hq8 ?pq8 hS4 ?rq8
  case hq8 => (intro w hS; dsimp only [CellsL, al, vl, Nat.reduceAdd] at hS; go_simp; try with_reducible rfl)
  case pq8 => (go_simp; try with_reducible rfl)
  refine tk 4 (bm 18 31) ?vq9 ?aq9 rfl (by kernel_rfl) (fun _ _ _ h => h) (by kernel_rfl) ?hq9 ?pq9 hS4 ?rq9
  case hq9 => (intro w hS; go_simp; try with_reducible rfl)
  case pq9 => (go_simp; try with_reducible rfl)
  refine tk 5 (bm 18 63) ?vq10 ?aq10 rfl (by kernel_rfl) (fun _ _ _ h => h) (by kernel_rfl) ?hq10 ?pq10 hS4 ?rq10
  case hq10 => (intro w hS; go_simp; try with_reducible rfl)
  case pq10 => (go_simp; try with_reducible rfl)
  refine tk 6 (bm 18 127) ?vq11 ?aq11 rfl (by kernel_rfl) (fun _ _ _ h => h) (by kernel_rfl) ?hq11 ?pq11 hS4 ?rq11
  case hq11 => (intro w hS; dsimp only [CellsL, al, vl, Nat.reduceAdd] at hS; go_simp; try with_reducible rfl)
  case pq11 => (go_simp; try with_reducible rfl)
  refine tk 8 (bm 18 383) ?vq12 ?aq12 rfl (by kernel_rfl) (fun _ _ _ h => h) (by kernel_rfl) ?hq12 ?pq12 hS4 ?rq12
  case hq12 => (intro w hS; go_simp; try with_reducible rfl)
  case pq12 => (go_simp; try with_reducible rfl)
  refine tk 9 (bm 18 895) ?vq13 ?aq13 rfl (by kernel_rfl) (fun _ _ _ h => h) (by kernel_rfl) ?hq13 ?pq13 hS4 ?rq13
  case hq13 => (intro w hS; go_simp; try with_reducible rfl)
  case pq13 => (go_simp; try with_reducible rfl)
  refine tk 10 (bm 18 1919) ?vq14 ?aq14 rfl (by kernel_rfl) (fun _ _ _ h => h) (by kernel_rfl) ?hq14 ?pq14 hS4 ?rq14
  case hq14 => (intro w hS; dsimp only [CellsL, al, vl, Nat.reduceAdd] at hS; go_simp; try with_reducible rfl)
  case pq14 => (go_simp; try with_reducible rfl)
  refine tk 11 (bm 18 3967) ?vq15 ?aq15 rfl (by kernel_rfl) (fun _ _ _ h => h) (by kernel_rfl) ?hq15 ?pq15 hS4 ?rq15
  case hq15 => (intro w hS; go_simp; try with_reducible rfl)
  case pq15 => (go_simp; try with_reducible rfl)
  refine tk 12 (bm 18 8063) ?vq16 ?aq16 rfl (by kernel_rfl) (fun _ _ _ h => h) (by kernel_rfl) ?hq16 ?pq16 hS4 ?rq16
  case hq16 => (intro w hS; go_simp; try with_reducible rfl)
  case pq16 => (go_simp; try with_reducible rfl)
  refine tk 13 (bm 18 16255) ?vq17 ?aq17 rfl (by kernel_rfl) (fun _ _ _ h => h) (by kernel_rfl) ?hq17 ?pq17 hS4 ?rq17
  case hq17 => (intro w hS; dsimp only [CellsL, al, vl, Nat.reduceAdd] at hS; go_simp; try with_reducible rfl)
  case pq17 => (go_simp; try with_reducible rfl)
  refine wpAnyH_oneN (i := 7) (l' := bm 18 16383) rfl (by kernel_rfl) (by kernel_rfl) (by kernel_rfl) (fun K hK => ?_)
  go_simp
  go_at_call 78
  refine (C0.out _).mono ?_
  rintro r w18 ⟨rfl, hb⟩
  dsimp only
  have D19 := ds D3 hb
  clear D3
  clear hb
  have hS20 : True ∧ CellsL w18 (w.heap.size) 2 [.float .f64 a.y.lo, .float .f64 a.y.hi, .float .f64 a.z.lo, .float .f64 a.z.hi] ∧ CellsL w18 (w.heap.size + 1) 2 [.float .f64 b.y.lo, .float .f64 b.y.hi, .float .f64 b.z.lo, .float .f64 b.z.hi] := ⟨trivial, (kb K0 D19).cellsL 2 [.float .f64 a.y.lo, .float .f64 a.y.hi, .float .f64 a.z.lo, .float .f64 a.z.hi] rfl, (kb K1 D19).cellsL 2 [.float .f64 b.y.lo, .float .f64 b.y.hi, .float .f64 b.z.lo, .float .f64 b.z.hi] rfl⟩
  refine hK _ _ hS20 ?_
  clear hK K hS4
  refine wpAnyH_oneN (i := 14) (l' := bm 18 32767) rfl (by kernel_rfl) (by kernel_rfl) (by kernel_rfl) (fun K hK => ?_)
  go_simp
  go_at_call 78
  refine (C1.out _).mono ?_
  rintro r w21 ⟨rfl, hb⟩
  dsimp only
  have D22 := ds D19 hb
  clear D19
  clear hb
  have hS23 : True ∧ CellsL w21 (w.heap.size) 2 [.float .f64 a.y.lo, .float .f64 a.y.hi, .float .f64 a.z.lo, .float .f64 a.z.hi] ∧ CellsL w21 (w.heap.size + 1) 2 [.float .f64 b.y.lo, .float .f64 b.y.hi, .float .f64 b.z.lo, .float .f64 b.z.hi] := ⟨trivial, (kb K0 D22).cellsL 2 [.float .f64 a.y.lo, .float .f64 a.y.hi, .float .f64 a.z.lo, .float .f64 a.z.hi] rfl, (kb K1 D22).cellsL 2 [.float .f64 b.y.lo, .float .f64 b.y.hi, .float .f64 b.z.lo, .float .f64 b.z.hi] rfl⟩
  refine hK _ _ hS23 ?_
  clear hK K hS20
  refine wpAnyH_oneN (i := 15) (l' := bm 18 65535) rfl (by kernel_rfl) (by kernel_rfl) (by kernel_rfl) (fun K hK => ?_)
  go_simp
  go_at_call 77
  refine (C2.out _).mono ?_
  rintro r w24 ⟨rfl, hb⟩
  dsimp only
  have D25 := ds D22 hb
  clear D22
  clear hb
  have hS26 : True ∧ CellsL w24 (w.heap.size) 2 [.float .f64 a.y.lo, .float .f64 a.y.hi, .float .f64 a.z.lo, .float .f64 a.z.hi] ∧ CellsL w24 (w.heap.size + 1) 2 [.float .f64 b.y.lo, .float .f64 b.y.hi, .float .f64 b.z.lo, .float .f64 b.z.hi] := ⟨trivial, (kb K0 D25).cellsL 2 [.float .f64 a.y.lo, .float .f64 a.y.hi, .float .f64 a.z.lo, .float .f64 a.z.hi] rfl, (kb K1 D25).cellsL 2 [.float .f64 b.y.lo, .float .f64 b.y.hi, .float .f64 b.z.lo, .float .f64 b.z.hi] rfl⟩
  refine hK _ _ hS26 ?_
  clear hK K hS23
  refine tk 16 (bm 18 131071) ?vq27 ?aq27 rfl (by kernel_rfl) (fun _ _ _ h => h) (by kernel_rfl) ?hq27 ?pq27 hS26 ?rq27
  case hq27 => (intro w hS; go_simp; try with_reducible rfl)
  case pq27 => (go_simp; try with_reducible rfl)
  refine wpAnyH_oneN (i := 17) (l' := bm 18 262143) rfl (by kernel_rfl) (by kernel_rfl) (by kernel_rfl) (fun K hK => ?_)
  have f30 := (kb K3 D25).cellsL 0 [.float .f64 0, .float .f64 0] rfl
  dsimp only [CellsL, al, vl, Nat.reduceAdd] at f30
  have u31 := (kb K3 D25).unfrozen
  obtain ⟨V28, hV29⟩ : ∃ V, setCells w24 (w.heap.size + 1 + 1 + 1) 0 [.float .f64 p2.lo, .float .f64 p2.hi] = V := ⟨_, rfl⟩
  have hv32 := hV29
  simp only [setCells, Nat.reduceAdd] at hv32
  have K33 := kf hV29 K0 D25 (by omega)
  have K34 := kf hV29 K1 D25 (by omega)
  have K35 := kf hV29 K2 D25 (by omega)
  have K36 := Lib.hid (show Blk V28 (w.heap.size + 1 + 1 + 1) 26 #[.float .f64 p2.lo, .float .f64 p2.hi, .float .f64 0, .float .f64 0, .float .f64 0, .float .f64 0] from (ks hV29 K3 D25).out)
  have HB37 := hbs hV29 HB D25 (by omega)
  have D38 := dr V28
  clear K0 K1 K2 K3 HB D25
  go_simp
  clear hV29 f30 u31 hv32
  have hS39 : True ∧ CellsL V28 (w.heap.size) 2 [.float .f64 a.y.lo, .float .f64 a.y.hi, .float .f64 a.z.lo, .float .f64 a.z.hi] ∧ CellsL V28 (w.heap.size + 1) 2 [.float .f64 b.y.lo, .float .f64 b.y.hi, .float .f64 b.z.lo, .float .f64 b.z.hi] := ⟨trivial, (kb K33 D38).cellsL 2 [.float .f64 a.y.lo, .float .f64 a.y.hi, .float .f64 a.z.lo, .float .f64 a.z.hi] rfl, (kb K34 D38).cellsL 2 [.float .f64 b.y.lo, .float .f64 b.y.hi, .float .f64 b.z.lo, .float .f64 b.z.hi] rfl⟩
  refine hK _ _ hS39 ?_
  clear hK K hS26
  refine wpAnyH_done (by kernel_rfl) ?_ _
  clear hS39
  go_wp2_with fail
  rw [rounds_succ]
  go_wp2_with fail
  refine wp_region_held (S := (fun w' => True ∧ CellsL w' (w.heap.size) 0 [.float .f64 a.x.lo, .float .f64 a.x.hi] ∧ CellsL w' (w.heap.size) 4 [.float .f64 a.z.lo, .float .f64 a.z.hi] ∧ CellsL w' (w.heap.size + 1) 0 [.float .f64 b.x.lo, .float .f64 b.x.hi] ∧ CellsL w' (w.heap.size + 1) 4 [.float .f64 b.z.lo, .float .f64 b.z.hi])) (by kernel_rfl) ?_
  change wpAnyH _ _ _ _ _ _ _ _ (World.drew _)
  obtain ⟨wd40, hwd⟩ : ∃ x, x = World.drew V28 := ⟨_, rfl⟩
  rw [← hwd]
  have D41 := Lib.hid (hwd ▸ Below.drew D38.out : Below V28.heap.size V28 wd40)
  clear D38 hwd
  have hS42 : True ∧ CellsL wd40 (w.heap.size) 0 [.float .f64 a.x.lo, .float .f64 a.x.hi] ∧ CellsL wd40 (w.heap.size) 4 [.float .f64 a.z.lo, .float .f64 a.z.hi] ∧ CellsL wd40 (w.heap.size + 1) 0 [.float .f64 b.x.lo, .float .f64 b.x.hi] ∧ CellsL wd40 (w.heap.size + 1) 4 [.float .f64 b.z.lo, .float .f64 b.z.hi] := ⟨trivial, (kb K33 D41).cellsL 0 [.float .f64 a.x.lo, .float .f64 a.x.hi] rfl, (kb K33 D41).cellsL 4 [.float .f64 a.z.lo, .float .f64 a.z.hi] rfl, (kb K34 D41).cellsL 0 [.float .f64 b.x.lo, .float .f64 b.x.hi] rfl, (kb K34 D41).cellsL 4 [.float .f64 b.z.lo, .float .f64 b.z.hi] rfl⟩
  refine tk 0 (bm 18 1) ?vq43 ?aq43 rfl (by kernel_rfl) (fun _ _ _ h => h) (by kernel_rfl) ?hq43 ?pq43 hS42 ?rq43
  case hq43 => (intro w hS; go_simp; try with_reducible rfl)
  case pq43 => (go_simp; try with_reducible rfl)
  refine tk 1 (bm 18 3) ?vq44 ?aq44 rfl (by kernel_rfl) (fun _ _ _ h => h) (by kernel_rfl) ?hq44 ?pq44 hS42 ?rq44
  case hq44 => (intro w hS; go_simp; try with_reducible rfl)
  case pq44 => (go_simp; try with_reducible rfl)
  refine tk 2 (bm 18 7) ?vq45 ?aq45 rfl (by kernel_rfl) (fun _ _ _ h => h) (by kernel_rfl) ?hq45 ?pq45 hS42 ?rq45
  case hq45 => (intro w hS; go_simp; try with_reducible rfl)
  case pq45 => (go_simp; try with_reducible rfl)
  refine tk 3 (bm 18 15) ?vq46 ?aq46 rfl (by kernel_rfl) (fun _ _ _ h => h) (by kernel_rfl) ?hq46 ?pq46 hS42 ?rq46
  case hq46 => (intro w hS; dsimp only [CellsL, al, vl, Nat.reduceAdd] at hS; go_simp; try with_reducible rfl)
  case pq46 => (go_simp; try with_reducible rfl)
  refine tk 4 (bm 18 31) ?vq47 ?aq47 rfl (by kernel_rfl) (fun _ _ _ h => h) (by kernel_rfl) ?hq47 ?pq47 hS42 ?rq47
  case hq47 => (intro w hS; go_simp; try with_reducible rfl)
  case pq47 => (go_simp; try with_reducible rfl)
  refine tk 5 (bm 18 63) ?vq48 ?aq48 rfl (by kernel_rfl) (fun _ _ _ h => h) (by kernel_rfl) ?hq48 ?pq48 hS42 ?rq48
  case hq48 => (intro w hS; go_simp; try with_reducible rfl)
  case pq48 => (go_simp; try with_reducible rfl)
  refine tk 6 (bm 18 127) ?vq49 ?aq49 rfl (by kernel_rfl) (fun _ _ _ h => h) (by kernel_rfl) ?hq49 ?pq49 hS42 ?rq49
  case hq49 => (intro w hS; dsimp only [CellsL, al, vl, Nat.reduceAdd] at hS; go_simp; try with_reducible rfl)
  case pq49 => (go_simp; try with_reducible rfl)
  refine tk 8 (bm 18 383) ?vq50 ?aq50 rfl (by kernel_rfl) (fun _ _ _ h => h) (by kernel_rfl) ?hq50 ?pq50 hS42 ?rq50
  case hq50 => (intro w hS; go_simp; try with_reducible rfl)
  case pq50 => (go_simp; try with_reducible rfl)
  refine tk 9 (bm 18 895) ?vq51 ?aq51 rfl (by kernel_rfl) (fun _ _ _ h => h) (by kernel_rfl) ?hq51 ?pq51 hS42 ?rq51
  case hq51 => (intro w hS; go_simp; try with_reducible rfl)
  case pq51 => (go_simp; try with_reducible rfl)
  refine tk 10 (bm 18 1919) ?vq52 ?aq52 rfl (by kernel_rfl) (fun _ _ _ h => h) (by kernel_rfl) ?hq52 ?pq52 hS42 ?rq52
  case hq52 => (intro w hS; dsimp only [CellsL, al, vl, Nat.reduceAdd] at hS; go_simp; try with_reducible rfl)
  case pq52 => (go_simp; try with_reducible rfl)
  refine tk 11 (bm 18 3967) ?vq53 ?aq53 rfl (by kernel_rfl) (fun _ _ _ h => h) (by kernel_rfl) ?hq53 ?pq53 hS42 ?rq53
  case hq53 => (intro w hS; go_simp; try with_reducible rfl)
  case pq53 => (go_simp; try with_reducible rfl)
  refine tk 12 (bm 18 8063) ?vq54 ?aq54 rfl (by kernel_rfl) (fun _ _ _ h => h) (by kernel_rfl) ?hq54 ?pq54 hS42 ?rq54
  case hq54 => (intro w hS; go_simp; try with_reducible rfl)
  case pq54 => (go_simp; try with_reducible rfl)
  refine tk 13 (bm 18 16255) ?vq55 ?aq55 rfl (by kernel_rfl) (fun _ _ _ h => h) (by kernel_rfl) ?hq55 ?pq55 hS42 ?rq55
  case hq55 => (intro w hS; dsimp only [CellsL, al, vl, Nat.reduceAdd] at hS; go_simp; try with_reducible rfl)
  case pq55 => (go_simp; try with_reducible rfl)
  refine wpAnyH_oneN (i := 7) (l' := bm 18 16383) rfl (by kernel_rfl) (by kernel_rfl) (by kernel_rfl) (fun K hK => ?_)
  go_simp
  go_at_call 78
  refine (C3.out _).mono ?_
  rintro r w56 ⟨rfl, hb⟩
  dsimp only
  have D57 := ds D41 hb
  clear D41
  clear hb
  have hS58 : True ∧ CellsL w56 (w.heap.size) 0 [.float .f64 a.x.lo, .float .f64 a.x.hi] ∧ CellsL w56 (w.heap.size) 4 [.float .f64 a.z.lo, .float .f64 a.z.hi] ∧ CellsL w56 (w.heap.size + 1) 0 [.float .f64 b.x.lo, .float .f64 b.x.hi] ∧ CellsL w56 (w.heap.size + 1) 4 [.float .f64 b.z.lo, .float .f64 b.z.hi] := ⟨trivial, (kb K33 D57).cellsL 0 [.float .f64 a.x.lo, .float .f64 a.x.hi] rfl, (kb K33 D57).cellsL 4 [.float .f64 a.z.lo, .float .f64 a.z.hi] rfl, (kb K34 D57).cellsL 0 [.float .f64 b.x.lo, .float .f64 b.x.hi] rfl, (kb K34 D57).cellsL 4 [.float .f64 b.z.lo, .float .f64 b.z.hi] rfl⟩
  refine hK _ _ hS58 ?_
  clear hK K hS42
  refine wpAnyH_oneN (i := 14) (l' := bm 18 32767) rfl (by kernel_rfl) (by kernel_rfl) (by kernel_rfl) (fun K hK => ?_)
  go_simp
  go_at_call 78
  refine (C4.out _).mono ?_
  rintro r w59 ⟨rfl, hb⟩
  dsimp only
  have D60 := ds D57 hb
  clear D57
  clear hb
  have hS61 : True ∧ CellsL w59 (w.heap.size) 0 [.float .f64 a.x.lo, .float .f64 a.x.hi] ∧ CellsL w59 (w.heap.size) 4 [.float .f64 a.z.lo, .float .f64 a.z.hi] ∧ CellsL w59 (w.heap.size + 1) 0 [.float .f64 b.x.lo, .float .f64 b.x.hi] ∧ CellsL w59 (w.heap.size + 1) 4 [.float .f64 b.z.lo, .float .f64 b.z.hi] := ⟨trivial, (kb K33 D60).cellsL 0 [.float .f64 a.x.lo, .float .f64 a.x.hi] rfl, (kb K33 D60).cellsL 4 [.float .f64 a.z.lo, .float .f64 a.z.hi] rfl, (kb K34 D60).cellsL 0 [.float .f64 b.x.lo, .float .f64 b.x.hi] rfl, (kb K34 D60).cellsL 4 [.float .f64 b.z.lo, .float .f64 b.z.hi] rfl⟩
  refine hK _ _ hS61 ?_
  clear hK K hS58
  refine wpAnyH_oneN (i := 15) (l' := bm 18 65535) rfl (by kernel_rfl) (by kernel_rfl) (by kernel_rfl) (fun K hK => ?_)
  go_simp
  go_at_call 77
  refine (C5.out _).mono ?_
  rintro r w62 ⟨rfl, hb⟩
  dsimp only
  have D63 := ds D60 hb
  clear D60
  clear hb
  have hS64 : True ∧ CellsL w62 (w.heap.size) 0 [.float .f64 a.x.lo, .float .f64 a.x.hi] ∧ CellsL w62 (w.heap.size) 4 [.float .f64 a.z.lo, .float .f64 a.z.hi] ∧ CellsL w62 (w.heap.size + 1) 0 [.float .f64 b.x.lo, .float .f64 b.x.hi] ∧ CellsL w62 (w.heap.size + 1) 4 [.float .f64 b.z.lo, .float .f64 b.z.hi] := ⟨trivial, (kb K33 D63).cellsL 0 [.float .f64 a.x.lo, .float .f64 a.x.hi] rfl, (kb K33 D63).cellsL 4 [.float .f64 a.z.lo, .float .f64 a.z.hi] rfl, (kb K34 D63).cellsL 0 [.float .f64 b.x.lo, .float .f64 b.x.hi] rfl, (kb K34 D63).cellsL 4 [.float .f64 b.z.lo, .float .f64 b.z.hi] rfl⟩
  refine hK _ _ hS64 ?_
  clear hK K hS61
  refine tk 16 (bm 18 131071) ?vq65 ?aq65 rfl (by kernel_rfl) (fun _ _ _ h => h) (by kernel_rfl) ?hq65 ?pq65 hS64 ?rq65
  case hq65 => (intro w hS; go_simp; try with_reducible rfl)
  case pq65 => (go_simp; try with_reducible rfl)
  refine wpAnyH_oneN (i := 17) (l' := bm 18 262143) rfl (by kernel_rfl) (by kernel_rfl) (by kernel_rfl) (fun K hK => ?_)
  have f68 := (kb K36 D63).cellsL 2 [.float .f64 0, .float .f64 0] rfl
  dsimp only [CellsL, al, vl, Nat.reduceAdd] at f68
  have u69 := (kb K36 D63).unfrozen
  obtain ⟨V66, hV67⟩ : ∃ V, setCells w62 (w.heap.size + 1 + 1 + 1) 2 [.float .f64 p5.lo, .float .f64 p5.hi] = V := ⟨_, rfl⟩
  have hv70 := hV67
  simp only [setCells, Nat.reduceAdd] at hv70
  have K71 := kf hV67 K33 D63 (by omega)
  have K72 := kf hV67 K34 D63 (by omega)
  have K73 := kf hV67 K35 D63 (by omega)
  have K74 := Lib.hid (show Blk V66 (w.heap.size + 1 + 1 + 1) 26 #[.float .f64 p2.lo, .float .f64 p2.hi, .float .f64 p5.lo, .float .f64 p5.hi, .float .f64 0, .float .f64 0] from (ks hV67 K36 D63).out)
  have HB75 := hbs hV67 HB37 D63 (by omega)
  have D76 := dr V66
  clear K33 K34 K35 K36 HB37 D63
  go_simp
  clear hV67 f68 u69 hv70
  have hS77 : True ∧ CellsL V66 (w.heap.size) 0 [.float .f64 a.x.lo, .float .f64 a.x.hi] ∧ CellsL V66 (w.heap.size) 4 [.float .f64 a.z.lo, .float .f64 a.z.hi] ∧ CellsL V66 (w.heap.size + 1) 0 [.float .f64 b.x.lo, .float .f64 b.x.hi] ∧ CellsL V66 (w.heap.size + 1) 4 [.float .f64 b.z.lo, .float .f64 b.z.hi] := ⟨trivial, (kb K71 D76).cellsL 0 [.float .f64 a.x.lo, .float .f64 a.x.hi] rfl, (kb K71 D76).cellsL 4 [.float .f64 a.z.lo, .float .f64 a.z.hi] rfl, (kb K72 D76).cellsL 0 [.float .f64 b.x.lo, .float .f64 b.x.hi] rfl, (kb K72 D76).cellsL 4 [.float .f64 b.z.lo, .float .f64 b.z.hi] rfl⟩
  refine hK _ _ hS77 ?_
  clear hK K hS64
  refine wpAnyH_done (by kernel_rfl) ?_ _
  clear hS77
  go_wp2_with fail
  rw [rounds_succ]
  go_wp2_with fail
  refine wp_region_held (S := (fun w' => True ∧ CellsL w' (w.heap.size) 0 [.float .f64 a.x.lo, .float .f64 a.x.hi, .float .f64 a.y.lo, .float .f64 a.y.hi] ∧ CellsL w' (w.heap.size + 1) 0 [.float .f64 b.x.lo, .float .f64 b.x.hi, .float .f64 b.y.lo, .float .f64 b.y.hi])) (by kernel_rfl) ?_
  change wpAnyH _ _ _ _ _ _ _ _ (World.drew _)
  obtain ⟨wd78, hwd⟩ : ∃ x, x = World.drew V66 := ⟨_, rfl⟩
  rw [← hwd]
  have D79 := Lib.hid (hwd ▸ Below.drew D76.out : Below V66.heap.size V66 wd78)
  clear D76 hwd
  have hS80 : True ∧ CellsL wd78 (w.heap.size) 0 [.float .f64 a.x.lo, .float .f64 a.x.hi, .float .f64 a.y.lo, .float .f64 a.y.hi] ∧ CellsL wd78 (w.heap.size + 1) 0 [.float .f64 b.x.lo, .float .f64 b.x.hi, .float .f64 b.y.lo, .float .f64 b.y.hi] := ⟨trivial, (kb K71 D79).cellsL 0 [.float .f64 a.x.lo, .float .f64 a.x.hi, .float .f64 a.y.lo, .float .f64 a.y.hi] rfl, (kb K72 D79).cellsL 0 [.float .f64 b.x.lo, .float .f64 b.x.hi, .float .f64 b.y.lo, .float .f64 b.y.hi] rfl⟩
  refine tk 0 (bm 18 1) ?vq81 ?aq81 rfl (by kernel_rfl) (fun _ _ _ h => h) (by kernel_rfl) ?hq81 ?pq81 hS80 ?rq81
  case hq81 => (intro w hS; go_simp; try with_reducible rfl)
  case pq81 => (go_simp; try with_reducible rfl)
  refine tk 1 (bm 18 3) ?vq82 ?aq82 rfl (by kernel_rfl) (fun _ _ _ h => h) (by kernel_rfl) ?hq82 ?pq82 hS80 ?rq82
  case hq82 => (intro w hS; go_simp; try with_reducible rfl)
  case pq82 => (go_simp; try with_reducible rfl)
  refine tk 2 (bm 18 7) ?vq83 ?aq83 rfl (by kernel_rfl) (fun _ _ _ h => h) (by kernel_rfl) ?hq83 ?pq83 hS80 ?rq83
  case hq83 => (intro w hS; go_simp; try with_reducible rfl)
  case pq83 => (go_simp; try with_reducible rfl)
  refine tk 3 (bm 18 15) ?vq84 ?aq84 rfl (by kernel_rfl) (fun _ _ _ h => h) (by kernel_rfl) ?hq84 ?pq84 hS80 ?rq84
  case hq84 => (intro w hS; dsimp only [CellsL, al, vl, Nat.reduceAdd] at hS; go_simp; try with_reducible rfl)
  case pq84 => (go_simp; try with_reducible rfl)
  refine tk 4 (bm 18 31) ?vq85 ?aq85 rfl (by kernel_rfl) (fun _ _ _ h => h) (by kernel_rfl) ?hq85 ?pq85 hS80 ?rq85
  case hq85 => (intro w hS; go_simp; try with_reducible rfl)
  case pq85 => (go_simp; try with_reducible rfl)
  refine tk 5 (bm 18 63) ?vq86 ?aq86 rfl (by kernel_rfl) (fun _ _ _ h => h) (by kernel_rfl) ?hq86 ?pq86 hS80 ?rq86
  case hq86 => (intro w hS; go_simp; try with_reducible rfl)
  case pq86 => (go_simp; try with_reducible rfl)
  refine tk 6 (bm 18 127) ?vq87 ?aq87 rfl (by kernel_rfl) (fun _ _ _ h => h) (by kernel_rfl) ?hq87 ?pq87 hS80 ?rq87
  case hq87 => (intro w hS; dsimp only [CellsL, al, vl, Nat.reduceAdd] at hS; go_simp; try with_reducible rfl)
  case pq87 => (go_simp; try with_reducible rfl)
  refine tk 8 (bm 18 383) ?vq88 ?aq88 rfl (by kernel_rfl) (fun _ _ _ h => h) (by kernel_rfl) ?hq88 ?pq88 hS80 ?rq88
  case hq88 => (intro w hS; go_simp; try with_reducible rfl)
  case pq88 => (go_simp; try with_reducible rfl)
  refine tk 9 (bm 18 895) ?vq89 ?aq89 rfl (by kernel_rfl) (fun _ _ _ h => h) (by kernel_rfl) ?hq89 ?pq89 hS80 ?rq89
  case hq89 => (intro w hS; go_simp; try with_reducible rfl)
  case pq89 => (go_simp; try with_reducible rfl)
  refine tk 10 (bm 18 1919) ?vq90 ?aq90 rfl (by kernel_rfl) (fun _ _ _ h => h) (by kernel_rfl) ?hq90 ?pq90 hS80 ?rq90
  case hq90 => (intro w hS; dsimp only [CellsL, al, vl, Nat.reduceAdd] at hS; go_simp; try with_reducible rfl)
  case pq90 => (go_simp; try with_reducible rfl)
  refine tk 11 (bm 18 3967) ?vq91 ?aq91 rfl (by kernel_rfl) (fun _ _ _ h => h) (by kernel_rfl) ?hq91 ?pq91 hS80 ?rq91
  case hq91 => (intro w hS; go_simp; try with_reducible rfl)
  case pq91 => (go_simp; try with_reducible rfl)
  refine tk 12 (bm 18 8063) ?vq92 ?aq92 rfl (by kernel_rfl) (fun _ _ _ h => h) (by kernel_rfl) ?hq92 ?pq92 hS80 ?rq92
  case hq92 => (intro w hS; go_simp; try with_reducible rfl)
  case pq92 => (go_simp; try with_reducible rfl)
  refine tk 13 (bm 18 16255) ?vq93 ?aq93 rfl (by kernel_rfl) (fun _ _ _ h => h) (by kernel_rfl) ?hq93 ?pq93 hS80 ?rq93
  case hq93 => (intro w hS; dsimp only [CellsL, al, vl, Nat.reduceAdd] at hS; go_simp; try with_reducible rfl)
  case pq93 => (go_simp; try with_reducible rfl)
  refine wpAnyH_oneN (i := 7) (l' := bm 18 16383) rfl (by kernel_rfl) (by kernel_rfl) (by kernel_rfl) (fun K hK => ?_)
  go_simp
  go_at_call 78
  refine (C6.out _).mono ?_
  rintro r w94 ⟨rfl, hb⟩
  dsimp only
  have D95 := ds D79 hb
  clear D79
  clear hb
  have hS96 : True ∧ CellsL w94 (w.heap.size) 0 [.float .f64 a.x.lo, .float .f64 a.x.hi, .float .f64 a.y.lo, .float .f64 a.y.hi] ∧ CellsL w94 (w.heap.size + 1) 0 [.float .f64 b.x.lo, .float .f64 b.x.hi, .float .f64 b.y.lo, .float .f64 b.y.hi] := ⟨trivial, (kb K71 D95).cellsL 0 [.float .f64 a.x.lo, .float .f64 a.x.hi, .float .f64 a.y.lo, .float .f64 a.y.hi] rfl, (kb K72 D95).cellsL 0 [.float .f64 b.x.lo, .float .f64 b.x.hi, .float .f64 b.y.lo, .float .f64 b.y.hi] rfl⟩
  refine hK _ _ hS96 ?_
  clear hK K hS80
  refine wpAnyH_oneN (i := 14) (l' := bm 18 32767) rfl (by kernel_rfl) (by kernel_rfl) (by kernel_rfl) (fun K hK => ?_)
  go_simp
  go_at_call 78
  refine (C7.out _).mono ?_
  rintro r w97 ⟨rfl, hb⟩
  dsimp only
  have D98 := ds D95 hb
  clear D95
  clear hb
  have hS99 : True ∧ CellsL w97 (w.heap.size) 0 [.float .f64 a.x.lo, .float .f64 a.x.hi, .float .f64 a.y.lo, .float .f64 a.y.hi] ∧ CellsL w97 (w.heap.size + 1) 0 [.float .f64 b.x.lo, .float .f64 b.x.hi, .float .f64 b.y.lo, .float .f64 b.y.hi] := ⟨trivial, (kb K71 D98).cellsL 0 [.float .f64 a.x.lo, .float .f64 a.x.hi, .float .f64 a.y.lo, .float .f64 a.y.hi] rfl, (kb K72 D98).cellsL 0 [.float .f64 b.x.lo, .float .f64 b.x.hi, .float .f64 b.y.lo, .float .f64 b.y.hi] rfl⟩
  refine hK _ _ hS99 ?_
  clear hK K hS96
  refine wpAnyH_oneN (i := 15) (l' := bm 18 65535) rfl (by kernel_rfl) (by kernel_rfl) (by kernel_rfl) (fun K hK => ?_)
  go_simp
  go_at_call 77
  refine (C8.out _).mono ?_
  rintro r w100 ⟨rfl, hb⟩
  dsimp only
  have D101 := ds D98 hb
  clear D98
  clear hb
  have hS102 : True ∧ CellsL w100 (w.heap.size) 0 [.float .f64 a.x.lo, .float .f64 a.x.hi, .float .f64 a.y.lo, .float .f64 a.y.hi] ∧ CellsL w100 (w.heap.size + 1) 0 [.float .f64 b.x.lo, .float .f64 b.x.hi, .float .f64 b.y.lo, .float .f64 b.y.hi] := ⟨trivial, (kb K71 D101).cellsL 0 [.float .f64 a.x.lo, .float .f64 a.x.hi, .float .f64 a.y.lo, .float .f64 a.y.hi] rfl, (kb K72 D101).cellsL 0 [.float .f64 b.x.lo, .float .f64 b.x.hi, .float .f64 b.y.lo, .float .f64 b.y.hi] rfl⟩
  refine hK _ _ hS102 ?_
  clear hK K hS99
  refine tk 16 (bm 18 131071) ?vq103 ?aq103 rfl (by kernel_rfl) (fun _ _ _ h => h) (by kernel_rfl) ?hq103 ?pq103 hS102 ?rq103
  case hq103 => (intro w hS; go_simp; try with_reducible rfl)
  case pq103 => (go_simp; try with_reducible rfl)
  refine wpAnyH_oneN (i := 17) (l' := bm 18 262143) rfl (by kernel_rfl) (by kernel_rfl) (by kernel_rfl) (fun K hK => ?_)
  have f106 := (kb K74 D101).cellsL 4 [.float .f64 0, .float .f64 0] rfl
  dsimp only [CellsL, al, vl, Nat.reduceAdd] at f106
  have u107 := (kb K74 D101).unfrozen
  obtain ⟨V104, hV105⟩ : ∃ V, setCells w100 (w.heap.size + 1 + 1 + 1) 4 [.float .f64 p8.lo, .float .f64 p8.hi] = V := ⟨_, rfl⟩
  have hv108 := hV105
  simp only [setCells, Nat.reduceAdd] at hv108
  have K109 := kf hV105 K71 D101 (by omega)
  have K110 := kf hV105 K72 D101 (by omega)
  have K111 := kf hV105 K73 D101 (by omega)
  have K112 := Lib.hid (show Blk V104 (w.heap.size + 1 + 1 + 1) 26 #[.float .f64 p2.lo, .float .f64 p2.hi, .float .f64 p5.lo, .float .f64 p5.hi, .float .f64 p8.lo, .float .f64 p8.hi] from (ks hV105 K74 D101).out)
  have HB113 := hbs hV105 HB75 D101 (by omega)
  have D114 := dr V104
  clear K71 K72 K73 K74 HB75 D101
  go_simp
  clear hV105 f106 u107 hv108
  have hS115 : True ∧ CellsL V104 (w.heap.size) 0 [.float .f64 a.x.lo, .float .f64 a.x.hi, .float .f64 a.y.lo, .float .f64 a.y.hi] ∧ CellsL V104 (w.heap.size + 1) 0 [.float .f64 b.x.lo, .float .f64 b.x.hi, .float .f64 b.y.lo, .float .f64 b.y.hi] := ⟨trivial, (kb K109 D114).cellsL 0 [.float .f64 a.x.lo, .float .f64 a.x.hi, .float .f64 a.y.lo, .float .f64 a.y.hi] rfl, (kb K110 D114).cellsL 0 [.float .f64 b.x.lo, .float .f64 b.x.hi, .float .f64 b.y.lo, .float .f64 b.y.hi] rfl⟩
  refine hK _ _ hS115 ?_
  clear hK K hS102
  refine wpAnyH_done (by kernel_rfl) ?_ _
  clear hS115
  go_wp2_with fail
  rw [rounds_succ]
  have f116 := (kb K112 D114)
  have f119 := (kb K111 D114)
  obtain ⟨V117, hV118⟩ : ∃ V, World.setRow V104 (w.heap.size + 1 + 1) #[.float .f64 p2.lo, .float .f64 p2.hi, .float .f64 p5.lo, .float .f64 p5.hi, .float .f64 p8.lo, .float .f64 p8.hi] = V := ⟨_, rfl⟩
  have K120 := kfr hV118 K109 D114 (by omega)
  have K121 := kfr hV118 K110 D114 (by omega)
  have K122 := ksr hV118 K111 D114
  have K123 := kfr hV118 K112 D114 (by omega)
  have HB124 := hbr hV118 HB113 D114 (by omega)
  have D125 := dr V117
  clear K109 K110 K111 K112 HB113 D114
  go_wp2_with (first | (refine wpList_store_row rfl 26 _ _ rfl (w.heap.size + 1 + 1) #[.float .f64 p2.lo, .float .f64 p2.hi, .float .f64 p5.lo, .float .f64 p5.hi, .float .f64 p8.lo, .float .f64 p8.hi] rfl rfl _ _ f119 (by rw [info_V3]; rfl) rfl (by kernel_rfl) ?_; rw [hV118]) | (refine wl_load (by kernel_rfl) rfl rfl f116 (by rw [info_V3]; rfl) Try.underlying26 rfl ?_))
  clear f116 hV118 f119
  (try simp only [Exit.inBlock, Exit.then])
  exact bodyPost_ret (res_c rfl _ _ (w.heap.size + 1 + 1) #[.float .f64 p2.lo, .float .f64 p2.hi, .float .f64 p5.lo, .float .f64 p5.hi, .float .f64 p8.lo, .float .f64 p8.hi] rfl (kb K122 D125) (by rw [info_V3]; rfl) Try.underlying26 rfl) rfl ⟨rfl, below_step HB124.out D125.out⟩
set_option maxRecDepth 100000 in
set_option maxHeartbeats 8000000 in
theorem unitV_any (a : V3) (w : World) : Calls Try.prog 53 #[Value.agg #[.float .f64 a.x.lo, .float .f64 a.x.hi, .float .f64 a.y.lo, .float .f64 a.y.hi, .float .f64 a.z.lo, .float .f64 a.z.hi]] w fun r w' => r = .returned (.tuple #[vval (vUnit a), .agg #[.float .f64 (vLen a).lo, .float .f64 (vLen a).hi]]) ∧ Below w.heap.size w w' := by
  have C0 := Lib.hid (fun w => sqrV_any a w)
  obtain ⟨p0, hp0⟩ : ∃ z_, vSqr a = z_ := ⟨_, rfl⟩
  rw [hp0] at C0
  have C1 := Lib.hid (fun w => sqrt_sp p0 w)
  obtain ⟨p1, hp1⟩ : ∃ z_, sqrtS p0 = z_ := ⟨_, rfl⟩
  rw [hp1] at C1
  have C2 := Lib.hid (fun w => div_sp a.x p1 w)
  obtain ⟨p2, hp2⟩ : ∃ z_, divS a.x p1 = z_ := ⟨_, rfl⟩
  rw [hp2] at C2
  have C3 := Lib.hid (fun w => div_sp a.y p1 w)
  obtain ⟨p3, hp3⟩ : ∃ z_, divS a.y p1 = z_ := ⟨_, rfl⟩
  rw [hp3] at C3
  have C4 := Lib.hid (fun w => div_sp a.z p1 w)
  obtain ⟨p4, hp4⟩ : ∃ z_, divS a.z p1 = z_ := ⟨_, rfl⟩
  rw [hp4] at C4
  have hT0 : vUnit a = (⟨p2, p3, p4⟩ : V3) := by
    subst hp0 hp1 hp2 hp3 hp4; rfl
  have hT1 : vLen a = p1 := by
    subst hp0 hp1 hp2 hp3 hp4; rfl
  rw [hT0, hT1]
  clear hT0 hT1
  clear hp0 hp1 hp2 hp3 hp4
  go_enter Try.func53, Try.ntmps53
  go_wp2_with (refine wl_load (by kernel_rfl) rfl rfl (((Blk.new_at _ _ _ rfl).alloc _).alloc _) (by rw [info_V3]; rfl) Try.underlying26 rfl ?_)
  obtain ⟨W, hW, K0, K1, K2, hB, hz⟩ := bx3 w 26 26 24 (vc a) #[.float .f64 0, .float .f64 0, .float .f64 0, .float .f64 0, .float .f64 0, .float .f64 0] #[.float .f64 0, .float .f64 0]
  rw [← hW]
  have K0 := Lib.hid K0
  have K1 := Lib.hid K1
  have K2 := Lib.hid K2
  have HB := Lib.hid hB
  clear hW hB hz
  have D1 := dr W
  refine (C0.out _).mono ?_
  rintro r w2 ⟨rfl, hb⟩
  have D3 := ds D1 hb
  clear D1
  clear hb
  go_wp2_with fail
  refine (C1.out _).mono ?_
  rintro r w4 ⟨rfl, hb⟩
  have D5 := ds D3 hb
  clear D3
  clear hb
  obtain ⟨g6, hg8⟩ : ∃ g, w4.heap.size = g := ⟨_, rfl⟩
  have Y10 := Lib.hid (show w.heap.size + 1 + 1 < g6 by rw [← hg8]; exact (kb K2 D5).lt)
  obtain ⟨V7, hV9⟩ : ∃ V, w4.alloc (.cells #[.float .f64 0, .float .f64 0] 24) = V := ⟨_, rfl⟩
  have K11 := ka hV9 K0 D5
  have K12 := ka hV9 K1 D5
  have K13 := ka hV9 K2 D5
  have K14 := kn hV9 hg8
  have HB15 := hba hV9 HB D5
  have D16 := dr V7
  clear K0 K1 K2 HB D5
  have f19 := (kb K14 D16).cellsL 0 [.float .f64 0, .float .f64 0] rfl
  dsimp only [CellsL, al, vl, Nat.reduceAdd] at f19
  have u20 := (kb K14 D16).unfrozen
  obtain ⟨V17, hV18⟩ : ∃ V, setCells V7 (g6) 0 [.float .f64 p1.lo, .float .f64 p1.hi] = V := ⟨_, rfl⟩
  have hv21 := hV18
  simp only [setCells, Nat.reduceAdd] at hv21
  have K22 := kf hV18 K11 D16 (by have := Y10.out; omega)
  have K23 := kf hV18 K12 D16 (by have := Y10.out; omega)
  have K24 := kf hV18 K13 D16 (by have := Y10.out; omega)
  have K25 := Lib.hid (show Blk V17 (g6) 24 #[.float .f64 p1.lo, .float .f64 p1.hi] from (ks hV18 K14 D16).out)
  have HB26 := hbs hV18 HB15 D16 (by have := Y10.out; omega)
  have D27 := dr V17
  clear K11 K12 K13 K14 HB15 D16
  go_wp2_with fail
  clear hg8 hV9 hV18 f19 u20 hv21
  refine wp_region_held (S := (fun w' => True ∧ CellsL w' (w.heap.size) 0 (vl a) ∧ CellsL w' (g6) 0 [.float .f64 p1.lo, .float .f64 p1.hi])) (by kernel_rfl) ?_
  change wpAnyH _ _ _ _ _ _ _ _ (World.drew _)
  obtain ⟨wd28, hwd⟩ : ∃ x, x = World.drew V17 := ⟨_, rfl⟩
  rw [← hwd]
  have D29 := Lib.hid (hwd ▸ Below.drew D27.out : Below V17.heap.size V17 wd28)
  clear D27 hwd
  have hS30 : True ∧ CellsL wd28 (w.heap.size) 0 (vl a) ∧ CellsL wd28 (g6) 0 [.float .f64 p1.lo, .float .f64 p1.hi] := ⟨trivial, (kb K22 D29).cellsL 0 (vl a) rfl, (kb K25 D29).cellsL 0 [.float .f64 p1.lo, .float .f64 p1.hi] rfl⟩
  refine tk 0 (bm 16 1) ?vq31 ?aq31 rfl (by kernel_rfl) (fun _ _ _ h => h) (by kernel_rfl) ?hq31 ?pq31 hS30 ?rq31
  case hq31 => (intro w hS; go_simp; try with_reducible rfl)
  case pq31 => (go_simp; try with_reducible rfl)
  refine tk 1 (bm 16 3) ?vq32 ?aq32 rfl (by kernel_rfl) (fun _ _ _ h => h) (by kernel_rfl) ?hq32 ?pq32 hS30 ?rq32
  case hq32 => (intro w hS; dsimp only [CellsL, al, vl, Nat.reduceAdd] at hS; go_simp; try with_reducible rfl)
  case pq32 => (go_simp; try with_reducible rfl)
  refine tk 2 (bm 16 7) ?vq33 ?aq33 rfl (by kernel_rfl) (fun _ _ _ h => h) (by kernel_rfl) ?hq33 ?pq33 hS30 ?rq33
  case hq33 => (intro w hS; dsimp only [CellsL, al, vl, Nat.reduceAdd] at hS; go_simp; try with_reducible rfl)
  case pq33 => (go_simp; try with_reducible rfl)
  refine tk 4 (bm 16 23) ?vq34 ?aq34 rfl (by kernel_rfl) (fun _ _ _ h => h) (by kernel_rfl) ?hq34 ?pq34 hS30 ?rq34
  case hq34 => (intro w hS; go_simp; try with_reducible rfl)
  case pq34 => (go_simp; try with_reducible rfl)
  refine tk 5 (bm 16 55) ?vq35 ?aq35 rfl (by kernel_rfl) (fun _ _ _ h => h) (by kernel_rfl) ?hq35 ?pq35 hS30 ?rq35
  case hq35 => (intro w hS; dsimp only [CellsL, al, vl, Nat.reduceAdd] at hS; go_simp; try with_reducible rfl)
  case pq35 => (go_simp; try with_reducible rfl)
  refine tk 6 (bm 16 119) ?vq36 ?aq36 rfl (by kernel_rfl) (fun _ _ _ h => h) (by kernel_rfl) ?hq36 ?pq36 hS30 ?rq36
  case hq36 => (intro w hS; dsimp only [CellsL, al, vl, Nat.reduceAdd] at hS; go_simp; try with_reducible rfl)
  case pq36 => (go_simp; try with_reducible rfl)
  refine tk 8 (bm 16 375) ?vq37 ?aq37 rfl (by kernel_rfl) (fun _ _ _ h => h) (by kernel_rfl) ?hq37 ?pq37 hS30 ?rq37
  case hq37 => (intro w hS; go_simp; try with_reducible rfl)
  case pq37 => (go_simp; try with_reducible rfl)
  refine tk 9 (bm 16 887) ?vq38 ?aq38 rfl (by kernel_rfl) (fun _ _ _ h => h) (by kernel_rfl) ?hq38 ?pq38 hS30 ?rq38
  case hq38 => (intro w hS; dsimp only [CellsL, al, vl, Nat.reduceAdd] at hS; go_simp; try with_reducible rfl)
  case pq38 => (go_simp; try with_reducible rfl)
  refine tk 10 (bm 16 1911) ?vq39 ?aq39 rfl (by kernel_rfl) (fun _ _ _ h => h) (by kernel_rfl) ?hq39 ?pq39 hS30 ?rq39
  case hq39 => (intro w hS; dsimp only [CellsL, al, vl, Nat.reduceAdd] at hS; go_simp; try with_reducible rfl)
  case pq39 => (go_simp; try with_reducible rfl)
  refine tk 13 (bm 16 10103) ?vq40 ?aq40 rfl (by kernel_rfl) (fun _ _ _ h => h) (by kernel_rfl) ?hq40 ?pq40 hS30 ?rq40
  case hq40 => (intro w hS; dsimp only [CellsL, al, vl, Nat.reduceAdd] at hS; go_simp; try with_reducible rfl)
  case pq40 => (go_simp; try with_reducible rfl)
  refine wpAnyH_oneN (i := 3) (l' := bm 16 10111) rfl (by kernel_rfl) (by kernel_rfl) (by kernel_rfl) (fun K hK => ?_)
  go_simp
  go_at_call 71
  refine (C2.out _).mono ?_
  rintro r w41 ⟨rfl, hb⟩
  dsimp only
  have D42 := ds D29 hb
  clear D29
  clear hb
  have hS43 : True ∧ CellsL w41 (w.heap.size) 0 (vl a) ∧ CellsL w41 (g6) 0 [.float .f64 p1.lo, .float .f64 p1.hi] := ⟨trivial, (kb K22 D42).cellsL 0 (vl a) rfl, (kb K25 D42).cellsL 0 [.float .f64 p1.lo, .float .f64 p1.hi] rfl⟩
  refine hK _ _ hS43 ?_
  clear hK K hS30
  refine wpAnyH_oneN (i := 7) (l' := bm 16 10239) rfl (by kernel_rfl) (by kernel_rfl) (by kernel_rfl) (fun K hK => ?_)
  go_simp
  go_at_call 71
  refine (C3.out _).mono ?_
  rintro r w44 ⟨rfl, hb⟩
  dsimp only
  have D45 := ds D42 hb
  clear D42
  clear hb
  have hS46 : True ∧ CellsL w44 (w.heap.size) 0 (vl a) ∧ CellsL w44 (g6) 0 [.float .f64 p1.lo, .float .f64 p1.hi] := ⟨trivial, (kb K22 D45).cellsL 0 (vl a) rfl, (kb K25 D45).cellsL 0 [.float .f64 p1.lo, .float .f64 p1.hi] rfl⟩
  refine hK _ _ hS46 ?_
  clear hK K hS43
  refine wpAnyH_oneN (i := 11) (l' := bm 16 12287) rfl (by kernel_rfl) (by kernel_rfl) (by kernel_rfl) (fun K hK => ?_)
  go_simp
  go_at_call 71
  refine (C4.out _).mono ?_
  rintro r w47 ⟨rfl, hb⟩
  dsimp only
  have D48 := ds D45 hb
  clear D45
  clear hb
  have hS49 : True ∧ CellsL w47 (w.heap.size) 0 (vl a) ∧ CellsL w47 (g6) 0 [.float .f64 p1.lo, .float .f64 p1.hi] := ⟨trivial, (kb K22 D48).cellsL 0 (vl a) rfl, (kb K25 D48).cellsL 0 [.float .f64 p1.lo, .float .f64 p1.hi] rfl⟩
  refine hK _ _ hS49 ?_
  clear hK K hS46
  refine tk 12 (bm 16 16383) ?vq50 ?aq50 rfl (by kernel_rfl) (fun _ _ _ h => h) (by kernel_rfl) ?hq50 ?pq50 hS49 ?rq50
  case hq50 => (intro w hS; go_simp; try with_reducible rfl)
  case pq50 => (go_simp; try with_reducible rfl)
  refine wpAnyH_oneN (i := 14) (l' := bm 16 32767) rfl (by kernel_rfl) (by kernel_rfl) (by kernel_rfl) (fun K hK => ?_)
  have f53 := (kb K23 D48)
  obtain ⟨V51, hV52⟩ : ∃ V, World.setRow w47 (w.heap.size + 1) #[.float .f64 p2.lo, .float .f64 p2.hi, .float .f64 p3.lo, .float .f64 p3.hi, .float .f64 p4.lo, .float .f64 p4.hi] = V := ⟨_, rfl⟩
  have K54 := kfr hV52 K22 D48 (by have := Y10.out; omega)
  have K55 := ksr hV52 K23 D48
  have K56 := kfr hV52 K24 D48 (by have := Y10.out; omega)
  have K57 := kfr hV52 K25 D48 (by have := Y10.out; omega)
  have HB58 := hbr hV52 HB26 D48 (by have := Y10.out; omega)
  have D59 := dr V51
  clear K22 K23 K24 K25 HB26 D48
  refine wp_store_row 26 _ _ rfl (w.heap.size + 1) #[.float .f64 p2.lo, .float .f64 p2.hi, .float .f64 p3.lo, .float .f64 p3.hi, .float .f64 p4.lo, .float .f64 p4.hi] rfl rfl _ _ f53 (by rw [info_V3]; rfl) rfl (by kernel_rfl) ?_
  rw [hV52]
  go_simp
  clear hV52 f53
  have hS60 : True ∧ CellsL V51 (w.heap.size) 0 (vl a) ∧ CellsL V51 (g6) 0 [.float .f64 p1.lo, .float .f64 p1.hi] := ⟨trivial, (kb K54 D59).cellsL 0 (vl a) rfl, (kb K57 D59).cellsL 0 [.float .f64 p1.lo, .float .f64 p1.hi] rfl⟩
  refine hK _ _ hS60 ?_
  clear hK K hS49
  refine wpAnyH_oneN (i := 15) (l' := bm 16 65535) rfl (by kernel_rfl) (by kernel_rfl) (by kernel_rfl) (fun K hK => ?_)
  have f63 := (kb K56 D59).cellsL 0 [.float .f64 0, .float .f64 0] rfl
  dsimp only [CellsL, al, vl, Nat.reduceAdd] at f63
  have u64 := (kb K56 D59).unfrozen
  obtain ⟨V61, hV62⟩ : ∃ V, setCells V51 (w.heap.size + 1 + 1) 0 [.float .f64 p1.lo, .float .f64 p1.hi] = V := ⟨_, rfl⟩
  have hv65 := hV62
  simp only [setCells, Nat.reduceAdd] at hv65
  have K66 := kf hV62 K54 D59 (by have := Y10.out; omega)
  have K67 := kf hV62 K55 D59 (by have := Y10.out; omega)
  have K68 := Lib.hid (show Blk V61 (w.heap.size + 1 + 1) 24 #[.float .f64 p1.lo, .float .f64 p1.hi] from (ks hV62 K56 D59).out)
  have K69 := kf hV62 K57 D59 (by have := Y10.out; omega)
  have HB70 := hbs hV62 HB58 D59 (by have := Y10.out; omega)
  have D71 := dr V61
  clear K54 K55 K56 K57 HB58 D59
  go_simp
  clear hV62 f63 u64 hv65
  have hS72 : True ∧ CellsL V61 (w.heap.size) 0 (vl a) ∧ CellsL V61 (g6) 0 [.float .f64 p1.lo, .float .f64 p1.hi] := ⟨trivial, (kb K66 D71).cellsL 0 (vl a) rfl, (kb K69 D71).cellsL 0 [.float .f64 p1.lo, .float .f64 p1.hi] rfl⟩
  refine hK _ _ hS72 ?_
  clear hK K hS60
  refine wpAnyH_done (by kernel_rfl) ?_ _
  clear hS72
  go_wp2_with fail
  (try simp only [Exit.inBlock, Exit.then])
  exact bodyPost_ret (res_cc rfl _ _ (w.heap.size + 1) #[.float .f64 p2.lo, .float .f64 p2.hi, .float .f64 p3.lo, .float .f64 p3.hi, .float .f64 p4.lo, .float .f64 p4.hi] (w.heap.size + 1 + 1) #[.float .f64 p1.lo, .float .f64 p1.hi] rfl (kb K67 D71) (by rw [info_V3]; rfl) Try.underlying26 rfl rfl (kb K68 D71) (by rw [info_Span]; rfl) Try.underlying24 rfl) rfl ⟨rfl, below_step HB70.out D71.out⟩
end Go.Proofs.Ytdgaaceebghcpaa
