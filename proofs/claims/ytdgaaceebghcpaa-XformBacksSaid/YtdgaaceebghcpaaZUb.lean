/- The walks of transformations: Then, Back (gen_ua.py). -/
import Derived.Test.YtdgaaceebghcpaaZUa
set_option linter.unusedVariables false
set_option linter.unusedSimpArgs false
namespace Go.Proofs.Ytdgaaceebghcpaa
open Go.RowKit Fl

set_option maxRecDepth 100000 in
set_option maxHeartbeats 8000000 in
theorem column0_any (m : Af) (w : World) : Calls Try.prog 66 #[Value.agg #[.float .f64 m.a.x.lo, .float .f64 m.a.x.hi, .float .f64 m.a.y.lo, .float .f64 m.a.y.hi, .float .f64 m.a.z.lo, .float .f64 m.a.z.hi, .float .f64 m.b.x.lo, .float .f64 m.b.x.hi, .float .f64 m.b.y.lo, .float .f64 m.b.y.hi, .float .f64 m.b.z.lo, .float .f64 m.b.z.hi, .float .f64 m.c.x.lo, .float .f64 m.c.x.hi, .float .f64 m.c.y.lo, .float .f64 m.c.y.hi, .float .f64 m.c.z.lo, .float .f64 m.c.z.hi, .float .f64 m.t.x.lo, .float .f64 m.t.x.hi, .float .f64 m.t.y.lo, .float .f64 m.t.y.hi, .float .f64 m.t.z.lo, .float .f64 m.t.z.hi], Value.int IntKind.i64 0] w fun r w' => r = .returned (.agg #[.float .f64 m.a.x.lo, .float .f64 m.a.x.hi, .float .f64 m.b.x.lo, .float .f64 m.b.x.hi, .float .f64 m.c.x.lo, .float .f64 m.c.x.hi]) ∧ Below w.heap.size w w' := by
  go_enter Try.func66, Try.ntmps66
  go_wp2_with fail
  obtain ⟨W, hW, K0, K1, hB, hz⟩ := bx2 w 29 26 (ac m) #[.float .f64 0, .float .f64 0, .float .f64 0, .float .f64 0, .float .f64 0, .float .f64 0]
  rw [← hW]
  have K0 := Lib.hid K0
  have K1 := Lib.hid K1
  have HB := Lib.hid hB
  clear hW hB hz
  have D1 := dr W
  refine wp_region_held (S := (fun w' => True ∧ CellsL w' (w.heap.size) 0 [.float .f64 m.a.x.lo, .float .f64 m.a.x.hi] ∧ CellsL w' (w.heap.size) 6 [.float .f64 m.b.x.lo, .float .f64 m.b.x.hi] ∧ CellsL w' (w.heap.size) 12 [.float .f64 m.c.x.lo, .float .f64 m.c.x.hi])) (by kernel_rfl) ?_
  change wpAnyH _ _ _ _ _ _ _ _ (World.drew _)
  obtain ⟨wd2, hwd⟩ : ∃ x, x = World.drew W := ⟨_, rfl⟩
  rw [← hwd]
  have D3 := Lib.hid (hwd ▸ Below.drew D1.out : Below W.heap.size W wd2)
  clear D1 hwd
  have hS4 : True ∧ CellsL wd2 (w.heap.size) 0 [.float .f64 m.a.x.lo, .float .f64 m.a.x.hi] ∧ CellsL wd2 (w.heap.size) 6 [.float .f64 m.b.x.lo, .float .f64 m.b.x.hi] ∧ CellsL wd2 (w.heap.size) 12 [.float .f64 m.c.x.lo, .float .f64 m.c.x.hi] := ⟨trivial, (kb K0 D3).cellsL 0 [.float .f64 m.a.x.lo, .float .f64 m.a.x.hi] rfl, (kb K0 D3).cellsL 6 [.float .f64 m.b.x.lo, .float .f64 m.b.x.hi] rfl, (kb K0 D3).cellsL 12 [.float .f64 m.c.x.lo, .float .f64 m.c.x.hi] rfl⟩
  refine tk 0 (bm 17 1) ?vq5 ?aq5 rfl (by kernel_rfl) (fun _ _ _ h => h) (by kernel_rfl) ?hq5 ?pq5 hS4 ?rq5
  case hq5 => (intro w hS; go_simp; try with_reducible rfl)
  case pq5 => (go_simp; try with_reducible rfl)
  refine tk 1 (bm 17 3) ?vq6 ?aq6 rfl (by kernel_rfl) (fun _ _ _ h => h) (by kernel_rfl) ?hq6 ?pq6 hS4 ?rq6
  case hq6 => (intro w hS; go_simp; try with_reducible rfl)
  case pq6 => (go_simp; try with_reducible rfl)
  refine tk 2 (bm 17 7) ?vq7 ?aq7 rfl (by kernel_rfl) (fun _ _ _ h => h) (by kernel_rfl) ?hq7 ?pq7 hS4 ?rq7
  case hq7 => (intro w hS; go_simp; try with_reducible rfl)
  case pq7 => (go_simp; try with_reducible rfl)
  refine tk 3 (bm 17 15) ?vq8 ?aq8 rfl (by kernel_rfl) (fun _ _ _ h => h) (by kernel_rfl) ?hq8 ?pq8 hS4 ?rq8
  case hq8 => (intro w hS; go_simp; try with_reducible rfl)
  case pq8 => (go_simp; try with_reducible rfl)
  refine tk 4 (bm 17 31) ?vq9 ?aq9 rfl (by kernel_rfl) (fun _ _ _ h => h) (by kernel_rfl) ?hq9 ?pq9 hS4 ?rq9
  case hq9 => (intro w hS; dsimp only [CellsL, al, vl, Nat.reduceAdd] at hS; go_simp; try with_reducible rfl)
  case pq9 => (go_simp; try with_reducible rfl)
  refine tk 5 (bm 17 63) ?vq10 ?aq10 rfl (by kernel_rfl) (fun _ _ _ h => h) (by kernel_rfl) ?hq10 ?pq10 hS4 ?rq10
  case hq10 => (intro w hS; go_simp; try with_reducible rfl)
  case pq10 => (go_simp; try with_reducible rfl)
  refine tk 6 (bm 17 127) ?vq11 ?aq11 rfl (by kernel_rfl) (fun _ _ _ h => h) (by kernel_rfl) ?hq11 ?pq11 hS4 ?rq11
  case hq11 => (intro w hS; go_simp; try with_reducible rfl)
  case pq11 => (go_simp; try with_reducible rfl)
  refine tk 7 (bm 17 255) ?vq12 ?aq12 rfl (by kernel_rfl) (fun _ _ _ h => h) (by kernel_rfl) ?hq12 ?pq12 hS4 ?rq12
  case hq12 => (intro w hS; go_simp; try with_reducible rfl)
  case pq12 => (go_simp; try with_reducible rfl)
  refine tk 8 (bm 17 511) ?vq13 ?aq13 rfl (by kernel_rfl) (fun _ _ _ h => h) (by kernel_rfl) ?hq13 ?pq13 hS4 ?rq13
  case hq13 => (intro w hS; go_simp; try with_reducible rfl)
  case pq13 => (go_simp; try with_reducible rfl)
  refine tk 9 (bm 17 1023) ?vq14 ?aq14 rfl (by kernel_rfl) (fun _ _ _ h => h) (by kernel_rfl) ?hq14 ?pq14 hS4 ?rq14
  case hq14 => (intro w hS; dsimp only [CellsL, al, vl, Nat.reduceAdd] at hS; go_simp; try with_reducible rfl)
  case pq14 => (go_simp; try with_reducible rfl)
  refine tk 10 (bm 17 2047) ?vq15 ?aq15 rfl (by kernel_rfl) (fun _ _ _ h => h) (by kernel_rfl) ?hq15 ?pq15 hS4 ?rq15
  case hq15 => (intro w hS; go_simp; try with_reducible rfl)
  case pq15 => (go_simp; try with_reducible rfl)
  refine tk 11 (bm 17 4095) ?vq16 ?aq16 rfl (by kernel_rfl) (fun _ _ _ h => h) (by kernel_rfl) ?hq16 ?pq16 hS4 ?rq16
  case hq16 => (intro w hS; go_simp; try with_reducible rfl)
  case pq16 => (go_simp; try with_reducible rfl)
  refine tk 12 (bm 17 8191) ?vq17 ?aq17 rfl (by kernel_rfl) (fun _ _ _ h => h) (by kernel_rfl) ?hq17 ?pq17 hS4 ?rq17
  case hq17 => (intro w hS; go_simp; try with_reducible rfl)
  case pq17 => (go_simp; try with_reducible rfl)
  refine tk 13 (bm 17 16383) ?vq18 ?aq18 rfl (by kernel_rfl) (fun _ _ _ h => h) (by kernel_rfl) ?hq18 ?pq18 hS4 ?rq18
  case hq18 => (intro w hS; go_simp; try with_reducible rfl)
  case pq18 => (go_simp; try with_reducible rfl)
  refine tk 14 (bm 17 32767) ?vq19 ?aq19 rfl (by kernel_rfl) (fun _ _ _ h => h) (by kernel_rfl) ?hq19 ?pq19 hS4 ?rq19
  case hq19 => (intro w hS; dsimp only [CellsL, al, vl, Nat.reduceAdd] at hS; go_simp; try with_reducible rfl)
  case pq19 => (go_simp; try with_reducible rfl)
  refine tk 15 (bm 17 65535) ?vq20 ?aq20 rfl (by kernel_rfl) (fun _ _ _ h => h) (by kernel_rfl) ?hq20 ?pq20 hS4 ?rq20
  case hq20 => (intro w hS; go_simp; try with_reducible rfl)
  case pq20 => (go_simp; try with_reducible rfl)
  refine wpAnyH_oneN (i := 16) (l' := bm 17 131071) rfl (by kernel_rfl) (by kernel_rfl) (by kernel_rfl) (fun K hK => ?_)
  have f23 := (kb K1 D3)
  obtain ⟨V21, hV22⟩ : ∃ V, World.setRow wd2 (w.heap.size + 1) #[.float .f64 m.a.x.lo, .float .f64 m.a.x.hi, .float .f64 m.b.x.lo, .float .f64 m.b.x.hi, .float .f64 m.c.x.lo, .float .f64 m.c.x.hi] = V := ⟨_, rfl⟩
  have K24 := kfr hV22 K0 D3 (by omega)
  have K25 := ksr hV22 K1 D3
  have HB26 := hbr hV22 HB D3 (by omega)
  have D27 := dr V21
  clear K0 K1 HB D3
  refine wp_store_row 26 _ _ rfl (w.heap.size + 1) #[.float .f64 m.a.x.lo, .float .f64 m.a.x.hi, .float .f64 m.b.x.lo, .float .f64 m.b.x.hi, .float .f64 m.c.x.lo, .float .f64 m.c.x.hi] rfl rfl _ _ f23 (by rw [info_V3]; rfl) rfl (by kernel_rfl) ?_
  rw [hV22]
  go_simp
  clear hV22 f23
  have hS28 : True ∧ CellsL V21 (w.heap.size) 0 [.float .f64 m.a.x.lo, .float .f64 m.a.x.hi] ∧ CellsL V21 (w.heap.size) 6 [.float .f64 m.b.x.lo, .float .f64 m.b.x.hi] ∧ CellsL V21 (w.heap.size) 12 [.float .f64 m.c.x.lo, .float .f64 m.c.x.hi] := ⟨trivial, (kb K24 D27).cellsL 0 [.float .f64 m.a.x.lo, .float .f64 m.a.x.hi] rfl, (kb K24 D27).cellsL 6 [.float .f64 m.b.x.lo, .float .f64 m.b.x.hi] rfl, (kb K24 D27).cellsL 12 [.float .f64 m.c.x.lo, .float .f64 m.c.x.hi] rfl⟩
  refine hK _ _ hS28 ?_
  clear hK K hS4
  refine wpAnyH_done (by kernel_rfl) ?_ _
  clear hS28
  go_wp2_with fail
  (try simp only [Exit.inBlock, Exit.then])
  exact bodyPost_ret (res_c rfl _ _ (w.heap.size + 1) #[.float .f64 m.a.x.lo, .float .f64 m.a.x.hi, .float .f64 m.b.x.lo, .float .f64 m.b.x.hi, .float .f64 m.c.x.lo, .float .f64 m.c.x.hi] rfl (kb K25 D27) (by rw [info_V3]; rfl) Try.underlying26 rfl) rfl ⟨rfl, below_step HB26.out D27.out⟩
set_option maxRecDepth 100000 in
set_option maxHeartbeats 8000000 in
theorem column1_any (m : Af) (w : World) : Calls Try.prog 66 #[Value.agg #[.float .f64 m.a.x.lo, .float .f64 m.a.x.hi, .float .f64 m.a.y.lo, .float .f64 m.a.y.hi, .float .f64 m.a.z.lo, .float .f64 m.a.z.hi, .float .f64 m.b.x.lo, .float .f64 m.b.x.hi, .float .f64 m.b.y.lo, .float .f64 m.b.y.hi, .float .f64 m.b.z.lo, .float .f64 m.b.z.hi, .float .f64 m.c.x.lo, .float .f64 m.c.x.hi, .float .f64 m.c.y.lo, .float .f64 m.c.y.hi, .float .f64 m.c.z.lo, .float .f64 m.c.z.hi, .float .f64 m.t.x.lo, .float .f64 m.t.x.hi, .float .f64 m.t.y.lo, .float .f64 m.t.y.hi, .float .f64 m.t.z.lo, .float .f64 m.t.z.hi], Value.int IntKind.i64 1] w fun r w' => r = .returned (.agg #[.float .f64 m.a.y.lo, .float .f64 m.a.y.hi, .float .f64 m.b.y.lo, .float .f64 m.b.y.hi, .float .f64 m.c.y.lo, .float .f64 m.c.y.hi]) ∧ Below w.heap.size w w' := by
  go_enter Try.func66, Try.ntmps66
  go_wp2_with fail
  obtain ⟨W, hW, K0, K1, hB, hz⟩ := bx2 w 29 26 (ac m) #[.float .f64 0, .float .f64 0, .float .f64 0, .float .f64 0, .float .f64 0, .float .f64 0]
  rw [← hW]
  have K0 := Lib.hid K0
  have K1 := Lib.hid K1
  have HB := Lib.hid hB
  clear hW hB hz
  have D1 := dr W
  refine wp_region_held (S := (fun w' => True ∧ CellsL w' (w.heap.size) 2 [.float .f64 m.a.y.lo, .float .f64 m.a.y.hi] ∧ CellsL w' (w.heap.size) 8 [.float .f64 m.b.y.lo, .float .f64 m.b.y.hi] ∧ CellsL w' (w.heap.size) 14 [.float .f64 m.c.y.lo, .float .f64 m.c.y.hi])) (by kernel_rfl) ?_
  change wpAnyH _ _ _ _ _ _ _ _ (World.drew _)
  obtain ⟨wd2, hwd⟩ : ∃ x, x = World.drew W := ⟨_, rfl⟩
  rw [← hwd]
  have D3 := Lib.hid (hwd ▸ Below.drew D1.out : Below W.heap.size W wd2)
  clear D1 hwd
  have hS4 : True ∧ CellsL wd2 (w.heap.size) 2 [.float .f64 m.a.y.lo, .float .f64 m.a.y.hi] ∧ CellsL wd2 (w.heap.size) 8 [.float .f64 m.b.y.lo, .float .f64 m.b.y.hi] ∧ CellsL wd2 (w.heap.size) 14 [.float .f64 m.c.y.lo, .float .f64 m.c.y.hi] := ⟨trivial, (kb K0 D3).cellsL 2 [.float .f64 m.a.y.lo, .float .f64 m.a.y.hi] rfl, (kb K0 D3).cellsL 8 [.float .f64 m.b.y.lo, .float .f64 m.b.y.hi] rfl, (kb K0 D3).cellsL 14 [.float .f64 m.c.y.lo, .float .f64 m.c.y.hi] rfl⟩
  refine tk 0 (bm 17 1) ?vq5 ?aq5 rfl (by kernel_rfl) (fun _ _ _ h => h) (by kernel_rfl) ?hq5 ?pq5 hS4 ?rq5
  case hq5 => (intro w hS; go_simp; try with_reducible rfl)
  case pq5 => (go_simp; try with_reducible rfl)
  refine tk 1 (bm 17 3) ?vq6 ?aq6 rfl (by kernel_rfl) (fun _ _ _ h => h) (by kernel_rfl) ?hq6 ?pq6 hS4 ?rq6
  case hq6 => (intro w hS; go_simp; try with_reducible rfl)
  case pq6 => (go_simp; try with_reducible rfl)
  refine tk 2 (bm 17 7) ?vq7 ?aq7 rfl (by kernel_rfl) (fun _ _ _ h => h) (by kernel_rfl) ?hq7 ?pq7 hS4 ?rq7
  case hq7 => (intro w hS; go_simp; try with_reducible rfl)
  case pq7 => (go_simp; try with_reducible rfl)
  refine tk 3 (bm 17 15) ?vq8 ?aq8 rfl (by kernel_rfl) (fun _ _ _ h => h) (by kernel_rfl) ?hq8 ?pq8 hS4 ?rq8
  case hq8 => (intro w hS; go_simp; try with_reducible rfl)
  case pq8 => (go_simp; try with_reducible rfl)
  refine tk 4 (bm 17 31) ?vq9 ?aq9 rfl (by kernel_rfl) (fun _ _ _ h => h) (by kernel_rfl) ?hq9 ?pq9 hS4 ?rq9
  case hq9 => (intro w hS; dsimp only [CellsL, al, vl, Nat.reduceAdd] at hS; go_simp; try with_reducible rfl)
  case pq9 => (go_simp; try with_reducible rfl)
  refine tk 5 (bm 17 63) ?vq10 ?aq10 rfl (by kernel_rfl) (fun _ _ _ h => h) (by kernel_rfl) ?hq10 ?pq10 hS4 ?rq10
  case hq10 => (intro w hS; go_simp; try with_reducible rfl)
  case pq10 => (go_simp; try with_reducible rfl)
  refine tk 6 (bm 17 127) ?vq11 ?aq11 rfl (by kernel_rfl) (fun _ _ _ h => h) (by kernel_rfl) ?hq11 ?pq11 hS4 ?rq11
  case hq11 => (intro w hS; go_simp; try with_reducible rfl)
  case pq11 => (go_simp; try with_reducible rfl)
  refine tk 7 (bm 17 255) ?vq12 ?aq12 rfl (by kernel_rfl) (fun _ _ _ h => h) (by kernel_rfl) ?hq12 ?pq12 hS4 ?rq12
  case hq12 => (intro w hS; go_simp; try with_reducible rfl)
  case pq12 => (go_simp; try with_reducible rfl)
  refine tk 8 (bm 17 511) ?vq13 ?aq13 rfl (by kernel_rfl) (fun _ _ _ h => h) (by kernel_rfl) ?hq13 ?pq13 hS4 ?rq13
  case hq13 => (intro w hS; go_simp; try with_reducible rfl)
  case pq13 => (go_simp; try with_reducible rfl)
  refine tk 9 (bm 17 1023) ?vq14 ?aq14 rfl (by kernel_rfl) (fun _ _ _ h => h) (by kernel_rfl) ?hq14 ?pq14 hS4 ?rq14
  case hq14 => (intro w hS; dsimp only [CellsL, al, vl, Nat.reduceAdd] at hS; go_simp; try with_reducible rfl)
  case pq14 => (go_simp; try with_reducible rfl)
  refine tk 10 (bm 17 2047) ?vq15 ?aq15 rfl (by kernel_rfl) (fun _ _ _ h => h) (by kernel_rfl) ?hq15 ?pq15 hS4 ?rq15
  case hq15 => (intro w hS; go_simp; try with_reducible rfl)
  case pq15 => (go_simp; try with_reducible rfl)
  refine tk 11 (bm 17 4095) ?vq16 ?aq16 rfl (by kernel_rfl) (fun _ _ _ h => h) (by kernel_rfl) ?hq16 ?pq16 hS4 ?rq16
  case hq16 => (intro w hS; go_simp; try with_reducible rfl)
  case pq16 => (go_simp; try with_reducible rfl)
  refine tk 12 (bm 17 8191) ?vq17 ?aq17 rfl (by kernel_rfl) (fun _ _ _ h => h) (by kernel_rfl) ?hq17 ?pq17 hS4 ?rq17
  case hq17 => (intro w hS; go_simp; try with_reducible rfl)
  case pq17 => (go_simp; try with_reducible rfl)
  refine tk 13 (bm 17 16383) ?vq18 ?aq18 rfl (by kernel_rfl) (fun _ _ _ h => h) (by kernel_rfl) ?hq18 ?pq18 hS4 ?rq18
  case hq18 => (intro w hS; go_simp; try with_reducible rfl)
  case pq18 => (go_simp; try with_reducible rfl)
  refine tk 14 (bm 17 32767) ?vq19 ?aq19 rfl (by kernel_rfl) (fun _ _ _ h => h) (by kernel_rfl) ?hq19 ?pq19 hS4 ?rq19
  case hq19 => (intro w hS; dsimp only [CellsL, al, vl, Nat.reduceAdd] at hS; go_simp; try with_reducible rfl)
  case pq19 => (go_simp; try with_reducible rfl)
  refine tk 15 (bm 17 65535) ?vq20 ?aq20 rfl (by kernel_rfl) (fun _ _ _ h => h) (by kernel_rfl) ?hq20 ?pq20 hS4 ?rq20
  case hq20 => (intro w hS; go_simp; try with_reducible rfl)
  case pq20 => (go_simp; try with_reducible rfl)
  refine wpAnyH_oneN (i := 16) (l' := bm 17 131071) rfl (by kernel_rfl) (by kernel_rfl) (by kernel_rfl) (fun K hK => ?_)
  have f23 := (kb K1 D3)
  obtain ⟨V21, hV22⟩ : ∃ V, World.setRow wd2 (w.heap.size + 1) #[.float .f64 m.a.y.lo, .float .f64 m.a.y.hi, .float .f64 m.b.y.lo, .float .f64 m.b.y.hi, .float .f64 m.c.y.lo, .float .f64 m.c.y.hi] = V := ⟨_, rfl⟩
  have K24 := kfr hV22 K0 D3 (by omega)
  have K25 := ksr hV22 K1 D3
  have HB26 := hbr hV22 HB D3 (by omega)
  have D27 := dr V21
  clear K0 K1 HB D3
  refine wp_store_row 26 _ _ rfl (w.heap.size + 1) #[.float .f64 m.a.y.lo, .float .f64 m.a.y.hi, .float .f64 m.b.y.lo, .float .f64 m.b.y.hi, .float .f64 m.c.y.lo, .float .f64 m.c.y.hi] rfl rfl _ _ f23 (by rw [info_V3]; rfl) rfl (by kernel_rfl) ?_
  rw [hV22]
  go_simp
  clear hV22 f23
  have hS28 : True ∧ CellsL V21 (w.heap.size) 2 [.float .f64 m.a.y.lo, .float .f64 m.a.y.hi] ∧ CellsL V21 (w.heap.size) 8 [.float .f64 m.b.y.lo, .float .f64 m.b.y.hi] ∧ CellsL V21 (w.heap.size) 14 [.float .f64 m.c.y.lo, .float .f64 m.c.y.hi] := ⟨trivial, (kb K24 D27).cellsL 2 [.float .f64 m.a.y.lo, .float .f64 m.a.y.hi] rfl, (kb K24 D27).cellsL 8 [.float .f64 m.b.y.lo, .float .f64 m.b.y.hi] rfl, (kb K24 D27).cellsL 14 [.float .f64 m.c.y.lo, .float .f64 m.c.y.hi] rfl⟩
  refine hK _ _ hS28 ?_
  clear hK K hS4
  refine wpAnyH_done (by kernel_rfl) ?_ _
  clear hS28
  go_wp2_with fail
  (try simp only [Exit.inBlock, Exit.then])
  exact bodyPost_ret (res_c rfl _ _ (w.heap.size + 1) #[.float .f64 m.a.y.lo, .float .f64 m.a.y.hi, .float .f64 m.b.y.lo, .float .f64 m.b.y.hi, .float .f64 m.c.y.lo, .float .f64 m.c.y.hi] rfl (kb K25 D27) (by rw [info_V3]; rfl) Try.underlying26 rfl) rfl ⟨rfl, below_step HB26.out D27.out⟩
set_option maxRecDepth 100000 in
set_option maxHeartbeats 8000000 in
theorem column2_any (m : Af) (w : World) : Calls Try.prog 66 #[Value.agg #[.float .f64 m.a.x.lo, .float .f64 m.a.x.hi, .float .f64 m.a.y.lo, .float .f64 m.a.y.hi, .float .f64 m.a.z.lo, .float .f64 m.a.z.hi, .float .f64 m.b.x.lo, .float .f64 m.b.x.hi, .float .f64 m.b.y.lo, .float .f64 m.b.y.hi, .float .f64 m.b.z.lo, .float .f64 m.b.z.hi, .float .f64 m.c.x.lo, .float .f64 m.c.x.hi, .float .f64 m.c.y.lo, .float .f64 m.c.y.hi, .float .f64 m.c.z.lo, .float .f64 m.c.z.hi, .float .f64 m.t.x.lo, .float .f64 m.t.x.hi, .float .f64 m.t.y.lo, .float .f64 m.t.y.hi, .float .f64 m.t.z.lo, .float .f64 m.t.z.hi], Value.int IntKind.i64 2] w fun r w' => r = .returned (.agg #[.float .f64 m.a.z.lo, .float .f64 m.a.z.hi, .float .f64 m.b.z.lo, .float .f64 m.b.z.hi, .float .f64 m.c.z.lo, .float .f64 m.c.z.hi]) ∧ Below w.heap.size w w' := by
  go_enter Try.func66, Try.ntmps66
  go_wp2_with fail
  obtain ⟨W, hW, K0, K1, hB, hz⟩ := bx2 w 29 26 (ac m) #[.float .f64 0, .float .f64 0, .float .f64 0, .float .f64 0, .float .f64 0, .float .f64 0]
  rw [← hW]
  have K0 := Lib.hid K0
  have K1 := Lib.hid K1
  have HB := Lib.hid hB
  clear hW hB hz
  have D1 := dr W
  refine wp_region_held (S := (fun w' => True ∧ CellsL w' (w.heap.size) 4 [.float .f64 m.a.z.lo, .float .f64 m.a.z.hi] ∧ CellsL w' (w.heap.size) 10 [.float .f64 m.b.z.lo, .float .f64 m.b.z.hi] ∧ CellsL w' (w.heap.size) 16 [.float .f64 m.c.z.lo, .float .f64 m.c.z.hi])) (by kernel_rfl) ?_
  change wpAnyH _ _ _ _ _ _ _ _ (World.drew _)
  obtain ⟨wd2, hwd⟩ : ∃ x, x = World.drew W := ⟨_, rfl⟩
  rw [← hwd]
  have D3 := Lib.hid (hwd ▸ Below.drew D1.out : Below W.heap.size W wd2)
  clear D1 hwd
  have hS4 : True ∧ CellsL wd2 (w.heap.size) 4 [.float .f64 m.a.z.lo, .float .f64 m.a.z.hi] ∧ CellsL wd2 (w.heap.size) 10 [.float .f64 m.b.z.lo, .float .f64 m.b.z.hi] ∧ CellsL wd2 (w.heap.size) 16 [.float .f64 m.c.z.lo, .float .f64 m.c.z.hi] := ⟨trivial, (kb K0 D3).cellsL 4 [.float .f64 m.a.z.lo, .float .f64 m.a.z.hi] rfl, (kb K0 D3).cellsL 10 [.float .f64 m.b.z.lo, .float .f64 m.b.z.hi] rfl, (kb K0 D3).cellsL 16 [.float .f64 m.c.z.lo, .float .f64 m.c.z.hi] rfl⟩
  refine tk 0 (bm 17 1) ?vq5 ?aq5 rfl (by kernel_rfl) (fun _ _ _ h => h) (by kernel_rfl) ?hq5 ?pq5 hS4 ?rq5
  case hq5 => (intro w hS; go_simp; try with_reducible rfl)
  case pq5 => (go_simp; try with_reducible rfl)
  refine tk 1 (bm 17 3) ?vq6 ?aq6 rfl (by kernel_rfl) (fun _ _ _ h => h) (by kernel_rfl) ?hq6 ?pq6 hS4 ?rq6
  case hq6 => (intro w hS; go_simp; try with_reducible rfl)
  case pq6 => (go_simp; try with_reducible rfl)
  refine tk 2 (bm 17 7) ?vq7 ?aq7 rfl (by kernel_rfl) (fun _ _ _ h => h) (by kernel_rfl) ?hq7 ?pq7 hS4 ?rq7
  case hq7 => (intro w hS; go_simp; try with_reducible rfl)
  case pq7 => (go_simp; try with_reducible rfl)
  refine tk 3 (bm 17 15) ?vq8 ?aq8 rfl (by kernel_rfl) (fun _ _ _ h => h) (by kernel_rfl) ?hq8 ?pq8 hS4 ?rq8
  case hq8 => (intro w hS; go_simp; try with_reducible rfl)
  case pq8 => (go_simp; try with_reducible rfl)
  refine tk 4 (bm 17 31) ?vq9 ?aq9 rfl (by kernel_rfl) (fun _ _ _ h => h) (by kernel_rfl) ?hq9 ?pq9 hS4 ?rq9
  case hq9 => (intro w hS; dsimp only [CellsL, al, vl, Nat.reduceAdd] at hS; go_simp; try with_reducible rfl)
  case pq9 => (go_simp; try with_reducible rfl)
  refine tk 5 (bm 17 63) ?vq10 ?aq10 rfl (by kernel_rfl) (fun _ _ _ h => h) (by kernel_rfl) ?hq10 ?pq10 hS4 ?rq10
  case hq10 => (intro w hS; go_simp; try with_reducible rfl)
  case pq10 => (go_simp; try with_reducible rfl)
  refine tk 6 (bm 17 127) ?vq11 ?aq11 rfl (by kernel_rfl) (fun _ _ _ h => h) (by kernel_rfl) ?hq11 ?pq11 hS4 ?rq11
  case hq11 => (intro w hS; go_simp; try with_reducible rfl)
  case pq11 => (go_simp; try with_reducible rfl)
  refine tk 7 (bm 17 255) ?vq12 ?aq12 rfl (by kernel_rfl) (fun _ _ _ h => h) (by kernel_rfl) ?hq12 ?pq12 hS4 ?rq12
  case hq12 => (intro w hS; go_simp; try with_reducible rfl)
  case pq12 => (go_simp; try with_reducible rfl)
  refine tk 8 (bm 17 511) ?vq13 ?aq13 rfl (by kernel_rfl) (fun _ _ _ h => h) (by kernel_rfl) ?hq13 ?pq13 hS4 ?rq13
  case hq13 => (intro w hS; go_simp; try with_reducible rfl)
  case pq13 => (go_simp; try with_reducible rfl)
  refine tk 9 (bm 17 1023) ?vq14 ?aq14 rfl (by kernel_rfl) (fun _ _ _ h => h) (by kernel_rfl) ?hq14 ?pq14 hS4 ?rq14
  case hq14 => (intro w hS; dsimp only [CellsL, al, vl, Nat.reduceAdd] at hS; go_simp; try with_reducible rfl)
  case pq14 => (go_simp; try with_reducible rfl)
  refine tk 10 (bm 17 2047) ?vq15 ?aq15 rfl (by kernel_rfl) (fun _ _ _ h => h) (by kernel_rfl) ?hq15 ?pq15 hS4 ?rq15
  case hq15 => (intro w hS; go_simp; try with_reducible rfl)
  case pq15 => (go_simp; try with_reducible rfl)
  refine tk 11 (bm 17 4095) ?vq16 ?aq16 rfl (by kernel_rfl) (fun _ _ _ h => h) (by kernel_rfl) ?hq16 ?pq16 hS4 ?rq16
  case hq16 => (intro w hS; go_simp; try with_reducible rfl)
  case pq16 => (go_simp; try with_reducible rfl)
  refine tk 12 (bm 17 8191) ?vq17 ?aq17 rfl (by kernel_rfl) (fun _ _ _ h => h) (by kernel_rfl) ?hq17 ?pq17 hS4 ?rq17
  case hq17 => (intro w hS; go_simp; try with_reducible rfl)
  case pq17 => (go_simp; try with_reducible rfl)
  refine tk 13 (bm 17 16383) ?vq18 ?aq18 rfl (by kernel_rfl) (fun _ _ _ h => h) (by kernel_rfl) ?hq18 ?pq18 hS4 ?rq18
  case hq18 => (intro w hS; go_simp; try with_reducible rfl)
  case pq18 => (go_simp; try with_reducible rfl)
  refine tk 14 (bm 17 32767) ?vq19 ?aq19 rfl (by kernel_rfl) (fun _ _ _ h => h) (by kernel_rfl) ?hq19 ?pq19 hS4 ?rq19
  case hq19 => (intro w hS; dsimp only [CellsL, al, vl, Nat.reduceAdd] at hS; go_simp; try with_reducible rfl)
  case pq19 => (go_simp; try with_reducible rfl)
  refine tk 15 (bm 17 65535) ?vq20 ?aq20 rfl (by kernel_rfl) (fun _ _ _ h => h) (by kernel_rfl) ?hq20 ?pq20 hS4 ?rq20
  case hq20 => (intro w hS; go_simp; try with_reducible rfl)
  case pq20 => (go_simp; try with_reducible rfl)
  refine wpAnyH_oneN (i := 16) (l' := bm 17 131071) rfl (by kernel_rfl) (by kernel_rfl) (by kernel_rfl) (fun K hK => ?_)
  have f23 := (kb K1 D3)
  obtain ⟨V21, hV22⟩ : ∃ V, World.setRow wd2 (w.heap.size + 1) #[.float .f64 m.a.z.lo, .float .f64 m.a.z.hi, .float .f64 m.b.z.lo, .float .f64 m.b.z.hi, .float .f64 m.c.z.lo, .float .f64 m.c.z.hi] = V := ⟨_, rfl⟩
  have K24 := kfr hV22 K0 D3 (by omega)
  have K25 := ksr hV22 K1 D3
  have HB26 := hbr hV22 HB D3 (by omega)
  have D27 := dr V21
  clear K0 K1 HB D3
  refine wp_store_row 26 _ _ rfl (w.heap.size + 1) #[.float .f64 m.a.z.lo, .float .f64 m.a.z.hi, .float .f64 m.b.z.lo, .float .f64 m.b.z.hi, .float .f64 m.c.z.lo, .float .f64 m.c.z.hi] rfl rfl _ _ f23 (by rw [info_V3]; rfl) rfl (by kernel_rfl) ?_
  rw [hV22]
  go_simp
  clear hV22 f23
  have hS28 : True ∧ CellsL V21 (w.heap.size) 4 [.float .f64 m.a.z.lo, .float .f64 m.a.z.hi] ∧ CellsL V21 (w.heap.size) 10 [.float .f64 m.b.z.lo, .float .f64 m.b.z.hi] ∧ CellsL V21 (w.heap.size) 16 [.float .f64 m.c.z.lo, .float .f64 m.c.z.hi] := ⟨trivial, (kb K24 D27).cellsL 4 [.float .f64 m.a.z.lo, .float .f64 m.a.z.hi] rfl, (kb K24 D27).cellsL 10 [.float .f64 m.b.z.lo, .float .f64 m.b.z.hi] rfl, (kb K24 D27).cellsL 16 [.float .f64 m.c.z.lo, .float .f64 m.c.z.hi] rfl⟩
  refine hK _ _ hS28 ?_
  clear hK K hS4
  refine wpAnyH_done (by kernel_rfl) ?_ _
  clear hS28
  go_wp2_with fail
  (try simp only [Exit.inBlock, Exit.then])
  exact bodyPost_ret (res_c rfl _ _ (w.heap.size + 1) #[.float .f64 m.a.z.lo, .float .f64 m.a.z.hi, .float .f64 m.b.z.lo, .float .f64 m.b.z.hi, .float .f64 m.c.z.lo, .float .f64 m.c.z.hi] rfl (kb K25 D27) (by rw [info_V3]; rfl) Try.underlying26 rfl) rfl ⟨rfl, below_step HB26.out D27.out⟩
set_option maxRecDepth 100000 in
set_option maxHeartbeats 8000000 in
theorem thenA_any (m n : Af) (w : World) : Calls Try.prog 18 #[Value.agg #[.float .f64 m.a.x.lo, .float .f64 m.a.x.hi, .float .f64 m.a.y.lo, .float .f64 m.a.y.hi, .float .f64 m.a.z.lo, .float .f64 m.a.z.hi, .float .f64 m.b.x.lo, .float .f64 m.b.x.hi, .float .f64 m.b.y.lo, .float .f64 m.b.y.hi, .float .f64 m.b.z.lo, .float .f64 m.b.z.hi, .float .f64 m.c.x.lo, .float .f64 m.c.x.hi, .float .f64 m.c.y.lo, .float .f64 m.c.y.hi, .float .f64 m.c.z.lo, .float .f64 m.c.z.hi, .float .f64 m.t.x.lo, .float .f64 m.t.x.hi, .float .f64 m.t.y.lo, .float .f64 m.t.y.hi, .float .f64 m.t.z.lo, .float .f64 m.t.z.hi], Value.agg #[.float .f64 n.a.x.lo, .float .f64 n.a.x.hi, .float .f64 n.a.y.lo, .float .f64 n.a.y.hi, .float .f64 n.a.z.lo, .float .f64 n.a.z.hi, .float .f64 n.b.x.lo, .float .f64 n.b.x.hi, .float .f64 n.b.y.lo, .float .f64 n.b.y.hi, .float .f64 n.b.z.lo, .float .f64 n.b.z.hi, .float .f64 n.c.x.lo, .float .f64 n.c.x.hi, .float .f64 n.c.y.lo, .float .f64 n.c.y.hi, .float .f64 n.c.z.lo, .float .f64 n.c.z.hi, .float .f64 n.t.x.lo, .float .f64 n.t.x.hi, .float .f64 n.t.y.lo, .float .f64 n.t.y.hi, .float .f64 n.t.z.lo, .float .f64 n.t.z.hi]] w fun r w' => r = .returned (aval (afThen m n)) ∧ Below w.heap.size w w' := by
  have C0 := Lib.hid (fun w => column0_any n w)
  have C1 := Lib.hid (fun w => dotV_any m.a (⟨n.a.x, n.b.x, n.c.x⟩ : V3) w)
  obtain ⟨p1, hp1⟩ : ∃ z_, vDot m.a (⟨n.a.x, n.b.x, n.c.x⟩ : V3) = z_ := ⟨_, rfl⟩
  rw [hp1] at C1
  have C2 := Lib.hid (fun w => column1_any n w)
  have C3 := Lib.hid (fun w => dotV_any m.a (⟨n.a.y, n.b.y, n.c.y⟩ : V3) w)
  obtain ⟨p3, hp3⟩ : ∃ z_, vDot m.a (⟨n.a.y, n.b.y, n.c.y⟩ : V3) = z_ := ⟨_, rfl⟩
  rw [hp3] at C3
  have C4 := Lib.hid (fun w => column2_any n w)
  have C5 := Lib.hid (fun w => dotV_any m.a (⟨n.a.z, n.b.z, n.c.z⟩ : V3) w)
  obtain ⟨p5, hp5⟩ : ∃ z_, vDot m.a (⟨n.a.z, n.b.z, n.c.z⟩ : V3) = z_ := ⟨_, rfl⟩
  rw [hp5] at C5
  have C6 := Lib.hid (fun w => column0_any n w)
  have C7 := Lib.hid (fun w => dotV_any m.b (⟨n.a.x, n.b.x, n.c.x⟩ : V3) w)
  obtain ⟨p7, hp7⟩ : ∃ z_, vDot m.b (⟨n.a.x, n.b.x, n.c.x⟩ : V3) = z_ := ⟨_, rfl⟩
  rw [hp7] at C7
  have C8 := Lib.hid (fun w => column1_any n w)
  have C9 := Lib.hid (fun w => dotV_any m.b (⟨n.a.y, n.b.y, n.c.y⟩ : V3) w)
  obtain ⟨p9, hp9⟩ : ∃ z_, vDot m.b (⟨n.a.y, n.b.y, n.c.y⟩ : V3) = z_ := ⟨_, rfl⟩
  rw [hp9] at C9
  have C10 := Lib.hid (fun w => column2_any n w)
  have C11 := Lib.hid (fun w => dotV_any m.b (⟨n.a.z, n.b.z, n.c.z⟩ : V3) w)
  obtain ⟨p11, hp11⟩ : ∃ z_, vDot m.b (⟨n.a.z, n.b.z, n.c.z⟩ : V3) = z_ := ⟨_, rfl⟩
  rw [hp11] at C11
  have C12 := Lib.hid (fun w => column0_any n w)
  have C13 := Lib.hid (fun w => dotV_any m.c (⟨n.a.x, n.b.x, n.c.x⟩ : V3) w)
  obtain ⟨p13, hp13⟩ : ∃ z_, vDot m.c (⟨n.a.x, n.b.x, n.c.x⟩ : V3) = z_ := ⟨_, rfl⟩
  rw [hp13] at C13
  have C14 := Lib.hid (fun w => column1_any n w)
  have C15 := Lib.hid (fun w => dotV_any m.c (⟨n.a.y, n.b.y, n.c.y⟩ : V3) w)
  obtain ⟨p15, hp15⟩ : ∃ z_, vDot m.c (⟨n.a.y, n.b.y, n.c.y⟩ : V3) = z_ := ⟨_, rfl⟩
  rw [hp15] at C15
  have C16 := Lib.hid (fun w => column2_any n w)
  have C17 := Lib.hid (fun w => dotV_any m.c (⟨n.a.z, n.b.z, n.c.z⟩ : V3) w)
  obtain ⟨p17, hp17⟩ : ∃ z_, vDot m.c (⟨n.a.z, n.b.z, n.c.z⟩ : V3) = z_ := ⟨_, rfl⟩
  rw [hp17] at C17
  have C18 := Lib.hid (fun w => ptA_any m n.t w)
  obtain ⟨p18, hp18⟩ : ∃ z_, afPt m n.t = z_ := ⟨_, rfl⟩
  rw [hp18] at C18
  have hT : afThen m n = (⟨(⟨p1, p3, p5⟩ : V3), (⟨p7, p9, p11⟩ : V3), (⟨p13, p15, p17⟩ : V3), p18⟩ : Af) := by
    subst hp1 hp3 hp5 hp7 hp9 hp11 hp13 hp15 hp17 hp18; rfl
  rw [hT]
  clear hT
  clear hp1 hp3 hp5 hp7 hp9 hp11 hp13 hp15 hp17 hp18
  go_enter Try.func18, Try.ntmps18
  go_wp2_with fail
  obtain ⟨W, hW, K0, K1, K2, K3, hB, hz⟩ := bx4 w 29 29 29 29 (ac m) (ac n) #[.float .f64 0, .float .f64 0, .float .f64 0, .float .f64 0, .float .f64 0, .float .f64 0, .float .f64 0, .float .f64 0, .float .f64 0, .float .f64 0, .float .f64 0, .float .f64 0, .float .f64 0, .float .f64 0, .float .f64 0, .float .f64 0, .float .f64 0, .float .f64 0, .float .f64 0, .float .f64 0, .float .f64 0, .float .f64 0, .float .f64 0, .float .f64 0] #[.float .f64 0, .float .f64 0, .float .f64 0, .float .f64 0, .float .f64 0, .float .f64 0, .float .f64 0, .float .f64 0, .float .f64 0, .float .f64 0, .float .f64 0, .float .f64 0, .float .f64 0, .float .f64 0, .float .f64 0, .float .f64 0, .float .f64 0, .float .f64 0, .float .f64 0, .float .f64 0, .float .f64 0, .float .f64 0, .float .f64 0, .float .f64 0]
  rw [← hW]
  have K0 := Lib.hid K0
  have K1 := Lib.hid K1
  have K2 := Lib.hid K2
  have K3 := Lib.hid K3
  have HB := Lib.hid hB
  clear hW hB hz
  have D1 := dr W
  go_wp2_with fail
  refine wp_loop_rounds 4 ?_
  rw [rounds_succ]
  go_wp2_with fail
  refine wp_loop_rounds 4 ?_
  rw [rounds_succ]
  go_wp2_with fail
  refine wp_region_held (S := (fun w' => True ∧ Blk w' (w.heap.size + 1) 29 (ac n) ∧ CellsL w' (w.heap.size) 0 (vl m.a))) (by kernel_rfl) ?_
  change wpAnyH _ _ _ _ _ _ _ _ (World.drew _)
  obtain ⟨wd2, hwd⟩ : ∃ x, x = World.drew W := ⟨_, rfl⟩
  rw [← hwd]
  have D3 := Lib.hid (hwd ▸ Below.drew D1.out : Below W.heap.size W wd2)
  clear D1 hwd
  have hS4 : True ∧ Blk wd2 (w.heap.size + 1) 29 (ac n) ∧ CellsL wd2 (w.heap.size) 0 (vl m.a) := ⟨trivial, (kb K1 D3), (kb K0 D3).cellsL 0 (vl m.a) rfl⟩
  refine tk 0 (bm 14 1) ?vq5 ?aq5 rfl (by kernel_rfl) (fun _ _ _ h => h) (by kernel_rfl) ?hq5 ?pq5 hS4 ?rq5
  case hq5 => (intro w hS; go_simp; try with_reducible rfl)
  case pq5 => (go_simp; try with_reducible rfl)
  refine tk 1 (bm 14 3) ?vq6 ?aq6 rfl (by kernel_rfl) (fun _ _ _ h => h) (by kernel_rfl) ?hq6 ?pq6 hS4 ?rq6
  case hq6 => (intro w hS; go_simp; try with_reducible rfl)
  case pq6 => (go_simp; try with_reducible rfl)
  refine tk 2 (bm 14 7) ?vq7 ?aq7 rfl (by kernel_rfl) (fun _ _ _ h => h) (by kernel_rfl) ?hq7 ?pq7 hS4 ?rq7
  case hq7 => (intro w hS; go_simp; try with_reducible rfl)
  case pq7 => (go_simp; try with_reducible rfl)
  refine tk 3 (bm 14 15) ?vq8 ?aq8 rfl (by kernel_rfl) (fun _ _ _ h => h) (by kernel_rfl) ?hq8 ?pq8 hS4 ?rq8
  case hq8 => (intro w hS; go_simp; try with_reducible rfl)
  case pq8 => (go_simp; try with_reducible rfl)
  refine tk 4 (bm 14 31) ?vq9 ?aq9 rfl (by kernel_rfl) (fun _ _ _ h => h) (by kernel_rfl) ?hq9 ?pq9 hS4 ?rq9
  case hq9 => (intro w hS; go_simp; try with_reducible rfl)
  case pq9 => (go_simp; try with_reducible rfl)
  refine tk 5 (bm 14 63) ?vq10 ?aq10 rfl (by kernel_rfl) (fun _ _ _ h => h) (by kernel_rfl) ?hq10 ?pq10 hS4 ?rq10
  case hq10 => (intro w hS; dsimp only [CellsL, al, vl, Nat.reduceAdd] at hS; go_simp; try with_reducible rfl)
  case pq10 => (go_simp; try with_reducible rfl)
  refine tkL 6 (bm 14 127) ?aq11 rfl (by kernel_rfl) (fun _ _ _ h => h) (by kernel_rfl) rfl rfl (fun _ hS => hS.2.1) (by rw [info_Affine]; rfl) Try.underlying29 rfl ?pq11 hS4 ?rq11
  case pq11 => (go_simp; try with_reducible rfl)
  refine tk 7 (bm 14 255) ?vq12 ?aq12 rfl (by kernel_rfl) (fun _ _ _ h => h) (by kernel_rfl) ?hq12 ?pq12 hS4 ?rq12
  case hq12 => (intro w hS; go_simp; try with_reducible rfl)
  case pq12 => (go_simp; try with_reducible rfl)
  refine tk 10 (bm 14 1279) ?vq13 ?aq13 rfl (by kernel_rfl) (fun _ _ _ h => h) (by kernel_rfl) ?hq13 ?pq13 hS4 ?rq13
  case hq13 => (intro w hS; go_simp; try with_reducible rfl)
  case pq13 => (go_simp; try with_reducible rfl)
  refine tk 11 (bm 14 3327) ?vq14 ?aq14 rfl (by kernel_rfl) (fun _ _ _ h => h) (by kernel_rfl) ?hq14 ?pq14 hS4 ?rq14
  case hq14 => (intro w hS; go_simp; try with_reducible rfl)
  case pq14 => (go_simp; try with_reducible rfl)
  refine wpAnyH_oneN (i := 8) (l' := bm 14 3583) rfl (by kernel_rfl) (by kernel_rfl) (by kernel_rfl) (fun K hK => ?_)
  go_simp
  go_at_call 66
  refine (C0.out _).mono ?_
  rintro r w15 ⟨rfl, hb⟩
  dsimp only
  have D16 := ds D3 hb
  clear D3
  clear hb
  have hS17 : True ∧ Blk w15 (w.heap.size + 1) 29 (ac n) ∧ CellsL w15 (w.heap.size) 0 (vl m.a) := ⟨trivial, (kb K1 D16), (kb K0 D16).cellsL 0 (vl m.a) rfl⟩
  refine hK _ _ hS17 ?_
  clear hK K hS4
  refine wpAnyH_oneN (i := 9) (l' := bm 14 4095) rfl (by kernel_rfl) (by kernel_rfl) (by kernel_rfl) (fun K hK => ?_)
  go_simp
  go_at_call 32
  refine (C1.out _).mono ?_
  rintro r w18 ⟨rfl, hb⟩
  dsimp only
  have D19 := ds D16 hb
  clear D16
  clear hb
  have hS20 : True ∧ Blk w18 (w.heap.size + 1) 29 (ac n) ∧ CellsL w18 (w.heap.size) 0 (vl m.a) := ⟨trivial, (kb K1 D19), (kb K0 D19).cellsL 0 (vl m.a) rfl⟩
  refine hK _ _ hS20 ?_
  clear hK K hS17
  refine tk 12 (bm 14 8191) ?vq21 ?aq21 rfl (by kernel_rfl) (fun _ _ _ h => h) (by kernel_rfl) ?hq21 ?pq21 hS20 ?rq21
  case hq21 => (intro w hS; go_simp; try with_reducible rfl)
  case pq21 => (go_simp; try with_reducible rfl)
  refine wpAnyH_oneN (i := 13) (l' := bm 14 16383) rfl (by kernel_rfl) (by kernel_rfl) (by kernel_rfl) (fun K hK => ?_)
  have f24 := (kb K3 D19).cellsL 0 [.float .f64 0, .float .f64 0] rfl
  dsimp only [CellsL, al, vl, Nat.reduceAdd] at f24
  have u25 := (kb K3 D19).unfrozen
  obtain ⟨V22, hV23⟩ : ∃ V, setCells w18 (w.heap.size + 1 + 1 + 1) 0 [.float .f64 p1.lo, .float .f64 p1.hi] = V := ⟨_, rfl⟩
  have hv26 := hV23
  simp only [setCells, Nat.reduceAdd] at hv26
  have K27 := kf hV23 K0 D19 (by omega)
  have K28 := kf hV23 K1 D19 (by omega)
  have K29 := kf hV23 K2 D19 (by omega)
  have K30 := Lib.hid (show Blk V22 (w.heap.size + 1 + 1 + 1) 29 #[.float .f64 p1.lo, .float .f64 p1.hi, .float .f64 0, .float .f64 0, .float .f64 0, .float .f64 0, .float .f64 0, .float .f64 0, .float .f64 0, .float .f64 0, .float .f64 0, .float .f64 0, .float .f64 0, .float .f64 0, .float .f64 0, .float .f64 0, .float .f64 0, .float .f64 0, .float .f64 0, .float .f64 0, .float .f64 0, .float .f64 0, .float .f64 0, .float .f64 0] from (ks hV23 K3 D19).out)
  have HB31 := hbs hV23 HB D19 (by omega)
  have D32 := dr V22
  clear K0 K1 K2 K3 HB D19
  go_simp
  clear hV23 f24 u25 hv26
  have hS33 : True ∧ Blk V22 (w.heap.size + 1) 29 (ac n) ∧ CellsL V22 (w.heap.size) 0 (vl m.a) := ⟨trivial, (kb K28 D32), (kb K27 D32).cellsL 0 (vl m.a) rfl⟩
  refine hK _ _ hS33 ?_
  clear hK K hS20
  refine wpAnyH_done (by kernel_rfl) ?_ _
  clear hS33
  go_wp2_with fail
  rw [rounds_succ]
  go_wp2_with fail
  refine wp_region_held (S := (fun w' => True ∧ Blk w' (w.heap.size + 1) 29 (ac n) ∧ CellsL w' (w.heap.size) 0 (vl m.a))) (by kernel_rfl) ?_
  change wpAnyH _ _ _ _ _ _ _ _ (World.drew _)
  obtain ⟨wd34, hwd⟩ : ∃ x, x = World.drew V22 := ⟨_, rfl⟩
  rw [← hwd]
  have D35 := Lib.hid (hwd ▸ Below.drew D32.out : Below V22.heap.size V22 wd34)
  clear D32 hwd
  have hS36 : True ∧ Blk wd34 (w.heap.size + 1) 29 (ac n) ∧ CellsL wd34 (w.heap.size) 0 (vl m.a) := ⟨trivial, (kb K28 D35), (kb K27 D35).cellsL 0 (vl m.a) rfl⟩
  refine tk 0 (bm 14 1) ?vq37 ?aq37 rfl (by kernel_rfl) (fun _ _ _ h => h) (by kernel_rfl) ?hq37 ?pq37 hS36 ?rq37
  case hq37 => (intro w hS; go_simp; try with_reducible rfl)
  case pq37 => (go_simp; try with_reducible rfl)
  refine tk 1 (bm 14 3) ?vq38 ?aq38 rfl (by kernel_rfl) (fun _ _ _ h => h) (by kernel_rfl) ?hq38 ?pq38 hS36 ?rq38
  case hq38 => (intro w hS; go_simp; try with_reducible rfl)
  case pq38 => (go_simp; try with_reducible rfl)
  refine tk 2 (bm 14 7) ?vq39 ?aq39 rfl (by kernel_rfl) (fun _ _ _ h => h) (by kernel_rfl) ?hq39 ?pq39 hS36 ?rq39
  case hq39 => (intro w hS; go_simp; try with_reducible rfl)
  case pq39 => (go_simp; try with_reducible rfl)
  refine tk 3 (bm 14 15) ?vq40 ?aq40 rfl (by kernel_rfl) (fun _ _ _ h => h) (by kernel_rfl) ?hq40 ?pq40 hS36 ?rq40
  case hq40 => (intro w hS; go_simp; try with_reducible rfl)
  case pq40 => (go_simp; try with_reducible rfl)
  refine tk 4 (bm 14 31) ?vq41 ?aq41 rfl (by kernel_rfl) (fun _ _ _ h => h) (by kernel_rfl) ?hq41 ?pq41 hS36 ?rq41
  case hq41 => (intro w hS; go_simp; try with_reducible rfl)
  case pq41 => (go_simp; try with_reducible rfl)
  refine tk 5 (bm 14 63) ?vq42 ?aq42 rfl (by kernel_rfl) (fun _ _ _ h => h) (by kernel_rfl) ?hq42 ?pq42 hS36 ?rq42
  case hq42 => (intro w hS; dsimp only [CellsL, al, vl, Nat.reduceAdd] at hS; go_simp; try with_reducible rfl)
  case pq42 => (go_simp; try with_reducible rfl)
  refine tkL 6 (bm 14 127) ?aq43 rfl (by kernel_rfl) (fun _ _ _ h => h) (by kernel_rfl) rfl rfl (fun _ hS => hS.2.1) (by rw [info_Affine]; rfl) Try.underlying29 rfl ?pq43 hS36 ?rq43
  case pq43 => (go_simp; try with_reducible rfl)
  refine tk 7 (bm 14 255) ?vq44 ?aq44 rfl (by kernel_rfl) (fun _ _ _ h => h) (by kernel_rfl) ?hq44 ?pq44 hS36 ?rq44
  case hq44 => (intro w hS; go_simp; try with_reducible rfl)
  case pq44 => (go_simp; try with_reducible rfl)
  refine tk 10 (bm 14 1279) ?vq45 ?aq45 rfl (by kernel_rfl) (fun _ _ _ h => h) (by kernel_rfl) ?hq45 ?pq45 hS36 ?rq45
  case hq45 => (intro w hS; go_simp; try with_reducible rfl)
  case pq45 => (go_simp; try with_reducible rfl)
  refine tk 11 (bm 14 3327) ?vq46 ?aq46 rfl (by kernel_rfl) (fun _ _ _ h => h) (by kernel_rfl) ?hq46 ?pq46 hS36 ?rq46
  case hq46 => (intro w hS; go_simp; try with_reducible rfl)
  case pq46 => (go_simp; try with_reducible rfl)
  refine wpAnyH_oneN (i := 8) (l' := bm 14 3583) rfl (by kernel_rfl) (by kernel_rfl) (by kernel_rfl) (fun K hK => ?_)
  go_simp
  go_at_call 66
  refine (C2.out _).mono ?_
  rintro r w47 ⟨rfl, hb⟩
  dsimp only
  have D48 := ds D35 hb
  clear D35
  clear hb
  have hS49 : True ∧ Blk w47 (w.heap.size + 1) 29 (ac n) ∧ CellsL w47 (w.heap.size) 0 (vl m.a) := ⟨trivial, (kb K28 D48), (kb K27 D48).cellsL 0 (vl m.a) rfl⟩
  refine hK _ _ hS49 ?_
  clear hK K hS36
  refine wpAnyH_oneN (i := 9) (l' := bm 14 4095) rfl (by kernel_rfl) (by kernel_rfl) (by kernel_rfl) (fun K hK => ?_)
  go_simp
  go_at_call 32
  refine (C3.out _).mono ?_
  rintro r w50 ⟨rfl, hb⟩
  dsimp only
  have D51 := ds D48 hb
  clear D48
  clear hb
  have hS52 : True ∧ Blk w50 (w.heap.size + 1) 29 (ac n) ∧ CellsL w50 (w.heap.size) 0 (vl m.a) := ⟨trivial, (kb K28 D51), (kb K27 D51).cellsL 0 (vl m.a) rfl⟩
  refine hK _ _ hS52 ?_
  clear hK K hS49
  refine tk 12 (bm 14 8191) ?vq53 ?aq53 rfl (by kernel_rfl) (fun _ _ _ h => h) (by kernel_rfl) ?hq53 ?pq53 hS52 ?rq53
  case hq53 => (intro w hS; go_simp; try with_reducible rfl)
  case pq53 => (go_simp; try with_reducible rfl)
  refine wpAnyH_oneN (i := 13) (l' := bm 14 16383) rfl (by kernel_rfl) (by kernel_rfl) (by kernel_rfl) (fun K hK => ?_)
  have f56 := (kb K30 D51).cellsL 2 [.float .f64 0, .float .f64 0] rfl
  dsimp only [CellsL, al, vl, Nat.reduceAdd] at f56
  have u57 := (kb K30 D51).unfrozen
  obtain ⟨V54, hV55⟩ : ∃ V, setCells w50 (w.heap.size + 1 + 1 + 1) 2 [.float .f64 p3.lo, .float .f64 p3.hi] = V := ⟨_, rfl⟩
  have hv58 := hV55
  simp only [setCells, Nat.reduceAdd] at hv58
  have K59 := kf hV55 K27 D51 (by omega)
  have K60 := kf hV55 K28 D51 (by omega)
  have K61 := kf hV55 K29 D51 (by omega)
  have K62 := Lib.hid (show Blk V54 (w.heap.size + 1 + 1 + 1) 29 #[.float .f64 p1.lo, .float .f64 p1.hi, .float .f64 p3.lo, .float .f64 p3.hi, .float .f64 0, .float .f64 0, .float .f64 0, .float .f64 0, .float .f64 0, .float .f64 0, .float .f64 0, .float .f64 0, .float .f64 0, .float .f64 0, .float .f64 0, .float .f64 0, .float .f64 0, .float .f64 0, .float .f64 0, .float .f64 0, .float .f64 0, .float .f64 0, .float .f64 0, .float .f64 0] from (ks hV55 K30 D51).out)
  have HB63 := hbs hV55 HB31 D51 (by omega)
  have D64 := dr V54
  clear K27 K28 K29 K30 HB31 D51
  go_simp
  clear hV55 f56 u57 hv58
  have hS65 : True ∧ Blk V54 (w.heap.size + 1) 29 (ac n) ∧ CellsL V54 (w.heap.size) 0 (vl m.a) := ⟨trivial, (kb K60 D64), (kb K59 D64).cellsL 0 (vl m.a) rfl⟩
  refine hK _ _ hS65 ?_
  clear hK K hS52
  refine wpAnyH_done (by kernel_rfl) ?_ _
  clear hS65
  go_wp2_with fail
  rw [rounds_succ]
  go_wp2_with fail
  refine wp_region_held (S := (fun w' => True ∧ Blk w' (w.heap.size + 1) 29 (ac n) ∧ CellsL w' (w.heap.size) 0 (vl m.a))) (by kernel_rfl) ?_
  change wpAnyH _ _ _ _ _ _ _ _ (World.drew _)
  obtain ⟨wd66, hwd⟩ : ∃ x, x = World.drew V54 := ⟨_, rfl⟩
  rw [← hwd]
  have D67 := Lib.hid (hwd ▸ Below.drew D64.out : Below V54.heap.size V54 wd66)
  clear D64 hwd
  have hS68 : True ∧ Blk wd66 (w.heap.size + 1) 29 (ac n) ∧ CellsL wd66 (w.heap.size) 0 (vl m.a) := ⟨trivial, (kb K60 D67), (kb K59 D67).cellsL 0 (vl m.a) rfl⟩
  refine tk 0 (bm 14 1) ?vq69 ?aq69 rfl (by kernel_rfl) (fun _ _ _ h => h) (by kernel_rfl) ?hq69 ?pq69 hS68 ?rq69
  case hq69 => (intro w hS; go_simp; try with_reducible rfl)
  case pq69 => (go_simp; try with_reducible rfl)
  refine tk 1 (bm 14 3) ?vq70 ?aq70 rfl (by kernel_rfl) (fun _ _ _ h => h) (by kernel_rfl) ?hq70 ?pq70 hS68 ?rq70
  case hq70 => (intro w hS; go_simp; try with_reducible rfl)
  case pq70 => (go_simp; try with_reducible rfl)
  refine tk 2 (bm 14 7) ?vq71 ?aq71 rfl (by kernel_rfl) (fun _ _ _ h => h) (by kernel_rfl) ?hq71 ?pq71 hS68 ?rq71
  case hq71 => (intro w hS; go_simp; try with_reducible rfl)
  case pq71 => (go_simp; try with_reducible rfl)
  refine tk 3 (bm 14 15) ?vq72 ?aq72 rfl (by kernel_rfl) (fun _ _ _ h => h) (by kernel_rfl) ?hq72 ?pq72 hS68 ?rq72
  case hq72 => (intro w hS; go_simp; try with_reducible rfl)
  case pq72 => (go_simp; try with_reducible rfl)
  refine tk 4 (bm 14 31) ?vq73 ?aq73 rfl (by kernel_rfl) (fun _ _ _ h => h) (by kernel_rfl) ?hq73 ?pq73 hS68 ?rq73
  case hq73 => (intro w hS; go_simp; try with_reducible rfl)
  case pq73 => (go_simp; try with_reducible rfl)
  refine tk 5 (bm 14 63) ?vq74 ?aq74 rfl (by kernel_rfl) (fun _ _ _ h => h) (by kernel_rfl) ?hq74 ?pq74 hS68 ?rq74
  case hq74 => (intro w hS; dsimp only [CellsL, al, vl, Nat.reduceAdd] at hS; go_simp; try with_reducible rfl)
  case pq74 => (go_simp; try with_reducible rfl)
  refine tkL 6 (bm 14 127) ?aq75 rfl (by kernel_rfl) (fun _ _ _ h => h) (by kernel_rfl) rfl rfl (fun _ hS => hS.2.1) (by rw [info_Affine]; rfl) Try.underlying29 rfl ?pq75 hS68 ?rq75
  case pq75 => (go_simp; try with_reducible rfl)
  refine tk 7 (bm 14 255) ?vq76 ?aq76 rfl (by kernel_rfl) (fun _ _ _ h => h) (by kernel_rfl) ?hq76 ?pq76 hS68 ?rq76
  case hq76 => (intro w hS; go_simp; try with_reducible rfl)
  case pq76 => (go_simp; try with_reducible rfl)
  refine tk 10 (bm 14 1279) ?vq77 ?aq77 rfl (by kernel_rfl) (fun _ _ _ h => h) (by kernel_rfl) ?hq77 ?pq77 hS68 ?rq77
  case hq77 => (intro w hS; go_simp; try with_reducible rfl)
  case pq77 => (go_simp; try with_reducible rfl)
  refine tk 11 (bm 14 3327) ?vq78 ?aq78 rfl (by kernel_rfl) (fun _ _ _ h => h) (by kernel_rfl) ?hq78 ?pq78 hS68 ?rq78
  case hq78 => (intro w hS; go_simp; try with_reducible rfl)
  case pq78 => (go_simp; try with_reducible rfl)
  refine wpAnyH_oneN (i := 8) (l' := bm 14 3583) rfl (by kernel_rfl) (by kernel_rfl) (by kernel_rfl) (fun K hK => ?_)
  go_simp
  go_at_call 66
  refine (C4.out _).mono ?_
  rintro r w79 ⟨rfl, hb⟩
  dsimp only
  have D80 := ds D67 hb
  clear D67
  clear hb
  have hS81 : True ∧ Blk w79 (w.heap.size + 1) 29 (ac n) ∧ CellsL w79 (w.heap.size) 0 (vl m.a) := ⟨trivial, (kb K60 D80), (kb K59 D80).cellsL 0 (vl m.a) rfl⟩
  refine hK _ _ hS81 ?_
  clear hK K hS68
  refine wpAnyH_oneN (i := 9) (l' := bm 14 4095) rfl (by kernel_rfl) (by kernel_rfl) (by kernel_rfl) (fun K hK => ?_)
  go_simp
  go_at_call 32
  refine (C5.out _).mono ?_
  rintro r w82 ⟨rfl, hb⟩
  dsimp only
  have D83 := ds D80 hb
  clear D80
  clear hb
  have hS84 : True ∧ Blk w82 (w.heap.size + 1) 29 (ac n) ∧ CellsL w82 (w.heap.size) 0 (vl m.a) := ⟨trivial, (kb K60 D83), (kb K59 D83).cellsL 0 (vl m.a) rfl⟩
  refine hK _ _ hS84 ?_
  clear hK K hS81
  refine tk 12 (bm 14 8191) ?vq85 ?aq85 rfl (by kernel_rfl) (fun _ _ _ h => h) (by kernel_rfl) ?hq85 ?pq85 hS84 ?rq85
  case hq85 => (intro w hS; go_simp; try with_reducible rfl)
  case pq85 => (go_simp; try with_reducible rfl)
  refine wpAnyH_oneN (i := 13) (l' := bm 14 16383) rfl (by kernel_rfl) (by kernel_rfl) (by kernel_rfl) (fun K hK => ?_)
  have f88 := (kb K62 D83).cellsL 4 [.float .f64 0, .float .f64 0] rfl
  dsimp only [CellsL, al, vl, Nat.reduceAdd] at f88
  have u89 := (kb K62 D83).unfrozen
  obtain ⟨V86, hV87⟩ : ∃ V, setCells w82 (w.heap.size + 1 + 1 + 1) 4 [.float .f64 p5.lo, .float .f64 p5.hi] = V := ⟨_, rfl⟩
  have hv90 := hV87
  simp only [setCells, Nat.reduceAdd] at hv90
  have K91 := kf hV87 K59 D83 (by omega)
  have K92 := kf hV87 K60 D83 (by omega)
  have K93 := kf hV87 K61 D83 (by omega)
  have K94 := Lib.hid (show Blk V86 (w.heap.size + 1 + 1 + 1) 29 #[.float .f64 p1.lo, .float .f64 p1.hi, .float .f64 p3.lo, .float .f64 p3.hi, .float .f64 p5.lo, .float .f64 p5.hi, .float .f64 0, .float .f64 0, .float .f64 0, .float .f64 0, .float .f64 0, .float .f64 0, .float .f64 0, .float .f64 0, .float .f64 0, .float .f64 0, .float .f64 0, .float .f64 0, .float .f64 0, .float .f64 0, .float .f64 0, .float .f64 0, .float .f64 0, .float .f64 0] from (ks hV87 K62 D83).out)
  have HB95 := hbs hV87 HB63 D83 (by omega)
  have D96 := dr V86
  clear K59 K60 K61 K62 HB63 D83
  go_simp
  clear hV87 f88 u89 hv90
  have hS97 : True ∧ Blk V86 (w.heap.size + 1) 29 (ac n) ∧ CellsL V86 (w.heap.size) 0 (vl m.a) := ⟨trivial, (kb K92 D96), (kb K91 D96).cellsL 0 (vl m.a) rfl⟩
  refine hK _ _ hS97 ?_
  clear hK K hS84
  refine wpAnyH_done (by kernel_rfl) ?_ _
  clear hS97
  go_wp2_with fail
  rw [rounds_succ]
  go_wp2_with fail
  rw [rounds_succ]
  go_wp2_with fail
  refine wp_loop_rounds 4 ?_
  rw [rounds_succ]
  go_wp2_with fail
  refine wp_region_held (S := (fun w' => True ∧ Blk w' (w.heap.size + 1) 29 (ac n) ∧ CellsL w' (w.heap.size) 6 (vl m.b))) (by kernel_rfl) ?_
  change wpAnyH _ _ _ _ _ _ _ _ (World.drew _)
  obtain ⟨wd98, hwd⟩ : ∃ x, x = World.drew V86 := ⟨_, rfl⟩
  rw [← hwd]
  have D99 := Lib.hid (hwd ▸ Below.drew D96.out : Below V86.heap.size V86 wd98)
  clear D96 hwd
  have hS100 : True ∧ Blk wd98 (w.heap.size + 1) 29 (ac n) ∧ CellsL wd98 (w.heap.size) 6 (vl m.b) := ⟨trivial, (kb K92 D99), (kb K91 D99).cellsL 6 (vl m.b) rfl⟩
  refine tk 0 (bm 14 1) ?vq101 ?aq101 rfl (by kernel_rfl) (fun _ _ _ h => h) (by kernel_rfl) ?hq101 ?pq101 hS100 ?rq101
  case hq101 => (intro w hS; go_simp; try with_reducible rfl)
  case pq101 => (go_simp; try with_reducible rfl)
  refine tk 1 (bm 14 3) ?vq102 ?aq102 rfl (by kernel_rfl) (fun _ _ _ h => h) (by kernel_rfl) ?hq102 ?pq102 hS100 ?rq102
  case hq102 => (intro w hS; go_simp; try with_reducible rfl)
  case pq102 => (go_simp; try with_reducible rfl)
  refine tk 2 (bm 14 7) ?vq103 ?aq103 rfl (by kernel_rfl) (fun _ _ _ h => h) (by kernel_rfl) ?hq103 ?pq103 hS100 ?rq103
  case hq103 => (intro w hS; go_simp; try with_reducible rfl)
  case pq103 => (go_simp; try with_reducible rfl)
  refine tk 3 (bm 14 15) ?vq104 ?aq104 rfl (by kernel_rfl) (fun _ _ _ h => h) (by kernel_rfl) ?hq104 ?pq104 hS100 ?rq104
  case hq104 => (intro w hS; go_simp; try with_reducible rfl)
  case pq104 => (go_simp; try with_reducible rfl)
  refine tk 4 (bm 14 31) ?vq105 ?aq105 rfl (by kernel_rfl) (fun _ _ _ h => h) (by kernel_rfl) ?hq105 ?pq105 hS100 ?rq105
  case hq105 => (intro w hS; go_simp; try with_reducible rfl)
  case pq105 => (go_simp; try with_reducible rfl)
  refine tk 5 (bm 14 63) ?vq106 ?aq106 rfl (by kernel_rfl) (fun _ _ _ h => h) (by kernel_rfl) ?hq106 ?pq106 hS100 ?rq106
  case hq106 => (intro w hS; dsimp only [CellsL, al, vl, Nat.reduceAdd] at hS; go_simp; try with_reducible rfl)
  case pq106 => (go_simp; try with_reducible rfl)
  refine tkL 6 (bm 14 127) ?aq107 rfl (by kernel_rfl) (fun _ _ _ h => h) (by kernel_rfl) rfl rfl (fun _ hS => hS.2.1) (by rw [info_Affine]; rfl) Try.underlying29 rfl ?pq107 hS100 ?rq107
  case pq107 => (go_simp; try with_reducible rfl)
  refine tk 7 (bm 14 255) ?vq108 ?aq108 rfl (by kernel_rfl) (fun _ _ _ h => h) (by kernel_rfl) ?hq108 ?pq108 hS100 ?rq108
  case hq108 => (intro w hS; go_simp; try with_reducible rfl)
  case pq108 => (go_simp; try with_reducible rfl)
  refine tk 10 (bm 14 1279) ?vq109 ?aq109 rfl (by kernel_rfl) (fun _ _ _ h => h) (by kernel_rfl) ?hq109 ?pq109 hS100 ?rq109
  case hq109 => (intro w hS; go_simp; try with_reducible rfl)
  case pq109 => (go_simp; try with_reducible rfl)
  refine tk 11 (bm 14 3327) ?vq110 ?aq110 rfl (by kernel_rfl) (fun _ _ _ h => h) (by kernel_rfl) ?hq110 ?pq110 hS100 ?rq110
  case hq110 => (intro w hS; go_simp; try with_reducible rfl)
  case pq110 => (go_simp; try with_reducible rfl)
  refine wpAnyH_oneN (i := 8) (l' := bm 14 3583) rfl (by kernel_rfl) (by kernel_rfl) (by kernel_rfl) (fun K hK => ?_)
  go_simp
  go_at_call 66
  refine (C6.out _).mono ?_
  rintro r w111 ⟨rfl, hb⟩
  dsimp only
  have D112 := ds D99 hb
  clear D99
  clear hb
  have hS113 : True ∧ Blk w111 (w.heap.size + 1) 29 (ac n) ∧ CellsL w111 (w.heap.size) 6 (vl m.b) := ⟨trivial, (kb K92 D112), (kb K91 D112).cellsL 6 (vl m.b) rfl⟩
  refine hK _ _ hS113 ?_
  clear hK K hS100
  refine wpAnyH_oneN (i := 9) (l' := bm 14 4095) rfl (by kernel_rfl) (by kernel_rfl) (by kernel_rfl) (fun K hK => ?_)
  go_simp
  go_at_call 32
  refine (C7.out _).mono ?_
  rintro r w114 ⟨rfl, hb⟩
  dsimp only
  have D115 := ds D112 hb
  clear D112
  clear hb
  have hS116 : True ∧ Blk w114 (w.heap.size + 1) 29 (ac n) ∧ CellsL w114 (w.heap.size) 6 (vl m.b) := ⟨trivial, (kb K92 D115), (kb K91 D115).cellsL 6 (vl m.b) rfl⟩
  refine hK _ _ hS116 ?_
  clear hK K hS113
  refine tk 12 (bm 14 8191) ?vq117 ?aq117 rfl (by kernel_rfl) (fun _ _ _ h => h) (by kernel_rfl) ?hq117 ?pq117 hS116 ?rq117
  case hq117 => (intro w hS; go_simp; try with_reducible rfl)
  case pq117 => (go_simp; try with_reducible rfl)
  refine wpAnyH_oneN (i := 13) (l' := bm 14 16383) rfl (by kernel_rfl) (by kernel_rfl) (by kernel_rfl) (fun K hK => ?_)
  have f120 := (kb K94 D115).cellsL 6 [.float .f64 0, .float .f64 0] rfl
  dsimp only [CellsL, al, vl, Nat.reduceAdd] at f120
  have u121 := (kb K94 D115).unfrozen
  obtain ⟨V118, hV119⟩ : ∃ V, setCells w114 (w.heap.size + 1 + 1 + 1) 6 [.float .f64 p7.lo, .float .f64 p7.hi] = V := ⟨_, rfl⟩
  have hv122 := hV119
  simp only [setCells, Nat.reduceAdd] at hv122
  have K123 := kf hV119 K91 D115 (by omega)
  have K124 := kf hV119 K92 D115 (by omega)
  have K125 := kf hV119 K93 D115 (by omega)
  have K126 := Lib.hid (show Blk V118 (w.heap.size + 1 + 1 + 1) 29 #[.float .f64 p1.lo, .float .f64 p1.hi, .float .f64 p3.lo, .float .f64 p3.hi, .float .f64 p5.lo, .float .f64 p5.hi, .float .f64 p7.lo, .float .f64 p7.hi, .float .f64 0, .float .f64 0, .float .f64 0, .float .f64 0, .float .f64 0, .float .f64 0, .float .f64 0, .float .f64 0, .float .f64 0, .float .f64 0, .float .f64 0, .float .f64 0, .float .f64 0, .float .f64 0, .float .f64 0, .float .f64 0] from (ks hV119 K94 D115).out)
  have HB127 := hbs hV119 HB95 D115 (by omega)
  have D128 := dr V118
  clear K91 K92 K93 K94 HB95 D115
  go_simp
  clear hV119 f120 u121 hv122
  have hS129 : True ∧ Blk V118 (w.heap.size + 1) 29 (ac n) ∧ CellsL V118 (w.heap.size) 6 (vl m.b) := ⟨trivial, (kb K124 D128), (kb K123 D128).cellsL 6 (vl m.b) rfl⟩
  refine hK _ _ hS129 ?_
  clear hK K hS116
  refine wpAnyH_done (by kernel_rfl) ?_ _
  clear hS129
  go_wp2_with fail
  rw [rounds_succ]
  go_wp2_with fail
  refine wp_region_held (S := (fun w' => True ∧ Blk w' (w.heap.size + 1) 29 (ac n) ∧ CellsL w' (w.heap.size) 6 (vl m.b))) (by kernel_rfl) ?_
  change wpAnyH _ _ _ _ _ _ _ _ (World.drew _)
  obtain ⟨wd130, hwd⟩ : ∃ x, x = World.drew V118 := ⟨_, rfl⟩
  rw [← hwd]
  have D131 := Lib.hid (hwd ▸ Below.drew D128.out : Below V118.heap.size V118 wd130)
  clear D128 hwd
  have hS132 : True ∧ Blk wd130 (w.heap.size + 1) 29 (ac n) ∧ CellsL wd130 (w.heap.size) 6 (vl m.b) := ⟨trivial, (kb K124 D131), (kb K123 D131).cellsL 6 (vl m.b) rfl⟩
  refine tk 0 (bm 14 1) ?vq133 ?aq133 rfl (by kernel_rfl) (fun _ _ _ h => h) (by kernel_rfl) ?hq133 ?pq133 hS132 ?rq133
  case hq133 => (intro w hS; go_simp; try with_reducible rfl)
  case pq133 => (go_simp; try with_reducible rfl)
  refine tk 1 (bm 14 3) ?vq134 ?aq134 rfl (by kernel_rfl) (fun _ _ _ h => h) (by kernel_rfl) ?hq134 ?pq134 hS132 ?rq134
  case hq134 => (intro w hS; go_simp; try with_reducible rfl)
  case pq134 => (go_simp; try with_reducible rfl)
  refine tk 2 (bm 14 7) ?vq135 ?aq135 rfl (by kernel_rfl) (fun _ _ _ h => h) (by kernel_rfl) ?hq135 ?pq135 hS132 ?rq135
  case hq135 => (intro w hS; go_simp; try with_reducible rfl)
  case pq135 => (go_simp; try with_reducible rfl)
  refine tk 3 (bm 14 15) ?vq136 ?aq136 rfl (by kernel_rfl) (fun _ _ _ h => h) (by kernel_rfl) ?hq136 ?pq136 hS132 ?rq136
  case hq136 => (intro w hS; go_simp; try with_reducible rfl)
  case pq136 => (go_simp; try with_reducible rfl)
  refine tk 4 (bm 14 31) ?vq137 ?aq137 rfl (by kernel_rfl) (fun _ _ _ h => h) (by kernel_rfl) ?hq137 ?pq137 hS132 ?rq137
  case hq137 => (intro w hS; go_simp; try with_reducible rfl)
  case pq137 => (go_simp; try with_reducible rfl)
  refine tk 5 (bm 14 63) ?vq138 ?aq138 rfl (by kernel_rfl) (fun _ _ _ h => h) (by kernel_rfl) ?hq138 ?pq138 hS132 ?rq138
  case hq138 => (intro w hS; dsimp only [CellsL, al, vl, Nat.reduceAdd] at hS; go_simp; try with_reducible rfl)
  case pq138 => (go_simp; try with_reducible rfl)
  refine tkL 6 (bm 14 127) ?aq139 rfl (by kernel_rfl) (fun _ _ _ h => h) (by kernel_rfl) rfl rfl (fun _ hS => hS.2.1) (by rw [info_Affine]; rfl) Try.underlying29 rfl ?pq139 hS132 ?rq139
  case pq139 => (go_simp; try with_reducible rfl)
  refine tk 7 (bm 14 255) ?vq140 ?aq140 rfl (by kernel_rfl) (fun _ _ _ h => h) (by kernel_rfl) ?hq140 ?pq140 hS132 ?rq140
  case hq140 => (intro w hS; go_simp; try with_reducible rfl)
  case pq140 => (go_simp; try with_reducible rfl)
  refine tk 10 (bm 14 1279) ?vq141 ?aq141 rfl (by kernel_rfl) (fun _ _ _ h => h) (by kernel_rfl) ?hq141 ?pq141 hS132 ?rq141
  case hq141 => (intro w hS; go_simp; try with_reducible rfl)
  case pq141 => (go_simp; try with_reducible rfl)
  refine tk 11 (bm 14 3327) ?vq142 ?aq142 rfl (by kernel_rfl) (fun _ _ _ h => h) (by kernel_rfl) ?hq142 ?pq142 hS132 ?rq142
  case hq142 => (intro w hS; go_simp; try with_reducible rfl)
  case pq142 => (go_simp; try with_reducible rfl)
  refine wpAnyH_oneN (i := 8) (l' := bm 14 3583) rfl (by kernel_rfl) (by kernel_rfl) (by kernel_rfl) (fun K hK => ?_)
  go_simp
  go_at_call 66
  refine (C8.out _).mono ?_
  rintro r w143 ⟨rfl, hb⟩
  dsimp only
  have D144 := ds D131 hb
  clear D131
  clear hb
  have hS145 : True ∧ Blk w143 (w.heap.size + 1) 29 (ac n) ∧ CellsL w143 (w.heap.size) 6 (vl m.b) := ⟨trivial, (kb K124 D144), (kb K123 D144).cellsL 6 (vl m.b) rfl⟩
  refine hK _ _ hS145 ?_
  clear hK K hS132
  refine wpAnyH_oneN (i := 9) (l' := bm 14 4095) rfl (by kernel_rfl) (by kernel_rfl) (by kernel_rfl) (fun K hK => ?_)
  go_simp
  go_at_call 32
  refine (C9.out _).mono ?_
  rintro r w146 ⟨rfl, hb⟩
  dsimp only
  have D147 := ds D144 hb
  clear D144
  clear hb
  have hS148 : True ∧ Blk w146 (w.heap.size + 1) 29 (ac n) ∧ CellsL w146 (w.heap.size) 6 (vl m.b) := ⟨trivial, (kb K124 D147), (kb K123 D147).cellsL 6 (vl m.b) rfl⟩
  refine hK _ _ hS148 ?_
  clear hK K hS145
  refine tk 12 (bm 14 8191) ?vq149 ?aq149 rfl (by kernel_rfl) (fun _ _ _ h => h) (by kernel_rfl) ?hq149 ?pq149 hS148 ?rq149
  case hq149 => (intro w hS; go_simp; try with_reducible rfl)
  case pq149 => (go_simp; try with_reducible rfl)
  refine wpAnyH_oneN (i := 13) (l' := bm 14 16383) rfl (by kernel_rfl) (by kernel_rfl) (by kernel_rfl) (fun K hK => ?_)
  have f152 := (kb K126 D147).cellsL 8 [.float .f64 0, .float .f64 0] rfl
  dsimp only [CellsL, al, vl, Nat.reduceAdd] at f152
  have u153 := (kb K126 D147).unfrozen
  obtain ⟨V150, hV151⟩ : ∃ V, setCells w146 (w.heap.size + 1 + 1 + 1) 8 [.float .f64 p9.lo, .float .f64 p9.hi] = V := ⟨_, rfl⟩
  have hv154 := hV151
  simp only [setCells, Nat.reduceAdd] at hv154
  have K155 := kf hV151 K123 D147 (by omega)
  have K156 := kf hV151 K124 D147 (by omega)
  have K157 := kf hV151 K125 D147 (by omega)
  have K158 := Lib.hid (show Blk V150 (w.heap.size + 1 + 1 + 1) 29 #[.float .f64 p1.lo, .float .f64 p1.hi, .float .f64 p3.lo, .float .f64 p3.hi, .float .f64 p5.lo, .float .f64 p5.hi, .float .f64 p7.lo, .float .f64 p7.hi, .float .f64 p9.lo, .float .f64 p9.hi, .float .f64 0, .float .f64 0, .float .f64 0, .float .f64 0, .float .f64 0, .float .f64 0, .float .f64 0, .float .f64 0, .float .f64 0, .float .f64 0, .float .f64 0, .float .f64 0, .float .f64 0, .float .f64 0] from (ks hV151 K126 D147).out)
  have HB159 := hbs hV151 HB127 D147 (by omega)
  have D160 := dr V150
  clear K123 K124 K125 K126 HB127 D147
  go_simp
  clear hV151 f152 u153 hv154
  have hS161 : True ∧ Blk V150 (w.heap.size + 1) 29 (ac n) ∧ CellsL V150 (w.heap.size) 6 (vl m.b) := ⟨trivial, (kb K156 D160), (kb K155 D160).cellsL 6 (vl m.b) rfl⟩
  refine hK _ _ hS161 ?_
  clear hK K hS148
  refine wpAnyH_done (by kernel_rfl) ?_ _
  clear hS161
  go_wp2_with fail
  rw [rounds_succ]
  go_wp2_with fail
  refine wp_region_held (S := (fun w' => True ∧ Blk w' (w.heap.size + 1) 29 (ac n) ∧ CellsL w' (w.heap.size) 6 (vl m.b))) (by kernel_rfl) ?_
  change wpAnyH _ _ _ _ _ _ _ _ (World.drew _)
  obtain ⟨wd162, hwd⟩ : ∃ x, x = World.drew V150 := ⟨_, rfl⟩
  rw [← hwd]
  have D163 := Lib.hid (hwd ▸ Below.drew D160.out : Below V150.heap.size V150 wd162)
  clear D160 hwd
  have hS164 : True ∧ Blk wd162 (w.heap.size + 1) 29 (ac n) ∧ CellsL wd162 (w.heap.size) 6 (vl m.b) := ⟨trivial, (kb K156 D163), (kb K155 D163).cellsL 6 (vl m.b) rfl⟩
  refine tk 0 (bm 14 1) ?vq165 ?aq165 rfl (by kernel_rfl) (fun _ _ _ h => h) (by kernel_rfl) ?hq165 ?pq165 hS164 ?rq165
  case hq165 => (intro w hS; go_simp; try with_reducible rfl)
  case pq165 => (go_simp; try with_reducible rfl)
  refine tk 1 (bm 14 3) ?vq166 ?aq166 rfl (by kernel_rfl) (fun _ _ _ h => h) (by kernel_rfl) ?hq166 ?pq166 hS164 ?rq166
  case hq166 => (intro w hS; go_simp; try with_reducible rfl)
  case pq166 => (go_simp; try with_reducible rfl)
  refine tk 2 (bm 14 7) ?vq167 ?aq167 rfl (by kernel_rfl) (fun _ _ _ h => h) (by kernel_rfl) ?hq167 ?pq167 hS164 ?rq167
  case hq167 => (intro w hS; go_simp; try with_reducible rfl)
  case pq167 => (go_simp; try with_reducible rfl)
  refine tk 3 (bm 14 15) ?vq168 ?aq168 rfl (by kernel_rfl) (fun _ _ _ h => h) (by kernel_rfl) ?hq168 ?pq168 hS164 ?rq168
  case hq168 => (intro w hS; go_simp; try with_reducible rfl)
  case pq168 => (go_simp; try with_reducible rfl)
  refine tk 4 (bm 14 31) ?vq169 ?aq169 rfl (by kernel_rfl) (fun _ _ _ h => h) (by kernel_rfl) ?hq169 ?pq169 hS164 ?rq169
  case hq169 => (intro w hS; go_simp; try with_reducible rfl)
  case pq169 => (go_simp; try with_reducible rfl)
  refine tk 5 (bm 14 63) ?vq170 ?aq170 rfl (by kernel_rfl) (fun _ _ _ h => h) (by kernel_rfl) ?hq170 ?pq170 hS164 ?rq170
  case hq170 => (intro w hS; dsimp only [CellsL, al, vl, Nat.reduceAdd] at hS; go_simp; try with_reducible rfl)
  case pq170 => (go_simp; try with_reducible rfl)
  refine tkL 6 (bm 14 127) ?aq171 rfl (by kernel_rfl) (fun _ _ _ h => h) (by kernel_rfl) rfl rfl (fun _ hS => hS.2.1) (by rw [info_Affine]; rfl) Try.underlying29 rfl ?pq171 hS164 ?rq171
  case pq171 => (go_simp; try with_reducible rfl)
  refine tk 7 (bm 14 255) ?vq172 ?aq172 rfl (by kernel_rfl) (fun _ _ _ h => h) (by kernel_rfl) ?hq172 ?pq172 hS164 ?rq172
  case hq172 => (intro w hS; go_simp; try with_reducible rfl)
  case pq172 => (go_simp; try with_reducible rfl)
  refine tk 10 (bm 14 1279) ?vq173 ?aq173 rfl (by kernel_rfl) (fun _ _ _ h => h) (by kernel_rfl) ?hq173 ?pq173 hS164 ?rq173
  case hq173 => (intro w hS; go_simp; try with_reducible rfl)
  case pq173 => (go_simp; try with_reducible rfl)
  refine tk 11 (bm 14 3327) ?vq174 ?aq174 rfl (by kernel_rfl) (fun _ _ _ h => h) (by kernel_rfl) ?hq174 ?pq174 hS164 ?rq174
  case hq174 => (intro w hS; go_simp; try with_reducible rfl)
  case pq174 => (go_simp; try with_reducible rfl)
  refine wpAnyH_oneN (i := 8) (l' := bm 14 3583) rfl (by kernel_rfl) (by kernel_rfl) (by kernel_rfl) (fun K hK => ?_)
  go_simp
  go_at_call 66
  refine (C10.out _).mono ?_
  rintro r w175 ⟨rfl, hb⟩
  dsimp only
  have D176 := ds D163 hb
  clear D163
  clear hb
  have hS177 : True ∧ Blk w175 (w.heap.size + 1) 29 (ac n) ∧ CellsL w175 (w.heap.size) 6 (vl m.b) := ⟨trivial, (kb K156 D176), (kb K155 D176).cellsL 6 (vl m.b) rfl⟩
  refine hK _ _ hS177 ?_
  clear hK K hS164
  refine wpAnyH_oneN (i := 9) (l' := bm 14 4095) rfl (by kernel_rfl) (by kernel_rfl) (by kernel_rfl) (fun K hK => ?_)
  go_simp
  go_at_call 32
  refine (C11.out _).mono ?_
  rintro r w178 ⟨rfl, hb⟩
  dsimp only
  have D179 := ds D176 hb
  clear D176
  clear hb
  have hS180 : True ∧ Blk w178 (w.heap.size + 1) 29 (ac n) ∧ CellsL w178 (w.heap.size) 6 (vl m.b) := ⟨trivial, (kb K156 D179), (kb K155 D179).cellsL 6 (vl m.b) rfl⟩
  refine hK _ _ hS180 ?_
  clear hK K hS177
  refine tk 12 (bm 14 8191) ?vq181 ?aq181 rfl (by kernel_rfl) (fun _ _ _ h => h) (by kernel_rfl) ?hq181 ?pq181 hS180 ?rq181
  case hq181 => (intro w hS; go_simp; try with_reducible rfl)
  case pq181 => (go_simp; try with_reducible rfl)
  refine wpAnyH_oneN (i := 13) (l' := bm 14 16383) rfl (by kernel_rfl) (by kernel_rfl) (by kernel_rfl) (fun K hK => ?_)
  have f184 := (kb K158 D179).cellsL 10 [.float .f64 0, .float .f64 0] rfl
  dsimp only [CellsL, al, vl, Nat.reduceAdd] at f184
  have u185 := (kb K158 D179).unfrozen
  obtain ⟨V182, hV183⟩ : ∃ V, setCells w178 (w.heap.size + 1 + 1 + 1) 10 [.float .f64 p11.lo, .float .f64 p11.hi] = V := ⟨_, rfl⟩
  have hv186 := hV183
  simp only [setCells, Nat.reduceAdd] at hv186
  have K187 := kf hV183 K155 D179 (by omega)
  have K188 := kf hV183 K156 D179 (by omega)
  have K189 := kf hV183 K157 D179 (by omega)
  have K190 := Lib.hid (show Blk V182 (w.heap.size + 1 + 1 + 1) 29 #[.float .f64 p1.lo, .float .f64 p1.hi, .float .f64 p3.lo, .float .f64 p3.hi, .float .f64 p5.lo, .float .f64 p5.hi, .float .f64 p7.lo, .float .f64 p7.hi, .float .f64 p9.lo, .float .f64 p9.hi, .float .f64 p11.lo, .float .f64 p11.hi, .float .f64 0, .float .f64 0, .float .f64 0, .float .f64 0, .float .f64 0, .float .f64 0, .float .f64 0, .float .f64 0, .float .f64 0, .float .f64 0, .float .f64 0, .float .f64 0] from (ks hV183 K158 D179).out)
  have HB191 := hbs hV183 HB159 D179 (by omega)
  have D192 := dr V182
  clear K155 K156 K157 K158 HB159 D179
  go_simp
  clear hV183 f184 u185 hv186
  have hS193 : True ∧ Blk V182 (w.heap.size + 1) 29 (ac n) ∧ CellsL V182 (w.heap.size) 6 (vl m.b) := ⟨trivial, (kb K188 D192), (kb K187 D192).cellsL 6 (vl m.b) rfl⟩
  refine hK _ _ hS193 ?_
  clear hK K hS180
  refine wpAnyH_done (by kernel_rfl) ?_ _
  clear hS193
  go_wp2_with fail
  rw [rounds_succ]
  go_wp2_with fail
  rw [rounds_succ]
  go_wp2_with fail
  refine wp_loop_rounds 4 ?_
  rw [rounds_succ]
  go_wp2_with fail
  refine wp_region_held (S := (fun w' => True ∧ Blk w' (w.heap.size + 1) 29 (ac n) ∧ CellsL w' (w.heap.size) 12 (vl m.c))) (by kernel_rfl) ?_
  change wpAnyH _ _ _ _ _ _ _ _ (World.drew _)
  obtain ⟨wd194, hwd⟩ : ∃ x, x = World.drew V182 := ⟨_, rfl⟩
  rw [← hwd]
  have D195 := Lib.hid (hwd ▸ Below.drew D192.out : Below V182.heap.size V182 wd194)
  clear D192 hwd
  have hS196 : True ∧ Blk wd194 (w.heap.size + 1) 29 (ac n) ∧ CellsL wd194 (w.heap.size) 12 (vl m.c) := ⟨trivial, (kb K188 D195), (kb K187 D195).cellsL 12 (vl m.c) rfl⟩
  refine tk 0 (bm 14 1) ?vq197 ?aq197 rfl (by kernel_rfl) (fun _ _ _ h => h) (by kernel_rfl) ?hq197 ?pq197 hS196 ?rq197
  case hq197 => (intro w hS; go_simp; try with_reducible rfl)
  case pq197 => (go_simp; try with_reducible rfl)
  refine tk 1 (bm 14 3) ?vq198 ?aq198 rfl (by kernel_rfl) (fun _ _ _ h => h) (by kernel_rfl) ?hq198 ?pq198 hS196 ?rq198
  case hq198 => (intro w hS; go_simp; try with_reducible rfl)
  case pq198 => (go_simp; try with_reducible rfl)
  refine tk 2 (bm 14 7) ?vq199 ?aq199 rfl (by kernel_rfl) (fun _ _ _ h => h) (by kernel_rfl) ?hq199 ?pq199 hS196 ?rq199
  case hq199 => (intro w hS; go_simp; try with_reducible rfl)
  case pq199 => (go_simp; try with_reducible rfl)
  refine tk 3 (bm 14 15) ?vq200 ?aq200 rfl (by kernel_rfl) (fun _ _ _ h => h) (by kernel_rfl) ?hq200 ?pq200 hS196 ?rq200
  case hq200 => (intro w hS; go_simp; try with_reducible rfl)
  case pq200 => (go_simp; try with_reducible rfl)
  refine tk 4 (bm 14 31) ?vq201 ?aq201 rfl (by kernel_rfl) (fun _ _ _ h => h) (by kernel_rfl) ?hq201 ?pq201 hS196 ?rq201
  case hq201 => (intro w hS; go_simp; try with_reducible rfl)
  case pq201 => (go_simp; try with_reducible rfl)
  refine tk 5 (bm 14 63) ?vq202 ?aq202 rfl (by kernel_rfl) (fun _ _ _ h => h) (by kernel_rfl) ?hq202 ?pq202 hS196 ?rq202
  case hq202 => (intro w hS; dsimp only [CellsL, al, vl, Nat.reduceAdd] at hS; go_simp; try with_reducible rfl)
  case pq202 => (go_simp; try with_reducible rfl)
  refine tkL 6 (bm 14 127) ?aq203 rfl (by kernel_rfl) (fun _ _ _ h => h) (by kernel_rfl) rfl rfl (fun _ hS => hS.2.1) (by rw [info_Affine]; rfl) Try.underlying29 rfl ?pq203 hS196 ?rq203
  case pq203 => (go_simp; try with_reducible rfl)
  refine tk 7 (bm 14 255) ?vq204 ?aq204 rfl (by kernel_rfl) (fun _ _ _ h => h) (by kernel_rfl) ?hq204 ?pq204 hS196 ?rq204
  case hq204 => (intro w hS; go_simp; try with_reducible rfl)
  case pq204 => (go_simp; try with_reducible rfl)
  refine tk 10 (bm 14 1279) ?vq205 ?aq205 rfl (by kernel_rfl) (fun _ _ _ h => h) (by kernel_rfl) ?hq205 ?pq205 hS196 ?rq205
  case hq205 => (intro w hS; go_simp; try with_reducible rfl)
  case pq205 => (go_simp; try with_reducible rfl)
  refine tk 11 (bm 14 3327) ?vq206 ?aq206 rfl (by kernel_rfl) (fun _ _ _ h => h) (by kernel_rfl) ?hq206 ?pq206 hS196 ?rq206
  case hq206 => (intro w hS; go_simp; try with_reducible rfl)
  case pq206 => (go_simp; try with_reducible rfl)
  refine wpAnyH_oneN (i := 8) (l' := bm 14 3583) rfl (by kernel_rfl) (by kernel_rfl) (by kernel_rfl) (fun K hK => ?_)
  go_simp
  go_at_call 66
  refine (C12.out _).mono ?_
  rintro r w207 ⟨rfl, hb⟩
  dsimp only
  have D208 := ds D195 hb
  clear D195
  clear hb
  have hS209 : True ∧ Blk w207 (w.heap.size + 1) 29 (ac n) ∧ CellsL w207 (w.heap.size) 12 (vl m.c) := ⟨trivial, (kb K188 D208), (kb K187 D208).cellsL 12 (vl m.c) rfl⟩
  refine hK _ _ hS209 ?_
  clear hK K hS196
  refine wpAnyH_oneN (i := 9) (l' := bm 14 4095) rfl (by kernel_rfl) (by kernel_rfl) (by kernel_rfl) (fun K hK => ?_)
  go_simp
  go_at_call 32
  refine (C13.out _).mono ?_
  rintro r w210 ⟨rfl, hb⟩
  dsimp only
  have D211 := ds D208 hb
  clear D208
  clear hb
  have hS212 : True ∧ Blk w210 (w.heap.size + 1) 29 (ac n) ∧ CellsL w210 (w.heap.size) 12 (vl m.c) := ⟨trivial, (kb K188 D211), (kb K187 D211).cellsL 12 (vl m.c) rfl⟩
  refine hK _ _ hS212 ?_
  clear hK K hS209
  refine tk 12 (bm 14 8191) ?vq213 ?aq213 rfl (by kernel_rfl) (fun _ _ _ h => h) (by kernel_rfl) ?hq213 ?pq213 hS212 ?rq213
  case hq213 => (intro w hS; go_simp; try with_reducible rfl)
  case pq213 => (go_simp; try with_reducible rfl)
  refine wpAnyH_oneN (i := 13) (l' := bm 14 16383) rfl (by kernel_rfl) (by kernel_rfl) (by kernel_rfl) (fun K hK => ?_)
  have f216 := (kb K190 D211).cellsL 12 [.float .f64 0, .float .f64 0] rfl
  dsimp only [CellsL, al, vl, Nat.reduceAdd] at f216
  have u217 := (kb K190 D211).unfrozen
  obtain ⟨V214, hV215⟩ : ∃ V, setCells w210 (w.heap.size + 1 + 1 + 1) 12 [.float .f64 p13.lo, .float .f64 p13.hi] = V := ⟨_, rfl⟩
  have hv218 := hV215
  simp only [setCells, Nat.reduceAdd] at hv218
  have K219 := kf hV215 K187 D211 (by omega)
  have K220 := kf hV215 K188 D211 (by omega)
  have K221 := kf hV215 K189 D211 (by omega)
  have K222 := Lib.hid (show Blk V214 (w.heap.size + 1 + 1 + 1) 29 #[.float .f64 p1.lo, .float .f64 p1.hi, .float .f64 p3.lo, .float .f64 p3.hi, .float .f64 p5.lo, .float .f64 p5.hi, .float .f64 p7.lo, .float .f64 p7.hi, .float .f64 p9.lo, .float .f64 p9.hi, .float .f64 p11.lo, .float .f64 p11.hi, .float .f64 p13.lo, .float .f64 p13.hi, .float .f64 0, .float .f64 0, .float .f64 0, .float .f64 0, .float .f64 0, .float .f64 0, .float .f64 0, .float .f64 0, .float .f64 0, .float .f64 0] from (ks hV215 K190 D211).out)
  have HB223 := hbs hV215 HB191 D211 (by omega)
  have D224 := dr V214
  clear K187 K188 K189 K190 HB191 D211
  go_simp
  clear hV215 f216 u217 hv218
  have hS225 : True ∧ Blk V214 (w.heap.size + 1) 29 (ac n) ∧ CellsL V214 (w.heap.size) 12 (vl m.c) := ⟨trivial, (kb K220 D224), (kb K219 D224).cellsL 12 (vl m.c) rfl⟩
  refine hK _ _ hS225 ?_
  clear hK K hS212
  refine wpAnyH_done (by kernel_rfl) ?_ _
  clear hS225
  go_wp2_with fail
  rw [rounds_succ]
  go_wp2_with fail
  refine wp_region_held (S := (fun w' => True ∧ Blk w' (w.heap.size + 1) 29 (ac n) ∧ CellsL w' (w.heap.size) 12 (vl m.c))) (by kernel_rfl) ?_
  change wpAnyH _ _ _ _ _ _ _ _ (World.drew _)
  obtain ⟨wd226, hwd⟩ : ∃ x, x = World.drew V214 := ⟨_, rfl⟩
  rw [← hwd]
  have D227 := Lib.hid (hwd ▸ Below.drew D224.out : Below V214.heap.size V214 wd226)
  clear D224 hwd
  have hS228 : True ∧ Blk wd226 (w.heap.size + 1) 29 (ac n) ∧ CellsL wd226 (w.heap.size) 12 (vl m.c) := ⟨trivial, (kb K220 D227), (kb K219 D227).cellsL 12 (vl m.c) rfl⟩
  refine tk 0 (bm 14 1) ?vq229 ?aq229 rfl (by kernel_rfl) (fun _ _ _ h => h) (by kernel_rfl) ?hq229 ?pq229 hS228 ?rq229
  case hq229 => (intro w hS; go_simp; try with_reducible rfl)
  case pq229 => (go_simp; try with_reducible rfl)
  refine tk 1 (bm 14 3) ?vq230 ?aq230 rfl (by kernel_rfl) (fun _ _ _ h => h) (by kernel_rfl) ?hq230 ?pq230 hS228 ?rq230
  case hq230 => (intro w hS; go_simp; try with_reducible rfl)
  case pq230 => (go_simp; try with_reducible rfl)
  refine tk 2 (bm 14 7) ?vq231 ?aq231 rfl (by kernel_rfl) (fun _ _ _ h => h) (by kernel_rfl) ?hq231 ?pq231 hS228 ?rq231
  case hq231 => (intro w hS; go_simp; try with_reducible rfl)
  case pq231 => (go_simp; try with_reducible rfl)
  refine tk 3 (bm 14 15) ?vq232 ?aq232 rfl (by kernel_rfl) (fun _ _ _ h => h) (by kernel_rfl) ?hq232 ?pq232 hS228 ?rq232
  case hq232 => (intro w hS; go_simp; try with_reducible rfl)
  case pq232 => (go_simp; try with_reducible rfl)
  refine tk 4 (bm 14 31) ?vq233 ?aq233 rfl (by kernel_rfl) (fun _ _ _ h => h) (by kernel_rfl) ?hq233 ?pq233 hS228 ?rq233
  case hq233 => (intro w hS; go_simp; try with_reducible rfl)
  case pq233 => (go_simp; try with_reducible rfl)
  refine tk 5 (bm 14 63) ?vq234 ?aq234 rfl (by kernel_rfl) (fun _ _ _ h => h) (by kernel_rfl) ?hq234 ?pq234 hS228 ?rq234
  case hq234 => (intro w hS; dsimp only [CellsL, al, vl, Nat.reduceAdd] at hS; go_simp; try with_reducible rfl)
  case pq234 => (go_simp; try with_reducible rfl)
  refine tkL 6 (bm 14 127) ?aq235 rfl (by kernel_rfl) (fun _ _ _ h => h) (by kernel_rfl) rfl rfl (fun _ hS => hS.2.1) (by rw [info_Affine]; rfl) Try.underlying29 rfl ?pq235 hS228 ?rq235
  case pq235 => (go_simp; try with_reducible rfl)
  refine tk 7 (bm 14 255) ?vq236 ?aq236 rfl (by kernel_rfl) (fun _ _ _ h => h) (by kernel_rfl) ?hq236 ?pq236 hS228 ?rq236
  case hq236 => (intro w hS; go_simp; try with_reducible rfl)
  case pq236 => (go_simp; try with_reducible rfl)
  refine tk 10 (bm 14 1279) ?vq237 ?aq237 rfl (by kernel_rfl) (fun _ _ _ h => h) (by kernel_rfl) ?hq237 ?pq237 hS228 ?rq237
  case hq237 => (intro w hS; go_simp; try with_reducible rfl)
  case pq237 => (go_simp; try with_reducible rfl)
  refine tk 11 (bm 14 3327) ?vq238 ?aq238 rfl (by kernel_rfl) (fun _ _ _ h => h) (by kernel_rfl) ?hq238 ?pq238 hS228 ?rq238
  case hq238 => (intro w hS; go_simp; try with_reducible rfl)
  case pq238 => (go_simp; try with_reducible rfl)
  refine wpAnyH_oneN (i := 8) (l' := bm 14 3583) rfl (by kernel_rfl) (by kernel_rfl) (by kernel_rfl) (fun K hK => ?_)
  go_simp
  go_at_call 66
  refine (C14.out _).mono ?_
  rintro r w239 ⟨rfl, hb⟩
  dsimp only
  have D240 := ds D227 hb
  clear D227
  clear hb
  have hS241 : True ∧ Blk w239 (w.heap.size + 1) 29 (ac n) ∧ CellsL w239 (w.heap.size) 12 (vl m.c) := ⟨trivial, (kb K220 D240), (kb K219 D240).cellsL 12 (vl m.c) rfl⟩
  refine hK _ _ hS241 ?_
  clear hK K hS228
  refine wpAnyH_oneN (i := 9) (l' := bm 14 4095) rfl (by kernel_rfl) (by kernel_rfl) (by kernel_rfl) (fun K hK => ?_)
  go_simp
  go_at_call 32
  refine (C15.out _).mono ?_
  rintro r w242 ⟨rfl, hb⟩
  dsimp only
  have D243 := ds D240 hb
  clear D240
  clear hb
  have hS244 : True ∧ Blk w242 (w.heap.size + 1) 29 (ac n) ∧ CellsL w242 (w.heap.size) 12 (vl m.c) := ⟨trivial, (kb K220 D243), (kb K219 D243).cellsL 12 (vl m.c) rfl⟩
  refine hK _ _ hS244 ?_
  clear hK K hS241
  refine tk 12 (bm 14 8191) ?vq245 ?aq245 rfl (by kernel_rfl) (fun _ _ _ h => h) (by kernel_rfl) ?hq245 ?pq245 hS244 ?rq245
  case hq245 => (intro w hS; go_simp; try with_reducible rfl)
  case pq245 => (go_simp; try with_reducible rfl)
  refine wpAnyH_oneN (i := 13) (l' := bm 14 16383) rfl (by kernel_rfl) (by kernel_rfl) (by kernel_rfl) (fun K hK => ?_)
  have f248 := (kb K222 D243).cellsL 14 [.float .f64 0, .float .f64 0] rfl
  dsimp only [CellsL, al, vl, Nat.reduceAdd] at f248
  have u249 := (kb K222 D243).unfrozen
  obtain ⟨V246, hV247⟩ : ∃ V, setCells w242 (w.heap.size + 1 + 1 + 1) 14 [.float .f64 p15.lo, .float .f64 p15.hi] = V := ⟨_, rfl⟩
  have hv250 := hV247
  simp only [setCells, Nat.reduceAdd] at hv250
  have K251 := kf hV247 K219 D243 (by omega)
  have K252 := kf hV247 K220 D243 (by omega)
  have K253 := kf hV247 K221 D243 (by omega)
  have K254 := Lib.hid (show Blk V246 (w.heap.size + 1 + 1 + 1) 29 #[.float .f64 p1.lo, .float .f64 p1.hi, .float .f64 p3.lo, .float .f64 p3.hi, .float .f64 p5.lo, .float .f64 p5.hi, .float .f64 p7.lo, .float .f64 p7.hi, .float .f64 p9.lo, .float .f64 p9.hi, .float .f64 p11.lo, .float .f64 p11.hi, .float .f64 p13.lo, .float .f64 p13.hi, .float .f64 p15.lo, .float .f64 p15.hi, .float .f64 0, .float .f64 0, .float .f64 0, .float .f64 0, .float .f64 0, .float .f64 0, .float .f64 0, .float .f64 0] from (ks hV247 K222 D243).out)
  have HB255 := hbs hV247 HB223 D243 (by omega)
  have D256 := dr V246
  clear K219 K220 K221 K222 HB223 D243
  go_simp
  clear hV247 f248 u249 hv250
  have hS257 : True ∧ Blk V246 (w.heap.size + 1) 29 (ac n) ∧ CellsL V246 (w.heap.size) 12 (vl m.c) := ⟨trivial, (kb K252 D256), (kb K251 D256).cellsL 12 (vl m.c) rfl⟩
  refine hK _ _ hS257 ?_
  clear hK K hS244
  refine wpAnyH_done (by kernel_rfl) ?_ _
  clear hS257
  go_wp2_with fail
  rw [rounds_succ]
  go_wp2_with fail
  refine wp_region_held (S := (fun w' => True ∧ Blk w' (w.heap.size + 1) 29 (ac n) ∧ CellsL w' (w.heap.size) 12 (vl m.c))) (by kernel_rfl) ?_
  change wpAnyH _ _ _ _ _ _ _ _ (World.drew _)
  obtain ⟨wd258, hwd⟩ : ∃ x, x = World.drew V246 := ⟨_, rfl⟩
  rw [← hwd]
  have D259 := Lib.hid (hwd ▸ Below.drew D256.out : Below V246.heap.size V246 wd258)
  clear D256 hwd
  have hS260 : True ∧ Blk wd258 (w.heap.size + 1) 29 (ac n) ∧ CellsL wd258 (w.heap.size) 12 (vl m.c) := ⟨trivial, (kb K252 D259), (kb K251 D259).cellsL 12 (vl m.c) rfl⟩
  refine tk 0 (bm 14 1) ?vq261 ?aq261 rfl (by kernel_rfl) (fun _ _ _ h => h) (by kernel_rfl) ?hq261 ?pq261 hS260 ?rq261
  case hq261 => (intro w hS; go_simp; try with_reducible rfl)
  case pq261 => (go_simp; try with_reducible rfl)
  refine tk 1 (bm 14 3) ?vq262 ?aq262 rfl (by kernel_rfl) (fun _ _ _ h => h) (by kernel_rfl) ?hq262 ?pq262 hS260 ?rq262
  case hq262 => (intro w hS; go_simp; try with_reducible rfl)
  case pq262 => (go_simp; try with_reducible rfl)
  refine tk 2 (bm 14 7) ?vq263 ?aq263 rfl (by kernel_rfl) (fun _ _ _ h => h) (by kernel_rfl) ?hq263 ?pq263 hS260 ?rq263
  case hq263 => (intro w hS; go_simp; try with_reducible rfl)
  case pq263 => (go_simp; try with_reducible rfl)
  refine tk 3 (bm 14 15) ?vq264 ?aq264 rfl (by kernel_rfl) (fun _ _ _ h => h) (by kernel_rfl) ?hq264 ?pq264 hS260 ?rq264
  case hq264 => (intro w hS; go_simp; try with_reducible rfl)
  case pq264 => (go_simp; try with_reducible rfl)
  refine tk 4 (bm 14 31) ?vq265 ?aq265 rfl (by kernel_rfl) (fun _ _ _ h => h) (by kernel_rfl) ?hq265 ?pq265 hS260 ?rq265
  case hq265 => (intro w hS; go_simp; try with_reducible rfl)
  case pq265 => (go_simp; try with_reducible rfl)
  refine tk 5 (bm 14 63) ?vq266 ?aq266 rfl (by kernel_rfl) (fun _ _ _ h => h) (by kernel_rfl) ?hq266 ?pq266 hS260 ?rq266
  case hq266 => (intro w hS; dsimp only [CellsL, al, vl, Nat.reduceAdd] at hS; go_simp; try with_reducible rfl)
  case pq266 => (go_simp; try with_reducible rfl)
  refine tkL 6 (bm 14 127) ?aq267 rfl (by kernel_rfl) (fun _ _ _ h => h) (by kernel_rfl) rfl rfl (fun _ hS => hS.2.1) (by rw [info_Affine]; rfl) Try.underlying29 rfl ?pq267 hS260 ?rq267
  case pq267 => (go_simp; try with_reducible rfl)
  refine tk 7 (bm 14 255) ?vq268 ?aq268 rfl (by kernel_rfl) (fun _ _ _ h => h) (by kernel_rfl) ?hq268 ?pq268 hS260 ?rq268
  case hq268 => (intro w hS; go_simp; try with_reducible rfl)
  case pq268 => (go_simp; try with_reducible rfl)
  refine tk 10 (bm 14 1279) ?vq269 ?aq269 rfl (by kernel_rfl) (fun _ _ _ h => h) (by kernel_rfl) ?hq269 ?pq269 hS260 ?rq269
  case hq269 => (intro w hS; go_simp; try with_reducible rfl)
  case pq269 => (go_simp; try with_reducible rfl)
  refine tk 11 (bm 14 3327) ?vq270 ?aq270 rfl (by kernel_rfl) (fun _ _ _ h => h) (by kernel_rfl) ?hq270 ?pq270 hS260 ?rq270
  case hq270 => (intro w hS; go_simp; try with_reducible rfl)
  case pq270 => (go_simp; try with_reducible rfl)
  refine wpAnyH_oneN (i := 8) (l' := bm 14 3583) rfl (by kernel_rfl) (by kernel_rfl) (by kernel_rfl) (fun K hK => ?_)
  go_simp
  go_at_call 66
  refine (C16.out _).mono ?_
  rintro r w271 ⟨rfl, hb⟩
  dsimp only
  have D272 := ds D259 hb
  clear D259
  clear hb
  have hS273 : True ∧ Blk w271 (w.heap.size + 1) 29 (ac n) ∧ CellsL w271 (w.heap.size) 12 (vl m.c) := ⟨trivial, (kb K252 D272), (kb K251 D272).cellsL 12 (vl m.c) rfl⟩
  refine hK _ _ hS273 ?_
  clear hK K hS260
  refine wpAnyH_oneN (i := 9) (l' := bm 14 4095) rfl (by kernel_rfl) (by kernel_rfl) (by kernel_rfl) (fun K hK => ?_)
  go_simp
  go_at_call 32
  refine (C17.out _).mono ?_
  rintro r w274 ⟨rfl, hb⟩
  dsimp only
  have D275 := ds D272 hb
  clear D272
  clear hb
  have hS276 : True ∧ Blk w274 (w.heap.size + 1) 29 (ac n) ∧ CellsL w274 (w.heap.size) 12 (vl m.c) := ⟨trivial, (kb K252 D275), (kb K251 D275).cellsL 12 (vl m.c) rfl⟩
  refine hK _ _ hS276 ?_
  clear hK K hS273
  refine tk 12 (bm 14 8191) ?vq277 ?aq277 rfl (by kernel_rfl) (fun _ _ _ h => h) (by kernel_rfl) ?hq277 ?pq277 hS276 ?rq277
  case hq277 => (intro w hS; go_simp; try with_reducible rfl)
  case pq277 => (go_simp; try with_reducible rfl)
  refine wpAnyH_oneN (i := 13) (l' := bm 14 16383) rfl (by kernel_rfl) (by kernel_rfl) (by kernel_rfl) (fun K hK => ?_)
  have f280 := (kb K254 D275).cellsL 16 [.float .f64 0, .float .f64 0] rfl
  dsimp only [CellsL, al, vl, Nat.reduceAdd] at f280
  have u281 := (kb K254 D275).unfrozen
  obtain ⟨V278, hV279⟩ : ∃ V, setCells w274 (w.heap.size + 1 + 1 + 1) 16 [.float .f64 p17.lo, .float .f64 p17.hi] = V := ⟨_, rfl⟩
  have hv282 := hV279
  simp only [setCells, Nat.reduceAdd] at hv282
  have K283 := kf hV279 K251 D275 (by omega)
  have K284 := kf hV279 K252 D275 (by omega)
  have K285 := kf hV279 K253 D275 (by omega)
  have K286 := Lib.hid (show Blk V278 (w.heap.size + 1 + 1 + 1) 29 #[.float .f64 p1.lo, .float .f64 p1.hi, .float .f64 p3.lo, .float .f64 p3.hi, .float .f64 p5.lo, .float .f64 p5.hi, .float .f64 p7.lo, .float .f64 p7.hi, .float .f64 p9.lo, .float .f64 p9.hi, .float .f64 p11.lo, .float .f64 p11.hi, .float .f64 p13.lo, .float .f64 p13.hi, .float .f64 p15.lo, .float .f64 p15.hi, .float .f64 p17.lo, .float .f64 p17.hi, .float .f64 0, .float .f64 0, .float .f64 0, .float .f64 0, .float .f64 0, .float .f64 0] from (ks hV279 K254 D275).out)
  have HB287 := hbs hV279 HB255 D275 (by omega)
  have D288 := dr V278
  clear K251 K252 K253 K254 HB255 D275
  go_simp
  clear hV279 f280 u281 hv282
  have hS289 : True ∧ Blk V278 (w.heap.size + 1) 29 (ac n) ∧ CellsL V278 (w.heap.size) 12 (vl m.c) := ⟨trivial, (kb K284 D288), (kb K283 D288).cellsL 12 (vl m.c) rfl⟩
  refine hK _ _ hS289 ?_
  clear hK K hS276
  refine wpAnyH_done (by kernel_rfl) ?_ _
  clear hS289
  go_wp2_with fail
  rw [rounds_succ]
  go_wp2_with fail
  rw [rounds_succ]
  have f290 := (kb K283 D288)
  have hq291 := (kb K284 D288).cellsL 18 (vl n.t) rfl
  dsimp only [CellsL, al, vl, Nat.reduceAdd] at hq291
  go_wp2_with (refine wl_load (by kernel_rfl) rfl rfl f290 (by rw [info_Affine]; rfl) Try.underlying29 rfl ?_)
  clear f290 hq291
  refine (C18.out _).mono ?_
  rintro r w292 ⟨rfl, hb⟩
  have D293 := ds D288 hb
  clear D288
  clear hb
  have f296 := (kb K286 D293).cellsL 18 [.float .f64 0, .float .f64 0, .float .f64 0, .float .f64 0, .float .f64 0, .float .f64 0] rfl
  dsimp only [CellsL, al, vl, Nat.reduceAdd] at f296
  have u297 := (kb K286 D293).unfrozen
  obtain ⟨V294, hV295⟩ : ∃ V, setCells w292 (w.heap.size + 1 + 1 + 1) 18 [.float .f64 p18.x.lo, .float .f64 p18.x.hi, .float .f64 p18.y.lo, .float .f64 p18.y.hi, .float .f64 p18.z.lo, .float .f64 p18.z.hi] = V := ⟨_, rfl⟩
  have hv298 := hV295
  simp only [setCells, Nat.reduceAdd] at hv298
  have K299 := kf hV295 K283 D293 (by omega)
  have K300 := kf hV295 K284 D293 (by omega)
  have K301 := kf hV295 K285 D293 (by omega)
  have K302 := Lib.hid (show Blk V294 (w.heap.size + 1 + 1 + 1) 29 #[.float .f64 p1.lo, .float .f64 p1.hi, .float .f64 p3.lo, .float .f64 p3.hi, .float .f64 p5.lo, .float .f64 p5.hi, .float .f64 p7.lo, .float .f64 p7.hi, .float .f64 p9.lo, .float .f64 p9.hi, .float .f64 p11.lo, .float .f64 p11.hi, .float .f64 p13.lo, .float .f64 p13.hi, .float .f64 p15.lo, .float .f64 p15.hi, .float .f64 p17.lo, .float .f64 p17.hi, .float .f64 p18.x.lo, .float .f64 p18.x.hi, .float .f64 p18.y.lo, .float .f64 p18.y.hi, .float .f64 p18.z.lo, .float .f64 p18.z.hi] from (ks hV295 K286 D293).out)
  have HB303 := hbs hV295 HB287 D293 (by omega)
  have D304 := dr V294
  clear K283 K284 K285 K286 HB287 D293
  have f305 := (kb K302 D304)
  have f308 := (kb K301 D304)
  obtain ⟨V306, hV307⟩ : ∃ V, World.setRow V294 (w.heap.size + 1 + 1) #[.float .f64 p1.lo, .float .f64 p1.hi, .float .f64 p3.lo, .float .f64 p3.hi, .float .f64 p5.lo, .float .f64 p5.hi, .float .f64 p7.lo, .float .f64 p7.hi, .float .f64 p9.lo, .float .f64 p9.hi, .float .f64 p11.lo, .float .f64 p11.hi, .float .f64 p13.lo, .float .f64 p13.hi, .float .f64 p15.lo, .float .f64 p15.hi, .float .f64 p17.lo, .float .f64 p17.hi, .float .f64 p18.x.lo, .float .f64 p18.x.hi, .float .f64 p18.y.lo, .float .f64 p18.y.hi, .float .f64 p18.z.lo, .float .f64 p18.z.hi] = V := ⟨_, rfl⟩
  have K309 := kfr hV307 K299 D304 (by omega)
  have K310 := kfr hV307 K300 D304 (by omega)
  have K311 := ksr hV307 K301 D304
  have K312 := kfr hV307 K302 D304 (by omega)
  have HB313 := hbr hV307 HB303 D304 (by omega)
  have D314 := dr V306
  clear K299 K300 K301 K302 HB303 D304
  go_wp2_with (first | (refine wpList_store_row rfl 29 _ _ rfl (w.heap.size + 1 + 1) #[.float .f64 p1.lo, .float .f64 p1.hi, .float .f64 p3.lo, .float .f64 p3.hi, .float .f64 p5.lo, .float .f64 p5.hi, .float .f64 p7.lo, .float .f64 p7.hi, .float .f64 p9.lo, .float .f64 p9.hi, .float .f64 p11.lo, .float .f64 p11.hi, .float .f64 p13.lo, .float .f64 p13.hi, .float .f64 p15.lo, .float .f64 p15.hi, .float .f64 p17.lo, .float .f64 p17.hi, .float .f64 p18.x.lo, .float .f64 p18.x.hi, .float .f64 p18.y.lo, .float .f64 p18.y.hi, .float .f64 p18.z.lo, .float .f64 p18.z.hi] rfl rfl _ _ f308 (by rw [info_Affine]; rfl) rfl (by kernel_rfl) ?_; rw [hV307]) | (refine wl_load (by kernel_rfl) rfl rfl f305 (by rw [info_Affine]; rfl) Try.underlying29 rfl ?_))
  clear hV295 f296 u297 hv298 f305 hV307 f308
  (try simp only [Exit.inBlock, Exit.then])
  exact bodyPost_ret (res_c rfl _ _ (w.heap.size + 1 + 1) #[.float .f64 p1.lo, .float .f64 p1.hi, .float .f64 p3.lo, .float .f64 p3.hi, .float .f64 p5.lo, .float .f64 p5.hi, .float .f64 p7.lo, .float .f64 p7.hi, .float .f64 p9.lo, .float .f64 p9.hi, .float .f64 p11.lo, .float .f64 p11.hi, .float .f64 p13.lo, .float .f64 p13.hi, .float .f64 p15.lo, .float .f64 p15.hi, .float .f64 p17.lo, .float .f64 p17.hi, .float .f64 p18.x.lo, .float .f64 p18.x.hi, .float .f64 p18.y.lo, .float .f64 p18.y.hi, .float .f64 p18.z.lo, .float .f64 p18.z.hi] rfl (kb K311 D314) (by rw [info_Affine]; rfl) Try.underlying29 rfl) rfl ⟨rfl, below_step HB313.out D314.out⟩
end Go.Proofs.Ytdgaaceebghcpaa
