/- The walk of VecReckons (gen_te.py). -/
import Derived.Test.YtdgaaceebghcpaaTe
set_option linter.unusedVariables false
set_option linter.unusedSimpArgs false
namespace Go.Proofs.Ytdgaaceebghcpaa
open Go.RowKit Fl

set_option maxRecDepth 100000 in
set_option maxHeartbeats 8000000 in
theorem vecReckons_n1 (a0 a1 a2 a3 a4 a5 b0 b1 b2 b3 b4 b5 : Nat) (ha0 : a0 < 18446744073709551616) (ha1 : a1 < 18446744073709551616) (ha2 : a2 < 18446744073709551616) (ha3 : a3 < 18446744073709551616) (ha4 : a4 < 18446744073709551616) (ha5 : a5 < 18446744073709551616) (hb0 : b0 < 18446744073709551616) (hb1 : b1 < 18446744073709551616) (hb2 : b2 < 18446744073709551616) (hb3 : b3 < 18446744073709551616) (hb4 : b4 < 18446744073709551616) (hb5 : b5 < 18446744073709551616) (t0 t1 t2 : Nat) (ht0 : t0 < 18446744073709551616) (ht1 : t1 < 18446744073709551616) (ht2 : t2 < 18446744073709551616) (va : vdV a0 a1 a2 a3 a4 a5 = false) (w : World) : Calls Try.prog 8 #[Value.agg #[.float .f64 a0, .float .f64 a1, .float .f64 a2, .float .f64 a3, .float .f64 a4, .float .f64 a5], Value.agg #[.float .f64 b0, .float .f64 b1, .float .f64 b2, .float .f64 b3, .float .f64 b4, .float .f64 b5], Value.agg #[.float .f64 t0, .float .f64 t1, .float .f64 t2]] w fun r w' => r = .returned (.bool true) ∧ Below w.heap.size w w' := by
  have C0 := Lib.hid (awake3)
  have C1 := Lib.hid (fun w => rvalidV_any a0 a1 a2 a3 a4 a5 ha0 ha1 ha2 ha3 ha4 ha5 w)
  rw [va] at C1
  go_enter Try.func8, Try.ntmps8
  go_wp2_with fail
  obtain ⟨W, hW, K0, K1, K2, hB, hz⟩ := bx3 w 26 26 38 #[.float .f64 a0, .float .f64 a1, .float .f64 a2, .float .f64 a3, .float .f64 a4, .float .f64 a5] #[.float .f64 b0, .float .f64 b1, .float .f64 b2, .float .f64 b3, .float .f64 b4, .float .f64 b5] #[.float .f64 t0, .float .f64 t1, .float .f64 t2]
  rw [← hW]
  have K0 := Lib.hid K0
  have K1 := Lib.hid K1
  have K2 := Lib.hid K2
  have HB := Lib.hid hB
  clear hW hB hz
  have D1 := Lib.hid (Below.refl W.heap.size W)
  refine (C0.out _).mono ?_
  rintro r w2 ⟨rfl, hb⟩
  have D3 := Lib.hid (below_step D1.out hb)
  clear D1
  clear hb
  have hq4 := (K0.out.below D3.out K0.out.lt).cells 0 6 (Nat.le_of_ble_eq_true rfl)
  simp only [CellsAt, ac, vc, Nat.reduceAdd, List.size_toArray, List.getElem?_toArray, List.getElem?_cons_succ, List.getElem?_cons_zero] at hq4
  go_wp2_with fail
  clear hq4
  refine (C1.out _).mono ?_
  rintro r w5 ⟨rfl, hb⟩
  have D6 := Lib.hid (below_step D3.out hb)
  clear D3
  clear hb
  go_wp2_with fail
  go_ret
  exact ⟨rfl, below_step HB.out D6.out⟩
set_option maxRecDepth 100000 in
set_option maxHeartbeats 8000000 in
theorem vecReckons_n2 (a0 a1 a2 a3 a4 a5 b0 b1 b2 b3 b4 b5 : Nat) (ha0 : a0 < 18446744073709551616) (ha1 : a1 < 18446744073709551616) (ha2 : a2 < 18446744073709551616) (ha3 : a3 < 18446744073709551616) (ha4 : a4 < 18446744073709551616) (ha5 : a5 < 18446744073709551616) (hb0 : b0 < 18446744073709551616) (hb1 : b1 < 18446744073709551616) (hb2 : b2 < 18446744073709551616) (hb3 : b3 < 18446744073709551616) (hb4 : b4 < 18446744073709551616) (hb5 : b5 < 18446744073709551616) (t0 t1 t2 : Nat) (ht0 : t0 < 18446744073709551616) (ht1 : t1 < 18446744073709551616) (ht2 : t2 < 18446744073709551616) (va : vdV a0 a1 a2 a3 a4 a5 = true) (vb : vdV b0 b1 b2 b3 b4 b5 = false) (w : World) : Calls Try.prog 8 #[Value.agg #[.float .f64 a0, .float .f64 a1, .float .f64 a2, .float .f64 a3, .float .f64 a4, .float .f64 a5], Value.agg #[.float .f64 b0, .float .f64 b1, .float .f64 b2, .float .f64 b3, .float .f64 b4, .float .f64 b5], Value.agg #[.float .f64 t0, .float .f64 t1, .float .f64 t2]] w fun r w' => r = .returned (.bool true) ∧ Below w.heap.size w w' := by
  have C0 := Lib.hid (awake3)
  have C1 := Lib.hid (fun w => rvalidV_any a0 a1 a2 a3 a4 a5 ha0 ha1 ha2 ha3 ha4 ha5 w)
  rw [va] at C1
  have C2 := Lib.hid (fun w => rvalidV_any b0 b1 b2 b3 b4 b5 hb0 hb1 hb2 hb3 hb4 hb5 w)
  rw [vb] at C2
  go_enter Try.func8, Try.ntmps8
  go_wp2_with fail
  obtain ⟨W, hW, K0, K1, K2, hB, hz⟩ := bx3 w 26 26 38 #[.float .f64 a0, .float .f64 a1, .float .f64 a2, .float .f64 a3, .float .f64 a4, .float .f64 a5] #[.float .f64 b0, .float .f64 b1, .float .f64 b2, .float .f64 b3, .float .f64 b4, .float .f64 b5] #[.float .f64 t0, .float .f64 t1, .float .f64 t2]
  rw [← hW]
  have K0 := Lib.hid K0
  have K1 := Lib.hid K1
  have K2 := Lib.hid K2
  have HB := Lib.hid hB
  clear hW hB hz
  have D1 := Lib.hid (Below.refl W.heap.size W)
  refine (C0.out _).mono ?_
  rintro r w2 ⟨rfl, hb⟩
  have D3 := Lib.hid (below_step D1.out hb)
  clear D1
  clear hb
  have hq4 := (K0.out.below D3.out K0.out.lt).cells 0 6 (Nat.le_of_ble_eq_true rfl)
  simp only [CellsAt, ac, vc, Nat.reduceAdd, List.size_toArray, List.getElem?_toArray, List.getElem?_cons_succ, List.getElem?_cons_zero] at hq4
  go_wp2_with fail
  clear hq4
  refine (C1.out _).mono ?_
  rintro r w5 ⟨rfl, hb⟩
  have D6 := Lib.hid (below_step D3.out hb)
  clear D3
  clear hb
  have hq7 := (K1.out.below D6.out K1.out.lt).cells 0 6 (Nat.le_of_ble_eq_true rfl)
  simp only [CellsAt, ac, vc, Nat.reduceAdd, List.size_toArray, List.getElem?_toArray, List.getElem?_cons_succ, List.getElem?_cons_zero] at hq7
  go_wp2_with fail
  clear hq7
  refine (C2.out _).mono ?_
  rintro r w8 ⟨rfl, hb⟩
  have D9 := Lib.hid (below_step D6.out hb)
  clear D6
  clear hb
  go_wp2_with fail
  go_ret
  exact ⟨rfl, below_step HB.out D9.out⟩
set_option maxRecDepth 100000 in
set_option maxHeartbeats 8000000 in
theorem vecReckons_y (A B : V3) (t0 t1 t2 : Nat) (ht0 : t0 < 18446744073709551616) (ht1 : t1 < 18446744073709551616) (ht2 : t2 < 18446744073709551616) (w : World) : Calls Try.prog 8 #[Value.agg #[.float .f64 A.x.lo, .float .f64 A.x.hi, .float .f64 A.y.lo, .float .f64 A.y.hi, .float .f64 A.z.lo, .float .f64 A.z.hi], Value.agg #[.float .f64 B.x.lo, .float .f64 B.x.hi, .float .f64 B.y.lo, .float .f64 B.y.hi, .float .f64 B.z.lo, .float .f64 B.z.hi], Value.agg #[.float .f64 t0, .float .f64 t1, .float .f64 t2]] w fun r w' => r = .returned (.bool true) ∧ Below w.heap.size w w' := by
  have C0 := Lib.hid (awake3)
  have C1 := Lib.hid (fun w => rvalidV_v A w)
  have C2 := Lib.hid (fun w => rvalidV_v B w)
  have C3 := Lib.hid (fun w => ofV_any t0 t1 t2 ht0 ht1 ht2 w)
  obtain ⟨p3, hp3⟩ : ∃ p, vOf t0 t1 t2 = p := ⟨_, rfl⟩
  rw [hp3] at C3
  have C4 := Lib.hid (fun w => rofV_any t0 t1 t2 ht0 ht1 ht2 w)
  rw [hp3] at C4
  have C5 := Lib.hid (fun w => rsameV_self p3 w)
  have C6 := Lib.hid (fun w => vAdd_any A B w)
  obtain ⟨p6, hp6⟩ : ∃ p, vAdd A B = p := ⟨_, rfl⟩
  rw [hp6] at C6
  have C7 := Lib.hid (fun w => raddV_any A B w)
  rw [hp6] at C7
  have C8 := Lib.hid (fun w => rsameV_self p6 w)
  have C9 := Lib.hid (fun w => vSub_any A B w)
  obtain ⟨p9, hp9⟩ : ∃ p, vSub A B = p := ⟨_, rfl⟩
  rw [hp9] at C9
  have C10 := Lib.hid (fun w => rsubV_any A B w)
  rw [hp9] at C10
  have C11 := Lib.hid (fun w => rsameV_self p9 w)
  have C12 := Lib.hid (fun w => vMul_any A B w)
  obtain ⟨p12, hp12⟩ : ∃ p, vMul A B = p := ⟨_, rfl⟩
  rw [hp12] at C12
  have C13 := Lib.hid (fun w => rmulV_any A B w)
  rw [hp12] at C13
  have C14 := Lib.hid (fun w => rsameV_self p12 w)
  have C15 := Lib.hid (fun w => scaleV_any A B.x w)
  obtain ⟨p15, hp15⟩ : ∃ p, vMul A ⟨B.x, B.x, B.x⟩ = p := ⟨_, rfl⟩
  rw [hp15] at C15
  have C16 := Lib.hid (fun w => rscaleV_any A B.x w)
  rw [hp15] at C16
  have C17 := Lib.hid (fun w => rsameV_self p15 w)
  have C18 := Lib.hid (fun w => negV_any A w)
  obtain ⟨p18, hp18⟩ : ∃ p, vNeg A = p := ⟨_, rfl⟩
  rw [hp18] at C18
  have C19 := Lib.hid (fun w => rnegV_any A w)
  rw [hp18] at C19
  have C20 := Lib.hid (fun w => rsameV_self p18 w)
  have C21 := Lib.hid (fun w => dotV_any A B w)
  obtain ⟨p21, hp21⟩ : ∃ p, vDot A B = p := ⟨_, rfl⟩
  rw [hp21] at C21
  have C22 := Lib.hid (fun w => rdotV_any A B w)
  rw [hp21] at C22
  have C23 := Lib.hid (fun w => rsame_sp p21 w)
  have C24 := Lib.hid (fun w => crossV_any A B w)
  obtain ⟨p24, hp24⟩ : ∃ p, vCross A B = p := ⟨_, rfl⟩
  rw [hp24] at C24
  have C25 := Lib.hid (fun w => rcrossV_any A B w)
  rw [hp24] at C25
  have C26 := Lib.hid (fun w => rsameV_self p24 w)
  have C27 := Lib.hid (fun w => sqrV_any A w)
  obtain ⟨p27, hp27⟩ : ∃ p, vSqr A = p := ⟨_, rfl⟩
  rw [hp27] at C27
  have C28 := Lib.hid (fun w => rsqrV_any A w)
  rw [hp27] at C28
  have C29 := Lib.hid (fun w => rsame_sp p27 w)
  clear hp3 hp6 hp9 hp12 hp15 hp18 hp21 hp24 hp27
  go_enter Try.func8, Try.ntmps8
  go_wp2_with fail
  obtain ⟨W, hW, K0, K1, K2, hB, hz⟩ := bx3 w 26 26 38 (vc A) (vc B) #[.float .f64 t0, .float .f64 t1, .float .f64 t2]
  rw [← hW]
  have K0 := Lib.hid K0
  have K1 := Lib.hid K1
  have K2 := Lib.hid K2
  have HB := Lib.hid hB
  clear hW hB hz
  have D1 := Lib.hid (Below.refl W.heap.size W)
  refine (C0.out _).mono ?_
  rintro r w2 ⟨rfl, hb⟩
  have D3 := Lib.hid (below_step D1.out hb)
  clear D1
  clear hb
  have hq4 := (K0.out.below D3.out K0.out.lt).cells 0 6 (Nat.le_of_ble_eq_true rfl)
  simp only [CellsAt, ac, vc, Nat.reduceAdd, List.size_toArray, List.getElem?_toArray, List.getElem?_cons_succ, List.getElem?_cons_zero] at hq4
  go_wp2_with fail
  clear hq4
  refine (C1.out _).mono ?_
  rintro r w5 ⟨rfl, hb⟩
  have D6 := Lib.hid (below_step D3.out hb)
  clear D3
  clear hb
  have hq7 := (K1.out.below D6.out K1.out.lt).cells 0 6 (Nat.le_of_ble_eq_true rfl)
  simp only [CellsAt, ac, vc, Nat.reduceAdd, List.size_toArray, List.getElem?_toArray, List.getElem?_cons_succ, List.getElem?_cons_zero] at hq7
  go_wp2_with fail
  clear hq7
  refine (C2.out _).mono ?_
  rintro r w8 ⟨rfl, hb⟩
  have D9 := Lib.hid (below_step D6.out hb)
  clear D6
  clear hb
  go_wp2_with fail
  refine wp_region_held (S := (fun w' => True ∧ CellsAt w' (w.heap.size) (vc A) 0 6 ∧ CellsAt w' (w.heap.size + 1) (vc B) 0 6 ∧ CellsAt w' (w.heap.size + 1 + 1) #[.float .f64 t0, .float .f64 t1, .float .f64 t2] 0 3)) (by kernel_rfl) ?_
  change wpAnyH _ _ _ _ _ _ _ _ (World.drew _)
  obtain ⟨wd10, hwd⟩ : ∃ x, x = World.drew w8 := ⟨_, rfl⟩
  rw [← hwd]
  have D11 := Lib.hid (hwd ▸ Below.drew D9.out : Below W.heap.size W wd10)
  clear D9 hwd
  have hS12 : True ∧ CellsAt wd10 (w.heap.size) (vc A) 0 6 ∧ CellsAt wd10 (w.heap.size + 1) (vc B) 0 6 ∧ CellsAt wd10 (w.heap.size + 1 + 1) #[.float .f64 t0, .float .f64 t1, .float .f64 t2] 0 3 := ⟨trivial, (K0.out.below D11.out K0.out.lt).cells 0 6 (Nat.le_of_ble_eq_true rfl), (K1.out.below D11.out K1.out.lt).cells 0 6 (Nat.le_of_ble_eq_true rfl), (K2.out.below D11.out K2.out.lt).cells 0 3 (Nat.le_of_ble_eq_true rfl)⟩
  refine wpAnyH_takeN (i := 0) (v := ?vq13) (l' := bm 36 1) (a' := ?aq13) rfl (by kernel_rfl) (by kernel_rfl) (by kernel_rfl) (fun _ _ _ h => h) (Or.inl ⟨by kernel_rfl, ?hq13⟩) (by kernel_rfl) ?pq13 hS12 ?rq13
  case hq13 => (intro w hS; simp only [CellsAt, ac, vc, Nat.reduceAdd, List.size_toArray, List.getElem?_toArray, List.getElem?_cons_succ, List.getElem?_cons_zero] at hS; go_simp; try with_reducible rfl)
  case pq13 => (go_simp; try with_reducible rfl)
  refine wpAnyH_takeN (i := 2) (v := ?vq14) (l' := bm 36 5) (a' := ?aq14) rfl (by kernel_rfl) (by kernel_rfl) (by kernel_rfl) (fun _ _ _ h => h) (Or.inl ⟨by kernel_rfl, ?hq14⟩) (by kernel_rfl) ?pq14 hS12 ?rq14
  case hq14 => (intro w hS; simp only [CellsAt, ac, vc, Nat.reduceAdd, List.size_toArray, List.getElem?_toArray, List.getElem?_cons_succ, List.getElem?_cons_zero] at hS; go_simp; try with_reducible rfl)
  case pq14 => (go_simp; try with_reducible rfl)
  refine wpAnyH_oneN (i := 1) (l' := bm 36 7) rfl (by kernel_rfl) (by kernel_rfl) (by kernel_rfl) (fun K hK => ?_)
  go_simp
  go_at_call 33
  refine (C3.out _).mono ?_
  rintro r w15 ⟨rfl, hb⟩
  dsimp only
  have D16 := Lib.hid (below_step D11.out hb)
  clear D11
  clear hb
  have hS17 : True ∧ CellsAt w15 (w.heap.size) (vc A) 0 6 ∧ CellsAt w15 (w.heap.size + 1) (vc B) 0 6 ∧ CellsAt w15 (w.heap.size + 1 + 1) #[.float .f64 t0, .float .f64 t1, .float .f64 t2] 0 3 := ⟨trivial, (K0.out.below D16.out K0.out.lt).cells 0 6 (Nat.le_of_ble_eq_true rfl), (K1.out.below D16.out K1.out.lt).cells 0 6 (Nat.le_of_ble_eq_true rfl), (K2.out.below D16.out K2.out.lt).cells 0 3 (Nat.le_of_ble_eq_true rfl)⟩
  refine hK _ _ hS17 ?_
  clear hK K hS12
  refine wpAnyH_oneN (i := 3) (l' := bm 36 15) rfl (by kernel_rfl) (by kernel_rfl) (by kernel_rfl) (fun K hK => ?_)
  go_simp
  go_at_call 28
  refine (C4.out _).mono ?_
  rintro r w18 ⟨rfl, hb⟩
  dsimp only
  have D19 := Lib.hid (below_step D16.out hb)
  clear D16
  clear hb
  have hS20 : True ∧ CellsAt w18 (w.heap.size) (vc A) 0 6 ∧ CellsAt w18 (w.heap.size + 1) (vc B) 0 6 ∧ CellsAt w18 (w.heap.size + 1 + 1) #[.float .f64 t0, .float .f64 t1, .float .f64 t2] 0 3 := ⟨trivial, (K0.out.below D19.out K0.out.lt).cells 0 6 (Nat.le_of_ble_eq_true rfl), (K1.out.below D19.out K1.out.lt).cells 0 6 (Nat.le_of_ble_eq_true rfl), (K2.out.below D19.out K2.out.lt).cells 0 3 (Nat.le_of_ble_eq_true rfl)⟩
  refine hK _ _ hS20 ?_
  clear hK K hS17
  refine wpAnyH_oneN (i := 4) (l' := bm 36 31) rfl (by kernel_rfl) (by kernel_rfl) (by kernel_rfl) (fun K hK => ?_)
  go_simp
  go_at_call 23
  refine (C5.out _).mono ?_
  rintro r w21 ⟨rfl, hb⟩
  dsimp only
  have D22 := Lib.hid (below_step D19.out hb)
  clear D19
  clear hb
  have hS23 : True ∧ CellsAt w21 (w.heap.size) (vc A) 0 6 ∧ CellsAt w21 (w.heap.size + 1) (vc B) 0 6 ∧ CellsAt w21 (w.heap.size + 1 + 1) #[.float .f64 t0, .float .f64 t1, .float .f64 t2] 0 3 := ⟨trivial, (K0.out.below D22.out K0.out.lt).cells 0 6 (Nat.le_of_ble_eq_true rfl), (K1.out.below D22.out K1.out.lt).cells 0 6 (Nat.le_of_ble_eq_true rfl), (K2.out.below D22.out K2.out.lt).cells 0 3 (Nat.le_of_ble_eq_true rfl)⟩
  refine hK _ _ hS23 ?_
  clear hK K hS20
  refine wpAnyH_takeN (i := 5) (v := ?vq24) (l' := bm 36 63) (a' := ?aq24) rfl (by kernel_rfl) (by kernel_rfl) (by kernel_rfl) (fun _ _ _ h => h) (Or.inl ⟨by kernel_rfl, ?hq24⟩) (by kernel_rfl) ?pq24 hS23 ?rq24
  case hq24 => (intro w hS; go_simp; try with_reducible rfl)
  case pq24 => (go_simp; try with_reducible rfl)
  refine wpAnyH_takeN (i := 6) (v := ?vq25) (l' := bm 36 127) (a' := ?aq25) rfl (by kernel_rfl) (by kernel_rfl) (by kernel_rfl) (fun _ _ _ h => h) (Or.inl ⟨by kernel_rfl, ?hq25⟩) (by kernel_rfl) ?pq25 hS23 ?rq25
  case hq25 => (intro w hS; go_simp; try with_reducible rfl)
  case pq25 => (go_simp; try with_reducible rfl)
  refine wpAnyH_takeN (i := 7) (v := ?vq26) (l' := bm 36 255) (a' := ?aq26) rfl (by kernel_rfl) (by kernel_rfl) (by kernel_rfl) (fun _ _ _ h => h) (Or.inl ⟨by kernel_rfl, ?hq26⟩) (by kernel_rfl) ?pq26 hS23 ?rq26
  case hq26 => (intro w hS; simp only [CellsAt, ac, vc, Nat.reduceAdd, List.size_toArray, List.getElem?_toArray, List.getElem?_cons_succ, List.getElem?_cons_zero] at hS; go_simp; try with_reducible rfl)
  case pq26 => (go_simp; try with_reducible rfl)
  refine wpAnyH_takeN (i := 8) (v := ?vq27) (l' := bm 36 511) (a' := ?aq27) rfl (by kernel_rfl) (by kernel_rfl) (by kernel_rfl) (fun _ _ _ h => h) (Or.inl ⟨by kernel_rfl, ?hq27⟩) (by kernel_rfl) ?pq27 hS23 ?rq27
  case hq27 => (intro w hS; simp only [CellsAt, ac, vc, Nat.reduceAdd, List.size_toArray, List.getElem?_toArray, List.getElem?_cons_succ, List.getElem?_cons_zero] at hS; go_simp; try with_reducible rfl)
  case pq27 => (go_simp; try with_reducible rfl)
  refine wpAnyH_takeN (i := 10) (v := ?vq28) (l' := bm 36 1535) (a' := ?aq28) rfl (by kernel_rfl) (by kernel_rfl) (by kernel_rfl) (fun _ _ _ h => h) (Or.inl ⟨by kernel_rfl, ?hq28⟩) (by kernel_rfl) ?pq28 hS23 ?rq28
  case hq28 => (intro w hS; simp only [CellsAt, ac, vc, Nat.reduceAdd, List.size_toArray, List.getElem?_toArray, List.getElem?_cons_succ, List.getElem?_cons_zero] at hS; go_simp; try with_reducible rfl)
  case pq28 => (go_simp; try with_reducible rfl)
  refine wpAnyH_takeN (i := 11) (v := ?vq29) (l' := bm 36 3583) (a' := ?aq29) rfl (by kernel_rfl) (by kernel_rfl) (by kernel_rfl) (fun _ _ _ h => h) (Or.inl ⟨by kernel_rfl, ?hq29⟩) (by kernel_rfl) ?pq29 hS23 ?rq29
  case hq29 => (intro w hS; simp only [CellsAt, ac, vc, Nat.reduceAdd, List.size_toArray, List.getElem?_toArray, List.getElem?_cons_succ, List.getElem?_cons_zero] at hS; go_simp; try with_reducible rfl)
  case pq29 => (go_simp; try with_reducible rfl)
  refine wpAnyH_oneN (i := 9) (l' := bm 36 4095) rfl (by kernel_rfl) (by kernel_rfl) (by kernel_rfl) (fun K hK => ?_)
  go_simp
  go_at_call 39
  refine (C6.out _).mono ?_
  rintro r w30 ⟨rfl, hb⟩
  dsimp only
  have D31 := Lib.hid (below_step D22.out hb)
  clear D22
  clear hb
  have hS32 : True ∧ CellsAt w30 (w.heap.size) (vc A) 0 6 ∧ CellsAt w30 (w.heap.size + 1) (vc B) 0 6 ∧ CellsAt w30 (w.heap.size + 1 + 1) #[.float .f64 t0, .float .f64 t1, .float .f64 t2] 0 3 := ⟨trivial, (K0.out.below D31.out K0.out.lt).cells 0 6 (Nat.le_of_ble_eq_true rfl), (K1.out.below D31.out K1.out.lt).cells 0 6 (Nat.le_of_ble_eq_true rfl), (K2.out.below D31.out K2.out.lt).cells 0 3 (Nat.le_of_ble_eq_true rfl)⟩
  refine hK _ _ hS32 ?_
  clear hK K hS23
  refine wpAnyH_oneN (i := 12) (l' := bm 36 8191) rfl (by kernel_rfl) (by kernel_rfl) (by kernel_rfl) (fun K hK => ?_)
  go_simp
  go_at_call 41
  refine (C7.out _).mono ?_
  rintro r w33 ⟨rfl, hb⟩
  dsimp only
  have D34 := Lib.hid (below_step D31.out hb)
  clear D31
  clear hb
  have hS35 : True ∧ CellsAt w33 (w.heap.size) (vc A) 0 6 ∧ CellsAt w33 (w.heap.size + 1) (vc B) 0 6 ∧ CellsAt w33 (w.heap.size + 1 + 1) #[.float .f64 t0, .float .f64 t1, .float .f64 t2] 0 3 := ⟨trivial, (K0.out.below D34.out K0.out.lt).cells 0 6 (Nat.le_of_ble_eq_true rfl), (K1.out.below D34.out K1.out.lt).cells 0 6 (Nat.le_of_ble_eq_true rfl), (K2.out.below D34.out K2.out.lt).cells 0 3 (Nat.le_of_ble_eq_true rfl)⟩
  refine hK _ _ hS35 ?_
  clear hK K hS32
  refine wpAnyH_oneN (i := 13) (l' := bm 36 16383) rfl (by kernel_rfl) (by kernel_rfl) (by kernel_rfl) (fun K hK => ?_)
  go_simp
  go_at_call 23
  refine (C8.out _).mono ?_
  rintro r w36 ⟨rfl, hb⟩
  dsimp only
  have D37 := Lib.hid (below_step D34.out hb)
  clear D34
  clear hb
  have hS38 : True ∧ CellsAt w36 (w.heap.size) (vc A) 0 6 ∧ CellsAt w36 (w.heap.size + 1) (vc B) 0 6 ∧ CellsAt w36 (w.heap.size + 1 + 1) #[.float .f64 t0, .float .f64 t1, .float .f64 t2] 0 3 := ⟨trivial, (K0.out.below D37.out K0.out.lt).cells 0 6 (Nat.le_of_ble_eq_true rfl), (K1.out.below D37.out K1.out.lt).cells 0 6 (Nat.le_of_ble_eq_true rfl), (K2.out.below D37.out K2.out.lt).cells 0 3 (Nat.le_of_ble_eq_true rfl)⟩
  refine hK _ _ hS38 ?_
  clear hK K hS35
  refine wpAnyH_takeN (i := 14) (v := ?vq39) (l' := bm 36 32767) (a' := ?aq39) rfl (by kernel_rfl) (by kernel_rfl) (by kernel_rfl) (fun _ _ _ h => h) (Or.inl ⟨by kernel_rfl, ?hq39⟩) (by kernel_rfl) ?pq39 hS38 ?rq39
  case hq39 => (intro w hS; go_simp; try with_reducible rfl)
  case pq39 => (go_simp; try with_reducible rfl)
  refine wpAnyH_takeN (i := 15) (v := ?vq40) (l' := bm 36 65535) (a' := ?aq40) rfl (by kernel_rfl) (by kernel_rfl) (by kernel_rfl) (fun _ _ _ h => h) (Or.inl ⟨by kernel_rfl, ?hq40⟩) (by kernel_rfl) ?pq40 hS38 ?rq40
  case hq40 => (intro w hS; go_simp; try with_reducible rfl)
  case pq40 => (go_simp; try with_reducible rfl)
  refine wpAnyH_takeN (i := 16) (v := ?vq41) (l' := bm 36 131071) (a' := ?aq41) rfl (by kernel_rfl) (by kernel_rfl) (by kernel_rfl) (fun _ _ _ h => h) (Or.inl ⟨by kernel_rfl, ?hq41⟩) (by kernel_rfl) ?pq41 hS38 ?rq41
  case hq41 => (intro w hS; go_simp; try with_reducible rfl)
  case pq41 => (go_simp; try with_reducible rfl)
  refine wpAnyH_takeN (i := 17) (v := ?vq42) (l' := bm 36 262143) (a' := ?aq42) rfl (by kernel_rfl) (by kernel_rfl) (by kernel_rfl) (fun _ _ _ h => h) (Or.inl ⟨by kernel_rfl, ?hq42⟩) (by kernel_rfl) ?pq42 hS38 ?rq42
  case hq42 => (intro w hS; simp only [CellsAt, ac, vc, Nat.reduceAdd, List.size_toArray, List.getElem?_toArray, List.getElem?_cons_succ, List.getElem?_cons_zero] at hS; go_simp; try with_reducible rfl)
  case pq42 => (go_simp; try with_reducible rfl)
  refine wpAnyH_takeN (i := 18) (v := ?vq43) (l' := bm 36 524287) (a' := ?aq43) rfl (by kernel_rfl) (by kernel_rfl) (by kernel_rfl) (fun _ _ _ h => h) (Or.inl ⟨by kernel_rfl, ?hq43⟩) (by kernel_rfl) ?pq43 hS38 ?rq43
  case hq43 => (intro w hS; simp only [CellsAt, ac, vc, Nat.reduceAdd, List.size_toArray, List.getElem?_toArray, List.getElem?_cons_succ, List.getElem?_cons_zero] at hS; go_simp; try with_reducible rfl)
  case pq43 => (go_simp; try with_reducible rfl)
  refine wpAnyH_takeN (i := 20) (v := ?vq44) (l' := bm 36 1572863) (a' := ?aq44) rfl (by kernel_rfl) (by kernel_rfl) (by kernel_rfl) (fun _ _ _ h => h) (Or.inl ⟨by kernel_rfl, ?hq44⟩) (by kernel_rfl) ?pq44 hS38 ?rq44
  case hq44 => (intro w hS; simp only [CellsAt, ac, vc, Nat.reduceAdd, List.size_toArray, List.getElem?_toArray, List.getElem?_cons_succ, List.getElem?_cons_zero] at hS; go_simp; try with_reducible rfl)
  case pq44 => (go_simp; try with_reducible rfl)
  refine wpAnyH_takeN (i := 21) (v := ?vq45) (l' := bm 36 3670015) (a' := ?aq45) rfl (by kernel_rfl) (by kernel_rfl) (by kernel_rfl) (fun _ _ _ h => h) (Or.inl ⟨by kernel_rfl, ?hq45⟩) (by kernel_rfl) ?pq45 hS38 ?rq45
  case hq45 => (intro w hS; simp only [CellsAt, ac, vc, Nat.reduceAdd, List.size_toArray, List.getElem?_toArray, List.getElem?_cons_succ, List.getElem?_cons_zero] at hS; go_simp; try with_reducible rfl)
  case pq45 => (go_simp; try with_reducible rfl)
  refine wpAnyH_oneN (i := 19) (l' := bm 36 4194303) rfl (by kernel_rfl) (by kernel_rfl) (by kernel_rfl) (fun K hK => ?_)
  go_simp
  go_at_call 42
  refine (C9.out _).mono ?_
  rintro r w46 ⟨rfl, hb⟩
  dsimp only
  have D47 := Lib.hid (below_step D37.out hb)
  clear D37
  clear hb
  have hS48 : True ∧ CellsAt w46 (w.heap.size) (vc A) 0 6 ∧ CellsAt w46 (w.heap.size + 1) (vc B) 0 6 ∧ CellsAt w46 (w.heap.size + 1 + 1) #[.float .f64 t0, .float .f64 t1, .float .f64 t2] 0 3 := ⟨trivial, (K0.out.below D47.out K0.out.lt).cells 0 6 (Nat.le_of_ble_eq_true rfl), (K1.out.below D47.out K1.out.lt).cells 0 6 (Nat.le_of_ble_eq_true rfl), (K2.out.below D47.out K2.out.lt).cells 0 3 (Nat.le_of_ble_eq_true rfl)⟩
  refine hK _ _ hS48 ?_
  clear hK K hS38
  refine wpAnyH_oneN (i := 22) (l' := bm 36 8388607) rfl (by kernel_rfl) (by kernel_rfl) (by kernel_rfl) (fun K hK => ?_)
  go_simp
  go_at_call 43
  refine (C10.out _).mono ?_
  rintro r w49 ⟨rfl, hb⟩
  dsimp only
  have D50 := Lib.hid (below_step D47.out hb)
  clear D47
  clear hb
  have hS51 : True ∧ CellsAt w49 (w.heap.size) (vc A) 0 6 ∧ CellsAt w49 (w.heap.size + 1) (vc B) 0 6 ∧ CellsAt w49 (w.heap.size + 1 + 1) #[.float .f64 t0, .float .f64 t1, .float .f64 t2] 0 3 := ⟨trivial, (K0.out.below D50.out K0.out.lt).cells 0 6 (Nat.le_of_ble_eq_true rfl), (K1.out.below D50.out K1.out.lt).cells 0 6 (Nat.le_of_ble_eq_true rfl), (K2.out.below D50.out K2.out.lt).cells 0 3 (Nat.le_of_ble_eq_true rfl)⟩
  refine hK _ _ hS51 ?_
  clear hK K hS48
  refine wpAnyH_oneN (i := 23) (l' := bm 36 16777215) rfl (by kernel_rfl) (by kernel_rfl) (by kernel_rfl) (fun K hK => ?_)
  go_simp
  go_at_call 23
  refine (C11.out _).mono ?_
  rintro r w52 ⟨rfl, hb⟩
  dsimp only
  have D53 := Lib.hid (below_step D50.out hb)
  clear D50
  clear hb
  have hS54 : True ∧ CellsAt w52 (w.heap.size) (vc A) 0 6 ∧ CellsAt w52 (w.heap.size + 1) (vc B) 0 6 ∧ CellsAt w52 (w.heap.size + 1 + 1) #[.float .f64 t0, .float .f64 t1, .float .f64 t2] 0 3 := ⟨trivial, (K0.out.below D53.out K0.out.lt).cells 0 6 (Nat.le_of_ble_eq_true rfl), (K1.out.below D53.out K1.out.lt).cells 0 6 (Nat.le_of_ble_eq_true rfl), (K2.out.below D53.out K2.out.lt).cells 0 3 (Nat.le_of_ble_eq_true rfl)⟩
  refine hK _ _ hS54 ?_
  clear hK K hS51
  refine wpAnyH_takeN (i := 24) (v := ?vq55) (l' := bm 36 33554431) (a' := ?aq55) rfl (by kernel_rfl) (by kernel_rfl) (by kernel_rfl) (fun _ _ _ h => h) (Or.inl ⟨by kernel_rfl, ?hq55⟩) (by kernel_rfl) ?pq55 hS54 ?rq55
  case hq55 => (intro w hS; go_simp; try with_reducible rfl)
  case pq55 => (go_simp; try with_reducible rfl)
  refine wpAnyH_takeN (i := 25) (v := ?vq56) (l' := bm 36 67108863) (a' := ?aq56) rfl (by kernel_rfl) (by kernel_rfl) (by kernel_rfl) (fun _ _ _ h => h) (Or.inl ⟨by kernel_rfl, ?hq56⟩) (by kernel_rfl) ?pq56 hS54 ?rq56
  case hq56 => (intro w hS; go_simp; try with_reducible rfl)
  case pq56 => (go_simp; try with_reducible rfl)
  refine wpAnyH_takeN (i := 26) (v := ?vq57) (l' := bm 36 134217727) (a' := ?aq57) rfl (by kernel_rfl) (by kernel_rfl) (by kernel_rfl) (fun _ _ _ h => h) (Or.inl ⟨by kernel_rfl, ?hq57⟩) (by kernel_rfl) ?pq57 hS54 ?rq57
  case hq57 => (intro w hS; go_simp; try with_reducible rfl)
  case pq57 => (go_simp; try with_reducible rfl)
  refine wpAnyH_takeN (i := 27) (v := ?vq58) (l' := bm 36 268435455) (a' := ?aq58) rfl (by kernel_rfl) (by kernel_rfl) (by kernel_rfl) (fun _ _ _ h => h) (Or.inl ⟨by kernel_rfl, ?hq58⟩) (by kernel_rfl) ?pq58 hS54 ?rq58
  case hq58 => (intro w hS; simp only [CellsAt, ac, vc, Nat.reduceAdd, List.size_toArray, List.getElem?_toArray, List.getElem?_cons_succ, List.getElem?_cons_zero] at hS; go_simp; try with_reducible rfl)
  case pq58 => (go_simp; try with_reducible rfl)
  refine wpAnyH_takeN (i := 28) (v := ?vq59) (l' := bm 36 536870911) (a' := ?aq59) rfl (by kernel_rfl) (by kernel_rfl) (by kernel_rfl) (fun _ _ _ h => h) (Or.inl ⟨by kernel_rfl, ?hq59⟩) (by kernel_rfl) ?pq59 hS54 ?rq59
  case hq59 => (intro w hS; simp only [CellsAt, ac, vc, Nat.reduceAdd, List.size_toArray, List.getElem?_toArray, List.getElem?_cons_succ, List.getElem?_cons_zero] at hS; go_simp; try with_reducible rfl)
  case pq59 => (go_simp; try with_reducible rfl)
  refine wpAnyH_takeN (i := 30) (v := ?vq60) (l' := bm 36 1610612735) (a' := ?aq60) rfl (by kernel_rfl) (by kernel_rfl) (by kernel_rfl) (fun _ _ _ h => h) (Or.inl ⟨by kernel_rfl, ?hq60⟩) (by kernel_rfl) ?pq60 hS54 ?rq60
  case hq60 => (intro w hS; simp only [CellsAt, ac, vc, Nat.reduceAdd, List.size_toArray, List.getElem?_toArray, List.getElem?_cons_succ, List.getElem?_cons_zero] at hS; go_simp; try with_reducible rfl)
  case pq60 => (go_simp; try with_reducible rfl)
  refine wpAnyH_takeN (i := 31) (v := ?vq61) (l' := bm 36 3758096383) (a' := ?aq61) rfl (by kernel_rfl) (by kernel_rfl) (by kernel_rfl) (fun _ _ _ h => h) (Or.inl ⟨by kernel_rfl, ?hq61⟩) (by kernel_rfl) ?pq61 hS54 ?rq61
  case hq61 => (intro w hS; simp only [CellsAt, ac, vc, Nat.reduceAdd, List.size_toArray, List.getElem?_toArray, List.getElem?_cons_succ, List.getElem?_cons_zero] at hS; go_simp; try with_reducible rfl)
  case pq61 => (go_simp; try with_reducible rfl)
  refine wpAnyH_oneN (i := 29) (l' := bm 36 4294967295) rfl (by kernel_rfl) (by kernel_rfl) (by kernel_rfl) (fun K hK => ?_)
  go_simp
  go_at_call 40
  refine (C12.out _).mono ?_
  rintro r w62 ⟨rfl, hb⟩
  dsimp only
  have D63 := Lib.hid (below_step D53.out hb)
  clear D53
  clear hb
  have hS64 : True ∧ CellsAt w62 (w.heap.size) (vc A) 0 6 ∧ CellsAt w62 (w.heap.size + 1) (vc B) 0 6 ∧ CellsAt w62 (w.heap.size + 1 + 1) #[.float .f64 t0, .float .f64 t1, .float .f64 t2] 0 3 := ⟨trivial, (K0.out.below D63.out K0.out.lt).cells 0 6 (Nat.le_of_ble_eq_true rfl), (K1.out.below D63.out K1.out.lt).cells 0 6 (Nat.le_of_ble_eq_true rfl), (K2.out.below D63.out K2.out.lt).cells 0 3 (Nat.le_of_ble_eq_true rfl)⟩
  refine hK _ _ hS64 ?_
  clear hK K hS54
  refine wpAnyH_oneN (i := 32) (l' := bm 36 8589934591) rfl (by kernel_rfl) (by kernel_rfl) (by kernel_rfl) (fun K hK => ?_)
  go_simp
  go_at_call 44
  refine (C13.out _).mono ?_
  rintro r w65 ⟨rfl, hb⟩
  dsimp only
  have D66 := Lib.hid (below_step D63.out hb)
  clear D63
  clear hb
  have hS67 : True ∧ CellsAt w65 (w.heap.size) (vc A) 0 6 ∧ CellsAt w65 (w.heap.size + 1) (vc B) 0 6 ∧ CellsAt w65 (w.heap.size + 1 + 1) #[.float .f64 t0, .float .f64 t1, .float .f64 t2] 0 3 := ⟨trivial, (K0.out.below D66.out K0.out.lt).cells 0 6 (Nat.le_of_ble_eq_true rfl), (K1.out.below D66.out K1.out.lt).cells 0 6 (Nat.le_of_ble_eq_true rfl), (K2.out.below D66.out K2.out.lt).cells 0 3 (Nat.le_of_ble_eq_true rfl)⟩
  refine hK _ _ hS67 ?_
  clear hK K hS64
  refine wpAnyH_oneN (i := 33) (l' := bm 36 17179869183) rfl (by kernel_rfl) (by kernel_rfl) (by kernel_rfl) (fun K hK => ?_)
  go_simp
  go_at_call 23
  refine (C14.out _).mono ?_
  rintro r w68 ⟨rfl, hb⟩
  dsimp only
  have D69 := Lib.hid (below_step D66.out hb)
  clear D66
  clear hb
  have hS70 : True ∧ CellsAt w68 (w.heap.size) (vc A) 0 6 ∧ CellsAt w68 (w.heap.size + 1) (vc B) 0 6 ∧ CellsAt w68 (w.heap.size + 1 + 1) #[.float .f64 t0, .float .f64 t1, .float .f64 t2] 0 3 := ⟨trivial, (K0.out.below D69.out K0.out.lt).cells 0 6 (Nat.le_of_ble_eq_true rfl), (K1.out.below D69.out K1.out.lt).cells 0 6 (Nat.le_of_ble_eq_true rfl), (K2.out.below D69.out K2.out.lt).cells 0 3 (Nat.le_of_ble_eq_true rfl)⟩
  refine hK _ _ hS70 ?_
  clear hK K hS67
  refine wpAnyH_takeN (i := 34) (v := ?vq71) (l' := bm 36 34359738367) (a' := ?aq71) rfl (by kernel_rfl) (by kernel_rfl) (by kernel_rfl) (fun _ _ _ h => h) (Or.inl ⟨by kernel_rfl, ?hq71⟩) (by kernel_rfl) ?pq71 hS70 ?rq71
  case hq71 => (intro w hS; go_simp; try with_reducible rfl)
  case pq71 => (go_simp; try with_reducible rfl)
  refine wpAnyH_takeN (i := 35) (v := ?vq72) (l' := bm 36 68719476735) (a' := ?aq72) rfl (by kernel_rfl) (by kernel_rfl) (by kernel_rfl) (fun _ _ _ h => h) (Or.inl ⟨by kernel_rfl, ?hq72⟩) (by kernel_rfl) ?pq72 hS70 ?rq72
  case hq72 => (intro w hS; go_simp; try with_reducible rfl)
  case pq72 => (go_simp; try with_reducible rfl)
  refine wpAnyH_done (by kernel_rfl) ?_ _
  clear hS70
  go_wp2_with fail
  refine wp_region_held (S := (fun w' => True ∧ CellsAt w' (w.heap.size) (vc A) 0 6 ∧ CellsAt w' (w.heap.size + 1) (vc B) 0 6)) (by kernel_rfl) ?_
  change wpAnyH _ _ _ _ _ _ _ _ (World.drew _)
  obtain ⟨wd73, hwd⟩ : ∃ x, x = World.drew w68 := ⟨_, rfl⟩
  rw [← hwd]
  have D74 := Lib.hid (hwd ▸ Below.drew D69.out : Below W.heap.size W wd73)
  clear D69 hwd
  have hS75 : True ∧ CellsAt wd73 (w.heap.size) (vc A) 0 6 ∧ CellsAt wd73 (w.heap.size + 1) (vc B) 0 6 := ⟨trivial, (K0.out.below D74.out K0.out.lt).cells 0 6 (Nat.le_of_ble_eq_true rfl), (K1.out.below D74.out K1.out.lt).cells 0 6 (Nat.le_of_ble_eq_true rfl)⟩
  refine wpAnyH_takeN (i := 0) (v := ?vq76) (l' := bm 42 1) (a' := ?aq76) rfl (by kernel_rfl) (by kernel_rfl) (by kernel_rfl) (fun _ _ _ h => h) (Or.inl ⟨by kernel_rfl, ?hq76⟩) (by kernel_rfl) ?pq76 hS75 ?rq76
  case hq76 => (intro w hS; simp only [CellsAt, ac, vc, Nat.reduceAdd, List.size_toArray, List.getElem?_toArray, List.getElem?_cons_succ, List.getElem?_cons_zero] at hS; go_simp; try with_reducible rfl)
  case pq76 => (go_simp; try with_reducible rfl)
  refine wpAnyH_takeN (i := 1) (v := ?vq77) (l' := bm 42 3) (a' := ?aq77) rfl (by kernel_rfl) (by kernel_rfl) (by kernel_rfl) (fun _ _ _ h => h) (Or.inl ⟨by kernel_rfl, ?hq77⟩) (by kernel_rfl) ?pq77 hS75 ?rq77
  case hq77 => (intro w hS; go_simp; try with_reducible rfl)
  case pq77 => (go_simp; try with_reducible rfl)
  refine wpAnyH_takeN (i := 2) (v := ?vq78) (l' := bm 42 7) (a' := ?aq78) rfl (by kernel_rfl) (by kernel_rfl) (by kernel_rfl) (fun _ _ _ h => h) (Or.inl ⟨by kernel_rfl, ?hq78⟩) (by kernel_rfl) ?pq78 hS75 ?rq78
  case hq78 => (intro w hS; simp only [CellsAt, ac, vc, Nat.reduceAdd, List.size_toArray, List.getElem?_toArray, List.getElem?_cons_succ, List.getElem?_cons_zero] at hS; go_simp; try with_reducible rfl)
  case pq78 => (go_simp; try with_reducible rfl)
  refine wpAnyH_takeN (i := 4) (v := ?vq79) (l' := bm 42 23) (a' := ?aq79) rfl (by kernel_rfl) (by kernel_rfl) (by kernel_rfl) (fun _ _ _ h => h) (Or.inl ⟨by kernel_rfl, ?hq79⟩) (by kernel_rfl) ?pq79 hS75 ?rq79
  case hq79 => (intro w hS; simp only [CellsAt, ac, vc, Nat.reduceAdd, List.size_toArray, List.getElem?_toArray, List.getElem?_cons_succ, List.getElem?_cons_zero] at hS; go_simp; try with_reducible rfl)
  case pq79 => (go_simp; try with_reducible rfl)
  refine wpAnyH_takeN (i := 5) (v := ?vq80) (l' := bm 42 55) (a' := ?aq80) rfl (by kernel_rfl) (by kernel_rfl) (by kernel_rfl) (fun _ _ _ h => h) (Or.inl ⟨by kernel_rfl, ?hq80⟩) (by kernel_rfl) ?pq80 hS75 ?rq80
  case hq80 => (intro w hS; go_simp; try with_reducible rfl)
  case pq80 => (go_simp; try with_reducible rfl)
  refine wpAnyH_takeN (i := 6) (v := ?vq81) (l' := bm 42 119) (a' := ?aq81) rfl (by kernel_rfl) (by kernel_rfl) (by kernel_rfl) (fun _ _ _ h => h) (Or.inl ⟨by kernel_rfl, ?hq81⟩) (by kernel_rfl) ?pq81 hS75 ?rq81
  case hq81 => (intro w hS; simp only [CellsAt, ac, vc, Nat.reduceAdd, List.size_toArray, List.getElem?_toArray, List.getElem?_cons_succ, List.getElem?_cons_zero] at hS; go_simp; try with_reducible rfl)
  case pq81 => (go_simp; try with_reducible rfl)
  refine wpAnyH_oneN (i := 3) (l' := bm 42 127) rfl (by kernel_rfl) (by kernel_rfl) (by kernel_rfl) (fun K hK => ?_)
  go_simp
  go_at_call 45
  refine (C15.out _).mono ?_
  rintro r w82 ⟨rfl, hb⟩
  dsimp only
  have D83 := Lib.hid (below_step D74.out hb)
  clear D74
  clear hb
  have hS84 : True ∧ CellsAt w82 (w.heap.size) (vc A) 0 6 ∧ CellsAt w82 (w.heap.size + 1) (vc B) 0 6 := ⟨trivial, (K0.out.below D83.out K0.out.lt).cells 0 6 (Nat.le_of_ble_eq_true rfl), (K1.out.below D83.out K1.out.lt).cells 0 6 (Nat.le_of_ble_eq_true rfl)⟩
  refine hK _ _ hS84 ?_
  clear hK K hS75
  refine wpAnyH_oneN (i := 7) (l' := bm 42 255) rfl (by kernel_rfl) (by kernel_rfl) (by kernel_rfl) (fun K hK => ?_)
  go_simp
  go_at_call 46
  refine (C16.out _).mono ?_
  rintro r w85 ⟨rfl, hb⟩
  dsimp only
  have D86 := Lib.hid (below_step D83.out hb)
  clear D83
  clear hb
  have hS87 : True ∧ CellsAt w85 (w.heap.size) (vc A) 0 6 ∧ CellsAt w85 (w.heap.size + 1) (vc B) 0 6 := ⟨trivial, (K0.out.below D86.out K0.out.lt).cells 0 6 (Nat.le_of_ble_eq_true rfl), (K1.out.below D86.out K1.out.lt).cells 0 6 (Nat.le_of_ble_eq_true rfl)⟩
  refine hK _ _ hS87 ?_
  clear hK K hS84
  refine wpAnyH_oneN (i := 8) (l' := bm 42 511) rfl (by kernel_rfl) (by kernel_rfl) (by kernel_rfl) (fun K hK => ?_)
  go_simp
  go_at_call 23
  refine (C17.out _).mono ?_
  rintro r w88 ⟨rfl, hb⟩
  dsimp only
  have D89 := Lib.hid (below_step D86.out hb)
  clear D86
  clear hb
  have hS90 : True ∧ CellsAt w88 (w.heap.size) (vc A) 0 6 ∧ CellsAt w88 (w.heap.size + 1) (vc B) 0 6 := ⟨trivial, (K0.out.below D89.out K0.out.lt).cells 0 6 (Nat.le_of_ble_eq_true rfl), (K1.out.below D89.out K1.out.lt).cells 0 6 (Nat.le_of_ble_eq_true rfl)⟩
  refine hK _ _ hS90 ?_
  clear hK K hS87
  refine wpAnyH_takeN (i := 9) (v := ?vq91) (l' := bm 42 1023) (a' := ?aq91) rfl (by kernel_rfl) (by kernel_rfl) (by kernel_rfl) (fun _ _ _ h => h) (Or.inl ⟨by kernel_rfl, ?hq91⟩) (by kernel_rfl) ?pq91 hS90 ?rq91
  case hq91 => (intro w hS; go_simp; try with_reducible rfl)
  case pq91 => (go_simp; try with_reducible rfl)
  refine wpAnyH_takeN (i := 10) (v := ?vq92) (l' := bm 42 2047) (a' := ?aq92) rfl (by kernel_rfl) (by kernel_rfl) (by kernel_rfl) (fun _ _ _ h => h) (Or.inl ⟨by kernel_rfl, ?hq92⟩) (by kernel_rfl) ?pq92 hS90 ?rq92
  case hq92 => (intro w hS; simp only [CellsAt, ac, vc, Nat.reduceAdd, List.size_toArray, List.getElem?_toArray, List.getElem?_cons_succ, List.getElem?_cons_zero] at hS; go_simp; try with_reducible rfl)
  case pq92 => (go_simp; try with_reducible rfl)
  refine wpAnyH_takeN (i := 12) (v := ?vq93) (l' := bm 42 6143) (a' := ?aq93) rfl (by kernel_rfl) (by kernel_rfl) (by kernel_rfl) (fun _ _ _ h => h) (Or.inl ⟨by kernel_rfl, ?hq93⟩) (by kernel_rfl) ?pq93 hS90 ?rq93
  case hq93 => (intro w hS; simp only [CellsAt, ac, vc, Nat.reduceAdd, List.size_toArray, List.getElem?_toArray, List.getElem?_cons_succ, List.getElem?_cons_zero] at hS; go_simp; try with_reducible rfl)
  case pq93 => (go_simp; try with_reducible rfl)
  refine wpAnyH_oneN (i := 11) (l' := bm 42 8191) rfl (by kernel_rfl) (by kernel_rfl) (by kernel_rfl) (fun K hK => ?_)
  go_simp
  go_at_call 38
  refine (C18.out _).mono ?_
  rintro r w94 ⟨rfl, hb⟩
  dsimp only
  have D95 := Lib.hid (below_step D89.out hb)
  clear D89
  clear hb
  have hS96 : True ∧ CellsAt w94 (w.heap.size) (vc A) 0 6 ∧ CellsAt w94 (w.heap.size + 1) (vc B) 0 6 := ⟨trivial, (K0.out.below D95.out K0.out.lt).cells 0 6 (Nat.le_of_ble_eq_true rfl), (K1.out.below D95.out K1.out.lt).cells 0 6 (Nat.le_of_ble_eq_true rfl)⟩
  refine hK _ _ hS96 ?_
  clear hK K hS90
  refine wpAnyH_oneN (i := 13) (l' := bm 42 16383) rfl (by kernel_rfl) (by kernel_rfl) (by kernel_rfl) (fun K hK => ?_)
  go_simp
  go_at_call 47
  refine (C19.out _).mono ?_
  rintro r w97 ⟨rfl, hb⟩
  dsimp only
  have D98 := Lib.hid (below_step D95.out hb)
  clear D95
  clear hb
  have hS99 : True ∧ CellsAt w97 (w.heap.size) (vc A) 0 6 ∧ CellsAt w97 (w.heap.size + 1) (vc B) 0 6 := ⟨trivial, (K0.out.below D98.out K0.out.lt).cells 0 6 (Nat.le_of_ble_eq_true rfl), (K1.out.below D98.out K1.out.lt).cells 0 6 (Nat.le_of_ble_eq_true rfl)⟩
  refine hK _ _ hS99 ?_
  clear hK K hS96
  refine wpAnyH_oneN (i := 14) (l' := bm 42 32767) rfl (by kernel_rfl) (by kernel_rfl) (by kernel_rfl) (fun K hK => ?_)
  go_simp
  go_at_call 23
  refine (C20.out _).mono ?_
  rintro r w100 ⟨rfl, hb⟩
  dsimp only
  have D101 := Lib.hid (below_step D98.out hb)
  clear D98
  clear hb
  have hS102 : True ∧ CellsAt w100 (w.heap.size) (vc A) 0 6 ∧ CellsAt w100 (w.heap.size + 1) (vc B) 0 6 := ⟨trivial, (K0.out.below D101.out K0.out.lt).cells 0 6 (Nat.le_of_ble_eq_true rfl), (K1.out.below D101.out K1.out.lt).cells 0 6 (Nat.le_of_ble_eq_true rfl)⟩
  refine hK _ _ hS102 ?_
  clear hK K hS99
  refine wpAnyH_takeN (i := 15) (v := ?vq103) (l' := bm 42 65535) (a' := ?aq103) rfl (by kernel_rfl) (by kernel_rfl) (by kernel_rfl) (fun _ _ _ h => h) (Or.inl ⟨by kernel_rfl, ?hq103⟩) (by kernel_rfl) ?pq103 hS102 ?rq103
  case hq103 => (intro w hS; go_simp; try with_reducible rfl)
  case pq103 => (go_simp; try with_reducible rfl)
  refine wpAnyH_takeN (i := 16) (v := ?vq104) (l' := bm 42 131071) (a' := ?aq104) rfl (by kernel_rfl) (by kernel_rfl) (by kernel_rfl) (fun _ _ _ h => h) (Or.inl ⟨by kernel_rfl, ?hq104⟩) (by kernel_rfl) ?pq104 hS102 ?rq104
  case hq104 => (intro w hS; go_simp; try with_reducible rfl)
  case pq104 => (go_simp; try with_reducible rfl)
  refine wpAnyH_takeN (i := 17) (v := ?vq105) (l' := bm 42 262143) (a' := ?aq105) rfl (by kernel_rfl) (by kernel_rfl) (by kernel_rfl) (fun _ _ _ h => h) (Or.inl ⟨by kernel_rfl, ?hq105⟩) (by kernel_rfl) ?pq105 hS102 ?rq105
  case hq105 => (intro w hS; simp only [CellsAt, ac, vc, Nat.reduceAdd, List.size_toArray, List.getElem?_toArray, List.getElem?_cons_succ, List.getElem?_cons_zero] at hS; go_simp; try with_reducible rfl)
  case pq105 => (go_simp; try with_reducible rfl)
  refine wpAnyH_takeN (i := 18) (v := ?vq106) (l' := bm 42 524287) (a' := ?aq106) rfl (by kernel_rfl) (by kernel_rfl) (by kernel_rfl) (fun _ _ _ h => h) (Or.inl ⟨by kernel_rfl, ?hq106⟩) (by kernel_rfl) ?pq106 hS102 ?rq106
  case hq106 => (intro w hS; simp only [CellsAt, ac, vc, Nat.reduceAdd, List.size_toArray, List.getElem?_toArray, List.getElem?_cons_succ, List.getElem?_cons_zero] at hS; go_simp; try with_reducible rfl)
  case pq106 => (go_simp; try with_reducible rfl)
  refine wpAnyH_takeN (i := 20) (v := ?vq107) (l' := bm 42 1572863) (a' := ?aq107) rfl (by kernel_rfl) (by kernel_rfl) (by kernel_rfl) (fun _ _ _ h => h) (Or.inl ⟨by kernel_rfl, ?hq107⟩) (by kernel_rfl) ?pq107 hS102 ?rq107
  case hq107 => (intro w hS; simp only [CellsAt, ac, vc, Nat.reduceAdd, List.size_toArray, List.getElem?_toArray, List.getElem?_cons_succ, List.getElem?_cons_zero] at hS; go_simp; try with_reducible rfl)
  case pq107 => (go_simp; try with_reducible rfl)
  refine wpAnyH_takeN (i := 21) (v := ?vq108) (l' := bm 42 3670015) (a' := ?aq108) rfl (by kernel_rfl) (by kernel_rfl) (by kernel_rfl) (fun _ _ _ h => h) (Or.inl ⟨by kernel_rfl, ?hq108⟩) (by kernel_rfl) ?pq108 hS102 ?rq108
  case hq108 => (intro w hS; simp only [CellsAt, ac, vc, Nat.reduceAdd, List.size_toArray, List.getElem?_toArray, List.getElem?_cons_succ, List.getElem?_cons_zero] at hS; go_simp; try with_reducible rfl)
  case pq108 => (go_simp; try with_reducible rfl)
  refine wpAnyH_oneN (i := 19) (l' := bm 42 4194303) rfl (by kernel_rfl) (by kernel_rfl) (by kernel_rfl) (fun K hK => ?_)
  go_simp
  go_at_call 32
  refine (C21.out _).mono ?_
  rintro r w109 ⟨rfl, hb⟩
  dsimp only
  have D110 := Lib.hid (below_step D101.out hb)
  clear D101
  clear hb
  have hS111 : True ∧ CellsAt w109 (w.heap.size) (vc A) 0 6 ∧ CellsAt w109 (w.heap.size + 1) (vc B) 0 6 := ⟨trivial, (K0.out.below D110.out K0.out.lt).cells 0 6 (Nat.le_of_ble_eq_true rfl), (K1.out.below D110.out K1.out.lt).cells 0 6 (Nat.le_of_ble_eq_true rfl)⟩
  refine hK _ _ hS111 ?_
  clear hK K hS102
  refine wpAnyH_oneN (i := 22) (l' := bm 42 8388607) rfl (by kernel_rfl) (by kernel_rfl) (by kernel_rfl) (fun K hK => ?_)
  go_simp
  go_at_call 49
  refine (C22.out _).mono ?_
  rintro r w112 ⟨rfl, hb⟩
  dsimp only
  have D113 := Lib.hid (below_step D110.out hb)
  clear D110
  clear hb
  have hS114 : True ∧ CellsAt w112 (w.heap.size) (vc A) 0 6 ∧ CellsAt w112 (w.heap.size + 1) (vc B) 0 6 := ⟨trivial, (K0.out.below D113.out K0.out.lt).cells 0 6 (Nat.le_of_ble_eq_true rfl), (K1.out.below D113.out K1.out.lt).cells 0 6 (Nat.le_of_ble_eq_true rfl)⟩
  refine hK _ _ hS114 ?_
  clear hK K hS111
  refine wpAnyH_oneN (i := 23) (l' := bm 42 16777215) rfl (by kernel_rfl) (by kernel_rfl) (by kernel_rfl) (fun K hK => ?_)
  go_simp
  go_at_call 48
  refine (C23.out _).mono ?_
  rintro r w115 ⟨rfl, hb⟩
  dsimp only
  have D116 := Lib.hid (below_step D113.out hb)
  clear D113
  clear hb
  have hS117 : True ∧ CellsAt w115 (w.heap.size) (vc A) 0 6 ∧ CellsAt w115 (w.heap.size + 1) (vc B) 0 6 := ⟨trivial, (K0.out.below D116.out K0.out.lt).cells 0 6 (Nat.le_of_ble_eq_true rfl), (K1.out.below D116.out K1.out.lt).cells 0 6 (Nat.le_of_ble_eq_true rfl)⟩
  refine hK _ _ hS117 ?_
  clear hK K hS114
  refine wpAnyH_takeN (i := 24) (v := ?vq118) (l' := bm 42 33554431) (a' := ?aq118) rfl (by kernel_rfl) (by kernel_rfl) (by kernel_rfl) (fun _ _ _ h => h) (Or.inl ⟨by kernel_rfl, ?hq118⟩) (by kernel_rfl) ?pq118 hS117 ?rq118
  case hq118 => (intro w hS; go_simp; try with_reducible rfl)
  case pq118 => (go_simp; try with_reducible rfl)
  refine wpAnyH_takeN (i := 25) (v := ?vq119) (l' := bm 42 67108863) (a' := ?aq119) rfl (by kernel_rfl) (by kernel_rfl) (by kernel_rfl) (fun _ _ _ h => h) (Or.inl ⟨by kernel_rfl, ?hq119⟩) (by kernel_rfl) ?pq119 hS117 ?rq119
  case hq119 => (intro w hS; go_simp; try with_reducible rfl)
  case pq119 => (go_simp; try with_reducible rfl)
  refine wpAnyH_takeN (i := 26) (v := ?vq120) (l' := bm 42 134217727) (a' := ?aq120) rfl (by kernel_rfl) (by kernel_rfl) (by kernel_rfl) (fun _ _ _ h => h) (Or.inl ⟨by kernel_rfl, ?hq120⟩) (by kernel_rfl) ?pq120 hS117 ?rq120
  case hq120 => (intro w hS; simp only [CellsAt, ac, vc, Nat.reduceAdd, List.size_toArray, List.getElem?_toArray, List.getElem?_cons_succ, List.getElem?_cons_zero] at hS; go_simp; try with_reducible rfl)
  case pq120 => (go_simp; try with_reducible rfl)
  refine wpAnyH_takeN (i := 27) (v := ?vq121) (l' := bm 42 268435455) (a' := ?aq121) rfl (by kernel_rfl) (by kernel_rfl) (by kernel_rfl) (fun _ _ _ h => h) (Or.inl ⟨by kernel_rfl, ?hq121⟩) (by kernel_rfl) ?pq121 hS117 ?rq121
  case hq121 => (intro w hS; simp only [CellsAt, ac, vc, Nat.reduceAdd, List.size_toArray, List.getElem?_toArray, List.getElem?_cons_succ, List.getElem?_cons_zero] at hS; go_simp; try with_reducible rfl)
  case pq121 => (go_simp; try with_reducible rfl)
  refine wpAnyH_takeN (i := 29) (v := ?vq122) (l' := bm 42 805306367) (a' := ?aq122) rfl (by kernel_rfl) (by kernel_rfl) (by kernel_rfl) (fun _ _ _ h => h) (Or.inl ⟨by kernel_rfl, ?hq122⟩) (by kernel_rfl) ?pq122 hS117 ?rq122
  case hq122 => (intro w hS; simp only [CellsAt, ac, vc, Nat.reduceAdd, List.size_toArray, List.getElem?_toArray, List.getElem?_cons_succ, List.getElem?_cons_zero] at hS; go_simp; try with_reducible rfl)
  case pq122 => (go_simp; try with_reducible rfl)
  refine wpAnyH_takeN (i := 30) (v := ?vq123) (l' := bm 42 1879048191) (a' := ?aq123) rfl (by kernel_rfl) (by kernel_rfl) (by kernel_rfl) (fun _ _ _ h => h) (Or.inl ⟨by kernel_rfl, ?hq123⟩) (by kernel_rfl) ?pq123 hS117 ?rq123
  case hq123 => (intro w hS; simp only [CellsAt, ac, vc, Nat.reduceAdd, List.size_toArray, List.getElem?_toArray, List.getElem?_cons_succ, List.getElem?_cons_zero] at hS; go_simp; try with_reducible rfl)
  case pq123 => (go_simp; try with_reducible rfl)
  refine wpAnyH_oneN (i := 28) (l' := bm 42 2147483647) rfl (by kernel_rfl) (by kernel_rfl) (by kernel_rfl) (fun K hK => ?_)
  go_simp
  go_at_call 34
  refine (C24.out _).mono ?_
  rintro r w124 ⟨rfl, hb⟩
  dsimp only
  have D125 := Lib.hid (below_step D116.out hb)
  clear D116
  clear hb
  have hS126 : True ∧ CellsAt w124 (w.heap.size) (vc A) 0 6 ∧ CellsAt w124 (w.heap.size + 1) (vc B) 0 6 := ⟨trivial, (K0.out.below D125.out K0.out.lt).cells 0 6 (Nat.le_of_ble_eq_true rfl), (K1.out.below D125.out K1.out.lt).cells 0 6 (Nat.le_of_ble_eq_true rfl)⟩
  refine hK _ _ hS126 ?_
  clear hK K hS117
  refine wpAnyH_oneN (i := 31) (l' := bm 42 4294967295) rfl (by kernel_rfl) (by kernel_rfl) (by kernel_rfl) (fun K hK => ?_)
  go_simp
  go_at_call 50
  refine (C25.out _).mono ?_
  rintro r w127 ⟨rfl, hb⟩
  dsimp only
  have D128 := Lib.hid (below_step D125.out hb)
  clear D125
  clear hb
  have hS129 : True ∧ CellsAt w127 (w.heap.size) (vc A) 0 6 ∧ CellsAt w127 (w.heap.size + 1) (vc B) 0 6 := ⟨trivial, (K0.out.below D128.out K0.out.lt).cells 0 6 (Nat.le_of_ble_eq_true rfl), (K1.out.below D128.out K1.out.lt).cells 0 6 (Nat.le_of_ble_eq_true rfl)⟩
  refine hK _ _ hS129 ?_
  clear hK K hS126
  refine wpAnyH_oneN (i := 32) (l' := bm 42 8589934591) rfl (by kernel_rfl) (by kernel_rfl) (by kernel_rfl) (fun K hK => ?_)
  go_simp
  go_at_call 23
  refine (C26.out _).mono ?_
  rintro r w130 ⟨rfl, hb⟩
  dsimp only
  have D131 := Lib.hid (below_step D128.out hb)
  clear D128
  clear hb
  have hS132 : True ∧ CellsAt w130 (w.heap.size) (vc A) 0 6 ∧ CellsAt w130 (w.heap.size + 1) (vc B) 0 6 := ⟨trivial, (K0.out.below D131.out K0.out.lt).cells 0 6 (Nat.le_of_ble_eq_true rfl), (K1.out.below D131.out K1.out.lt).cells 0 6 (Nat.le_of_ble_eq_true rfl)⟩
  refine hK _ _ hS132 ?_
  clear hK K hS129
  refine wpAnyH_takeN (i := 33) (v := ?vq133) (l' := bm 42 17179869183) (a' := ?aq133) rfl (by kernel_rfl) (by kernel_rfl) (by kernel_rfl) (fun _ _ _ h => h) (Or.inl ⟨by kernel_rfl, ?hq133⟩) (by kernel_rfl) ?pq133 hS132 ?rq133
  case hq133 => (intro w hS; go_simp; try with_reducible rfl)
  case pq133 => (go_simp; try with_reducible rfl)
  refine wpAnyH_takeN (i := 34) (v := ?vq134) (l' := bm 42 34359738367) (a' := ?aq134) rfl (by kernel_rfl) (by kernel_rfl) (by kernel_rfl) (fun _ _ _ h => h) (Or.inl ⟨by kernel_rfl, ?hq134⟩) (by kernel_rfl) ?pq134 hS132 ?rq134
  case hq134 => (intro w hS; go_simp; try with_reducible rfl)
  case pq134 => (go_simp; try with_reducible rfl)
  refine wpAnyH_takeN (i := 35) (v := ?vq135) (l' := bm 42 68719476735) (a' := ?aq135) rfl (by kernel_rfl) (by kernel_rfl) (by kernel_rfl) (fun _ _ _ h => h) (Or.inl ⟨by kernel_rfl, ?hq135⟩) (by kernel_rfl) ?pq135 hS132 ?rq135
  case hq135 => (intro w hS; simp only [CellsAt, ac, vc, Nat.reduceAdd, List.size_toArray, List.getElem?_toArray, List.getElem?_cons_succ, List.getElem?_cons_zero] at hS; go_simp; try with_reducible rfl)
  case pq135 => (go_simp; try with_reducible rfl)
  refine wpAnyH_takeN (i := 37) (v := ?vq136) (l' := bm 42 206158430207) (a' := ?aq136) rfl (by kernel_rfl) (by kernel_rfl) (by kernel_rfl) (fun _ _ _ h => h) (Or.inl ⟨by kernel_rfl, ?hq136⟩) (by kernel_rfl) ?pq136 hS132 ?rq136
  case hq136 => (intro w hS; simp only [CellsAt, ac, vc, Nat.reduceAdd, List.size_toArray, List.getElem?_toArray, List.getElem?_cons_succ, List.getElem?_cons_zero] at hS; go_simp; try with_reducible rfl)
  case pq136 => (go_simp; try with_reducible rfl)
  refine wpAnyH_oneN (i := 36) (l' := bm 42 274877906943) rfl (by kernel_rfl) (by kernel_rfl) (by kernel_rfl) (fun K hK => ?_)
  go_simp
  go_at_call 51
  refine (C27.out _).mono ?_
  rintro r w137 ⟨rfl, hb⟩
  dsimp only
  have D138 := Lib.hid (below_step D131.out hb)
  clear D131
  clear hb
  have hS139 : True ∧ CellsAt w137 (w.heap.size) (vc A) 0 6 ∧ CellsAt w137 (w.heap.size + 1) (vc B) 0 6 := ⟨trivial, (K0.out.below D138.out K0.out.lt).cells 0 6 (Nat.le_of_ble_eq_true rfl), (K1.out.below D138.out K1.out.lt).cells 0 6 (Nat.le_of_ble_eq_true rfl)⟩
  refine hK _ _ hS139 ?_
  clear hK K hS132
  refine wpAnyH_oneN (i := 38) (l' := bm 42 549755813887) rfl (by kernel_rfl) (by kernel_rfl) (by kernel_rfl) (fun K hK => ?_)
  go_simp
  go_at_call 52
  refine (C28.out _).mono ?_
  rintro r w140 ⟨rfl, hb⟩
  dsimp only
  have D141 := Lib.hid (below_step D138.out hb)
  clear D138
  clear hb
  have hS142 : True ∧ CellsAt w140 (w.heap.size) (vc A) 0 6 ∧ CellsAt w140 (w.heap.size + 1) (vc B) 0 6 := ⟨trivial, (K0.out.below D141.out K0.out.lt).cells 0 6 (Nat.le_of_ble_eq_true rfl), (K1.out.below D141.out K1.out.lt).cells 0 6 (Nat.le_of_ble_eq_true rfl)⟩
  refine hK _ _ hS142 ?_
  clear hK K hS139
  refine wpAnyH_oneN (i := 39) (l' := bm 42 1099511627775) rfl (by kernel_rfl) (by kernel_rfl) (by kernel_rfl) (fun K hK => ?_)
  go_simp
  go_at_call 48
  refine (C29.out _).mono ?_
  rintro r w143 ⟨rfl, hb⟩
  dsimp only
  have D144 := Lib.hid (below_step D141.out hb)
  clear D141
  clear hb
  have hS145 : True ∧ CellsAt w143 (w.heap.size) (vc A) 0 6 ∧ CellsAt w143 (w.heap.size + 1) (vc B) 0 6 := ⟨trivial, (K0.out.below D144.out K0.out.lt).cells 0 6 (Nat.le_of_ble_eq_true rfl), (K1.out.below D144.out K1.out.lt).cells 0 6 (Nat.le_of_ble_eq_true rfl)⟩
  refine hK _ _ hS145 ?_
  clear hK K hS142
  refine wpAnyH_takeN (i := 40) (v := ?vq146) (l' := bm 42 2199023255551) (a' := ?aq146) rfl (by kernel_rfl) (by kernel_rfl) (by kernel_rfl) (fun _ _ _ h => h) (Or.inl ⟨by kernel_rfl, ?hq146⟩) (by kernel_rfl) ?pq146 hS145 ?rq146
  case hq146 => (intro w hS; go_simp; try with_reducible rfl)
  case pq146 => (go_simp; try with_reducible rfl)
  refine wpAnyH_takeN (i := 41) (v := ?vq147) (l' := bm 42 4398046511103) (a' := ?aq147) rfl (by kernel_rfl) (by kernel_rfl) (by kernel_rfl) (fun _ _ _ h => h) (Or.inl ⟨by kernel_rfl, ?hq147⟩) (by kernel_rfl) ?pq147 hS145 ?rq147
  case hq147 => (intro w hS; go_simp; try with_reducible rfl)
  case pq147 => (go_simp; try with_reducible rfl)
  refine wpAnyH_done (by kernel_rfl) ?_ _
  clear hS145
  go_wp2_with fail
  go_ret
  exact ⟨rfl, below_step HB.out D144.out⟩
theorem walk_vecReckons (a0 a1 a2 a3 a4 a5 b0 b1 b2 b3 b4 b5 t0 t1 t2 : Nat) (ha0 : a0 < 18446744073709551616) (ha1 : a1 < 18446744073709551616) (ha2 : a2 < 18446744073709551616) (ha3 : a3 < 18446744073709551616) (ha4 : a4 < 18446744073709551616) (ha5 : a5 < 18446744073709551616) (hb0 : b0 < 18446744073709551616) (hb1 : b1 < 18446744073709551616) (hb2 : b2 < 18446744073709551616) (hb3 : b3 < 18446744073709551616) (hb4 : b4 < 18446744073709551616) (hb5 : b5 < 18446744073709551616) (ht0 : t0 < 18446744073709551616) (ht1 : t1 < 18446744073709551616) (ht2 : t2 < 18446744073709551616) (w : World) : Calls Try.prog 8 #[.agg #[.float .f64 a0, .float .f64 a1, .float .f64 a2, .float .f64 a3, .float .f64 a4, .float .f64 a5], .agg #[.float .f64 b0, .float .f64 b1, .float .f64 b2, .float .f64 b3, .float .f64 b4, .float .f64 b5], .agg #[.float .f64 t0, .float .f64 t1, .float .f64 t2]] w fun r w' => r = .returned (.bool true) ∧ Below w.heap.size w w' := by
  cases va : vdV a0 a1 a2 a3 a4 a5
  · exact vecReckons_n1 a0 a1 a2 a3 a4 a5 b0 b1 b2 b3 b4 b5 ha0 ha1 ha2 ha3 ha4 ha5 hb0 hb1 hb2 hb3 hb4 hb5 t0 t1 t2 ht0 ht1 ht2 va w
  · cases vb : vdV b0 b1 b2 b3 b4 b5
    · exact vecReckons_n2 a0 a1 a2 a3 a4 a5 b0 b1 b2 b3 b4 b5 ha0 ha1 ha2 ha3 ha4 ha5 hb0 hb1 hb2 hb3 hb4 hb5 t0 t1 t2 ht0 ht1 ht2 va vb w
    · obtain ⟨A, rfl, rfl, rfl, rfl, rfl, rfl⟩ := v3_of ha0 ha1 ha2 ha3 ha4 ha5 va
      obtain ⟨B, rfl, rfl, rfl, rfl, rfl, rfl⟩ := v3_of hb0 hb1 hb2 hb3 hb4 hb5 vb
      exact vecReckons_y A B t0 t1 t2 ht0 ht1 ht2 w
end Go.Proofs.Ytdgaaceebghcpaa
