/- The walk of VecSwaps (gen_te.py). -/
import Derived.Test.YtdgaaceebghcpaaTe
set_option linter.unusedVariables false
set_option linter.unusedSimpArgs false
namespace Go.Proofs.Ytdgaaceebghcpaa
open Go.RowKit Fl

set_option maxRecDepth 100000 in
set_option maxHeartbeats 8000000 in
theorem vecSwaps_n1 (a0 a1 a2 a3 a4 a5 b0 b1 b2 b3 b4 b5 : Nat) (ha0 : a0 < 18446744073709551616) (ha1 : a1 < 18446744073709551616) (ha2 : a2 < 18446744073709551616) (ha3 : a3 < 18446744073709551616) (ha4 : a4 < 18446744073709551616) (ha5 : a5 < 18446744073709551616) (hb0 : b0 < 18446744073709551616) (hb1 : b1 < 18446744073709551616) (hb2 : b2 < 18446744073709551616) (hb3 : b3 < 18446744073709551616) (hb4 : b4 < 18446744073709551616) (hb5 : b5 < 18446744073709551616)  (va : vdV a0 a1 a2 a3 a4 a5 = false) (w : World) : Calls Try.prog 7 #[Value.agg #[.float .f64 a0, .float .f64 a1, .float .f64 a2, .float .f64 a3, .float .f64 a4, .float .f64 a5], Value.agg #[.float .f64 b0, .float .f64 b1, .float .f64 b2, .float .f64 b3, .float .f64 b4, .float .f64 b5]] w fun r w' => r = .returned (.bool true) ∧ Below w.heap.size w w' := by
  have C0 := Lib.hid (awake3)
  have C1 := Lib.hid (fun w => rvalidV_any a0 a1 a2 a3 a4 a5 ha0 ha1 ha2 ha3 ha4 ha5 w)
  rw [va] at C1
  go_enter Try.func7, Try.ntmps7
  go_wp2_with fail
  obtain ⟨W, hW, K0, K1, hB, hz⟩ := bx2 w 26 26 #[.float .f64 a0, .float .f64 a1, .float .f64 a2, .float .f64 a3, .float .f64 a4, .float .f64 a5] #[.float .f64 b0, .float .f64 b1, .float .f64 b2, .float .f64 b3, .float .f64 b4, .float .f64 b5]
  rw [← hW]
  have K0 := Lib.hid K0
  have K1 := Lib.hid K1
  have HB := Lib.hid hB
  clear hW hB hz
  have D1 := Lib.hid (Below.refl W.heap.size W)
  refine (C0.out _).mono ?_
  rintro r w2 ⟨rfl, hb⟩
  have D3 := Lib.hid (below_step D1.out hb)
  clear D1
  clear hb
  have hq4 : w2.cell? ⟨w.heap.size, 0, none⟩ = some (.float .f64 a0) ∧ w2.cell? ⟨w.heap.size, 1, none⟩ = some (.float .f64 a1) ∧ w2.cell? ⟨w.heap.size, 2, none⟩ = some (.float .f64 a2) ∧ w2.cell? ⟨w.heap.size, 3, none⟩ = some (.float .f64 a3) ∧ w2.cell? ⟨w.heap.size, 4, none⟩ = some (.float .f64 a4) ∧ w2.cell? ⟨w.heap.size, 5, none⟩ = some (.float .f64 a5) := ⟨(K0.out.below D3.out K0.out.lt).cell 0, (K0.out.below D3.out K0.out.lt).cell 1, (K0.out.below D3.out K0.out.lt).cell 2, (K0.out.below D3.out K0.out.lt).cell 3, (K0.out.below D3.out K0.out.lt).cell 4, (K0.out.below D3.out K0.out.lt).cell 5⟩
  go_wp2_with fail
  clear hq4
  refine (C1.out _).mono ?_
  rintro r w5 ⟨rfl, hb⟩
  have D6 := Lib.hid (below_step D3.out hb)
  clear D3
  clear hb
  go_wp2_with fail
  go_ret
  exact ⟨rfl, below_step HB.out D6.out⟩
set_option maxRecDepth 100000 in
set_option maxHeartbeats 8000000 in
theorem vecSwaps_n2 (a0 a1 a2 a3 a4 a5 b0 b1 b2 b3 b4 b5 : Nat) (ha0 : a0 < 18446744073709551616) (ha1 : a1 < 18446744073709551616) (ha2 : a2 < 18446744073709551616) (ha3 : a3 < 18446744073709551616) (ha4 : a4 < 18446744073709551616) (ha5 : a5 < 18446744073709551616) (hb0 : b0 < 18446744073709551616) (hb1 : b1 < 18446744073709551616) (hb2 : b2 < 18446744073709551616) (hb3 : b3 < 18446744073709551616) (hb4 : b4 < 18446744073709551616) (hb5 : b5 < 18446744073709551616)  (va : vdV a0 a1 a2 a3 a4 a5 = true) (vb : vdV b0 b1 b2 b3 b4 b5 = false) (w : World) : Calls Try.prog 7 #[Value.agg #[.float .f64 a0, .float .f64 a1, .float .f64 a2, .float .f64 a3, .float .f64 a4, .float .f64 a5], Value.agg #[.float .f64 b0, .float .f64 b1, .float .f64 b2, .float .f64 b3, .float .f64 b4, .float .f64 b5]] w fun r w' => r = .returned (.bool true) ∧ Below w.heap.size w w' := by
  have C0 := Lib.hid (awake3)
  have C1 := Lib.hid (fun w => rvalidV_any a0 a1 a2 a3 a4 a5 ha0 ha1 ha2 ha3 ha4 ha5 w)
  rw [va] at C1
  have C2 := Lib.hid (fun w => rvalidV_any b0 b1 b2 b3 b4 b5 hb0 hb1 hb2 hb3 hb4 hb5 w)
  rw [vb] at C2
  go_enter Try.func7, Try.ntmps7
  go_wp2_with fail
  obtain ⟨W, hW, K0, K1, hB, hz⟩ := bx2 w 26 26 #[.float .f64 a0, .float .f64 a1, .float .f64 a2, .float .f64 a3, .float .f64 a4, .float .f64 a5] #[.float .f64 b0, .float .f64 b1, .float .f64 b2, .float .f64 b3, .float .f64 b4, .float .f64 b5]
  rw [← hW]
  have K0 := Lib.hid K0
  have K1 := Lib.hid K1
  have HB := Lib.hid hB
  clear hW hB hz
  have D1 := Lib.hid (Below.refl W.heap.size W)
  refine (C0.out _).mono ?_
  rintro r w2 ⟨rfl, hb⟩
  have D3 := Lib.hid (below_step D1.out hb)
  clear D1
  clear hb
  have hq4 : w2.cell? ⟨w.heap.size, 0, none⟩ = some (.float .f64 a0) ∧ w2.cell? ⟨w.heap.size, 1, none⟩ = some (.float .f64 a1) ∧ w2.cell? ⟨w.heap.size, 2, none⟩ = some (.float .f64 a2) ∧ w2.cell? ⟨w.heap.size, 3, none⟩ = some (.float .f64 a3) ∧ w2.cell? ⟨w.heap.size, 4, none⟩ = some (.float .f64 a4) ∧ w2.cell? ⟨w.heap.size, 5, none⟩ = some (.float .f64 a5) := ⟨(K0.out.below D3.out K0.out.lt).cell 0, (K0.out.below D3.out K0.out.lt).cell 1, (K0.out.below D3.out K0.out.lt).cell 2, (K0.out.below D3.out K0.out.lt).cell 3, (K0.out.below D3.out K0.out.lt).cell 4, (K0.out.below D3.out K0.out.lt).cell 5⟩
  go_wp2_with fail
  clear hq4
  refine (C1.out _).mono ?_
  rintro r w5 ⟨rfl, hb⟩
  have D6 := Lib.hid (below_step D3.out hb)
  clear D3
  clear hb
  have hq7 : w5.cell? ⟨w.heap.size + 1, 0, none⟩ = some (.float .f64 b0) ∧ w5.cell? ⟨w.heap.size + 1, 1, none⟩ = some (.float .f64 b1) ∧ w5.cell? ⟨w.heap.size + 1, 2, none⟩ = some (.float .f64 b2) ∧ w5.cell? ⟨w.heap.size + 1, 3, none⟩ = some (.float .f64 b3) ∧ w5.cell? ⟨w.heap.size + 1, 4, none⟩ = some (.float .f64 b4) ∧ w5.cell? ⟨w.heap.size + 1, 5, none⟩ = some (.float .f64 b5) := ⟨(K1.out.below D6.out K1.out.lt).cell 0, (K1.out.below D6.out K1.out.lt).cell 1, (K1.out.below D6.out K1.out.lt).cell 2, (K1.out.below D6.out K1.out.lt).cell 3, (K1.out.below D6.out K1.out.lt).cell 4, (K1.out.below D6.out K1.out.lt).cell 5⟩
  go_wp2_with fail
  clear hq7
  refine (C2.out _).mono ?_
  rintro r w8 ⟨rfl, hb⟩
  have D9 := Lib.hid (below_step D6.out hb)
  clear D6
  clear hb
  go_wp2_with fail
  go_ret
  exact ⟨rfl, below_step HB.out D9.out⟩
set_option maxRecDepth 100000 in
set_option maxHeartbeats 8000000 in
theorem vecSwaps_y (A B : V3) (w : World) : Calls Try.prog 7 #[Value.agg #[.float .f64 A.x.lo, .float .f64 A.x.hi, .float .f64 A.y.lo, .float .f64 A.y.hi, .float .f64 A.z.lo, .float .f64 A.z.hi], Value.agg #[.float .f64 B.x.lo, .float .f64 B.x.hi, .float .f64 B.y.lo, .float .f64 B.y.hi, .float .f64 B.z.lo, .float .f64 B.z.hi]] w fun r w' => r = .returned (.bool true) ∧ Below w.heap.size w w' := by
  have C0 := Lib.hid (awake3)
  have C1 := Lib.hid (fun w => rvalidV_v A w)
  have C2 := Lib.hid (fun w => rvalidV_v B w)
  have C3 := Lib.hid (fun w => dotV_any A B w)
  obtain ⟨p3, hp3⟩ : ∃ p, vDot A B = p := ⟨_, rfl⟩
  rw [hp3] at C3
  have C4 := Lib.hid (fun w => dotV_any B A w)
  rw [vDot_comm B A] at C4
  rw [hp3] at C4
  have C5 := Lib.hid (fun w => crossV_any A B w)
  obtain ⟨p5, hp5⟩ : ∃ p, vCross A B = p := ⟨_, rfl⟩
  rw [hp5] at C5
  have C6 := Lib.hid (fun w => crossV_any B A w)
  obtain ⟨p6, hp6⟩ : ∃ p, vCross B A = p := ⟨_, rfl⟩
  rw [hp6] at C6
  have C7 := Lib.hid (fun w => negV_any p6 w)
  have hl : vNeg p6 = vCross A B := by rw [← hp6]; exact vCross_neg A B
  rw [hl] at C7
  clear hl
  rw [hp5] at C7
  have C8 := Lib.hid (fun w => vAdd_any A B w)
  obtain ⟨p8, hp8⟩ : ∃ p, vAdd A B = p := ⟨_, rfl⟩
  rw [hp8] at C8
  have C9 := Lib.hid (fun w => vAdd_any B A w)
  rw [vAdd_comm B A] at C9
  rw [hp8] at C9
  have C10 := Lib.hid (fun w => vMul_any A B w)
  obtain ⟨p10, hp10⟩ : ∃ p, vMul A B = p := ⟨_, rfl⟩
  rw [hp10] at C10
  have C11 := Lib.hid (fun w => vMul_any B A w)
  rw [vMul_comm B A] at C11
  rw [hp10] at C11
  clear hp3 hp5 hp6 hp8 hp10
  have eq_0 := order_self p3.vd.l
  have eq_1 := order_self p3.vd.h
  have eq_2 := order_self p5.x.vd.l
  have eq_3 := order_self p5.x.vd.h
  have eq_4 := order_self p5.y.vd.l
  have eq_5 := order_self p5.y.vd.h
  have eq_6 := order_self p5.z.vd.l
  have eq_7 := order_self p5.z.vd.h
  have eq_8 := order_self p8.x.vd.l
  have eq_9 := order_self p8.x.vd.h
  have eq_10 := order_self p8.y.vd.l
  have eq_11 := order_self p8.y.vd.h
  have eq_12 := order_self p8.z.vd.l
  have eq_13 := order_self p8.z.vd.h
  have eq_14 := order_self p10.x.vd.l
  have eq_15 := order_self p10.x.vd.h
  have eq_16 := order_self p10.y.vd.l
  have eq_17 := order_self p10.y.vd.h
  have eq_18 := order_self p10.z.vd.l
  have eq_19 := order_self p10.z.vd.h
  go_enter Try.func7, Try.ntmps7
  go_wp2_with fail
  obtain ⟨W, hW, K0, K1, hB, hz⟩ := bx2 w 26 26 (vc A) (vc B)
  rw [← hW]
  have K0 := Lib.hid K0
  have K1 := Lib.hid K1
  have HB := Lib.hid hB
  clear hW hB hz
  have D1 := Lib.hid (Below.refl W.heap.size W)
  refine (C0.out _).mono ?_
  rintro r w2 ⟨rfl, hb⟩
  have D3 := Lib.hid (below_step D1.out hb)
  clear D1
  clear hb
  have hq4 : w2.cell? ⟨w.heap.size, 0, none⟩ = some (.float .f64 A.x.lo) ∧ w2.cell? ⟨w.heap.size, 1, none⟩ = some (.float .f64 A.x.hi) ∧ w2.cell? ⟨w.heap.size, 2, none⟩ = some (.float .f64 A.y.lo) ∧ w2.cell? ⟨w.heap.size, 3, none⟩ = some (.float .f64 A.y.hi) ∧ w2.cell? ⟨w.heap.size, 4, none⟩ = some (.float .f64 A.z.lo) ∧ w2.cell? ⟨w.heap.size, 5, none⟩ = some (.float .f64 A.z.hi) := ⟨(K0.out.below D3.out K0.out.lt).cell 0, (K0.out.below D3.out K0.out.lt).cell 1, (K0.out.below D3.out K0.out.lt).cell 2, (K0.out.below D3.out K0.out.lt).cell 3, (K0.out.below D3.out K0.out.lt).cell 4, (K0.out.below D3.out K0.out.lt).cell 5⟩
  go_wp2_with fail
  clear hq4
  refine (C1.out _).mono ?_
  rintro r w5 ⟨rfl, hb⟩
  have D6 := Lib.hid (below_step D3.out hb)
  clear D3
  clear hb
  have hq7 : w5.cell? ⟨w.heap.size + 1, 0, none⟩ = some (.float .f64 B.x.lo) ∧ w5.cell? ⟨w.heap.size + 1, 1, none⟩ = some (.float .f64 B.x.hi) ∧ w5.cell? ⟨w.heap.size + 1, 2, none⟩ = some (.float .f64 B.y.lo) ∧ w5.cell? ⟨w.heap.size + 1, 3, none⟩ = some (.float .f64 B.y.hi) ∧ w5.cell? ⟨w.heap.size + 1, 4, none⟩ = some (.float .f64 B.z.lo) ∧ w5.cell? ⟨w.heap.size + 1, 5, none⟩ = some (.float .f64 B.z.hi) := ⟨(K1.out.below D6.out K1.out.lt).cell 0, (K1.out.below D6.out K1.out.lt).cell 1, (K1.out.below D6.out K1.out.lt).cell 2, (K1.out.below D6.out K1.out.lt).cell 3, (K1.out.below D6.out K1.out.lt).cell 4, (K1.out.below D6.out K1.out.lt).cell 5⟩
  go_wp2_with fail
  clear hq7
  refine (C2.out _).mono ?_
  rintro r w8 ⟨rfl, hb⟩
  have D9 := Lib.hid (below_step D6.out hb)
  clear D6
  clear hb
  go_wp2_with fail
  refine wp_region_held (S := (fun w' => True ∧ w'.cell? ⟨w.heap.size, 0, none⟩ = some (.float .f64 A.x.lo) ∧ w'.cell? ⟨w.heap.size, 1, none⟩ = some (.float .f64 A.x.hi) ∧ w'.cell? ⟨w.heap.size, 2, none⟩ = some (.float .f64 A.y.lo) ∧ w'.cell? ⟨w.heap.size, 3, none⟩ = some (.float .f64 A.y.hi) ∧ w'.cell? ⟨w.heap.size, 4, none⟩ = some (.float .f64 A.z.lo) ∧ w'.cell? ⟨w.heap.size, 5, none⟩ = some (.float .f64 A.z.hi) ∧ w'.cell? ⟨w.heap.size + 1, 0, none⟩ = some (.float .f64 B.x.lo) ∧ w'.cell? ⟨w.heap.size + 1, 1, none⟩ = some (.float .f64 B.x.hi) ∧ w'.cell? ⟨w.heap.size + 1, 2, none⟩ = some (.float .f64 B.y.lo) ∧ w'.cell? ⟨w.heap.size + 1, 3, none⟩ = some (.float .f64 B.y.hi) ∧ w'.cell? ⟨w.heap.size + 1, 4, none⟩ = some (.float .f64 B.z.lo) ∧ w'.cell? ⟨w.heap.size + 1, 5, none⟩ = some (.float .f64 B.z.hi))) (by kernel_rfl) ?_
  change wpAnyH _ _ _ _ _ _ _ _ (World.drew _)
  obtain ⟨wd10, hwd⟩ : ∃ x, x = World.drew w8 := ⟨_, rfl⟩
  rw [← hwd]
  have D11 := Lib.hid (hwd ▸ Below.drew D9.out : Below W.heap.size W wd10)
  clear D9 hwd
  have hS12 : True ∧ wd10.cell? ⟨w.heap.size, 0, none⟩ = some (.float .f64 A.x.lo) ∧ wd10.cell? ⟨w.heap.size, 1, none⟩ = some (.float .f64 A.x.hi) ∧ wd10.cell? ⟨w.heap.size, 2, none⟩ = some (.float .f64 A.y.lo) ∧ wd10.cell? ⟨w.heap.size, 3, none⟩ = some (.float .f64 A.y.hi) ∧ wd10.cell? ⟨w.heap.size, 4, none⟩ = some (.float .f64 A.z.lo) ∧ wd10.cell? ⟨w.heap.size, 5, none⟩ = some (.float .f64 A.z.hi) ∧ wd10.cell? ⟨w.heap.size + 1, 0, none⟩ = some (.float .f64 B.x.lo) ∧ wd10.cell? ⟨w.heap.size + 1, 1, none⟩ = some (.float .f64 B.x.hi) ∧ wd10.cell? ⟨w.heap.size + 1, 2, none⟩ = some (.float .f64 B.y.lo) ∧ wd10.cell? ⟨w.heap.size + 1, 3, none⟩ = some (.float .f64 B.y.hi) ∧ wd10.cell? ⟨w.heap.size + 1, 4, none⟩ = some (.float .f64 B.z.lo) ∧ wd10.cell? ⟨w.heap.size + 1, 5, none⟩ = some (.float .f64 B.z.hi) := ⟨trivial, (K0.out.below D11.out K0.out.lt).cell 0, (K0.out.below D11.out K0.out.lt).cell 1, (K0.out.below D11.out K0.out.lt).cell 2, (K0.out.below D11.out K0.out.lt).cell 3, (K0.out.below D11.out K0.out.lt).cell 4, (K0.out.below D11.out K0.out.lt).cell 5, (K1.out.below D11.out K1.out.lt).cell 0, (K1.out.below D11.out K1.out.lt).cell 1, (K1.out.below D11.out K1.out.lt).cell 2, (K1.out.below D11.out K1.out.lt).cell 3, (K1.out.below D11.out K1.out.lt).cell 4, (K1.out.below D11.out K1.out.lt).cell 5⟩
  refine wpAnyH_takeN (i := 0) (v := ?vq13) (l' := bm 36 1) (a' := ?aq13) rfl (by kernel_rfl) (by kernel_rfl) (by kernel_rfl) (fun _ _ _ h => h) (Or.inl ⟨by kernel_rfl, ?hq13⟩) (by kernel_rfl) ?pq13 hS12 ?rq13
  case hq13 => (intro w hS; go_simp; try with_reducible rfl)
  case pq13 => (go_simp; try with_reducible rfl)
  refine wpAnyH_takeN (i := 1) (v := ?vq14) (l' := bm 36 3) (a' := ?aq14) rfl (by kernel_rfl) (by kernel_rfl) (by kernel_rfl) (fun _ _ _ h => h) (Or.inl ⟨by kernel_rfl, ?hq14⟩) (by kernel_rfl) ?pq14 hS12 ?rq14
  case hq14 => (intro w hS; go_simp; try with_reducible rfl)
  case pq14 => (go_simp; try with_reducible rfl)
  refine wpAnyH_takeN (i := 3) (v := ?vq15) (l' := bm 36 11) (a' := ?aq15) rfl (by kernel_rfl) (by kernel_rfl) (by kernel_rfl) (fun _ _ _ h => h) (Or.inl ⟨by kernel_rfl, ?hq15⟩) (by kernel_rfl) ?pq15 hS12 ?rq15
  case hq15 => (intro w hS; go_simp; try with_reducible rfl)
  case pq15 => (go_simp; try with_reducible rfl)
  refine wpAnyH_takeN (i := 4) (v := ?vq16) (l' := bm 36 27) (a' := ?aq16) rfl (by kernel_rfl) (by kernel_rfl) (by kernel_rfl) (fun _ _ _ h => h) (Or.inl ⟨by kernel_rfl, ?hq16⟩) (by kernel_rfl) ?pq16 hS12 ?rq16
  case hq16 => (intro w hS; go_simp; try with_reducible rfl)
  case pq16 => (go_simp; try with_reducible rfl)
  refine wpAnyH_oneN (i := 2) (l' := bm 36 31) rfl (by kernel_rfl) (by kernel_rfl) (by kernel_rfl) (fun K hK => ?_)
  go_simp
  go_at_call 32
  refine (C3.out _).mono ?_
  rintro r w17 ⟨rfl, hb⟩
  dsimp only
  have D18 := Lib.hid (below_step D11.out hb)
  clear D11
  clear hb
  have hS19 : True ∧ w17.cell? ⟨w.heap.size, 0, none⟩ = some (.float .f64 A.x.lo) ∧ w17.cell? ⟨w.heap.size, 1, none⟩ = some (.float .f64 A.x.hi) ∧ w17.cell? ⟨w.heap.size, 2, none⟩ = some (.float .f64 A.y.lo) ∧ w17.cell? ⟨w.heap.size, 3, none⟩ = some (.float .f64 A.y.hi) ∧ w17.cell? ⟨w.heap.size, 4, none⟩ = some (.float .f64 A.z.lo) ∧ w17.cell? ⟨w.heap.size, 5, none⟩ = some (.float .f64 A.z.hi) ∧ w17.cell? ⟨w.heap.size + 1, 0, none⟩ = some (.float .f64 B.x.lo) ∧ w17.cell? ⟨w.heap.size + 1, 1, none⟩ = some (.float .f64 B.x.hi) ∧ w17.cell? ⟨w.heap.size + 1, 2, none⟩ = some (.float .f64 B.y.lo) ∧ w17.cell? ⟨w.heap.size + 1, 3, none⟩ = some (.float .f64 B.y.hi) ∧ w17.cell? ⟨w.heap.size + 1, 4, none⟩ = some (.float .f64 B.z.lo) ∧ w17.cell? ⟨w.heap.size + 1, 5, none⟩ = some (.float .f64 B.z.hi) := ⟨trivial, (K0.out.below D18.out K0.out.lt).cell 0, (K0.out.below D18.out K0.out.lt).cell 1, (K0.out.below D18.out K0.out.lt).cell 2, (K0.out.below D18.out K0.out.lt).cell 3, (K0.out.below D18.out K0.out.lt).cell 4, (K0.out.below D18.out K0.out.lt).cell 5, (K1.out.below D18.out K1.out.lt).cell 0, (K1.out.below D18.out K1.out.lt).cell 1, (K1.out.below D18.out K1.out.lt).cell 2, (K1.out.below D18.out K1.out.lt).cell 3, (K1.out.below D18.out K1.out.lt).cell 4, (K1.out.below D18.out K1.out.lt).cell 5⟩
  refine hK _ _ hS19 ?_
  clear hK K hS12
  refine wpAnyH_oneN (i := 5) (l' := bm 36 63) rfl (by kernel_rfl) (by kernel_rfl) (by kernel_rfl) (fun K hK => ?_)
  go_simp
  go_at_call 32
  refine (C4.out _).mono ?_
  rintro r w20 ⟨rfl, hb⟩
  dsimp only
  have D21 := Lib.hid (below_step D18.out hb)
  clear D18
  clear hb
  have hS22 : True ∧ w20.cell? ⟨w.heap.size, 0, none⟩ = some (.float .f64 A.x.lo) ∧ w20.cell? ⟨w.heap.size, 1, none⟩ = some (.float .f64 A.x.hi) ∧ w20.cell? ⟨w.heap.size, 2, none⟩ = some (.float .f64 A.y.lo) ∧ w20.cell? ⟨w.heap.size, 3, none⟩ = some (.float .f64 A.y.hi) ∧ w20.cell? ⟨w.heap.size, 4, none⟩ = some (.float .f64 A.z.lo) ∧ w20.cell? ⟨w.heap.size, 5, none⟩ = some (.float .f64 A.z.hi) ∧ w20.cell? ⟨w.heap.size + 1, 0, none⟩ = some (.float .f64 B.x.lo) ∧ w20.cell? ⟨w.heap.size + 1, 1, none⟩ = some (.float .f64 B.x.hi) ∧ w20.cell? ⟨w.heap.size + 1, 2, none⟩ = some (.float .f64 B.y.lo) ∧ w20.cell? ⟨w.heap.size + 1, 3, none⟩ = some (.float .f64 B.y.hi) ∧ w20.cell? ⟨w.heap.size + 1, 4, none⟩ = some (.float .f64 B.z.lo) ∧ w20.cell? ⟨w.heap.size + 1, 5, none⟩ = some (.float .f64 B.z.hi) := ⟨trivial, (K0.out.below D21.out K0.out.lt).cell 0, (K0.out.below D21.out K0.out.lt).cell 1, (K0.out.below D21.out K0.out.lt).cell 2, (K0.out.below D21.out K0.out.lt).cell 3, (K0.out.below D21.out K0.out.lt).cell 4, (K0.out.below D21.out K0.out.lt).cell 5, (K1.out.below D21.out K1.out.lt).cell 0, (K1.out.below D21.out K1.out.lt).cell 1, (K1.out.below D21.out K1.out.lt).cell 2, (K1.out.below D21.out K1.out.lt).cell 3, (K1.out.below D21.out K1.out.lt).cell 4, (K1.out.below D21.out K1.out.lt).cell 5⟩
  refine hK _ _ hS22 ?_
  clear hK K hS19
  refine wpAnyH_takeN (i := 6) (v := ?vq23) (l' := bm 36 127) (a' := ?aq23) rfl (by kernel_rfl) (by kernel_rfl) (by kernel_rfl) (fun _ _ _ h => h) (Or.inl ⟨by kernel_rfl, ?hq23⟩) (by kernel_rfl) ?pq23 hS22 ?rq23
  case hq23 => (intro w hS; go_simp; try with_reducible rfl)
  case pq23 => (go_simp; try with_reducible rfl)
  refine wpAnyH_takeN (i := 7) (v := ?vq24) (l' := bm 36 255) (a' := ?aq24) rfl (by kernel_rfl) (by kernel_rfl) (by kernel_rfl) (fun _ _ _ h => h) (Or.inl ⟨by kernel_rfl, ?hq24⟩) (by kernel_rfl) ?pq24 hS22 ?rq24
  case hq24 => (intro w hS; go_simp; try with_reducible rfl)
  case pq24 => (go_simp; try with_reducible rfl)
  refine wpAnyH_takeN (i := 8) (v := ?vq25) (l' := bm 36 511) (a' := ?aq25) rfl (by kernel_rfl) (by kernel_rfl) (by kernel_rfl) (fun _ _ _ h => h) (Or.inl ⟨by kernel_rfl, ?hq25⟩) (by kernel_rfl) ?pq25 hS22 ?rq25
  case hq25 => (intro w hS; go_simp; try with_reducible rfl)
  case pq25 => (go_simp; try with_reducible rfl)
  refine wpAnyH_takeN (i := 9) (v := ?vq26) (l' := bm 36 1023) (a' := ?aq26) rfl (by kernel_rfl) (by kernel_rfl) (by kernel_rfl) (fun _ _ _ h => h) (Or.inl ⟨by kernel_rfl, ?hq26⟩) (by kernel_rfl) ?pq26 hS22 ?rq26
  case hq26 => (intro w hS; go_simp; try with_reducible rfl)
  case pq26 => (go_simp; try with_reducible rfl)
  refine wpAnyH_takeN (i := 11) (v := ?vq27) (l' := bm 36 3071) (a' := ?aq27) rfl (by kernel_rfl) (by kernel_rfl) (by kernel_rfl) (fun _ _ _ h => h) (Or.inl ⟨by kernel_rfl, ?hq27⟩) (by kernel_rfl) ?pq27 hS22 ?rq27
  case hq27 => (intro w hS; go_simp; try with_reducible rfl)
  case pq27 => (go_simp; try with_reducible rfl)
  refine wpAnyH_takeN (i := 12) (v := ?vq28) (l' := bm 36 7167) (a' := ?aq28) rfl (by kernel_rfl) (by kernel_rfl) (by kernel_rfl) (fun _ _ _ h => h) (Or.inl ⟨by kernel_rfl, ?hq28⟩) (by kernel_rfl) ?pq28 hS22 ?rq28
  case hq28 => (intro w hS; go_simp; try with_reducible rfl)
  case pq28 => (go_simp; try with_reducible rfl)
  refine wpAnyH_oneN (i := 10) (l' := bm 36 8191) rfl (by kernel_rfl) (by kernel_rfl) (by kernel_rfl) (fun K hK => ?_)
  go_simp
  go_at_call 34
  refine (C5.out _).mono ?_
  rintro r w29 ⟨rfl, hb⟩
  dsimp only
  have D30 := Lib.hid (below_step D21.out hb)
  clear D21
  clear hb
  have hS31 : True ∧ w29.cell? ⟨w.heap.size, 0, none⟩ = some (.float .f64 A.x.lo) ∧ w29.cell? ⟨w.heap.size, 1, none⟩ = some (.float .f64 A.x.hi) ∧ w29.cell? ⟨w.heap.size, 2, none⟩ = some (.float .f64 A.y.lo) ∧ w29.cell? ⟨w.heap.size, 3, none⟩ = some (.float .f64 A.y.hi) ∧ w29.cell? ⟨w.heap.size, 4, none⟩ = some (.float .f64 A.z.lo) ∧ w29.cell? ⟨w.heap.size, 5, none⟩ = some (.float .f64 A.z.hi) ∧ w29.cell? ⟨w.heap.size + 1, 0, none⟩ = some (.float .f64 B.x.lo) ∧ w29.cell? ⟨w.heap.size + 1, 1, none⟩ = some (.float .f64 B.x.hi) ∧ w29.cell? ⟨w.heap.size + 1, 2, none⟩ = some (.float .f64 B.y.lo) ∧ w29.cell? ⟨w.heap.size + 1, 3, none⟩ = some (.float .f64 B.y.hi) ∧ w29.cell? ⟨w.heap.size + 1, 4, none⟩ = some (.float .f64 B.z.lo) ∧ w29.cell? ⟨w.heap.size + 1, 5, none⟩ = some (.float .f64 B.z.hi) := ⟨trivial, (K0.out.below D30.out K0.out.lt).cell 0, (K0.out.below D30.out K0.out.lt).cell 1, (K0.out.below D30.out K0.out.lt).cell 2, (K0.out.below D30.out K0.out.lt).cell 3, (K0.out.below D30.out K0.out.lt).cell 4, (K0.out.below D30.out K0.out.lt).cell 5, (K1.out.below D30.out K1.out.lt).cell 0, (K1.out.below D30.out K1.out.lt).cell 1, (K1.out.below D30.out K1.out.lt).cell 2, (K1.out.below D30.out K1.out.lt).cell 3, (K1.out.below D30.out K1.out.lt).cell 4, (K1.out.below D30.out K1.out.lt).cell 5⟩
  refine hK _ _ hS31 ?_
  clear hK K hS22
  refine wpAnyH_oneN (i := 13) (l' := bm 36 16383) rfl (by kernel_rfl) (by kernel_rfl) (by kernel_rfl) (fun K hK => ?_)
  go_simp
  go_at_call 34
  refine (C6.out _).mono ?_
  rintro r w32 ⟨rfl, hb⟩
  dsimp only
  have D33 := Lib.hid (below_step D30.out hb)
  clear D30
  clear hb
  have hS34 : True ∧ w32.cell? ⟨w.heap.size, 0, none⟩ = some (.float .f64 A.x.lo) ∧ w32.cell? ⟨w.heap.size, 1, none⟩ = some (.float .f64 A.x.hi) ∧ w32.cell? ⟨w.heap.size, 2, none⟩ = some (.float .f64 A.y.lo) ∧ w32.cell? ⟨w.heap.size, 3, none⟩ = some (.float .f64 A.y.hi) ∧ w32.cell? ⟨w.heap.size, 4, none⟩ = some (.float .f64 A.z.lo) ∧ w32.cell? ⟨w.heap.size, 5, none⟩ = some (.float .f64 A.z.hi) ∧ w32.cell? ⟨w.heap.size + 1, 0, none⟩ = some (.float .f64 B.x.lo) ∧ w32.cell? ⟨w.heap.size + 1, 1, none⟩ = some (.float .f64 B.x.hi) ∧ w32.cell? ⟨w.heap.size + 1, 2, none⟩ = some (.float .f64 B.y.lo) ∧ w32.cell? ⟨w.heap.size + 1, 3, none⟩ = some (.float .f64 B.y.hi) ∧ w32.cell? ⟨w.heap.size + 1, 4, none⟩ = some (.float .f64 B.z.lo) ∧ w32.cell? ⟨w.heap.size + 1, 5, none⟩ = some (.float .f64 B.z.hi) := ⟨trivial, (K0.out.below D33.out K0.out.lt).cell 0, (K0.out.below D33.out K0.out.lt).cell 1, (K0.out.below D33.out K0.out.lt).cell 2, (K0.out.below D33.out K0.out.lt).cell 3, (K0.out.below D33.out K0.out.lt).cell 4, (K0.out.below D33.out K0.out.lt).cell 5, (K1.out.below D33.out K1.out.lt).cell 0, (K1.out.below D33.out K1.out.lt).cell 1, (K1.out.below D33.out K1.out.lt).cell 2, (K1.out.below D33.out K1.out.lt).cell 3, (K1.out.below D33.out K1.out.lt).cell 4, (K1.out.below D33.out K1.out.lt).cell 5⟩
  refine hK _ _ hS34 ?_
  clear hK K hS31
  refine wpAnyH_oneN (i := 14) (l' := bm 36 32767) rfl (by kernel_rfl) (by kernel_rfl) (by kernel_rfl) (fun K hK => ?_)
  go_simp
  go_at_call 38
  refine (C7.out _).mono ?_
  rintro r w35 ⟨rfl, hb⟩
  dsimp only
  have D36 := Lib.hid (below_step D33.out hb)
  clear D33
  clear hb
  have hS37 : True ∧ w35.cell? ⟨w.heap.size, 0, none⟩ = some (.float .f64 A.x.lo) ∧ w35.cell? ⟨w.heap.size, 1, none⟩ = some (.float .f64 A.x.hi) ∧ w35.cell? ⟨w.heap.size, 2, none⟩ = some (.float .f64 A.y.lo) ∧ w35.cell? ⟨w.heap.size, 3, none⟩ = some (.float .f64 A.y.hi) ∧ w35.cell? ⟨w.heap.size, 4, none⟩ = some (.float .f64 A.z.lo) ∧ w35.cell? ⟨w.heap.size, 5, none⟩ = some (.float .f64 A.z.hi) ∧ w35.cell? ⟨w.heap.size + 1, 0, none⟩ = some (.float .f64 B.x.lo) ∧ w35.cell? ⟨w.heap.size + 1, 1, none⟩ = some (.float .f64 B.x.hi) ∧ w35.cell? ⟨w.heap.size + 1, 2, none⟩ = some (.float .f64 B.y.lo) ∧ w35.cell? ⟨w.heap.size + 1, 3, none⟩ = some (.float .f64 B.y.hi) ∧ w35.cell? ⟨w.heap.size + 1, 4, none⟩ = some (.float .f64 B.z.lo) ∧ w35.cell? ⟨w.heap.size + 1, 5, none⟩ = some (.float .f64 B.z.hi) := ⟨trivial, (K0.out.below D36.out K0.out.lt).cell 0, (K0.out.below D36.out K0.out.lt).cell 1, (K0.out.below D36.out K0.out.lt).cell 2, (K0.out.below D36.out K0.out.lt).cell 3, (K0.out.below D36.out K0.out.lt).cell 4, (K0.out.below D36.out K0.out.lt).cell 5, (K1.out.below D36.out K1.out.lt).cell 0, (K1.out.below D36.out K1.out.lt).cell 1, (K1.out.below D36.out K1.out.lt).cell 2, (K1.out.below D36.out K1.out.lt).cell 3, (K1.out.below D36.out K1.out.lt).cell 4, (K1.out.below D36.out K1.out.lt).cell 5⟩
  refine hK _ _ hS37 ?_
  clear hK K hS34
  refine wpAnyH_takeN (i := 15) (v := ?vq38) (l' := bm 36 65535) (a' := ?aq38) rfl (by kernel_rfl) (by kernel_rfl) (by kernel_rfl) (fun _ _ _ h => h) (Or.inl ⟨by kernel_rfl, ?hq38⟩) (by kernel_rfl) ?pq38 hS37 ?rq38
  case hq38 => (intro w hS; go_simp; try with_reducible rfl)
  case pq38 => (go_simp; try with_reducible rfl)
  refine wpAnyH_takeN (i := 16) (v := ?vq39) (l' := bm 36 131071) (a' := ?aq39) rfl (by kernel_rfl) (by kernel_rfl) (by kernel_rfl) (fun _ _ _ h => h) (Or.inl ⟨by kernel_rfl, ?hq39⟩) (by kernel_rfl) ?pq39 hS37 ?rq39
  case hq39 => (intro w hS; go_simp; try with_reducible rfl)
  case pq39 => (go_simp; try with_reducible rfl)
  refine wpAnyH_takeN (i := 17) (v := ?vq40) (l' := bm 36 262143) (a' := ?aq40) rfl (by kernel_rfl) (by kernel_rfl) (by kernel_rfl) (fun _ _ _ h => h) (Or.inl ⟨by kernel_rfl, ?hq40⟩) (by kernel_rfl) ?pq40 hS37 ?rq40
  case hq40 => (intro w hS; go_simp; try with_reducible rfl)
  case pq40 => (go_simp; try with_reducible rfl)
  refine wpAnyH_takeN (i := 18) (v := ?vq41) (l' := bm 36 524287) (a' := ?aq41) rfl (by kernel_rfl) (by kernel_rfl) (by kernel_rfl) (fun _ _ _ h => h) (Or.inl ⟨by kernel_rfl, ?hq41⟩) (by kernel_rfl) ?pq41 hS37 ?rq41
  case hq41 => (intro w hS; go_simp; try with_reducible rfl)
  case pq41 => (go_simp; try with_reducible rfl)
  refine wpAnyH_takeN (i := 19) (v := ?vq42) (l' := bm 36 1048575) (a' := ?aq42) rfl (by kernel_rfl) (by kernel_rfl) (by kernel_rfl) (fun _ _ _ h => h) (Or.inl ⟨by kernel_rfl, ?hq42⟩) (by kernel_rfl) ?pq42 hS37 ?rq42
  case hq42 => (intro w hS; go_simp; try with_reducible rfl)
  case pq42 => (go_simp; try with_reducible rfl)
  refine wpAnyH_takeN (i := 21) (v := ?vq43) (l' := bm 36 3145727) (a' := ?aq43) rfl (by kernel_rfl) (by kernel_rfl) (by kernel_rfl) (fun _ _ _ h => h) (Or.inl ⟨by kernel_rfl, ?hq43⟩) (by kernel_rfl) ?pq43 hS37 ?rq43
  case hq43 => (intro w hS; go_simp; try with_reducible rfl)
  case pq43 => (go_simp; try with_reducible rfl)
  refine wpAnyH_takeN (i := 22) (v := ?vq44) (l' := bm 36 7340031) (a' := ?aq44) rfl (by kernel_rfl) (by kernel_rfl) (by kernel_rfl) (fun _ _ _ h => h) (Or.inl ⟨by kernel_rfl, ?hq44⟩) (by kernel_rfl) ?pq44 hS37 ?rq44
  case hq44 => (intro w hS; go_simp; try with_reducible rfl)
  case pq44 => (go_simp; try with_reducible rfl)
  refine wpAnyH_oneN (i := 20) (l' := bm 36 8388607) rfl (by kernel_rfl) (by kernel_rfl) (by kernel_rfl) (fun K hK => ?_)
  go_simp
  go_at_call 39
  refine (C8.out _).mono ?_
  rintro r w45 ⟨rfl, hb⟩
  dsimp only
  have D46 := Lib.hid (below_step D36.out hb)
  clear D36
  clear hb
  have hS47 : True ∧ w45.cell? ⟨w.heap.size, 0, none⟩ = some (.float .f64 A.x.lo) ∧ w45.cell? ⟨w.heap.size, 1, none⟩ = some (.float .f64 A.x.hi) ∧ w45.cell? ⟨w.heap.size, 2, none⟩ = some (.float .f64 A.y.lo) ∧ w45.cell? ⟨w.heap.size, 3, none⟩ = some (.float .f64 A.y.hi) ∧ w45.cell? ⟨w.heap.size, 4, none⟩ = some (.float .f64 A.z.lo) ∧ w45.cell? ⟨w.heap.size, 5, none⟩ = some (.float .f64 A.z.hi) ∧ w45.cell? ⟨w.heap.size + 1, 0, none⟩ = some (.float .f64 B.x.lo) ∧ w45.cell? ⟨w.heap.size + 1, 1, none⟩ = some (.float .f64 B.x.hi) ∧ w45.cell? ⟨w.heap.size + 1, 2, none⟩ = some (.float .f64 B.y.lo) ∧ w45.cell? ⟨w.heap.size + 1, 3, none⟩ = some (.float .f64 B.y.hi) ∧ w45.cell? ⟨w.heap.size + 1, 4, none⟩ = some (.float .f64 B.z.lo) ∧ w45.cell? ⟨w.heap.size + 1, 5, none⟩ = some (.float .f64 B.z.hi) := ⟨trivial, (K0.out.below D46.out K0.out.lt).cell 0, (K0.out.below D46.out K0.out.lt).cell 1, (K0.out.below D46.out K0.out.lt).cell 2, (K0.out.below D46.out K0.out.lt).cell 3, (K0.out.below D46.out K0.out.lt).cell 4, (K0.out.below D46.out K0.out.lt).cell 5, (K1.out.below D46.out K1.out.lt).cell 0, (K1.out.below D46.out K1.out.lt).cell 1, (K1.out.below D46.out K1.out.lt).cell 2, (K1.out.below D46.out K1.out.lt).cell 3, (K1.out.below D46.out K1.out.lt).cell 4, (K1.out.below D46.out K1.out.lt).cell 5⟩
  refine hK _ _ hS47 ?_
  clear hK K hS37
  refine wpAnyH_oneN (i := 23) (l' := bm 36 16777215) rfl (by kernel_rfl) (by kernel_rfl) (by kernel_rfl) (fun K hK => ?_)
  go_simp
  go_at_call 39
  refine (C9.out _).mono ?_
  rintro r w48 ⟨rfl, hb⟩
  dsimp only
  have D49 := Lib.hid (below_step D46.out hb)
  clear D46
  clear hb
  have hS50 : True ∧ w48.cell? ⟨w.heap.size, 0, none⟩ = some (.float .f64 A.x.lo) ∧ w48.cell? ⟨w.heap.size, 1, none⟩ = some (.float .f64 A.x.hi) ∧ w48.cell? ⟨w.heap.size, 2, none⟩ = some (.float .f64 A.y.lo) ∧ w48.cell? ⟨w.heap.size, 3, none⟩ = some (.float .f64 A.y.hi) ∧ w48.cell? ⟨w.heap.size, 4, none⟩ = some (.float .f64 A.z.lo) ∧ w48.cell? ⟨w.heap.size, 5, none⟩ = some (.float .f64 A.z.hi) ∧ w48.cell? ⟨w.heap.size + 1, 0, none⟩ = some (.float .f64 B.x.lo) ∧ w48.cell? ⟨w.heap.size + 1, 1, none⟩ = some (.float .f64 B.x.hi) ∧ w48.cell? ⟨w.heap.size + 1, 2, none⟩ = some (.float .f64 B.y.lo) ∧ w48.cell? ⟨w.heap.size + 1, 3, none⟩ = some (.float .f64 B.y.hi) ∧ w48.cell? ⟨w.heap.size + 1, 4, none⟩ = some (.float .f64 B.z.lo) ∧ w48.cell? ⟨w.heap.size + 1, 5, none⟩ = some (.float .f64 B.z.hi) := ⟨trivial, (K0.out.below D49.out K0.out.lt).cell 0, (K0.out.below D49.out K0.out.lt).cell 1, (K0.out.below D49.out K0.out.lt).cell 2, (K0.out.below D49.out K0.out.lt).cell 3, (K0.out.below D49.out K0.out.lt).cell 4, (K0.out.below D49.out K0.out.lt).cell 5, (K1.out.below D49.out K1.out.lt).cell 0, (K1.out.below D49.out K1.out.lt).cell 1, (K1.out.below D49.out K1.out.lt).cell 2, (K1.out.below D49.out K1.out.lt).cell 3, (K1.out.below D49.out K1.out.lt).cell 4, (K1.out.below D49.out K1.out.lt).cell 5⟩
  refine hK _ _ hS50 ?_
  clear hK K hS47
  refine wpAnyH_takeN (i := 24) (v := ?vq51) (l' := bm 36 33554431) (a' := ?aq51) rfl (by kernel_rfl) (by kernel_rfl) (by kernel_rfl) (fun _ _ _ h => h) (Or.inl ⟨by kernel_rfl, ?hq51⟩) (by kernel_rfl) ?pq51 hS50 ?rq51
  case hq51 => (intro w hS; go_simp; try with_reducible rfl)
  case pq51 => (go_simp; try with_reducible rfl)
  refine wpAnyH_takeN (i := 25) (v := ?vq52) (l' := bm 36 67108863) (a' := ?aq52) rfl (by kernel_rfl) (by kernel_rfl) (by kernel_rfl) (fun _ _ _ h => h) (Or.inl ⟨by kernel_rfl, ?hq52⟩) (by kernel_rfl) ?pq52 hS50 ?rq52
  case hq52 => (intro w hS; go_simp; try with_reducible rfl)
  case pq52 => (go_simp; try with_reducible rfl)
  refine wpAnyH_takeN (i := 26) (v := ?vq53) (l' := bm 36 134217727) (a' := ?aq53) rfl (by kernel_rfl) (by kernel_rfl) (by kernel_rfl) (fun _ _ _ h => h) (Or.inl ⟨by kernel_rfl, ?hq53⟩) (by kernel_rfl) ?pq53 hS50 ?rq53
  case hq53 => (intro w hS; go_simp; try with_reducible rfl)
  case pq53 => (go_simp; try with_reducible rfl)
  refine wpAnyH_takeN (i := 27) (v := ?vq54) (l' := bm 36 268435455) (a' := ?aq54) rfl (by kernel_rfl) (by kernel_rfl) (by kernel_rfl) (fun _ _ _ h => h) (Or.inl ⟨by kernel_rfl, ?hq54⟩) (by kernel_rfl) ?pq54 hS50 ?rq54
  case hq54 => (intro w hS; go_simp; try with_reducible rfl)
  case pq54 => (go_simp; try with_reducible rfl)
  refine wpAnyH_takeN (i := 28) (v := ?vq55) (l' := bm 36 536870911) (a' := ?aq55) rfl (by kernel_rfl) (by kernel_rfl) (by kernel_rfl) (fun _ _ _ h => h) (Or.inl ⟨by kernel_rfl, ?hq55⟩) (by kernel_rfl) ?pq55 hS50 ?rq55
  case hq55 => (intro w hS; go_simp; try with_reducible rfl)
  case pq55 => (go_simp; try with_reducible rfl)
  refine wpAnyH_takeN (i := 30) (v := ?vq56) (l' := bm 36 1610612735) (a' := ?aq56) rfl (by kernel_rfl) (by kernel_rfl) (by kernel_rfl) (fun _ _ _ h => h) (Or.inl ⟨by kernel_rfl, ?hq56⟩) (by kernel_rfl) ?pq56 hS50 ?rq56
  case hq56 => (intro w hS; go_simp; try with_reducible rfl)
  case pq56 => (go_simp; try with_reducible rfl)
  refine wpAnyH_takeN (i := 31) (v := ?vq57) (l' := bm 36 3758096383) (a' := ?aq57) rfl (by kernel_rfl) (by kernel_rfl) (by kernel_rfl) (fun _ _ _ h => h) (Or.inl ⟨by kernel_rfl, ?hq57⟩) (by kernel_rfl) ?pq57 hS50 ?rq57
  case hq57 => (intro w hS; go_simp; try with_reducible rfl)
  case pq57 => (go_simp; try with_reducible rfl)
  refine wpAnyH_oneN (i := 29) (l' := bm 36 4294967295) rfl (by kernel_rfl) (by kernel_rfl) (by kernel_rfl) (fun K hK => ?_)
  go_simp
  go_at_call 40
  refine (C10.out _).mono ?_
  rintro r w58 ⟨rfl, hb⟩
  dsimp only
  have D59 := Lib.hid (below_step D49.out hb)
  clear D49
  clear hb
  have hS60 : True ∧ w58.cell? ⟨w.heap.size, 0, none⟩ = some (.float .f64 A.x.lo) ∧ w58.cell? ⟨w.heap.size, 1, none⟩ = some (.float .f64 A.x.hi) ∧ w58.cell? ⟨w.heap.size, 2, none⟩ = some (.float .f64 A.y.lo) ∧ w58.cell? ⟨w.heap.size, 3, none⟩ = some (.float .f64 A.y.hi) ∧ w58.cell? ⟨w.heap.size, 4, none⟩ = some (.float .f64 A.z.lo) ∧ w58.cell? ⟨w.heap.size, 5, none⟩ = some (.float .f64 A.z.hi) ∧ w58.cell? ⟨w.heap.size + 1, 0, none⟩ = some (.float .f64 B.x.lo) ∧ w58.cell? ⟨w.heap.size + 1, 1, none⟩ = some (.float .f64 B.x.hi) ∧ w58.cell? ⟨w.heap.size + 1, 2, none⟩ = some (.float .f64 B.y.lo) ∧ w58.cell? ⟨w.heap.size + 1, 3, none⟩ = some (.float .f64 B.y.hi) ∧ w58.cell? ⟨w.heap.size + 1, 4, none⟩ = some (.float .f64 B.z.lo) ∧ w58.cell? ⟨w.heap.size + 1, 5, none⟩ = some (.float .f64 B.z.hi) := ⟨trivial, (K0.out.below D59.out K0.out.lt).cell 0, (K0.out.below D59.out K0.out.lt).cell 1, (K0.out.below D59.out K0.out.lt).cell 2, (K0.out.below D59.out K0.out.lt).cell 3, (K0.out.below D59.out K0.out.lt).cell 4, (K0.out.below D59.out K0.out.lt).cell 5, (K1.out.below D59.out K1.out.lt).cell 0, (K1.out.below D59.out K1.out.lt).cell 1, (K1.out.below D59.out K1.out.lt).cell 2, (K1.out.below D59.out K1.out.lt).cell 3, (K1.out.below D59.out K1.out.lt).cell 4, (K1.out.below D59.out K1.out.lt).cell 5⟩
  refine hK _ _ hS60 ?_
  clear hK K hS50
  refine wpAnyH_oneN (i := 32) (l' := bm 36 8589934591) rfl (by kernel_rfl) (by kernel_rfl) (by kernel_rfl) (fun K hK => ?_)
  go_simp
  go_at_call 40
  refine (C11.out _).mono ?_
  rintro r w61 ⟨rfl, hb⟩
  dsimp only
  have D62 := Lib.hid (below_step D59.out hb)
  clear D59
  clear hb
  have hS63 : True ∧ w61.cell? ⟨w.heap.size, 0, none⟩ = some (.float .f64 A.x.lo) ∧ w61.cell? ⟨w.heap.size, 1, none⟩ = some (.float .f64 A.x.hi) ∧ w61.cell? ⟨w.heap.size, 2, none⟩ = some (.float .f64 A.y.lo) ∧ w61.cell? ⟨w.heap.size, 3, none⟩ = some (.float .f64 A.y.hi) ∧ w61.cell? ⟨w.heap.size, 4, none⟩ = some (.float .f64 A.z.lo) ∧ w61.cell? ⟨w.heap.size, 5, none⟩ = some (.float .f64 A.z.hi) ∧ w61.cell? ⟨w.heap.size + 1, 0, none⟩ = some (.float .f64 B.x.lo) ∧ w61.cell? ⟨w.heap.size + 1, 1, none⟩ = some (.float .f64 B.x.hi) ∧ w61.cell? ⟨w.heap.size + 1, 2, none⟩ = some (.float .f64 B.y.lo) ∧ w61.cell? ⟨w.heap.size + 1, 3, none⟩ = some (.float .f64 B.y.hi) ∧ w61.cell? ⟨w.heap.size + 1, 4, none⟩ = some (.float .f64 B.z.lo) ∧ w61.cell? ⟨w.heap.size + 1, 5, none⟩ = some (.float .f64 B.z.hi) := ⟨trivial, (K0.out.below D62.out K0.out.lt).cell 0, (K0.out.below D62.out K0.out.lt).cell 1, (K0.out.below D62.out K0.out.lt).cell 2, (K0.out.below D62.out K0.out.lt).cell 3, (K0.out.below D62.out K0.out.lt).cell 4, (K0.out.below D62.out K0.out.lt).cell 5, (K1.out.below D62.out K1.out.lt).cell 0, (K1.out.below D62.out K1.out.lt).cell 1, (K1.out.below D62.out K1.out.lt).cell 2, (K1.out.below D62.out K1.out.lt).cell 3, (K1.out.below D62.out K1.out.lt).cell 4, (K1.out.below D62.out K1.out.lt).cell 5⟩
  refine hK _ _ hS63 ?_
  clear hK K hS60
  refine wpAnyH_takeN (i := 33) (v := ?vq64) (l' := bm 36 17179869183) (a' := ?aq64) rfl (by kernel_rfl) (by kernel_rfl) (by kernel_rfl) (fun _ _ _ h => h) (Or.inl ⟨by kernel_rfl, ?hq64⟩) (by kernel_rfl) ?pq64 hS63 ?rq64
  case hq64 => (intro w hS; go_simp; try with_reducible rfl)
  case pq64 => (go_simp; try with_reducible rfl)
  refine wpAnyH_takeN (i := 34) (v := ?vq65) (l' := bm 36 34359738367) (a' := ?aq65) rfl (by kernel_rfl) (by kernel_rfl) (by kernel_rfl) (fun _ _ _ h => h) (Or.inl ⟨by kernel_rfl, ?hq65⟩) (by kernel_rfl) ?pq65 hS63 ?rq65
  case hq65 => (intro w hS; go_simp; try with_reducible rfl)
  case pq65 => (go_simp; try with_reducible rfl)
  refine wpAnyH_takeN (i := 35) (v := ?vq66) (l' := bm 36 68719476735) (a' := ?aq66) rfl (by kernel_rfl) (by kernel_rfl) (by kernel_rfl) (fun _ _ _ h => h) (Or.inl ⟨by kernel_rfl, ?hq66⟩) (by kernel_rfl) ?pq66 hS63 ?rq66
  case hq66 => (intro w hS; go_simp; try with_reducible rfl)
  case pq66 => (go_simp; try with_reducible rfl)
  refine wpAnyH_done (by kernel_rfl) ?_ _
  clear hS63
  go_wp2_with fail
  go_ret
  exact ⟨rfl, below_step HB.out D62.out⟩
theorem walk_vecSwaps (a0 a1 a2 a3 a4 a5 b0 b1 b2 b3 b4 b5 : Nat) (ha0 : a0 < 18446744073709551616) (ha1 : a1 < 18446744073709551616) (ha2 : a2 < 18446744073709551616) (ha3 : a3 < 18446744073709551616) (ha4 : a4 < 18446744073709551616) (ha5 : a5 < 18446744073709551616) (hb0 : b0 < 18446744073709551616) (hb1 : b1 < 18446744073709551616) (hb2 : b2 < 18446744073709551616) (hb3 : b3 < 18446744073709551616) (hb4 : b4 < 18446744073709551616) (hb5 : b5 < 18446744073709551616)  (w : World) : Calls Try.prog 7 #[.agg #[.float .f64 a0, .float .f64 a1, .float .f64 a2, .float .f64 a3, .float .f64 a4, .float .f64 a5], .agg #[.float .f64 b0, .float .f64 b1, .float .f64 b2, .float .f64 b3, .float .f64 b4, .float .f64 b5]] w fun r w' => r = .returned (.bool true) ∧ Below w.heap.size w w' := by
  cases va : vdV a0 a1 a2 a3 a4 a5
  · exact vecSwaps_n1 a0 a1 a2 a3 a4 a5 b0 b1 b2 b3 b4 b5 ha0 ha1 ha2 ha3 ha4 ha5 hb0 hb1 hb2 hb3 hb4 hb5  va w
  · cases vb : vdV b0 b1 b2 b3 b4 b5
    · exact vecSwaps_n2 a0 a1 a2 a3 a4 a5 b0 b1 b2 b3 b4 b5 ha0 ha1 ha2 ha3 ha4 ha5 hb0 hb1 hb2 hb3 hb4 hb5  va vb w
    · obtain ⟨A, rfl, rfl, rfl, rfl, rfl, rfl⟩ := v3_of ha0 ha1 ha2 ha3 ha4 ha5 va
      obtain ⟨B, rfl, rfl, rfl, rfl, rfl, rfl⟩ := v3_of hb0 hb1 hb2 hb3 hb4 hb5 vb
      exact vecSwaps_y A B w
end Go.Proofs.Ytdgaaceebghcpaa
