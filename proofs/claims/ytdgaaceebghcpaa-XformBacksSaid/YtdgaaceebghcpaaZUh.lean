/- The walk of XformBacks (gen_uc.py). -/
import Derived.Test.YtdgaaceebghcpaaZUf
import Derived.Test.YtdgaaceebghcpaaZUg
set_option linter.unusedVariables false
set_option linter.unusedSimpArgs false
namespace Go.Proofs.Ytdgaaceebghcpaa
open Go.RowKit Fl

set_option maxRecDepth 100000 in
set_option maxHeartbeats 8000000 in
theorem xformBacks_n0 (a0 a1 a2 a3 a4 a5 a6 a7 a8 a9 a10 a11 a12 a13 a14 a15 a16 a17 a18 a19 a20 a21 a22 a23 p q r : Nat) (ha0 : a0 < 18446744073709551616) (ha1 : a1 < 18446744073709551616) (ha2 : a2 < 18446744073709551616) (ha3 : a3 < 18446744073709551616) (ha4 : a4 < 18446744073709551616) (ha5 : a5 < 18446744073709551616) (ha6 : a6 < 18446744073709551616) (ha7 : a7 < 18446744073709551616) (ha8 : a8 < 18446744073709551616) (ha9 : a9 < 18446744073709551616) (ha10 : a10 < 18446744073709551616) (ha11 : a11 < 18446744073709551616) (ha12 : a12 < 18446744073709551616) (ha13 : a13 < 18446744073709551616) (ha14 : a14 < 18446744073709551616) (ha15 : a15 < 18446744073709551616) (ha16 : a16 < 18446744073709551616) (ha17 : a17 < 18446744073709551616) (ha18 : a18 < 18446744073709551616) (ha19 : a19 < 18446744073709551616) (ha20 : a20 < 18446744073709551616) (ha21 : a21 < 18446744073709551616) (ha22 : a22 < 18446744073709551616) (ha23 : a23 < 18446744073709551616) (hp : p < 18446744073709551616) (hq : q < 18446744073709551616) (hr : r < 18446744073709551616) (v0 : vdA a0 a1 a2 a3 a4 a5 a6 a7 a8 a9 a10 a11 a12 a13 a14 a15 a16 a17 a18 a19 a20 a21 a22 a23 = false) (w : World) : Calls Try.prog 5 #[Value.agg #[.float .f64 a0, .float .f64 a1, .float .f64 a2, .float .f64 a3, .float .f64 a4, .float .f64 a5, .float .f64 a6, .float .f64 a7, .float .f64 a8, .float .f64 a9, .float .f64 a10, .float .f64 a11, .float .f64 a12, .float .f64 a13, .float .f64 a14, .float .f64 a15, .float .f64 a16, .float .f64 a17, .float .f64 a18, .float .f64 a19, .float .f64 a20, .float .f64 a21, .float .f64 a22, .float .f64 a23], Value.agg #[.float .f64 p, .float .f64 q, .float .f64 r]] w fun r w' => r = .returned (.bool true) ∧ Below w.heap.size w w' := by
  have C0 := Lib.hid (awake4)
  have C1 := Lib.hid (fun w => rvalidA_any a0 a1 a2 a3 a4 a5 a6 a7 a8 a9 a10 a11 a12 a13 a14 a15 a16 a17 a18 a19 a20 a21 a22 a23 ha0 ha1 ha2 ha3 ha4 ha5 ha6 ha7 ha8 ha9 ha10 ha11 ha12 ha13 ha14 ha15 ha16 ha17 ha18 ha19 ha20 ha21 ha22 ha23 w)
  rw [v0] at C1
  go_enter Try.func5, Try.ntmps5
  go_wp2_with fail
  obtain ⟨W, hW, K0, K1, hB, hz⟩ := bx2 w 29 38 #[.float .f64 a0, .float .f64 a1, .float .f64 a2, .float .f64 a3, .float .f64 a4, .float .f64 a5, .float .f64 a6, .float .f64 a7, .float .f64 a8, .float .f64 a9, .float .f64 a10, .float .f64 a11, .float .f64 a12, .float .f64 a13, .float .f64 a14, .float .f64 a15, .float .f64 a16, .float .f64 a17, .float .f64 a18, .float .f64 a19, .float .f64 a20, .float .f64 a21, .float .f64 a22, .float .f64 a23] #[.float .f64 p, .float .f64 q, .float .f64 r]
  rw [← hW]
  have K0 := Lib.hid K0
  have K1 := Lib.hid K1
  have HB := Lib.hid hB
  clear hW hB hz
  have D1 := dr W
  refine (C0.out _).mono ?_
  rintro r w2 ⟨rfl, hb⟩
  have D3 := ds D1 hb
  clear D1
  clear hb
  have f4 := (kb K0 D3)
  go_wp2_with (refine wl_load (by kernel_rfl) rfl rfl f4 (by rw [info_Affine]; rfl) Try.underlying29 rfl ?_)
  clear f4
  refine (C1.out _).mono ?_
  rintro r w5 ⟨rfl, hb⟩
  have D6 := ds D3 hb
  clear D3
  clear hb
  go_wp2_with fail
  go_ret
  exact ⟨rfl, below_step HB.out D6.out⟩
set_option maxRecDepth 100000 in
set_option maxHeartbeats 8000000 in
theorem xformBacks_n1 (a0 a1 a2 a3 a4 a5 a6 a7 a8 a9 a10 a11 a12 a13 a14 a15 a16 a17 a18 a19 a20 a21 a22 a23 p q r : Nat) (ha0 : a0 < 18446744073709551616) (ha1 : a1 < 18446744073709551616) (ha2 : a2 < 18446744073709551616) (ha3 : a3 < 18446744073709551616) (ha4 : a4 < 18446744073709551616) (ha5 : a5 < 18446744073709551616) (ha6 : a6 < 18446744073709551616) (ha7 : a7 < 18446744073709551616) (ha8 : a8 < 18446744073709551616) (ha9 : a9 < 18446744073709551616) (ha10 : a10 < 18446744073709551616) (ha11 : a11 < 18446744073709551616) (ha12 : a12 < 18446744073709551616) (ha13 : a13 < 18446744073709551616) (ha14 : a14 < 18446744073709551616) (ha15 : a15 < 18446744073709551616) (ha16 : a16 < 18446744073709551616) (ha17 : a17 < 18446744073709551616) (ha18 : a18 < 18446744073709551616) (ha19 : a19 < 18446744073709551616) (ha20 : a20 < 18446744073709551616) (ha21 : a21 < 18446744073709551616) (ha22 : a22 < 18446744073709551616) (ha23 : a23 < 18446744073709551616) (hp : p < 18446744073709551616) (hq : q < 18446744073709551616) (hr : r < 18446744073709551616) (v0 : vdA a0 a1 a2 a3 a4 a5 a6 a7 a8 a9 a10 a11 a12 a13 a14 a15 a16 a17 a18 a19 a20 a21 a22 a23 = true) (v1 : nmB p q r = false) (w : World) : Calls Try.prog 5 #[Value.agg #[.float .f64 a0, .float .f64 a1, .float .f64 a2, .float .f64 a3, .float .f64 a4, .float .f64 a5, .float .f64 a6, .float .f64 a7, .float .f64 a8, .float .f64 a9, .float .f64 a10, .float .f64 a11, .float .f64 a12, .float .f64 a13, .float .f64 a14, .float .f64 a15, .float .f64 a16, .float .f64 a17, .float .f64 a18, .float .f64 a19, .float .f64 a20, .float .f64 a21, .float .f64 a22, .float .f64 a23], Value.agg #[.float .f64 p, .float .f64 q, .float .f64 r]] w fun r w' => r = .returned (.bool true) ∧ Below w.heap.size w w' := by
  have C0 := Lib.hid (awake4)
  have C1 := Lib.hid (fun w => rvalidA_any a0 a1 a2 a3 a4 a5 a6 a7 a8 a9 a10 a11 a12 a13 a14 a15 a16 a17 a18 a19 a20 a21 a22 a23 ha0 ha1 ha2 ha3 ha4 ha5 ha6 ha7 ha8 ha9 ha10 ha11 ha12 ha13 ha14 ha15 ha16 ha17 ha18 ha19 ha20 ha21 ha22 ha23 w)
  rw [v0] at C1
  have C2 := Lib.hid (fun w => rnumbers_any p q r hp hq hr w)
  rw [v1] at C2
  go_enter Try.func5, Try.ntmps5
  go_wp2_with fail
  obtain ⟨W, hW, K0, K1, hB, hz⟩ := bx2 w 29 38 #[.float .f64 a0, .float .f64 a1, .float .f64 a2, .float .f64 a3, .float .f64 a4, .float .f64 a5, .float .f64 a6, .float .f64 a7, .float .f64 a8, .float .f64 a9, .float .f64 a10, .float .f64 a11, .float .f64 a12, .float .f64 a13, .float .f64 a14, .float .f64 a15, .float .f64 a16, .float .f64 a17, .float .f64 a18, .float .f64 a19, .float .f64 a20, .float .f64 a21, .float .f64 a22, .float .f64 a23] #[.float .f64 p, .float .f64 q, .float .f64 r]
  rw [← hW]
  have K0 := Lib.hid K0
  have K1 := Lib.hid K1
  have HB := Lib.hid hB
  clear hW hB hz
  have D1 := dr W
  refine (C0.out _).mono ?_
  rintro r w2 ⟨rfl, hb⟩
  have D3 := ds D1 hb
  clear D1
  clear hb
  have f4 := (kb K0 D3)
  go_wp2_with (refine wl_load (by kernel_rfl) rfl rfl f4 (by rw [info_Affine]; rfl) Try.underlying29 rfl ?_)
  clear f4
  refine (C1.out _).mono ?_
  rintro r w5 ⟨rfl, hb⟩
  have D6 := ds D3 hb
  clear D3
  clear hb
  have hq7 := (kb K1 D6).cellsL 0 [.float .f64 p, .float .f64 q, .float .f64 r] rfl
  dsimp only [CellsL, al, vl, Nat.reduceAdd] at hq7
  go_wp2_with fail
  clear hq7
  refine (C2.out _).mono ?_
  rintro r w8 ⟨rfl, hb⟩
  have D9 := ds D6 hb
  clear D6
  clear hb
  go_wp2_with fail
  go_ret
  exact ⟨rfl, below_step HB.out D9.out⟩
set_option maxRecDepth 100000 in
set_option maxHeartbeats 8000000 in
theorem xformBacks_h (M : Af) (p q r : Nat) (hp : p < 18446744073709551616) (hq : q < 18446744073709551616) (hr : r < 18446744073709551616) (hn : nmB p q r = true) (h1 : has0 (afDet M) = true) (w : World) : Calls Try.prog 5 #[Value.agg #[.float .f64 M.a.x.lo, .float .f64 M.a.x.hi, .float .f64 M.a.y.lo, .float .f64 M.a.y.hi, .float .f64 M.a.z.lo, .float .f64 M.a.z.hi, .float .f64 M.b.x.lo, .float .f64 M.b.x.hi, .float .f64 M.b.y.lo, .float .f64 M.b.y.hi, .float .f64 M.b.z.lo, .float .f64 M.b.z.hi, .float .f64 M.c.x.lo, .float .f64 M.c.x.hi, .float .f64 M.c.y.lo, .float .f64 M.c.y.hi, .float .f64 M.c.z.lo, .float .f64 M.c.z.hi, .float .f64 M.t.x.lo, .float .f64 M.t.x.hi, .float .f64 M.t.y.lo, .float .f64 M.t.y.hi, .float .f64 M.t.z.lo, .float .f64 M.t.z.hi], Value.agg #[.float .f64 p, .float .f64 q, .float .f64 r]] w fun r w' => r = .returned (.bool true) ∧ Below w.heap.size w w' := by
  have C0 := Lib.hid (awake4)
  have C1 := Lib.hid (fun w => rvalidA_a M w)
  have C2 := Lib.hid (fun w => rnumbers_any p q r hp hq hr w)
  rw [hn] at C2
  have C3 := Lib.hid (fun w => backA_h M h1 w)
  have C4 := Lib.hid (fun w => requalA_self zeroA w)
  simp only [zeroS_lo, zeroS_hi, zeroV_x, zeroV_y, zeroV_z, zeroA_a, zeroA_b, zeroA_c, zeroA_t] at C4
  go_enter Try.func5, Try.ntmps5
  go_wp2_with fail
  obtain ⟨W, hW, K0, K1, hB, hz⟩ := bx2 w 29 38 (ac M) #[.float .f64 p, .float .f64 q, .float .f64 r]
  rw [← hW]
  have K0 := Lib.hid K0
  have K1 := Lib.hid K1
  have HB := Lib.hid hB
  clear hW hB hz
  have D1 := dr W
  refine (C0.out _).mono ?_
  rintro r w2 ⟨rfl, hb⟩
  have D3 := ds D1 hb
  clear D1
  clear hb
  have f4 := (kb K0 D3)
  go_wp2_with (refine wl_load (by kernel_rfl) rfl rfl f4 (by rw [info_Affine]; rfl) Try.underlying29 rfl ?_)
  clear f4
  refine (C1.out _).mono ?_
  rintro r w5 ⟨rfl, hb⟩
  have D6 := ds D3 hb
  clear D3
  clear hb
  have hq7 := (kb K1 D6).cellsL 0 [.float .f64 p, .float .f64 q, .float .f64 r] rfl
  dsimp only [CellsL, al, vl, Nat.reduceAdd] at hq7
  go_wp2_with fail
  clear hq7
  refine (C2.out _).mono ?_
  rintro r w8 ⟨rfl, hb⟩
  have D9 := ds D6 hb
  clear D6
  clear hb
  have f10 := (kb K0 D9)
  go_wp2_with (refine wl_load (by kernel_rfl) rfl rfl f10 (by rw [info_Affine]; rfl) Try.underlying29 rfl ?_)
  clear f10
  refine (C3.out _).mono ?_
  rintro r w11 ⟨rfl, hb⟩
  have D12 := ds D9 hb
  clear D9
  clear hb
  obtain ⟨g13, hg15⟩ : ∃ g, w11.heap.size = g := ⟨_, rfl⟩
  have Y17 := Lib.hid (show w.heap.size < g13 ∧ w.heap.size + 1 < g13 by rw [← hg15]; exact ⟨(kb K0 D12).lt, (kb K1 D12).lt⟩)
  obtain ⟨V14, hV16⟩ : ∃ V, w11.alloc (.cells #[.float .f64 0, .float .f64 0, .float .f64 0, .float .f64 0, .float .f64 0, .float .f64 0, .float .f64 0, .float .f64 0, .float .f64 0, .float .f64 0, .float .f64 0, .float .f64 0, .float .f64 0, .float .f64 0, .float .f64 0, .float .f64 0, .float .f64 0, .float .f64 0, .float .f64 0, .float .f64 0, .float .f64 0, .float .f64 0, .float .f64 0, .float .f64 0] 29) = V := ⟨_, rfl⟩
  have K18 := ka hV16 K0 D12
  have K19 := ka hV16 K1 D12
  have K20 := kn hV16 hg15
  have HB21 := hba hV16 HB D12
  have D22 := dr V14
  clear K0 K1 HB D12
  have f25 := (kb K20 D22)
  obtain ⟨V23, hV24⟩ : ∃ V, World.setRow V14 (g13) #[.float .f64 0, .float .f64 0, .float .f64 0, .float .f64 0, .float .f64 0, .float .f64 0, .float .f64 0, .float .f64 0, .float .f64 0, .float .f64 0, .float .f64 0, .float .f64 0, .float .f64 0, .float .f64 0, .float .f64 0, .float .f64 0, .float .f64 0, .float .f64 0, .float .f64 0, .float .f64 0, .float .f64 0, .float .f64 0, .float .f64 0, .float .f64 0] = V := ⟨_, rfl⟩
  have K26 := kfr hV24 K18 D22 (by have := Y17.out; omega)
  have K27 := kfr hV24 K19 D22 (by have := Y17.out; omega)
  have K28 := ksr hV24 K20 D22
  have HB29 := hbr hV24 HB21 D22 (by have := Y17.out; omega)
  have D30 := dr V23
  clear K18 K19 K20 HB21 D22
  have f31 := (kb K28 D30)
  go_wp2_with (first | (refine wpList_store_row rfl 29 _ _ rfl (g13) #[.float .f64 0, .float .f64 0, .float .f64 0, .float .f64 0, .float .f64 0, .float .f64 0, .float .f64 0, .float .f64 0, .float .f64 0, .float .f64 0, .float .f64 0, .float .f64 0, .float .f64 0, .float .f64 0, .float .f64 0, .float .f64 0, .float .f64 0, .float .f64 0, .float .f64 0, .float .f64 0, .float .f64 0, .float .f64 0, .float .f64 0, .float .f64 0] rfl rfl _ _ f25 (by rw [info_Affine]; rfl) rfl (by kernel_rfl) ?_; rw [hV24]) | (refine wl_load (by kernel_rfl) rfl rfl f31 (by rw [info_Affine]; rfl) Try.underlying29 rfl ?_))
  clear hg15 hV16 hV24 f25 f31
  refine (C4.out _).mono ?_
  rintro r w32 ⟨rfl, hb⟩
  have D33 := ds D30 hb
  clear D30
  clear hb
  go_wp2_with fail
  go_ret
  exact ⟨rfl, below_step HB29.out D33.out⟩
set_option maxRecDepth 100000 in
set_option maxHeartbeats 8000000 in
theorem xformBacks_w (M : Af) (p q r : Nat) (hp : p < 18446744073709551616) (hq : q < 18446744073709551616) (hr : r < 18446744073709551616) (hn : nmB p q r = true) (h1 : has0 (afDet M) = false) (h2 : (afDet M).wide = true) (w : World) : Calls Try.prog 5 #[Value.agg #[.float .f64 M.a.x.lo, .float .f64 M.a.x.hi, .float .f64 M.a.y.lo, .float .f64 M.a.y.hi, .float .f64 M.a.z.lo, .float .f64 M.a.z.hi, .float .f64 M.b.x.lo, .float .f64 M.b.x.hi, .float .f64 M.b.y.lo, .float .f64 M.b.y.hi, .float .f64 M.b.z.lo, .float .f64 M.b.z.hi, .float .f64 M.c.x.lo, .float .f64 M.c.x.hi, .float .f64 M.c.y.lo, .float .f64 M.c.y.hi, .float .f64 M.c.z.lo, .float .f64 M.c.z.hi, .float .f64 M.t.x.lo, .float .f64 M.t.x.hi, .float .f64 M.t.y.lo, .float .f64 M.t.y.hi, .float .f64 M.t.z.lo, .float .f64 M.t.z.hi], Value.agg #[.float .f64 p, .float .f64 q, .float .f64 r]] w fun r w' => r = .returned (.bool true) ∧ Below w.heap.size w w' := by
  have C0 := Lib.hid (awake4)
  have C1 := Lib.hid (fun w => rvalidA_a M w)
  have C2 := Lib.hid (fun w => rnumbers_any p q r hp hq hr w)
  rw [hn] at C2
  have C3 := Lib.hid (fun w => backA_w M h1 h2 w)
  have C4 := Lib.hid (fun w => requalA_self zeroA w)
  simp only [zeroS_lo, zeroS_hi, zeroV_x, zeroV_y, zeroV_z, zeroA_a, zeroA_b, zeroA_c, zeroA_t] at C4
  go_enter Try.func5, Try.ntmps5
  go_wp2_with fail
  obtain ⟨W, hW, K0, K1, hB, hz⟩ := bx2 w 29 38 (ac M) #[.float .f64 p, .float .f64 q, .float .f64 r]
  rw [← hW]
  have K0 := Lib.hid K0
  have K1 := Lib.hid K1
  have HB := Lib.hid hB
  clear hW hB hz
  have D1 := dr W
  refine (C0.out _).mono ?_
  rintro r w2 ⟨rfl, hb⟩
  have D3 := ds D1 hb
  clear D1
  clear hb
  have f4 := (kb K0 D3)
  go_wp2_with (refine wl_load (by kernel_rfl) rfl rfl f4 (by rw [info_Affine]; rfl) Try.underlying29 rfl ?_)
  clear f4
  refine (C1.out _).mono ?_
  rintro r w5 ⟨rfl, hb⟩
  have D6 := ds D3 hb
  clear D3
  clear hb
  have hq7 := (kb K1 D6).cellsL 0 [.float .f64 p, .float .f64 q, .float .f64 r] rfl
  dsimp only [CellsL, al, vl, Nat.reduceAdd] at hq7
  go_wp2_with fail
  clear hq7
  refine (C2.out _).mono ?_
  rintro r w8 ⟨rfl, hb⟩
  have D9 := ds D6 hb
  clear D6
  clear hb
  have f10 := (kb K0 D9)
  go_wp2_with (refine wl_load (by kernel_rfl) rfl rfl f10 (by rw [info_Affine]; rfl) Try.underlying29 rfl ?_)
  clear f10
  refine (C3.out _).mono ?_
  rintro r w11 ⟨rfl, hb⟩
  have D12 := ds D9 hb
  clear D9
  clear hb
  obtain ⟨g13, hg15⟩ : ∃ g, w11.heap.size = g := ⟨_, rfl⟩
  have Y17 := Lib.hid (show w.heap.size < g13 ∧ w.heap.size + 1 < g13 by rw [← hg15]; exact ⟨(kb K0 D12).lt, (kb K1 D12).lt⟩)
  obtain ⟨V14, hV16⟩ : ∃ V, w11.alloc (.cells #[.float .f64 0, .float .f64 0, .float .f64 0, .float .f64 0, .float .f64 0, .float .f64 0, .float .f64 0, .float .f64 0, .float .f64 0, .float .f64 0, .float .f64 0, .float .f64 0, .float .f64 0, .float .f64 0, .float .f64 0, .float .f64 0, .float .f64 0, .float .f64 0, .float .f64 0, .float .f64 0, .float .f64 0, .float .f64 0, .float .f64 0, .float .f64 0] 29) = V := ⟨_, rfl⟩
  have K18 := ka hV16 K0 D12
  have K19 := ka hV16 K1 D12
  have K20 := kn hV16 hg15
  have HB21 := hba hV16 HB D12
  have D22 := dr V14
  clear K0 K1 HB D12
  have f25 := (kb K20 D22)
  obtain ⟨V23, hV24⟩ : ∃ V, World.setRow V14 (g13) #[.float .f64 0, .float .f64 0, .float .f64 0, .float .f64 0, .float .f64 0, .float .f64 0, .float .f64 0, .float .f64 0, .float .f64 0, .float .f64 0, .float .f64 0, .float .f64 0, .float .f64 0, .float .f64 0, .float .f64 0, .float .f64 0, .float .f64 0, .float .f64 0, .float .f64 0, .float .f64 0, .float .f64 0, .float .f64 0, .float .f64 0, .float .f64 0] = V := ⟨_, rfl⟩
  have K26 := kfr hV24 K18 D22 (by have := Y17.out; omega)
  have K27 := kfr hV24 K19 D22 (by have := Y17.out; omega)
  have K28 := ksr hV24 K20 D22
  have HB29 := hbr hV24 HB21 D22 (by have := Y17.out; omega)
  have D30 := dr V23
  clear K18 K19 K20 HB21 D22
  have f31 := (kb K28 D30)
  go_wp2_with (first | (refine wpList_store_row rfl 29 _ _ rfl (g13) #[.float .f64 0, .float .f64 0, .float .f64 0, .float .f64 0, .float .f64 0, .float .f64 0, .float .f64 0, .float .f64 0, .float .f64 0, .float .f64 0, .float .f64 0, .float .f64 0, .float .f64 0, .float .f64 0, .float .f64 0, .float .f64 0, .float .f64 0, .float .f64 0, .float .f64 0, .float .f64 0, .float .f64 0, .float .f64 0, .float .f64 0, .float .f64 0] rfl rfl _ _ f25 (by rw [info_Affine]; rfl) rfl (by kernel_rfl) ?_; rw [hV24]) | (refine wl_load (by kernel_rfl) rfl rfl f31 (by rw [info_Affine]; rfl) Try.underlying29 rfl ?_))
  clear hg15 hV16 hV24 f25 f31
  refine (C4.out _).mono ?_
  rintro r w32 ⟨rfl, hb⟩
  have D33 := ds D30 hb
  clear D30
  clear hb
  go_wp2_with fail
  go_ret
  exact ⟨rfl, below_step HB29.out D33.out⟩
set_option maxRecDepth 100000 in
set_option maxHeartbeats 8000000 in
theorem xformBacks_k (M : Af) (p q r : Nat) (hp : p < 18446744073709551616) (hq : q < 18446744073709551616) (hr : r < 18446744073709551616) (hn : nmB p q r = true) (h1 : has0 (afDet M) = false) (h2 : (afDet M).wide = false) (w : World) : Calls Try.prog 5 #[Value.agg #[.float .f64 M.a.x.lo, .float .f64 M.a.x.hi, .float .f64 M.a.y.lo, .float .f64 M.a.y.hi, .float .f64 M.a.z.lo, .float .f64 M.a.z.hi, .float .f64 M.b.x.lo, .float .f64 M.b.x.hi, .float .f64 M.b.y.lo, .float .f64 M.b.y.hi, .float .f64 M.b.z.lo, .float .f64 M.b.z.hi, .float .f64 M.c.x.lo, .float .f64 M.c.x.hi, .float .f64 M.c.y.lo, .float .f64 M.c.y.hi, .float .f64 M.c.z.lo, .float .f64 M.c.z.hi, .float .f64 M.t.x.lo, .float .f64 M.t.x.hi, .float .f64 M.t.y.lo, .float .f64 M.t.y.hi, .float .f64 M.t.z.lo, .float .f64 M.t.z.hi], Value.agg #[.float .f64 p, .float .f64 q, .float .f64 r]] w fun r w' => r = .returned (.bool true) ∧ Below w.heap.size w w' := by
  have ⟨fp, fq, fr⟩ := nm_fin hp hq hr hn
  have hw := back_there hp fp hq fq hr fr h1
  have C0 := Lib.hid (awake4)
  have C1 := Lib.hid (fun w => rvalidA_a M w)
  have C2 := Lib.hid (fun w => rnumbers_any p q r hp hq hr w)
  rw [hn] at C2
  have C3 := Lib.hid (fun w => backA_k M h1 h2 w)
  obtain ⟨p3, hp3⟩ : ∃ z_, afBack M (afDet M) = z_ := ⟨_, rfl⟩
  rw [hp3] at C3
  have C4 := Lib.hid (fun w => rofV_any p q r hp hq hr w)
  obtain ⟨p4, hp4⟩ : ∃ z_, vOf p q r = z_ := ⟨_, rfl⟩
  rw [hp4] at C4
  have C5 := Lib.hid (fun w => ptA_any M p4 w)
  obtain ⟨p5, hp5⟩ : ∃ z_, afPt M p4 = z_ := ⟨_, rfl⟩
  rw [hp5] at C5
  have C6 := Lib.hid (fun w => ptA_any p3 p5 w)
  obtain ⟨p6, hp6⟩ : ∃ z_, afPt p3 p5 = z_ := ⟨_, rfl⟩
  rw [hp6] at C6
  have C7 := Lib.hid (fun w => rwithinV_any p4 p6 (by rw [← hp6, ← hp5, ← hp4, ← hp3]; exact hw.1) w)
  have C8 := Lib.hid (fun w => ptA_any p3 p4 w)
  obtain ⟨p8, hp8⟩ : ∃ z_, afPt p3 p4 = z_ := ⟨_, rfl⟩
  rw [hp8] at C8
  have C9 := Lib.hid (fun w => ptA_any M p8 w)
  obtain ⟨p9, hp9⟩ : ∃ z_, afPt M p8 = z_ := ⟨_, rfl⟩
  rw [hp9] at C9
  have C10 := Lib.hid (fun w => rwithinV_any p4 p9 (by rw [← hp9, ← hp8, ← hp4, ← hp3]; exact hw.2) w)
  clear hp3 hp4 hp5 hp6 hp8 hp9
  go_enter Try.func5, Try.ntmps5
  go_wp2_with fail
  obtain ⟨W, hW, K0, K1, hB, hz⟩ := bx2 w 29 38 (ac M) #[.float .f64 p, .float .f64 q, .float .f64 r]
  rw [← hW]
  have K0 := Lib.hid K0
  have K1 := Lib.hid K1
  have HB := Lib.hid hB
  clear hW hB hz
  have D1 := dr W
  refine (C0.out _).mono ?_
  rintro r w2 ⟨rfl, hb⟩
  have D3 := ds D1 hb
  clear D1
  clear hb
  have f4 := (kb K0 D3)
  go_wp2_with (refine wl_load (by kernel_rfl) rfl rfl f4 (by rw [info_Affine]; rfl) Try.underlying29 rfl ?_)
  clear f4
  refine (C1.out _).mono ?_
  rintro r w5 ⟨rfl, hb⟩
  have D6 := ds D3 hb
  clear D3
  clear hb
  have hq7 := (kb K1 D6).cellsL 0 [.float .f64 p, .float .f64 q, .float .f64 r] rfl
  dsimp only [CellsL, al, vl, Nat.reduceAdd] at hq7
  go_wp2_with fail
  clear hq7
  refine (C2.out _).mono ?_
  rintro r w8 ⟨rfl, hb⟩
  have D9 := ds D6 hb
  clear D6
  clear hb
  have f10 := (kb K0 D9)
  go_wp2_with (refine wl_load (by kernel_rfl) rfl rfl f10 (by rw [info_Affine]; rfl) Try.underlying29 rfl ?_)
  clear f10
  refine (C3.out _).mono ?_
  rintro r w11 ⟨rfl, hb⟩
  have D12 := ds D9 hb
  clear D9
  clear hb
  obtain ⟨g13, hg15⟩ : ∃ g, w11.heap.size = g := ⟨_, rfl⟩
  have Y17 := Lib.hid (show w.heap.size < g13 ∧ w.heap.size + 1 < g13 by rw [← hg15]; exact ⟨(kb K0 D12).lt, (kb K1 D12).lt⟩)
  obtain ⟨V14, hV16⟩ : ∃ V, w11.alloc (.cells #[.float .f64 0, .float .f64 0, .float .f64 0, .float .f64 0, .float .f64 0, .float .f64 0, .float .f64 0, .float .f64 0, .float .f64 0, .float .f64 0, .float .f64 0, .float .f64 0, .float .f64 0, .float .f64 0, .float .f64 0, .float .f64 0, .float .f64 0, .float .f64 0, .float .f64 0, .float .f64 0, .float .f64 0, .float .f64 0, .float .f64 0, .float .f64 0] 29) = V := ⟨_, rfl⟩
  have K18 := ka hV16 K0 D12
  have K19 := ka hV16 K1 D12
  have K20 := kn hV16 hg15
  have HB21 := hba hV16 HB D12
  have D22 := dr V14
  clear K0 K1 HB D12
  have f25 := (kb K20 D22)
  obtain ⟨V23, hV24⟩ : ∃ V, World.setRow V14 (g13) (ac p3) = V := ⟨_, rfl⟩
  have K26 := kfr hV24 K18 D22 (by have := Y17.out; omega)
  have K27 := kfr hV24 K19 D22 (by have := Y17.out; omega)
  have K28 := ksr hV24 K20 D22
  have HB29 := hbr hV24 HB21 D22 (by have := Y17.out; omega)
  have D30 := dr V23
  clear K18 K19 K20 HB21 D22
  have hq31 := (kb K27 D30).cellsL 0 [.float .f64 p, .float .f64 q, .float .f64 r] rfl
  dsimp only [CellsL, al, vl, Nat.reduceAdd] at hq31
  go_wp2_with (refine wpList_store_row rfl 29 _ _ rfl (g13) (ac p3) rfl rfl _ _ f25 (by rw [info_Affine]; rfl) rfl (by kernel_rfl) ?_; rw [hV24])
  clear hg15 hV16 hV24 f25 hq31
  refine (C4.out _).mono ?_
  rintro r w32 ⟨rfl, hb⟩
  have D33 := ds D30 hb
  clear D30
  clear hb
  obtain ⟨g34, hg36⟩ : ∃ g, w32.heap.size = g := ⟨_, rfl⟩
  have Y38 := Lib.hid (show w.heap.size < g34 ∧ w.heap.size + 1 < g34 ∧ g13 < g34 by rw [← hg36]; exact ⟨(kb K26 D33).lt, (kb K27 D33).lt, (kb K28 D33).lt⟩)
  obtain ⟨V35, hV37⟩ : ∃ V, w32.alloc (.cells #[.float .f64 0, .float .f64 0, .float .f64 0, .float .f64 0, .float .f64 0, .float .f64 0] 26) = V := ⟨_, rfl⟩
  have K39 := ka hV37 K26 D33
  have K40 := ka hV37 K27 D33
  have K41 := ka hV37 K28 D33
  have K42 := kn hV37 hg36
  have HB43 := hba hV37 HB29 D33
  have D44 := dr V35
  clear K26 K27 K28 HB29 D33
  have Y45 := Lib.hid (And.intro Y17.out Y38.out)
  clear Y17 Y38
  have f48 := (kb K42 D44)
  obtain ⟨V46, hV47⟩ : ∃ V, World.setRow V35 (g34) (vc p4) = V := ⟨_, rfl⟩
  have K49 := kfr hV47 K39 D44 (by have := Y45.out; omega)
  have K50 := kfr hV47 K40 D44 (by have := Y45.out; omega)
  have K51 := kfr hV47 K41 D44 (by have := Y45.out; omega)
  have K52 := ksr hV47 K42 D44
  have HB53 := hbr hV47 HB43 D44 (by have := Y45.out; omega)
  have D54 := dr V46
  clear K39 K40 K41 K42 HB43 D44
  go_wp2_with (refine wpList_store_row rfl 26 _ _ rfl (g34) (vc p4) rfl rfl _ _ f48 (by rw [info_V3]; rfl) rfl (by kernel_rfl) ?_; rw [hV47])
  clear hg36 hV37 hV47 f48
  refine wp_region_held (S := (fun w' => True ∧ Blk w' (w.heap.size) 29 (ac M) ∧ Blk w' (g13) 29 (ac p3) ∧ Blk w' (g34) 26 (vc p4))) (by kernel_rfl) ?_
  change wpAnyH _ _ _ _ _ _ _ _ (World.drew _)
  obtain ⟨wd55, hwd⟩ : ∃ x, x = World.drew V46 := ⟨_, rfl⟩
  rw [← hwd]
  have D56 := Lib.hid (hwd ▸ Below.drew D54.out : Below V46.heap.size V46 wd55)
  clear D54 hwd
  have hS57 : True ∧ Blk wd55 (w.heap.size) 29 (ac M) ∧ Blk wd55 (g13) 29 (ac p3) ∧ Blk wd55 (g34) 26 (vc p4) := ⟨trivial, (kb K49 D56), (kb K51 D56), (kb K52 D56)⟩
  refine tkL 0 (bm 17 1) ?aq58 rfl (by kernel_rfl) (fun _ _ _ h => h) (by kernel_rfl) rfl rfl (fun _ hS => hS.2.2.2) (by rw [info_V3]; rfl) Try.underlying26 rfl ?pq58 hS57 ?rq58
  case pq58 => (go_simp; try with_reducible rfl)
  refine tkL 1 (bm 17 3) ?aq59 rfl (by kernel_rfl) (fun _ _ _ h => h) (by kernel_rfl) rfl rfl (fun _ hS => hS.2.2.1) (by rw [info_Affine]; rfl) Try.underlying29 rfl ?pq59 hS57 ?rq59
  case pq59 => (go_simp; try with_reducible rfl)
  refine tkL 2 (bm 17 7) ?aq60 rfl (by kernel_rfl) (fun _ _ _ h => h) (by kernel_rfl) rfl rfl (fun _ hS => hS.2.1) (by rw [info_Affine]; rfl) Try.underlying29 rfl ?pq60 hS57 ?rq60
  case pq60 => (go_simp; try with_reducible rfl)
  refine tkL 3 (bm 17 15) ?aq61 rfl (by kernel_rfl) (fun _ _ _ h => h) (by kernel_rfl) rfl rfl (fun _ hS => hS.2.2.2) (by rw [info_V3]; rfl) Try.underlying26 rfl ?pq61 hS57 ?rq61
  case pq61 => (go_simp; try with_reducible rfl)
  refine wpAnyH_oneN (i := 4) (l' := bm 17 31) rfl (by kernel_rfl) (by kernel_rfl) (by kernel_rfl) (fun K hK => ?_)
  go_simp
  go_at_call 17
  refine (C5.out _).mono ?_
  rintro r w62 ⟨rfl, hb⟩
  dsimp only
  have D63 := ds D56 hb
  clear D56
  clear hb
  have hS64 : True ∧ Blk w62 (w.heap.size) 29 (ac M) ∧ Blk w62 (g13) 29 (ac p3) ∧ Blk w62 (g34) 26 (vc p4) := ⟨trivial, (kb K49 D63), (kb K51 D63), (kb K52 D63)⟩
  refine hK _ _ hS64 ?_
  clear hK K hS57
  refine wpAnyH_oneN (i := 5) (l' := bm 17 63) rfl (by kernel_rfl) (by kernel_rfl) (by kernel_rfl) (fun K hK => ?_)
  go_simp
  go_at_call 17
  refine (C6.out _).mono ?_
  rintro r w65 ⟨rfl, hb⟩
  dsimp only
  have D66 := ds D63 hb
  clear D63
  clear hb
  have hS67 : True ∧ Blk w65 (w.heap.size) 29 (ac M) ∧ Blk w65 (g13) 29 (ac p3) ∧ Blk w65 (g34) 26 (vc p4) := ⟨trivial, (kb K49 D66), (kb K51 D66), (kb K52 D66)⟩
  refine hK _ _ hS67 ?_
  clear hK K hS64
  refine wpAnyH_oneN (i := 6) (l' := bm 17 127) rfl (by kernel_rfl) (by kernel_rfl) (by kernel_rfl) (fun K hK => ?_)
  go_simp
  go_at_call 25
  refine (C7.out _).mono ?_
  rintro r w68 ⟨rfl, hb⟩
  dsimp only
  have D69 := ds D66 hb
  clear D66
  clear hb
  have hS70 : True ∧ Blk w68 (w.heap.size) 29 (ac M) ∧ Blk w68 (g13) 29 (ac p3) ∧ Blk w68 (g34) 26 (vc p4) := ⟨trivial, (kb K49 D69), (kb K51 D69), (kb K52 D69)⟩
  refine hK _ _ hS70 ?_
  clear hK K hS67
  refine tk 7 (bm 17 255) ?vq71 ?aq71 rfl (by kernel_rfl) (fun _ _ _ h => h) (by kernel_rfl) ?hq71 ?pq71 hS70 ?rq71
  case hq71 => (intro w hS; go_simp; try with_reducible rfl)
  case pq71 => (go_simp; try with_reducible rfl)
  refine tkL 8 (bm 17 511) ?aq72 rfl (by kernel_rfl) (fun _ _ _ h => h) (by kernel_rfl) rfl rfl (fun _ hS => hS.2.2.2) (by rw [info_V3]; rfl) Try.underlying26 rfl ?pq72 hS70 ?rq72
  case pq72 => (go_simp; try with_reducible rfl)
  refine tkL 9 (bm 17 1023) ?aq73 rfl (by kernel_rfl) (fun _ _ _ h => h) (by kernel_rfl) rfl rfl (fun _ hS => hS.2.1) (by rw [info_Affine]; rfl) Try.underlying29 rfl ?pq73 hS70 ?rq73
  case pq73 => (go_simp; try with_reducible rfl)
  refine tkL 10 (bm 17 2047) ?aq74 rfl (by kernel_rfl) (fun _ _ _ h => h) (by kernel_rfl) rfl rfl (fun _ hS => hS.2.2.1) (by rw [info_Affine]; rfl) Try.underlying29 rfl ?pq74 hS70 ?rq74
  case pq74 => (go_simp; try with_reducible rfl)
  refine tkL 11 (bm 17 4095) ?aq75 rfl (by kernel_rfl) (fun _ _ _ h => h) (by kernel_rfl) rfl rfl (fun _ hS => hS.2.2.2) (by rw [info_V3]; rfl) Try.underlying26 rfl ?pq75 hS70 ?rq75
  case pq75 => (go_simp; try with_reducible rfl)
  refine wpAnyH_oneN (i := 12) (l' := bm 17 8191) rfl (by kernel_rfl) (by kernel_rfl) (by kernel_rfl) (fun K hK => ?_)
  go_simp
  go_at_call 17
  refine (C8.out _).mono ?_
  rintro r w76 ⟨rfl, hb⟩
  dsimp only
  have D77 := ds D69 hb
  clear D69
  clear hb
  have hS78 : True ∧ Blk w76 (w.heap.size) 29 (ac M) ∧ Blk w76 (g13) 29 (ac p3) ∧ Blk w76 (g34) 26 (vc p4) := ⟨trivial, (kb K49 D77), (kb K51 D77), (kb K52 D77)⟩
  refine hK _ _ hS78 ?_
  clear hK K hS70
  refine wpAnyH_oneN (i := 13) (l' := bm 17 16383) rfl (by kernel_rfl) (by kernel_rfl) (by kernel_rfl) (fun K hK => ?_)
  go_simp
  go_at_call 17
  refine (C9.out _).mono ?_
  rintro r w79 ⟨rfl, hb⟩
  dsimp only
  have D80 := ds D77 hb
  clear D77
  clear hb
  have hS81 : True ∧ Blk w79 (w.heap.size) 29 (ac M) ∧ Blk w79 (g13) 29 (ac p3) ∧ Blk w79 (g34) 26 (vc p4) := ⟨trivial, (kb K49 D80), (kb K51 D80), (kb K52 D80)⟩
  refine hK _ _ hS81 ?_
  clear hK K hS78
  refine wpAnyH_oneN (i := 14) (l' := bm 17 32767) rfl (by kernel_rfl) (by kernel_rfl) (by kernel_rfl) (fun K hK => ?_)
  go_simp
  go_at_call 25
  refine (C10.out _).mono ?_
  rintro r w82 ⟨rfl, hb⟩
  dsimp only
  have D83 := ds D80 hb
  clear D80
  clear hb
  have hS84 : True ∧ Blk w82 (w.heap.size) 29 (ac M) ∧ Blk w82 (g13) 29 (ac p3) ∧ Blk w82 (g34) 26 (vc p4) := ⟨trivial, (kb K49 D83), (kb K51 D83), (kb K52 D83)⟩
  refine hK _ _ hS84 ?_
  clear hK K hS81
  refine tk 15 (bm 17 65535) ?vq85 ?aq85 rfl (by kernel_rfl) (fun _ _ _ h => h) (by kernel_rfl) ?hq85 ?pq85 hS84 ?rq85
  case hq85 => (intro w hS; go_simp; try with_reducible rfl)
  case pq85 => (go_simp; try with_reducible rfl)
  refine tk 16 (bm 17 131071) ?vq86 ?aq86 rfl (by kernel_rfl) (fun _ _ _ h => h) (by kernel_rfl) ?hq86 ?pq86 hS84 ?rq86
  case hq86 => (intro w hS; go_simp; try with_reducible rfl)
  case pq86 => (go_simp; try with_reducible rfl)
  refine wpAnyH_done (by kernel_rfl) ?_ _
  clear hS84
  go_wp2_with fail
  go_ret
  exact ⟨rfl, below_step HB53.out D83.out⟩
theorem walk_xformBacks (a0 a1 a2 a3 a4 a5 a6 a7 a8 a9 a10 a11 a12 a13 a14 a15 a16 a17 a18 a19 a20 a21 a22 a23 p q r : Nat) (ha0 : a0 < 18446744073709551616) (ha1 : a1 < 18446744073709551616) (ha2 : a2 < 18446744073709551616) (ha3 : a3 < 18446744073709551616) (ha4 : a4 < 18446744073709551616) (ha5 : a5 < 18446744073709551616) (ha6 : a6 < 18446744073709551616) (ha7 : a7 < 18446744073709551616) (ha8 : a8 < 18446744073709551616) (ha9 : a9 < 18446744073709551616) (ha10 : a10 < 18446744073709551616) (ha11 : a11 < 18446744073709551616) (ha12 : a12 < 18446744073709551616) (ha13 : a13 < 18446744073709551616) (ha14 : a14 < 18446744073709551616) (ha15 : a15 < 18446744073709551616) (ha16 : a16 < 18446744073709551616) (ha17 : a17 < 18446744073709551616) (ha18 : a18 < 18446744073709551616) (ha19 : a19 < 18446744073709551616) (ha20 : a20 < 18446744073709551616) (ha21 : a21 < 18446744073709551616) (ha22 : a22 < 18446744073709551616) (ha23 : a23 < 18446744073709551616) (hp : p < 18446744073709551616) (hq : q < 18446744073709551616) (hr : r < 18446744073709551616) (w : World) : Calls Try.prog 5 #[.agg #[.float .f64 a0, .float .f64 a1, .float .f64 a2, .float .f64 a3, .float .f64 a4, .float .f64 a5, .float .f64 a6, .float .f64 a7, .float .f64 a8, .float .f64 a9, .float .f64 a10, .float .f64 a11, .float .f64 a12, .float .f64 a13, .float .f64 a14, .float .f64 a15, .float .f64 a16, .float .f64 a17, .float .f64 a18, .float .f64 a19, .float .f64 a20, .float .f64 a21, .float .f64 a22, .float .f64 a23], .agg #[.float .f64 p, .float .f64 q, .float .f64 r]] w fun r w' => r = .returned (.bool true) ∧ Below w.heap.size w w' := by
  cases v0 : vdA a0 a1 a2 a3 a4 a5 a6 a7 a8 a9 a10 a11 a12 a13 a14 a15 a16 a17 a18 a19 a20 a21 a22 a23
  · exact xformBacks_n0 a0 a1 a2 a3 a4 a5 a6 a7 a8 a9 a10 a11 a12 a13 a14 a15 a16 a17 a18 a19 a20 a21 a22 a23 p q r ha0 ha1 ha2 ha3 ha4 ha5 ha6 ha7 ha8 ha9 ha10 ha11 ha12 ha13 ha14 ha15 ha16 ha17 ha18 ha19 ha20 ha21 ha22 ha23 hp hq hr v0 w
  · cases v1 : nmB p q r
    · exact xformBacks_n1 a0 a1 a2 a3 a4 a5 a6 a7 a8 a9 a10 a11 a12 a13 a14 a15 a16 a17 a18 a19 a20 a21 a22 a23 p q r ha0 ha1 ha2 ha3 ha4 ha5 ha6 ha7 ha8 ha9 ha10 ha11 ha12 ha13 ha14 ha15 ha16 ha17 ha18 ha19 ha20 ha21 ha22 ha23 hp hq hr v0 v1 w
    · obtain ⟨M, rfl, rfl, rfl, rfl, rfl, rfl, rfl, rfl, rfl, rfl, rfl, rfl, rfl, rfl, rfl, rfl, rfl, rfl, rfl, rfl, rfl, rfl, rfl, rfl⟩ := af_of ha0 ha1 ha2 ha3 ha4 ha5 ha6 ha7 ha8 ha9 ha10 ha11 ha12 ha13 ha14 ha15 ha16 ha17 ha18 ha19 ha20 ha21 ha22 ha23 v0
      cases h1 : has0 (afDet M)
      · cases h2 : (afDet M).wide
        · exact xformBacks_k M p q r hp hq hr v1 h1 h2 w
        · exact xformBacks_w M p q r hp hq hr v1 h1 h2 w
      · exact xformBacks_h M p q r hp hq hr v1 h1 w
end Go.Proofs.Ytdgaaceebghcpaa
