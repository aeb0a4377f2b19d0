/- The walk of XformSame (gen_ud.py). -/
import Derived.Test.YtdgaaceebghcpaaZUg
set_option linter.unusedVariables false
set_option linter.unusedSimpArgs false
namespace Go.Proofs.Ytdgaaceebghcpaa
open Go.RowKit Fl

set_option maxRecDepth 100000 in
set_option maxHeartbeats 8000000 in
theorem xformSame_n0 (x0 x1 x2 x3 x4 x5 a0 a1 a2 a3 a4 a5 a6 a7 a8 a9 a10 a11 a12 a13 a14 a15 a16 a17 a18 a19 a20 a21 a22 a23 p q r : Nat) (hx0 : x0 < 18446744073709551616) (hx1 : x1 < 18446744073709551616) (hx2 : x2 < 18446744073709551616) (hx3 : x3 < 18446744073709551616) (hx4 : x4 < 18446744073709551616) (hx5 : x5 < 18446744073709551616) (ha0 : a0 < 18446744073709551616) (ha1 : a1 < 18446744073709551616) (ha2 : a2 < 18446744073709551616) (ha3 : a3 < 18446744073709551616) (ha4 : a4 < 18446744073709551616) (ha5 : a5 < 18446744073709551616) (ha6 : a6 < 18446744073709551616) (ha7 : a7 < 18446744073709551616) (ha8 : a8 < 18446744073709551616) (ha9 : a9 < 18446744073709551616) (ha10 : a10 < 18446744073709551616) (ha11 : a11 < 18446744073709551616) (ha12 : a12 < 18446744073709551616) (ha13 : a13 < 18446744073709551616) (ha14 : a14 < 18446744073709551616) (ha15 : a15 < 18446744073709551616) (ha16 : a16 < 18446744073709551616) (ha17 : a17 < 18446744073709551616) (ha18 : a18 < 18446744073709551616) (ha19 : a19 < 18446744073709551616) (ha20 : a20 < 18446744073709551616) (ha21 : a21 < 18446744073709551616) (ha22 : a22 < 18446744073709551616) (ha23 : a23 < 18446744073709551616) (hp : p < 18446744073709551616) (hq : q < 18446744073709551616) (hr : r < 18446744073709551616) (v0 : vdV x0 x1 x2 x3 x4 x5 = false) (w : World) : Calls Try.prog 4 #[Value.agg #[.float .f64 x0, .float .f64 x1, .float .f64 x2, .float .f64 x3, .float .f64 x4, .float .f64 x5], Value.agg #[.float .f64 a0, .float .f64 a1, .float .f64 a2, .float .f64 a3, .float .f64 a4, .float .f64 a5, .float .f64 a6, .float .f64 a7, .float .f64 a8, .float .f64 a9, .float .f64 a10, .float .f64 a11, .float .f64 a12, .float .f64 a13, .float .f64 a14, .float .f64 a15, .float .f64 a16, .float .f64 a17, .float .f64 a18, .float .f64 a19, .float .f64 a20, .float .f64 a21, .float .f64 a22, .float .f64 a23], Value.agg #[.float .f64 p, .float .f64 q, .float .f64 r]] w fun r w' => r = .returned (.bool true) ∧ Below w.heap.size w w' := by
  have C0 := Lib.hid (awake4)
  have C1 := Lib.hid (fun w => rvalidV_any x0 x1 x2 x3 x4 x5 hx0 hx1 hx2 hx3 hx4 hx5 w)
  rw [v0] at C1
  go_enter Try.func4, Try.ntmps4
  go_wp2_with fail
  obtain ⟨W, hW, K0, K1, K2, hB, hz⟩ := bx3 w 26 29 38 #[.float .f64 x0, .float .f64 x1, .float .f64 x2, .float .f64 x3, .float .f64 x4, .float .f64 x5] #[.float .f64 a0, .float .f64 a1, .float .f64 a2, .float .f64 a3, .float .f64 a4, .float .f64 a5, .float .f64 a6, .float .f64 a7, .float .f64 a8, .float .f64 a9, .float .f64 a10, .float .f64 a11, .float .f64 a12, .float .f64 a13, .float .f64 a14, .float .f64 a15, .float .f64 a16, .float .f64 a17, .float .f64 a18, .float .f64 a19, .float .f64 a20, .float .f64 a21, .float .f64 a22, .float .f64 a23] #[.float .f64 p, .float .f64 q, .float .f64 r]
  rw [← hW]
  have K0 := Lib.hid K0
  have K1 := Lib.hid K1
  have K2 := Lib.hid K2
  have HB := Lib.hid hB
  clear hW hB hz
  have D1 := dr W
  refine (C0.out _).mono ?_
  rintro r w2 ⟨rfl, hb⟩
  have D3 := ds D1 hb
  clear D1
  clear hb
  have f4 := (kb K0 D3)
  go_wp2_with (refine wl_load (by kernel_rfl) rfl rfl f4 (by rw [info_V3]; rfl) Try.underlying26 rfl ?_)
  clear f4
  refine (C1.out _).mono ?_
  rintro r w5 ⟨rfl, hb⟩
  have D6 := ds D3 hb
  clear D3
  clear hb
  go_wp2_with fail
  go_ret
  exact ⟨rfl, below_step HB.out D6.out⟩
set_option maxRecDepth 100000 in
set_option maxHeartbeats 8000000 in
theorem xformSame_n1 (x0 x1 x2 x3 x4 x5 a0 a1 a2 a3 a4 a5 a6 a7 a8 a9 a10 a11 a12 a13 a14 a15 a16 a17 a18 a19 a20 a21 a22 a23 p q r : Nat) (hx0 : x0 < 18446744073709551616) (hx1 : x1 < 18446744073709551616) (hx2 : x2 < 18446744073709551616) (hx3 : x3 < 18446744073709551616) (hx4 : x4 < 18446744073709551616) (hx5 : x5 < 18446744073709551616) (ha0 : a0 < 18446744073709551616) (ha1 : a1 < 18446744073709551616) (ha2 : a2 < 18446744073709551616) (ha3 : a3 < 18446744073709551616) (ha4 : a4 < 18446744073709551616) (ha5 : a5 < 18446744073709551616) (ha6 : a6 < 18446744073709551616) (ha7 : a7 < 18446744073709551616) (ha8 : a8 < 18446744073709551616) (ha9 : a9 < 18446744073709551616) (ha10 : a10 < 18446744073709551616) (ha11 : a11 < 18446744073709551616) (ha12 : a12 < 18446744073709551616) (ha13 : a13 < 18446744073709551616) (ha14 : a14 < 18446744073709551616) (ha15 : a15 < 18446744073709551616) (ha16 : a16 < 18446744073709551616) (ha17 : a17 < 18446744073709551616) (ha18 : a18 < 18446744073709551616) (ha19 : a19 < 18446744073709551616) (ha20 : a20 < 18446744073709551616) (ha21 : a21 < 18446744073709551616) (ha22 : a22 < 18446744073709551616) (ha23 : a23 < 18446744073709551616) (hp : p < 18446744073709551616) (hq : q < 18446744073709551616) (hr : r < 18446744073709551616) (v0 : vdV x0 x1 x2 x3 x4 x5 = true) (v1 : vdA a0 a1 a2 a3 a4 a5 a6 a7 a8 a9 a10 a11 a12 a13 a14 a15 a16 a17 a18 a19 a20 a21 a22 a23 = false) (w : World) : Calls Try.prog 4 #[Value.agg #[.float .f64 x0, .float .f64 x1, .float .f64 x2, .float .f64 x3, .float .f64 x4, .float .f64 x5], Value.agg #[.float .f64 a0, .float .f64 a1, .float .f64 a2, .float .f64 a3, .float .f64 a4, .float .f64 a5, .float .f64 a6, .float .f64 a7, .float .f64 a8, .float .f64 a9, .float .f64 a10, .float .f64 a11, .float .f64 a12, .float .f64 a13, .float .f64 a14, .float .f64 a15, .float .f64 a16, .float .f64 a17, .float .f64 a18, .float .f64 a19, .float .f64 a20, .float .f64 a21, .float .f64 a22, .float .f64 a23], Value.agg #[.float .f64 p, .float .f64 q, .float .f64 r]] w fun r w' => r = .returned (.bool true) ∧ Below w.heap.size w w' := by
  have C0 := Lib.hid (awake4)
  have C1 := Lib.hid (fun w => rvalidV_any x0 x1 x2 x3 x4 x5 hx0 hx1 hx2 hx3 hx4 hx5 w)
  rw [v0] at C1
  have C2 := Lib.hid (fun w => rvalidA_any a0 a1 a2 a3 a4 a5 a6 a7 a8 a9 a10 a11 a12 a13 a14 a15 a16 a17 a18 a19 a20 a21 a22 a23 ha0 ha1 ha2 ha3 ha4 ha5 ha6 ha7 ha8 ha9 ha10 ha11 ha12 ha13 ha14 ha15 ha16 ha17 ha18 ha19 ha20 ha21 ha22 ha23 w)
  rw [v1] at C2
  go_enter Try.func4, Try.ntmps4
  go_wp2_with fail
  obtain ⟨W, hW, K0, K1, K2, hB, hz⟩ := bx3 w 26 29 38 #[.float .f64 x0, .float .f64 x1, .float .f64 x2, .float .f64 x3, .float .f64 x4, .float .f64 x5] #[.float .f64 a0, .float .f64 a1, .float .f64 a2, .float .f64 a3, .float .f64 a4, .float .f64 a5, .float .f64 a6, .float .f64 a7, .float .f64 a8, .float .f64 a9, .float .f64 a10, .float .f64 a11, .float .f64 a12, .float .f64 a13, .float .f64 a14, .float .f64 a15, .float .f64 a16, .float .f64 a17, .float .f64 a18, .float .f64 a19, .float .f64 a20, .float .f64 a21, .float .f64 a22, .float .f64 a23] #[.float .f64 p, .float .f64 q, .float .f64 r]
  rw [← hW]
  have K0 := Lib.hid K0
  have K1 := Lib.hid K1
  have K2 := Lib.hid K2
  have HB := Lib.hid hB
  clear hW hB hz
  have D1 := dr W
  refine (C0.out _).mono ?_
  rintro r w2 ⟨rfl, hb⟩
  have D3 := ds D1 hb
  clear D1
  clear hb
  have f4 := (kb K0 D3)
  go_wp2_with (refine wl_load (by kernel_rfl) rfl rfl f4 (by rw [info_V3]; rfl) Try.underlying26 rfl ?_)
  clear f4
  refine (C1.out _).mono ?_
  rintro r w5 ⟨rfl, hb⟩
  have D6 := ds D3 hb
  clear D3
  clear hb
  have f7 := (kb K1 D6)
  go_wp2_with (refine wl_load (by kernel_rfl) rfl rfl f7 (by rw [info_Affine]; rfl) Try.underlying29 rfl ?_)
  clear f7
  refine (C2.out _).mono ?_
  rintro r w8 ⟨rfl, hb⟩
  have D9 := ds D6 hb
  clear D6
  clear hb
  go_wp2_with fail
  go_ret
  exact ⟨rfl, below_step HB.out D9.out⟩
set_option maxRecDepth 100000 in
set_option maxHeartbeats 8000000 in
theorem xformSame_n2 (x0 x1 x2 x3 x4 x5 a0 a1 a2 a3 a4 a5 a6 a7 a8 a9 a10 a11 a12 a13 a14 a15 a16 a17 a18 a19 a20 a21 a22 a23 p q r : Nat) (hx0 : x0 < 18446744073709551616) (hx1 : x1 < 18446744073709551616) (hx2 : x2 < 18446744073709551616) (hx3 : x3 < 18446744073709551616) (hx4 : x4 < 18446744073709551616) (hx5 : x5 < 18446744073709551616) (ha0 : a0 < 18446744073709551616) (ha1 : a1 < 18446744073709551616) (ha2 : a2 < 18446744073709551616) (ha3 : a3 < 18446744073709551616) (ha4 : a4 < 18446744073709551616) (ha5 : a5 < 18446744073709551616) (ha6 : a6 < 18446744073709551616) (ha7 : a7 < 18446744073709551616) (ha8 : a8 < 18446744073709551616) (ha9 : a9 < 18446744073709551616) (ha10 : a10 < 18446744073709551616) (ha11 : a11 < 18446744073709551616) (ha12 : a12 < 18446744073709551616) (ha13 : a13 < 18446744073709551616) (ha14 : a14 < 18446744073709551616) (ha15 : a15 < 18446744073709551616) (ha16 : a16 < 18446744073709551616) (ha17 : a17 < 18446744073709551616) (ha18 : a18 < 18446744073709551616) (ha19 : a19 < 18446744073709551616) (ha20 : a20 < 18446744073709551616) (ha21 : a21 < 18446744073709551616) (ha22 : a22 < 18446744073709551616) (ha23 : a23 < 18446744073709551616) (hp : p < 18446744073709551616) (hq : q < 18446744073709551616) (hr : r < 18446744073709551616) (v0 : vdV x0 x1 x2 x3 x4 x5 = true) (v1 : vdA a0 a1 a2 a3 a4 a5 a6 a7 a8 a9 a10 a11 a12 a13 a14 a15 a16 a17 a18 a19 a20 a21 a22 a23 = true) (v2 : nmB p q r = false) (w : World) : Calls Try.prog 4 #[Value.agg #[.float .f64 x0, .float .f64 x1, .float .f64 x2, .float .f64 x3, .float .f64 x4, .float .f64 x5], Value.agg #[.float .f64 a0, .float .f64 a1, .float .f64 a2, .float .f64 a3, .float .f64 a4, .float .f64 a5, .float .f64 a6, .float .f64 a7, .float .f64 a8, .float .f64 a9, .float .f64 a10, .float .f64 a11, .float .f64 a12, .float .f64 a13, .float .f64 a14, .float .f64 a15, .float .f64 a16, .float .f64 a17, .float .f64 a18, .float .f64 a19, .float .f64 a20, .float .f64 a21, .float .f64 a22, .float .f64 a23], Value.agg #[.float .f64 p, .float .f64 q, .float .f64 r]] w fun r w' => r = .returned (.bool true) ∧ Below w.heap.size w w' := by
  have C0 := Lib.hid (awake4)
  have C1 := Lib.hid (fun w => rvalidV_any x0 x1 x2 x3 x4 x5 hx0 hx1 hx2 hx3 hx4 hx5 w)
  rw [v0] at C1
  have C2 := Lib.hid (fun w => rvalidA_any a0 a1 a2 a3 a4 a5 a6 a7 a8 a9 a10 a11 a12 a13 a14 a15 a16 a17 a18 a19 a20 a21 a22 a23 ha0 ha1 ha2 ha3 ha4 ha5 ha6 ha7 ha8 ha9 ha10 ha11 ha12 ha13 ha14 ha15 ha16 ha17 ha18 ha19 ha20 ha21 ha22 ha23 w)
  rw [v1] at C2
  have C3 := Lib.hid (fun w => rnumbers_any p q r hp hq hr w)
  rw [v2] at C3
  go_enter Try.func4, Try.ntmps4
  go_wp2_with fail
  obtain ⟨W, hW, K0, K1, K2, hB, hz⟩ := bx3 w 26 29 38 #[.float .f64 x0, .float .f64 x1, .float .f64 x2, .float .f64 x3, .float .f64 x4, .float .f64 x5] #[.float .f64 a0, .float .f64 a1, .float .f64 a2, .float .f64 a3, .float .f64 a4, .float .f64 a5, .float .f64 a6, .float .f64 a7, .float .f64 a8, .float .f64 a9, .float .f64 a10, .float .f64 a11, .float .f64 a12, .float .f64 a13, .float .f64 a14, .float .f64 a15, .float .f64 a16, .float .f64 a17, .float .f64 a18, .float .f64 a19, .float .f64 a20, .float .f64 a21, .float .f64 a22, .float .f64 a23] #[.float .f64 p, .float .f64 q, .float .f64 r]
  rw [← hW]
  have K0 := Lib.hid K0
  have K1 := Lib.hid K1
  have K2 := Lib.hid K2
  have HB := Lib.hid hB
  clear hW hB hz
  have D1 := dr W
  refine (C0.out _).mono ?_
  rintro r w2 ⟨rfl, hb⟩
  have D3 := ds D1 hb
  clear D1
  clear hb
  have f4 := (kb K0 D3)
  go_wp2_with (refine wl_load (by kernel_rfl) rfl rfl f4 (by rw [info_V3]; rfl) Try.underlying26 rfl ?_)
  clear f4
  refine (C1.out _).mono ?_
  rintro r w5 ⟨rfl, hb⟩
  have D6 := ds D3 hb
  clear D3
  clear hb
  have f7 := (kb K1 D6)
  go_wp2_with (refine wl_load (by kernel_rfl) rfl rfl f7 (by rw [info_Affine]; rfl) Try.underlying29 rfl ?_)
  clear f7
  refine (C2.out _).mono ?_
  rintro r w8 ⟨rfl, hb⟩
  have D9 := ds D6 hb
  clear D6
  clear hb
  have hq10 := (kb K2 D9).cellsL 0 [.float .f64 p, .float .f64 q, .float .f64 r] rfl
  dsimp only [CellsL, al, vl, Nat.reduceAdd] at hq10
  go_wp2_with fail
  clear hq10
  refine (C3.out _).mono ?_
  rintro r w11 ⟨rfl, hb⟩
  have D12 := ds D9 hb
  clear D9
  clear hb
  go_wp2_with fail
  go_ret
  exact ⟨rfl, below_step HB.out D12.out⟩
set_option maxRecDepth 100000 in
set_option maxHeartbeats 8000000 in
theorem xformSame_w0 (P : V3) (A : Af) (p q r : Nat) (hp : p < 18446744073709551616) (hq : q < 18446744073709551616) (hr : r < 18446744073709551616) (hn : nmB p q r = true) (w0 : (P).wide = true) (w : World) : Calls Try.prog 4 #[Value.agg #[.float .f64 P.x.lo, .float .f64 P.x.hi, .float .f64 P.y.lo, .float .f64 P.y.hi, .float .f64 P.z.lo, .float .f64 P.z.hi], Value.agg #[.float .f64 A.a.x.lo, .float .f64 A.a.x.hi, .float .f64 A.a.y.lo, .float .f64 A.a.y.hi, .float .f64 A.a.z.lo, .float .f64 A.a.z.hi, .float .f64 A.b.x.lo, .float .f64 A.b.x.hi, .float .f64 A.b.y.lo, .float .f64 A.b.y.hi, .float .f64 A.b.z.lo, .float .f64 A.b.z.hi, .float .f64 A.c.x.lo, .float .f64 A.c.x.hi, .float .f64 A.c.y.lo, .float .f64 A.c.y.hi, .float .f64 A.c.z.lo, .float .f64 A.c.z.hi, .float .f64 A.t.x.lo, .float .f64 A.t.x.hi, .float .f64 A.t.y.lo, .float .f64 A.t.y.hi, .float .f64 A.t.z.lo, .float .f64 A.t.z.hi], Value.agg #[.float .f64 p, .float .f64 q, .float .f64 r]] w fun r w' => r = .returned (.bool true) ∧ Below w.heap.size w w' := by
  have C0 := Lib.hid (awake4)
  have C1 := Lib.hid (fun w => rvalidV_v P w)
  have C2 := Lib.hid (fun w => rvalidA_a A w)
  have C3 := Lib.hid (fun w => rnumbers_any p q r hp hq hr w)
  rw [hn] at C3
  have C4 := Lib.hid (fun w => rwideV_any P w)
  rw [w0] at C4
  go_enter Try.func4, Try.ntmps4
  go_wp2_with fail
  obtain ⟨W, hW, K0, K1, K2, hB, hz⟩ := bx3 w 26 29 38 (vc P) (ac A) #[.float .f64 p, .float .f64 q, .float .f64 r]
  rw [← hW]
  have K0 := Lib.hid K0
  have K1 := Lib.hid K1
  have K2 := Lib.hid K2
  have HB := Lib.hid hB
  clear hW hB hz
  have D1 := dr W
  refine (C0.out _).mono ?_
  rintro r w2 ⟨rfl, hb⟩
  have D3 := ds D1 hb
  clear D1
  clear hb
  have f4 := (kb K0 D3)
  go_wp2_with (refine wl_load (by kernel_rfl) rfl rfl f4 (by rw [info_V3]; rfl) Try.underlying26 rfl ?_)
  clear f4
  refine (C1.out _).mono ?_
  rintro r w5 ⟨rfl, hb⟩
  have D6 := ds D3 hb
  clear D3
  clear hb
  have f7 := (kb K1 D6)
  go_wp2_with (refine wl_load (by kernel_rfl) rfl rfl f7 (by rw [info_Affine]; rfl) Try.underlying29 rfl ?_)
  clear f7
  refine (C2.out _).mono ?_
  rintro r w8 ⟨rfl, hb⟩
  have D9 := ds D6 hb
  clear D6
  clear hb
  have hq10 := (kb K2 D9).cellsL 0 [.float .f64 p, .float .f64 q, .float .f64 r] rfl
  dsimp only [CellsL, al, vl, Nat.reduceAdd] at hq10
  go_wp2_with fail
  clear hq10
  refine (C3.out _).mono ?_
  rintro r w11 ⟨rfl, hb⟩
  have D12 := ds D9 hb
  clear D9
  clear hb
  have f13 := (kb K0 D12)
  go_wp2_with (refine wl_load (by kernel_rfl) rfl rfl f13 (by rw [info_V3]; rfl) Try.underlying26 rfl ?_)
  clear f13
  refine (C4.out _).mono ?_
  rintro r w14 ⟨rfl, hb⟩
  have D15 := ds D12 hb
  clear D12
  clear hb
  go_wp2_with fail
  go_ret
  exact ⟨rfl, below_step HB.out D15.out⟩
set_option maxRecDepth 100000 in
set_option maxHeartbeats 8000000 in
theorem xformSame_w1 (P : V3) (A : Af) (p q r : Nat) (hp : p < 18446744073709551616) (hq : q < 18446744073709551616) (hr : r < 18446744073709551616) (hn : nmB p q r = true) (w0 : (P).wide = false) (w1 : (A.t).wide = true) (w : World) : Calls Try.prog 4 #[Value.agg #[.float .f64 P.x.lo, .float .f64 P.x.hi, .float .f64 P.y.lo, .float .f64 P.y.hi, .float .f64 P.z.lo, .float .f64 P.z.hi], Value.agg #[.float .f64 A.a.x.lo, .float .f64 A.a.x.hi, .float .f64 A.a.y.lo, .float .f64 A.a.y.hi, .float .f64 A.a.z.lo, .float .f64 A.a.z.hi, .float .f64 A.b.x.lo, .float .f64 A.b.x.hi, .float .f64 A.b.y.lo, .float .f64 A.b.y.hi, .float .f64 A.b.z.lo, .float .f64 A.b.z.hi, .float .f64 A.c.x.lo, .float .f64 A.c.x.hi, .float .f64 A.c.y.lo, .float .f64 A.c.y.hi, .float .f64 A.c.z.lo, .float .f64 A.c.z.hi, .float .f64 A.t.x.lo, .float .f64 A.t.x.hi, .float .f64 A.t.y.lo, .float .f64 A.t.y.hi, .float .f64 A.t.z.lo, .float .f64 A.t.z.hi], Value.agg #[.float .f64 p, .float .f64 q, .float .f64 r]] w fun r w' => r = .returned (.bool true) ∧ Below w.heap.size w w' := by
  have C0 := Lib.hid (awake4)
  have C1 := Lib.hid (fun w => rvalidV_v P w)
  have C2 := Lib.hid (fun w => rvalidA_a A w)
  have C3 := Lib.hid (fun w => rnumbers_any p q r hp hq hr w)
  rw [hn] at C3
  have C4 := Lib.hid (fun w => rwideV_any P w)
  rw [w0] at C4
  have C5 := Lib.hid (fun w => rwideV_any A.t w)
  rw [w1] at C5
  go_enter Try.func4, Try.ntmps4
  go_wp2_with fail
  obtain ⟨W, hW, K0, K1, K2, hB, hz⟩ := bx3 w 26 29 38 (vc P) (ac A) #[.float .f64 p, .float .f64 q, .float .f64 r]
  rw [← hW]
  have K0 := Lib.hid K0
  have K1 := Lib.hid K1
  have K2 := Lib.hid K2
  have HB := Lib.hid hB
  clear hW hB hz
  have D1 := dr W
  refine (C0.out _).mono ?_
  rintro r w2 ⟨rfl, hb⟩
  have D3 := ds D1 hb
  clear D1
  clear hb
  have f4 := (kb K0 D3)
  go_wp2_with (refine wl_load (by kernel_rfl) rfl rfl f4 (by rw [info_V3]; rfl) Try.underlying26 rfl ?_)
  clear f4
  refine (C1.out _).mono ?_
  rintro r w5 ⟨rfl, hb⟩
  have D6 := ds D3 hb
  clear D3
  clear hb
  have f7 := (kb K1 D6)
  go_wp2_with (refine wl_load (by kernel_rfl) rfl rfl f7 (by rw [info_Affine]; rfl) Try.underlying29 rfl ?_)
  clear f7
  refine (C2.out _).mono ?_
  rintro r w8 ⟨rfl, hb⟩
  have D9 := ds D6 hb
  clear D6
  clear hb
  have hq10 := (kb K2 D9).cellsL 0 [.float .f64 p, .float .f64 q, .float .f64 r] rfl
  dsimp only [CellsL, al, vl, Nat.reduceAdd] at hq10
  go_wp2_with fail
  clear hq10
  refine (C3.out _).mono ?_
  rintro r w11 ⟨rfl, hb⟩
  have D12 := ds D9 hb
  clear D9
  clear hb
  have f13 := (kb K0 D12)
  go_wp2_with (refine wl_load (by kernel_rfl) rfl rfl f13 (by rw [info_V3]; rfl) Try.underlying26 rfl ?_)
  clear f13
  refine (C4.out _).mono ?_
  rintro r w14 ⟨rfl, hb⟩
  have D15 := ds D12 hb
  clear D12
  clear hb
  have hq16 := (kb K1 D15).cellsL 18 (vl A.t) rfl
  dsimp only [CellsL, al, vl, Nat.reduceAdd] at hq16
  go_wp2_with fail
  clear hq16
  refine (C5.out _).mono ?_
  rintro r w17 ⟨rfl, hb⟩
  have D18 := ds D15 hb
  clear D15
  clear hb
  go_wp2_with fail
  go_ret
  exact ⟨rfl, below_step HB.out D18.out⟩
set_option maxRecDepth 100000 in
set_option maxHeartbeats 8000000 in
theorem xformSame_w2 (P : V3) (A : Af) (p q r : Nat) (hp : p < 18446744073709551616) (hq : q < 18446744073709551616) (hr : r < 18446744073709551616) (hn : nmB p q r = true) (w0 : (P).wide = false) (w1 : (A.t).wide = false) (w2 : (A.a).wide = true) (w : World) : Calls Try.prog 4 #[Value.agg #[.float .f64 P.x.lo, .float .f64 P.x.hi, .float .f64 P.y.lo, .float .f64 P.y.hi, .float .f64 P.z.lo, .float .f64 P.z.hi], Value.agg #[.float .f64 A.a.x.lo, .float .f64 A.a.x.hi, .float .f64 A.a.y.lo, .float .f64 A.a.y.hi, .float .f64 A.a.z.lo, .float .f64 A.a.z.hi, .float .f64 A.b.x.lo, .float .f64 A.b.x.hi, .float .f64 A.b.y.lo, .float .f64 A.b.y.hi, .float .f64 A.b.z.lo, .float .f64 A.b.z.hi, .float .f64 A.c.x.lo, .float .f64 A.c.x.hi, .float .f64 A.c.y.lo, .float .f64 A.c.y.hi, .float .f64 A.c.z.lo, .float .f64 A.c.z.hi, .float .f64 A.t.x.lo, .float .f64 A.t.x.hi, .float .f64 A.t.y.lo, .float .f64 A.t.y.hi, .float .f64 A.t.z.lo, .float .f64 A.t.z.hi], Value.agg #[.float .f64 p, .float .f64 q, .float .f64 r]] w fun r w' => r = .returned (.bool true) ∧ Below w.heap.size w w' := by
  have C0 := Lib.hid (awake4)
  have C1 := Lib.hid (fun w => rvalidV_v P w)
  have C2 := Lib.hid (fun w => rvalidA_a A w)
  have C3 := Lib.hid (fun w => rnumbers_any p q r hp hq hr w)
  rw [hn] at C3
  have C4 := Lib.hid (fun w => rwideV_any P w)
  rw [w0] at C4
  have C5 := Lib.hid (fun w => rwideV_any A.t w)
  rw [w1] at C5
  have C6 := Lib.hid (fun w => rwideV_any A.a w)
  rw [w2] at C6
  go_enter Try.func4, Try.ntmps4
  go_wp2_with fail
  obtain ⟨W, hW, K0, K1, K2, hB, hz⟩ := bx3 w 26 29 38 (vc P) (ac A) #[.float .f64 p, .float .f64 q, .float .f64 r]
  rw [← hW]
  have K0 := Lib.hid K0
  have K1 := Lib.hid K1
  have K2 := Lib.hid K2
  have HB := Lib.hid hB
  clear hW hB hz
  have D1 := dr W
  refine (C0.out _).mono ?_
  rintro r w2 ⟨rfl, hb⟩
  have D3 := ds D1 hb
  clear D1
  clear hb
  have f4 := (kb K0 D3)
  go_wp2_with (refine wl_load (by kernel_rfl) rfl rfl f4 (by rw [info_V3]; rfl) Try.underlying26 rfl ?_)
  clear f4
  refine (C1.out _).mono ?_
  rintro r w5 ⟨rfl, hb⟩
  have D6 := ds D3 hb
  clear D3
  clear hb
  have f7 := (kb K1 D6)
  go_wp2_with (refine wl_load (by kernel_rfl) rfl rfl f7 (by rw [info_Affine]; rfl) Try.underlying29 rfl ?_)
  clear f7
  refine (C2.out _).mono ?_
  rintro r w8 ⟨rfl, hb⟩
  have D9 := ds D6 hb
  clear D6
  clear hb
  have hq10 := (kb K2 D9).cellsL 0 [.float .f64 p, .float .f64 q, .float .f64 r] rfl
  dsimp only [CellsL, al, vl, Nat.reduceAdd] at hq10
  go_wp2_with fail
  clear hq10
  refine (C3.out _).mono ?_
  rintro r w11 ⟨rfl, hb⟩
  have D12 := ds D9 hb
  clear D9
  clear hb
  have f13 := (kb K0 D12)
  go_wp2_with (refine wl_load (by kernel_rfl) rfl rfl f13 (by rw [info_V3]; rfl) Try.underlying26 rfl ?_)
  clear f13
  refine (C4.out _).mono ?_
  rintro r w14 ⟨rfl, hb⟩
  have D15 := ds D12 hb
  clear D12
  clear hb
  have hq16 := (kb K1 D15).cellsL 18 (vl A.t) rfl
  dsimp only [CellsL, al, vl, Nat.reduceAdd] at hq16
  go_wp2_with fail
  clear hq16
  refine (C5.out _).mono ?_
  rintro r w17 ⟨rfl, hb⟩
  have D18 := ds D15 hb
  clear D15
  clear hb
  have hq19 := (kb K1 D18).cellsL 0 (vl A.a) rfl
  dsimp only [CellsL, al, vl, Nat.reduceAdd] at hq19
  go_wp2_with fail
  clear hq19
  refine (C6.out _).mono ?_
  rintro r w20 ⟨rfl, hb⟩
  have D21 := ds D18 hb
  clear D18
  clear hb
  go_wp2_with fail
  go_ret
  exact ⟨rfl, below_step HB.out D21.out⟩
set_option maxRecDepth 100000 in
set_option maxHeartbeats 8000000 in
theorem xformSame_w3 (P : V3) (A : Af) (p q r : Nat) (hp : p < 18446744073709551616) (hq : q < 18446744073709551616) (hr : r < 18446744073709551616) (hn : nmB p q r = true) (w0 : (P).wide = false) (w1 : (A.t).wide = false) (w2 : (A.a).wide = false) (w3 : (A.b).wide = true) (w : World) : Calls Try.prog 4 #[Value.agg #[.float .f64 P.x.lo, .float .f64 P.x.hi, .float .f64 P.y.lo, .float .f64 P.y.hi, .float .f64 P.z.lo, .float .f64 P.z.hi], Value.agg #[.float .f64 A.a.x.lo, .float .f64 A.a.x.hi, .float .f64 A.a.y.lo, .float .f64 A.a.y.hi, .float .f64 A.a.z.lo, .float .f64 A.a.z.hi, .float .f64 A.b.x.lo, .float .f64 A.b.x.hi, .float .f64 A.b.y.lo, .float .f64 A.b.y.hi, .float .f64 A.b.z.lo, .float .f64 A.b.z.hi, .float .f64 A.c.x.lo, .float .f64 A.c.x.hi, .float .f64 A.c.y.lo, .float .f64 A.c.y.hi, .float .f64 A.c.z.lo, .float .f64 A.c.z.hi, .float .f64 A.t.x.lo, .float .f64 A.t.x.hi, .float .f64 A.t.y.lo, .float .f64 A.t.y.hi, .float .f64 A.t.z.lo, .float .f64 A.t.z.hi], Value.agg #[.float .f64 p, .float .f64 q, .float .f64 r]] w fun r w' => r = .returned (.bool true) ∧ Below w.heap.size w w' := by
  have C0 := Lib.hid (awake4)
  have C1 := Lib.hid (fun w => rvalidV_v P w)
  have C2 := Lib.hid (fun w => rvalidA_a A w)
  have C3 := Lib.hid (fun w => rnumbers_any p q r hp hq hr w)
  rw [hn] at C3
  have C4 := Lib.hid (fun w => rwideV_any P w)
  rw [w0] at C4
  have C5 := Lib.hid (fun w => rwideV_any A.t w)
  rw [w1] at C5
  have C6 := Lib.hid (fun w => rwideV_any A.a w)
  rw [w2] at C6
  have C7 := Lib.hid (fun w => rwideV_any A.b w)
  rw [w3] at C7
  go_enter Try.func4, Try.ntmps4
  go_wp2_with fail
  obtain ⟨W, hW, K0, K1, K2, hB, hz⟩ := bx3 w 26 29 38 (vc P) (ac A) #[.float .f64 p, .float .f64 q, .float .f64 r]
  rw [← hW]
  have K0 := Lib.hid K0
  have K1 := Lib.hid K1
  have K2 := Lib.hid K2
  have HB := Lib.hid hB
  clear hW hB hz
  have D1 := dr W
  refine (C0.out _).mono ?_
  rintro r w2 ⟨rfl, hb⟩
  have D3 := ds D1 hb
  clear D1
  clear hb
  have f4 := (kb K0 D3)
  go_wp2_with (refine wl_load (by kernel_rfl) rfl rfl f4 (by rw [info_V3]; rfl) Try.underlying26 rfl ?_)
  clear f4
  refine (C1.out _).mono ?_
  rintro r w5 ⟨rfl, hb⟩
  have D6 := ds D3 hb
  clear D3
  clear hb
  have f7 := (kb K1 D6)
  go_wp2_with (refine wl_load (by kernel_rfl) rfl rfl f7 (by rw [info_Affine]; rfl) Try.underlying29 rfl ?_)
  clear f7
  refine (C2.out _).mono ?_
  rintro r w8 ⟨rfl, hb⟩
  have D9 := ds D6 hb
  clear D6
  clear hb
  have hq10 := (kb K2 D9).cellsL 0 [.float .f64 p, .float .f64 q, .float .f64 r] rfl
  dsimp only [CellsL, al, vl, Nat.reduceAdd] at hq10
  go_wp2_with fail
  clear hq10
  refine (C3.out _).mono ?_
  rintro r w11 ⟨rfl, hb⟩
  have D12 := ds D9 hb
  clear D9
  clear hb
  have f13 := (kb K0 D12)
  go_wp2_with (refine wl_load (by kernel_rfl) rfl rfl f13 (by rw [info_V3]; rfl) Try.underlying26 rfl ?_)
  clear f13
  refine (C4.out _).mono ?_
  rintro r w14 ⟨rfl, hb⟩
  have D15 := ds D12 hb
  clear D12
  clear hb
  have hq16 := (kb K1 D15).cellsL 18 (vl A.t) rfl
  dsimp only [CellsL, al, vl, Nat.reduceAdd] at hq16
  go_wp2_with fail
  clear hq16
  refine (C5.out _).mono ?_
  rintro r w17 ⟨rfl, hb⟩
  have D18 := ds D15 hb
  clear D15
  clear hb
  have hq19 := (kb K1 D18).cellsL 0 (vl A.a) rfl
  dsimp only [CellsL, al, vl, Nat.reduceAdd] at hq19
  go_wp2_with fail
  clear hq19
  refine (C6.out _).mono ?_
  rintro r w20 ⟨rfl, hb⟩
  have D21 := ds D18 hb
  clear D18
  clear hb
  have hq22 := (kb K1 D21).cellsL 6 (vl A.b) rfl
  dsimp only [CellsL, al, vl, Nat.reduceAdd] at hq22
  go_wp2_with fail
  clear hq22
  refine (C7.out _).mono ?_
  rintro r w23 ⟨rfl, hb⟩
  have D24 := ds D21 hb
  clear D21
  clear hb
  go_wp2_with fail
  go_ret
  exact ⟨rfl, below_step HB.out D24.out⟩
set_option maxRecDepth 100000 in
set_option maxHeartbeats 8000000 in
theorem xformSame_w4 (P : V3) (A : Af) (p q r : Nat) (hp : p < 18446744073709551616) (hq : q < 18446744073709551616) (hr : r < 18446744073709551616) (hn : nmB p q r = true) (w0 : (P).wide = false) (w1 : (A.t).wide = false) (w2 : (A.a).wide = false) (w3 : (A.b).wide = false) (w4 : (A.c).wide = true) (w : World) : Calls Try.prog 4 #[Value.agg #[.float .f64 P.x.lo, .float .f64 P.x.hi, .float .f64 P.y.lo, .float .f64 P.y.hi, .float .f64 P.z.lo, .float .f64 P.z.hi], Value.agg #[.float .f64 A.a.x.lo, .float .f64 A.a.x.hi, .float .f64 A.a.y.lo, .float .f64 A.a.y.hi, .float .f64 A.a.z.lo, .float .f64 A.a.z.hi, .float .f64 A.b.x.lo, .float .f64 A.b.x.hi, .float .f64 A.b.y.lo, .float .f64 A.b.y.hi, .float .f64 A.b.z.lo, .float .f64 A.b.z.hi, .float .f64 A.c.x.lo, .float .f64 A.c.x.hi, .float .f64 A.c.y.lo, .float .f64 A.c.y.hi, .float .f64 A.c.z.lo, .float .f64 A.c.z.hi, .float .f64 A.t.x.lo, .float .f64 A.t.x.hi, .float .f64 A.t.y.lo, .float .f64 A.t.y.hi, .float .f64 A.t.z.lo, .float .f64 A.t.z.hi], Value.agg #[.float .f64 p, .float .f64 q, .float .f64 r]] w fun r w' => r = .returned (.bool true) ∧ Below w.heap.size w w' := by
  have C0 := Lib.hid (awake4)
  have C1 := Lib.hid (fun w => rvalidV_v P w)
  have C2 := Lib.hid (fun w => rvalidA_a A w)
  have C3 := Lib.hid (fun w => rnumbers_any p q r hp hq hr w)
  rw [hn] at C3
  have C4 := Lib.hid (fun w => rwideV_any P w)
  rw [w0] at C4
  have C5 := Lib.hid (fun w => rwideV_any A.t w)
  rw [w1] at C5
  have C6 := Lib.hid (fun w => rwideV_any A.a w)
  rw [w2] at C6
  have C7 := Lib.hid (fun w => rwideV_any A.b w)
  rw [w3] at C7
  have C8 := Lib.hid (fun w => rwideV_any A.c w)
  rw [w4] at C8
  go_enter Try.func4, Try.ntmps4
  go_wp2_with fail
  obtain ⟨W, hW, K0, K1, K2, hB, hz⟩ := bx3 w 26 29 38 (vc P) (ac A) #[.float .f64 p, .float .f64 q, .float .f64 r]
  rw [← hW]
  have K0 := Lib.hid K0
  have K1 := Lib.hid K1
  have K2 := Lib.hid K2
  have HB := Lib.hid hB
  clear hW hB hz
  have D1 := dr W
  refine (C0.out _).mono ?_
  rintro r w2 ⟨rfl, hb⟩
  have D3 := ds D1 hb
  clear D1
  clear hb
  have f4 := (kb K0 D3)
  go_wp2_with (refine wl_load (by kernel_rfl) rfl rfl f4 (by rw [info_V3]; rfl) Try.underlying26 rfl ?_)
  clear f4
  refine (C1.out _).mono ?_
  rintro r w5 ⟨rfl, hb⟩
  have D6 := ds D3 hb
  clear D3
  clear hb
  have f7 := (kb K1 D6)
  go_wp2_with (refine wl_load (by kernel_rfl) rfl rfl f7 (by rw [info_Affine]; rfl) Try.underlying29 rfl ?_)
  clear f7
  refine (C2.out _).mono ?_
  rintro r w8 ⟨rfl, hb⟩
  have D9 := ds D6 hb
  clear D6
  clear hb
  have hq10 := (kb K2 D9).cellsL 0 [.float .f64 p, .float .f64 q, .float .f64 r] rfl
  dsimp only [CellsL, al, vl, Nat.reduceAdd] at hq10
  go_wp2_with fail
  clear hq10
  refine (C3.out _).mono ?_
  rintro r w11 ⟨rfl, hb⟩
  have D12 := ds D9 hb
  clear D9
  clear hb
  have f13 := (kb K0 D12)
  go_wp2_with (refine wl_load (by kernel_rfl) rfl rfl f13 (by rw [info_V3]; rfl) Try.underlying26 rfl ?_)
  clear f13
  refine (C4.out _).mono ?_
  rintro r w14 ⟨rfl, hb⟩
  have D15 := ds D12 hb
  clear D12
  clear hb
  have hq16 := (kb K1 D15).cellsL 18 (vl A.t) rfl
  dsimp only [CellsL, al, vl, Nat.reduceAdd] at hq16
  go_wp2_with fail
  clear hq16
  refine (C5.out _).mono ?_
  rintro r w17 ⟨rfl, hb⟩
  have D18 := ds D15 hb
  clear D15
  clear hb
  have hq19 := (kb K1 D18).cellsL 0 (vl A.a) rfl
  dsimp only [CellsL, al, vl, Nat.reduceAdd] at hq19
  go_wp2_with fail
  clear hq19
  refine (C6.out _).mono ?_
  rintro r w20 ⟨rfl, hb⟩
  have D21 := ds D18 hb
  clear D18
  clear hb
  have hq22 := (kb K1 D21).cellsL 6 (vl A.b) rfl
  dsimp only [CellsL, al, vl, Nat.reduceAdd] at hq22
  go_wp2_with fail
  clear hq22
  refine (C7.out _).mono ?_
  rintro r w23 ⟨rfl, hb⟩
  have D24 := ds D21 hb
  clear D21
  clear hb
  have hq25 := (kb K1 D24).cellsL 12 (vl A.c) rfl
  dsimp only [CellsL, al, vl, Nat.reduceAdd] at hq25
  go_wp2_with fail
  clear hq25
  refine (C8.out _).mono ?_
  rintro r w26 ⟨rfl, hb⟩
  have D27 := ds D24 hb
  clear D24
  clear hb
  go_wp2_with fail
  go_ret
  exact ⟨rfl, below_step HB.out D27.out⟩
theorem nm_gd {p q r : Nat} (hp : p < 18446744073709551616) (hq : q < 18446744073709551616) (hr : r < 18446744073709551616) (h : nmB p q r = true) : Gd p ∧ Gd q ∧ Gd r := by
  unfold nmB at h
  have ⟨⟨h1, h2⟩, h3⟩ : (vdB p p = true ∧ vdB q q = true) ∧ vdB r r = true := by simpa using h
  exact ⟨(vdB_true hp hp h1).l, (vdB_true hq hq h2).l, (vdB_true hr hr h3).l⟩
set_option maxRecDepth 100000 in
set_option maxHeartbeats 8000000 in
theorem xformSame_y (P : V3) (A : Af) (p q r : Nat) (hp : p < 18446744073709551616) (hq : q < 18446744073709551616) (hr : r < 18446744073709551616) (hn : nmB p q r = true) (w0 : (P).wide = false) (w1 : (A.t).wide = false) (w2 : (A.a).wide = false) (w3 : (A.b).wide = false) (w4 : (A.c).wide = false) (w : World) : Calls Try.prog 4 #[Value.agg #[.float .f64 P.x.lo, .float .f64 P.x.hi, .float .f64 P.y.lo, .float .f64 P.y.hi, .float .f64 P.z.lo, .float .f64 P.z.hi], Value.agg #[.float .f64 A.a.x.lo, .float .f64 A.a.x.hi, .float .f64 A.a.y.lo, .float .f64 A.a.y.hi, .float .f64 A.a.z.lo, .float .f64 A.a.z.hi, .float .f64 A.b.x.lo, .float .f64 A.b.x.hi, .float .f64 A.b.y.lo, .float .f64 A.b.y.hi, .float .f64 A.b.z.lo, .float .f64 A.b.z.hi, .float .f64 A.c.x.lo, .float .f64 A.c.x.hi, .float .f64 A.c.y.lo, .float .f64 A.c.y.hi, .float .f64 A.c.z.lo, .float .f64 A.c.z.hi, .float .f64 A.t.x.lo, .float .f64 A.t.x.hi, .float .f64 A.t.y.lo, .float .f64 A.t.y.hi, .float .f64 A.t.z.lo, .float .f64 A.t.z.hi], Value.agg #[.float .f64 p, .float .f64 q, .float .f64 r]] w fun r w' => r = .returned (.bool true) ∧ Below w.heap.size w w' := by
  have ⟨gp, gq, gr⟩ := nm_gd hp hq hr hn
  have dp := ng_sub p hp gp.nn
  have mp := fun (t : TypeId) (w : World) => run_float_arith (P := Try.prog) w .sub t .f64 _ _ _ dp
  have np := gp.ng.lt
  clear dp
  have dq := ng_sub q hq gq.nn
  have mq := fun (t : TypeId) (w : World) => run_float_arith (P := Try.prog) w .sub t .f64 _ _ _ dq
  have nq := gq.ng.lt
  clear dq
  have dr := ng_sub r hr gr.nn
  have mr := fun (t : TypeId) (w : World) => run_float_arith (P := Try.prog) w .sub t .f64 _ _ _ dr
  have nr := gr.ng.lt
  clear dr
  have C0 := Lib.hid (awake4)
  have C1 := Lib.hid (fun w => rvalidV_v P w)
  have C2 := Lib.hid (fun w => rvalidA_a A w)
  have C3 := Lib.hid (fun w => rnumbers_any p q r hp hq hr w)
  rw [hn] at C3
  have C4 := Lib.hid (fun w => rwideV_any P w)
  rw [w0] at C4
  have C5 := Lib.hid (fun w => rwideV_any A.t w)
  rw [w1] at C5
  have C6 := Lib.hid (fun w => rwideV_any A.a w)
  rw [w2] at C6
  have C7 := Lib.hid (fun w => rwideV_any A.b w)
  rw [w3] at C7
  have C8 := Lib.hid (fun w => rwideV_any A.c w)
  rw [w4] at C8
  have C9 := Lib.hid (fun w => sameA_any w)
  obtain ⟨p9, hp9⟩ : ∃ z_, afSame = z_ := ⟨_, rfl⟩
  rw [hp9] at C9
  have C10 := Lib.hid (fun w => ptA_any p9 P w)
  have hl : afPt p9 P = P := by rw [← hp9]; exact same_pt w0
  rw [hl] at C10
  clear hl
  have C11 := Lib.hid (fun w => rsameV_self P w)
  have C12 := Lib.hid (fun w => vecA_any p9 P w)
  have hl : afVec p9 P = P := by rw [← hp9]; exact same_vec w0
  rw [hl] at C12
  clear hl
  have C13 := Lib.hid (fun w => rsameV_self P w)
  have C14 := Lib.hid (fun w => thenA_any p9 A w)
  have hl : afThen p9 A = A := by rw [← hp9]; exact same_then w2 w3 w4 w1
  rw [hl] at C14
  clear hl
  have C15 := Lib.hid (fun w => requalA_self A w)
  have C16 := Lib.hid (fun w => moveA_any (ng p) (ng q) (ng r) np nq nr w)
  obtain ⟨p16, hp16⟩ : ∃ z_, afMove (ng p) (ng q) (ng r) = z_ := ⟨_, rfl⟩
  rw [hp16] at C16
  have C17 := Lib.hid (fun w => moveA_any p q r hp hq hr w)
  obtain ⟨p17, hp17⟩ : ∃ z_, afMove p q r = z_ := ⟨_, rfl⟩
  rw [hp17] at C17
  have C18 := Lib.hid (fun w => ptA_any p17 P w)
  obtain ⟨p18, hp18⟩ : ∃ z_, afPt p17 P = z_ := ⟨_, rfl⟩
  rw [hp18] at C18
  have C19 := Lib.hid (fun w => ptA_any p16 p18 w)
  obtain ⟨p19, hp19⟩ : ∃ z_, afPt p16 p18 = z_ := ⟨_, rfl⟩
  rw [hp19] at C19
  have C20 := Lib.hid (fun w => rwithinV_any P p19 (by rw [← hp19, ← hp18, ← hp17, ← hp16]; exact move_back w0 (fv_ng p) (fv_ng q) (fv_ng r)) w)
  clear hp9 hp16 hp17 hp18 hp19
  go_enter Try.func4, Try.ntmps4
  go_wp2_with fail
  obtain ⟨W, hW, K0, K1, K2, hB, hz⟩ := bx3 w 26 29 38 (vc P) (ac A) #[.float .f64 p, .float .f64 q, .float .f64 r]
  rw [← hW]
  have K0 := Lib.hid K0
  have K1 := Lib.hid K1
  have K2 := Lib.hid K2
  have HB := Lib.hid hB
  clear hW hB hz
  have D1 := dr W
  refine (C0.out _).mono ?_
  rintro r w2 ⟨rfl, hb⟩
  have D3 := ds D1 hb
  clear D1
  clear hb
  have f4 := (kb K0 D3)
  go_wp2_with (refine wl_load (by kernel_rfl) rfl rfl f4 (by rw [info_V3]; rfl) Try.underlying26 rfl ?_)
  clear f4
  refine (C1.out _).mono ?_
  rintro r w5 ⟨rfl, hb⟩
  have D6 := ds D3 hb
  clear D3
  clear hb
  have f7 := (kb K1 D6)
  go_wp2_with (refine wl_load (by kernel_rfl) rfl rfl f7 (by rw [info_Affine]; rfl) Try.underlying29 rfl ?_)
  clear f7
  refine (C2.out _).mono ?_
  rintro r w8 ⟨rfl, hb⟩
  have D9 := ds D6 hb
  clear D6
  clear hb
  have hq10 := (kb K2 D9).cellsL 0 [.float .f64 p, .float .f64 q, .float .f64 r] rfl
  dsimp only [CellsL, al, vl, Nat.reduceAdd] at hq10
  go_wp2_with fail
  clear hq10
  refine (C3.out _).mono ?_
  rintro r w11 ⟨rfl, hb⟩
  have D12 := ds D9 hb
  clear D9
  clear hb
  have f13 := (kb K0 D12)
  go_wp2_with (refine wl_load (by kernel_rfl) rfl rfl f13 (by rw [info_V3]; rfl) Try.underlying26 rfl ?_)
  clear f13
  refine (C4.out _).mono ?_
  rintro r w14 ⟨rfl, hb⟩
  have D15 := ds D12 hb
  clear D12
  clear hb
  have hq16 := (kb K1 D15).cellsL 18 (vl A.t) rfl
  dsimp only [CellsL, al, vl, Nat.reduceAdd] at hq16
  go_wp2_with fail
  clear hq16
  refine (C5.out _).mono ?_
  rintro r w17 ⟨rfl, hb⟩
  have D18 := ds D15 hb
  clear D15
  clear hb
  have hq19 := (kb K1 D18).cellsL 0 (vl A.a) rfl
  dsimp only [CellsL, al, vl, Nat.reduceAdd] at hq19
  go_wp2_with fail
  clear hq19
  refine (C6.out _).mono ?_
  rintro r w20 ⟨rfl, hb⟩
  have D21 := ds D18 hb
  clear D18
  clear hb
  have hq22 := (kb K1 D21).cellsL 6 (vl A.b) rfl
  dsimp only [CellsL, al, vl, Nat.reduceAdd] at hq22
  go_wp2_with fail
  clear hq22
  refine (C7.out _).mono ?_
  rintro r w23 ⟨rfl, hb⟩
  have D24 := ds D21 hb
  clear D21
  clear hb
  have hq25 := (kb K1 D24).cellsL 12 (vl A.c) rfl
  dsimp only [CellsL, al, vl, Nat.reduceAdd] at hq25
  go_wp2_with fail
  clear hq25
  refine (C8.out _).mono ?_
  rintro r w26 ⟨rfl, hb⟩
  have D27 := ds D24 hb
  clear D24
  clear hb
  go_wp2_with fail
  refine (C9.out _).mono ?_
  rintro r w28 ⟨rfl, hb⟩
  have D29 := ds D27 hb
  clear D27
  clear hb
  obtain ⟨g30, hg32⟩ : ∃ g, w28.heap.size = g := ⟨_, rfl⟩
  have Y34 := Lib.hid (show w.heap.size + 1 + 1 < g30 by rw [← hg32]; exact (kb K2 D29).lt)
  obtain ⟨V31, hV33⟩ : ∃ V, w28.alloc (.cells #[.float .f64 0, .float .f64 0, .float .f64 0, .float .f64 0, .float .f64 0, .float .f64 0, .float .f64 0, .float .f64 0, .float .f64 0, .float .f64 0, .float .f64 0, .float .f64 0, .float .f64 0, .float .f64 0, .float .f64 0, .float .f64 0, .float .f64 0, .float .f64 0, .float .f64 0, .float .f64 0, .float .f64 0, .float .f64 0, .float .f64 0, .float .f64 0] 29) = V := ⟨_, rfl⟩
  have K35 := ka hV33 K0 D29
  have K36 := ka hV33 K1 D29
  have K37 := ka hV33 K2 D29
  have K38 := kn hV33 hg32
  have HB39 := hba hV33 HB D29
  have D40 := dr V31
  clear K0 K1 K2 HB D29
  have f43 := (kb K38 D40)
  obtain ⟨V41, hV42⟩ : ∃ V, World.setRow V31 (g30) (ac p9) = V := ⟨_, rfl⟩
  have K44 := kfr hV42 K35 D40 (by have := Y34.out; omega)
  have K45 := kfr hV42 K36 D40 (by have := Y34.out; omega)
  have K46 := kfr hV42 K37 D40 (by have := Y34.out; omega)
  have K47 := ksr hV42 K38 D40
  have HB48 := hbr hV42 HB39 D40 (by have := Y34.out; omega)
  have D49 := dr V41
  clear K35 K36 K37 K38 HB39 D40
  go_wp2_with (refine wpList_store_row rfl 29 _ _ rfl (g30) (ac p9) rfl rfl _ _ f43 (by rw [info_Affine]; rfl) rfl (by kernel_rfl) ?_; rw [hV42])
  clear hg32 hV33 hV42 f43
  refine wp_region_held (S := (fun w' => True ∧ Blk w' (w.heap.size) 26 (vc P) ∧ Blk w' (w.heap.size + 1) 29 (ac A) ∧ Blk w' (g30) 29 (ac p9))) (by kernel_rfl) ?_
  change wpAnyH _ _ _ _ _ _ _ _ (World.drew _)
  obtain ⟨wd50, hwd⟩ : ∃ x, x = World.drew V41 := ⟨_, rfl⟩
  rw [← hwd]
  have D51 := Lib.hid (hwd ▸ Below.drew D49.out : Below V41.heap.size V41 wd50)
  clear D49 hwd
  have hS52 : True ∧ Blk wd50 (w.heap.size) 26 (vc P) ∧ Blk wd50 (w.heap.size + 1) 29 (ac A) ∧ Blk wd50 (g30) 29 (ac p9) := ⟨trivial, (kb K44 D51), (kb K45 D51), (kb K47 D51)⟩
  refine tkL 0 (bm 22 1) ?aq53 rfl (by kernel_rfl) (fun _ _ _ h => h) (by kernel_rfl) rfl rfl (fun _ hS => hS.2.2.2) (by rw [info_Affine]; rfl) Try.underlying29 rfl ?pq53 hS52 ?rq53
  case pq53 => (go_simp; try with_reducible rfl)
  refine tkL 1 (bm 22 3) ?aq54 rfl (by kernel_rfl) (fun _ _ _ h => h) (by kernel_rfl) rfl rfl (fun _ hS => hS.2.1) (by rw [info_V3]; rfl) Try.underlying26 rfl ?pq54 hS52 ?rq54
  case pq54 => (go_simp; try with_reducible rfl)
  refine tkL 3 (bm 22 11) ?aq55 rfl (by kernel_rfl) (fun _ _ _ h => h) (by kernel_rfl) rfl rfl (fun _ hS => hS.2.1) (by rw [info_V3]; rfl) Try.underlying26 rfl ?pq55 hS52 ?rq55
  case pq55 => (go_simp; try with_reducible rfl)
  refine wpAnyH_oneN (i := 2) (l' := bm 22 15) rfl (by kernel_rfl) (by kernel_rfl) (by kernel_rfl) (fun K hK => ?_)
  go_simp
  go_at_call 17
  refine (C10.out _).mono ?_
  rintro r w56 ⟨rfl, hb⟩
  dsimp only
  have D57 := ds D51 hb
  clear D51
  clear hb
  have hS58 : True ∧ Blk w56 (w.heap.size) 26 (vc P) ∧ Blk w56 (w.heap.size + 1) 29 (ac A) ∧ Blk w56 (g30) 29 (ac p9) := ⟨trivial, (kb K44 D57), (kb K45 D57), (kb K47 D57)⟩
  refine hK _ _ hS58 ?_
  clear hK K hS52
  refine wpAnyH_oneN (i := 4) (l' := bm 22 31) rfl (by kernel_rfl) (by kernel_rfl) (by kernel_rfl) (fun K hK => ?_)
  go_simp
  go_at_call 23
  refine (C11.out _).mono ?_
  rintro r w59 ⟨rfl, hb⟩
  dsimp only
  have D60 := ds D57 hb
  clear D57
  clear hb
  have hS61 : True ∧ Blk w59 (w.heap.size) 26 (vc P) ∧ Blk w59 (w.heap.size + 1) 29 (ac A) ∧ Blk w59 (g30) 29 (ac p9) := ⟨trivial, (kb K44 D60), (kb K45 D60), (kb K47 D60)⟩
  refine hK _ _ hS61 ?_
  clear hK K hS58
  refine tk 5 (bm 22 63) ?vq62 ?aq62 rfl (by kernel_rfl) (fun _ _ _ h => h) (by kernel_rfl) ?hq62 ?pq62 hS61 ?rq62
  case hq62 => (intro w hS; go_simp; try with_reducible rfl)
  case pq62 => (go_simp; try with_reducible rfl)
  refine tk 6 (bm 22 127) ?vq63 ?aq63 rfl (by kernel_rfl) (fun _ _ _ h => h) (by kernel_rfl) ?hq63 ?pq63 hS61 ?rq63
  case hq63 => (intro w hS; go_simp; try with_reducible rfl)
  case pq63 => (go_simp; try with_reducible rfl)
  refine tkL 7 (bm 22 255) ?aq64 rfl (by kernel_rfl) (fun _ _ _ h => h) (by kernel_rfl) rfl rfl (fun _ hS => hS.2.2.2) (by rw [info_Affine]; rfl) Try.underlying29 rfl ?pq64 hS61 ?rq64
  case pq64 => (go_simp; try with_reducible rfl)
  refine tkL 8 (bm 22 511) ?aq65 rfl (by kernel_rfl) (fun _ _ _ h => h) (by kernel_rfl) rfl rfl (fun _ hS => hS.2.1) (by rw [info_V3]; rfl) Try.underlying26 rfl ?pq65 hS61 ?rq65
  case pq65 => (go_simp; try with_reducible rfl)
  refine tkL 10 (bm 22 1535) ?aq66 rfl (by kernel_rfl) (fun _ _ _ h => h) (by kernel_rfl) rfl rfl (fun _ hS => hS.2.1) (by rw [info_V3]; rfl) Try.underlying26 rfl ?pq66 hS61 ?rq66
  case pq66 => (go_simp; try with_reducible rfl)
  refine wpAnyH_oneN (i := 9) (l' := bm 22 2047) rfl (by kernel_rfl) (by kernel_rfl) (by kernel_rfl) (fun K hK => ?_)
  go_simp
  go_at_call 19
  refine (C12.out _).mono ?_
  rintro r w67 ⟨rfl, hb⟩
  dsimp only
  have D68 := ds D60 hb
  clear D60
  clear hb
  have hS69 : True ∧ Blk w67 (w.heap.size) 26 (vc P) ∧ Blk w67 (w.heap.size + 1) 29 (ac A) ∧ Blk w67 (g30) 29 (ac p9) := ⟨trivial, (kb K44 D68), (kb K45 D68), (kb K47 D68)⟩
  refine hK _ _ hS69 ?_
  clear hK K hS61
  refine wpAnyH_oneN (i := 11) (l' := bm 22 4095) rfl (by kernel_rfl) (by kernel_rfl) (by kernel_rfl) (fun K hK => ?_)
  go_simp
  go_at_call 23
  refine (C13.out _).mono ?_
  rintro r w70 ⟨rfl, hb⟩
  dsimp only
  have D71 := ds D68 hb
  clear D68
  clear hb
  have hS72 : True ∧ Blk w70 (w.heap.size) 26 (vc P) ∧ Blk w70 (w.heap.size + 1) 29 (ac A) ∧ Blk w70 (g30) 29 (ac p9) := ⟨trivial, (kb K44 D71), (kb K45 D71), (kb K47 D71)⟩
  refine hK _ _ hS72 ?_
  clear hK K hS69
  refine tk 12 (bm 22 8191) ?vq73 ?aq73 rfl (by kernel_rfl) (fun _ _ _ h => h) (by kernel_rfl) ?hq73 ?pq73 hS72 ?rq73
  case hq73 => (intro w hS; go_simp; try with_reducible rfl)
  case pq73 => (go_simp; try with_reducible rfl)
  refine tk 13 (bm 22 16383) ?vq74 ?aq74 rfl (by kernel_rfl) (fun _ _ _ h => h) (by kernel_rfl) ?hq74 ?pq74 hS72 ?rq74
  case hq74 => (intro w hS; go_simp; try with_reducible rfl)
  case pq74 => (go_simp; try with_reducible rfl)
  refine tk 14 (bm 22 32767) ?vq75 ?aq75 rfl (by kernel_rfl) (fun _ _ _ h => h) (by kernel_rfl) ?hq75 ?pq75 hS72 ?rq75
  case hq75 => (intro w hS; go_simp; try with_reducible rfl)
  case pq75 => (go_simp; try with_reducible rfl)
  refine tkL 15 (bm 22 65535) ?aq76 rfl (by kernel_rfl) (fun _ _ _ h => h) (by kernel_rfl) rfl rfl (fun _ hS => hS.2.2.2) (by rw [info_Affine]; rfl) Try.underlying29 rfl ?pq76 hS72 ?rq76
  case pq76 => (go_simp; try with_reducible rfl)
  refine tkL 16 (bm 22 131071) ?aq77 rfl (by kernel_rfl) (fun _ _ _ h => h) (by kernel_rfl) rfl rfl (fun _ hS => hS.2.2.1) (by rw [info_Affine]; rfl) Try.underlying29 rfl ?pq77 hS72 ?rq77
  case pq77 => (go_simp; try with_reducible rfl)
  refine tkL 18 (bm 22 393215) ?aq78 rfl (by kernel_rfl) (fun _ _ _ h => h) (by kernel_rfl) rfl rfl (fun _ hS => hS.2.2.1) (by rw [info_Affine]; rfl) Try.underlying29 rfl ?pq78 hS72 ?rq78
  case pq78 => (go_simp; try with_reducible rfl)
  refine wpAnyH_oneN (i := 17) (l' := bm 22 524287) rfl (by kernel_rfl) (by kernel_rfl) (by kernel_rfl) (fun K hK => ?_)
  go_simp
  go_at_call 18
  refine (C14.out _).mono ?_
  rintro r w79 ⟨rfl, hb⟩
  dsimp only
  have D80 := ds D71 hb
  clear D71
  clear hb
  have hS81 : True ∧ Blk w79 (w.heap.size) 26 (vc P) ∧ Blk w79 (w.heap.size + 1) 29 (ac A) ∧ Blk w79 (g30) 29 (ac p9) := ⟨trivial, (kb K44 D80), (kb K45 D80), (kb K47 D80)⟩
  refine hK _ _ hS81 ?_
  clear hK K hS72
  refine wpAnyH_oneN (i := 19) (l' := bm 22 1048575) rfl (by kernel_rfl) (by kernel_rfl) (by kernel_rfl) (fun K hK => ?_)
  go_simp
  go_at_call 24
  refine (C15.out _).mono ?_
  rintro r w82 ⟨rfl, hb⟩
  dsimp only
  have D83 := ds D80 hb
  clear D80
  clear hb
  have hS84 : True ∧ Blk w82 (w.heap.size) 26 (vc P) ∧ Blk w82 (w.heap.size + 1) 29 (ac A) ∧ Blk w82 (g30) 29 (ac p9) := ⟨trivial, (kb K44 D83), (kb K45 D83), (kb K47 D83)⟩
  refine hK _ _ hS84 ?_
  clear hK K hS81
  refine tk 20 (bm 22 2097151) ?vq85 ?aq85 rfl (by kernel_rfl) (fun _ _ _ h => h) (by kernel_rfl) ?hq85 ?pq85 hS84 ?rq85
  case hq85 => (intro w hS; go_simp; try with_reducible rfl)
  case pq85 => (go_simp; try with_reducible rfl)
  refine tk 21 (bm 22 4194303) ?vq86 ?aq86 rfl (by kernel_rfl) (fun _ _ _ h => h) (by kernel_rfl) ?hq86 ?pq86 hS84 ?rq86
  case hq86 => (intro w hS; go_simp; try with_reducible rfl)
  case pq86 => (go_simp; try with_reducible rfl)
  refine wpAnyH_done (by kernel_rfl) ?_ _
  clear hS84
  have hq87 := (kb K46 D83).cellsL 0 [.float .f64 p, .float .f64 q, .float .f64 r] rfl
  dsimp only [CellsL, al, vl, Nat.reduceAdd] at hq87
  obtain ⟨g88, hg90⟩ : ∃ g, w82.heap.size = g := ⟨_, rfl⟩
  have Y92 := Lib.hid (show g30 < g88 by rw [← hg90]; exact (kb K47 D83).lt)
  obtain ⟨V89, hV91⟩ : ∃ V, w82.alloc (.cells #[.float .f64 0, .float .f64 0, .float .f64 0] 38) = V := ⟨_, rfl⟩
  have K93 := ka hV91 K44 D83
  have K94 := ka hV91 K45 D83
  have K95 := ka hV91 K46 D83
  have K96 := ka hV91 K47 D83
  have K97 := kn hV91 hg90
  have HB98 := hba hV91 HB48 D83
  have D99 := dr V89
  clear K44 K45 K46 K47 HB48 D83
  have Y100 := Lib.hid (And.intro Y34.out Y92.out)
  clear Y34 Y92
  have f103 := (kb K97 D99).cellsL 0 [.float .f64 0, .float .f64 0, .float .f64 0] rfl
  dsimp only [CellsL, al, vl, Nat.reduceAdd] at f103
  have u104 := (kb K97 D99).unfrozen
  obtain ⟨V101, hV102⟩ : ∃ V, setCells V89 (g88) 0 [.float .f64 (ng p), .float .f64 (ng q), .float .f64 (ng r)] = V := ⟨_, rfl⟩
  have hv105 := hV102
  simp only [setCells, Nat.reduceAdd] at hv105
  have K106 := kf hV102 K93 D99 (by have := Y100.out; omega)
  have K107 := kf hV102 K94 D99 (by have := Y100.out; omega)
  have K108 := kf hV102 K95 D99 (by have := Y100.out; omega)
  have K109 := kf hV102 K96 D99 (by have := Y100.out; omega)
  have K110 := Lib.hid (show Blk V101 (g88) 38 #[.float .f64 (ng p), .float .f64 (ng q), .float .f64 (ng r)] from (ks hV102 K97 D99).out)
  have HB111 := hbs hV102 HB98 D99 (by have := Y100.out; omega)
  have D112 := dr V101
  clear K93 K94 K95 K96 K97 HB98 D99
  go_wp2_with fail
  clear hq87 hg90 hV91 hV102 f103 u104 hv105
  refine wp_region_held (S := (fun w' => True ∧ Blk w' (w.heap.size) 26 (vc P) ∧ CellsL w' (w.heap.size + 1 + 1) 0 [.float .f64 p, .float .f64 q, .float .f64 r] ∧ CellsL w' (g88) 0 [.float .f64 (ng p), .float .f64 (ng q), .float .f64 (ng r)])) (by kernel_rfl) ?_
  change wpAnyH _ _ _ _ _ _ _ _ (World.drew _)
  obtain ⟨wd113, hwd⟩ : ∃ x, x = World.drew V101 := ⟨_, rfl⟩
  rw [← hwd]
  have D114 := Lib.hid (hwd ▸ Below.drew D112.out : Below V101.heap.size V101 wd113)
  clear D112 hwd
  have hS115 : True ∧ Blk wd113 (w.heap.size) 26 (vc P) ∧ CellsL wd113 (w.heap.size + 1 + 1) 0 [.float .f64 p, .float .f64 q, .float .f64 r] ∧ CellsL wd113 (g88) 0 [.float .f64 (ng p), .float .f64 (ng q), .float .f64 (ng r)] := ⟨trivial, (kb K106 D114), (kb K108 D114).cellsL 0 [.float .f64 p, .float .f64 q, .float .f64 r] rfl, (kb K110 D114).cellsL 0 [.float .f64 (ng p), .float .f64 (ng q), .float .f64 (ng r)] rfl⟩
  refine tkL 0 (bm 10 1) ?aq116 rfl (by kernel_rfl) (fun _ _ _ h => h) (by kernel_rfl) rfl rfl (fun _ hS => hS.2.1) (by rw [info_V3]; rfl) Try.underlying26 rfl ?pq116 hS115 ?rq116
  case pq116 => (go_simp; try with_reducible rfl)
  refine tk 1 (bm 10 3) ?vq117 ?aq117 rfl (by kernel_rfl) (fun _ _ _ h => h) (by kernel_rfl) ?hq117 ?pq117 hS115 ?rq117
  case hq117 => (intro w hS; dsimp only [CellsL, al, vl, Nat.reduceAdd] at hS; go_simp; try with_reducible rfl)
  case pq117 => (go_simp; try with_reducible rfl)
  refine tk 3 (bm 10 11) ?vq118 ?aq118 rfl (by kernel_rfl) (fun _ _ _ h => h) (by kernel_rfl) ?hq118 ?pq118 hS115 ?rq118
  case hq118 => (intro w hS; dsimp only [CellsL, al, vl, Nat.reduceAdd] at hS; go_simp; try with_reducible rfl)
  case pq118 => (go_simp; try with_reducible rfl)
  refine tkL 5 (bm 10 43) ?aq119 rfl (by kernel_rfl) (fun _ _ _ h => h) (by kernel_rfl) rfl rfl (fun _ hS => hS.2.1) (by rw [info_V3]; rfl) Try.underlying26 rfl ?pq119 hS115 ?rq119
  case pq119 => (go_simp; try with_reducible rfl)
  refine wpAnyH_oneN (i := 2) (l' := bm 10 47) rfl (by kernel_rfl) (by kernel_rfl) (by kernel_rfl) (fun K hK => ?_)
  go_simp
  go_at_call 26
  refine (C16.out _).mono ?_
  rintro r w120 ⟨rfl, hb⟩
  dsimp only
  have D121 := ds D114 hb
  clear D114
  clear hb
  have hS122 : True ∧ Blk w120 (w.heap.size) 26 (vc P) ∧ CellsL w120 (w.heap.size + 1 + 1) 0 [.float .f64 p, .float .f64 q, .float .f64 r] ∧ CellsL w120 (g88) 0 [.float .f64 (ng p), .float .f64 (ng q), .float .f64 (ng r)] := ⟨trivial, (kb K106 D121), (kb K108 D121).cellsL 0 [.float .f64 p, .float .f64 q, .float .f64 r] rfl, (kb K110 D121).cellsL 0 [.float .f64 (ng p), .float .f64 (ng q), .float .f64 (ng r)] rfl⟩
  refine hK _ _ hS122 ?_
  clear hK K hS115
  refine wpAnyH_oneN (i := 4) (l' := bm 10 63) rfl (by kernel_rfl) (by kernel_rfl) (by kernel_rfl) (fun K hK => ?_)
  go_simp
  go_at_call 26
  refine (C17.out _).mono ?_
  rintro r w123 ⟨rfl, hb⟩
  dsimp only
  have D124 := ds D121 hb
  clear D121
  clear hb
  have hS125 : True ∧ Blk w123 (w.heap.size) 26 (vc P) ∧ CellsL w123 (w.heap.size + 1 + 1) 0 [.float .f64 p, .float .f64 q, .float .f64 r] ∧ CellsL w123 (g88) 0 [.float .f64 (ng p), .float .f64 (ng q), .float .f64 (ng r)] := ⟨trivial, (kb K106 D124), (kb K108 D124).cellsL 0 [.float .f64 p, .float .f64 q, .float .f64 r] rfl, (kb K110 D124).cellsL 0 [.float .f64 (ng p), .float .f64 (ng q), .float .f64 (ng r)] rfl⟩
  refine hK _ _ hS125 ?_
  clear hK K hS122
  refine wpAnyH_oneN (i := 6) (l' := bm 10 127) rfl (by kernel_rfl) (by kernel_rfl) (by kernel_rfl) (fun K hK => ?_)
  go_simp
  go_at_call 17
  refine (C18.out _).mono ?_
  rintro r w126 ⟨rfl, hb⟩
  dsimp only
  have D127 := ds D124 hb
  clear D124
  clear hb
  have hS128 : True ∧ Blk w126 (w.heap.size) 26 (vc P) ∧ CellsL w126 (w.heap.size + 1 + 1) 0 [.float .f64 p, .float .f64 q, .float .f64 r] ∧ CellsL w126 (g88) 0 [.float .f64 (ng p), .float .f64 (ng q), .float .f64 (ng r)] := ⟨trivial, (kb K106 D127), (kb K108 D127).cellsL 0 [.float .f64 p, .float .f64 q, .float .f64 r] rfl, (kb K110 D127).cellsL 0 [.float .f64 (ng p), .float .f64 (ng q), .float .f64 (ng r)] rfl⟩
  refine hK _ _ hS128 ?_
  clear hK K hS125
  refine wpAnyH_oneN (i := 7) (l' := bm 10 255) rfl (by kernel_rfl) (by kernel_rfl) (by kernel_rfl) (fun K hK => ?_)
  go_simp
  go_at_call 17
  refine (C19.out _).mono ?_
  rintro r w129 ⟨rfl, hb⟩
  dsimp only
  have D130 := ds D127 hb
  clear D127
  clear hb
  have hS131 : True ∧ Blk w129 (w.heap.size) 26 (vc P) ∧ CellsL w129 (w.heap.size + 1 + 1) 0 [.float .f64 p, .float .f64 q, .float .f64 r] ∧ CellsL w129 (g88) 0 [.float .f64 (ng p), .float .f64 (ng q), .float .f64 (ng r)] := ⟨trivial, (kb K106 D130), (kb K108 D130).cellsL 0 [.float .f64 p, .float .f64 q, .float .f64 r] rfl, (kb K110 D130).cellsL 0 [.float .f64 (ng p), .float .f64 (ng q), .float .f64 (ng r)] rfl⟩
  refine hK _ _ hS131 ?_
  clear hK K hS128
  refine wpAnyH_oneN (i := 8) (l' := bm 10 511) rfl (by kernel_rfl) (by kernel_rfl) (by kernel_rfl) (fun K hK => ?_)
  go_simp
  go_at_call 25
  refine (C20.out _).mono ?_
  rintro r w132 ⟨rfl, hb⟩
  dsimp only
  have D133 := ds D130 hb
  clear D130
  clear hb
  have hS134 : True ∧ Blk w132 (w.heap.size) 26 (vc P) ∧ CellsL w132 (w.heap.size + 1 + 1) 0 [.float .f64 p, .float .f64 q, .float .f64 r] ∧ CellsL w132 (g88) 0 [.float .f64 (ng p), .float .f64 (ng q), .float .f64 (ng r)] := ⟨trivial, (kb K106 D133), (kb K108 D133).cellsL 0 [.float .f64 p, .float .f64 q, .float .f64 r] rfl, (kb K110 D133).cellsL 0 [.float .f64 (ng p), .float .f64 (ng q), .float .f64 (ng r)] rfl⟩
  refine hK _ _ hS134 ?_
  clear hK K hS131
  refine tk 9 (bm 10 1023) ?vq135 ?aq135 rfl (by kernel_rfl) (fun _ _ _ h => h) (by kernel_rfl) ?hq135 ?pq135 hS134 ?rq135
  case hq135 => (intro w hS; go_simp; try with_reducible rfl)
  case pq135 => (go_simp; try with_reducible rfl)
  refine wpAnyH_done (by kernel_rfl) ?_ _
  clear hS134
  go_wp2_with fail
  go_ret
  exact ⟨rfl, below_step HB111.out D133.out⟩
theorem walk_xformSame (x0 x1 x2 x3 x4 x5 a0 a1 a2 a3 a4 a5 a6 a7 a8 a9 a10 a11 a12 a13 a14 a15 a16 a17 a18 a19 a20 a21 a22 a23 p q r : Nat) (hx0 : x0 < 18446744073709551616) (hx1 : x1 < 18446744073709551616) (hx2 : x2 < 18446744073709551616) (hx3 : x3 < 18446744073709551616) (hx4 : x4 < 18446744073709551616) (hx5 : x5 < 18446744073709551616) (ha0 : a0 < 18446744073709551616) (ha1 : a1 < 18446744073709551616) (ha2 : a2 < 18446744073709551616) (ha3 : a3 < 18446744073709551616) (ha4 : a4 < 18446744073709551616) (ha5 : a5 < 18446744073709551616) (ha6 : a6 < 18446744073709551616) (ha7 : a7 < 18446744073709551616) (ha8 : a8 < 18446744073709551616) (ha9 : a9 < 18446744073709551616) (ha10 : a10 < 18446744073709551616) (ha11 : a11 < 18446744073709551616) (ha12 : a12 < 18446744073709551616) (ha13 : a13 < 18446744073709551616) (ha14 : a14 < 18446744073709551616) (ha15 : a15 < 18446744073709551616) (ha16 : a16 < 18446744073709551616) (ha17 : a17 < 18446744073709551616) (ha18 : a18 < 18446744073709551616) (ha19 : a19 < 18446744073709551616) (ha20 : a20 < 18446744073709551616) (ha21 : a21 < 18446744073709551616) (ha22 : a22 < 18446744073709551616) (ha23 : a23 < 18446744073709551616) (hp : p < 18446744073709551616) (hq : q < 18446744073709551616) (hr : r < 18446744073709551616) (w : World) : Calls Try.prog 4 #[.agg #[.float .f64 x0, .float .f64 x1, .float .f64 x2, .float .f64 x3, .float .f64 x4, .float .f64 x5], .agg #[.float .f64 a0, .float .f64 a1, .float .f64 a2, .float .f64 a3, .float .f64 a4, .float .f64 a5, .float .f64 a6, .float .f64 a7, .float .f64 a8, .float .f64 a9, .float .f64 a10, .float .f64 a11, .float .f64 a12, .float .f64 a13, .float .f64 a14, .float .f64 a15, .float .f64 a16, .float .f64 a17, .float .f64 a18, .float .f64 a19, .float .f64 a20, .float .f64 a21, .float .f64 a22, .float .f64 a23], .agg #[.float .f64 p, .float .f64 q, .float .f64 r]] w fun r w' => r = .returned (.bool true) ∧ Below w.heap.size w w' := by
  cases v0 : vdV x0 x1 x2 x3 x4 x5
  · exact xformSame_n0 x0 x1 x2 x3 x4 x5 a0 a1 a2 a3 a4 a5 a6 a7 a8 a9 a10 a11 a12 a13 a14 a15 a16 a17 a18 a19 a20 a21 a22 a23 p q r hx0 hx1 hx2 hx3 hx4 hx5 ha0 ha1 ha2 ha3 ha4 ha5 ha6 ha7 ha8 ha9 ha10 ha11 ha12 ha13 ha14 ha15 ha16 ha17 ha18 ha19 ha20 ha21 ha22 ha23 hp hq hr v0 w
  · cases v1 : vdA a0 a1 a2 a3 a4 a5 a6 a7 a8 a9 a10 a11 a12 a13 a14 a15 a16 a17 a18 a19 a20 a21 a22 a23
    · exact xformSame_n1 x0 x1 x2 x3 x4 x5 a0 a1 a2 a3 a4 a5 a6 a7 a8 a9 a10 a11 a12 a13 a14 a15 a16 a17 a18 a19 a20 a21 a22 a23 p q r hx0 hx1 hx2 hx3 hx4 hx5 ha0 ha1 ha2 ha3 ha4 ha5 ha6 ha7 ha8 ha9 ha10 ha11 ha12 ha13 ha14 ha15 ha16 ha17 ha18 ha19 ha20 ha21 ha22 ha23 hp hq hr v0 v1 w
    · cases v2 : nmB p q r
      · exact xformSame_n2 x0 x1 x2 x3 x4 x5 a0 a1 a2 a3 a4 a5 a6 a7 a8 a9 a10 a11 a12 a13 a14 a15 a16 a17 a18 a19 a20 a21 a22 a23 p q r hx0 hx1 hx2 hx3 hx4 hx5 ha0 ha1 ha2 ha3 ha4 ha5 ha6 ha7 ha8 ha9 ha10 ha11 ha12 ha13 ha14 ha15 ha16 ha17 ha18 ha19 ha20 ha21 ha22 ha23 hp hq hr v0 v1 v2 w
      · obtain ⟨P, rfl, rfl, rfl, rfl, rfl, rfl⟩ := v3_of hx0 hx1 hx2 hx3 hx4 hx5 v0
        obtain ⟨A, rfl, rfl, rfl, rfl, rfl, rfl, rfl, rfl, rfl, rfl, rfl, rfl, rfl, rfl, rfl, rfl, rfl, rfl, rfl, rfl, rfl, rfl, rfl, rfl⟩ := af_of ha0 ha1 ha2 ha3 ha4 ha5 ha6 ha7 ha8 ha9 ha10 ha11 ha12 ha13 ha14 ha15 ha16 ha17 ha18 ha19 ha20 ha21 ha22 ha23 v1
        cases w0 : (P).wide
        · cases w1 : (A.t).wide
          · cases w2 : (A.a).wide
            · cases w3 : (A.b).wide
              · cases w4 : (A.c).wide
                · exact xformSame_y P A p q r hp hq hr v2 w0 w1 w2 w3 w4 w
                · exact xformSame_w4 P A p q r hp hq hr v2 w0 w1 w2 w3 w4 w
              · exact xformSame_w3 P A p q r hp hq hr v2 w0 w1 w2 w3 w
            · exact xformSame_w2 P A p q r hp hq hr v2 w0 w1 w2 w
          · exact xformSame_w1 P A p q r hp hq hr v2 w0 w1 w
        · exact xformSame_w0 P A p q r hp hq hr v2 w0 w
end Go.Proofs.Ytdgaaceebghcpaa
