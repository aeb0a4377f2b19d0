/- Shaken: Sa Yc Uc Yf Ug Bs6. -/
import Derived.Test.YtnljfcebmgifdaaZRcf
set_option maxRecDepth 100000
set_option maxHeartbeats 8000000
set_option linter.unusedVariables false
set_option linter.unusedSimpArgs false
namespace Go.Proofs.Ytnljfcebmgifdaa
open Go.RowKit
theorem within_any (a b c d : Nat) (w : World) : Calls Try.prog 86 #[.agg #[.float .f64 a, .float .f64 b], .agg #[.float .f64 c, .float .f64 d]] w fun r w' => r = .returned (.bool (leF c a && leF b d)) ∧ ∃ o o', w' = (w.alloc o).alloc o' := by
 obtain ⟨p, hp⟩ : ∃ p, leF c a = p := ⟨_, rfl⟩
 obtain ⟨q, hq⟩ : ∃ p, leF b d = p := ⟨_, rfl⟩
 have E1 := hp
 have E2 := hq
 unfold leF at E1 E2
 rw [hp, hq]
 clear hp hq
 cases p
 · go_enter Try.func86, Try.ntmps86
   go_wp2_with fail
   go_ret
   exact ⟨rfl, ⟨_, _, rfl⟩⟩
 · go_enter Try.func86, Try.ntmps86
   go_wp2_with fail
   go_ret
   exact ⟨rfl, ⟨_, _, rfl⟩⟩
end Go.Proofs.Ytnljfcebmgifdaa
set_option linter.unusedVariables false
set_option linter.unusedSimpArgs false
namespace Go.Proofs.Ytnljfcebmgifdaa
open Fl
theorem InS.wi_of {x : Nat} {s : Sp} (h : InS (fv x) s) (hx : x < 18446744073709551616) (f : fin x = true) : Wi (ofS x) s := by
 have e : ofS x = oneS (pl x) (pl_gd hx (nan_of_fin f)) (pl_fin f) := by unfold ofS; rw [dif_pos ⟨hx, f⟩]
 rw [e]
 have ⟨h1, h2⟩ := h.wi f
 refine ⟨?_, ?_⟩
 · show Z s.lo ≤ Z (pl x)
   rw [Z_pl]; exact h1
 · show Z (pl x) ≤ Z s.hi
   rw [Z_pl]; exact h2
end Go.Proofs.Ytnljfcebmgifdaa
set_option linter.unusedVariables false
set_option linter.unusedSimpArgs false
namespace Go.Proofs.Ytnljfcebmgifdaa
open Go.RowKit Fl
theorem nm_fin {p q r : Nat} (hp : p < 18446744073709551616) (hq : q < 18446744073709551616) (hr : r < 18446744073709551616) (h : nmB p q r = true) : fin p = true ∧ fin q = true ∧ fin r = true := by
 unfold nmB at h
 have ⟨⟨h1, h2⟩, h3⟩ : (vdB p p = true ∧ vdB q q = true) ∧ vdB r r = true := by simpa using h
 have f : ∀ x, x < 18446744073709551616 → vdB x x = true → fin x = true := fun x hx hv => by
   have v := vdB_true hx hx hv
   refine fin_Z v.l.nn ?_ ?_
   · have := (Z_range v.l.nn).1
     have : Z x ≠ -(rv INF : Int) := fun k => v.hi (Z_eq_NI v.l k)
     omega
   · have := (Z_range v.l.nn).2
     have : Z x ≠ (rv INF : Int) := fun k => v.li (Z_eq_PI v.l k)
     omega
 exact ⟨f p hp h1, f q hq h2, f r hr h3⟩
end Go.Proofs.Ytnljfcebmgifdaa
set_option linter.unusedVariables false
set_option linter.unusedSimpArgs false
namespace Go.Proofs.Ytnljfcebmgifdaa
open Fl
theorem Z_two : Z W2 = 2 * ((2 ^ BB : Nat) : Int) := by rw [BB_eq]; decide +kernel
theorem fv_two : fv W2 = 2 := by
 have h : fv W2 = 2 * fv 4607182418800017408 := by
   unfold fv
   rw [Z_two, Z_one, Rat.intCast_mul, Rat.div_def, Rat.div_def, Rat.mul_assoc]
   rfl
 rw [h, fv_one, Rat.mul_one]
theorem in_two : InS 2 (ofS W2) := by have := in_of W2; rw [fv_two] at this; exact this
theorem InV.mir {x y z p q r : Rat} {n d : V3} (h : InV x y z n) (k : InV p q r d) :
   InV (p - x * (2 * (x * p + y * q + z * r))) (q - y * (2 * (x * p + y * q + z * r))) (r - z * (2 * (x * p + y * q + z * r))) (bdMir n d) :=
 k.sub (h.scale (in_mul in_two (h.dot k)))
theorem keep_mid {s : Sp} {v k m1 m2 : Rat} (h1 : InS (v + k * m1) s) (h2 : InS (v + k * m2) s) (l1 : 0 ≤ m1) (l2 : m2 ≤ 0) : InS v s := by
 rcases (Rat.le_total : (0 : Rat) ≤ k ∨ k ≤ 0) with e | e
 · exact h2.mid h1 (by have := Rat.mul_nonneg e (show (0 : Rat) ≤ -m2 by grind); grind) (by have := Rat.mul_nonneg e l1; grind)
 · have e' : (0 : Rat) ≤ -k := by grind
   exact h1.mid h2 (by have := Rat.mul_nonneg e' l1; grind) (by have := Rat.mul_nonneg e' (show (0 : Rat) ≤ -m2 by grind); grind)
/-- A mirrored direction is as long; mirrored again it is the one before. -/
theorem mir_keeps (n0 n1 n2 d0 d1 d2 : Nat) (hl : 0 < Z (vLen (vOf n0 n1 n2)).lo) :
   (∃ x, InS x (vSqr (vOf d0 d1 d2)) ∧ InS x (vSqr (bdMir (vUnit (vOf n0 n1 n2)) (vOf d0 d1 d2)))) ∧
   InV (fv d0) (fv d1) (fv d2) (bdMir (vUnit (vOf n0 n1 n2)) (bdMir (vUnit (vOf n0 n1 n2)) (vOf d0 d1 d2))) := by
 obtain ⟨a, b, ha, hb, ia, ib, ka, kb⟩ := unit_two n0 n1 n2 hl
 have iv := in_vof d0 d1 d2
 have ma := ia.mir iv
 have mb := ib.mir iv
 have sa := ma.sqr
 have sb := mb.sqr
 have ra := ia.mir ma
 have rb := ib.mir mb
 have s0 := iv.sqr
 generalize fv n0 = x at *
 generalize fv n1 = y at *
 generalize fv n2 = z at *
 generalize fv d0 = p at *
 generalize fv d1 = q at *
 generalize fv d2 = r at *
 obtain ⟨c, hc⟩ : ∃ c, c = x * p + y * q + z * r := ⟨_, rfl⟩
 obtain ⟨N, hN⟩ : ∃ N, N = (x * x + y * y + z * z) * (a * a) := ⟨_, rfl⟩
 obtain ⟨M, hM⟩ : ∃ M, M = (x * x + y * y + z * z) * (b * b) := ⟨_, rfl⟩
 rw [← hN] at ka
 rw [← hM] at kb
 have pa : 0 ≤ a * a * (N - 1) := Rat.mul_nonneg (sq_nonneg a) (by grind)
 have pb : b * b * (M - 1) ≤ 0 := by have := Rat.mul_nonneg (sq_nonneg b) (show (0 : Rat) ≤ 1 - M by grind); grind
 refine ⟨⟨p * p + q * q + r * r, s0, ?_⟩, ⟨?_, ?_, ?_⟩⟩
 · refine keep_mid (k := 4 * (c * c)) (m1 := a * a * (N - 1)) (m2 := b * b * (M - 1)) ?_ ?_ pa pb
   · rw [hc, hN]; grind
   · rw [hc, hM]; grind
 · refine keep_mid (k := 4 * (c * x)) (m1 := a * a * (N - 1)) (m2 := b * b * (M - 1)) ?_ ?_ pa pb
   · have := ra.x; rw [hc, hN]; grind
   · have := rb.x; rw [hc, hM]; grind
 · refine keep_mid (k := 4 * (c * y)) (m1 := a * a * (N - 1)) (m2 := b * b * (M - 1)) ?_ ?_ pa pb
   · have := ra.y; rw [hc, hN]; grind
   · have := rb.y; rw [hc, hM]; grind
 · refine keep_mid (k := 4 * (c * z)) (m1 := a * a * (N - 1)) (m2 := b * b * (M - 1)) ?_ ?_ pa pb
   · have := ra.z; rw [hc, hN]; grind
   · have := rb.z; rw [hc, hM]; grind
end Go.Proofs.Ytnljfcebmgifdaa
set_option linter.unusedVariables false
set_option linter.unusedSimpArgs false
namespace Go.Proofs.Ytnljfcebmgifdaa
open Go.RowKit Fl
theorem rwithin_sp {c a : Sp} (h : Wi c a) (w : World) : Calls Try.prog 86 #[.agg #[.float .f64 c.lo, .float .f64 c.hi], .agg #[.float .f64 a.lo, .float .f64 a.hi]] w fun r w' => r = .returned (.bool true) ∧ Below w.heap.size w w' := by
 have e : (leF a.lo c.lo && leF c.hi a.hi) = true := by rw [leF_gd a.vd.l c.vd.l, leF_gd c.vd.h a.vd.h, decide_eq_true h.lo, decide_eq_true h.hi]; rfl
 exact (within_any c.lo c.hi a.lo a.hi w).mono fun _ _ ⟨h, o, o', e'⟩ => ⟨by rw [h, e], e' ▸ below_new2 w o o'⟩
theorem rwithinV_any (c a : V3) (h : WiV c a) (w : World) : Calls Try.prog 45 #[Value.agg #[.float .f64 c.x.lo, .float .f64 c.x.hi, .float .f64 c.y.lo, .float .f64 c.y.hi, .float .f64 c.z.lo, .float .f64 c.z.hi], Value.agg #[.float .f64 a.x.lo, .float .f64 a.x.hi, .float .f64 a.y.lo, .float .f64 a.y.hi, .float .f64 a.z.lo, .float .f64 a.z.hi]] w fun r w' => r = .returned (.bool true) ∧ Below w.heap.size w w' := by
 have C0 := Lib.hid (fun w => rwithin_sp h.x w)
 have C1 := Lib.hid (fun w => rwithin_sp h.y w)
 have C2 := Lib.hid (fun w => rwithin_sp h.z w)
 go_enter Try.func45, Try.ntmps45
 go_wp2_with fail
 obtain ⟨W, hW, K0, K1, hB, hz⟩ := bx2 w 30 30 (vc c) (vc a)
 rw [← hW]
 have K0 := Lib.hid K0
 have K1 := Lib.hid K1
 have HB := Lib.hid hB
 clear hW hB hz
 have D1 := dr W
 refine (C0.out _).mono ?_
 rintro r w2 ⟨rfl, hb⟩
 have D3 := ds D1 hb
 clear D1
 clear hb
 have hq4 := (kb K0 D3).cellsL 2 [.float .f64 c.y.lo, .float .f64 c.y.hi] rfl
 dsimp only [CellsL, al, vl, Nat.reduceAdd] at hq4
 have hq5 := (kb K1 D3).cellsL 2 [.float .f64 a.y.lo, .float .f64 a.y.hi] rfl
 dsimp only [CellsL, al, vl, Nat.reduceAdd] at hq5
 go_wp2_with fail
 clear hq4 hq5
 refine (C1.out _).mono ?_
 rintro r w6 ⟨rfl, hb⟩
 have D7 := ds D3 hb
 clear D3
 clear hb
 have hq8 := (kb K0 D7).cellsL 4 [.float .f64 c.z.lo, .float .f64 c.z.hi] rfl
 dsimp only [CellsL, al, vl, Nat.reduceAdd] at hq8
 have hq9 := (kb K1 D7).cellsL 4 [.float .f64 a.z.lo, .float .f64 a.z.hi] rfl
 dsimp only [CellsL, al, vl, Nat.reduceAdd] at hq9
 go_wp2_with fail
 clear hq8 hq9
 refine (C2.out _).mono ?_
 rintro r w10 ⟨rfl, hb⟩
 have D11 := ds D7 hb
 clear D7
 clear hb
 go_wp2_with fail
 go_ret
 exact ⟨rfl, below_step HB.out D11.out⟩
end Go.Proofs.Ytnljfcebmgifdaa
set_option linter.unusedVariables false
set_option linter.unusedSimpArgs false
namespace Go.Proofs.Ytnljfcebmgifdaa
open Go.RowKit Fl
theorem le_yb {a b : Nat} (ha : Gd a) (hb : Gd b) (h : Z a ≤ Z b) : (FloatKind.f64.format.order a b == some .lt || FloatKind.f64.format.order a b == some .eq) = true := by
 rw [leb ha hb]; exact decide_eq_true h
theorem bsdfKeeps_n0 (n0 n1 n2 d0 d1 d2 : Nat) (hn0 : n0 < 18446744073709551616) (hn1 : n1 < 18446744073709551616) (hn2 : n2 < 18446744073709551616) (hd0 : d0 < 18446744073709551616) (hd1 : d1 < 18446744073709551616) (hd2 : d2 < 18446744073709551616) (v0 : nmB n0 n1 n2 = false) (w : World) : Calls Try.prog 7 #[Value.agg #[.float .f64 n0, .float .f64 n1, .float .f64 n2], Value.agg #[.float .f64 d0, .float .f64 d1, .float .f64 d2]] w fun r w' => r = .returned (.bool true) ∧ Below w.heap.size w w' := by
 have C0 := Lib.hid (awake12)
 have C1 := Lib.hid (fun w => rnumbers_any n0 n1 n2 hn0 hn1 hn2 w)
 rw [v0] at C1
 go_enter Try.func7, Try.ntmps7
 go_wp2_with fail
 obtain ⟨W, hW, K0, K1, hB, hz⟩ := bx2 w 24 24 #[.float .f64 n0, .float .f64 n1, .float .f64 n2] #[.float .f64 d0, .float .f64 d1, .float .f64 d2]
 rw [← hW]
 have K0 := Lib.hid K0
 have K1 := Lib.hid K1
 have HB := Lib.hid hB
 clear hW hB hz
 have D1 := dr W
 refine (C0.out _).mono ?_
 rintro r w2 ⟨rfl, hb⟩
 have D3 := ds D1 hb
 clear D1
 clear hb
 have hq4 := (kb K0 D3).cellsL 0 [.float .f64 n0, .float .f64 n1, .float .f64 n2] rfl
 dsimp only [CellsL, al, vl, Nat.reduceAdd] at hq4
 go_wp2_with fail
 clear hq4
 refine (C1.out _).mono ?_
 rintro r w5 ⟨rfl, hb⟩
 have D6 := ds D3 hb
 clear D3
 clear hb
 go_wp2_with fail
 go_ret
 exact ⟨rfl, below_step HB.out D6.out⟩
theorem bsdfKeeps_n1 (n0 n1 n2 d0 d1 d2 : Nat) (hn0 : n0 < 18446744073709551616) (hn1 : n1 < 18446744073709551616) (hn2 : n2 < 18446744073709551616) (hd0 : d0 < 18446744073709551616) (hd1 : d1 < 18446744073709551616) (hd2 : d2 < 18446744073709551616) (v0 : nmB n0 n1 n2 = true) (v1 : nmB d0 d1 d2 = false) (w : World) : Calls Try.prog 7 #[Value.agg #[.float .f64 n0, .float .f64 n1, .float .f64 n2], Value.agg #[.float .f64 d0, .float .f64 d1, .float .f64 d2]] w fun r w' => r = .returned (.bool true) ∧ Below w.heap.size w w' := by
 have C0 := Lib.hid (awake12)
 have C1 := Lib.hid (fun w => rnumbers_any n0 n1 n2 hn0 hn1 hn2 w)
 rw [v0] at C1
 have C2 := Lib.hid (fun w => rnumbers_any d0 d1 d2 hd0 hd1 hd2 w)
 rw [v1] at C2
 go_enter Try.func7, Try.ntmps7
 go_wp2_with fail
 obtain ⟨W, hW, K0, K1, hB, hz⟩ := bx2 w 24 24 #[.float .f64 n0, .float .f64 n1, .float .f64 n2] #[.float .f64 d0, .float .f64 d1, .float .f64 d2]
 rw [← hW]
 have K0 := Lib.hid K0
 have K1 := Lib.hid K1
 have HB := Lib.hid hB
 clear hW hB hz
 have D1 := dr W
 refine (C0.out _).mono ?_
 rintro r w2 ⟨rfl, hb⟩
 have D3 := ds D1 hb
 clear D1
 clear hb
 have hq4 := (kb K0 D3).cellsL 0 [.float .f64 n0, .float .f64 n1, .float .f64 n2] rfl
 dsimp only [CellsL, al, vl, Nat.reduceAdd] at hq4
 go_wp2_with fail
 clear hq4
 refine (C1.out _).mono ?_
 rintro r w5 ⟨rfl, hb⟩
 have D6 := ds D3 hb
 clear D3
 clear hb
 have hq7 := (kb K1 D6).cellsL 0 [.float .f64 d0, .float .f64 d1, .float .f64 d2] rfl
 dsimp only [CellsL, al, vl, Nat.reduceAdd] at hq7
 go_wp2_with fail
 clear hq7
 refine (C2.out _).mono ?_
 rintro r w8 ⟨rfl, hb⟩
 have D9 := ds D6 hb
 clear D6
 clear hb
 go_wp2_with fail
 go_ret
 exact ⟨rfl, below_step HB.out D9.out⟩
theorem mir_sh (n0 n1 n2 d0 d1 d2 : Nat) (hd0 : d0 < 18446744073709551616) (hd1 : d1 < 18446744073709551616) (hd2 : d2 < 18446744073709551616) (hnd : nmB d0 d1 d2 = true) (hl : 0 < Z (vLen (vOf n0 n1 n2)).lo) :
   Z (vSqr (vOf d0 d1 d2)).lo ≤ Z (vSqr (bdMir (vUnit (vOf n0 n1 n2)) (vOf d0 d1 d2))).hi ∧ Z (vSqr (bdMir (vUnit (vOf n0 n1 n2)) (vOf d0 d1 d2))).lo ≤ Z (vSqr (vOf d0 d1 d2)).hi ∧ WiV (vOf d0 d1 d2) (bdMir (vUnit (vOf n0 n1 n2)) (bdMir (vUnit (vOf n0 n1 n2)) (vOf d0 d1 d2))) := by
 obtain ⟨⟨x, h1, h2⟩, h3⟩ := mir_keeps n0 n1 n2 d0 d1 d2 hl
 have ⟨f0, f1, f2⟩ := nm_fin hd0 hd1 hd2 hnd
 exact ⟨h1.share h2, h2.share h1, ⟨InS.wi_of h3.x hd0 f0, InS.wi_of h3.y hd1 f1, InS.wi_of h3.z hd2 f2⟩⟩
theorem bsdfKeeps_z (n0 n1 n2 d0 d1 d2 : Nat) (hn0 : n0 < 18446744073709551616) (hn1 : n1 < 18446744073709551616) (hn2 : n2 < 18446744073709551616) (hd0 : d0 < 18446744073709551616) (hd1 : d1 < 18446744073709551616) (hd2 : d2 < 18446744073709551616) (hnn : nmB n0 n1 n2 = true) (hnd : nmB d0 d1 d2 = true) (h0 : Z (vLen (vOf n0 n1 n2)).lo ≤ 0) (w : World) : Calls Try.prog 7 #[Value.agg #[.float .f64 n0, .float .f64 n1, .float .f64 n2], Value.agg #[.float .f64 d0, .float .f64 d1, .float .f64 d2]] w fun r w' => r = .returned (.bool true) ∧ Below w.heap.size w w' := by
 have C0 := Lib.hid (awake12)
 have C1 := Lib.hid (fun w => rnumbers_any n0 n1 n2 hn0 hn1 hn2 w)
 rw [hnn] at C1
 have C2 := Lib.hid (fun w => rnumbers_any d0 d1 d2 hd0 hd1 hd2 w)
 rw [hnd] at C2
 have C3 := Lib.hid (fun w => rofV_any n0 n1 n2 hn0 hn1 hn2 w)
 obtain ⟨p3, hp3⟩ : ∃ z_, vOf n0 n1 n2 = z_ := ⟨_, rfl⟩
 rw [hp3] at C3
 have C4 := Lib.hid (fun w => runitV_any p3 w)
 obtain ⟨p4, hp4⟩ : ∃ z_, vUnit p3 = z_ := ⟨_, rfl⟩
 rw [hp4] at C4
 obtain ⟨q5_, hq5_⟩ : ∃ z_, vLen p3 = z_ := ⟨_, rfl⟩
 rw [hq5_] at C4
 have e6 : (FloatKind.f64.format.order q5_.lo 0 == some .lt || FloatKind.f64.format.order q5_.lo 0 == some .eq) = true := by
   have hl : Z q5_.lo ≤ 0 := by rw [← hq5_, ← hp3]; exact h0
   rw [le0_gd q5_.vd.l]; exact decide_eq_true hl
 clear hp3 hp4 hq5_
 go_enter Try.func7, Try.ntmps7
 go_wp2_with fail
 obtain ⟨W, hW, K0, K1, hB, hz⟩ := bx2 w 24 24 #[.float .f64 n0, .float .f64 n1, .float .f64 n2] #[.float .f64 d0, .float .f64 d1, .float .f64 d2]
 rw [← hW]
 have K0 := Lib.hid K0
 have K1 := Lib.hid K1
 have HB := Lib.hid hB
 clear hW hB hz
 have D1 := dr W
 refine (C0.out _).mono ?_
 rintro r w2 ⟨rfl, hb⟩
 have D3 := ds D1 hb
 clear D1
 clear hb
 have hq4 := (kb K0 D3).cellsL 0 [.float .f64 n0, .float .f64 n1, .float .f64 n2] rfl
 dsimp only [CellsL, al, vl, Nat.reduceAdd] at hq4
 go_wp2_with fail
 clear hq4
 refine (C1.out _).mono ?_
 rintro r w5 ⟨rfl, hb⟩
 have D6 := ds D3 hb
 clear D3
 clear hb
 have hq7 := (kb K1 D6).cellsL 0 [.float .f64 d0, .float .f64 d1, .float .f64 d2] rfl
 dsimp only [CellsL, al, vl, Nat.reduceAdd] at hq7
 go_wp2_with fail
 clear hq7
 refine (C2.out _).mono ?_
 rintro r w8 ⟨rfl, hb⟩
 have D9 := ds D6 hb
 clear D6
 clear hb
 have hq10 := (kb K0 D9).cellsL 0 [.float .f64 n0, .float .f64 n1, .float .f64 n2] rfl
 dsimp only [CellsL, al, vl, Nat.reduceAdd] at hq10
 go_wp2_with fail
 clear hq10
 refine (C3.out _).mono ?_
 rintro r w11 ⟨rfl, hb⟩
 have D12 := ds D9 hb
 clear D9
 clear hb
 go_wp2_with fail
 refine (C4.out _).mono ?_
 rintro r w13 ⟨rfl, hb⟩
 have D14 := ds D12 hb
 clear D12
 clear hb
 obtain ⟨g15, hg17⟩ : ∃ g, w13.heap.size = g := ⟨_, rfl⟩
 have Y19 := Lib.hid (show w.heap.size < g15 ∧ w.heap.size + 1 < g15 by rw [← hg17]; exact ⟨(kb K0 D14).lt, (kb K1 D14).lt⟩)
 obtain ⟨V16, hV18⟩ : ∃ V, w13.alloc (.cells #[.float .f64 0, .float .f64 0, .float .f64 0, .float .f64 0, .float .f64 0, .float .f64 0] 30) = V := ⟨_, rfl⟩
 have K20 := ka hV18 K0 D14
 have K21 := ka hV18 K1 D14
 have K22 := kn hV18 hg17
 have HB23 := hba hV18 HB D14
 have D24 := dr V16
 clear K0 K1 HB D14
 obtain ⟨g25, hg27⟩ : ∃ g, V16.heap.size = g := ⟨_, rfl⟩
 have Y29 := Lib.hid (show w.heap.size < g25 ∧ w.heap.size + 1 < g25 ∧ g15 < g25 by rw [← hg27]; exact ⟨(kb K20 D24).lt, (kb K21 D24).lt, (kb K22 D24).lt⟩)
 obtain ⟨V26, hV28⟩ : ∃ V, V16.alloc (.cells #[.float .f64 0, .float .f64 0] 28) = V := ⟨_, rfl⟩
 have K30 := ka hV28 K20 D24
 have K31 := ka hV28 K21 D24
 have K32 := ka hV28 K22 D24
 have K33 := kn hV28 hg27
 have HB34 := hba hV28 HB23 D24
 have D35 := dr V26
 clear K20 K21 K22 HB23 D24
 have Y36 := Lib.hid (And.intro Y19.out Y29.out)
 clear Y19 Y29
 have f39 := (kb K32 D35)
 obtain ⟨V37, hV38⟩ : ∃ V, World.setRow V26 (g15) (vc p4) = V := ⟨_, rfl⟩
 have K40 := kfr hV38 K30 D35 (by have := Y36.out; omega)
 have K41 := kfr hV38 K31 D35 (by have := Y36.out; omega)
 have K42 := ksr hV38 K32 D35
 have K43 := kfr hV38 K33 D35 (by have := Y36.out; omega)
 have HB44 := hbr hV38 HB34 D35 (by have := Y36.out; omega)
 have D45 := dr V37
 clear K30 K31 K32 K33 HB34 D35
 have f48 := (kb K43 D45).cellsL 0 [.float .f64 0, .float .f64 0] rfl
 dsimp only [CellsL, al, vl, Nat.reduceAdd] at f48
 have u49 := (kb K43 D45).unfrozen
 obtain ⟨V46, hV47⟩ : ∃ V, setCells V37 (g25) 0 [.float .f64 q5_.lo, .float .f64 q5_.hi] = V := ⟨_, rfl⟩
 have hv50 := hV47
 simp only [setCells, Nat.reduceAdd] at hv50
 have K51 := kf hV47 K40 D45 (by have := Y36.out; omega)
 have K52 := kf hV47 K41 D45 (by have := Y36.out; omega)
 have K53 := kf hV47 K42 D45 (by have := Y36.out; omega)
 have K54 := Lib.hid (show Blk V46 (g25) 28 #[.float .f64 q5_.lo, .float .f64 q5_.hi] from (ks hV47 K43 D45).out)
 have HB55 := hbs hV47 HB44 D45 (by have := Y36.out; omega)
 have D56 := dr V46
 clear K40 K41 K42 K43 HB44 D45
 have hq57 := (kb K54 D56).cellsL 0 [.float .f64 q5_.lo] rfl
 dsimp only [CellsL, al, vl, Nat.reduceAdd] at hq57
 go_wp2_with (refine wpList_store_row rfl 30 _ _ rfl (g15) (vc p4) rfl rfl _ _ f39 (by rw [info_V3]; rfl) rfl (by kernel_rfl) ?_; rw [hV38])
 clear hg17 hV18 hg27 hV28 hV38 f39 hV47 f48 u49 hv50 hq57
 go_ret
 exact ⟨rfl, below_step HB55.out D56.out⟩
theorem bsdfKeeps_k (n0 n1 n2 d0 d1 d2 : Nat) (hn0 : n0 < 18446744073709551616) (hn1 : n1 < 18446744073709551616) (hn2 : n2 < 18446744073709551616) (hd0 : d0 < 18446744073709551616) (hd1 : d1 < 18446744073709551616) (hd2 : d2 < 18446744073709551616) (hnn : nmB n0 n1 n2 = true) (hnd : nmB d0 d1 d2 = true) (h0 : 0 < Z (vLen (vOf n0 n1 n2)).lo) (w : World) : Calls Try.prog 7 #[Value.agg #[.float .f64 n0, .float .f64 n1, .float .f64 n2], Value.agg #[.float .f64 d0, .float .f64 d1, .float .f64 d2]] w fun r w' => r = .returned (.bool true) ∧ Below w.heap.size w w' := by
 have hk := mir_sh n0 n1 n2 d0 d1 d2 hd0 hd1 hd2 hnd h0
 have C0 := Lib.hid (awake12)
 have C1 := Lib.hid (fun w => rnumbers_any n0 n1 n2 hn0 hn1 hn2 w)
 rw [hnn] at C1
 have C2 := Lib.hid (fun w => rnumbers_any d0 d1 d2 hd0 hd1 hd2 w)
 rw [hnd] at C2
 have C3 := Lib.hid (fun w => rofV_any n0 n1 n2 hn0 hn1 hn2 w)
 obtain ⟨p3, hp3⟩ : ∃ z_, vOf n0 n1 n2 = z_ := ⟨_, rfl⟩
 rw [hp3] at C3
 have C4 := Lib.hid (fun w => runitV_any p3 w)
 obtain ⟨p4, hp4⟩ : ∃ z_, vUnit p3 = z_ := ⟨_, rfl⟩
 rw [hp4] at C4
 obtain ⟨q5_, hq5_⟩ : ∃ z_, vLen p3 = z_ := ⟨_, rfl⟩
 rw [hq5_] at C4
 have e6 : (FloatKind.f64.format.order q5_.lo 0 == some .lt || FloatKind.f64.format.order q5_.lo 0 == some .eq) = false := by
   have hl : ¬ Z q5_.lo ≤ 0 := by rw [← hq5_, ← hp3]; exact (by omega)
   rw [le0_gd q5_.vd.l]; exact decide_eq_false hl
 have C7 := Lib.hid (fun w => rofV_any d0 d1 d2 hd0 hd1 hd2 w)
 obtain ⟨p7, hp7⟩ : ∃ z_, vOf d0 d1 d2 = z_ := ⟨_, rfl⟩
 rw [hp7] at C7
 have C8 := Lib.hid (fun w => mirV_any p4 p7 w)
 obtain ⟨p8, hp8⟩ : ∃ z_, bdMir p4 p7 = z_ := ⟨_, rfl⟩
 rw [hp8] at C8
 have C9 := Lib.hid (fun w => rsqrV_any p7 w)
 obtain ⟨p9, hp9⟩ : ∃ z_, vSqr p7 = z_ := ⟨_, rfl⟩
 rw [hp9] at C9
 have C10 := Lib.hid (fun w => rsqrV_any p8 w)
 obtain ⟨p10, hp10⟩ : ∃ z_, vSqr p8 = z_ := ⟨_, rfl⟩
 rw [hp10] at C10
 have z1 : Z p9.lo ≤ Z p10.hi := by rw [← hp10, ← hp9, ← hp8, ← hp7, ← hp4, ← hp3]; exact hk.1
 have e1_ := le_yb p9.vd.l p10.vd.h z1
 clear z1
 have z2 : Z p10.lo ≤ Z p9.hi := by rw [← hp10, ← hp9, ← hp8, ← hp7, ← hp4, ← hp3]; exact hk.2.1
 have e2_ := le_yb p10.vd.l p9.vd.h z2
 clear z2
 have C11 := Lib.hid (fun w => mirV_any p4 p8 w)
 obtain ⟨p11, hp11⟩ : ∃ z_, bdMir p4 p8 = z_ := ⟨_, rfl⟩
 rw [hp11] at C11
 have C12 := Lib.hid (fun w => rwithinV_any p7 p11 (by rw [← hp11, ← hp8, ← hp7, ← hp4, ← hp3]; exact hk.2.2) w)
 clear hp3 hp4 hq5_ hp7 hp8 hp9 hp10 hp11
 go_enter Try.func7, Try.ntmps7
 go_wp2_with fail
 obtain ⟨W, hW, K0, K1, hB, hz⟩ := bx2 w 24 24 #[.float .f64 n0, .float .f64 n1, .float .f64 n2] #[.float .f64 d0, .float .f64 d1, .float .f64 d2]
 rw [← hW]
 have K0 := Lib.hid K0
 have K1 := Lib.hid K1
 have HB := Lib.hid hB
 clear hW hB hz
 have D1 := dr W
 refine (C0.out _).mono ?_
 rintro r w2 ⟨rfl, hb⟩
 have D3 := ds D1 hb
 clear D1
 clear hb
 have hq4 := (kb K0 D3).cellsL 0 [.float .f64 n0, .float .f64 n1, .float .f64 n2] rfl
 dsimp only [CellsL, al, vl, Nat.reduceAdd] at hq4
 go_wp2_with fail
 clear hq4
 refine (C1.out _).mono ?_
 rintro r w5 ⟨rfl, hb⟩
 have D6 := ds D3 hb
 clear D3
 clear hb
 have hq7 := (kb K1 D6).cellsL 0 [.float .f64 d0, .float .f64 d1, .float .f64 d2] rfl
 dsimp only [CellsL, al, vl, Nat.reduceAdd] at hq7
 go_wp2_with fail
 clear hq7
 refine (C2.out _).mono ?_
 rintro r w8 ⟨rfl, hb⟩
 have D9 := ds D6 hb
 clear D6
 clear hb
 have hq10 := (kb K0 D9).cellsL 0 [.float .f64 n0, .float .f64 n1, .float .f64 n2] rfl
 dsimp only [CellsL, al, vl, Nat.reduceAdd] at hq10
 go_wp2_with fail
 clear hq10
 refine (C3.out _).mono ?_
 rintro r w11 ⟨rfl, hb⟩
 have D12 := ds D9 hb
 clear D9
 clear hb
 go_wp2_with fail
 refine (C4.out _).mono ?_
 rintro r w13 ⟨rfl, hb⟩
 have D14 := ds D12 hb
 clear D12
 clear hb
 obtain ⟨g15, hg17⟩ : ∃ g, w13.heap.size = g := ⟨_, rfl⟩
 have Y19 := Lib.hid (show w.heap.size < g15 ∧ w.heap.size + 1 < g15 by rw [← hg17]; exact ⟨(kb K0 D14).lt, (kb K1 D14).lt⟩)
 obtain ⟨V16, hV18⟩ : ∃ V, w13.alloc (.cells #[.float .f64 0, .float .f64 0, .float .f64 0, .float .f64 0, .float .f64 0, .float .f64 0] 30) = V := ⟨_, rfl⟩
 have K20 := ka hV18 K0 D14
 have K21 := ka hV18 K1 D14
 have K22 := kn hV18 hg17
 have HB23 := hba hV18 HB D14
 have D24 := dr V16
 clear K0 K1 HB D14
 obtain ⟨g25, hg27⟩ : ∃ g, V16.heap.size = g := ⟨_, rfl⟩
 have Y29 := Lib.hid (show w.heap.size < g25 ∧ w.heap.size + 1 < g25 ∧ g15 < g25 by rw [← hg27]; exact ⟨(kb K20 D24).lt, (kb K21 D24).lt, (kb K22 D24).lt⟩)
 obtain ⟨V26, hV28⟩ : ∃ V, V16.alloc (.cells #[.float .f64 0, .float .f64 0] 28) = V := ⟨_, rfl⟩
 have K30 := ka hV28 K20 D24
 have K31 := ka hV28 K21 D24
 have K32 := ka hV28 K22 D24
 have K33 := kn hV28 hg27
 have HB34 := hba hV28 HB23 D24
 have D35 := dr V26
 clear K20 K21 K22 HB23 D24
 have Y36 := Lib.hid (And.intro Y19.out Y29.out)
 clear Y19 Y29
 have f39 := (kb K32 D35)
 obtain ⟨V37, hV38⟩ : ∃ V, World.setRow V26 (g15) (vc p4) = V := ⟨_, rfl⟩
 have K40 := kfr hV38 K30 D35 (by have := Y36.out; omega)
 have K41 := kfr hV38 K31 D35 (by have := Y36.out; omega)
 have K42 := ksr hV38 K32 D35
 have K43 := kfr hV38 K33 D35 (by have := Y36.out; omega)
 have HB44 := hbr hV38 HB34 D35 (by have := Y36.out; omega)
 have D45 := dr V37
 clear K30 K31 K32 K33 HB34 D35
 have f48 := (kb K43 D45).cellsL 0 [.float .f64 0, .float .f64 0] rfl
 dsimp only [CellsL, al, vl, Nat.reduceAdd] at f48
 have u49 := (kb K43 D45).unfrozen
 obtain ⟨V46, hV47⟩ : ∃ V, setCells V37 (g25) 0 [.float .f64 q5_.lo, .float .f64 q5_.hi] = V := ⟨_, rfl⟩
 have hv50 := hV47
 simp only [setCells, Nat.reduceAdd] at hv50
 have K51 := kf hV47 K40 D45 (by have := Y36.out; omega)
 have K52 := kf hV47 K41 D45 (by have := Y36.out; omega)
 have K53 := kf hV47 K42 D45 (by have := Y36.out; omega)
 have K54 := Lib.hid (show Blk V46 (g25) 28 #[.float .f64 q5_.lo, .float .f64 q5_.hi] from (ks hV47 K43 D45).out)
 have HB55 := hbs hV47 HB44 D45 (by have := Y36.out; omega)
 have D56 := dr V46
 clear K40 K41 K42 K43 HB44 D45
 have hq57 := (kb K52 D56).cellsL 0 [.float .f64 d0, .float .f64 d1, .float .f64 d2] rfl
 dsimp only [CellsL, al, vl, Nat.reduceAdd] at hq57
 have hq58 := (kb K54 D56).cellsL 0 [.float .f64 q5_.lo] rfl
 dsimp only [CellsL, al, vl, Nat.reduceAdd] at hq58
 go_wp2_with (refine wpList_store_row rfl 30 _ _ rfl (g15) (vc p4) rfl rfl _ _ f39 (by rw [info_V3]; rfl) rfl (by kernel_rfl) ?_; rw [hV38])
 clear hg17 hV18 hg27 hV28 hV38 f39 hV47 f48 u49 hv50 hq57 hq58
 refine (C7.out _).mono ?_
 rintro r w59 ⟨rfl, hb⟩
 have D60 := ds D56 hb
 clear D56
 clear hb
 obtain ⟨g61, hg63⟩ : ∃ g, w59.heap.size = g := ⟨_, rfl⟩
 have Y65 := Lib.hid (show w.heap.size < g61 ∧ w.heap.size + 1 < g61 ∧ g15 < g61 ∧ g25 < g61 by rw [← hg63]; exact ⟨(kb K51 D60).lt, (kb K52 D60).lt, (kb K53 D60).lt, (kb K54 D60).lt⟩)
 obtain ⟨V62, hV64⟩ : ∃ V, w59.alloc (.cells #[.float .f64 0, .float .f64 0, .float .f64 0, .float .f64 0, .float .f64 0, .float .f64 0] 30) = V := ⟨_, rfl⟩
 have K66 := ka hV64 K51 D60
 have K67 := ka hV64 K52 D60
 have K68 := ka hV64 K53 D60
 have K69 := ka hV64 K54 D60
 have K70 := kn hV64 hg63
 have HB71 := hba hV64 HB55 D60
 have D72 := dr V62
 clear K51 K52 K53 K54 HB55 D60
 have Y73 := Lib.hid (And.intro Y36.out Y65.out)
 clear Y36 Y65
 have f76 := (kb K70 D72)
 obtain ⟨V74, hV75⟩ : ∃ V, World.setRow V62 (g61) (vc p7) = V := ⟨_, rfl⟩
 have K77 := kfr hV75 K66 D72 (by have := Y73.out; omega)
 have K78 := kfr hV75 K67 D72 (by have := Y73.out; omega)
 have K79 := kfr hV75 K68 D72 (by have := Y73.out; omega)
 have K80 := kfr hV75 K69 D72 (by have := Y73.out; omega)
 have K81 := ksr hV75 K70 D72
 have HB82 := hbr hV75 HB71 D72 (by have := Y73.out; omega)
 have D83 := dr V74
 clear K66 K67 K68 K69 K70 HB71 D72
 have f84 := (kb K79 D83)
 have f85 := (kb K81 D83)
 go_wp2_with (first | (refine wpList_store_row rfl 30 _ _ rfl (g61) (vc p7) rfl rfl _ _ f76 (by rw [info_V3]; rfl) rfl (by kernel_rfl) ?_; rw [hV75]) | (refine wl_load (by kernel_rfl) rfl rfl f84 (by rw [info_V3]; rfl) Try.underlying30 rfl ?_) | (refine wl_load (by kernel_rfl) rfl rfl f85 (by rw [info_V3]; rfl) Try.underlying30 rfl ?_))
 clear hg63 hV64 hV75 f76 f84 f85
 refine (C8.out _).mono ?_
 rintro r w86 ⟨rfl, hb⟩
 have D87 := ds D83 hb
 clear D83
 clear hb
 obtain ⟨g88, hg90⟩ : ∃ g, w86.heap.size = g := ⟨_, rfl⟩
 have Y92 := Lib.hid (show w.heap.size < g88 ∧ w.heap.size + 1 < g88 ∧ g15 < g88 ∧ g25 < g88 ∧ g61 < g88 by rw [← hg90]; exact ⟨(kb K77 D87).lt, (kb K78 D87).lt, (kb K79 D87).lt, (kb K80 D87).lt, (kb K81 D87).lt⟩)
 obtain ⟨V89, hV91⟩ : ∃ V, w86.alloc (.cells #[.float .f64 0, .float .f64 0, .float .f64 0, .float .f64 0, .float .f64 0, .float .f64 0] 30) = V := ⟨_, rfl⟩
 have K93 := ka hV91 K77 D87
 have K94 := ka hV91 K78 D87
 have K95 := ka hV91 K79 D87
 have K96 := ka hV91 K80 D87
 have K97 := ka hV91 K81 D87
 have K98 := kn hV91 hg90
 have HB99 := hba hV91 HB82 D87
 have D100 := dr V89
 clear K77 K78 K79 K80 K81 HB82 D87
 have Y101 := Lib.hid (And.intro Y73.out Y92.out)
 clear Y73 Y92
 have f104 := (kb K98 D100)
 obtain ⟨V102, hV103⟩ : ∃ V, World.setRow V89 (g88) (vc p8) = V := ⟨_, rfl⟩
 have K105 := kfr hV103 K93 D100 (by have := Y101.out; omega)
 have K106 := kfr hV103 K94 D100 (by have := Y101.out; omega)
 have K107 := kfr hV103 K95 D100 (by have := Y101.out; omega)
 have K108 := kfr hV103 K96 D100 (by have := Y101.out; omega)
 have K109 := kfr hV103 K97 D100 (by have := Y101.out; omega)
 have K110 := ksr hV103 K98 D100
 have HB111 := hbr hV103 HB99 D100 (by have := Y101.out; omega)
 have D112 := dr V102
 clear K93 K94 K95 K96 K97 K98 HB99 D100
 go_wp2_with (refine wpList_store_row rfl 30 _ _ rfl (g88) (vc p8) rfl rfl _ _ f104 (by rw [info_V3]; rfl) rfl (by kernel_rfl) ?_; rw [hV103])
 clear hg90 hV91 hV103 f104
 refine wp_region_held (S := (fun w' => True ∧ Blk w' (g61) 30 (vc p7) ∧ Blk w' (g88) 30 (vc p8))) (by kernel_rfl) ?_
 change wpAnyH _ _ _ _ _ _ _ _ (World.drew _)
 obtain ⟨wd113, hwd⟩ : ∃ x, x = World.drew V102 := ⟨_, rfl⟩
 rw [← hwd]
 have D114 := Lib.hid (hwd ▸ Below.drew D112.out : Below V102.heap.size V102 wd113)
 clear D112 hwd
 have hS115 : True ∧ Blk wd113 (g61) 30 (vc p7) ∧ Blk wd113 (g88) 30 (vc p8) := ⟨trivial, (kb K109 D114), (kb K110 D114)⟩
 refine tkL 0 (bm 8 1) ?aq116 rfl (by kernel_rfl) (fun _ _ _ h => h) (by kernel_rfl) rfl rfl (fun _ hS => hS.2.1) (by rw [info_V3]; rfl) Try.underlying30 rfl ?pq116 hS115 ?rq116
 case pq116 => (go_simp; try with_reducible rfl)
 refine tkL 2 (bm 8 5) ?aq117 rfl (by kernel_rfl) (fun _ _ _ h => h) (by kernel_rfl) rfl rfl (fun _ hS => hS.2.2) (by rw [info_V3]; rfl) Try.underlying30 rfl ?pq117 hS115 ?rq117
 case pq117 => (go_simp; try with_reducible rfl)
 have HS118 := Lib.hid (show ∀ w', Below V102.heap.size V102 w' → (True ∧ Blk w' (g61) 30 (vc p7) ∧ Blk w' (g88) 30 (vc p8)) from fun w' b => ⟨trivial, (K109.out.below b K109.out.lt), (K110.out.below b K110.out.lt)⟩)
 refine wpAnyH_sets2 (N := 8) (stop := 63) (F := 2) (m := 5) (R := [1, 3, 4, 5]) (M := [5, 7, 21, 37, 15, 23, 39, 53, 31, 47, 55, 63]) (fun i => if i = 1 then 1 else if i = 3 then 6 else if i = 4 then 0 else if i = 5 then 0 else 0) (fun a0 m a w9 => ∃ (v1 v3 p4_ p5_ : Value) (g4_ g5_ : Nat), a = ((((a0.put (some 36) v1).put (some 38) v3).put (some 9) p4_).put (some 10) p5_) ∧ Below V102.heap.size V102 w9 ∧ (m.testBit 1 = true → v1 = Value.agg #[.float .f64 p9.lo, .float .f64 p9.hi]) ∧ (m.testBit 3 = true → v3 = Value.agg #[.float .f64 p10.lo, .float .f64 p10.hi]) ∧ (m.testBit 4 = true → p4_ = .pointer (some ⟨g4_, 0, none⟩) ∧ Blk w9 g4_ 28 #[.float .f64 0, .float .f64 0] ∧ V102.heap.size ≤ g4_) ∧ (m.testBit 5 = true → p5_ = .pointer (some ⟨g5_, 0, none⟩) ∧ Blk w9 g5_ 28 #[.float .f64 0, .float .f64 0] ∧ V102.heap.size ≤ g5_) ∧ (m.testBit 4 = true → m.testBit 5 = true → g4_ ≠ g5_)) (by kernel_rfl) (by kernel_rfl) (by kernel_rfl) (by kernel_rfl) ?st10 ?sp10 ?re10
 case st10 =>
   exact ⟨undef, undef, undef, undef, 0, 0, by go_simp, D114.out, fun h => absurd h (by decide), fun h => absurd h (by decide), fun h => absurd h (by decide), fun h => absurd h (by decide), fun h => absurd h (by decide)⟩
 case sp10 =>
   intro m a' w9 i hi hm hd hJ
   obtain ⟨v1, v3, p4_, p5_, g4_, g5_, rfl, hb0, cl1, cl3, ql4, ql5, dl4_5⟩ := hJ
   have CL1 := Lib.hid cl1
   have CL3 := Lib.hid cl3
   have QL4 := Lib.hid ql4
   have QL5 := Lib.hid ql5
   have DL4_5 := Lib.hid dl4_5
   have HB0 := Lib.hid hb0
   clear cl1 cl3 ql4 ql5 dl4_5 hb0 hS115
   simp only [List.mem_cons, List.not_mem_nil, or_false] at hi
   rcases hi with rfl | rfl | rfl | rfl
   · refine wpOp_at rfl (by kernel_rfl) (fun K hK => ?_)
     have hd := fun j => @tb_of _ _ j hd
     go_simp
     go_at_call 17
     refine (C9.out _).mono ?_
     rintro r w10 ⟨rfl, hb⟩
     dsimp only
     have hb1 := below_step HB0.out hb
     exact hK _ _ ⟨HS118.out _ hb1, _, v3, p4_, p5_, g4_, g5_, by go_simp, hb1, fun _ => rfl, fun h => CL3.out (by rwa [tb_ne (by decide)] at h), fun h => ⟨(QL4.out (by rwa [tb_ne (by decide)] at h)).1, (QL4.out (by rwa [tb_ne (by decide)] at h)).2.1.below hb (QL4.out (by rwa [tb_ne (by decide)] at h)).2.1.lt, (QL4.out (by rwa [tb_ne (by decide)] at h)).2.2⟩, fun h => ⟨(QL5.out (by rwa [tb_ne (by decide)] at h)).1, (QL5.out (by rwa [tb_ne (by decide)] at h)).2.1.below hb (QL5.out (by rwa [tb_ne (by decide)] at h)).2.1.lt, (QL5.out (by rwa [tb_ne (by decide)] at h)).2.2⟩, fun h h' => DL4_5.out (by rwa [tb_ne (by decide)] at h) (by rwa [tb_ne (by decide)] at h')⟩
   · refine wpOp_at rfl (by kernel_rfl) (fun K hK => ?_)
     have hd := fun j => @tb_of _ _ j hd
     obtain rfl := CL1.out (hd _ (by decide))
     go_simp
     go_at_call 17
     refine (C10.out _).mono ?_
     rintro r w10 ⟨rfl, hb⟩
     dsimp only
     have hb1 := below_step HB0.out hb
     exact hK _ _ ⟨HS118.out _ hb1, _, _, p4_, p5_, g4_, g5_, by go_simp, hb1, fun _ => rfl, fun _ => rfl, fun h => ⟨(QL4.out (by rwa [tb_ne (by decide)] at h)).1, (QL4.out (by rwa [tb_ne (by decide)] at h)).2.1.below hb (QL4.out (by rwa [tb_ne (by decide)] at h)).2.1.lt, (QL4.out (by rwa [tb_ne (by decide)] at h)).2.2⟩, fun h => ⟨(QL5.out (by rwa [tb_ne (by decide)] at h)).1, (QL5.out (by rwa [tb_ne (by decide)] at h)).2.1.below hb (QL5.out (by rwa [tb_ne (by decide)] at h)).2.1.lt, (QL5.out (by rwa [tb_ne (by decide)] at h)).2.2⟩, fun h h' => DL4_5.out (by rwa [tb_ne (by decide)] at h) (by rwa [tb_ne (by decide)] at h')⟩
   · refine wpOp_at rfl (by kernel_rfl) (fun K hK => ?_)
     have hd := fun j => @tb_of _ _ j hd
     go_simp
     have hb1 := below_more HB0.out (.cells #[.float .f64 0, .float .f64 0] 28)
     exact hK _ _ ⟨HS118.out _ hb1, v1, v3, .pointer (some ⟨w9.heap.size, 0, none⟩), p5_, w9.heap.size, g5_, by go_simp, hb1, fun h => CL1.out (by rwa [tb_ne (by decide)] at h), fun h => CL3.out (by rwa [tb_ne (by decide)] at h), fun _ => ⟨rfl, Blk.new_at _ _ _ rfl, HB0.out.size⟩, fun h => ⟨(QL5.out (by rwa [tb_ne (by decide)] at h)).1, (QL5.out (by rwa [tb_ne (by decide)] at h)).2.1.alloc _, (QL5.out (by rwa [tb_ne (by decide)] at h)).2.2⟩, fun h h' => Nat.ne_of_gt (QL5.out (by rwa [tb_ne (by decide)] at h')).2.1.lt⟩
   · refine wpOp_at rfl (by kernel_rfl) (fun K hK => ?_)
     have hd := fun j => @tb_of _ _ j hd
     go_simp
     have hb1 := below_more HB0.out (.cells #[.float .f64 0, .float .f64 0] 28)
     exact hK _ _ ⟨HS118.out _ hb1, v1, v3, p4_, .pointer (some ⟨w9.heap.size, 0, none⟩), g4_, w9.heap.size, by go_simp, hb1, fun h => CL1.out (by rwa [tb_ne (by decide)] at h), fun h => CL3.out (by rwa [tb_ne (by decide)] at h), fun h => ⟨(QL4.out (by rwa [tb_ne (by decide)] at h)).1, (QL4.out (by rwa [tb_ne (by decide)] at h)).2.1.alloc _, (QL4.out (by rwa [tb_ne (by decide)] at h)).2.2⟩, fun _ => ⟨rfl, Blk.new_at _ _ _ rfl, HB0.out.size⟩, fun h h' => Nat.ne_of_lt (QL4.out (by rwa [tb_ne (by decide)] at h)).2.1.lt⟩
 clear hS115 D114 HS118
 intro a' W140 hJ
 obtain ⟨v1, v3, p4_, p5_, g141, g142, rfl, hb0, cl1, cl3, ql4, ql5, dl4_5⟩ := hJ
 obtain rfl := cl1 (by decide)
 obtain rfl := cl3 (by decide)
 obtain ⟨rfl, kk4, ll4⟩ := ql4 (by decide)
 obtain ⟨rfl, kk5, ll5⟩ := ql5 (by decide)
 have ne4_5 := dl4_5 (by decide) (by decide)
 clear dl4_5
 have D121 := Lib.hid hb0
 clear hb0
 refine wpAnyH_frame (a' := ?frq120) ?feq120 ?fgq120
 case feq120 => (go_simp; try with_reducible rfl)
 have K123 := Lib.hid ((kb K105 D121) : Blk W140 (w.heap.size) 24 #[.float .f64 n0, .float .f64 n1, .float .f64 n2])
 have K124 := Lib.hid ((kb K106 D121) : Blk W140 (w.heap.size + 1) 24 #[.float .f64 d0, .float .f64 d1, .float .f64 d2])
 have K125 := Lib.hid ((kb K107 D121) : Blk W140 (g15) 30 (vc p4))
 have K126 := Lib.hid ((kb K108 D121) : Blk W140 (g25) 28 #[.float .f64 q5_.lo, .float .f64 q5_.hi])
 have K127 := Lib.hid ((kb K109 D121) : Blk W140 (g61) 30 (vc p7))
 have K128 := Lib.hid ((kb K110 D121) : Blk W140 (g88) 30 (vc p8))
 have K129 := Lib.hid kk4
 clear kk4
 have K132 := Lib.hid kk5
 clear kk5
 have HB135 := Lib.hid (below_step HB111.out D121.out)
 have Y131 := Lib.hid (show w.heap.size ≤ g141 ∧ w.heap.size < g141 ∧ w.heap.size + 1 < g141 ∧ g15 < g141 ∧ g25 < g141 ∧ g61 < g141 ∧ g88 < g141 from ⟨Nat.le_trans HB111.out.size ll4, Nat.lt_of_lt_of_le K105.out.lt ll4, Nat.lt_of_lt_of_le K106.out.lt ll4, Nat.lt_of_lt_of_le K107.out.lt ll4, Nat.lt_of_lt_of_le K108.out.lt ll4, Nat.lt_of_lt_of_le K109.out.lt ll4, Nat.lt_of_lt_of_le K110.out.lt ll4⟩)
 have Y136 := Lib.hid (And.intro Y101.out Y131.out)
 clear Y101 Y131
 have Y134 := Lib.hid (show w.heap.size ≤ g142 ∧ w.heap.size < g142 ∧ w.heap.size + 1 < g142 ∧ g15 < g142 ∧ g25 < g142 ∧ g61 < g142 ∧ g88 < g142 from ⟨Nat.le_trans HB111.out.size ll5, Nat.lt_of_lt_of_le K105.out.lt ll5, Nat.lt_of_lt_of_le K106.out.lt ll5, Nat.lt_of_lt_of_le K107.out.lt ll5, Nat.lt_of_lt_of_le K108.out.lt ll5, Nat.lt_of_lt_of_le K109.out.lt ll5, Nat.lt_of_lt_of_le K110.out.lt ll5⟩)
 have Y137 := Lib.hid (And.intro Y136.out Y134.out)
 clear Y136 Y134
 have Y138 := Lib.hid ne4_5
 clear ne4_5
 have Y139 := Lib.hid (And.intro Y137.out Y138.out)
 clear Y137 Y138
 clear K105 K106 K107 K108 K109 K110 ll4 ll5 HB111
 have D143 := Lib.hid (Below.refl W140.heap.size W140)
 clear D121
 have hS144 : True ∧ Blk W140 (g61) 30 (vc p7) ∧ Blk W140 (g88) 30 (vc p8) := ⟨trivial, (kb K127 D143), (kb K128 D143)⟩
 refine wpAnyH_oneM (i := 6) (l' := bm 8 127) rfl (by kernel_rfl) (by kernel_rfl) (by kernel_rfl) (fun K hK => ?_)
 have f147 := (kb K129 D143).cellsL 0 [.float .f64 0, .float .f64 0] rfl
 dsimp only [CellsL, al, vl, Nat.reduceAdd] at f147
 have u148 := (kb K129 D143).unfrozen
 obtain ⟨V145, hV146⟩ : ∃ V, setCells W140 (g141) 0 [.float .f64 p9.lo, .float .f64 p9.hi] = V := ⟨_, rfl⟩
 have hv149 := hV146
 simp only [setCells, Nat.reduceAdd] at hv149
 have K150 := kf hV146 K123 D143 (by have := Y139.out; omega)
 have K151 := kf hV146 K124 D143 (by have := Y139.out; omega)
 have K152 := kf hV146 K125 D143 (by have := Y139.out; omega)
 have K153 := kf hV146 K126 D143 (by have := Y139.out; omega)
 have K154 := kf hV146 K127 D143 (by have := Y139.out; omega)
 have K155 := kf hV146 K128 D143 (by have := Y139.out; omega)
 have K156 := Lib.hid (show Blk V145 (g141) 28 #[.float .f64 p9.lo, .float .f64 p9.hi] from (ks hV146 K129 D143).out)
 have K157 := kf hV146 K132 D143 (by have := Y139.out; omega)
 have HB158 := hbs hV146 HB135 D143 (by have := Y139.out; omega)
 have D159 := dr V145
 clear K123 K124 K125 K126 K127 K128 K129 K132 HB135 D143
 go_simp
 clear hV146 f147 u148 hv149
 have hS160 : True ∧ Blk V145 (g61) 30 (vc p7) ∧ Blk V145 (g88) 30 (vc p8) := ⟨trivial, (kb K154 D159), (kb K155 D159)⟩
 refine hK _ _ hS160 ?_
 clear hK K hS144
 refine wpAnyH_oneM (i := 7) (l' := bm 8 255) rfl (by kernel_rfl) (by kernel_rfl) (by kernel_rfl) (fun K hK => ?_)
 have f163 := (kb K157 D159).cellsL 0 [.float .f64 0, .float .f64 0] rfl
 dsimp only [CellsL, al, vl, Nat.reduceAdd] at f163
 have u164 := (kb K157 D159).unfrozen
 obtain ⟨V161, hV162⟩ : ∃ V, setCells V145 (g142) 0 [.float .f64 p10.lo, .float .f64 p10.hi] = V := ⟨_, rfl⟩
 have hv165 := hV162
 simp only [setCells, Nat.reduceAdd] at hv165
 have K166 := kf hV162 K150 D159 (by have := Y139.out; omega)
 have K167 := kf hV162 K151 D159 (by have := Y139.out; omega)
 have K168 := kf hV162 K152 D159 (by have := Y139.out; omega)
 have K169 := kf hV162 K153 D159 (by have := Y139.out; omega)
 have K170 := kf hV162 K154 D159 (by have := Y139.out; omega)
 have K171 := kf hV162 K155 D159 (by have := Y139.out; omega)
 have K172 := kf hV162 K156 D159 (by have := Y139.out; omega)
 have K173 := Lib.hid (show Blk V161 (g142) 28 #[.float .f64 p10.lo, .float .f64 p10.hi] from (ks hV162 K157 D159).out)
 have HB174 := hbs hV162 HB158 D159 (by have := Y139.out; omega)
 have D175 := dr V161
 clear K150 K151 K152 K153 K154 K155 K156 K157 HB158 D159
 go_simp
 clear hV162 f163 u164 hv165
 have hS176 : True ∧ Blk V161 (g61) 30 (vc p7) ∧ Blk V161 (g88) 30 (vc p8) := ⟨trivial, (kb K170 D175), (kb K171 D175)⟩
 refine hK _ _ hS176 ?_
 clear hK K hS160
 refine wpAnyH_done (by kernel_rfl) ?_ _
 clear hS176
 go_wp2_with fail
 refine wp_region_held (S := (fun w' => True ∧ Blk w' (g15) 30 (vc p4) ∧ Blk w' (g61) 30 (vc p7) ∧ Blk w' (g88) 30 (vc p8) ∧ CellsL w' (g141) 0 [.float .f64 p9.lo, .float .f64 p9.hi] ∧ CellsL w' (g142) 0 [.float .f64 p10.lo, .float .f64 p10.hi])) (by kernel_rfl) ?_
 change wpAnyH _ _ _ _ _ _ _ _ (World.drew _)
 obtain ⟨wd177, hwd⟩ : ∃ x, x = World.drew V161 := ⟨_, rfl⟩
 rw [← hwd]
 have D178 := Lib.hid (hwd ▸ Below.drew D175.out : Below V161.heap.size V161 wd177)
 clear D175 hwd
 have hS179 : True ∧ Blk wd177 (g15) 30 (vc p4) ∧ Blk wd177 (g61) 30 (vc p7) ∧ Blk wd177 (g88) 30 (vc p8) ∧ CellsL wd177 (g141) 0 [.float .f64 p9.lo, .float .f64 p9.hi] ∧ CellsL wd177 (g142) 0 [.float .f64 p10.lo, .float .f64 p10.hi] := ⟨trivial, (kb K168 D178), (kb K170 D178), (kb K171 D178), (kb K172 D178).cellsL 0 [.float .f64 p9.lo, .float .f64 p9.hi] rfl, (kb K173 D178).cellsL 0 [.float .f64 p10.lo, .float .f64 p10.hi] rfl⟩
 refine tkq 0 (bm 20 1) hS179 ?_
 refine tke 1 (bm 20 3) hS179 ?_
 refine tkq 2 (bm 20 7) hS179 ?_
 refine tke 3 (bm 20 15) hS179 ?_
 refine tkq 4 (bm 20 31) hS179 ?_
 refine tkq 5 (bm 20 63) hS179 ?_
 refine tkq 6 (bm 20 127) hS179 ?_
 refine tke 7 (bm 20 255) hS179 ?_
 refine tkq 8 (bm 20 511) hS179 ?_
 refine tke 9 (bm 20 1023) hS179 ?_
 refine tkq 10 (bm 20 2047) hS179 ?_
 refine tkq 11 (bm 20 4095) hS179 ?_
 refine tkq 12 (bm 20 8191) hS179 ?_
 refine tkL 13 (bm 20 16383) ?aq193 rfl (by kernel_rfl) (fun _ _ _ h => h) (by kernel_rfl) rfl rfl (fun _ hS => hS.2.2.1) (by rw [info_V3]; rfl) Try.underlying30 rfl ?pq193 hS179 ?rq193
 case pq193 => (go_simp; try with_reducible rfl)
 refine tkL 14 (bm 20 32767) ?aq194 rfl (by kernel_rfl) (fun _ _ _ h => h) (by kernel_rfl) rfl rfl (fun _ hS => hS.2.1) (by rw [info_V3]; rfl) Try.underlying30 rfl ?pq194 hS179 ?rq194
 case pq194 => (go_simp; try with_reducible rfl)
 refine tkL 15 (bm 20 65535) ?aq195 rfl (by kernel_rfl) (fun _ _ _ h => h) (by kernel_rfl) rfl rfl (fun _ hS => hS.2.2.2.1) (by rw [info_V3]; rfl) Try.underlying30 rfl ?pq195 hS179 ?rq195
 case pq195 => (go_simp; try with_reducible rfl)
 refine wpAnyH_oneN (i := 16) (l' := bm 20 131071) rfl (by kernel_rfl) (by kernel_rfl) (by kernel_rfl) (fun K hK => ?_)
 go_simp
 go_at_call 48
 refine (C11.out _).mono ?_
 rintro r w196 ⟨rfl, hb⟩
 dsimp only
 have D197 := ds D178 hb
 clear D178
 clear hb
 have hS198 : True ∧ Blk w196 (g15) 30 (vc p4) ∧ Blk w196 (g61) 30 (vc p7) ∧ Blk w196 (g88) 30 (vc p8) ∧ CellsL w196 (g141) 0 [.float .f64 p9.lo, .float .f64 p9.hi] ∧ CellsL w196 (g142) 0 [.float .f64 p10.lo, .float .f64 p10.hi] := ⟨trivial, (kb K168 D197), (kb K170 D197), (kb K171 D197), (kb K172 D197).cellsL 0 [.float .f64 p9.lo, .float .f64 p9.hi] rfl, (kb K173 D197).cellsL 0 [.float .f64 p10.lo, .float .f64 p10.hi] rfl⟩
 refine hK _ _ hS198 ?_
 clear hK K hS179
 refine wpAnyH_oneN (i := 17) (l' := bm 20 262143) rfl (by kernel_rfl) (by kernel_rfl) (by kernel_rfl) (fun K hK => ?_)
 go_simp
 go_at_call 45
 refine (C12.out _).mono ?_
 rintro r w199 ⟨rfl, hb⟩
 dsimp only
 have D200 := ds D197 hb
 clear D197
 clear hb
 have hS201 : True ∧ Blk w199 (g15) 30 (vc p4) ∧ Blk w199 (g61) 30 (vc p7) ∧ Blk w199 (g88) 30 (vc p8) ∧ CellsL w199 (g141) 0 [.float .f64 p9.lo, .float .f64 p9.hi] ∧ CellsL w199 (g142) 0 [.float .f64 p10.lo, .float .f64 p10.hi] := ⟨trivial, (kb K168 D200), (kb K170 D200), (kb K171 D200), (kb K172 D200).cellsL 0 [.float .f64 p9.lo, .float .f64 p9.hi] rfl, (kb K173 D200).cellsL 0 [.float .f64 p10.lo, .float .f64 p10.hi] rfl⟩
 refine hK _ _ hS201 ?_
 clear hK K hS198
 refine tkq 18 (bm 20 524287) hS201 ?_
 refine tkq 19 (bm 20 1048575) hS201 ?_
 refine wpAnyH_done (by kernel_rfl) ?_ _
 clear hS201
 go_wp2_with fail
 go_ret
 exact ⟨rfl, below_step HB174.out D200.out⟩
theorem walk_bsdfKeeps (n0 n1 n2 d0 d1 d2 : Nat) (hn0 : n0 < 18446744073709551616) (hn1 : n1 < 18446744073709551616) (hn2 : n2 < 18446744073709551616) (hd0 : d0 < 18446744073709551616) (hd1 : d1 < 18446744073709551616) (hd2 : d2 < 18446744073709551616) (w : World) : Calls Try.prog 7 #[.agg #[.float .f64 n0, .float .f64 n1, .float .f64 n2], .agg #[.float .f64 d0, .float .f64 d1, .float .f64 d2]] w fun r w' => r = .returned (.bool true) ∧ Below w.heap.size w w' := by
 cases v0 : nmB n0 n1 n2
 · exact bsdfKeeps_n0 n0 n1 n2 d0 d1 d2 hn0 hn1 hn2 hd0 hd1 hd2 v0 w
 · cases v1 : nmB d0 d1 d2
   · exact bsdfKeeps_n1 n0 n1 n2 d0 d1 d2 hn0 hn1 hn2 hd0 hd1 hd2 v0 v1 w
   · by_cases h0 : Z (vLen (vOf n0 n1 n2)).lo ≤ 0
     · exact bsdfKeeps_z n0 n1 n2 d0 d1 d2 hn0 hn1 hn2 hd0 hd1 hd2 v0 v1 h0 w
     · exact bsdfKeeps_k n0 n1 n2 d0 d1 d2 hn0 hn1 hn2 hd0 hd1 hd2 v0 v1 (by omega) w
end Go.Proofs.Ytnljfcebmgifdaa
