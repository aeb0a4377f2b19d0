/- Shaken: Sa Wj Wo1 Vi Vl Gf Yd Tx Tb RowS. -/
import Derived.Test.YtnljfcebmgifdaaGreatZTb
import Derived.Test.YtnljfcebmgifdaaGreatZRowS
set_option maxRecDepth 100000
set_option maxHeartbeats 8000000
set_option linter.unusedVariables false
set_option linter.unusedSimpArgs false
namespace Go.Proofs.YtnljfcebmgifdaaGreat
open Go.RowKit
theorem max_any {a b c d : Nat} (ga : Gd a) (gb : Gd b) (gc : Gd c) (gd : Gd d) (w : World) : Calls Tryz.prog 77 #[.agg #[.float .f64 a, .float .f64 b], .agg #[.float .f64 c, .float .f64 d]] w fun r w' => r = .returned (.agg #[.float .f64 (mx a c), .float .f64 (mx b d)]) ∧ ∃ o o' o'', w' = ((w.alloc o).alloc o').alloc o'' := by
 have m1 := fun (ts : Array TypeId) (t : TypeId) (w : World) => run_max_gd (P := Tryz.prog) ga gc ts t w
 have m2 := fun (ts : Array TypeId) (t : TypeId) (w : World) => run_max_gd (P := Tryz.prog) gb gd ts t w
 clear ga gb gc gd
 go_enter Tryz.func77, Tryz.ntmps77
 go_wp2_with fail
 go_returns
 exact ⟨rfl, _, _, _, rfl⟩
theorem positive_any (a b : Nat) (p q : Bool) (h1 : (FloatKind.f64.format.order a 0 == some .gt) = p) (h2 : (FloatKind.f64.format.order b 0 == some .lt || FloatKind.f64.format.order b 0 == some .eq) = q) (w : World) : Calls Tryz.prog 64 #[.agg #[.float .f64 a, .float .f64 b]] w fun r w' => r = .returned (.int .i64 (if p then 1 else if q then 0 else 2)) ∧ ∃ o, w' = w.alloc o := by
 cases p
 · cases q
   all_goals (go_enter Tryz.func64, Tryz.ntmps64; go_wp2_with fail; go_ret; exact ⟨rfl, _, rfl⟩)
 · go_enter Tryz.func64, Tryz.ntmps64
   go_wp2_with fail
   go_ret
   exact ⟨rfl, _, rfl⟩
end Go.Proofs.YtnljfcebmgifdaaGreat
set_option linter.unusedVariables false
set_option linter.unusedSimpArgs false
namespace Go.Proofs.YtnljfcebmgifdaaGreat
open Go.RowKit Ieee
end Go.Proofs.YtnljfcebmgifdaaGreat
namespace Go.Proofs.YtnljfcebmgifdaaGreat
open Go.RowKit Ieee
theorem RtR.yes {N i r : Nat} (h : RtR N i r) (hi : i < 58) (hc : (r + 2 ^ (57 - i)) * (r + 2 ^ (57 - i)) ≤ N) : RtR N (i + 1) (r + 2 ^ (57 - i)) := by
 have hb := h.bit hi
 refine ⟨hi, hc, ?_, hb.2.1, ?_⟩
 · have := h.high
   rw [show 58 - i = (57 - i) + 1 by omega, Nat.pow_succ, Nat.mul_two, ← Nat.add_assoc] at this
   rw [show 58 - (i + 1) = 57 - i by omega]
   exact this
 · have := h.dvd
   rw [show 58 - i = (57 - i) + 1 by omega, Nat.pow_succ] at this
   rw [show 58 - (i + 1) = 57 - i by omega, Nat.add_mod_right]
   exact Nat.mod_eq_zero_of_dvd (Nat.dvd_trans (Nat.dvd_mul_right _ 2) (Nat.dvd_of_mod_eq_zero this))
theorem rt_mul0 {x : Nat} (h : x < 18446744073709551616) : ∃ ph pl : Nat, (x * x = ph * 18446744073709551616 + pl ∧ pl < 18446744073709551616) ∧ (∀ w, Calls Tryz.prog 133 #[.int .u64 (x : Int), .int .u64 (x : Int)] w fun e w' => e = .returned (.tuple #[.int .u64 (ph : Int), .int .u64 (pl : Int)]) ∧ w = w') :=
 ⟨x * x / 18446744073709551616, x * x % 18446744073709551616, ⟨by generalize x * x = y; omega, Nat.mod_lt _ (by decide)⟩, fun w => mul64_any x x h h w⟩
theorem rt_mul {N k a : Nat} (h : RtR N k a) (hk : k < 58) : ∃ T : Nat, (T = a + 2 ^ (57 - k)) ∧ bits .or .u64 (a : Int) (IntKind.u64.wrap (2 ^ (57 - k))) = (T : Int) ∧ ∃ ph pl : Nat, (T * T = ph * 18446744073709551616 + pl ∧ pl < 18446744073709551616) ∧
   (∀ w, Calls Tryz.prog 133 #[.int .u64 (T : Int), .int .u64 (T : Int)] w fun e w' => e = .returned (.tuple #[.int .u64 (ph : Int), .int .u64 (pl : Int)]) ∧ w = w') := by
 obtain ⟨b1, b2, b3⟩ := h.bit hk
 refine ⟨_, rfl, ?_, rt_mul0 (by omega)⟩
 have e1 : ((2 : Int) ^ (57 - k)) = ((2 ^ (57 - k) : Nat) : Int) := by simp
 have e2 : IntKind.u64.wrap ((2 ^ (57 - k) : Nat) : Int) = ((2 ^ (57 - k) : Nat) : Int) := by
   generalize 2 ^ (57 - k) = z at *
   rw [IntKind.wrap_u64]; omega
 rw [e1, e2]
 have := bits_or_u64_nat a (2 ^ (57 - k)) (by have := h.lt; omega) b3
 rw [b1] at this
 exact this
def Rt1 (N : Nat) (r i : Value) : Prop := ∃ a k : Nat, r = .int .u64 (a : Int) ∧ i = .int .i64 (k : Int) ∧ RtR N k a
theorem rt_yes {N k a T : Nat} (h : RtR N k a) (hk : k < 58) (hT : T = a + 2 ^ (57 - k)) (hc : T * T ≤ N) : Rt1 N (Value.int .u64 (T : Int)) (Value.int .i64 ((k : Int) + 1)) ∧ 58 - (intOf (Value.int IntKind.i64 ((k : Int) + 1))).toNat < 58 - (intOf (Value.int IntKind.i64 (k : Int))).toNat := by
 subst hT
 exact ⟨⟨_, k + 1, rfl, rfl, h.yes hk hc⟩, by simp only [intOf]; omega⟩
theorem rt_no {N k a T : Nat} (h : RtR N k a) (hk : k < 58) (hT : T = a + 2 ^ (57 - k)) (hc : ¬ T * T ≤ N) : Rt1 N (Value.int .u64 (a : Int)) (Value.int .i64 ((k : Int) + 1)) ∧ 58 - (intOf (Value.int IntKind.i64 ((k : Int) + 1))).toNat < 58 - (intOf (Value.int IntKind.i64 (k : Int))).toNat := by
 subst hT
 exact ⟨⟨_, k + 1, rfl, rfl, h.no hk hc⟩, by simp only [intOf]; omega⟩
theorem rt_end {a R : Nat} {b b' : Bool} (h : a = R) (hb : b = b') : Ending.returned (.tuple #[.int .u64 (a : Int), .bool b]) = .returned (.tuple #[.int .u64 (R : Int), .bool b']) := by rw [h, hb]
theorem root_words (hi lo : Nat) (HN : Hid (hi * 18446744073709551616 + lo < 83076749736557242056487941267521536 ∧ lo < 18446744073709551616)) (R : Nat) (hR : Hid (IsRoot (hi * 18446744073709551616 + lo) R)) (w : World) :
   Calls Tryz.prog 124 #[.int .u64 (hi : Int), .int .u64 (lo : Int)] w fun r w' => r = .returned (.tuple #[.int .u64 (R : Int), .bool (R * R != hi * 18446744073709551616 + lo)]) ∧ w = w' := by
 have HM := Lib.hid (fun (x : Nat) (h : x < 18446744073709551616) w => mul64_any x x h h w)
 go_enter Tryz.func124, Tryz.ntmps124
 go_wp2_with fail
 go_loop [6, 13] (fun r i => Rt1 (hi * 18446744073709551616 + lo) r i) (fun _ i => 58 - (intOf i).toNat)
 case atStart => exact ⟨0, 0, rfl, rfl, RtR.start HN.out.1⟩
 case round =>
   obtain ⟨a, k, rfl, rfl, hd⟩ := hrel
   have HD := Lib.hid hd
   have hk := hd.hi
   clear hd
   by_cases hk2 : k < 58
   · obtain ⟨T, HT, F, ph, pl, HP, HC⟩ := rt_mul HD.out hk2
     have HP' := Lib.hid HP
     have HC' := Lib.hid HC
     have HT' := Lib.hid HT
     clear HP HC HT
     go_wp2_with fail
     refine (HC'.out _).mono ?_
     rintro r w' ⟨rfl, rfl⟩
     go_wp2_with fail
     all_goals
       have hp := HP'.out
       have hN := HN.out.2
       first
         | exact rt_yes HD.out hk2 HT'.out (by omega)
         | exact rt_no HD.out hk2 HT'.out (by omega)
   · obtain rfl : k = 58 := by omega
     obtain ⟨ph, pl, HP, HC⟩ := rt_mul0 (x := a) (by have := HD.out.lt; omega)
     have HP' := Lib.hid HP
     have HC' := Lib.hid HC
     clear HP HC
     have HA := Lib.hid (HD.out.stop.uniq hR.out)
     go_wp2_with fail
     refine (HC'.out _).mono ?_
     rintro r w' ⟨rfl, rfl⟩
     go_wp2_with fail
     all_goals
       go_ret2
       refine ⟨rt_end HA.out ?_, rfl⟩
       have hp := HP'.out
       have hN := HN.out.2
       have hA := HA.out
       rw [Bool.eq_iff_iff]
       simp only [bne_iff_ne, ne_eq, true_iff]
       rw [← hA]
       omega
theorem root_any (N R : Nat) (hN : N < 83076749736557242056487941267521536) (hR : IsRoot N R) (w : World) :
   Calls Tryz.prog 124 #[.int .u64 ((N / 18446744073709551616 : Nat) : Int), .int .u64 ((N % 18446744073709551616 : Nat) : Int)] w fun r w' => r = .returned (.tuple #[.int .u64 (R : Int), .bool (R * R != N)]) ∧ w = w' := by
 have e : N / 18446744073709551616 * 18446744073709551616 + N % 18446744073709551616 = N := by omega
 have := root_words (N / 18446744073709551616) (N % 18446744073709551616) (Lib.hid ⟨by rw [e]; exact hN, Nat.mod_lt _ (by decide)⟩) R (Lib.hid (by rw [e]; exact hR)) w
 rw [e] at this
 exact this
end Go.Proofs.YtnljfcebmgifdaaGreat
set_option linter.unusedVariables false
set_option linter.unusedSimpArgs false
namespace Go.Proofs.YtnljfcebmgifdaaGreat
open Go.RowKit Ieee
theorem sqrt_walk_odd (a : Nat) (down : Bool) (na : Bool) (A : Nat) (ea : Int) (hE0 : (FloatKind.f64.format.order a 0 == some .lt) = false) (hE1 : (FloatKind.f64.format.order a 0 == some .eq) = false)
   (hHT : ∀ w, Calls Tryz.prog 102 #[.float .f64 a] w fun e w' => e = .returned (.bool true) ∧ w = w')
   (hHA : ∀ w, Calls Tryz.prog 119 #[.float .f64 a] w fun r w' => r = .returned (exv na 0 A ea false) ∧ ∃ o, w' = w.alloc o)
   (La : Nat) (hLa : La ≤ 53)
   (hHLa : ∀ w, Calls Tryz.prog 121 #[exv na 0 A ea false] w fun r w' => r = .returned (.int .i64 (La : Int)) ∧ ∃ o, w' = w.alloc o)
   (X1 X0 : Nat) (ex : Int)
   (hHLX : ∀ w, Calls Tryz.prog 120 #[exv na 0 A ea false, .int .i64 (IntKind.i64.wrap (115 - (La : Int)))] w fun r w' => r = .returned (exv na X1 X0 ex false) ∧ ∃ k o o', w' = ((w.alloc o).alloc o').drewN k)
   (hex : -5000 ≤ ex) (hex2 : ex ≤ 5000) (hpar : (Int.tmod ex 2 != 0) = true) (M1 M0 : Nat) (ee : Int) (hee : -5001 ≤ ee) (hee2 : ee ≤ 5000) (hHL1 : ∀ w, Calls Tryz.prog 120 #[exv na X1 X0 ex false, .int .i64 1] w fun r w' => r = .returned (exv na M1 M0 ee false) ∧ ∃ k o o', w' = ((w.alloc o).alloc o').drewN k) (R : Nat) (more : Bool)
   (hHR : ∀ w, Calls Tryz.prog 124 #[.int .u64 (M1 : Int), .int .u64 (M0 : Int)] w fun r w' => r = .returned (.tuple #[.int .u64 (R : Int), .bool more]) ∧ w = w')
   (v : Nat) (hHO : ∀ w, Calls Tryz.prog 123 #[exv false 0 R (Int.tdiv ee 2) more, .bool down] w fun r w' => r = .returned (.float .f64 v) ∧ Below w.heap.size w w') (w : World) :
   Calls Tryz.prog 99 #[.float .f64 a, .bool down] w fun r w' => r = .returned (numV v 0) ∧ Below w.heap.size w w' := by
 have HT := Lib.hid hHT; clear hHT
 have HA := Lib.hid hHA; clear hHA
 have HLa := Lib.hid hHLa; clear hHLa
 have HLX := Lib.hid hHLX; clear hHLX
 have HR := Lib.hid hHR; clear hHR
 have HO := Lib.hid hHO; clear hHO
 have HL1 := Lib.hid hHL1; clear hHL1
 go_enter Tryz.func99, Tryz.ntmps99
 go_wp2_with fail
 refine (HT.out _).mono ?_
 rintro e w' ⟨rfl, rfl⟩
 go_wp2_with fail
 refine (HA.out _).mono ?_
 rintro e w' ⟨rfl, o1, rfl⟩
 go_wp2_with fail
 go_cut [] (fun wc => ∃ p1 p2 p3 k, wc = (((((w.alloc o1).alloc (exo na X1 X0 ex false)).alloc p1).alloc p2).alloc p3).drewN k)
 case first =>
   go_region_with (first
     | (go_at_call 121; refine (HLa.out _).mono ?_; rintro r w' ⟨rfl, o, rfl⟩)
     | (go_at_call 120; refine (HLX.out _).mono ?_; rintro r w' ⟨rfl, k, o, o', rfl⟩))
   all_goals (go_wp2_with fail; go_meet; exact ⟨_, _, _, _, rfl⟩)
 case rest =>
   obtain ⟨p1, p2, p3, k1, rfl⟩ := hcut
   go_wp2_with fail
   refine (HL1.out _).mono ?_
   rintro r w' ⟨rfl, k5, q1, q2, rfl⟩
   go_wp2_with fail
   refine (HR.out _).mono ?_
   rintro r w' ⟨rfl, rfl⟩
   go_wp2_with fail
   refine (HO.out _).mono ?_
   rintro r w' ⟨rfl, hb⟩
   have HBe := Lib.hid hb
   clear hb
   go_wp2_with fail
   go_ret2
   exact ⟨rfl, (below_drewN (below_more (below_more (below_more (below_more (below_more (below_more (below_new _ _) _) _) _) _) _) _) _).trans (HBe.out.mono (by simp; omega))⟩
theorem sqrt_walk_even (a : Nat) (down : Bool) (na : Bool) (A : Nat) (ea : Int) (hE0 : (FloatKind.f64.format.order a 0 == some .lt) = false) (hE1 : (FloatKind.f64.format.order a 0 == some .eq) = false)
   (hHT : ∀ w, Calls Tryz.prog 102 #[.float .f64 a] w fun e w' => e = .returned (.bool true) ∧ w = w')
   (hHA : ∀ w, Calls Tryz.prog 119 #[.float .f64 a] w fun r w' => r = .returned (exv na 0 A ea false) ∧ ∃ o, w' = w.alloc o)
   (La : Nat) (hLa : La ≤ 53)
   (hHLa : ∀ w, Calls Tryz.prog 121 #[exv na 0 A ea false] w fun r w' => r = .returned (.int .i64 (La : Int)) ∧ ∃ o, w' = w.alloc o)
   (X1 X0 : Nat) (ex : Int)
   (hHLX : ∀ w, Calls Tryz.prog 120 #[exv na 0 A ea false, .int .i64 (IntKind.i64.wrap (115 - (La : Int)))] w fun r w' => r = .returned (exv na X1 X0 ex false) ∧ ∃ k o o', w' = ((w.alloc o).alloc o').drewN k)
   (hex : -5000 ≤ ex) (hex2 : ex ≤ 5000) (hpar : (Int.tmod ex 2 != 0) = false) (R : Nat) (more : Bool)
   (hHR : ∀ w, Calls Tryz.prog 124 #[.int .u64 (X1 : Int), .int .u64 (X0 : Int)] w fun r w' => r = .returned (.tuple #[.int .u64 (R : Int), .bool more]) ∧ w = w')
   (v : Nat) (hHO : ∀ w, Calls Tryz.prog 123 #[exv false 0 R (Int.tdiv ex 2) more, .bool down] w fun r w' => r = .returned (.float .f64 v) ∧ Below w.heap.size w w') (w : World) :
   Calls Tryz.prog 99 #[.float .f64 a, .bool down] w fun r w' => r = .returned (numV v 0) ∧ Below w.heap.size w w' := by
 have HT := Lib.hid hHT; clear hHT
 have HA := Lib.hid hHA; clear hHA
 have HLa := Lib.hid hHLa; clear hHLa
 have HLX := Lib.hid hHLX; clear hHLX
 have HR := Lib.hid hHR; clear hHR
 have HO := Lib.hid hHO; clear hHO
 go_enter Tryz.func99, Tryz.ntmps99
 go_wp2_with fail
 refine (HT.out _).mono ?_
 rintro e w' ⟨rfl, rfl⟩
 go_wp2_with fail
 refine (HA.out _).mono ?_
 rintro e w' ⟨rfl, o1, rfl⟩
 go_wp2_with fail
 go_cut [] (fun wc => ∃ p1 p2 p3 k, wc = (((((w.alloc o1).alloc (exo na X1 X0 ex false)).alloc p1).alloc p2).alloc p3).drewN k)
 case first =>
   go_region_with (first
     | (go_at_call 121; refine (HLa.out _).mono ?_; rintro r w' ⟨rfl, o, rfl⟩)
     | (go_at_call 120; refine (HLX.out _).mono ?_; rintro r w' ⟨rfl, k, o, o', rfl⟩))
   all_goals (go_wp2_with fail; go_meet; exact ⟨_, _, _, _, rfl⟩)
 case rest =>
   obtain ⟨p1, p2, p3, k1, rfl⟩ := hcut
   go_wp2_with fail
   refine (HR.out _).mono ?_
   rintro r w' ⟨rfl, rfl⟩
   go_wp2_with fail
   refine (HO.out _).mono ?_
   rintro r w' ⟨rfl, hb⟩
   have HBe := Lib.hid hb
   clear hb
   go_wp2_with fail
   go_ret2
   exact ⟨rfl, (below_drewN (below_more (below_more (below_more (below_more (below_new _ _) _) _) _) _) _).trans (HBe.out.mono (by simp; omega))⟩
end Go.Proofs.YtnljfcebmgifdaaGreat
set_option linter.unusedVariables false
set_option linter.unusedSimpArgs false
namespace Go.Proofs.YtnljfcebmgifdaaGreat
open Go.RowKit Ieee
theorem LdR.yes {X N k q r : Nat} (h : LdR X N k q r) (hk : k < 60) (hc : N ≤ r) : LdR X N (k + 1) (q * 2 + 1) ((r - N) * 2) := by
 refine ⟨hk, ?_, by have := h.lt; omega⟩
 have h1 := h.eq
 rw [Nat.pow_succ, ← Nat.mul_assoc X, ← h1]
 have h2 : (q * 2 + 1) * N = 2 * (q * N) + N := by rw [Nat.add_mul, Nat.one_mul, Nat.mul_right_comm, Nat.mul_comm]
 omega
end Go.Proofs.YtnljfcebmgifdaaGreat
set_option linter.unusedVariables false
set_option linter.unusedSimpArgs false
namespace Go.Proofs.YtnljfcebmgifdaaGreat
open Go.RowKit Ieee
theorem pos_cmp (a : Nat) (ha : a < 18446744073709551616) (fa : Fl.fin a = true) (hp : 0 < Fl.Z a) :
   (FloatKind.f64.format.order a 0 == some .lt) = false ∧ (FloatKind.f64.format.order a 0 == some .eq) = false ∧ Fl.sM a ≠ 0 := by
 have hn := Fl.nan_of_fin fa
 have z0 : Fl.Z 0 = 0 := by decide
 have hm : Fl.mg a ≠ 0 := by
   intro h
   unfold Fl.Z at hp
   rw [h, Fl.rv_zero] at hp
   revert hp
   cases Fl.sg a <;> simp
 refine ⟨?_, ?_, fun h => hm ((Fl.sM_zero a).1 h)⟩
 · refine (Fl.lt_eq (a := a) (b := 0) ha (by decide) hn (by decide)).trans ?_
   rw [z0]
   exact decide_eq_false (by omega)
 · rw [eq0_of a ha fa]
   exact decide_eq_false hm
theorem sqrt_good (a R : Nat) (down : Bool) (ha : a < 18446744073709551616) (fa : Fl.fin a = true) (hp : 0 < Fl.Z a) (hR : IsRoot (rM a) R) (w : World) :
   Calls Tryz.prog 99 #[.float .f64 a, .bool down] w fun r w' => r = .returned (numV (rootV a R down) 0) ∧ Below w.heap.size w w' := by
 obtain ⟨h1, h2, hs⟩ := pos_cmp a ha fa hp
 have a1 := Fl.sM_lt a
 have la := len53 a1
 have ea1 := Fl.sE_ge a
 have ea2 := Fl.sE_le a fa
 have e1 := rE_ge a
 have e2 := rE_le a fa
 have x1 := rX_lt a
 have hT : ∀ w, Calls Tryz.prog 102 #[.float .f64 a] w fun e w' => e = .returned (.bool true) ∧ w = w' := by
   intro w
   have := number_any a ha w
   rw [fa] at this
   exact this
 have hLX : ∀ w, Calls Tryz.prog 120 #[exv (Fl.sg a) 0 (Fl.sM a) (Fl.sE a) false, .int .i64 (IntKind.i64.wrap (115 - (Fl.len (Fl.sM a) : Int)))] w fun r w' => r = .returned (exv (Fl.sg a) (rX a / 18446744073709551616) (rX a % 18446744073709551616) (rE a) false) ∧ ∃ k o o', w' = ((w.alloc o).alloc o').drewN k :=
   left_s (Fl.sg a) (Fl.sM a) (115 - Fl.len (Fl.sM a)) (rX a) (Fl.sE a) _ (wrap_sub 115 (Fl.len (Fl.sM a)) la (by omega) (by omega)) (by omega) rfl (by omega) (by omega) (by omega) (by omega)
 obtain ⟨hok, hR2⟩ := root_ok a R fa hs hR.1 hR.2
 have hO : ∀ w, Calls Tryz.prog 123 #[exv false 0 R (Int.tdiv (rP a) 2) (R * R != rM a), .bool down] w fun r w' => r = .returned (.float .f64 (rootV a R down)) ∧ Below w.heap.size w w' := by
   intro w
   have := to_ok false down _ _ _ hok w
   rw [exW_small false R _ _ (by omega)] at this
   exact this
 have hRt := root_any (rM a) R (rM_lt a) hR
 by_cases ho : rOdd a = true
 · have hM : rM a = rX a * 2 := by unfold rM; rw [if_pos ho]
   have hP : rP a = rE a - 1 := by unfold rP; rw [if_pos ho]
   have hL1 : ∀ w, Calls Tryz.prog 120 #[exv (Fl.sg a) (rX a / 18446744073709551616) (rX a % 18446744073709551616) (rE a) false, .int .i64 1] w fun r w' => r = .returned (exv (Fl.sg a) (rM a / 18446744073709551616) (rM a % 18446744073709551616) (rP a) false) ∧ ∃ k o o', w' = ((w.alloc o).alloc o').drewN k := by
     intro w
     rw [hM, hP]
     exact left_any (Fl.sg a) (rX a) (rE a) false 1 (by omega) (by omega) (by omega) (by omega) w
   exact sqrt_walk_odd a down (Fl.sg a) (Fl.sM a) (Fl.sE a) h1 h2 hT (split_any a ha) _ la (length_s _ _ _ (by omega)) _ _ _ hLX (by omega) (by omega) ho _ _ _ (by omega) (by omega) hL1 R _ hRt _ hO w
 · have hM : rM a = rX a := by unfold rM; rw [if_neg ho]
   have hP : rP a = rE a := by unfold rP; rw [if_neg ho]
   have ho' : (Int.tmod (rE a) 2 != 0) = false := by
     have : rOdd a = false := by revert ho; cases rOdd a <;> simp
     exact this
   rw [hM] at hRt
   rw [hP] at hO
   exact sqrt_walk_even a down (Fl.sg a) (Fl.sM a) (Fl.sE a) h1 h2 hT (split_any a ha) _ la (length_s _ _ _ (by omega)) _ _ _ hLX (by omega) (by omega) ho' R _ hRt _ (by rw [hM] at hO; exact hO) w
end Go.Proofs.YtnljfcebmgifdaaGreat
namespace Go.Proofs.YtnljfcebmgifdaaGreat
open Go.RowKit Ieee
end Go.Proofs.YtnljfcebmgifdaaGreat
namespace Go.Proofs.YtnljfcebmgifdaaGreat
open Go.RowKit Ieee
section
variable (F : FuncId)
end
end Go.Proofs.YtnljfcebmgifdaaGreat
namespace Go.Proofs.YtnljfcebmgifdaaGreat
open Go.RowKit Ieee
theorem Z_lt0 (a : Nat) (ha : a < 18446744073709551616) (fa : Fl.fin a = true) : (FloatKind.f64.format.order a 0 == some .lt) = decide (Fl.Z a < 0) := by
 have z0 : Fl.Z 0 = 0 := by decide
 refine (Fl.lt_eq (a := a) (b := 0) ha (by decide) (Fl.nan_of_fin fa) (by decide)).trans ?_
 rw [z0]
theorem Z_pos {a : Nat} (h1 : ¬ Fl.Z a < 0) (h2 : Fl.mg a ≠ 0) : 0 < Fl.Z a := by
 have := Fl.rv_pos (r := Fl.mg a) (by omega)
 unfold Fl.Z at h1 ⊢
 revert h1
 cases Fl.sg a
 · simp; omega
 · simp; omega
theorem sqrt_any (a : Nat) (down : Bool) (ha : a < 18446744073709551616) (w : World) :
   Calls Tryz.prog 99 #[.float .f64 a, .bool down] w fun r w' => r = .returned (pV (sqrtR a down)) ∧ Below w.heap.size w w' := by
 unfold sqrtR pV
 have HT := Lib.hid (fun w => number_any a ha w)
 by_cases hf : Fl.fin a = true
 · rw [if_pos hf]
   by_cases h1 : Fl.Z a < 0
   · rw [if_pos h1]
     have E := Z_lt0 a ha hf
     rw [decide_eq_true h1] at E
     rw [hf] at HT
     clear hf h1
     go_enter Tryz.func99, Tryz.ntmps99
     go_wp2_with fail
     refine (HT.out _).mono ?_
     rintro e w' ⟨rfl, rfl⟩
     go_wp2_with fail
     go_ret2
     exact ⟨rfl, Below.refl _ _⟩
   · rw [if_neg h1]
     by_cases h2 : Fl.mg a = 0
     · rw [if_pos h2]
       have E := Z_lt0 a ha hf
       rw [decide_eq_false h1] at E
       have E2 := eq0_of a ha hf
       rw [decide_eq_true h2] at E2
       rw [hf] at HT
       clear hf h1 h2
       go_enter Tryz.func99, Tryz.ntmps99
       go_wp2_with fail
       refine (HT.out _).mono ?_
       rintro e w' ⟨rfl, rfl⟩
       go_wp2_with fail
       go_ret2
       exact ⟨rfl, Below.refl _ _⟩
     · rw [if_neg h2]
       exact sqrt_good a _ down ha hf (Z_pos h1 h2) (rootOf_is _) w
 · rw [if_neg hf]
   have hf' : Fl.fin a = false := by revert hf; cases Fl.fin a <;> simp
   rw [hf'] at HT
   clear hf hf'
   go_enter Tryz.func99, Tryz.ntmps99
   go_wp2_with fail
   refine (HT.out _).mono ?_
   rintro e w' ⟨rfl, rfl⟩
   go_wp2_with fail
   go_ret2
   exact ⟨rfl, Below.refl _ _⟩
end Go.Proofs.YtnljfcebmgifdaaGreat
set_option linter.unusedVariables false
set_option linter.unusedSimpArgs false
namespace Go.Proofs.YtnljfcebmgifdaaGreat
open Go.RowKit Fl
theorem lt0_gd {x : Nat} (h : Gd x) : (FloatKind.f64.format.order x 0 == some .lt) = decide (Z x < 0) := by
 have z0 : Z 0 = 0 := by decide
 have := ltb h gd0
 rw [z0] at this
 exact this
theorem gt0_gd {x : Nat} (h : Gd x) : (FloatKind.f64.format.order x 0 == some .gt) = decide (0 < Z x) := by
 have z0 : Z 0 = 0 := by decide
 have := gtb h gd0
 rw [z0] at this
 exact this
theorem sqr_w (a : Sp) (h : a.wide = true) (w : World) : Calls Tryz.prog 69 #[.agg #[.float .f64 a.lo, .float .f64 a.hi]] w fun r w' => r = .returned (.agg #[.float .f64 0, .float .f64 9218868437227405312]) ∧ Below w.heap.size w w' := by
 have H1 := Lib.hid (fun w => wide_sp a w)
 have I := Lib.hid (fun w => inf_pos 1 (by decide) w)
 rw [h] at H1
 clear h
 go_enter Tryz.func69, Tryz.ntmps69
 go_wp2_with fail
 obtain ⟨W, hW, K0, K1, hB, hz⟩ := box2 w 24 24 #[Value.float FloatKind.f64 a.lo, Value.float FloatKind.f64 a.hi] #[Value.float FloatKind.f64 0, Value.float FloatKind.f64 0]
 rw [← hW]
 have K0 := Lib.hid K0
 have K1 := Lib.hid K1
 have HB := Lib.hid hB
 clear hW hB hz
 have HO := Lib.hid (show ∀ w', Hd W (w.heap.size + 1) 24 2 w' → (Hd W (w.heap.size + 1) 24 2 w' ∧ w'.cell? ⟨w.heap.size, 0, none⟩ = some (Value.float FloatKind.f64 a.lo) ∧ w'.cell? ⟨w.heap.size, 1, none⟩ = some (Value.float FloatKind.f64 a.hi) ∧ w'.cell? ⟨w.heap.size + 1, 0, none⟩ = some (cellAt w' ⟨w.heap.size + 1, 0, none⟩) ∧ w'.frozen? ⟨w.heap.size + 1, 0, none⟩ = false ∧ w'.cell? ⟨w.heap.size + 1, 1, none⟩ = some (cellAt w' ⟨w.heap.size + 1, 1, none⟩) ∧ w'.frozen? ⟨w.heap.size + 1, 1, none⟩ = false) from fun w' h => ⟨h, (h.blk K0.out (by omega)).cell 0, (h.blk K0.out (by omega)).cell 1, (h.at_ 0 (by decide)).1, (h.at_ 0 (by decide)).2, (h.at_ 1 (by decide)).1, (h.at_ 1 (by decide)).2⟩)
 have D0 := Lib.hid (show Hd W (w.heap.size + 1) 24 2 W from Hd.start K1.out)
 refine (H1.out _).mono ?_
 rintro r w1 ⟨rfl, hb⟩
 have D1 := Lib.hid (Hd.call D0.out hb)
 clear hb
 obtain ⟨-, q0, q1, q2, q3, q4, q5⟩ := HO.out _ D1.out
 have z1 := Hd.lt D1.out
 go_wp2_with fail
 refine (I.out _).mono ?_
 rintro r w' ⟨rfl, rfl⟩
 go_wp2_with fail
 (try simp only [Exit.inBlock, Exit.then])
 have hF := (Hd.set (Hd.set D1.out 0 (.float .f64 0)) 1 (.float .f64 9218868437227405312))
 exact bodyPost_ret (resS rfl _ _ (w.heap.size + 1) (.float .f64 0) (.float .f64 9218868437227405312) rfl (Hd.wrote2 hF)) rfl ⟨rfl, Hd.below hF HB.out (by omega)⟩
theorem sqr_h (a : Sp) (h : a.wide = false) (k : has0 a = true) (w : World) : Calls Tryz.prog 69 #[.agg #[.float .f64 a.lo, .float .f64 a.hi]] w fun r w' => r = .returned (.agg #[.float .f64 0, .float .f64 (mulS a a).hi]) ∧ Below w.heap.size w w' := by
 have H1 := Lib.hid (fun w => wide_sp a w)
 have H2 := Lib.hid (fun w => mul_sp a a w)
 rw [h] at H1
 have B1 := le0_gd a.vd.l
 have B2 := ge0_gd a.vd.h
 have B3 : decide (Z a.lo ≤ 0) = true ∧ decide (0 ≤ Z a.hi) = true := by unfold has0 at k; simpa using k
 generalize decide (Z a.lo ≤ 0) = p1 at *
 generalize decide (0 ≤ Z a.hi) = p2 at *
 generalize mulS a a = s at *
 clear h k
 obtain ⟨rfl, rfl⟩ := B3
 go_enter Tryz.func69, Tryz.ntmps69
 go_wp2_with fail
 obtain ⟨W, hW, K0, K1, hB, hz⟩ := box2 w 24 24 #[Value.float FloatKind.f64 a.lo, Value.float FloatKind.f64 a.hi] #[Value.float FloatKind.f64 0, Value.float FloatKind.f64 0]
 rw [← hW]
 have K0 := Lib.hid K0
 have K1 := Lib.hid K1
 have HB := Lib.hid hB
 clear hW hB hz
 have HO := Lib.hid (show ∀ w', Hd W (w.heap.size + 1) 24 2 w' → (Hd W (w.heap.size + 1) 24 2 w' ∧ w'.cell? ⟨w.heap.size, 0, none⟩ = some (Value.float FloatKind.f64 a.lo) ∧ w'.cell? ⟨w.heap.size, 1, none⟩ = some (Value.float FloatKind.f64 a.hi) ∧ w'.cell? ⟨w.heap.size + 1, 0, none⟩ = some (cellAt w' ⟨w.heap.size + 1, 0, none⟩) ∧ w'.frozen? ⟨w.heap.size + 1, 0, none⟩ = false ∧ w'.cell? ⟨w.heap.size + 1, 1, none⟩ = some (cellAt w' ⟨w.heap.size + 1, 1, none⟩) ∧ w'.frozen? ⟨w.heap.size + 1, 1, none⟩ = false) from fun w' h => ⟨h, (h.blk K0.out (by omega)).cell 0, (h.blk K0.out (by omega)).cell 1, (h.at_ 0 (by decide)).1, (h.at_ 0 (by decide)).2, (h.at_ 1 (by decide)).1, (h.at_ 1 (by decide)).2⟩)
 have D0 := Lib.hid (show Hd W (w.heap.size + 1) 24 2 W from Hd.start K1.out)
 refine (H1.out _).mono ?_
 rintro r w1 ⟨rfl, hb⟩
 have D1 := Lib.hid (Hd.call D0.out hb)
 clear hb
 obtain ⟨-, q0, q1, q2, q3, q4, q5⟩ := HO.out _ D1.out
 have z1 := Hd.lt D1.out
 go_wp2_with fail
 refine (H2.out _).mono ?_
 rintro r w2 ⟨rfl, hb⟩
 have D2 := Lib.hid (Hd.call D1.out hb)
 clear hb
 clear q0 q1 q2 q3 q4 q5
 obtain ⟨-, q0, q1, q2, q3, q4, q5⟩ := HO.out _ D2.out
 have z2 := Hd.lt D2.out
 have hz9 := z2
 have y0 : w.heap.size < w2.heap.size := by omega
 obtain ⟨g, hg⟩ : ∃ g, w2.heap.size = g := ⟨_, rfl⟩
 obtain ⟨V, hV⟩ : ∃ V, w2.alloc (.cells #[Value.float FloatKind.f64 s.lo, Value.float FloatKind.f64 s.hi] 24) = V := ⟨_, rfl⟩
 have O0 : Blk V g 24 #[Value.float FloatKind.f64 s.lo, Value.float FloatKind.f64 s.hi] := by rw [← hV, ← hg]; exact Blk.new_at _ _ _ rfl
 have E0 := Lib.hid (hV ▸ Hd.alloc D2.out _ : Hd W (w.heap.size + 1) 24 2 V)
 rw [hg] at hz9 y0
 obtain ⟨o0, o1, o2, o3⟩ := O0.both
 clear q0 q1 q2 q3 q4 q5 z2
 obtain ⟨-, q0, q1, q2, q3, q4, q5⟩ := HO.out _ E0.out
 have O0' := Lib.hid O0
 clear O0
 obtain ⟨V1, hV1⟩ : ∃ V1, V.setCell ⟨g, 0, none⟩ (.float .f64 0) = V1 := ⟨_, rfl⟩
 have O1 := (hV1 ▸ Blk.set_ O0'.out 0 _ : Blk V1 g 24 #[.float .f64 0, .float .f64 s.hi])
 have E1 := Lib.hid (hV1 ▸ Hd.far E0.out (by omega) 0 _ : Hd W (w.heap.size + 1) 24 2 V1)
 obtain ⟨r0, r1, r2, r3⟩ := O1.both
 obtain ⟨-, p0, p1, p2, p3, p4, p5⟩ := HO.out _ E1.out
 go_wp2_with fail
 (try simp only [Exit.inBlock, Exit.then])
 have hF := Hd.set (Hd.set E1.out 0 (.float .f64 0)) 1 (.float .f64 s.hi)
 exact bodyPost_ret (resS rfl _ _ (w.heap.size + 1) (.float .f64 0) (.float .f64 s.hi) rfl (Hd.wrote2 hF)) rfl ⟨rfl, Hd.below hF HB.out (by omega)⟩
theorem sqr_n (a : Sp) (h : a.wide = false) (k : has0 a = false) (w : World) : Calls Tryz.prog 69 #[.agg #[.float .f64 a.lo, .float .f64 a.hi]] w fun r w' => r = .returned (.agg #[.float .f64 (mulS a a).lo, .float .f64 (mulS a a).hi]) ∧ Below w.heap.size w w' := by
 have H1 := Lib.hid (fun w => wide_sp a w)
 have H2 := Lib.hid (fun w => mul_sp a a w)
 rw [h] at H1
 have B1 := le0_gd a.vd.l
 have B2 := ge0_gd a.vd.h
 have B3 : (decide (Z a.lo ≤ 0) = false) ∨ (decide (Z a.lo ≤ 0) = true ∧ decide (0 ≤ Z a.hi) = false) := by
   unfold has0 at k
   cases p : decide (Z a.lo ≤ 0)
   · exact Or.inl rfl
   · rw [p, Bool.true_and] at k
     exact Or.inr ⟨rfl, k⟩
 generalize decide (Z a.lo ≤ 0) = p1 at *
 generalize decide (0 ≤ Z a.hi) = p2 at *
 generalize mulS a a = s at *
 clear h k
 rcases B3 with rfl | ⟨rfl, rfl⟩
 all_goals
   go_enter Tryz.func69, Tryz.ntmps69
   go_wp2_with fail
   obtain ⟨W, hW, K0, K1, hB, hz⟩ := box2 w 24 24 #[Value.float FloatKind.f64 a.lo, Value.float FloatKind.f64 a.hi] #[Value.float FloatKind.f64 0, Value.float FloatKind.f64 0]
   rw [← hW]
   have K0 := Lib.hid K0
   have K1 := Lib.hid K1
   have HB := Lib.hid hB
   clear hW hB hz
   have HO := Lib.hid (show ∀ w', Hd W (w.heap.size + 1) 24 2 w' → (Hd W (w.heap.size + 1) 24 2 w' ∧ w'.cell? ⟨w.heap.size, 0, none⟩ = some (Value.float FloatKind.f64 a.lo) ∧ w'.cell? ⟨w.heap.size, 1, none⟩ = some (Value.float FloatKind.f64 a.hi) ∧ w'.cell? ⟨w.heap.size + 1, 0, none⟩ = some (cellAt w' ⟨w.heap.size + 1, 0, none⟩) ∧ w'.frozen? ⟨w.heap.size + 1, 0, none⟩ = false ∧ w'.cell? ⟨w.heap.size + 1, 1, none⟩ = some (cellAt w' ⟨w.heap.size + 1, 1, none⟩) ∧ w'.frozen? ⟨w.heap.size + 1, 1, none⟩ = false) from fun w' h => ⟨h, (h.blk K0.out (by omega)).cell 0, (h.blk K0.out (by omega)).cell 1, (h.at_ 0 (by decide)).1, (h.at_ 0 (by decide)).2, (h.at_ 1 (by decide)).1, (h.at_ 1 (by decide)).2⟩)
   have D0 := Lib.hid (show Hd W (w.heap.size + 1) 24 2 W from Hd.start K1.out)
   refine (H1.out _).mono ?_
   rintro r w1 ⟨rfl, hb⟩
   have D1 := Lib.hid (Hd.call D0.out hb)
   clear hb
   obtain ⟨-, q0, q1, q2, q3, q4, q5⟩ := HO.out _ D1.out
   have z1 := Hd.lt D1.out
   go_wp2_with fail
   refine (H2.out _).mono ?_
   rintro r w2 ⟨rfl, hb⟩
   have D2 := Lib.hid (Hd.call D1.out hb)
   clear hb
   clear q0 q1 q2 q3 q4 q5
   obtain ⟨-, q0, q1, q2, q3, q4, q5⟩ := HO.out _ D2.out
   have z2 := Hd.lt D2.out
   have hz9 := z2
   have y0 : w.heap.size < w2.heap.size := by omega
   obtain ⟨g, hg⟩ : ∃ g, w2.heap.size = g := ⟨_, rfl⟩
   obtain ⟨V, hV⟩ : ∃ V, w2.alloc (.cells #[Value.float FloatKind.f64 s.lo, Value.float FloatKind.f64 s.hi] 24) = V := ⟨_, rfl⟩
   have O0 : Blk V g 24 #[Value.float FloatKind.f64 s.lo, Value.float FloatKind.f64 s.hi] := by rw [← hV, ← hg]; exact Blk.new_at _ _ _ rfl
   have E0 := Lib.hid (hV ▸ Hd.alloc D2.out _ : Hd W (w.heap.size + 1) 24 2 V)
   rw [hg] at hz9 y0
   obtain ⟨o0, o1, o2, o3⟩ := O0.both
   clear q0 q1 q2 q3 q4 q5 z2
   obtain ⟨-, q0, q1, q2, q3, q4, q5⟩ := HO.out _ E0.out
   have O0' := Lib.hid O0
   clear O0
   go_wp2_with fail
   (try simp only [Exit.inBlock, Exit.then])
   have hF := Hd.set (Hd.set E0.out 0 (.float .f64 s.lo)) 1 (.float .f64 s.hi)
   exact bodyPost_ret (resS rfl _ _ (w.heap.size + 1) (.float .f64 s.lo) (.float .f64 s.hi) rfl (Hd.wrote2 hF)) rfl ⟨rfl, Hd.below hF HB.out (by omega)⟩
theorem sqr_sp (a : Sp) (w : World) : Calls Tryz.prog 69 #[.agg #[.float .f64 a.lo, .float .f64 a.hi]] w fun r w' => r = .returned (.agg #[.float .f64 (sqrS a).lo, .float .f64 (sqrS a).hi]) ∧ Below w.heap.size w w' := by
 cases h : a.wide
 · cases k : has0 a
   · rw [sqrS_not h k]; exact sqr_n a h k w
   · rw [sqrS_has h k]; exact sqr_h a h k w
 · rw [sqrS_wide h]; exact sqr_w a h w
theorem sqrt_neg (a : Sp) (h : Z a.hi < 0) (w : World) : Calls Tryz.prog 60 #[.agg #[.float .f64 a.lo, .float .f64 a.hi]] w fun r w' => r = .returned (.agg #[.float .f64 18442240474082181120, .float .f64 9218868437227405312]) ∧ Below w.heap.size w w' := by
 have B1 := lt0_gd a.vd.h
 rw [decide_eq_true h] at B1
 have H2 := Lib.hid (fun w => all_below w)
 clear h
 go_enter Tryz.func60, Tryz.ntmps60
 go_wp2_with fail
 obtain ⟨W, hW, K0, K1, hB, hz⟩ := box2 w 24 24 #[Value.float FloatKind.f64 a.lo, Value.float FloatKind.f64 a.hi] #[Value.float FloatKind.f64 0, Value.float FloatKind.f64 0]
 rw [← hW]
 have K0 := Lib.hid K0
 have K1 := Lib.hid K1
 have HB := Lib.hid hB
 clear hW hB hz
 have HO := Lib.hid (show ∀ w', Hd W (w.heap.size + 1) 24 2 w' → (Hd W (w.heap.size + 1) 24 2 w' ∧ w'.cell? ⟨w.heap.size, 0, none⟩ = some (Value.float FloatKind.f64 a.lo) ∧ w'.cell? ⟨w.heap.size, 1, none⟩ = some (Value.float FloatKind.f64 a.hi) ∧ w'.cell? ⟨w.heap.size + 1, 0, none⟩ = some (cellAt w' ⟨w.heap.size + 1, 0, none⟩) ∧ w'.frozen? ⟨w.heap.size + 1, 0, none⟩ = false ∧ w'.cell? ⟨w.heap.size + 1, 1, none⟩ = some (cellAt w' ⟨w.heap.size + 1, 1, none⟩) ∧ w'.frozen? ⟨w.heap.size + 1, 1, none⟩ = false) from fun w' h => ⟨h, (h.blk K0.out (by omega)).cell 0, (h.blk K0.out (by omega)).cell 1, (h.at_ 0 (by decide)).1, (h.at_ 0 (by decide)).2, (h.at_ 1 (by decide)).1, (h.at_ 1 (by decide)).2⟩)
 have D0 := Lib.hid (show Hd W (w.heap.size + 1) 24 2 W from Hd.start K1.out)
 refine (H2.out _).mono ?_
 rintro r w1 ⟨rfl, hb⟩
 have D1 := Lib.hid (Hd.call D0.out hb)
 clear hb
 obtain ⟨-, q0, q1, q2, q3, q4, q5⟩ := HO.out _ D1.out
 have z1 := Hd.lt D1.out
 go_wp2_with fail
 (try simp only [Exit.inBlock, Exit.then])
 have hF := (Hd.set (Hd.set D1.out 0 (.float .f64 18442240474082181120)) 1 (.float .f64 9218868437227405312))
 exact bodyPost_ret (resS rfl _ _ (w.heap.size + 1) (.float .f64 18442240474082181120) (.float .f64 9218868437227405312) rfl (Hd.wrote2 hF)) rfl ⟨rfl, Hd.below hF HB.out (by omega)⟩
theorem sqrt_w (a : Sp) (h : ¬ Z a.hi < 0) (k : a.wide = true) (w : World) : Calls Tryz.prog 60 #[.agg #[.float .f64 a.lo, .float .f64 a.hi]] w fun r w' => r = .returned (.agg #[.float .f64 18442240474082181120, .float .f64 9218868437227405312]) ∧ Below w.heap.size w w' := by
 have B1 := lt0_gd a.vd.h
 rw [decide_eq_false h] at B1
 have H1 := Lib.hid (fun w => wide_sp a w)
 rw [k] at H1
 have H2 := Lib.hid (fun w => all_below w)
 clear h k
 go_enter Tryz.func60, Tryz.ntmps60
 go_wp2_with fail
 obtain ⟨W, hW, K0, K1, hB, hz⟩ := box2 w 24 24 #[Value.float FloatKind.f64 a.lo, Value.float FloatKind.f64 a.hi] #[Value.float FloatKind.f64 0, Value.float FloatKind.f64 0]
 rw [← hW]
 have K0 := Lib.hid K0
 have K1 := Lib.hid K1
 have HB := Lib.hid hB
 clear hW hB hz
 have HO := Lib.hid (show ∀ w', Hd W (w.heap.size + 1) 24 2 w' → (Hd W (w.heap.size + 1) 24 2 w' ∧ w'.cell? ⟨w.heap.size, 0, none⟩ = some (Value.float FloatKind.f64 a.lo) ∧ w'.cell? ⟨w.heap.size, 1, none⟩ = some (Value.float FloatKind.f64 a.hi) ∧ w'.cell? ⟨w.heap.size + 1, 0, none⟩ = some (cellAt w' ⟨w.heap.size + 1, 0, none⟩) ∧ w'.frozen? ⟨w.heap.size + 1, 0, none⟩ = false ∧ w'.cell? ⟨w.heap.size + 1, 1, none⟩ = some (cellAt w' ⟨w.heap.size + 1, 1, none⟩) ∧ w'.frozen? ⟨w.heap.size + 1, 1, none⟩ = false) from fun w' h => ⟨h, (h.blk K0.out (by omega)).cell 0, (h.blk K0.out (by omega)).cell 1, (h.at_ 0 (by decide)).1, (h.at_ 0 (by decide)).2, (h.at_ 1 (by decide)).1, (h.at_ 1 (by decide)).2⟩)
 have D0 := Lib.hid (show Hd W (w.heap.size + 1) 24 2 W from Hd.start K1.out)
 refine (H1.out _).mono ?_
 rintro r w1 ⟨rfl, hb⟩
 have D1 := Lib.hid (Hd.call D0.out hb)
 clear hb
 obtain ⟨-, q0, q1, q2, q3, q4, q5⟩ := HO.out _ D1.out
 have z1 := Hd.lt D1.out
 go_wp2_with fail
 refine (H2.out _).mono ?_
 rintro r w2 ⟨rfl, hb⟩
 have D2 := Lib.hid (Hd.call D1.out hb)
 clear hb
 clear q0 q1 q2 q3 q4 q5
 obtain ⟨-, q0, q1, q2, q3, q4, q5⟩ := HO.out _ D2.out
 have z2 := Hd.lt D2.out
 go_wp2_with fail
 (try simp only [Exit.inBlock, Exit.then])
 have hF := (Hd.set (Hd.set D2.out 0 (.float .f64 18442240474082181120)) 1 (.float .f64 9218868437227405312))
 exact bodyPost_ret (resS rfl _ _ (w.heap.size + 1) (.float .f64 18442240474082181120) (.float .f64 9218868437227405312) rfl (Hd.wrote2 hF)) rfl ⟨rfl, Hd.below hF HB.out (by omega)⟩
theorem sqrt_on (a : Sp) (h : ¬ Z a.hi < 0) (k : a.wide = false) (w : World) : Calls Tryz.prog 60 #[.agg #[.float .f64 a.lo, .float .f64 a.hi]] w fun r w' => r = .returned (.agg #[.float .f64 (sqrtR (mx a.lo 0) true).1, .float .f64 (sqrtR a.hi false).1]) ∧ Below w.heap.size w w' := by
 have B1 := lt0_gd a.vd.h
 rw [decide_eq_false h] at B1
 have H1 := Lib.hid (fun w => wide_sp a w)
 rw [k] at H1
 have H3 := Lib.hid (fun w => sqrt_any a.hi false a.vd.h.lt w)
 have M := fun (ts : Array TypeId) (t : TypeId) (w : World) => run_max_gd (P := Tryz.prog) a.vd.l gd0 ts t w
 have H2 := Lib.hid (fun w => sqrt_any (mx a.lo 0) true (mx_gd a.vd.l gd0).lt w)
 obtain ⟨y, hy⟩ : ∃ y, y = sqrtR a.hi false := ⟨_, rfl⟩
 rw [← hy] at H3 ⊢
 obtain ⟨y1, y2⟩ := y
 clear hy
 unfold pV numV at H3
 dsimp only at H3 ⊢
 generalize mx a.lo 0 = m at *
 obtain ⟨x, hx⟩ : ∃ y, y = sqrtR m true := ⟨_, rfl⟩
 rw [← hx] at H2 ⊢
 obtain ⟨x1, x2⟩ := x
 clear hx h k
 unfold pV numV at H2
 dsimp only at H2 ⊢
 go_enter Tryz.func60, Tryz.ntmps60
 go_wp2_with fail
 obtain ⟨W, hW, K0, K1, hB, hz⟩ := box2 w 24 24 #[Value.float FloatKind.f64 a.lo, Value.float FloatKind.f64 a.hi] #[Value.float FloatKind.f64 0, Value.float FloatKind.f64 0]
 rw [← hW]
 have K0 := Lib.hid K0
 have K1 := Lib.hid K1
 have HB := Lib.hid hB
 clear hW hB hz
 have HO := Lib.hid (show ∀ w', Hd W (w.heap.size + 1) 24 2 w' → (Hd W (w.heap.size + 1) 24 2 w' ∧ w'.cell? ⟨w.heap.size, 0, none⟩ = some (Value.float FloatKind.f64 a.lo) ∧ w'.cell? ⟨w.heap.size, 1, none⟩ = some (Value.float FloatKind.f64 a.hi) ∧ w'.cell? ⟨w.heap.size + 1, 0, none⟩ = some (cellAt w' ⟨w.heap.size + 1, 0, none⟩) ∧ w'.frozen? ⟨w.heap.size + 1, 0, none⟩ = false ∧ w'.cell? ⟨w.heap.size + 1, 1, none⟩ = some (cellAt w' ⟨w.heap.size + 1, 1, none⟩) ∧ w'.frozen? ⟨w.heap.size + 1, 1, none⟩ = false) from fun w' h => ⟨h, (h.blk K0.out (by omega)).cell 0, (h.blk K0.out (by omega)).cell 1, (h.at_ 0 (by decide)).1, (h.at_ 0 (by decide)).2, (h.at_ 1 (by decide)).1, (h.at_ 1 (by decide)).2⟩)
 have D0 := Lib.hid (show Hd W (w.heap.size + 1) 24 2 W from Hd.start K1.out)
 refine (H1.out _).mono ?_
 rintro r w1 ⟨rfl, hb⟩
 have D1 := Lib.hid (Hd.call D0.out hb)
 clear hb
 obtain ⟨-, q0, q1, q2, q3, q4, q5⟩ := HO.out _ D1.out
 have z1 := Hd.lt D1.out
 go_wp2_with fail
 refine (H2.out _).mono ?_
 rintro r w2 ⟨rfl, hb⟩
 have D2 := Lib.hid (Hd.call D1.out hb)
 clear hb
 clear q0 q1 q2 q3 q4 q5
 obtain ⟨-, q0, q1, q2, q3, q4, q5⟩ := HO.out _ D2.out
 have z2 := Hd.lt D2.out
 go_wp2_with fail
 refine (H3.out _).mono ?_
 rintro r w3 ⟨rfl, hb⟩
 have D3 := Lib.hid (Hd.call D2.out hb)
 clear hb
 clear q0 q1 q2 q3 q4 q5
 obtain ⟨-, q0, q1, q2, q3, q4, q5⟩ := HO.out _ D3.out
 have z3 := Hd.lt D3.out
 go_wp2_with fail
 (try simp only [Exit.inBlock, Exit.then])
 have hF := (Hd.set (Hd.set D3.out 0 (.float .f64 x1)) 1 (.float .f64 y1))
 exact bodyPost_ret (resS rfl _ _ (w.heap.size + 1) (.float .f64 x1) (.float .f64 y1) rfl (Hd.wrote2 hF)) rfl ⟨rfl, Hd.below hF HB.out (by omega)⟩
theorem sqrt_sp (a : Sp) (w : World) : Calls Tryz.prog 60 #[.agg #[.float .f64 a.lo, .float .f64 a.hi]] w fun r w' => r = .returned (.agg #[.float .f64 (sqrtS a).lo, .float .f64 (sqrtS a).hi]) ∧ Below w.heap.size w w' := by
 unfold sqrtS
 by_cases hw : a.wide = false ∧ 0 ≤ Z a.hi
 · rw [dif_pos hw]
   exact sqrt_on a (by omega) hw.1 w
 · rw [dif_neg hw]
   by_cases h : Z a.hi < 0
   · exact sqrt_neg a h w
   · have k : a.wide = true := by
       cases e : a.wide
       · exact absurd ⟨e, by omega⟩ hw
       · rfl
     exact sqrt_w a h k w
end Go.Proofs.YtnljfcebmgifdaaGreat
namespace Go.Proofs.YtnljfcebmgifdaaGreat
open Go.RowKit Fl
theorem max_sp (a b : Sp) (w : World) : Calls Tryz.prog 77 #[.agg #[.float .f64 a.lo, .float .f64 a.hi], .agg #[.float .f64 b.lo, .float .f64 b.hi]] w fun r w' => r = .returned (.agg #[.float .f64 (maxS a b).lo, .float .f64 (maxS a b).hi]) ∧ Below w.heap.size w w' :=
 (max_any a.vd.l a.vd.h b.vd.l b.vd.h w).mono fun _ _ ⟨h, o, o', o2, e⟩ => ⟨h, e ▸ below_new3 w o o' o2⟩
theorem pos_sp (a : Sp) (w : World) : Calls Tryz.prog 64 #[.agg #[.float .f64 a.lo, .float .f64 a.hi]] w fun r w' => r = .returned (.int .i64 (posS a : Nat)) ∧ Below w.heap.size w w' := by
 refine (positive_any a.lo a.hi _ _ (gt0_gd a.vd.l) (le0_gd a.vd.h) w).mono ?_
 rintro _ _ ⟨rfl, o, rfl⟩
 refine ⟨?_, below_new w o⟩
 unfold posS
 by_cases h1 : 0 < Z a.lo
 · simp [h1]
 · by_cases h2 : Z a.hi ≤ 0 <;> simp [h1, h2]
end Go.Proofs.YtnljfcebmgifdaaGreat
namespace Go.Proofs.YtnljfcebmgifdaaGreat
open Go.RowKit Fl
end Go.Proofs.YtnljfcebmgifdaaGreat
namespace Go.Proofs.YtnljfcebmgifdaaGreat
open Go.RowKit Fl
end Go.Proofs.YtnljfcebmgifdaaGreat
namespace Go.Proofs.YtnljfcebmgifdaaGreat
open Go.RowKit Fl
end Go.Proofs.YtnljfcebmgifdaaGreat
namespace Go.Proofs.YtnljfcebmgifdaaGreat
open Go.RowKit Fl
end Go.Proofs.YtnljfcebmgifdaaGreat
set_option linter.unusedVariables false
set_option linter.unusedSimpArgs false
namespace Go.Proofs.YtnljfcebmgifdaaGreat
open Fl
theorem eq00 : (FloatKind.f64.format.order 0 0 == some .eq) = true := order_self gd0
theorem isZW00 : isZW 0 0 = true := by unfold isZW; rw [eq00]; rfl
end Go.Proofs.YtnljfcebmgifdaaGreat
set_option linter.unusedVariables false
set_option linter.unusedSimpArgs false
namespace Go.Proofs.YtnljfcebmgifdaaGreat
open Go.RowKit Fl
section
variable {fn : Func} {p q r : Tmp} {ta tb : TypeId}
theorem res_cct (h : fn.results = #[.cell p ta, .cell q tb, .tmp r]) (tmps : Array Value) (w : World) (g : Nat) (cs : Array Value) (g' : Nat) (cs' : Array Value) {t t' : TypeId} {d d' : TypeDesc}
   (hp : tmps.getD p undef = .pointer (some ⟨g, 0, none⟩)) (hg : Blk w g t cs) (hi : (Tryz.prog.info? ta).map (·.size) = some cs.size) (hu : Tryz.prog.underlying ta = some d) (hd : isRow d = true)
   (hp' : tmps.getD q undef = .pointer (some ⟨g', 0, none⟩)) (hg' : Blk w g' t' cs') (hi' : (Tryz.prog.info? tb).map (·.size) = some cs'.size) (hu' : Tryz.prog.underlying tb = some d') (hd' : isRow d' = true) :
   (results fn tmps).run Tryz.prog w = .ok (.tuple #[.agg cs, .agg cs', tmps.getD r undef]) w := by
 have e1 : tmps[p]?.getD undef = .pointer (some ⟨g, 0, none⟩) := by simpa using hp
 have e2 : tmps[q]?.getD undef = .pointer (some ⟨g', 0, none⟩) := by simpa using hp'
 simp [results, h, e1, e2, asAddr, run_row w g t ta cs d hg hu hd hi, run_row w g' t' tb cs' d' hg' hu' hd' hi']
end
end Go.Proofs.YtnljfcebmgifdaaGreat
set_option linter.unusedVariables false
set_option linter.unusedSimpArgs false
namespace Go.Proofs.YtnljfcebmgifdaaGreat
open Go.RowKit Fl
theorem scaleV_any (a : V3) (s : Sp) (w : World) : Calls Tryz.prog 79 #[Value.agg #[.float .f64 a.x.lo, .float .f64 a.x.hi, .float .f64 a.y.lo, .float .f64 a.y.hi, .float .f64 a.z.lo, .float .f64 a.z.hi], Value.agg #[.float .f64 s.lo, .float .f64 s.hi]] w fun r w' => r = .returned (vval (vMul a ⟨s, s, s⟩)) ∧ Below w.heap.size w w' := by
 have C0 := Lib.hid (fun w => vMul_any a (⟨s, s, s⟩ : V3) w)
 obtain ⟨p0, hp0⟩ : ∃ z_, vMul a (⟨s, s, s⟩ : V3) = z_ := ⟨_, rfl⟩
 rw [hp0] at C0
 have hT : vMul a ⟨s, s, s⟩ = p0 := by
   subst hp0; rfl
 rw [hT]
 clear hT
 clear hp0
 go_enter Tryz.func79, Tryz.ntmps79
 go_wp2_with (refine wl_load (by kernel_rfl) rfl rfl (((Blk.new_at _ _ _ rfl).alloc _).alloc _) (by rw [info_V3]; rfl) Tryz.underlying26 rfl ?_)
 obtain ⟨W, hW, K0, K1, K2, hB, hz⟩ := bx3 w 26 24 26 (vc a) #[.float .f64 s.lo, .float .f64 s.hi] #[.float .f64 0, .float .f64 0, .float .f64 0, .float .f64 0, .float .f64 0, .float .f64 0]
 rw [← hW]
 have K0 := Lib.hid K0
 have K1 := Lib.hid K1
 have K2 := Lib.hid K2
 have HB := Lib.hid hB
 clear hW hB hz
 have D1 := dr W
 refine (C0.out _).mono ?_
 rintro r w2 ⟨rfl, hb⟩
 have D3 := ds D1 hb
 clear D1
 clear hb
 have f6 := (kb K2 D3)
 obtain ⟨V4, hV5⟩ : ∃ V, World.setRow w2 (w.heap.size + 1 + 1) (vc p0) = V := ⟨_, rfl⟩
 have K7 := kfr hV5 K0 D3 (by omega)
 have K8 := kfr hV5 K1 D3 (by omega)
 have K9 := ksr hV5 K2 D3
 have HB10 := hbr hV5 HB D3 (by omega)
 have D11 := dr V4
 clear K0 K1 K2 HB D3
 go_wp2_with (refine wpList_store_row rfl 26 _ _ rfl (w.heap.size + 1 + 1) (vc p0) rfl rfl _ _ f6 (by rw [info_V3]; rfl) rfl (by kernel_rfl) ?_; rw [hV5])
 clear hV5 f6
 (try simp only [Exit.inBlock, Exit.then])
 exact bodyPost_ret (res_c rfl _ _ (w.heap.size + 1 + 1) (vc p0) rfl (kb K9 D11) (by rw [info_V3]; rfl) Tryz.underlying26 rfl) rfl ⟨rfl, below_step HB10.out D11.out⟩
end Go.Proofs.YtnljfcebmgifdaaGreat
set_option linter.unusedVariables false
set_option linter.unusedSimpArgs false
namespace Go.Proofs.YtnljfcebmgifdaaGreat
open Go.ChangeShapes Go.WideShapes Go.ChangeAt Go.RowKit Go.Joins
section
variable {H : Type} {enc : TypeId × Value → H} {w : World} {base : Nat} {spare : Nat → Bool} {held : Bool}
theorem cellsS : Tryz.prog.cellsOf 24 = 2 := by kernel_rfl
theorem open_span {r : Reach} {b0 : Nat} {v : Value} {d : DataW H} {p : List MemPlace} (hv : Value.okWide Tryz.prog w r b0 24 v) (h : DataW.Trod enc Tryz.prog w base spare held 24 v d p) :
   ∃ a b : Nat, v = .agg #[.float .f64 a, .float .f64 b] ∧ d = .agg [.lit (.float .f64 a), .lit (.float .f64 b)] ∧ p = [] ∧ (Lit.float .f64 a).wf = true ∧ (Lit.float .f64 b).wf = true := by
 obtain ⟨v0, v1, y0, y1, n, rfl, rfl, rfl, h0, h1⟩ := open_agg2 Tryz.underlying24 (by kernel_rfl) cellsS hv h
 obtain ⟨a, rfl, rfl, wa⟩ := trod_float1 Tryz.underlying22 h0
 obtain ⟨b, rfl, rfl, wb⟩ := trod_float1 Tryz.underlying22 h1
 exact ⟨a, b, rfl, rfl, rfl, wa, wb⟩
theorem shut_span {a b : Nat} (ha : (Lit.float .f64 a).wf = true) (hb : (Lit.float .f64 b).wf = true) :
   DataW.Trod enc Tryz.prog w base spare held 24 (.agg #[.float .f64 a, .float .f64 b]) (.agg [.lit (.float .f64 a), .lit (.float .f64 b)]) [] := by
 have h := shut_agg2 (enc := enc) (w := w) (base := base) (spare := spare) (held := held) (v0 := .float .f64 a) (v1 := .float .f64 b) (y0 := (.lit (.float .f64 a), [])) (y1 := (.lit (.float .f64 b), [])) Tryz.underlying24 (by kernel_rfl) cellsS
   ⟨1, by simp [DataW.trod, Tryz.underlying22, ha]⟩ ⟨1, by simp [DataW.trod, Tryz.underlying22, hb]⟩
 exact h
end
end Go.Proofs.YtnljfcebmgifdaaGreat
