/- Shaken: Wo0 Vi Vl. -/
import Derived.Test.YtnljfcebmgifdaaGreatZPb
import Derived.Test.YtnljfcebmgifdaaGreatZVh
import Derived.Test.YtnljfcebmgifdaaGreatZWn
import Derived.Test.YtnljfcebmgifdaaGreatZWj
set_option linter.unusedVariables false
set_option linter.unusedSimpArgs false
namespace Go.Proofs.YtnljfcebmgifdaaGreat
open Go.RowKit Ieee
set_option maxRecDepth 100000 in
set_option maxHeartbeats 4000000 in
theorem div_walk (a b : Nat) (down : Bool) (na nb : Bool) (A B : Nat) (ea eb : Int) (hEb : (FloatKind.f64.format.order b 0 == some .eq) = false)
   (hHT : ∀ w, Calls Tryz.prog 118 #[.float .f64 a, .float .f64 b] w fun e w' => e = .returned (.bool true) ∧ w = w')
   (hHA : ∀ w, Calls Tryz.prog 119 #[.float .f64 a] w fun r w' => r = .returned (exv na 0 A ea false) ∧ ∃ o, w' = w.alloc o)
   (hHB : ∀ w, Calls Tryz.prog 119 #[.float .f64 b] w fun r w' => r = .returned (exv nb 0 B eb false) ∧ ∃ o, w' = w.alloc o)
   (La Lb : Nat) (hLa : La ≤ 53) (hLb : Lb ≤ 53)
   (hHLa : ∀ w, Calls Tryz.prog 121 #[exv na 0 A ea false] w fun r w' => r = .returned (.int .i64 (La : Int)) ∧ ∃ o, w' = w.alloc o)
   (hHLb : ∀ w, Calls Tryz.prog 121 #[exv nb 0 B eb false] w fun r w' => r = .returned (.int .i64 (Lb : Int)) ∧ ∃ o, w' = w.alloc o)
   (X1 X0 Y1 Y0 : Nat) (ex ey : Int)
   (hHLX : ∀ w, Calls Tryz.prog 120 #[exv na 0 A ea false, .int .i64 (IntKind.i64.wrap (117 - (La : Int)))] w fun r w' => r = .returned (exv na X1 X0 ex false) ∧ ∃ k o o', w' = ((w.alloc o).alloc o').drewN k)
   (hHLY : ∀ w, Calls Tryz.prog 120 #[exv nb 0 B eb false, .int .i64 (IntKind.i64.wrap (53 - (Lb : Int)))] w fun r w' => r = .returned (exv nb Y1 Y0 ey false) ∧ ∃ k o o', w' = ((w.alloc o).alloc o').drewN k)
   (hex : -5000 ≤ ex) (hex2 : ex ≤ 5000) (hey : -5000 ≤ ey) (hey2 : ey ≤ 5000) (q1 r1 q2 r2 : Nat)
   (hHD1 : ∀ w, Calls Tryz.prog 122 #[.int .u64 0, .int .u64 (X1 : Int), .int .u64 (Y0 : Int)] w fun r w' => r = .returned (.tuple #[.int .u64 (q1 : Int), .int .u64 (r1 : Int)]) ∧ ∃ k, w' = w.drewN k)
   (hHD2 : ∀ w, Calls Tryz.prog 122 #[.int .u64 (r1 : Int), .int .u64 (X0 : Int), .int .u64 (Y0 : Int)] w fun r w' => r = .returned (.tuple #[.int .u64 (q2 : Int), .int .u64 (r2 : Int)]) ∧ ∃ k, w' = w.drewN k)
   (v : Nat) (hHO : ∀ w, Calls Tryz.prog 123 #[exv (na != nb) q1 q2 (ex - ey) ((r2 : Int) != 0), .bool down] w fun r w' => r = .returned (.float .f64 v) ∧ Below w.heap.size w w') (w : World) :
   Calls Tryz.prog 91 #[.float .f64 a, .float .f64 b, .bool down] w fun r w' => r = .returned (numV v 0) ∧ Below w.heap.size w w' := by
 have HT := Lib.hid hHT; clear hHT
 have HA := Lib.hid hHA; clear hHA
 have HB := Lib.hid hHB; clear hHB
 have HLa := Lib.hid hHLa; clear hHLa
 have HLb := Lib.hid hHLb; clear hHLb
 have HLX := Lib.hid hHLX; clear hHLX
 have HLY := Lib.hid hHLY; clear hHLY
 have HD1 := Lib.hid hHD1; clear hHD1
 have HD2 := Lib.hid hHD2; clear hHD2
 have HO := Lib.hid hHO; clear hHO
 go_enter Tryz.func91, Tryz.ntmps91
 go_wp2_with fail
 refine (HT.out _).mono ?_
 rintro e w' ⟨rfl, rfl⟩
 go_wp2_with fail
 refine (HA.out _).mono ?_
 rintro e w' ⟨rfl, o1, rfl⟩
 go_wp2_with fail
 refine (HB.out _).mono ?_
 rintro e w' ⟨rfl, o2, rfl⟩
 go_wp2_with fail
 go_cut [] (fun wc => ∃ p1 p2 p3 k, wc = (((((((w.alloc o1).alloc o2).alloc (exo na X1 X0 ex false)).alloc (exo nb 0 B eb false)).alloc p1).alloc p2).alloc p3).drewN k)
 case first =>
   go_region_with (first
     | (go_at_call 121; refine (HLa.out _).mono ?_; rintro r w' ⟨rfl, o, rfl⟩)
     | (go_at_call 120; refine (HLX.out _).mono ?_; rintro r w' ⟨rfl, k, o, o', rfl⟩))
   all_goals (go_wp2_with fail; go_meet; exact ⟨_, _, _, _, rfl⟩)
 case rest =>
   obtain ⟨p1, p2, p3, k1, rfl⟩ := hcut
   go_wp2_with fail
   go_cut [] (fun wc => ∃ p1 p2 p3 p4 p5 p6 k, wc = ((((((((((w.alloc o1).alloc o2).alloc (exo na X1 X0 ex false)).alloc (exo nb Y1 Y0 ey false)).alloc p1).alloc p2).alloc p3).alloc p4).alloc p5).alloc p6).drewN k)
   case first =>
     go_region_with (first
       | (go_at_call 121; refine (HLb.out _).mono ?_; rintro r w' ⟨rfl, o, rfl⟩)
       | (go_at_call 120; refine (HLY.out _).mono ?_; rintro r w' ⟨rfl, k, o, o', rfl⟩))
     all_goals (go_wp2_with fail; go_meet; exact ⟨_, _, _, _, _, _, _, rfl⟩)
   case rest =>
     obtain ⟨p1, p2, p3, p4, p5, p6, k2, rfl⟩ := hcut
     go_wp2_with fail
     refine (HD1.out _).mono ?_
     rintro r w' ⟨rfl, k3, rfl⟩
     go_wp2_with fail
     refine (HD2.out _).mono ?_
     rintro r w' ⟨rfl, k4, rfl⟩
     go_wp2_with fail
     refine (HO.out _).mono ?_
     rintro r w' ⟨rfl, hb⟩
     have HBe := Lib.hid hb
     clear hb
     go_wp2_with fail
     go_ret2
     exact ⟨rfl, (below_drewN (below_more (below_more (below_more (below_more (below_more (below_more (below_more (below_more (below_more (below_more (below_new _ _) _) _) _) _) _) _) _) _) _) _) _).trans (HBe.out.mono (by simp; omega))⟩
end Go.Proofs.YtnljfcebmgifdaaGreat
set_option linter.unusedVariables false
set_option linter.unusedSimpArgs false
namespace Go.Proofs.YtnljfcebmgifdaaGreat
open Go.RowKit Ieee
/-- After k rounds of the long division: X what is divided, N the divisor. -/
structure LdR (X N k q r : Nat) : Prop where
 hk : k ≤ 60
 eq : 2 * (q * N) + r = X * 2 ^ k
 lt : r < 2 * N
theorem LdR.no {X N k q r : Nat} (h : LdR X N k q r) (hk : k < 60) (hc : r < N) : LdR X N (k + 1) (q * 2) (r * 2) := by
 refine ⟨hk, ?_, by omega⟩
 have h1 := h.eq
 rw [Nat.pow_succ, ← Nat.mul_assoc X, ← h1]
 have h2 : q * 2 * N = 2 * (q * N) := by rw [Nat.mul_right_comm, Nat.mul_comm]
 omega
theorem LdR.stop {X N q r : Nat} (h : LdR X N 60 q r) (hN : 0 < N) : q = X * 2 ^ 60 / (2 * N) ∧ r = X * 2 ^ 60 % (2 * N) := by
 have h1 := h.eq
 have h2 : 2 * (q * N) = 2 * N * q := by rw [Nat.mul_comm q, Nat.mul_assoc]
 rw [← h1, h2]
 have hl := h.lt
 exact ⟨by rw [Nat.mul_add_div (by omega), Nat.div_eq_of_lt hl, Nat.add_zero], by rw [Nat.mul_add_mod, Nat.mod_eq_of_lt hl]⟩
end Go.Proofs.YtnljfcebmgifdaaGreat
set_option linter.unusedVariables false
set_option linter.unusedSimpArgs false
namespace Go.Proofs.YtnljfcebmgifdaaGreat
open Go.RowKit Ieee
theorem length_s (neg : Bool) (A : Nat) (e : Int) (h : A < 18446744073709551616) (w : World) : Calls Tryz.prog 121 #[exv neg 0 A e false] w fun r w' => r = .returned (.int .i64 (Fl.len A : Int)) ∧ ∃ o, w' = w.alloc o := by
 have := length_any neg 0 A e false (by omega) h w
 rw [Nat.zero_mul, Nat.zero_add] at this
 exact this
theorem left_s (neg : Bool) (A n m : Nat) (e : Int) (x : Int) (hx : x = (n : Int)) (hA : A < 18446744073709551616) (hm : m = A * 2 ^ n) (hW : m < 340282366920938463463374607431768211456) (hn : n ≤ 128) (he : -100000 ≤ e) (he2 : e ≤ 100000) (w : World) :
   Calls Tryz.prog 120 #[exv neg 0 A e false, .int .i64 x] w fun r w' => r = .returned (exW neg m (e - n) false) ∧ ∃ k o o', w' = ((w.alloc o).alloc o').drewN k := by
 subst hx hm
 have := left_any neg A e false n hW hn he he2 w
 rw [exW_small neg A e false hA] at this
 exact this
theorem wrap_sub (c L : Nat) (hL : L ≤ 53) (hc : 53 ≤ c) (hc2 : c ≤ 200) : IntKind.i64.wrap ((c : Int) - (L : Int)) = ((c - L : Nat) : Int) := by
 rw [IntKind.wrap_i64]; omega
theorem words_join {x y W : Nat} (h : W = x * 18446744073709551616 + y) (hy : y < 18446744073709551616) : W / 18446744073709551616 = x ∧ W % 18446744073709551616 = y := by omega
theorem eq0_of (b : Nat) (h : b < 18446744073709551616) (hf : Fl.fin b = true) : (FloatKind.f64.format.order b 0 == some .eq) = decide (Fl.mg b = 0) := pl_of b h (Fl.nan_of_fin hf)
theorem div_good (a b : Nat) (down : Bool) (ha : a < 18446744073709551616) (hb : b < 18446744073709551616) (fa : Fl.fin a = true) (fb : Fl.fin b = true) (hb0 : Fl.mg b ≠ 0) (w : World) :
   Calls Tryz.prog 91 #[.float .f64 a, .float .f64 b, .bool down] w fun r w' => r = .returned (numV (divV a b down) 0) ∧ Below w.heap.size w w' := by
 have hEb := eq0_of b hb fb
 rw [decide_eq_false hb0] at hEb
 have hsb : Fl.sM b ≠ 0 := fun h => hb0 ((Fl.sM_zero b).1 h)
 have a1 := Fl.sM_lt a
 have b1 := Fl.sM_lt b
 have la := len53 a1
 have lb := len53 b1
 have ea1 := Fl.sE_ge a
 have ea2 := Fl.sE_le a fa
 have eb1 := Fl.sE_ge b
 have eb2 := Fl.sE_le b fb
 have x1 := qX_lt a
 have n1 := qX_lt b
 have n2 := qX_ge b hsb
 have hT : ∀ w, Calls Tryz.prog 118 #[.float .f64 a, .float .f64 b] w fun e w' => e = .returned (.bool true) ∧ w = w' := by
   intro w
   have := two_any a b ha hb w
   rw [fa, fb] at this
   exact this
 have hX : qX a * 18446744073709551616 = Fl.sM a * 2 ^ (117 - Fl.len (Fl.sM a)) := by
   unfold qX
   rw [show (18446744073709551616 : Nat) = 2 ^ 64 by decide, Nat.mul_assoc, ← Nat.pow_add, show 53 - Fl.len (Fl.sM a) + 64 = 117 - Fl.len (Fl.sM a) by omega]
 have hLX : ∀ w, Calls Tryz.prog 120 #[exv (Fl.sg a) 0 (Fl.sM a) (Fl.sE a) false, .int .i64 (IntKind.i64.wrap (117 - (Fl.len (Fl.sM a) : Int)))] w fun r w' => r = .returned (exv (Fl.sg a) (qX a) 0 (qE a - 64) false) ∧ ∃ k o o', w' = ((w.alloc o).alloc o').drewN k := by
   intro w
   have := left_s (Fl.sg a) (Fl.sM a) (117 - Fl.len (Fl.sM a)) (qX a * 18446744073709551616) (Fl.sE a) _ (wrap_sub 117 (Fl.len (Fl.sM a)) la (by omega) (by omega)) (by omega) hX (by omega) (by omega) (by omega) (by omega) w
   have e1 : exW (Fl.sg a) (qX a * 18446744073709551616) (Fl.sE a - ((117 - Fl.len (Fl.sM a) : Nat) : Int)) false = exv (Fl.sg a) (qX a) 0 (qE a - 64) false := by
     unfold exW
     rw [Nat.mul_div_cancel _ (by omega), Nat.mul_mod_left, show Fl.sE a - ((117 - Fl.len (Fl.sM a) : Nat) : Int) = qE a - 64 by unfold qE; omega]
   rw [e1] at this
   exact this
 have hLY : ∀ w, Calls Tryz.prog 120 #[exv (Fl.sg b) 0 (Fl.sM b) (Fl.sE b) false, .int .i64 (IntKind.i64.wrap (53 - (Fl.len (Fl.sM b) : Int)))] w fun r w' => r = .returned (exv (Fl.sg b) 0 (qX b) (qE b) false) ∧ ∃ k o o', w' = ((w.alloc o).alloc o').drewN k := by
   intro w
   have := left_s (Fl.sg b) (Fl.sM b) (53 - Fl.len (Fl.sM b)) (qX b) (Fl.sE b) _ (wrap_sub 53 (Fl.len (Fl.sM b)) lb (by omega) (by omega)) (by omega) rfl (by omega) (by omega) (by omega) (by omega) w
   rw [exW_small _ (qX b) _ _ (by omega)] at this
   exact this
 have hq1 : qX a / qX b < 18446744073709551616 := Nat.lt_of_le_of_lt (Nat.div_le_self _ _) (by omega)
 have hr1 : qX a % qX b < qX b := Nat.mod_lt _ (by omega)
 have hD1 := fun w => div64_small (qX a) (qX b) (by omega) (by omega) (by omega) w
 have hD2 := fun w => div64_any (qX a % qX b) (qX b) n2 n1 hr1 w
 have hW : divW a b = qX a / qX b * 18446744073709551616 + qX a % qX b * 18446744073709551616 / qX b ∧ qX a * 18446744073709551616 % qX b = qX a % qX b * 18446744073709551616 % qX b ∧ qX a % qX b * 18446744073709551616 / qX b < 18446744073709551616 := by
   have e1 := Nat.div_add_mod (qX a) (qX b)
   have e2 : qX a * 18446744073709551616 = qX b * (qX a / qX b * 18446744073709551616) + qX a % qX b * 18446744073709551616 := by
     rw [← Nat.mul_assoc, ← Nat.add_mul, e1]
   unfold divW
   refine ⟨?_, ?_, ?_⟩
   · rw [e2, Nat.mul_add_div (by omega)]
   · rw [e2, Nat.mul_add_mod]
   · rw [Nat.div_lt_iff_lt_mul (by omega), Nat.mul_comm 18446744073709551616]
     exact Nat.mul_lt_mul_of_pos_right hr1 (by omega)
 have hO : ∀ w, Calls Tryz.prog 123 #[exv (Fl.sg a != Fl.sg b) (qX a / qX b) (qX a % qX b * 18446744073709551616 / qX b) (qE a - 64 - qE b) (((qX a % qX b * 18446744073709551616 % qX b : Nat) : Int) != 0), .bool down] w fun r w' => r = .returned (.float .f64 (divV a b down)) ∧ Below w.heap.size w w' := by
   intro w
   have := to_ok (Fl.sg a != Fl.sg b) down _ _ _ (div_ok a b fa fb hsb) w
   have e1 : exW (Fl.sg a != Fl.sg b) (divW a b) (divE a b) (divM a b) = exv (Fl.sg a != Fl.sg b) (qX a / qX b) (qX a % qX b * 18446744073709551616 / qX b) (qE a - 64 - qE b) (((qX a % qX b * 18446744073709551616 % qX b : Nat) : Int) != 0) := by
     obtain ⟨j1, j2⟩ := words_join hW.1 hW.2.2
     unfold exW divM divE
     rw [hW.2.1, bne_zero, j1, j2]
   rw [e1] at this
   exact this
 have e1 := qE_ge a
 have e2 := qE_le a fa
 have e3 := qE_ge b
 have e4 := qE_le b fb
 exact div_walk a b down (Fl.sg a) (Fl.sg b) (Fl.sM a) (Fl.sM b) (Fl.sE a) (Fl.sE b) hEb hT (split_any a ha) (split_any b hb) _ _ la lb (length_s _ _ _ (by omega)) (length_s _ _ _ (by omega)) _ _ _ _ _ _ hLX hLY (by omega) (by omega) (by omega) (by omega) _ _ _ _ hD1 hD2 _ hO w
end Go.Proofs.YtnljfcebmgifdaaGreat
namespace Go.Proofs.YtnljfcebmgifdaaGreat
open Go.RowKit Ieee
end Go.Proofs.YtnljfcebmgifdaaGreat
namespace Go.Proofs.YtnljfcebmgifdaaGreat
open Go.RowKit Ieee
/-- What Add tells of any two. -/
def addR (a b : Nat) (down : Bool) : Nat × Nat := if (Fl.fin a && Fl.fin b) = true then (toS down (sumOf (Fl.sg a) (Fl.sg b) (Fl.sM a) (Fl.sM b) (Fl.sE a) (Fl.sE b)), 0) else (0, 10)
def mulR (a b : Nat) (down : Bool) : Nat × Nat := if (Fl.fin a && Fl.fin b) = true then (mulV a b down, 0) else (0, 10)
def divR (a b : Nat) (down : Bool) : Nat × Nat := if (Fl.fin a && Fl.fin b) = true then (if Fl.mg b = 0 then (0, 11) else (divV a b down, 0)) else (0, 10)
def pV (x : Nat × Nat) : Value := numV x.1 x.2
theorem add_any (a b : Nat) (down : Bool) (ha : a < 18446744073709551616) (hb : b < 18446744073709551616) (w : World) :
   Calls Tryz.prog 104 #[.float .f64 a, .float .f64 b, .bool down] w fun r w' => r = .returned (pV (addR a b down)) ∧ Below w.heap.size w w' := by
 unfold addR pV
 by_cases hf : (Fl.fin a && Fl.fin b) = true
 · rw [if_pos hf]; exact add_good a b down ha hb hf w
 · rw [if_neg hf]; exact add_bad a b down ha hb (by revert hf; cases (Fl.fin a && Fl.fin b) <;> simp) w
theorem mul_any (a b : Nat) (down : Bool) (ha : a < 18446744073709551616) (hb : b < 18446744073709551616) (w : World) :
   Calls Tryz.prog 106 #[.float .f64 a, .float .f64 b, .bool down] w fun r w' => r = .returned (pV (mulR a b down)) ∧ Below w.heap.size w w' := by
 unfold mulR pV
 by_cases hf : (Fl.fin a && Fl.fin b) = true
 · rw [if_pos hf]; exact mul_good a b down ha hb hf w
 · rw [if_neg hf]; exact mul_bad a b down ha hb (by revert hf; cases (Fl.fin a && Fl.fin b) <;> simp) w
theorem div_bad (a b : Nat) (down : Bool) (ha : a < 18446744073709551616) (hb : b < 18446744073709551616) (hf : (Fl.fin a && Fl.fin b) = false) (w : World) :
   Calls Tryz.prog 91 #[.float .f64 a, .float .f64 b, .bool down] w fun r w' => r = .returned (numV 0 10) ∧ Below w.heap.size w w' := by
 have HT := Lib.hid (fun w => two_any a b ha hb w)
 rw [hf] at HT
 clear hf
 go_enter Tryz.func91, Tryz.ntmps91
 go_wp2_with fail
 refine (HT.out _).mono ?_
 rintro e w' ⟨rfl, rfl⟩
 go_wp2_with fail
 go_ret2
 exact ⟨rfl, Below.refl _ _⟩
theorem div_by0 (a b : Nat) (down : Bool) (ha : a < 18446744073709551616) (hb : b < 18446744073709551616) (hf : (Fl.fin a && Fl.fin b) = true) (h0 : Fl.mg b = 0) (w : World) :
   Calls Tryz.prog 91 #[.float .f64 a, .float .f64 b, .bool down] w fun r w' => r = .returned (numV 0 11) ∧ Below w.heap.size w w' := by
 have HT := Lib.hid (fun w => two_any a b ha hb w)
 rw [hf] at HT
 have fb : Fl.fin b = true := by revert hf; cases Fl.fin b <;> simp
 have E := eq0_of b hb fb
 rw [decide_eq_true h0] at E
 clear hf fb h0
 go_enter Tryz.func91, Tryz.ntmps91
 go_wp2_with fail
 refine (HT.out _).mono ?_
 rintro e w' ⟨rfl, rfl⟩
 go_wp2_with fail
 go_ret2
 exact ⟨rfl, Below.refl _ _⟩
theorem div_any (a b : Nat) (down : Bool) (ha : a < 18446744073709551616) (hb : b < 18446744073709551616) (w : World) :
   Calls Tryz.prog 91 #[.float .f64 a, .float .f64 b, .bool down] w fun r w' => r = .returned (pV (divR a b down)) ∧ Below w.heap.size w w' := by
 unfold divR pV
 by_cases hf : (Fl.fin a && Fl.fin b) = true
 · rw [if_pos hf]
   have h2 : Fl.fin a = true ∧ Fl.fin b = true := by revert hf; cases Fl.fin a <;> cases Fl.fin b <;> simp
   by_cases h0 : Fl.mg b = 0
   · rw [if_pos h0]; exact div_by0 a b down ha hb hf h0 w
   · rw [if_neg h0]; exact div_good a b down ha hb h2.1 h2.2 h0 w
 · rw [if_neg hf]; exact div_bad a b down ha hb (by revert hf; cases (Fl.fin a && Fl.fin b) <;> simp) w
section
variable (F : FuncId)
end
theorem addR_comm (a b : Nat) (down : Bool) : addR a b down = addR b a down := by
 unfold addR
 rw [Bool.and_comm, sumOf_comm down _ _ _ _ _ _ (Fl.sM_lt a) (Fl.sM_lt b)]
end Go.Proofs.YtnljfcebmgifdaaGreat
namespace Go.Proofs.YtnljfcebmgifdaaGreat
open Go.RowKit Ieee
noncomputable def rootOf (N : Nat) : Nat := Classical.choose (root_ex N)
theorem rootOf_is (N : Nat) : IsRoot N (rootOf N) := Classical.choose_spec (root_ex N)
/-- What Sqrt tells of any. -/
noncomputable def sqrtR (a : Nat) (down : Bool) : Nat × Nat := if Fl.fin a = true then (if Fl.Z a < 0 then (0, 12) else if Fl.mg a = 0 then (0, 0) else (rootV a (rootOf (rM a)) down, 0)) else (0, 10)
theorem below_step {w w1 w2 : World} (h : Below w.heap.size w w1) (k : Below w1.heap.size w1 w2) : Below w.heap.size w w2 := h.trans (k.mono h.size)
end Go.Proofs.YtnljfcebmgifdaaGreat
