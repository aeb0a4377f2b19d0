/- Shaken: Wj Wo1 Vl Gf Tb. -/
import Derived.Test.YtnljfcebmgifdaaZRabdf
import Derived.Test.YtnljfcebmgifdaaZRabcf
set_option maxRecDepth 100000
set_option maxHeartbeats 8000000
set_option linter.unusedVariables false
set_option linter.unusedSimpArgs false
namespace Go.Proofs.Ytnljfcebmgifdaa
open Go.RowKit Ieee
end Go.Proofs.Ytnljfcebmgifdaa
namespace Go.Proofs.Ytnljfcebmgifdaa
open Go.RowKit Ieee
def Rt1 (N : Nat) (r i : Value) : Prop := ∃ a k : Nat, r = .int .u64 (a : Int) ∧ i = .int .i64 (k : Int) ∧ RtR N k a
theorem rt_yes {N k a T : Nat} (h : RtR N k a) (hk : k < 58) (hT : T = a + 2 ^ (57 - k)) (hc : T * T ≤ N) : Rt1 N (Value.int .u64 (T : Int)) (Value.int .i64 ((k : Int) + 1)) ∧ 58 - (intOf (Value.int IntKind.i64 ((k : Int) + 1))).toNat < 58 - (intOf (Value.int IntKind.i64 (k : Int))).toNat := by
 subst hT
 exact ⟨⟨_, k + 1, rfl, rfl, h.yes hk hc⟩, by simp only [intOf]; omega⟩
theorem rt_no {N k a T : Nat} (h : RtR N k a) (hk : k < 58) (hT : T = a + 2 ^ (57 - k)) (hc : ¬ T * T ≤ N) : Rt1 N (Value.int .u64 (a : Int)) (Value.int .i64 ((k : Int) + 1)) ∧ 58 - (intOf (Value.int IntKind.i64 ((k : Int) + 1))).toNat < 58 - (intOf (Value.int IntKind.i64 (k : Int))).toNat := by
 subst hT
 exact ⟨⟨_, k + 1, rfl, rfl, h.no hk hc⟩, by simp only [intOf]; omega⟩
theorem rt_end {a R : Nat} {b b' : Bool} (h : a = R) (hb : b = b') : Ending.returned (.tuple #[.int .u64 (a : Int), .bool b]) = .returned (.tuple #[.int .u64 (R : Int), .bool b']) := by rw [h, hb]
theorem root_words (hi lo : Nat) (HN : Hid (hi * 18446744073709551616 + lo < 83076749736557242056487941267521536 ∧ lo < 18446744073709551616)) (R : Nat) (hR : Hid (IsRoot (hi * 18446744073709551616 + lo) R)) (w : World) :
   Calls Try.prog 135 #[.int .u64 (hi : Int), .int .u64 (lo : Int)] w fun r w' => r = .returned (.tuple #[.int .u64 (R : Int), .bool (R * R != hi * 18446744073709551616 + lo)]) ∧ w = w' := by
 have HM := Lib.hid (fun (x : Nat) (h : x < 18446744073709551616) w => mul64_any x x h h w)
 go_enter Try.func135, Try.ntmps135
 go_wp2_with fail
 go_loop [6, 13] (fun r i => Rt1 (hi * 18446744073709551616 + lo) r i) (fun _ i => 58 - (intOf i).toNat)
 case atStart => exact ⟨0, 0, rfl, rfl, RtR.start HN.out.1⟩
 case round =>
   obtain ⟨a, k, rfl, rfl, hd⟩ := hrel
   have HD := Lib.hid hd
   have hk := hd.hi
   clear hd
   by_cases hk2 : k < 58
   · obtain ⟨T, HT, F, ph, pl, HP, HC⟩ := rt_mul HD.out hk2
     have HP' := Lib.hid HP
     have HC' := Lib.hid HC
     have HT' := Lib.hid HT
     clear HP HC HT
     go_wp2_with fail
     refine (HC'.out _).mono ?_
     rintro r w' ⟨rfl, rfl⟩
     go_wp2_with fail
     all_goals
       have hp := HP'.out
       have hN := HN.out.2
       first
         | exact rt_yes HD.out hk2 HT'.out (by omega)
         | exact rt_no HD.out hk2 HT'.out (by omega)
   · obtain rfl : k = 58 := by omega
     obtain ⟨ph, pl, HP, HC⟩ := rt_mul0 (x := a) (by have := HD.out.lt; omega)
     have HP' := Lib.hid HP
     have HC' := Lib.hid HC
     clear HP HC
     have HA := Lib.hid (HD.out.stop.uniq hR.out)
     go_wp2_with fail
     refine (HC'.out _).mono ?_
     rintro r w' ⟨rfl, rfl⟩
     go_wp2_with fail
     all_goals
       go_ret2
       refine ⟨rt_end HA.out ?_, rfl⟩
       have hp := HP'.out
       have hN := HN.out.2
       have hA := HA.out
       rw [Bool.eq_iff_iff]
       simp only [bne_iff_ne, ne_eq, true_iff]
       rw [← hA]
       omega
theorem root_any (N R : Nat) (hN : N < 83076749736557242056487941267521536) (hR : IsRoot N R) (w : World) :
   Calls Try.prog 135 #[.int .u64 ((N / 18446744073709551616 : Nat) : Int), .int .u64 ((N % 18446744073709551616 : Nat) : Int)] w fun r w' => r = .returned (.tuple #[.int .u64 (R : Int), .bool (R * R != N)]) ∧ w = w' := by
 have e : N / 18446744073709551616 * 18446744073709551616 + N % 18446744073709551616 = N := by omega
 have := root_words (N / 18446744073709551616) (N % 18446744073709551616) (Lib.hid ⟨by rw [e]; exact hN, Nat.mod_lt _ (by decide)⟩) R (Lib.hid (by rw [e]; exact hR)) w
 rw [e] at this
 exact this
end Go.Proofs.Ytnljfcebmgifdaa
set_option linter.unusedVariables false
set_option linter.unusedSimpArgs false
namespace Go.Proofs.Ytnljfcebmgifdaa
open Go.RowKit Ieee
theorem sqrt_walk_odd (a : Nat) (down : Bool) (na : Bool) (A : Nat) (ea : Int) (hE0 : (FloatKind.f64.format.order a 0 == some .lt) = false) (hE1 : (FloatKind.f64.format.order a 0 == some .eq) = false)
   (hHT : ∀ w, Calls Try.prog 109 #[.float .f64 a] w fun e w' => e = .returned (.bool true) ∧ w = w')
   (hHA : ∀ w, Calls Try.prog 132 #[.float .f64 a] w fun r w' => r = .returned (exv na 0 A ea false) ∧ ∃ o, w' = w.alloc o)
   (La : Nat) (hLa : La ≤ 53)
   (hHLa : ∀ w, Calls Try.prog 134 #[exv na 0 A ea false] w fun r w' => r = .returned (.int .i64 (La : Int)) ∧ ∃ o, w' = w.alloc o)
   (X1 X0 : Nat) (ex : Int)
   (hHLX : ∀ w, Calls Try.prog 133 #[exv na 0 A ea false, .int .i64 (IntKind.i64.wrap (115 - (La : Int)))] w fun r w' => r = .returned (exv na X1 X0 ex false) ∧ ∃ k o o', w' = ((w.alloc o).alloc o').drewN k)
   (hex : -5000 ≤ ex) (hex2 : ex ≤ 5000) (hpar : (Int.tmod ex 2 != 0) = true) (M1 M0 : Nat) (ee : Int) (hee : -5001 ≤ ee) (hee2 : ee ≤ 5000) (hHL1 : ∀ w, Calls Try.prog 133 #[exv na X1 X0 ex false, .int .i64 1] w fun r w' => r = .returned (exv na M1 M0 ee false) ∧ ∃ k o o', w' = ((w.alloc o).alloc o').drewN k) (R : Nat) (more : Bool)
   (hHR : ∀ w, Calls Try.prog 135 #[.int .u64 (M1 : Int), .int .u64 (M0 : Int)] w fun r w' => r = .returned (.tuple #[.int .u64 (R : Int), .bool more]) ∧ w = w')
   (v : Nat) (hHO : ∀ w, Calls Try.prog 136 #[exv false 0 R (Int.tdiv ee 2) more, .bool down] w fun r w' => r = .returned (.float .f64 v) ∧ Below w.heap.size w w') (w : World) :
   Calls Try.prog 104 #[.float .f64 a, .bool down] w fun r w' => r = .returned (numV v 0) ∧ Below w.heap.size w w' := by
 have HT := Lib.hid hHT; clear hHT
 have HA := Lib.hid hHA; clear hHA
 have HLa := Lib.hid hHLa; clear hHLa
 have HLX := Lib.hid hHLX; clear hHLX
 have HR := Lib.hid hHR; clear hHR
 have HO := Lib.hid hHO; clear hHO
 have HL1 := Lib.hid hHL1; clear hHL1
 go_enter Try.func104, Try.ntmps104
 go_wp2_with fail
 refine (HT.out _).mono ?_
 rintro e w' ⟨rfl, rfl⟩
 go_wp2_with fail
 refine (HA.out _).mono ?_
 rintro e w' ⟨rfl, o1, rfl⟩
 go_wp2_with fail
 go_cut [] (fun wc => ∃ p1 p2 p3 k, wc = (((((w.alloc o1).alloc (exo na X1 X0 ex false)).alloc p1).alloc p2).alloc p3).drewN k)
 case first =>
   go_region_with (first
     | (go_at_call 134; refine (HLa.out _).mono ?_; rintro r w' ⟨rfl, o, rfl⟩)
     | (go_at_call 133; refine (HLX.out _).mono ?_; rintro r w' ⟨rfl, k, o, o', rfl⟩))
   all_goals (go_wp2_with fail; go_meet; exact ⟨_, _, _, _, rfl⟩)
 case rest =>
   obtain ⟨p1, p2, p3, k1, rfl⟩ := hcut
   go_wp2_with fail
   refine (HL1.out _).mono ?_
   rintro r w' ⟨rfl, k5, q1, q2, rfl⟩
   go_wp2_with fail
   refine (HR.out _).mono ?_
   rintro r w' ⟨rfl, rfl⟩
   go_wp2_with fail
   refine (HO.out _).mono ?_
   rintro r w' ⟨rfl, hb⟩
   have HBe := Lib.hid hb
   clear hb
   go_wp2_with fail
   go_ret2
   exact ⟨rfl, (below_drewN (below_more (below_more (below_more (below_more (below_more (below_more (below_new _ _) _) _) _) _) _) _) _).trans (HBe.out.mono (by simp; omega))⟩
theorem sqrt_walk_even (a : Nat) (down : Bool) (na : Bool) (A : Nat) (ea : Int) (hE0 : (FloatKind.f64.format.order a 0 == some .lt) = false) (hE1 : (FloatKind.f64.format.order a 0 == some .eq) = false)
   (hHT : ∀ w, Calls Try.prog 109 #[.float .f64 a] w fun e w' => e = .returned (.bool true) ∧ w = w')
   (hHA : ∀ w, Calls Try.prog 132 #[.float .f64 a] w fun r w' => r = .returned (exv na 0 A ea false) ∧ ∃ o, w' = w.alloc o)
   (La : Nat) (hLa : La ≤ 53)
   (hHLa : ∀ w, Calls Try.prog 134 #[exv na 0 A ea false] w fun r w' => r = .returned (.int .i64 (La : Int)) ∧ ∃ o, w' = w.alloc o)
   (X1 X0 : Nat) (ex : Int)
   (hHLX : ∀ w, Calls Try.prog 133 #[exv na 0 A ea false, .int .i64 (IntKind.i64.wrap (115 - (La : Int)))] w fun r w' => r = .returned (exv na X1 X0 ex false) ∧ ∃ k o o', w' = ((w.alloc o).alloc o').drewN k)
   (hex : -5000 ≤ ex) (hex2 : ex ≤ 5000) (hpar : (Int.tmod ex 2 != 0) = false) (R : Nat) (more : Bool)
   (hHR : ∀ w, Calls Try.prog 135 #[.int .u64 (X1 : Int), .int .u64 (X0 : Int)] w fun r w' => r = .returned (.tuple #[.int .u64 (R : Int), .bool more]) ∧ w = w')
   (v : Nat) (hHO : ∀ w, Calls Try.prog 136 #[exv false 0 R (Int.tdiv ex 2) more, .bool down] w fun r w' => r = .returned (.float .f64 v) ∧ Below w.heap.size w w') (w : World) :
   Calls Try.prog 104 #[.float .f64 a, .bool down] w fun r w' => r = .returned (numV v 0) ∧ Below w.heap.size w w' := by
 have HT := Lib.hid hHT; clear hHT
 have HA := Lib.hid hHA; clear hHA
 have HLa := Lib.hid hHLa; clear hHLa
 have HLX := Lib.hid hHLX; clear hHLX
 have HR := Lib.hid hHR; clear hHR
 have HO := Lib.hid hHO; clear hHO
 go_enter Try.func104, Try.ntmps104
 go_wp2_with fail
 refine (HT.out _).mono ?_
 rintro e w' ⟨rfl, rfl⟩
 go_wp2_with fail
 refine (HA.out _).mono ?_
 rintro e w' ⟨rfl, o1, rfl⟩
 go_wp2_with fail
 go_cut [] (fun wc => ∃ p1 p2 p3 k, wc = (((((w.alloc o1).alloc (exo na X1 X0 ex false)).alloc p1).alloc p2).alloc p3).drewN k)
 case first =>
   go_region_with (first
     | (go_at_call 134; refine (HLa.out _).mono ?_; rintro r w' ⟨rfl, o, rfl⟩)
     | (go_at_call 133; refine (HLX.out _).mono ?_; rintro r w' ⟨rfl, k, o, o', rfl⟩))
   all_goals (go_wp2_with fail; go_meet; exact ⟨_, _, _, _, rfl⟩)
 case rest =>
   obtain ⟨p1, p2, p3, k1, rfl⟩ := hcut
   go_wp2_with fail
   refine (HR.out _).mono ?_
   rintro r w' ⟨rfl, rfl⟩
   go_wp2_with fail
   refine (HO.out _).mono ?_
   rintro r w' ⟨rfl, hb⟩
   have HBe := Lib.hid hb
   clear hb
   go_wp2_with fail
   go_ret2
   exact ⟨rfl, (below_drewN (below_more (below_more (below_more (below_more (below_new _ _) _) _) _) _) _).trans (HBe.out.mono (by simp; omega))⟩
end Go.Proofs.Ytnljfcebmgifdaa
set_option linter.unusedVariables false
set_option linter.unusedSimpArgs false
namespace Go.Proofs.Ytnljfcebmgifdaa
open Go.RowKit Ieee
theorem sqrt_good (a R : Nat) (down : Bool) (ha : a < 18446744073709551616) (fa : Fl.fin a = true) (hp : 0 < Fl.Z a) (hR : IsRoot (rM a) R) (w : World) :
   Calls Try.prog 104 #[.float .f64 a, .bool down] w fun r w' => r = .returned (numV (rootV a R down) 0) ∧ Below w.heap.size w w' := by
 obtain ⟨h1, h2, hs⟩ := pos_cmp a ha fa hp
 have a1 := Fl.sM_lt a
 have la := len53 a1
 have ea1 := Fl.sE_ge a
 have ea2 := Fl.sE_le a fa
 have e1 := rE_ge a
 have e2 := rE_le a fa
 have x1 := rX_lt a
 have hT : ∀ w, Calls Try.prog 109 #[.float .f64 a] w fun e w' => e = .returned (.bool true) ∧ w = w' := by
   intro w
   have := number_any a ha w
   rw [fa] at this
   exact this
 have hLX : ∀ w, Calls Try.prog 133 #[exv (Fl.sg a) 0 (Fl.sM a) (Fl.sE a) false, .int .i64 (IntKind.i64.wrap (115 - (Fl.len (Fl.sM a) : Int)))] w fun r w' => r = .returned (exv (Fl.sg a) (rX a / 18446744073709551616) (rX a % 18446744073709551616) (rE a) false) ∧ ∃ k o o', w' = ((w.alloc o).alloc o').drewN k :=
   left_s (Fl.sg a) (Fl.sM a) (115 - Fl.len (Fl.sM a)) (rX a) (Fl.sE a) _ (wrap_sub 115 (Fl.len (Fl.sM a)) la (by omega) (by omega)) (by omega) rfl (by omega) (by omega) (by omega) (by omega)
 obtain ⟨hok, hR2⟩ := root_ok a R fa hs hR.1 hR.2
 have hO : ∀ w, Calls Try.prog 136 #[exv false 0 R (Int.tdiv (rP a) 2) (R * R != rM a), .bool down] w fun r w' => r = .returned (.float .f64 (rootV a R down)) ∧ Below w.heap.size w w' := by
   intro w
   have := to_ok false down _ _ _ hok w
   rw [exW_small false R _ _ (by omega)] at this
   exact this
 have hRt := root_any (rM a) R (rM_lt a) hR
 by_cases ho : rOdd a = true
 · have hM : rM a = rX a * 2 := by unfold rM; rw [if_pos ho]
   have hP : rP a = rE a - 1 := by unfold rP; rw [if_pos ho]
   have hL1 : ∀ w, Calls Try.prog 133 #[exv (Fl.sg a) (rX a / 18446744073709551616) (rX a % 18446744073709551616) (rE a) false, .int .i64 1] w fun r w' => r = .returned (exv (Fl.sg a) (rM a / 18446744073709551616) (rM a % 18446744073709551616) (rP a) false) ∧ ∃ k o o', w' = ((w.alloc o).alloc o').drewN k := by
     intro w
     rw [hM, hP]
     exact left_any (Fl.sg a) (rX a) (rE a) false 1 (by omega) (by omega) (by omega) (by omega) w
   exact sqrt_walk_odd a down (Fl.sg a) (Fl.sM a) (Fl.sE a) h1 h2 hT (split_any a ha) _ la (length_s _ _ _ (by omega)) _ _ _ hLX (by omega) (by omega) ho _ _ _ (by omega) (by omega) hL1 R _ hRt _ hO w
 · have hM : rM a = rX a := by unfold rM; rw [if_neg ho]
   have hP : rP a = rE a := by unfold rP; rw [if_neg ho]
   have ho' : (Int.tmod (rE a) 2 != 0) = false := by
     have : rOdd a = false := by revert ho; cases rOdd a <;> simp
     exact this
   rw [hM] at hRt
   rw [hP] at hO
   exact sqrt_walk_even a down (Fl.sg a) (Fl.sM a) (Fl.sE a) h1 h2 hT (split_any a ha) _ la (length_s _ _ _ (by omega)) _ _ _ hLX (by omega) (by omega) ho' R _ hRt _ (by rw [hM] at hO; exact hO) w
end Go.Proofs.Ytnljfcebmgifdaa
namespace Go.Proofs.Ytnljfcebmgifdaa
open Go.RowKit Ieee
end Go.Proofs.Ytnljfcebmgifdaa
namespace Go.Proofs.Ytnljfcebmgifdaa
open Go.RowKit Ieee
section
variable (F : FuncId)
end
end Go.Proofs.Ytnljfcebmgifdaa
namespace Go.Proofs.Ytnljfcebmgifdaa
open Go.RowKit Ieee
theorem sqrt_any (a : Nat) (down : Bool) (ha : a < 18446744073709551616) (w : World) :
   Calls Try.prog 104 #[.float .f64 a, .bool down] w fun r w' => r = .returned (pV (sqrtR a down)) ∧ Below w.heap.size w w' := by
 unfold sqrtR pV
 have HT := Lib.hid (fun w => number_any a ha w)
 by_cases hf : Fl.fin a = true
 · rw [if_pos hf]
   by_cases h1 : Fl.Z a < 0
   · rw [if_pos h1]
     have E := Z_lt0 a ha hf
     rw [decide_eq_true h1] at E
     rw [hf] at HT
     clear hf h1
     go_enter Try.func104, Try.ntmps104
     go_wp2_with fail
     refine (HT.out _).mono ?_
     rintro e w' ⟨rfl, rfl⟩
     go_wp2_with fail
     go_ret2
     exact ⟨rfl, Below.refl _ _⟩
   · rw [if_neg h1]
     by_cases h2 : Fl.mg a = 0
     · rw [if_pos h2]
       have E := Z_lt0 a ha hf
       rw [decide_eq_false h1] at E
       have E2 := eq0_of a ha hf
       rw [decide_eq_true h2] at E2
       rw [hf] at HT
       clear hf h1 h2
       go_enter Try.func104, Try.ntmps104
       go_wp2_with fail
       refine (HT.out _).mono ?_
       rintro e w' ⟨rfl, rfl⟩
       go_wp2_with fail
       go_ret2
       exact ⟨rfl, Below.refl _ _⟩
     · rw [if_neg h2]
       exact sqrt_good a _ down ha hf (Z_pos h1 h2) (rootOf_is _) w
 · rw [if_neg hf]
   have hf' : Fl.fin a = false := by revert hf; cases Fl.fin a <;> simp
   rw [hf'] at HT
   clear hf hf'
   go_enter Try.func104, Try.ntmps104
   go_wp2_with fail
   refine (HT.out _).mono ?_
   rintro e w' ⟨rfl, rfl⟩
   go_wp2_with fail
   go_ret2
   exact ⟨rfl, Below.refl _ _⟩
end Go.Proofs.Ytnljfcebmgifdaa
set_option linter.unusedVariables false
set_option linter.unusedSimpArgs false
namespace Go.Proofs.Ytnljfcebmgifdaa
open Go.RowKit Fl
theorem sqrt_neg (a : Sp) (h : Z a.hi < 0) (w : World) : Calls Try.prog 61 #[.agg #[.float .f64 a.lo, .float .f64 a.hi]] w fun r w' => r = .returned (.agg #[.float .f64 18442240474082181120, .float .f64 9218868437227405312]) ∧ Below w.heap.size w w' := by
 have B1 := lt0_gd a.vd.h
 rw [decide_eq_true h] at B1
 have H2 := Lib.hid (fun w => all_below w)
 clear h
 go_enter Try.func61, Try.ntmps61
 go_wp2_with fail
 obtain ⟨W, hW, K0, K1, hB, hz⟩ := box2 w 28 28 #[Value.float FloatKind.f64 a.lo, Value.float FloatKind.f64 a.hi] #[Value.float FloatKind.f64 0, Value.float FloatKind.f64 0]
 rw [← hW]
 have K0 := Lib.hid K0
 have K1 := Lib.hid K1
 have HB := Lib.hid hB
 clear hW hB hz
 have HO := Lib.hid (show ∀ w', Hd W (w.heap.size + 1) 28 2 w' → (Hd W (w.heap.size + 1) 28 2 w' ∧ w'.cell? ⟨w.heap.size, 0, none⟩ = some (Value.float FloatKind.f64 a.lo) ∧ w'.cell? ⟨w.heap.size, 1, none⟩ = some (Value.float FloatKind.f64 a.hi) ∧ w'.cell? ⟨w.heap.size + 1, 0, none⟩ = some (cellAt w' ⟨w.heap.size + 1, 0, none⟩) ∧ w'.frozen? ⟨w.heap.size + 1, 0, none⟩ = false ∧ w'.cell? ⟨w.heap.size + 1, 1, none⟩ = some (cellAt w' ⟨w.heap.size + 1, 1, none⟩) ∧ w'.frozen? ⟨w.heap.size + 1, 1, none⟩ = false) from fun w' h => ⟨h, (h.blk K0.out (by omega)).cell 0, (h.blk K0.out (by omega)).cell 1, (h.at_ 0 (by decide)).1, (h.at_ 0 (by decide)).2, (h.at_ 1 (by decide)).1, (h.at_ 1 (by decide)).2⟩)
 have D0 := Lib.hid (show Hd W (w.heap.size + 1) 28 2 W from Hd.start K1.out)
 refine (H2.out _).mono ?_
 rintro r w1 ⟨rfl, hb⟩
 have D1 := Lib.hid (Hd.call D0.out hb)
 clear hb
 obtain ⟨-, q0, q1, q2, q3, q4, q5⟩ := HO.out _ D1.out
 have z1 := Hd.lt D1.out
 go_wp2_with fail
 (try simp only [Exit.inBlock, Exit.then])
 have hF := (Hd.set (Hd.set D1.out 0 (.float .f64 18442240474082181120)) 1 (.float .f64 9218868437227405312))
 exact bodyPost_ret (resS rfl _ _ (w.heap.size + 1) (.float .f64 18442240474082181120) (.float .f64 9218868437227405312) rfl (Hd.wrote2 hF)) rfl ⟨rfl, Hd.below hF HB.out (by omega)⟩
theorem sqrt_w (a : Sp) (h : ¬ Z a.hi < 0) (k : a.wide = true) (w : World) : Calls Try.prog 61 #[.agg #[.float .f64 a.lo, .float .f64 a.hi]] w fun r w' => r = .returned (.agg #[.float .f64 18442240474082181120, .float .f64 9218868437227405312]) ∧ Below w.heap.size w w' := by
 have B1 := lt0_gd a.vd.h
 rw [decide_eq_false h] at B1
 have H1 := Lib.hid (fun w => wide_sp a w)
 rw [k] at H1
 have H2 := Lib.hid (fun w => all_below w)
 clear h k
 go_enter Try.func61, Try.ntmps61
 go_wp2_with fail
 obtain ⟨W, hW, K0, K1, hB, hz⟩ := box2 w 28 28 #[Value.float FloatKind.f64 a.lo, Value.float FloatKind.f64 a.hi] #[Value.float FloatKind.f64 0, Value.float FloatKind.f64 0]
 rw [← hW]
 have K0 := Lib.hid K0
 have K1 := Lib.hid K1
 have HB := Lib.hid hB
 clear hW hB hz
 have HO := Lib.hid (show ∀ w', Hd W (w.heap.size + 1) 28 2 w' → (Hd W (w.heap.size + 1) 28 2 w' ∧ w'.cell? ⟨w.heap.size, 0, none⟩ = some (Value.float FloatKind.f64 a.lo) ∧ w'.cell? ⟨w.heap.size, 1, none⟩ = some (Value.float FloatKind.f64 a.hi) ∧ w'.cell? ⟨w.heap.size + 1, 0, none⟩ = some (cellAt w' ⟨w.heap.size + 1, 0, none⟩) ∧ w'.frozen? ⟨w.heap.size + 1, 0, none⟩ = false ∧ w'.cell? ⟨w.heap.size + 1, 1, none⟩ = some (cellAt w' ⟨w.heap.size + 1, 1, none⟩) ∧ w'.frozen? ⟨w.heap.size + 1, 1, none⟩ = false) from fun w' h => ⟨h, (h.blk K0.out (by omega)).cell 0, (h.blk K0.out (by omega)).cell 1, (h.at_ 0 (by decide)).1, (h.at_ 0 (by decide)).2, (h.at_ 1 (by decide)).1, (h.at_ 1 (by decide)).2⟩)
 have D0 := Lib.hid (show Hd W (w.heap.size + 1) 28 2 W from Hd.start K1.out)
 refine (H1.out _).mono ?_
 rintro r w1 ⟨rfl, hb⟩
 have D1 := Lib.hid (Hd.call D0.out hb)
 clear hb
 obtain ⟨-, q0, q1, q2, q3, q4, q5⟩ := HO.out _ D1.out
 have z1 := Hd.lt D1.out
 go_wp2_with fail
 refine (H2.out _).mono ?_
 rintro r w2 ⟨rfl, hb⟩
 have D2 := Lib.hid (Hd.call D1.out hb)
 clear hb
 clear q0 q1 q2 q3 q4 q5
 obtain ⟨-, q0, q1, q2, q3, q4, q5⟩ := HO.out _ D2.out
 have z2 := Hd.lt D2.out
 go_wp2_with fail
 (try simp only [Exit.inBlock, Exit.then])
 have hF := (Hd.set (Hd.set D2.out 0 (.float .f64 18442240474082181120)) 1 (.float .f64 9218868437227405312))
 exact bodyPost_ret (resS rfl _ _ (w.heap.size + 1) (.float .f64 18442240474082181120) (.float .f64 9218868437227405312) rfl (Hd.wrote2 hF)) rfl ⟨rfl, Hd.below hF HB.out (by omega)⟩
theorem sqrt_on (a : Sp) (h : ¬ Z a.hi < 0) (k : a.wide = false) (w : World) : Calls Try.prog 61 #[.agg #[.float .f64 a.lo, .float .f64 a.hi]] w fun r w' => r = .returned (.agg #[.float .f64 (sqrtR (mx a.lo 0) true).1, .float .f64 (sqrtR a.hi false).1]) ∧ Below w.heap.size w w' := by
 have B1 := lt0_gd a.vd.h
 rw [decide_eq_false h] at B1
 have H1 := Lib.hid (fun w => wide_sp a w)
 rw [k] at H1
 have H3 := Lib.hid (fun w => sqrt_any a.hi false a.vd.h.lt w)
 have M := fun (ts : Array TypeId) (t : TypeId) (w : World) => run_max_gd (P := Try.prog) a.vd.l gd0 ts t w
 have H2 := Lib.hid (fun w => sqrt_any (mx a.lo 0) true (mx_gd a.vd.l gd0).lt w)
 obtain ⟨y, hy⟩ : ∃ y, y = sqrtR a.hi false := ⟨_, rfl⟩
 rw [← hy] at H3 ⊢
 obtain ⟨y1, y2⟩ := y
 clear hy
 unfold pV numV at H3
 dsimp only at H3 ⊢
 generalize mx a.lo 0 = m at *
 obtain ⟨x, hx⟩ : ∃ y, y = sqrtR m true := ⟨_, rfl⟩
 rw [← hx] at H2 ⊢
 obtain ⟨x1, x2⟩ := x
 clear hx h k
 unfold pV numV at H2
 dsimp only at H2 ⊢
 go_enter Try.func61, Try.ntmps61
 go_wp2_with fail
 obtain ⟨W, hW, K0, K1, hB, hz⟩ := box2 w 28 28 #[Value.float FloatKind.f64 a.lo, Value.float FloatKind.f64 a.hi] #[Value.float FloatKind.f64 0, Value.float FloatKind.f64 0]
 rw [← hW]
 have K0 := Lib.hid K0
 have K1 := Lib.hid K1
 have HB := Lib.hid hB
 clear hW hB hz
 have HO := Lib.hid (show ∀ w', Hd W (w.heap.size + 1) 28 2 w' → (Hd W (w.heap.size + 1) 28 2 w' ∧ w'.cell? ⟨w.heap.size, 0, none⟩ = some (Value.float FloatKind.f64 a.lo) ∧ w'.cell? ⟨w.heap.size, 1, none⟩ = some (Value.float FloatKind.f64 a.hi) ∧ w'.cell? ⟨w.heap.size + 1, 0, none⟩ = some (cellAt w' ⟨w.heap.size + 1, 0, none⟩) ∧ w'.frozen? ⟨w.heap.size + 1, 0, none⟩ = false ∧ w'.cell? ⟨w.heap.size + 1, 1, none⟩ = some (cellAt w' ⟨w.heap.size + 1, 1, none⟩) ∧ w'.frozen? ⟨w.heap.size + 1, 1, none⟩ = false) from fun w' h => ⟨h, (h.blk K0.out (by omega)).cell 0, (h.blk K0.out (by omega)).cell 1, (h.at_ 0 (by decide)).1, (h.at_ 0 (by decide)).2, (h.at_ 1 (by decide)).1, (h.at_ 1 (by decide)).2⟩)
 have D0 := Lib.hid (show Hd W (w.heap.size + 1) 28 2 W from Hd.start K1.out)
 refine (H1.out _).mono ?_
 rintro r w1 ⟨rfl, hb⟩
 have D1 := Lib.hid (Hd.call D0.out hb)
 clear hb
 obtain ⟨-, q0, q1, q2, q3, q4, q5⟩ := HO.out _ D1.out
 have z1 := Hd.lt D1.out
 go_wp2_with fail
 refine (H2.out _).mono ?_
 rintro r w2 ⟨rfl, hb⟩
 have D2 := Lib.hid (Hd.call D1.out hb)
 clear hb
 clear q0 q1 q2 q3 q4 q5
 obtain ⟨-, q0, q1, q2, q3, q4, q5⟩ := HO.out _ D2.out
 have z2 := Hd.lt D2.out
 go_wp2_with fail
 refine (H3.out _).mono ?_
 rintro r w3 ⟨rfl, hb⟩
 have D3 := Lib.hid (Hd.call D2.out hb)
 clear hb
 clear q0 q1 q2 q3 q4 q5
 obtain ⟨-, q0, q1, q2, q3, q4, q5⟩ := HO.out _ D3.out
 have z3 := Hd.lt D3.out
 go_wp2_with fail
 (try simp only [Exit.inBlock, Exit.then])
 have hF := (Hd.set (Hd.set D3.out 0 (.float .f64 x1)) 1 (.float .f64 y1))
 exact bodyPost_ret (resS rfl _ _ (w.heap.size + 1) (.float .f64 x1) (.float .f64 y1) rfl (Hd.wrote2 hF)) rfl ⟨rfl, Hd.below hF HB.out (by omega)⟩
theorem sqrt_sp (a : Sp) (w : World) : Calls Try.prog 61 #[.agg #[.float .f64 a.lo, .float .f64 a.hi]] w fun r w' => r = .returned (.agg #[.float .f64 (sqrtS a).lo, .float .f64 (sqrtS a).hi]) ∧ Below w.heap.size w w' := by
 unfold sqrtS
 by_cases hw : a.wide = false ∧ 0 ≤ Z a.hi
 · rw [dif_pos hw]
   exact sqrt_on a (by omega) hw.1 w
 · rw [dif_neg hw]
   by_cases h : Z a.hi < 0
   · exact sqrt_neg a h w
   · have k : a.wide = true := by
       cases e : a.wide
       · exact absurd ⟨e, by omega⟩ hw
       · rfl
     exact sqrt_w a h k w
end Go.Proofs.Ytnljfcebmgifdaa
namespace Go.Proofs.Ytnljfcebmgifdaa
open Go.RowKit Fl
end Go.Proofs.Ytnljfcebmgifdaa
namespace Go.Proofs.Ytnljfcebmgifdaa
open Go.RowKit Fl
end Go.Proofs.Ytnljfcebmgifdaa
namespace Go.Proofs.Ytnljfcebmgifdaa
open Go.RowKit Fl
end Go.Proofs.Ytnljfcebmgifdaa
namespace Go.Proofs.Ytnljfcebmgifdaa
open Go.RowKit Fl
end Go.Proofs.Ytnljfcebmgifdaa
namespace Go.Proofs.Ytnljfcebmgifdaa
open Go.RowKit Fl
end Go.Proofs.Ytnljfcebmgifdaa
set_option linter.unusedVariables false
set_option linter.unusedSimpArgs false
namespace Go.Proofs.Ytnljfcebmgifdaa
open Go.RowKit Fl
theorem each_add (a b : V3) (w : World) : Calls Try.prog 83 #[Value.agg #[.float .f64 a.x.lo, .float .f64 a.x.hi, .float .f64 a.y.lo, .float .f64 a.y.hi, .float .f64 a.z.lo, .float .f64 a.z.hi], Value.agg #[.float .f64 b.x.lo, .float .f64 b.x.hi, .float .f64 b.y.lo, .float .f64 b.y.hi, .float .f64 b.z.lo, .float .f64 b.z.hi], Value.func (Fn.func 62) #[] #[]] w fun r w' => r = .returned (vval (vAdd a b)) ∧ Below w.heap.size w w' := by
 have C0 := Lib.hid (fun w => add_sp a.x b.x w)
 obtain ⟨p0, hp0⟩ : ∃ z_, addS a.x b.x = z_ := ⟨_, rfl⟩
 rw [hp0] at C0
 have C1 := Lib.hid (fun w => add_sp a.y b.y w)
 obtain ⟨p1, hp1⟩ : ∃ z_, addS a.y b.y = z_ := ⟨_, rfl⟩
 rw [hp1] at C1
 have C2 := Lib.hid (fun w => add_sp a.z b.z w)
 obtain ⟨p2, hp2⟩ : ∃ z_, addS a.z b.z = z_ := ⟨_, rfl⟩
 rw [hp2] at C2
 have hT : vAdd a b = (⟨p0, p1, p2⟩ : V3) := by
   subst hp0 hp1 hp2; rfl
 rw [hT]
 clear hT
 clear hp0 hp1 hp2
 go_enter Try.func83, Try.ntmps83
 go_wp2_with fail
 obtain ⟨W, hW, K0, K1, K2, K3, hB, hz⟩ := bx4 w 30 30 30 30 (vc a) (vc b) #[.float .f64 0, .float .f64 0, .float .f64 0, .float .f64 0, .float .f64 0, .float .f64 0] #[.float .f64 0, .float .f64 0, .float .f64 0, .float .f64 0, .float .f64 0, .float .f64 0]
 rw [← hW]
 have K0 := Lib.hid K0
 have K1 := Lib.hid K1
 have K2 := Lib.hid K2
 have K3 := Lib.hid K3
 have HB := Lib.hid hB
 clear hW hB hz
 have D1 := dr W
 go_wp2_with fail
 refine wp_loop_rounds 4 ?_
 rw [rounds_succ]
 go_wp2_with fail
 refine wp_region_held (S := (fun w' => True ∧ CellsL w' (w.heap.size) 0 [.float .f64 a.x.lo, .float .f64 a.x.hi] ∧ CellsL w' (w.heap.size + 1) 0 [.float .f64 b.x.lo, .float .f64 b.x.hi])) (by kernel_rfl) ?_
 change wpAnyH _ _ _ _ _ _ _ _ (World.drew _)
 obtain ⟨wd2, hwd⟩ : ∃ x, x = World.drew W := ⟨_, rfl⟩
 rw [← hwd]
 have D3 := Lib.hid (hwd ▸ Below.drew D1.out : Below W.heap.size W wd2)
 clear D1 hwd
 have hS4 : True ∧ CellsL wd2 (w.heap.size) 0 [.float .f64 a.x.lo, .float .f64 a.x.hi] ∧ CellsL wd2 (w.heap.size + 1) 0 [.float .f64 b.x.lo, .float .f64 b.x.hi] := ⟨trivial, (kb K0 D3).cellsL 0 [.float .f64 a.x.lo, .float .f64 a.x.hi] rfl, (kb K1 D3).cellsL 0 [.float .f64 b.x.lo, .float .f64 b.x.hi] rfl⟩
 refine tkq 0 (bm 11 1) hS4 ?_
 refine tkq 1 (bm 11 3) hS4 ?_
 refine tkq 2 (bm 11 7) hS4 ?_
 refine tkq 3 (bm 11 15) hS4 ?_
 refine tke 4 (bm 11 31) hS4 ?_
 refine tkq 5 (bm 11 63) hS4 ?_
 refine tkq 6 (bm 11 127) hS4 ?_
 refine tke 7 (bm 11 255) hS4 ?_
 refine wpAnyH_oneN (i := 8) (l' := bm 11 511) rfl (by kernel_rfl) (by kernel_rfl) (by kernel_rfl) (fun K hK => ?_)
 go_simp
 go_at_call 62
 refine (C0.out _).mono ?_
 rintro r w13 ⟨rfl, hb⟩
 dsimp only
 have D14 := ds D3 hb
 clear D3
 clear hb
 have hS15 : True ∧ CellsL w13 (w.heap.size) 0 [.float .f64 a.x.lo, .float .f64 a.x.hi] ∧ CellsL w13 (w.heap.size + 1) 0 [.float .f64 b.x.lo, .float .f64 b.x.hi] := ⟨trivial, (kb K0 D14).cellsL 0 [.float .f64 a.x.lo, .float .f64 a.x.hi] rfl, (kb K1 D14).cellsL 0 [.float .f64 b.x.lo, .float .f64 b.x.hi] rfl⟩
 refine hK _ _ hS15 ?_
 clear hK K hS4
 refine tkq 9 (bm 11 1023) hS15 ?_
 refine wpAnyH_oneN (i := 10) (l' := bm 11 2047) rfl (by kernel_rfl) (by kernel_rfl) (by kernel_rfl) (fun K hK => ?_)
 have f19 := (kb K3 D14).cellsL 0 [.float .f64 0, .float .f64 0] rfl
 dsimp only [CellsL, al, vl, Nat.reduceAdd] at f19
 have u20 := (kb K3 D14).unfrozen
 obtain ⟨V17, hV18⟩ : ∃ V, setCells w13 (w.heap.size + 1 + 1 + 1) 0 [.float .f64 p0.lo, .float .f64 p0.hi] = V := ⟨_, rfl⟩
 have hv21 := hV18
 simp only [setCells, Nat.reduceAdd] at hv21
 have K22 := kf hV18 K0 D14 (by omega)
 have K23 := kf hV18 K1 D14 (by omega)
 have K24 := kf hV18 K2 D14 (by omega)
 have K25 := Lib.hid (show Blk V17 (w.heap.size + 1 + 1 + 1) 30 #[.float .f64 p0.lo, .float .f64 p0.hi, .float .f64 0, .float .f64 0, .float .f64 0, .float .f64 0] from (ks hV18 K3 D14).out)
 have HB26 := hbs hV18 HB D14 (by omega)
 have D27 := dr V17
 clear K0 K1 K2 K3 HB D14
 go_simp
 clear hV18 f19 u20 hv21
 have hS28 : True ∧ CellsL V17 (w.heap.size) 0 [.float .f64 a.x.lo, .float .f64 a.x.hi] ∧ CellsL V17 (w.heap.size + 1) 0 [.float .f64 b.x.lo, .float .f64 b.x.hi] := ⟨trivial, (kb K22 D27).cellsL 0 [.float .f64 a.x.lo, .float .f64 a.x.hi] rfl, (kb K23 D27).cellsL 0 [.float .f64 b.x.lo, .float .f64 b.x.hi] rfl⟩
 refine hK _ _ hS28 ?_
 clear hK K hS15
 refine wpAnyH_done (by kernel_rfl) ?_ _
 clear hS28
 go_wp2_with fail
 rw [rounds_succ]
 go_wp2_with fail
 refine wp_region_held (S := (fun w' => True ∧ CellsL w' (w.heap.size) 2 [.float .f64 a.y.lo, .float .f64 a.y.hi] ∧ CellsL w' (w.heap.size + 1) 2 [.float .f64 b.y.lo, .float .f64 b.y.hi])) (by kernel_rfl) ?_
 change wpAnyH _ _ _ _ _ _ _ _ (World.drew _)
 obtain ⟨wd29, hwd⟩ : ∃ x, x = World.drew V17 := ⟨_, rfl⟩
 rw [← hwd]
 have D30 := Lib.hid (hwd ▸ Below.drew D27.out : Below V17.heap.size V17 wd29)
 clear D27 hwd
 have hS31 : True ∧ CellsL wd29 (w.heap.size) 2 [.float .f64 a.y.lo, .float .f64 a.y.hi] ∧ CellsL wd29 (w.heap.size + 1) 2 [.float .f64 b.y.lo, .float .f64 b.y.hi] := ⟨trivial, (kb K22 D30).cellsL 2 [.float .f64 a.y.lo, .float .f64 a.y.hi] rfl, (kb K23 D30).cellsL 2 [.float .f64 b.y.lo, .float .f64 b.y.hi] rfl⟩
 refine tkq 0 (bm 11 1) hS31 ?_
 refine tkq 1 (bm 11 3) hS31 ?_
 refine tkq 2 (bm 11 7) hS31 ?_
 refine tkq 3 (bm 11 15) hS31 ?_
 refine tke 4 (bm 11 31) hS31 ?_
 refine tkq 5 (bm 11 63) hS31 ?_
 refine tkq 6 (bm 11 127) hS31 ?_
 refine tke 7 (bm 11 255) hS31 ?_
 refine wpAnyH_oneN (i := 8) (l' := bm 11 511) rfl (by kernel_rfl) (by kernel_rfl) (by kernel_rfl) (fun K hK => ?_)
 go_simp
 go_at_call 62
 refine (C1.out _).mono ?_
 rintro r w40 ⟨rfl, hb⟩
 dsimp only
 have D41 := ds D30 hb
 clear D30
 clear hb
 have hS42 : True ∧ CellsL w40 (w.heap.size) 2 [.float .f64 a.y.lo, .float .f64 a.y.hi] ∧ CellsL w40 (w.heap.size + 1) 2 [.float .f64 b.y.lo, .float .f64 b.y.hi] := ⟨trivial, (kb K22 D41).cellsL 2 [.float .f64 a.y.lo, .float .f64 a.y.hi] rfl, (kb K23 D41).cellsL 2 [.float .f64 b.y.lo, .float .f64 b.y.hi] rfl⟩
 refine hK _ _ hS42 ?_
 clear hK K hS31
 refine tkq 9 (bm 11 1023) hS42 ?_
 refine wpAnyH_oneN (i := 10) (l' := bm 11 2047) rfl (by kernel_rfl) (by kernel_rfl) (by kernel_rfl) (fun K hK => ?_)
 have f46 := (kb K25 D41).cellsL 2 [.float .f64 0, .float .f64 0] rfl
 dsimp only [CellsL, al, vl, Nat.reduceAdd] at f46
 have u47 := (kb K25 D41).unfrozen
 obtain ⟨V44, hV45⟩ : ∃ V, setCells w40 (w.heap.size + 1 + 1 + 1) 2 [.float .f64 p1.lo, .float .f64 p1.hi] = V := ⟨_, rfl⟩
 have hv48 := hV45
 simp only [setCells, Nat.reduceAdd] at hv48
 have K49 := kf hV45 K22 D41 (by omega)
 have K50 := kf hV45 K23 D41 (by omega)
 have K51 := kf hV45 K24 D41 (by omega)
 have K52 := Lib.hid (show Blk V44 (w.heap.size + 1 + 1 + 1) 30 #[.float .f64 p0.lo, .float .f64 p0.hi, .float .f64 p1.lo, .float .f64 p1.hi, .float .f64 0, .float .f64 0] from (ks hV45 K25 D41).out)
 have HB53 := hbs hV45 HB26 D41 (by omega)
 have D54 := dr V44
 clear K22 K23 K24 K25 HB26 D41
 go_simp
 clear hV45 f46 u47 hv48
 have hS55 : True ∧ CellsL V44 (w.heap.size) 2 [.float .f64 a.y.lo, .float .f64 a.y.hi] ∧ CellsL V44 (w.heap.size + 1) 2 [.float .f64 b.y.lo, .float .f64 b.y.hi] := ⟨trivial, (kb K49 D54).cellsL 2 [.float .f64 a.y.lo, .float .f64 a.y.hi] rfl, (kb K50 D54).cellsL 2 [.float .f64 b.y.lo, .float .f64 b.y.hi] rfl⟩
 refine hK _ _ hS55 ?_
 clear hK K hS42
 refine wpAnyH_done (by kernel_rfl) ?_ _
 clear hS55
 go_wp2_with fail
 rw [rounds_succ]
 go_wp2_with fail
 refine wp_region_held (S := (fun w' => True ∧ CellsL w' (w.heap.size) 4 [.float .f64 a.z.lo, .float .f64 a.z.hi] ∧ CellsL w' (w.heap.size + 1) 4 [.float .f64 b.z.lo, .float .f64 b.z.hi])) (by kernel_rfl) ?_
 change wpAnyH _ _ _ _ _ _ _ _ (World.drew _)
 obtain ⟨wd56, hwd⟩ : ∃ x, x = World.drew V44 := ⟨_, rfl⟩
 rw [← hwd]
 have D57 := Lib.hid (hwd ▸ Below.drew D54.out : Below V44.heap.size V44 wd56)
 clear D54 hwd
 have hS58 : True ∧ CellsL wd56 (w.heap.size) 4 [.float .f64 a.z.lo, .float .f64 a.z.hi] ∧ CellsL wd56 (w.heap.size + 1) 4 [.float .f64 b.z.lo, .float .f64 b.z.hi] := ⟨trivial, (kb K49 D57).cellsL 4 [.float .f64 a.z.lo, .float .f64 a.z.hi] rfl, (kb K50 D57).cellsL 4 [.float .f64 b.z.lo, .float .f64 b.z.hi] rfl⟩
 refine tkq 0 (bm 11 1) hS58 ?_
 refine tkq 1 (bm 11 3) hS58 ?_
 refine tkq 2 (bm 11 7) hS58 ?_
 refine tkq 3 (bm 11 15) hS58 ?_
 refine tke 4 (bm 11 31) hS58 ?_
 refine tkq 5 (bm 11 63) hS58 ?_
 refine tkq 6 (bm 11 127) hS58 ?_
 refine tke 7 (bm 11 255) hS58 ?_
 refine wpAnyH_oneN (i := 8) (l' := bm 11 511) rfl (by kernel_rfl) (by kernel_rfl) (by kernel_rfl) (fun K hK => ?_)
 go_simp
 go_at_call 62
 refine (C2.out _).mono ?_
 rintro r w67 ⟨rfl, hb⟩
 dsimp only
 have D68 := ds D57 hb
 clear D57
 clear hb
 have hS69 : True ∧ CellsL w67 (w.heap.size) 4 [.float .f64 a.z.lo, .float .f64 a.z.hi] ∧ CellsL w67 (w.heap.size + 1) 4 [.float .f64 b.z.lo, .float .f64 b.z.hi] := ⟨trivial, (kb K49 D68).cellsL 4 [.float .f64 a.z.lo, .float .f64 a.z.hi] rfl, (kb K50 D68).cellsL 4 [.float .f64 b.z.lo, .float .f64 b.z.hi] rfl⟩
 refine hK _ _ hS69 ?_
 clear hK K hS58
 refine tkq 9 (bm 11 1023) hS69 ?_
 refine wpAnyH_oneN (i := 10) (l' := bm 11 2047) rfl (by kernel_rfl) (by kernel_rfl) (by kernel_rfl) (fun K hK => ?_)
 have f73 := (kb K52 D68).cellsL 4 [.float .f64 0, .float .f64 0] rfl
 dsimp only [CellsL, al, vl, Nat.reduceAdd] at f73
 have u74 := (kb K52 D68).unfrozen
 obtain ⟨V71, hV72⟩ : ∃ V, setCells w67 (w.heap.size + 1 + 1 + 1) 4 [.float .f64 p2.lo, .float .f64 p2.hi] = V := ⟨_, rfl⟩
 have hv75 := hV72
 simp only [setCells, Nat.reduceAdd] at hv75
 have K76 := kf hV72 K49 D68 (by omega)
 have K77 := kf hV72 K50 D68 (by omega)
 have K78 := kf hV72 K51 D68 (by omega)
 have K79 := Lib.hid (show Blk V71 (w.heap.size + 1 + 1 + 1) 30 #[.float .f64 p0.lo, .float .f64 p0.hi, .float .f64 p1.lo, .float .f64 p1.hi, .float .f64 p2.lo, .float .f64 p2.hi] from (ks hV72 K52 D68).out)
 have HB80 := hbs hV72 HB53 D68 (by omega)
 have D81 := dr V71
 clear K49 K50 K51 K52 HB53 D68
 go_simp
 clear hV72 f73 u74 hv75
 have hS82 : True ∧ CellsL V71 (w.heap.size) 4 [.float .f64 a.z.lo, .float .f64 a.z.hi] ∧ CellsL V71 (w.heap.size + 1) 4 [.float .f64 b.z.lo, .float .f64 b.z.hi] := ⟨trivial, (kb K76 D81).cellsL 4 [.float .f64 a.z.lo, .float .f64 a.z.hi] rfl, (kb K77 D81).cellsL 4 [.float .f64 b.z.lo, .float .f64 b.z.hi] rfl⟩
 refine hK _ _ hS82 ?_
 clear hK K hS69
 refine wpAnyH_done (by kernel_rfl) ?_ _
 clear hS82
 go_wp2_with fail
 rw [rounds_succ]
 have f83 := (kb K79 D81)
 have f86 := (kb K78 D81)
 obtain ⟨V84, hV85⟩ : ∃ V, World.setRow V71 (w.heap.size + 1 + 1) #[.float .f64 p0.lo, .float .f64 p0.hi, .float .f64 p1.lo, .float .f64 p1.hi, .float .f64 p2.lo, .float .f64 p2.hi] = V := ⟨_, rfl⟩
 have K87 := kfr hV85 K76 D81 (by omega)
 have K88 := kfr hV85 K77 D81 (by omega)
 have K89 := ksr hV85 K78 D81
 have K90 := kfr hV85 K79 D81 (by omega)
 have HB91 := hbr hV85 HB80 D81 (by omega)
 have D92 := dr V84
 clear K76 K77 K78 K79 HB80 D81
 go_wp2_with (first | (refine wpList_store_row rfl 30 _ _ rfl (w.heap.size + 1 + 1) #[.float .f64 p0.lo, .float .f64 p0.hi, .float .f64 p1.lo, .float .f64 p1.hi, .float .f64 p2.lo, .float .f64 p2.hi] rfl rfl _ _ f86 (by rw [info_V3]; rfl) rfl (by kernel_rfl) ?_; rw [hV85]) | (refine wl_load (by kernel_rfl) rfl rfl f83 (by rw [info_V3]; rfl) Try.underlying30 rfl ?_))
 clear f83 hV85 f86
 (try simp only [Exit.inBlock, Exit.then])
 exact bodyPost_ret (res_c rfl _ _ (w.heap.size + 1 + 1) #[.float .f64 p0.lo, .float .f64 p0.hi, .float .f64 p1.lo, .float .f64 p1.hi, .float .f64 p2.lo, .float .f64 p2.hi] rfl (kb K89 D92) (by rw [info_V3]; rfl) Try.underlying30 rfl) rfl ⟨rfl, below_step HB91.out D92.out⟩
theorem vAdd_any (a b : V3) (w : World) : Calls Try.prog 37 #[Value.agg #[.float .f64 a.x.lo, .float .f64 a.x.hi, .float .f64 a.y.lo, .float .f64 a.y.hi, .float .f64 a.z.lo, .float .f64 a.z.hi], Value.agg #[.float .f64 b.x.lo, .float .f64 b.x.hi, .float .f64 b.y.lo, .float .f64 b.y.hi, .float .f64 b.z.lo, .float .f64 b.z.hi]] w fun r w' => r = .returned (vval (vAdd a b)) ∧ Below w.heap.size w w' := by
 have C0 := Lib.hid (fun w => each_add a b w)
 obtain ⟨p0, hp0⟩ : ∃ z_, vAdd a b = z_ := ⟨_, rfl⟩
 rw [hp0] at C0
 have hT : vAdd a b = p0 := by
   subst hp0; rfl
 rw [hT]
 clear hT
 clear hp0
 go_enter Try.func37, Try.ntmps37
 go_wp2_with (first | (refine wl_load (by kernel_rfl) rfl rfl (((Blk.new_at _ _ _ rfl).alloc _).alloc _) (by rw [info_V3]; rfl) Try.underlying30 rfl ?_) | (refine wl_load (by kernel_rfl) rfl rfl ((Blk.new_at _ _ _ (by simp)).alloc _) (by rw [info_V3]; rfl) Try.underlying30 rfl ?_))
 obtain ⟨W, hW, K0, K1, K2, hB, hz⟩ := bx3 w 30 30 30 (vc a) (vc b) #[.float .f64 0, .float .f64 0, .float .f64 0, .float .f64 0, .float .f64 0, .float .f64 0]
 rw [← hW]
 have K0 := Lib.hid K0
 have K1 := Lib.hid K1
 have K2 := Lib.hid K2
 have HB := Lib.hid hB
 clear hW hB hz
 have D1 := dr W
 refine (C0.out _).mono ?_
 rintro r w2 ⟨rfl, hb⟩
 have D3 := ds D1 hb
 clear D1
 clear hb
 have f6 := (kb K2 D3)
 obtain ⟨V4, hV5⟩ : ∃ V, World.setRow w2 (w.heap.size + 1 + 1) (vc p0) = V := ⟨_, rfl⟩
 have K7 := kfr hV5 K0 D3 (by omega)
 have K8 := kfr hV5 K1 D3 (by omega)
 have K9 := ksr hV5 K2 D3
 have HB10 := hbr hV5 HB D3 (by omega)
 have D11 := dr V4
 clear K0 K1 K2 HB D3
 go_wp2_with (refine wpList_store_row rfl 30 _ _ rfl (w.heap.size + 1 + 1) (vc p0) rfl rfl _ _ f6 (by rw [info_V3]; rfl) rfl (by kernel_rfl) ?_; rw [hV5])
 clear hV5 f6
 (try simp only [Exit.inBlock, Exit.then])
 exact bodyPost_ret (res_c rfl _ _ (w.heap.size + 1 + 1) (vc p0) rfl (kb K9 D11) (by rw [info_V3]; rfl) Try.underlying30 rfl) rfl ⟨rfl, below_step HB10.out D11.out⟩
end Go.Proofs.Ytnljfcebmgifdaa
