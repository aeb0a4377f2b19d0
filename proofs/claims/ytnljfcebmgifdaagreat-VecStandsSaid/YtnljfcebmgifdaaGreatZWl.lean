/- Shaken: Wl. -/
import Derived.Test.YtnljfcebmgifdaaGreatZGs
import Derived.Test.YtnljfcebmgifdaaGreatZGt
import Derived.Test.YtnljfcebmgifdaaGreatZGu
import Derived.Test.YtnljfcebmgifdaaGreatZPa
set_option linter.unusedVariables false
set_option linter.unusedSimpArgs false
namespace Go.Proofs.YtnljfcebmgifdaaGreat
open Go.RowKit Ieee
theorem exW_small (neg : Bool) (W : Nat) (e : Int) (more : Bool) (h : W < 18446744073709551616) : exW neg W e more = exv neg 0 W e more := by
 unfold exW
 rw [Nat.div_eq_of_lt h, Nat.mod_eq_of_lt h]
abbrev exS (x : Bool × Nat × Int × Bool) : Value := exW x.1 x.2.1 x.2.2.1 x.2.2.2
theorem exv_ret {n n' : Bool} {a b a' b' : Nat} {e e' : Int} {m m' : Bool} (hn : n = n') (ha : a = a') (hb : b = b') (he : e = e') (hm : m = m') : Ending.returned (exv n a b e m) = .returned (exv n' a' b' e' m') := by
 subst hn ha hb he hm; rfl
theorem add64_0 (x y : Nat) (w : World) : (callFunc 144 #[.int .u64 x, .int .u64 y, .int .u64 0]).run Tryz.prog w =
     .ok (.value (.tuple #[.int .u64 (((x + y) % 18446744073709551616 : Nat) : Int), .int .u64 (((x + y) / 18446744073709551616 : Nat) : Int)])) w := add64_call x y 0 (by omega) w
theorem sub64_0 (x y : Nat) (w : World) : (callFunc 145 #[.int .u64 x, .int .u64 y, .int .u64 0]).run Tryz.prog w =
     .ok (.value (.tuple #[.int .u64 (((x + 18446744073709551616 - y - 0) % 18446744073709551616 : Nat) : Int), .int .u64 ((if x < y + 0 then 1 else 0 : Nat) : Int)])) w := sub64_call x y 0 (by omega) w
theorem sub64_1 (x y : Nat) (w : World) : (callFunc 145 #[.int .u64 x, .int .u64 y, .int .u64 1]).run Tryz.prog w =
     .ok (.value (.tuple #[.int .u64 (((x + 18446744073709551616 - y - 1) % 18446744073709551616 : Nat) : Int), .int .u64 ((if x < y + 1 then 1 else 0 : Nat) : Int)])) w := sub64_call x y 1 (by omega) w
theorem sub64_00 (y : Nat) (w : World) : (callFunc 145 #[.int .u64 0, .int .u64 y, .int .u64 0]).run Tryz.prog w =
     .ok (.value (.tuple #[.int .u64 (((0 + 18446744073709551616 - y - 0) % 18446744073709551616 : Nat) : Int), .int .u64 ((if 0 < y + 0 then 1 else 0 : Nat) : Int)])) w := sub64_call 0 y 0 (by omega) w
theorem sub64_0c (y c : Nat) (hc : c ≤ 1) (w : World) : (callFunc 145 #[.int .u64 0, .int .u64 y, .int .u64 c]).run Tryz.prog w =
     .ok (.value (.tuple #[.int .u64 (((0 + 18446744073709551616 - y - c) % 18446744073709551616 : Nat) : Int), .int .u64 ((if 0 < y + c then 1 else 0 : Nat) : Int)])) w := sub64_call 0 y c hc w
theorem two_add {A B : Nat} (h : A + B < 340282366920938463463374607431768211456) :
   (A / 18446744073709551616 + B / 18446744073709551616 + (A % 18446744073709551616 + B % 18446744073709551616) / 18446744073709551616) % 18446744073709551616 = (A + B) / 18446744073709551616 ∧
   (A % 18446744073709551616 + B % 18446744073709551616) % 18446744073709551616 = (A + B) % 18446744073709551616 := by omega
theorem two_sub {A B c : Nat} (hA : A < 340282366920938463463374607431768211456) (h : B + c ≤ A) (hc : c ≤ 1) :
   (A / 18446744073709551616 + 18446744073709551616 - B / 18446744073709551616 - (if A % 18446744073709551616 < B % 18446744073709551616 + c then 1 else 0)) % 18446744073709551616 = (A - B - c) / 18446744073709551616 ∧
   (A % 18446744073709551616 + 18446744073709551616 - B % 18446744073709551616 - c) % 18446744073709551616 = (A - B - c) % 18446744073709551616 ∧
   ¬ (A / 18446744073709551616 < B / 18446744073709551616 + (if A % 18446744073709551616 < B % 18446744073709551616 + c then 1 else 0)) := by
 split <;> omega
theorem two_neg {A B : Nat} (hB : B < 340282366920938463463374607431768211456) (h : A < B) (S0 S1 C0 : Nat) (hC0 : C0 = if A % 18446744073709551616 < B % 18446744073709551616 + 0 then 1 else 0)
   (hS0 : S0 = (A % 18446744073709551616 + 18446744073709551616 - B % 18446744073709551616 - 0) % 18446744073709551616) (hS1 : S1 = (A / 18446744073709551616 + 18446744073709551616 - B / 18446744073709551616 - C0) % 18446744073709551616) :
   (A / 18446744073709551616 < B / 18446744073709551616 + C0) ∧ (0 + 18446744073709551616 - S0 - 0) % 18446744073709551616 = (B - A) % 18446744073709551616 ∧
   (0 + 18446744073709551616 - S1 - (if 0 < S0 + 0 then 1 else 0)) % 18446744073709551616 = (B - A) / 18446744073709551616 := by
 by_cases h1 : A % 18446744073709551616 < B % 18446744073709551616 + 0
 · rw [if_pos h1] at hC0
   by_cases h2 : 0 < S0 + 0
   · rw [if_pos h2]; omega
   · rw [if_neg h2]; omega
 · rw [if_neg h1] at hC0
   by_cases h2 : 0 < S0 + 0
   · rw [if_pos h2]; omega
   · rw [if_neg h2]; omega
set_option maxHeartbeats 1000000 in
theorem core_n (na nb : Bool) (A B : Nat) (ea eb : Int) (hA : A < 9007199254740992) (hB : B < 9007199254740992) (hA0 : A ≠ 0) (hB0 : B ≠ 0) (hea : -1074 ≤ ea) (hea2 : ea ≤ 971) (heb : -1074 ≤ eb) (heb2 : eb ≤ 971) (hc : eb + (Fl.len B : Int) ≤ ea + Fl.len A) (w : World) :
   Calls Tryz.prog 132 #[exv na 0 A ea false, exv nb 0 B eb false] w fun r w' => r = .returned (exS (sumCore na nb A B ea eb)) ∧ Below w.heap.size w w' := by
 have hZa : ∀ w, Calls Tryz.prog 143 #[exv na 0 A ea false] w fun r w' => r = .returned (.bool false) ∧ ∃ o, w' = w.alloc o := by
   intro w
   have := zero_any na 0 A ea false w
   rw [decide_eq_false hA0, Bool.and_false] at this
   exact this
 have hZb : ∀ w, Calls Tryz.prog 143 #[exv nb 0 B eb false] w fun r w' => r = .returned (.bool false) ∧ ∃ o, w' = w.alloc o := by
   intro w
   have := zero_any nb 0 B eb false w
   rw [decide_eq_false hB0, Bool.and_false] at this
   exact this
 have hLa : ∀ w, Calls Tryz.prog 121 #[exv na 0 A ea false] w fun r w' => r = .returned (.int .i64 (Fl.len A : Int)) ∧ ∃ o, w' = w.alloc o := by
   intro w
   have := length_any na 0 A ea false (by omega) (by omega) w
   rw [Nat.zero_mul, Nat.zero_add] at this
   exact this
 have hLb : ∀ w, Calls Tryz.prog 121 #[exv nb 0 B eb false] w fun r w' => r = .returned (.int .i64 (Fl.len B : Int)) ∧ ∃ o, w' = w.alloc o := by
   intro w
   have := length_any nb 0 B eb false (by omega) (by omega) w
   rw [Nat.zero_mul, Nat.zero_add] at this
   exact this
 have l1 := len53 hA
 have l2 := len53 hB
 have l3 := Fl.len_pos hA0
 have l4 := Fl.len_pos hB0
 have bA := norm126 hA
 obtain ⟨e1, he1⟩ : ∃ e1, e1 = ea + (Fl.len A : Int) - 126 := ⟨_, rfl⟩
 obtain ⟨A1, hA1⟩ : ∃ A1, A1 = A * 2 ^ (126 - Fl.len A) := ⟨_, rfl⟩
 rw [← hA1] at bA
 have HLf : ∀ w, Calls Tryz.prog 120 #[exv na 0 A ea false, .int .i64 (IntKind.i64.wrap (126 - (Fl.len A : Int)))] w fun r w' => r = .returned (exv na (A1 / 18446744073709551616) (A1 % 18446744073709551616) e1 false) ∧ ∃ k o o', w' = ((w.alloc o).alloc o').drewN k := by
   intro w
   have := left_any na A ea false (126 - Fl.len A) (by rw [← hA1]; omega) (by omega) (by omega) (by omega) w
   rw [exW_small na A ea false (by omega), ← hA1] at this
   have q1 : IntKind.i64.wrap (126 - (Fl.len A : Int)) = ((126 - Fl.len A : Nat) : Int) := by rw [IntKind.wrap_i64]; omega
   rw [q1, show e1 = ea - ((126 - Fl.len A : Nat) : Int) by omega]
   exact this
 unfold sumCore
 rw [← hA1, ← he1]
 by_cases h1 : e1 < eb
 · rw [if_pos h1]
   obtain ⟨k, hk⟩ : ∃ k : Nat, eb - e1 = k := ⟨(eb - e1).toNat, by omega⟩
   have hk2 : (eb - e1).toNat = k := by omega
   rw [hk2]
   obtain ⟨B1, hB1⟩ : ∃ B1, B1 = B * 2 ^ k := ⟨_, rfl⟩
   have bB : B1 < 85070591730234615865843651857942052864 := by
     rw [hB1]; exact lt126 (Fl.lt_len B) (by omega)
   obtain ⟨eb', heb'⟩ : ∃ x, x = eb - (k : Int) := ⟨_, rfl⟩
   have HB : ∀ w, Calls Tryz.prog 120 #[exv nb 0 B eb false, .int .i64 (eb - e1)] w fun r w' => r = .returned (exv nb (B1 / 18446744073709551616) (B1 % 18446744073709551616) eb' false) ∧ ∃ k o o', w' = ((w.alloc o).alloc o').drewN k := by
     intro w
     have := left_any nb B eb false k (by rw [← hB1]; omega) (by omega) (by omega) (by omega) w
     rw [exW_small nb B eb false (by omega), ← hB1, ← heb'] at this
     rw [hk]
     exact this
   rw [← hB1]
   unfold sumFin
   by_cases hs : (na == nb) = true
   · rw [if_pos hs]
     refine (sum_n_L_s na nb 0 0 A B ea eb (Fl.len A) (Fl.len B) (by omega) (by omega) (by omega) (by omega) (by omega) (by omega) hc hZa hZb hLa hLb _ _ e1 HLf (by omega) (by omega) (by omega) _ _ eb' HB hs _ _ _ _ (add64_0 _ _) (add64_call _ _ _ (by omega)) w).mono ?_
     rintro r w' ⟨rfl, hb⟩
     obtain ⟨q1, q2⟩ := two_add (A := A1) (B := B1) (by omega)
     exact ⟨exv_ret rfl q1 q2 rfl rfl, hb⟩
   · rw [if_neg hs, if_neg Bool.false_ne_true]
     have hs' : (na == nb) = false := by revert hs; cases na <;> cases nb <;> decide
     by_cases hlt : A1 < B1
     · rw [if_pos hlt]
       obtain ⟨C0, hC0⟩ : ∃ x, x = if A1 % 18446744073709551616 < B1 % 18446744073709551616 + 0 then 1 else 0 := ⟨_, rfl⟩
       obtain ⟨S0, hS0⟩ : ∃ x, x = (A1 % 18446744073709551616 + 18446744073709551616 - B1 % 18446744073709551616 - 0) % 18446744073709551616 := ⟨_, rfl⟩
       obtain ⟨S1, hS1⟩ : ∃ x, x = (A1 / 18446744073709551616 + 18446744073709551616 - B1 / 18446744073709551616 - C0) % 18446744073709551616 := ⟨_, rfl⟩
       obtain ⟨q1, q2, q3⟩ := two_neg (by omega) hlt S0 S1 C0 hC0 hS0 hS1
       have hC01 : C0 ≤ 1 := by rw [hC0]; split <;> omega
       refine (sum_n_L_d0n na nb 0 0 A B ea eb (Fl.len A) (Fl.len B) (by omega) (by omega) (by omega) (by omega) (by omega) (by omega) hc hZa hZb hLa hLb _ _ e1 HLf (by omega) (by omega) (by omega) _ _ eb' HB hs' S0 C0 S1 (if A1 / 18446744073709551616 < B1 / 18446744073709551616 + C0 then 1 else 0) (by rw [hS0, hC0]; exact sub64_0 _ _) (by rw [hS1]; exact sub64_call _ _ _ hC01) (by rw [if_pos q1]; omega) _ _ _ _ (sub64_00 S0) (sub64_0c S1 _ (by split <;> omega)) w).mono ?_
       rintro r w' ⟨rfl, hb⟩
       have hn : (!na) = nb := by revert hs'; cases na <;> cases nb <;> decide
       exact ⟨exv_ret hn q3 q2 rfl rfl, hb⟩
     · rw [if_neg hlt]
       obtain ⟨q1, q2, q3⟩ := two_sub (A := A1) (B := B1) (c := 0) (by omega) (by omega) (by omega)
       refine (sum_n_L_d0 na nb 0 0 A B ea eb (Fl.len A) (Fl.len B) (by omega) (by omega) (by omega) (by omega) (by omega) (by omega) hc hZa hZb hLa hLb _ _ e1 HLf (by omega) (by omega) (by omega) _ _ eb' HB hs' _ _ _ _ (sub64_0 _ _) (sub64_call _ _ _ (by split <;> omega)) (if_neg q3) w).mono ?_
       rintro r w' ⟨rfl, hb⟩
       exact ⟨exv_ret rfl q1 q2 rfl rfl, hb⟩
 · rw [if_neg h1]
   obtain ⟨k, hk⟩ : ∃ k : Nat, e1 - eb = k := ⟨(e1 - eb).toNat, by omega⟩
   have hk2 : (e1 - eb).toNat = k := by omega
   rw [hk2]
   obtain ⟨B1, hB1⟩ : ∃ B1, B1 = B / 2 ^ k := ⟨_, rfl⟩
   have bB : B1 < 9007199254740992 := by
     rw [hB1]; exact Nat.lt_of_le_of_lt (Nat.div_le_self _ _) hB
   have hge := top126 hA0 (by omega)
   rw [← hA1] at hge
   obtain ⟨mb, hmb⟩ : ∃ x, x = (B % 2 ^ k != 0) := ⟨_, rfl⟩
   obtain ⟨eb', heb'⟩ : ∃ x, x = eb + (k : Int) := ⟨_, rfl⟩
   rw [← hB1, ← hmb]
   unfold sumFin
   by_cases hq : k < 128
   · have HB : ∀ w, Calls Tryz.prog 139 #[exv nb 0 B eb false, .int .i64 (e1 - eb)] w fun r w' => r = .returned (exv nb (B1 / 18446744073709551616) (B1 % 18446744073709551616) eb' mb) ∧ ∃ k o o', w' = ((w.alloc o).alloc o').drewN k := by
       intro w
       have := right_any nb B eb false k (by omega) hq (by omega) (by omega) w
       rw [exW_small nb B eb false (by omega), ← hB1, ← heb', Bool.false_or, ← hmb] at this
       rw [hk]
       exact this
     by_cases hs : (na == nb) = true
     · rw [if_pos hs]
       refine (sum_n_R_s na nb 0 0 A B ea eb (Fl.len A) (Fl.len B) (by omega) (by omega) (by omega) (by omega) (by omega) (by omega) hc hZa hZb hLa hLb _ _ e1 HLf (by omega) (by omega) (by omega) _ _ eb' _ HB hs _ _ _ _ (add64_0 _ _) (add64_call _ _ _ (by omega)) w).mono ?_
       rintro r w' ⟨rfl, hb⟩
       obtain ⟨q1, q2⟩ := two_add (A := A1) (B := B1) (by omega)
       exact ⟨exv_ret rfl q1 q2 rfl rfl, hb⟩
     · rw [if_neg hs]
       have hs' : (na == nb) = false := by revert hs; cases na <;> cases nb <;> decide
       cases mb
       · rw [if_neg Bool.false_ne_true, if_neg (by omega : ¬ A1 < B1)]
         obtain ⟨q1, q2, q3⟩ := two_sub (A := A1) (B := B1) (c := 0) (by omega) (by omega) (by omega)
         refine (sum_n_R_d0 na nb 0 0 A B ea eb (Fl.len A) (Fl.len B) (by omega) (by omega) (by omega) (by omega) (by omega) (by omega) hc hZa hZb hLa hLb _ _ e1 HLf (by omega) (by omega) (by omega) _ _ eb' _ HB hs' rfl _ _ _ _ (sub64_0 _ _) (sub64_call _ _ _ (by split <;> omega)) (if_neg q3) w).mono ?_
         rintro r w' ⟨rfl, hb⟩
         exact ⟨exv_ret rfl q1 q2 rfl rfl, hb⟩
       · rw [if_pos rfl]
         obtain ⟨q1, q2, q3⟩ := two_sub (A := A1) (B := B1) (c := 1) (by omega) (by omega) (by omega)
         refine (sum_n_R_d1 na nb 0 0 A B ea eb (Fl.len A) (Fl.len B) (by omega) (by omega) (by omega) (by omega) (by omega) (by omega) hc hZa hZb hLa hLb _ _ e1 HLf (by omega) (by omega) (by omega) _ _ eb' _ HB hs' rfl _ _ _ _ (sub64_1 _ _) (sub64_call _ _ _ (by split <;> omega)) (if_neg q3) w).mono ?_
         rintro r w' ⟨rfl, hb⟩
         exact ⟨exv_ret rfl q1 q2 rfl rfl, hb⟩
   · have HB : ∀ w, Calls Tryz.prog 139 #[exv nb 0 B eb false, .int .i64 (e1 - eb)] w fun r w' => r = .returned (exv nb (B1 / 18446744073709551616) (B1 % 18446744073709551616) eb' mb) ∧ ∃ k o o' o'', w' = (((w.alloc o).alloc o').alloc o'').drewN k := by
       intro w
       have := right_over0 nb B eb k (by omega) (by omega) (by omega) (by omega) (by omega) w
       rw [exW_small nb B eb false (by omega), ← hB1, ← heb', Bool.false_or, ← hmb] at this
       rw [hk]
       exact this
     have hmt : mb = true := by
       obtain ⟨_, q⟩ := big_pow (W := B) (n := k) (by omega) (by omega)
       rw [hmb, q]; exact bne_iff_ne.2 hB0
     by_cases hs : (na == nb) = true
     · rw [if_pos hs]
       refine (sum_n_Q_s na nb 0 0 A B ea eb (Fl.len A) (Fl.len B) (by omega) (by omega) (by omega) (by omega) (by omega) (by omega) hc hZa hZb hLa hLb _ _ e1 HLf (by omega) (by omega) (by omega) _ _ eb' _ HB hs _ _ _ _ (add64_0 _ _) (add64_call _ _ _ (by omega)) w).mono ?_
       rintro r w' ⟨rfl, hb⟩
       obtain ⟨q1, q2⟩ := two_add (A := A1) (B := B1) (by omega)
       exact ⟨exv_ret rfl q1 q2 rfl rfl, hb⟩
     · rw [if_neg hs]
       have hs' : (na == nb) = false := by revert hs; cases na <;> cases nb <;> decide
       clear hmb
       subst hmt
       rw [if_pos rfl]
       obtain ⟨q1, q2, q3⟩ := two_sub (A := A1) (B := B1) (c := 1) (by omega) (by omega) (by omega)
       refine (sum_n_Q_d1 na nb 0 0 A B ea eb (Fl.len A) (Fl.len B) (by omega) (by omega) (by omega) (by omega) (by omega) (by omega) hc hZa hZb hLa hLb _ _ e1 HLf (by omega) (by omega) (by omega) _ _ eb' _ HB hs' rfl _ _ _ _ (sub64_1 _ _) (sub64_call _ _ _ (by split <;> omega)) (if_neg q3) w).mono ?_
       rintro r w' ⟨rfl, hb⟩
       exact ⟨exv_ret rfl q1 q2 rfl rfl, hb⟩
set_option maxHeartbeats 1000000 in
theorem core_y (na nb : Bool) (A B : Nat) (ea eb : Int) (hA : A < 9007199254740992) (hB : B < 9007199254740992) (hA0 : A ≠ 0) (hB0 : B ≠ 0) (hea : -1074 ≤ ea) (hea2 : ea ≤ 971) (heb : -1074 ≤ eb) (heb2 : eb ≤ 971) (hc : eb + (Fl.len B : Int) < ea + Fl.len A) (w : World) :
   Calls Tryz.prog 132 #[exv nb 0 B eb false, exv na 0 A ea false] w fun r w' => r = .returned (exS (sumCore na nb A B ea eb)) ∧ Below w.heap.size w w' := by
 have hZa : ∀ w, Calls Tryz.prog 143 #[exv na 0 A ea false] w fun r w' => r = .returned (.bool false) ∧ ∃ o, w' = w.alloc o := by
   intro w
   have := zero_any na 0 A ea false w
   rw [decide_eq_false hA0, Bool.and_false] at this
   exact this
 have hZb : ∀ w, Calls Tryz.prog 143 #[exv nb 0 B eb false] w fun r w' => r = .returned (.bool false) ∧ ∃ o, w' = w.alloc o := by
   intro w
   have := zero_any nb 0 B eb false w
   rw [decide_eq_false hB0, Bool.and_false] at this
   exact this
 have hLa : ∀ w, Calls Tryz.prog 121 #[exv na 0 A ea false] w fun r w' => r = .returned (.int .i64 (Fl.len A : Int)) ∧ ∃ o, w' = w.alloc o := by
   intro w
   have := length_any na 0 A ea false (by omega) (by omega) w
   rw [Nat.zero_mul, Nat.zero_add] at this
   exact this
 have hLb : ∀ w, Calls Tryz.prog 121 #[exv nb 0 B eb false] w fun r w' => r = .returned (.int .i64 (Fl.len B : Int)) ∧ ∃ o, w' = w.alloc o := by
   intro w
   have := length_any nb 0 B eb false (by omega) (by omega) w
   rw [Nat.zero_mul, Nat.zero_add] at this
   exact this
 have l1 := len53 hA
 have l2 := len53 hB
 have l3 := Fl.len_pos hA0
 have l4 := Fl.len_pos hB0
 have bA := norm126 hA
 obtain ⟨e1, he1⟩ : ∃ e1, e1 = ea + (Fl.len A : Int) - 126 := ⟨_, rfl⟩
 obtain ⟨A1, hA1⟩ : ∃ A1, A1 = A * 2 ^ (126 - Fl.len A) := ⟨_, rfl⟩
 rw [← hA1] at bA
 have HLf : ∀ w, Calls Tryz.prog 120 #[exv na 0 A ea false, .int .i64 (IntKind.i64.wrap (126 - (Fl.len A : Int)))] w fun r w' => r = .returned (exv na (A1 / 18446744073709551616) (A1 % 18446744073709551616) e1 false) ∧ ∃ k o o', w' = ((w.alloc o).alloc o').drewN k := by
   intro w
   have := left_any na A ea false (126 - Fl.len A) (by rw [← hA1]; omega) (by omega) (by omega) (by omega) w
   rw [exW_small na A ea false (by omega), ← hA1] at this
   have q1 : IntKind.i64.wrap (126 - (Fl.len A : Int)) = ((126 - Fl.len A : Nat) : Int) := by rw [IntKind.wrap_i64]; omega
   rw [q1, show e1 = ea - ((126 - Fl.len A : Nat) : Int) by omega]
   exact this
 unfold sumCore
 rw [← hA1, ← he1]
 by_cases h1 : e1 < eb
 · rw [if_pos h1]
   obtain ⟨k, hk⟩ : ∃ k : Nat, eb - e1 = k := ⟨(eb - e1).toNat, by omega⟩
   have hk2 : (eb - e1).toNat = k := by omega
   rw [hk2]
   obtain ⟨B1, hB1⟩ : ∃ B1, B1 = B * 2 ^ k := ⟨_, rfl⟩
   have bB : B1 < 85070591730234615865843651857942052864 := by
     rw [hB1]; exact lt126 (Fl.lt_len B) (by omega)
   obtain ⟨eb', heb'⟩ : ∃ x, x = eb - (k : Int) := ⟨_, rfl⟩
   have HB : ∀ w, Calls Tryz.prog 120 #[exv nb 0 B eb false, .int .i64 (eb - e1)] w fun r w' => r = .returned (exv nb (B1 / 18446744073709551616) (B1 % 18446744073709551616) eb' false) ∧ ∃ k o o', w' = ((w.alloc o).alloc o').drewN k := by
     intro w
     have := left_any nb B eb false k (by rw [← hB1]; omega) (by omega) (by omega) (by omega) w
     rw [exW_small nb B eb false (by omega), ← hB1, ← heb'] at this
     rw [hk]
     exact this
   rw [← hB1]
   unfold sumFin
   by_cases hs : (na == nb) = true
   · rw [if_pos hs]
     refine (sum_y_L_s na nb 0 0 A B ea eb (Fl.len A) (Fl.len B) (by omega) (by omega) (by omega) (by omega) (by omega) (by omega) hc hZa hZb hLa hLb _ _ e1 HLf (by omega) (by omega) (by omega) _ _ eb' HB hs _ _ _ _ (add64_0 _ _) (add64_call _ _ _ (by omega)) w).mono ?_
     rintro r w' ⟨rfl, hb⟩
     obtain ⟨q1, q2⟩ := two_add (A := A1) (B := B1) (by omega)
     exact ⟨exv_ret rfl q1 q2 rfl rfl, hb⟩
   · rw [if_neg hs, if_neg Bool.false_ne_true]
     have hs' : (na == nb) = false := by revert hs; cases na <;> cases nb <;> decide
     by_cases hlt : A1 < B1
     · rw [if_pos hlt]
       obtain ⟨C0, hC0⟩ : ∃ x, x = if A1 % 18446744073709551616 < B1 % 18446744073709551616 + 0 then 1 else 0 := ⟨_, rfl⟩
       obtain ⟨S0, hS0⟩ : ∃ x, x = (A1 % 18446744073709551616 + 18446744073709551616 - B1 % 18446744073709551616 - 0) % 18446744073709551616 := ⟨_, rfl⟩
       obtain ⟨S1, hS1⟩ : ∃ x, x = (A1 / 18446744073709551616 + 18446744073709551616 - B1 / 18446744073709551616 - C0) % 18446744073709551616 := ⟨_, rfl⟩
       obtain ⟨q1, q2, q3⟩ := two_neg (by omega) hlt S0 S1 C0 hC0 hS0 hS1
       have hC01 : C0 ≤ 1 := by rw [hC0]; split <;> omega
       refine (sum_y_L_d0n na nb 0 0 A B ea eb (Fl.len A) (Fl.len B) (by omega) (by omega) (by omega) (by omega) (by omega) (by omega) hc hZa hZb hLa hLb _ _ e1 HLf (by omega) (by omega) (by omega) _ _ eb' HB hs' S0 C0 S1 (if A1 / 18446744073709551616 < B1 / 18446744073709551616 + C0 then 1 else 0) (by rw [hS0, hC0]; exact sub64_0 _ _) (by rw [hS1]; exact sub64_call _ _ _ hC01) (by rw [if_pos q1]; omega) _ _ _ _ (sub64_00 S0) (sub64_0c S1 _ (by split <;> omega)) w).mono ?_
       rintro r w' ⟨rfl, hb⟩
       have hn : (!na) = nb := by revert hs'; cases na <;> cases nb <;> decide
       exact ⟨exv_ret hn q3 q2 rfl rfl, hb⟩
     · rw [if_neg hlt]
       obtain ⟨q1, q2, q3⟩ := two_sub (A := A1) (B := B1) (c := 0) (by omega) (by omega) (by omega)
       refine (sum_y_L_d0 na nb 0 0 A B ea eb (Fl.len A) (Fl.len B) (by omega) (by omega) (by omega) (by omega) (by omega) (by omega) hc hZa hZb hLa hLb _ _ e1 HLf (by omega) (by omega) (by omega) _ _ eb' HB hs' _ _ _ _ (sub64_0 _ _) (sub64_call _ _ _ (by split <;> omega)) (if_neg q3) w).mono ?_
       rintro r w' ⟨rfl, hb⟩
       exact ⟨exv_ret rfl q1 q2 rfl rfl, hb⟩
 · rw [if_neg h1]
   obtain ⟨k, hk⟩ : ∃ k : Nat, e1 - eb = k := ⟨(e1 - eb).toNat, by omega⟩
   have hk2 : (e1 - eb).toNat = k := by omega
   rw [hk2]
   obtain ⟨B1, hB1⟩ : ∃ B1, B1 = B / 2 ^ k := ⟨_, rfl⟩
   have bB : B1 < 9007199254740992 := by
     rw [hB1]; exact Nat.lt_of_le_of_lt (Nat.div_le_self _ _) hB
   have hge := top126 hA0 (by omega)
   rw [← hA1] at hge
   obtain ⟨mb, hmb⟩ : ∃ x, x = (B % 2 ^ k != 0) := ⟨_, rfl⟩
   obtain ⟨eb', heb'⟩ : ∃ x, x = eb + (k : Int) := ⟨_, rfl⟩
   rw [← hB1, ← hmb]
   unfold sumFin
   by_cases hq : k < 128
   · have HB : ∀ w, Calls Tryz.prog 139 #[exv nb 0 B eb false, .int .i64 (e1 - eb)] w fun r w' => r = .returned (exv nb (B1 / 18446744073709551616) (B1 % 18446744073709551616) eb' mb) ∧ ∃ k o o', w' = ((w.alloc o).alloc o').drewN k := by
       intro w
       have := right_any nb B eb false k (by omega) hq (by omega) (by omega) w
       rw [exW_small nb B eb false (by omega), ← hB1, ← heb', Bool.false_or, ← hmb] at this
       rw [hk]
       exact this
     by_cases hs : (na == nb) = true
     · rw [if_pos hs]
       refine (sum_y_R_s na nb 0 0 A B ea eb (Fl.len A) (Fl.len B) (by omega) (by omega) (by omega) (by omega) (by omega) (by omega) hc hZa hZb hLa hLb _ _ e1 HLf (by omega) (by omega) (by omega) _ _ eb' _ HB hs _ _ _ _ (add64_0 _ _) (add64_call _ _ _ (by omega)) w).mono ?_
       rintro r w' ⟨rfl, hb⟩
       obtain ⟨q1, q2⟩ := two_add (A := A1) (B := B1) (by omega)
       exact ⟨exv_ret rfl q1 q2 rfl rfl, hb⟩
     · rw [if_neg hs]
       have hs' : (na == nb) = false := by revert hs; cases na <;> cases nb <;> decide
       cases mb
       · rw [if_neg Bool.false_ne_true, if_neg (by omega : ¬ A1 < B1)]
         obtain ⟨q1, q2, q3⟩ := two_sub (A := A1) (B := B1) (c := 0) (by omega) (by omega) (by omega)
         refine (sum_y_R_d0 na nb 0 0 A B ea eb (Fl.len A) (Fl.len B) (by omega) (by omega) (by omega) (by omega) (by omega) (by omega) hc hZa hZb hLa hLb _ _ e1 HLf (by omega) (by omega) (by omega) _ _ eb' _ HB hs' rfl _ _ _ _ (sub64_0 _ _) (sub64_call _ _ _ (by split <;> omega)) (if_neg q3) w).mono ?_
         rintro r w' ⟨rfl, hb⟩
         exact ⟨exv_ret rfl q1 q2 rfl rfl, hb⟩
       · rw [if_pos rfl]
         obtain ⟨q1, q2, q3⟩ := two_sub (A := A1) (B := B1) (c := 1) (by omega) (by omega) (by omega)
         refine (sum_y_R_d1 na nb 0 0 A B ea eb (Fl.len A) (Fl.len B) (by omega) (by omega) (by omega) (by omega) (by omega) (by omega) hc hZa hZb hLa hLb _ _ e1 HLf (by omega) (by omega) (by omega) _ _ eb' _ HB hs' rfl _ _ _ _ (sub64_1 _ _) (sub64_call _ _ _ (by split <;> omega)) (if_neg q3) w).mono ?_
         rintro r w' ⟨rfl, hb⟩
         exact ⟨exv_ret rfl q1 q2 rfl rfl, hb⟩
   · have HB : ∀ w, Calls Tryz.prog 139 #[exv nb 0 B eb false, .int .i64 (e1 - eb)] w fun r w' => r = .returned (exv nb (B1 / 18446744073709551616) (B1 % 18446744073709551616) eb' mb) ∧ ∃ k o o' o'', w' = (((w.alloc o).alloc o').alloc o'').drewN k := by
       intro w
       have := right_over0 nb B eb k (by omega) (by omega) (by omega) (by omega) (by omega) w
       rw [exW_small nb B eb false (by omega), ← hB1, ← heb', Bool.false_or, ← hmb] at this
       rw [hk]
       exact this
     have hmt : mb = true := by
       obtain ⟨_, q⟩ := big_pow (W := B) (n := k) (by omega) (by omega)
       rw [hmb, q]; exact bne_iff_ne.2 hB0
     by_cases hs : (na == nb) = true
     · rw [if_pos hs]
       refine (sum_y_Q_s na nb 0 0 A B ea eb (Fl.len A) (Fl.len B) (by omega) (by omega) (by omega) (by omega) (by omega) (by omega) hc hZa hZb hLa hLb _ _ e1 HLf (by omega) (by omega) (by omega) _ _ eb' _ HB hs _ _ _ _ (add64_0 _ _) (add64_call _ _ _ (by omega)) w).mono ?_
       rintro r w' ⟨rfl, hb⟩
       obtain ⟨q1, q2⟩ := two_add (A := A1) (B := B1) (by omega)
       exact ⟨exv_ret rfl q1 q2 rfl rfl, hb⟩
     · rw [if_neg hs]
       have hs' : (na == nb) = false := by revert hs; cases na <;> cases nb <;> decide
       clear hmb
       subst hmt
       rw [if_pos rfl]
       obtain ⟨q1, q2, q3⟩ := two_sub (A := A1) (B := B1) (c := 1) (by omega) (by omega) (by omega)
       refine (sum_y_Q_d1 na nb 0 0 A B ea eb (Fl.len A) (Fl.len B) (by omega) (by omega) (by omega) (by omega) (by omega) (by omega) hc hZa hZb hLa hLb _ _ e1 HLf (by omega) (by omega) (by omega) _ _ eb' _ HB hs' rfl _ _ _ _ (sub64_1 _ _) (sub64_call _ _ _ (by split <;> omega)) (if_neg q3) w).mono ?_
       rintro r w' ⟨rfl, hb⟩
       exact ⟨exv_ret rfl q1 q2 rfl rfl, hb⟩
end Go.Proofs.YtnljfcebmgifdaaGreat
