/- Shaken: Wj. -/
import Derived.Test.YtnljfcebmgifdaaGreatZGa
import Derived.Deep.CutBlock
set_option linter.unusedVariables false
set_option linter.unusedSimpArgs false
namespace Go.Proofs.YtnljfcebmgifdaaGreat
open Go.RowKit Ieee
theorem lz_any (y : Nat) (h1 : 4503599627370496 ≤ y) (h2 : y < 9007199254740992) (w : World) :
   Calls Tryz.prog 138 #[.int .u64 (y : Int)] w fun r w' => r = .returned (.int .i64 11) ∧ w = w' := by
 have HL := Lib.hid (fun w => len64 y (by omega) w)
 have hl : Fl.len y = 53 := Fl.len_of (k := 52) (by rw [show (2 : Nat) ^ 52 = 4503599627370496 by decide]; exact h1) (by rw [show (2 : Nat) ^ (52 + 1) = 9007199254740992 by decide]; exact h2)
 rw [hl] at HL
 go_enter Tryz.func138, Tryz.ntmps138
 go_wp2_with fail
 refine (HL.out _).mono ?_
 rintro r w' ⟨rfl, rfl⟩
 go_wp2_with fail
 go_ret
 exact ⟨rfl, rfl⟩
theorem div64_small (lo y : Nat) (hlo : lo < 18446744073709551616) (h0 : 0 < y) (h2 : y < 18446744073709551616) (w : World) :
   Calls Tryz.prog 122 #[.int .u64 0, .int .u64 (lo : Int), .int .u64 (y : Int)] w fun r w' => r = .returned (.tuple #[.int .u64 ((lo / y : Nat) : Int), .int .u64 ((lo % y : Nat) : Int)]) ∧ ∃ k, w' = w.drewN k := by
 go_enter Tryz.func122, Tryz.ntmps122
 go_wp2_with fail
 go_region
 go_wp2_with fail
 go_ret2
 refine ⟨?_, 1, rfl⟩
 have h3 : lo / y ≤ lo := Nat.div_le_self _ _
 have e1 : IntKind.u64.wrap ((lo : Int) / (y : Int)) = ((lo / y : Nat) : Int) := by
   have : (lo : Int) / (y : Int) = ((lo / y : Nat) : Int) := by simp
   rw [this]
   generalize lo / y = z at *
   rw [IntKind.wrap_u64]; omega
 rw [e1]
 rfl
/-- One digit of the long division: d1, d0 the halves of the divisor, U what is divided, Q the digit. -/
structure DvR (U d1 d0 Q q r : Nat) : Prop where
 hq : Q ≤ q
 hu : q * d1 + r = U
 hr : r < 4294967296
theorem dv_more {U d1 d0 Q q r : Nat} (h : DvR U d1 d0 Q q r) (hd1 : 0 < d1) (hQ1 : Q * (d1 * 4294967296 + d0) ≤ U * 4294967296) (hQ : Q < 4294967296) (hc : 4294967296 ≤ q ∨ 4294967296 * r < q * d0) :
   Q ≤ q - 1 ∧ 0 < q ∧ (q - 1) * d1 + (r + d1) = U := by
 have hlt : Q < q := by
   apply Nat.lt_of_not_le
   intro hle
   have e : q = Q := Nat.le_antisymm hle h.hq
   subst e
   rcases hc with hc | hc
   · omega
   · have h1 := h.hu
     have h2 : q * (d1 * 4294967296 + d0) = q * d1 * 4294967296 + q * d0 := by rw [Nat.mul_add, Nat.mul_assoc]
     omega
 refine ⟨by omega, by omega, ?_⟩
 have h1 := h.hu
 obtain ⟨p, rfl⟩ : ∃ p, q = p + 1 := ⟨q - 1, by omega⟩
 rw [Nat.add_sub_cancel]
 rw [Nat.add_mul, Nat.one_mul] at h1
 omega
theorem dv_last {U d1 d0 Q q r : Nat} (hq : Q ≤ q) (hu : q * d1 + r = U) (hQ2 : U * 4294967296 < (Q + 1) * (d1 * 4294967296 + d0)) (hc : q * d0 ≤ 4294967296 * r) : q = Q := by
 apply Nat.le_antisymm _ hq
 apply Nat.le_of_not_lt
 intro hlt
 have h1 : (Q + 1) * (d1 * 4294967296 + d0) ≤ q * (d1 * 4294967296 + d0) := Nat.mul_le_mul_right _ hlt
 have h2 : q * (d1 * 4294967296 + d0) = q * d1 * 4294967296 + q * d0 := by rw [Nat.mul_add, Nat.mul_assoc]
 omega
/-- Behind a round that ends the loop: the rest is great. -/
theorem dv_break {d0 q r : Nat} (hd0 : d0 < 4294967296) (hq : q ≤ 4294967296) (hr : 4294967296 ≤ r) : q * d0 ≤ 4294967296 * r := by
 have h1 : q * d0 ≤ 4294967296 * d0 := Nat.mul_le_mul_right _ hq
 have h2 : 4294967296 * d0 ≤ 4294967296 * r := Nat.mul_le_mul_left _ (by omega)
 omega
theorem dv_start {U d1 d0 : Nat} (hd1 : 2147483648 ≤ d1) (hd12 : d1 < 4294967296) (hd0 : d0 < 4294967296) (hU : U < d1 * 4294967296 + d0) :
   DvR U d1 d0 (U * 4294967296 / (d1 * 4294967296 + d0)) (U / d1) (U % d1) ∧ U / d1 ≤ 4294967297 ∧ U * 4294967296 / (d1 * 4294967296 + d0) < 4294967296 ∧
   U * 4294967296 / (d1 * 4294967296 + d0) * (d1 * 4294967296 + d0) ≤ U * 4294967296 ∧ U * 4294967296 < (U * 4294967296 / (d1 * 4294967296 + d0) + 1) * (d1 * 4294967296 + d0) := by
 have hp : 0 < d1 * 4294967296 + d0 := by omega
 have hd1p : 0 < d1 := by omega
 refine ⟨⟨?_, ?_, ?_⟩, ?_, ?_, ?_, ?_⟩
 · rw [← Nat.mul_div_mul_right U d1 (by omega : 0 < 4294967296)]
   exact Nat.div_le_div_left (Nat.le_add_right _ _) (Nat.mul_pos hd1p (by omega))
 · rw [Nat.mul_comm]; exact Nat.div_add_mod U d1
 · have := Nat.mod_lt U hd1p; omega
 · have h1 : U / d1 < 4294967298 := by
     rw [Nat.div_lt_iff_lt_mul hd1p]; omega
   omega
 · rw [Nat.div_lt_iff_lt_mul hp, Nat.mul_comm]
   exact Nat.mul_lt_mul_of_pos_left hU (by omega)
 · exact Nat.div_mul_le_self _ _
 · have := Nat.div_add_mod (U * 4294967296) (d1 * 4294967296 + d0)
   have h2 := Nat.mod_lt (U * 4294967296) hp
   rw [Nat.add_mul, Nat.one_mul, Nat.mul_comm (U * 4294967296 / (d1 * 4294967296 + d0))]
   omega
def Dv1 (U d1 d0 Q : Nat) (c r : Value) : Prop := ∃ q s : Nat, c = .int .u64 (q : Int) ∧ r = .int .u64 (s : Int) ∧ DvR U d1 d0 Q q s ∧ q ≤ 4294967297
theorem dv_out {U d1 d0 Q q s : Nat} (h : DvR U d1 d0 Q q s) (hb : 0 < d1 ∧ d1 < 4294967296 ∧ d0 < 4294967296) (hm : Q ≤ q - 1 ∧ 0 < q ∧ (q - 1) * d1 + (s + d1) = U) (hq : q ≤ 4294967297) (hQ2 : U * 4294967296 < (Q + 1) * (d1 * 4294967296 + d0))
   (c3 : 4294967296 ≤ s + d1) {x : Int} (hx : x = (q : Int) - 1) : Value.int .u64 x = Value.int .u64 (Q : Int) := by
 have h1 := dv_last (q := q - 1) (r := s + d1) hm.1 hm.2.2 hQ2 (dv_break hb.2.2 (by omega) c3)
 subst hx
 exact congrArg _ (by omega)
theorem dv_next {U d1 d0 Q q s : Nat} (h : DvR U d1 d0 Q q s) (hb : 0 < d1 ∧ d1 < 4294967296 ∧ d0 < 4294967296) (hm : Q ≤ q - 1 ∧ 0 < q ∧ (q - 1) * d1 + (s + d1) = U) (hq : q ≤ 4294967297)
   (c3 : ¬ (4294967296 : Int) ≤ (s : Int) + (d1 : Int)) {x : Int} (hx : x = (q : Int) - 1) :
   Dv1 U d1 d0 Q (Value.int .u64 x) (Value.int .u64 ((s : Int) + (d1 : Int))) ∧ 4294967296 - (intOf (Value.int IntKind.u64 ((s : Int) + (d1 : Int)))).toNat < 4294967296 - (intOf (Value.int IntKind.u64 (s : Int))).toNat := by
 subst hx
 have := h.hr
 refine ⟨⟨q - 1, s + d1, congrArg _ (by omega), congrArg _ (by omega), ⟨hm.1, hm.2.2, by omega⟩, by omega⟩, ?_⟩
 simp only [intOf]
 omega
theorem dv_at {U d1 d0 Q : Nat} (h : DvR U d1 d0 Q (U / d1) (U % d1) ∧ U / d1 ≤ 4294967297) (hU : U < 18446744073709551616) {x : Int} (hx : x = (U : Int)) :
   Dv1 U d1 d0 Q (Value.int .u64 (x / (d1 : Int))) (Value.int .u64 (IntKind.u64.wrap (x - IntKind.u64.wrap (x / (d1 : Int) * (d1 : Int))))) := by
 subst hx
 refine ⟨U / d1, U % d1, congrArg _ (by simp), congrArg _ ?_, h.1, h.2⟩
 have e1 : (U : Int) / (d1 : Int) * (d1 : Int) = ((U / d1 * d1 : Nat) : Int) := by simp
 have e2 := Nat.div_add_mod U d1
 rw [Nat.mul_comm] at e2
 rw [e1]
 generalize U / d1 * d1 = a at *
 generalize U % d1 = b at *
 rw [IntKind.wrap_u64, IntKind.wrap_u64]
 omega
theorem dv_at2 {U d1 d0 Q : Nat} (h : DvR U d1 d0 Q (U / d1) (U % d1) ∧ U / d1 ≤ 4294967297) (hU : U < 18446744073709551616) {x : Int} (hx : x = (U : Int)) :
   Dv1 U d1 d0 Q (Value.int .u64 (IntKind.u64.wrap (x / (d1 : Int)))) (Value.int .u64 (IntKind.u64.wrap (x - IntKind.u64.wrap (IntKind.u64.wrap (x / (d1 : Int)) * (d1 : Int))))) := by
 have e : IntKind.u64.wrap (x / (d1 : Int)) = x / (d1 : Int) := by
   subst hx
   have e1 : (U : Int) / (d1 : Int) = ((U / d1 : Nat) : Int) := by simp
   have e2 : U / d1 ≤ U := Nat.div_le_self _ _
   rw [e1]
   generalize U / d1 = a at *
   rw [IntKind.wrap_u64]
   omega
 rw [e]
 exact dv_at h hU hx
theorem dv_end {a b a' b' : Int} (ha : a = a') (hb : b = b') : Ending.returned (.tuple #[.int .u64 a, .int .u64 b]) = .returned (.tuple #[.int .u64 a', .int .u64 b']) := by rw [ha, hb]
theorem dv_sub {A B R : Nat} (h : A = B + R) (hR : R < 18446744073709551616) {x y : Int} (hx : x = (A : Int)) (hy : y = (B : Int)) :
   IntKind.u64.wrap (IntKind.u64.wrap (IntKind.u64.wrap x) - IntKind.u64.wrap y) = (R : Int) := by
 subst hx hy
 simp only [IntKind.wrap_u64]
 omega
set_option maxRecDepth 100000 in
set_option maxHeartbeats 4000000 in
theorem div64_long (hi y : Nat) (h1 : 4503599627370496 ≤ y) (h2 : y < 9007199254740992) (hh : hi < y) (h0 : 0 < hi) (d1 d0 Q R T : Nat) (HB : Hid (0 < d1 ∧ d1 < 4294967296 ∧ d0 < 4294967296)) (F1 : (y : Int) * 2048 / 4294967296 = (d1 : Int)) (F2 : bits .and .u64 ((y : Int) * 2048) 4294967295 = (d0 : Int))
   (F3 : bits .or .u64 ((hi : Int) * 2048) 0 = (hi : Int) * 2048) (F4 : bits .and .u64 0 4294967295 = 0) (HS : Hid (DvR (hi * 2048) d1 d0 Q (hi * 2048 / d1) (hi * 2048 % d1) ∧ hi * 2048 / d1 ≤ 4294967297)) (HX : Hid (Q * (d1 * 4294967296 + d0) ≤ hi * 2048 * 4294967296 ∧ Q < 4294967296 ∧ hi * 2048 * 4294967296 < (Q + 1) * (d1 * 4294967296 + d0)))
   (HT : Hid (DvR R d1 d0 T (R / d1) (R % d1) ∧ R / d1 ≤ 4294967297)) (HY : Hid (T * (d1 * 4294967296 + d0) ≤ R * 4294967296 ∧ T < 4294967296 ∧ R * 4294967296 < (T + 1) * (d1 * 4294967296 + d0)))
   (HR : Hid (hi * 2048 * 4294967296 = Q * (y * 2048) + R ∧ R < 18446744073709551616)) (Z : Nat) (HZ : Hid (R * 4294967296 = T * (y * 2048) + Z ∧ Z < 18446744073709551616 ∧ hi * 18446744073709551616 / y = Q * 4294967296 + T ∧ hi * 18446744073709551616 % y = Z / 2048)) (w : World) :
   Calls Tryz.prog 122 #[.int .u64 (hi : Int), .int .u64 0, .int .u64 (y : Int)] w fun r w' => r = .returned (.tuple #[.int .u64 ((hi * 18446744073709551616 / y : Nat) : Int), .int .u64 ((hi * 18446744073709551616 % y : Nat) : Int)]) ∧ ∃ k, w' = w.drewN k := by
 have HL := Lib.hid (fun w => lz_any y h1 h2 w)
 go_enter Tryz.func122, Tryz.ntmps122
 go_wp2_with fail
 refine (HL.out _).mono ?_
 rintro r w' ⟨rfl, rfl⟩
 go_upto_block 0 with fail
 go_cut [15] (fun c wc => c = .int .u64 (Q : Int) ∧ wc = w)
 case first =>
   go_wp2_with fail
   go_loop [15, 16] (fun c r => Dv1 (hi * 2048) d1 d0 Q c r) (fun _ r => 4294967296 - (intOf r).toNat)
   case atStart =>
     exact dv_at HS.out (by omega) (by omega)
   case round =>
     obtain ⟨q, s, rfl, rfl, hd, hq⟩ := hrel
     have HDv := Lib.hid hd
     have hs : (s : Int) < 4294967296 := by have := hd.hr; omega
     have hq' : (q : Int) ≤ 4294967297 := by omega
     have hsd : (s : Int) + (d1 : Int) < 8589934592 := by have := HB.out.2.1; omega
     have hqd : (q : Int) * (d0 : Int) < 18446744073709551616 := by
       have h1 : q * d0 ≤ 4294967297 * 4294967295 := Nat.mul_le_mul hq (by have := HB.out.2.2; omega)
       have h2 : (q : Int) * (d0 : Int) = ((q * d0 : Nat) : Int) := (Int.natCast_mul q d0).symm
       omega
     have hqd0 : (0 : Int) ≤ (q : Int) * (d0 : Int) := Int.mul_nonneg (Int.natCast_nonneg _) (Int.natCast_nonneg _)
     have HQ := Lib.hid hq
     clear hd hq
     by_cases c1 : (4294967296 : Int) ≤ (q : Int)
     · have HM := Lib.hid (dv_more HDv.out HB.out.1 HX.out.1 HX.out.2.1 (.inl (by omega)))
       have hq1 : (1 : Int) ≤ (q : Int) := by omega
       by_cases c3 : (4294967296 : Int) ≤ (s : Int) + (d1 : Int)
       · go_wp2_with fail
         go_meet
         exact ⟨dv_out HDv.out HB.out HM.out HQ.out HX.out.2.2 (by omega) rfl, rfl⟩
       · go_wp2_with fail
         exact dv_next HDv.out HB.out HM.out HQ.out c3 rfl
     · by_cases c2 : (4294967296 : Int) * (s : Int) < (q : Int) * (d0 : Int)
       · have HM := Lib.hid (dv_more HDv.out HB.out.1 HX.out.1 HX.out.2.1 (.inr (by have h2 : (q : Int) * (d0 : Int) = ((q * d0 : Nat) : Int) := (Int.natCast_mul q d0).symm; omega)))
         have hq1 : (1 : Int) ≤ (q : Int) := by have := HM.out.2.1; omega
         by_cases c3 : (4294967296 : Int) ≤ (s : Int) + (d1 : Int)
         · go_wp2_with fail
           go_meet
           exact ⟨dv_out HDv.out HB.out HM.out HQ.out HX.out.2.2 (by omega) rfl, rfl⟩
         · go_wp2_with fail
           exact dv_next HDv.out HB.out HM.out HQ.out c3 rfl
       · go_wp2_with fail
         go_meet
         refine ⟨?_, rfl⟩
         have := dv_last HDv.out.hq HDv.out.hu HX.out.2.2 (by have h2 : (q : Int) * (d0 : Int) = ((q * d0 : Nat) : Int) := (Int.natCast_mul q d0).symm; omega)
         rw [this]
 case rest => 
   obtain ⟨rfl, rfl⟩ := hcut
   go_upto_region 21 with fail
   go_cut [17] (fun c wd => c = .int .u64 (R : Int) ∧ wd = wc)
   case first =>
     go_wp2_with fail
     go_meet
     refine ⟨congrArg _ ?_, rfl⟩
     exact dv_sub HR.out.1 HR.out.2 (by omega) (by rw [Int.natCast_mul, Int.natCast_mul]; rfl)
   case rest => 
     obtain ⟨rfl, rfl⟩ := hcut
     go_upto_block 2 with fail
     go_cut [18] (fun c wd => c = .int .u64 (T : Int) ∧ wd = wc)
     case first =>
       go_wp2_with fail
       go_loop [18, 16] (fun c r => Dv1 R d1 d0 T c r) (fun _ r => 4294967296 - (intOf r).toNat)
       case atStart =>
         exact dv_at2 HT.out HR.out.2 rfl
       case round =>
         obtain ⟨q, s, rfl, rfl, hd, hq⟩ := hrel
         have HDv := Lib.hid hd
         have hs : (s : Int) < 4294967296 := by have := hd.hr; omega
         have hq' : (q : Int) ≤ 4294967297 := by omega
         have hsd : (s : Int) + (d1 : Int) < 8589934592 := by have := HB.out.2.1; omega
         have hqd : (q : Int) * (d0 : Int) < 18446744073709551616 := by
           have h1 : q * d0 ≤ 4294967297 * 4294967295 := Nat.mul_le_mul hq (by have := HB.out.2.2; omega)
           have h2 : (q : Int) * (d0 : Int) = ((q * d0 : Nat) : Int) := (Int.natCast_mul q d0).symm
           omega
         have hqd0 : (0 : Int) ≤ (q : Int) * (d0 : Int) := Int.mul_nonneg (Int.natCast_nonneg _) (Int.natCast_nonneg _)
         have HQ := Lib.hid hq
         clear hd hq
         by_cases c1 : (4294967296 : Int) ≤ (q : Int)
         · have HM := Lib.hid (dv_more HDv.out HB.out.1 HY.out.1 HY.out.2.1 (.inl (by omega)))
           have hq1 : (1 : Int) ≤ (q : Int) := by omega
           by_cases c3 : (4294967296 : Int) ≤ (s : Int) + (d1 : Int)
           · go_wp2_with fail
             go_meet
             exact ⟨dv_out HDv.out HB.out HM.out HQ.out HY.out.2.2 (by omega) rfl, rfl⟩
           · go_wp2_with fail
             exact dv_next HDv.out HB.out HM.out HQ.out c3 rfl
         · by_cases c2 : (4294967296 : Int) * (s : Int) < (q : Int) * (d0 : Int)
           · have HM := Lib.hid (dv_more HDv.out HB.out.1 HY.out.1 HY.out.2.1 (.inr (by have h2 : (q : Int) * (d0 : Int) = ((q * d0 : Nat) : Int) := (Int.natCast_mul q d0).symm; omega)))
             have hq1 : (1 : Int) ≤ (q : Int) := by have := HM.out.2.1; omega
             by_cases c3 : (4294967296 : Int) ≤ (s : Int) + (d1 : Int)
             · go_wp2_with fail
               go_meet
               exact ⟨dv_out HDv.out HB.out HM.out HQ.out HY.out.2.2 (by omega) rfl, rfl⟩
             · go_wp2_with fail
               exact dv_next HDv.out HB.out HM.out HQ.out c3 rfl
           · go_wp2_with fail
             go_meet
             refine ⟨?_, rfl⟩
             have := dv_last HDv.out.hq HDv.out.hu HY.out.2.2 (by have h2 : (q : Int) * (d0 : Int) = ((q * d0 : Nat) : Int) := (Int.natCast_mul q d0).symm; omega)
             rw [this]
     case rest => 
       obtain ⟨rfl, rfl⟩ := hcut
       go_wp2_with fail
       go_ret2
       refine ⟨?_, 0, rfl⟩
       obtain ⟨z1, z2, z3, z4⟩ := HZ.out
       have hT := HY.out.2.1
       have hQ := HX.out.2.1
       refine dv_end (a := IntKind.u64.wrap (IntKind.u64.wrap ((Q : Int) * 4294967296) + (T : Int))) (b := IntKind.u64.wrap (IntKind.u64.wrap (IntKind.u64.wrap ((R : Int) * 4294967296)) - IntKind.u64.wrap ((T : Int) * ((y : Int) * 2048))) / 2048) ?_ ?_
       · rw [z3]
         simp only [IntKind.wrap_u64]
         omega
       · rw [dv_sub z1 z2 (by omega) (by rw [Int.natCast_mul, Int.natCast_mul]; rfl), z4]
         omega
theorem dv_key {hi a b R Z : Nat} (q1 : 2048 * a + R = hi * 2048 * 4294967296) (r1 : 2048 * b + Z = R * 4294967296) : hi * 18446744073709551616 = a * 4294967296 + b + Z / 2048 := by
 omega
theorem dv_split {hi y d1 d0 : Nat} (h1 : 4503599627370496 ≤ y) (h2 : y < 9007199254740992) (hh : hi < y) (hd1 : y * 2048 / 4294967296 = d1) (hd0 : y * 2048 % 4294967296 = d0) :
   ∃ Q R T Z, (DvR (hi * 2048) d1 d0 Q (hi * 2048 / d1) (hi * 2048 % d1) ∧ hi * 2048 / d1 ≤ 4294967297) ∧ (Q * (d1 * 4294967296 + d0) ≤ hi * 2048 * 4294967296 ∧ Q < 4294967296 ∧ hi * 2048 * 4294967296 < (Q + 1) * (d1 * 4294967296 + d0)) ∧
     (DvR R d1 d0 T (R / d1) (R % d1) ∧ R / d1 ≤ 4294967297) ∧ (T * (d1 * 4294967296 + d0) ≤ R * 4294967296 ∧ T < 4294967296 ∧ R * 4294967296 < (T + 1) * (d1 * 4294967296 + d0)) ∧
     (hi * 2048 * 4294967296 = Q * (y * 2048) + R ∧ R < 18446744073709551616) ∧ (R * 4294967296 = T * (y * 2048) + Z ∧ Z < 18446744073709551616 ∧ hi * 18446744073709551616 / y = Q * 4294967296 + T ∧ hi * 18446744073709551616 % y = Z / 2048) := by
 have hD : d1 * 4294967296 + d0 = y * 2048 := by omega
 have hd1a : 2147483648 ≤ d1 := by omega
 have hd1b : d1 < 4294967296 := by omega
 have hd0b : d0 < 4294967296 := by omega
 have hyp : 0 < y * 2048 := by omega
 obtain ⟨a1, a2, a3, a4, a5⟩ := dv_start (U := hi * 2048) hd1a hd1b hd0b (by rw [hD]; omega)
 rw [hD] at a1 a3 a4 a5
 have q1 := Nat.div_add_mod (hi * 2048 * 4294967296) (y * 2048)
 have q2 := Nat.mod_lt (hi * 2048 * 4294967296) hyp
 rw [Nat.mul_comm] at q1
 obtain ⟨Q, hQ⟩ : ∃ Q, hi * 2048 * 4294967296 / (y * 2048) = Q := ⟨_, rfl⟩
 obtain ⟨R, hR⟩ : ∃ R, hi * 2048 * 4294967296 % (y * 2048) = R := ⟨_, rfl⟩
 rw [hQ, hR] at q1
 rw [hR] at q2
 rw [hQ] at a1 a3 a4 a5
 obtain ⟨b1, b2, b3, b4, b5⟩ := dv_start (U := R) hd1a hd1b hd0b (by rw [hD]; omega)
 rw [hD] at b1 b3 b4 b5
 have r1 := Nat.div_add_mod (R * 4294967296) (y * 2048)
 have r2 := Nat.mod_lt (R * 4294967296) hyp
 rw [Nat.mul_comm] at r1
 obtain ⟨T, hT⟩ : ∃ T, R * 4294967296 / (y * 2048) = T := ⟨_, rfl⟩
 obtain ⟨Z, hZ⟩ : ∃ Z, R * 4294967296 % (y * 2048) = Z := ⟨_, rfl⟩
 rw [hT, hZ] at r1
 rw [hZ] at r2
 rw [hT] at b1 b3 b4 b5
 refine ⟨Q, R, T, Z, ⟨a1, a2⟩, ⟨by rw [hD]; exact a4, a3, by rw [hD]; exact a5⟩, ⟨b1, b2⟩, ⟨by rw [hD]; exact b4, b3, by rw [hD]; exact b5⟩, ⟨q1.symm, by omega⟩, r1.symm, by omega, ?_⟩
 have key : hi * 18446744073709551616 = y * (Q * 4294967296 + T) + Z / 2048 := by
   have e1 : Q * (y * 2048) = 2048 * (y * Q) := by rw [← Nat.mul_assoc, Nat.mul_comm (Q * y), Nat.mul_comm Q y]
   have e2 : T * (y * 2048) = 2048 * (y * T) := by rw [← Nat.mul_assoc, Nat.mul_comm (T * y), Nat.mul_comm T y]
   rw [Nat.mul_add, ← Nat.mul_assoc]
   rw [e1] at q1
   rw [e2] at r1
   exact dv_key q1 r1
 have hlt : Z / 2048 < y := by omega
 rw [key]
 exact ⟨by rw [Nat.mul_add_div (by omega), Nat.div_eq_of_lt hlt, Nat.add_zero], by rw [Nat.mul_add_mod, Nat.mod_eq_of_lt hlt]⟩
theorem div64_any (hi y : Nat) (h1 : 4503599627370496 ≤ y) (h2 : y < 9007199254740992) (hh : hi < y) (w : World) :
   Calls Tryz.prog 122 #[.int .u64 (hi : Int), .int .u64 0, .int .u64 (y : Int)] w fun r w' => r = .returned (.tuple #[.int .u64 ((hi * 18446744073709551616 / y : Nat) : Int), .int .u64 ((hi * 18446744073709551616 % y : Nat) : Int)]) ∧ ∃ k, w' = w.drewN k := by
 by_cases h0 : hi = 0
 · subst h0
   have := div64_small 0 y (by omega) (by omega) (by omega) w
   rw [Nat.zero_mul]
   exact this
 · obtain ⟨Q, R, T, Z, a, b, c, d, e, f⟩ := dv_split (hi := hi) h1 h2 hh rfl rfl
   refine div64_long hi y h1 h2 hh (by omega) _ _ Q R T (Lib.hid ⟨by omega, by omega, by omega⟩) ?_ ?_ ?_ (by decide) (Lib.hid a) (Lib.hid b) (Lib.hid c) (Lib.hid d) (Lib.hid e) Z (Lib.hid f) w
   · omega
   · have := maskN (y * 2048) (by omega)
     rw [Int.natCast_mul] at this
     exact this
   · have := bits_or_u64_nat (hi * 2048) 0 (by omega) (by omega)
     rw [Nat.or_zero, Int.natCast_mul] at this
     exact this
end Go.Proofs.YtnljfcebmgifdaaGreat
namespace Go.Proofs.YtnljfcebmgifdaaGreat
open Go.RowKit Ieee
/-- r is the whole root of N. -/
def IsRoot (N r : Nat) : Prop := r * r ≤ N ∧ N < (r + 1) * (r + 1)
theorem IsRoot.uniq {N r s : Nat} (h : IsRoot N r) (h' : IsRoot N s) : r = s := by
 have key : ∀ {r s : Nat}, IsRoot N r → IsRoot N s → r ≤ s := by
   intro r s h h'
   apply Nat.le_of_not_lt
   intro hlt
   have h1 : (s + 1) * (s + 1) ≤ r * r := Nat.mul_le_mul hlt hlt
   have h2 := h.1
   have h3 := h'.2
   omega
 exact Nat.le_antisymm (key h h') (key h' h)
/-- After i rounds. -/
structure RtR (N i r : Nat) : Prop where
 hi : i ≤ 58
 low : r * r ≤ N
 high : N < (r + 2 ^ (58 - i)) * (r + 2 ^ (58 - i))
 lt : r < 288230376151711744
 dvd : r % 2 ^ (58 - i) = 0
theorem RtR.start {N : Nat} (hN : N < 83076749736557242056487941267521536) : RtR N 0 0 := by
 refine ⟨by omega, by omega, ?_, by omega, Nat.zero_mod _⟩
 have : (2 : Nat) ^ (58 - 0) = 288230376151711744 := by decide
 rw [this]; omega
theorem RtR.bit {N i r : Nat} (h : RtR N i r) (hi : i < 58) : (r ||| 2 ^ (57 - i)) = r + 2 ^ (57 - i) ∧ r + 2 ^ (57 - i) < 288230376151711744 ∧ 2 ^ (57 - i) < 18446744073709551616 := by
 obtain ⟨k, hk⟩ : ∃ k, 57 - i = k := ⟨_, rfl⟩
 have h1 := h.dvd
 have h2 := h.lt
 rw [show 58 - i = k + 1 by omega] at h1
 rw [hk]
 obtain ⟨c, hc⟩ : ∃ c, r = 2 ^ (k + 1) * c := ⟨r / 2 ^ (k + 1), by have := Nat.div_add_mod r (2 ^ (k + 1)); omega⟩
 have h3 : 2 ^ k < 2 ^ (k + 1) := Nat.pow_lt_pow_right (by decide) (by omega)
 have e1 : r ||| 2 ^ k = r + 2 ^ k := by
   rw [hc]; exact (Nat.two_pow_add_eq_or_of_lt h3 c).symm
 refine ⟨e1, ?_, ?_⟩
 · have h4 : (2 : Nat) ^ 58 = 2 ^ (k + 1) * 2 ^ (57 - k) := by rw [← Nat.pow_add]; congr 1; omega
   have h5 : (2 : Nat) ^ 58 = 288230376151711744 := by decide
   rw [hc] at h2 ⊢
   rw [← h5, h4] at h2 ⊢
   have h6 : c < 2 ^ (57 - k) := Nat.lt_of_mul_lt_mul_left h2
   have h7 : 2 ^ (k + 1) * (c + 1) ≤ 2 ^ (k + 1) * 2 ^ (57 - k) := Nat.mul_le_mul_left _ h6
   rw [Nat.mul_add, Nat.mul_one] at h7
   omega
 · have : (2 : Nat) ^ k ≤ 2 ^ 57 := Nat.pow_le_pow_right (by decide) (by omega)
   have h5 : (2 : Nat) ^ 57 = 144115188075855872 := by decide
   omega
theorem RtR.no {N i r : Nat} (h : RtR N i r) (hi : i < 58) (hc : ¬ (r + 2 ^ (57 - i)) * (r + 2 ^ (57 - i)) ≤ N) : RtR N (i + 1) r := by
 refine ⟨hi, h.low, ?_, h.lt, ?_⟩
 · rw [show 58 - (i + 1) = 57 - i by omega]; omega
 · have := h.dvd
   rw [show 58 - i = (57 - i) + 1 by omega, Nat.pow_succ] at this
   rw [show 58 - (i + 1) = 57 - i by omega]
   exact Nat.mod_eq_zero_of_dvd (Nat.dvd_trans (Nat.dvd_mul_right _ 2) (Nat.dvd_of_mod_eq_zero this))
theorem RtR.stop {N r : Nat} (h : RtR N 58 r) : IsRoot N r := by
 have := h.high
 rw [Nat.sub_self, Nat.pow_zero] at this
 exact ⟨h.low, this⟩
/-- The whole root of a number. -/
theorem root_ex (N : Nat) : ∃ R, IsRoot N R := by
 induction N with
 | zero => exact ⟨0, by decide, by decide⟩
 | succ N ih =>
   obtain ⟨R, h1, h2⟩ := ih
   by_cases h : N + 1 < (R + 1) * (R + 1)
   · exact ⟨R, by omega, h⟩
   · refine ⟨R + 1, by omega, ?_⟩
     have h3 : (R + 1 + 1) * (R + 1 + 1) = (R + 1) * (R + 1) + 2 * (R + 1) + 1 := by
       rw [Nat.add_mul (R + 1) 1, Nat.mul_add (R + 1) (R + 1) 1]; omega
     omega
end Go.Proofs.YtnljfcebmgifdaaGreat
