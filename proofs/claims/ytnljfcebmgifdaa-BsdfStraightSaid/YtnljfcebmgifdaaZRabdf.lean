/- Shaken: Wj Wo0 Pb Vl Gf Sf. -/
import Derived.Test.YtnljfcebmgifdaaZGf
set_option maxRecDepth 100000
set_option maxHeartbeats 4000000
set_option linter.unusedVariables false
set_option linter.unusedSimpArgs false
namespace Go.Proofs.Ytnljfcebmgifdaa
open Go.RowKit Ieee
theorem lz_any (y : Nat) (h1 : 4503599627370496 ≤ y) (h2 : y < 9007199254740992) (w : World) :
   Calls Try.prog 160 #[.int .u64 (y : Int)] w fun r w' => r = .returned (.int .i64 11) ∧ w = w' := by
 have HL := Lib.hid (fun w => len64 y (by omega) w)
 have hl : Fl.len y = 53 := Fl.len_of (k := 52) (by rw [show (2 : Nat) ^ 52 = 4503599627370496 by decide]; exact h1) (by rw [show (2 : Nat) ^ (52 + 1) = 9007199254740992 by decide]; exact h2)
 rw [hl] at HL
 go_enter Try.func160, Try.ntmps160
 go_wp2_with fail
 refine (HL.out _).mono ?_
 rintro r w' ⟨rfl, rfl⟩
 go_wp2_with fail
 go_ret
 exact ⟨rfl, rfl⟩
theorem div64_small (lo y : Nat) (hlo : lo < 18446744073709551616) (h0 : 0 < y) (h2 : y < 18446744073709551616) (w : World) :
   Calls Try.prog 141 #[.int .u64 0, .int .u64 (lo : Int), .int .u64 (y : Int)] w fun r w' => r = .returned (.tuple #[.int .u64 ((lo / y : Nat) : Int), .int .u64 ((lo % y : Nat) : Int)]) ∧ ∃ k, w' = w.drewN k := by
 go_enter Try.func141, Try.ntmps141
 go_wp2_with fail
 go_region
 go_wp2_with fail
 go_ret2
 refine ⟨?_, 1, rfl⟩
 have h3 : lo / y ≤ lo := Nat.div_le_self _ _
 have e1 : IntKind.u64.wrap ((lo : Int) / (y : Int)) = ((lo / y : Nat) : Int) := by
   have : (lo : Int) / (y : Int) = ((lo / y : Nat) : Int) := by simp
   rw [this]
   generalize lo / y = z at *
   rw [IntKind.wrap_u64]; omega
 rw [e1]
 rfl
/-- One digit of the long division: d1, d0 the halves of the divisor, U what is divided, Q the digit. -/
structure DvR (U d1 d0 Q q r : Nat) : Prop where
 hq : Q ≤ q
 hu : q * d1 + r = U
 hr : r < 4294967296
theorem dv_more {U d1 d0 Q q r : Nat} (h : DvR U d1 d0 Q q r) (hd1 : 0 < d1) (hQ1 : Q * (d1 * 4294967296 + d0) ≤ U * 4294967296) (hQ : Q < 4294967296) (hc : 4294967296 ≤ q ∨ 4294967296 * r < q * d0) :
   Q ≤ q - 1 ∧ 0 < q ∧ (q - 1) * d1 + (r + d1) = U := by
 have hlt : Q < q := by
   apply Nat.lt_of_not_le
   intro hle
   have e : q = Q := Nat.le_antisymm hle h.hq
   subst e
   rcases hc with hc | hc
   · omega
   · have h1 := h.hu
     have h2 : q * (d1 * 4294967296 + d0) = q * d1 * 4294967296 + q * d0 := by rw [Nat.mul_add, Nat.mul_assoc]
     omega
 refine ⟨by omega, by omega, ?_⟩
 have h1 := h.hu
 obtain ⟨p, rfl⟩ : ∃ p, q = p + 1 := ⟨q - 1, by omega⟩
 rw [Nat.add_sub_cancel]
 rw [Nat.add_mul, Nat.one_mul] at h1
 omega
theorem dv_last {U d1 d0 Q q r : Nat} (hq : Q ≤ q) (hu : q * d1 + r = U) (hQ2 : U * 4294967296 < (Q + 1) * (d1 * 4294967296 + d0)) (hc : q * d0 ≤ 4294967296 * r) : q = Q := by
 apply Nat.le_antisymm _ hq
 apply Nat.le_of_not_lt
 intro hlt
 have h1 : (Q + 1) * (d1 * 4294967296 + d0) ≤ q * (d1 * 4294967296 + d0) := Nat.mul_le_mul_right _ hlt
 have h2 : q * (d1 * 4294967296 + d0) = q * d1 * 4294967296 + q * d0 := by rw [Nat.mul_add, Nat.mul_assoc]
 omega
/-- Behind a round that ends the loop: the rest is great. -/
theorem dv_break {d0 q r : Nat} (hd0 : d0 < 4294967296) (hq : q ≤ 4294967296) (hr : 4294967296 ≤ r) : q * d0 ≤ 4294967296 * r := by
 have h1 : q * d0 ≤ 4294967296 * d0 := Nat.mul_le_mul_right _ hq
 have h2 : 4294967296 * d0 ≤ 4294967296 * r := Nat.mul_le_mul_left _ (by omega)
 omega
theorem dv_start {U d1 d0 : Nat} (hd1 : 2147483648 ≤ d1) (hd12 : d1 < 4294967296) (hd0 : d0 < 4294967296) (hU : U < d1 * 4294967296 + d0) :
   DvR U d1 d0 (U * 4294967296 / (d1 * 4294967296 + d0)) (U / d1) (U % d1) ∧ U / d1 ≤ 4294967297 ∧ U * 4294967296 / (d1 * 4294967296 + d0) < 4294967296 ∧
   U * 4294967296 / (d1 * 4294967296 + d0) * (d1 * 4294967296 + d0) ≤ U * 4294967296 ∧ U * 4294967296 < (U * 4294967296 / (d1 * 4294967296 + d0) + 1) * (d1 * 4294967296 + d0) := by
 have hp : 0 < d1 * 4294967296 + d0 := by omega
 have hd1p : 0 < d1 := by omega
 refine ⟨⟨?_, ?_, ?_⟩, ?_, ?_, ?_, ?_⟩
 · rw [← Nat.mul_div_mul_right U d1 (by omega : 0 < 4294967296)]
   exact Nat.div_le_div_left (Nat.le_add_right _ _) (Nat.mul_pos hd1p (by omega))
 · rw [Nat.mul_comm]; exact Nat.div_add_mod U d1
 · have := Nat.mod_lt U hd1p; omega
 · have h1 : U / d1 < 4294967298 := by
     rw [Nat.div_lt_iff_lt_mul hd1p]; omega
   omega
 · rw [Nat.div_lt_iff_lt_mul hp, Nat.mul_comm]
   exact Nat.mul_lt_mul_of_pos_left hU (by omega)
 · exact Nat.div_mul_le_self _ _
 · have := Nat.div_add_mod (U * 4294967296) (d1 * 4294967296 + d0)
   have h2 := Nat.mod_lt (U * 4294967296) hp
   rw [Nat.add_mul, Nat.one_mul, Nat.mul_comm (U * 4294967296 / (d1 * 4294967296 + d0))]
   omega
def Dv1 (U d1 d0 Q : Nat) (c r : Value) : Prop := ∃ q s : Nat, c = .int .u64 (q : Int) ∧ r = .int .u64 (s : Int) ∧ DvR U d1 d0 Q q s ∧ q ≤ 4294967297
theorem dv_out {U d1 d0 Q q s : Nat} (h : DvR U d1 d0 Q q s) (hb : 0 < d1 ∧ d1 < 4294967296 ∧ d0 < 4294967296) (hm : Q ≤ q - 1 ∧ 0 < q ∧ (q - 1) * d1 + (s + d1) = U) (hq : q ≤ 4294967297) (hQ2 : U * 4294967296 < (Q + 1) * (d1 * 4294967296 + d0))
   (c3 : 4294967296 ≤ s + d1) {x : Int} (hx : x = (q : Int) - 1) : Value.int .u64 x = Value.int .u64 (Q : Int) := by
 have h1 := dv_last (q := q - 1) (r := s + d1) hm.1 hm.2.2 hQ2 (dv_break hb.2.2 (by omega) c3)
 subst hx
 exact congrArg _ (by omega)
theorem dv_next {U d1 d0 Q q s : Nat} (h : DvR U d1 d0 Q q s) (hb : 0 < d1 ∧ d1 < 4294967296 ∧ d0 < 4294967296) (hm : Q ≤ q - 1 ∧ 0 < q ∧ (q - 1) * d1 + (s + d1) = U) (hq : q ≤ 4294967297)
   (c3 : ¬ (4294967296 : Int) ≤ (s : Int) + (d1 : Int)) {x : Int} (hx : x = (q : Int) - 1) :
   Dv1 U d1 d0 Q (Value.int .u64 x) (Value.int .u64 ((s : Int) + (d1 : Int))) ∧ 4294967296 - (intOf (Value.int IntKind.u64 ((s : Int) + (d1 : Int)))).toNat < 4294967296 - (intOf (Value.int IntKind.u64 (s : Int))).toNat := by
 subst hx
 have := h.hr
 refine ⟨⟨q - 1, s + d1, congrArg _ (by omega), congrArg _ (by omega), ⟨hm.1, hm.2.2, by omega⟩, by omega⟩, ?_⟩
 simp only [intOf]
 omega
theorem dv_at {U d1 d0 Q : Nat} (h : DvR U d1 d0 Q (U / d1) (U % d1) ∧ U / d1 ≤ 4294967297) (hU : U < 18446744073709551616) {x : Int} (hx : x = (U : Int)) :
   Dv1 U d1 d0 Q (Value.int .u64 (x / (d1 : Int))) (Value.int .u64 (IntKind.u64.wrap (x - IntKind.u64.wrap (x / (d1 : Int) * (d1 : Int))))) := by
 subst hx
 refine ⟨U / d1, U % d1, congrArg _ (by simp), congrArg _ ?_, h.1, h.2⟩
 have e1 : (U : Int) / (d1 : Int) * (d1 : Int) = ((U / d1 * d1 : Nat) : Int) := by simp
 have e2 := Nat.div_add_mod U d1
 rw [Nat.mul_comm] at e2
 rw [e1]
 generalize U / d1 * d1 = a at *
 generalize U % d1 = b at *
 rw [IntKind.wrap_u64, IntKind.wrap_u64]
 omega
theorem dv_at2 {U d1 d0 Q : Nat} (h : DvR U d1 d0 Q (U / d1) (U % d1) ∧ U / d1 ≤ 4294967297) (hU : U < 18446744073709551616) {x : Int} (hx : x = (U : Int)) :
   Dv1 U d1 d0 Q (Value.int .u64 (IntKind.u64.wrap (x / (d1 : Int)))) (Value.int .u64 (IntKind.u64.wrap (x - IntKind.u64.wrap (IntKind.u64.wrap (x / (d1 : Int)) * (d1 : Int))))) := by
 have e : IntKind.u64.wrap (x / (d1 : Int)) = x / (d1 : Int) := by
   subst hx
   have e1 : (U : Int) / (d1 : Int) = ((U / d1 : Nat) : Int) := by simp
   have e2 : U / d1 ≤ U := Nat.div_le_self _ _
   rw [e1]
   generalize U / d1 = a at *
   rw [IntKind.wrap_u64]
   omega
 rw [e]
 exact dv_at h hU hx
theorem dv_end {a b a' b' : Int} (ha : a = a') (hb : b = b') : Ending.returned (.tuple #[.int .u64 a, .int .u64 b]) = .returned (.tuple #[.int .u64 a', .int .u64 b']) := by rw [ha, hb]
theorem dv_sub {A B R : Nat} (h : A = B + R) (hR : R < 18446744073709551616) {x y : Int} (hx : x = (A : Int)) (hy : y = (B : Int)) :
   IntKind.u64.wrap (IntKind.u64.wrap (IntKind.u64.wrap x) - IntKind.u64.wrap y) = (R : Int) := by
 subst hx hy
 simp only [IntKind.wrap_u64]
 omega
theorem div64_long (hi y : Nat) (h1 : 4503599627370496 ≤ y) (h2 : y < 9007199254740992) (hh : hi < y) (h0 : 0 < hi) (d1 d0 Q R T : Nat) (HB : Hid (0 < d1 ∧ d1 < 4294967296 ∧ d0 < 4294967296)) (F1 : (y : Int) * 2048 / 4294967296 = (d1 : Int)) (F2 : bits .and .u64 ((y : Int) * 2048) 4294967295 = (d0 : Int))
   (F3 : bits .or .u64 ((hi : Int) * 2048) 0 = (hi : Int) * 2048) (F4 : bits .and .u64 0 4294967295 = 0) (HS : Hid (DvR (hi * 2048) d1 d0 Q (hi * 2048 / d1) (hi * 2048 % d1) ∧ hi * 2048 / d1 ≤ 4294967297)) (HX : Hid (Q * (d1 * 4294967296 + d0) ≤ hi * 2048 * 4294967296 ∧ Q < 4294967296 ∧ hi * 2048 * 4294967296 < (Q + 1) * (d1 * 4294967296 + d0)))
   (HT : Hid (DvR R d1 d0 T (R / d1) (R % d1) ∧ R / d1 ≤ 4294967297)) (HY : Hid (T * (d1 * 4294967296 + d0) ≤ R * 4294967296 ∧ T < 4294967296 ∧ R * 4294967296 < (T + 1) * (d1 * 4294967296 + d0)))
   (HR : Hid (hi * 2048 * 4294967296 = Q * (y * 2048) + R ∧ R < 18446744073709551616)) (Z : Nat) (HZ : Hid (R * 4294967296 = T * (y * 2048) + Z ∧ Z < 18446744073709551616 ∧ hi * 18446744073709551616 / y = Q * 4294967296 + T ∧ hi * 18446744073709551616 % y = Z / 2048)) (w : World) :
   Calls Try.prog 141 #[.int .u64 (hi : Int), .int .u64 0, .int .u64 (y : Int)] w fun r w' => r = .returned (.tuple #[.int .u64 ((hi * 18446744073709551616 / y : Nat) : Int), .int .u64 ((hi * 18446744073709551616 % y : Nat) : Int)]) ∧ ∃ k, w' = w.drewN k := by
 have HL := Lib.hid (fun w => lz_any y h1 h2 w)
 go_enter Try.func141, Try.ntmps141
 go_wp2_with fail
 refine (HL.out _).mono ?_
 rintro r w' ⟨rfl, rfl⟩
 go_upto_block 0 with fail
 go_cut [15] (fun c wc => c = .int .u64 (Q : Int) ∧ wc = w)
 case first =>
   go_wp2_with fail
   go_loop [15, 16] (fun c r => Dv1 (hi * 2048) d1 d0 Q c r) (fun _ r => 4294967296 - (intOf r).toNat)
   case atStart =>
     exact dv_at HS.out (by omega) (by omega)
   case round =>
     obtain ⟨q, s, rfl, rfl, hd, hq⟩ := hrel
     have HDv := Lib.hid hd
     have hs : (s : Int) < 4294967296 := by have := hd.hr; omega
     have hq' : (q : Int) ≤ 4294967297 := by omega
     have hsd : (s : Int) + (d1 : Int) < 8589934592 := by have := HB.out.2.1; omega
     have hqd : (q : Int) * (d0 : Int) < 18446744073709551616 := by
       have h1 : q * d0 ≤ 4294967297 * 4294967295 := Nat.mul_le_mul hq (by have := HB.out.2.2; omega)
       have h2 : (q : Int) * (d0 : Int) = ((q * d0 : Nat) : Int) := (Int.natCast_mul q d0).symm
       omega
     have hqd0 : (0 : Int) ≤ (q : Int) * (d0 : Int) := Int.mul_nonneg (Int.natCast_nonneg _) (Int.natCast_nonneg _)
     have HQ := Lib.hid hq
     clear hd hq
     by_cases c1 : (4294967296 : Int) ≤ (q : Int)
     · have HM := Lib.hid (dv_more HDv.out HB.out.1 HX.out.1 HX.out.2.1 (.inl (by omega)))
       have hq1 : (1 : Int) ≤ (q : Int) := by omega
       by_cases c3 : (4294967296 : Int) ≤ (s : Int) + (d1 : Int)
       · go_wp2_with fail
         go_meet
         exact ⟨dv_out HDv.out HB.out HM.out HQ.out HX.out.2.2 (by omega) rfl, rfl⟩
       · go_wp2_with fail
         exact dv_next HDv.out HB.out HM.out HQ.out c3 rfl
     · by_cases c2 : (4294967296 : Int) * (s : Int) < (q : Int) * (d0 : Int)
       · have HM := Lib.hid (dv_more HDv.out HB.out.1 HX.out.1 HX.out.2.1 (.inr (by have h2 : (q : Int) * (d0 : Int) = ((q * d0 : Nat) : Int) := (Int.natCast_mul q d0).symm; omega)))
         have hq1 : (1 : Int) ≤ (q : Int) := by have := HM.out.2.1; omega
         by_cases c3 : (4294967296 : Int) ≤ (s : Int) + (d1 : Int)
         · go_wp2_with fail
           go_meet
           exact ⟨dv_out HDv.out HB.out HM.out HQ.out HX.out.2.2 (by omega) rfl, rfl⟩
         · go_wp2_with fail
           exact dv_next HDv.out HB.out HM.out HQ.out c3 rfl
       · go_wp2_with fail
         go_meet
         refine ⟨?_, rfl⟩
         have := dv_last HDv.out.hq HDv.out.hu HX.out.2.2 (by have h2 : (q : Int) * (d0 : Int) = ((q * d0 : Nat) : Int) := (Int.natCast_mul q d0).symm; omega)
         rw [this]
 case rest => 
   obtain ⟨rfl, rfl⟩ := hcut
   go_upto_region 21 with fail
   go_cut [17] (fun c wd => c = .int .u64 (R : Int) ∧ wd = wc)
   case first =>
     go_wp2_with fail
     go_meet
     refine ⟨congrArg _ ?_, rfl⟩
     exact dv_sub HR.out.1 HR.out.2 (by omega) (by rw [Int.natCast_mul, Int.natCast_mul]; rfl)
   case rest => 
     obtain ⟨rfl, rfl⟩ := hcut
     go_upto_block 2 with fail
     go_cut [18] (fun c wd => c = .int .u64 (T : Int) ∧ wd = wc)
     case first =>
       go_wp2_with fail
       go_loop [18, 16] (fun c r => Dv1 R d1 d0 T c r) (fun _ r => 4294967296 - (intOf r).toNat)
       case atStart =>
         exact dv_at2 HT.out HR.out.2 rfl
       case round =>
         obtain ⟨q, s, rfl, rfl, hd, hq⟩ := hrel
         have HDv := Lib.hid hd
         have hs : (s : Int) < 4294967296 := by have := hd.hr; omega
         have hq' : (q : Int) ≤ 4294967297 := by omega
         have hsd : (s : Int) + (d1 : Int) < 8589934592 := by have := HB.out.2.1; omega
         have hqd : (q : Int) * (d0 : Int) < 18446744073709551616 := by
           have h1 : q * d0 ≤ 4294967297 * 4294967295 := Nat.mul_le_mul hq (by have := HB.out.2.2; omega)
           have h2 : (q : Int) * (d0 : Int) = ((q * d0 : Nat) : Int) := (Int.natCast_mul q d0).symm
           omega
         have hqd0 : (0 : Int) ≤ (q : Int) * (d0 : Int) := Int.mul_nonneg (Int.natCast_nonneg _) (Int.natCast_nonneg _)
         have HQ := Lib.hid hq
         clear hd hq
         by_cases c1 : (4294967296 : Int) ≤ (q : Int)
         · have HM := Lib.hid (dv_more HDv.out HB.out.1 HY.out.1 HY.out.2.1 (.inl (by omega)))
           have hq1 : (1 : Int) ≤ (q : Int) := by omega
           by_cases c3 : (4294967296 : Int) ≤ (s : Int) + (d1 : Int)
           · go_wp2_with fail
             go_meet
             exact ⟨dv_out HDv.out HB.out HM.out HQ.out HY.out.2.2 (by omega) rfl, rfl⟩
           · go_wp2_with fail
             exact dv_next HDv.out HB.out HM.out HQ.out c3 rfl
         · by_cases c2 : (4294967296 : Int) * (s : Int) < (q : Int) * (d0 : Int)
           · have HM := Lib.hid (dv_more HDv.out HB.out.1 HY.out.1 HY.out.2.1 (.inr (by have h2 : (q : Int) * (d0 : Int) = ((q * d0 : Nat) : Int) := (Int.natCast_mul q d0).symm; omega)))
             have hq1 : (1 : Int) ≤ (q : Int) := by have := HM.out.2.1; omega
             by_cases c3 : (4294967296 : Int) ≤ (s : Int) + (d1 : Int)
             · go_wp2_with fail
               go_meet
               exact ⟨dv_out HDv.out HB.out HM.out HQ.out HY.out.2.2 (by omega) rfl, rfl⟩
             · go_wp2_with fail
               exact dv_next HDv.out HB.out HM.out HQ.out c3 rfl
           · go_wp2_with fail
             go_meet
             refine ⟨?_, rfl⟩
             have := dv_last HDv.out.hq HDv.out.hu HY.out.2.2 (by have h2 : (q : Int) * (d0 : Int) = ((q * d0 : Nat) : Int) := (Int.natCast_mul q d0).symm; omega)
             rw [this]
     case rest => 
       obtain ⟨rfl, rfl⟩ := hcut
       go_wp2_with fail
       go_ret2
       refine ⟨?_, 0, rfl⟩
       obtain ⟨z1, z2, z3, z4⟩ := HZ.out
       have hT := HY.out.2.1
       have hQ := HX.out.2.1
       refine dv_end (a := IntKind.u64.wrap (IntKind.u64.wrap ((Q : Int) * 4294967296) + (T : Int))) (b := IntKind.u64.wrap (IntKind.u64.wrap (IntKind.u64.wrap ((R : Int) * 4294967296)) - IntKind.u64.wrap ((T : Int) * ((y : Int) * 2048))) / 2048) ?_ ?_
       · rw [z3]
         simp only [IntKind.wrap_u64]
         omega
       · rw [dv_sub z1 z2 (by omega) (by rw [Int.natCast_mul, Int.natCast_mul]; rfl), z4]
         omega
theorem dv_key {hi a b R Z : Nat} (q1 : 2048 * a + R = hi * 2048 * 4294967296) (r1 : 2048 * b + Z = R * 4294967296) : hi * 18446744073709551616 = a * 4294967296 + b + Z / 2048 := by
 omega
theorem dv_split {hi y d1 d0 : Nat} (h1 : 4503599627370496 ≤ y) (h2 : y < 9007199254740992) (hh : hi < y) (hd1 : y * 2048 / 4294967296 = d1) (hd0 : y * 2048 % 4294967296 = d0) :
   ∃ Q R T Z, (DvR (hi * 2048) d1 d0 Q (hi * 2048 / d1) (hi * 2048 % d1) ∧ hi * 2048 / d1 ≤ 4294967297) ∧ (Q * (d1 * 4294967296 + d0) ≤ hi * 2048 * 4294967296 ∧ Q < 4294967296 ∧ hi * 2048 * 4294967296 < (Q + 1) * (d1 * 4294967296 + d0)) ∧
     (DvR R d1 d0 T (R / d1) (R % d1) ∧ R / d1 ≤ 4294967297) ∧ (T * (d1 * 4294967296 + d0) ≤ R * 4294967296 ∧ T < 4294967296 ∧ R * 4294967296 < (T + 1) * (d1 * 4294967296 + d0)) ∧
     (hi * 2048 * 4294967296 = Q * (y * 2048) + R ∧ R < 18446744073709551616) ∧ (R * 4294967296 = T * (y * 2048) + Z ∧ Z < 18446744073709551616 ∧ hi * 18446744073709551616 / y = Q * 4294967296 + T ∧ hi * 18446744073709551616 % y = Z / 2048) := by
 have hD : d1 * 4294967296 + d0 = y * 2048 := by omega
 have hd1a : 2147483648 ≤ d1 := by omega
 have hd1b : d1 < 4294967296 := by omega
 have hd0b : d0 < 4294967296 := by omega
 have hyp : 0 < y * 2048 := by omega
 obtain ⟨a1, a2, a3, a4, a5⟩ := dv_start (U := hi * 2048) hd1a hd1b hd0b (by rw [hD]; omega)
 rw [hD] at a1 a3 a4 a5
 have q1 := Nat.div_add_mod (hi * 2048 * 4294967296) (y * 2048)
 have q2 := Nat.mod_lt (hi * 2048 * 4294967296) hyp
 rw [Nat.mul_comm] at q1
 obtain ⟨Q, hQ⟩ : ∃ Q, hi * 2048 * 4294967296 / (y * 2048) = Q := ⟨_, rfl⟩
 obtain ⟨R, hR⟩ : ∃ R, hi * 2048 * 4294967296 % (y * 2048) = R := ⟨_, rfl⟩
 rw [hQ, hR] at q1
 rw [hR] at q2
 rw [hQ] at a1 a3 a4 a5
 obtain ⟨b1, b2, b3, b4, b5⟩ := dv_start (U := R) hd1a hd1b hd0b (by rw [hD]; omega)
 rw [hD] at b1 b3 b4 b5
 have r1 := Nat.div_add_mod (R * 4294967296) (y * 2048)
 have r2 := Nat.mod_lt (R * 4294967296) hyp
 rw [Nat.mul_comm] at r1
 obtain ⟨T, hT⟩ : ∃ T, R * 4294967296 / (y * 2048) = T := ⟨_, rfl⟩
 obtain ⟨Z, hZ⟩ : ∃ Z, R * 4294967296 % (y * 2048) = Z := ⟨_, rfl⟩
 rw [hT, hZ] at r1
 rw [hZ] at r2
 rw [hT] at b1 b3 b4 b5
 refine ⟨Q, R, T, Z, ⟨a1, a2⟩, ⟨by rw [hD]; exact a4, a3, by rw [hD]; exact a5⟩, ⟨b1, b2⟩, ⟨by rw [hD]; exact b4, b3, by rw [hD]; exact b5⟩, ⟨q1.symm, by omega⟩, r1.symm, by omega, ?_⟩
 have key : hi * 18446744073709551616 = y * (Q * 4294967296 + T) + Z / 2048 := by
   have e1 : Q * (y * 2048) = 2048 * (y * Q) := by rw [← Nat.mul_assoc, Nat.mul_comm (Q * y), Nat.mul_comm Q y]
   have e2 : T * (y * 2048) = 2048 * (y * T) := by rw [← Nat.mul_assoc, Nat.mul_comm (T * y), Nat.mul_comm T y]
   rw [Nat.mul_add, ← Nat.mul_assoc]
   rw [e1] at q1
   rw [e2] at r1
   exact dv_key q1 r1
 have hlt : Z / 2048 < y := by omega
 rw [key]
 exact ⟨by rw [Nat.mul_add_div (by omega), Nat.div_eq_of_lt hlt, Nat.add_zero], by rw [Nat.mul_add_mod, Nat.mod_eq_of_lt hlt]⟩
theorem div64_any (hi y : Nat) (h1 : 4503599627370496 ≤ y) (h2 : y < 9007199254740992) (hh : hi < y) (w : World) :
   Calls Try.prog 141 #[.int .u64 (hi : Int), .int .u64 0, .int .u64 (y : Int)] w fun r w' => r = .returned (.tuple #[.int .u64 ((hi * 18446744073709551616 / y : Nat) : Int), .int .u64 ((hi * 18446744073709551616 % y : Nat) : Int)]) ∧ ∃ k, w' = w.drewN k := by
 by_cases h0 : hi = 0
 · subst h0
   have := div64_small 0 y (by omega) (by omega) (by omega) w
   rw [Nat.zero_mul]
   exact this
 · obtain ⟨Q, R, T, Z, a, b, c, d, e, f⟩ := dv_split (hi := hi) h1 h2 hh rfl rfl
   refine div64_long hi y h1 h2 hh (by omega) _ _ Q R T (Lib.hid ⟨by omega, by omega, by omega⟩) ?_ ?_ ?_ (by decide) (Lib.hid a) (Lib.hid b) (Lib.hid c) (Lib.hid d) (Lib.hid e) Z (Lib.hid f) w
   · omega
   · have := maskN (y * 2048) (by omega)
     rw [Int.natCast_mul] at this
     exact this
   · have := bits_or_u64_nat (hi * 2048) 0 (by omega) (by omega)
     rw [Nat.or_zero, Int.natCast_mul] at this
     exact this
end Go.Proofs.Ytnljfcebmgifdaa
namespace Go.Proofs.Ytnljfcebmgifdaa
open Go.RowKit Ieee
end Go.Proofs.Ytnljfcebmgifdaa
set_option linter.unusedVariables false
set_option linter.unusedSimpArgs false
namespace Go.Proofs.Ytnljfcebmgifdaa
open Go.RowKit Ieee
theorem div_walk (a b : Nat) (down : Bool) (na nb : Bool) (A B : Nat) (ea eb : Int) (hEb : (FloatKind.f64.format.order b 0 == some .eq) = false)
   (hHT : ∀ w, Calls Try.prog 137 #[.float .f64 a, .float .f64 b] w fun e w' => e = .returned (.bool true) ∧ w = w')
   (hHA : ∀ w, Calls Try.prog 132 #[.float .f64 a] w fun r w' => r = .returned (exv na 0 A ea false) ∧ ∃ o, w' = w.alloc o)
   (hHB : ∀ w, Calls Try.prog 132 #[.float .f64 b] w fun r w' => r = .returned (exv nb 0 B eb false) ∧ ∃ o, w' = w.alloc o)
   (La Lb : Nat) (hLa : La ≤ 53) (hLb : Lb ≤ 53)
   (hHLa : ∀ w, Calls Try.prog 134 #[exv na 0 A ea false] w fun r w' => r = .returned (.int .i64 (La : Int)) ∧ ∃ o, w' = w.alloc o)
   (hHLb : ∀ w, Calls Try.prog 134 #[exv nb 0 B eb false] w fun r w' => r = .returned (.int .i64 (Lb : Int)) ∧ ∃ o, w' = w.alloc o)
   (X1 X0 Y1 Y0 : Nat) (ex ey : Int)
   (hHLX : ∀ w, Calls Try.prog 133 #[exv na 0 A ea false, .int .i64 (IntKind.i64.wrap (117 - (La : Int)))] w fun r w' => r = .returned (exv na X1 X0 ex false) ∧ ∃ k o o', w' = ((w.alloc o).alloc o').drewN k)
   (hHLY : ∀ w, Calls Try.prog 133 #[exv nb 0 B eb false, .int .i64 (IntKind.i64.wrap (53 - (Lb : Int)))] w fun r w' => r = .returned (exv nb Y1 Y0 ey false) ∧ ∃ k o o', w' = ((w.alloc o).alloc o').drewN k)
   (hex : -5000 ≤ ex) (hex2 : ex ≤ 5000) (hey : -5000 ≤ ey) (hey2 : ey ≤ 5000) (q1 r1 q2 r2 : Nat)
   (hHD1 : ∀ w, Calls Try.prog 141 #[.int .u64 0, .int .u64 (X1 : Int), .int .u64 (Y0 : Int)] w fun r w' => r = .returned (.tuple #[.int .u64 (q1 : Int), .int .u64 (r1 : Int)]) ∧ ∃ k, w' = w.drewN k)
   (hHD2 : ∀ w, Calls Try.prog 141 #[.int .u64 (r1 : Int), .int .u64 (X0 : Int), .int .u64 (Y0 : Int)] w fun r w' => r = .returned (.tuple #[.int .u64 (q2 : Int), .int .u64 (r2 : Int)]) ∧ ∃ k, w' = w.drewN k)
   (v : Nat) (hHO : ∀ w, Calls Try.prog 136 #[exv (na != nb) q1 q2 (ex - ey) ((r2 : Int) != 0), .bool down] w fun r w' => r = .returned (.float .f64 v) ∧ Below w.heap.size w w') (w : World) :
   Calls Try.prog 111 #[.float .f64 a, .float .f64 b, .bool down] w fun r w' => r = .returned (numV v 0) ∧ Below w.heap.size w w' := by
 have HT := Lib.hid hHT; clear hHT
 have HA := Lib.hid hHA; clear hHA
 have HB := Lib.hid hHB; clear hHB
 have HLa := Lib.hid hHLa; clear hHLa
 have HLb := Lib.hid hHLb; clear hHLb
 have HLX := Lib.hid hHLX; clear hHLX
 have HLY := Lib.hid hHLY; clear hHLY
 have HD1 := Lib.hid hHD1; clear hHD1
 have HD2 := Lib.hid hHD2; clear hHD2
 have HO := Lib.hid hHO; clear hHO
 go_enter Try.func111, Try.ntmps111
 go_wp2_with fail
 refine (HT.out _).mono ?_
 rintro e w' ⟨rfl, rfl⟩
 go_wp2_with fail
 refine (HA.out _).mono ?_
 rintro e w' ⟨rfl, o1, rfl⟩
 go_wp2_with fail
 refine (HB.out _).mono ?_
 rintro e w' ⟨rfl, o2, rfl⟩
 go_wp2_with fail
 go_cut [] (fun wc => ∃ p1 p2 p3 k, wc = (((((((w.alloc o1).alloc o2).alloc (exo na X1 X0 ex false)).alloc (exo nb 0 B eb false)).alloc p1).alloc p2).alloc p3).drewN k)
 case first =>
   go_region_with (first
     | (go_at_call 134; refine (HLa.out _).mono ?_; rintro r w' ⟨rfl, o, rfl⟩)
     | (go_at_call 133; refine (HLX.out _).mono ?_; rintro r w' ⟨rfl, k, o, o', rfl⟩))
   all_goals (go_wp2_with fail; go_meet; exact ⟨_, _, _, _, rfl⟩)
 case rest =>
   obtain ⟨p1, p2, p3, k1, rfl⟩ := hcut
   go_wp2_with fail
   go_cut [] (fun wc => ∃ p1 p2 p3 p4 p5 p6 k, wc = ((((((((((w.alloc o1).alloc o2).alloc (exo na X1 X0 ex false)).alloc (exo nb Y1 Y0 ey false)).alloc p1).alloc p2).alloc p3).alloc p4).alloc p5).alloc p6).drewN k)
   case first =>
     go_region_with (first
       | (go_at_call 134; refine (HLb.out _).mono ?_; rintro r w' ⟨rfl, o, rfl⟩)
       | (go_at_call 133; refine (HLY.out _).mono ?_; rintro r w' ⟨rfl, k, o, o', rfl⟩))
     all_goals (go_wp2_with fail; go_meet; exact ⟨_, _, _, _, _, _, _, rfl⟩)
   case rest =>
     obtain ⟨p1, p2, p3, p4, p5, p6, k2, rfl⟩ := hcut
     go_wp2_with fail
     refine (HD1.out _).mono ?_
     rintro r w' ⟨rfl, k3, rfl⟩
     go_wp2_with fail
     refine (HD2.out _).mono ?_
     rintro r w' ⟨rfl, k4, rfl⟩
     go_wp2_with fail
     refine (HO.out _).mono ?_
     rintro r w' ⟨rfl, hb⟩
     have HBe := Lib.hid hb
     clear hb
     go_wp2_with fail
     go_ret2
     exact ⟨rfl, (below_drewN (below_more (below_more (below_more (below_more (below_more (below_more (below_more (below_more (below_more (below_more (below_new _ _) _) _) _) _) _) _) _) _) _) _) _).trans (HBe.out.mono (by simp; omega))⟩
end Go.Proofs.Ytnljfcebmgifdaa
set_option linter.unusedVariables false
set_option linter.unusedSimpArgs false
namespace Go.Proofs.Ytnljfcebmgifdaa
theorem div_ok (a b : Nat) (fa : Fl.fin a = true) (fb : Fl.fin b = true) (hb : Fl.sM b ≠ 0) : RoundOk (divW a b) (divE a b) (divM a b) := by
 have h1 := qX_lt a
 have h2 := qX_ge b hb
 have e1 := qE_ge a
 have e2 := qE_le a fa
 have e3 := qE_ge b
 have e4 := qE_le b fb
 by_cases ha : Fl.sM a = 0
 · have hx := qX_zero a ha
   have e5 : qE a = -1127 := by
     unfold qE
     have := (Fl.sM_zero a).1 ha
     unfold Fl.sE
     rw [ha, Fl.len_zero, if_pos (by omega)]; rfl
   unfold divW divE divM
   rw [hx, Nat.zero_mul, Nat.zero_div, Nat.zero_mod]
   exact ⟨by omega, fun _ => rfl, (fun h => by cases h), by omega, .inl (by omega)⟩
 · have h3 := div_big a b ha hb
   have hd : 0 ≤ Fl.drop (divW a b) (divE a b + 1074) := by unfold Fl.drop; omega
   have hlt : divW a b < 340282366920938463463374607431768211456 := by
     unfold divW
     refine Nat.lt_of_le_of_lt (Nat.div_le_self _ _) ?_
     omega
   refine ⟨hlt, ?_, fun _ => hd, by unfold divE; omega, .inr ⟨hd, by unfold divE; omega⟩⟩
   intro h0
   rw [h0, Fl.len_zero] at h3
   omega
end Go.Proofs.Ytnljfcebmgifdaa
set_option linter.unusedVariables false
set_option linter.unusedSimpArgs false
namespace Go.Proofs.Ytnljfcebmgifdaa
open Go.RowKit Ieee
theorem length_s (neg : Bool) (A : Nat) (e : Int) (h : A < 18446744073709551616) (w : World) : Calls Try.prog 134 #[exv neg 0 A e false] w fun r w' => r = .returned (.int .i64 (Fl.len A : Int)) ∧ ∃ o, w' = w.alloc o := by
 have := length_any neg 0 A e false (by omega) h w
 rw [Nat.zero_mul, Nat.zero_add] at this
 exact this
theorem left_s (neg : Bool) (A n m : Nat) (e : Int) (x : Int) (hx : x = (n : Int)) (hA : A < 18446744073709551616) (hm : m = A * 2 ^ n) (hW : m < 340282366920938463463374607431768211456) (hn : n ≤ 128) (he : -100000 ≤ e) (he2 : e ≤ 100000) (w : World) :
   Calls Try.prog 133 #[exv neg 0 A e false, .int .i64 x] w fun r w' => r = .returned (exW neg m (e - n) false) ∧ ∃ k o o', w' = ((w.alloc o).alloc o').drewN k := by
 subst hx hm
 have := left_any neg A e false n hW hn he he2 w
 rw [exW_small neg A e false hA] at this
 exact this
theorem words_join {x y W : Nat} (h : W = x * 18446744073709551616 + y) (hy : y < 18446744073709551616) : W / 18446744073709551616 = x ∧ W % 18446744073709551616 = y := by omega
theorem div_good (a b : Nat) (down : Bool) (ha : a < 18446744073709551616) (hb : b < 18446744073709551616) (fa : Fl.fin a = true) (fb : Fl.fin b = true) (hb0 : Fl.mg b ≠ 0) (w : World) :
   Calls Try.prog 111 #[.float .f64 a, .float .f64 b, .bool down] w fun r w' => r = .returned (numV (divV a b down) 0) ∧ Below w.heap.size w w' := by
 have hEb := eq0_of b hb fb
 rw [decide_eq_false hb0] at hEb
 have hsb : Fl.sM b ≠ 0 := fun h => hb0 ((Fl.sM_zero b).1 h)
 have a1 := Fl.sM_lt a
 have b1 := Fl.sM_lt b
 have la := len53 a1
 have lb := len53 b1
 have ea1 := Fl.sE_ge a
 have ea2 := Fl.sE_le a fa
 have eb1 := Fl.sE_ge b
 have eb2 := Fl.sE_le b fb
 have x1 := qX_lt a
 have n1 := qX_lt b
 have n2 := qX_ge b hsb
 have hT : ∀ w, Calls Try.prog 137 #[.float .f64 a, .float .f64 b] w fun e w' => e = .returned (.bool true) ∧ w = w' := by
   intro w
   have := two_any a b ha hb w
   rw [fa, fb] at this
   exact this
 have hX : qX a * 18446744073709551616 = Fl.sM a * 2 ^ (117 - Fl.len (Fl.sM a)) := by
   unfold qX
   rw [show (18446744073709551616 : Nat) = 2 ^ 64 by decide, Nat.mul_assoc, ← Nat.pow_add, show 53 - Fl.len (Fl.sM a) + 64 = 117 - Fl.len (Fl.sM a) by omega]
 have hLX : ∀ w, Calls Try.prog 133 #[exv (Fl.sg a) 0 (Fl.sM a) (Fl.sE a) false, .int .i64 (IntKind.i64.wrap (117 - (Fl.len (Fl.sM a) : Int)))] w fun r w' => r = .returned (exv (Fl.sg a) (qX a) 0 (qE a - 64) false) ∧ ∃ k o o', w' = ((w.alloc o).alloc o').drewN k := by
   intro w
   have := left_s (Fl.sg a) (Fl.sM a) (117 - Fl.len (Fl.sM a)) (qX a * 18446744073709551616) (Fl.sE a) _ (wrap_sub 117 (Fl.len (Fl.sM a)) la (by omega) (by omega)) (by omega) hX (by omega) (by omega) (by omega) (by omega) w
   have e1 : exW (Fl.sg a) (qX a * 18446744073709551616) (Fl.sE a - ((117 - Fl.len (Fl.sM a) : Nat) : Int)) false = exv (Fl.sg a) (qX a) 0 (qE a - 64) false := by
     unfold exW
     rw [Nat.mul_div_cancel _ (by omega), Nat.mul_mod_left, show Fl.sE a - ((117 - Fl.len (Fl.sM a) : Nat) : Int) = qE a - 64 by unfold qE; omega]
   rw [e1] at this
   exact this
 have hLY : ∀ w, Calls Try.prog 133 #[exv (Fl.sg b) 0 (Fl.sM b) (Fl.sE b) false, .int .i64 (IntKind.i64.wrap (53 - (Fl.len (Fl.sM b) : Int)))] w fun r w' => r = .returned (exv (Fl.sg b) 0 (qX b) (qE b) false) ∧ ∃ k o o', w' = ((w.alloc o).alloc o').drewN k := by
   intro w
   have := left_s (Fl.sg b) (Fl.sM b) (53 - Fl.len (Fl.sM b)) (qX b) (Fl.sE b) _ (wrap_sub 53 (Fl.len (Fl.sM b)) lb (by omega) (by omega)) (by omega) rfl (by omega) (by omega) (by omega) (by omega) w
   rw [exW_small _ (qX b) _ _ (by omega)] at this
   exact this
 have hq1 : qX a / qX b < 18446744073709551616 := Nat.lt_of_le_of_lt (Nat.div_le_self _ _) (by omega)
 have hr1 : qX a % qX b < qX b := Nat.mod_lt _ (by omega)
 have hD1 := fun w => div64_small (qX a) (qX b) (by omega) (by omega) (by omega) w
 have hD2 := fun w => div64_any (qX a % qX b) (qX b) n2 n1 hr1 w
 have hW : divW a b = qX a / qX b * 18446744073709551616 + qX a % qX b * 18446744073709551616 / qX b ∧ qX a * 18446744073709551616 % qX b = qX a % qX b * 18446744073709551616 % qX b ∧ qX a % qX b * 18446744073709551616 / qX b < 18446744073709551616 := by
   have e1 := Nat.div_add_mod (qX a) (qX b)
   have e2 : qX a * 18446744073709551616 = qX b * (qX a / qX b * 18446744073709551616) + qX a % qX b * 18446744073709551616 := by
     rw [← Nat.mul_assoc, ← Nat.add_mul, e1]
   unfold divW
   refine ⟨?_, ?_, ?_⟩
   · rw [e2, Nat.mul_add_div (by omega)]
   · rw [e2, Nat.mul_add_mod]
   · rw [Nat.div_lt_iff_lt_mul (by omega), Nat.mul_comm 18446744073709551616]
     exact Nat.mul_lt_mul_of_pos_right hr1 (by omega)
 have hO : ∀ w, Calls Try.prog 136 #[exv (Fl.sg a != Fl.sg b) (qX a / qX b) (qX a % qX b * 18446744073709551616 / qX b) (qE a - 64 - qE b) (((qX a % qX b * 18446744073709551616 % qX b : Nat) : Int) != 0), .bool down] w fun r w' => r = .returned (.float .f64 (divV a b down)) ∧ Below w.heap.size w w' := by
   intro w
   have := to_ok (Fl.sg a != Fl.sg b) down _ _ _ (div_ok a b fa fb hsb) w
   have e1 : exW (Fl.sg a != Fl.sg b) (divW a b) (divE a b) (divM a b) = exv (Fl.sg a != Fl.sg b) (qX a / qX b) (qX a % qX b * 18446744073709551616 / qX b) (qE a - 64 - qE b) (((qX a % qX b * 18446744073709551616 % qX b : Nat) : Int) != 0) := by
     obtain ⟨j1, j2⟩ := words_join hW.1 hW.2.2
     unfold exW divM divE
     rw [hW.2.1, bne_zero, j1, j2]
   rw [e1] at this
   exact this
 have e1 := qE_ge a
 have e2 := qE_le a fa
 have e3 := qE_ge b
 have e4 := qE_le b fb
 exact div_walk a b down (Fl.sg a) (Fl.sg b) (Fl.sM a) (Fl.sM b) (Fl.sE a) (Fl.sE b) hEb hT (split_any a ha) (split_any b hb) _ _ la lb (length_s _ _ _ (by omega)) (length_s _ _ _ (by omega)) _ _ _ _ _ _ hLX hLY (by omega) (by omega) (by omega) (by omega) _ _ _ _ hD1 hD2 _ hO w
end Go.Proofs.Ytnljfcebmgifdaa
namespace Go.Proofs.Ytnljfcebmgifdaa
open Go.RowKit Ieee
end Go.Proofs.Ytnljfcebmgifdaa
namespace Go.Proofs.Ytnljfcebmgifdaa
open Go.RowKit Ieee
theorem div_bad (a b : Nat) (down : Bool) (ha : a < 18446744073709551616) (hb : b < 18446744073709551616) (hf : (Fl.fin a && Fl.fin b) = false) (w : World) :
   Calls Try.prog 111 #[.float .f64 a, .float .f64 b, .bool down] w fun r w' => r = .returned (numV 0 10) ∧ Below w.heap.size w w' := by
 have HT := Lib.hid (fun w => two_any a b ha hb w)
 rw [hf] at HT
 clear hf
 go_enter Try.func111, Try.ntmps111
 go_wp2_with fail
 refine (HT.out _).mono ?_
 rintro e w' ⟨rfl, rfl⟩
 go_wp2_with fail
 go_ret2
 exact ⟨rfl, Below.refl _ _⟩
theorem div_by0 (a b : Nat) (down : Bool) (ha : a < 18446744073709551616) (hb : b < 18446744073709551616) (hf : (Fl.fin a && Fl.fin b) = true) (h0 : Fl.mg b = 0) (w : World) :
   Calls Try.prog 111 #[.float .f64 a, .float .f64 b, .bool down] w fun r w' => r = .returned (numV 0 11) ∧ Below w.heap.size w w' := by
 have HT := Lib.hid (fun w => two_any a b ha hb w)
 rw [hf] at HT
 have fb : Fl.fin b = true := by revert hf; cases Fl.fin b <;> simp
 have E := eq0_of b hb fb
 rw [decide_eq_true h0] at E
 clear hf fb h0
 go_enter Try.func111, Try.ntmps111
 go_wp2_with fail
 refine (HT.out _).mono ?_
 rintro e w' ⟨rfl, rfl⟩
 go_wp2_with fail
 go_ret2
 exact ⟨rfl, Below.refl _ _⟩
theorem div_any (a b : Nat) (down : Bool) (ha : a < 18446744073709551616) (hb : b < 18446744073709551616) (w : World) :
   Calls Try.prog 111 #[.float .f64 a, .float .f64 b, .bool down] w fun r w' => r = .returned (pV (divR a b down)) ∧ Below w.heap.size w w' := by
 unfold divR pV
 by_cases hf : (Fl.fin a && Fl.fin b) = true
 · rw [if_pos hf]
   have h2 : Fl.fin a = true ∧ Fl.fin b = true := by revert hf; cases Fl.fin a <;> cases Fl.fin b <;> simp
   by_cases h0 : Fl.mg b = 0
   · rw [if_pos h0]; exact div_by0 a b down ha hb hf h0 w
   · rw [if_neg h0]; exact div_good a b down ha hb h2.1 h2.2 h0 w
 · rw [if_neg hf]; exact div_bad a b down ha hb (by revert hf; cases (Fl.fin a && Fl.fin b) <;> simp) w
section
variable (F : FuncId)
end
end Go.Proofs.Ytnljfcebmgifdaa
namespace Go.Proofs.Ytnljfcebmgifdaa
open Go.RowKit Ieee
end Go.Proofs.Ytnljfcebmgifdaa
set_option linter.unusedVariables false
set_option linter.unusedSimpArgs false
namespace Go.Proofs.Ytnljfcebmgifdaa
open Go.RowKit Fl
end Go.Proofs.Ytnljfcebmgifdaa
namespace Go.Proofs.Ytnljfcebmgifdaa
open Go.RowKit Fl
theorem gd_lit {a : Nat} (h : (decide (a < 18446744073709551616) && !nan a && decide (a ≠ SGN)) = true) : Gd a := by
 simp only [Bool.and_eq_true, decide_eq_true_eq, Bool.not_eq_true'] at h
 exact ⟨h.1.1, h.1.2, h.2⟩
end Go.Proofs.Ytnljfcebmgifdaa
namespace Go.Proofs.Ytnljfcebmgifdaa
open Go.RowKit Fl
end Go.Proofs.Ytnljfcebmgifdaa
namespace Go.Proofs.Ytnljfcebmgifdaa
open Go.RowKit Fl
end Go.Proofs.Ytnljfcebmgifdaa
namespace Go.Proofs.Ytnljfcebmgifdaa
open Go.RowKit Fl
end Go.Proofs.Ytnljfcebmgifdaa
namespace Go.Proofs.Ytnljfcebmgifdaa
open Go.RowKit Fl
end Go.Proofs.Ytnljfcebmgifdaa
set_option linter.unusedVariables false
set_option linter.unusedSimpArgs false
namespace Go.Proofs.Ytnljfcebmgifdaa
open Go.RowKit Fl
theorem div_on (a b : Sp) (h0 : (has0 b || a.wide || b.wide) = false) (w : World) : Calls Try.prog 66 #[.agg #[.float .f64 a.lo, .float .f64 a.hi], .agg #[.float .f64 b.lo, .float .f64 b.hi]] w fun r w' => r = .returned (.agg #[.float .f64 (q4lo divD a b), .float .f64 (q4hi divU a b)]) ∧ Below w.heap.size w w' := by
 have H1 := Lib.hid (fun w => wide_sp a w)
 have H3 := Lib.hid (fun w => wide_sp b w)
 have I1 := Lib.hid (fun w => inf_pos 1 (by decide) w)
 have I2 := Lib.hid (fun w => inf_neg (-1) (by decide) w)
 have HD := div_rd h0
 have HU := div_ru h0
 obtain ⟨hb0, h, h'⟩ := or3_false h0
 have HC : ∀ x y, x < 18446744073709551616 → y < 18446744073709551616 → ∀ d : Bool, ∃ e : Nat, ∀ w, Calls Try.prog 111 #[.float .f64 x, .float .f64 y, .bool d] w fun r w' => r = .returned (.tuple #[.float .f64 (divR x y d).1, .int .i64 (e : Int)]) ∧ Below w.heap.size w w' := fun x y hx hy d => ⟨(divR x y d).2, fun w => div_any x y d hx hy w⟩
 have B1 := le0_gd b.vd.l
 have B2 := ge0_gd b.vd.h
 have B3 : (decide (Z b.lo ≤ 0) = false) ∨ (decide (Z b.lo ≤ 0) = true ∧ decide (0 ≤ Z b.hi) = false) := by
   unfold has0 at hb0
   cases p : decide (Z b.lo ≤ 0)
   · exact Or.inl rfl
   · rw [p, Bool.true_and] at hb0
     exact Or.inr ⟨rfl, hb0⟩
 generalize decide (Z b.lo ≤ 0) = p1 at *
 generalize decide (0 ≤ Z b.hi) = p2 at *
 clear hb0 h0
 rw [h] at H1
 rw [h'] at H3
 have g0 := (HD a.lo b.lo (Or.inl rfl) (Or.inl rfl)).gd
 have k0 := (HU a.lo b.lo (Or.inl rfl) (Or.inl rfl)).gd
 obtain ⟨e0, he0⟩ := HC a.lo b.lo a.vd.l.lt b.vd.l.lt true
 obtain ⟨e1, he1⟩ := HC a.lo b.lo a.vd.l.lt b.vd.l.lt false
 have C0 := Lib.hid he0
 have C1 := Lib.hid he1
 clear he0 he1
 have g1 := (HD a.lo b.hi (Or.inl rfl) (Or.inr rfl)).gd
 have k1 := (HU a.lo b.hi (Or.inl rfl) (Or.inr rfl)).gd
 obtain ⟨e2, he2⟩ := HC a.lo b.hi a.vd.l.lt b.vd.h.lt true
 obtain ⟨e3, he3⟩ := HC a.lo b.hi a.vd.l.lt b.vd.h.lt false
 have C2 := Lib.hid he2
 have C3 := Lib.hid he3
 clear he2 he3
 have g2 := (HD a.hi b.lo (Or.inr rfl) (Or.inl rfl)).gd
 have k2 := (HU a.hi b.lo (Or.inr rfl) (Or.inl rfl)).gd
 obtain ⟨e4, he4⟩ := HC a.hi b.lo a.vd.h.lt b.vd.l.lt true
 obtain ⟨e5, he5⟩ := HC a.hi b.lo a.vd.h.lt b.vd.l.lt false
 have C4 := Lib.hid he4
 have C5 := Lib.hid he5
 clear he4 he5
 have g3 := (HD a.hi b.hi (Or.inr rfl) (Or.inr rfl)).gd
 have k3 := (HU a.hi b.hi (Or.inr rfl) (Or.inr rfl)).gd
 obtain ⟨e6, he6⟩ := HC a.hi b.hi a.vd.h.lt b.vd.h.lt true
 obtain ⟨e7, he7⟩ := HC a.hi b.hi a.vd.h.lt b.vd.h.lt false
 have C6 := Lib.hid he6
 have C7 := Lib.hid he7
 clear he6 he7
 unfold q4lo q4hi
 obtain ⟨d0, hd0⟩ : ∃ d, divD a.lo b.lo = d := ⟨_, rfl⟩
 obtain ⟨u0, hu0⟩ : ∃ d, divU a.lo b.lo = d := ⟨_, rfl⟩
 have hd0' : (divR a.lo b.lo true).1 = d0 := hd0
 have hu0' : (divR a.lo b.lo false).1 = u0 := hu0
 rw [hd0] at g0 ⊢
 rw [hu0] at k0 ⊢
 rw [hd0'] at C0
 rw [hu0'] at C1
 clear hd0 hu0 hd0' hu0'
 obtain ⟨d1, hd1⟩ : ∃ d, divD a.lo b.hi = d := ⟨_, rfl⟩
 obtain ⟨u1, hu1⟩ : ∃ d, divU a.lo b.hi = d := ⟨_, rfl⟩
 have hd1' : (divR a.lo b.hi true).1 = d1 := hd1
 have hu1' : (divR a.lo b.hi false).1 = u1 := hu1
 rw [hd1] at g1 ⊢
 rw [hu1] at k1 ⊢
 rw [hd1'] at C2
 rw [hu1'] at C3
 clear hd1 hu1 hd1' hu1'
 obtain ⟨d2, hd2⟩ : ∃ d, divD a.hi b.lo = d := ⟨_, rfl⟩
 obtain ⟨u2, hu2⟩ : ∃ d, divU a.hi b.lo = d := ⟨_, rfl⟩
 have hd2' : (divR a.hi b.lo true).1 = d2 := hd2
 have hu2' : (divR a.hi b.lo false).1 = u2 := hu2
 rw [hd2] at g2 ⊢
 rw [hu2] at k2 ⊢
 rw [hd2'] at C4
 rw [hu2'] at C5
 clear hd2 hu2 hd2' hu2'
 obtain ⟨d3, hd3⟩ : ∃ d, divD a.hi b.hi = d := ⟨_, rfl⟩
 obtain ⟨u3, hu3⟩ : ∃ d, divU a.hi b.hi = d := ⟨_, rfl⟩
 have hd3' : (divR a.hi b.hi true).1 = d3 := hd3
 have hu3' : (divR a.hi b.hi false).1 = u3 := hu3
 rw [hd3] at g3 ⊢
 rw [hu3] at k3 ⊢
 rw [hd3'] at C6
 rw [hu3'] at C7
 clear hd3 hu3 hd3' hu3'
 have M0 := fun (ts : Array TypeId) (t : TypeId) (w : World) => run_min_gd (P := Try.prog) (x := 9218868437227405312) (y := d0) gdPI g0 ts t w
 have N0 := fun (ts : Array TypeId) (t : TypeId) (w : World) => run_max_gd (P := Try.prog) (x := 18442240474082181120) (y := u0) gdNI k0 ts t w
 have M1 := fun (ts : Array TypeId) (t : TypeId) (w : World) => run_min_gd (P := Try.prog) (x := (mn 9218868437227405312 d0)) (y := d1) (mn_gd gdPI g0) g1 ts t w
 have N1 := fun (ts : Array TypeId) (t : TypeId) (w : World) => run_max_gd (P := Try.prog) (x := (mx 18442240474082181120 u0)) (y := u1) (mx_gd gdNI k0) k1 ts t w
 have M2 := fun (ts : Array TypeId) (t : TypeId) (w : World) => run_min_gd (P := Try.prog) (x := (mn (mn 9218868437227405312 d0) d1)) (y := d2) (mn_gd (mn_gd gdPI g0) g1) g2 ts t w
 have N2 := fun (ts : Array TypeId) (t : TypeId) (w : World) => run_max_gd (P := Try.prog) (x := (mx (mx 18442240474082181120 u0) u1)) (y := u2) (mx_gd (mx_gd gdNI k0) k1) k2 ts t w
 have M3 := fun (ts : Array TypeId) (t : TypeId) (w : World) => run_min_gd (P := Try.prog) (x := (mn (mn (mn 9218868437227405312 d0) d1) d2)) (y := d3) (mn_gd (mn_gd (mn_gd gdPI g0) g1) g2) g3 ts t w
 have N3 := fun (ts : Array TypeId) (t : TypeId) (w : World) => run_max_gd (P := Try.prog) (x := (mx (mx (mx 18442240474082181120 u0) u1) u2)) (y := u3) (mx_gd (mx_gd (mx_gd gdNI k0) k1) k2) k3 ts t w
 obtain ⟨l0, hl0⟩ : ∃ l, mn 9218868437227405312 d0 = l := ⟨_, rfl⟩
 obtain ⟨m0, hm0⟩ : ∃ l, mx 18442240474082181120 u0 = l := ⟨_, rfl⟩
 rw [hl0]
 rw [hm0]
 simp only [hl0] at M0
 simp only [hm0] at N0
 simp only [hl0] at M1
 simp only [hm0] at N1
 simp only [hl0] at M2
 simp only [hm0] at N2
 simp only [hl0] at M3
 simp only [hm0] at N3
 clear hl0 hm0
 obtain ⟨l1, hl1⟩ : ∃ l, mn l0 d1 = l := ⟨_, rfl⟩
 obtain ⟨m1, hm1⟩ : ∃ l, mx m0 u1 = l := ⟨_, rfl⟩
 rw [hl1]
 rw [hm1]
 simp only [hl1] at M1
 simp only [hm1] at N1
 simp only [hl1] at M2
 simp only [hm1] at N2
 simp only [hl1] at M3
 simp only [hm1] at N3
 clear hl1 hm1
 obtain ⟨l2, hl2⟩ : ∃ l, mn l1 d2 = l := ⟨_, rfl⟩
 obtain ⟨m2, hm2⟩ : ∃ l, mx m1 u2 = l := ⟨_, rfl⟩
 rw [hl2]
 rw [hm2]
 simp only [hl2] at M2
 simp only [hm2] at N2
 simp only [hl2] at M3
 simp only [hm2] at N3
 clear hl2 hm2
 obtain ⟨l3, hl3⟩ : ∃ l, mn l2 d3 = l := ⟨_, rfl⟩
 obtain ⟨m3, hm3⟩ : ∃ l, mx m2 u3 = l := ⟨_, rfl⟩
 rw [hl3]
 rw [hm3]
 simp only [hl3] at M3
 simp only [hm3] at N3
 clear hl3 hm3
 have MH0 := Lib.hid M0
 have NH0 := Lib.hid N0
 clear M0 N0
 have MH1 := Lib.hid M1
 have NH1 := Lib.hid N1
 clear M1 N1
 have MH2 := Lib.hid M2
 have NH2 := Lib.hid N2
 clear M2 N2
 have MH3 := Lib.hid M3
 have NH3 := Lib.hid N3
 clear M3 N3
 clear HD HU HC h h' g0 k0 g1 k1 g2 k2 g3 k3
 go_enter Try.func66, Try.ntmps66
 go_upto_region 1 with fail
 obtain ⟨W, hW, K0, K1, K2, hB, hz⟩ := box3 w 28 28 28 #[Value.float FloatKind.f64 a.lo, Value.float FloatKind.f64 a.hi] #[Value.float FloatKind.f64 b.lo, Value.float FloatKind.f64 b.hi] #[Value.float FloatKind.f64 0, Value.float FloatKind.f64 0]
 rw [← hW]
 have K0 := Lib.hid K0
 have K1 := Lib.hid K1
 have K2 := Lib.hid K2
 have HB := Lib.hid hB
 clear hW hB hz
 have HO := Lib.hid (show ∀ w', Hd W (w.heap.size + 1 + 1) 28 2 w' → (Hd W (w.heap.size + 1 + 1) 28 2 w' ∧ w'.cell? ⟨w.heap.size, 0, none⟩ = some (Value.float FloatKind.f64 a.lo) ∧ w'.cell? ⟨w.heap.size, 1, none⟩ = some (Value.float FloatKind.f64 a.hi) ∧ w'.cell? ⟨w.heap.size + 1, 0, none⟩ = some (Value.float FloatKind.f64 b.lo) ∧ w'.cell? ⟨w.heap.size + 1, 1, none⟩ = some (Value.float FloatKind.f64 b.hi) ∧ w'.cell? ⟨w.heap.size + 1 + 1, 0, none⟩ = some (cellAt w' ⟨w.heap.size + 1 + 1, 0, none⟩) ∧ w'.frozen? ⟨w.heap.size + 1 + 1, 0, none⟩ = false ∧ w'.cell? ⟨w.heap.size + 1 + 1, 1, none⟩ = some (cellAt w' ⟨w.heap.size + 1 + 1, 1, none⟩) ∧ w'.frozen? ⟨w.heap.size + 1 + 1, 1, none⟩ = false) from fun w' h => ⟨h, (h.blk K0.out (by omega)).cell 0, (h.blk K0.out (by omega)).cell 1, (h.blk K1.out (by omega)).cell 0, (h.blk K1.out (by omega)).cell 1, (h.at_ 0 (by decide)).1, (h.at_ 0 (by decide)).2, (h.at_ 1 (by decide)).1, (h.at_ 1 (by decide)).2⟩)
 have D0 := Lib.hid (show Hd W (w.heap.size + 1 + 1) 28 2 W from Hd.start K2.out)
 obtain ⟨-, q0, q1, q2, q3, q4, q5, q6, q7⟩ := HO.out _ D0.out
 have z0 := Hd.lt D0.out
 go_cut [29] (fun s wx => s = .bool false ∧ Hd W (w.heap.size + 1 + 1) 28 2 wx)
 case first =>
   rcases B3 with rfl | ⟨rfl, rfl⟩
   · go_wp2_with fail
     refine (H1.out _).mono ?_
     rintro r w1 ⟨rfl, hb⟩
     have D1 := Lib.hid (Hd.call D0.out hb)
     clear hb q0 q1 q2 q3 q4 q5 q6 q7
     obtain ⟨-, q0, q1, q2, q3, q4, q5, q6, q7⟩ := HO.out _ D1.out
     have z1 := Hd.lt D1.out
     go_wp2_with fail
     refine (H3.out _).mono ?_
     rintro r w2 ⟨rfl, hb⟩
     have D2 := Lib.hid (Hd.call D1.out hb)
     clear hb
     clear q0 q1 q2 q3 q4 q5 q6 q7
     obtain ⟨-, q0, q1, q2, q3, q4, q5, q6, q7⟩ := HO.out _ D2.out
     have z2 := Hd.lt D2.out
     go_wp2_with fail
     go_meet
     exact ⟨rfl, D2.out⟩
   · go_wp2_with fail
     refine (H1.out _).mono ?_
     rintro r w1 ⟨rfl, hb⟩
     have D1 := Lib.hid (Hd.call D0.out hb)
     clear hb q0 q1 q2 q3 q4 q5 q6 q7
     obtain ⟨-, q0, q1, q2, q3, q4, q5, q6, q7⟩ := HO.out _ D1.out
     have z1 := Hd.lt D1.out
     go_wp2_with fail
     refine (H3.out _).mono ?_
     rintro r w2 ⟨rfl, hb⟩
     have D2 := Lib.hid (Hd.call D1.out hb)
     clear hb
     clear q0 q1 q2 q3 q4 q5 q6 q7
     obtain ⟨-, q0, q1, q2, q3, q4, q5, q6, q7⟩ := HO.out _ D2.out
     have z2 := Hd.lt D2.out
     go_wp2_with fail
     go_meet
     exact ⟨rfl, D2.out⟩
 clear B1 B2 B3
 case rest =>
   obtain ⟨rfl, hD⟩ := hcut
   have D2 := Lib.hid hD
   clear hD
   clear q0 q1 q2 q3 q4 q5 q6 q7
   obtain ⟨-, q0, q1, q2, q3, q4, q5, q6, q7⟩ := HO.out _ D2.out
   have z2 := Hd.lt D2.out
   go_wp2_with fail
   refine (I1.out _).mono ?_
   rintro r w' ⟨rfl, rfl⟩
   go_wp2_with fail
   refine (I2.out _).mono ?_
   rintro r w' ⟨rfl, rfl⟩
   have hz9 := z2
   obtain ⟨g, hg⟩ : ∃ g, wc.heap.size = g := ⟨_, rfl⟩
   obtain ⟨V, hV⟩ : ∃ V, wc.alloc (.cells #[Value.float FloatKind.f64 9218868437227405312, Value.float FloatKind.f64 18442240474082181120] 28) = V := ⟨_, rfl⟩
   have O0 : Blk V g 28 #[Value.float FloatKind.f64 9218868437227405312, Value.float FloatKind.f64 18442240474082181120] := by rw [← hV, ← hg]; exact Blk.new_at _ _ _ rfl
   have E0 := Lib.hid (hV ▸ Hd.alloc D2.out _ : Hd W (w.heap.size + 1 + 1) 28 2 V)
   rw [hg] at hz9
   obtain ⟨o0, o1, o2, o3⟩ := O0.both
   clear q0 q1 q2 q3 q4 q5 q6 q7
   have O0 := Lib.hid O0
   clear z2
   obtain ⟨-, q0, q1, q2, q3, q4, q5, q6, q7⟩ := HO.out _ E0.out
   have z0 := Hd.lt E0.out
   go_wp2_with fail
   clear hV hg
   refine wp_loop_rounds 3 ?_
   rw [rounds_succ]
   go_wp2_with fail
   refine wp_loop_rounds 3 ?_
   rw [rounds_succ]
   go_wp2_with fail
   refine (C0.out _).mono ?_
   rintro r v1 ⟨rfl, hb⟩
   have E1 := Lib.hid (Hd.call E0.out hb)
   have O1 := Lib.hid (Blk.below O0.out hb (Blk.lt O0.out))
   clear hb q0 q1 q2 q3 q4 q5 q6 q7 o0 o1 o2 o3
   obtain ⟨-, q0, q1, q2, q3, q4, q5, q6, q7⟩ := HO.out _ E1.out
   obtain ⟨o0, o1, o2, o3⟩ := Blk.both O1.out
   go_wp2_with fail
   refine (C1.out _).mono ?_
   rintro r v2 ⟨rfl, hb⟩
   have E2 := Lib.hid (Hd.call E1.out hb)
   have O2 := Lib.hid (Blk.below O1.out hb (Blk.lt O1.out))
   clear hb q0 q1 q2 q3 q4 q5 q6 q7 o0 o1 o2 o3
   obtain ⟨-, q0, q1, q2, q3, q4, q5, q6, q7⟩ := HO.out _ E2.out
   obtain ⟨o0, o1, o2, o3⟩ := Blk.both O2.out
   obtain ⟨V0, hV⟩ : ∃ V, (v2.setCell ⟨g, 0, none⟩ (.float .f64 l0)).setCell ⟨g, 1, none⟩ (.float .f64 m0) = V := ⟨_, rfl⟩
   have E3 := Lib.hid (hV ▸ Hd.far (Hd.far E2.out hz9 0 _) hz9 1 _ : Hd W (w.heap.size + 1 + 1) 28 2 V0)
   have O3 := Lib.hid (hV ▸ Blk.set_ (Blk.set_ O2.out 0 _) 1 _ : Blk V0 g 28 #[.float .f64 l0, .float .f64 m0])
   obtain ⟨-, p0, p1, p2, p3, p4, p5, p6, p7⟩ := HO.out _ E3.out
   obtain ⟨r0, r1, r2, r3⟩ := Blk.both O3.out
   have M := MH0.out
   have N := NH0.out
   go_wp2_with fail
   clear hV M N q0 q1 q2 q3 q4 q5 q6 q7 o0 o1 o2 o3
   have q0 := p0
   clear p0
   have q1 := p1
   clear p1
   have q2 := p2
   clear p2
   have q3 := p3
   clear p3
   have q4 := p4
   clear p4
   have q5 := p5
   clear p5
   have q6 := p6
   clear p6
   have q7 := p7
   clear p7
   have o0 := r0
   clear r0
   have o1 := r1
   clear r1
   have o2 := r2
   clear r2
   have o3 := r3
   clear r3
   rw [rounds_succ]
   go_wp2_with fail
   refine (C2.out _).mono ?_
   rintro r v3 ⟨rfl, hb⟩
   have E4 := Lib.hid (Hd.call E3.out hb)
   have O4 := Lib.hid (Blk.below O3.out hb (Blk.lt O3.out))
   clear hb q0 q1 q2 q3 q4 q5 q6 q7 o0 o1 o2 o3
   obtain ⟨-, q0, q1, q2, q3, q4, q5, q6, q7⟩ := HO.out _ E4.out
   obtain ⟨o0, o1, o2, o3⟩ := Blk.both O4.out
   go_wp2_with fail
   refine (C3.out _).mono ?_
   rintro r v4 ⟨rfl, hb⟩
   have E5 := Lib.hid (Hd.call E4.out hb)
   have O5 := Lib.hid (Blk.below O4.out hb (Blk.lt O4.out))
   clear hb q0 q1 q2 q3 q4 q5 q6 q7 o0 o1 o2 o3
   obtain ⟨-, q0, q1, q2, q3, q4, q5, q6, q7⟩ := HO.out _ E5.out
   obtain ⟨o0, o1, o2, o3⟩ := Blk.both O5.out
   obtain ⟨V1, hV⟩ : ∃ V, (v4.setCell ⟨g, 0, none⟩ (.float .f64 l1)).setCell ⟨g, 1, none⟩ (.float .f64 m1) = V := ⟨_, rfl⟩
   have E6 := Lib.hid (hV ▸ Hd.far (Hd.far E5.out hz9 0 _) hz9 1 _ : Hd W (w.heap.size + 1 + 1) 28 2 V1)
   have O6 := Lib.hid (hV ▸ Blk.set_ (Blk.set_ O5.out 0 _) 1 _ : Blk V1 g 28 #[.float .f64 l1, .float .f64 m1])
   obtain ⟨-, p0, p1, p2, p3, p4, p5, p6, p7⟩ := HO.out _ E6.out
   obtain ⟨r0, r1, r2, r3⟩ := Blk.both O6.out
   have M := MH1.out
   have N := NH1.out
   go_wp2_with fail
   clear hV M N q0 q1 q2 q3 q4 q5 q6 q7 o0 o1 o2 o3
   have q0 := p0
   clear p0
   have q1 := p1
   clear p1
   have q2 := p2
   clear p2
   have q3 := p3
   clear p3
   have q4 := p4
   clear p4
   have q5 := p5
   clear p5
   have q6 := p6
   clear p6
   have q7 := p7
   clear p7
   have o0 := r0
   clear r0
   have o1 := r1
   clear r1
   have o2 := r2
   clear r2
   have o3 := r3
   clear r3
   rw [rounds_succ]
   go_wp2_with fail
   rw [rounds_succ]
   go_wp2_with fail
   refine wp_loop_rounds 3 ?_
   rw [rounds_succ]
   go_wp2_with fail
   refine (C4.out _).mono ?_
   rintro r v5 ⟨rfl, hb⟩
   have E7 := Lib.hid (Hd.call E6.out hb)
   have O7 := Lib.hid (Blk.below O6.out hb (Blk.lt O6.out))
   clear hb q0 q1 q2 q3 q4 q5 q6 q7 o0 o1 o2 o3
   obtain ⟨-, q0, q1, q2, q3, q4, q5, q6, q7⟩ := HO.out _ E7.out
   obtain ⟨o0, o1, o2, o3⟩ := Blk.both O7.out
   go_wp2_with fail
   refine (C5.out _).mono ?_
   rintro r v6 ⟨rfl, hb⟩
   have E8 := Lib.hid (Hd.call E7.out hb)
   have O8 := Lib.hid (Blk.below O7.out hb (Blk.lt O7.out))
   clear hb q0 q1 q2 q3 q4 q5 q6 q7 o0 o1 o2 o3
   obtain ⟨-, q0, q1, q2, q3, q4, q5, q6, q7⟩ := HO.out _ E8.out
   obtain ⟨o0, o1, o2, o3⟩ := Blk.both O8.out
   obtain ⟨V2, hV⟩ : ∃ V, (v6.setCell ⟨g, 0, none⟩ (.float .f64 l2)).setCell ⟨g, 1, none⟩ (.float .f64 m2) = V := ⟨_, rfl⟩
   have E9 := Lib.hid (hV ▸ Hd.far (Hd.far E8.out hz9 0 _) hz9 1 _ : Hd W (w.heap.size + 1 + 1) 28 2 V2)
   have O9 := Lib.hid (hV ▸ Blk.set_ (Blk.set_ O8.out 0 _) 1 _ : Blk V2 g 28 #[.float .f64 l2, .float .f64 m2])
   obtain ⟨-, p0, p1, p2, p3, p4, p5, p6, p7⟩ := HO.out _ E9.out
   obtain ⟨r0, r1, r2, r3⟩ := Blk.both O9.out
   have M := MH2.out
   have N := NH2.out
   go_wp2_with fail
   clear hV M N q0 q1 q2 q3 q4 q5 q6 q7 o0 o1 o2 o3
   have q0 := p0
   clear p0
   have q1 := p1
   clear p1
   have q2 := p2
   clear p2
   have q3 := p3
   clear p3
   have q4 := p4
   clear p4
   have q5 := p5
   clear p5
   have q6 := p6
   clear p6
   have q7 := p7
   clear p7
   have o0 := r0
   clear r0
   have o1 := r1
   clear r1
   have o2 := r2
   clear r2
   have o3 := r3
   clear r3
   rw [rounds_succ]
   go_wp2_with fail
   refine (C6.out _).mono ?_
   rintro r v7 ⟨rfl, hb⟩
   have E10 := Lib.hid (Hd.call E9.out hb)
   have O10 := Lib.hid (Blk.below O9.out hb (Blk.lt O9.out))
   clear hb q0 q1 q2 q3 q4 q5 q6 q7 o0 o1 o2 o3
   obtain ⟨-, q0, q1, q2, q3, q4, q5, q6, q7⟩ := HO.out _ E10.out
   obtain ⟨o0, o1, o2, o3⟩ := Blk.both O10.out
   go_wp2_with fail
   refine (C7.out _).mono ?_
   rintro r v8 ⟨rfl, hb⟩
   have E11 := Lib.hid (Hd.call E10.out hb)
   have O11 := Lib.hid (Blk.below O10.out hb (Blk.lt O10.out))
   clear hb q0 q1 q2 q3 q4 q5 q6 q7 o0 o1 o2 o3
   obtain ⟨-, q0, q1, q2, q3, q4, q5, q6, q7⟩ := HO.out _ E11.out
   obtain ⟨o0, o1, o2, o3⟩ := Blk.both O11.out
   obtain ⟨V3, hV⟩ : ∃ V, (v8.setCell ⟨g, 0, none⟩ (.float .f64 l3)).setCell ⟨g, 1, none⟩ (.float .f64 m3) = V := ⟨_, rfl⟩
   have E12 := Lib.hid (hV ▸ Hd.far (Hd.far E11.out hz9 0 _) hz9 1 _ : Hd W (w.heap.size + 1 + 1) 28 2 V3)
   have O12 := Lib.hid (hV ▸ Blk.set_ (Blk.set_ O11.out 0 _) 1 _ : Blk V3 g 28 #[.float .f64 l3, .float .f64 m3])
   obtain ⟨-, p0, p1, p2, p3, p4, p5, p6, p7⟩ := HO.out _ E12.out
   obtain ⟨r0, r1, r2, r3⟩ := Blk.both O12.out
   have M := MH3.out
   have N := NH3.out
   go_wp2_with fail
   clear hV M N q0 q1 q2 q3 q4 q5 q6 q7 o0 o1 o2 o3
   have q0 := p0
   clear p0
   have q1 := p1
   clear p1
   have q2 := p2
   clear p2
   have q3 := p3
   clear p3
   have q4 := p4
   clear p4
   have q5 := p5
   clear p5
   have q6 := p6
   clear p6
   have q7 := p7
   clear p7
   have o0 := r0
   clear r0
   have o1 := r1
   clear r1
   have o2 := r2
   clear r2
   have o3 := r3
   clear r3
   rw [rounds_succ]
   go_wp2_with fail
   rw [rounds_succ]
   go_wp2_with fail
   (try simp only [Exit.inBlock, Exit.then])
   have hF := Hd.set (Hd.set E12.out 0 (.float .f64 l3)) 1 (.float .f64 m3)
   exact bodyPost_ret (resS rfl _ _ (w.heap.size + 1 + 1) (.float .f64 l3) (.float .f64 m3) rfl (Hd.wrote2 hF)) rfl ⟨rfl, Hd.below hF HB.out (by omega)⟩
theorem div_off (a b : Sp) (h0 : (has0 b || a.wide || b.wide) = true) (w : World) : Calls Try.prog 66 #[.agg #[.float .f64 a.lo, .float .f64 a.hi], .agg #[.float .f64 b.lo, .float .f64 b.hi]] w fun r w' => r = .returned (.agg #[.float .f64 18442240474082181120, .float .f64 9218868437227405312]) ∧ Below w.heap.size w w' := by
 have H1 := Lib.hid (fun w => wide_sp a w)
 have H3 := Lib.hid (fun w => wide_sp b w)
 have H2 := Lib.hid (fun w => all_below w)
 have B1 := le0_gd b.vd.l
 have B2 := ge0_gd b.vd.h
 have B3 : (decide (Z b.lo ≤ 0) = true ∧ decide (0 ≤ Z b.hi) = true) ∨ ((decide (Z b.lo ≤ 0) = false ∨ (decide (Z b.lo ≤ 0) = true ∧ decide (0 ≤ Z b.hi) = false)) ∧ (a.wide || b.wide) = true) := by
   unfold has0 at h0
   revert h0
   cases decide (Z b.lo ≤ 0) <;> cases decide (0 ≤ Z b.hi) <;> cases a.wide <;> cases b.wide <;> simp
 generalize decide (Z b.lo ≤ 0) = p1 at *
 generalize decide (0 ≤ Z b.hi) = p2 at *
 generalize a.wide = p3 at *
 generalize b.wide = p4 at *
 clear h0
 go_enter Try.func66, Try.ntmps66
 go_upto_region 1 with fail
 obtain ⟨W, hW, K0, K1, K2, hB, hz⟩ := box3 w 28 28 28 #[Value.float FloatKind.f64 a.lo, Value.float FloatKind.f64 a.hi] #[Value.float FloatKind.f64 b.lo, Value.float FloatKind.f64 b.hi] #[Value.float FloatKind.f64 0, Value.float FloatKind.f64 0]
 rw [← hW]
 have K0 := Lib.hid K0
 have K1 := Lib.hid K1
 have K2 := Lib.hid K2
 have HB := Lib.hid hB
 clear hW hB hz
 have HO := Lib.hid (show ∀ w', Hd W (w.heap.size + 1 + 1) 28 2 w' → (Hd W (w.heap.size + 1 + 1) 28 2 w' ∧ w'.cell? ⟨w.heap.size, 0, none⟩ = some (Value.float FloatKind.f64 a.lo) ∧ w'.cell? ⟨w.heap.size, 1, none⟩ = some (Value.float FloatKind.f64 a.hi) ∧ w'.cell? ⟨w.heap.size + 1, 0, none⟩ = some (Value.float FloatKind.f64 b.lo) ∧ w'.cell? ⟨w.heap.size + 1, 1, none⟩ = some (Value.float FloatKind.f64 b.hi) ∧ w'.cell? ⟨w.heap.size + 1 + 1, 0, none⟩ = some (cellAt w' ⟨w.heap.size + 1 + 1, 0, none⟩) ∧ w'.frozen? ⟨w.heap.size + 1 + 1, 0, none⟩ = false ∧ w'.cell? ⟨w.heap.size + 1 + 1, 1, none⟩ = some (cellAt w' ⟨w.heap.size + 1 + 1, 1, none⟩) ∧ w'.frozen? ⟨w.heap.size + 1 + 1, 1, none⟩ = false) from fun w' h => ⟨h, (h.blk K0.out (by omega)).cell 0, (h.blk K0.out (by omega)).cell 1, (h.blk K1.out (by omega)).cell 0, (h.blk K1.out (by omega)).cell 1, (h.at_ 0 (by decide)).1, (h.at_ 0 (by decide)).2, (h.at_ 1 (by decide)).1, (h.at_ 1 (by decide)).2⟩)
 have D0 := Lib.hid (show Hd W (w.heap.size + 1 + 1) 28 2 W from Hd.start K2.out)
 obtain ⟨-, q0, q1, q2, q3, q4, q5, q6, q7⟩ := HO.out _ D0.out
 have z0 := Hd.lt D0.out
 go_cut [29] (fun s wx => s = .bool true ∧ Hd W (w.heap.size + 1 + 1) 28 2 wx)
 case first =>
   rcases B3 with ⟨rfl, rfl⟩ | ⟨rfl | ⟨rfl, rfl⟩, hw⟩
   · go_wp2_with fail
     go_meet
     exact ⟨rfl, D0.out⟩
   · cases p3
     · rw [Bool.false_or] at hw
       subst hw
       go_wp2_with fail
       refine (H1.out _).mono ?_
       rintro r w1 ⟨rfl, hb⟩
       have D1 := Lib.hid (Hd.call D0.out hb)
       clear hb q0 q1 q2 q3 q4 q5 q6 q7
       obtain ⟨-, q0, q1, q2, q3, q4, q5, q6, q7⟩ := HO.out _ D1.out
       have z1 := Hd.lt D1.out
       go_wp2_with fail
       refine (H3.out _).mono ?_
       rintro r w2 ⟨rfl, hb⟩
       have D2 := Lib.hid (Hd.call D1.out hb)
       clear hb
       clear q0 q1 q2 q3 q4 q5 q6 q7
       obtain ⟨-, q0, q1, q2, q3, q4, q5, q6, q7⟩ := HO.out _ D2.out
       have z2 := Hd.lt D2.out
       go_wp2_with fail
       go_meet
       exact ⟨rfl, D2.out⟩
     · clear hw
       go_wp2_with fail
       refine (H1.out _).mono ?_
       rintro r w1 ⟨rfl, hb⟩
       have D1 := Lib.hid (Hd.call D0.out hb)
       clear hb q0 q1 q2 q3 q4 q5 q6 q7
       obtain ⟨-, q0, q1, q2, q3, q4, q5, q6, q7⟩ := HO.out _ D1.out
       have z1 := Hd.lt D1.out
       go_wp2_with fail
       go_meet
       exact ⟨rfl, D1.out⟩
   · cases p3
     · rw [Bool.false_or] at hw
       subst hw
       go_wp2_with fail
       refine (H1.out _).mono ?_
       rintro r w1 ⟨rfl, hb⟩
       have D1 := Lib.hid (Hd.call D0.out hb)
       clear hb q0 q1 q2 q3 q4 q5 q6 q7
       obtain ⟨-, q0, q1, q2, q3, q4, q5, q6, q7⟩ := HO.out _ D1.out
       have z1 := Hd.lt D1.out
       go_wp2_with fail
       refine (H3.out _).mono ?_
       rintro r w2 ⟨rfl, hb⟩
       have D2 := Lib.hid (Hd.call D1.out hb)
       clear hb
       clear q0 q1 q2 q3 q4 q5 q6 q7
       obtain ⟨-, q0, q1, q2, q3, q4, q5, q6, q7⟩ := HO.out _ D2.out
       have z2 := Hd.lt D2.out
       go_wp2_with fail
       go_meet
       exact ⟨rfl, D2.out⟩
     · clear hw
       go_wp2_with fail
       refine (H1.out _).mono ?_
       rintro r w1 ⟨rfl, hb⟩
       have D1 := Lib.hid (Hd.call D0.out hb)
       clear hb q0 q1 q2 q3 q4 q5 q6 q7
       obtain ⟨-, q0, q1, q2, q3, q4, q5, q6, q7⟩ := HO.out _ D1.out
       have z1 := Hd.lt D1.out
       go_wp2_with fail
       go_meet
       exact ⟨rfl, D1.out⟩
 case rest =>
   obtain ⟨rfl, hD⟩ := hcut
   have D1 := Lib.hid hD
   clear hD
   clear q0 q1 q2 q3 q4 q5 q6 q7
   obtain ⟨-, q0, q1, q2, q3, q4, q5, q6, q7⟩ := HO.out _ D1.out
   have z1 := Hd.lt D1.out
   go_wp2_with fail
   refine (H2.out _).mono ?_
   rintro r w2 ⟨rfl, hb⟩
   have D2 := Lib.hid (Hd.call D1.out hb)
   clear hb
   clear q0 q1 q2 q3 q4 q5 q6 q7
   obtain ⟨-, q0, q1, q2, q3, q4, q5, q6, q7⟩ := HO.out _ D2.out
   have z2 := Hd.lt D2.out
   go_wp2_with fail
   (try simp only [Exit.inBlock, Exit.then])
   have hF := (Hd.set (Hd.set D2.out 0 (.float .f64 18442240474082181120)) 1 (.float .f64 9218868437227405312))
   exact bodyPost_ret (resS rfl _ _ (w.heap.size + 1 + 1) (.float .f64 18442240474082181120) (.float .f64 9218868437227405312) rfl (Hd.wrote2 hF)) rfl ⟨rfl, Hd.below hF HB.out (by omega)⟩
theorem div_sp (a b : Sp) (w : World) : Calls Try.prog 66 #[.agg #[.float .f64 a.lo, .float .f64 a.hi], .agg #[.float .f64 b.lo, .float .f64 b.hi]] w fun r w' => r = .returned (.agg #[.float .f64 (divS a b).lo, .float .f64 (divS a b).hi]) ∧ Below w.heap.size w w' := by
 unfold divS
 by_cases hw : (has0 b || a.wide || b.wide) = false
 · rw [dif_pos hw]
   exact div_on a b hw w
 · rw [dif_neg hw]
   exact div_off a b (by revert hw; cases (has0 b || a.wide || b.wide) <;> simp) w
end Go.Proofs.Ytnljfcebmgifdaa
