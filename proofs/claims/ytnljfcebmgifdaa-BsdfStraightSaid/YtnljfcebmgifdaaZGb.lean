/- Shaken: Gb. -/
import Derived.Test.YtnljfcebmgifdaaZGa
set_option maxRecDepth 100000
set_option maxHeartbeats 4000000
set_option linter.unusedVariables false
set_option linter.unusedSimpArgs false
namespace Go.Proofs.Ytnljfcebmgifdaa
open Go.RowKit Ieee
abbrev wdo (hi lo : Nat) (e : Int) (more : Bool) : Obj := .cells #[.int .u64 (hi : Int), .int .u64 (lo : Int), .int .i64 e, .bool more] 136
abbrev wdW (W : Nat) (e : Int) (more : Bool) : Value := wdv (W / 18446744073709551616) (W % 18446744073709551616) e more
theorem len_div {b k : Nat} (h : 2 ^ k ≤ b) : Fl.len (b / 2 ^ k) + k = Fl.len b := by
 have h1 : k < Fl.len b := by
   apply Nat.lt_of_not_le
   intro hh
   have h2 := Fl.lt_len b
   have := Nat.pow_le_pow_right (show 0 < 2 by decide) hh
   omega
 rw [Fl.len_div_pow k h1]
 omega
def LenR (L : Nat) (n x s : Value) (w wr : World) (o : Obj) : Prop :=
 wr = w.alloc o ∧ ∃ (a b : Nat) (k : Nat), n = .int .i64 (a : Int) ∧ x = .int .u64 (b : Int) ∧ s = .int .i64 (k : Int) ∧ a ≤ 128 ∧ a + Fl.len b = L ∧ b < 18446744073709551616 ∧
   ((k = 32) ∨ (k = 16 ∧ b < 4294967296) ∨ (k = 8 ∧ b < 65536) ∨ (k = 4 ∧ b < 256) ∨ (k = 2 ∧ b < 16) ∨ (k = 1 ∧ b < 4) ∨ (k = 0 ∧ b < 2))
theorem len_bit {b : Nat} (h : b < 2) : Fl.len b = b := by
 rcases (show b = 0 ∨ b = 1 by omega) with rfl | rfl
 · rfl
 · decide
theorem lr_up {a b L : Nat} (k P : Nat) (hP : 2 ^ k = P) (hp : 0 < P) (h : ((b : Int) / (P : Int) != 0) = true) (hl : a + Fl.len b = L) (hL : L ≤ 128) : a + k ≤ 128 ∧ a + k + Fl.len (b / P) = L ∧ P ≤ b := by
 have hb : P ≤ b := by
   apply Nat.le_of_not_lt
   intro hh
   have : (b : Int) / (P : Int) = 0 := Int.ediv_eq_zero_of_lt (by omega) (by omega)
   rw [this] at h
   exact absurd h (by decide)
 subst hP
 have := len_div hb
 exact ⟨by omega, by omega, hb⟩
theorem lr_lt {b : Nat} (P : Nat) (hp : 0 < P) (h : ((b : Int) / (P : Int) != 0) = false) : b < P := by
 apply Nat.lt_of_not_le
 intro hh
 have h1 : 0 < b / P := Nat.div_pos hh hp
 have h2 : (b : Int) / (P : Int) = ((b / P : Nat) : Int) := by simp
 rw [h2] at h
 simp only [bne_eq_false_iff_eq] at h
 omega
theorem wlen_any (hi lo : Nat) (e : Int) (more : Bool) (h1 : hi < 18446744073709551616) (h2 : lo < 18446744073709551616) (w : World) :
   Calls Try.prog 144 #[wdv hi lo e more] w fun r w' => r = .returned (.int .i64 (Fl.len (hi * 18446744073709551616 + lo) : Nat)) ∧ ∃ o, w' = w.alloc o := by
 obtain ⟨L, hL⟩ : ∃ L, Fl.len (hi * 18446744073709551616 + lo) = L := ⟨_, rfl⟩
 have hL2 : L ≤ 128 := by
   rw [← hL]; apply Fl.len_le_of_lt
   have : (2 : Nat) ^ 128 = 340282366920938463463374607431768211456 := by decide
   omega
 rw [hL]
 have HL := Lib.hid hL
 clear hL
 by_cases h0 : hi = 0
 · subst h0
   have H1 : Hid (0 + Fl.len lo = L) := by
     refine Lib.hid ?_
     rw [← HL.out, Nat.zero_mul, Nat.zero_add, Nat.zero_add]
   go_enter Try.func144, Try.ntmps144
   go_wp2_with fail
   go_loopw [3, 4, 5] (fun n x s wr => LenR L n x s w wr (wdo 0 lo e more)) (fun _ _ s _ => (intOf s).toNat)
   case atStart => exact ⟨rfl, 0, lo, 32, rfl, rfl, rfl, by omega, H1.out, h2, .inl rfl⟩
   case round =>
     obtain ⟨rfl, a, b, k, rfl, rfl, rfl, ha, hl, hb, hk⟩ := hrel
     have HB := Lib.hid hl
     clear hl
     rcases hk with rfl | ⟨rfl, hb'⟩ | ⟨rfl, hb'⟩ | ⟨rfl, hb'⟩ | ⟨rfl, hb'⟩ | ⟨rfl, hb'⟩ | ⟨rfl, hb'⟩
     · go_wp2_with fail
       · rename_i h
         obtain ⟨q1, q2, q3⟩ := lr_up 32 4294967296 rfl (by decide) h HB.out hL2
         exact ⟨⟨rfl, a + 32, b / 4294967296, 16, congrArg _ (by omega), congrArg _ (by omega), rfl, q1, q2, by omega, by omega⟩, by decide⟩
       · rename_i h
         have q3 := lr_lt 4294967296 (by decide) h
         exact ⟨⟨rfl, a, b, 16, rfl, rfl, rfl, ha, HB.out, hb, by omega⟩, by decide⟩
     · go_wp2_with fail
       · rename_i h
         obtain ⟨q1, q2, q3⟩ := lr_up 16 65536 rfl (by decide) h HB.out hL2
         exact ⟨⟨rfl, a + 16, b / 65536, 8, congrArg _ (by omega), congrArg _ (by omega), rfl, q1, q2, by omega, by omega⟩, by decide⟩
       · rename_i h
         have q3 := lr_lt 65536 (by decide) h
         exact ⟨⟨rfl, a, b, 8, rfl, rfl, rfl, ha, HB.out, hb, by omega⟩, by decide⟩
     · go_wp2_with fail
       · rename_i h
         obtain ⟨q1, q2, q3⟩ := lr_up 8 256 rfl (by decide) h HB.out hL2
         exact ⟨⟨rfl, a + 8, b / 256, 4, congrArg _ (by omega), congrArg _ (by omega), rfl, q1, q2, by omega, by omega⟩, by decide⟩
       · rename_i h
         have q3 := lr_lt 256 (by decide) h
         exact ⟨⟨rfl, a, b, 4, rfl, rfl, rfl, ha, HB.out, hb, by omega⟩, by decide⟩
     · go_wp2_with fail
       · rename_i h
         obtain ⟨q1, q2, q3⟩ := lr_up 4 16 rfl (by decide) h HB.out hL2
         exact ⟨⟨rfl, a + 4, b / 16, 2, congrArg _ (by omega), congrArg _ (by omega), rfl, q1, q2, by omega, by omega⟩, by decide⟩
       · rename_i h
         have q3 := lr_lt 16 (by decide) h
         exact ⟨⟨rfl, a, b, 2, rfl, rfl, rfl, ha, HB.out, hb, by omega⟩, by decide⟩
     · go_wp2_with fail
       · rename_i h
         obtain ⟨q1, q2, q3⟩ := lr_up 2 4 rfl (by decide) h HB.out hL2
         exact ⟨⟨rfl, a + 2, b / 4, 1, congrArg _ (by omega), congrArg _ (by omega), rfl, q1, q2, by omega, by omega⟩, by decide⟩
       · rename_i h
         have q3 := lr_lt 4 (by decide) h
         exact ⟨⟨rfl, a, b, 1, rfl, rfl, rfl, ha, HB.out, hb, by omega⟩, by decide⟩
     · go_wp2_with fail
       · rename_i h
         obtain ⟨q1, q2, q3⟩ := lr_up 1 2 rfl (by decide) h HB.out hL2
         exact ⟨⟨rfl, a + 1, b / 2, 0, congrArg _ (by omega), congrArg _ (by omega), rfl, q1, q2, by omega, by omega⟩, by decide⟩
       · rename_i h
         have q3 := lr_lt 2 (by decide) h
         exact ⟨⟨rfl, a, b, 0, rfl, rfl, rfl, ha, HB.out, hb, by omega⟩, by decide⟩
     · go_wp2_with fail
       go_ret
       refine ⟨ret_int ?_, _, rfl⟩
       rw [← HB.out, len_bit hb']
       omega
 · have H1 : Hid (64 + Fl.len hi = L) := by
     refine Lib.hid ?_
     rw [← HL.out]
     have e1 : hi * 18446744073709551616 + lo = lo + 18446744073709551616 * hi := by omega
     have e2 : (hi * 18446744073709551616 + lo) / 2 ^ 64 = hi := by rw [show (2 : Nat) ^ 64 = 18446744073709551616 from rfl]; omega
     have e3 := len_div (b := hi * 18446744073709551616 + lo) (k := 64) (by rw [show (2 : Nat) ^ 64 = 18446744073709551616 from rfl]; omega)
     rw [e2] at e3
     omega
   go_enter Try.func144, Try.ntmps144
   go_wp2_with fail
   go_loopw [3, 4, 5] (fun n x s wr => LenR L n x s w wr (wdo hi lo e more)) (fun _ _ s _ => (intOf s).toNat)
   case atStart => exact ⟨rfl, 64, hi, 32, rfl, rfl, rfl, by omega, H1.out, h1, .inl rfl⟩
   case round =>
     obtain ⟨rfl, a, b, k, rfl, rfl, rfl, ha, hl, hb, hk⟩ := hrel
     have HB := Lib.hid hl
     clear hl
     rcases hk with rfl | ⟨rfl, hb'⟩ | ⟨rfl, hb'⟩ | ⟨rfl, hb'⟩ | ⟨rfl, hb'⟩ | ⟨rfl, hb'⟩ | ⟨rfl, hb'⟩
     · go_wp2_with fail
       · rename_i h
         obtain ⟨q1, q2, q3⟩ := lr_up 32 4294967296 rfl (by decide) h HB.out hL2
         exact ⟨⟨rfl, a + 32, b / 4294967296, 16, congrArg _ (by omega), congrArg _ (by omega), rfl, q1, q2, by omega, by omega⟩, by decide⟩
       · rename_i h
         have q3 := lr_lt 4294967296 (by decide) h
         exact ⟨⟨rfl, a, b, 16, rfl, rfl, rfl, ha, HB.out, hb, by omega⟩, by decide⟩
     · go_wp2_with fail
       · rename_i h
         obtain ⟨q1, q2, q3⟩ := lr_up 16 65536 rfl (by decide) h HB.out hL2
         exact ⟨⟨rfl, a + 16, b / 65536, 8, congrArg _ (by omega), congrArg _ (by omega), rfl, q1, q2, by omega, by omega⟩, by decide⟩
       · rename_i h
         have q3 := lr_lt 65536 (by decide) h
         exact ⟨⟨rfl, a, b, 8, rfl, rfl, rfl, ha, HB.out, hb, by omega⟩, by decide⟩
     · go_wp2_with fail
       · rename_i h
         obtain ⟨q1, q2, q3⟩ := lr_up 8 256 rfl (by decide) h HB.out hL2
         exact ⟨⟨rfl, a + 8, b / 256, 4, congrArg _ (by omega), congrArg _ (by omega), rfl, q1, q2, by omega, by omega⟩, by decide⟩
       · rename_i h
         have q3 := lr_lt 256 (by decide) h
         exact ⟨⟨rfl, a, b, 4, rfl, rfl, rfl, ha, HB.out, hb, by omega⟩, by decide⟩
     · go_wp2_with fail
       · rename_i h
         obtain ⟨q1, q2, q3⟩ := lr_up 4 16 rfl (by decide) h HB.out hL2
         exact ⟨⟨rfl, a + 4, b / 16, 2, congrArg _ (by omega), congrArg _ (by omega), rfl, q1, q2, by omega, by omega⟩, by decide⟩
       · rename_i h
         have q3 := lr_lt 16 (by decide) h
         exact ⟨⟨rfl, a, b, 2, rfl, rfl, rfl, ha, HB.out, hb, by omega⟩, by decide⟩
     · go_wp2_with fail
       · rename_i h
         obtain ⟨q1, q2, q3⟩ := lr_up 2 4 rfl (by decide) h HB.out hL2
         exact ⟨⟨rfl, a + 2, b / 4, 1, congrArg _ (by omega), congrArg _ (by omega), rfl, q1, q2, by omega, by omega⟩, by decide⟩
       · rename_i h
         have q3 := lr_lt 4 (by decide) h
         exact ⟨⟨rfl, a, b, 1, rfl, rfl, rfl, ha, HB.out, hb, by omega⟩, by decide⟩
     · go_wp2_with fail
       · rename_i h
         obtain ⟨q1, q2, q3⟩ := lr_up 1 2 rfl (by decide) h HB.out hL2
         exact ⟨⟨rfl, a + 1, b / 2, 0, congrArg _ (by omega), congrArg _ (by omega), rfl, q1, q2, by omega, by omega⟩, by decide⟩
       · rename_i h
         have q3 := lr_lt 2 (by decide) h
         exact ⟨⟨rfl, a, b, 0, rfl, rfl, rfl, ha, HB.out, hb, by omega⟩, by decide⟩
     · go_wp2_with fail
       go_ret
       refine ⟨ret_int ?_, _, rfl⟩
       rw [← HB.out, len_bit hb']
       omega
end Go.Proofs.Ytnljfcebmgifdaa
namespace Go.Proofs.Ytnljfcebmgifdaa
open Go.RowKit Ieee
theorem wdW_eq {more more' : Bool} {a b e e' : Int} {W : Nat} (ha : a = ((W / 18446744073709551616 : Nat) : Int)) (hb : b = ((W % 18446744073709551616 : Nat) : Int)) (he : e = e') (hm : more = more') :
   Ending.returned (.agg #[.int .u64 a, .int .u64 b, .int .i64 e, .bool more]) = .returned (wdW W e' more') := by
 subst ha hb he hm; rfl
theorem up_any (W : Nat) (e : Int) (more : Bool) (n : Nat) (hW : W * 2 ^ n < 340282366920938463463374607431768211456) (hn : n ≤ 128) (he : -100000 ≤ e) (he2 : e ≤ 100000) (w : World) :
   Calls Try.prog 143 #[wdW W e more, .int .i64 (n : Int)] w fun r w' => r = .returned (wdW (W * 2 ^ n) (e - n) more) ∧ ∃ k o o', w' = ((w.alloc o).alloc o').drewN k := by
 have hW1 : W < 340282366920938463463374607431768211456 := Nat.lt_of_le_of_lt (Nat.le_mul_of_pos_right W (Nat.two_pow_pos n)) hW
 obtain ⟨hi, lo, h1, h2, rfl⟩ : ∃ hi lo, hi < 18446744073709551616 ∧ lo < 18446744073709551616 ∧ W = hi * 18446744073709551616 + lo :=
   ⟨W / 18446744073709551616, W % 18446744073709551616, by omega, by omega, by omega⟩
 unfold wdW
 rw [show (hi * 18446744073709551616 + lo) / 18446744073709551616 = hi by omega, show (hi * 18446744073709551616 + lo) % 18446744073709551616 = lo by omega]
 have HW := Lib.hid hW
 clear hW hW1
 by_cases h64 : 64 ≤ n
 · go_enter Try.func143, Try.ntmps143
   go_wp2_with fail
   (try simp only [Exit.inBlock, Exit.then])
   refine bodyPost_ret (res58 rfl _ _ _ _ _ rfl (heap_alloc2_new _ _ _) rfl) rfl ?_
   obtain ⟨q1, q2⟩ := left_hi1 h2 h64 HW.out
   refine ⟨wdW_eq ?_ ?_ rfl rfl, 0, _, _, rfl⟩
   · rw [wrap_mul, q1]
   · rw [q2]; rfl
 · by_cases h0 : n = 0
   · subst h0
     go_enter Try.func143, Try.ntmps143
     go_wp2_with fail
     (try simp only [Exit.inBlock, Exit.then])
     refine bodyPost_ret (res58 rfl _ _ _ _ _ rfl (heap_alloc2_new _ _ _) rfl) rfl ?_
     refine ⟨wdW_eq ?_ ?_ (by omega) rfl, 0, _, _, rfl⟩
     · rw [Nat.pow_zero]; omega
     · rw [Nat.pow_zero]; omega
   · have hp : 0 < n := by omega
     have hq : n < 64 := by omega
     clear h0 h64 hn
     go_enter Try.func143, Try.ntmps143
     go_wp2_with fail
     go_region
     go_wp2_with fail
     (try simp only [Exit.inBlock, Exit.then])
     refine bodyPost_ret (res58 rfl _ _ _ _ _ rfl (heap_alloc2_new _ _ _) rfl) rfl ?_
     obtain ⟨q1, q2, q3, q4⟩ := left_hi2 h1 h2 hq HW.out
     refine ⟨wdW_eq ?_ ?_ rfl rfl, 1, _, _, rfl⟩
     · rw [wrap_mul, div_nat, bits_or_u64_nat _ _ q3 q4, q1]
     · rw [wrap_mul, q2]
theorem heap_alloc4_3 (w : World) (a b c d : Obj) : ((((w.alloc a).alloc b).alloc c).alloc d).heap[w.heap.size + 1 + 1]? = some c := by
 refine (Below.heap_alloc _ _ _ (by simp)).trans ?_
 have := heap_alloc_new ((w.alloc a).alloc b) c
 simpa using this
theorem wless_words (ah al bh bl : Nat) (ea eb : Int) (ma mb : Bool) (w : World) :
   Calls Try.prog 146 #[wdv ah al ea ma, wdv bh bl eb mb] w fun r w' => r = .returned (.bool (decide (ah < bh) || (decide (ah = bh) && decide (al < bl)))) ∧ ∃ o o', w' = (w.alloc o).alloc o' := by
 go_enter Try.func146, Try.ntmps146
 go_wp2_with fail
 all_goals (go_ret; refine ⟨ret_bool ?_, _, _, rfl⟩; first | rfl | (rw [Bool.eq_iff_iff]; simp; omega))
theorem wless_any (A B : Nat) (ea eb : Int) (ma mb : Bool) (hA : A < 340282366920938463463374607431768211456) (hB : B < 340282366920938463463374607431768211456) (w : World) :
   Calls Try.prog 146 #[wdW A ea ma, wdW B eb mb] w fun r w' => r = .returned (.bool (decide (A < B))) ∧ ∃ o o', w' = (w.alloc o).alloc o' := by
 refine (wless_words _ _ _ _ ea eb ma mb w).mono ?_
 rintro r w' ⟨rfl, h⟩
 refine ⟨ret_bool ?_, h⟩
 rw [Bool.eq_iff_iff]
 simp only [Bool.or_eq_true, Bool.and_eq_true, decide_eq_true_eq]
 omega
theorem wplus_any (A B : Nat) (e eb : Int) (mb : Bool) (hA : A < 340282366920938463463374607431768211456) (hB : B < 340282366920938463463374607431768211456) (hS : A + B < 340282366920938463463374607431768211456) (w : World) :
   Calls Try.prog 149 #[wdW A e false, wdW B eb mb] w fun r w' => r = .returned (wdW (A + B) e mb) ∧ ∃ o o' o'' o3, w' = (((w.alloc o).alloc o').alloc o'').alloc o3 := by
 obtain ⟨ah, al, a1, a2, rfl, a3, a4⟩ := words A hA
 obtain ⟨bh, bl, b1, b2, rfl, b3, b4⟩ := words B hB
 have HS := Lib.hid hS
 unfold wdW
 rw [a3, a4, b3, b4]
 clear hA hB hS a3 a4 b3 b4
 go_enter Try.func149, Try.ntmps149
 go_wp2_with fail
 all_goals
   (try simp only [Exit.inBlock, Exit.then])
   refine bodyPost_ret (res58 rfl _ _ _ _ _ rfl (heap_alloc4_3 _ _ _ _ _) rfl) rfl ?_
   refine ⟨wdW_eq ?_ ?_ rfl rfl, _, _, _, _, rfl⟩
 all_goals
   have hS := HS.out
   clear HS
   simp only [IntKind.wrap_u64, decide_eq_true_eq, decide_eq_false_iff_not] at *
   omega
theorem wminus_any (A B : Nat) (e eb : Int) (ma mb : Bool) (hA : A < 340282366920938463463374607431768211456) (hS : B ≤ A) (w : World) :
   Calls Try.prog 150 #[wdW A e ma, wdW B eb mb] w fun r w' => r = .returned (wdW (A - B) e false) ∧ ∃ o o' o'' o3, w' = (((w.alloc o).alloc o').alloc o'').alloc o3 := by
 have hB : B < 340282366920938463463374607431768211456 := by omega
 obtain ⟨ah, al, a1, a2, rfl, a3, a4⟩ := words A hA
 obtain ⟨bh, bl, b1, b2, rfl, b3, b4⟩ := words B hB
 have HS := Lib.hid (show bh * 18446744073709551616 + bl ≤ ah * 18446744073709551616 + al ∧ ah < 18446744073709551616 ∧ al < 18446744073709551616 ∧ bh < 18446744073709551616 ∧ bl < 18446744073709551616 from ⟨hS, a1, a2, b1, b2⟩)
 unfold wdW
 rw [a3, a4, b3, b4]
 clear hA hB hS a3 a4 b3 b4 a1 a2 b1 b2
 go_enter Try.func150, Try.ntmps150
 go_wp2_with fail
 all_goals
   (try simp only [Exit.inBlock, Exit.then])
   refine bodyPost_ret (res58 rfl _ _ _ _ _ rfl (heap_alloc4_3 _ _ _ _ _) rfl) rfl ?_
   refine ⟨wdW_eq ?_ ?_ rfl rfl, _, _, _, _, rfl⟩
 all_goals
   obtain ⟨hS, a1, a2, b1, b2⟩ := HS.out
   clear HS
   simp only [IntKind.wrap_u64] at *
   omega
end Go.Proofs.Ytnljfcebmgifdaa
namespace Go.Proofs.Ytnljfcebmgifdaa
open Go.RowKit Ieee
def DnR (hi lo : Nat) (e : Int) (more : Bool) (n : Nat) (w : World) (c : Value) (wr : World) : Prop :=
 (c = .int .i64 (n : Int) ∧ wr = (w.alloc (wdo hi lo (e + n) more)).alloc (wdo 0 0 0 false)) ∨
 (64 ≤ n ∧ hi ≠ 0 ∧ c = .int .i64 ((n - 64 : Nat) : Int) ∧ wr = (w.alloc (wdo 0 hi (e + n) (more || (lo : Int) != 0))).alloc (wdo 0 0 0 false))
theorem dn_lo {lo n : Nat} (h2 : lo < 18446744073709551616) (h64 : 64 ≤ n) : lo / 2 ^ n = 0 ∧ lo % 2 ^ n = lo := by
 have h : lo < 2 ^ n := Nat.lt_of_lt_of_le h2 (by have := Nat.pow_le_pow_right (show 0 < 2 by decide) h64; exact this)
 exact ⟨Nat.div_eq_of_lt h, Nat.mod_eq_of_lt h⟩
theorem int_ne_zero {n : Nat} (h : ((n : Int) == 0) = false) : n ≠ 0 := by
 intro e; subst e; exact absurd h (by decide)
theorem int_eq_zero {n : Nat} (h : ((n : Int) == 0) = true) : n = 0 := by simpa using h
theorem down_i_false (hi lo : Nat) (e : Int) (n : Nat) (h64 : n < 64) (hp : 0 < n) (hn : n < 100000) (he : -100000 ≤ e) (he2 : e ≤ 100000) (w : World) :
   Calls Try.prog 148 #[wdv hi lo e false, .int .i64 (n : Int)] w fun r w' => r = .returned (.agg #[.int .u64 ((hi : Int) / 2 ^ n), .int .u64 (bits .or .u64 ((lo : Int) / 2 ^ n) (IntKind.u64.wrap ((hi : Int) * 2 ^ (64 - n)))), .int .i64 (e + n), .bool (false || (IntKind.u64.wrap ((lo : Int) * 2 ^ (64 - n)) != 0))]) ∧ ∃ k o o', w' = ((w.alloc o).alloc o').drewN k := by
 generalize hres : Ending.returned (.agg #[.int .u64 ((hi : Int) / 2 ^ n), .int .u64 (bits .or .u64 ((lo : Int) / 2 ^ n) (IntKind.u64.wrap ((hi : Int) * 2 ^ (64 - n)))), .int .i64 (e + n), .bool (false || (IntKind.u64.wrap ((lo : Int) * 2 ^ (64 - n)) != 0))]) = res
 have HR := Lib.hid hres
 clear hres
 go_enter Try.func148, Try.ntmps148
 go_wp2_with fail
 go_loopw [1] (fun c wr => DnR hi lo e false n w c wr) (fun c _ => (intOf c).toNat)
 case atStart => exact .inl ⟨rfl, rfl⟩
 case round =>
   rcases hrel with ⟨rfl, rfl⟩ | ⟨hn1, hh, rfl, rfl⟩
   · go_wp2_with fail
     go_region
     go_wp2_with fail
     (try simp only [Exit.inBlock, Exit.then]); refine bodyPost_ret (res58 rfl _ _ _ _ _ rfl (heap_alloc2_new _ _ _) rfl) rfl ?_; refine ⟨Eq.trans ?_ HR.out, 1, _, _, rfl⟩
     rfl
   · omega
theorem down_ii_false (hi lo : Nat) (e : Int) (n : Nat) (h64 : 64 ≤ n) (h0 : ((hi : Int) == 0) = true) (hp : 0 < n) (hn : n < 100000) (he : -100000 ≤ e) (he2 : e ≤ 100000) (w : World) :
   Calls Try.prog 148 #[wdv hi lo e false, .int .i64 (n : Int)] w fun r w' => r = .returned (.agg #[.int .u64 0, .int .u64 (hi : Int), .int .i64 (e + n), .bool (false || ((lo : Int) != 0))]) ∧ ∃ k o o', w' = ((w.alloc o).alloc o').drewN k := by
 generalize hres : Ending.returned (.agg #[.int .u64 0, .int .u64 (hi : Int), .int .i64 (e + n), .bool (false || ((lo : Int) != 0))]) = res
 have HR := Lib.hid hres
 clear hres
 go_enter Try.func148, Try.ntmps148
 go_wp2_with fail
 go_loopw [1] (fun c wr => DnR hi lo e false n w c wr) (fun c _ => (intOf c).toNat)
 case atStart => exact .inl ⟨rfl, rfl⟩
 case round =>
   rcases hrel with ⟨rfl, rfl⟩ | ⟨hn1, hh, rfl, rfl⟩
   · go_wp2_with fail
     (try simp only [Exit.inBlock, Exit.then]); refine bodyPost_ret (res58 rfl _ _ _ _ _ rfl (heap_alloc2_new _ _ _) rfl) rfl ?_; refine ⟨Eq.trans ?_ HR.out, 0, _, _, rfl⟩
     rfl
   · exact absurd (int_eq_zero h0) hh
theorem down_iiia_false (hi lo : Nat) (e : Int) (n : Nat) (h64 : 128 ≤ n) (h0 : ((hi : Int) == 0) = false) (hp : 0 < n) (hn : n < 100000) (he : -100000 ≤ e) (he2 : e ≤ 100000) (w : World) :
   Calls Try.prog 148 #[wdv hi lo e false, .int .i64 (n : Int)] w fun r w' => r = .returned (.agg #[.int .u64 0, .int .u64 0, .int .i64 (e + n), .bool true]) ∧ ∃ k o o', w' = ((w.alloc o).alloc o').drewN k := by
 generalize hres : Ending.returned (.agg #[.int .u64 0, .int .u64 0, .int .i64 (e + n), .bool true]) = res
 have HR := Lib.hid hres
 clear hres
 go_enter Try.func148, Try.ntmps148
 go_wp2_with fail
 go_loopw [1] (fun c wr => DnR hi lo e false n w c wr) (fun c _ => (intOf c).toNat)
 case atStart => exact .inl ⟨rfl, rfl⟩
 case round =>
   rcases hrel with ⟨rfl, rfl⟩ | ⟨hn1, hh, rfl, rfl⟩
   · go_wp2_with fail
     exact ⟨.inr ⟨by omega, int_ne_zero h0, congrArg _ (by omega), rfl⟩, by simp only [intOf]; omega⟩
   · generalize hm : (false || (lo : Int) != 0) = m
     have HM := Lib.hid hm
     clear hm
     have h1 : n - 64 ≤ 100000 := by omega
     have h2 : 64 ≤ n - 64 := by omega
     have h3 : ((hi : Int) != 0) = true := by simpa using hh
     cases m
     all_goals
       go_wp2_with fail
       (try simp only [Exit.inBlock, Exit.then]); refine bodyPost_ret (res58 rfl _ _ _ _ _ rfl (heap_alloc2_new _ _ _) rfl) rfl ?_; refine ⟨Eq.trans ?_ HR.out, 0, _, _, rfl⟩
       first | rfl | (rw [HM.out]; done) | (rw [HM.out]; rfl)
theorem down_iiib_false (hi lo : Nat) (e : Int) (n : Nat) (h64 : 64 ≤ n) (h65 : n ≤ 64) (h0 : ((hi : Int) == 0) = false) (hp : 0 < n) (hn : n < 100000) (he : -100000 ≤ e) (he2 : e ≤ 100000) (w : World) :
   Calls Try.prog 148 #[wdv hi lo e false, .int .i64 (n : Int)] w fun r w' => r = .returned (.agg #[.int .u64 0, .int .u64 (hi : Int), .int .i64 (e + n), .bool (false || (lo : Int) != 0)]) ∧ ∃ k o o', w' = ((w.alloc o).alloc o').drewN k := by
 generalize hres : Ending.returned (.agg #[.int .u64 0, .int .u64 (hi : Int), .int .i64 (e + n), .bool (false || (lo : Int) != 0)]) = res
 have HR := Lib.hid hres
 clear hres
 go_enter Try.func148, Try.ntmps148
 go_wp2_with fail
 go_loopw [1] (fun c wr => DnR hi lo e false n w c wr) (fun c _ => (intOf c).toNat)
 case atStart => exact .inl ⟨rfl, rfl⟩
 case round =>
   rcases hrel with ⟨rfl, rfl⟩ | ⟨hn1, hh, rfl, rfl⟩
   · go_wp2_with fail
     exact ⟨.inr ⟨by omega, int_ne_zero h0, congrArg _ (by omega), rfl⟩, by simp only [intOf]; omega⟩
   · generalize hm : (false || (lo : Int) != 0) = m
     have HM := Lib.hid hm
     clear hm
     have h1 : n - 64 ≤ 100000 := by omega
     cases m
     all_goals
       go_wp2_with fail
       (try simp only [Exit.inBlock, Exit.then]); refine bodyPost_ret (res58 rfl _ _ _ _ _ rfl (heap_alloc2_new _ _ _) rfl) rfl ?_; refine ⟨Eq.trans ?_ HR.out, 0, _, _, rfl⟩
       first | rfl | (rw [HM.out]; done) | (rw [HM.out]; rfl)
theorem down_iiic_false (hi lo : Nat) (e : Int) (n : Nat) (h64 : 64 < n) (h128 : n < 128) (h0 : ((hi : Int) == 0) = false) (hp : 0 < n) (hn : n < 100000) (he : -100000 ≤ e) (he2 : e ≤ 100000) (w : World) :
   Calls Try.prog 148 #[wdv hi lo e false, .int .i64 (n : Int)] w fun r w' => r = .returned (.agg #[.int .u64 0, .int .u64 (bits .or .u64 ((hi : Int) / 2 ^ (n - 64)) 0), .int .i64 (e + n), .bool ((false || (lo : Int) != 0) || (IntKind.u64.wrap ((hi : Int) * 2 ^ (64 - (n - 64))) != 0))]) ∧ ∃ k o o', w' = ((w.alloc o).alloc o').drewN k := by
 generalize hres : Ending.returned (.agg #[.int .u64 0, .int .u64 (bits .or .u64 ((hi : Int) / 2 ^ (n - 64)) 0), .int .i64 (e + n), .bool ((false || (lo : Int) != 0) || (IntKind.u64.wrap ((hi : Int) * 2 ^ (64 - (n - 64))) != 0))]) = res
 have HR := Lib.hid hres
 clear hres
 go_enter Try.func148, Try.ntmps148
 go_wp2_with fail
 go_loopw [1] (fun c wr => DnR hi lo e false n w c wr) (fun c _ => (intOf c).toNat)
 case atStart => exact .inl ⟨rfl, rfl⟩
 case round =>
   rcases hrel with ⟨rfl, rfl⟩ | ⟨hn1, hh, rfl, rfl⟩
   · go_wp2_with fail
     exact ⟨.inr ⟨by omega, int_ne_zero h0, congrArg _ (by omega), rfl⟩, by simp only [intOf]; omega⟩
   · generalize hm : (false || (lo : Int) != 0) = m
     have HM := Lib.hid hm
     clear hm
     have h1 : n - 64 ≤ 100000 := by omega
     have h2 : n - 64 < 64 := by omega
     have h3 : 0 < n - 64 := by omega
     cases m
     all_goals
       go_wp2_with fail
       go_region
       go_wp2_with fail
       (try simp only [Exit.inBlock, Exit.then]); refine bodyPost_ret (res58 rfl _ _ _ _ _ rfl (heap_alloc2_new _ _ _) rfl) rfl ?_; refine ⟨Eq.trans ?_ HR.out, 1, _, _, rfl⟩
       first | rfl | (rw [HM.out]; done) | (rw [HM.out]; rfl)
theorem down_i_true (hi lo : Nat) (e : Int) (n : Nat) (h64 : n < 64) (hp : 0 < n) (hn : n < 100000) (he : -100000 ≤ e) (he2 : e ≤ 100000) (w : World) :
   Calls Try.prog 148 #[wdv hi lo e true, .int .i64 (n : Int)] w fun r w' => r = .returned (.agg #[.int .u64 ((hi : Int) / 2 ^ n), .int .u64 (bits .or .u64 ((lo : Int) / 2 ^ n) (IntKind.u64.wrap ((hi : Int) * 2 ^ (64 - n)))), .int .i64 (e + n), .bool (true || (IntKind.u64.wrap ((lo : Int) * 2 ^ (64 - n)) != 0))]) ∧ ∃ k o o', w' = ((w.alloc o).alloc o').drewN k := by
 generalize hres : Ending.returned (.agg #[.int .u64 ((hi : Int) / 2 ^ n), .int .u64 (bits .or .u64 ((lo : Int) / 2 ^ n) (IntKind.u64.wrap ((hi : Int) * 2 ^ (64 - n)))), .int .i64 (e + n), .bool (true || (IntKind.u64.wrap ((lo : Int) * 2 ^ (64 - n)) != 0))]) = res
 have HR := Lib.hid hres
 clear hres
 go_enter Try.func148, Try.ntmps148
 go_wp2_with fail
 go_loopw [1] (fun c wr => DnR hi lo e true n w c wr) (fun c _ => (intOf c).toNat)
 case atStart => exact .inl ⟨rfl, rfl⟩
 case round =>
   rcases hrel with ⟨rfl, rfl⟩ | ⟨hn1, hh, rfl, rfl⟩
   · go_wp2_with fail
     go_region
     go_wp2_with fail
     (try simp only [Exit.inBlock, Exit.then]); refine bodyPost_ret (res58 rfl _ _ _ _ _ rfl (heap_alloc2_new _ _ _) rfl) rfl ?_; refine ⟨Eq.trans ?_ HR.out, 1, _, _, rfl⟩
     rfl
   · omega
theorem down_ii_true (hi lo : Nat) (e : Int) (n : Nat) (h64 : 64 ≤ n) (h0 : ((hi : Int) == 0) = true) (hp : 0 < n) (hn : n < 100000) (he : -100000 ≤ e) (he2 : e ≤ 100000) (w : World) :
   Calls Try.prog 148 #[wdv hi lo e true, .int .i64 (n : Int)] w fun r w' => r = .returned (.agg #[.int .u64 0, .int .u64 (hi : Int), .int .i64 (e + n), .bool (true || ((lo : Int) != 0))]) ∧ ∃ k o o', w' = ((w.alloc o).alloc o').drewN k := by
 generalize hres : Ending.returned (.agg #[.int .u64 0, .int .u64 (hi : Int), .int .i64 (e + n), .bool (true || ((lo : Int) != 0))]) = res
 have HR := Lib.hid hres
 clear hres
 go_enter Try.func148, Try.ntmps148
 go_wp2_with fail
 go_loopw [1] (fun c wr => DnR hi lo e true n w c wr) (fun c _ => (intOf c).toNat)
 case atStart => exact .inl ⟨rfl, rfl⟩
 case round =>
   rcases hrel with ⟨rfl, rfl⟩ | ⟨hn1, hh, rfl, rfl⟩
   · go_wp2_with fail
     (try simp only [Exit.inBlock, Exit.then]); refine bodyPost_ret (res58 rfl _ _ _ _ _ rfl (heap_alloc2_new _ _ _) rfl) rfl ?_; refine ⟨Eq.trans ?_ HR.out, 0, _, _, rfl⟩
     rfl
   · exact absurd (int_eq_zero h0) hh
theorem down_iiia_true (hi lo : Nat) (e : Int) (n : Nat) (h64 : 128 ≤ n) (h0 : ((hi : Int) == 0) = false) (hp : 0 < n) (hn : n < 100000) (he : -100000 ≤ e) (he2 : e ≤ 100000) (w : World) :
   Calls Try.prog 148 #[wdv hi lo e true, .int .i64 (n : Int)] w fun r w' => r = .returned (.agg #[.int .u64 0, .int .u64 0, .int .i64 (e + n), .bool true]) ∧ ∃ k o o', w' = ((w.alloc o).alloc o').drewN k := by
 generalize hres : Ending.returned (.agg #[.int .u64 0, .int .u64 0, .int .i64 (e + n), .bool true]) = res
 have HR := Lib.hid hres
 clear hres
 go_enter Try.func148, Try.ntmps148
 go_wp2_with fail
 go_loopw [1] (fun c wr => DnR hi lo e true n w c wr) (fun c _ => (intOf c).toNat)
 case atStart => exact .inl ⟨rfl, rfl⟩
 case round =>
   rcases hrel with ⟨rfl, rfl⟩ | ⟨hn1, hh, rfl, rfl⟩
   · go_wp2_with fail
     exact ⟨.inr ⟨by omega, int_ne_zero h0, congrArg _ (by omega), rfl⟩, by simp only [intOf]; omega⟩
   · have h1 : n - 64 ≤ 100000 := by omega
     have h2 : 64 ≤ n - 64 := by omega
     have h3 : ((hi : Int) != 0) = true := by simpa using hh
     go_wp2_with fail
     (try simp only [Exit.inBlock, Exit.then]); refine bodyPost_ret (res58 rfl _ _ _ _ _ rfl (heap_alloc2_new _ _ _) rfl) rfl ?_; refine ⟨Eq.trans ?_ HR.out, 0, _, _, rfl⟩
     rfl
theorem down_iiib_true (hi lo : Nat) (e : Int) (n : Nat) (h64 : 64 ≤ n) (h65 : n ≤ 64) (h0 : ((hi : Int) == 0) = false) (hp : 0 < n) (hn : n < 100000) (he : -100000 ≤ e) (he2 : e ≤ 100000) (w : World) :
   Calls Try.prog 148 #[wdv hi lo e true, .int .i64 (n : Int)] w fun r w' => r = .returned (.agg #[.int .u64 0, .int .u64 (hi : Int), .int .i64 (e + n), .bool (true || (lo : Int) != 0)]) ∧ ∃ k o o', w' = ((w.alloc o).alloc o').drewN k := by
 generalize hres : Ending.returned (.agg #[.int .u64 0, .int .u64 (hi : Int), .int .i64 (e + n), .bool (true || (lo : Int) != 0)]) = res
 have HR := Lib.hid hres
 clear hres
 go_enter Try.func148, Try.ntmps148
 go_wp2_with fail
 go_loopw [1] (fun c wr => DnR hi lo e true n w c wr) (fun c _ => (intOf c).toNat)
 case atStart => exact .inl ⟨rfl, rfl⟩
 case round =>
   rcases hrel with ⟨rfl, rfl⟩ | ⟨hn1, hh, rfl, rfl⟩
   · go_wp2_with fail
     exact ⟨.inr ⟨by omega, int_ne_zero h0, congrArg _ (by omega), rfl⟩, by simp only [intOf]; omega⟩
   · have h1 : n - 64 ≤ 100000 := by omega
     go_wp2_with fail
     (try simp only [Exit.inBlock, Exit.then]); refine bodyPost_ret (res58 rfl _ _ _ _ _ rfl (heap_alloc2_new _ _ _) rfl) rfl ?_; refine ⟨Eq.trans ?_ HR.out, 0, _, _, rfl⟩
     rfl
theorem down_iiic_true (hi lo : Nat) (e : Int) (n : Nat) (h64 : 64 < n) (h128 : n < 128) (h0 : ((hi : Int) == 0) = false) (hp : 0 < n) (hn : n < 100000) (he : -100000 ≤ e) (he2 : e ≤ 100000) (w : World) :
   Calls Try.prog 148 #[wdv hi lo e true, .int .i64 (n : Int)] w fun r w' => r = .returned (.agg #[.int .u64 0, .int .u64 (bits .or .u64 ((hi : Int) / 2 ^ (n - 64)) 0), .int .i64 (e + n), .bool ((true || (lo : Int) != 0) || (IntKind.u64.wrap ((hi : Int) * 2 ^ (64 - (n - 64))) != 0))]) ∧ ∃ k o o', w' = ((w.alloc o).alloc o').drewN k := by
 generalize hres : Ending.returned (.agg #[.int .u64 0, .int .u64 (bits .or .u64 ((hi : Int) / 2 ^ (n - 64)) 0), .int .i64 (e + n), .bool ((true || (lo : Int) != 0) || (IntKind.u64.wrap ((hi : Int) * 2 ^ (64 - (n - 64))) != 0))]) = res
 have HR := Lib.hid hres
 clear hres
 go_enter Try.func148, Try.ntmps148
 go_wp2_with fail
 go_loopw [1] (fun c wr => DnR hi lo e true n w c wr) (fun c _ => (intOf c).toNat)
 case atStart => exact .inl ⟨rfl, rfl⟩
 case round =>
   rcases hrel with ⟨rfl, rfl⟩ | ⟨hn1, hh, rfl, rfl⟩
   · go_wp2_with fail
     exact ⟨.inr ⟨by omega, int_ne_zero h0, congrArg _ (by omega), rfl⟩, by simp only [intOf]; omega⟩
   · have h1 : n - 64 ≤ 100000 := by omega
     have h2 : n - 64 < 64 := by omega
     have h3 : 0 < n - 64 := by omega
     go_wp2_with fail
     go_region
     go_wp2_with fail
     (try simp only [Exit.inBlock, Exit.then]); refine bodyPost_ret (res58 rfl _ _ _ _ _ rfl (heap_alloc2_new _ _ _) rfl) rfl ?_; refine ⟨Eq.trans ?_ HR.out, 1, _, _, rfl⟩
     rfl
theorem down_any (W : Nat) (e : Int) (more : Bool) (n : Nat) (hW : W < 340282366920938463463374607431768211456) (hp : 0 < n) (hn : n < 100000) (he : -100000 ≤ e) (he2 : e ≤ 100000) (w : World) :
   Calls Try.prog 148 #[wdW W e more, .int .i64 (n : Int)] w fun r w' => r = .returned (wdW (W / 2 ^ n) (e + n) (more || W % 2 ^ n != 0)) ∧ ∃ k o o', w' = ((w.alloc o).alloc o').drewN k := by
 obtain ⟨hi, lo, h1, h2, hWe, e1, e2⟩ := words W hW
 unfold wdW
 rw [e1, e2]
 by_cases h64 : n < 64
 · obtain ⟨q1, q2, q3, q4, q5⟩ := right_lo2 (hi := hi) (lo := lo) h1 h2 hp h64
   have H : ∀ (r : Ending) (w' : World), (r = .returned (.agg #[.int .u64 ((hi : Int) / 2 ^ n), .int .u64 (bits .or .u64 ((lo : Int) / 2 ^ n) (IntKind.u64.wrap ((hi : Int) * 2 ^ (64 - n)))), .int .i64 (e + n), .bool (more || (IntKind.u64.wrap ((lo : Int) * 2 ^ (64 - n)) != 0))]) ∧ ∃ k o o', w' = ((w.alloc o).alloc o').drewN k) →
       (r = .returned (wdW (W / 2 ^ n) (e + n) (more || W % 2 ^ n != 0)) ∧ ∃ k o o', w' = ((w.alloc o).alloc o').drewN k) := by
     rintro r w' ⟨rfl, h⟩
     refine ⟨wdW_eq ?_ ?_ rfl ?_, h⟩
     · rw [div_nat, q1, hWe]
     · rw [div_nat, wrap_mul, bits_or_u64_nat _ _ q4 q5, q2, hWe]
     · rw [wrap_mul, bne_zero, q3, hWe]
   cases more
   · exact (down_i_false hi lo e n h64 hp hn he he2 w).mono H
   · exact (down_i_true hi lo e n h64 hp hn he he2 w).mono H
 · by_cases h0 : hi = 0
   · have h0' : ((hi : Int) == 0) = true := by rw [h0]; rfl
     have hWl : W = lo := by omega
     obtain ⟨q1, q2⟩ := dn_lo (n := n) h2 (by omega)
     have H : ∀ (r : Ending) (w' : World), (r = .returned (.agg #[.int .u64 0, .int .u64 (hi : Int), .int .i64 (e + n), .bool (more || ((lo : Int) != 0))]) ∧ ∃ k o o', w' = ((w.alloc o).alloc o').drewN k) →
         (r = .returned (wdW (W / 2 ^ n) (e + n) (more || W % 2 ^ n != 0)) ∧ ∃ k o o', w' = ((w.alloc o).alloc o').drewN k) := by
       rintro r w' ⟨rfl, h⟩
       refine ⟨wdW_eq ?_ ?_ rfl ?_, h⟩
       · rw [hWl, q1, Nat.zero_div]; rfl
       · rw [hWl, q1, Nat.zero_mod, h0]
       · rw [bne_zero, hWl, q2]
     cases more
     · exact (down_ii_false hi lo e n (by omega) h0' hp hn he he2 w).mono H
     · exact (down_ii_true hi lo e n (by omega) h0' hp hn he he2 w).mono H
   · have h0' : ((hi : Int) == 0) = false := by simpa using h0
     by_cases h128 : 128 ≤ n
     · obtain ⟨q1, q2⟩ := big_pow (n := n) hW h128
       have a2 : (W != 0) = true := bne_iff_ne.2 (by omega)
       have H : ∀ (r : Ending) (w' : World), (r = .returned (.agg #[.int .u64 0, .int .u64 0, .int .i64 (e + n), .bool true]) ∧ ∃ k o o', w' = ((w.alloc o).alloc o').drewN k) →
           (r = .returned (wdW (W / 2 ^ n) (e + n) (more || W % 2 ^ n != 0)) ∧ ∃ k o o', w' = ((w.alloc o).alloc o').drewN k) := by
         rintro r w' ⟨rfl, h⟩
         refine ⟨wdW_eq ?_ ?_ rfl ?_, h⟩
         · rw [q1, Nat.zero_div]; rfl
         · rw [q1, Nat.zero_mod]; rfl
         · rw [q2, a2, Bool.or_true]
       cases more
       · exact (down_iiia_false hi lo e n h128 h0' hp hn he he2 w).mono H
       · exact (down_iiia_true hi lo e n h128 h0' hp hn he he2 w).mono H
     · obtain ⟨q1, q2, q3⟩ := right_lo3 (hi := hi) (lo := lo) (n := n) h1 h2 (by omega) (by omega)
       by_cases h65 : n ≤ 64
       · have hn64 : n = 64 := by omega
         have H : ∀ (r : Ending) (w' : World), (r = .returned (.agg #[.int .u64 0, .int .u64 (hi : Int), .int .i64 (e + n), .bool (more || (lo : Int) != 0)]) ∧ ∃ k o o', w' = ((w.alloc o).alloc o').drewN k) →
             (r = .returned (wdW (W / 2 ^ n) (e + n) (more || W % 2 ^ n != 0)) ∧ ∃ k o o', w' = ((w.alloc o).alloc o').drewN k) := by
           rintro r w' ⟨rfl, h⟩
           refine ⟨wdW_eq ?_ ?_ rfl ?_, h⟩
           · rw [hWe, q1]; rfl
           · rw [hWe, ← q2, hn64, Nat.sub_self, Nat.pow_zero, Nat.div_one]
           · rw [hWe, q3, decide_eq_false (by omega : ¬ 64 < n), Bool.and_false, Bool.or_false, bne_zero]
         cases more
         · exact (down_iiib_false hi lo e n (by omega) h65 h0' hp hn he he2 w).mono H
         · exact (down_iiib_true hi lo e n (by omega) h65 h0' hp hn he he2 w).mono H
       · have hb : hi / 2 ^ (n - 64) < 18446744073709551616 := Nat.lt_of_le_of_lt (Nat.div_le_self _ _) h1
         have H : ∀ (r : Ending) (w' : World), (r = .returned (.agg #[.int .u64 0, .int .u64 (bits .or .u64 ((hi : Int) / 2 ^ (n - 64)) 0), .int .i64 (e + n), .bool ((more || (lo : Int) != 0) || (IntKind.u64.wrap ((hi : Int) * 2 ^ (64 - (n - 64))) != 0))]) ∧ ∃ k o o', w' = ((w.alloc o).alloc o').drewN k) →
             (r = .returned (wdW (W / 2 ^ n) (e + n) (more || W % 2 ^ n != 0)) ∧ ∃ k o o', w' = ((w.alloc o).alloc o').drewN k) := by
           rintro r w' ⟨rfl, h⟩
           refine ⟨wdW_eq ?_ ?_ rfl ?_, h⟩
           · rw [hWe, q1]; rfl
           · have := bits_or_u64_nat (hi / 2 ^ (n - 64)) 0 hb (by omega)
             rw [Nat.or_zero] at this
             rw [div_nat]
             refine this.trans ?_
             rw [hWe, q2]
           · rw [hWe, q3, decide_eq_true (by omega : 64 < n), Bool.and_true, wrap_mul, bne_zero, bne_zero, show 64 - (n - 64) = 128 - n by omega, Bool.or_assoc]
         cases more
         · exact (down_iiic_false hi lo e n (by omega) (by omega) h0' hp hn he he2 w).mono H
         · exact (down_iiic_true hi lo e n (by omega) (by omega) h0' hp hn he he2 w).mono H
theorem down_none (hi lo : Nat) (e : Int) (more : Bool) (n : Int) (hn : n ≤ 0) (w : World) :
   Calls Try.prog 148 #[wdv hi lo e more, .int .i64 n] w fun r w' => r = .returned (wdv hi lo e more) ∧ ∃ k o o', w' = ((w.alloc o).alloc o').drewN k := by
 go_enter Try.func148, Try.ntmps148
 go_wp2_with fail
 (try simp only [Exit.inBlock, Exit.then])
 refine bodyPost_ret (res58 rfl _ _ _ _ _ rfl (heap_alloc2_new _ _ _) rfl) rfl ?_
 exact ⟨rfl, 0, _, _, rfl⟩
end Go.Proofs.Ytnljfcebmgifdaa
namespace Go.Proofs.Ytnljfcebmgifdaa
open Go.RowKit Ieee
namespace Fl
def pwr (e : Int) : Nat := if -1022 ≤ e then (e + 1023).toNat * 4503599627370496 else 2 ^ (e + 1074).toNat
theorem pwr_rv (e : Int) (he : -1074 ≤ e) : rv (pwr e) = 2 ^ (e + 1074).toNat := by
 unfold pwr
 by_cases h : -1022 ≤ e
 · rw [if_pos h]
   obtain ⟨q, hq⟩ : ∃ q : Nat, e = (q : Int) - 1022 := ⟨(e + 1022).toNat, by omega⟩
   have h1 := rv_of q 4503599627370496 (by omega) (.inr (Nat.le_refl _))
   rw [show (e + 1023).toNat * 4503599627370496 = q * 4503599627370496 + 4503599627370496 by omega, h1, show (e + 1074).toNat = 52 + q by omega, Nat.pow_add]
 · rw [if_neg h]
   unfold rv
   have hp : 2 ^ (e + 1074).toNat < 2 ^ 52 := Nat.pow_lt_pow_right (by decide) (by omega)
   have h3 : (2 : Nat) ^ 52 = 4503599627370496 := by decide
   rw [h3] at hp
   rw [if_pos hp]
theorem pwr_lt (e : Int) (he2 : e ≤ 1023) : pwr e < INF := by
 unfold pwr INF
 by_cases h : -1022 ≤ e
 · rw [if_pos h]; omega
 · rw [if_neg h]
   have hp : 2 ^ (e + 1074).toNat < 2 ^ 52 := Nat.pow_lt_pow_right (by decide) (by omega)
   have h3 : (2 : Nat) ^ 52 = 4503599627370496 := by decide
   omega
theorem lost_small (m : Nat) (e : Int) (h0 : m ≠ 0) (hm : m ≤ 9007199254740992) (he : 0 ≤ e) : lost m e = false := by
 unfold lost
 by_cases h : len m ≤ 53
 · unfold drop
   rw [show (max ((len m : Int) - 53) (-e)).toNat = 0 by omega, Nat.pow_zero, Nat.mod_one]; rfl
 · have hm' : m = 9007199254740992 := by
     apply Nat.le_antisymm hm
     apply Nat.le_of_not_lt
     intro hh
     have : len m ≤ 53 := len_le_of_lt (by rw [show (2 : Nat) ^ 53 = 9007199254740992 by decide]; exact hh)
     omega
   have h54 : len m ≤ 54 := len_le_of_lt (by rw [show (2 : Nat) ^ 54 = 18014398509481984 by decide]; omega)
   unfold drop
   rw [show (max ((len m : Int) - 53) (-e)).toNat = 1 by omega, hm']
   decide
theorem rv_rung_small (m : Nat) (e : Int) (h0 : m ≠ 0) (hm : m ≤ 9007199254740992) (he : 0 ≤ e) : rv (rung m e) = m * 2 ^ e.toNat := by
 have := rung_same m e h0 (lost_small m e h0 hm he)
 rw [show (-e).toNat = 0 by omega, Nat.pow_zero, Nat.mul_one] at this
 exact this
theorem rung_top (m : Nat) (e : Int) (h0 : m ≠ 0) (htop : (len m : Int) - 1 + e ≤ 1023) (he : -1074 ≤ e) : rung m (e + 1074) < INF := by
 have hk := kept_lt m (e + 1074)
 by_cases h : place m (e + 1074) ≤ 2045
 · unfold rung INF; omega
 · exfalso
   unfold place drop at h
   omega
end Fl
theorem mul_ldz (m : Nat) (e : Int) (h0 : m ≠ 0) (hm : m ≤ 9007199254740992) (he : -1074 ≤ e) (he2 : e ≤ 1023) (htop : (Fl.len m : Int) - 1 + e ≤ 1023) :
   floatBits .mul .f64 (floatOfInt .f64 (m : Int)) (Fl.pwr e) = some (ldz m e) := by
 rw [ofInt_small m h0 hm]
 have hl := Fl.rung_top m e h0 htop he
 have e1 : ldz m e = Fl.rung m (e + 1074) := by
   unfold ldz Fl.ld
   rw [if_neg h0]
   exact Nat.min_eq_left (Nat.le_of_lt hl)
 rw [e1]
 refine pos_mul _ _ _ (Fl.flt_le m h0 hm) (Fl.pwr_lt e he2) (Nat.le_of_lt hl) ?_
 obtain ⟨L, f, h1, h2, h3, h4, h5, h6, h7, h8⟩ := Fl.flt_form m h0 hm
 rw [h7, Fl.pwr_rv e he, Fl.rv_rung_small m _ h0 hm (by omega), Nat.mul_right_comm]
theorem power_any (e : Int) (he : -1074 ≤ e) (he2 : e ≤ 1023) (w : World) :
   Calls Try.prog 165 #[.int .i64 e] w fun r w' => r = .returned (.float .f64 (Fl.pwr e)) ∧ w = w' := by
 have HP : Hid ((-1022 ≤ e → Fl.pwr e = ((e + 1023) * 4503599627370496).toNat) ∧ (e < -1022 → Fl.pwr e = (IntKind.u64.wrap (2 ^ (e + 1074).toNat)).toNat)) := by
   refine Lib.hid ⟨fun h => ?_, fun h => ?_⟩
   · unfold Fl.pwr
     rw [if_pos h]; omega
   · unfold Fl.pwr
     have hp : 2 ^ (e + 1074).toNat < 2 ^ 52 := Nat.pow_lt_pow_right (by decide) (by omega)
     have h3 : (2 : Nat) ^ 52 = 4503599627370496 := by decide
     have h4 : ((2 : Int) ^ (e + 1074).toNat) = ((2 ^ (e + 1074).toNat : Nat) : Int) := by simp
     rw [if_neg (by omega), IntKind.wrap_u64, h4]
     generalize 2 ^ (e + 1074).toNat = x at *
     omega
 generalize Fl.pwr e = p at *
 by_cases h : -1022 ≤ e
 · go_enter Try.func165, Try.ntmps165
   go_wp2_with fail
   go_ret
   exact ⟨ret_float (HP.out.1 h).symm, rfl⟩
 · go_enter Try.func165, Try.ntmps165
   go_wp2_with fail
   go_ret
   exact ⟨ret_float (HP.out.2 (by omega)).symm, rfl⟩
theorem rinf_any (w : World) : Calls Try.prog 93 #[] w fun r w' => r = .returned (.float .f64 9218868437227405312) ∧ w = w' := by
 go_enter Try.func93, Try.ntmps93
 go_wp2_with fail
 go_ret
 exact ⟨rfl, rfl⟩
theorem rmost_any (w : World) : Calls Try.prog 164 #[] w fun r w' => r = .returned (.float .f64 9218868437227405311) ∧ w = w' := by
 go_enter Try.func164, Try.ntmps164
 go_wp2_with fail
 go_ret
 exact ⟨rfl, rfl⟩
theorem pl_of (b : Nat) (h : b < 18446744073709551616) (hn : Fl.nan b = false) : (FloatKind.f64.format.order b 0 == some .eq) = decide (Fl.mg b = 0) := by
 have := Fl.eq_eq (a := b) (b := 0) h (by decide) hn (by decide)
 refine this.trans ?_
 rw [decide_eq_decide, Fl.Z_eq_iff h (by decide)]
 constructor
 · rintro (h | ⟨h, _⟩)
   · rw [h]; decide
   · exact h
 · intro h
   exact .inr ⟨h, by decide⟩
theorem zeroed_any (b : Nat) (h : b < 18446744073709551616) (hn : Fl.nan b = false) (w : World) :
   Calls Try.prog 92 #[.float .f64 b] w fun r w' => r = .returned (.float .f64 (Fl.pl b)) ∧ w = w' := by
 have E := pl_of b h hn
 have HP : Hid ((Fl.mg b = 0 → Fl.pl b = 0) ∧ (Fl.mg b ≠ 0 → Fl.pl b = b)) := by
   refine Lib.hid ⟨fun h0 => ?_, fun h0 => ?_⟩
   · rcases Fl.mg_zero_cases h h0 with rfl | rfl <;> decide
   · unfold Fl.pl
     rw [if_neg]
     rintro rfl
     exact h0 (by decide)
 generalize Fl.pl b = p at *
 by_cases h0 : Fl.mg b = 0
 · rw [decide_eq_true h0] at E
   have q := HP.out.1 h0
   go_enter Try.func92, Try.ntmps92
   go_wp2_with fail
   go_ret
   exact ⟨ret_float (HP.out.1 h0).symm, rfl⟩
 · rw [decide_eq_false h0] at E
   go_enter Try.func92, Try.ntmps92
   go_wp2_with fail
   go_ret
   exact ⟨ret_float (HP.out.2 h0).symm, rfl⟩
end Go.Proofs.Ytnljfcebmgifdaa
