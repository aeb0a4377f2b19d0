/- The walk of the document's Length of a word. -/
import Derived.Test.YthkfaacgabkhhaaWi
set_option linter.unusedVariables false
set_option linter.unusedSimpArgs false
namespace Go.Proofs.Ythkfaacgabkhhaa
open Go.RowKit Ieee

abbrev wdo (hi lo : Nat) (e : Int) (more : Bool) : Obj := .cells #[.int .u64 (hi : Int), .int .u64 (lo : Int), .int .i64 e, .bool more] 58
abbrev wdW (W : Nat) (e : Int) (more : Bool) : Value := wdv (W / 18446744073709551616) (W % 18446744073709551616) e more

theorem len_div {b k : Nat} (h : 2 ^ k ≤ b) : Fl.len (b / 2 ^ k) + k = Fl.len b := by
  have h1 : k < Fl.len b := by
    apply Nat.lt_of_not_le
    intro hh
    have h2 := Fl.lt_len b
    have := Nat.pow_le_pow_right (show 0 < 2 by decide) hh
    omega
  rw [Fl.len_div_pow k h1]
  omega

def LenR (L : Nat) (n x s : Value) (w wr : World) (o : Obj) : Prop :=
  wr = w.alloc o ∧ ∃ (a b : Nat) (k : Nat), n = .int .i64 (a : Int) ∧ x = .int .u64 (b : Int) ∧ s = .int .i64 (k : Int) ∧ a ≤ 128 ∧ a + Fl.len b = L ∧ b < 18446744073709551616 ∧
    ((k = 32) ∨ (k = 16 ∧ b < 4294967296) ∨ (k = 8 ∧ b < 65536) ∨ (k = 4 ∧ b < 256) ∨ (k = 2 ∧ b < 16) ∨ (k = 1 ∧ b < 4) ∨ (k = 0 ∧ b < 2))

theorem len_bit {b : Nat} (h : b < 2) : Fl.len b = b := by
  rcases (show b = 0 ∨ b = 1 by omega) with rfl | rfl
  · rfl
  · decide

theorem lr_up {a b L : Nat} (k P : Nat) (hP : 2 ^ k = P) (hp : 0 < P) (h : ((b : Int) / (P : Int) != 0) = true) (hl : a + Fl.len b = L) (hL : L ≤ 128) : a + k ≤ 128 ∧ a + k + Fl.len (b / P) = L ∧ P ≤ b := by
  have hb : P ≤ b := by
    apply Nat.le_of_not_lt
    intro hh
    have : (b : Int) / (P : Int) = 0 := Int.ediv_eq_zero_of_lt (by omega) (by omega)
    rw [this] at h
    exact absurd h (by decide)
  subst hP
  have := len_div hb
  exact ⟨by omega, by omega, hb⟩
theorem lr_lt {b : Nat} (P : Nat) (hp : 0 < P) (h : ((b : Int) / (P : Int) != 0) = false) : b < P := by
  apply Nat.lt_of_not_le
  intro hh
  have h1 : 0 < b / P := Nat.div_pos hh hp
  have h2 : (b : Int) / (P : Int) = ((b / P : Nat) : Int) := by simp
  rw [h2] at h
  simp only [bne_eq_false_iff_eq] at h
  omega

set_option maxRecDepth 100000 in
set_option maxHeartbeats 4000000 in
theorem wlen_any (hi lo : Nat) (e : Int) (more : Bool) (h1 : hi < 18446744073709551616) (h2 : lo < 18446744073709551616) (w : World) :
    Calls Try.prog 49 #[wdv hi lo e more] w fun r w' => r = .returned (.int .i64 (Fl.len (hi * 18446744073709551616 + lo) : Nat)) ∧ ∃ o, w' = w.alloc o := by
  obtain ⟨L, hL⟩ : ∃ L, Fl.len (hi * 18446744073709551616 + lo) = L := ⟨_, rfl⟩
  have hL2 : L ≤ 128 := by
    rw [← hL]; apply Fl.len_le_of_lt
    have : (2 : Nat) ^ 128 = 340282366920938463463374607431768211456 := by decide
    omega
  rw [hL]
  have HL := Lib.hid hL
  clear hL
  by_cases h0 : hi = 0
  · subst h0
    have H1 : Hid (0 + Fl.len lo = L) := by
      refine Lib.hid ?_
      rw [← HL.out, Nat.zero_mul, Nat.zero_add, Nat.zero_add]
    go_enter Try.func49, Try.ntmps49
    go_wp2_with fail
    go_loopw [3, 4, 5] (fun n x s wr => LenR L n x s w wr (wdo 0 lo e more)) (fun _ _ s _ => (intOf s).toNat)
    case atStart => exact ⟨rfl, 0, lo, 32, rfl, rfl, rfl, by omega, H1.out, h2, .inl rfl⟩
    case round =>
      obtain ⟨rfl, a, b, k, rfl, rfl, rfl, ha, hl, hb, hk⟩ := hrel
      have HB := Lib.hid hl
      clear hl
      rcases hk with rfl | ⟨rfl, hb'⟩ | ⟨rfl, hb'⟩ | ⟨rfl, hb'⟩ | ⟨rfl, hb'⟩ | ⟨rfl, hb'⟩ | ⟨rfl, hb'⟩
      · go_wp2_with fail
        · rename_i h
          obtain ⟨q1, q2, q3⟩ := lr_up 32 4294967296 rfl (by decide) h HB.out hL2
          exact ⟨⟨rfl, a + 32, b / 4294967296, 16, congrArg _ (by omega), congrArg _ (by omega), rfl, q1, q2, by omega, by omega⟩, by decide⟩
        · rename_i h
          have q3 := lr_lt 4294967296 (by decide) h
          exact ⟨⟨rfl, a, b, 16, rfl, rfl, rfl, ha, HB.out, hb, by omega⟩, by decide⟩
      · go_wp2_with fail
        · rename_i h
          obtain ⟨q1, q2, q3⟩ := lr_up 16 65536 rfl (by decide) h HB.out hL2
          exact ⟨⟨rfl, a + 16, b / 65536, 8, congrArg _ (by omega), congrArg _ (by omega), rfl, q1, q2, by omega, by omega⟩, by decide⟩
        · rename_i h
          have q3 := lr_lt 65536 (by decide) h
          exact ⟨⟨rfl, a, b, 8, rfl, rfl, rfl, ha, HB.out, hb, by omega⟩, by decide⟩
      · go_wp2_with fail
        · rename_i h
          obtain ⟨q1, q2, q3⟩ := lr_up 8 256 rfl (by decide) h HB.out hL2
          exact ⟨⟨rfl, a + 8, b / 256, 4, congrArg _ (by omega), congrArg _ (by omega), rfl, q1, q2, by omega, by omega⟩, by decide⟩
        · rename_i h
          have q3 := lr_lt 256 (by decide) h
          exact ⟨⟨rfl, a, b, 4, rfl, rfl, rfl, ha, HB.out, hb, by omega⟩, by decide⟩
      · go_wp2_with fail
        · rename_i h
          obtain ⟨q1, q2, q3⟩ := lr_up 4 16 rfl (by decide) h HB.out hL2
          exact ⟨⟨rfl, a + 4, b / 16, 2, congrArg _ (by omega), congrArg _ (by omega), rfl, q1, q2, by omega, by omega⟩, by decide⟩
        · rename_i h
          have q3 := lr_lt 16 (by decide) h
          exact ⟨⟨rfl, a, b, 2, rfl, rfl, rfl, ha, HB.out, hb, by omega⟩, by decide⟩
      · go_wp2_with fail
        · rename_i h
          obtain ⟨q1, q2, q3⟩ := lr_up 2 4 rfl (by decide) h HB.out hL2
          exact ⟨⟨rfl, a + 2, b / 4, 1, congrArg _ (by omega), congrArg _ (by omega), rfl, q1, q2, by omega, by omega⟩, by decide⟩
        · rename_i h
          have q3 := lr_lt 4 (by decide) h
          exact ⟨⟨rfl, a, b, 1, rfl, rfl, rfl, ha, HB.out, hb, by omega⟩, by decide⟩
      · go_wp2_with fail
        · rename_i h
          obtain ⟨q1, q2, q3⟩ := lr_up 1 2 rfl (by decide) h HB.out hL2
          exact ⟨⟨rfl, a + 1, b / 2, 0, congrArg _ (by omega), congrArg _ (by omega), rfl, q1, q2, by omega, by omega⟩, by decide⟩
        · rename_i h
          have q3 := lr_lt 2 (by decide) h
          exact ⟨⟨rfl, a, b, 0, rfl, rfl, rfl, ha, HB.out, hb, by omega⟩, by decide⟩
      · go_wp2_with fail
        go_ret
        refine ⟨ret_int ?_, _, rfl⟩
        rw [← HB.out, len_bit hb']
        omega
  · have H1 : Hid (64 + Fl.len hi = L) := by
      refine Lib.hid ?_
      rw [← HL.out]
      have e1 : hi * 18446744073709551616 + lo = lo + 18446744073709551616 * hi := by omega
      have e2 : (hi * 18446744073709551616 + lo) / 2 ^ 64 = hi := by rw [show (2 : Nat) ^ 64 = 18446744073709551616 from rfl]; omega
      have e3 := len_div (b := hi * 18446744073709551616 + lo) (k := 64) (by rw [show (2 : Nat) ^ 64 = 18446744073709551616 from rfl]; omega)
      rw [e2] at e3
      omega
    go_enter Try.func49, Try.ntmps49
    go_wp2_with fail
    go_loopw [3, 4, 5] (fun n x s wr => LenR L n x s w wr (wdo hi lo e more)) (fun _ _ s _ => (intOf s).toNat)
    case atStart => exact ⟨rfl, 64, hi, 32, rfl, rfl, rfl, by omega, H1.out, h1, .inl rfl⟩
    case round =>
      obtain ⟨rfl, a, b, k, rfl, rfl, rfl, ha, hl, hb, hk⟩ := hrel
      have HB := Lib.hid hl
      clear hl
      rcases hk with rfl | ⟨rfl, hb'⟩ | ⟨rfl, hb'⟩ | ⟨rfl, hb'⟩ | ⟨rfl, hb'⟩ | ⟨rfl, hb'⟩ | ⟨rfl, hb'⟩
      · go_wp2_with fail
        · rename_i h
          obtain ⟨q1, q2, q3⟩ := lr_up 32 4294967296 rfl (by decide) h HB.out hL2
          exact ⟨⟨rfl, a + 32, b / 4294967296, 16, congrArg _ (by omega), congrArg _ (by omega), rfl, q1, q2, by omega, by omega⟩, by decide⟩
        · rename_i h
          have q3 := lr_lt 4294967296 (by decide) h
          exact ⟨⟨rfl, a, b, 16, rfl, rfl, rfl, ha, HB.out, hb, by omega⟩, by decide⟩
      · go_wp2_with fail
        · rename_i h
          obtain ⟨q1, q2, q3⟩ := lr_up 16 65536 rfl (by decide) h HB.out hL2
          exact ⟨⟨rfl, a + 16, b / 65536, 8, congrArg _ (by omega), congrArg _ (by omega), rfl, q1, q2, by omega, by omega⟩, by decide⟩
        · rename_i h
          have q3 := lr_lt 65536 (by decide) h
          exact ⟨⟨rfl, a, b, 8, rfl, rfl, rfl, ha, HB.out, hb, by omega⟩, by decide⟩
      · go_wp2_with fail
        · rename_i h
          obtain ⟨q1, q2, q3⟩ := lr_up 8 256 rfl (by decide) h HB.out hL2
          exact ⟨⟨rfl, a + 8, b / 256, 4, congrArg _ (by omega), congrArg _ (by omega), rfl, q1, q2, by omega, by omega⟩, by decide⟩
        · rename_i h
          have q3 := lr_lt 256 (by decide) h
          exact ⟨⟨rfl, a, b, 4, rfl, rfl, rfl, ha, HB.out, hb, by omega⟩, by decide⟩
      · go_wp2_with fail
        · rename_i h
          obtain ⟨q1, q2, q3⟩ := lr_up 4 16 rfl (by decide) h HB.out hL2
          exact ⟨⟨rfl, a + 4, b / 16, 2, congrArg _ (by omega), congrArg _ (by omega), rfl, q1, q2, by omega, by omega⟩, by decide⟩
        · rename_i h
          have q3 := lr_lt 16 (by decide) h
          exact ⟨⟨rfl, a, b, 2, rfl, rfl, rfl, ha, HB.out, hb, by omega⟩, by decide⟩
      · go_wp2_with fail
        · rename_i h
          obtain ⟨q1, q2, q3⟩ := lr_up 2 4 rfl (by decide) h HB.out hL2
          exact ⟨⟨rfl, a + 2, b / 4, 1, congrArg _ (by omega), congrArg _ (by omega), rfl, q1, q2, by omega, by omega⟩, by decide⟩
        · rename_i h
          have q3 := lr_lt 4 (by decide) h
          exact ⟨⟨rfl, a, b, 1, rfl, rfl, rfl, ha, HB.out, hb, by omega⟩, by decide⟩
      · go_wp2_with fail
        · rename_i h
          obtain ⟨q1, q2, q3⟩ := lr_up 1 2 rfl (by decide) h HB.out hL2
          exact ⟨⟨rfl, a + 1, b / 2, 0, congrArg _ (by omega), congrArg _ (by omega), rfl, q1, q2, by omega, by omega⟩, by decide⟩
        · rename_i h
          have q3 := lr_lt 2 (by decide) h
          exact ⟨⟨rfl, a, b, 0, rfl, rfl, rfl, ha, HB.out, hb, by omega⟩, by decide⟩
      · go_wp2_with fail
        go_ret
        refine ⟨ret_int ?_, _, rfl⟩
        rw [← HB.out, len_bit hb']
        omega
end Go.Proofs.Ythkfaacgabkhhaa

namespace Go.Proofs.Ythkfaacgabkhhaa
open Go.RowKit Ieee

theorem wdW_eq {more more' : Bool} {a b e e' : Int} {W : Nat} (ha : a = ((W / 18446744073709551616 : Nat) : Int)) (hb : b = ((W % 18446744073709551616 : Nat) : Int)) (he : e = e') (hm : more = more') :
    Ending.returned (.agg #[.int .u64 a, .int .u64 b, .int .i64 e, .bool more]) = .returned (wdW W e' more') := by
  subst ha hb he hm; rfl

theorem up_any (W : Nat) (e : Int) (more : Bool) (n : Nat) (hW : W * 2 ^ n < 340282366920938463463374607431768211456) (hn : n ≤ 128) (he : -100000 ≤ e) (he2 : e ≤ 100000) (w : World) :
    Calls Try.prog 50 #[wdW W e more, .int .i64 (n : Int)] w fun r w' => r = .returned (wdW (W * 2 ^ n) (e - n) more) ∧ ∃ k o o', w' = ((w.alloc o).alloc o').drewN k := by
  have hW1 : W < 340282366920938463463374607431768211456 := Nat.lt_of_le_of_lt (Nat.le_mul_of_pos_right W (Nat.two_pow_pos n)) hW
  obtain ⟨hi, lo, h1, h2, rfl⟩ : ∃ hi lo, hi < 18446744073709551616 ∧ lo < 18446744073709551616 ∧ W = hi * 18446744073709551616 + lo :=
    ⟨W / 18446744073709551616, W % 18446744073709551616, by omega, by omega, by omega⟩
  unfold wdW
  rw [show (hi * 18446744073709551616 + lo) / 18446744073709551616 = hi by omega, show (hi * 18446744073709551616 + lo) % 18446744073709551616 = lo by omega]
  have HW := Lib.hid hW
  clear hW hW1
  by_cases h64 : 64 ≤ n
  · go_enter Try.func50, Try.ntmps50
    go_wp2_with fail
    (try simp only [Exit.inBlock, Exit.then])
    refine bodyPost_ret (res58 rfl _ _ _ _ _ rfl (heap_alloc2_new _ _ _) rfl) rfl ?_
    obtain ⟨q1, q2⟩ := left_hi1 h2 h64 HW.out
    refine ⟨wdW_eq ?_ ?_ rfl rfl, 0, _, _, rfl⟩
    · rw [wrap_mul, q1]
    · rw [q2]; rfl
  · by_cases h0 : n = 0
    · subst h0
      go_enter Try.func50, Try.ntmps50
      go_wp2_with fail
      (try simp only [Exit.inBlock, Exit.then])
      refine bodyPost_ret (res58 rfl _ _ _ _ _ rfl (heap_alloc2_new _ _ _) rfl) rfl ?_
      refine ⟨wdW_eq ?_ ?_ (by omega) rfl, 0, _, _, rfl⟩
      · rw [Nat.pow_zero]; omega
      · rw [Nat.pow_zero]; omega
    · have hp : 0 < n := by omega
      have hq : n < 64 := by omega
      clear h0 h64 hn
      go_enter Try.func50, Try.ntmps50
      go_wp2_with fail
      go_region
      go_wp2_with fail
      (try simp only [Exit.inBlock, Exit.then])
      refine bodyPost_ret (res58 rfl _ _ _ _ _ rfl (heap_alloc2_new _ _ _) rfl) rfl ?_
      obtain ⟨q1, q2, q3, q4⟩ := left_hi2 h1 h2 hq HW.out
      refine ⟨wdW_eq ?_ ?_ rfl rfl, 1, _, _, rfl⟩
      · rw [wrap_mul, div_nat, bits_or_u64_nat _ _ q3 q4, q1]
      · rw [wrap_mul, q2]

theorem heap_alloc4_3 (w : World) (a b c d : Obj) : ((((w.alloc a).alloc b).alloc c).alloc d).heap[w.heap.size + 1 + 1]? = some c := by
  refine (Below.heap_alloc _ _ _ (by simp)).trans ?_
  have := heap_alloc_new ((w.alloc a).alloc b) c
  simpa using this

theorem wless_words (ah al bh bl : Nat) (ea eb : Int) (ma mb : Bool) (w : World) :
    Calls Try.prog 54 #[wdv ah al ea ma, wdv bh bl eb mb] w fun r w' => r = .returned (.bool (decide (ah < bh) || (decide (ah = bh) && decide (al < bl)))) ∧ ∃ o o', w' = (w.alloc o).alloc o' := by
  go_enter Try.func54, Try.ntmps54
  go_wp2_with fail
  all_goals (go_ret; refine ⟨ret_bool ?_, _, _, rfl⟩; first | rfl | (rw [Bool.eq_iff_iff]; simp; omega))

theorem wless_any (A B : Nat) (ea eb : Int) (ma mb : Bool) (hA : A < 340282366920938463463374607431768211456) (hB : B < 340282366920938463463374607431768211456) (w : World) :
    Calls Try.prog 54 #[wdW A ea ma, wdW B eb mb] w fun r w' => r = .returned (.bool (decide (A < B))) ∧ ∃ o o', w' = (w.alloc o).alloc o' := by
  refine (wless_words _ _ _ _ ea eb ma mb w).mono ?_
  rintro r w' ⟨rfl, h⟩
  refine ⟨ret_bool ?_, h⟩
  rw [Bool.eq_iff_iff]
  simp only [Bool.or_eq_true, Bool.and_eq_true, decide_eq_true_eq]
  omega

set_option maxRecDepth 100000 in
theorem wplus_any (A B : Nat) (e eb : Int) (mb : Bool) (hA : A < 340282366920938463463374607431768211456) (hB : B < 340282366920938463463374607431768211456) (hS : A + B < 340282366920938463463374607431768211456) (w : World) :
    Calls Try.prog 53 #[wdW A e false, wdW B eb mb] w fun r w' => r = .returned (wdW (A + B) e mb) ∧ ∃ o o' o'' o3, w' = (((w.alloc o).alloc o').alloc o'').alloc o3 := by
  obtain ⟨ah, al, a1, a2, rfl, a3, a4⟩ := words A hA
  obtain ⟨bh, bl, b1, b2, rfl, b3, b4⟩ := words B hB
  have HS := Lib.hid hS
  unfold wdW
  rw [a3, a4, b3, b4]
  clear hA hB hS a3 a4 b3 b4
  go_enter Try.func53, Try.ntmps53
  go_wp2_with fail
  all_goals
    (try simp only [Exit.inBlock, Exit.then])
    refine bodyPost_ret (res58 rfl _ _ _ _ _ rfl (heap_alloc4_3 _ _ _ _ _) rfl) rfl ?_
    refine ⟨wdW_eq ?_ ?_ rfl rfl, _, _, _, _, rfl⟩
  all_goals
    have hS := HS.out
    clear HS
    simp only [IntKind.wrap_u64, decide_eq_true_eq, decide_eq_false_iff_not] at *
    omega

set_option maxRecDepth 100000 in
theorem wminus_any (A B : Nat) (e eb : Int) (ma mb : Bool) (hA : A < 340282366920938463463374607431768211456) (hS : B ≤ A) (w : World) :
    Calls Try.prog 55 #[wdW A e ma, wdW B eb mb] w fun r w' => r = .returned (wdW (A - B) e false) ∧ ∃ o o' o'' o3, w' = (((w.alloc o).alloc o').alloc o'').alloc o3 := by
  have hB : B < 340282366920938463463374607431768211456 := by omega
  obtain ⟨ah, al, a1, a2, rfl, a3, a4⟩ := words A hA
  obtain ⟨bh, bl, b1, b2, rfl, b3, b4⟩ := words B hB
  have HS := Lib.hid (show bh * 18446744073709551616 + bl ≤ ah * 18446744073709551616 + al ∧ ah < 18446744073709551616 ∧ al < 18446744073709551616 ∧ bh < 18446744073709551616 ∧ bl < 18446744073709551616 from ⟨hS, a1, a2, b1, b2⟩)
  unfold wdW
  rw [a3, a4, b3, b4]
  clear hA hB hS a3 a4 b3 b4 a1 a2 b1 b2
  go_enter Try.func55, Try.ntmps55
  go_wp2_with fail
  all_goals
    (try simp only [Exit.inBlock, Exit.then])
    refine bodyPost_ret (res58 rfl _ _ _ _ _ rfl (heap_alloc4_3 _ _ _ _ _) rfl) rfl ?_
    refine ⟨wdW_eq ?_ ?_ rfl rfl, _, _, _, _, rfl⟩
  all_goals
    obtain ⟨hS, a1, a2, b1, b2⟩ := HS.out
    clear HS
    simp only [IntKind.wrap_u64] at *
    omega
end Go.Proofs.Ythkfaacgabkhhaa

