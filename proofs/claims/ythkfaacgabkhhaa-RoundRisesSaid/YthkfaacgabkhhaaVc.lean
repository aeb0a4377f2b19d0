/- The walk of the document's Down (gen_down.py). -/
import Derived.Test.YthkfaacgabkhhaaVa
set_option linter.unusedVariables false
set_option linter.unusedSimpArgs false
namespace Go.Proofs.Ythkfaacgabkhhaa
open Go.RowKit Ieee

def DnR (hi lo : Nat) (e : Int) (more : Bool) (n : Nat) (w : World) (c : Value) (wr : World) : Prop :=
  (c = .int .i64 (n : Int) ∧ wr = (w.alloc (wdo hi lo (e + n) more)).alloc (wdo 0 0 0 false)) ∨
  (64 ≤ n ∧ hi ≠ 0 ∧ c = .int .i64 ((n - 64 : Nat) : Int) ∧ wr = (w.alloc (wdo 0 hi (e + n) (more || (lo : Int) != 0))).alloc (wdo 0 0 0 false))

theorem dn_lo {lo n : Nat} (h2 : lo < 18446744073709551616) (h64 : 64 ≤ n) : lo / 2 ^ n = 0 ∧ lo % 2 ^ n = lo := by
  have h : lo < 2 ^ n := Nat.lt_of_lt_of_le h2 (by have := Nat.pow_le_pow_right (show 0 < 2 by decide) h64; exact this)
  exact ⟨Nat.div_eq_of_lt h, Nat.mod_eq_of_lt h⟩
theorem int_ne_zero {n : Nat} (h : ((n : Int) == 0) = false) : n ≠ 0 := by
  intro e; subst e; exact absurd h (by decide)
theorem int_eq_zero {n : Nat} (h : ((n : Int) == 0) = true) : n = 0 := by simpa using h

set_option maxRecDepth 100000 in
set_option maxHeartbeats 4000000 in
theorem down_i_false (hi lo : Nat) (e : Int) (n : Nat) (h64 : n < 64) (hp : 0 < n) (hn : n < 100000) (he : -100000 ≤ e) (he2 : e ≤ 100000) (w : World) :
    Calls Try.prog 51 #[wdv hi lo e false, .int .i64 (n : Int)] w fun r w' => r = .returned (.agg #[.int .u64 ((hi : Int) / 2 ^ n), .int .u64 (bits .or .u64 ((lo : Int) / 2 ^ n) (IntKind.u64.wrap ((hi : Int) * 2 ^ (64 - n)))), .int .i64 (e + n), .bool (false || (IntKind.u64.wrap ((lo : Int) * 2 ^ (64 - n)) != 0))]) ∧ ∃ k o o', w' = ((w.alloc o).alloc o').drewN k := by
  generalize hres : Ending.returned (.agg #[.int .u64 ((hi : Int) / 2 ^ n), .int .u64 (bits .or .u64 ((lo : Int) / 2 ^ n) (IntKind.u64.wrap ((hi : Int) * 2 ^ (64 - n)))), .int .i64 (e + n), .bool (false || (IntKind.u64.wrap ((lo : Int) * 2 ^ (64 - n)) != 0))]) = res
  have HR := Lib.hid hres
  clear hres
  go_enter Try.func51, Try.ntmps51
  go_wp2_with fail
  go_loopw [1] (fun c wr => DnR hi lo e false n w c wr) (fun c _ => (intOf c).toNat)
  case atStart => exact .inl ⟨rfl, rfl⟩
  case round =>
    rcases hrel with ⟨rfl, rfl⟩ | ⟨hn1, hh, rfl, rfl⟩
    · go_wp2_with fail
      go_region
      go_wp2_with fail
      (try simp only [Exit.inBlock, Exit.then]); refine bodyPost_ret (res58 rfl _ _ _ _ _ rfl (heap_alloc2_new _ _ _) rfl) rfl ?_; refine ⟨Eq.trans ?_ HR.out, 1, _, _, rfl⟩
      rfl
    · omega

set_option maxRecDepth 100000 in
set_option maxHeartbeats 4000000 in
theorem down_ii_false (hi lo : Nat) (e : Int) (n : Nat) (h64 : 64 ≤ n) (h0 : ((hi : Int) == 0) = true) (hp : 0 < n) (hn : n < 100000) (he : -100000 ≤ e) (he2 : e ≤ 100000) (w : World) :
    Calls Try.prog 51 #[wdv hi lo e false, .int .i64 (n : Int)] w fun r w' => r = .returned (.agg #[.int .u64 0, .int .u64 (hi : Int), .int .i64 (e + n), .bool (false || ((lo : Int) != 0))]) ∧ ∃ k o o', w' = ((w.alloc o).alloc o').drewN k := by
  generalize hres : Ending.returned (.agg #[.int .u64 0, .int .u64 (hi : Int), .int .i64 (e + n), .bool (false || ((lo : Int) != 0))]) = res
  have HR := Lib.hid hres
  clear hres
  go_enter Try.func51, Try.ntmps51
  go_wp2_with fail
  go_loopw [1] (fun c wr => DnR hi lo e false n w c wr) (fun c _ => (intOf c).toNat)
  case atStart => exact .inl ⟨rfl, rfl⟩
  case round =>
    rcases hrel with ⟨rfl, rfl⟩ | ⟨hn1, hh, rfl, rfl⟩
    · go_wp2_with fail
      (try simp only [Exit.inBlock, Exit.then]); refine bodyPost_ret (res58 rfl _ _ _ _ _ rfl (heap_alloc2_new _ _ _) rfl) rfl ?_; refine ⟨Eq.trans ?_ HR.out, 0, _, _, rfl⟩
      rfl
    · exact absurd (int_eq_zero h0) hh

set_option maxRecDepth 100000 in
set_option maxHeartbeats 4000000 in
theorem down_iiia_false (hi lo : Nat) (e : Int) (n : Nat) (h64 : 128 ≤ n) (h0 : ((hi : Int) == 0) = false) (hp : 0 < n) (hn : n < 100000) (he : -100000 ≤ e) (he2 : e ≤ 100000) (w : World) :
    Calls Try.prog 51 #[wdv hi lo e false, .int .i64 (n : Int)] w fun r w' => r = .returned (.agg #[.int .u64 0, .int .u64 0, .int .i64 (e + n), .bool true]) ∧ ∃ k o o', w' = ((w.alloc o).alloc o').drewN k := by
  generalize hres : Ending.returned (.agg #[.int .u64 0, .int .u64 0, .int .i64 (e + n), .bool true]) = res
  have HR := Lib.hid hres
  clear hres
  go_enter Try.func51, Try.ntmps51
  go_wp2_with fail
  go_loopw [1] (fun c wr => DnR hi lo e false n w c wr) (fun c _ => (intOf c).toNat)
  case atStart => exact .inl ⟨rfl, rfl⟩
  case round =>
    rcases hrel with ⟨rfl, rfl⟩ | ⟨hn1, hh, rfl, rfl⟩
    · go_wp2_with fail
      exact ⟨.inr ⟨by omega, int_ne_zero h0, congrArg _ (by omega), rfl⟩, by simp only [intOf]; omega⟩
    · generalize hm : (false || (lo : Int) != 0) = m
      have HM := Lib.hid hm
      clear hm
      have h1 : n - 64 ≤ 100000 := by omega
      have h2 : 64 ≤ n - 64 := by omega
      have h3 : ((hi : Int) != 0) = true := by simpa using hh
      cases m
      all_goals
        go_wp2_with fail
        (try simp only [Exit.inBlock, Exit.then]); refine bodyPost_ret (res58 rfl _ _ _ _ _ rfl (heap_alloc2_new _ _ _) rfl) rfl ?_; refine ⟨Eq.trans ?_ HR.out, 0, _, _, rfl⟩
        first | rfl | (rw [HM.out]; done) | (rw [HM.out]; rfl)

set_option maxRecDepth 100000 in
set_option maxHeartbeats 4000000 in
theorem down_iiib_false (hi lo : Nat) (e : Int) (n : Nat) (h64 : 64 ≤ n) (h65 : n ≤ 64) (h0 : ((hi : Int) == 0) = false) (hp : 0 < n) (hn : n < 100000) (he : -100000 ≤ e) (he2 : e ≤ 100000) (w : World) :
    Calls Try.prog 51 #[wdv hi lo e false, .int .i64 (n : Int)] w fun r w' => r = .returned (.agg #[.int .u64 0, .int .u64 (hi : Int), .int .i64 (e + n), .bool (false || (lo : Int) != 0)]) ∧ ∃ k o o', w' = ((w.alloc o).alloc o').drewN k := by
  generalize hres : Ending.returned (.agg #[.int .u64 0, .int .u64 (hi : Int), .int .i64 (e + n), .bool (false || (lo : Int) != 0)]) = res
  have HR := Lib.hid hres
  clear hres
  go_enter Try.func51, Try.ntmps51
  go_wp2_with fail
  go_loopw [1] (fun c wr => DnR hi lo e false n w c wr) (fun c _ => (intOf c).toNat)
  case atStart => exact .inl ⟨rfl, rfl⟩
  case round =>
    rcases hrel with ⟨rfl, rfl⟩ | ⟨hn1, hh, rfl, rfl⟩
    · go_wp2_with fail
      exact ⟨.inr ⟨by omega, int_ne_zero h0, congrArg _ (by omega), rfl⟩, by simp only [intOf]; omega⟩
    · generalize hm : (false || (lo : Int) != 0) = m
      have HM := Lib.hid hm
      clear hm
      have h1 : n - 64 ≤ 100000 := by omega
      cases m
      all_goals
        go_wp2_with fail
        (try simp only [Exit.inBlock, Exit.then]); refine bodyPost_ret (res58 rfl _ _ _ _ _ rfl (heap_alloc2_new _ _ _) rfl) rfl ?_; refine ⟨Eq.trans ?_ HR.out, 0, _, _, rfl⟩
        first | rfl | (rw [HM.out]; done) | (rw [HM.out]; rfl)

set_option maxRecDepth 100000 in
set_option maxHeartbeats 4000000 in
theorem down_iiic_false (hi lo : Nat) (e : Int) (n : Nat) (h64 : 64 < n) (h128 : n < 128) (h0 : ((hi : Int) == 0) = false) (hp : 0 < n) (hn : n < 100000) (he : -100000 ≤ e) (he2 : e ≤ 100000) (w : World) :
    Calls Try.prog 51 #[wdv hi lo e false, .int .i64 (n : Int)] w fun r w' => r = .returned (.agg #[.int .u64 0, .int .u64 (bits .or .u64 ((hi : Int) / 2 ^ (n - 64)) 0), .int .i64 (e + n), .bool ((false || (lo : Int) != 0) || (IntKind.u64.wrap ((hi : Int) * 2 ^ (64 - (n - 64))) != 0))]) ∧ ∃ k o o', w' = ((w.alloc o).alloc o').drewN k := by
  generalize hres : Ending.returned (.agg #[.int .u64 0, .int .u64 (bits .or .u64 ((hi : Int) / 2 ^ (n - 64)) 0), .int .i64 (e + n), .bool ((false || (lo : Int) != 0) || (IntKind.u64.wrap ((hi : Int) * 2 ^ (64 - (n - 64))) != 0))]) = res
  have HR := Lib.hid hres
  clear hres
  go_enter Try.func51, Try.ntmps51
  go_wp2_with fail
  go_loopw [1] (fun c wr => DnR hi lo e false n w c wr) (fun c _ => (intOf c).toNat)
  case atStart => exact .inl ⟨rfl, rfl⟩
  case round =>
    rcases hrel with ⟨rfl, rfl⟩ | ⟨hn1, hh, rfl, rfl⟩
    · go_wp2_with fail
      exact ⟨.inr ⟨by omega, int_ne_zero h0, congrArg _ (by omega), rfl⟩, by simp only [intOf]; omega⟩
    · generalize hm : (false || (lo : Int) != 0) = m
      have HM := Lib.hid hm
      clear hm
      have h1 : n - 64 ≤ 100000 := by omega
      have h2 : n - 64 < 64 := by omega
      have h3 : 0 < n - 64 := by omega
      cases m
      all_goals
        go_wp2_with fail
        go_region
        go_wp2_with fail
        (try simp only [Exit.inBlock, Exit.then]); refine bodyPost_ret (res58 rfl _ _ _ _ _ rfl (heap_alloc2_new _ _ _) rfl) rfl ?_; refine ⟨Eq.trans ?_ HR.out, 1, _, _, rfl⟩
        first | rfl | (rw [HM.out]; done) | (rw [HM.out]; rfl)

set_option maxRecDepth 100000 in
set_option maxHeartbeats 4000000 in
theorem down_i_true (hi lo : Nat) (e : Int) (n : Nat) (h64 : n < 64) (hp : 0 < n) (hn : n < 100000) (he : -100000 ≤ e) (he2 : e ≤ 100000) (w : World) :
    Calls Try.prog 51 #[wdv hi lo e true, .int .i64 (n : Int)] w fun r w' => r = .returned (.agg #[.int .u64 ((hi : Int) / 2 ^ n), .int .u64 (bits .or .u64 ((lo : Int) / 2 ^ n) (IntKind.u64.wrap ((hi : Int) * 2 ^ (64 - n)))), .int .i64 (e + n), .bool (true || (IntKind.u64.wrap ((lo : Int) * 2 ^ (64 - n)) != 0))]) ∧ ∃ k o o', w' = ((w.alloc o).alloc o').drewN k := by
  generalize hres : Ending.returned (.agg #[.int .u64 ((hi : Int) / 2 ^ n), .int .u64 (bits .or .u64 ((lo : Int) / 2 ^ n) (IntKind.u64.wrap ((hi : Int) * 2 ^ (64 - n)))), .int .i64 (e + n), .bool (true || (IntKind.u64.wrap ((lo : Int) * 2 ^ (64 - n)) != 0))]) = res
  have HR := Lib.hid hres
  clear hres
  go_enter Try.func51, Try.ntmps51
  go_wp2_with fail
  go_loopw [1] (fun c wr => DnR hi lo e true n w c wr) (fun c _ => (intOf c).toNat)
  case atStart => exact .inl ⟨rfl, rfl⟩
  case round =>
    rcases hrel with ⟨rfl, rfl⟩ | ⟨hn1, hh, rfl, rfl⟩
    · go_wp2_with fail
      go_region
      go_wp2_with fail
      (try simp only [Exit.inBlock, Exit.then]); refine bodyPost_ret (res58 rfl _ _ _ _ _ rfl (heap_alloc2_new _ _ _) rfl) rfl ?_; refine ⟨Eq.trans ?_ HR.out, 1, _, _, rfl⟩
      rfl
    · omega

set_option maxRecDepth 100000 in
set_option maxHeartbeats 4000000 in
theorem down_ii_true (hi lo : Nat) (e : Int) (n : Nat) (h64 : 64 ≤ n) (h0 : ((hi : Int) == 0) = true) (hp : 0 < n) (hn : n < 100000) (he : -100000 ≤ e) (he2 : e ≤ 100000) (w : World) :
    Calls Try.prog 51 #[wdv hi lo e true, .int .i64 (n : Int)] w fun r w' => r = .returned (.agg #[.int .u64 0, .int .u64 (hi : Int), .int .i64 (e + n), .bool (true || ((lo : Int) != 0))]) ∧ ∃ k o o', w' = ((w.alloc o).alloc o').drewN k := by
  generalize hres : Ending.returned (.agg #[.int .u64 0, .int .u64 (hi : Int), .int .i64 (e + n), .bool (true || ((lo : Int) != 0))]) = res
  have HR := Lib.hid hres
  clear hres
  go_enter Try.func51, Try.ntmps51
  go_wp2_with fail
  go_loopw [1] (fun c wr => DnR hi lo e true n w c wr) (fun c _ => (intOf c).toNat)
  case atStart => exact .inl ⟨rfl, rfl⟩
  case round =>
    rcases hrel with ⟨rfl, rfl⟩ | ⟨hn1, hh, rfl, rfl⟩
    · go_wp2_with fail
      (try simp only [Exit.inBlock, Exit.then]); refine bodyPost_ret (res58 rfl _ _ _ _ _ rfl (heap_alloc2_new _ _ _) rfl) rfl ?_; refine ⟨Eq.trans ?_ HR.out, 0, _, _, rfl⟩
      rfl
    · exact absurd (int_eq_zero h0) hh

set_option maxRecDepth 100000 in
set_option maxHeartbeats 4000000 in
theorem down_iiia_true (hi lo : Nat) (e : Int) (n : Nat) (h64 : 128 ≤ n) (h0 : ((hi : Int) == 0) = false) (hp : 0 < n) (hn : n < 100000) (he : -100000 ≤ e) (he2 : e ≤ 100000) (w : World) :
    Calls Try.prog 51 #[wdv hi lo e true, .int .i64 (n : Int)] w fun r w' => r = .returned (.agg #[.int .u64 0, .int .u64 0, .int .i64 (e + n), .bool true]) ∧ ∃ k o o', w' = ((w.alloc o).alloc o').drewN k := by
  generalize hres : Ending.returned (.agg #[.int .u64 0, .int .u64 0, .int .i64 (e + n), .bool true]) = res
  have HR := Lib.hid hres
  clear hres
  go_enter Try.func51, Try.ntmps51
  go_wp2_with fail
  go_loopw [1] (fun c wr => DnR hi lo e true n w c wr) (fun c _ => (intOf c).toNat)
  case atStart => exact .inl ⟨rfl, rfl⟩
  case round =>
    rcases hrel with ⟨rfl, rfl⟩ | ⟨hn1, hh, rfl, rfl⟩
    · go_wp2_with fail
      exact ⟨.inr ⟨by omega, int_ne_zero h0, congrArg _ (by omega), rfl⟩, by simp only [intOf]; omega⟩
    · have h1 : n - 64 ≤ 100000 := by omega
      have h2 : 64 ≤ n - 64 := by omega
      have h3 : ((hi : Int) != 0) = true := by simpa using hh
      go_wp2_with fail
      (try simp only [Exit.inBlock, Exit.then]); refine bodyPost_ret (res58 rfl _ _ _ _ _ rfl (heap_alloc2_new _ _ _) rfl) rfl ?_; refine ⟨Eq.trans ?_ HR.out, 0, _, _, rfl⟩
      rfl

set_option maxRecDepth 100000 in
set_option maxHeartbeats 4000000 in
theorem down_iiib_true (hi lo : Nat) (e : Int) (n : Nat) (h64 : 64 ≤ n) (h65 : n ≤ 64) (h0 : ((hi : Int) == 0) = false) (hp : 0 < n) (hn : n < 100000) (he : -100000 ≤ e) (he2 : e ≤ 100000) (w : World) :
    Calls Try.prog 51 #[wdv hi lo e true, .int .i64 (n : Int)] w fun r w' => r = .returned (.agg #[.int .u64 0, .int .u64 (hi : Int), .int .i64 (e + n), .bool (true || (lo : Int) != 0)]) ∧ ∃ k o o', w' = ((w.alloc o).alloc o').drewN k := by
  generalize hres : Ending.returned (.agg #[.int .u64 0, .int .u64 (hi : Int), .int .i64 (e + n), .bool (true || (lo : Int) != 0)]) = res
  have HR := Lib.hid hres
  clear hres
  go_enter Try.func51, Try.ntmps51
  go_wp2_with fail
  go_loopw [1] (fun c wr => DnR hi lo e true n w c wr) (fun c _ => (intOf c).toNat)
  case atStart => exact .inl ⟨rfl, rfl⟩
  case round =>
    rcases hrel with ⟨rfl, rfl⟩ | ⟨hn1, hh, rfl, rfl⟩
    · go_wp2_with fail
      exact ⟨.inr ⟨by omega, int_ne_zero h0, congrArg _ (by omega), rfl⟩, by simp only [intOf]; omega⟩
    · have h1 : n - 64 ≤ 100000 := by omega
      go_wp2_with fail
      (try simp only [Exit.inBlock, Exit.then]); refine bodyPost_ret (res58 rfl _ _ _ _ _ rfl (heap_alloc2_new _ _ _) rfl) rfl ?_; refine ⟨Eq.trans ?_ HR.out, 0, _, _, rfl⟩
      rfl

set_option maxRecDepth 100000 in
set_option maxHeartbeats 4000000 in
theorem down_iiic_true (hi lo : Nat) (e : Int) (n : Nat) (h64 : 64 < n) (h128 : n < 128) (h0 : ((hi : Int) == 0) = false) (hp : 0 < n) (hn : n < 100000) (he : -100000 ≤ e) (he2 : e ≤ 100000) (w : World) :
    Calls Try.prog 51 #[wdv hi lo e true, .int .i64 (n : Int)] w fun r w' => r = .returned (.agg #[.int .u64 0, .int .u64 (bits .or .u64 ((hi : Int) / 2 ^ (n - 64)) 0), .int .i64 (e + n), .bool ((true || (lo : Int) != 0) || (IntKind.u64.wrap ((hi : Int) * 2 ^ (64 - (n - 64))) != 0))]) ∧ ∃ k o o', w' = ((w.alloc o).alloc o').drewN k := by
  generalize hres : Ending.returned (.agg #[.int .u64 0, .int .u64 (bits .or .u64 ((hi : Int) / 2 ^ (n - 64)) 0), .int .i64 (e + n), .bool ((true || (lo : Int) != 0) || (IntKind.u64.wrap ((hi : Int) * 2 ^ (64 - (n - 64))) != 0))]) = res
  have HR := Lib.hid hres
  clear hres
  go_enter Try.func51, Try.ntmps51
  go_wp2_with fail
  go_loopw [1] (fun c wr => DnR hi lo e true n w c wr) (fun c _ => (intOf c).toNat)
  case atStart => exact .inl ⟨rfl, rfl⟩
  case round =>
    rcases hrel with ⟨rfl, rfl⟩ | ⟨hn1, hh, rfl, rfl⟩
    · go_wp2_with fail
      exact ⟨.inr ⟨by omega, int_ne_zero h0, congrArg _ (by omega), rfl⟩, by simp only [intOf]; omega⟩
    · have h1 : n - 64 ≤ 100000 := by omega
      have h2 : n - 64 < 64 := by omega
      have h3 : 0 < n - 64 := by omega
      go_wp2_with fail
      go_region
      go_wp2_with fail
      (try simp only [Exit.inBlock, Exit.then]); refine bodyPost_ret (res58 rfl _ _ _ _ _ rfl (heap_alloc2_new _ _ _) rfl) rfl ?_; refine ⟨Eq.trans ?_ HR.out, 1, _, _, rfl⟩
      rfl

theorem down_any (W : Nat) (e : Int) (more : Bool) (n : Nat) (hW : W < 340282366920938463463374607431768211456) (hp : 0 < n) (hn : n < 100000) (he : -100000 ≤ e) (he2 : e ≤ 100000) (w : World) :
    Calls Try.prog 51 #[wdW W e more, .int .i64 (n : Int)] w fun r w' => r = .returned (wdW (W / 2 ^ n) (e + n) (more || W % 2 ^ n != 0)) ∧ ∃ k o o', w' = ((w.alloc o).alloc o').drewN k := by
  obtain ⟨hi, lo, h1, h2, hWe, e1, e2⟩ := words W hW
  unfold wdW
  rw [e1, e2]
  by_cases h64 : n < 64
  · obtain ⟨q1, q2, q3, q4, q5⟩ := right_lo2 (hi := hi) (lo := lo) h1 h2 hp h64
    have H : ∀ (r : Ending) (w' : World), (r = .returned (.agg #[.int .u64 ((hi : Int) / 2 ^ n), .int .u64 (bits .or .u64 ((lo : Int) / 2 ^ n) (IntKind.u64.wrap ((hi : Int) * 2 ^ (64 - n)))), .int .i64 (e + n), .bool (more || (IntKind.u64.wrap ((lo : Int) * 2 ^ (64 - n)) != 0))]) ∧ ∃ k o o', w' = ((w.alloc o).alloc o').drewN k) →
        (r = .returned (wdW (W / 2 ^ n) (e + n) (more || W % 2 ^ n != 0)) ∧ ∃ k o o', w' = ((w.alloc o).alloc o').drewN k) := by
      rintro r w' ⟨rfl, h⟩
      refine ⟨wdW_eq ?_ ?_ rfl ?_, h⟩
      · rw [div_nat, q1, hWe]
      · rw [div_nat, wrap_mul, bits_or_u64_nat _ _ q4 q5, q2, hWe]
      · rw [wrap_mul, bne_zero, q3, hWe]
    cases more
    · exact (down_i_false hi lo e n h64 hp hn he he2 w).mono H
    · exact (down_i_true hi lo e n h64 hp hn he he2 w).mono H
  · by_cases h0 : hi = 0
    · have h0' : ((hi : Int) == 0) = true := by rw [h0]; rfl
      have hWl : W = lo := by omega
      obtain ⟨q1, q2⟩ := dn_lo (n := n) h2 (by omega)
      have H : ∀ (r : Ending) (w' : World), (r = .returned (.agg #[.int .u64 0, .int .u64 (hi : Int), .int .i64 (e + n), .bool (more || ((lo : Int) != 0))]) ∧ ∃ k o o', w' = ((w.alloc o).alloc o').drewN k) →
          (r = .returned (wdW (W / 2 ^ n) (e + n) (more || W % 2 ^ n != 0)) ∧ ∃ k o o', w' = ((w.alloc o).alloc o').drewN k) := by
        rintro r w' ⟨rfl, h⟩
        refine ⟨wdW_eq ?_ ?_ rfl ?_, h⟩
        · rw [hWl, q1, Nat.zero_div]; rfl
        · rw [hWl, q1, Nat.zero_mod, h0]
        · rw [bne_zero, hWl, q2]
      cases more
      · exact (down_ii_false hi lo e n (by omega) h0' hp hn he he2 w).mono H
      · exact (down_ii_true hi lo e n (by omega) h0' hp hn he he2 w).mono H
    · have h0' : ((hi : Int) == 0) = false := by simpa using h0
      by_cases h128 : 128 ≤ n
      · obtain ⟨q1, q2⟩ := big_pow (n := n) hW h128
        have a2 : (W != 0) = true := bne_iff_ne.2 (by omega)
        have H : ∀ (r : Ending) (w' : World), (r = .returned (.agg #[.int .u64 0, .int .u64 0, .int .i64 (e + n), .bool true]) ∧ ∃ k o o', w' = ((w.alloc o).alloc o').drewN k) →
            (r = .returned (wdW (W / 2 ^ n) (e + n) (more || W % 2 ^ n != 0)) ∧ ∃ k o o', w' = ((w.alloc o).alloc o').drewN k) := by
          rintro r w' ⟨rfl, h⟩
          refine ⟨wdW_eq ?_ ?_ rfl ?_, h⟩
          · rw [q1, Nat.zero_div]; rfl
          · rw [q1, Nat.zero_mod]; rfl
          · rw [q2, a2, Bool.or_true]
        cases more
        · exact (down_iiia_false hi lo e n h128 h0' hp hn he he2 w).mono H
        · exact (down_iiia_true hi lo e n h128 h0' hp hn he he2 w).mono H
      · obtain ⟨q1, q2, q3⟩ := right_lo3 (hi := hi) (lo := lo) (n := n) h1 h2 (by omega) (by omega)
        by_cases h65 : n ≤ 64
        · have hn64 : n = 64 := by omega
          have H : ∀ (r : Ending) (w' : World), (r = .returned (.agg #[.int .u64 0, .int .u64 (hi : Int), .int .i64 (e + n), .bool (more || (lo : Int) != 0)]) ∧ ∃ k o o', w' = ((w.alloc o).alloc o').drewN k) →
              (r = .returned (wdW (W / 2 ^ n) (e + n) (more || W % 2 ^ n != 0)) ∧ ∃ k o o', w' = ((w.alloc o).alloc o').drewN k) := by
            rintro r w' ⟨rfl, h⟩
            refine ⟨wdW_eq ?_ ?_ rfl ?_, h⟩
            · rw [hWe, q1]; rfl
            · rw [hWe, ← q2, hn64, Nat.sub_self, Nat.pow_zero, Nat.div_one]
            · rw [hWe, q3, decide_eq_false (by omega : ¬ 64 < n), Bool.and_false, Bool.or_false, bne_zero]
          cases more
          · exact (down_iiib_false hi lo e n (by omega) h65 h0' hp hn he he2 w).mono H
          · exact (down_iiib_true hi lo e n (by omega) h65 h0' hp hn he he2 w).mono H
        · have hb : hi / 2 ^ (n - 64) < 18446744073709551616 := Nat.lt_of_le_of_lt (Nat.div_le_self _ _) h1
          have H : ∀ (r : Ending) (w' : World), (r = .returned (.agg #[.int .u64 0, .int .u64 (bits .or .u64 ((hi : Int) / 2 ^ (n - 64)) 0), .int .i64 (e + n), .bool ((more || (lo : Int) != 0) || (IntKind.u64.wrap ((hi : Int) * 2 ^ (64 - (n - 64))) != 0))]) ∧ ∃ k o o', w' = ((w.alloc o).alloc o').drewN k) →
              (r = .returned (wdW (W / 2 ^ n) (e + n) (more || W % 2 ^ n != 0)) ∧ ∃ k o o', w' = ((w.alloc o).alloc o').drewN k) := by
            rintro r w' ⟨rfl, h⟩
            refine ⟨wdW_eq ?_ ?_ rfl ?_, h⟩
            · rw [hWe, q1]; rfl
            · have := bits_or_u64_nat (hi / 2 ^ (n - 64)) 0 hb (by omega)
              rw [Nat.or_zero] at this
              rw [div_nat]
              refine this.trans ?_
              rw [hWe, q2]
            · rw [hWe, q3, decide_eq_true (by omega : 64 < n), Bool.and_true, wrap_mul, bne_zero, bne_zero, show 64 - (n - 64) = 128 - n by omega, Bool.or_assoc]
          cases more
          · exact (down_iiic_false hi lo e n (by omega) (by omega) h0' hp hn he he2 w).mono H
          · exact (down_iiic_true hi lo e n (by omega) (by omega) h0' hp hn he he2 w).mono H

set_option maxRecDepth 100000 in
theorem down_none (hi lo : Nat) (e : Int) (more : Bool) (n : Int) (hn : n ≤ 0) (w : World) :
    Calls Try.prog 51 #[wdv hi lo e more, .int .i64 n] w fun r w' => r = .returned (wdv hi lo e more) ∧ ∃ k o o', w' = ((w.alloc o).alloc o').drewN k := by
  go_enter Try.func51, Try.ntmps51
  go_wp2_with fail
  (try simp only [Exit.inBlock, Exit.then])
  refine bodyPost_ret (res58 rfl _ _ _ _ _ rfl (heap_alloc2_new _ _ _) rfl) rfl ?_
  exact ⟨rfl, 0, _, _, rfl⟩
end Go.Proofs.Ythkfaacgabkhhaa
