/- The walks of layer 1: words of 128 bits. -/
import Derived.Test.YthkfaacgabkhhaaWa
import Derived.Test.YthkfaacgabkhhaaWb
import Derived.Laws.OwnMore
import Derived.Deep.Draws
import Derived.Laws.Rows
import Derived.Laws.CopyOwn
import Derived.Laws.ResultCell
set_option linter.unusedVariables false
set_option linter.unusedSimpArgs false
namespace Go.Proofs.Ythkfaacgabkhhaa
open Go.RowKit

abbrev exv (neg : Bool) (hi lo : Nat) (e : Int) (more : Bool) : Value := .agg #[.bool neg, .int .u64 (hi : Int), .int .u64 (lo : Int), .int .i64 e, .bool more]

theorem below_new (w : World) (o : Obj) : Below w.heap.size w (w.alloc o) := (Below.refl _ _).alloc (Nat.le_refl _) _

theorem zero_any (neg : Bool) (hi lo : Nat) (e : Int) (more : Bool) (w : World) :
    Calls Try.prog 72 #[exv neg hi lo e more] w fun r w' => r = .returned (.bool (decide (hi = 0) && decide (lo = 0))) ∧ ∃ o, w' = w.alloc o := by
  go_enter Try.func72, Try.ntmps72
  go_wp2
  · go_ret
    refine ⟨ret_bool ?_, ⟨_, rfl⟩⟩
    rename_i h0
    by_cases h : lo = 0 <;> simp [h, h0]
  · rename_i h
    go_ret
    refine ⟨ret_bool ?_, ⟨_, rfl⟩⟩
    simp [h]

theorem bitLen_eq (n : Nat) (h : n < 18446744073709551616) : Lib.bitLen n = Fl.len n := by
  have : ∀ f n, n < 2 ^ f → Lib.bitLenAux f n = Fl.len n := by
    intro f
    induction f with
    | zero => intro n hn; have : n = 0 := by simpa using hn
              subst this; rfl
    | succ f ih =>
      intro n hn
      rw [Lib.bitLenAux]
      split
      · rename_i h0; subst h0; rfl
      · rename_i h0
        rw [ih (n / 2) (by rw [Nat.pow_succ] at hn; omega)]
        by_cases h1 : n / 2 = 0
        · have : n = 1 := by omega
          subst this; decide
        · have e := Fl.len_div_pow (n := n) 1 (by
            apply Nat.lt_of_not_le
            intro hh
            have := Fl.lt_len n
            have := Nat.pow_le_pow_right (show 0 < 2 by decide) hh
            omega)
          rw [Nat.pow_one] at e
          rw [e]
          have := Fl.len_pos h0
          omega
  exact this 64 n h

theorem len64 (n : Nat) (h : n < 18446744073709551616) (w : World) :
    Calls Try.prog 78 #[.int .u64 (n : Int)] w fun e w' => e = .returned (.int .i64 (Fl.len n : Nat)) ∧ w = w' := by
  refine (len64_any (n : Int) w (by omega) (by omega)).mono ?_
  rintro e w' ⟨rfl, rfl⟩
  rw [Int.toNat_natCast, bitLen_eq n h]
  exact ⟨rfl, rfl⟩

theorem len_le64 {n : Nat} (h : n < 18446744073709551616) : Fl.len n ≤ 64 := Fl.len_le_of_lt (by omega)

theorem length_any (neg : Bool) (hi lo : Nat) (e : Int) (more : Bool) (h1 : hi < 18446744073709551616) (h2 : lo < 18446744073709551616) (w : World) :
    Calls Try.prog 57 #[exv neg hi lo e more] w fun r w' => r = .returned (.int .i64 (Fl.len (hi * 18446744073709551616 + lo) : Nat)) ∧ ∃ o, w' = w.alloc o := by
  have HH := Lib.hid (fun w => len64 hi h1 w)
  have HL := Lib.hid (fun w => len64 lo h2 w)
  have b1 := len_le64 h1
  have b2 := len_le64 h2
  by_cases h0 : hi = 0
  · subst h0
    rw [Nat.zero_mul, Nat.zero_add]
    generalize Fl.len lo = y at *
    clear HH
    go_enter Try.func57, Try.ntmps57
    go_wp2_with fail
    refine (HL.out _).mono ?_
    rintro e w' ⟨rfl, rfl⟩
    go_wp2_with fail
    go_ret
    exact ⟨rfl, ⟨_, rfl⟩⟩
  · have E : Fl.len (hi * 18446744073709551616 + lo) = 64 + Fl.len hi := (by
      have := Fl.len_div_pow (n := hi * 18446744073709551616 + lo) 64 (by
            apply Nat.lt_of_not_le
            intro hh
            have h3 := Fl.lt_len (hi * 18446744073709551616 + lo)
            have h4 := Nat.pow_le_pow_right (show 0 < 2 by decide) hh
            have h5 : 2 ^ 64 = 18446744073709551616 := by decide
            omega)
      rw [show (2:Nat) ^ 64 = 18446744073709551616 from rfl, show (hi * 18446744073709551616 + lo) / 18446744073709551616 = hi by omega] at this
      have hp := Fl.len_pos h0
      omega)
    rw [E]
    generalize Fl.len hi = y at *
    clear HL E
    go_enter Try.func57, Try.ntmps57
    go_wp2_with fail
    refine (HH.out _).mono ?_
    rintro e w' ⟨rfl, rfl⟩
    go_wp2_with fail
    go_ret
    exact ⟨ret_int (by omega), ⟨_, rfl⟩⟩

abbrev exW (neg : Bool) (W : Nat) (e : Int) (more : Bool) : Value := exv neg (W / 18446744073709551616) (W % 18446744073709551616) e more

theorem exW_eq {neg more more' : Bool} {a b e e' : Int} {W : Nat} (ha : a = ((W / 18446744073709551616 : Nat) : Int)) (hb : b = ((W % 18446744073709551616 : Nat) : Int)) (he : e = e') (hm : more = more') :
    Ending.returned (.agg #[.bool neg, .int .u64 a, .int .u64 b, .int .i64 e, .bool more]) = .returned (exW neg W e' more') := by
  subst ha hb he hm; rfl

theorem wrap_mul (a k : Nat) : IntKind.u64.wrap ((a : Int) * 2 ^ k) = ((a * 2 ^ k % 18446744073709551616 : Nat) : Int) := by
  rw [IntKind.wrap_u64]; simp
theorem div_nat (a k : Nat) : (a : Int) / 2 ^ k = ((a / 2 ^ k : Nat) : Int) := by simp

theorem below_new2 (w : World) (o o' : Obj) : Below w.heap.size w ((w.alloc o).alloc o') := (below_new w o).alloc (by simp) _

theorem info53 : (Try.prog.info? 53).map (·.size) = some 5 := by kernel_rfl
theorem res53 {fn : Func} {p : Tmp} (h : fn.results = #[.cell p 53]) (tmps : Array Value) (w : World) (g : Nat) (t : TypeId) (cs : Array Value)
    (hp : tmps.getD p undef = .pointer (some ⟨g, 0, none⟩)) (hg : w.heap[g]? = some (.cells cs t (0, 0))) (hs : cs.size = 5) :
    (results fn tmps).run Try.prog w = .ok (.agg cs) w :=
  results_cell_row h tmps w g t cs (0, 0) _ hp hg Try.underlying53 rfl (by rw [info53, hs])


/-- The words of the left shift. -/
theorem left_hi1 {hi lo n : Nat} (h2 : lo < 18446744073709551616) (hn : 64 ≤ n) (hW : (hi * 18446744073709551616 + lo) * 2 ^ n < 340282366920938463463374607431768211456) :
    lo * 2 ^ (n - 64) % 18446744073709551616 = (hi * 18446744073709551616 + lo) * 2 ^ n / 18446744073709551616 ∧ (hi * 18446744073709551616 + lo) * 2 ^ n % 18446744073709551616 = 0 := by
  obtain ⟨k, rfl⟩ : ∃ k, n = 64 + k := ⟨n - 64, by omega⟩
  rw [Nat.add_sub_cancel_left, Nat.pow_add, show (2 : Nat) ^ 64 = 18446744073709551616 from rfl, ← Nat.mul_assoc] at *
  rw [Nat.mul_right_comm] at *
  have hp := Nat.two_pow_pos k
  rw [Nat.mul_div_cancel _ (by decide), Nat.mul_mod_left]
  have hh : (hi * 18446744073709551616 + lo) * 2 ^ k < 18446744073709551616 := by omega
  have h0 : hi = 0 := by
    rcases Nat.eq_zero_or_pos hi with h | h
    · exact h
    · exfalso
      have : 18446744073709551616 ≤ (hi * 18446744073709551616 + lo) * 2 ^ k := Nat.le_trans (by omega) (Nat.le_mul_of_pos_right _ hp)
      omega
  subst h0
  rw [Nat.zero_mul, Nat.zero_add] at *
  exact ⟨Nat.mod_eq_of_lt hh, rfl⟩

theorem left_hi2 {hi lo n : Nat} (h1 : hi < 18446744073709551616) (h2 : lo < 18446744073709551616) (hn : n < 64) (hW : (hi * 18446744073709551616 + lo) * 2 ^ n < 340282366920938463463374607431768211456) :
    (hi * 2 ^ n % 18446744073709551616 ||| lo / 2 ^ (64 - n)) = (hi * 18446744073709551616 + lo) * 2 ^ n / 18446744073709551616 ∧ lo * 2 ^ n % 18446744073709551616 = (hi * 18446744073709551616 + lo) * 2 ^ n % 18446744073709551616 ∧
    hi * 2 ^ n % 18446744073709551616 < 18446744073709551616 ∧ lo / 2 ^ (64 - n) < 18446744073709551616 := by
  have hp := Nat.two_pow_pos n
  have e1 : (hi * 18446744073709551616 + lo) * 2 ^ n = lo * 2 ^ n + 18446744073709551616 * (hi * 2 ^ n) := by
    rw [Nat.add_mul, Nat.mul_right_comm, Nat.mul_comm (hi * 2 ^ n), Nat.add_comm]
  have e2 : (18446744073709551616 : Nat) = 2 ^ n * 2 ^ (64 - n) := by rw [← Nat.pow_add, show n + (64 - n) = 64 by omega]
  have e3 : lo * 2 ^ n / 18446744073709551616 = lo / 2 ^ (64 - n) := by rw [e2, Nat.mul_comm lo, Nat.mul_div_mul_left _ _ hp]
  have e4 : lo / 2 ^ (64 - n) < 2 ^ n := by rw [Nat.div_lt_iff_lt_mul (Nat.two_pow_pos _), ← e2]; exact h2
  rw [e1] at hW ⊢
  rw [Nat.add_mul_div_left _ _ (by decide), Nat.add_mul_mod_self_left, e3]
  have e5 : hi * 2 ^ n < 18446744073709551616 := by omega
  rw [Nat.mod_eq_of_lt e5]
  refine ⟨?_, rfl, e5, Nat.lt_of_le_of_lt (Nat.div_le_self _ _) h2⟩
  rw [Nat.mul_comm, ← Nat.two_pow_add_eq_or_of_lt e4, Nat.add_comm]

set_option maxRecDepth 100000 in
theorem left_any (neg : Bool) (W : Nat) (e : Int) (more : Bool) (n : Nat) (hW : W * 2 ^ n < 340282366920938463463374607431768211456) (hn : n ≤ 128) (he : -100000 ≤ e) (he2 : e ≤ 100000) (w : World) :
    Calls Try.prog 56 #[exW neg W e more, .int .i64 (n : Int)] w fun r w' => r = .returned (exW neg (W * 2 ^ n) (e - n) more) ∧ ∃ k o o', w' = ((w.alloc o).alloc o').drewN k := by
  have hW1 : W < 340282366920938463463374607431768211456 := Nat.lt_of_le_of_lt (Nat.le_mul_of_pos_right W (Nat.two_pow_pos n)) hW
  obtain ⟨hi, lo, h1, h2, rfl⟩ : ∃ hi lo, hi < 18446744073709551616 ∧ lo < 18446744073709551616 ∧ W = hi * 18446744073709551616 + lo :=
    ⟨W / 18446744073709551616, W % 18446744073709551616, by omega, by omega, by omega⟩
  unfold exW
  rw [show (hi * 18446744073709551616 + lo) / 18446744073709551616 = hi by omega, show (hi * 18446744073709551616 + lo) % 18446744073709551616 = lo by omega]
  have HW := Lib.hid hW
  clear hW hW1
  by_cases h64 : 64 ≤ n
  · go_enter Try.func56, Try.ntmps56
    go_wp2
    ((try simp only [Exit.inBlock, Exit.then]); refine bodyPost_ret (res53 rfl _ _ _ _ _ rfl (heap_alloc2_new _ _ _) rfl) rfl ?_)
    obtain ⟨q1, q2⟩ := left_hi1 h2 h64 HW.out
    refine ⟨exW_eq ?_ ?_ rfl rfl, 0, _, _, rfl⟩
    · rw [wrap_mul, q1]
    · rw [q2]; rfl
  · by_cases h0 : n = 0
    · subst h0
      go_enter Try.func56, Try.ntmps56
      go_wp2
      ((try simp only [Exit.inBlock, Exit.then]); refine bodyPost_ret (res53 rfl _ _ _ _ _ rfl (heap_alloc2_new _ _ _) rfl) rfl ?_)
      refine ⟨exW_eq ?_ ?_ (by omega) rfl, 0, _, _, rfl⟩
      · rw [Nat.pow_zero]; omega
      · rw [Nat.pow_zero]; omega
    · have hp : 0 < n := by omega
      have hq : n < 64 := by omega
      clear h0 h64 hn
      go_enter Try.func56, Try.ntmps56
      go_wp2
      go_region
      go_wp2
      ((try simp only [Exit.inBlock, Exit.then]); refine bodyPost_ret (res53 rfl _ _ _ _ _ rfl (heap_alloc2_new _ _ _) rfl) rfl ?_)
      obtain ⟨q1, q2, q3, q4⟩ := left_hi2 h1 h2 hq HW.out
      refine ⟨exW_eq ?_ ?_ rfl rfl, 1, _, _, rfl⟩
      · rw [wrap_mul, div_nat, bits_or_u64_nat _ _ q3 q4, q1]
      · rw [wrap_mul, q2]

theorem bne_zero (n : Nat) : ((n : Int) != 0) = (n != 0) := by
  cases n <;> rfl

theorem right_lo2 {hi lo n : Nat} (h1 : hi < 18446744073709551616) (h2 : lo < 18446744073709551616) (hp : 0 < n) (hn : n < 64) :
    hi / 2 ^ n = (hi * 18446744073709551616 + lo) / 2 ^ n / 18446744073709551616 ∧ (lo / 2 ^ n ||| hi * 2 ^ (64 - n) % 18446744073709551616) = (hi * 18446744073709551616 + lo) / 2 ^ n % 18446744073709551616 ∧
    (lo * 2 ^ (64 - n) % 18446744073709551616 != 0) = ((hi * 18446744073709551616 + lo) % 2 ^ n != 0) ∧
    lo / 2 ^ n < 18446744073709551616 ∧ hi * 2 ^ (64 - n) % 18446744073709551616 < 18446744073709551616 := by
  have hpn := Nat.two_pow_pos n
  have hpm := Nat.two_pow_pos (64 - n)
  have e2 : (18446744073709551616 : Nat) = 2 ^ n * 2 ^ (64 - n) := by rw [← Nat.pow_add, show n + (64 - n) = 64 by omega]
  have e3 : (hi * 18446744073709551616 + lo) / 2 ^ n = hi * 2 ^ (64 - n) + lo / 2 ^ n := by
    rw [e2, ← Nat.mul_assoc, Nat.mul_right_comm, Nat.add_comm, Nat.add_mul_div_right _ _ hpn, Nat.add_comm]
  have e4 : lo / 2 ^ n < 2 ^ (64 - n) := by rw [Nat.div_lt_iff_lt_mul hpn, Nat.mul_comm, ← e2]; exact h2
  have e5 : (hi * 18446744073709551616 + lo) % 2 ^ n = lo % 2 ^ n := by
    rw [e2, ← Nat.mul_assoc, Nat.mul_right_comm, Nat.add_comm, Nat.add_mul_mod_self_right]
  refine ⟨?_, ?_, ?_, Nat.lt_of_le_of_lt (Nat.div_le_self _ _) h2, Nat.mod_lt _ (by decide)⟩
  · rw [Nat.div_div_eq_div_mul, Nat.mul_comm (2 ^ n), ← Nat.div_div_eq_div_mul]
    congr 1
    omega
  · rw [e3]
    have e6 : hi * 2 ^ (64 - n) % 18446744073709551616 = 2 ^ (64 - n) * (hi % 2 ^ n) := by
      rw [e2, Nat.mul_comm hi, Nat.mul_comm (2 ^ n), Nat.mul_mod_mul_left]
    rw [e6, Nat.or_comm, ← Nat.two_pow_add_eq_or_of_lt e4]
    have e7 : hi * 2 ^ (64 - n) + lo / 2 ^ n = 2 ^ (64 - n) * (hi % 2 ^ n) + lo / 2 ^ n + 18446744073709551616 * (hi / 2 ^ n) := by
      have := Nat.div_add_mod hi (2 ^ n)
      calc hi * 2 ^ (64 - n) + lo / 2 ^ n = (2 ^ n * (hi / 2 ^ n) + hi % 2 ^ n) * 2 ^ (64 - n) + lo / 2 ^ n := by rw [this]
        _ = _ := by
          rw [Nat.add_mul, Nat.mul_right_comm, ← e2, Nat.mul_comm (hi % 2 ^ n)]
          omega
    have : 2 ^ (64 - n) * (hi % 2 ^ n) + 2 ^ (64 - n) ≤ 2 ^ (64 - n) * 2 ^ n := by
      rw [← Nat.mul_succ]
      exact Nat.mul_le_mul_left _ (Nat.mod_lt _ hpn)
    rw [Nat.mul_comm (2 ^ (64 - n)) (2 ^ n), ← e2] at this
    rw [e7, Nat.add_mul_mod_self_left, Nat.mod_eq_of_lt (Nat.lt_of_lt_of_le (Nat.add_lt_add_left e4 _) this)]
  · rw [e5]
    have e6 : lo * 2 ^ (64 - n) % 18446744073709551616 = 2 ^ (64 - n) * (lo % 2 ^ n) := by
      rw [e2, Nat.mul_comm lo, Nat.mul_comm (2 ^ n), Nat.mul_mod_mul_left]
    rw [e6]
    by_cases h : lo % 2 ^ n = 0
    · rw [h, Nat.mul_zero]
    · have h' : 2 ^ (64 - n) * (lo % 2 ^ n) ≠ 0 := Nat.mul_ne_zero (by omega) h
      rw [bne_iff_ne.2 h, bne_iff_ne.2 h']

theorem right_lo3 {hi lo n : Nat} (h1 : hi < 18446744073709551616) (h2 : lo < 18446744073709551616) (hp : 64 ≤ n) (hn : n < 128) :
    (hi * 18446744073709551616 + lo) / 2 ^ n / 18446744073709551616 = 0 ∧ hi / 2 ^ (n - 64) = (hi * 18446744073709551616 + lo) / 2 ^ n % 18446744073709551616 ∧
    ((hi * 18446744073709551616 + lo) % 2 ^ n != 0) = (lo != 0 || (hi * 2 ^ (128 - n) % 18446744073709551616 != 0 && decide (64 < n))) := by
  obtain ⟨k, rfl⟩ : ∃ k, n = 64 + k := ⟨n - 64, by omega⟩
  rw [Nat.add_sub_cancel_left, show 128 - (64 + k) = 64 - k by omega, Nat.pow_add, ← Nat.div_div_eq_div_mul, show (2 : Nat) ^ 64 = 18446744073709551616 from rfl]
  have hpk := Nat.two_pow_pos k
  rw [show (hi * 18446744073709551616 + lo) / 18446744073709551616 = hi by omega]
  have hq : hi / 2 ^ k < 18446744073709551616 := Nat.lt_of_le_of_lt (Nat.div_le_self _ _) h1
  refine ⟨Nat.div_eq_of_lt hq, (Nat.mod_eq_of_lt hq).symm, ?_⟩
  rw [Nat.mod_mul, show (hi * 18446744073709551616 + lo) % 18446744073709551616 = lo by omega, show (hi * 18446744073709551616 + lo) / 18446744073709551616 = hi by omega]
  by_cases hlo : lo = 0
  · subst hlo
    by_cases hk : k = 0
    · subst hk
      simp [Nat.mod_one]
    · have e2 : (18446744073709551616 : Nat) = 2 ^ k * 2 ^ (64 - k) := by rw [← Nat.pow_add, show k + (64 - k) = 64 by omega]
      have e6 : hi * 2 ^ (64 - k) % 18446744073709551616 = 2 ^ (64 - k) * (hi % 2 ^ k) := by
        rw [e2, Nat.mul_comm hi, Nat.mul_comm (2 ^ k), Nat.mul_mod_mul_left]
      rw [e6, decide_eq_true (by omega), Bool.and_true]
      by_cases h : hi % 2 ^ k = 0
      · rw [h]; rfl
      · have h' : 2 ^ (64 - k) * (hi % 2 ^ k) ≠ 0 := Nat.mul_ne_zero (by have := Nat.two_pow_pos (64 - k); omega) h
        have h'' : 0 + 18446744073709551616 * (hi % 2 ^ k) ≠ 0 := by omega
        rw [bne_iff_ne.2 h', bne_iff_ne.2 h'']; rfl
  · have h'' : lo + 18446744073709551616 * (hi % 2 ^ k) ≠ 0 := by omega
    rw [bne_iff_ne.2 hlo, bne_iff_ne.2 h'']; rfl

theorem agg_bool {x y z u : Value} {a b : Bool} (h : a = b) : Ending.returned (.agg #[x, y, z, u, .bool a]) = .returned (.agg #[x, y, z, u, .bool b]) := by rw [h]

set_option maxRecDepth 100000 in
theorem right_small (neg : Bool) (hi lo : Nat) (e : Int) (more : Bool) (n : Nat) (h1 : hi < 18446744073709551616) (h2 : lo < 18446744073709551616) (hp : 0 < n) (hn : n < 64) (he : -100000 ≤ e) (he2 : e ≤ 100000) (w : World) :
    Calls Try.prog 73 #[exv neg hi lo e more, .int .i64 (n : Int)] w fun r w' =>
      r = .returned (.agg #[.bool neg, .int .u64 ((hi : Int) / 2 ^ n), .int .u64 (bits .or .u64 ((lo : Int) / 2 ^ n) (IntKind.u64.wrap ((hi : Int) * 2 ^ (64 - n)))), .int .i64 (e + n), .bool (more || (IntKind.u64.wrap ((lo : Int) * 2 ^ (64 - n)) != 0))]) ∧ ∃ k o o', w' = ((w.alloc o).alloc o').drewN k := by
  cases more
  · go_enter Try.func73, Try.ntmps73
    go_wp2_with fail
    go_region
    go_wp2_with fail
    ((try simp only [Exit.inBlock, Exit.then]); refine bodyPost_ret (res53 rfl _ _ _ _ _ rfl (heap_alloc2_new _ _ _) rfl) rfl ?_)
    exact ⟨rfl, 1, _, _, rfl⟩
  · go_enter Try.func73, Try.ntmps73
    go_wp2_with fail
    go_region
    go_wp2_with fail
    ((try simp only [Exit.inBlock, Exit.then]); refine bodyPost_ret (res53 rfl _ _ _ _ _ rfl (heap_alloc2_new _ _ _) rfl) rfl ?_)
    exact ⟨rfl, 1, _, _, rfl⟩

set_option maxRecDepth 100000 in
theorem right_zero (neg : Bool) (hi lo : Nat) (e : Int) (more : Bool) (he : -100000 ≤ e) (he2 : e ≤ 100000) (w : World) :
    Calls Try.prog 73 #[exv neg hi lo e more, .int .i64 0] w fun r w' =>
      r = .returned (exv neg hi lo e more) ∧ ∃ k o o', w' = ((w.alloc o).alloc o').drewN k := by
  go_enter Try.func73, Try.ntmps73
  go_wp2_with fail
  ((try simp only [Exit.inBlock, Exit.then]); refine bodyPost_ret (res53 rfl _ _ _ _ _ rfl (heap_alloc2_new _ _ _) rfl) rfl ?_)
  exact ⟨rfl, 0, _, _, rfl⟩

set_option maxRecDepth 100000 in
theorem right_mid (neg : Bool) (hi lo : Nat) (e : Int) (more : Bool) (n : Nat) (h1 : hi < 18446744073709551616) (h2 : lo < 18446744073709551616) (hp : 64 ≤ n) (hn : n < 128) (he : -100000 ≤ e) (he2 : e ≤ 100000) (w : World) :
    Calls Try.prog 73 #[exv neg hi lo e more, .int .i64 (n : Int)] w fun r w' =>
      r = .returned (.agg #[.bool neg, .int .u64 0, .int .u64 ((hi : Int) / 2 ^ (n - 64)), .int .i64 (e + n), .bool (more || ((lo : Int) != 0 || (IntKind.u64.wrap ((hi : Int) * 2 ^ (128 - n)) != 0 && decide (64 < (n : Int)))))]) ∧ ∃ k o o', w' = ((w.alloc o).alloc o').drewN k := by
  cases more
  · go_enter Try.func73, Try.ntmps73
    go_wp2_with fail
    all_goals (go_region; go_wp2_with fail; ((try simp only [Exit.inBlock, Exit.then]); refine bodyPost_ret (res53 rfl _ _ _ _ _ rfl (heap_alloc2_new _ _ _) rfl) rfl ?_); refine ⟨agg_bool ?_, 1, _, _, rfl⟩)
    · rename_i a b
      rw [a, b]; rfl
    · rename_i a b
      rw [a]; rfl
    · rename_i a
      rw [bne_zero, bne_iff_ne.2 a]; rfl
  · go_enter Try.func73, Try.ntmps73
    go_wp2_with fail
    go_region
    go_wp2_with fail
    ((try simp only [Exit.inBlock, Exit.then]); refine bodyPost_ret (res53 rfl _ _ _ _ _ rfl (heap_alloc2_new _ _ _) rfl) rfl ?_)
    exact ⟨rfl, 1, _, _, rfl⟩

theorem words (W : Nat) (hW : W < 340282366920938463463374607431768211456) : ∃ hi lo, hi < 18446744073709551616 ∧ lo < 18446744073709551616 ∧ W = hi * 18446744073709551616 + lo ∧ W / 18446744073709551616 = hi ∧ W % 18446744073709551616 = lo :=
  ⟨W / 18446744073709551616, W % 18446744073709551616, by omega, by omega, by omega, rfl, rfl⟩

theorem right_any (neg : Bool) (W : Nat) (e : Int) (more : Bool) (n : Nat) (hW : W < 340282366920938463463374607431768211456) (hn : n < 128) (he : -100000 ≤ e) (he2 : e ≤ 100000) (w : World) :
    Calls Try.prog 73 #[exW neg W e more, .int .i64 (n : Int)] w fun r w' => r = .returned (exW neg (W / 2 ^ n) (e + n) (more || W % 2 ^ n != 0)) ∧ ∃ k o o', w' = ((w.alloc o).alloc o').drewN k := by
  obtain ⟨hi, lo, h1, h2, rfl, e1, e2⟩ := words W hW
  unfold exW
  rw [e1, e2]
  clear hW e1 e2
  by_cases h0 : n = 0
  · subst h0
    refine (right_zero neg hi lo e more he he2 w).mono ?_
    rintro r w' ⟨rfl, hw⟩
    refine ⟨exW_eq ?_ ?_ ?_ ?_, hw⟩
    · rw [Nat.pow_zero]; omega
    · rw [Nat.pow_zero]; omega
    · exact (Int.add_zero e).symm
    · simp [Nat.mod_one]
  · by_cases h64 : 64 ≤ n
    · obtain ⟨q1, q2, q3⟩ := right_lo3 (hi := hi) (lo := lo) h1 h2 h64 hn
      refine (right_mid neg hi lo e more n h1 h2 h64 hn he he2 w).mono ?_
      rintro r w' ⟨rfl, hw⟩
      refine ⟨exW_eq ?_ ?_ rfl ?_, hw⟩
      · rw [q1]; rfl
      · rw [div_nat, q2]
      · rw [q3, wrap_mul, bne_zero, bne_zero, show decide (64 < (n : Int)) = decide (64 < n) from decide_eq_decide.2 (by omega)]
    · obtain ⟨q1, q2, q3, q4, q5⟩ := right_lo2 (hi := hi) (lo := lo) h1 h2 (by omega) (Nat.lt_of_not_le h64)
      refine (right_small neg hi lo e more n h1 h2 (by omega) (by omega) he he2 w).mono ?_
      rintro r w' ⟨rfl, hw⟩
      refine ⟨exW_eq ?_ ?_ rfl ?_, hw⟩
      · rw [div_nat, q1]
      · rw [div_nat, wrap_mul, bits_or_u64_nat _ _ q4 q5, q2]
      · rw [wrap_mul, bne_zero, q3]

theorem heap_alloc3_mid (w : World) (a b c : Obj) : (((w.alloc a).alloc b).alloc c).heap[w.heap.size + 1]? = some b := by
  exact (Below.heap_alloc _ _ _ (by simp)).trans (heap_alloc2_new w a b)

set_option maxRecDepth 100000 in
theorem right_big0 (neg : Bool) (hi lo : Nat) (e : Int) (n : Nat) (hp : 128 ≤ n) (hn : n < 100000) (he : -100000 ≤ e) (he2 : e ≤ 100000) (w : World) :
    Calls Try.prog 73 #[exv neg hi lo e false, .int .i64 (n : Int)] w fun r w' =>
      r = .returned (.agg #[.bool neg, .int .u64 0, .int .u64 0, .int .i64 (e + n), .bool (!decide (hi = 0) || !decide (lo = 0))]) ∧ ∃ k o o' o'', w' = (((w.alloc o).alloc o').alloc o'').drewN k := by
  have HZ := Lib.hid (fun e more w => zero_any neg hi lo e more w)
  go_enter Try.func73, Try.ntmps73
  go_wp2_with fail
  refine (HZ.out _ _ _).mono ?_
  rintro r w' ⟨rfl, o, rfl⟩
  go_wp2_with fail
  (try simp only [Exit.inBlock, Exit.then])
  refine bodyPost_ret (res53 rfl _ _ _ _ _ rfl (heap_alloc3_mid _ _ _ _) rfl) rfl ?_
  exact ⟨rfl, 0, _, _, _, rfl⟩

set_option maxRecDepth 100000 in
theorem right_big1 (neg : Bool) (hi lo : Nat) (e : Int) (n : Nat) (hp : 128 ≤ n) (hn : n < 100000) (he : -100000 ≤ e) (he2 : e ≤ 100000) (w : World) :
    Calls Try.prog 73 #[exv neg hi lo e true, .int .i64 (n : Int)] w fun r w' =>
      r = .returned (.agg #[.bool neg, .int .u64 0, .int .u64 0, .int .i64 (e + n), .bool true]) ∧ ∃ k o o', w' = ((w.alloc o).alloc o').drewN k := by
  go_enter Try.func73, Try.ntmps73
  go_wp2_with fail
  ((try simp only [Exit.inBlock, Exit.then]); refine bodyPost_ret (res53 rfl _ _ _ _ _ rfl (heap_alloc2_new _ _ _) rfl) rfl ?_)
  exact ⟨rfl, 0, _, _, rfl⟩

theorem big_pow {W n : Nat} (hW : W < 340282366920938463463374607431768211456) (hn : 128 ≤ n) : W / 2 ^ n = 0 ∧ W % 2 ^ n = W := by
  have h : W < 2 ^ n := by
    have := Nat.pow_le_pow_right (show 0 < 2 by decide) hn
    exact Nat.lt_of_lt_of_le hW this
  exact ⟨Nat.div_eq_of_lt h, Nat.mod_eq_of_lt h⟩

theorem right_over0 (neg : Bool) (W : Nat) (e : Int) (n : Nat) (hW : W < 340282366920938463463374607431768211456) (hp : 128 ≤ n) (hn : n < 100000) (he : -100000 ≤ e) (he2 : e ≤ 100000) (w : World) :
    Calls Try.prog 73 #[exW neg W e false, .int .i64 (n : Int)] w fun r w' => r = .returned (exW neg (W / 2 ^ n) (e + n) (false || W % 2 ^ n != 0)) ∧ ∃ k o o' o'', w' = (((w.alloc o).alloc o').alloc o'').drewN k := by
  obtain ⟨q1, q2⟩ := big_pow hW hp
  obtain ⟨hi, lo, h1, h2, rfl, e1, e2⟩ := words W hW
  rw [q1, q2]
  unfold exW
  rw [e1, e2]
  refine (right_big0 neg hi lo e n hp hn he he2 w).mono ?_
  rintro r w' ⟨rfl, hw⟩
  refine ⟨agg_bool ?_, hw⟩
  by_cases h : hi * 18446744073709551616 + lo = 0
  · have h1 : hi = 0 := by omega
    have h2 : lo = 0 := by omega
    subst h1 h2; rfl
  · rw [bne_iff_ne.2 h]
    by_cases h1 : hi = 0
    · have h2 : lo ≠ 0 := by omega
      simp [h2]
    · simp [h1]

theorem right_over1 (neg : Bool) (W : Nat) (e : Int) (n : Nat) (hW : W < 340282366920938463463374607431768211456) (hp : 128 ≤ n) (hn : n < 100000) (he : -100000 ≤ e) (he2 : e ≤ 100000) (w : World) :
    Calls Try.prog 73 #[exW neg W e true, .int .i64 (n : Int)] w fun r w' => r = .returned (exW neg (W / 2 ^ n) (e + n) (true || W % 2 ^ n != 0)) ∧ ∃ k o o', w' = ((w.alloc o).alloc o').drewN k := by
  obtain ⟨q1, q2⟩ := big_pow hW hp
  obtain ⟨hi, lo, h1, h2, rfl, e1, e2⟩ := words W hW
  rw [q1, q2]
  unfold exW
  rw [e1, e2]
  refine (right_big1 neg hi lo e n hp hn he he2 w).mono ?_
  rintro r w' ⟨rfl, hw⟩
  exact ⟨rfl, hw⟩
end Go.Proofs.Ythkfaacgabkhhaa
