/- Shaken: Ga. -/
import Derived.Test.YtnljfcebmgifdaaGreatZWa
import Derived.Test.YtnljfcebmgifdaaGreatZWb
import Derived.Laws.OwnMore
import Derived.Deep.Draws
import Derived.Laws.Rows
import Derived.Laws.CopyOwn
import Derived.Laws.ResultCell
import Derived.Laws.Cover2
import Derived.Deep.DeepCutAuto
import Derived.Laws.Externs
import Derived.Shelf.Spec.BitsCarry
import Derived.Deep.RegionHeld3
set_option maxRecDepth 100000
set_option maxHeartbeats 4000000
set_option linter.unusedVariables false
set_option linter.unusedSimpArgs false
namespace Go.Proofs.YtnljfcebmgifdaaGreat
open Go.RowKit
abbrev exv (neg : Bool) (hi lo : Nat) (e : Int) (more : Bool) : Value := .agg #[.bool neg, .int .u64 (hi : Int), .int .u64 (lo : Int), .int .i64 e, .bool more]
theorem below_new (w : World) (o : Obj) : Below w.heap.size w (w.alloc o) := (Below.refl _ _).alloc (Nat.le_refl _) _
theorem zero_any (neg : Bool) (hi lo : Nat) (e : Int) (more : Bool) (w : World) :
   Calls Tryz.prog 143 #[exv neg hi lo e more] w fun r w' => r = .returned (.bool (decide (hi = 0) && decide (lo = 0))) ∧ ∃ o, w' = w.alloc o := by
 go_enter Tryz.func143, Tryz.ntmps143
 go_wp2
 · go_ret
   refine ⟨ret_bool ?_, ⟨_, rfl⟩⟩
   rename_i h0
   by_cases h : lo = 0 <;> simp [h, h0]
 · rename_i h
   go_ret
   refine ⟨ret_bool ?_, ⟨_, rfl⟩⟩
   simp [h]
theorem bitLen_eq (n : Nat) (h : n < 18446744073709551616) : Lib.bitLen n = Fl.len n := by
 have : ∀ f n, n < 2 ^ f → Lib.bitLenAux f n = Fl.len n := by
   intro f
   induction f with
   | zero => intro n hn; have : n = 0 := by simpa using hn
             subst this; rfl
   | succ f ih =>
     intro n hn
     rw [Lib.bitLenAux]
     split
     · rename_i h0; subst h0; rfl
     · rename_i h0
       rw [ih (n / 2) (by rw [Nat.pow_succ] at hn; omega)]
       by_cases h1 : n / 2 = 0
       · have : n = 1 := by omega
         subst this; decide
       · have e := Fl.len_div_pow (n := n) 1 (by
           apply Nat.lt_of_not_le
           intro hh
           have := Fl.lt_len n
           have := Nat.pow_le_pow_right (show 0 < 2 by decide) hh
           omega)
         rw [Nat.pow_one] at e
         rw [e]
         have := Fl.len_pos h0
         omega
 exact this 64 n h
theorem len64 (n : Nat) (h : n < 18446744073709551616) (w : World) :
   Calls Tryz.prog 137 #[.int .u64 (n : Int)] w fun e w' => e = .returned (.int .i64 (Fl.len n : Nat)) ∧ w = w' := by
 refine (len64_any (n : Int) w (by omega) (by omega)).mono ?_
 rintro e w' ⟨rfl, rfl⟩
 rw [Int.toNat_natCast, bitLen_eq n h]
 exact ⟨rfl, rfl⟩
theorem len_le64 {n : Nat} (h : n < 18446744073709551616) : Fl.len n ≤ 64 := Fl.len_le_of_lt (by omega)
theorem length_any (neg : Bool) (hi lo : Nat) (e : Int) (more : Bool) (h1 : hi < 18446744073709551616) (h2 : lo < 18446744073709551616) (w : World) :
   Calls Tryz.prog 121 #[exv neg hi lo e more] w fun r w' => r = .returned (.int .i64 (Fl.len (hi * 18446744073709551616 + lo) : Nat)) ∧ ∃ o, w' = w.alloc o := by
 have HH := Lib.hid (fun w => len64 hi h1 w)
 have HL := Lib.hid (fun w => len64 lo h2 w)
 have b1 := len_le64 h1
 have b2 := len_le64 h2
 by_cases h0 : hi = 0
 · subst h0
   rw [Nat.zero_mul, Nat.zero_add]
   generalize Fl.len lo = y at *
   clear HH
   go_enter Tryz.func121, Tryz.ntmps121
   go_wp2_with fail
   refine (HL.out _).mono ?_
   rintro e w' ⟨rfl, rfl⟩
   go_wp2_with fail
   go_ret
   exact ⟨rfl, ⟨_, rfl⟩⟩
 · have E : Fl.len (hi * 18446744073709551616 + lo) = 64 + Fl.len hi := (by
     have := Fl.len_div_pow (n := hi * 18446744073709551616 + lo) 64 (by
           apply Nat.lt_of_not_le
           intro hh
           have h3 := Fl.lt_len (hi * 18446744073709551616 + lo)
           have h4 := Nat.pow_le_pow_right (show 0 < 2 by decide) hh
           have h5 : 2 ^ 64 = 18446744073709551616 := by decide
           omega)
     rw [show (2:Nat) ^ 64 = 18446744073709551616 from rfl, show (hi * 18446744073709551616 + lo) / 18446744073709551616 = hi by omega] at this
     have hp := Fl.len_pos h0
     omega)
   rw [E]
   generalize Fl.len hi = y at *
   clear HL E
   go_enter Tryz.func121, Tryz.ntmps121
   go_wp2_with fail
   refine (HH.out _).mono ?_
   rintro e w' ⟨rfl, rfl⟩
   go_wp2_with fail
   go_ret
   exact ⟨ret_int (by omega), ⟨_, rfl⟩⟩
abbrev exW (neg : Bool) (W : Nat) (e : Int) (more : Bool) : Value := exv neg (W / 18446744073709551616) (W % 18446744073709551616) e more
theorem exW_eq {neg more more' : Bool} {a b e e' : Int} {W : Nat} (ha : a = ((W / 18446744073709551616 : Nat) : Int)) (hb : b = ((W % 18446744073709551616 : Nat) : Int)) (he : e = e') (hm : more = more') :
   Ending.returned (.agg #[.bool neg, .int .u64 a, .int .u64 b, .int .i64 e, .bool more]) = .returned (exW neg W e' more') := by
 subst ha hb he hm; rfl
theorem wrap_mul (a k : Nat) : IntKind.u64.wrap ((a : Int) * 2 ^ k) = ((a * 2 ^ k % 18446744073709551616 : Nat) : Int) := by
 rw [IntKind.wrap_u64]; simp
theorem div_nat (a k : Nat) : (a : Int) / 2 ^ k = ((a / 2 ^ k : Nat) : Int) := by simp
theorem below_new2 (w : World) (o o' : Obj) : Below w.heap.size w ((w.alloc o).alloc o') := (below_new w o).alloc (by simp) _
theorem info53 : (Tryz.prog.info? 105).map (·.size) = some 5 := by kernel_rfl
theorem res53 {fn : Func} {p : Tmp} (h : fn.results = #[.cell p 105]) (tmps : Array Value) (w : World) (g : Nat) (t : TypeId) (cs : Array Value)
   (hp : tmps.getD p undef = .pointer (some ⟨g, 0, none⟩)) (hg : w.heap[g]? = some (.cells cs t (0, 0))) (hs : cs.size = 5) :
   (results fn tmps).run Tryz.prog w = .ok (.agg cs) w :=
 results_cell_row h tmps w g t cs (0, 0) _ hp hg Tryz.underlying105 rfl (by rw [info53, hs])
/-- The words of the left shift. -/
theorem left_hi1 {hi lo n : Nat} (h2 : lo < 18446744073709551616) (hn : 64 ≤ n) (hW : (hi * 18446744073709551616 + lo) * 2 ^ n < 340282366920938463463374607431768211456) :
   lo * 2 ^ (n - 64) % 18446744073709551616 = (hi * 18446744073709551616 + lo) * 2 ^ n / 18446744073709551616 ∧ (hi * 18446744073709551616 + lo) * 2 ^ n % 18446744073709551616 = 0 := by
 obtain ⟨k, rfl⟩ : ∃ k, n = 64 + k := ⟨n - 64, by omega⟩
 rw [Nat.add_sub_cancel_left, Nat.pow_add, show (2 : Nat) ^ 64 = 18446744073709551616 from rfl, ← Nat.mul_assoc] at *
 rw [Nat.mul_right_comm] at *
 have hp := Nat.two_pow_pos k
 rw [Nat.mul_div_cancel _ (by decide), Nat.mul_mod_left]
 have hh : (hi * 18446744073709551616 + lo) * 2 ^ k < 18446744073709551616 := by omega
 have h0 : hi = 0 := by
   rcases Nat.eq_zero_or_pos hi with h | h
   · exact h
   · exfalso
     have : 18446744073709551616 ≤ (hi * 18446744073709551616 + lo) * 2 ^ k := Nat.le_trans (by omega) (Nat.le_mul_of_pos_right _ hp)
     omega
 subst h0
 rw [Nat.zero_mul, Nat.zero_add] at *
 exact ⟨Nat.mod_eq_of_lt hh, rfl⟩
theorem left_hi2 {hi lo n : Nat} (h1 : hi < 18446744073709551616) (h2 : lo < 18446744073709551616) (hn : n < 64) (hW : (hi * 18446744073709551616 + lo) * 2 ^ n < 340282366920938463463374607431768211456) :
   (hi * 2 ^ n % 18446744073709551616 ||| lo / 2 ^ (64 - n)) = (hi * 18446744073709551616 + lo) * 2 ^ n / 18446744073709551616 ∧ lo * 2 ^ n % 18446744073709551616 = (hi * 18446744073709551616 + lo) * 2 ^ n % 18446744073709551616 ∧
   hi * 2 ^ n % 18446744073709551616 < 18446744073709551616 ∧ lo / 2 ^ (64 - n) < 18446744073709551616 := by
 have hp := Nat.two_pow_pos n
 have e1 : (hi * 18446744073709551616 + lo) * 2 ^ n = lo * 2 ^ n + 18446744073709551616 * (hi * 2 ^ n) := by
   rw [Nat.add_mul, Nat.mul_right_comm, Nat.mul_comm (hi * 2 ^ n), Nat.add_comm]
 have e2 : (18446744073709551616 : Nat) = 2 ^ n * 2 ^ (64 - n) := by rw [← Nat.pow_add, show n + (64 - n) = 64 by omega]
 have e3 : lo * 2 ^ n / 18446744073709551616 = lo / 2 ^ (64 - n) := by rw [e2, Nat.mul_comm lo, Nat.mul_div_mul_left _ _ hp]
 have e4 : lo / 2 ^ (64 - n) < 2 ^ n := by rw [Nat.div_lt_iff_lt_mul (Nat.two_pow_pos _), ← e2]; exact h2
 rw [e1] at hW ⊢
 rw [Nat.add_mul_div_left _ _ (by decide), Nat.add_mul_mod_self_left, e3]
 have e5 : hi * 2 ^ n < 18446744073709551616 := by omega
 rw [Nat.mod_eq_of_lt e5]
 refine ⟨?_, rfl, e5, Nat.lt_of_le_of_lt (Nat.div_le_self _ _) h2⟩
 rw [Nat.mul_comm, ← Nat.two_pow_add_eq_or_of_lt e4, Nat.add_comm]
theorem left_any (neg : Bool) (W : Nat) (e : Int) (more : Bool) (n : Nat) (hW : W * 2 ^ n < 340282366920938463463374607431768211456) (hn : n ≤ 128) (he : -100000 ≤ e) (he2 : e ≤ 100000) (w : World) :
   Calls Tryz.prog 120 #[exW neg W e more, .int .i64 (n : Int)] w fun r w' => r = .returned (exW neg (W * 2 ^ n) (e - n) more) ∧ ∃ k o o', w' = ((w.alloc o).alloc o').drewN k := by
 have hW1 : W < 340282366920938463463374607431768211456 := Nat.lt_of_le_of_lt (Nat.le_mul_of_pos_right W (Nat.two_pow_pos n)) hW
 obtain ⟨hi, lo, h1, h2, rfl⟩ : ∃ hi lo, hi < 18446744073709551616 ∧ lo < 18446744073709551616 ∧ W = hi * 18446744073709551616 + lo :=
   ⟨W / 18446744073709551616, W % 18446744073709551616, by omega, by omega, by omega⟩
 unfold exW
 rw [show (hi * 18446744073709551616 + lo) / 18446744073709551616 = hi by omega, show (hi * 18446744073709551616 + lo) % 18446744073709551616 = lo by omega]
 have HW := Lib.hid hW
 clear hW hW1
 by_cases h64 : 64 ≤ n
 · go_enter Tryz.func120, Tryz.ntmps120
   go_wp2
   ((try simp only [Exit.inBlock, Exit.then]); refine bodyPost_ret (res53 rfl _ _ _ _ _ rfl (heap_alloc2_new _ _ _) rfl) rfl ?_)
   obtain ⟨q1, q2⟩ := left_hi1 h2 h64 HW.out
   refine ⟨exW_eq ?_ ?_ rfl rfl, 0, _, _, rfl⟩
   · rw [wrap_mul, q1]
   · rw [q2]; rfl
 · by_cases h0 : n = 0
   · subst h0
     go_enter Tryz.func120, Tryz.ntmps120
     go_wp2
     ((try simp only [Exit.inBlock, Exit.then]); refine bodyPost_ret (res53 rfl _ _ _ _ _ rfl (heap_alloc2_new _ _ _) rfl) rfl ?_)
     refine ⟨exW_eq ?_ ?_ (by omega) rfl, 0, _, _, rfl⟩
     · rw [Nat.pow_zero]; omega
     · rw [Nat.pow_zero]; omega
   · have hp : 0 < n := by omega
     have hq : n < 64 := by omega
     clear h0 h64 hn
     go_enter Tryz.func120, Tryz.ntmps120
     go_wp2
     go_region
     go_wp2
     ((try simp only [Exit.inBlock, Exit.then]); refine bodyPost_ret (res53 rfl _ _ _ _ _ rfl (heap_alloc2_new _ _ _) rfl) rfl ?_)
     obtain ⟨q1, q2, q3, q4⟩ := left_hi2 h1 h2 hq HW.out
     refine ⟨exW_eq ?_ ?_ rfl rfl, 1, _, _, rfl⟩
     · rw [wrap_mul, div_nat, bits_or_u64_nat _ _ q3 q4, q1]
     · rw [wrap_mul, q2]
theorem bne_zero (n : Nat) : ((n : Int) != 0) = (n != 0) := by
 cases n <;> rfl
theorem right_lo2 {hi lo n : Nat} (h1 : hi < 18446744073709551616) (h2 : lo < 18446744073709551616) (hp : 0 < n) (hn : n < 64) :
   hi / 2 ^ n = (hi * 18446744073709551616 + lo) / 2 ^ n / 18446744073709551616 ∧ (lo / 2 ^ n ||| hi * 2 ^ (64 - n) % 18446744073709551616) = (hi * 18446744073709551616 + lo) / 2 ^ n % 18446744073709551616 ∧
   (lo * 2 ^ (64 - n) % 18446744073709551616 != 0) = ((hi * 18446744073709551616 + lo) % 2 ^ n != 0) ∧
   lo / 2 ^ n < 18446744073709551616 ∧ hi * 2 ^ (64 - n) % 18446744073709551616 < 18446744073709551616 := by
 have hpn := Nat.two_pow_pos n
 have hpm := Nat.two_pow_pos (64 - n)
 have e2 : (18446744073709551616 : Nat) = 2 ^ n * 2 ^ (64 - n) := by rw [← Nat.pow_add, show n + (64 - n) = 64 by omega]
 have e3 : (hi * 18446744073709551616 + lo) / 2 ^ n = hi * 2 ^ (64 - n) + lo / 2 ^ n := by
   rw [e2, ← Nat.mul_assoc, Nat.mul_right_comm, Nat.add_comm, Nat.add_mul_div_right _ _ hpn, Nat.add_comm]
 have e4 : lo / 2 ^ n < 2 ^ (64 - n) := by rw [Nat.div_lt_iff_lt_mul hpn, Nat.mul_comm, ← e2]; exact h2
 have e5 : (hi * 18446744073709551616 + lo) % 2 ^ n = lo % 2 ^ n := by
   rw [e2, ← Nat.mul_assoc, Nat.mul_right_comm, Nat.add_comm, Nat.add_mul_mod_self_right]
 refine ⟨?_, ?_, ?_, Nat.lt_of_le_of_lt (Nat.div_le_self _ _) h2, Nat.mod_lt _ (by decide)⟩
 · rw [Nat.div_div_eq_div_mul, Nat.mul_comm (2 ^ n), ← Nat.div_div_eq_div_mul]
   congr 1
   omega
 · rw [e3]
   have e6 : hi * 2 ^ (64 - n) % 18446744073709551616 = 2 ^ (64 - n) * (hi % 2 ^ n) := by
     rw [e2, Nat.mul_comm hi, Nat.mul_comm (2 ^ n), Nat.mul_mod_mul_left]
   rw [e6, Nat.or_comm, ← Nat.two_pow_add_eq_or_of_lt e4]
   have e7 : hi * 2 ^ (64 - n) + lo / 2 ^ n = 2 ^ (64 - n) * (hi % 2 ^ n) + lo / 2 ^ n + 18446744073709551616 * (hi / 2 ^ n) := by
     have := Nat.div_add_mod hi (2 ^ n)
     calc hi * 2 ^ (64 - n) + lo / 2 ^ n = (2 ^ n * (hi / 2 ^ n) + hi % 2 ^ n) * 2 ^ (64 - n) + lo / 2 ^ n := by rw [this]
       _ = _ := by
         rw [Nat.add_mul, Nat.mul_right_comm, ← e2, Nat.mul_comm (hi % 2 ^ n)]
         omega
   have : 2 ^ (64 - n) * (hi % 2 ^ n) + 2 ^ (64 - n) ≤ 2 ^ (64 - n) * 2 ^ n := by
     rw [← Nat.mul_succ]
     exact Nat.mul_le_mul_left _ (Nat.mod_lt _ hpn)
   rw [Nat.mul_comm (2 ^ (64 - n)) (2 ^ n), ← e2] at this
   rw [e7, Nat.add_mul_mod_self_left, Nat.mod_eq_of_lt (Nat.lt_of_lt_of_le (Nat.add_lt_add_left e4 _) this)]
 · rw [e5]
   have e6 : lo * 2 ^ (64 - n) % 18446744073709551616 = 2 ^ (64 - n) * (lo % 2 ^ n) := by
     rw [e2, Nat.mul_comm lo, Nat.mul_comm (2 ^ n), Nat.mul_mod_mul_left]
   rw [e6]
   by_cases h : lo % 2 ^ n = 0
   · rw [h, Nat.mul_zero]
   · have h' : 2 ^ (64 - n) * (lo % 2 ^ n) ≠ 0 := Nat.mul_ne_zero (by omega) h
     rw [bne_iff_ne.2 h, bne_iff_ne.2 h']
theorem right_lo3 {hi lo n : Nat} (h1 : hi < 18446744073709551616) (h2 : lo < 18446744073709551616) (hp : 64 ≤ n) (hn : n < 128) :
   (hi * 18446744073709551616 + lo) / 2 ^ n / 18446744073709551616 = 0 ∧ hi / 2 ^ (n - 64) = (hi * 18446744073709551616 + lo) / 2 ^ n % 18446744073709551616 ∧
   ((hi * 18446744073709551616 + lo) % 2 ^ n != 0) = (lo != 0 || (hi * 2 ^ (128 - n) % 18446744073709551616 != 0 && decide (64 < n))) := by
 obtain ⟨k, rfl⟩ : ∃ k, n = 64 + k := ⟨n - 64, by omega⟩
 rw [Nat.add_sub_cancel_left, show 128 - (64 + k) = 64 - k by omega, Nat.pow_add, ← Nat.div_div_eq_div_mul, show (2 : Nat) ^ 64 = 18446744073709551616 from rfl]
 have hpk := Nat.two_pow_pos k
 rw [show (hi * 18446744073709551616 + lo) / 18446744073709551616 = hi by omega]
 have hq : hi / 2 ^ k < 18446744073709551616 := Nat.lt_of_le_of_lt (Nat.div_le_self _ _) h1
 refine ⟨Nat.div_eq_of_lt hq, (Nat.mod_eq_of_lt hq).symm, ?_⟩
 rw [Nat.mod_mul, show (hi * 18446744073709551616 + lo) % 18446744073709551616 = lo by omega, show (hi * 18446744073709551616 + lo) / 18446744073709551616 = hi by omega]
 by_cases hlo : lo = 0
 · subst hlo
   by_cases hk : k = 0
   · subst hk
     simp [Nat.mod_one]
   · have e2 : (18446744073709551616 : Nat) = 2 ^ k * 2 ^ (64 - k) := by rw [← Nat.pow_add, show k + (64 - k) = 64 by omega]
     have e6 : hi * 2 ^ (64 - k) % 18446744073709551616 = 2 ^ (64 - k) * (hi % 2 ^ k) := by
       rw [e2, Nat.mul_comm hi, Nat.mul_comm (2 ^ k), Nat.mul_mod_mul_left]
     rw [e6, decide_eq_true (by omega), Bool.and_true]
     by_cases h : hi % 2 ^ k = 0
     · rw [h]; rfl
     · have h' : 2 ^ (64 - k) * (hi % 2 ^ k) ≠ 0 := Nat.mul_ne_zero (by have := Nat.two_pow_pos (64 - k); omega) h
       have h'' : 0 + 18446744073709551616 * (hi % 2 ^ k) ≠ 0 := by omega
       rw [bne_iff_ne.2 h', bne_iff_ne.2 h'']; rfl
 · have h'' : lo + 18446744073709551616 * (hi % 2 ^ k) ≠ 0 := by omega
   rw [bne_iff_ne.2 hlo, bne_iff_ne.2 h'']; rfl
theorem agg_bool {x y z u : Value} {a b : Bool} (h : a = b) : Ending.returned (.agg #[x, y, z, u, .bool a]) = .returned (.agg #[x, y, z, u, .bool b]) := by rw [h]
theorem right_small (neg : Bool) (hi lo : Nat) (e : Int) (more : Bool) (n : Nat) (h1 : hi < 18446744073709551616) (h2 : lo < 18446744073709551616) (hp : 0 < n) (hn : n < 64) (he : -100000 ≤ e) (he2 : e ≤ 100000) (w : World) :
   Calls Tryz.prog 139 #[exv neg hi lo e more, .int .i64 (n : Int)] w fun r w' =>
     r = .returned (.agg #[.bool neg, .int .u64 ((hi : Int) / 2 ^ n), .int .u64 (bits .or .u64 ((lo : Int) / 2 ^ n) (IntKind.u64.wrap ((hi : Int) * 2 ^ (64 - n)))), .int .i64 (e + n), .bool (more || (IntKind.u64.wrap ((lo : Int) * 2 ^ (64 - n)) != 0))]) ∧ ∃ k o o', w' = ((w.alloc o).alloc o').drewN k := by
 cases more
 · go_enter Tryz.func139, Tryz.ntmps139
   go_wp2_with fail
   go_region
   go_wp2_with fail
   ((try simp only [Exit.inBlock, Exit.then]); refine bodyPost_ret (res53 rfl _ _ _ _ _ rfl (heap_alloc2_new _ _ _) rfl) rfl ?_)
   exact ⟨rfl, 1, _, _, rfl⟩
 · go_enter Tryz.func139, Tryz.ntmps139
   go_wp2_with fail
   go_region
   go_wp2_with fail
   ((try simp only [Exit.inBlock, Exit.then]); refine bodyPost_ret (res53 rfl _ _ _ _ _ rfl (heap_alloc2_new _ _ _) rfl) rfl ?_)
   exact ⟨rfl, 1, _, _, rfl⟩
theorem right_zero (neg : Bool) (hi lo : Nat) (e : Int) (more : Bool) (he : -100000 ≤ e) (he2 : e ≤ 100000) (w : World) :
   Calls Tryz.prog 139 #[exv neg hi lo e more, .int .i64 0] w fun r w' =>
     r = .returned (exv neg hi lo e more) ∧ ∃ k o o', w' = ((w.alloc o).alloc o').drewN k := by
 go_enter Tryz.func139, Tryz.ntmps139
 go_wp2_with fail
 ((try simp only [Exit.inBlock, Exit.then]); refine bodyPost_ret (res53 rfl _ _ _ _ _ rfl (heap_alloc2_new _ _ _) rfl) rfl ?_)
 exact ⟨rfl, 0, _, _, rfl⟩
theorem right_mid (neg : Bool) (hi lo : Nat) (e : Int) (more : Bool) (n : Nat) (h1 : hi < 18446744073709551616) (h2 : lo < 18446744073709551616) (hp : 64 ≤ n) (hn : n < 128) (he : -100000 ≤ e) (he2 : e ≤ 100000) (w : World) :
   Calls Tryz.prog 139 #[exv neg hi lo e more, .int .i64 (n : Int)] w fun r w' =>
     r = .returned (.agg #[.bool neg, .int .u64 0, .int .u64 ((hi : Int) / 2 ^ (n - 64)), .int .i64 (e + n), .bool (more || ((lo : Int) != 0 || (IntKind.u64.wrap ((hi : Int) * 2 ^ (128 - n)) != 0 && decide (64 < (n : Int)))))]) ∧ ∃ k o o', w' = ((w.alloc o).alloc o').drewN k := by
 cases more
 · go_enter Tryz.func139, Tryz.ntmps139
   go_wp2_with fail
   all_goals (go_region; go_wp2_with fail; ((try simp only [Exit.inBlock, Exit.then]); refine bodyPost_ret (res53 rfl _ _ _ _ _ rfl (heap_alloc2_new _ _ _) rfl) rfl ?_); refine ⟨agg_bool ?_, 1, _, _, rfl⟩)
   · rename_i a b
     rw [a, b]; rfl
   · rename_i a b
     rw [a]; rfl
   · rename_i a
     rw [bne_zero, bne_iff_ne.2 a]; rfl
 · go_enter Tryz.func139, Tryz.ntmps139
   go_wp2_with fail
   go_region
   go_wp2_with fail
   ((try simp only [Exit.inBlock, Exit.then]); refine bodyPost_ret (res53 rfl _ _ _ _ _ rfl (heap_alloc2_new _ _ _) rfl) rfl ?_)
   exact ⟨rfl, 1, _, _, rfl⟩
theorem words (W : Nat) (hW : W < 340282366920938463463374607431768211456) : ∃ hi lo, hi < 18446744073709551616 ∧ lo < 18446744073709551616 ∧ W = hi * 18446744073709551616 + lo ∧ W / 18446744073709551616 = hi ∧ W % 18446744073709551616 = lo :=
 ⟨W / 18446744073709551616, W % 18446744073709551616, by omega, by omega, by omega, rfl, rfl⟩
theorem right_any (neg : Bool) (W : Nat) (e : Int) (more : Bool) (n : Nat) (hW : W < 340282366920938463463374607431768211456) (hn : n < 128) (he : -100000 ≤ e) (he2 : e ≤ 100000) (w : World) :
   Calls Tryz.prog 139 #[exW neg W e more, .int .i64 (n : Int)] w fun r w' => r = .returned (exW neg (W / 2 ^ n) (e + n) (more || W % 2 ^ n != 0)) ∧ ∃ k o o', w' = ((w.alloc o).alloc o').drewN k := by
 obtain ⟨hi, lo, h1, h2, rfl, e1, e2⟩ := words W hW
 unfold exW
 rw [e1, e2]
 clear hW e1 e2
 by_cases h0 : n = 0
 · subst h0
   refine (right_zero neg hi lo e more he he2 w).mono ?_
   rintro r w' ⟨rfl, hw⟩
   refine ⟨exW_eq ?_ ?_ ?_ ?_, hw⟩
   · rw [Nat.pow_zero]; omega
   · rw [Nat.pow_zero]; omega
   · exact (Int.add_zero e).symm
   · simp [Nat.mod_one]
 · by_cases h64 : 64 ≤ n
   · obtain ⟨q1, q2, q3⟩ := right_lo3 (hi := hi) (lo := lo) h1 h2 h64 hn
     refine (right_mid neg hi lo e more n h1 h2 h64 hn he he2 w).mono ?_
     rintro r w' ⟨rfl, hw⟩
     refine ⟨exW_eq ?_ ?_ rfl ?_, hw⟩
     · rw [q1]; rfl
     · rw [div_nat, q2]
     · rw [q3, wrap_mul, bne_zero, bne_zero, show decide (64 < (n : Int)) = decide (64 < n) from decide_eq_decide.2 (by omega)]
   · obtain ⟨q1, q2, q3, q4, q5⟩ := right_lo2 (hi := hi) (lo := lo) h1 h2 (by omega) (Nat.lt_of_not_le h64)
     refine (right_small neg hi lo e more n h1 h2 (by omega) (by omega) he he2 w).mono ?_
     rintro r w' ⟨rfl, hw⟩
     refine ⟨exW_eq ?_ ?_ rfl ?_, hw⟩
     · rw [div_nat, q1]
     · rw [div_nat, wrap_mul, bits_or_u64_nat _ _ q4 q5, q2]
     · rw [wrap_mul, bne_zero, q3]
theorem heap_alloc3_mid (w : World) (a b c : Obj) : (((w.alloc a).alloc b).alloc c).heap[w.heap.size + 1]? = some b := by
 exact (Below.heap_alloc _ _ _ (by simp)).trans (heap_alloc2_new w a b)
theorem right_big0 (neg : Bool) (hi lo : Nat) (e : Int) (n : Nat) (hp : 128 ≤ n) (hn : n < 100000) (he : -100000 ≤ e) (he2 : e ≤ 100000) (w : World) :
   Calls Tryz.prog 139 #[exv neg hi lo e false, .int .i64 (n : Int)] w fun r w' =>
     r = .returned (.agg #[.bool neg, .int .u64 0, .int .u64 0, .int .i64 (e + n), .bool (!decide (hi = 0) || !decide (lo = 0))]) ∧ ∃ k o o' o'', w' = (((w.alloc o).alloc o').alloc o'').drewN k := by
 have HZ := Lib.hid (fun e more w => zero_any neg hi lo e more w)
 go_enter Tryz.func139, Tryz.ntmps139
 go_wp2_with fail
 refine (HZ.out _ _ _).mono ?_
 rintro r w' ⟨rfl, o, rfl⟩
 go_wp2_with fail
 (try simp only [Exit.inBlock, Exit.then])
 refine bodyPost_ret (res53 rfl _ _ _ _ _ rfl (heap_alloc3_mid _ _ _ _) rfl) rfl ?_
 exact ⟨rfl, 0, _, _, _, rfl⟩
theorem right_big1 (neg : Bool) (hi lo : Nat) (e : Int) (n : Nat) (hp : 128 ≤ n) (hn : n < 100000) (he : -100000 ≤ e) (he2 : e ≤ 100000) (w : World) :
   Calls Tryz.prog 139 #[exv neg hi lo e true, .int .i64 (n : Int)] w fun r w' =>
     r = .returned (.agg #[.bool neg, .int .u64 0, .int .u64 0, .int .i64 (e + n), .bool true]) ∧ ∃ k o o', w' = ((w.alloc o).alloc o').drewN k := by
 go_enter Tryz.func139, Tryz.ntmps139
 go_wp2_with fail
 ((try simp only [Exit.inBlock, Exit.then]); refine bodyPost_ret (res53 rfl _ _ _ _ _ rfl (heap_alloc2_new _ _ _) rfl) rfl ?_)
 exact ⟨rfl, 0, _, _, rfl⟩
theorem big_pow {W n : Nat} (hW : W < 340282366920938463463374607431768211456) (hn : 128 ≤ n) : W / 2 ^ n = 0 ∧ W % 2 ^ n = W := by
 have h : W < 2 ^ n := by
   have := Nat.pow_le_pow_right (show 0 < 2 by decide) hn
   exact Nat.lt_of_lt_of_le hW this
 exact ⟨Nat.div_eq_of_lt h, Nat.mod_eq_of_lt h⟩
theorem right_over0 (neg : Bool) (W : Nat) (e : Int) (n : Nat) (hW : W < 340282366920938463463374607431768211456) (hp : 128 ≤ n) (hn : n < 100000) (he : -100000 ≤ e) (he2 : e ≤ 100000) (w : World) :
   Calls Tryz.prog 139 #[exW neg W e false, .int .i64 (n : Int)] w fun r w' => r = .returned (exW neg (W / 2 ^ n) (e + n) (false || W % 2 ^ n != 0)) ∧ ∃ k o o' o'', w' = (((w.alloc o).alloc o').alloc o'').drewN k := by
 obtain ⟨q1, q2⟩ := big_pow hW hp
 obtain ⟨hi, lo, h1, h2, rfl, e1, e2⟩ := words W hW
 rw [q1, q2]
 unfold exW
 rw [e1, e2]
 refine (right_big0 neg hi lo e n hp hn he he2 w).mono ?_
 rintro r w' ⟨rfl, hw⟩
 refine ⟨agg_bool ?_, hw⟩
 by_cases h : hi * 18446744073709551616 + lo = 0
 · have h1 : hi = 0 := by omega
   have h2 : lo = 0 := by omega
   subst h1 h2; rfl
 · rw [bne_iff_ne.2 h]
   by_cases h1 : hi = 0
   · have h2 : lo ≠ 0 := by omega
     simp [h2]
   · simp [h1]
theorem right_over1 (neg : Bool) (W : Nat) (e : Int) (n : Nat) (hW : W < 340282366920938463463374607431768211456) (hp : 128 ≤ n) (hn : n < 100000) (he : -100000 ≤ e) (he2 : e ≤ 100000) (w : World) :
   Calls Tryz.prog 139 #[exW neg W e true, .int .i64 (n : Int)] w fun r w' => r = .returned (exW neg (W / 2 ^ n) (e + n) (true || W % 2 ^ n != 0)) ∧ ∃ k o o', w' = ((w.alloc o).alloc o').drewN k := by
 obtain ⟨q1, q2⟩ := big_pow hW hp
 obtain ⟨hi, lo, h1, h2, rfl, e1, e2⟩ := words W hW
 rw [q1, q2]
 unfold exW
 rw [e1, e2]
 refine (right_big1 neg hi lo e n hp hn he he2 w).mono ?_
 rintro r w' ⟨rfl, hw⟩
 exact ⟨rfl, hw⟩
end Go.Proofs.YtnljfcebmgifdaaGreat
namespace Go.Proofs.YtnljfcebmgifdaaGreat
open Go.RowKit Ieee
theorem ofInt_nat (m : Nat) : floatOfInt .f64 (m : Int) = double.nearest false m 0 := by
 show double.nearest (decide ((m : Int) < 0)) (m : Int).natAbs 0 = _
 rw [show decide ((m : Int) < 0) = false from decide_eq_false (by omega), Int.natAbs_natCast]
theorem ofInt_small (m : Nat) (h0 : m ≠ 0) (hm : m ≤ 9007199254740992) : floatOfInt .f64 (m : Int) = Fl.rung m 1074 := by rw [ofInt_nat, Fl.nearest_small m h0 hm]
theorem ofInt_zero : floatOfInt .f64 0 = 0 := by
 have := ofInt_nat 0
 rw [Fl.nearest_zero] at this
 exact this
theorem pos_eq_zero (b : Nat) (h : b < Fl.INF) (h0 : b ≠ 0) : (FloatKind.f64.format.order b 0 == some .eq) = false := by
 have hs : b < Fl.SGN := Nat.lt_trans h Fl.inf_sgn
 have hm : Fl.mg b = b := Nat.mod_eq_of_lt hs
 have hb : b < 18446744073709551616 := Nat.lt_trans hs (by decide)
 show (double.order b 0 == some .eq) = false
 rw [Fl.eq_eq hb (by decide) (Fl.nan_of_fin (Fl.fin_of (by rw [hm]; exact h))) (by decide)]
 refine decide_eq_false ?_
 rw [Fl.Z_eq_iff hb (by decide)]
 rintro (h1 | h1)
 · exact h0 h1
 · exact h0 (hm ▸ h1.1)
theorem pos_lt_norm (b : Nat) (h : b < Fl.INF) (h0 : 4503599627370496 ≤ b) : (FloatKind.f64.format.order b 4503599627370496 == some .lt) = false := by
 have hs : b < Fl.SGN := Nat.lt_trans h Fl.inf_sgn
 have hm : Fl.mg b = b := Nat.mod_eq_of_lt hs
 have hb : b < 18446744073709551616 := Nat.lt_trans hs (by decide)
 show (double.order b 4503599627370496 == some .lt) = false
 rw [Fl.lt_eq hb (by decide) (Fl.nan_of_fin (Fl.fin_of (by rw [hm]; exact h))) (by decide)]
 refine decide_eq_false ?_
 have e1 : Fl.sg b = false := decide_eq_false (by omega)
 have e2 : Fl.Z b = (Fl.rv b : Int) := by unfold Fl.Z; rw [e1, hm]; rfl
 have e3 : Fl.Z 4503599627370496 = (Fl.rv 4503599627370496 : Int) := rfl
 rw [e2, e3]
 have := Fl.rv_le h0
 omega
theorem pos_lt_zero (b : Nat) (h : b < Fl.INF) : (FloatKind.f64.format.order b 0 == some .lt) = false := by
 have hs : b < Fl.SGN := Nat.lt_trans h Fl.inf_sgn
 have hm : Fl.mg b = b := Nat.mod_eq_of_lt hs
 have hb : b < 18446744073709551616 := Nat.lt_trans hs (by decide)
 show (double.order b 0 == some .lt) = false
 rw [Fl.lt_eq hb (by decide) (Fl.nan_of_fin (Fl.fin_of (by rw [hm]; exact h))) (by decide)]
 refine decide_eq_false ?_
 have e1 : Fl.sg b = false := decide_eq_false (by omega)
 have e2 : Fl.Z b = (Fl.rv b : Int) := by unfold Fl.Z; rw [e1, hm]; rfl
 have e3 : Fl.Z 0 = 0 := rfl
 rw [e2, e3]
 omega
theorem normalize_any (b : Nat) (h : b < Fl.INF) (h0 : 4503599627370496 ≤ b) (w : World) :
   Calls Tryz.prog 150 #[.float .f64 b] w fun e w' => e = .returned (.tuple #[.float .f64 b, .int .i64 0]) ∧ w = w' := by
 have hs : b < Fl.SGN := Nat.lt_trans h Fl.inf_sgn
 have hm : Fl.mg b = b := Nat.mod_eq_of_lt hs
 have hb : b < 18446744073709551616 := Nat.lt_trans hs (by decide)
 have HA := Lib.hid (fun w => abs_any b hb w)
 rw [hm] at HA
 have E := pos_lt_norm b h h0
 clear hs hm hb h h0
 go_enter Tryz.func150, Tryz.ntmps150
 go_wp2_with fail
 refine (HA.out _).mono ?_
 rintro e w' ⟨rfl, rfl⟩
 go_wp2_with fail
 go_ret2
 exact ⟨rfl, rfl⟩
theorem i64_and2047 (n : Int) : bits .and .i64 n 2047 = n % 2048 := by
 have h127 : (BitVec.ofInt 64 2047).toNat = 2 ^ 11 - 1 := by decide
 have key : (BitVec.ofInt 64 n &&& BitVec.ofInt 64 2047).toNat = (n % ((2 ^ 64 : Nat) : Int)).toNat % 2 ^ 11 := by
   rw [BitVec.toNat_and, BitVec.toNat_ofInt, h127, Nat.and_two_pow_sub_one_eq_mod]
 show IntKind.i64.wrap ((BitVec.ofInt 64 n &&& BitVec.ofInt 64 2047).toNat : Nat) = n % 2048
 rw [key, IntKind.wrap_i64]
 omega
theorem exp_field (p f : Nat) (hp : p < 2048) (hf : f < 4503599627370496) : bits .and .i64 (((p * 4503599627370496 + f : Nat) : Int) / 4503599627370496) 2047 = (p : Int) := by
 rw [i64_and2047]
 omega
theorem frac_field (p f : Nat) (hp : p < 2048) (hf : f < 4503599627370496) : bits .andNot .u64 ((p * 4503599627370496 + f : Nat) : Int) 9218868437227405312 = (f : Int) := by
 have h := u64_andNot_nat (p * 4503599627370496 + f) 9218868437227405312 (by omega) (by decide)
 refine h.trans ?_
 rw [show 18446744073709551615 - 9218868437227405312 = 2 ^ 63 ||| (2 ^ 52 - 1) by decide, Nat.and_or_distrib_left, nat_bit, Nat.and_two_pow_sub_one_eq_mod]
 rw [show (p * 4503599627370496 + f) / 2 ^ 63 % 2 * 2 ^ 63 = 0 by omega, Nat.zero_or]
 congr 1
 omega
theorem put_field (q f : Nat) (x : Int) (hx : x = q) (hq : q < 2048) (hf : f < 4503599627370496) : (bits .or .u64 (f : Int) (x * 4503599627370496)).toNat = q * 4503599627370496 + f := by
 subst hx
 have e : ((q : Int) * 4503599627370496) = ((q * 4503599627370496 : Nat) : Int) := by omega
 rw [e, u64_or_nat _ _ (by omega) (by omega), Int.toNat_natCast, Nat.or_comm, nat_join 52 _ _ (by omega) (by omega)]
section
variable (p f : Nat) (e : Int) (w : World)
theorem ldexp_a (b : Nat) (hb : b < Fl.INF) (h0 : 4503599627370496 ≤ b) (he : -2000 ≤ e) (he2 : e ≤ 100000) (hp : p ≤ 2046)
   (E2 : bits .and .i64 ((b : Int) / 4503599627370496) 2047 = (p : Int)) (h1 : 1023 < e + p - 1023) :
   Calls Tryz.prog 147 #[.float .f64 b, .int .i64 e] w fun r w' => r = .returned (.float .f64 9218868437227405312) ∧ w = w' := by
 have hs : b < Fl.SGN := Nat.lt_trans hb Fl.inf_sgn
 have hm : Fl.mg b = b := Nat.mod_eq_of_lt hs
 have hb' : b < 18446744073709551616 := Nat.lt_trans hs (by decide)
 have HI := Lib.hid (fun w => isInf_any b hb' w)
 have HN := Lib.hid (fun w => isNaN_any b hb' w)
 have HZ := Lib.hid (fun w => normalize_any b hb h0 w)
 have HP := Lib.hid (fun w => inf_pos 1 (by decide) w)
 rw [hm, decide_eq_false (Nat.ne_of_lt hb)] at HI
 rw [Fl.nan_of_fin (Fl.fin_of (by rw [hm]; exact hb))] at HN
 have E := pos_eq_zero b hb (by omega)
 have E3 := pos_lt_zero b hb
 go_enter Tryz.func147, Tryz.ntmps147
 go_wp2_with fail
 refine (HI.out _).mono ?_
 rintro r w' ⟨rfl, rfl⟩
 go_wp2_with fail
 refine (HN.out _).mono ?_
 rintro r w' ⟨rfl, rfl⟩
 go_wp2_with fail
 refine (HZ.out _).mono ?_
 rintro r w' ⟨rfl, rfl⟩
 go_wp2_with fail
 refine (HP.out _).mono ?_
 rintro r w' ⟨rfl, rfl⟩
 go_wp2_with fail
 go_ret
 exact ⟨rfl, rfl⟩
theorem ldexp_b (b : Nat) (hb : b < Fl.INF) (h0 : 4503599627370496 ≤ b) (he : -2000 ≤ e) (he2 : e ≤ 100000) (hp : p ≤ 2046)
   (E2 : bits .and .i64 ((b : Int) / 4503599627370496) 2047 = (p : Int)) (E4 : bits .andNot .u64 (b : Int) 9218868437227405312 = (f : Int)) (h1 : e + p - 1023 ≤ 1023) (h2 : -1022 ≤ e + p - 1023) (r : Nat)
   (E5 : (bits .or .u64 (f : Int) ((e + ((p : Int) - 1023) + 1023) * 4503599627370496)).toNat = r) (hm : floatBits .mul .f64 4607182418800017408 r = some r) :
   Calls Tryz.prog 147 #[.float .f64 b, .int .i64 e] w fun s w' => s = .returned (.float .f64 r) ∧ w = w' := by
 have hr := fun (t : TypeId) (w : World) => run_float_arith (P := Tryz.prog) w .mul t .f64 _ _ _ hm
 clear hm
 have hs : b < Fl.SGN := Nat.lt_trans hb Fl.inf_sgn
 have hm : Fl.mg b = b := Nat.mod_eq_of_lt hs
 have hb' : b < 18446744073709551616 := Nat.lt_trans hs (by decide)
 have HI := Lib.hid (fun w => isInf_any b hb' w)
 have HN := Lib.hid (fun w => isNaN_any b hb' w)
 have HZ := Lib.hid (fun w => normalize_any b hb h0 w)
 rw [hm, decide_eq_false (Nat.ne_of_lt hb)] at HI
 rw [Fl.nan_of_fin (Fl.fin_of (by rw [hm]; exact hb))] at HN
 have E := pos_eq_zero b hb (by omega)
 go_enter Tryz.func147, Tryz.ntmps147
 go_wp2_with fail
 refine (HI.out _).mono ?_
 rintro r w' ⟨rfl, rfl⟩
 go_wp2_with fail
 refine (HN.out _).mono ?_
 rintro r w' ⟨rfl, rfl⟩
 go_wp2_with fail
 refine (HZ.out _).mono ?_
 rintro r w' ⟨rfl, rfl⟩
 go_wp2_with fail
 go_ret
 exact ⟨rfl, rfl⟩
theorem ldexp_c (b : Nat) (hb : b < Fl.INF) (h0 : 4503599627370496 ≤ b) (he : -2000 ≤ e) (he2 : e ≤ 100000) (hp : p ≤ 2046)
   (E2 : bits .and .i64 ((b : Int) / 4503599627370496) 2047 = (p : Int)) (E4 : bits .andNot .u64 (b : Int) 9218868437227405312 = (f : Int)) (h1 : e + p - 1023 < -1022) (h2 : -1075 ≤ e + p - 1023) (r r' : Nat)
   (E5 : (bits .or .u64 (f : Int) ((e + ((p : Int) - 1023) + 53 + 1023) * 4503599627370496)).toNat = r) (hm : floatBits .mul .f64 4368491638549381120 r = some r') :
   Calls Tryz.prog 147 #[.float .f64 b, .int .i64 e] w fun s w' => s = .returned (.float .f64 r') ∧ w = w' := by
 have hr := fun (t : TypeId) (w : World) => run_float_arith (P := Tryz.prog) w .mul t .f64 _ _ _ hm
 clear hm
 have hs : b < Fl.SGN := Nat.lt_trans hb Fl.inf_sgn
 have hm : Fl.mg b = b := Nat.mod_eq_of_lt hs
 have hb' : b < 18446744073709551616 := Nat.lt_trans hs (by decide)
 have HI := Lib.hid (fun w => isInf_any b hb' w)
 have HN := Lib.hid (fun w => isNaN_any b hb' w)
 have HZ := Lib.hid (fun w => normalize_any b hb h0 w)
 rw [hm, decide_eq_false (Nat.ne_of_lt hb)] at HI
 rw [Fl.nan_of_fin (Fl.fin_of (by rw [hm]; exact hb))] at HN
 have E := pos_eq_zero b hb (by omega)
 go_enter Tryz.func147, Tryz.ntmps147
 go_wp2_with fail
 refine (HI.out _).mono ?_
 rintro r w' ⟨rfl, rfl⟩
 go_wp2_with fail
 refine (HN.out _).mono ?_
 rintro r w' ⟨rfl, rfl⟩
 go_wp2_with fail
 refine (HZ.out _).mono ?_
 rintro r w' ⟨rfl, rfl⟩
 go_wp2_with fail
 go_ret
 exact ⟨rfl, rfl⟩
theorem ldexp_zero :
   Calls Tryz.prog 147 #[.float .f64 0, .int .i64 e] w fun r w' => r = .returned (.float .f64 0) ∧ w = w' := by
 go_enter Tryz.func147, Tryz.ntmps147
 go_wp2_with fail
 go_ret
 exact ⟨rfl, rfl⟩
end
theorem pos_mul (a r r' : Nat) (ha : a < Fl.INF) (hr : r < Fl.INF) (hr' : r' ≤ Fl.INF) (h : Fl.rv a * Fl.rv r = Fl.rv r' * 2 ^ Fl.BB) : floatBits .mul .f64 a r = some r' := by
 have hs : r < Fl.SGN := Nat.lt_trans hr Fl.inf_sgn
 have hm : Fl.mg r = r := Nat.mod_eq_of_lt hs
 have has : a < Fl.SGN := Nat.lt_trans ha Fl.inf_sgn
 have ham : Fl.mg a = a := Nat.mod_eq_of_lt has
 have e1 : Fl.sg r = false := decide_eq_false (by omega)
 have e2 : Fl.sg a = false := decide_eq_false (by omega)
 have h64 : Fl.SGN < 18446744073709551616 := by decide
 have := Fl.mul_exact a r r' (Nat.lt_trans has h64) (Nat.lt_trans hs h64) (Fl.fin_of (by rw [ham]; exact ha)) (Fl.fin_of (by rw [hm]; exact hr)) hr' (by rw [hm, ham]; exact h)
 rw [e1, e2] at this
 exact this
theorem rv_one : Fl.rv 4607182418800017408 = 2 ^ Fl.BB := by
 obtain ⟨q, hq⟩ : ∃ q, q = 1022 := ⟨_, rfl⟩
 have h := Fl.rv_of q 4503599627370496 (by decide) (.inr (Nat.le_refl _))
 rw [show q * 4503599627370496 + 4503599627370496 = 4607182418800017408 by omega] at h
 have hB := Fl.BB_eq
 rw [h, show (4503599627370496 : Nat) = 2 ^ 52 by decide, ← Nat.pow_add, show 52 + q = Fl.BB by omega]
theorem one_mul (r : Nat) (hr : r < Fl.INF) : floatBits .mul .f64 4607182418800017408 r = some r :=
 pos_mul _ r r (by unfold Fl.INF; omega) hr (Nat.le_of_lt hr) (by rw [rv_one, Nat.mul_comm])
section
variable (m : Nat) (e : Int) (w : World)
theorem ldexp_1 (h0 : m ≠ 0) (he : -1074 ≤ e) (he2 : e ≤ 100000) (b L f : Nat) (hb : b < Fl.INF) (hb0 : 4503599627370496 ≤ b) (h1 : Fl.len m = L) (h3 : L ≤ 54)
   (E2 : bits .and .i64 ((b : Int) / 4503599627370496) 2047 = ((1022 + L : Nat) : Int)) (c1 : 1023 < e + L - 1) :
   Calls Tryz.prog 147 #[.float .f64 b, .int .i64 e] w fun s w' => s = .returned (.float .f64 (Fl.ld m e)) ∧ w = w' := by
 rw [Fl.ld_great h0 (by rw [h1]; exact c1)]
 exact ldexp_a (1022 + L) e w _ hb hb0 (by omega) he2 (by omega) E2 (by omega)
theorem ldexp_2 (he : -1074 ≤ e) (he2 : e ≤ 100000) (b L f : Nat) (hb : b < Fl.INF) (hb0 : 4503599627370496 ≤ b) (h1 : Fl.len m = L) (h3 : L ≤ 54) (h4 : f < 4503599627370496) (h5 : Fl.kept m 1074 = 4503599627370496 + f)
   (E2 : bits .and .i64 ((b : Int) / 4503599627370496) 2047 = ((1022 + L : Nat) : Int)) (E4 : bits .andNot .u64 (b : Int) 9218868437227405312 = (f : Int)) (c1 : e + L - 1 ≤ 1023) (c2 : -1022 ≤ e + L - 1) :
   Calls Tryz.prog 147 #[.float .f64 b, .int .i64 e] w fun s w' => s = .returned (.float .f64 (Fl.ld m e)) ∧ w = w' := by
 rw [Fl.ld_norm h1 h5 h4 c2 c1]
 obtain ⟨q, hq⟩ : ∃ q : Nat, (1022 + (L : Int) + e).toNat = q := ⟨_, rfl⟩
 have hq2 : q < 2048 := by omega
 have hq3 : e + (((1022 + L : Nat) : Int) - 1023) + 1023 = (q : Int) := by omega
 have E5 := put_field q f _ hq3 hq2 h4
 rw [hq]
 have hlt : q * 4503599627370496 + f < Fl.INF := by unfold Fl.INF; omega
 exact ldexp_b (1022 + L) f e w b hb hb0 (by omega) he2 (by omega) E2 E4 (by omega) (by omega) _ E5 (one_mul _ hlt)
theorem ldexp_3 (h0 : m ≠ 0) (he : -1074 ≤ e) (he2 : e ≤ 100000) (b L f : Nat) (hb : b < Fl.INF) (hb0 : 4503599627370496 ≤ b) (h1 : Fl.len m = L) (h2 : 1 ≤ L) (h3 : L ≤ 54) (h4 : f < 4503599627370496)
   (h6 : Fl.rung m 1074 = (1022 + L) * 4503599627370496 + f) (h7 : Fl.rv (Fl.rung m 1074) = m * 2 ^ Fl.BB)
   (E2 : bits .and .i64 ((b : Int) / 4503599627370496) 2047 = ((1022 + L : Nat) : Int)) (E4 : bits .andNot .u64 (b : Int) 9218868437227405312 = (f : Int)) (c2 : e + L - 1 < -1022) :
   Calls Tryz.prog 147 #[.float .f64 b, .int .i64 e] w fun s w' => s = .returned (.float .f64 (Fl.ld m e)) ∧ w = w' := by
 obtain ⟨q1, q2, q3⟩ := Fl.ld_low h0 h1 h4 h7 h6 he c2
 clear h6 h7
 obtain ⟨q, hq⟩ : ∃ q : Nat, (1022 + (L : Int) + e + 53).toNat = q := ⟨_, rfl⟩
 have hq2 : q < 2048 := by omega
 have hq3 : e + (((1022 + L : Nat) : Int) - 1023) + 53 + 1023 = (q : Int) := by omega
 have E5 := put_field q f _ hq3 hq2 h4
 rw [hq] at q1 q3
 exact ldexp_c (1022 + L) f e w b hb hb0 (by omega) he2 (by omega) E2 E4 (by omega) (by omega) _ _ E5 (pos_mul _ _ _ (by unfold Fl.INF; omega) q3 q2 q1)
theorem ldexp_any (h0 : m ≠ 0) (hm : m ≤ 9007199254740992) (he : -1074 ≤ e) (he2 : e ≤ 100000) :
   Calls Tryz.prog 147 #[.float .f64 (Fl.rung m 1074), .int .i64 e] w fun s w' => s = .returned (.float .f64 (Fl.ld m e)) ∧ w = w' := by
 have hF := Fl.flt_form m h0 hm
 have hb := Fl.flt_le m h0 hm
 have G1 := fun b L f => @ldexp_1 m e w h0 he he2 b L f
 have G2 := fun b L f => @ldexp_2 m e w he he2 b L f
 have G3 := fun b L f => @ldexp_3 m e w h0 he he2 b L f
 have X2 := fun L f => exp_field (1022 + L) f
 have X4 := fun L f => frac_field (1022 + L) f
 generalize Fl.rung m 1074 = b at *
 generalize Fl.kept m 1074 = kk at *
 generalize Fl.rv b = rr at *
 generalize Fl.lost m 1074 = ll at *
 generalize Fl.ld m e = res at *
 generalize 2 ^ Fl.BB = bb at *
 obtain ⟨L, f, h1, h2, h3, h4, h5, h6, h7, h8⟩ := hF
 have hL : 1022 + L < 2048 := by omega
 have E2 : bits .and .i64 ((b : Int) / 4503599627370496) 2047 = ((1022 + L : Nat) : Int) := by rw [h6]; exact X2 L f hL h4
 have E4 : bits .andNot .u64 (b : Int) 9218868437227405312 = (f : Int) := by rw [h6]; exact X4 L f hL h4
 have hb0 : 4503599627370496 ≤ b := by omega
 clear X2 X4 hL h8
 by_cases c1 : 1023 < e + L - 1
 · exact G1 b L f hb hb0 h1 h3 E2 c1
 · by_cases c2 : -1022 ≤ e + L - 1
   · have c3 : e + L - 1 ≤ 1023 := by omega
     exact G2 b L f hb hb0 h1 h3 h4 h5 E2 E4 c3 c2
   · have c3 : e + L - 1 < -1022 := by omega
     exact G3 b L f hb hb0 h1 h2 h3 h4 h6 h7 E2 E4 c3
theorem ldexp_pub (b r : Nat) (H : Calls Tryz.prog 147 #[.float .f64 b, .int .i64 e] w fun s w' => s = .returned (.float .f64 r) ∧ w = w') :
   Calls Tryz.prog 140 #[.float .f64 b, .int .i64 e] w fun s w' => s = .returned (.float .f64 r) ∧ w = w' := by
 have HH := Lib.hid H
 clear H
 go_enter Tryz.func140, Tryz.ntmps140
 go_wp2_with fail
 refine HH.out.mono ?_
 rintro r w' ⟨rfl, rfl⟩
 go_wp2_with fail
 go_ret
 exact ⟨rfl, rfl⟩
end
end Go.Proofs.YtnljfcebmgifdaaGreat
namespace Go.Proofs.YtnljfcebmgifdaaGreat
open Go.RowKit Ieee
/-- m times 2 to the e: 0 is 0. -/
def ldz (m : Nat) (e : Int) : Nat := if m = 0 then 0 else Fl.ld m e
def flz (m : Nat) : Nat := if m = 0 then 0 else Fl.rung m 1074
theorem ofInt_flz (m : Nat) (hm : m ≤ 9007199254740992) : floatOfInt .f64 (m : Int) = flz m := by
 unfold flz
 split
 · rename_i h; subst h; exact ofInt_zero
 · rename_i h; exact ofInt_small m h hm
theorem ldexp_all (m : Nat) (e : Int) (hm : m ≤ 9007199254740992) (he : -1074 ≤ e) (he2 : e ≤ 100000) (w : World) :
   Calls Tryz.prog 140 #[.float .f64 (flz m), .int .i64 e] w fun s w' => s = .returned (.float .f64 (ldz m e)) ∧ w = w' := by
 unfold flz ldz
 split
 · exact ldexp_pub e w _ _ (ldexp_zero e w)
 · rename_i h; exact ldexp_pub e w _ _ (ldexp_any m e w h hm he he2)
theorem ldz_lt (m : Nat) (e : Int) : ldz m e ≤ Fl.INF := by
 unfold ldz Fl.ld
 split
 · exact Nat.zero_le _
 · exact Nat.min_le_right _ _
/-- What 'to' hands out of a magnitude. -/
def toRes (neg grow : Bool) (r : Nat) : Nat := Fl.pl (Fl.wrd neg (if r = Fl.INF ∧ grow = false then 9218868437227405311 else r))
def Cells5 (w wc : World) (neg : Bool) (m : Nat) (e : Int) (more : Bool) : Prop :=
 wc.cell? ⟨w.heap.size, 0, none⟩ = some (.bool neg) ∧ wc.cell? ⟨w.heap.size, 2, none⟩ = some (.int .u64 (m : Int)) ∧ wc.cell? ⟨w.heap.size, 3, none⟩ = some (.int .i64 e) ∧ wc.cell? ⟨w.heap.size, 4, none⟩ = some (.bool more) ∧ Below w.heap.size w wc
/-- Block g holds just the cells cs, none frozen. -/
def Blk (w : World) (g : Nat) (t : TypeId) (cs : Array Value) : Prop := w.heap[g]? = some (.cells cs t (0, 0))
section
variable {w w' : World} {g : Nat} {t : TypeId} {cs : Array Value}
theorem Blk.lt (h : Blk w g t cs) : g < w.heap.size := by
 rcases Nat.lt_or_ge g w.heap.size with hlt | hge
 · exact hlt
 · unfold Blk at h; rw [Array.getElem?_eq_none hge] at h; cases h
theorem Blk.cell (h : Blk w g t cs) (i : Nat) : w.cell? ⟨g, i, none⟩ = cs[i]? := cell_of_row w g i cs t (0, 0) h
theorem Blk.new (w : World) (t : TypeId) (cs : Array Value) : Blk (w.alloc (.cells cs t)) w.heap.size t cs := heap_alloc_new w _
theorem Blk.drew (h : Blk w g t cs) : Blk w.drew g t cs := h
theorem Blk.drewN (h : Blk w g t cs) (n : Nat) : Blk (w.drewN n) g t cs := h
theorem Blk.alloc (h : Blk w g t cs) (o : Obj) : Blk (w.alloc o) g t cs := (Below.heap_alloc w o g h.lt).trans h
theorem Blk.set_ (h : Blk w g t cs) (i : Nat) (u : Value) : Blk (w.setCell ⟨g, i, none⟩ u) g t (cs.setIfInBounds i u) := by
 unfold Blk at h ⊢
 simp [World.setCell, Array.getElem?_modify, h]
theorem Blk.far (h : Blk w g t cs) {p : Addr} (hp : g ≠ p.block) (u : Value) : Blk (w.setCell p u) g t cs := (Below.heap_setCell w p u g hp).trans h
theorem Blk.below {B : Nat} (h : Blk w g t cs) (hb : Below B w w') (hg : g < B) : Blk w' g t cs := (hb.block g hg).trans h
theorem Blk.congr {cs' : Array Value} (h : Blk w g t cs) (e : cs = cs') : Blk w g t cs' := e ▸ h
end
theorem below_drewN {B : Nat} {a w : World} (h : Below B a w) (n : Nat) : Below B a (w.drewN n) := ⟨h.os, h.tape, h.output, h.size, h.block⟩
theorem below_more {w w' : World} (h : Below w.heap.size w w') (o : Obj) : Below w.heap.size w (w'.alloc o) := h.alloc h.size o
@[go_sem] theorem unary_neg_float (b : Nat) : Op.unary .neg (.float .f64 b) = pure (.float .f64 (Op.negFloat .f64 b)) := rfl
theorem negFloat_wrd (r : Nat) (h : r ≤ Fl.INF) : Op.negFloat .f64 r = Fl.wrd true r := by
 have hs : r < 2 ^ 63 := Nat.lt_of_le_of_lt h (by decide)
 show r ^^^ 2 ^ 63 = Fl.SGN + r
 have e1 : r ^^^ 2 ^ 63 = 2 ^ 63 ||| r := by
   apply Nat.eq_of_testBit_eq
   intro i
   rw [Nat.testBit_xor, Nat.testBit_or, Nat.testBit_two_pow]
   by_cases hi : 63 = i
   · subst hi
     rw [Nat.testBit_lt_two_pow hs]; rfl
   · rw [decide_eq_false hi]; simp
 have e2 := Nat.two_pow_add_eq_or_of_lt hs 1
 rw [e1, ← Nat.mul_one (2 ^ 63), ← e2, Nat.mul_one]
 rfl
theorem wrd_ok (neg : Bool) (r : Nat) (h : r ≤ Fl.INF) : Fl.wrd neg r < 18446744073709551616 ∧ Fl.nan (Fl.wrd neg r) = false := by
 have hr' : r < Fl.SGN := Nat.lt_of_le_of_lt h Fl.inf_sgn
 refine ⟨Fl.wrd_lt neg hr', ?_⟩
 unfold Fl.nan
 rw [Fl.wrd_mg neg hr']
 exact decide_eq_false (by omega)
theorem plain_pos (r : Nat) (h : r ≤ Fl.INF) (w : World) : Calls Tryz.prog 141 #[.float .f64 r] w fun e w' => e = .returned (.float .f64 (Fl.pl (Fl.wrd false r))) ∧ w = w' :=
 plain_any r (wrd_ok false r h).1 (wrd_ok false r h).2 w
theorem plain_neg (r : Nat) (h : r ≤ Fl.INF) (w : World) : Calls Tryz.prog 141 #[.float .f64 (Op.negFloat .f64 r)] w fun e w' => e = .returned (.float .f64 (Fl.pl (Fl.wrd true r))) ∧ w = w' := by
 rw [negFloat_wrd r h]
 exact plain_any _ (wrd_ok true r h).1 (wrd_ok true r h).2 w
theorem cells5_of {w wc : World} {neg : Bool} {hi : Int} {m : Nat} {e : Int} {more : Bool} (h : Blk wc w.heap.size 105 #[.bool neg, .int .u64 hi, .int .u64 (m : Int), .int .i64 e, .bool more]) (hb : Below w.heap.size w wc) : Cells5 w wc neg m e more :=
 ⟨h.cell 0, h.cell 2, h.cell 3, h.cell 4, hb⟩
theorem cells5_set {w wc : World} {neg : Bool} {hi m : Nat} {e : Int} {more : Bool} {a b c d e' : Value} (h : Blk wc w.heap.size 105 #[a, b, c, d, e']) (hb : Below w.heap.size w wc) :
   Cells5 w (((((wc.setCell ⟨w.heap.size, 0, none⟩ (.bool neg)).setCell ⟨w.heap.size, 1, none⟩ (.int .u64 (hi : Int))).setCell ⟨w.heap.size, 2, none⟩ (.int .u64 (m : Int))).setCell ⟨w.heap.size, 3, none⟩ (.int .i64 e)).setCell ⟨w.heap.size, 4, none⟩ (.bool more)) neg m e more :=
 cells5_of (hi := hi) (((((h.set_ 0 _).set_ 1 _).set_ 2 _).set_ 3 _).set_ 4 _)
   (((((hb.setCell (Nat.le_refl _) _).setCell (Nat.le_refl _) _).setCell (Nat.le_refl _) _).setCell (Nat.le_refl _) _).setCell (Nat.le_refl _) _)
theorem val_max (L : Nat) (e n : Int) (hL : L ≤ 128) (he : -100000 ≤ e) (he2 : e ≤ 100000) (hn : max ((L : Int) - 53) (-1074 - e) = n) :
   Value.int IntKind.i64 (max (IntKind.i64.wrap ((L : Int) - 53)) (IntKind.i64.wrap (-1074 - e))) = Value.int IntKind.i64 n := by
 have h1 : IntKind.i64.wrap ((L : Int) - 53) = (L : Int) - 53 := by rw [IntKind.wrap_i64]; omega
 have h2 : IntKind.i64.wrap (-1074 - e) = -1074 - e := by rw [IntKind.wrap_i64]; omega
 rw [h1, h2, hn]
/-- What the right shift does at n > 0: two new blocks, or three. -/
def RightIs (neg : Bool) (hi lo : Nat) (e : Int) (more : Bool) (n : Int) (m0 : Nat) (e' : Int) (more0 : Bool) : Prop :=
 (n ≤ 0 ∧ lo = m0 ∧ e = e' ∧ more = more0) ∨
 (0 < n ∧ ∀ w, Calls Tryz.prog 139 #[exv neg hi lo e more, .int .i64 n] w fun r w' => r = .returned (exv neg 0 m0 e' more0) ∧ ∃ k o o', w' = ((w.alloc o).alloc o').drewN k) ∨
 (0 < n ∧ ∀ w, Calls Tryz.prog 139 #[exv neg hi lo e more, .int .i64 n] w fun r w' => r = .returned (exv neg 0 m0 e' more0) ∧ ∃ k o o' o'', w' = (((w.alloc o).alloc o').alloc o'').drewN k)
theorem toA (neg down : Bool) (hi lo : Nat) (e : Int) (more : Bool) (h1 : hi < 18446744073709551616) (h2 : lo < 18446744073709551616) (he : -100000 ≤ e) (he2 : e ≤ 100000) (w : World)
   (L : Nat) (hL : L ≤ 128) (HL : ∀ w, Calls Tryz.prog 121 #[exv neg hi lo e more] w fun r w' => r = .returned (.int .i64 (L : Int)) ∧ ∃ o, w' = w.alloc o)
   (n : Int) (hn : max ((L : Int) - 53) (-1074 - e) = n) (m0 : Nat) (e' : Int) (more0 : Bool) (HR : RightIs neg hi lo e more n m0 e' more0)
   (hm0 : m0 < 9007199254740992) (R0 R1 : Nat) (hR0 : R0 ≤ Fl.INF) (hR1 : R1 ≤ Fl.INF)
   (HD0 : ∀ w, Calls Tryz.prog 140 #[.float .f64 (floatOfInt .f64 (m0 : Int)), .int .i64 e'] w fun s w' => s = .returned (.float .f64 R0) ∧ w = w')
   (HD1 : ∀ w, Calls Tryz.prog 140 #[.float .f64 (floatOfInt .f64 ((m0 : Int) + 1)), .int .i64 e'] w fun s w' => s = .returned (.float .f64 R1) ∧ w = w') :
   Calls Tryz.prog 123 #[exv neg hi lo e more, .bool down] w fun r w' => r = .returned (.float .f64 (toRes neg (neg == down) (if (more0 && (neg == down)) then R1 else R0))) ∧ Below w.heap.size w w' := by
 have HL0 := Lib.hid HL
 have HDa := Lib.hid HD0
 have HDb := Lib.hid HD1
 clear HL HD0 HD1
 have HN := Lib.hid (val_max L e n hL he he2 hn)
 have HI0 := Lib.hid (fun w => isInf_any R0 (Nat.lt_of_le_of_lt hR0 (by decide)) w)
 have HI1 := Lib.hid (fun w => isInf_any R1 (Nat.lt_of_le_of_lt hR1 (by decide)) w)
 rw [show Fl.mg R0 = R0 from Nat.mod_eq_of_lt (Nat.lt_of_le_of_lt hR0 Fl.inf_sgn)] at HI0
 rw [show Fl.mg R1 = R1 from Nat.mod_eq_of_lt (Nat.lt_of_le_of_lt hR1 Fl.inf_sgn)] at HI1
 generalize hg : (neg == down) = grow
 have HG := Lib.hid hg
 clear hg
 generalize hres : toRes neg grow (if (more0 && grow) then R1 else R0) = res
 have HRES := Lib.hid hres
 clear hres
 have hn1 : -101074 ≤ n := by omega
 have hn2 : n ≤ 101074 := by omega
 clear hn
 go_enter Tryz.func123, Tryz.ntmps123
 go_wp2_with fail
 go_cut [5, 6] (fun g v wc => g = .bool grow ∧ v = .int .i64 n ∧ ∃ o, wc = ((w.alloc (.cells #[.bool neg, .int .u64 (hi : Int), .int .u64 (lo : Int), .int .i64 e, .bool more] 105)).alloc o).drew)
 case first =>
   go_region_with (go_at_call 121; refine (HL0.out _).mono ?_; rintro r w' ⟨rfl, o, rfl⟩)
   all_goals (go_wp2_with fail; go_meet; refine ⟨congrArg Value.bool HG.out, HN.out, _, rfl⟩)
 case rest =>
   obtain ⟨rfl, rfl, o, rfl⟩ := hcut
   go_upto_if 21 with fail
   go_cut [] (fun wc => Cells5 w wc neg m0 e' more0)
   case first =>
     rcases HR with ⟨hn0, rfl, rfl, rfl⟩ | ⟨hn0, HR⟩ | ⟨hn0, HR⟩
     · go_wp2_with fail
       go_meet
       exact cells5_of ((Blk.new _ _ _).alloc _).drew (below_drewN (below_new2 _ _ _) 1)
     · have HR1 := Lib.hid HR
       clear HR
       go_wp2_with fail
       refine (HR1.out _).mono ?_
       rintro r w' ⟨rfl, k, o', o'', rfl⟩
       go_wp2_with fail
       go_meet
       exact cells5_set (((((Blk.new _ _ _).alloc _).alloc _).alloc _).drewN _) (below_drewN (below_more (below_more (below_new2 _ _ _) _) _) _)
     · have HR1 := Lib.hid HR
       clear HR
       go_wp2_with fail
       refine (HR1.out _).mono ?_
       rintro r w' ⟨rfl, k, o', o'', o4, rfl⟩
       go_wp2_with fail
       go_meet
       exact cells5_set ((((((Blk.new _ _ _).alloc _).alloc _).alloc _).alloc _).drewN _) (below_drewN (below_more (below_more (below_more (below_new2 _ _ _) _) _) _) _)
   case rest =>
     obtain ⟨c0, c2, c3, c4, cb⟩ := hcut
     have CB := Lib.hid cb
     clear cb HR HL0 HN
     have P0 := Lib.hid (fun w => plain_pos R0 hR0 w)
     have P1 := Lib.hid (fun w => plain_pos R1 hR1 w)
     have N0 := Lib.hid (fun w => plain_neg R0 hR0 w)
     have N1 := Lib.hid (fun w => plain_neg R1 hR1 w)
     have PM := Lib.hid (fun w => plain_pos 9218868437227405311 (by decide) w)
     have NM := Lib.hid (fun w => plain_neg 9218868437227405311 (by decide) w)
     have PI := Lib.hid (fun w => plain_pos Fl.INF (Nat.le_refl _) w)
     have NI := Lib.hid (fun w => plain_neg Fl.INF (Nat.le_refl _) w)
     clear hR0 hR1 HG
     go_wp2_with fail
     · refine (HDb.out _).mono ?_
       rintro r w' ⟨rfl, rfl⟩
       go_wp2_with fail
       refine (HI1.out _).mono ?_
       rintro r w' ⟨rfl, rfl⟩
       go_wp2_with fail
       all_goals
         first
         | refine (P1.out _).mono ?_
         | refine (N1.out _).mono ?_
         | refine (PI.out _).mono ?_
         | refine (NI.out _).mono ?_
         | refine (PM.out _).mono ?_
         | refine (NM.out _).mono ?_
         rintro r w' ⟨rfl, rfl⟩
         go_wp2_with fail
         go_ret
         refine ⟨ret_float ?_, CB.out⟩
         rw [← HRES.out]
         simp [toRes, *]
     all_goals
       refine (HDa.out _).mono ?_
       rintro r w' ⟨rfl, rfl⟩
       go_wp2_with fail
       refine (HI0.out _).mono ?_
       rintro r w' ⟨rfl, rfl⟩
       go_wp2_with fail
       all_goals
         first
         | refine (P0.out _).mono ?_
         | refine (N0.out _).mono ?_
         | refine (PI.out _).mono ?_
         | refine (NI.out _).mono ?_
         | refine (PM.out _).mono ?_
         | refine (NM.out _).mono ?_
         rintro r w' ⟨rfl, rfl⟩
         go_wp2_with fail
         go_ret
         refine ⟨ret_float ?_, CB.out⟩
         rw [← HRES.out]
         clear HRES HI0 HI1 HDa HDb P0 P1 N0 N1 PM NM PI NI CB c0 c2 c3 c4
         cases grow <;> simp_all [toRes]
end Go.Proofs.YtnljfcebmgifdaaGreat
namespace Go.Proofs.YtnljfcebmgifdaaGreat
open Go.RowKit Ieee
namespace Fl
/-- The magnitude at W times 2 to the e (and something more), or next to it. -/
def near (grow : Bool) (W : Nat) (e : Int) (more : Bool) : Nat :=
 if W = 0 then 0 else if grow then min (rung W (e + 1074) + (lost W (e + 1074) || more).toNat) INF else min (rung W (e + 1074)) (INF - 1)
theorem rung_fit (m q : Nat) (h0 : m ≠ 0) (hm : m ≤ 9007199254740992) (h : q = 0 ∨ 4503599627370496 ≤ m) : rung m (q : Int) = q * 4503599627370496 + m := by
 refine (rung_of_eq h0 ?_).1
 rw [rv_of q m hm h, show (-(q : Int)).toNat = 0 by omega, Nat.pow_zero, Nat.mul_one, Int.toNat_natCast]
theorem ldz_keep (W : Nat) (e : Int) (h0 : W ≠ 0) (n : Nat) (hn : drop W (e + 1074) = n) (up : Nat) (hup : up ≤ 1) :
   ldz (W / 2 ^ n + up) (e + n) = min (rung W (e + 1074) + up) INF := by
 obtain ⟨q, hq⟩ : ∃ q : Nat, place W (e + 1074) = q := ⟨_, rfl⟩
 have hq1 : e + n + 1074 = (q : Int) := by
   have := drop_ge W (e + 1074)
   unfold place at hq
   omega
 have hk : kept W (e + 1074) = W / 2 ^ n := by
   unfold kept
   rw [hn, Int.toNat_natCast, show (-(n : Int)).toNat = 0 by omega, Nat.pow_zero, Nat.mul_one]
 have hpk := place_kept W (e + 1074) h0
 have hkl := kept_lt W (e + 1074)
 rw [hq, hk] at hpk
 rw [hk] at hkl
 have hr : rung W (e + 1074) = q * 4503599627370496 + W / 2 ^ n := by unfold rung; rw [hq, hk]
 rw [hr]
 generalize W / 2 ^ n = m at *
 unfold ldz
 by_cases hm : m + up = 0
 · rw [if_pos hm]
   have h1 : q = 0 := by omega
   have h2 : m = 0 := by omega
   have h3 : up = 0 := by omega
   subst h1 h2 h3
   exact (Nat.min_eq_left (Nat.zero_le _)).symm
 · rw [if_neg hm]
   unfold ld
   rw [hq1, rung_fit (m + up) q hm (by omega) (by omega), Nat.add_assoc]
theorem min_less (R I J : Nat) (h : I = J + 1) : (if min R I = I then J else min R I) = min R (I - 1) := by
 subst h
 rw [Nat.add_sub_cancel]
 by_cases h : J + 1 ≤ R
 · rw [Nat.min_eq_right h, if_pos rfl, Nat.min_eq_right (by omega)]
 · rw [Nat.min_eq_left (by omega), if_neg (by omega), Nat.min_eq_left (by omega)]
theorem key_bool2 (Y R I : Nat) (grow : Bool) : (if (false && grow) = true then Y else min R I) = if grow then min (R + (false || false).toNat) I else min R I := by
 cases grow <;> rfl
theorem key_neg (grow : Bool) (W : Nat) (e : Int) (n : Int) (h0 : W ≠ 0) (hn : drop W (e + 1074) = n) (hneg : n < 0) :
   (if (false && grow) = true then ldz (W + 1) e else ldz W e) = if grow then min (rung W (e + 1074) + (lost W (e + 1074) || false).toNat) INF else min (rung W (e + 1074)) INF := by
 have hl : lost W (e + 1074) = false := by
   unfold lost
   rw [hn, show n.toNat = 0 by omega, Nat.pow_zero, Nat.mod_one]; rfl
 have e1 : ldz W e = min (rung W (e + 1074)) INF := by unfold ldz ld; rw [if_neg h0]
 rw [hl, e1]
 generalize ldz (W + 1) e = Y
 generalize rung W (e + 1074) = R
 generalize INF = I
 exact key_bool2 Y R I grow
theorem key_bool (R I : Nat) (grow more b : Bool) : (if ((more || b) && grow) = true then min (R + 1) I else min R I) = if grow then min (R + (b || more).toNat) I else min R I := by
 cases grow <;> cases more <;> cases b <;> rfl
theorem key_pos (grow : Bool) (W : Nat) (e : Int) (more : Bool) (k : Nat) (h0 : W ≠ 0) (hn : drop W (e + 1074) = k) :
   (if ((more || W % 2 ^ k != 0) && grow) = true then ldz (W / 2 ^ k + 1) (e + k) else ldz (W / 2 ^ k) (e + k)) = if grow then min (rung W (e + 1074) + (lost W (e + 1074) || more).toNat) INF else min (rung W (e + 1074)) INF := by
 have hl : lost W (e + 1074) = (W % 2 ^ k != 0) := by unfold lost; rw [hn, Int.toNat_natCast]
 have q0 := ldz_keep W e h0 k hn 0 (by omega)
 have q1 := ldz_keep W e h0 k hn 1 (by omega)
 rw [Nat.add_zero, Nat.add_zero] at q0
 rw [q0, q1, hl]
 exact key_bool _ _ _ _ _
theorem near_end (R I J : Nat) (h : I = J + 1) (grow b : Bool) (x : Nat) (hx : x = if grow then min (R + b.toNat) I else min R I) :
   (if x = I ∧ grow = false then J else x) = if grow then min (R + b.toNat) I else min R (I - 1) := by
 subst hx
 cases grow
 · have := min_less R I J h
   simp only [Bool.false_eq_true, if_false, and_true]
   exact this
 · simp
theorem inf_eq : INF = 9218868437227405311 + 1 := rfl
theorem near_res (grow : Bool) (W : Nat) (e : Int) (more : Bool) (n : Int) (m0 : Nat) (e' : Int) (more0 : Bool) (h0 : W ≠ 0) (hn : drop W (e + 1074) = n)
   (h : (n ≤ 0 ∧ m0 = W ∧ e' = e ∧ more0 = more ∧ (more = true → n = 0)) ∨ (0 < n ∧ m0 = W / 2 ^ n.toNat ∧ e' = e + n ∧ more0 = (more || W % 2 ^ n.toNat != 0))) (neg : Bool) :
   toRes neg grow (if (more0 && grow) = true then ldz (m0 + 1) e' else ldz m0 e') = pl (wrd neg (near grow W e more)) := by
 have key : (if (more0 && grow) = true then ldz (m0 + 1) e' else ldz m0 e') = if grow then min (rung W (e + 1074) + (lost W (e + 1074) || more).toNat) INF else min (rung W (e + 1074)) INF := by
   by_cases hneg : n < 0
   · rcases h with ⟨_, h1, h2, h3, hm⟩ | ⟨h1, _⟩
     · have hmore : more = false := by
         cases more with
         | false => rfl
         | true => have := hm rfl; omega
       rw [h1, h2, h3, hmore]
       exact key_neg grow W e n h0 hn hneg
     · omega
   · obtain ⟨k, hk⟩ : ∃ k : Nat, n = k := ⟨n.toNat, by omega⟩
     rw [hk] at hn
     have hh : m0 = W / 2 ^ k ∧ e' = e + k ∧ more0 = (more || W % 2 ^ k != 0) := by
       rcases h with ⟨h1, h2, h3, h4, _⟩ | ⟨_, h2, h3, h4⟩
       · have hk0 : k = 0 := by omega
         rw [hk0]
         refine ⟨by rw [Nat.pow_zero, Nat.div_one]; exact h2, by omega, ?_⟩
         rw [Nat.pow_zero, Nat.mod_one, h4]; simp
       · rw [hk, Int.toNat_natCast] at h2 h4
         exact ⟨h2, by omega, h4⟩
     rw [hh.1, hh.2.1, hh.2.2]
     exact key_pos grow W e more k h0 hn
 unfold toRes near
 rw [if_neg h0]
 exact congrArg (fun x => pl (wrd neg x)) (near_end _ INF 9218868437227405311 inf_eq grow _ _ key)
end Fl
theorem max_drop (W : Nat) (e : Int) : max ((Fl.len W : Int) - 53) (-1074 - e) = Fl.drop W (e + 1074) := by
 unfold Fl.drop; omega
/-- What 'to' computes. -/
def toVal (neg down : Bool) (W : Nat) (e : Int) (more : Bool) : Nat := Fl.pl (Fl.wrd neg (Fl.near (neg == down) W e more))
theorem len128 {W : Nat} (hW : W < 340282366920938463463374607431768211456) : Fl.len W ≤ 128 := Fl.len_le_of_lt (by
 have : (2 : Nat) ^ 128 = 340282366920938463463374607431768211456 := by decide
 omega)
theorem to_any (neg down : Bool) (W : Nat) (e : Int) (more : Bool) (hW : W < 340282366920938463463374607431768211456) (h0 : W = 0 → more = false) (hmore : more = true → 0 ≤ Fl.drop W (e + 1074))
   (he : -50000 ≤ e) (he2 : e ≤ 50000) (w : World) :
   Calls Tryz.prog 123 #[exW neg W e more, .bool down] w fun r w' => r = .returned (.float .f64 (toVal neg down W e more)) ∧ Below w.heap.size w w' := by
 obtain ⟨n, hn⟩ : ∃ n, Fl.drop W (e + 1074) = n := ⟨_, rfl⟩
 have hlen := len128 hW
 have hn1 : n ≤ 100000 := by rw [← hn]; unfold Fl.drop; omega
 have hn2 : (Fl.len W : Int) - 53 ≤ n := by rw [← hn]; unfold Fl.drop; omega
 have hn3 : -1074 - e ≤ n := by rw [← hn]; unfold Fl.drop; omega
 have hmx := (max_drop W e).trans hn
 have HL := fun w => length_any neg (W / 18446744073709551616) (W % 18446744073709551616) e more (by omega) (by omega) w
 rw [show W / 18446744073709551616 * 18446744073709551616 + W % 18446744073709551616 = W by omega] at HL
 have key : ∃ m0 e' more0, RightIs neg (W / 18446744073709551616) (W % 18446744073709551616) e more n m0 e' more0 ∧ m0 < 9007199254740992 ∧ -1074 ≤ e' ∧ e' ≤ 100000 ∧ (W = 0 → m0 = 0 ∧ more0 = false) ∧
     ((n ≤ 0 ∧ m0 = W ∧ e' = e ∧ more0 = more ∧ (more = true → n = 0)) ∨ (0 < n ∧ m0 = W / 2 ^ n.toNat ∧ e' = e + n ∧ more0 = (more || W % 2 ^ n.toNat != 0))) := by
   by_cases hc : n ≤ 0
   · have hW2 : W < 9007199254740992 := by
       have h1 := Fl.lt_len W
       have h2 := Nat.pow_le_pow_right (show 0 < 2 by decide) (show Fl.len W ≤ 53 by omega)
       have h3 : (2 : Nat) ^ 53 = 9007199254740992 := by decide
       omega
     refine ⟨W, e, more, .inl ⟨hc, by omega, rfl, rfl⟩, hW2, by omega, by omega, fun h => ⟨h, h0 h⟩, .inl ⟨hc, rfl, rfl, rfl, ?_⟩⟩
     intro hm
     have := hmore hm
     omega
   · obtain ⟨k, rfl⟩ : ∃ k : Nat, n = k := ⟨n.toNat, by omega⟩
     rw [Int.toNat_natCast]
     have hq : W / 2 ^ k < 9007199254740992 := by
       rw [Nat.div_lt_iff_lt_mul (Nat.two_pow_pos k)]
       have h1 := Fl.lt_len W
       have h2 := Nat.pow_le_pow_right (show 0 < 2 by decide) (show Fl.len W ≤ 53 + k by omega)
       rw [Nat.pow_add, show (2 : Nat) ^ 53 = 9007199254740992 by decide] at h2
       omega
     have hx : ∀ mo : Bool, exW neg (W / 2 ^ k) (e + k) mo = exv neg 0 (W / 2 ^ k) (e + k) mo := by
       intro mo
       unfold exW
       rw [Nat.div_eq_of_lt (show W / 2 ^ k < 18446744073709551616 by omega), Nat.mod_eq_of_lt (show W / 2 ^ k < 18446744073709551616 by omega)]
     refine ⟨W / 2 ^ k, e + k, (more || W % 2 ^ k != 0), ?_, hq, by omega, by omega, ?_, .inr ⟨by omega, rfl, rfl, rfl⟩⟩
     · by_cases hk : k < 128
       · refine .inr (.inl ⟨by omega, fun w => ?_⟩)
         have := right_any neg W e more k hW hk (by omega) (by omega) w
         rw [hx] at this
         exact this
       · cases more
         · refine .inr (.inr ⟨by omega, fun w => ?_⟩)
           have := right_over0 neg W e k hW (by omega) (by omega) (by omega) (by omega) w
           rw [hx] at this
           exact this
         · refine .inr (.inl ⟨by omega, fun w => ?_⟩)
           have := right_over1 neg W e k hW (by omega) (by omega) (by omega) (by omega) w
           rw [hx] at this
           exact this
     · intro hz
       rw [h0 hz, hz]
       refine ⟨Nat.zero_div _, ?_⟩
       rw [Nat.zero_mod]; rfl
 obtain ⟨m0, e', more0, HR, hm0, he', he'2, hz, hcase⟩ := key
 have HD0 : ∀ w, Calls Tryz.prog 140 #[.float .f64 (floatOfInt .f64 (m0 : Int)), .int .i64 e'] w fun s w' => s = .returned (.float .f64 (ldz m0 e')) ∧ w = w' := by
   intro w
   rw [ofInt_flz m0 (by omega)]
   exact ldexp_all m0 e' (by omega) he' he'2 w
 have HD1 : ∀ w, Calls Tryz.prog 140 #[.float .f64 (floatOfInt .f64 ((m0 : Int) + 1)), .int .i64 e'] w fun s w' => s = .returned (.float .f64 (ldz (m0 + 1) e')) ∧ w = w' := by
   intro w
   have := ofInt_flz (m0 + 1) (by omega)
   rw [show ((m0 + 1 : Nat) : Int) = (m0 : Int) + 1 by omega] at this
   rw [this]
   exact ldexp_all (m0 + 1) e' (by omega) he' he'2 w
 have main := toA neg down _ _ e more (by omega) (by omega) (by omega) (by omega) w (Fl.len W) hlen HL n hmx m0 e' more0 HR hm0 _ _ (ldz_lt m0 e') (ldz_lt (m0 + 1) e') HD0 HD1
 refine main.mono ?_
 rintro r w' ⟨rfl, hb⟩
 refine ⟨ret_float ?_, hb⟩
 unfold toVal
 by_cases hW0 : W = 0
 · obtain ⟨rfl, rfl⟩ := hz hW0
   have e1 : ldz 0 e' = 0 := by unfold ldz; rfl
   have e2 : Fl.near (neg == down) W e more = 0 := by unfold Fl.near; rw [if_pos hW0]
   rw [e2, e1]
   unfold toRes
   have e3 : ¬ ((0 : Nat) = Fl.INF ∧ (neg == down) = false) := by
     rintro ⟨h, _⟩
     exact absurd h (by decide)
   rw [Bool.false_and, if_neg Bool.false_ne_true, if_neg e3]
 · exact Fl.near_res (neg == down) W e more n m0 e' more0 hW0 hn hcase neg
end Go.Proofs.YtnljfcebmgifdaaGreat
namespace Go.Proofs.YtnljfcebmgifdaaGreat
open Go.RowKit Ieee
namespace Fl
/-- A finite float's whole number and power. -/
def sM (b : Nat) : Nat := if mg b < 4503599627370496 then mg b else mg b % 4503599627370496 + 4503599627370496
def sE (b : Nat) : Int := if mg b < 4503599627370496 then -1074 else ((mg b / 4503599627370496 : Nat) : Int) - 1075
theorem sM_lt (b : Nat) : sM b < 9007199254740992 := by unfold sM; split <;> omega
theorem sE_ge (b : Nat) : -1074 ≤ sE b := by unfold sE; split <;> omega
theorem sE_le (b : Nat) (h : fin b = true) : sE b ≤ 971 := by
 have := mg_of_fin h
 unfold INF at this
 unfold sE; split <;> omega
theorem sM_rv (b : Nat) : sM b * 2 ^ (sE b + 1074).toNat = rv (mg b) := by
 unfold sM sE rv
 by_cases h : mg b < 4503599627370496
 · rw [if_pos h, if_pos h, if_pos h, show ((-1074 : Int) + 1074).toNat = 0 by omega, Nat.pow_zero, Nat.mul_one]
 · rw [if_neg h, if_neg h, if_neg h, Nat.add_comm (mg b % 4503599627370496)]
   congr 2
   omega
theorem sM_zero (b : Nat) : sM b = 0 ↔ mg b = 0 := by unfold sM; split <;> omega
end Fl
theorem fld_exp (b : Nat) (hb : b < 18446744073709551616) : bits .and .u64 ((b : Int) / 4503599627370496) 2047 = ((Fl.mg b / 4503599627370496 : Nat) : Int) := by
 have e1 : (b : Int) / 4503599627370496 = ((b / 4503599627370496 : Nat) : Int) := by omega
 have h : bits .and .u64 ((b / 4503599627370496 : Nat) : Int) ((2047 : Nat) : Int) = ((b / 4503599627370496 &&& 2047 : Nat) : Int) := u64_and_nat _ 2047 (by omega) (by omega)
 have h2 : b / 4503599627370496 &&& 2047 = b / 4503599627370496 % 2048 := Nat.and_two_pow_sub_one_eq_mod _ 11
 rw [e1]
 refine h.trans ?_
 rw [h2]
 unfold Fl.mg Fl.SGN
 congr 1
 omega
theorem fld_frac (b : Nat) (hb : b < 18446744073709551616) : bits .and .u64 (b : Int) 4503599627370495 = ((Fl.mg b % 4503599627370496 : Nat) : Int) := by
 have h : bits .and .u64 (b : Int) ((4503599627370495 : Nat) : Int) = ((b &&& 4503599627370495 : Nat) : Int) := u64_and_nat _ _ hb (by omega)
 have h2 : b &&& 4503599627370495 = b % 4503599627370496 := Nat.and_two_pow_sub_one_eq_mod _ 52
 refine h.trans ?_
 rw [h2]
 unfold Fl.mg Fl.SGN
 congr 1
 omega
theorem fld_one (f : Nat) (hf : f < 4503599627370496) : bits .or .u64 (f : Int) 4503599627370496 = ((f + 4503599627370496 : Nat) : Int) := by
 have h : bits .or .u64 (f : Int) ((4503599627370496 : Nat) : Int) = ((f ||| 4503599627370496 : Nat) : Int) := u64_or_nat _ _ (by omega) (by omega)
 refine h.trans ?_
 rw [Nat.or_comm, nat_join 52 _ _ (by decide) hf, Nat.add_comm]
theorem fld_sign (b : Nat) (hb : b < 18446744073709551616) : ((b : Int) / 9223372036854775808 != 0) = Fl.sg b := by
 unfold Fl.sg Fl.SGN
 rw [Bool.eq_iff_iff]
 simp
 omega
theorem exv_eq {neg neg' more : Bool} {a a' b b' e e' : Int} (hn : neg = neg') (ha : a = a') (hb : b = b') (he : e = e') :
   Ending.returned (.agg #[.bool neg, .int .u64 a, .int .u64 b, .int .i64 e, .bool more]) = .returned (.agg #[.bool neg', .int .u64 a', .int .u64 b', .int .i64 e', .bool more]) := by
 subst hn ha hb he; rfl
theorem split_any (b : Nat) (hb : b < 18446744073709551616) (w : World) :
   Calls Tryz.prog 119 #[.float .f64 b] w fun r w' => r = .returned (exv (Fl.sg b) 0 (Fl.sM b) (Fl.sE b) false) ∧ ∃ o, w' = w.alloc o := by
 have F1 := fld_exp b hb
 have F2 := fld_frac b hb
 have F3 := fld_one (Fl.mg b % 4503599627370496) (Nat.mod_lt _ (by decide))
 have FS := Lib.hid (fld_sign b hb)
 have hp : Fl.mg b / 4503599627370496 < 2048 := by have := Fl.mg_lt b; unfold Fl.SGN at this; omega
 have HE : Hid ((Fl.mg b / 4503599627370496 = 0 → Fl.sM b = Fl.mg b % 4503599627370496 ∧ Fl.sE b = -1074) ∧ (Fl.mg b / 4503599627370496 ≠ 0 → Fl.sM b = Fl.mg b % 4503599627370496 + 4503599627370496 ∧ Fl.sE b = ((Fl.mg b / 4503599627370496 : Nat) : Int) - 1075)) := by
   refine Lib.hid ⟨fun h => ?_, fun h => ?_⟩
   · have h' : Fl.mg b < 4503599627370496 := by omega
     unfold Fl.sM Fl.sE
     rw [if_pos h', if_pos h']
     exact ⟨by omega, rfl⟩
   · have h' : ¬ Fl.mg b < 4503599627370496 := by omega
     unfold Fl.sM Fl.sE
     rw [if_neg h', if_neg h']
     exact ⟨rfl, rfl⟩
 generalize Fl.sM b = M at *
 generalize Fl.sE b = E at *
 generalize Fl.mg b / 4503599627370496 = p at *
 generalize Fl.mg b % 4503599627370496 = f at *
 by_cases h0 : p = 0
 · subst h0
   go_enter Tryz.func119, Tryz.ntmps119
   go_wp2_with fail
   (try simp only [Exit.inBlock, Exit.then])
   refine bodyPost_ret (res53 rfl _ _ _ _ _ rfl (heap_alloc_new _ _) rfl) rfl ?_
   obtain ⟨rfl, rfl⟩ := HE.out.1 (by first | exact rfl | exact trivial)
   exact ⟨exv_eq FS.out rfl rfl rfl, _, rfl⟩
 · go_enter Tryz.func119, Tryz.ntmps119
   go_wp2_with fail
   (try simp only [Exit.inBlock, Exit.then])
   refine bodyPost_ret (res53 rfl _ _ _ _ _ rfl (heap_alloc_new _ _) rfl) rfl ?_
   obtain ⟨rfl, rfl⟩ := HE.out.2 h0
   exact ⟨exv_eq FS.out rfl rfl rfl, _, rfl⟩
end Go.Proofs.YtnljfcebmgifdaaGreat
namespace Go.Proofs.YtnljfcebmgifdaaGreat
open Go.RowKit Ieee
theorem maskN (a : Nat) (ha : a < 18446744073709551616) : bits .and .u64 (a : Int) 4294967295 = ((a % 4294967296 : Nat) : Int) := by
 have h := bits_and_u64_nat a 4294967295 ha (by omega)
 have e : a &&& 4294967295 = a % 4294967296 := Nat.and_two_pow_sub_one_eq_mod a 32
 rw [e] at h
 exact h
theorem divN (a : Nat) : (a : Int) / 4294967296 = ((a / 4294967296 : Nat) : Int) := by omega
theorem mulN (a b : Nat) : (a : Int) * (b : Int) = ((a * b : Nat) : Int) := (Int.natCast_mul a b).symm
theorem addN (a b : Nat) : (a : Int) + (b : Int) = ((a + b : Nat) : Int) := (Int.natCast_add a b).symm
theorem wrapN (a : Nat) (ha : a < 18446744073709551616) : IntKind.u64.wrap (a : Int) = (a : Int) := by rw [IntKind.wrap_u64]; omega
theorem wrapM (a : Nat) : IntKind.u64.wrap (a : Int) = ((a % 18446744073709551616 : Nat) : Int) := by rw [IntKind.wrap_u64]; omega
theorem mul64_any (x y : Nat) (hx : x < 18446744073709551616) (hy : y < 18446744073709551616) (w : World) :
   Calls Tryz.prog 133 #[.int .u64 x, .int .u64 y] w fun e w' => e = .returned (.tuple #[.int .u64 ((x * y / 18446744073709551616 : Nat) : Int), .int .u64 ((x * y % 18446744073709551616 : Nat) : Int)]) ∧ w = w' := by
 obtain ⟨bd, bt, bw, hhi⟩ := Lib.mul64_hi x y hx hy
 have ba := Lib.half_mul_le (a := x / 4294967296) (b := y / 4294967296) (by omega) (by omega)
 have bb := Lib.half_mul_le (a := x / 4294967296) (b := y % 4294967296) (by omega) (by omega)
 have bc := Lib.half_mul_le (a := x % 4294967296) (b := y / 4294967296) (by omega) (by omega)
 have ba' : x / 4294967296 * (y / 4294967296) < 18446744073709551616 := by omega
 have bb' : x / 4294967296 * (y % 4294967296) < 18446744073709551616 := by omega
 have bc' : x % 4294967296 * (y / 4294967296) < 18446744073709551616 := by omega
 have bh1 : x / 4294967296 * (y / 4294967296) + (x / 4294967296 * (y % 4294967296) + x % 4294967296 * (y % 4294967296) / 4294967296) / 4294967296 < 18446744073709551616 := by omega
 have bh : x / 4294967296 * (y / 4294967296) + (x / 4294967296 * (y % 4294967296) + x % 4294967296 * (y % 4294967296) / 4294967296) / 4294967296 + ((x / 4294967296 * (y % 4294967296) + x % 4294967296 * (y % 4294967296) / 4294967296) % 4294967296 + x % 4294967296 * (y / 4294967296)) / 4294967296 < 18446744073709551616 := by omega
 go_enter Tryz.func133, Tryz.ntmps133
 go_wp2
 simp only [maskN x hx, maskN y hy, divN, mulN, addN, wrapN _ bd, wrapN _ bb', wrapN _ bt, maskN _ bt, wrapN _ bc', wrapN _ bw, wrapN _ ba', wrapN _ bh1, wrapN _ bh, wrapM (x * y)]
 rw [hhi]
 go_ret2
 exact ⟨rfl, rfl⟩
@[go_sem] theorem add64_call (x y c : Nat) (hc : c ≤ 1) (w : World) :
   (callFunc 144 #[.int .u64 x, .int .u64 y, .int .u64 c]).run Tryz.prog w =
     .ok (.value (.tuple #[.int .u64 (((x + y + c) % 18446744073709551616 : Nat) : Int), .int .u64 (((x + y + c) / 18446744073709551616 : Nat) : Int)])) w := by
 rw [run_callFunc_extern Tryz.func144 (by kernel_rfl) (by kernel_rfl) (by kernel_rfl) (e := add64Entry) (by kernel_rfl), run_add64 x y c (by omega) (by omega) (by omega) (by omega)]
 simp only [Result.andThen]
 congr 5 <;> omega
@[go_sem] theorem sub64_call (x y b : Nat) (hb : b ≤ 1) (w : World) :
   (callFunc 145 #[.int .u64 x, .int .u64 y, .int .u64 b]).run Tryz.prog w =
     .ok (.value (.tuple #[.int .u64 (((x + 18446744073709551616 - y - b) % 18446744073709551616 : Nat) : Int), .int .u64 ((if x < y + b then 1 else 0 : Nat) : Int)])) w := by
 rw [run_callFunc_extern Tryz.func145 (by kernel_rfl) (by kernel_rfl) (by kernel_rfl) (e := sub64Entry) (by kernel_rfl), run_sub64 x y b hb]
 rfl
end Go.Proofs.YtnljfcebmgifdaaGreat
namespace Go.Proofs.YtnljfcebmgifdaaGreat
open Go.RowKit Ieee
@[go_sem] theorem alloc_drewN (w : World) (n : Nat) (o : Obj) : (w.drewN n).alloc o = (w.alloc o).drewN n := rfl
@[go_sem] theorem setCell_drewN (w : World) (n : Nat) (a : Addr) (v : Value) : (w.drewN n).setCell a v = (w.setCell a v).drewN n := rfl
abbrev exo (neg : Bool) (hi lo : Nat) (e : Int) (more : Bool) : Obj := .cells #[.bool neg, .int .u64 (hi : Int), .int .u64 (lo : Int), .int .i64 e, .bool more] 105
theorem Blk.new_at (w : World) (t : TypeId) (cs : Array Value) {g : Nat} (hg : g = w.heap.size) : Blk (w.alloc (.cells cs t)) g t cs := by
 subst hg; exact Blk.new w t cs
theorem ten_of {w : World} {g g' : Nat} {t t' : TypeId} {a b c d e a' b' c' d' e' : Value} (h : Blk w g t #[a, b, c, d, e]) (h' : Blk w g' t' #[a', b', c', d', e']) :
   w.cell? ⟨g, 0, none⟩ = some a ∧ w.cell? ⟨g, 1, none⟩ = some b ∧ w.cell? ⟨g, 2, none⟩ = some c ∧ w.cell? ⟨g, 3, none⟩ = some d ∧ w.cell? ⟨g, 4, none⟩ = some e ∧
   w.cell? ⟨g', 0, none⟩ = some a' ∧ w.cell? ⟨g', 1, none⟩ = some b' ∧ w.cell? ⟨g', 2, none⟩ = some c' ∧ w.cell? ⟨g', 3, none⟩ = some d' ∧ w.cell? ⟨g', 4, none⟩ = some e' :=
 ⟨h.cell 0, h.cell 1, h.cell 2, h.cell 3, h.cell 4, h'.cell 0, h'.cell 1, h'.cell 2, h'.cell 3, h'.cell 4⟩
theorem res53b {fn : Func} {p : Tmp} (h : fn.results = #[.cell p 105]) (tmps : Array Value) (w : World) (g : Nat) (a b c d e : Value)
   (hp : tmps.getD p undef = .pointer (some ⟨g, 0, none⟩)) (hg : Blk w g 105 #[a, b, c, d, e]) :
   (results fn tmps).run Tryz.prog w = .ok (.agg #[a, b, c, d, e]) w := res53 h tmps w g _ _ hp hg rfl
end Go.Proofs.YtnljfcebmgifdaaGreat
