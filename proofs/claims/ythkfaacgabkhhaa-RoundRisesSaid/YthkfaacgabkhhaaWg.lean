/- The walks of split and Part: a float's word. -/
import Derived.Test.YthkfaacgabkhhaaWf
set_option linter.unusedVariables false
set_option linter.unusedSimpArgs false
namespace Go.Proofs.Ythkfaacgabkhhaa
open Go.RowKit Ieee

namespace Fl
/-- A finite float's whole number and power. -/
def sM (b : Nat) : Nat := if mg b < 4503599627370496 then mg b else mg b % 4503599627370496 + 4503599627370496
def sE (b : Nat) : Int := if mg b < 4503599627370496 then -1074 else ((mg b / 4503599627370496 : Nat) : Int) - 1075
theorem sM_lt (b : Nat) : sM b < 9007199254740992 := by unfold sM; split <;> omega
theorem sE_ge (b : Nat) : -1074 ≤ sE b := by unfold sE; split <;> omega
theorem sE_le (b : Nat) (h : fin b = true) : sE b ≤ 971 := by
  have := mg_of_fin h
  unfold INF at this
  unfold sE; split <;> omega
theorem sM_rv (b : Nat) : sM b * 2 ^ (sE b + 1074).toNat = rv (mg b) := by
  unfold sM sE rv
  by_cases h : mg b < 4503599627370496
  · rw [if_pos h, if_pos h, if_pos h, show ((-1074 : Int) + 1074).toNat = 0 by omega, Nat.pow_zero, Nat.mul_one]
  · rw [if_neg h, if_neg h, if_neg h, Nat.add_comm (mg b % 4503599627370496)]
    congr 2
    omega
theorem sM_zero (b : Nat) : sM b = 0 ↔ mg b = 0 := by unfold sM; split <;> omega
end Fl

theorem res53n (w : World) (o : Array Value) (hs : o.size = 5) {fn : Func} {p : Tmp} (h : fn.results = #[.cell p 53]) (tmps : Array Value) (t : TypeId)
    (hp : tmps.getD p undef = .pointer (some ⟨w.heap.size, 0, none⟩)) : (results fn tmps).run Try.prog (w.alloc (.cells o t)) = .ok (.agg o) (w.alloc (.cells o t)) :=
  res53 h tmps _ _ t o hp (heap_alloc_new _ _) hs

theorem fld_exp (b : Nat) (hb : b < 18446744073709551616) : bits .and .u64 ((b : Int) / 4503599627370496) 2047 = ((Fl.mg b / 4503599627370496 : Nat) : Int) := by
  have e1 : (b : Int) / 4503599627370496 = ((b / 4503599627370496 : Nat) : Int) := by omega
  have h : bits .and .u64 ((b / 4503599627370496 : Nat) : Int) ((2047 : Nat) : Int) = ((b / 4503599627370496 &&& 2047 : Nat) : Int) := u64_and_nat _ 2047 (by omega) (by omega)
  have h2 : b / 4503599627370496 &&& 2047 = b / 4503599627370496 % 2048 := Nat.and_two_pow_sub_one_eq_mod _ 11
  rw [e1]
  refine h.trans ?_
  rw [h2]
  unfold Fl.mg Fl.SGN
  congr 1
  omega
theorem fld_frac (b : Nat) (hb : b < 18446744073709551616) : bits .and .u64 (b : Int) 4503599627370495 = ((Fl.mg b % 4503599627370496 : Nat) : Int) := by
  have h : bits .and .u64 (b : Int) ((4503599627370495 : Nat) : Int) = ((b &&& 4503599627370495 : Nat) : Int) := u64_and_nat _ _ hb (by omega)
  have h2 : b &&& 4503599627370495 = b % 4503599627370496 := Nat.and_two_pow_sub_one_eq_mod _ 52
  refine h.trans ?_
  rw [h2]
  unfold Fl.mg Fl.SGN
  congr 1
  omega
theorem fld_one (f : Nat) (hf : f < 4503599627370496) : bits .or .u64 (f : Int) 4503599627370496 = ((f + 4503599627370496 : Nat) : Int) := by
  have h : bits .or .u64 (f : Int) ((4503599627370496 : Nat) : Int) = ((f ||| 4503599627370496 : Nat) : Int) := u64_or_nat _ _ (by omega) (by omega)
  refine h.trans ?_
  rw [Nat.or_comm, nat_join 52 _ _ (by decide) hf, Nat.add_comm]
theorem fld_sign (b : Nat) (hb : b < 18446744073709551616) : ((b : Int) / 9223372036854775808 != 0) = Fl.sg b := by
  unfold Fl.sg Fl.SGN
  rw [Bool.eq_iff_iff]
  simp
  omega

theorem exv_eq {neg neg' more : Bool} {a a' b b' e e' : Int} (hn : neg = neg') (ha : a = a') (hb : b = b') (he : e = e') :
    Ending.returned (.agg #[.bool neg, .int .u64 a, .int .u64 b, .int .i64 e, .bool more]) = .returned (.agg #[.bool neg', .int .u64 a', .int .u64 b', .int .i64 e', .bool more]) := by
  subst hn ha hb he; rfl

theorem split_any (b : Nat) (hb : b < 18446744073709551616) (w : World) :
    Calls Try.prog 45 #[.float .f64 b] w fun r w' => r = .returned (exv (Fl.sg b) 0 (Fl.sM b) (Fl.sE b) false) ∧ ∃ o, w' = w.alloc o := by
  have F1 := fld_exp b hb
  have F2 := fld_frac b hb
  have F3 := fld_one (Fl.mg b % 4503599627370496) (Nat.mod_lt _ (by decide))
  have FS := Lib.hid (fld_sign b hb)
  have hp : Fl.mg b / 4503599627370496 < 2048 := by have := Fl.mg_lt b; unfold Fl.SGN at this; omega
  have HE : Hid ((Fl.mg b / 4503599627370496 = 0 → Fl.sM b = Fl.mg b % 4503599627370496 ∧ Fl.sE b = -1074) ∧ (Fl.mg b / 4503599627370496 ≠ 0 → Fl.sM b = Fl.mg b % 4503599627370496 + 4503599627370496 ∧ Fl.sE b = ((Fl.mg b / 4503599627370496 : Nat) : Int) - 1075)) := by
    refine Lib.hid ⟨fun h => ?_, fun h => ?_⟩
    · have h' : Fl.mg b < 4503599627370496 := by omega
      unfold Fl.sM Fl.sE
      rw [if_pos h', if_pos h']
      exact ⟨by omega, rfl⟩
    · have h' : ¬ Fl.mg b < 4503599627370496 := by omega
      unfold Fl.sM Fl.sE
      rw [if_neg h', if_neg h']
      exact ⟨rfl, rfl⟩
  generalize Fl.sM b = M at *
  generalize Fl.sE b = E at *
  generalize Fl.mg b / 4503599627370496 = p at *
  generalize Fl.mg b % 4503599627370496 = f at *
  by_cases h0 : p = 0
  · subst h0
    go_enter Try.func45, Try.ntmps45
    go_wp2_with fail
    (try simp only [Exit.inBlock, Exit.then])
    refine bodyPost_ret (res53 rfl _ _ _ _ _ rfl (heap_alloc_new _ _) rfl) rfl ?_
    obtain ⟨rfl, rfl⟩ := HE.out.1 (by first | exact rfl | exact trivial)
    exact ⟨exv_eq FS.out rfl rfl rfl, _, rfl⟩
  · go_enter Try.func45, Try.ntmps45
    go_wp2_with fail
    (try simp only [Exit.inBlock, Exit.then])
    refine bodyPost_ret (res53 rfl _ _ _ _ _ rfl (heap_alloc_new _ _) rfl) rfl ?_
    obtain ⟨rfl, rfl⟩ := HE.out.2 h0
    exact ⟨exv_eq FS.out rfl rfl rfl, _, rfl⟩

abbrev wdv (hi lo : Nat) (e : Int) (more : Bool) : Value := .agg #[.int .u64 (hi : Int), .int .u64 (lo : Int), .int .i64 e, .bool more]
theorem info58 : (Try.prog.info? 58).map (·.size) = some 4 := by kernel_rfl
theorem res58 {fn : Func} {p : Tmp} (h : fn.results = #[.cell p 58]) (tmps : Array Value) (w : World) (g : Nat) (t : TypeId) (cs : Array Value)
    (hp : tmps.getD p undef = .pointer (some ⟨g, 0, none⟩)) (hg : w.heap[g]? = some (.cells cs t (0, 0))) (hs : cs.size = 4) :
    (results fn tmps).run Try.prog w = .ok (.agg cs) w :=
  results_cell_row h tmps w g t cs (0, 0) _ hp hg Try.underlying58 rfl (by rw [info58, hs])
theorem res58t {fn : Func} {p u : Tmp} (h : fn.results = #[.cell p 58, .tmp u]) (tmps : Array Value) (w : World) (g : Nat) (t : TypeId) (cs : Array Value)
    (hp : tmps.getD p undef = .pointer (some ⟨g, 0, none⟩)) (hg : w.heap[g]? = some (.cells cs t (0, 0))) (hs : cs.size = 4) :
    (results fn tmps).run Try.prog w = .ok (.tuple #[.agg cs, tmps.getD u undef]) w := by
  rw [results_cell_tmp h, hp]
  have hl := run_loadVar_row (P := Try.prog) w g t 58 cs (0, 0) _ hg Try.underlying58 rfl (by rw [info58, hs])
  simp [asAddr, hl]

theorem wdv_eq {neg neg' more : Bool} {a a' b b' e e' : Int} (hn : neg = neg') (ha : a = a') (hb : b = b') (he : e = e') :
    Ending.returned (.tuple #[.agg #[.int .u64 a, .int .u64 b, .int .i64 e, .bool more], .bool neg]) = .returned (.tuple #[.agg #[.int .u64 a', .int .u64 b', .int .i64 e', .bool more], .bool neg']) := by
  subst hn ha hb he; rfl

theorem part_any (b : Nat) (hb : b < 18446744073709551616) (w : World) :
    Calls Try.prog 48 #[.float .f64 b] w fun r w' => r = .returned (.tuple #[wdv 0 (Fl.sM b) (Fl.sE b) false, .bool (Fl.sg b)]) ∧ ∃ o, w' = w.alloc o := by
  have F1 := fld_exp b hb
  have F2 := fld_frac b hb
  have F3 := fld_one (Fl.mg b % 4503599627370496) (Nat.mod_lt _ (by decide))
  have FS := Lib.hid (fld_sign b hb)
  have hp : Fl.mg b / 4503599627370496 < 2048 := by have := Fl.mg_lt b; unfold Fl.SGN at this; omega
  have HE : Hid ((Fl.mg b / 4503599627370496 = 0 → Fl.sM b = Fl.mg b % 4503599627370496 ∧ Fl.sE b = -1074) ∧ (Fl.mg b / 4503599627370496 ≠ 0 → Fl.sM b = Fl.mg b % 4503599627370496 + 4503599627370496 ∧ Fl.sE b = ((Fl.mg b / 4503599627370496 : Nat) : Int) - 1075)) := by
    refine Lib.hid ⟨fun h => ?_, fun h => ?_⟩
    · have h' : Fl.mg b < 4503599627370496 := by omega
      unfold Fl.sM Fl.sE
      rw [if_pos h', if_pos h']
      exact ⟨by omega, rfl⟩
    · have h' : ¬ Fl.mg b < 4503599627370496 := by omega
      unfold Fl.sM Fl.sE
      rw [if_neg h', if_neg h']
      exact ⟨rfl, rfl⟩
  generalize Fl.sM b = M at *
  generalize Fl.sE b = E at *
  generalize Fl.mg b / 4503599627370496 = p at *
  generalize Fl.mg b % 4503599627370496 = f at *
  by_cases h0 : p = 0
  · subst h0
    go_enter Try.func48, Try.ntmps48
    go_wp2_with fail
    (try simp only [Exit.inBlock, Exit.then])
    refine bodyPost_ret (res58t rfl _ _ _ _ _ rfl (heap_alloc_new _ _) rfl) rfl ?_
    obtain ⟨rfl, rfl⟩ := HE.out.1 (by first | exact rfl | exact trivial)
    exact ⟨wdv_eq FS.out rfl rfl rfl, _, rfl⟩
  · have hp0 : 0 < p := by omega
    go_enter Try.func48, Try.ntmps48
    go_wp2_with fail
    (try simp only [Exit.inBlock, Exit.then])
    refine bodyPost_ret (res58t rfl _ _ _ _ _ rfl (heap_alloc_new _ _) rfl) rfl ?_
    obtain ⟨rfl, rfl⟩ := HE.out.2 h0
    exact ⟨wdv_eq FS.out rfl rfl rfl, _, rfl⟩
end Go.Proofs.Ythkfaacgabkhhaa
