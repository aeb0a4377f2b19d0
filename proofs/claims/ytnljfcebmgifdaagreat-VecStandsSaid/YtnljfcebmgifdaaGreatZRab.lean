/- Shaken: Ga Gb Gv Gw Vf Vh Pb. -/
import Derived.Test.YtnljfcebmgifdaaGreatZVh
import Derived.Test.YtnljfcebmgifdaaGreatZPb
set_option maxRecDepth 100000
set_option maxHeartbeats 4000000
set_option linter.unusedVariables false
set_option linter.unusedSimpArgs false
namespace Go.Proofs.YtnljfcebmgifdaaGreat
open Go.RowKit
end Go.Proofs.YtnljfcebmgifdaaGreat
namespace Go.Proofs.YtnljfcebmgifdaaGreat
open Go.RowKit Ieee
section
variable (p f : Nat) (e : Int) (w : World)
end
section
variable (m : Nat) (e : Int) (w : World)
end
end Go.Proofs.YtnljfcebmgifdaaGreat
namespace Go.Proofs.YtnljfcebmgifdaaGreat
open Go.RowKit Ieee
section
variable {w w' : World} {g : Nat} {t : TypeId} {cs : Array Value}
end
end Go.Proofs.YtnljfcebmgifdaaGreat
namespace Go.Proofs.YtnljfcebmgifdaaGreat
open Go.RowKit Ieee
namespace Fl
end Fl
end Go.Proofs.YtnljfcebmgifdaaGreat
namespace Go.Proofs.YtnljfcebmgifdaaGreat
open Go.RowKit Ieee
namespace Fl
end Fl
abbrev wdv (hi lo : Nat) (e : Int) (more : Bool) : Value := .agg #[.int .u64 (hi : Int), .int .u64 (lo : Int), .int .i64 e, .bool more]
theorem info58 : (Tryz.prog.info? 115).map (·.size) = some 4 := by kernel_rfl
theorem res58 {fn : Func} {p : Tmp} (h : fn.results = #[.cell p 115]) (tmps : Array Value) (w : World) (g : Nat) (t : TypeId) (cs : Array Value)
   (hp : tmps.getD p undef = .pointer (some ⟨g, 0, none⟩)) (hg : w.heap[g]? = some (.cells cs t (0, 0))) (hs : cs.size = 4) :
   (results fn tmps).run Tryz.prog w = .ok (.agg cs) w :=
 results_cell_row h tmps w g t cs (0, 0) _ hp hg Tryz.underlying115 rfl (by rw [info58, hs])
theorem res58t {fn : Func} {p u : Tmp} (h : fn.results = #[.cell p 115, .tmp u]) (tmps : Array Value) (w : World) (g : Nat) (t : TypeId) (cs : Array Value)
   (hp : tmps.getD p undef = .pointer (some ⟨g, 0, none⟩)) (hg : w.heap[g]? = some (.cells cs t (0, 0))) (hs : cs.size = 4) :
   (results fn tmps).run Tryz.prog w = .ok (.tuple #[.agg cs, tmps.getD u undef]) w := by
 rw [results_cell_tmp h, hp]
 have hl := run_loadVar_row (P := Tryz.prog) w g t 115 cs (0, 0) _ hg Tryz.underlying115 rfl (by rw [info58, hs])
 simp [asAddr, hl]
theorem wdv_eq {neg neg' more : Bool} {a a' b b' e e' : Int} (hn : neg = neg') (ha : a = a') (hb : b = b') (he : e = e') :
   Ending.returned (.tuple #[.agg #[.int .u64 a, .int .u64 b, .int .i64 e, .bool more], .bool neg]) = .returned (.tuple #[.agg #[.int .u64 a', .int .u64 b', .int .i64 e', .bool more], .bool neg']) := by
 subst hn ha hb he; rfl
theorem part_any (b : Nat) (hb : b < 18446744073709551616) (w : World) :
   Calls Tryz.prog 125 #[.float .f64 b] w fun r w' => r = .returned (.tuple #[wdv 0 (Fl.sM b) (Fl.sE b) false, .bool (Fl.sg b)]) ∧ ∃ o, w' = w.alloc o := by
 have F1 := fld_exp b hb
 have F2 := fld_frac b hb
 have F3 := fld_one (Fl.mg b % 4503599627370496) (Nat.mod_lt _ (by decide))
 have FS := Lib.hid (fld_sign b hb)
 have hp : Fl.mg b / 4503599627370496 < 2048 := by have := Fl.mg_lt b; unfold Fl.SGN at this; omega
 have HE : Hid ((Fl.mg b / 4503599627370496 = 0 → Fl.sM b = Fl.mg b % 4503599627370496 ∧ Fl.sE b = -1074) ∧ (Fl.mg b / 4503599627370496 ≠ 0 → Fl.sM b = Fl.mg b % 4503599627370496 + 4503599627370496 ∧ Fl.sE b = ((Fl.mg b / 4503599627370496 : Nat) : Int) - 1075)) := by
   refine Lib.hid ⟨fun h => ?_, fun h => ?_⟩
   · have h' : Fl.mg b < 4503599627370496 := by omega
     unfold Fl.sM Fl.sE
     rw [if_pos h', if_pos h']
     exact ⟨by omega, rfl⟩
   · have h' : ¬ Fl.mg b < 4503599627370496 := by omega
     unfold Fl.sM Fl.sE
     rw [if_neg h', if_neg h']
     exact ⟨rfl, rfl⟩
 generalize Fl.sM b = M at *
 generalize Fl.sE b = E at *
 generalize Fl.mg b / 4503599627370496 = p at *
 generalize Fl.mg b % 4503599627370496 = f at *
 by_cases h0 : p = 0
 · subst h0
   go_enter Tryz.func125, Tryz.ntmps125
   go_wp2_with fail
   (try simp only [Exit.inBlock, Exit.then])
   refine bodyPost_ret (res58t rfl _ _ _ _ _ rfl (heap_alloc_new _ _) rfl) rfl ?_
   obtain ⟨rfl, rfl⟩ := HE.out.1 (by first | exact rfl | exact trivial)
   exact ⟨wdv_eq FS.out rfl rfl rfl, _, rfl⟩
 · have hp0 : 0 < p := by omega
   go_enter Tryz.func125, Tryz.ntmps125
   go_wp2_with fail
   (try simp only [Exit.inBlock, Exit.then])
   refine bodyPost_ret (res58t rfl _ _ _ _ _ rfl (heap_alloc_new _ _) rfl) rfl ?_
   obtain ⟨rfl, rfl⟩ := HE.out.2 h0
   exact ⟨wdv_eq FS.out rfl rfl rfl, _, rfl⟩
end Go.Proofs.YtnljfcebmgifdaaGreat
namespace Go.Proofs.YtnljfcebmgifdaaGreat
open Go.RowKit Ieee
theorem times_any (x y : Nat) (hx : x < 18446744073709551616) (hy : y < 18446744073709551616) (w : World) :
   Calls Tryz.prog 128 #[.int .u64 x, .int .u64 y] w fun e w' => e = .returned (.tuple #[.int .u64 ((x * y / 18446744073709551616 : Nat) : Int), .int .u64 ((x * y % 18446744073709551616 : Nat) : Int)]) ∧ w = w' := by
 obtain ⟨bd, bt, bw, hhi⟩ := Lib.mul64_hi x y hx hy
 have ba := Lib.half_mul_le (a := x / 4294967296) (b := y / 4294967296) (by omega) (by omega)
 have bb := Lib.half_mul_le (a := x / 4294967296) (b := y % 4294967296) (by omega) (by omega)
 have bc := Lib.half_mul_le (a := x % 4294967296) (b := y / 4294967296) (by omega) (by omega)
 have ba' : x / 4294967296 * (y / 4294967296) < 18446744073709551616 := by omega
 have bb' : x / 4294967296 * (y % 4294967296) < 18446744073709551616 := by omega
 have bc' : x % 4294967296 * (y / 4294967296) < 18446744073709551616 := by omega
 rw [Nat.add_comm (_ % 4294967296) (x % 4294967296 * (y / 4294967296))] at bw hhi
 have bh1 : x / 4294967296 * (y / 4294967296) + (x / 4294967296 * (y % 4294967296) + x % 4294967296 * (y % 4294967296) / 4294967296) / 4294967296 < 18446744073709551616 := by omega
 have bh : x / 4294967296 * (y / 4294967296) + (x / 4294967296 * (y % 4294967296) + x % 4294967296 * (y % 4294967296) / 4294967296) / 4294967296 + (x % 4294967296 * (y / 4294967296) + (x / 4294967296 * (y % 4294967296) + x % 4294967296 * (y % 4294967296) / 4294967296) % 4294967296) / 4294967296 < 18446744073709551616 := by omega
 go_enter Tryz.func128, Tryz.ntmps128
 go_wp2
 simp only [maskN x hx, maskN y hy, divN, mulN, addN, wrapN _ bd, wrapN _ bb', wrapN _ bt, maskN _ bt, wrapN _ bc', wrapN _ bw, wrapN _ ba', wrapN _ bh1, wrapN _ bh, wrapM (x * y)]
 rw [hhi]
 go_ret2
 exact ⟨rfl, rfl⟩
end Go.Proofs.YtnljfcebmgifdaaGreat
namespace Go.Proofs.YtnljfcebmgifdaaGreat
open Go.RowKit Ieee
end Go.Proofs.YtnljfcebmgifdaaGreat
set_option linter.unusedVariables false
set_option linter.unusedSimpArgs false
namespace Go.Proofs.YtnljfcebmgifdaaGreat
open Go.RowKit Ieee
abbrev wdo (hi lo : Nat) (e : Int) (more : Bool) : Obj := .cells #[.int .u64 (hi : Int), .int .u64 (lo : Int), .int .i64 e, .bool more] 115
abbrev wdW (W : Nat) (e : Int) (more : Bool) : Value := wdv (W / 18446744073709551616) (W % 18446744073709551616) e more
theorem len_div {b k : Nat} (h : 2 ^ k ≤ b) : Fl.len (b / 2 ^ k) + k = Fl.len b := by
 have h1 : k < Fl.len b := by
   apply Nat.lt_of_not_le
   intro hh
   have h2 := Fl.lt_len b
   have := Nat.pow_le_pow_right (show 0 < 2 by decide) hh
   omega
 rw [Fl.len_div_pow k h1]
 omega
def LenR (L : Nat) (n x s : Value) (w wr : World) (o : Obj) : Prop :=
 wr = w.alloc o ∧ ∃ (a b : Nat) (k : Nat), n = .int .i64 (a : Int) ∧ x = .int .u64 (b : Int) ∧ s = .int .i64 (k : Int) ∧ a ≤ 128 ∧ a + Fl.len b = L ∧ b < 18446744073709551616 ∧
   ((k = 32) ∨ (k = 16 ∧ b < 4294967296) ∨ (k = 8 ∧ b < 65536) ∨ (k = 4 ∧ b < 256) ∨ (k = 2 ∧ b < 16) ∨ (k = 1 ∧ b < 4) ∨ (k = 0 ∧ b < 2))
theorem len_bit {b : Nat} (h : b < 2) : Fl.len b = b := by
 rcases (show b = 0 ∨ b = 1 by omega) with rfl | rfl
 · rfl
 · decide
theorem lr_up {a b L : Nat} (k P : Nat) (hP : 2 ^ k = P) (hp : 0 < P) (h : ((b : Int) / (P : Int) != 0) = true) (hl : a + Fl.len b = L) (hL : L ≤ 128) : a + k ≤ 128 ∧ a + k + Fl.len (b / P) = L ∧ P ≤ b := by
 have hb : P ≤ b := by
   apply Nat.le_of_not_lt
   intro hh
   have : (b : Int) / (P : Int) = 0 := Int.ediv_eq_zero_of_lt (by omega) (by omega)
   rw [this] at h
   exact absurd h (by decide)
 subst hP
 have := len_div hb
 exact ⟨by omega, by omega, hb⟩
theorem lr_lt {b : Nat} (P : Nat) (hp : 0 < P) (h : ((b : Int) / (P : Int) != 0) = false) : b < P := by
 apply Nat.lt_of_not_le
 intro hh
 have h1 : 0 < b / P := Nat.div_pos hh hp
 have h2 : (b : Int) / (P : Int) = ((b / P : Nat) : Int) := by simp
 rw [h2] at h
 simp only [bne_eq_false_iff_eq] at h
 omega
theorem wlen_any (hi lo : Nat) (e : Int) (more : Bool) (h1 : hi < 18446744073709551616) (h2 : lo < 18446744073709551616) (w : World) :
   Calls Tryz.prog 127 #[wdv hi lo e more] w fun r w' => r = .returned (.int .i64 (Fl.len (hi * 18446744073709551616 + lo) : Nat)) ∧ ∃ o, w' = w.alloc o := by
 obtain ⟨L, hL⟩ : ∃ L, Fl.len (hi * 18446744073709551616 + lo) = L := ⟨_, rfl⟩
 have hL2 : L ≤ 128 := by
   rw [← hL]; apply Fl.len_le_of_lt
   have : (2 : Nat) ^ 128 = 340282366920938463463374607431768211456 := by decide
   omega
 rw [hL]
 have HL := Lib.hid hL
 clear hL
 by_cases h0 : hi = 0
 · subst h0
   have H1 : Hid (0 + Fl.len lo = L) := by
     refine Lib.hid ?_
     rw [← HL.out, Nat.zero_mul, Nat.zero_add, Nat.zero_add]
   go_enter Tryz.func127, Tryz.ntmps127
   go_wp2_with fail
   go_loopw [3, 4, 5] (fun n x s wr => LenR L n x s w wr (wdo 0 lo e more)) (fun _ _ s _ => (intOf s).toNat)
   case atStart => exact ⟨rfl, 0, lo, 32, rfl, rfl, rfl, by omega, H1.out, h2, .inl rfl⟩
   case round =>
     obtain ⟨rfl, a, b, k, rfl, rfl, rfl, ha, hl, hb, hk⟩ := hrel
     have HB := Lib.hid hl
     clear hl
     rcases hk with rfl | ⟨rfl, hb'⟩ | ⟨rfl, hb'⟩ | ⟨rfl, hb'⟩ | ⟨rfl, hb'⟩ | ⟨rfl, hb'⟩ | ⟨rfl, hb'⟩
     · go_wp2_with fail
       · rename_i h
         obtain ⟨q1, q2, q3⟩ := lr_up 32 4294967296 rfl (by decide) h HB.out hL2
         exact ⟨⟨rfl, a + 32, b / 4294967296, 16, congrArg _ (by omega), congrArg _ (by omega), rfl, q1, q2, by omega, by omega⟩, by decide⟩
       · rename_i h
         have q3 := lr_lt 4294967296 (by decide) h
         exact ⟨⟨rfl, a, b, 16, rfl, rfl, rfl, ha, HB.out, hb, by omega⟩, by decide⟩
     · go_wp2_with fail
       · rename_i h
         obtain ⟨q1, q2, q3⟩ := lr_up 16 65536 rfl (by decide) h HB.out hL2
         exact ⟨⟨rfl, a + 16, b / 65536, 8, congrArg _ (by omega), congrArg _ (by omega), rfl, q1, q2, by omega, by omega⟩, by decide⟩
       · rename_i h
         have q3 := lr_lt 65536 (by decide) h
         exact ⟨⟨rfl, a, b, 8, rfl, rfl, rfl, ha, HB.out, hb, by omega⟩, by decide⟩
     · go_wp2_with fail
       · rename_i h
         obtain ⟨q1, q2, q3⟩ := lr_up 8 256 rfl (by decide) h HB.out hL2
         exact ⟨⟨rfl, a + 8, b / 256, 4, congrArg _ (by omega), congrArg _ (by omega), rfl, q1, q2, by omega, by omega⟩, by decide⟩
       · rename_i h
         have q3 := lr_lt 256 (by decide) h
         exact ⟨⟨rfl, a, b, 4, rfl, rfl, rfl, ha, HB.out, hb, by omega⟩, by decide⟩
     · go_wp2_with fail
       · rename_i h
         obtain ⟨q1, q2, q3⟩ := lr_up 4 16 rfl (by decide) h HB.out hL2
         exact ⟨⟨rfl, a + 4, b / 16, 2, congrArg _ (by omega), congrArg _ (by omega), rfl, q1, q2, by omega, by omega⟩, by decide⟩
       · rename_i h
         have q3 := lr_lt 16 (by decide) h
         exact ⟨⟨rfl, a, b, 2, rfl, rfl, rfl, ha, HB.out, hb, by omega⟩, by decide⟩
     · go_wp2_with fail
       · rename_i h
         obtain ⟨q1, q2, q3⟩ := lr_up 2 4 rfl (by decide) h HB.out hL2
         exact ⟨⟨rfl, a + 2, b / 4, 1, congrArg _ (by omega), congrArg _ (by omega), rfl, q1, q2, by omega, by omega⟩, by decide⟩
       · rename_i h
         have q3 := lr_lt 4 (by decide) h
         exact ⟨⟨rfl, a, b, 1, rfl, rfl, rfl, ha, HB.out, hb, by omega⟩, by decide⟩
     · go_wp2_with fail
       · rename_i h
         obtain ⟨q1, q2, q3⟩ := lr_up 1 2 rfl (by decide) h HB.out hL2
         exact ⟨⟨rfl, a + 1, b / 2, 0, congrArg _ (by omega), congrArg _ (by omega), rfl, q1, q2, by omega, by omega⟩, by decide⟩
       · rename_i h
         have q3 := lr_lt 2 (by decide) h
         exact ⟨⟨rfl, a, b, 0, rfl, rfl, rfl, ha, HB.out, hb, by omega⟩, by decide⟩
     · go_wp2_with fail
       go_ret
       refine ⟨ret_int ?_, _, rfl⟩
       rw [← HB.out, len_bit hb']
       omega
 · have H1 : Hid (64 + Fl.len hi = L) := by
     refine Lib.hid ?_
     rw [← HL.out]
     have e1 : hi * 18446744073709551616 + lo = lo + 18446744073709551616 * hi := by omega
     have e2 : (hi * 18446744073709551616 + lo) / 2 ^ 64 = hi := by rw [show (2 : Nat) ^ 64 = 18446744073709551616 from rfl]; omega
     have e3 := len_div (b := hi * 18446744073709551616 + lo) (k := 64) (by rw [show (2 : Nat) ^ 64 = 18446744073709551616 from rfl]; omega)
     rw [e2] at e3
     omega
   go_enter Tryz.func127, Tryz.ntmps127
   go_wp2_with fail
   go_loopw [3, 4, 5] (fun n x s wr => LenR L n x s w wr (wdo hi lo e more)) (fun _ _ s _ => (intOf s).toNat)
   case atStart => exact ⟨rfl, 64, hi, 32, rfl, rfl, rfl, by omega, H1.out, h1, .inl rfl⟩
   case round =>
     obtain ⟨rfl, a, b, k, rfl, rfl, rfl, ha, hl, hb, hk⟩ := hrel
     have HB := Lib.hid hl
     clear hl
     rcases hk with rfl | ⟨rfl, hb'⟩ | ⟨rfl, hb'⟩ | ⟨rfl, hb'⟩ | ⟨rfl, hb'⟩ | ⟨rfl, hb'⟩ | ⟨rfl, hb'⟩
     · go_wp2_with fail
       · rename_i h
         obtain ⟨q1, q2, q3⟩ := lr_up 32 4294967296 rfl (by decide) h HB.out hL2
         exact ⟨⟨rfl, a + 32, b / 4294967296, 16, congrArg _ (by omega), congrArg _ (by omega), rfl, q1, q2, by omega, by omega⟩, by decide⟩
       · rename_i h
         have q3 := lr_lt 4294967296 (by decide) h
         exact ⟨⟨rfl, a, b, 16, rfl, rfl, rfl, ha, HB.out, hb, by omega⟩, by decide⟩
     · go_wp2_with fail
       · rename_i h
         obtain ⟨q1, q2, q3⟩ := lr_up 16 65536 rfl (by decide) h HB.out hL2
         exact ⟨⟨rfl, a + 16, b / 65536, 8, congrArg _ (by omega), congrArg _ (by omega), rfl, q1, q2, by omega, by omega⟩, by decide⟩
       · rename_i h
         have q3 := lr_lt 65536 (by decide) h
         exact ⟨⟨rfl, a, b, 8, rfl, rfl, rfl, ha, HB.out, hb, by omega⟩, by decide⟩
     · go_wp2_with fail
       · rename_i h
         obtain ⟨q1, q2, q3⟩ := lr_up 8 256 rfl (by decide) h HB.out hL2
         exact ⟨⟨rfl, a + 8, b / 256, 4, congrArg _ (by omega), congrArg _ (by omega), rfl, q1, q2, by omega, by omega⟩, by decide⟩
       · rename_i h
         have q3 := lr_lt 256 (by decide) h
         exact ⟨⟨rfl, a, b, 4, rfl, rfl, rfl, ha, HB.out, hb, by omega⟩, by decide⟩
     · go_wp2_with fail
       · rename_i h
         obtain ⟨q1, q2, q3⟩ := lr_up 4 16 rfl (by decide) h HB.out hL2
         exact ⟨⟨rfl, a + 4, b / 16, 2, congrArg _ (by omega), congrArg _ (by omega), rfl, q1, q2, by omega, by omega⟩, by decide⟩
       · rename_i h
         have q3 := lr_lt 16 (by decide) h
         exact ⟨⟨rfl, a, b, 2, rfl, rfl, rfl, ha, HB.out, hb, by omega⟩, by decide⟩
     · go_wp2_with fail
       · rename_i h
         obtain ⟨q1, q2, q3⟩ := lr_up 2 4 rfl (by decide) h HB.out hL2
         exact ⟨⟨rfl, a + 2, b / 4, 1, congrArg _ (by omega), congrArg _ (by omega), rfl, q1, q2, by omega, by omega⟩, by decide⟩
       · rename_i h
         have q3 := lr_lt 4 (by decide) h
         exact ⟨⟨rfl, a, b, 1, rfl, rfl, rfl, ha, HB.out, hb, by omega⟩, by decide⟩
     · go_wp2_with fail
       · rename_i h
         obtain ⟨q1, q2, q3⟩ := lr_up 1 2 rfl (by decide) h HB.out hL2
         exact ⟨⟨rfl, a + 1, b / 2, 0, congrArg _ (by omega), congrArg _ (by omega), rfl, q1, q2, by omega, by omega⟩, by decide⟩
       · rename_i h
         have q3 := lr_lt 2 (by decide) h
         exact ⟨⟨rfl, a, b, 0, rfl, rfl, rfl, ha, HB.out, hb, by omega⟩, by decide⟩
     · go_wp2_with fail
       go_ret
       refine ⟨ret_int ?_, _, rfl⟩
       rw [← HB.out, len_bit hb']
       omega
end Go.Proofs.YtnljfcebmgifdaaGreat
namespace Go.Proofs.YtnljfcebmgifdaaGreat
open Go.RowKit Ieee
theorem wdW_eq {more more' : Bool} {a b e e' : Int} {W : Nat} (ha : a = ((W / 18446744073709551616 : Nat) : Int)) (hb : b = ((W % 18446744073709551616 : Nat) : Int)) (he : e = e') (hm : more = more') :
   Ending.returned (.agg #[.int .u64 a, .int .u64 b, .int .i64 e, .bool more]) = .returned (wdW W e' more') := by
 subst ha hb he hm; rfl
theorem up_any (W : Nat) (e : Int) (more : Bool) (n : Nat) (hW : W * 2 ^ n < 340282366920938463463374607431768211456) (hn : n ≤ 128) (he : -100000 ≤ e) (he2 : e ≤ 100000) (w : World) :
   Calls Tryz.prog 126 #[wdW W e more, .int .i64 (n : Int)] w fun r w' => r = .returned (wdW (W * 2 ^ n) (e - n) more) ∧ ∃ k o o', w' = ((w.alloc o).alloc o').drewN k := by
 have hW1 : W < 340282366920938463463374607431768211456 := Nat.lt_of_le_of_lt (Nat.le_mul_of_pos_right W (Nat.two_pow_pos n)) hW
 obtain ⟨hi, lo, h1, h2, rfl⟩ : ∃ hi lo, hi < 18446744073709551616 ∧ lo < 18446744073709551616 ∧ W = hi * 18446744073709551616 + lo :=
   ⟨W / 18446744073709551616, W % 18446744073709551616, by omega, by omega, by omega⟩
 unfold wdW
 rw [show (hi * 18446744073709551616 + lo) / 18446744073709551616 = hi by omega, show (hi * 18446744073709551616 + lo) % 18446744073709551616 = lo by omega]
 have HW := Lib.hid hW
 clear hW hW1
 by_cases h64 : 64 ≤ n
 · go_enter Tryz.func126, Tryz.ntmps126
   go_wp2_with fail
   (try simp only [Exit.inBlock, Exit.then])
   refine bodyPost_ret (res58 rfl _ _ _ _ _ rfl (heap_alloc2_new _ _ _) rfl) rfl ?_
   obtain ⟨q1, q2⟩ := left_hi1 h2 h64 HW.out
   refine ⟨wdW_eq ?_ ?_ rfl rfl, 0, _, _, rfl⟩
   · rw [wrap_mul, q1]
   · rw [q2]; rfl
 · by_cases h0 : n = 0
   · subst h0
     go_enter Tryz.func126, Tryz.ntmps126
     go_wp2_with fail
     (try simp only [Exit.inBlock, Exit.then])
     refine bodyPost_ret (res58 rfl _ _ _ _ _ rfl (heap_alloc2_new _ _ _) rfl) rfl ?_
     refine ⟨wdW_eq ?_ ?_ (by omega) rfl, 0, _, _, rfl⟩
     · rw [Nat.pow_zero]; omega
     · rw [Nat.pow_zero]; omega
   · have hp : 0 < n := by omega
     have hq : n < 64 := by omega
     clear h0 h64 hn
     go_enter Tryz.func126, Tryz.ntmps126
     go_wp2_with fail
     go_region
     go_wp2_with fail
     (try simp only [Exit.inBlock, Exit.then])
     refine bodyPost_ret (res58 rfl _ _ _ _ _ rfl (heap_alloc2_new _ _ _) rfl) rfl ?_
     obtain ⟨q1, q2, q3, q4⟩ := left_hi2 h1 h2 hq HW.out
     refine ⟨wdW_eq ?_ ?_ rfl rfl, 1, _, _, rfl⟩
     · rw [wrap_mul, div_nat, bits_or_u64_nat _ _ q3 q4, q1]
     · rw [wrap_mul, q2]
theorem heap_alloc4_3 (w : World) (a b c d : Obj) : ((((w.alloc a).alloc b).alloc c).alloc d).heap[w.heap.size + 1 + 1]? = some c := by
 refine (Below.heap_alloc _ _ _ (by simp)).trans ?_
 have := heap_alloc_new ((w.alloc a).alloc b) c
 simpa using this
theorem wless_words (ah al bh bl : Nat) (ea eb : Int) (ma mb : Bool) (w : World) :
   Calls Tryz.prog 129 #[wdv ah al ea ma, wdv bh bl eb mb] w fun r w' => r = .returned (.bool (decide (ah < bh) || (decide (ah = bh) && decide (al < bl)))) ∧ ∃ o o', w' = (w.alloc o).alloc o' := by
 go_enter Tryz.func129, Tryz.ntmps129
 go_wp2_with fail
 all_goals (go_ret; refine ⟨ret_bool ?_, _, _, rfl⟩; first | rfl | (rw [Bool.eq_iff_iff]; simp; omega))
theorem wless_any (A B : Nat) (ea eb : Int) (ma mb : Bool) (hA : A < 340282366920938463463374607431768211456) (hB : B < 340282366920938463463374607431768211456) (w : World) :
   Calls Tryz.prog 129 #[wdW A ea ma, wdW B eb mb] w fun r w' => r = .returned (.bool (decide (A < B))) ∧ ∃ o o', w' = (w.alloc o).alloc o' := by
 refine (wless_words _ _ _ _ ea eb ma mb w).mono ?_
 rintro r w' ⟨rfl, h⟩
 refine ⟨ret_bool ?_, h⟩
 rw [Bool.eq_iff_iff]
 simp only [Bool.or_eq_true, Bool.and_eq_true, decide_eq_true_eq]
 omega
theorem wplus_any (A B : Nat) (e eb : Int) (mb : Bool) (hA : A < 340282366920938463463374607431768211456) (hB : B < 340282366920938463463374607431768211456) (hS : A + B < 340282366920938463463374607431768211456) (w : World) :
   Calls Tryz.prog 135 #[wdW A e false, wdW B eb mb] w fun r w' => r = .returned (wdW (A + B) e mb) ∧ ∃ o o' o'' o3, w' = (((w.alloc o).alloc o').alloc o'').alloc o3 := by
 obtain ⟨ah, al, a1, a2, rfl, a3, a4⟩ := words A hA
 obtain ⟨bh, bl, b1, b2, rfl, b3, b4⟩ := words B hB
 have HS := Lib.hid hS
 unfold wdW
 rw [a3, a4, b3, b4]
 clear hA hB hS a3 a4 b3 b4
 go_enter Tryz.func135, Tryz.ntmps135
 go_wp2_with fail
 all_goals
   (try simp only [Exit.inBlock, Exit.then])
   refine bodyPost_ret (res58 rfl _ _ _ _ _ rfl (heap_alloc4_3 _ _ _ _ _) rfl) rfl ?_
   refine ⟨wdW_eq ?_ ?_ rfl rfl, _, _, _, _, rfl⟩
 all_goals
   have hS := HS.out
   clear HS
   simp only [IntKind.wrap_u64, decide_eq_true_eq, decide_eq_false_iff_not] at *
   omega
theorem wminus_any (A B : Nat) (e eb : Int) (ma mb : Bool) (hA : A < 340282366920938463463374607431768211456) (hS : B ≤ A) (w : World) :
   Calls Tryz.prog 136 #[wdW A e ma, wdW B eb mb] w fun r w' => r = .returned (wdW (A - B) e false) ∧ ∃ o o' o'' o3, w' = (((w.alloc o).alloc o').alloc o'').alloc o3 := by
 have hB : B < 340282366920938463463374607431768211456 := by omega
 obtain ⟨ah, al, a1, a2, rfl, a3, a4⟩ := words A hA
 obtain ⟨bh, bl, b1, b2, rfl, b3, b4⟩ := words B hB
 have HS := Lib.hid (show bh * 18446744073709551616 + bl ≤ ah * 18446744073709551616 + al ∧ ah < 18446744073709551616 ∧ al < 18446744073709551616 ∧ bh < 18446744073709551616 ∧ bl < 18446744073709551616 from ⟨hS, a1, a2, b1, b2⟩)
 unfold wdW
 rw [a3, a4, b3, b4]
 clear hA hB hS a3 a4 b3 b4 a1 a2 b1 b2
 go_enter Tryz.func136, Tryz.ntmps136
 go_wp2_with fail
 all_goals
   (try simp only [Exit.inBlock, Exit.then])
   refine bodyPost_ret (res58 rfl _ _ _ _ _ rfl (heap_alloc4_3 _ _ _ _ _) rfl) rfl ?_
   refine ⟨wdW_eq ?_ ?_ rfl rfl, _, _, _, _, rfl⟩
 all_goals
   obtain ⟨hS, a1, a2, b1, b2⟩ := HS.out
   clear HS
   simp only [IntKind.wrap_u64] at *
   omega
end Go.Proofs.YtnljfcebmgifdaaGreat
namespace Go.Proofs.YtnljfcebmgifdaaGreat
open Go.RowKit Ieee
def DnR (hi lo : Nat) (e : Int) (more : Bool) (n : Nat) (w : World) (c : Value) (wr : World) : Prop :=
 (c = .int .i64 (n : Int) ∧ wr = (w.alloc (wdo hi lo (e + n) more)).alloc (wdo 0 0 0 false)) ∨
 (64 ≤ n ∧ hi ≠ 0 ∧ c = .int .i64 ((n - 64 : Nat) : Int) ∧ wr = (w.alloc (wdo 0 hi (e + n) (more || (lo : Int) != 0))).alloc (wdo 0 0 0 false))
theorem dn_lo {lo n : Nat} (h2 : lo < 18446744073709551616) (h64 : 64 ≤ n) : lo / 2 ^ n = 0 ∧ lo % 2 ^ n = lo := by
 have h : lo < 2 ^ n := Nat.lt_of_lt_of_le h2 (by have := Nat.pow_le_pow_right (show 0 < 2 by decide) h64; exact this)
 exact ⟨Nat.div_eq_of_lt h, Nat.mod_eq_of_lt h⟩
theorem int_ne_zero {n : Nat} (h : ((n : Int) == 0) = false) : n ≠ 0 := by
 intro e; subst e; exact absurd h (by decide)
theorem int_eq_zero {n : Nat} (h : ((n : Int) == 0) = true) : n = 0 := by simpa using h
theorem down_i_false (hi lo : Nat) (e : Int) (n : Nat) (h64 : n < 64) (hp : 0 < n) (hn : n < 100000) (he : -100000 ≤ e) (he2 : e ≤ 100000) (w : World) :
   Calls Tryz.prog 134 #[wdv hi lo e false, .int .i64 (n : Int)] w fun r w' => r = .returned (.agg #[.int .u64 ((hi : Int) / 2 ^ n), .int .u64 (bits .or .u64 ((lo : Int) / 2 ^ n) (IntKind.u64.wrap ((hi : Int) * 2 ^ (64 - n)))), .int .i64 (e + n), .bool (false || (IntKind.u64.wrap ((lo : Int) * 2 ^ (64 - n)) != 0))]) ∧ ∃ k o o', w' = ((w.alloc o).alloc o').drewN k := by
 generalize hres : Ending.returned (.agg #[.int .u64 ((hi : Int) / 2 ^ n), .int .u64 (bits .or .u64 ((lo : Int) / 2 ^ n) (IntKind.u64.wrap ((hi : Int) * 2 ^ (64 - n)))), .int .i64 (e + n), .bool (false || (IntKind.u64.wrap ((lo : Int) * 2 ^ (64 - n)) != 0))]) = res
 have HR := Lib.hid hres
 clear hres
 go_enter Tryz.func134, Tryz.ntmps134
 go_wp2_with fail
 go_loopw [1] (fun c wr => DnR hi lo e false n w c wr) (fun c _ => (intOf c).toNat)
 case atStart => exact .inl ⟨rfl, rfl⟩
 case round =>
   rcases hrel with ⟨rfl, rfl⟩ | ⟨hn1, hh, rfl, rfl⟩
   · go_wp2_with fail
     go_region
     go_wp2_with fail
     (try simp only [Exit.inBlock, Exit.then]); refine bodyPost_ret (res58 rfl _ _ _ _ _ rfl (heap_alloc2_new _ _ _) rfl) rfl ?_; refine ⟨Eq.trans ?_ HR.out, 1, _, _, rfl⟩
     rfl
   · omega
theorem down_ii_false (hi lo : Nat) (e : Int) (n : Nat) (h64 : 64 ≤ n) (h0 : ((hi : Int) == 0) = true) (hp : 0 < n) (hn : n < 100000) (he : -100000 ≤ e) (he2 : e ≤ 100000) (w : World) :
   Calls Tryz.prog 134 #[wdv hi lo e false, .int .i64 (n : Int)] w fun r w' => r = .returned (.agg #[.int .u64 0, .int .u64 (hi : Int), .int .i64 (e + n), .bool (false || ((lo : Int) != 0))]) ∧ ∃ k o o', w' = ((w.alloc o).alloc o').drewN k := by
 generalize hres : Ending.returned (.agg #[.int .u64 0, .int .u64 (hi : Int), .int .i64 (e + n), .bool (false || ((lo : Int) != 0))]) = res
 have HR := Lib.hid hres
 clear hres
 go_enter Tryz.func134, Tryz.ntmps134
 go_wp2_with fail
 go_loopw [1] (fun c wr => DnR hi lo e false n w c wr) (fun c _ => (intOf c).toNat)
 case atStart => exact .inl ⟨rfl, rfl⟩
 case round =>
   rcases hrel with ⟨rfl, rfl⟩ | ⟨hn1, hh, rfl, rfl⟩
   · go_wp2_with fail
     (try simp only [Exit.inBlock, Exit.then]); refine bodyPost_ret (res58 rfl _ _ _ _ _ rfl (heap_alloc2_new _ _ _) rfl) rfl ?_; refine ⟨Eq.trans ?_ HR.out, 0, _, _, rfl⟩
     rfl
   · exact absurd (int_eq_zero h0) hh
theorem down_iiia_false (hi lo : Nat) (e : Int) (n : Nat) (h64 : 128 ≤ n) (h0 : ((hi : Int) == 0) = false) (hp : 0 < n) (hn : n < 100000) (he : -100000 ≤ e) (he2 : e ≤ 100000) (w : World) :
   Calls Tryz.prog 134 #[wdv hi lo e false, .int .i64 (n : Int)] w fun r w' => r = .returned (.agg #[.int .u64 0, .int .u64 0, .int .i64 (e + n), .bool true]) ∧ ∃ k o o', w' = ((w.alloc o).alloc o').drewN k := by
 generalize hres : Ending.returned (.agg #[.int .u64 0, .int .u64 0, .int .i64 (e + n), .bool true]) = res
 have HR := Lib.hid hres
 clear hres
 go_enter Tryz.func134, Tryz.ntmps134
 go_wp2_with fail
 go_loopw [1] (fun c wr => DnR hi lo e false n w c wr) (fun c _ => (intOf c).toNat)
 case atStart => exact .inl ⟨rfl, rfl⟩
 case round =>
   rcases hrel with ⟨rfl, rfl⟩ | ⟨hn1, hh, rfl, rfl⟩
   · go_wp2_with fail
     exact ⟨.inr ⟨by omega, int_ne_zero h0, congrArg _ (by omega), rfl⟩, by simp only [intOf]; omega⟩
   · generalize hm : (false || (lo : Int) != 0) = m
     have HM := Lib.hid hm
     clear hm
     have h1 : n - 64 ≤ 100000 := by omega
     have h2 : 64 ≤ n - 64 := by omega
     have h3 : ((hi : Int) != 0) = true := by simpa using hh
     cases m
     all_goals
       go_wp2_with fail
       (try simp only [Exit.inBlock, Exit.then]); refine bodyPost_ret (res58 rfl _ _ _ _ _ rfl (heap_alloc2_new _ _ _) rfl) rfl ?_; refine ⟨Eq.trans ?_ HR.out, 0, _, _, rfl⟩
       first | rfl | (rw [HM.out]; done) | (rw [HM.out]; rfl)
theorem down_iiib_false (hi lo : Nat) (e : Int) (n : Nat) (h64 : 64 ≤ n) (h65 : n ≤ 64) (h0 : ((hi : Int) == 0) = false) (hp : 0 < n) (hn : n < 100000) (he : -100000 ≤ e) (he2 : e ≤ 100000) (w : World) :
   Calls Tryz.prog 134 #[wdv hi lo e false, .int .i64 (n : Int)] w fun r w' => r = .returned (.agg #[.int .u64 0, .int .u64 (hi : Int), .int .i64 (e + n), .bool (false || (lo : Int) != 0)]) ∧ ∃ k o o', w' = ((w.alloc o).alloc o').drewN k := by
 generalize hres : Ending.returned (.agg #[.int .u64 0, .int .u64 (hi : Int), .int .i64 (e + n), .bool (false || (lo : Int) != 0)]) = res
 have HR := Lib.hid hres
 clear hres
 go_enter Tryz.func134, Tryz.ntmps134
 go_wp2_with fail
 go_loopw [1] (fun c wr => DnR hi lo e false n w c wr) (fun c _ => (intOf c).toNat)
 case atStart => exact .inl ⟨rfl, rfl⟩
 case round =>
   rcases hrel with ⟨rfl, rfl⟩ | ⟨hn1, hh, rfl, rfl⟩
   · go_wp2_with fail
     exact ⟨.inr ⟨by omega, int_ne_zero h0, congrArg _ (by omega), rfl⟩, by simp only [intOf]; omega⟩
   · generalize hm : (false || (lo : Int) != 0) = m
     have HM := Lib.hid hm
     clear hm
     have h1 : n - 64 ≤ 100000 := by omega
     cases m
     all_goals
       go_wp2_with fail
       (try simp only [Exit.inBlock, Exit.then]); refine bodyPost_ret (res58 rfl _ _ _ _ _ rfl (heap_alloc2_new _ _ _) rfl) rfl ?_; refine ⟨Eq.trans ?_ HR.out, 0, _, _, rfl⟩
       first | rfl | (rw [HM.out]; done) | (rw [HM.out]; rfl)
theorem down_iiic_false (hi lo : Nat) (e : Int) (n : Nat) (h64 : 64 < n) (h128 : n < 128) (h0 : ((hi : Int) == 0) = false) (hp : 0 < n) (hn : n < 100000) (he : -100000 ≤ e) (he2 : e ≤ 100000) (w : World) :
   Calls Tryz.prog 134 #[wdv hi lo e false, .int .i64 (n : Int)] w fun r w' => r = .returned (.agg #[.int .u64 0, .int .u64 (bits .or .u64 ((hi : Int) / 2 ^ (n - 64)) 0), .int .i64 (e + n), .bool ((false || (lo : Int) != 0) || (IntKind.u64.wrap ((hi : Int) * 2 ^ (64 - (n - 64))) != 0))]) ∧ ∃ k o o', w' = ((w.alloc o).alloc o').drewN k := by
 generalize hres : Ending.returned (.agg #[.int .u64 0, .int .u64 (bits .or .u64 ((hi : Int) / 2 ^ (n - 64)) 0), .int .i64 (e + n), .bool ((false || (lo : Int) != 0) || (IntKind.u64.wrap ((hi : Int) * 2 ^ (64 - (n - 64))) != 0))]) = res
 have HR := Lib.hid hres
 clear hres
 go_enter Tryz.func134, Tryz.ntmps134
 go_wp2_with fail
 go_loopw [1] (fun c wr => DnR hi lo e false n w c wr) (fun c _ => (intOf c).toNat)
 case atStart => exact .inl ⟨rfl, rfl⟩
 case round =>
   rcases hrel with ⟨rfl, rfl⟩ | ⟨hn1, hh, rfl, rfl⟩
   · go_wp2_with fail
     exact ⟨.inr ⟨by omega, int_ne_zero h0, congrArg _ (by omega), rfl⟩, by simp only [intOf]; omega⟩
   · generalize hm : (false || (lo : Int) != 0) = m
     have HM := Lib.hid hm
     clear hm
     have h1 : n - 64 ≤ 100000 := by omega
     have h2 : n - 64 < 64 := by omega
     have h3 : 0 < n - 64 := by omega
     cases m
     all_goals
       go_wp2_with fail
       go_region
       go_wp2_with fail
       (try simp only [Exit.inBlock, Exit.then]); refine bodyPost_ret (res58 rfl _ _ _ _ _ rfl (heap_alloc2_new _ _ _) rfl) rfl ?_; refine ⟨Eq.trans ?_ HR.out, 1, _, _, rfl⟩
       first | rfl | (rw [HM.out]; done) | (rw [HM.out]; rfl)
theorem down_i_true (hi lo : Nat) (e : Int) (n : Nat) (h64 : n < 64) (hp : 0 < n) (hn : n < 100000) (he : -100000 ≤ e) (he2 : e ≤ 100000) (w : World) :
   Calls Tryz.prog 134 #[wdv hi lo e true, .int .i64 (n : Int)] w fun r w' => r = .returned (.agg #[.int .u64 ((hi : Int) / 2 ^ n), .int .u64 (bits .or .u64 ((lo : Int) / 2 ^ n) (IntKind.u64.wrap ((hi : Int) * 2 ^ (64 - n)))), .int .i64 (e + n), .bool (true || (IntKind.u64.wrap ((lo : Int) * 2 ^ (64 - n)) != 0))]) ∧ ∃ k o o', w' = ((w.alloc o).alloc o').drewN k := by
 generalize hres : Ending.returned (.agg #[.int .u64 ((hi : Int) / 2 ^ n), .int .u64 (bits .or .u64 ((lo : Int) / 2 ^ n) (IntKind.u64.wrap ((hi : Int) * 2 ^ (64 - n)))), .int .i64 (e + n), .bool (true || (IntKind.u64.wrap ((lo : Int) * 2 ^ (64 - n)) != 0))]) = res
 have HR := Lib.hid hres
 clear hres
 go_enter Tryz.func134, Tryz.ntmps134
 go_wp2_with fail
 go_loopw [1] (fun c wr => DnR hi lo e true n w c wr) (fun c _ => (intOf c).toNat)
 case atStart => exact .inl ⟨rfl, rfl⟩
 case round =>
   rcases hrel with ⟨rfl, rfl⟩ | ⟨hn1, hh, rfl, rfl⟩
   · go_wp2_with fail
     go_region
     go_wp2_with fail
     (try simp only [Exit.inBlock, Exit.then]); refine bodyPost_ret (res58 rfl _ _ _ _ _ rfl (heap_alloc2_new _ _ _) rfl) rfl ?_; refine ⟨Eq.trans ?_ HR.out, 1, _, _, rfl⟩
     rfl
   · omega
theorem down_ii_true (hi lo : Nat) (e : Int) (n : Nat) (h64 : 64 ≤ n) (h0 : ((hi : Int) == 0) = true) (hp : 0 < n) (hn : n < 100000) (he : -100000 ≤ e) (he2 : e ≤ 100000) (w : World) :
   Calls Tryz.prog 134 #[wdv hi lo e true, .int .i64 (n : Int)] w fun r w' => r = .returned (.agg #[.int .u64 0, .int .u64 (hi : Int), .int .i64 (e + n), .bool (true || ((lo : Int) != 0))]) ∧ ∃ k o o', w' = ((w.alloc o).alloc o').drewN k := by
 generalize hres : Ending.returned (.agg #[.int .u64 0, .int .u64 (hi : Int), .int .i64 (e + n), .bool (true || ((lo : Int) != 0))]) = res
 have HR := Lib.hid hres
 clear hres
 go_enter Tryz.func134, Tryz.ntmps134
 go_wp2_with fail
 go_loopw [1] (fun c wr => DnR hi lo e true n w c wr) (fun c _ => (intOf c).toNat)
 case atStart => exact .inl ⟨rfl, rfl⟩
 case round =>
   rcases hrel with ⟨rfl, rfl⟩ | ⟨hn1, hh, rfl, rfl⟩
   · go_wp2_with fail
     (try simp only [Exit.inBlock, Exit.then]); refine bodyPost_ret (res58 rfl _ _ _ _ _ rfl (heap_alloc2_new _ _ _) rfl) rfl ?_; refine ⟨Eq.trans ?_ HR.out, 0, _, _, rfl⟩
     rfl
   · exact absurd (int_eq_zero h0) hh
theorem down_iiia_true (hi lo : Nat) (e : Int) (n : Nat) (h64 : 128 ≤ n) (h0 : ((hi : Int) == 0) = false) (hp : 0 < n) (hn : n < 100000) (he : -100000 ≤ e) (he2 : e ≤ 100000) (w : World) :
   Calls Tryz.prog 134 #[wdv hi lo e true, .int .i64 (n : Int)] w fun r w' => r = .returned (.agg #[.int .u64 0, .int .u64 0, .int .i64 (e + n), .bool true]) ∧ ∃ k o o', w' = ((w.alloc o).alloc o').drewN k := by
 generalize hres : Ending.returned (.agg #[.int .u64 0, .int .u64 0, .int .i64 (e + n), .bool true]) = res
 have HR := Lib.hid hres
 clear hres
 go_enter Tryz.func134, Tryz.ntmps134
 go_wp2_with fail
 go_loopw [1] (fun c wr => DnR hi lo e true n w c wr) (fun c _ => (intOf c).toNat)
 case atStart => exact .inl ⟨rfl, rfl⟩
 case round =>
   rcases hrel with ⟨rfl, rfl⟩ | ⟨hn1, hh, rfl, rfl⟩
   · go_wp2_with fail
     exact ⟨.inr ⟨by omega, int_ne_zero h0, congrArg _ (by omega), rfl⟩, by simp only [intOf]; omega⟩
   · have h1 : n - 64 ≤ 100000 := by omega
     have h2 : 64 ≤ n - 64 := by omega
     have h3 : ((hi : Int) != 0) = true := by simpa using hh
     go_wp2_with fail
     (try simp only [Exit.inBlock, Exit.then]); refine bodyPost_ret (res58 rfl _ _ _ _ _ rfl (heap_alloc2_new _ _ _) rfl) rfl ?_; refine ⟨Eq.trans ?_ HR.out, 0, _, _, rfl⟩
     rfl
theorem down_iiib_true (hi lo : Nat) (e : Int) (n : Nat) (h64 : 64 ≤ n) (h65 : n ≤ 64) (h0 : ((hi : Int) == 0) = false) (hp : 0 < n) (hn : n < 100000) (he : -100000 ≤ e) (he2 : e ≤ 100000) (w : World) :
   Calls Tryz.prog 134 #[wdv hi lo e true, .int .i64 (n : Int)] w fun r w' => r = .returned (.agg #[.int .u64 0, .int .u64 (hi : Int), .int .i64 (e + n), .bool (true || (lo : Int) != 0)]) ∧ ∃ k o o', w' = ((w.alloc o).alloc o').drewN k := by
 generalize hres : Ending.returned (.agg #[.int .u64 0, .int .u64 (hi : Int), .int .i64 (e + n), .bool (true || (lo : Int) != 0)]) = res
 have HR := Lib.hid hres
 clear hres
 go_enter Tryz.func134, Tryz.ntmps134
 go_wp2_with fail
 go_loopw [1] (fun c wr => DnR hi lo e true n w c wr) (fun c _ => (intOf c).toNat)
 case atStart => exact .inl ⟨rfl, rfl⟩
 case round =>
   rcases hrel with ⟨rfl, rfl⟩ | ⟨hn1, hh, rfl, rfl⟩
   · go_wp2_with fail
     exact ⟨.inr ⟨by omega, int_ne_zero h0, congrArg _ (by omega), rfl⟩, by simp only [intOf]; omega⟩
   · have h1 : n - 64 ≤ 100000 := by omega
     go_wp2_with fail
     (try simp only [Exit.inBlock, Exit.then]); refine bodyPost_ret (res58 rfl _ _ _ _ _ rfl (heap_alloc2_new _ _ _) rfl) rfl ?_; refine ⟨Eq.trans ?_ HR.out, 0, _, _, rfl⟩
     rfl
theorem down_iiic_true (hi lo : Nat) (e : Int) (n : Nat) (h64 : 64 < n) (h128 : n < 128) (h0 : ((hi : Int) == 0) = false) (hp : 0 < n) (hn : n < 100000) (he : -100000 ≤ e) (he2 : e ≤ 100000) (w : World) :
   Calls Tryz.prog 134 #[wdv hi lo e true, .int .i64 (n : Int)] w fun r w' => r = .returned (.agg #[.int .u64 0, .int .u64 (bits .or .u64 ((hi : Int) / 2 ^ (n - 64)) 0), .int .i64 (e + n), .bool ((true || (lo : Int) != 0) || (IntKind.u64.wrap ((hi : Int) * 2 ^ (64 - (n - 64))) != 0))]) ∧ ∃ k o o', w' = ((w.alloc o).alloc o').drewN k := by
 generalize hres : Ending.returned (.agg #[.int .u64 0, .int .u64 (bits .or .u64 ((hi : Int) / 2 ^ (n - 64)) 0), .int .i64 (e + n), .bool ((true || (lo : Int) != 0) || (IntKind.u64.wrap ((hi : Int) * 2 ^ (64 - (n - 64))) != 0))]) = res
 have HR := Lib.hid hres
 clear hres
 go_enter Tryz.func134, Tryz.ntmps134
 go_wp2_with fail
 go_loopw [1] (fun c wr => DnR hi lo e true n w c wr) (fun c _ => (intOf c).toNat)
 case atStart => exact .inl ⟨rfl, rfl⟩
 case round =>
   rcases hrel with ⟨rfl, rfl⟩ | ⟨hn1, hh, rfl, rfl⟩
   · go_wp2_with fail
     exact ⟨.inr ⟨by omega, int_ne_zero h0, congrArg _ (by omega), rfl⟩, by simp only [intOf]; omega⟩
   · have h1 : n - 64 ≤ 100000 := by omega
     have h2 : n - 64 < 64 := by omega
     have h3 : 0 < n - 64 := by omega
     go_wp2_with fail
     go_region
     go_wp2_with fail
     (try simp only [Exit.inBlock, Exit.then]); refine bodyPost_ret (res58 rfl _ _ _ _ _ rfl (heap_alloc2_new _ _ _) rfl) rfl ?_; refine ⟨Eq.trans ?_ HR.out, 1, _, _, rfl⟩
     rfl
theorem down_any (W : Nat) (e : Int) (more : Bool) (n : Nat) (hW : W < 340282366920938463463374607431768211456) (hp : 0 < n) (hn : n < 100000) (he : -100000 ≤ e) (he2 : e ≤ 100000) (w : World) :
   Calls Tryz.prog 134 #[wdW W e more, .int .i64 (n : Int)] w fun r w' => r = .returned (wdW (W / 2 ^ n) (e + n) (more || W % 2 ^ n != 0)) ∧ ∃ k o o', w' = ((w.alloc o).alloc o').drewN k := by
 obtain ⟨hi, lo, h1, h2, hWe, e1, e2⟩ := words W hW
 unfold wdW
 rw [e1, e2]
 by_cases h64 : n < 64
 · obtain ⟨q1, q2, q3, q4, q5⟩ := right_lo2 (hi := hi) (lo := lo) h1 h2 hp h64
   have H : ∀ (r : Ending) (w' : World), (r = .returned (.agg #[.int .u64 ((hi : Int) / 2 ^ n), .int .u64 (bits .or .u64 ((lo : Int) / 2 ^ n) (IntKind.u64.wrap ((hi : Int) * 2 ^ (64 - n)))), .int .i64 (e + n), .bool (more || (IntKind.u64.wrap ((lo : Int) * 2 ^ (64 - n)) != 0))]) ∧ ∃ k o o', w' = ((w.alloc o).alloc o').drewN k) →
       (r = .returned (wdW (W / 2 ^ n) (e + n) (more || W % 2 ^ n != 0)) ∧ ∃ k o o', w' = ((w.alloc o).alloc o').drewN k) := by
     rintro r w' ⟨rfl, h⟩
     refine ⟨wdW_eq ?_ ?_ rfl ?_, h⟩
     · rw [div_nat, q1, hWe]
     · rw [div_nat, wrap_mul, bits_or_u64_nat _ _ q4 q5, q2, hWe]
     · rw [wrap_mul, bne_zero, q3, hWe]
   cases more
   · exact (down_i_false hi lo e n h64 hp hn he he2 w).mono H
   · exact (down_i_true hi lo e n h64 hp hn he he2 w).mono H
 · by_cases h0 : hi = 0
   · have h0' : ((hi : Int) == 0) = true := by rw [h0]; rfl
     have hWl : W = lo := by omega
     obtain ⟨q1, q2⟩ := dn_lo (n := n) h2 (by omega)
     have H : ∀ (r : Ending) (w' : World), (r = .returned (.agg #[.int .u64 0, .int .u64 (hi : Int), .int .i64 (e + n), .bool (more || ((lo : Int) != 0))]) ∧ ∃ k o o', w' = ((w.alloc o).alloc o').drewN k) →
         (r = .returned (wdW (W / 2 ^ n) (e + n) (more || W % 2 ^ n != 0)) ∧ ∃ k o o', w' = ((w.alloc o).alloc o').drewN k) := by
       rintro r w' ⟨rfl, h⟩
       refine ⟨wdW_eq ?_ ?_ rfl ?_, h⟩
       · rw [hWl, q1, Nat.zero_div]; rfl
       · rw [hWl, q1, Nat.zero_mod, h0]
       · rw [bne_zero, hWl, q2]
     cases more
     · exact (down_ii_false hi lo e n (by omega) h0' hp hn he he2 w).mono H
     · exact (down_ii_true hi lo e n (by omega) h0' hp hn he he2 w).mono H
   · have h0' : ((hi : Int) == 0) = false := by simpa using h0
     by_cases h128 : 128 ≤ n
     · obtain ⟨q1, q2⟩ := big_pow (n := n) hW h128
       have a2 : (W != 0) = true := bne_iff_ne.2 (by omega)
       have H : ∀ (r : Ending) (w' : World), (r = .returned (.agg #[.int .u64 0, .int .u64 0, .int .i64 (e + n), .bool true]) ∧ ∃ k o o', w' = ((w.alloc o).alloc o').drewN k) →
           (r = .returned (wdW (W / 2 ^ n) (e + n) (more || W % 2 ^ n != 0)) ∧ ∃ k o o', w' = ((w.alloc o).alloc o').drewN k) := by
         rintro r w' ⟨rfl, h⟩
         refine ⟨wdW_eq ?_ ?_ rfl ?_, h⟩
         · rw [q1, Nat.zero_div]; rfl
         · rw [q1, Nat.zero_mod]; rfl
         · rw [q2, a2, Bool.or_true]
       cases more
       · exact (down_iiia_false hi lo e n h128 h0' hp hn he he2 w).mono H
       · exact (down_iiia_true hi lo e n h128 h0' hp hn he he2 w).mono H
     · obtain ⟨q1, q2, q3⟩ := right_lo3 (hi := hi) (lo := lo) (n := n) h1 h2 (by omega) (by omega)
       by_cases h65 : n ≤ 64
       · have hn64 : n = 64 := by omega
         have H : ∀ (r : Ending) (w' : World), (r = .returned (.agg #[.int .u64 0, .int .u64 (hi : Int), .int .i64 (e + n), .bool (more || (lo : Int) != 0)]) ∧ ∃ k o o', w' = ((w.alloc o).alloc o').drewN k) →
             (r = .returned (wdW (W / 2 ^ n) (e + n) (more || W % 2 ^ n != 0)) ∧ ∃ k o o', w' = ((w.alloc o).alloc o').drewN k) := by
           rintro r w' ⟨rfl, h⟩
           refine ⟨wdW_eq ?_ ?_ rfl ?_, h⟩
           · rw [hWe, q1]; rfl
           · rw [hWe, ← q2, hn64, Nat.sub_self, Nat.pow_zero, Nat.div_one]
           · rw [hWe, q3, decide_eq_false (by omega : ¬ 64 < n), Bool.and_false, Bool.or_false, bne_zero]
         cases more
         · exact (down_iiib_false hi lo e n (by omega) h65 h0' hp hn he he2 w).mono H
         · exact (down_iiib_true hi lo e n (by omega) h65 h0' hp hn he he2 w).mono H
       · have hb : hi / 2 ^ (n - 64) < 18446744073709551616 := Nat.lt_of_le_of_lt (Nat.div_le_self _ _) h1
         have H : ∀ (r : Ending) (w' : World), (r = .returned (.agg #[.int .u64 0, .int .u64 (bits .or .u64 ((hi : Int) / 2 ^ (n - 64)) 0), .int .i64 (e + n), .bool ((more || (lo : Int) != 0) || (IntKind.u64.wrap ((hi : Int) * 2 ^ (64 - (n - 64))) != 0))]) ∧ ∃ k o o', w' = ((w.alloc o).alloc o').drewN k) →
             (r = .returned (wdW (W / 2 ^ n) (e + n) (more || W % 2 ^ n != 0)) ∧ ∃ k o o', w' = ((w.alloc o).alloc o').drewN k) := by
           rintro r w' ⟨rfl, h⟩
           refine ⟨wdW_eq ?_ ?_ rfl ?_, h⟩
           · rw [hWe, q1]; rfl
           · have := bits_or_u64_nat (hi / 2 ^ (n - 64)) 0 hb (by omega)
             rw [Nat.or_zero] at this
             rw [div_nat]
             refine this.trans ?_
             rw [hWe, q2]
           · rw [hWe, q3, decide_eq_true (by omega : 64 < n), Bool.and_true, wrap_mul, bne_zero, bne_zero, show 64 - (n - 64) = 128 - n by omega, Bool.or_assoc]
         cases more
         · exact (down_iiic_false hi lo e n (by omega) (by omega) h0' hp hn he he2 w).mono H
         · exact (down_iiic_true hi lo e n (by omega) (by omega) h0' hp hn he he2 w).mono H
theorem down_none (hi lo : Nat) (e : Int) (more : Bool) (n : Int) (hn : n ≤ 0) (w : World) :
   Calls Tryz.prog 134 #[wdv hi lo e more, .int .i64 n] w fun r w' => r = .returned (wdv hi lo e more) ∧ ∃ k o o', w' = ((w.alloc o).alloc o').drewN k := by
 go_enter Tryz.func134, Tryz.ntmps134
 go_wp2_with fail
 (try simp only [Exit.inBlock, Exit.then])
 refine bodyPost_ret (res58 rfl _ _ _ _ _ rfl (heap_alloc2_new _ _ _) rfl) rfl ?_
 exact ⟨rfl, 0, _, _, rfl⟩
end Go.Proofs.YtnljfcebmgifdaaGreat
namespace Go.Proofs.YtnljfcebmgifdaaGreat
open Go.RowKit Ieee
namespace Fl
def pwr (e : Int) : Nat := if -1022 ≤ e then (e + 1023).toNat * 4503599627370496 else 2 ^ (e + 1074).toNat
theorem pwr_rv (e : Int) (he : -1074 ≤ e) : rv (pwr e) = 2 ^ (e + 1074).toNat := by
 unfold pwr
 by_cases h : -1022 ≤ e
 · rw [if_pos h]
   obtain ⟨q, hq⟩ : ∃ q : Nat, e = (q : Int) - 1022 := ⟨(e + 1022).toNat, by omega⟩
   have h1 := rv_of q 4503599627370496 (by omega) (.inr (Nat.le_refl _))
   rw [show (e + 1023).toNat * 4503599627370496 = q * 4503599627370496 + 4503599627370496 by omega, h1, show (e + 1074).toNat = 52 + q by omega, Nat.pow_add]
 · rw [if_neg h]
   unfold rv
   have hp : 2 ^ (e + 1074).toNat < 2 ^ 52 := Nat.pow_lt_pow_right (by decide) (by omega)
   have h3 : (2 : Nat) ^ 52 = 4503599627370496 := by decide
   rw [h3] at hp
   rw [if_pos hp]
theorem pwr_lt (e : Int) (he2 : e ≤ 1023) : pwr e < INF := by
 unfold pwr INF
 by_cases h : -1022 ≤ e
 · rw [if_pos h]; omega
 · rw [if_neg h]
   have hp : 2 ^ (e + 1074).toNat < 2 ^ 52 := Nat.pow_lt_pow_right (by decide) (by omega)
   have h3 : (2 : Nat) ^ 52 = 4503599627370496 := by decide
   omega
theorem lost_small (m : Nat) (e : Int) (h0 : m ≠ 0) (hm : m ≤ 9007199254740992) (he : 0 ≤ e) : lost m e = false := by
 unfold lost
 by_cases h : len m ≤ 53
 · unfold drop
   rw [show (max ((len m : Int) - 53) (-e)).toNat = 0 by omega, Nat.pow_zero, Nat.mod_one]; rfl
 · have hm' : m = 9007199254740992 := by
     apply Nat.le_antisymm hm
     apply Nat.le_of_not_lt
     intro hh
     have : len m ≤ 53 := len_le_of_lt (by rw [show (2 : Nat) ^ 53 = 9007199254740992 by decide]; exact hh)
     omega
   have h54 : len m ≤ 54 := len_le_of_lt (by rw [show (2 : Nat) ^ 54 = 18014398509481984 by decide]; omega)
   unfold drop
   rw [show (max ((len m : Int) - 53) (-e)).toNat = 1 by omega, hm']
   decide
theorem rv_rung_small (m : Nat) (e : Int) (h0 : m ≠ 0) (hm : m ≤ 9007199254740992) (he : 0 ≤ e) : rv (rung m e) = m * 2 ^ e.toNat := by
 have := rung_same m e h0 (lost_small m e h0 hm he)
 rw [show (-e).toNat = 0 by omega, Nat.pow_zero, Nat.mul_one] at this
 exact this
theorem rung_top (m : Nat) (e : Int) (h0 : m ≠ 0) (htop : (len m : Int) - 1 + e ≤ 1023) (he : -1074 ≤ e) : rung m (e + 1074) < INF := by
 have hk := kept_lt m (e + 1074)
 by_cases h : place m (e + 1074) ≤ 2045
 · unfold rung INF; omega
 · exfalso
   unfold place drop at h
   omega
end Fl
theorem mul_ldz (m : Nat) (e : Int) (h0 : m ≠ 0) (hm : m ≤ 9007199254740992) (he : -1074 ≤ e) (he2 : e ≤ 1023) (htop : (Fl.len m : Int) - 1 + e ≤ 1023) :
   floatBits .mul .f64 (floatOfInt .f64 (m : Int)) (Fl.pwr e) = some (ldz m e) := by
 rw [ofInt_small m h0 hm]
 have hl := Fl.rung_top m e h0 htop he
 have e1 : ldz m e = Fl.rung m (e + 1074) := by
   unfold ldz Fl.ld
   rw [if_neg h0]
   exact Nat.min_eq_left (Nat.le_of_lt hl)
 rw [e1]
 refine pos_mul _ _ _ (Fl.flt_le m h0 hm) (Fl.pwr_lt e he2) (Nat.le_of_lt hl) ?_
 obtain ⟨L, f, h1, h2, h3, h4, h5, h6, h7, h8⟩ := Fl.flt_form m h0 hm
 rw [h7, Fl.pwr_rv e he, Fl.rv_rung_small m _ h0 hm (by omega), Nat.mul_right_comm]
theorem power_any (e : Int) (he : -1074 ≤ e) (he2 : e ≤ 1023) (w : World) :
   Calls Tryz.prog 149 #[.int .i64 e] w fun r w' => r = .returned (.float .f64 (Fl.pwr e)) ∧ w = w' := by
 have HP : Hid ((-1022 ≤ e → Fl.pwr e = ((e + 1023) * 4503599627370496).toNat) ∧ (e < -1022 → Fl.pwr e = (IntKind.u64.wrap (2 ^ (e + 1074).toNat)).toNat)) := by
   refine Lib.hid ⟨fun h => ?_, fun h => ?_⟩
   · unfold Fl.pwr
     rw [if_pos h]; omega
   · unfold Fl.pwr
     have hp : 2 ^ (e + 1074).toNat < 2 ^ 52 := Nat.pow_lt_pow_right (by decide) (by omega)
     have h3 : (2 : Nat) ^ 52 = 4503599627370496 := by decide
     have h4 : ((2 : Int) ^ (e + 1074).toNat) = ((2 ^ (e + 1074).toNat : Nat) : Int) := by simp
     rw [if_neg (by omega), IntKind.wrap_u64, h4]
     generalize 2 ^ (e + 1074).toNat = x at *
     omega
 generalize Fl.pwr e = p at *
 by_cases h : -1022 ≤ e
 · go_enter Tryz.func149, Tryz.ntmps149
   go_wp2_with fail
   go_ret
   exact ⟨ret_float (HP.out.1 h).symm, rfl⟩
 · go_enter Tryz.func149, Tryz.ntmps149
   go_wp2_with fail
   go_ret
   exact ⟨ret_float (HP.out.2 (by omega)).symm, rfl⟩
theorem rmost_any (w : World) : Calls Tryz.prog 148 #[] w fun r w' => r = .returned (.float .f64 9218868437227405311) ∧ w = w' := by
 go_enter Tryz.func148, Tryz.ntmps148
 go_wp2_with fail
 go_ret
 exact ⟨rfl, rfl⟩
end Go.Proofs.YtnljfcebmgifdaaGreat
set_option linter.unusedVariables false
set_option linter.unusedSimpArgs false
namespace Go.Proofs.YtnljfcebmgifdaaGreat
open Go.RowKit Ieee
theorem near_f_Z (hi lo : Nat) (e : Int) (more : Bool) (grow : Bool) (he : -100000 ≤ e) (he2 : e ≤ 100000) (L0 : Nat) (hL0 : L0 ≤ 128) (HL0 : ∀ w, Calls Tryz.prog 127 #[wdv hi lo e more] w fun r w' => r = .returned (.int .i64 (L0 : Int)) ∧ ∃ o, w' = w.alloc o)
   (m0 : Nat) (hm0 : m0 < 9007199254740992) (e' : Int) (he' : -1074 ≤ e') (he'2 : e' ≤ 100000) (HD : ∀ (x : Int), ((L0 : Int) - 53 ≤ x ∧ -1074 - e ≤ x ∧ (x = (L0 : Int) - 53 ∨ x = -1074 - e)) → ∀ w, Calls Tryz.prog 134 #[wdv hi lo e more, .int .i64 x] w fun r w' => r = .returned (wdv 0 m0 e' false) ∧ ∃ k o o', w' = ((w.alloc o).alloc o').drewN k)
   (hz : ((m0 : Int) == 0) = true) (w : World) :
   Calls Tryz.prog 142 #[wdv hi lo e more, .bool grow] w fun r w' => r = .returned (.float .f64 0) ∧ Below w.heap.size w w' := by
 have HL0 := Lib.hid HL0
 have HD := Lib.hid HD
 go_enter Tryz.func142, Tryz.ntmps142
 go_wp2_with fail
 refine (HL0.out _).mono ?_
 rintro r w' ⟨rfl, o1, rfl⟩
 go_wp2_with fail
 all_goals
   refine (HD.out _ (by omega) _).mono ?_
   rintro r w' ⟨rfl, k, o2, o3, rfl⟩
   go_wp2_with fail
   go_ret
   exact ⟨rfl, below_drewN (below_more (below_more (below_more (below_new _ _) _) _) _) _⟩
theorem near_tf_Z (hi lo : Nat) (e : Int) (more : Bool) (he : -100000 ≤ e) (he2 : e ≤ 100000) (L0 : Nat) (hL0 : L0 ≤ 128) (HL0 : ∀ w, Calls Tryz.prog 127 #[wdv hi lo e more] w fun r w' => r = .returned (.int .i64 (L0 : Int)) ∧ ∃ o, w' = w.alloc o)
   (m0 : Nat) (hm0 : m0 < 9007199254740992) (e' : Int) (he' : -1074 ≤ e') (he'2 : e' ≤ 100000) (HD : ∀ (x : Int), ((L0 : Int) - 53 ≤ x ∧ -1074 - e ≤ x ∧ (x = (L0 : Int) - 53 ∨ x = -1074 - e)) → ∀ w, Calls Tryz.prog 134 #[wdv hi lo e more, .int .i64 x] w fun r w' => r = .returned (wdv 0 m0 e' true) ∧ ∃ k o o', w' = ((w.alloc o).alloc o').drewN k)
   (hz : ((m0 : Int) == 0) = true) (w : World) :
   Calls Tryz.prog 142 #[wdv hi lo e more, .bool false] w fun r w' => r = .returned (.float .f64 0) ∧ Below w.heap.size w w' := by
 have HL0 := Lib.hid HL0
 have HD := Lib.hid HD
 go_enter Tryz.func142, Tryz.ntmps142
 go_wp2_with fail
 refine (HL0.out _).mono ?_
 rintro r w' ⟨rfl, o1, rfl⟩
 go_wp2_with fail
 all_goals
   refine (HD.out _ (by omega) _).mono ?_
   rintro r w' ⟨rfl, k, o2, o3, rfl⟩
   go_wp2_with fail
   go_ret
   exact ⟨rfl, below_drewN (below_more (below_more (below_more (below_new _ _) _) _) _) _⟩
theorem near_f_F (hi lo : Nat) (e : Int) (more : Bool) (grow : Bool) (he : -100000 ≤ e) (he2 : e ≤ 100000) (L0 : Nat) (hL0 : L0 ≤ 128) (HL0 : ∀ w, Calls Tryz.prog 127 #[wdv hi lo e more] w fun r w' => r = .returned (.int .i64 (L0 : Int)) ∧ ∃ o, w' = w.alloc o)
   (m0 : Nat) (hm0 : m0 < 9007199254740992) (e' : Int) (he' : -1074 ≤ e') (he'2 : e' ≤ 100000) (HD : ∀ (x : Int), ((L0 : Int) - 53 ≤ x ∧ -1074 - e ≤ x ∧ (x = (L0 : Int) - 53 ∨ x = -1074 - e)) → ∀ w, Calls Tryz.prog 134 #[wdv hi lo e more, .int .i64 x] w fun r w' => r = .returned (wdv 0 m0 e' false) ∧ ∃ k o o', w' = ((w.alloc o).alloc o').drewN k)
   (hz : ((m0 : Int) == 0) = false) (L1 : Nat) (hL1 : L1 ≤ 128) (HL1 : ∀ w, Calls Tryz.prog 127 #[.agg #[.int .u64 0, .int .u64 (m0 : Int), .int .i64 0, .bool false]] w fun r w' => r = .returned (.int .i64 (L1 : Int)) ∧ ∃ o, w' = w.alloc o) (ht : (L1 : Int) - 1 + e' ≤ 1023) (he971 : e' ≤ 971) (p x : Nat) (HP : ∀ w, Calls Tryz.prog 149 #[.int .i64 e'] w fun r w' => r = .returned (.float .f64 p) ∧ w = w') (hm : floatBits .mul .f64 (floatOfInt .f64 (m0 : Int)) p = some x) (w : World) :
   Calls Tryz.prog 142 #[wdv hi lo e more, .bool grow] w fun r w' => r = .returned (.float .f64 x) ∧ Below w.heap.size w w' := by
 have HL0 := Lib.hid HL0
 have HD := Lib.hid HD
 have HL1 := Lib.hid HL1
 have hr := fun (t : TypeId) (w : World) => run_float_arith (P := Tryz.prog) w .mul t .f64 _ _ _ hm
 clear hm
 have HP := Lib.hid HP
 go_enter Tryz.func142, Tryz.ntmps142
 go_wp2_with fail
 refine (HL0.out _).mono ?_
 rintro r w' ⟨rfl, o1, rfl⟩
 go_wp2_with fail
 all_goals
   refine (HD.out _ (by omega) _).mono ?_
   rintro r w' ⟨rfl, k, o2, o3, rfl⟩
   go_wp2_with fail
   go_cut [7] (fun c wc => c = .int .i64 ((L1 : Int) - 1 + e') ∧ ∃ o4 k, wc = (((((w.alloc (wdo 0 m0 e' false)).alloc o1).alloc o2).alloc o3).alloc o4).drewN k)
   case first =>
     go_region_with (go_at_call 127; refine (HL1.out _).mono ?_; rintro r w' ⟨rfl, o, rfl⟩)
     all_goals (go_wp2_with fail; go_meet; refine ⟨congrArg _ ?_, _, _, rfl⟩; simp only [IntKind.wrap_i64]; omega)
   case rest =>
     obtain ⟨rfl, o4, k4, rfl⟩ := hcut
     go_wp2_with fail
     refine (HP.out _).mono ?_
     rintro r w' ⟨rfl, rfl⟩
     go_wp2_with fail
     go_ret
     exact ⟨rfl, below_drewN (below_more (below_more (below_more (below_more (below_new _ _) _) _) _) _) _⟩
end Go.Proofs.YtnljfcebmgifdaaGreat
namespace Go.Proofs.YtnljfcebmgifdaaGreat
open Go.RowKit Ieee
theorem near_tf_F (hi lo : Nat) (e : Int) (more : Bool) (he : -100000 ≤ e) (he2 : e ≤ 100000) (L0 : Nat) (hL0 : L0 ≤ 128) (HL0 : ∀ w, Calls Tryz.prog 127 #[wdv hi lo e more] w fun r w' => r = .returned (.int .i64 (L0 : Int)) ∧ ∃ o, w' = w.alloc o)
   (m0 : Nat) (hm0 : m0 < 9007199254740992) (e' : Int) (he' : -1074 ≤ e') (he'2 : e' ≤ 100000) (HD : ∀ (x : Int), ((L0 : Int) - 53 ≤ x ∧ -1074 - e ≤ x ∧ (x = (L0 : Int) - 53 ∨ x = -1074 - e)) → ∀ w, Calls Tryz.prog 134 #[wdv hi lo e more, .int .i64 x] w fun r w' => r = .returned (wdv 0 m0 e' true) ∧ ∃ k o o', w' = ((w.alloc o).alloc o').drewN k)
   (hz : ((m0 : Int) == 0) = false) (L1 : Nat) (hL1 : L1 ≤ 128) (HL1 : ∀ w, Calls Tryz.prog 127 #[.agg #[.int .u64 0, .int .u64 (m0 : Int), .int .i64 0, .bool false]] w fun r w' => r = .returned (.int .i64 (L1 : Int)) ∧ ∃ o, w' = w.alloc o) (ht : (L1 : Int) - 1 + e' ≤ 1023) (he971 : e' ≤ 971) (p x : Nat) (HP : ∀ w, Calls Tryz.prog 149 #[.int .i64 e'] w fun r w' => r = .returned (.float .f64 p) ∧ w = w') (hm : floatBits .mul .f64 (floatOfInt .f64 (m0 : Int)) p = some x) (w : World) :
   Calls Tryz.prog 142 #[wdv hi lo e more, .bool false] w fun r w' => r = .returned (.float .f64 x) ∧ Below w.heap.size w w' := by
 have HL0 := Lib.hid HL0
 have HD := Lib.hid HD
 have HL1 := Lib.hid HL1
 have hr := fun (t : TypeId) (w : World) => run_float_arith (P := Tryz.prog) w .mul t .f64 _ _ _ hm
 clear hm
 have HP := Lib.hid HP
 go_enter Tryz.func142, Tryz.ntmps142
 go_wp2_with fail
 refine (HL0.out _).mono ?_
 rintro r w' ⟨rfl, o1, rfl⟩
 go_wp2_with fail
 all_goals
   refine (HD.out _ (by omega) _).mono ?_
   rintro r w' ⟨rfl, k, o2, o3, rfl⟩
   go_wp2_with fail
   go_cut [7] (fun c wc => c = .int .i64 ((L1 : Int) - 1 + e') ∧ ∃ o4 k, wc = (((((w.alloc (wdo 0 m0 e' true)).alloc o1).alloc o2).alloc o3).alloc o4).drewN k)
   case first =>
     go_region_with (go_at_call 127; refine (HL1.out _).mono ?_; rintro r w' ⟨rfl, o, rfl⟩)
     all_goals (go_wp2_with fail; go_meet; refine ⟨congrArg _ ?_, _, _, rfl⟩; simp only [IntKind.wrap_i64]; omega)
   case rest =>
     obtain ⟨rfl, o4, k4, rfl⟩ := hcut
     go_wp2_with fail
     refine (HP.out _).mono ?_
     rintro r w' ⟨rfl, rfl⟩
     go_wp2_with fail
     go_ret
     exact ⟨rfl, below_drewN (below_more (below_more (below_more (below_more (below_new _ _) _) _) _) _) _⟩
theorem near_tt_F (hi lo : Nat) (e : Int) (more : Bool) (he : -100000 ≤ e) (he2 : e ≤ 100000) (L0 : Nat) (hL0 : L0 ≤ 128) (HL0 : ∀ w, Calls Tryz.prog 127 #[wdv hi lo e more] w fun r w' => r = .returned (.int .i64 (L0 : Int)) ∧ ∃ o, w' = w.alloc o)
   (m0 : Nat) (hm0 : m0 < 9007199254740992) (e' : Int) (he' : -1074 ≤ e') (he'2 : e' ≤ 100000) (HD : ∀ (x : Int), ((L0 : Int) - 53 ≤ x ∧ -1074 - e ≤ x ∧ (x = (L0 : Int) - 53 ∨ x = -1074 - e)) → ∀ w, Calls Tryz.prog 134 #[wdv hi lo e more, .int .i64 x] w fun r w' => r = .returned (wdv 0 m0 e' true) ∧ ∃ k o o', w' = ((w.alloc o).alloc o').drewN k)
   (hz : (((m0 : Int) + 1) == 0) = false) (L1 : Nat) (hL1 : L1 ≤ 128) (HL1 : ∀ w, Calls Tryz.prog 127 #[.agg #[.int .u64 0, .int .u64 ((m0 : Int) + 1), .int .i64 0, .bool false]] w fun r w' => r = .returned (.int .i64 (L1 : Int)) ∧ ∃ o, w' = w.alloc o) (ht : (L1 : Int) - 1 + e' ≤ 1023) (he971 : e' ≤ 971) (p x : Nat) (HP : ∀ w, Calls Tryz.prog 149 #[.int .i64 e'] w fun r w' => r = .returned (.float .f64 p) ∧ w = w') (hm : floatBits .mul .f64 (floatOfInt .f64 ((m0 : Int) + 1)) p = some x) (w : World) :
   Calls Tryz.prog 142 #[wdv hi lo e more, .bool true] w fun r w' => r = .returned (.float .f64 x) ∧ Below w.heap.size w w' := by
 have HL0 := Lib.hid HL0
 have HD := Lib.hid HD
 have HL1 := Lib.hid HL1
 have hr := fun (t : TypeId) (w : World) => run_float_arith (P := Tryz.prog) w .mul t .f64 _ _ _ hm
 clear hm
 have HP := Lib.hid HP
 go_enter Tryz.func142, Tryz.ntmps142
 go_wp2_with fail
 refine (HL0.out _).mono ?_
 rintro r w' ⟨rfl, o1, rfl⟩
 go_wp2_with fail
 all_goals
   refine (HD.out _ (by omega) _).mono ?_
   rintro r w' ⟨rfl, k, o2, o3, rfl⟩
   go_wp2_with fail
   go_cut [7] (fun c wc => c = .int .i64 ((L1 : Int) - 1 + e') ∧ ∃ o4 k, wc = (((((w.alloc (wdo 0 m0 e' true)).alloc o1).alloc o2).alloc o3).alloc o4).drewN k)
   case first =>
     go_region_with (go_at_call 127; refine (HL1.out _).mono ?_; rintro r w' ⟨rfl, o, rfl⟩)
     all_goals (go_wp2_with fail; go_meet; refine ⟨congrArg _ ?_, _, _, rfl⟩; simp only [IntKind.wrap_i64]; omega)
   case rest =>
     obtain ⟨rfl, o4, k4, rfl⟩ := hcut
     go_wp2_with fail
     refine (HP.out _).mono ?_
     rintro r w' ⟨rfl, rfl⟩
     go_wp2_with fail
     go_ret
     exact ⟨rfl, below_drewN (below_more (below_more (below_more (below_more (below_new _ _) _) _) _) _) _⟩
end Go.Proofs.YtnljfcebmgifdaaGreat
set_option linter.unusedVariables false
set_option linter.unusedSimpArgs false
namespace Go.Proofs.YtnljfcebmgifdaaGreat
open Go.RowKit Ieee
theorem near_f_IG (hi lo : Nat) (e : Int) (more : Bool) (he : -100000 ≤ e) (he2 : e ≤ 100000) (L0 : Nat) (hL0 : L0 ≤ 128) (HL0 : ∀ w, Calls Tryz.prog 127 #[wdv hi lo e more] w fun r w' => r = .returned (.int .i64 (L0 : Int)) ∧ ∃ o, w' = w.alloc o)
   (m0 : Nat) (hm0 : m0 < 9007199254740992) (e' : Int) (he' : -1074 ≤ e') (he'2 : e' ≤ 100000) (HD : ∀ (x : Int), ((L0 : Int) - 53 ≤ x ∧ -1074 - e ≤ x ∧ (x = (L0 : Int) - 53 ∨ x = -1074 - e)) → ∀ w, Calls Tryz.prog 134 #[wdv hi lo e more, .int .i64 x] w fun r w' => r = .returned (wdv 0 m0 e' false) ∧ ∃ k o o', w' = ((w.alloc o).alloc o').drewN k)
   (hz : ((m0 : Int) == 0) = false) (L1 : Nat) (hL1 : L1 ≤ 128) (HL1 : ∀ w, Calls Tryz.prog 127 #[.agg #[.int .u64 0, .int .u64 (m0 : Int), .int .i64 0, .bool false]] w fun r w' => r = .returned (.int .i64 (L1 : Int)) ∧ ∃ o, w' = w.alloc o) (ht : 1023 < (L1 : Int) - 1 + e') (w : World) :
   Calls Tryz.prog 142 #[wdv hi lo e more, .bool true] w fun r w' => r = .returned (.float .f64 9218868437227405312) ∧ Below w.heap.size w w' := by
 have HL0 := Lib.hid HL0
 have HD := Lib.hid HD
 have HL1 := Lib.hid HL1
 go_enter Tryz.func142, Tryz.ntmps142
 go_wp2_with fail
 refine (HL0.out _).mono ?_
 rintro r w' ⟨rfl, o1, rfl⟩
 go_wp2_with fail
 all_goals
   refine (HD.out _ (by omega) _).mono ?_
   rintro r w' ⟨rfl, k, o2, o3, rfl⟩
   go_wp2_with fail
   go_cut [7] (fun c wc => c = .int .i64 ((L1 : Int) - 1 + e') ∧ ∃ o4 k, wc = (((((w.alloc (wdo 0 m0 e' false)).alloc o1).alloc o2).alloc o3).alloc o4).drewN k)
   case first =>
     go_region_with (go_at_call 127; refine (HL1.out _).mono ?_; rintro r w' ⟨rfl, o, rfl⟩)
     all_goals (go_wp2_with fail; go_meet; refine ⟨congrArg _ ?_, _, _, rfl⟩; simp only [IntKind.wrap_i64]; omega)
   case rest =>
     obtain ⟨rfl, o4, k4, rfl⟩ := hcut
     go_wp2_with fail
     refine (rinf_any _).mono ?_
     rintro r w' ⟨rfl, rfl⟩
     go_wp2_with fail
     go_ret
     exact ⟨rfl, below_drewN (below_more (below_more (below_more (below_more (below_new _ _) _) _) _) _) _⟩
theorem near_f_IM (hi lo : Nat) (e : Int) (more : Bool) (he : -100000 ≤ e) (he2 : e ≤ 100000) (L0 : Nat) (hL0 : L0 ≤ 128) (HL0 : ∀ w, Calls Tryz.prog 127 #[wdv hi lo e more] w fun r w' => r = .returned (.int .i64 (L0 : Int)) ∧ ∃ o, w' = w.alloc o)
   (m0 : Nat) (hm0 : m0 < 9007199254740992) (e' : Int) (he' : -1074 ≤ e') (he'2 : e' ≤ 100000) (HD : ∀ (x : Int), ((L0 : Int) - 53 ≤ x ∧ -1074 - e ≤ x ∧ (x = (L0 : Int) - 53 ∨ x = -1074 - e)) → ∀ w, Calls Tryz.prog 134 #[wdv hi lo e more, .int .i64 x] w fun r w' => r = .returned (wdv 0 m0 e' false) ∧ ∃ k o o', w' = ((w.alloc o).alloc o').drewN k)
   (hz : ((m0 : Int) == 0) = false) (L1 : Nat) (hL1 : L1 ≤ 128) (HL1 : ∀ w, Calls Tryz.prog 127 #[.agg #[.int .u64 0, .int .u64 (m0 : Int), .int .i64 0, .bool false]] w fun r w' => r = .returned (.int .i64 (L1 : Int)) ∧ ∃ o, w' = w.alloc o) (ht : 1023 < (L1 : Int) - 1 + e') (w : World) :
   Calls Tryz.prog 142 #[wdv hi lo e more, .bool false] w fun r w' => r = .returned (.float .f64 9218868437227405311) ∧ Below w.heap.size w w' := by
 have HL0 := Lib.hid HL0
 have HD := Lib.hid HD
 have HL1 := Lib.hid HL1
 go_enter Tryz.func142, Tryz.ntmps142
 go_wp2_with fail
 refine (HL0.out _).mono ?_
 rintro r w' ⟨rfl, o1, rfl⟩
 go_wp2_with fail
 all_goals
   refine (HD.out _ (by omega) _).mono ?_
   rintro r w' ⟨rfl, k, o2, o3, rfl⟩
   go_wp2_with fail
   go_cut [7] (fun c wc => c = .int .i64 ((L1 : Int) - 1 + e') ∧ ∃ o4 k, wc = (((((w.alloc (wdo 0 m0 e' false)).alloc o1).alloc o2).alloc o3).alloc o4).drewN k)
   case first =>
     go_region_with (go_at_call 127; refine (HL1.out _).mono ?_; rintro r w' ⟨rfl, o, rfl⟩)
     all_goals (go_wp2_with fail; go_meet; refine ⟨congrArg _ ?_, _, _, rfl⟩; simp only [IntKind.wrap_i64]; omega)
   case rest =>
     obtain ⟨rfl, o4, k4, rfl⟩ := hcut
     go_wp2_with fail
     refine (rmost_any _).mono ?_
     rintro r w' ⟨rfl, rfl⟩
     go_wp2_with fail
     go_ret
     exact ⟨rfl, below_drewN (below_more (below_more (below_more (below_more (below_new _ _) _) _) _) _) _⟩
end Go.Proofs.YtnljfcebmgifdaaGreat
namespace Go.Proofs.YtnljfcebmgifdaaGreat
open Go.RowKit Ieee
theorem near_tf_IM (hi lo : Nat) (e : Int) (more : Bool) (he : -100000 ≤ e) (he2 : e ≤ 100000) (L0 : Nat) (hL0 : L0 ≤ 128) (HL0 : ∀ w, Calls Tryz.prog 127 #[wdv hi lo e more] w fun r w' => r = .returned (.int .i64 (L0 : Int)) ∧ ∃ o, w' = w.alloc o)
   (m0 : Nat) (hm0 : m0 < 9007199254740992) (e' : Int) (he' : -1074 ≤ e') (he'2 : e' ≤ 100000) (HD : ∀ (x : Int), ((L0 : Int) - 53 ≤ x ∧ -1074 - e ≤ x ∧ (x = (L0 : Int) - 53 ∨ x = -1074 - e)) → ∀ w, Calls Tryz.prog 134 #[wdv hi lo e more, .int .i64 x] w fun r w' => r = .returned (wdv 0 m0 e' true) ∧ ∃ k o o', w' = ((w.alloc o).alloc o').drewN k)
   (hz : ((m0 : Int) == 0) = false) (L1 : Nat) (hL1 : L1 ≤ 128) (HL1 : ∀ w, Calls Tryz.prog 127 #[.agg #[.int .u64 0, .int .u64 (m0 : Int), .int .i64 0, .bool false]] w fun r w' => r = .returned (.int .i64 (L1 : Int)) ∧ ∃ o, w' = w.alloc o) (ht : 1023 < (L1 : Int) - 1 + e') (w : World) :
   Calls Tryz.prog 142 #[wdv hi lo e more, .bool false] w fun r w' => r = .returned (.float .f64 9218868437227405311) ∧ Below w.heap.size w w' := by
 have HL0 := Lib.hid HL0
 have HD := Lib.hid HD
 have HL1 := Lib.hid HL1
 go_enter Tryz.func142, Tryz.ntmps142
 go_wp2_with fail
 refine (HL0.out _).mono ?_
 rintro r w' ⟨rfl, o1, rfl⟩
 go_wp2_with fail
 all_goals
   refine (HD.out _ (by omega) _).mono ?_
   rintro r w' ⟨rfl, k, o2, o3, rfl⟩
   go_wp2_with fail
   go_cut [7] (fun c wc => c = .int .i64 ((L1 : Int) - 1 + e') ∧ ∃ o4 k, wc = (((((w.alloc (wdo 0 m0 e' true)).alloc o1).alloc o2).alloc o3).alloc o4).drewN k)
   case first =>
     go_region_with (go_at_call 127; refine (HL1.out _).mono ?_; rintro r w' ⟨rfl, o, rfl⟩)
     all_goals (go_wp2_with fail; go_meet; refine ⟨congrArg _ ?_, _, _, rfl⟩; simp only [IntKind.wrap_i64]; omega)
   case rest =>
     obtain ⟨rfl, o4, k4, rfl⟩ := hcut
     go_wp2_with fail
     refine (rmost_any _).mono ?_
     rintro r w' ⟨rfl, rfl⟩
     go_wp2_with fail
     go_ret
     exact ⟨rfl, below_drewN (below_more (below_more (below_more (below_more (below_new _ _) _) _) _) _) _⟩
theorem near_tt_IG (hi lo : Nat) (e : Int) (more : Bool) (he : -100000 ≤ e) (he2 : e ≤ 100000) (L0 : Nat) (hL0 : L0 ≤ 128) (HL0 : ∀ w, Calls Tryz.prog 127 #[wdv hi lo e more] w fun r w' => r = .returned (.int .i64 (L0 : Int)) ∧ ∃ o, w' = w.alloc o)
   (m0 : Nat) (hm0 : m0 < 9007199254740992) (e' : Int) (he' : -1074 ≤ e') (he'2 : e' ≤ 100000) (HD : ∀ (x : Int), ((L0 : Int) - 53 ≤ x ∧ -1074 - e ≤ x ∧ (x = (L0 : Int) - 53 ∨ x = -1074 - e)) → ∀ w, Calls Tryz.prog 134 #[wdv hi lo e more, .int .i64 x] w fun r w' => r = .returned (wdv 0 m0 e' true) ∧ ∃ k o o', w' = ((w.alloc o).alloc o').drewN k)
   (hz : (((m0 : Int) + 1) == 0) = false) (L1 : Nat) (hL1 : L1 ≤ 128) (HL1 : ∀ w, Calls Tryz.prog 127 #[.agg #[.int .u64 0, .int .u64 ((m0 : Int) + 1), .int .i64 0, .bool false]] w fun r w' => r = .returned (.int .i64 (L1 : Int)) ∧ ∃ o, w' = w.alloc o) (ht : 1023 < (L1 : Int) - 1 + e') (w : World) :
   Calls Tryz.prog 142 #[wdv hi lo e more, .bool true] w fun r w' => r = .returned (.float .f64 9218868437227405312) ∧ Below w.heap.size w w' := by
 have HL0 := Lib.hid HL0
 have HD := Lib.hid HD
 have HL1 := Lib.hid HL1
 go_enter Tryz.func142, Tryz.ntmps142
 go_wp2_with fail
 refine (HL0.out _).mono ?_
 rintro r w' ⟨rfl, o1, rfl⟩
 go_wp2_with fail
 all_goals
   refine (HD.out _ (by omega) _).mono ?_
   rintro r w' ⟨rfl, k, o2, o3, rfl⟩
   go_wp2_with fail
   go_cut [7] (fun c wc => c = .int .i64 ((L1 : Int) - 1 + e') ∧ ∃ o4 k, wc = (((((w.alloc (wdo 0 m0 e' true)).alloc o1).alloc o2).alloc o3).alloc o4).drewN k)
   case first =>
     go_region_with (go_at_call 127; refine (HL1.out _).mono ?_; rintro r w' ⟨rfl, o, rfl⟩)
     all_goals (go_wp2_with fail; go_meet; refine ⟨congrArg _ ?_, _, _, rfl⟩; simp only [IntKind.wrap_i64]; omega)
   case rest =>
     obtain ⟨rfl, o4, k4, rfl⟩ := hcut
     go_wp2_with fail
     refine (rinf_any _).mono ?_
     rintro r w' ⟨rfl, rfl⟩
     go_wp2_with fail
     go_ret
     exact ⟨rfl, below_drewN (below_more (below_more (below_more (below_more (below_new _ _) _) _) _) _) _⟩
end Go.Proofs.YtnljfcebmgifdaaGreat
set_option linter.unusedVariables false
set_option linter.unusedSimpArgs false
namespace Go.Proofs.YtnljfcebmgifdaaGreat
open Go.RowKit Ieee
namespace Fl
theorem near_raw (grow : Bool) (W : Nat) (e : Int) (more : Bool) (n : Int) (m0 : Nat) (e' : Int) (more0 : Bool) (h0 : W ≠ 0) (hn : drop W (e + 1074) = n)
   (h : (n ≤ 0 ∧ m0 = W ∧ e' = e ∧ more0 = more ∧ (more = true → n = 0)) ∨ (0 < n ∧ m0 = W / 2 ^ n.toNat ∧ e' = e + n ∧ more0 = (more || W % 2 ^ n.toNat != 0))) (x : Nat) (hx : x = if (more0 && grow) = true then ldz (m0 + 1) e' else ldz m0 e') :
   (if x = INF ∧ grow = false then 9218868437227405311 else x) = near grow W e more := by
 have key : (if (more0 && grow) = true then ldz (m0 + 1) e' else ldz m0 e') = if grow then min (rung W (e + 1074) + (lost W (e + 1074) || more).toNat) INF else min (rung W (e + 1074)) INF := by
   by_cases hneg : n < 0
   · rcases h with ⟨_, h1, h2, h3, hm⟩ | ⟨h1, _⟩
     · have hmore : more = false := by
         cases more with
         | false => rfl
         | true => have := hm rfl; omega
       rw [h1, h2, h3, hmore]
       exact key_neg grow W e n h0 hn hneg
     · omega
   · obtain ⟨k, hk⟩ : ∃ k : Nat, n = k := ⟨n.toNat, by omega⟩
     rw [hk] at hn
     have hh : m0 = W / 2 ^ k ∧ e' = e + k ∧ more0 = (more || W % 2 ^ k != 0) := by
       rcases h with ⟨h1, h2, h3, h4, _⟩ | ⟨_, h2, h3, h4⟩
       · have hk0 : k = 0 := by omega
         rw [hk0]
         refine ⟨by rw [Nat.pow_zero, Nat.div_one]; exact h2, by omega, ?_⟩
         rw [Nat.pow_zero, Nat.mod_one, h4]; simp
       · rw [hk, Int.toNat_natCast] at h2 h4
         exact ⟨h2, by omega, h4⟩
     rw [hh.1, hh.2.1, hh.2.2]
     exact key_pos grow W e more k h0 hn
 unfold near
 rw [if_neg h0, hx]
 exact near_end _ INF 9218868437227405311 inf_eq grow _ _ key
end Fl
theorem down_or (W : Nat) (e : Int) (more : Bool) (n : Int) (hW : W < 340282366920938463463374607431768211456) (hn : Fl.drop W (e + 1074) = n) (he : -50000 ≤ e) (he2 : e ≤ 50000) :
   ∃ m0 e' more0, (∀ w, Calls Tryz.prog 134 #[wdW W e more, .int .i64 n] w fun r w' => r = .returned (wdv 0 m0 e' more0) ∧ ∃ k o o', w' = ((w.alloc o).alloc o').drewN k) ∧ m0 < 9007199254740992 ∧ -1074 ≤ e' ∧ e' ≤ 100000 ∧
     ((n ≤ 0 ∧ m0 = W ∧ e' = e ∧ more0 = more) ∨ (0 < n ∧ m0 = W / 2 ^ n.toNat ∧ e' = e + n ∧ more0 = (more || W % 2 ^ n.toNat != 0))) := by
 have hlen := len128 hW
 have hn1 : n ≤ 60000 := by rw [← hn]; unfold Fl.drop; omega
 have hn2 : (Fl.len W : Int) - 53 ≤ n := by rw [← hn]; unfold Fl.drop; omega
 have hn3 : -1074 - e ≤ n := by rw [← hn]; unfold Fl.drop; omega
 have hn4 : e + n ≤ 60000 := by rw [← hn]; unfold Fl.drop; omega
 by_cases hc : n ≤ 0
 · have hW2 : W < 9007199254740992 := by
     have h1 := Fl.lt_len W
     have h2 := Nat.pow_le_pow_right (show 0 < 2 by decide) (show Fl.len W ≤ 53 by omega)
     have h3 : (2 : Nat) ^ 53 = 9007199254740992 := by decide
     omega
   refine ⟨W, e, more, fun w => ?_, hW2, by omega, by omega, .inl ⟨hc, rfl, rfl, rfl⟩⟩
   have := down_none (W / 18446744073709551616) (W % 18446744073709551616) e more n hc w
   rw [Nat.div_eq_of_lt (show W < 18446744073709551616 by omega), Nat.mod_eq_of_lt (show W < 18446744073709551616 by omega)] at this
   unfold wdW
   rw [Nat.div_eq_of_lt (show W < 18446744073709551616 by omega), Nat.mod_eq_of_lt (show W < 18446744073709551616 by omega)]
   exact this
 · obtain ⟨k, rfl⟩ : ∃ k : Nat, n = k := ⟨n.toNat, by omega⟩
   rw [Int.toNat_natCast]
   have hq : W / 2 ^ k < 9007199254740992 := by
     rw [Nat.div_lt_iff_lt_mul (Nat.two_pow_pos k)]
     have h1 := Fl.lt_len W
     have h2 := Nat.pow_le_pow_right (show 0 < 2 by decide) (show Fl.len W ≤ 53 + k by omega)
     rw [Nat.pow_add, show (2 : Nat) ^ 53 = 9007199254740992 by decide] at h2
     omega
   refine ⟨W / 2 ^ k, e + k, (more || W % 2 ^ k != 0), fun w => ?_, hq, by omega, by omega, .inr ⟨by omega, rfl, rfl, rfl⟩⟩
   have := down_any W e more k hW (by omega) (by omega) (by omega) (by omega) w
   have hx : wdW (W / 2 ^ k) (e + k) (more || W % 2 ^ k != 0) = wdv 0 (W / 2 ^ k) (e + k) (more || W % 2 ^ k != 0) := by
     unfold wdW
     rw [Nat.div_eq_of_lt (show W / 2 ^ k < 18446744073709551616 by omega), Nat.mod_eq_of_lt (show W / 2 ^ k < 18446744073709551616 by omega)]
   rw [hx] at this
   exact this
theorem wlen_small (m : Nat) (hm : m < 18446744073709551616) (x : Int) (hx : x = (m : Int)) (w : World) : Calls Tryz.prog 127 #[.agg #[.int .u64 0, .int .u64 x, .int .i64 0, .bool false]] w fun r w' => r = .returned (.int .i64 (Fl.len m : Int)) ∧ ∃ o, w' = w.alloc o := by
 subst hx
 have := wlen_any 0 m 0 false (by omega) hm w
 rw [Nat.zero_mul, Nat.zero_add] at this
 exact this
theorem near_any (grow : Bool) (W : Nat) (e : Int) (more : Bool) (hW : W < 340282366920938463463374607431768211456) (hz : W = 0 → more = false) (hmore : more = true → 0 ≤ Fl.drop W (e + 1074))
   (he : -50000 ≤ e) (he2 : e ≤ 50000) (h971 : e ≤ 971 ∨ 0 ≤ Fl.drop W (e + 1074)) (w : World) :
   Calls Tryz.prog 142 #[wdW W e more, .bool grow] w fun r w' => r = .returned (.float .f64 (Fl.near grow W e more)) ∧ Below w.heap.size w w' := by
 obtain ⟨n, hn⟩ : ∃ n, Fl.drop W (e + 1074) = n := ⟨_, rfl⟩
 have hlen := len128 hW
 have hdr : n = max ((Fl.len W : Int) - 53) (-1074 - e) := by rw [← hn]; exact (max_drop W e).symm
 obtain ⟨m0, e', more0, HD, hm0, he', he'2, hc⟩ := down_or W e more n hW hn he he2
 have HL0 : ∀ w, Calls Tryz.prog 127 #[wdW W e more] w fun r w' => r = .returned (.int .i64 (Fl.len W : Int)) ∧ ∃ o, w' = w.alloc o := by
   intro w
   have := wlen_any (W / 18446744073709551616) (W % 18446744073709551616) e more (by omega) (by omega) w
   rw [show W / 18446744073709551616 * 18446744073709551616 + W % 18446744073709551616 = W by omega] at this
   exact this
 have HD' : ∀ (x : Int), ((Fl.len W : Int) - 53 ≤ x ∧ -1074 - e ≤ x ∧ (x = (Fl.len W : Int) - 53 ∨ x = -1074 - e)) → ∀ w, Calls Tryz.prog 134 #[wdW W e more, .int .i64 x] w fun r w' => r = .returned (wdv 0 m0 e' more0) ∧ ∃ k o o', w' = ((w.alloc o).alloc o').drewN k := by
   intro x hx
   have : x = n := by omega
   rw [this]
   exact HD
 have hc' : (n ≤ 0 ∧ m0 = W ∧ e' = e ∧ more0 = more ∧ (more = true → n = 0)) ∨ (0 < n ∧ m0 = W / 2 ^ n.toNat ∧ e' = e + n ∧ more0 = (more || W % 2 ^ n.toNat != 0)) := by
   rcases hc with ⟨a, b, c, d⟩ | h
   · exact .inl ⟨a, b, c, d, fun h => by have := hmore h; omega⟩
   · exact .inr h
 have hb := Lib.hid (show (-100000 : Int) ≤ e ∧ e ≤ 100000 from ⟨by omega, by omega⟩)
 -- what is handed out
 obtain ⟨m1, hm1⟩ : ∃ m1, m1 = if (more0 && grow) = true then m0 + 1 else m0 := ⟨_, rfl⟩
 have hm1b : m1 ≤ 9007199254740992 := by rw [hm1]; split <;> omega
 have hx : ldz m1 e' = if (more0 && grow) = true then ldz (m0 + 1) e' else ldz m0 e' := by rw [hm1]; split <;> rfl
 have hval : (if ldz m1 e' = Fl.INF ∧ grow = false then 9218868437227405311 else ldz m1 e') = Fl.near grow W e more := by
   by_cases hW0 : W = 0
   · have hmf := hz hW0
     have h00 : m0 = 0 ∧ more0 = false := by
       rcases hc' with ⟨_, b, _, d, _⟩ | ⟨_, b, _, d⟩
       · rw [b, d]; exact ⟨hW0, hmf⟩
       · rw [b, d, hW0, hmf, Nat.zero_div, Nat.zero_mod]; exact ⟨rfl, rfl⟩
     have hm10 : m1 = 0 := by rw [hm1, h00.1, h00.2]; rfl
     have e1 : ldz m1 e' = 0 := by rw [hm10]; rfl
     have e3 : ¬ ((0 : Nat) = Fl.INF ∧ grow = false) := by
       rintro ⟨h, _⟩
       exact absurd h (by decide)
     rw [e1, if_neg e3]
     unfold Fl.near
     rw [if_pos hW0]
   · exact Fl.near_raw grow W e more n m0 e' more0 hW0 hn hc' _ hx
 have h971' : m1 ≠ 0 → (Fl.len m1 : Int) - 1 + e' ≤ 1023 → e' ≤ 971 := by
   intro h1 h2
   rcases hc' with ⟨a, b, c, d, _⟩ | ⟨a, b, c, d⟩
   · rcases h971 with h | h
     · omega
     · have hn0 : n = 0 := by omega
       have hge : m0 ≤ m1 := by rw [hm1]; split <;> omega
       by_cases hl : (Fl.len W : Int) - 53 = 0
       · have h53 : 53 ≤ Fl.len m1 := by
           have hW0 : W ≠ 0 := by intro e0; rw [e0, Fl.len_zero] at hl; omega
           have g1 := Fl.pow_le_of_len hW0
           rw [show Fl.len W - 1 = 52 by omega] at g1
           apply Nat.le_of_not_lt
           intro hlt
           have g2 := Fl.lt_len m1
           have g3 := Nat.pow_le_pow_right (show 0 < 2 by decide) (show Fl.len m1 ≤ 52 by omega)
           omega
         omega
       · omega
   · by_cases hl : n = (Fl.len W : Int) - 53
     · have hge : m0 ≤ m1 := by rw [hm1]; split <;> omega
       have hW0 : W ≠ 0 := by intro e0; rw [e0, Fl.len_zero] at hl; omega
       have g0 := Fl.len_div_pow (n := W) n.toNat (by omega)
       have g1 : 53 = Fl.len m0 := by rw [b, g0]; omega
       have h53 : 53 ≤ Fl.len m1 := by
         have hm00 : m0 ≠ 0 := by intro e0; rw [e0, Fl.len_zero] at g1; omega
         have g2 := Fl.pow_le_of_len hm00
         rw [← g1] at g2
         apply Nat.le_of_not_lt
         intro hlt
         have g3 := Fl.lt_len m1
         have g4 := Nat.pow_le_pow_right (show 0 < 2 by decide) (show Fl.len m1 ≤ 52 by omega)
         omega
       omega
     · omega
 rw [← hval]
 have hmz : ∀ m : Nat, ((m : Int) == 0) = decide (m = 0) := by
   intro m; cases m <;> rfl
 have hmz1 : ∀ m : Nat, (((m : Int) + 1) == 0) = false := by
   intro m; cases m <;> rfl
 have hgt : ∀ hh : 1023 < (Fl.len m1 : Int) - 1 + e', m1 ≠ 0 → ldz m1 e' = Fl.INF := by
   intro hh h1
   unfold ldz
   rw [if_neg h1]
   exact Fl.ld_great h1 (by omega)
 have hle : ∀ hh : (Fl.len m1 : Int) - 1 + e' ≤ 1023, m1 ≠ 0 → ldz m1 e' ≠ Fl.INF := by
   intro hh h1 hc
   unfold ldz Fl.ld at hc
   rw [if_neg h1, Nat.min_eq_left (Nat.le_of_lt (Fl.rung_top m1 e' h1 hh he'))] at hc
   have := Fl.rung_top m1 e' h1 hh he'
   omega
 have hL1 : Fl.len m1 ≤ 128 := by
   have : Fl.len m1 ≤ 54 := Fl.len_le_of_lt (by rw [show (2 : Nat) ^ 54 = 18014398509481984 by decide]; omega)
   omega
 by_cases h1 : m1 = 0
 · have e1 : ldz m1 e' = 0 := by rw [h1]; rfl
   have e3 : ¬ ((0 : Nat) = Fl.INF ∧ grow = false) := by
     rintro ⟨h, _⟩
     exact absurd h (by decide)
   rw [e1, if_neg e3]
   cases more0
   · have : m0 = 0 := by rw [Bool.false_and, if_neg Bool.false_ne_true] at hm1; omega
     exact near_f_Z _ _ e more grow hb.out.1 hb.out.2 _ hlen HL0 m0 hm0 e' he' he'2 HD' (by rw [hmz]; exact decide_eq_true this) w
   · cases grow
     · have : m0 = 0 := by rw [Bool.and_false, if_neg Bool.false_ne_true] at hm1; omega
       exact near_tf_Z _ _ e more hb.out.1 hb.out.2 _ hlen HL0 m0 hm0 e' he' he'2 HD' (by rw [hmz]; exact decide_eq_true this) w
     · rw [Bool.true_and, if_pos rfl] at hm1; omega
 · by_cases h2 : 1023 < (Fl.len m1 : Int) - 1 + e'
   · rw [hgt h2 h1]
     cases more0
     · have hmm : m1 = m0 := by rw [hm1, Bool.false_and, if_neg Bool.false_ne_true]
       rw [hmm] at h1 h2 hL1
       cases grow
       · exact near_f_IM _ _ e more hb.out.1 hb.out.2 _ hlen HL0 m0 hm0 e' he' he'2 HD' (by rw [hmz]; exact decide_eq_false h1) _ hL1 (wlen_small m0 (by omega) _ rfl) h2 w
       · exact near_f_IG _ _ e more hb.out.1 hb.out.2 _ hlen HL0 m0 hm0 e' he' he'2 HD' (by rw [hmz]; exact decide_eq_false h1) _ hL1 (wlen_small m0 (by omega) _ rfl) h2 w
     · cases grow
       · have hmm : m1 = m0 := by rw [hm1, Bool.and_false, if_neg Bool.false_ne_true]
         rw [hmm] at h1 h2 hL1
         exact near_tf_IM _ _ e more hb.out.1 hb.out.2 _ hlen HL0 m0 hm0 e' he' he'2 HD' (by rw [hmz]; exact decide_eq_false h1) _ hL1 (wlen_small m0 (by omega) _ rfl) h2 w
       · have hmm : m1 = m0 + 1 := by rw [hm1, Bool.true_and, if_pos rfl]
         rw [hmm] at h1 h2 hL1
         exact near_tt_IG _ _ e more hb.out.1 hb.out.2 _ hlen HL0 m0 hm0 e' he' he'2 HD' (hmz1 m0) _ hL1 (wlen_small (m0 + 1) (by omega) _ (by omega)) h2 w
   · have h2' : (Fl.len m1 : Int) - 1 + e' ≤ 1023 := by omega
     have h3 := h971' h1 h2'
     rw [if_neg (fun hh => hle h2' h1 hh.1)]
     have hmul := mul_ldz m1 e' h1 hm1b he' (by omega) h2'
     cases more0
     · have hmm : m1 = m0 := by rw [hm1, Bool.false_and, if_neg Bool.false_ne_true]
       rw [hmm] at h1 h2' hL1 hmul ⊢
       exact near_f_F _ _ e more grow hb.out.1 hb.out.2 _ hlen HL0 m0 hm0 e' he' he'2 HD' (by rw [hmz]; exact decide_eq_false h1) _ hL1 (wlen_small m0 (by omega) _ rfl) h2' h3 _ _ (power_any e' he' (by omega)) hmul w
     · cases grow
       · have hmm : m1 = m0 := by rw [hm1, Bool.and_false, if_neg Bool.false_ne_true]
         rw [hmm] at h1 h2' hL1 hmul ⊢
         exact near_tf_F _ _ e more hb.out.1 hb.out.2 _ hlen HL0 m0 hm0 e' he' he'2 HD' (by rw [hmz]; exact decide_eq_false h1) _ hL1 (wlen_small m0 (by omega) _ rfl) h2' h3 _ _ (power_any e' he' (by omega)) hmul w
       · have hmm : m1 = m0 + 1 := by rw [hm1, Bool.true_and, if_pos rfl]
         rw [hmm] at h1 h2' hL1 hmul ⊢
         rw [show ((m0 + 1 : Nat) : Int) = (m0 : Int) + 1 by omega] at hmul
         exact near_tt_F _ _ e more hb.out.1 hb.out.2 _ hlen HL0 m0 hm0 e' he' he'2 HD' (hmz1 m0) _ hL1 (wlen_small (m0 + 1) (by omega) _ (by omega)) h2' h3 _ _ (power_any e' he' (by omega)) hmul w
end Go.Proofs.YtnljfcebmgifdaaGreat
namespace Go.Proofs.YtnljfcebmgifdaaGreat
open Go.RowKit Ieee
theorem below_in1 {w w' : World} {o : Obj} (h : Below (w.alloc o).heap.size (w.alloc o) w') : Below w.heap.size w w' := (below_new w o).trans (h.mono (by simp))
theorem rto_pos (W : Nat) (e : Int) (more down : Bool) (x : Nat) (HN : ∀ w, Calls Tryz.prog 142 #[wdW W e more, .bool (false == down)] w fun r w' => r = .returned (.float .f64 x) ∧ Below w.heap.size w w') (w : World) :
   Calls Tryz.prog 130 #[wdW W e more, .bool false, .bool down] w fun r w' => r = .returned (.float .f64 x) ∧ Below w.heap.size w w' := by
 have HN' := Lib.hid HN
 clear HN
 generalize hb : (false == down) = b at *
 have hb' := Lib.hid hb
 go_enter Tryz.func130, Tryz.ntmps130
 go_wp2_with fail
 refine (HN'.out _).mono ?_
 rintro r w' ⟨rfl, hw⟩
 have HW := Lib.hid hw
 clear hw
 go_wp2_with fail
 go_ret
 exact ⟨rfl, below_in1 HW.out⟩
theorem rto_neg (W : Nat) (e : Int) (more down : Bool) (x y z : Nat) (HN : ∀ w, Calls Tryz.prog 142 #[wdW W e more, .bool (true == down)] w fun r w' => r = .returned (.float .f64 x) ∧ Below w.heap.size w w')
   (hs : floatBits .sub .f64 0 x = some y) (HZ : ∀ w, Calls Tryz.prog 107 #[.float .f64 y] w fun r w' => r = .returned (.float .f64 z) ∧ w = w') (w : World) :
   Calls Tryz.prog 130 #[wdW W e more, .bool true, .bool down] w fun r w' => r = .returned (.float .f64 z) ∧ Below w.heap.size w w' := by
 have HN' := Lib.hid HN
 have HZ' := Lib.hid HZ
 clear HN HZ
 have hr := fun (t : TypeId) (w : World) => run_float_arith (P := Tryz.prog) w .sub t .f64 _ _ _ hs
 clear hs
 generalize hb : (true == down) = b at *
 have hb' := Lib.hid hb
 go_enter Tryz.func130, Tryz.ntmps130
 go_wp2_with fail
 refine (HN'.out _).mono ?_
 rintro r w' ⟨rfl, hw⟩
 have HW := Lib.hid hw
 clear hw
 go_wp2_with fail
 refine (HZ'.out _).mono ?_
 rintro r w2 ⟨rfl, rfl⟩
 go_wp2_with fail
 go_ret
 exact ⟨rfl, below_in1 HW.out⟩
theorem flip_pos {r : Nat} (h : r ≤ Fl.INF) (h0 : r ≠ 0) : Fl.flip r = Fl.wrd true r := by
 have hs : r < Fl.SGN := Nat.lt_of_le_of_lt h Fl.inf_sgn
 have hm : Fl.mg r = r := Nat.mod_eq_of_lt hs
 have e1 : Fl.sg r = false := decide_eq_false (by omega)
 unfold Fl.flip
 rw [hm, e1]; rfl
theorem pos_nan {r : Nat} (h : r ≤ Fl.INF) : r < 18446744073709551616 ∧ Fl.nan r = false ∧ Fl.mg r = r := by
 have hs : r < Fl.SGN := Nat.lt_of_le_of_lt h Fl.inf_sgn
 have hm : Fl.mg r = r := Nat.mod_eq_of_lt hs
 refine ⟨Nat.lt_trans hs (by decide), ?_, hm⟩
 unfold Fl.nan
 rw [hm]
 exact decide_eq_false (by omega)
theorem wrd_false (x : Nat) : Fl.wrd false x = x := rfl
theorem pl_pos {x : Nat} (h : x ≤ Fl.INF) : Fl.pl x = x := by
 unfold Fl.pl
 have := Fl.inf_sgn
 generalize Fl.SGN = s at *
 rw [if_neg (by omega)]
theorem pl_neg0 : Fl.pl (Fl.wrd true 0) = Fl.pl 0 := by decide
theorem rto_any (neg down : Bool) (W : Nat) (e : Int) (more : Bool) (hW : W < 340282366920938463463374607431768211456) (hz : W = 0 → more = false) (hmore : more = true → 0 ≤ Fl.drop W (e + 1074))
   (he : -50000 ≤ e) (he2 : e ≤ 50000) (h971 : e ≤ 971 ∨ 0 ≤ Fl.drop W (e + 1074)) (w : World) :
   Calls Tryz.prog 130 #[wdW W e more, .bool neg, .bool down] w fun r w' => r = .returned (.float .f64 (toVal neg down W e more)) ∧ Below w.heap.size w w' := by
 have HN := fun grow w => near_any grow W e more hW hz hmore he he2 h971 w
 unfold toVal
 cases neg
 · have h1 := near_le (false == down) W e more
   have e1 : Fl.pl (Fl.wrd false (Fl.near (false == down) W e more)) = Fl.near (false == down) W e more := by
     rw [wrd_false]
     exact pl_pos h1
   rw [e1]
   exact rto_pos W e more down _ (HN _) w
 · have h1 := near_le (true == down) W e more
   obtain ⟨x, hx⟩ : ∃ x, x = Fl.near (true == down) W e more := ⟨_, rfl⟩
   rw [← hx] at h1 ⊢
   obtain ⟨b1, b2, b3⟩ := pos_nan h1
   have hs : floatBits .sub .f64 0 x = some (if Fl.mg x = 0 then 0 else Fl.flip x) := zero_sub64 x b1 b2
   rw [b3] at hs
   have HN' := HN (true == down)
   rw [← hx] at HN'
   by_cases h0 : x = 0
   · rw [if_pos h0] at hs
     have e1 : Fl.pl (Fl.wrd true x) = Fl.pl 0 := by rw [h0]; exact pl_neg0
     rw [e1]
     exact rto_neg W e more down x 0 _ HN' hs (fun w => zeroed_any 0 (by decide) (by decide) w) w
   · rw [if_neg h0, flip_pos h1 h0] at hs
     have hy : Fl.wrd true x < 18446744073709551616 ∧ Fl.nan (Fl.wrd true x) = false := wrd_ok true x h1
     exact rto_neg W e more down x _ _ HN' hs (fun w => zeroed_any _ hy.1 hy.2 w) w
end Go.Proofs.YtnljfcebmgifdaaGreat
set_option linter.unusedVariables false
set_option linter.unusedSimpArgs false
namespace Go.Proofs.YtnljfcebmgifdaaGreat
open Go.RowKit Ieee
theorem eight_of {w : World} {g g' : Nat} {t t' : TypeId} {a b c d a' b' c' d' : Value} (h : Blk w g t #[a, b, c, d]) (h' : Blk w g' t' #[a', b', c', d']) :
   w.cell? ⟨g, 0, none⟩ = some a ∧ w.cell? ⟨g, 1, none⟩ = some b ∧ w.cell? ⟨g, 2, none⟩ = some c ∧ w.cell? ⟨g, 3, none⟩ = some d ∧
   w.cell? ⟨g', 0, none⟩ = some a' ∧ w.cell? ⟨g', 1, none⟩ = some b' ∧ w.cell? ⟨g', 2, none⟩ = some c' ∧ w.cell? ⟨g', 3, none⟩ = some d' :=
 ⟨h.cell 0, h.cell 1, h.cell 2, h.cell 3, h'.cell 0, h'.cell 1, h'.cell 2, h'.cell 3⟩
theorem rto_ok (neg down : Bool) (W : Nat) (e : Int) (more : Bool) (h : RoundOk W e more) (w : World) :
   Calls Tryz.prog 130 #[wdW W e more, .bool neg, .bool down] w fun r w' => r = .returned (.float .f64 (toVal neg down W e more)) ∧ Below w.heap.size w w' :=
 rto_any neg down W e more h.lt h.zero h.more (by have := h.lo; omega) (by rcases h.hi with h | h; omega; have := h.2; omega) (by rcases h.hi with h | h; exact .inl h; exact .inr h.1) w
theorem rmul_good (a b : Nat) (down : Bool) (ha : a < 18446744073709551616) (hb : b < 18446744073709551616) (fa : Fl.fin a = true) (fb : Fl.fin b = true) (w : World) :
   Calls Tryz.prog 111 #[.float .f64 a, .float .f64 b, .bool down] w fun r w' => r = .returned (numV (mulV a b down) 0) ∧ Below w.heap.size w w' := by
 have HX := Lib.hid (fun w => rnum_good a ha fa w)
 have HY := Lib.hid (fun w => rnum_good b hb fb w)
 have HA := Lib.hid (fun w => part_any a ha w)
 have HB := Lib.hid (fun w => part_any b hb w)
 have HM := Lib.hid (fun w => times_any (Fl.sM a) (Fl.sM b) (by have := Fl.sM_lt a; omega) (by have := Fl.sM_lt b; omega) w)
 have HO := Lib.hid (fun w => rto_ok (Fl.sg a != Fl.sg b) down _ _ _ (mul_ok a b fa fb) w)
 have hE : (-1074 : Int) ≤ Fl.sE a ∧ Fl.sE a ≤ 971 ∧ -1074 ≤ Fl.sE b ∧ Fl.sE b ≤ 971 := ⟨Fl.sE_ge a, Fl.sE_le a fa, Fl.sE_ge b, Fl.sE_le b fb⟩
 unfold mulV
 generalize toVal (Fl.sg a != Fl.sg b) down (Fl.sM a * Fl.sM b) (Fl.sE a + Fl.sE b) false = v at *
 unfold wdW wdv at HO
 generalize Fl.sM a * Fl.sM b / 18446744073709551616 = ph at *
 generalize Fl.sM a * Fl.sM b % 18446744073709551616 = pl at *
 generalize Fl.sM a = A at *
 generalize Fl.sM b = B at *
 generalize Fl.sE a = ea at *
 generalize Fl.sE b = eb at *
 generalize Fl.sg a = na at *
 generalize Fl.sg b = nb at *
 obtain ⟨hE1, hE2, hE3, hE4⟩ := hE
 clear fa fb
 go_enter Tryz.func111, Tryz.ntmps111
 go_wp2_with fail
 refine (HX.out _).mono ?_
 rintro e w' ⟨rfl, rfl⟩
 go_wp2_with fail
 refine (HY.out _).mono ?_
 rintro e w' ⟨rfl, rfl⟩
 go_wp2_with fail
 refine (HA.out _).mono ?_
 rintro e w' ⟨rfl, o1, rfl⟩
 go_wp2_with fail
 refine (HB.out _).mono ?_
 rintro e w' ⟨rfl, o2, rfl⟩
 go_wp2_with fail
 refine (HM.out _).mono ?_
 rintro e w' ⟨rfl, rfl⟩
 go_wp2_with fail
 refine (HO.out _).mono ?_
 rintro e w2 ⟨rfl, h2⟩
 have HW2 := Lib.hid h2
 clear h2
 go_wp2_with fail
 go_ret2
 exact ⟨rfl, (below_more (below_more (below_more (below_new w o1) _) _) _).trans (HW2.out.mono (by simp; omega))⟩
theorem rmul_bad (a b : Nat) (down : Bool) (ha : a < 18446744073709551616) (hb : b < 18446744073709551616) (hf : (Fl.fin a && Fl.fin b) = false) (w : World) :
   Calls Tryz.prog 111 #[.float .f64 a, .float .f64 b, .bool down] w fun r w' => r = .returned (numV 0 10) ∧ ∃ k, w' = w.drewN k := by
 have HX := Lib.hid (fun w => rnum_any a ha w)
 have HY := Lib.hid (fun w => rnum_any b hb w)
 generalize Fl.fin a = x at *
 generalize Fl.fin b = y at *
 cases x
 · go_enter Tryz.func111, Tryz.ntmps111
   go_wp2_with fail
   refine (HX.out _).mono ?_
   rintro e w' ⟨rfl, k, rfl⟩
   go_wp2_with fail
   go_ret2
   exact ⟨rfl, _, rfl⟩
 · obtain rfl : y = false := by simpa using hf
   go_enter Tryz.func111, Tryz.ntmps111
   go_wp2_with fail
   refine (HX.out _).mono ?_
   rintro e w' ⟨rfl, k, rfl⟩
   go_wp2_with fail
   refine (HY.out _).mono ?_
   rintro e w' ⟨rfl, k', rfl⟩
   go_wp2_with fail
   go_ret2
   exact ⟨rfl, _, rfl⟩
end Go.Proofs.YtnljfcebmgifdaaGreat
set_option linter.unusedVariables false
set_option linter.unusedSimpArgs false
namespace Go.Proofs.YtnljfcebmgifdaaGreat
theorem near_self (g : Bool) (b : Nat) (hf : Fl.fin b = true) : Fl.near g (Fl.sM b) (Fl.sE b) false = Fl.mg b := by
 have hm := Fl.mg_of_fin hf
 unfold Fl.near
 by_cases h0 : Fl.sM b = 0
 · rw [if_pos h0, (Fl.sM_zero b).1 h0]
 · rw [if_neg h0]
   have he := Fl.sE_ge b
   obtain ⟨h1, h2⟩ := Fl.rung_of_eq (r := Fl.mg b) (W := Fl.sM b) (e := Fl.sE b + 1074) h0 (by
     rw [show (-(Fl.sE b + 1074)).toNat = 0 by omega, Nat.pow_zero, Nat.mul_one, Fl.sM_rv])
   rw [h1, h2]
   cases g
   · rw [if_neg Bool.false_ne_true]; exact Nat.min_eq_left (by omega)
   · rw [if_pos rfl]
     exact Nat.min_eq_left (Nat.le_of_lt hm)
theorem toVal_self (down : Bool) (b : Nat) (h : b < 18446744073709551616) (hf : Fl.fin b = true) : toVal (Fl.sg b) down (Fl.sM b) (Fl.sE b) false = Fl.pl b := by
 unfold toVal
 rw [near_self _ b hf, Fl.wrd_of b h]
theorem pl_zero {b : Nat} (h : b < 18446744073709551616) (h0 : Fl.mg b = 0) : Fl.pl b = 0 := by
 rcases Fl.mg_zero_cases h h0 with rfl | rfl <;> decide
theorem pl_nonzero {b : Nat} (h0 : Fl.mg b ≠ 0) : Fl.pl b = b := by
 unfold Fl.pl
 rw [if_neg]
 rintro rfl
 exact h0 (by decide)
end Go.Proofs.YtnljfcebmgifdaaGreat
