/- The word of a point by the definition: lanternref05.At; and both at a dimension that is none. -/
import Derived.Test.YtmgaonkmfdeohaaDoorAt
namespace Go.Proofs.YtmgaonkmfdeohaaDoor
open Go.RowKit

theorem tb_int (x k : Nat) (hx : x < 4294967296) : (bits BinOp.and IntKind.u32 ((x : Int) / 2 ^ k) 1 == 1) = x.testBit k := by
  have e1 : (x : Int) / 2 ^ k = ((x / 2 ^ k : Nat) : Int) := by rw [Int.natCast_ediv, Int.natCast_pow]; rfl
  have e2 : bits BinOp.and IntKind.u32 ((x / 2 ^ k : Nat) : Int) 1 = ((x / 2 ^ k &&& 1 : Nat) : Int) := u32_and_nat (x / 2 ^ k) 1 (Nat.lt_of_le_of_lt (Nat.div_le_self _ _) hx) (by decide)
  rw [e1, e2, Nat.and_one_is_mod, Nat.testBit_eq_decide_div_mod_eq]
  rw [Bool.eq_iff_iff, beq_iff_eq, decide_eq_true_iff]
  omega

def BRel (f : Nat → Nat) (idx : Nat) (o i : Value) : Prop := ∃ k : Nat, k ≤ 32 ∧ i = .int .i64 k ∧ o = .int .u32 (Sob.atF f k idx : Nat)

set_option maxRecDepth 100000 in
set_option maxHeartbeats 1000000 in
theorem rat_any (dim : Nat) (hd : dim < 8) (idx : Nat) (hi : idx < 4294967296) (w : World) :
    Calls Tryd.prog 13 #[.int .i64 dim, .int .u32 idx] w fun e w' => e = .returned (.tuple #[.int .u32 (Sob.at32 (Sob.wd dim) idx : Nat), .int .i64 0]) ∧ Below w.heap.size w w' := by
  generalize hg : Sob.wd dim = f
  have hw := rwords_any dim hd
  rw [hg] at hw
  have HW := Lib.hid hw
  have hf : ∀ i, f i < 4294967296 := fun i => hg ▸ Sob.wd_lt dim i
  clear hw hg
  go_enter Tryd.func13, Tryd.ntmps13
  go_wp2_with (first
    | (go_at_call 11; refine (HW.out _).mono ?_; rintro e w1 ⟨rfl, hb1⟩; have HB1 := Lib.hid hb1; clear hb1)
    | (refine wpList_store_row rfl 24 _ _ rfl w1.heap.size _ rfl rfl _ _ (at_new w1) (info24f f) (sizez f 32) (rowOf_one _ _) ?_; rw [at_set]))
  have hv : Blk (w1.alloc (.cells (rowOf f 32) 24)) w1.heap.size 24 (rowOf f 32) := Blk.new _ _ _
  have hb2 : Below w.heap.size w (w1.alloc (.cells (rowOf f 32) 24)) := HB1.out.alloc HB1.out.size _
  generalize w1.alloc (.cells (rowOf f 32) 24) = w2 at *
  have HB2 := Lib.hid hb2
  have HV := Lib.hid hv
  clear hb2 hv HB1 HW
  go_loop [8, 9] (fun o i => BRel f idx o i) (fun _ i => 32 - (intOf i).toNat)
  case atStart => exact ⟨0, by omega, rfl, rfl⟩
  case round =>
    obtain ⟨k, hk, rfl, rfl⟩ := hrel
    have hal := Sob.atF_lt f hf k idx
    have hsn : Sob.atF f (k + 1) idx = Sob.atF f k idx ^^^ (if idx.testBit k then f k else 0) := rfl
    have HS := Lib.hid hsn
    have hdef : k = 32 → Sob.atF f k idx = Sob.at32 f idx := fun h => by subst h; rfl
    have HD := Lib.hid hdef
    clear hsn hdef
    generalize Sob.atF f k idx = b at *
    by_cases hlt : k < 32
    · have hc : w2.cell? ⟨w1.heap.size, k, none⟩ = some (.int .u32 (f k : Nat)) := by rw [HV.out.cell, rowOf_get f 32 k hlt, if_pos hlt]
      have hfk : f k < 4294967296 := hf k
      go_wp2
      · have ht : (bits BinOp.and IntKind.u32 ((idx : Int) / 2 ^ k) 1 == 1) = true := by assumption
        rw [tb_int idx k hi] at ht
        go_round
        case rel =>
          refine ⟨k + 1, hlt, rfl, ?_⟩
          rw [HS.out, ht, if_pos rfl, u32_xor_nat b (f k) hal hfk]
        case measure => simp [intOf]; omega
      · have ht : (bits BinOp.and IntKind.u32 ((idx : Int) / 2 ^ k) 1 == 1) = false := by assumption
        rw [tb_int idx k hi] at ht
        go_round
        case rel =>
          refine ⟨k + 1, hlt, rfl, ?_⟩
          rw [HS.out, ht, if_neg (by decide), Nat.xor_zero]
        case measure => simp [intOf]; omega
    · obtain rfl : k = 32 := by omega
      go_wp2
      go_ret2
      exact ⟨by rw [← HD.out trivial]; rfl, HB2.out⟩

set_option maxRecDepth 100000 in
set_option maxHeartbeats 1000000 in
theorem at_bad (d : Int) (hd : d < 0 ∨ 8 ≤ d) (idx : Nat) (w : World) :
    Calls Tryd.prog 12 #[.int .i64 d, .int .u32 idx] w fun e w' => e = .returned (.tuple #[.int .u32 0, .int .i64 50]) ∧ Below w.heap.size w w' := by
  have HW := Lib.hid (words_bad d hd)
  clear hd
  go_enter Tryd.func12, Tryd.ntmps12
  go_wp2_with (first
    | (go_at_call 10; refine (HW.out _).mono ?_; rintro e w1 ⟨rfl, hb1⟩; have HB1 := Lib.hid hb1; clear hb1)
    | (refine wpList_store_row rfl 24 _ _ rfl w1.heap.size _ rfl rfl _ _ (Blk.new w1 24 zeros) (info24r _ _) (sizez _ 0) (rowOf_one _ _) ?_))
  go_ret2
  exact ⟨rfl, below_setRow (HB1.out.alloc HB1.out.size _) HB1.out.size _⟩

set_option maxRecDepth 100000 in
set_option maxHeartbeats 1000000 in
theorem rat_bad (d : Int) (hd : d < 0 ∨ 8 ≤ d) (idx : Nat) (w : World) :
    Calls Tryd.prog 13 #[.int .i64 d, .int .u32 idx] w fun e w' => e = .returned (.tuple #[.int .u32 0, .int .i64 50]) ∧ Below w.heap.size w w' := by
  have HW := Lib.hid (rwords_bad d hd)
  clear hd
  go_enter Tryd.func13, Tryd.ntmps13
  go_wp2_with (first
    | (go_at_call 11; refine (HW.out _).mono ?_; rintro e w1 ⟨rfl, hb1⟩; have HB1 := Lib.hid hb1; clear hb1)
    | (refine wpList_store_row rfl 24 _ _ rfl w1.heap.size _ rfl rfl _ _ (Blk.new w1 24 zeros) (info24r _ _) (sizez _ 0) (rowOf_one _ _) ?_))
  go_ret2
  exact ⟨rfl, below_setRow (HB1.out.alloc HB1.out.size _) HB1.out.size _⟩

/-! ### The word of a point, its digits turned -/

theorem conv_dim (dim : Nat) (hd : dim < 8) : (dim : Int) % 4294967296 = (dim : Int) := by omega

theorem hash_at (x : Int) (a : Nat) (hx : x = a) (ha : a < 4294967296) (w : World) :
    Calls Tryd.prog 18 #[.int .u32 x] w fun e w' => e = .returned (.int .u32 (Sob.hash a : Nat)) ∧ w = w' := by
  subst hx; exact hash_any a ha w
theorem rhash_at (x : Int) (a : Nat) (hx : x = a) (ha : a < 4294967296) (w : World) :
    Calls Tryd.prog 19 #[.int .u32 x] w fun e w' => e = .returned (.int .u32 (Sob.hash a : Nat)) ∧ w = w' := by
  subst hx; exact rhash_any a ha w

set_option maxRecDepth 100000 in
set_option maxHeartbeats 1000000 in
theorem scr_any (dim : Nat) (hd : dim < 8) (idx seed : Nat) (hi : idx < 4294967296) (hs : seed < 4294967296) (w : World) (hP : Plans w) (hT : Tab w) :
    Calls Tryd.prog 14 #[.int .i64 dim, .int .u32 idx, .int .u32 seed] w fun e w' => e = .returned (.tuple #[.int .u32 (Sob.scr dim idx seed : Nat), .int .i64 0]) ∧ Below w.heap.size w w' := by
  have HA := Lib.hid (at_any dim hd idx hi w hP hT)
  have HH := Lib.hid (hash_any dim (by omega))
  have hl := Sob.at32_lt dim idx
  have hE : ((Sob.scr dim idx seed : Nat) : Int) = ((Sob.at32 (Sob.wd dim) idx ^^^ Sob.hash (seed ^^^ Sob.hash dim) : Nat) : Int) := rfl
  have HE := Lib.hid hE
  have h1 : Sob.hash dim < 4294967296 := Sob.hash_lt dim
  have h2 : seed ^^^ Sob.hash dim < 4294967296 := Nat.xor_lt_two_pow (n := 32) hs h1
  have h3 : Sob.hash (seed ^^^ Sob.hash dim) < 4294967296 := Sob.hash_lt _
  have H1 := Lib.hid h1
  have H2 := Lib.hid h2
  have H3 := Lib.hid h3
  have HL := Lib.hid hl
  clear hP hT hE h1 h2 h3 hl
  generalize Sob.at32 (Sob.wd dim) idx = p at *
  generalize Sob.hash dim = h at *
  go_enter Tryd.func14, Tryd.ntmps14
  go_wp2_with fail
  refine HA.out.mono ?_
  rintro e w1 ⟨rfl, hb1⟩
  have HB1 := Lib.hid hb1
  clear hb1 HA
  go_wp2_with fail
  refine (HH.out _).mono ?_
  rintro e w' ⟨rfl, rfl⟩
  go_wp2_with fail
  refine (hash_at _ (seed ^^^ h) (u32_xor_nat seed h hs H1.out) H2.out _).mono ?_
  rintro e w' ⟨rfl, rfl⟩
  go_wp2_with fail
  go_ret2
  refine ⟨?_, HB1.out⟩
  rw [HE.out, ← u32_xor_nat p _ HL.out H3.out]
  rfl

set_option maxRecDepth 100000 in
set_option maxHeartbeats 1000000 in
theorem rscr_any (dim : Nat) (hd : dim < 8) (idx seed : Nat) (hi : idx < 4294967296) (hs : seed < 4294967296) (w : World) :
    Calls Tryd.prog 15 #[.int .i64 dim, .int .u32 idx, .int .u32 seed] w fun e w' => e = .returned (.tuple #[.int .u32 (Sob.scr dim idx seed : Nat), .int .i64 0]) ∧ Below w.heap.size w w' := by
  have HA := Lib.hid (rat_any dim hd idx hi w)
  have HH := Lib.hid (rhash_any dim (by omega))
  have hl := Sob.at32_lt dim idx
  have hE : ((Sob.scr dim idx seed : Nat) : Int) = ((Sob.at32 (Sob.wd dim) idx ^^^ Sob.hash (seed ^^^ Sob.hash dim) : Nat) : Int) := rfl
  have HE := Lib.hid hE
  have h1 : Sob.hash dim < 4294967296 := Sob.hash_lt dim
  have h2 : seed ^^^ Sob.hash dim < 4294967296 := Nat.xor_lt_two_pow (n := 32) hs h1
  have h3 : Sob.hash (seed ^^^ Sob.hash dim) < 4294967296 := Sob.hash_lt _
  have H1 := Lib.hid h1
  have H2 := Lib.hid h2
  have H3 := Lib.hid h3
  have HL := Lib.hid hl
  clear hE h1 h2 h3 hl
  generalize Sob.at32 (Sob.wd dim) idx = p at *
  generalize Sob.hash dim = h at *
  go_enter Tryd.func15, Tryd.ntmps15
  go_wp2_with fail
  refine HA.out.mono ?_
  rintro e w1 ⟨rfl, hb1⟩
  have HB1 := Lib.hid hb1
  clear hb1 HA
  go_wp2_with fail
  refine (HH.out _).mono ?_
  rintro e w' ⟨rfl, rfl⟩
  go_wp2_with fail
  refine (rhash_at _ (seed ^^^ h) (u32_xor_nat seed h hs H1.out) H2.out _).mono ?_
  rintro e w' ⟨rfl, rfl⟩
  go_wp2_with fail
  go_ret2
  refine ⟨?_, HB1.out⟩
  rw [HE.out, ← u32_xor_nat p _ HL.out H3.out]
  rfl

set_option maxHeartbeats 1000000 in
theorem scr_bad (d : Int) (hd : d < 0 ∨ 8 ≤ d) (idx seed : Nat) (w : World) :
    Calls Tryd.prog 14 #[.int .i64 d, .int .u32 idx, .int .u32 seed] w fun e w' => e = .returned (.tuple #[.int .u32 0, .int .i64 50]) ∧ Below w.heap.size w w' := by
  have HA := Lib.hid (at_bad d hd idx w)
  clear hd
  go_enter Tryd.func14, Tryd.ntmps14
  go_wp2_with fail
  refine HA.out.mono ?_
  rintro e w1 ⟨rfl, hb1⟩
  have HB1 := Lib.hid hb1
  clear hb1 HA
  go_wp2
  go_ret2
  exact ⟨rfl, HB1.out⟩

set_option maxHeartbeats 1000000 in
theorem rscr_bad (d : Int) (hd : d < 0 ∨ 8 ≤ d) (idx seed : Nat) (w : World) :
    Calls Tryd.prog 15 #[.int .i64 d, .int .u32 idx, .int .u32 seed] w fun e w' => e = .returned (.tuple #[.int .u32 0, .int .i64 50]) ∧ Below w.heap.size w w' := by
  have HA := Lib.hid (rat_bad d hd idx w)
  clear hd
  go_enter Tryd.func15, Tryd.ntmps15
  go_wp2_with fail
  refine HA.out.mono ?_
  rintro e w1 ⟨rfl, hb1⟩
  have HB1 := Lib.hid hb1
  clear hb1 HA
  go_wp2
  go_ret2
  exact ⟨rfl, HB1.out⟩
end Go.Proofs.YtmgaonkmfdeohaaDoor
