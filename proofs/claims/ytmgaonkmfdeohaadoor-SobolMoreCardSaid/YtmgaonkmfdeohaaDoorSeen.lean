/- Which places a block's first points have taken, as a row of bools. -/
import Derived.Test.YtmgaonkmfdeohaaDoorSums
import Derived.Test.YtmgaonkmfdeohaaDoorPlain2
import Derived.Deep.OwnRows
namespace Go.Proofs.YtmgaonkmfdeohaaDoor
open Go.RowKit

/-- Is place x taken by one of the first n? -/
def seen (g : Nat → Nat) (n x : Nat) : Bool := (List.range n).any fun i => g i == x

theorem seen_zero (g : Nat → Nat) (x : Nat) : seen g 0 x = false := rfl
theorem seen_succ (g : Nat → Nat) (n x : Nat) : seen g (n + 1) x = (seen g n x || g n == x) := by
  unfold seen
  rw [List.range_succ, List.any_append]
  simp
theorem seen_new (g : Nat → Nat) (n : Nat) (h : ∀ i, i < n → g i ≠ g n) : seen g n (g n) = false := by
  unfold seen
  rw [List.any_eq_false]
  intro i hi
  have := h i (List.mem_range.1 hi)
  simpa using this

theorem below_drewN {B : Nat} {a w : World} (h : Below B a w) (n : Nat) : Below B a (w.drewN n) := ⟨h.os, h.tape, h.output, h.size, h.block⟩
theorem rowIs_drewN {w : World} {b : Nat} {t : TypeId} {n : Nat} {f : Nat → Value} (h : w.rowIs b t n f) (k : Nat) : (w.drewN k).rowIs b t n f := h
theorem rowIs_below {w w' : World} {B b : Nat} {t : TypeId} {n : Nat} {f : Nat → Value} (h : w.rowIs b t n f) (hb : Below B w w') (hlt : b < B) : w'.rowIs b t n f := by
  obtain ⟨c, h1, h2⟩ := h
  exact ⟨c, (hb.block b hlt).trans h1, h2⟩
theorem plans_drewN {w : World} (h : Plans w) (n : Nat) : Plans (w.drewN n) := h
theorem tab_drewN {w : World} (h : Tab w) (n : Nat) : Tab (w.drewN n) := h
theorem plans_setCell {w : World} (h : Plans w) {p : Addr} (hp : 2 ≤ p.block) (u : Value) : Plans (w.setCell p u) :=
  ⟨by simpa using h.1, fun j hj => by rw [World.cell?_setCell_other w p _ u (by intro e; subst e; simp at hp)]; exact h.2 j hj⟩
theorem tab_setCell {w : World} (h : Tab w) {p : Addr} (hp : 2 ≤ p.block) (u : Value) : Tab (w.setCell p u) :=
  ⟨by simpa using h.1, fun j hj => by rw [World.cell?_setCell_other w p _ u (by intro e; subst e; simp at hp)]; exact h.2 j hj⟩

theorem info4 : (Tryd.prog.info? 4).map (fun i => (i.zero, i.size, i.bytes)) = some (some (.bool false), 1, 1) := by kernel_rfl

theorem scr_at (d : Nat) (hd : d < 8) (x : Int) (idx seed : Nat) (hx : x = idx) (hi : idx < 4294967296) (hs : seed < 4294967296) (w : World) (hP : Plans w) (hT : Tab w) :
    Calls Tryd.prog 14 #[.int .i64 d, .int .u32 x, .int .u32 seed] w fun e w' => e = .returned (.tuple #[.int .u32 (Sob.scr d idx seed : Nat), .int .i64 0]) ∧ Below w.heap.size w w' := by
  subst hx; exact scr_any d hd idx seed hi hs w hP hT
theorem at_at (d : Nat) (hd : d < 8) (x : Int) (idx : Nat) (hx : x = idx) (hi : idx < 4294967296) (w : World) (hP : Plans w) (hT : Tab w) :
    Calls Tryd.prog 12 #[.int .i64 d, .int .u32 x] w fun e w' => e = .returned (.tuple #[.int .u32 (Sob.at32 (Sob.wd d) idx : Nat), .int .i64 0]) ∧ Below w.heap.size w w' := by
  subst hx; exact at_any d hd idx hi w hP hT

/-- The block's first index. -/
theorem first_int (block K : Nat) (hb : block < 4294967296) : ((block : Int) / ((2 ^ K : Nat) : Int) * ((2 ^ K : Nat) : Int)) % 4294967296 = ((block / 2 ^ K * 2 ^ K : Nat) : Int) := by
  have h := Nat.div_mul_le_self block (2 ^ K)
  rw [← Int.natCast_ediv, ← Int.natCast_mul]
  omega
theorem first_lt (block K i : Nat) (hb : block < 4294967296) (hK : K ≤ 32) (hi : i < 2 ^ K) : block / 2 ^ K * 2 ^ K + i < 4294967296 := by
  have e : 4294967296 = 2 ^ (32 - K) * 2 ^ K := by rw [← Nat.pow_add, show 32 - K + K = 32 by omega]
  have h1 : block / 2 ^ K < 2 ^ (32 - K) := by
    rw [Nat.div_lt_iff_lt_mul (Nat.two_pow_pos K), ← e]; exact hb
  calc block / 2 ^ K * 2 ^ K + i < block / 2 ^ K * 2 ^ K + 2 ^ K := by omega
    _ = (block / 2 ^ K + 1) * 2 ^ K := by rw [Nat.add_mul, Nat.one_mul]
    _ ≤ 2 ^ (32 - K) * 2 ^ K := Nat.mul_le_mul_right _ h1
    _ = 4294967296 := e.symm
theorem pow_cast (K : Nat) : (2 : Int) ^ K = ((2 ^ K : Nat) : Int) := by rw [Int.natCast_pow]; rfl
theorem pow_small {K : Nat} (h : K ≤ 8) : 2 ^ K ≤ 256 := Nat.le_trans (Nat.pow_le_pow_right (by decide) h) (by decide)

theorem ofInt_i64 (a : Nat) (ha : a < 9223372036854775808) : (BitVec.ofInt 64 (a : Int)).toNat = a := by
  rw [BitVec.ofInt_natCast, BitVec.toNat_ofNat]; exact Nat.mod_eq_of_lt (by omega)
theorem i64_or_nat (a b : Nat) (ha : a < 9223372036854775808) (hb : b < 9223372036854775808) : bits .or .i64 (a : Int) (b : Int) = ((a ||| b : Nat) : Int) := by
  have hx : a ||| b < 2 ^ 63 := Nat.or_lt_two_pow (by omega) (by omega)
  show IntKind.i64.wrap ((BitVec.ofInt 64 (a : Int) ||| BitVec.ofInt 64 (b : Int)).toNat : Int) = _
  rw [BitVec.toNat_or, ofInt_i64 a ha, ofInt_i64 b hb, IntKind.wrap_i64]
  omega

theorem top_small (J A : Nat) (hA : A < 4294967296) (hJ : J ≤ 8) : Sob.top J A < 256 := by
  refine Nat.lt_of_lt_of_le (Sob.top_lt J A hA) (Nat.le_trans (Nat.pow_le_pow_right (by decide) hJ) (by decide))

theorem top_int (J A : Nat) (hA : A < 4294967296) (hJ : J ≤ 8) : wrap64 (IntKind.u64.wrap ((A : Int) * 2 ^ J) / 4294967296) = ((Sob.top J A : Nat) : Int) := by
  have h1 : A * 2 ^ J < 4294967296 * 256 := by
    refine Nat.lt_of_lt_of_le (Nat.mul_lt_mul_of_pos_right hA (Nat.two_pow_pos J)) (Nat.mul_le_mul_left _ ?_)
    exact Nat.le_trans (Nat.pow_le_pow_right (by decide) hJ) (by decide)
  rw [pow_cast J, ← Int.natCast_mul, IntKind.wrap_u64]
  unfold Sob.top
  generalize A * 2 ^ J = m at *
  unfold wrap64
  omega

theorem box_int (J K A C : Nat) (hA : A < 4294967296) (hC : C < 4294967296) (hJ : J ≤ K) (hK : K ≤ 8) :
    bits BinOp.or IntKind.i64 (wrap64 (wrap64 (IntKind.u64.wrap ((A : Int) * 2 ^ J) / 4294967296) * 2 ^ (K - J))) (wrap64 (IntKind.u64.wrap ((C : Int) * 2 ^ (K - J)) / 4294967296))
      = ((Sob.top J A * 2 ^ (K - J) ||| Sob.top (K - J) C : Nat) : Int) := by
  rw [top_int J A hA (by omega), top_int (K - J) C hC (by omega), pow_cast, ← Int.natCast_mul]
  have h1 := top_small J A hA (by omega)
  have h2 := top_small (K - J) C hC (by omega)
  have h3 : Sob.top J A * 2 ^ (K - J) ≤ 256 * 256 := Nat.mul_le_mul (by omega) (pow_small (by omega))
  generalize Sob.top J A * 2 ^ (K - J) = m at *
  have hw : wrap64 (m : Int) = (m : Int) := by unfold wrap64; omega
  rw [hw]
  exact i64_or_nat m _ (by omega) (by omega)

/-- What a round of the loop knows. -/
structure NIn (g : Nat → Nat) (M B n : Nat) (w wr : World) : Prop where
  hn : n ≤ M
  hB : w.heap.size ≤ B
  r : wr.rowIs B 4 M (fun x => .bool (seen g n x))
  b : Below w.heap.size w wr
  P : Plans wr
  T : Tab wr
  s : B < wr.heap.size

theorem NIn.start {g : Nat → Nat} {M : Nat} {w w1 : World} (hb : Below w.heap.size w w1) (hP : Plans w1) (hT : Tab w1) : NIn g M w1.heap.size 0 w (w1.alloc (.cells (madeCells #[.bool false] M) 4)) :=
  ⟨by omega, hb.size, World.rowIs_made _ _ _ _, hb.alloc hb.size _, hP.below ((Below.refl _ _).alloc (Nat.le_refl _) _), hT.below ((Below.refl _ _).alloc (Nat.le_refl _) _), by simp⟩
section
variable {g : Nat → Nat} {M B n : Nat} {w wr w' : World}
theorem NIn.below (h : NIn g M B n w wr) (hb : Below wr.heap.size wr w') : NIn g M B n w w' :=
  ⟨h.hn, h.hB, rowIs_below h.r hb h.s, h.b.trans (hb.mono h.b.size), h.P.below hb, h.T.below hb, Nat.lt_of_lt_of_le h.s hb.size⟩
theorem NIn.drewN (h : NIn g M B n w wr) (k : Nat) : NIn g M B n w (wr.drewN k) := ⟨h.hn, h.hB, h.r, below_drewN h.b k, h.P, h.T, h.s⟩
theorem NIn.step (h : NIn g M B n w wr) (hn : n < M) (h2 : 2 ≤ w.heap.size) : NIn g M B (n + 1) w (wr.setCell ⟨B, g n, none⟩ (.bool true)) := by
  have hB := h.hB
  have h2B : 2 ≤ B := Nat.le_trans h2 hB
  refine ⟨hn, hB, ?_, h.b.setCell hB _, plans_setCell h.P h2B _, tab_setCell h.T h2B _, by simpa using h.s⟩
  refine (h.r.set (g n) (.bool true)).congr fun x _ => ?_
  rw [seen_succ]
  by_cases hx : x = g n
  · subst hx; simp
  · have : (g n == x) = false := by simpa using fun e => hx e.symm
    simp [hx, this]
theorem NIn.free (h : NIn g M B n w wr) (hg : g n < M) (hne : ∀ i, i < n → g i ≠ g n) : wr.cell? ⟨B, g n, none⟩ = some (.bool false) := by
  rw [h.r.cell hg, seen_new g n hne]
theorem NIn.frozen (h : NIn g M B n w wr) (x : Nat) : wr.frozen? ⟨B, x, none⟩ = false := h.r.frozen x
end
end Go.Proofs.YtmgaonkmfdeohaaDoor
