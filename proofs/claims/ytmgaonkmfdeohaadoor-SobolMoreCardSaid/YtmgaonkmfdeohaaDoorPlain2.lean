/- Plain numbers of layer 5, the second part: the highest bits of the points of a block are all different, in one dimension and in the first two together. -/
import Derived.Test.YtmgaonkmfdeohaaDoorPlain
namespace Go.Proofs.YtmgaonkmfdeohaaDoor.Sob

/-- The highest k of 32 bits. -/
def top (k a : Nat) : Nat := a * 2 ^ k / 4294967296

theorem top_xor (k a b : Nat) : top k (a ^^^ b) = top k a ^^^ top k b := by
  unfold top
  rw [← Nat.shiftLeft_eq, ← Nat.shiftLeft_eq, ← Nat.shiftLeft_eq, Nat.shiftLeft_xor_distrib]
  rw [show (4294967296 : Nat) = 2 ^ 32 from rfl, ← Nat.shiftRight_eq_div_pow, ← Nat.shiftRight_eq_div_pow, ← Nat.shiftRight_eq_div_pow, Nat.shiftRight_xor_distrib]

theorem top_lt (k a : Nat) (ha : a < 4294967296) : top k a < 2 ^ k := by
  unfold top
  rw [Nat.div_lt_iff_lt_mul (by decide), Nat.mul_comm (2 ^ k)]
  exact Nat.mul_lt_mul_of_pos_right ha (Nat.two_pow_pos k)

theorem add_xor (q k i : Nat) (hi : i < 2 ^ k) : q * 2 ^ k + i = (q * 2 ^ k) ^^^ i := by
  apply Nat.eq_of_testBit_eq
  intro b
  rw [Nat.testBit_xor, Nat.mul_comm q, Nat.testBit_two_pow_mul_add _ hi, show 2 ^ k * q = 2 ^ k * q + 0 from rfl, Nat.testBit_two_pow_mul_add _ (Nat.two_pow_pos k)]
  by_cases h : b < k
  · simp [h]
  · simp only [h, if_false]
    rw [Nat.testBit_lt_two_pow (Nat.lt_of_lt_of_le hi (Nat.pow_le_pow_right (by decide) (by omega)))]
    simp

theorem xor_ne_zero {i j : Nat} (h : i ≠ j) : i ^^^ j ≠ 0 := by
  intro e
  apply h
  apply Nat.eq_of_testBit_eq
  intro b
  have := congrArg (fun x => x.testBit b) e
  simp only [Nat.testBit_xor, Nat.zero_testBit] at this
  cases hi : i.testBit b <;> cases hj : j.testBit b <;> simp_all

theorem xor_cancel (c x y : Nat) : (c ^^^ x) ^^^ (c ^^^ y) = x ^^^ y := by
  apply Nat.eq_of_testBit_eq
  intro b
  simp only [Nat.testBit_xor]
  cases c.testBit b <;> cases x.testBit b <;> cases y.testBit b <;> rfl

theorem xor_cancel' (c x y : Nat) : (x ^^^ c) ^^^ (y ^^^ c) = x ^^^ y := by
  rw [Nat.xor_comm x, Nat.xor_comm y, xor_cancel]

def evenAll : Bool := (List.range 8).all fun dim => (List.range 9).all fun k => (List.range (2 ^ k)).all fun n => n == 0 || top k (at32 (wd dim) n) != 0
theorem evenAll_true : evenAll = true := by decide +kernel

theorem even_at (dim k n : Nat) (hd : dim < 8) (hk : k ≤ 8) (hn : n < 2 ^ k) (h0 : n ≠ 0) : top k (at32 (wd dim) n) ≠ 0 := by
  have h := evenAll_true
  unfold evenAll at h
  rw [List.all_eq_true] at h
  have h1 := h dim (List.mem_range.2 hd)
  rw [List.all_eq_true] at h1
  have h2 := h1 k (List.mem_range.2 (by omega))
  rw [List.all_eq_true] at h2
  have h3 := h2 n (List.mem_range.2 hn)
  simpa [h0] using h3

def netAll : Bool := (List.range 9).all fun k => (List.range (k + 1)).all fun j => (List.range (2 ^ k)).all fun n => n == 0 || !(top j (at32 (wd 0) n) == 0 && top (k - j) (at32 (wd 1) n) == 0)
theorem netAll_true : netAll = true := by decide +kernel

theorem net_at (j k n : Nat) (hj : j ≤ k) (hk : k ≤ 8) (hn : n < 2 ^ k) (h0 : n ≠ 0) : ¬ (top j (at32 (wd 0) n) = 0 ∧ top (k - j) (at32 (wd 1) n) = 0) := by
  have h := netAll_true
  unfold netAll at h
  rw [List.all_eq_true] at h
  have h1 := h k (List.mem_range.2 (by omega))
  rw [List.all_eq_true] at h1
  have h2 := h1 j (List.mem_range.2 (by omega))
  rw [List.all_eq_true] at h2
  have h3 := h2 n (List.mem_range.2 hn)
  intro hh
  simp [h0, hh.1, hh.2] at h3

theorem xor_lt_pow {i j k : Nat} (hi : i < 2 ^ k) (hj : j < 2 ^ k) : i ^^^ j < 2 ^ k := Nat.xor_lt_two_pow hi hj

/-- Two points of one block differ in their highest bits: the exclusive-or of the tops is the top of a point of the first block. -/
theorem tops (dim k q i j : Nat) (hi : i < 2 ^ k) (hj : j < 2 ^ k) (t : Nat) : top t (at32 (wd dim) (q * 2 ^ k + i)) ^^^ top t (at32 (wd dim) (q * 2 ^ k + j)) = top t (at32 (wd dim) (i ^^^ j)) := by
  rw [add_xor q k i hi, add_xor q k j hj, at32_lin, at32_lin, at32_lin, top_xor, top_xor, top_xor, xor_cancel]

theorem eq_xor_zero {a b : Nat} (h : a = b) : a ^^^ b = 0 := by rw [h, Nat.xor_self]

theorem even_ne (dim k q i j : Nat) (hd : dim < 8) (hk : k ≤ 8) (hi : i < 2 ^ k) (hj : j < 2 ^ k) (hne : i ≠ j) :
    top k (at32 (wd dim) (q * 2 ^ k + i)) ≠ top k (at32 (wd dim) (q * 2 ^ k + j)) := by
  intro h
  have h1 := eq_xor_zero h
  rw [tops dim k q i j hi hj k] at h1
  exact even_at dim k _ hd hk (xor_lt_pow hi hj) (xor_ne_zero hne) h1

theorem top_scr (t dim x seed : Nat) : top t (scr dim x seed) = top t (at32 (wd dim) x) ^^^ top t (hash (seed ^^^ hash dim)) := by
  unfold scr; rw [top_xor]

theorem even_ne_scr (dim k q i j seed : Nat) (hd : dim < 8) (hk : k ≤ 8) (hi : i < 2 ^ k) (hj : j < 2 ^ k) (hne : i ≠ j) :
    top k (scr dim (q * 2 ^ k + i) seed) ≠ top k (scr dim (q * 2 ^ k + j) seed) := by
  intro h
  rw [top_scr, top_scr] at h
  have h1 := eq_xor_zero h
  rw [xor_cancel', tops dim k q i j hi hj k] at h1
  exact even_at dim k _ hd hk (xor_lt_pow hi hj) (xor_ne_zero hne) h1

/-- The box of a point of the first two dimensions. -/
def box (j k x seed : Nat) : Nat := top j (scr 0 x seed) * 2 ^ (k - j) ||| top (k - j) (scr 1 x seed)

theorem box_eq (j k x seed : Nat) : box j k x seed = top j (scr 0 x seed) * 2 ^ (k - j) + top (k - j) (scr 1 x seed) := by
  unfold box
  rw [Nat.mul_comm, ← Nat.two_pow_add_eq_or_of_lt (top_lt _ _ (scr_lt _ _ _))]

theorem box_lt (j k x seed : Nat) (hj : j ≤ k) : box j k x seed < 2 ^ k := by
  rw [box_eq]
  have h1 := top_lt j _ (scr_lt 0 x seed)
  have h2 := top_lt (k - j) _ (scr_lt 1 x seed)
  generalize top j (scr 0 x seed) = a at *
  generalize top (k - j) (scr 1 x seed) = b at *
  obtain ⟨d, rfl⟩ : ∃ d, k = j + d := ⟨k - j, by omega⟩
  rw [Nat.add_sub_cancel_left] at *
  rw [Nat.pow_add]
  calc a * 2 ^ d + b < a * 2 ^ d + 2 ^ d := by omega
    _ = (a + 1) * 2 ^ d := by rw [Nat.add_mul, Nat.one_mul]
    _ ≤ 2 ^ j * 2 ^ d := Nat.mul_le_mul_right _ h1

theorem box_ne (j k q i i' seed : Nat) (hj : j ≤ k) (hk : k ≤ 8) (hi : i < 2 ^ k) (hi' : i' < 2 ^ k) (hne : i ≠ i') :
    box j k (q * 2 ^ k + i) seed ≠ box j k (q * 2 ^ k + i') seed := by
  intro h
  rw [box_eq, box_eq] at h
  have h1 := top_lt (k - j) _ (scr_lt 1 (q * 2 ^ k + i) seed)
  have h2 := top_lt (k - j) _ (scr_lt 1 (q * 2 ^ k + i') seed)
  have ea : top j (scr 0 (q * 2 ^ k + i) seed) = top j (scr 0 (q * 2 ^ k + i') seed) := by
    have := congrArg (· / 2 ^ (k - j)) h
    simp only [Nat.mul_comm _ (2 ^ (k - j))] at this
    rw [Nat.mul_add_div (Nat.two_pow_pos _), Nat.mul_add_div (Nat.two_pow_pos _), Nat.div_eq_of_lt h1, Nat.div_eq_of_lt h2] at this
    simpa using this
  have eb : top (k - j) (scr 1 (q * 2 ^ k + i) seed) = top (k - j) (scr 1 (q * 2 ^ k + i') seed) := by
    rw [ea] at h
    exact Nat.add_left_cancel h
  rw [top_scr, top_scr] at ea eb
  have ea := eq_xor_zero ea
  have eb := eq_xor_zero eb
  rw [xor_cancel', tops _ k q i i' hi hi'] at ea eb
  exact net_at j k _ hj hk (xor_lt_pow hi hi') (xor_ne_zero hne) ⟨ea, eb⟩

end Go.Proofs.YtmgaonkmfdeohaaDoor.Sob
