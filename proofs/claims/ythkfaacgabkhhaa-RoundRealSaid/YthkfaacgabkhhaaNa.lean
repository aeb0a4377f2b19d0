/- The number above: none lies between; what is rounded down and what is rounded up are the same, or neighbours. -/
import Derived.Test.YthkfaacgabkhhaaNx
import Derived.Test.YthkfaacgabkhhaaGd
set_option linter.unusedVariables false
set_option linter.unusedSimpArgs false
namespace Go.Proofs.Ythkfaacgabkhhaa
open Go.RowKit Fl

/-- The number above, -0 told as 0. -/
def upV (b : Nat) : Nat := pl (Nb.aboveV b)
theorem Z_small {r : Nat} (h : r ≤ INF) : Z r = (rv r : Int) := by
  unfold Z
  rw [(Nb.small_mg h).1, (Nb.small_mg h).2, if_neg Bool.false_ne_true]
theorem Z_big {r : Nat} (h : r ≤ INF) : Z (SGN + r) = -(rv r : Int) := by
  unfold Z
  rw [(Nb.big_mg h).1, (Nb.big_mg h).2, if_pos rfl]
theorem rv_lt_of {r s : Nat} (h : (rv r : Int) < (rv s : Int)) : r < s := by
  have h' : rv r < rv s := by omega
  exact Nat.lt_of_not_le fun k => by have := rv_le k; omega
theorem rv_up {r s : Nat} (h : r ≤ s) : (rv r : Int) ≤ (rv s : Int) := Int.ofNat_le.2 (rv_le h)
theorem rv_st {r s : Nat} (h : r < s) : (rv r : Int) < (rv s : Int) := by
  have h1 : ¬ rv s ≤ rv r := fun k => by have := rv_le_iff.1 k; omega
  omega
theorem up_least {b : Nat} (hb : Gd b) (hp : b ≠ PI) : Gd (upV b) ∧ Z b < Z (upV b) ∧ ∀ c, Gd c → Z b < Z c → Z (upV b) ≤ Z c := by
  have hr := mg_le_inf hb
  have hS : SGN = 9223372036854775808 := rfl
  have hI : INF = 9218868437227405312 := rfl
  cases hs : sg b
  · have e : b = mg b := Nb.word_pos hb.lt hs
    have hlt : mg b < INF := by
      have : mg b ≠ INF := fun k => hp (e.trans (k.trans hI))
      omega
    have ea : Nb.aboveV b = mg b + 1 := by
      by_cases h0 : mg b = 0
      · rw [Nb.above_ze h0, h0]
      · exact (congrArg Nb.aboveV e).trans (Nb.above_po h0 hlt)
    have eu : upV b = mg b + 1 := by
      unfold upV pl
      rw [ea, if_neg (by omega)]
    have zb : Z b = (rv (mg b) : Int) := (congrArg Z e).trans (Z_small hr)
    have zu : Z (upV b) = (rv (mg b + 1) : Int) := by rw [eu]; exact Z_small (by omega)
    refine ⟨?_, ?_, ?_⟩
    · rw [eu]
      exact ⟨by omega, Nb.nan_of_mg (Nb.small_mg (by omega)).1 (by omega), by omega⟩
    · rw [zb, zu]; exact rv_st (Nat.lt_succ_self _)
    · intro c hc h
      have h0 : 0 ≤ (rv (mg b) : Int) := Int.natCast_nonneg _
      have zc := Z_nonneg_mg (b := c) (by omega)
      rw [zu, zc]
      rw [zb, zc] at h
      exact rv_up (rv_lt_of h)
  · have e : b = SGN + mg b := Nb.word_neg hb.lt hs
    have h0 : mg b ≠ 0 := fun k => hb.nz (e.trans (by rw [k]; rfl))
    have ea : Nb.aboveV b = SGN + (mg b - 1) := (congrArg Nb.aboveV e).trans (Nb.above_ne h0 hr)
    have zb : Z b = -(rv (mg b) : Int) := (congrArg Z e).trans (Z_big hr)
    have zu : Z (upV b) = -(rv (mg b - 1) : Int) := by
      unfold upV
      rw [Z_pl, ea]; exact Z_big (by omega)
    refine ⟨?_, ?_, ?_⟩
    · unfold upV pl
      rw [ea]
      by_cases h1 : mg b = 1
      · rw [if_pos (by omega)]; exact ⟨by decide, by decide, by decide⟩
      · rw [if_neg (by omega)]
        exact ⟨by omega, Nb.nan_of_mg (Nb.big_mg (by omega)).1 (by omega), by omega⟩
    · rw [zb, zu]
      have := rv_st (show mg b - 1 < mg b by omega)
      omega
    · intro c hc h
      rw [zu]
      rw [zb] at h
      by_cases hz : 0 ≤ Z c
      · have : 0 ≤ (rv (mg b - 1) : Int) := Int.natCast_nonneg _
        omega
      · have zc := Z_neg_mg (b := c) (by omega)
        rw [zc] at h ⊢
        have := rv_lt_of (r := mg c) (s := mg b) (by omega)
        have := rv_up (show mg c ≤ mg b - 1 by omega)
        omega
/-- Down and up: the same, or neighbours. -/
def Nbr (R Q : Nat) : Prop := Z R = Z Q ∨ (Z R < Z Q ∧ Z (upV R) = Z Q)
theorem nbr_rd {R Q : Nat} {x : Rat} (h : RD R x) (k : RU Q x) : Nbr R Q := by
  obtain ⟨g, l, m⟩ := up_least h.gd h.np
  have hle : Z R ≤ Z Q := by
    rcases h.lo with e | e
    · rw [e, Z_NI]; exact (Z_range k.gd.nn).1
    · rcases k.hi with f | f
      · rw [f, Z_PI]; exact (Z_range h.gd.nn).2
      · exact fv_le.1 (Rat.le_trans e f)
  by_cases hz : Z R = Z Q
  · exact Or.inl hz
  · refine Or.inr ⟨by omega, Int.le_antisymm (m Q k.gd (by omega)) ?_⟩
    have hN : upV R ≠ NI := fun e => by
      rw [e, Z_NI] at l
      have := (Z_range h.gd.nn).1
      omega
    refine k.le _ g hN ?_
    by_cases hP : upV R = PI
    · exact Or.inl hP
    · right
      rcases Rat.le_total (a := x) (b := fv (upV R)) with a | a
      · exact a
      · exact absurd (h.gr _ g hP (Or.inr a)) (by omega)
theorem nbr_qd {R Q a : Nat} (h : QD R a) (k : QU Q a) : Nbr R Q := by
  obtain ⟨g, l, m⟩ := up_least h.gd h.np
  have hle : Z R ≤ Z Q := by
    rcases k.hi with f | f
    · rw [f, Z_PI]; exact (Z_range h.gd.nn).2
    · have := Int.le_trans h.lo f
      by_cases c : Z R ≤ Z Q
      · exact c
      · have h1 := k.nn
        have h2 : Z Q * Z Q < Z R * Z R := by
          have a1 : Z Q * Z Q ≤ Z Q * Z R := Int.mul_le_mul_of_nonneg_left (by omega) h1
          have a2 : Z Q * Z R < Z R * Z R := Int.mul_lt_mul_of_pos_right (by omega) (by omega)
          omega
        omega
  by_cases hz : Z R = Z Q
  · exact Or.inl hz
  · refine Or.inr ⟨by omega, Int.le_antisymm (m Q k.gd (by omega)) ?_⟩
    have := h.nn
    refine k.le _ g (by omega) ?_
    by_cases hP : upV R = PI
    · exact Or.inl hP
    · right
      rcases Int.le_total (Z a * (2 ^ BB : Nat)) (Z (upV R) * Z (upV R)) with c | c
      · exact c
      · exact absurd (h.gr _ g hP c) (by omega)
/-- Down and up are the same just if they are the number itself. -/
theorem same_rd {R Q : Nat} {x : Rat} (h : RD R x) (k : RU Q x) (f : fin R = true) : Z R = Z Q ↔ x = fv R := by
  have hN : R ≠ NI := fun e => by rw [e] at f; exact absurd f (by decide)
  have hP : R ≠ PI := h.np
  have lo : fv R ≤ x := h.lo.resolve_left hN
  constructor
  · intro e
    have : Q = R := k.gd.inj h.gd e.symm
    have hi : x ≤ fv R := by
      have := k.hi
      rw [‹Q = R›] at this
      exact this.resolve_left hP
    exact Rat.le_antisymm hi lo
  · intro e
    have h1 := k.le R h.gd hN (Or.inr (by rw [e]; exact Rat.le_refl))
    have h2 : Z R ≤ Z Q := by
      rcases k.hi with f | f
      · rw [f, Z_PI]; exact (Z_range h.gd.nn).2
      · rw [e] at f; exact fv_le.1 f
    omega
end Go.Proofs.Ythkfaacgabkhhaa
