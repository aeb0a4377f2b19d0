/- Shaken: Pa. -/
import Derived.Test.YtnljfcebmgifdaaGreatZGa
set_option linter.unusedVariables false
set_option linter.unusedSimpArgs false
namespace Go.Proofs.YtnljfcebmgifdaaGreat
theorem len53 {A : Nat} (h : A < 9007199254740992) : Fl.len A ≤ 53 := Fl.len_le_of_lt (by rw [show (2 : Nat) ^ 53 = 9007199254740992 by decide]; exact h)
theorem lt126 {B L k : Nat} (h : B < 2 ^ L) (hk : L + k ≤ 126) : B * 2 ^ k < 85070591730234615865843651857942052864 := by
 have h1 : B * 2 ^ k < 2 ^ L * 2 ^ k := Nat.mul_lt_mul_of_pos_right h (Nat.two_pow_pos k)
 rw [← Nat.pow_add] at h1
 have h2 : (2 : Nat) ^ (L + k) ≤ 2 ^ 126 := Nat.pow_le_pow_right (by decide) hk
 have h3 : (2 : Nat) ^ 126 = 85070591730234615865843651857942052864 := by decide
 omega
theorem norm126 {A : Nat} (h : A < 9007199254740992) : A * 2 ^ (126 - Fl.len A) < 85070591730234615865843651857942052864 :=
 lt126 (Fl.lt_len A) (by have := len53 h; omega)
theorem top126 {A : Nat} (h0 : A ≠ 0) (h : Fl.len A ≤ 126) : 42535295865117307932921825928971026432 ≤ A * 2 ^ (126 - Fl.len A) := by
 have h1 := Fl.pow_le_of_len h0
 have h2 : 2 ^ (Fl.len A - 1) * 2 ^ (126 - Fl.len A) ≤ A * 2 ^ (126 - Fl.len A) := Nat.mul_le_mul_right _ h1
 rw [← Nat.pow_add] at h2
 have h3 := Fl.len_pos h0
 rw [show Fl.len A - 1 + (126 - Fl.len A) = 125 by omega, show (2 : Nat) ^ 125 = 42535295865117307932921825928971026432 by decide] at h2
 exact h2
/-- The sum, or the difference, of words with one place. -/
def sumFin (na nb : Bool) (A1 B1 : Nat) (e1 : Int) (mb : Bool) : Bool × Nat × Int × Bool :=
 if (na == nb) = true then (na, A1 + B1, e1, mb)
 else if mb = true then (na, A1 - B1 - 1, e1, true)
 else if A1 < B1 then (nb, B1 - A1, e1, false)
 else (na, A1 - B1 - 0, e1, false)
/-- The sum of two that aren't nothing, the greater one first. -/
def sumCore (na nb : Bool) (A B : Nat) (ea eb : Int) : Bool × Nat × Int × Bool :=
 if ea + (Fl.len A : Int) - 126 < eb then sumFin na nb (A * 2 ^ (126 - Fl.len A)) (B * 2 ^ (eb - (ea + (Fl.len A : Int) - 126)).toNat) (ea + (Fl.len A : Int) - 126) false
 else sumFin na nb (A * 2 ^ (126 - Fl.len A)) (B / 2 ^ (ea + (Fl.len A : Int) - 126 - eb).toNat) (ea + (Fl.len A : Int) - 126) (B % 2 ^ (ea + (Fl.len A : Int) - 126 - eb).toNat != 0)
/-- The sum of any two. -/
def sumOf (na nb : Bool) (A B : Nat) (ea eb : Int) : Bool × Nat × Int × Bool :=
 if A = 0 then (nb, B, eb, false)
 else if B = 0 then (na, A, ea, false)
 else if ea + (Fl.len A : Int) < eb + (Fl.len B : Int) then sumCore nb na B A eb ea
 else sumCore na nb A B ea eb
/-- What 'to' and 'To' want of a word. -/
structure RoundOk (W : Nat) (e : Int) (more : Bool) : Prop where
 lt : W < 340282366920938463463374607431768211456
 zero : W = 0 → more = false
 more : more = true → 0 ≤ Fl.drop W (e + 1074)
 lo : -10000 ≤ e
 hi : e ≤ 971 ∨ (0 ≤ Fl.drop W (e + 1074) ∧ e ≤ 10000)
theorem len_ge {W k : Nat} (h : 2 ^ k ≤ W) : k < Fl.len W := by
 apply Nat.lt_of_not_le
 intro hh
 have h1 := Fl.lt_len W
 have h2 := Nat.pow_le_pow_right (show 0 < 2 by decide) hh
 omega
theorem sumFin_ok (na nb : Bool) (A1 B1 : Nat) (e1 : Int) (mb : Bool) (hA : A1 < 85070591730234615865843651857942052864) (hB : B1 < 85070591730234615865843651857942052864)
   (hge : mb = true → 42535295865117307932921825928971026432 ≤ A1 ∧ B1 < 9007199254740992) (he : -10000 ≤ e1) (he2 : e1 ≤ 971) :
   RoundOk (sumFin na nb A1 B1 e1 mb).2.1 (sumFin na nb A1 B1 e1 mb).2.2.1 (sumFin na nb A1 B1 e1 mb).2.2.2 := by
 have key : ∀ W : Nat, 42535295865117307932921825928971026432 ≤ W + 9007199254740993 → 0 ≤ Fl.drop W (e1 + 1074) ∧ W ≠ 0 := by
   intro W hW
   have h1 : 124 < Fl.len W := len_ge (by rw [show (2 : Nat) ^ 124 = 21267647932558653966460912964485513216 by decide]; omega)
   unfold Fl.drop
   exact ⟨by omega, by omega⟩
 unfold sumFin
 split
 · refine ⟨by show A1 + B1 < _; omega, ?_, ?_, he, .inl he2⟩
   · intro h
     show mb = false
     cases mb
     · rfl
     · have := hge rfl
       have h' : A1 + B1 = 0 := h
       omega
   · intro h
     have := hge h
     exact (key (A1 + B1) (by omega)).1
 · split
   · rename_i hm
     have := hge hm
     obtain ⟨k1, k2⟩ := key (A1 - B1 - 1) (by omega)
     exact ⟨by show A1 - B1 - 1 < _; omega, fun h => absurd h k2, fun _ => k1, he, .inl he2⟩
   · split
     · exact ⟨by show B1 - A1 < _; omega, fun _ => rfl, (fun h => by cases h), he, .inl he2⟩
     · exact ⟨by show A1 - B1 - 0 < _; omega, fun _ => rfl, (fun h => by cases h), he, .inl he2⟩
theorem sumCore_ok (na nb : Bool) (A B : Nat) (ea eb : Int) (hA : A < 9007199254740992) (hB : B < 9007199254740992) (hA0 : A ≠ 0) (hB0 : B ≠ 0) (hea : -1074 ≤ ea) (hea2 : ea ≤ 971) (heb : -1074 ≤ eb) (heb2 : eb ≤ 971) (hc : eb + (Fl.len B : Int) ≤ ea + Fl.len A) :
   RoundOk (sumCore na nb A B ea eb).2.1 (sumCore na nb A B ea eb).2.2.1 (sumCore na nb A B ea eb).2.2.2 := by
 have l1 := len53 hA
 have l3 := Fl.len_pos hA0
 unfold sumCore
 split
 · rename_i h
   refine sumFin_ok na nb _ _ _ false (norm126 hA) (lt126 (Fl.lt_len B) (by omega)) (fun h => by cases h) (by omega) (by omega)
 · have hb : B / 2 ^ (ea + (Fl.len A : Int) - 126 - eb).toNat < 9007199254740992 := Nat.lt_of_le_of_lt (Nat.div_le_self _ _) hB
   exact sumFin_ok na nb _ _ _ _ (norm126 hA) (by omega) (fun _ => ⟨top126 hA0 (by omega), hb⟩) (by omega) (by omega)
theorem mul_ok (a b : Nat) (fa : Fl.fin a = true) (fb : Fl.fin b = true) : RoundOk (Fl.sM a * Fl.sM b) (Fl.sE a + Fl.sE b) false := by
 have a1 := Fl.sM_lt a
 have b1 := Fl.sM_lt b
 have a2 := Fl.sE_ge a
 have b2 := Fl.sE_ge b
 have a3 := Fl.sE_le a fa
 have b3 := Fl.sE_le b fb
 have h : Fl.sM a * Fl.sM b ≤ 9007199254740992 * 9007199254740992 := Nat.mul_le_mul (Nat.le_of_lt a1) (Nat.le_of_lt b1)
 refine ⟨by omega, fun _ => rfl, (fun h => by cases h), by omega, ?_⟩
 by_cases hc : Fl.sE a + Fl.sE b ≤ 971
 · exact .inl hc
 · refine .inr ⟨?_, by omega⟩
   have key : ∀ x : Nat, -1074 < Fl.sE x → 4503599627370496 ≤ Fl.sM x := by
     intro x hx
     unfold Fl.sE at hx
     unfold Fl.sM
     split at hx
     · omega
     · rename_i h0
       rw [if_neg h0]; omega
   have k1 := key a (by omega)
   have k2 := key b (by omega)
   have h2 : 4503599627370496 * 4503599627370496 ≤ Fl.sM a * Fl.sM b := Nat.mul_le_mul k1 k2
   have h3 : 104 < Fl.len (Fl.sM a * Fl.sM b) := len_ge (by rw [show (2 : Nat) ^ 104 = 20282409603651670423947251286016 by decide]; omega)
   unfold Fl.drop
   omega
end Go.Proofs.YtnljfcebmgifdaaGreat
