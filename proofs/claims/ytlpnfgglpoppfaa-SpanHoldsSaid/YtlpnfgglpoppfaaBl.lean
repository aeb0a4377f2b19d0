/- Numbers without rounding as rational numbers: the contracts of lanternhand's functions (spans' layer). -/
import Derived.Test.YtlpnfgglpoppfaaGh
import Derived.Test.YtlpnfgglpoppfaaGd
import Derived.Test.YtlpnfgglpoppfaaQh
set_option linter.unusedVariables false
set_option linter.unusedSimpArgs false
namespace Go.Proofs.Ytlpnfgglpoppfaa
open Go.RowKit Fl

def KK : Rat := ((2 ^ k39 : Nat) : Rat)
theorem KK_pos : 0 < KK := Rat.natCast_pos.2 (Nat.two_pow_pos _)
def PP : Rat := ((2 ^ k5 : Nat) : Rat)
theorem PP_pos : 0 < PP := Rat.natCast_pos.2 (Nat.two_pow_pos _)
theorem PP_eq : PP = UU * KK := by
  unfold PP UU KK
  rw [← Rat.natCast_mul, ← Nat.pow_add]
  have : k5 = BB + k39 := by rw [BB_eq]; rfl
  rw [this]
/-- b stands for the rational number x; so many words, powers from lo to hi. -/
structure Rp (b : Bg) (x : Rat) (L : Nat) (lo hi : Int) : Prop where
  rep : (b.z : Rat) = x * PP
  len : b.ws.length ≤ L
  lo : lo ≤ b.e
  hi : b.e ≤ hi
theorem Rp.bnd {b : Bg} {x : Rat} {L : Nat} {lo hi : Int} (h : Rp b x L lo hi) (h1 : L ≤ 400) (h2 : -5000 ≤ lo) (h3 : hi ≤ 5000) : Bnd b :=
  ⟨Nat.le_trans h.len h1, Int.le_trans h2 h.lo, Int.le_trans h.hi h3⟩
theorem fv_UU (p : Nat) : fv p * UU = (Z p : Rat) := by unfold fv; exact Rat.div_mul_cancel UU_ne
theorem ofB_rep (p : Nat) : ((ofB p).z : Rat) = fv p * PP := by
  rw [ofB_z, Rat.intCast_mul, PP_eq, ← Rat.mul_assoc, fv_UU]; rfl
theorem ofB_rp {p : Nat} (h : fin p = true) : Rp (ofB p) (fv p) 2 (-1074) 971 :=
  ⟨ofB_rep p, Nat.le_refl _, sE_ge p, sE_le p h⟩
theorem rep_le {a b : Bg} {x y : Rat} (ha : (a.z : Rat) = x * PP) (hb : (b.z : Rat) = y * PP) : a.z < b.z ↔ x < y := by
  rw [← Rat.intCast_lt_intCast, ha, hb]
  constructor
  · intro h; exact Rat.lt_of_mul_lt_mul_right h (Rat.le_of_lt PP_pos)
  · intro h; exact Rat.mul_lt_mul_of_pos_right h PP_pos
theorem of_rp {p : Nat} (hp : p < 18446744073709551616) (h : fin p = true) (w : World) :
    Calls Try.prog 36 #[.float .f64 p] w fun r w' => ∃ b g c, r = .returned (bgv b g c) ∧ RL w' g b.ws ∧ Rp b (fv p) 2 (-1074) 971 ∧ Below w.heap.size w w' :=
  (of_big p hp w).mono fun _ _ ⟨g, c, e, hr, _, hb⟩ => ⟨ofB p, g, c, e, hr, ofB_rp h, hb⟩
theorem add_rp {a b : Bg} {x y : Rat} {La Lb : Nat} {lo hi : Int} {w : World} {g h : Nat} (ha : RL w g a.ws) (hb : RL w h b.ws) (c d : Nat) (ra : Rp a x La lo hi) (rb : Rp b y Lb lo hi) (h1 : La ≤ 400) (h2 : Lb ≤ 400) (h3 : -5000 ≤ lo) (h4 : hi ≤ 5000) :
    Calls Try.prog 42 #[bgv a g c, bgv b h d] w fun r w' => ∃ s g c, r = .returned (bgv s g c) ∧ RL w' g s.ws ∧ Rp s (x + y) (2 * ((hi - lo).toNat / 32) + La + Lb + 2) lo hi ∧ Below w.heap.size w w' := by
  refine (addB_any ha hb c d (ra.bnd h1 h3 h4) (rb.bnd h2 h3 h4)).mono ?_
  rintro r w' ⟨s, hz, he, e1, e2, hl, g, c, rfl, hr, _, hb⟩
  refine ⟨s, g, c, rfl, hr, ⟨?_, ?_, ?_, ?_⟩, hb⟩
  · rw [hz, Rat.intCast_add, ra.rep, rb.rep, Rat.add_mul]
  · have := ra.len; have := rb.len; have := ra.lo; have := rb.lo; have := ra.hi; have := rb.hi
    omega
  · have := ra.lo; have := rb.lo; omega
  · have := ra.hi; have := rb.hi; omega
theorem sub_rp {a b : Bg} {x y : Rat} {La Lb : Nat} {lo hi : Int} {w : World} {g h : Nat} (ha : RL w g a.ws) (hb : RL w h b.ws) (c d : Nat) (ra : Rp a x La lo hi) (rb : Rp b y Lb lo hi) (h1 : La ≤ 400) (h2 : Lb ≤ 400) (h3 : -5000 ≤ lo) (h4 : hi ≤ 5000) :
    Calls Try.prog 43 #[bgv a g c, bgv b h d] w fun r w' => ∃ s g c, r = .returned (bgv s g c) ∧ RL w' g s.ws ∧ Rp s (x - y) (2 * ((hi - lo).toNat / 32) + La + Lb + 2) lo hi ∧ Below w.heap.size w w' := by
  refine (subB_any ha hb c d (ra.bnd h1 h3 h4) (rb.bnd h2 h3 h4)).mono ?_
  rintro r w' ⟨s, hz, he, e1, e2, hl, g, c, rfl, hr, _, hb⟩
  have eo : b.opp.e = b.e := rfl
  have lo' : b.opp.ws.length = b.ws.length := rfl
  rw [eo] at he e2 hl
  rw [lo'] at hl
  refine ⟨s, g, c, rfl, hr, ⟨?_, ?_, ?_, ?_⟩, hb⟩
  · rw [hz, Bg.z_opp, Rat.intCast_add, Rat.intCast_neg, ra.rep, rb.rep]; grind
  · have := ra.len; have := rb.len; have := ra.lo; have := rb.lo; have := ra.hi; have := rb.hi
    omega
  · have := ra.lo; have := rb.lo; omega
  · have := ra.hi; have := rb.hi; omega
theorem mul_rp {a b : Bg} {x y : Rat} {La Lb : Nat} {loa hia lob hib : Int} {w : World} {g h : Nat} (ha : RL w g a.ws) (hb : RL w h b.ws) (c d : Nat) (ra : Rp a x La loa hia) (rb : Rp b y Lb lob hib) (h1 : La ≤ 400) (h2 : Lb ≤ 400) (h3 : -2500 ≤ loa) (h4 : hia ≤ 2500) (h5 : -2500 ≤ lob) (h6 : hib ≤ 2500) :
    Calls Try.prog 44 #[bgv a g c, bgv b h d] w fun r w' => ∃ s g c, r = .returned (bgv s g c) ∧ RL w' g s.ws ∧ Rp s (x * y) (La + Lb + 1) (loa + lob) (hia + hib) ∧ Below w.heap.size w w' := by
  refine (mulB_any ha hb c d (ra.bnd h1 (by omega) (by omega)) (rb.bnd h2 (by omega) (by omega))).mono ?_
  rintro r w' ⟨⟨sn, sw, se⟩, hn, he, hv, hl, g, c, rfl, hr, _, hb⟩
  simp only at hn he hv hl hr
  subst hn he
  refine ⟨_, g, c, rfl, hr, ⟨?_, ?_, ?_, ?_⟩, hb⟩
  · have hz := Bg.z_mul (a := a) (b := b) (out := sw) (by have := ra.lo; omega) (by have := rb.lo; omega) (by have := ra.lo; have := rb.lo; omega) hv
    generalize Bg.z ⟨a.neg != b.neg, sw, a.e + b.e⟩ = z at *
    have hz' : (z : Rat) * PP = (a.z : Rat) * (b.z : Rat) := by
      rw [← Rat.intCast_mul, ← hz, Rat.intCast_mul]; rfl
    rw [ra.rep, rb.rep] at hz'
    have hp := PP_pos
    have hne : PP ≠ 0 := Rat.ne_of_gt hp
    have e1 : (z : Rat) * PP = (x * y * PP) * PP := by rw [hz']; grind
    exact Rat.le_antisymm (Rat.le_of_mul_le_mul_right (by rw [e1]; exact Rat.le_refl) hp) (Rat.le_of_mul_le_mul_right (by rw [e1]; exact Rat.le_refl) hp)
  · have := ra.len; have := rb.len; show sw.length ≤ _; omega
  · have := ra.lo; have := rb.lo; show loa + lob ≤ a.e + b.e; omega
  · have := ra.hi; have := rb.hi; show a.e + b.e ≤ hia + hib; omega
theorem btw_any {a : Bg} {w : World} {g : Nat} (ha : RL w g a.ws) (c : Nat) (na : Bnd a) {lo hi : Nat} (hl : lo < 18446744073709551616) (hh : hi < 18446744073709551616)
    (u : lo = 18442240474082181120 ∨ (fin lo = true ∧ ¬ a.z < (ofB lo).z)) (o : hi = 9218868437227405312 ∨ (fin hi = true ∧ ¬ (ofB hi).z < a.z)) :
    Calls Try.prog 41 #[bgv a g c, .float .f64 lo, .float .f64 hi] w fun r w' => r = .returned (.bool true) ∧ Below w.heap.size w w' := by
  rcases u with rfl | ⟨f1, u⟩ <;> rcases o with rfl | ⟨f2, o⟩
  · exact btw_np ha c na
  · exact btw_nf ha c na hh f2 o
  · exact btw_fp ha c na hl f1 u
  · exact btw_ff ha c na hl f1 u hh f2 o
/-- A number that lies in a span lies between its ends. -/
theorem btw_rp {a : Bg} {x : Rat} {L : Nat} {lo hi : Int} {s : Sp} {w : World} {g : Nat} (ha : RL w g a.ws) (c : Nat) (ra : Rp a x L lo hi) (h1 : L ≤ 400) (h2 : -5000 ≤ lo) (h3 : hi ≤ 5000) (hs : InS x s) :
    Calls Try.prog 41 #[bgv a g c, .float .f64 s.lo, .float .f64 s.hi] w fun r w' => r = .returned (.bool true) ∧ Below w.heap.size w w' := by
  refine btw_any ha c (ra.bnd h1 h2 h3) s.vd.l.lt s.vd.h.lt ?_ ?_
  · by_cases e : s.lo = 18442240474082181120
    · exact Or.inl e
    · refine Or.inr ⟨fin_Z s.vd.l.nn ?_ ?_, ?_⟩
      · have := (Z_range s.vd.l.nn).1
        have : Z s.lo ≠ -(rv INF : Int) := fun k => e (Z_eq_NI s.vd.l k)
        omega
      · have := (Z_range s.vd.l.nn).2
        have : Z s.lo ≠ (rv INF : Int) := fun k => s.vd.li (Z_eq_PI s.vd.l k)
        omega
      · rw [rep_le ra.rep (ofB_rep s.lo)]
        rcases hs.lo with k | k
        · exact absurd k e
        · exact Rat.not_lt.2 k
  · by_cases e : s.hi = 9218868437227405312
    · exact Or.inl e
    · refine Or.inr ⟨fin_Z s.vd.h.nn ?_ ?_, ?_⟩
      · have := (Z_range s.vd.h.nn).1
        have : Z s.hi ≠ -(rv INF : Int) := fun k => s.vd.hi (Z_eq_NI s.vd.h k)
        omega
      · have := (Z_range s.vd.h.nn).2
        have : Z s.hi ≠ (rv INF : Int) := fun k => e (Z_eq_PI s.vd.h k)
        omega
      · rw [rep_le (ofB_rep s.hi) ra.rep]
        rcases hs.hi with k | k
        · exact absurd k e
        · exact Rat.not_lt.2 k
theorem InP.ins {a : Sp} {p : Nat} (k : InP a p) : InS (fv p) a := ⟨Or.inr (fv_le.2 k.ge), Or.inr (fv_le.2 k.le)⟩
end Go.Proofs.Ytlpnfgglpoppfaa
