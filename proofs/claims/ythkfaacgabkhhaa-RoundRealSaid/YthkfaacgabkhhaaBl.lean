/- Numbers without rounding as rational numbers: the contracts of lanternhand's functions (spans' layer). -/
import Derived.Test.YthkfaacgabkhhaaGh
import Derived.Test.YthkfaacgabkhhaaGd
set_option linter.unusedVariables false
set_option linter.unusedSimpArgs false
namespace Go.Proofs.Ythkfaacgabkhhaa
open Go.RowKit Fl

def KK : Rat := ((2 ^ k39 : Nat) : Rat)
theorem KK_pos : 0 < KK := Rat.natCast_pos.2 (Nat.two_pow_pos _)
def PP : Rat := ((2 ^ k5 : Nat) : Rat)
theorem PP_pos : 0 < PP := Rat.natCast_pos.2 (Nat.two_pow_pos _)
theorem PP_eq : PP = UU * KK := by
  unfold PP UU KK
  rw [← Rat.natCast_mul, ← Nat.pow_add]
  have : k5 = BB + k39 := by rw [BB_eq]; rfl
  rw [this]
/-- b stands for the rational number x; so many words, powers from lo to hi. -/
structure Rp (b : Bg) (x : Rat) (L : Nat) (lo hi : Int) : Prop where
  rep : (b.z : Rat) = x * PP
  len : b.ws.length ≤ L
  lo : lo ≤ b.e
  hi : b.e ≤ hi
theorem Rp.bnd {b : Bg} {x : Rat} {L : Nat} {lo hi : Int} (h : Rp b x L lo hi) (h1 : L ≤ 400) (h2 : -5000 ≤ lo) (h3 : hi ≤ 5000) : Bnd b :=
  ⟨Nat.le_trans h.len h1, Int.le_trans h2 h.lo, Int.le_trans h.hi h3⟩
theorem fv_UU (p : Nat) : fv p * UU = (Z p : Rat) := by unfold fv; exact Rat.div_mul_cancel UU_ne
theorem ofB_rep (p : Nat) : ((ofB p).z : Rat) = fv p * PP := by
  rw [ofB_z, Rat.intCast_mul, PP_eq, ← Rat.mul_assoc, fv_UU]; rfl
theorem ofB_rp {p : Nat} (h : fin p = true) : Rp (ofB p) (fv p) 2 (-1074) 971 :=
  ⟨ofB_rep p, Nat.le_refl _, sE_ge p, sE_le p h⟩
theorem rep_le {a b : Bg} {x y : Rat} (ha : (a.z : Rat) = x * PP) (hb : (b.z : Rat) = y * PP) : a.z < b.z ↔ x < y := by
  rw [← Rat.intCast_lt_intCast, ha, hb]
  constructor
  · intro h; exact Rat.lt_of_mul_lt_mul_right h (Rat.le_of_lt PP_pos)
  · intro h; exact Rat.mul_lt_mul_of_pos_right h PP_pos
theorem of_rp {p : Nat} (hp : p < 18446744073709551616) (h : fin p = true) (w : World) :
    Calls Try.prog 22 #[.float .f64 p] w fun r w' => ∃ b g c, r = .returned (bgv b g c) ∧ RL w' g b.ws ∧ Rp b (fv p) 2 (-1074) 971 ∧ Below w.heap.size w w' :=
  (of_big p hp w).mono fun _ _ ⟨g, c, e, hr, _, hb⟩ => ⟨ofB p, g, c, e, hr, ofB_rp h, hb⟩
theorem add_rp {a b : Bg} {x y : Rat} {La Lb : Nat} {lo hi : Int} {w : World} {g h : Nat} (ha : RL w g a.ws) (hb : RL w h b.ws) (c d : Nat) (ra : Rp a x La lo hi) (rb : Rp b y Lb lo hi) (h1 : La ≤ 400) (h2 : Lb ≤ 400) (h3 : -5000 ≤ lo) (h4 : hi ≤ 5000) :
    Calls Try.prog 30 #[bgv a g c, bgv b h d] w fun r w' => ∃ s g c, r = .returned (bgv s g c) ∧ RL w' g s.ws ∧ Rp s (x + y) (2 * ((hi - lo).toNat / 32) + La + Lb + 2) lo hi ∧ Below w.heap.size w w' := by
  refine (addB_any ha hb c d (ra.bnd h1 h3 h4) (rb.bnd h2 h3 h4)).mono ?_
  rintro r w' ⟨s, hz, he, e1, e2, hl, g, c, rfl, hr, _, hb⟩
  refine ⟨s, g, c, rfl, hr, ⟨?_, ?_, ?_, ?_⟩, hb⟩
  · rw [hz, Rat.intCast_add, ra.rep, rb.rep, Rat.add_mul]
  · have := ra.len; have := rb.len; have := ra.lo; have := rb.lo; have := ra.hi; have := rb.hi
    omega
  · have := ra.lo; have := rb.lo; omega
  · have := ra.hi; have := rb.hi; omega
theorem sub_rp {a b : Bg} {x y : Rat} {La Lb : Nat} {lo hi : Int} {w : World} {g h : Nat} (ha : RL w g a.ws) (hb : RL w h b.ws) (c d : Nat) (ra : Rp a x La lo hi) (rb : Rp b y Lb lo hi) (h1 : La ≤ 400) (h2 : Lb ≤ 400) (h3 : -5000 ≤ lo) (h4 : hi ≤ 5000) :
    Calls Try.prog 33 #[bgv a g c, bgv b h d] w fun r w' => ∃ s g c, r = .returned (bgv s g c) ∧ RL w' g s.ws ∧ Rp s (x - y) (2 * ((hi - lo).toNat / 32) + La + Lb + 2) lo hi ∧ Below w.heap.size w w' := by
  refine (subB_any ha hb c d (ra.bnd h1 h3 h4) (rb.bnd h2 h3 h4)).mono ?_
  rintro r w' ⟨s, hz, he, e1, e2, hl, g, c, rfl, hr, _, hb⟩
  have eo : b.opp.e = b.e := rfl
  have lo' : b.opp.ws.length = b.ws.length := rfl
  rw [eo] at he e2 hl
  rw [lo'] at hl
  refine ⟨s, g, c, rfl, hr, ⟨?_, ?_, ?_, ?_⟩, hb⟩
  · rw [hz, Bg.z_opp, Rat.intCast_add, Rat.intCast_neg, ra.rep, rb.rep]; grind
  · have := ra.len; have := rb.len; have := ra.lo; have := rb.lo; have := ra.hi; have := rb.hi
    omega
  · have := ra.lo; have := rb.lo; omega
  · have := ra.hi; have := rb.hi; omega
theorem mul_rep {x y : Rat} {A B z : Int} (ha : (A : Rat) = x * PP) (hb : (B : Rat) = y * PP) (hz : z * ((2 ^ k5 : Nat) : Int) = A * B) : (z : Rat) = x * y * PP := by
  have hz' : (z : Rat) * PP = (A : Rat) * (B : Rat) := by
    rw [← Rat.intCast_mul, ← hz, Rat.intCast_mul]; rfl
  rw [ha, hb] at hz'
  have hp := PP_pos
  have e1 : (z : Rat) * PP = (x * y * PP) * PP := by rw [hz']; grind
  exact Rat.le_antisymm (Rat.le_of_mul_le_mul_right (by rw [e1]; exact Rat.le_refl) hp) (Rat.le_of_mul_le_mul_right (by rw [e1]; exact Rat.le_refl) hp)
theorem mul_rp {a b : Bg} {x y : Rat} {La Lb : Nat} {loa hia lob hib : Int} {w : World} {g h : Nat} (ha : RL w g a.ws) (hb : RL w h b.ws) (c d : Nat) (ra : Rp a x La loa hia) (rb : Rp b y Lb lob hib) (h1 : La ≤ 400) (h2 : Lb ≤ 400) (h3 : -2500 ≤ loa) (h4 : hia ≤ 2500) (h5 : -2500 ≤ lob) (h6 : hib ≤ 2500) :
    Calls Try.prog 25 #[bgv a g c, bgv b h d] w fun r w' => ∃ s g c, r = .returned (bgv s g c) ∧ RL w' g s.ws ∧ Rp s (x * y) (La + Lb + 1) (loa + lob) (hia + hib) ∧ Below w.heap.size w w' := by
  refine (mulB_any ha hb c d (ra.bnd h1 (by omega) (by omega)) (rb.bnd h2 (by omega) (by omega))).mono ?_
  rintro r w' ⟨⟨sn, sw, se⟩, hn, he, hv, hl, g, c, rfl, hr, _, hb⟩
  simp only at hn he hv hl hr
  subst hn he
  refine ⟨_, g, c, rfl, hr, ⟨?_, ?_, ?_, ?_⟩, hb⟩
  · exact mul_rep ra.rep rb.rep (Bg.z_mul (a := a) (b := b) (out := sw) (by have := ra.lo; omega) (by have := rb.lo; omega) (by have := ra.lo; have := rb.lo; omega) hv)
  · have := ra.len; have := rb.len; show sw.length ≤ _; omega
  · have := ra.lo; have := rb.lo; show loa + lob ≤ a.e + b.e; omega
  · have := ra.hi; have := rb.hi; show a.e + b.e ≤ hia + hib; omega
/-- A number in a slot: its words in block g. -/
def BigG (w : World) (v : Value) (g : Nat) (x : Rat) (L : Nat) (lo hi : Int) : Prop := ∃ b c, v = bgv b g c ∧ RL w g b.ws ∧ Rp b x L lo hi
theorem BigG.below {w w' : World} {v : Value} {g : Nat} {x : Rat} {L : Nat} {lo hi : Int} (h : BigG w v g x L lo hi) (hb : Below w.heap.size w w') : BigG w' v g x L lo hi := by
  obtain ⟨b, c, e, hr, hp⟩ := h
  exact ⟨b, c, e, hr.below' hb, hp⟩
theorem BigG.lt {w : World} {v : Value} {g : Nat} {x : Rat} {L : Nat} {lo hi : Int} (h : BigG w v g x L lo hi) : g < w.heap.size := by
  obtain ⟨b, c, e, hr, hp⟩ := h
  exact hr.lt
theorem add_rq {a b : Bg} {x y : Rat} {La Lb : Nat} {lo hi : Int} {w : World} {g h : Nat} (ha : RL w g a.ws) (hb : RL w h b.ws) (c d : Nat) (ra : Rp a x La lo hi) (rb : Rp b y Lb lo hi) (h1 : La ≤ 400) (h2 : Lb ≤ 400) (h3 : -5000 ≤ lo) (h4 : hi ≤ 5000) :
    Calls Try.prog 30 #[bgv a g c, bgv b h d] w fun r w' => ∃ v g, r = .returned v ∧ BigG w' v g (x + y) (2 * ((hi - lo).toNat / 32) + La + Lb + 2) lo hi ∧ w.heap.size ≤ g ∧ Below w.heap.size w w' := by
  refine (addB_any ha hb c d (ra.bnd h1 h3 h4) (rb.bnd h2 h3 h4)).mono ?_
  rintro r w' ⟨s, hz, he, e1, e2, hl, g, c, rfl, hr, hge, hb⟩
  refine ⟨_, g, rfl, ⟨s, c, rfl, hr, ⟨?_, ?_, ?_, ?_⟩⟩, hge, hb⟩
  · rw [hz, Rat.intCast_add, ra.rep, rb.rep, Rat.add_mul]
  · have := ra.len; have := rb.len; have := ra.lo; have := rb.lo; have := ra.hi; have := rb.hi
    omega
  · have := ra.lo; have := rb.lo; omega
  · have := ra.hi; have := rb.hi; omega
theorem mul_rq {a b : Bg} {x y : Rat} {La Lb : Nat} {loa hia lob hib : Int} {w : World} {g h : Nat} (ha : RL w g a.ws) (hb : RL w h b.ws) (c d : Nat) (ra : Rp a x La loa hia) (rb : Rp b y Lb lob hib) (h1 : La ≤ 400) (h2 : Lb ≤ 400) (h3 : -2500 ≤ loa) (h4 : hia ≤ 2500) (h5 : -2500 ≤ lob) (h6 : hib ≤ 2500) :
    Calls Try.prog 25 #[bgv a g c, bgv b h d] w fun r w' => ∃ v g, r = .returned v ∧ BigG w' v g (x * y) (La + Lb + 1) (loa + lob) (hia + hib) ∧ w.heap.size ≤ g ∧ Below w.heap.size w w' := by
  refine (mulB_any ha hb c d (ra.bnd h1 (by omega) (by omega)) (rb.bnd h2 (by omega) (by omega))).mono ?_
  rintro r w' ⟨⟨sn, sw, se⟩, hn, he, hv, hl, g, c, rfl, hr, hge, hb⟩
  simp only at hn he hv hl hr
  subst hn he
  refine ⟨_, g, rfl, ⟨_, c, rfl, hr, ⟨?_, ?_, ?_, ?_⟩⟩, hge, hb⟩
  · exact mul_rep ra.rep rb.rep (Bg.z_mul (a := a) (b := b) (out := sw) (by have := ra.lo; omega) (by have := rb.lo; omega) (by have := ra.lo; have := rb.lo; omega) hv)
  · have := ra.len; have := rb.len; show sw.length ≤ _; omega
  · have := ra.lo; have := rb.lo; show loa + lob ≤ a.e + b.e; omega
  · have := ra.hi; have := rb.hi; show a.e + b.e ≤ hia + hib; omega
theorem less_rp {a b : Bg} {x y : Rat} {La Lb : Nat} {loa hia lob hib : Int} {w : World} {g h : Nat} (ha : RL w g a.ws) (hb : RL w h b.ws) (c d : Nat) (ra : Rp a x La loa hia) (rb : Rp b y Lb lob hib) (h1 : La ≤ 400) (h2 : Lb ≤ 400) (h3 : -5000 ≤ loa) (h4 : hia ≤ 5000) (h5 : -5000 ≤ lob) (h6 : hib ≤ 5000) (hn : y ≤ x) :
    Calls Try.prog 24 #[bgv a g c, bgv b h d] w fun r w' => r = .returned (.bool false) ∧ Below w.heap.size w w' :=
  less_no (by rw [rep_le ra.rep rb.rep]; exact Rat.not_lt.2 hn) ha hb c d (ra.bnd h1 h3 h4) (rb.bnd h2 h5 h6)
/-- The sign of a difference: 0 just if the two are the same. -/
theorem sgn_rp {a : Bg} {x : Rat} {L : Nat} {lo hi : Int} {w : World} {g : Nat} (ha : RL w g a.ws) (c : Nat) (ra : Rp a x L lo hi) (h1 : L ≤ 400) (n : Int) (hn : n = a.sign) :
    Calls Try.prog 32 #[bgv a g c] w fun r w' => r = .returned (.int .i64 n) ∧ Below w.heap.size w w' := by
  subst hn
  exact sign_any ha a.neg c a.e (by have := ra.len; omega)
theorem sign_rat {a : Bg} {x : Rat} {L : Nat} {lo hi : Int} (ra : Rp a x L lo hi) : a.sign = 0 ↔ x = 0 := by
  rw [a.sign_zero, ← Rat.intCast_inj, ra.rep, Rat.intCast_zero]
  have hp := PP_pos
  constructor
  · intro h
    rcases Rat.mul_eq_zero.1 h with k | k
    · exact k
    · exact absurd k (Rat.ne_of_gt hp)
  · intro h; rw [h, Rat.zero_mul]
theorem Rp.opp {b : Bg} {x : Rat} {L : Nat} {lo hi : Int} (h : Rp b x L lo hi) : Rp b.opp (-x) L lo hi :=
  ⟨by rw [Bg.z_opp, Rat.intCast_neg, h.rep, Rat.neg_mul], h.len, h.lo, h.hi⟩
theorem btw_any {a : Bg} {w : World} {g : Nat} (ha : RL w g a.ws) (c : Nat) (na : Bnd a) {lo hi : Nat} (hl : lo < 18446744073709551616) (hh : hi < 18446744073709551616)
    (u : lo = 18442240474082181120 ∨ (fin lo = true ∧ ¬ a.z < (ofB lo).z)) (o : hi = 9218868437227405312 ∨ (fin hi = true ∧ ¬ (ofB hi).z < a.z)) :
    Calls Try.prog 31 #[bgv a g c, .float .f64 lo, .float .f64 hi] w fun r w' => r = .returned (.bool true) ∧ Below w.heap.size w w' := by
  rcases u with rfl | ⟨f1, u⟩ <;> rcases o with rfl | ⟨f2, o⟩
  · exact btw_np ha c na
  · exact btw_nf ha c na hh f2 o
  · exact btw_fp ha c na hl f1 u
  · exact btw_ff ha c na hl f1 u hh f2 o
/-- A number that lies in a span lies between its ends. -/
theorem btw_rp {a : Bg} {x : Rat} {L : Nat} {lo hi : Int} {s : Sp} {w : World} {g : Nat} (ha : RL w g a.ws) (c : Nat) (ra : Rp a x L lo hi) (h1 : L ≤ 400) (h2 : -5000 ≤ lo) (h3 : hi ≤ 5000) (hs : InS x s) :
    Calls Try.prog 31 #[bgv a g c, .float .f64 s.lo, .float .f64 s.hi] w fun r w' => r = .returned (.bool true) ∧ Below w.heap.size w w' := by
  refine btw_any ha c (ra.bnd h1 h2 h3) s.vd.l.lt s.vd.h.lt ?_ ?_
  · by_cases e : s.lo = 18442240474082181120
    · exact Or.inl e
    · refine Or.inr ⟨fin_Z s.vd.l.nn ?_ ?_, ?_⟩
      · have := (Z_range s.vd.l.nn).1
        have : Z s.lo ≠ -(rv INF : Int) := fun k => e (Z_eq_NI s.vd.l k)
        omega
      · have := (Z_range s.vd.l.nn).2
        have : Z s.lo ≠ (rv INF : Int) := fun k => s.vd.li (Z_eq_PI s.vd.l k)
        omega
      · rw [rep_le ra.rep (ofB_rep s.lo)]
        rcases hs.lo with k | k
        · exact absurd k e
        · exact Rat.not_lt.2 k
  · by_cases e : s.hi = 9218868437227405312
    · exact Or.inl e
    · refine Or.inr ⟨fin_Z s.vd.h.nn ?_ ?_, ?_⟩
      · have := (Z_range s.vd.h.nn).1
        have : Z s.hi ≠ -(rv INF : Int) := fun k => s.vd.hi (Z_eq_NI s.vd.h k)
        omega
      · have := (Z_range s.vd.h.nn).2
        have : Z s.hi ≠ (rv INF : Int) := fun k => e (Z_eq_PI s.vd.h k)
        omega
      · rw [rep_le (ofB_rep s.hi) ra.rep]
        rcases hs.hi with k | k
        · exact absurd k e
        · exact Rat.not_lt.2 k
end Go.Proofs.Ythkfaacgabkhhaa
