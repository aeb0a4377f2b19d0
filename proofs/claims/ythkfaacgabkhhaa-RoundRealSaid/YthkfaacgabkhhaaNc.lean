/- What the laws by numbers without rounding share: close; the root's ends. -/
import Derived.Test.YthkfaacgabkhhaaNa
import Derived.Test.YthkfaacgabkhhaaBl
import Derived.Test.YthkfaacgabkhhaaVl
set_option linter.unusedVariables false
set_option linter.unusedSimpArgs false
namespace Go.Proofs.Ythkfaacgabkhhaa
open Go.RowKit Fl

theorem sqrt_ok {a : Nat} (f : fin a = true) (z : 0 ≤ Z a) (d : Bool) : sqrtR a d = ((sqrtR a d).1, 0) := by
  unfold sqrtR
  rw [if_pos f, if_neg (by omega)]
  split <;> rfl
theorem root_big : (rv INF : Int) * (2 ^ BB : Nat) ≤ Z 6913025428013711360 * Z 6913025428013711360 := by
  rw [BB_eq]; decide +kernel
theorem root_fin {a lo hi : Nat} (f : fin a = true) (h : QD lo a) (k : QU hi a) : fin hi = true ∧ fin lo = true := by
  have g : Gd 6913025428013711360 := ⟨by decide, by decide, by decide⟩
  have fg : fin 6913025428013711360 = true := by decide
  have z0 : 0 ≤ Z 6913025428013711360 := by decide +kernel
  have ha := (Z_fin f).2
  have hp : (0 : Int) < (2 ^ BB : Nat) := Int.natCast_pos.2 (Nat.two_pow_pos _)
  have h1 : Z a * (2 ^ BB : Nat) ≤ (rv INF : Int) * (2 ^ BB : Nat) := Int.mul_le_mul_of_nonneg_right (by omega) (by omega)
  have h2 := k.le _ g z0 (Or.inr (Int.le_trans h1 root_big))
  have h3 := (Z_fin fg).2
  have hh : Z lo ≤ Z hi := by
    rcases nbr_qd h k with e | e <;> omega
  have := (Z_range k.gd.nn).1
  have n1 := k.nn
  have n2 := h.nn
  have ip : (0 : Int) < (rv INF : Int) := by
    have := rv_pos (r := INF) (by decide)
    omega
  exact ⟨fin_Z k.gd.nn (by omega) (by omega), fin_Z h.gd.nn (by omega) (by omega)⟩
theorem eq_gd {x y : Nat} (hx : Gd x) (hy : Gd y) : (FloatKind.f64.format.order x y == some .eq) = decide (Z x = Z y) := Fl.eq_eq hx.lt hy.lt hx.nn hy.nn
theorem lt_gd {x y : Nat} (hx : Gd x) (hy : Gd y) : (FloatKind.f64.format.order x y == some .lt) = decide (Z x < Z y) := Fl.lt_eq hx.lt hy.lt hx.nn hy.nn
theorem close_any {x y : Nat} (hx : Gd x) (hy : Gd y) (h : Nbr x y) (w : World) :
    Calls Try.prog 21 #[.float .f64 x, .float .f64 y] w fun r w' => r = .returned (.bool true) ∧ Below w.heap.size w w' := by
  have HA := Lib.hid (fun w => Nb.ra_any hx.lt hx.nn w)
  rcases h with h | ⟨h1, h2⟩
  · have e1 := eq_gd hx hy
    rw [decide_eq_true h] at e1
    go_enter Try.func21, Try.ntmps21
    go_wp2_with fail
    go_ret
    exact ⟨rfl, Below.refl _ _⟩
  · have e1 := eq_gd hx hy
    rw [decide_eq_false (by omega)] at e1
    have e2 := lt_gd hx hy
    rw [decide_eq_true h1] at e2
    have hu := (up_least hx (fun e => by
      rw [e, Z_PI] at h1
      have := (Z_range hy.nn).2
      omega)).1
    have e3 := eq_gd hu hy
    rw [decide_eq_true h2] at e3
    have HA : Hid (∀ w, Calls Try.prog 38 #[.float .f64 x] w fun r w' => r = .returned (.float .f64 (upV x)) ∧ w = w') := HA
    generalize upV x = u at *
    go_enter Try.func21, Try.ntmps21
    go_wp2_with fail
    refine (HA.out _).mono ?_
    rintro r w' ⟨rfl, rfl⟩
    go_wp2_with fail
    go_ret
    exact ⟨rfl, Below.refl _ _⟩
theorem num_b (b : Nat) (h : b < 18446744073709551616) (w : World) :
    Calls Try.prog 20 #[.float .f64 b] w fun e w' => e = .returned (.bool (fin b)) ∧ Below w.heap.size w w' :=
  (rnum_any b h w).mono fun _ _ ⟨e, k, hk⟩ => ⟨e, hk ▸ below_drewN (Below.refl _ _) k⟩
theorem addR_fin {a b : Nat} (fa : fin a = true) (fb : fin b = true) (d : Bool) : addR a b d = ((addR a b d).1, 0) := by
  unfold addR
  rw [if_pos (by rw [fa, fb]; rfl)]
theorem mulR_fin {a b : Nat} (fa : fin a = true) (fb : fin b = true) (d : Bool) : mulR a b d = ((mulR a b d).1, 0) := by
  unfold mulR
  rw [if_pos (by rw [fa, fb]; rfl)]
theorem divR_fin {a b : Nat} (fa : fin a = true) (fb : fin b = true) (hb : Z b ≠ 0) (d : Bool) : divR a b d = ((divR a b d).1, 0) := by
  unfold divR
  rw [if_pos (by rw [fa, fb]; rfl), if_neg (Z_mg_ne hb)]
theorem Rp.wide {b : Bg} {x : Rat} {L L' : Nat} {lo hi lo' hi' : Int} (h : Rp b x L lo hi) (h1 : L ≤ L') (h2 : lo' ≤ lo) (h3 : hi ≤ hi') : Rp b x L' lo' hi' :=
  ⟨h.rep, Nat.le_trans h.len h1, Int.le_trans h2 h.lo, Int.le_trans h.hi h3⟩
theorem rd_fin {R : Nat} {x : Rat} (h : RD R x) (k : R ≠ NI) : fin R = true := by
  have h1 := Z_range h.gd.nn
  have n1 : Z R ≠ -(rv INF : Int) := fun e => k (Z_eq_NI h.gd e)
  have n2 : Z R ≠ (rv INF : Int) := fun e => h.np (Z_eq_PI h.gd e)
  exact fin_Z h.gd.nn (by omega) (by omega)
theorem ru_fin {R : Nat} {x : Rat} (h : RU R x) (k : R ≠ PI) : fin R = true := by
  have h1 := Z_range h.gd.nn
  have n1 : Z R ≠ -(rv INF : Int) := fun e => h.np (Z_eq_NI h.gd e)
  have n2 : Z R ≠ (rv INF : Int) := fun e => k (Z_eq_PI h.gd e)
  exact fin_Z h.gd.nn (by omega) (by omega)
theorem btw_rd {a : Bg} {x : Rat} {L : Nat} {lo hi : Int} {R Q : Nat} {w : World} {g : Nat} (ha : RL w g a.ws) (c : Nat) (ra : Rp a x L lo hi) (h1 : L ≤ 400) (h2 : -5000 ≤ lo) (h3 : hi ≤ 5000) (h : RD R x) (k : RU Q x) :
    Calls Try.prog 31 #[bgv a g c, .float .f64 R, .float .f64 Q] w fun r w' => r = .returned (.bool true) ∧ Below w.heap.size w w' := by
  refine btw_any ha c (ra.bnd h1 h2 h3) h.gd.lt k.gd.lt ?_ ?_
  · by_cases e : R = 18442240474082181120
    · exact Or.inl e
    · refine Or.inr ⟨rd_fin h e, ?_⟩
      rw [rep_le ra.rep (ofB_rep R)]
      exact Rat.not_lt.2 (h.lo.resolve_left e)
  · by_cases e : Q = 9218868437227405312
    · exact Or.inl e
    · refine Or.inr ⟨ru_fin k e, ?_⟩
      rw [rep_le (ofB_rep Q) ra.rep]
      exact Rat.not_lt.2 (k.hi.resolve_left e)
theorem sgn_q {a : Bg} {x : Rat} {L : Nat} {lo hi : Int} {w : World} {g : Nat} (ha : RL w g a.ws) (c : Nat) (ra : Rp a x L lo hi) (h1 : L ≤ 400) (q : Bool) (hq : x = 0 ↔ q = true) :
    Calls Try.prog 32 #[bgv a g c] w fun r w' => ∃ n : Int, r = .returned (.int .i64 n) ∧ (n == 0) = q ∧ decide (n = 0) = q ∧ Below w.heap.size w w' := by
  refine (sgn_rp ha c ra h1 a.sign rfl).mono ?_
  rintro r w' ⟨rfl, hb⟩
  have e : a.sign = 0 ↔ q = true := (sign_rat ra).trans hq
  refine ⟨_, rfl, ?_, ?_, hb⟩
  · rw [Bool.eq_iff_iff, beq_iff_eq]; exact e
  · rw [Bool.eq_iff_iff, decide_eq_true_iff]; exact e
theorem diff_q {R Q : Nat} {x : Rat} (h : RD R x) (k : RU Q x) (f : fin R = true) : x - fv R = 0 ↔ (FloatKind.f64.format.order R Q == some .eq) = true := by
  rw [eq_gd h.gd k.gd, decide_eq_true_iff, same_rd h k f]
  constructor
  · intro e; grind
  · intro e; grind
end Go.Proofs.Ythkfaacgabkhhaa
