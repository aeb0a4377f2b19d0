/- Plain: the fixed facts of layers 3 and 4. -/
import Derived.Test.YtdgaaceebghcpaaZGf
import Derived.Test.YtdgaaceebghcpaaZYc
set_option linter.unusedVariables false
set_option linter.unusedSimpArgs false
namespace Go.Proofs.Ytdgaaceebghcpaa
open Fl

theorem zeroS_lo : zeroS.lo = 0 := rfl
theorem zeroS_hi : zeroS.hi = 0 := rfl
theorem zeroV_x : zeroV.x = zeroS := rfl
theorem zeroV_y : zeroV.y = zeroS := rfl
theorem zeroV_z : zeroV.z = zeroS := rfl
theorem zeroA_a : zeroA.a = zeroV := rfl
theorem zeroA_b : zeroA.b = zeroV := rfl
theorem zeroA_c : zeroA.c = zeroV := rfl
theorem zeroA_t : zeroA.t = zeroV := rfl
theorem V3.ext {a b : V3} (h1 : a.x = b.x) (h2 : a.y = b.y) (h3 : a.z = b.z) : a = b := by
  cases a; cases b; simp only at h1 h2 h3; subst h1 h2 h3; rfl
theorem sq_inj {x y : Int} (hx : 0 ≤ x) (hy : 0 ≤ y) (h : x * x ≤ y * y) : x ≤ y := by
  apply Int.le_of_not_gt
  intro k
  have h5 : y * y < x * x := Int.lt_of_le_of_lt (Int.mul_le_mul_of_nonneg_left (Int.le_of_lt k) hy) (Int.mul_lt_mul_of_pos_right k (by omega))
  omega
theorem root_is {a b : Nat} (fa : fin a = true) (gb : Gd b) (bp : b ≠ PI) (bn : b ≠ NI) (ha : 0 ≤ Z a) (hb : 0 ≤ Z b) (h : Z b * Z b = Z a * (2 ^ BB : Nat)) : (sqrtR a true).1 = b ∧ (sqrtR a false).1 = b := by
  have d := sqrt_dn fa ha
  have u := sqrt_up fa ha
  constructor
  · refine d.gd.inj gb (Int.le_antisymm (sq_inj d.nn hb (by rw [h]; exact d.lo)) (d.gr b gb bp (by rw [h]; exact Int.le_refl _)))
  · refine u.gd.inj gb (Int.le_antisymm (u.le b gb hb (Or.inr (by rw [h]; exact Int.le_refl _))) ?_)
    rcases u.hi with e | e
    · rw [e, Z_PI]; exact (Z_range gb.nn).2
    · exact sq_inj hb u.nn (by rw [h]; exact e)
theorem sqrtS_of {q s : Sp} (w : q.wide = false) (h : 0 ≤ Z q.hi) (e1 : (sqrtR (mx q.lo 0) true).1 = s.lo) (e2 : (sqrtR q.hi false).1 = s.hi) : sqrtS q = s := by
  unfold sqrtS
  rw [dif_pos ⟨w, h⟩]
  exact Sp.ext e1 e2
theorem v_25 : Vd 4627730092099895296 4627730092099895296 := ⟨gd_lit (by decide), gd_lit (by decide), by decide +kernel, by decide, by decide⟩
theorem v_5 : Vd 4617315517961601024 4617315517961601024 := ⟨gd_lit (by decide), gd_lit (by decide), by decide +kernel, by decide, by decide⟩
def fiveS : Sp := ⟨4617315517961601024, 4617315517961601024, v_5⟩
theorem fiveS_lo : fiveS.lo = 4617315517961601024 := rfl
theorem fiveS_hi : fiveS.hi = 4617315517961601024 := rfl
def s25 : Sp := ⟨4627730092099895296, 4627730092099895296, v_25⟩
theorem sqr34 : vSqr (vOf 4613937818241073152 0 4616189618054758400) = s25 := by refine Sp.ext ?_ ?_ <;> decide +kernel
theorem len34 : vLen (vOf 4613937818241073152 0 4616189618054758400) = fiveS := by
  unfold vLen
  rw [sqr34]
  have e0 : mx s25.lo 0 = 4627730092099895296 := by decide +kernel
  have ⟨r1, r2⟩ := root_is (a := 4627730092099895296) (b := 4617315517961601024) (by decide) (gd_lit (by decide)) (by decide) (by decide) (by decide +kernel) (by decide +kernel) (by rw [BB_eq]; decide +kernel)
  exact sqrtS_of (by decide +kernel) (by decide +kernel) (by rw [e0, fiveS_lo]; exact r1) (by rw [show s25.hi = 4627730092099895296 from rfl, fiveS_hi]; exact r2)
theorem cross_xy : vCross (vOf 4607182418800017408 0 0) (vOf 0 4607182418800017408 0) = vOf 0 0 4607182418800017408 := by refine V3.ext (Sp.ext ?_ ?_) (Sp.ext ?_ ?_) (Sp.ext ?_ ?_) <;> decide +kernel
theorem dot_xy : vDot (vOf 4607182418800017408 0 0) (vOf 0 4607182418800017408 0) = zeroS := by refine Sp.ext ?_ ?_ <;> decide +kernel
theorem eq00 : (FloatKind.f64.format.order 0 0 == some .eq) = true := order_self gd0
theorem eq55 : (FloatKind.f64.format.order 4617315517961601024 4617315517961601024 == some .eq) = true := order_self v_5.l
theorem isZW00 : isZW 0 0 = true := by unfold isZW; rw [eq00]; rfl
end Go.Proofs.Ytdgaaceebghcpaa
