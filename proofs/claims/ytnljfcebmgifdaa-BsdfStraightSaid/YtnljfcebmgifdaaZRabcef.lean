/- Shaken: Qa Ga Vh Vl Ge Sh Gf Yc Td RowS RowV. -/
import Derived.Test.YtnljfcebmgifdaaZTx
import Derived.Test.YtnljfcebmgifdaaZRowV
set_option maxRecDepth 100000
set_option maxHeartbeats 8000000
set_option linter.unusedVariables false
set_option linter.unusedSimpArgs false
namespace Go.Proofs.Ytnljfcebmgifdaa
open Fl
theorem gtb {x y : Nat} (hx : Gd x) (hy : Gd y) : (FloatKind.f64.format.order x y == some .gt) = decide (Z y < Z x) := gt_eq hx.lt hy.lt hx.nn hy.nn
end Go.Proofs.Ytnljfcebmgifdaa
set_option linter.unusedVariables false
set_option linter.unusedSimpArgs false
namespace Go.Proofs.Ytnljfcebmgifdaa
open Go.RowKit
end Go.Proofs.Ytnljfcebmgifdaa
namespace Go.Proofs.Ytnljfcebmgifdaa
open Go.RowKit Ieee
section
variable (p f : Nat) (e : Int) (w : World)
end
section
variable (m : Nat) (e : Int) (w : World)
end
end Go.Proofs.Ytnljfcebmgifdaa
namespace Go.Proofs.Ytnljfcebmgifdaa
open Go.RowKit Ieee
section
variable {w w' : World} {g : Nat} {t : TypeId} {cs : Array Value}
end
end Go.Proofs.Ytnljfcebmgifdaa
namespace Go.Proofs.Ytnljfcebmgifdaa
open Go.RowKit Ieee
namespace Fl
end Fl
end Go.Proofs.Ytnljfcebmgifdaa
namespace Go.Proofs.Ytnljfcebmgifdaa
open Go.RowKit Ieee
namespace Fl
end Fl
end Go.Proofs.Ytnljfcebmgifdaa
namespace Go.Proofs.Ytnljfcebmgifdaa
open Go.RowKit Ieee
theorem times_any (x y : Nat) (hx : x < 18446744073709551616) (hy : y < 18446744073709551616) (w : World) :
   Calls Try.prog 145 #[.int .u64 x, .int .u64 y] w fun e w' => e = .returned (.tuple #[.int .u64 ((x * y / 18446744073709551616 : Nat) : Int), .int .u64 ((x * y % 18446744073709551616 : Nat) : Int)]) ∧ w = w' := by
 obtain ⟨bd, bt, bw, hhi⟩ := Lib.mul64_hi x y hx hy
 have ba := Lib.half_mul_le (a := x / 4294967296) (b := y / 4294967296) (by omega) (by omega)
 have bb := Lib.half_mul_le (a := x / 4294967296) (b := y % 4294967296) (by omega) (by omega)
 have bc := Lib.half_mul_le (a := x % 4294967296) (b := y / 4294967296) (by omega) (by omega)
 have ba' : x / 4294967296 * (y / 4294967296) < 18446744073709551616 := by omega
 have bb' : x / 4294967296 * (y % 4294967296) < 18446744073709551616 := by omega
 have bc' : x % 4294967296 * (y / 4294967296) < 18446744073709551616 := by omega
 rw [Nat.add_comm (_ % 4294967296) (x % 4294967296 * (y / 4294967296))] at bw hhi
 have bh1 : x / 4294967296 * (y / 4294967296) + (x / 4294967296 * (y % 4294967296) + x % 4294967296 * (y % 4294967296) / 4294967296) / 4294967296 < 18446744073709551616 := by omega
 have bh : x / 4294967296 * (y / 4294967296) + (x / 4294967296 * (y % 4294967296) + x % 4294967296 * (y % 4294967296) / 4294967296) / 4294967296 + (x % 4294967296 * (y / 4294967296) + (x / 4294967296 * (y % 4294967296) + x % 4294967296 * (y % 4294967296) / 4294967296) % 4294967296) / 4294967296 < 18446744073709551616 := by omega
 go_enter Try.func145, Try.ntmps145
 go_wp2
 simp only [maskN x hx, maskN y hy, divN, mulN, addN, wrapN _ bd, wrapN _ bb', wrapN _ bt, maskN _ bt, wrapN _ bc', wrapN _ bw, wrapN _ ba', wrapN _ bh1, wrapN _ bh, wrapM (x * y)]
 rw [hhi]
 go_ret2
 exact ⟨rfl, rfl⟩
end Go.Proofs.Ytnljfcebmgifdaa
namespace Go.Proofs.Ytnljfcebmgifdaa
open Go.RowKit Ieee
end Go.Proofs.Ytnljfcebmgifdaa
set_option linter.unusedVariables false
set_option linter.unusedSimpArgs false
namespace Go.Proofs.Ytnljfcebmgifdaa
open Go.RowKit Ieee
theorem rmul_good (a b : Nat) (down : Bool) (ha : a < 18446744073709551616) (hb : b < 18446744073709551616) (fa : Fl.fin a = true) (fb : Fl.fin b = true) (w : World) :
   Calls Try.prog 131 #[.float .f64 a, .float .f64 b, .bool down] w fun r w' => r = .returned (numV (mulV a b down) 0) ∧ Below w.heap.size w w' := by
 have HX := Lib.hid (fun w => rnum_good a ha fa w)
 have HY := Lib.hid (fun w => rnum_good b hb fb w)
 have HA := Lib.hid (fun w => part_any a ha w)
 have HB := Lib.hid (fun w => part_any b hb w)
 have HM := Lib.hid (fun w => times_any (Fl.sM a) (Fl.sM b) (by have := Fl.sM_lt a; omega) (by have := Fl.sM_lt b; omega) w)
 have HO := Lib.hid (fun w => rto_ok (Fl.sg a != Fl.sg b) down _ _ _ (mul_ok a b fa fb) w)
 have hE : (-1074 : Int) ≤ Fl.sE a ∧ Fl.sE a ≤ 971 ∧ -1074 ≤ Fl.sE b ∧ Fl.sE b ≤ 971 := ⟨Fl.sE_ge a, Fl.sE_le a fa, Fl.sE_ge b, Fl.sE_le b fb⟩
 unfold mulV
 generalize toVal (Fl.sg a != Fl.sg b) down (Fl.sM a * Fl.sM b) (Fl.sE a + Fl.sE b) false = v at *
 unfold wdW wdv at HO
 generalize Fl.sM a * Fl.sM b / 18446744073709551616 = ph at *
 generalize Fl.sM a * Fl.sM b % 18446744073709551616 = pl at *
 generalize Fl.sM a = A at *
 generalize Fl.sM b = B at *
 generalize Fl.sE a = ea at *
 generalize Fl.sE b = eb at *
 generalize Fl.sg a = na at *
 generalize Fl.sg b = nb at *
 obtain ⟨hE1, hE2, hE3, hE4⟩ := hE
 clear fa fb
 go_enter Try.func131, Try.ntmps131
 go_wp2_with fail
 refine (HX.out _).mono ?_
 rintro e w' ⟨rfl, rfl⟩
 go_wp2_with fail
 refine (HY.out _).mono ?_
 rintro e w' ⟨rfl, rfl⟩
 go_wp2_with fail
 refine (HA.out _).mono ?_
 rintro e w' ⟨rfl, o1, rfl⟩
 go_wp2_with fail
 refine (HB.out _).mono ?_
 rintro e w' ⟨rfl, o2, rfl⟩
 go_wp2_with fail
 refine (HM.out _).mono ?_
 rintro e w' ⟨rfl, rfl⟩
 go_wp2_with fail
 refine (HO.out _).mono ?_
 rintro e w2 ⟨rfl, h2⟩
 have HW2 := Lib.hid h2
 clear h2
 go_wp2_with fail
 go_ret2
 exact ⟨rfl, (below_more (below_more (below_more (below_new w o1) _) _) _).trans (HW2.out.mono (by simp; omega))⟩
theorem rmul_bad (a b : Nat) (down : Bool) (ha : a < 18446744073709551616) (hb : b < 18446744073709551616) (hf : (Fl.fin a && Fl.fin b) = false) (w : World) :
   Calls Try.prog 131 #[.float .f64 a, .float .f64 b, .bool down] w fun r w' => r = .returned (numV 0 10) ∧ ∃ k, w' = w.drewN k := by
 have HX := Lib.hid (fun w => rnum_any a ha w)
 have HY := Lib.hid (fun w => rnum_any b hb w)
 generalize Fl.fin a = x at *
 generalize Fl.fin b = y at *
 cases x
 · go_enter Try.func131, Try.ntmps131
   go_wp2_with fail
   refine (HX.out _).mono ?_
   rintro e w' ⟨rfl, k, rfl⟩
   go_wp2_with fail
   go_ret2
   exact ⟨rfl, _, rfl⟩
 · obtain rfl : y = false := by simpa using hf
   go_enter Try.func131, Try.ntmps131
   go_wp2_with fail
   refine (HX.out _).mono ?_
   rintro e w' ⟨rfl, k, rfl⟩
   go_wp2_with fail
   refine (HY.out _).mono ?_
   rintro e w' ⟨rfl, k', rfl⟩
   go_wp2_with fail
   go_ret2
   exact ⟨rfl, _, rfl⟩
end Go.Proofs.Ytnljfcebmgifdaa
set_option linter.unusedVariables false
set_option linter.unusedSimpArgs false
namespace Go.Proofs.Ytnljfcebmgifdaa
open Go.RowKit Ieee
end Go.Proofs.Ytnljfcebmgifdaa
namespace Go.Proofs.Ytnljfcebmgifdaa
open Go.RowKit Ieee
end Go.Proofs.Ytnljfcebmgifdaa
namespace Go.Proofs.Ytnljfcebmgifdaa
open Go.RowKit Ieee
theorem rmul_any (a b : Nat) (down : Bool) (ha : a < 18446744073709551616) (hb : b < 18446744073709551616) (w : World) :
   Calls Try.prog 131 #[.float .f64 a, .float .f64 b, .bool down] w fun r w' => r = .returned (pV (mulR a b down)) ∧ Below w.heap.size w w' := by
 unfold mulR pV
 by_cases hf : (Fl.fin a && Fl.fin b) = true
 · rw [if_pos hf]
   have h2 : Fl.fin a = true ∧ Fl.fin b = true := by revert hf; cases Fl.fin a <;> cases Fl.fin b <;> simp
   exact rmul_good a b down ha hb h2.1 h2.2 w
 · rw [if_neg hf]
   refine (rmul_bad a b down ha hb (by revert hf; cases (Fl.fin a && Fl.fin b) <;> simp) w).mono ?_
   rintro r w' ⟨rfl, k, rfl⟩
   exact ⟨rfl, below_drewN0 w k⟩
section
variable (F : FuncId)
end
end Go.Proofs.Ytnljfcebmgifdaa
namespace Go.Proofs.Ytnljfcebmgifdaa
open Go.RowKit Ieee
end Go.Proofs.Ytnljfcebmgifdaa
set_option linter.unusedVariables false
set_option linter.unusedSimpArgs false
namespace Go.Proofs.Ytnljfcebmgifdaa
end Go.Proofs.Ytnljfcebmgifdaa
namespace Go.Proofs.Ytnljfcebmgifdaa
open Go.RowKit
end Go.Proofs.Ytnljfcebmgifdaa
namespace Go.Proofs.Ytnljfcebmgifdaa
open Go.RowKit Fl
end Go.Proofs.Ytnljfcebmgifdaa
namespace Go.Proofs.Ytnljfcebmgifdaa
open Go.RowKit Fl
theorem rwide_sp (a : Sp) (w : World) : Calls Try.prog 58 #[.agg #[.float .f64 a.lo, .float .f64 a.hi]] w fun r w' => r = .returned (.bool a.wide) ∧ Below w.heap.size w w' := by
 have H1 := Lib.hid (fun w => rnum_any a.lo a.vd.l.lt w)
 have H2 := Lib.hid (fun w => rnum_any a.hi a.vd.h.lt w)
 rw [wide_or]
 generalize fin a.lo = p at *
 generalize fin a.hi = q at *
 cases p
 · go_enter Try.func58, Try.ntmps58
   go_wp2_with fail
   refine (H1.out _).mono ?_
   rintro r w' ⟨rfl, k, rfl⟩
   go_wp2_with fail
   go_ret
   exact ⟨rfl, below_drewN (below_new _ _) _⟩
 · go_enter Try.func58, Try.ntmps58
   go_wp2_with fail
   refine (H1.out _).mono ?_
   rintro r w' ⟨rfl, k, rfl⟩
   go_wp2_with fail
   refine (H2.out _).mono ?_
   rintro r w' ⟨rfl, l, rfl⟩
   go_wp2_with fail
   go_ret
   exact ⟨rfl, below_drewN (below_new _ _) _⟩
theorem rneg_sp (a : Sp) (w : World) : Calls Try.prog 73 #[.agg #[.float .f64 a.lo, .float .f64 a.hi]] w fun r w' => r = .returned (.agg #[.float .f64 (negS a).lo, .float .f64 (negS a).hi]) ∧ Below w.heap.size w w' := by
 have d1 := ng_sub a.lo a.vd.l.lt a.vd.l.nn
 have d2 := ng_sub a.hi a.vd.h.lt a.vd.h.nn
 have m1 := fun (t : TypeId) (w : World) => run_float_arith (P := Try.prog) w .sub t .f64 _ _ _ d1
 have m2 := fun (t : TypeId) (w : World) => run_float_arith (P := Try.prog) w .sub t .f64 _ _ _ d2
 show Calls _ _ _ _ fun r w' => r = .returned (.agg #[.float .f64 (ng a.hi), .float .f64 (ng a.lo)]) ∧ Below w.heap.size w w'
 generalize ng a.hi = x at *
 generalize ng a.lo = y at *
 clear d1 d2
 go_enter Try.func73, Try.ntmps73
 go_wp2_with fail
 go_returns
 exact ⟨rfl, below_new2 _ _ _⟩
end Go.Proofs.Ytnljfcebmgifdaa
namespace Go.Proofs.Ytnljfcebmgifdaa
open Go.RowKit Fl
end Go.Proofs.Ytnljfcebmgifdaa
namespace Go.Proofs.Ytnljfcebmgifdaa
open Go.RowKit Fl
end Go.Proofs.Ytnljfcebmgifdaa
set_option linter.unusedVariables false
set_option linter.unusedSimpArgs false
namespace Go.Proofs.Ytnljfcebmgifdaa
open Go.RowKit Fl
def LR (l0 l1 l2 l3 m0 m1 m2 m3 : Nat) (V : World) (x y i : Value) (wr : World) : Prop :=
 Below V.heap.size V wr ∧ ((x = .float .f64 9218868437227405312 ∧ y = .float .f64 18442240474082181120 ∧ i = .int .i64 0) ∨ (x = .float .f64 l0 ∧ y = .float .f64 m0 ∧ i = .int .i64 1) ∨ (x = .float .f64 l1 ∧ y = .float .f64 m1 ∧ i = .int .i64 2) ∨ (x = .float .f64 l2 ∧ y = .float .f64 m2 ∧ i = .int .i64 3) ∨ (x = .float .f64 l3 ∧ y = .float .f64 m3 ∧ i = .int .i64 4))
theorem nothing_sp (a : Sp) (w : World) : Calls Try.prog 130 #[.agg #[.float .f64 a.lo, .float .f64 a.hi]] w fun r w' => r = .returned (.bool (isZ a)) ∧ Below w.heap.size w w' := by
 have key : ∀ x : Nat, Gd x → (FloatKind.f64.format.order x 0 == some .eq) = decide (Z x = 0) := by
   intro x h
   have z0 : Z 0 = 0 := by decide
   have := eqb h gd0
   rw [z0] at this
   exact this
 have e1 := key a.lo a.vd.l
 have e2 := key a.hi a.vd.h
 unfold isZ
 generalize decide (Z a.lo = 0) = p at *
 generalize decide (Z a.hi = 0) = q at *
 clear key
 cases p
 all_goals
   go_enter Try.func130, Try.ntmps130
   go_wp2_with fail
   go_ret
   exact ⟨rfl, below_new _ _⟩
theorem rmul_on (a b : Sp) (z1 : isZ a = false) (z2 : isZ b = false) (h : a.wide = false) (h' : b.wide = false) (w : World) : Calls Try.prog 101 #[.agg #[.float .f64 a.lo, .float .f64 a.hi], .agg #[.float .f64 b.lo, .float .f64 b.hi]] w fun r w' => r = .returned (.agg #[.float .f64 (q4lo mulD a b), .float .f64 (q4hi mulU a b)]) ∧ Below w.heap.size w w' := by
 have HD := mul_rd (a := a) (b := b) (by rw [h, h']; rfl)
 have HU := mul_ru (a := a) (b := b) (by rw [h, h']; rfl)
 have HC : ∀ x y, x < 18446744073709551616 → y < 18446744073709551616 → ∀ d : Bool, ∃ e : Nat, ∀ w, Calls Try.prog 131 #[.float .f64 x, .float .f64 y, .bool d] w fun r w' => r = .returned (.tuple #[.float .f64 (mulR x y d).1, .int .i64 (e : Int)]) ∧ Below w.heap.size w w' := fun x y hx hy d => ⟨(mulR x y d).2, fun w => rmul_any x y d hx hy w⟩
 have H1 := Lib.hid (fun w => nothing_sp a w)
 have H2 := Lib.hid (fun w => nothing_sp b w)
 have H3 := Lib.hid (fun w => rwide_sp a w)
 have H4 := Lib.hid (fun w => rwide_sp b w)
 have HI := Lib.hid (fun w => rinf_any w)
 have NG := neg_inf
 rw [z1] at H1
 rw [z2] at H2
 rw [h] at H3
 rw [h'] at H4
 clear z1 z2 h h'
 have g0 := (HD a.lo b.lo (Or.inl rfl) (Or.inl rfl)).gd
 have k0 := (HU a.lo b.lo (Or.inl rfl) (Or.inl rfl)).gd
 obtain ⟨e0, he⟩ := HC a.lo b.lo a.vd.l.lt b.vd.l.lt true
 have C0 := Lib.hid he
 clear he
 obtain ⟨e1, he⟩ := HC a.lo b.lo a.vd.l.lt b.vd.l.lt false
 have C1 := Lib.hid he
 clear he
 have g1 := (HD a.lo b.hi (Or.inl rfl) (Or.inr rfl)).gd
 have k1 := (HU a.lo b.hi (Or.inl rfl) (Or.inr rfl)).gd
 obtain ⟨e2, he⟩ := HC a.lo b.hi a.vd.l.lt b.vd.h.lt true
 have C2 := Lib.hid he
 clear he
 obtain ⟨e3, he⟩ := HC a.lo b.hi a.vd.l.lt b.vd.h.lt false
 have C3 := Lib.hid he
 clear he
 have g2 := (HD a.hi b.lo (Or.inr rfl) (Or.inl rfl)).gd
 have k2 := (HU a.hi b.lo (Or.inr rfl) (Or.inl rfl)).gd
 obtain ⟨e4, he⟩ := HC a.hi b.lo a.vd.h.lt b.vd.l.lt true
 have C4 := Lib.hid he
 clear he
 obtain ⟨e5, he⟩ := HC a.hi b.lo a.vd.h.lt b.vd.l.lt false
 have C5 := Lib.hid he
 clear he
 have g3 := (HD a.hi b.hi (Or.inr rfl) (Or.inr rfl)).gd
 have k3 := (HU a.hi b.hi (Or.inr rfl) (Or.inr rfl)).gd
 obtain ⟨e6, he⟩ := HC a.hi b.hi a.vd.h.lt b.vd.h.lt true
 have C6 := Lib.hid he
 clear he
 obtain ⟨e7, he⟩ := HC a.hi b.hi a.vd.h.lt b.vd.h.lt false
 have C7 := Lib.hid he
 clear he
 unfold q4lo q4hi
 obtain ⟨d0, hd⟩ : ∃ d, mulD a.lo b.lo = d := ⟨_, rfl⟩
 have hd' : (mulR a.lo b.lo true).1 = d0 := hd
 rw [hd] at g0 ⊢
 rw [hd'] at C0
 clear hd hd'
 obtain ⟨u0, hd⟩ : ∃ d, mulU a.lo b.lo = d := ⟨_, rfl⟩
 have hd' : (mulR a.lo b.lo false).1 = u0 := hd
 rw [hd] at k0 ⊢
 rw [hd'] at C1
 clear hd hd'
 obtain ⟨d1, hd⟩ : ∃ d, mulD a.lo b.hi = d := ⟨_, rfl⟩
 have hd' : (mulR a.lo b.hi true).1 = d1 := hd
 rw [hd] at g1 ⊢
 rw [hd'] at C2
 clear hd hd'
 obtain ⟨u1, hd⟩ : ∃ d, mulU a.lo b.hi = d := ⟨_, rfl⟩
 have hd' : (mulR a.lo b.hi false).1 = u1 := hd
 rw [hd] at k1 ⊢
 rw [hd'] at C3
 clear hd hd'
 obtain ⟨d2, hd⟩ : ∃ d, mulD a.hi b.lo = d := ⟨_, rfl⟩
 have hd' : (mulR a.hi b.lo true).1 = d2 := hd
 rw [hd] at g2 ⊢
 rw [hd'] at C4
 clear hd hd'
 obtain ⟨u2, hd⟩ : ∃ d, mulU a.hi b.lo = d := ⟨_, rfl⟩
 have hd' : (mulR a.hi b.lo false).1 = u2 := hd
 rw [hd] at k2 ⊢
 rw [hd'] at C5
 clear hd hd'
 obtain ⟨d3, hd⟩ : ∃ d, mulD a.hi b.hi = d := ⟨_, rfl⟩
 have hd' : (mulR a.hi b.hi true).1 = d3 := hd
 rw [hd] at g3 ⊢
 rw [hd'] at C6
 clear hd hd'
 obtain ⟨u3, hd⟩ : ∃ d, mulU a.hi b.hi = d := ⟨_, rfl⟩
 have hd' : (mulR a.hi b.hi false).1 = u3 := hd
 rw [hd] at k3 ⊢
 rw [hd'] at C7
 clear hd hd'
 have c0 : ∃ c : Bool, (FloatKind.f64.format.order d0 9218868437227405312 == some .lt) = c ∧ mn 9218868437227405312 d0 = (if c = true then d0 else 9218868437227405312) := ⟨_, rfl, by unfold mn; rw [ltb g0 gdPI]; by_cases h : Z d0 < Z 9218868437227405312 <;> simp [h]⟩
 have s0 : ∃ c : Bool, (FloatKind.f64.format.order u0 18442240474082181120 == some .gt) = c ∧ mx 18442240474082181120 u0 = (if c = true then u0 else 18442240474082181120) := ⟨_, rfl, by unfold mx; rw [gtb k0 gdNI]; by_cases h : Z 18442240474082181120 < Z u0 <;> simp [h]⟩
 have gl0 := mn_gd gdPI g0
 have gh0 := mx_gd gdNI k0
 obtain ⟨l0, hl⟩ : ∃ l, mn 9218868437227405312 d0 = l := ⟨_, rfl⟩
 rw [hl] at c0 gl0 ⊢
 clear hl
 obtain ⟨m0, hl⟩ : ∃ l, mx 18442240474082181120 u0 = l := ⟨_, rfl⟩
 rw [hl] at s0 gh0 ⊢
 clear hl
 have c0 := Lib.hid c0
 have s0 := Lib.hid s0
 have c1 : ∃ c : Bool, (FloatKind.f64.format.order d1 l0 == some .lt) = c ∧ mn l0 d1 = (if c = true then d1 else l0) := ⟨_, rfl, by unfold mn; rw [ltb g1 gl0]; by_cases h : Z d1 < Z l0 <;> simp [h]⟩
 have s1 : ∃ c : Bool, (FloatKind.f64.format.order u1 m0 == some .gt) = c ∧ mx m0 u1 = (if c = true then u1 else m0) := ⟨_, rfl, by unfold mx; rw [gtb k1 gh0]; by_cases h : Z m0 < Z u1 <;> simp [h]⟩
 have gl1 := mn_gd gl0 g1
 have gh1 := mx_gd gh0 k1
 obtain ⟨l1, hl⟩ : ∃ l, mn l0 d1 = l := ⟨_, rfl⟩
 rw [hl] at c1 gl1 ⊢
 clear hl
 obtain ⟨m1, hl⟩ : ∃ l, mx m0 u1 = l := ⟨_, rfl⟩
 rw [hl] at s1 gh1 ⊢
 clear hl
 have c1 := Lib.hid c1
 have s1 := Lib.hid s1
 have c2 : ∃ c : Bool, (FloatKind.f64.format.order d2 l1 == some .lt) = c ∧ mn l1 d2 = (if c = true then d2 else l1) := ⟨_, rfl, by unfold mn; rw [ltb g2 gl1]; by_cases h : Z d2 < Z l1 <;> simp [h]⟩
 have s2 : ∃ c : Bool, (FloatKind.f64.format.order u2 m1 == some .gt) = c ∧ mx m1 u2 = (if c = true then u2 else m1) := ⟨_, rfl, by unfold mx; rw [gtb k2 gh1]; by_cases h : Z m1 < Z u2 <;> simp [h]⟩
 have gl2 := mn_gd gl1 g2
 have gh2 := mx_gd gh1 k2
 obtain ⟨l2, hl⟩ : ∃ l, mn l1 d2 = l := ⟨_, rfl⟩
 rw [hl] at c2 gl2 ⊢
 clear hl
 obtain ⟨m2, hl⟩ : ∃ l, mx m1 u2 = l := ⟨_, rfl⟩
 rw [hl] at s2 gh2 ⊢
 clear hl
 have c2 := Lib.hid c2
 have s2 := Lib.hid s2
 have c3 : ∃ c : Bool, (FloatKind.f64.format.order d3 l2 == some .lt) = c ∧ mn l2 d3 = (if c = true then d3 else l2) := ⟨_, rfl, by unfold mn; rw [ltb g3 gl2]; by_cases h : Z d3 < Z l2 <;> simp [h]⟩
 have s3 : ∃ c : Bool, (FloatKind.f64.format.order u3 m2 == some .gt) = c ∧ mx m2 u3 = (if c = true then u3 else m2) := ⟨_, rfl, by unfold mx; rw [gtb k3 gh2]; by_cases h : Z m2 < Z u3 <;> simp [h]⟩
 have gl3 := mn_gd gl2 g3
 have gh3 := mx_gd gh2 k3
 obtain ⟨l3, hl⟩ : ∃ l, mn l2 d3 = l := ⟨_, rfl⟩
 rw [hl] at c3 gl3 ⊢
 clear hl
 obtain ⟨m3, hl⟩ : ∃ l, mx m2 u3 = l := ⟨_, rfl⟩
 rw [hl] at s3 gh3 ⊢
 clear hl
 have c3 := Lib.hid c3
 have s3 := Lib.hid s3
 clear HD HU HC g0 k0 gl0 gh0 g1 k1 gl1 gh1 g2 k2 gl2 gh2 g3 k3 gl3 gh3
 go_enter Try.func101, Try.ntmps101
 go_wp2_with fail
 obtain ⟨W, hW, K0, K1, K2, hB, hz⟩ := box3 w 28 28 28 #[Value.float FloatKind.f64 a.lo, Value.float FloatKind.f64 a.hi] #[Value.float FloatKind.f64 b.lo, Value.float FloatKind.f64 b.hi] #[Value.float FloatKind.f64 0, Value.float FloatKind.f64 0]
 rw [← hW]
 have K0 := Lib.hid K0
 have K1 := Lib.hid K1
 have K2 := Lib.hid K2
 have HB := Lib.hid hB
 clear hW hB hz
 have HO := Lib.hid (show ∀ w', Hd W (w.heap.size + 1 + 1) 28 2 w' → (Hd W (w.heap.size + 1 + 1) 28 2 w' ∧ w'.cell? ⟨w.heap.size, 0, none⟩ = some (Value.float FloatKind.f64 a.lo) ∧ w'.cell? ⟨w.heap.size, 1, none⟩ = some (Value.float FloatKind.f64 a.hi) ∧ w'.cell? ⟨w.heap.size + 1, 0, none⟩ = some (Value.float FloatKind.f64 b.lo) ∧ w'.cell? ⟨w.heap.size + 1, 1, none⟩ = some (Value.float FloatKind.f64 b.hi) ∧ w'.cell? ⟨w.heap.size + 1 + 1, 0, none⟩ = some (cellAt w' ⟨w.heap.size + 1 + 1, 0, none⟩) ∧ w'.frozen? ⟨w.heap.size + 1 + 1, 0, none⟩ = false ∧ w'.cell? ⟨w.heap.size + 1 + 1, 1, none⟩ = some (cellAt w' ⟨w.heap.size + 1 + 1, 1, none⟩) ∧ w'.frozen? ⟨w.heap.size + 1 + 1, 1, none⟩ = false) from fun w' h => ⟨h, (h.blk K0.out (by omega)).cell 0, (h.blk K0.out (by omega)).cell 1, (h.blk K1.out (by omega)).cell 0, (h.blk K1.out (by omega)).cell 1, (h.at_ 0 (by decide)).1, (h.at_ 0 (by decide)).2, (h.at_ 1 (by decide)).1, (h.at_ 1 (by decide)).2⟩)
 have D0 := Lib.hid (show Hd W (w.heap.size + 1 + 1) 28 2 W from Hd.start K2.out)
 refine (H1.out _).mono ?_
 rintro r w1 ⟨rfl, hb⟩
 have D1 := Lib.hid (Hd.call D0.out hb)
 clear hb
 obtain ⟨-, q0, q1, q2, q3, q4, q5, q6, q7⟩ := HO.out _ D1.out
 have z1 := Hd.lt D1.out
 go_wp2_with fail
 refine (H2.out _).mono ?_
 rintro r w2 ⟨rfl, hb⟩
 have D2 := Lib.hid (Hd.call D1.out hb)
 clear hb
 clear q0 q1 q2 q3 q4 q5 q6 q7
 obtain ⟨-, q0, q1, q2, q3, q4, q5, q6, q7⟩ := HO.out _ D2.out
 have z2 := Hd.lt D2.out
 go_wp2_with fail
 refine (H3.out _).mono ?_
 rintro r w3 ⟨rfl, hb⟩
 have D3 := Lib.hid (Hd.call D2.out hb)
 clear hb
 clear q0 q1 q2 q3 q4 q5 q6 q7
 obtain ⟨-, q0, q1, q2, q3, q4, q5, q6, q7⟩ := HO.out _ D3.out
 have z3 := Hd.lt D3.out
 go_wp2_with fail
 refine (H4.out _).mono ?_
 rintro r w4 ⟨rfl, hb⟩
 have D4 := Lib.hid (Hd.call D3.out hb)
 clear hb
 clear q0 q1 q2 q3 q4 q5 q6 q7
 obtain ⟨-, q0, q1, q2, q3, q4, q5, q6, q7⟩ := HO.out _ D4.out
 have z4 := Hd.lt D4.out
 go_wp2_with fail
 refine (HI.out _).mono ?_
 rintro r w' ⟨rfl, rfl⟩
 go_wp2_with fail
 refine (HI.out _).mono ?_
 rintro r w' ⟨rfl, rfl⟩
 have hz9 := z4
 obtain ⟨g, hg⟩ : ∃ g, w4.heap.size = g := ⟨_, rfl⟩
 obtain ⟨V, hV⟩ : ∃ V, (w4.alloc (.cells #[Value.float FloatKind.f64 a.lo, Value.float FloatKind.f64 a.lo, Value.float FloatKind.f64 a.hi, Value.float FloatKind.f64 a.hi] 22)).alloc (.cells #[Value.float FloatKind.f64 b.lo, Value.float FloatKind.f64 b.hi, Value.float FloatKind.f64 b.lo, Value.float FloatKind.f64 b.hi] 22) = V := ⟨_, rfl⟩
 have O0 : Blk V g 22 #[Value.float FloatKind.f64 a.lo, Value.float FloatKind.f64 a.lo, Value.float FloatKind.f64 a.hi, Value.float FloatKind.f64 a.hi] := by rw [← hV, ← hg]; exact (Blk.new_at _ _ _ rfl).alloc _
 have O1 : Blk V (g + 1) 22 #[Value.float FloatKind.f64 b.lo, Value.float FloatKind.f64 b.hi, Value.float FloatKind.f64 b.lo, Value.float FloatKind.f64 b.hi] := by rw [← hV, ← hg]; exact Blk.new_at _ _ _ (by simp)
 have E0 := Lib.hid (hV ▸ Hd.alloc (Hd.alloc D4.out _) _ : Hd W (w.heap.size + 1 + 1) 28 2 V)
 rw [hg] at hz9
 have y0 : w.heap.size < g := by omega
 have y1 : w.heap.size + 1 < g := by omega
 have HS := Lib.hid (show ∀ w', Below V.heap.size V w' → (Below V.heap.size V w' ∧ w'.cell? ⟨g, 0, none⟩ = some (Value.float FloatKind.f64 a.lo) ∧ w'.cell? ⟨g, 1, none⟩ = some (Value.float FloatKind.f64 a.lo) ∧ w'.cell? ⟨g, 2, none⟩ = some (Value.float FloatKind.f64 a.hi) ∧ w'.cell? ⟨g, 3, none⟩ = some (Value.float FloatKind.f64 a.hi) ∧ w'.cell? ⟨g + 1, 0, none⟩ = some (Value.float FloatKind.f64 b.lo) ∧ w'.cell? ⟨g + 1, 1, none⟩ = some (Value.float FloatKind.f64 b.hi) ∧ w'.cell? ⟨g + 1, 2, none⟩ = some (Value.float FloatKind.f64 b.lo) ∧ w'.cell? ⟨g + 1, 3, none⟩ = some (Value.float FloatKind.f64 b.hi)) from fun w' h => ⟨h, (O0.below h O0.lt).cell 0, (O0.below h O0.lt).cell 1, (O0.below h O0.lt).cell 2, (O0.below h O0.lt).cell 3, (O1.below h O1.lt).cell 0, (O1.below h O1.lt).cell 1, (O1.below h O1.lt).cell 2, (O1.below h O1.lt).cell 3⟩)
 have O0' := Lib.hid O0
 have O1' := Lib.hid O1
 clear O0 O1
 go_wp2_with fail
 clear hV hg q0 q1 q2 q3 q4 q5 q6 q7
 go_loopw [5, 6, 9] (fun x y i wr => LR l0 l1 l2 l3 m0 m1 m2 m3 V x y i wr) (fun _ _ i _ => 4 - (intOf i).toNat)
 case atStart => exact ⟨Below.refl _ _, Or.inl ⟨rfl, rfl, rfl⟩⟩
 case round =>
   obtain ⟨hL, hk⟩ := hrel
   have hS := HS.out _ hL
   rcases hk with ⟨rfl, rfl, rfl⟩ | ⟨rfl, rfl, rfl⟩ | ⟨rfl, rfl, rfl⟩ | ⟨rfl, rfl, rfl⟩ | ⟨rfl, rfl, rfl⟩
   · obtain ⟨c, hc1, hc2⟩ := c0.out
     obtain ⟨e, he1, he2⟩ := s0.out
     have hc2 := Lib.hid hc2
     have he2 := Lib.hid he2
     go_wp2_with fail
     go_region_held3 (fun w' => Below V.heap.size V w' ∧ w'.cell? ⟨g, 0, none⟩ = some (Value.float FloatKind.f64 a.lo) ∧ w'.cell? ⟨g, 1, none⟩ = some (Value.float FloatKind.f64 a.lo) ∧ w'.cell? ⟨g, 2, none⟩ = some (Value.float FloatKind.f64 a.hi) ∧ w'.cell? ⟨g, 3, none⟩ = some (Value.float FloatKind.f64 a.hi) ∧ w'.cell? ⟨g + 1, 0, none⟩ = some (Value.float FloatKind.f64 b.lo) ∧ w'.cell? ⟨g + 1, 1, none⟩ = some (Value.float FloatKind.f64 b.hi) ∧ w'.cell? ⟨g + 1, 2, none⟩ = some (Value.float FloatKind.f64 b.lo) ∧ w'.cell? ⟨g + 1, 3, none⟩ = some (Value.float FloatKind.f64 b.hi))
       (exact HS.out _ (by first | exact (Below.refl _ _).drew | exact Below.drew (And.left (by assumption)) | exact below_step (And.left (by assumption)) hb | exact And.left (by assumption)))
       (first
         | ((go_simp; go_at_call 131; refine (C0.out _).mono ?_; rintro r w' ⟨rfl, hb⟩; dsimp only)))
     go_wp2_with fail
     go_region_held3 (fun w' => Below V.heap.size V w' ∧ w'.cell? ⟨g, 0, none⟩ = some (Value.float FloatKind.f64 a.lo) ∧ w'.cell? ⟨g, 1, none⟩ = some (Value.float FloatKind.f64 a.lo) ∧ w'.cell? ⟨g, 2, none⟩ = some (Value.float FloatKind.f64 a.hi) ∧ w'.cell? ⟨g, 3, none⟩ = some (Value.float FloatKind.f64 a.hi) ∧ w'.cell? ⟨g + 1, 0, none⟩ = some (Value.float FloatKind.f64 b.lo) ∧ w'.cell? ⟨g + 1, 1, none⟩ = some (Value.float FloatKind.f64 b.hi) ∧ w'.cell? ⟨g + 1, 2, none⟩ = some (Value.float FloatKind.f64 b.lo) ∧ w'.cell? ⟨g + 1, 3, none⟩ = some (Value.float FloatKind.f64 b.hi))
       (exact HS.out _ (by first | exact (Below.refl _ _).drew | exact Below.drew (And.left (by assumption)) | exact below_step (And.left (by assumption)) hb | exact And.left (by assumption)))
       (first
         | ((go_simp; go_at_call 131; refine (C1.out _).mono ?_; rintro r w' ⟨rfl, hb⟩; dsimp only)))
     have hL2 := And.left (by assumption)
     clear hL hS
     go_wp2_with fail
     all_goals
       go_roundw
       case rel => exact ⟨hL2, Or.inr (Or.inl ⟨by rw [hc2.out]; simp [*], by rw [he2.out]; simp [*], rfl⟩)⟩
       case measure => simp [intOf]
   · obtain ⟨c, hc1, hc2⟩ := c1.out
     obtain ⟨e, he1, he2⟩ := s1.out
     have hc2 := Lib.hid hc2
     have he2 := Lib.hid he2
     go_wp2_with fail
     go_region_held3 (fun w' => Below V.heap.size V w' ∧ w'.cell? ⟨g, 0, none⟩ = some (Value.float FloatKind.f64 a.lo) ∧ w'.cell? ⟨g, 1, none⟩ = some (Value.float FloatKind.f64 a.lo) ∧ w'.cell? ⟨g, 2, none⟩ = some (Value.float FloatKind.f64 a.hi) ∧ w'.cell? ⟨g, 3, none⟩ = some (Value.float FloatKind.f64 a.hi) ∧ w'.cell? ⟨g + 1, 0, none⟩ = some (Value.float FloatKind.f64 b.lo) ∧ w'.cell? ⟨g + 1, 1, none⟩ = some (Value.float FloatKind.f64 b.hi) ∧ w'.cell? ⟨g + 1, 2, none⟩ = some (Value.float FloatKind.f64 b.lo) ∧ w'.cell? ⟨g + 1, 3, none⟩ = some (Value.float FloatKind.f64 b.hi))
       (exact HS.out _ (by first | exact (Below.refl _ _).drew | exact Below.drew (And.left (by assumption)) | exact below_step (And.left (by assumption)) hb | exact And.left (by assumption)))
       (first
         | ((go_simp; go_at_call 131; refine (C2.out _).mono ?_; rintro r w' ⟨rfl, hb⟩; dsimp only)))
     go_wp2_with fail
     go_region_held3 (fun w' => Below V.heap.size V w' ∧ w'.cell? ⟨g, 0, none⟩ = some (Value.float FloatKind.f64 a.lo) ∧ w'.cell? ⟨g, 1, none⟩ = some (Value.float FloatKind.f64 a.lo) ∧ w'.cell? ⟨g, 2, none⟩ = some (Value.float FloatKind.f64 a.hi) ∧ w'.cell? ⟨g, 3, none⟩ = some (Value.float FloatKind.f64 a.hi) ∧ w'.cell? ⟨g + 1, 0, none⟩ = some (Value.float FloatKind.f64 b.lo) ∧ w'.cell? ⟨g + 1, 1, none⟩ = some (Value.float FloatKind.f64 b.hi) ∧ w'.cell? ⟨g + 1, 2, none⟩ = some (Value.float FloatKind.f64 b.lo) ∧ w'.cell? ⟨g + 1, 3, none⟩ = some (Value.float FloatKind.f64 b.hi))
       (exact HS.out _ (by first | exact (Below.refl _ _).drew | exact Below.drew (And.left (by assumption)) | exact below_step (And.left (by assumption)) hb | exact And.left (by assumption)))
       (first
         | ((go_simp; go_at_call 131; refine (C3.out _).mono ?_; rintro r w' ⟨rfl, hb⟩; dsimp only)))
     have hL2 := And.left (by assumption)
     clear hL hS
     go_wp2_with fail
     all_goals
       go_roundw
       case rel => exact ⟨hL2, Or.inr (Or.inr (Or.inl ⟨by rw [hc2.out]; simp [*], by rw [he2.out]; simp [*], rfl⟩))⟩
       case measure => simp [intOf]
   · obtain ⟨c, hc1, hc2⟩ := c2.out
     obtain ⟨e, he1, he2⟩ := s2.out
     have hc2 := Lib.hid hc2
     have he2 := Lib.hid he2
     go_wp2_with fail
     go_region_held3 (fun w' => Below V.heap.size V w' ∧ w'.cell? ⟨g, 0, none⟩ = some (Value.float FloatKind.f64 a.lo) ∧ w'.cell? ⟨g, 1, none⟩ = some (Value.float FloatKind.f64 a.lo) ∧ w'.cell? ⟨g, 2, none⟩ = some (Value.float FloatKind.f64 a.hi) ∧ w'.cell? ⟨g, 3, none⟩ = some (Value.float FloatKind.f64 a.hi) ∧ w'.cell? ⟨g + 1, 0, none⟩ = some (Value.float FloatKind.f64 b.lo) ∧ w'.cell? ⟨g + 1, 1, none⟩ = some (Value.float FloatKind.f64 b.hi) ∧ w'.cell? ⟨g + 1, 2, none⟩ = some (Value.float FloatKind.f64 b.lo) ∧ w'.cell? ⟨g + 1, 3, none⟩ = some (Value.float FloatKind.f64 b.hi))
       (exact HS.out _ (by first | exact (Below.refl _ _).drew | exact Below.drew (And.left (by assumption)) | exact below_step (And.left (by assumption)) hb | exact And.left (by assumption)))
       (first
         | ((go_simp; go_at_call 131; refine (C4.out _).mono ?_; rintro r w' ⟨rfl, hb⟩; dsimp only)))
     go_wp2_with fail
     go_region_held3 (fun w' => Below V.heap.size V w' ∧ w'.cell? ⟨g, 0, none⟩ = some (Value.float FloatKind.f64 a.lo) ∧ w'.cell? ⟨g, 1, none⟩ = some (Value.float FloatKind.f64 a.lo) ∧ w'.cell? ⟨g, 2, none⟩ = some (Value.float FloatKind.f64 a.hi) ∧ w'.cell? ⟨g, 3, none⟩ = some (Value.float FloatKind.f64 a.hi) ∧ w'.cell? ⟨g + 1, 0, none⟩ = some (Value.float FloatKind.f64 b.lo) ∧ w'.cell? ⟨g + 1, 1, none⟩ = some (Value.float FloatKind.f64 b.hi) ∧ w'.cell? ⟨g + 1, 2, none⟩ = some (Value.float FloatKind.f64 b.lo) ∧ w'.cell? ⟨g + 1, 3, none⟩ = some (Value.float FloatKind.f64 b.hi))
       (exact HS.out _ (by first | exact (Below.refl _ _).drew | exact Below.drew (And.left (by assumption)) | exact below_step (And.left (by assumption)) hb | exact And.left (by assumption)))
       (first
         | ((go_simp; go_at_call 131; refine (C5.out _).mono ?_; rintro r w' ⟨rfl, hb⟩; dsimp only)))
     have hL2 := And.left (by assumption)
     clear hL hS
     go_wp2_with fail
     all_goals
       go_roundw
       case rel => exact ⟨hL2, Or.inr (Or.inr (Or.inr (Or.inl ⟨by rw [hc2.out]; simp [*], by rw [he2.out]; simp [*], rfl⟩)))⟩
       case measure => simp [intOf]
   · obtain ⟨c, hc1, hc2⟩ := c3.out
     obtain ⟨e, he1, he2⟩ := s3.out
     have hc2 := Lib.hid hc2
     have he2 := Lib.hid he2
     go_wp2_with fail
     go_region_held3 (fun w' => Below V.heap.size V w' ∧ w'.cell? ⟨g, 0, none⟩ = some (Value.float FloatKind.f64 a.lo) ∧ w'.cell? ⟨g, 1, none⟩ = some (Value.float FloatKind.f64 a.lo) ∧ w'.cell? ⟨g, 2, none⟩ = some (Value.float FloatKind.f64 a.hi) ∧ w'.cell? ⟨g, 3, none⟩ = some (Value.float FloatKind.f64 a.hi) ∧ w'.cell? ⟨g + 1, 0, none⟩ = some (Value.float FloatKind.f64 b.lo) ∧ w'.cell? ⟨g + 1, 1, none⟩ = some (Value.float FloatKind.f64 b.hi) ∧ w'.cell? ⟨g + 1, 2, none⟩ = some (Value.float FloatKind.f64 b.lo) ∧ w'.cell? ⟨g + 1, 3, none⟩ = some (Value.float FloatKind.f64 b.hi))
       (exact HS.out _ (by first | exact (Below.refl _ _).drew | exact Below.drew (And.left (by assumption)) | exact below_step (And.left (by assumption)) hb | exact And.left (by assumption)))
       (first
         | ((go_simp; go_at_call 131; refine (C6.out _).mono ?_; rintro r w' ⟨rfl, hb⟩; dsimp only)))
     go_wp2_with fail
     go_region_held3 (fun w' => Below V.heap.size V w' ∧ w'.cell? ⟨g, 0, none⟩ = some (Value.float FloatKind.f64 a.lo) ∧ w'.cell? ⟨g, 1, none⟩ = some (Value.float FloatKind.f64 a.lo) ∧ w'.cell? ⟨g, 2, none⟩ = some (Value.float FloatKind.f64 a.hi) ∧ w'.cell? ⟨g, 3, none⟩ = some (Value.float FloatKind.f64 a.hi) ∧ w'.cell? ⟨g + 1, 0, none⟩ = some (Value.float FloatKind.f64 b.lo) ∧ w'.cell? ⟨g + 1, 1, none⟩ = some (Value.float FloatKind.f64 b.hi) ∧ w'.cell? ⟨g + 1, 2, none⟩ = some (Value.float FloatKind.f64 b.lo) ∧ w'.cell? ⟨g + 1, 3, none⟩ = some (Value.float FloatKind.f64 b.hi))
       (exact HS.out _ (by first | exact (Below.refl _ _).drew | exact Below.drew (And.left (by assumption)) | exact below_step (And.left (by assumption)) hb | exact And.left (by assumption)))
       (first
         | ((go_simp; go_at_call 131; refine (C7.out _).mono ?_; rintro r w' ⟨rfl, hb⟩; dsimp only)))
     have hL2 := And.left (by assumption)
     clear hL hS
     go_wp2_with fail
     all_goals
       go_roundw
       case rel => exact ⟨hL2, Or.inr (Or.inr (Or.inr (Or.inr (⟨by rw [hc2.out]; simp [*], by rw [he2.out]; simp [*], rfl⟩))))⟩
       case measure => simp [intOf]
   · obtain ⟨-, q0, q1, q2, q3, q4, q5, q6, q7⟩ := HO.out _ (Hd.call E0.out hL)
     go_wp2_with fail
     (try simp only [Exit.inBlock, Exit.then])
     have hF := Hd.set (Hd.set (Hd.call E0.out hL) 0 (.float .f64 l3)) 1 (.float .f64 m3)
     exact bodyPost_ret (resS rfl _ _ (w.heap.size + 1 + 1) (.float .f64 l3) (.float .f64 m3) rfl (Hd.wrote2 hF)) rfl ⟨rfl, Hd.below hF HB.out (by omega)⟩
theorem rmul_a0 (a b : Sp) (z1 : isZ a = true) (w : World) : Calls Try.prog 101 #[.agg #[.float .f64 a.lo, .float .f64 a.hi], .agg #[.float .f64 b.lo, .float .f64 b.hi]] w fun r w' => r = .returned (.agg #[.float .f64 0, .float .f64 0]) ∧ Below w.heap.size w w' := by
 have H1 := Lib.hid (fun w => nothing_sp a w)
 rw [z1] at H1
 go_enter Try.func101, Try.ntmps101
 go_wp2_with fail
 obtain ⟨W, hW, K0, K1, K2, hB, hz⟩ := box3 w 28 28 28 #[Value.float FloatKind.f64 a.lo, Value.float FloatKind.f64 a.hi] #[Value.float FloatKind.f64 b.lo, Value.float FloatKind.f64 b.hi] #[Value.float FloatKind.f64 0, Value.float FloatKind.f64 0]
 rw [← hW]
 have K0 := Lib.hid K0
 have K1 := Lib.hid K1
 have K2 := Lib.hid K2
 have HB := Lib.hid hB
 clear hW hB hz
 have HO := Lib.hid (show ∀ w', Hd W (w.heap.size + 1 + 1) 28 2 w' → (Hd W (w.heap.size + 1 + 1) 28 2 w' ∧ w'.cell? ⟨w.heap.size, 0, none⟩ = some (Value.float FloatKind.f64 a.lo) ∧ w'.cell? ⟨w.heap.size, 1, none⟩ = some (Value.float FloatKind.f64 a.hi) ∧ w'.cell? ⟨w.heap.size + 1, 0, none⟩ = some (Value.float FloatKind.f64 b.lo) ∧ w'.cell? ⟨w.heap.size + 1, 1, none⟩ = some (Value.float FloatKind.f64 b.hi) ∧ w'.cell? ⟨w.heap.size + 1 + 1, 0, none⟩ = some (cellAt w' ⟨w.heap.size + 1 + 1, 0, none⟩) ∧ w'.frozen? ⟨w.heap.size + 1 + 1, 0, none⟩ = false ∧ w'.cell? ⟨w.heap.size + 1 + 1, 1, none⟩ = some (cellAt w' ⟨w.heap.size + 1 + 1, 1, none⟩) ∧ w'.frozen? ⟨w.heap.size + 1 + 1, 1, none⟩ = false) from fun w' h => ⟨h, (h.blk K0.out (by omega)).cell 0, (h.blk K0.out (by omega)).cell 1, (h.blk K1.out (by omega)).cell 0, (h.blk K1.out (by omega)).cell 1, (h.at_ 0 (by decide)).1, (h.at_ 0 (by decide)).2, (h.at_ 1 (by decide)).1, (h.at_ 1 (by decide)).2⟩)
 have D0 := Lib.hid (show Hd W (w.heap.size + 1 + 1) 28 2 W from Hd.start K2.out)
 refine (H1.out _).mono ?_
 rintro r w1 ⟨rfl, hb⟩
 have D1 := Lib.hid (Hd.call D0.out hb)
 clear hb
 obtain ⟨-, q0, q1, q2, q3, q4, q5, q6, q7⟩ := HO.out _ D1.out
 have z1 := Hd.lt D1.out
 go_wp2_with fail
 (try simp only [Exit.inBlock, Exit.then])
 have hF := (Hd.set (Hd.set D1.out 0 (.float .f64 0)) 1 (.float .f64 0))
 exact bodyPost_ret (resS rfl _ _ (w.heap.size + 1 + 1) (.float .f64 0) (.float .f64 0) rfl (Hd.wrote2 hF)) rfl ⟨rfl, Hd.below hF HB.out (by omega)⟩
theorem rmul_b0 (a b : Sp) (z1 : isZ a = false) (z2 : isZ b = true) (w : World) : Calls Try.prog 101 #[.agg #[.float .f64 a.lo, .float .f64 a.hi], .agg #[.float .f64 b.lo, .float .f64 b.hi]] w fun r w' => r = .returned (.agg #[.float .f64 0, .float .f64 0]) ∧ Below w.heap.size w w' := by
 have H1 := Lib.hid (fun w => nothing_sp a w)
 have H2 := Lib.hid (fun w => nothing_sp b w)
 rw [z1] at H1
 rw [z2] at H2
 go_enter Try.func101, Try.ntmps101
 go_wp2_with fail
 obtain ⟨W, hW, K0, K1, K2, hB, hz⟩ := box3 w 28 28 28 #[Value.float FloatKind.f64 a.lo, Value.float FloatKind.f64 a.hi] #[Value.float FloatKind.f64 b.lo, Value.float FloatKind.f64 b.hi] #[Value.float FloatKind.f64 0, Value.float FloatKind.f64 0]
 rw [← hW]
 have K0 := Lib.hid K0
 have K1 := Lib.hid K1
 have K2 := Lib.hid K2
 have HB := Lib.hid hB
 clear hW hB hz
 have HO := Lib.hid (show ∀ w', Hd W (w.heap.size + 1 + 1) 28 2 w' → (Hd W (w.heap.size + 1 + 1) 28 2 w' ∧ w'.cell? ⟨w.heap.size, 0, none⟩ = some (Value.float FloatKind.f64 a.lo) ∧ w'.cell? ⟨w.heap.size, 1, none⟩ = some (Value.float FloatKind.f64 a.hi) ∧ w'.cell? ⟨w.heap.size + 1, 0, none⟩ = some (Value.float FloatKind.f64 b.lo) ∧ w'.cell? ⟨w.heap.size + 1, 1, none⟩ = some (Value.float FloatKind.f64 b.hi) ∧ w'.cell? ⟨w.heap.size + 1 + 1, 0, none⟩ = some (cellAt w' ⟨w.heap.size + 1 + 1, 0, none⟩) ∧ w'.frozen? ⟨w.heap.size + 1 + 1, 0, none⟩ = false ∧ w'.cell? ⟨w.heap.size + 1 + 1, 1, none⟩ = some (cellAt w' ⟨w.heap.size + 1 + 1, 1, none⟩) ∧ w'.frozen? ⟨w.heap.size + 1 + 1, 1, none⟩ = false) from fun w' h => ⟨h, (h.blk K0.out (by omega)).cell 0, (h.blk K0.out (by omega)).cell 1, (h.blk K1.out (by omega)).cell 0, (h.blk K1.out (by omega)).cell 1, (h.at_ 0 (by decide)).1, (h.at_ 0 (by decide)).2, (h.at_ 1 (by decide)).1, (h.at_ 1 (by decide)).2⟩)
 have D0 := Lib.hid (show Hd W (w.heap.size + 1 + 1) 28 2 W from Hd.start K2.out)
 refine (H1.out _).mono ?_
 rintro r w1 ⟨rfl, hb⟩
 have D1 := Lib.hid (Hd.call D0.out hb)
 clear hb
 obtain ⟨-, q0, q1, q2, q3, q4, q5, q6, q7⟩ := HO.out _ D1.out
 have z1 := Hd.lt D1.out
 go_wp2_with fail
 refine (H2.out _).mono ?_
 rintro r w2 ⟨rfl, hb⟩
 have D2 := Lib.hid (Hd.call D1.out hb)
 clear hb
 clear q0 q1 q2 q3 q4 q5 q6 q7
 obtain ⟨-, q0, q1, q2, q3, q4, q5, q6, q7⟩ := HO.out _ D2.out
 have z2 := Hd.lt D2.out
 go_wp2_with fail
 (try simp only [Exit.inBlock, Exit.then])
 have hF := (Hd.set (Hd.set D2.out 0 (.float .f64 0)) 1 (.float .f64 0))
 exact bodyPost_ret (resS rfl _ _ (w.heap.size + 1 + 1) (.float .f64 0) (.float .f64 0) rfl (Hd.wrote2 hF)) rfl ⟨rfl, Hd.below hF HB.out (by omega)⟩
theorem rmul_aw (a b : Sp) (z1 : isZ a = false) (z2 : isZ b = false) (h : a.wide = true) (w : World) : Calls Try.prog 101 #[.agg #[.float .f64 a.lo, .float .f64 a.hi], .agg #[.float .f64 b.lo, .float .f64 b.hi]] w fun r w' => r = .returned (.agg #[.float .f64 18442240474082181120, .float .f64 9218868437227405312]) ∧ Below w.heap.size w w' := by
 have H1 := Lib.hid (fun w => nothing_sp a w)
 have H2 := Lib.hid (fun w => nothing_sp b w)
 have H3 := Lib.hid (fun w => rwide_sp a w)
 have H5 := Lib.hid (fun w => rall_below w)
 rw [z1] at H1
 rw [z2] at H2
 rw [h] at H3
 go_enter Try.func101, Try.ntmps101
 go_wp2_with fail
 obtain ⟨W, hW, K0, K1, K2, hB, hz⟩ := box3 w 28 28 28 #[Value.float FloatKind.f64 a.lo, Value.float FloatKind.f64 a.hi] #[Value.float FloatKind.f64 b.lo, Value.float FloatKind.f64 b.hi] #[Value.float FloatKind.f64 0, Value.float FloatKind.f64 0]
 rw [← hW]
 have K0 := Lib.hid K0
 have K1 := Lib.hid K1
 have K2 := Lib.hid K2
 have HB := Lib.hid hB
 clear hW hB hz
 have HO := Lib.hid (show ∀ w', Hd W (w.heap.size + 1 + 1) 28 2 w' → (Hd W (w.heap.size + 1 + 1) 28 2 w' ∧ w'.cell? ⟨w.heap.size, 0, none⟩ = some (Value.float FloatKind.f64 a.lo) ∧ w'.cell? ⟨w.heap.size, 1, none⟩ = some (Value.float FloatKind.f64 a.hi) ∧ w'.cell? ⟨w.heap.size + 1, 0, none⟩ = some (Value.float FloatKind.f64 b.lo) ∧ w'.cell? ⟨w.heap.size + 1, 1, none⟩ = some (Value.float FloatKind.f64 b.hi) ∧ w'.cell? ⟨w.heap.size + 1 + 1, 0, none⟩ = some (cellAt w' ⟨w.heap.size + 1 + 1, 0, none⟩) ∧ w'.frozen? ⟨w.heap.size + 1 + 1, 0, none⟩ = false ∧ w'.cell? ⟨w.heap.size + 1 + 1, 1, none⟩ = some (cellAt w' ⟨w.heap.size + 1 + 1, 1, none⟩) ∧ w'.frozen? ⟨w.heap.size + 1 + 1, 1, none⟩ = false) from fun w' h => ⟨h, (h.blk K0.out (by omega)).cell 0, (h.blk K0.out (by omega)).cell 1, (h.blk K1.out (by omega)).cell 0, (h.blk K1.out (by omega)).cell 1, (h.at_ 0 (by decide)).1, (h.at_ 0 (by decide)).2, (h.at_ 1 (by decide)).1, (h.at_ 1 (by decide)).2⟩)
 have D0 := Lib.hid (show Hd W (w.heap.size + 1 + 1) 28 2 W from Hd.start K2.out)
 refine (H1.out _).mono ?_
 rintro r w1 ⟨rfl, hb⟩
 have D1 := Lib.hid (Hd.call D0.out hb)
 clear hb
 obtain ⟨-, q0, q1, q2, q3, q4, q5, q6, q7⟩ := HO.out _ D1.out
 have z1 := Hd.lt D1.out
 go_wp2_with fail
 refine (H2.out _).mono ?_
 rintro r w2 ⟨rfl, hb⟩
 have D2 := Lib.hid (Hd.call D1.out hb)
 clear hb
 clear q0 q1 q2 q3 q4 q5 q6 q7
 obtain ⟨-, q0, q1, q2, q3, q4, q5, q6, q7⟩ := HO.out _ D2.out
 have z2 := Hd.lt D2.out
 go_wp2_with fail
 refine (H3.out _).mono ?_
 rintro r w3 ⟨rfl, hb⟩
 have D3 := Lib.hid (Hd.call D2.out hb)
 clear hb
 clear q0 q1 q2 q3 q4 q5 q6 q7
 obtain ⟨-, q0, q1, q2, q3, q4, q5, q6, q7⟩ := HO.out _ D3.out
 have z3 := Hd.lt D3.out
 go_wp2_with fail
 refine (H5.out _).mono ?_
 rintro r w4 ⟨rfl, hb⟩
 have D4 := Lib.hid (Hd.call D3.out hb)
 clear hb
 clear q0 q1 q2 q3 q4 q5 q6 q7
 obtain ⟨-, q0, q1, q2, q3, q4, q5, q6, q7⟩ := HO.out _ D4.out
 have z4 := Hd.lt D4.out
 go_wp2_with fail
 (try simp only [Exit.inBlock, Exit.then])
 have hF := (Hd.set (Hd.set D4.out 0 (.float .f64 18442240474082181120)) 1 (.float .f64 9218868437227405312))
 exact bodyPost_ret (resS rfl _ _ (w.heap.size + 1 + 1) (.float .f64 18442240474082181120) (.float .f64 9218868437227405312) rfl (Hd.wrote2 hF)) rfl ⟨rfl, Hd.below hF HB.out (by omega)⟩
theorem rmul_bw (a b : Sp) (z1 : isZ a = false) (z2 : isZ b = false) (h : a.wide = false) (h' : b.wide = true) (w : World) : Calls Try.prog 101 #[.agg #[.float .f64 a.lo, .float .f64 a.hi], .agg #[.float .f64 b.lo, .float .f64 b.hi]] w fun r w' => r = .returned (.agg #[.float .f64 18442240474082181120, .float .f64 9218868437227405312]) ∧ Below w.heap.size w w' := by
 have H1 := Lib.hid (fun w => nothing_sp a w)
 have H2 := Lib.hid (fun w => nothing_sp b w)
 have H3 := Lib.hid (fun w => rwide_sp a w)
 have H4 := Lib.hid (fun w => rwide_sp b w)
 have H5 := Lib.hid (fun w => rall_below w)
 rw [z1] at H1
 rw [z2] at H2
 rw [h] at H3
 rw [h'] at H4
 go_enter Try.func101, Try.ntmps101
 go_wp2_with fail
 obtain ⟨W, hW, K0, K1, K2, hB, hz⟩ := box3 w 28 28 28 #[Value.float FloatKind.f64 a.lo, Value.float FloatKind.f64 a.hi] #[Value.float FloatKind.f64 b.lo, Value.float FloatKind.f64 b.hi] #[Value.float FloatKind.f64 0, Value.float FloatKind.f64 0]
 rw [← hW]
 have K0 := Lib.hid K0
 have K1 := Lib.hid K1
 have K2 := Lib.hid K2
 have HB := Lib.hid hB
 clear hW hB hz
 have HO := Lib.hid (show ∀ w', Hd W (w.heap.size + 1 + 1) 28 2 w' → (Hd W (w.heap.size + 1 + 1) 28 2 w' ∧ w'.cell? ⟨w.heap.size, 0, none⟩ = some (Value.float FloatKind.f64 a.lo) ∧ w'.cell? ⟨w.heap.size, 1, none⟩ = some (Value.float FloatKind.f64 a.hi) ∧ w'.cell? ⟨w.heap.size + 1, 0, none⟩ = some (Value.float FloatKind.f64 b.lo) ∧ w'.cell? ⟨w.heap.size + 1, 1, none⟩ = some (Value.float FloatKind.f64 b.hi) ∧ w'.cell? ⟨w.heap.size + 1 + 1, 0, none⟩ = some (cellAt w' ⟨w.heap.size + 1 + 1, 0, none⟩) ∧ w'.frozen? ⟨w.heap.size + 1 + 1, 0, none⟩ = false ∧ w'.cell? ⟨w.heap.size + 1 + 1, 1, none⟩ = some (cellAt w' ⟨w.heap.size + 1 + 1, 1, none⟩) ∧ w'.frozen? ⟨w.heap.size + 1 + 1, 1, none⟩ = false) from fun w' h => ⟨h, (h.blk K0.out (by omega)).cell 0, (h.blk K0.out (by omega)).cell 1, (h.blk K1.out (by omega)).cell 0, (h.blk K1.out (by omega)).cell 1, (h.at_ 0 (by decide)).1, (h.at_ 0 (by decide)).2, (h.at_ 1 (by decide)).1, (h.at_ 1 (by decide)).2⟩)
 have D0 := Lib.hid (show Hd W (w.heap.size + 1 + 1) 28 2 W from Hd.start K2.out)
 refine (H1.out _).mono ?_
 rintro r w1 ⟨rfl, hb⟩
 have D1 := Lib.hid (Hd.call D0.out hb)
 clear hb
 obtain ⟨-, q0, q1, q2, q3, q4, q5, q6, q7⟩ := HO.out _ D1.out
 have z1 := Hd.lt D1.out
 go_wp2_with fail
 refine (H2.out _).mono ?_
 rintro r w2 ⟨rfl, hb⟩
 have D2 := Lib.hid (Hd.call D1.out hb)
 clear hb
 clear q0 q1 q2 q3 q4 q5 q6 q7
 obtain ⟨-, q0, q1, q2, q3, q4, q5, q6, q7⟩ := HO.out _ D2.out
 have z2 := Hd.lt D2.out
 go_wp2_with fail
 refine (H3.out _).mono ?_
 rintro r w3 ⟨rfl, hb⟩
 have D3 := Lib.hid (Hd.call D2.out hb)
 clear hb
 clear q0 q1 q2 q3 q4 q5 q6 q7
 obtain ⟨-, q0, q1, q2, q3, q4, q5, q6, q7⟩ := HO.out _ D3.out
 have z3 := Hd.lt D3.out
 go_wp2_with fail
 refine (H4.out _).mono ?_
 rintro r w4 ⟨rfl, hb⟩
 have D4 := Lib.hid (Hd.call D3.out hb)
 clear hb
 clear q0 q1 q2 q3 q4 q5 q6 q7
 obtain ⟨-, q0, q1, q2, q3, q4, q5, q6, q7⟩ := HO.out _ D4.out
 have z4 := Hd.lt D4.out
 go_wp2_with fail
 refine (H5.out _).mono ?_
 rintro r w5 ⟨rfl, hb⟩
 have D5 := Lib.hid (Hd.call D4.out hb)
 clear hb
 clear q0 q1 q2 q3 q4 q5 q6 q7
 obtain ⟨-, q0, q1, q2, q3, q4, q5, q6, q7⟩ := HO.out _ D5.out
 have z5 := Hd.lt D5.out
 go_wp2_with fail
 (try simp only [Exit.inBlock, Exit.then])
 have hF := (Hd.set (Hd.set D5.out 0 (.float .f64 18442240474082181120)) 1 (.float .f64 9218868437227405312))
 exact bodyPost_ret (resS rfl _ _ (w.heap.size + 1 + 1) (.float .f64 18442240474082181120) (.float .f64 9218868437227405312) rfl (Hd.wrote2 hF)) rfl ⟨rfl, Hd.below hF HB.out (by omega)⟩
theorem rmul_sp (a b : Sp) (w : World) : Calls Try.prog 101 #[.agg #[.float .f64 a.lo, .float .f64 a.hi], .agg #[.float .f64 b.lo, .float .f64 b.hi]] w fun r w' => r = .returned (.agg #[.float .f64 (mulS a b).lo, .float .f64 (mulS a b).hi]) ∧ Below w.heap.size w w' := by
 unfold mulS
 by_cases hz : (isZ a || isZ b) = true
 · rw [if_pos hz]
   cases h1 : isZ a
   · rw [h1, Bool.false_or] at hz
     exact rmul_b0 a b h1 hz w
   · exact rmul_a0 a b h1 w
 · rw [if_neg hz]
   have ⟨z1, z2⟩ : isZ a = false ∧ isZ b = false := by cases h1 : isZ a <;> cases h2 : isZ b <;> simp_all
   by_cases hw : (a.wide || b.wide) = false
   · rw [dif_pos hw]
     exact rmul_on a b z1 z2 (or_false' hw).1 (or_false' hw).2 w
   · rw [dif_neg hw]
     cases h1 : a.wide
     · have h2 : b.wide = true := by rw [h1] at hw; revert hw; cases b.wide <;> simp
       exact rmul_bw a b z1 z2 h1 h2 w
     · exact rmul_aw a b z1 z2 h1 w
end Go.Proofs.Ytnljfcebmgifdaa
set_option linter.unusedVariables false
set_option linter.unusedSimpArgs false
namespace Go.Proofs.Ytnljfcebmgifdaa
open Go.RowKit Fl
theorem gt0_gd {x : Nat} (h : Gd x) : (FloatKind.f64.format.order x 0 == some .gt) = decide (0 < Z x) := by
 have z0 : Z 0 = 0 := by decide
 have := gtb h gd0
 rw [z0] at this
 exact this
end Go.Proofs.Ytnljfcebmgifdaa
namespace Go.Proofs.Ytnljfcebmgifdaa
open Go.RowKit Fl
end Go.Proofs.Ytnljfcebmgifdaa
namespace Go.Proofs.Ytnljfcebmgifdaa
open Go.RowKit Fl
end Go.Proofs.Ytnljfcebmgifdaa
namespace Go.Proofs.Ytnljfcebmgifdaa
open Go.RowKit Fl
theorem rsame_any (x y : Nat) (w : World) : Calls Try.prog 55 #[.agg #[.float .f64 x, .float .f64 y], .agg #[.float .f64 x, .float .f64 y]] w fun r w' => r = .returned (.bool true) ∧ Below w.heap.size w w' := by
 go_enter Try.func55, Try.ntmps55
 go_wp2_with fail
 go_quiet (fail)
 go_wp2_with fail
 go_ret
 exact ⟨ret_bool (by simp), below_drewN (below_new2 w _ _) _⟩
theorem rsame_sp (a : Sp) (w : World) : Calls Try.prog 55 #[.agg #[.float .f64 a.lo, .float .f64 a.hi], .agg #[.float .f64 a.lo, .float .f64 a.hi]] w fun r w' => r = .returned (.bool true) ∧ Below w.heap.size w w' := rsame_any a.lo a.hi w
end Go.Proofs.Ytnljfcebmgifdaa
namespace Go.Proofs.Ytnljfcebmgifdaa
open Go.RowKit Fl
end Go.Proofs.Ytnljfcebmgifdaa
namespace Go.Proofs.Ytnljfcebmgifdaa
open Go.RowKit Fl
end Go.Proofs.Ytnljfcebmgifdaa
set_option linter.unusedVariables false
set_option linter.unusedSimpArgs false
namespace Go.Proofs.Ytnljfcebmgifdaa
open Fl
abbrev W1 : Nat := 4607182418800017408
end Go.Proofs.Ytnljfcebmgifdaa
set_option linter.unusedVariables false
set_option linter.unusedSimpArgs false
namespace Go.Proofs.Ytnljfcebmgifdaa
open Go.RowKit Fl
theorem rsameV_self (a : V3) (w : World) : Calls Try.prog 54 #[Value.agg #[.float .f64 a.x.lo, .float .f64 a.x.hi, .float .f64 a.y.lo, .float .f64 a.y.hi, .float .f64 a.z.lo, .float .f64 a.z.hi], Value.agg #[.float .f64 a.x.lo, .float .f64 a.x.hi, .float .f64 a.y.lo, .float .f64 a.y.hi, .float .f64 a.z.lo, .float .f64 a.z.hi]] w fun r w' => r = .returned (.bool true) ∧ Below w.heap.size w w' := by
 have C0 := Lib.hid (fun w => rsame_sp a.x w)
 have C1 := Lib.hid (fun w => rsame_sp a.y w)
 have C2 := Lib.hid (fun w => rsame_sp a.z w)
 go_enter Try.func54, Try.ntmps54
 go_wp2_with fail
 obtain ⟨W, hW, K0, K1, hB, hz⟩ := bx2 w 30 30 (vc a) (vc a)
 rw [← hW]
 have K0 := Lib.hid K0
 have K1 := Lib.hid K1
 have HB := Lib.hid hB
 clear hW hB hz
 have D1 := dr W
 refine (C0.out _).mono ?_
 rintro r w2 ⟨rfl, hb⟩
 have D3 := ds D1 hb
 clear D1
 clear hb
 have hq4 := (kb K0 D3).cellsL 2 [.float .f64 a.y.lo, .float .f64 a.y.hi] rfl
 dsimp only [CellsL, al, vl, Nat.reduceAdd] at hq4
 have hq5 := (kb K1 D3).cellsL 2 [.float .f64 a.y.lo, .float .f64 a.y.hi] rfl
 dsimp only [CellsL, al, vl, Nat.reduceAdd] at hq5
 go_wp2_with fail
 clear hq4 hq5
 refine (C1.out _).mono ?_
 rintro r w6 ⟨rfl, hb⟩
 have D7 := ds D3 hb
 clear D3
 clear hb
 have hq8 := (kb K0 D7).cellsL 4 [.float .f64 a.z.lo, .float .f64 a.z.hi] rfl
 dsimp only [CellsL, al, vl, Nat.reduceAdd] at hq8
 have hq9 := (kb K1 D7).cellsL 4 [.float .f64 a.z.lo, .float .f64 a.z.hi] rfl
 dsimp only [CellsL, al, vl, Nat.reduceAdd] at hq9
 go_wp2_with fail
 clear hq8 hq9
 refine (C2.out _).mono ?_
 rintro r w10 ⟨rfl, hb⟩
 have D11 := ds D7 hb
 clear D7
 clear hb
 go_wp2_with fail
 go_ret
 exact ⟨rfl, below_step HB.out D11.out⟩
end Go.Proofs.Ytnljfcebmgifdaa
set_option linter.unusedVariables false
set_option linter.unusedSimpArgs false
namespace Go.Proofs.Ytnljfcebmgifdaa
open Go.ChangeShapes Go.WideShapes Go.ChangeAt Go.RowKit Go.Joins
section
variable {H : Type} {enc : TypeId × Value → H} {w : World} {base : Nat} {spare : Nat → Bool} {held : Bool}
theorem trod_float1 {n : Nat} {t : TypeId} {v : Value} {y : DataW H × List MemPlace} (ht : Try.prog.underlying t = some (.float .f64)) (h : DataW.trod enc Try.prog w base spare held n t [v] = some y) :
   ∃ b, v = .float .f64 b ∧ y = (.lit (.float .f64 b), []) ∧ (Lit.float .f64 b).wf = true := by
 cases n with
 | zero => simp [DataW.trod] at h
 | succ n =>
   cases v <;> simp [DataW.trod, ht] at h
   rename_i k b
   cases k <;> simp at h
   obtain ⟨h1, h2⟩ := h
   exact ⟨b, rfl, h2.symm, h1⟩
end
end Go.Proofs.Ytnljfcebmgifdaa
set_option linter.unusedVariables false
set_option linter.unusedSimpArgs false
namespace Go.Proofs.Ytnljfcebmgifdaa
open Go.ChangeShapes Go.WideShapes Go.ChangeAt Go.RowKit Go.Joins
theorem okWide_arr {P : Program} {w : World} {r : Reach} {b0 n : Nat} {t e : TypeId} {v : Value} (ht : P.underlying t = some (.array n e)) (h : Value.okWide P w r b0 t v) : ∃ cs, v = .agg cs ∧ cs.size = P.cellsOf t := by
 simp only [Value.okWide, ht] at h
 obtain ⟨cs, h1, h2, _⟩ := h
 exact ⟨cs, h1, h2⟩
section
variable {H : Type} {enc : TypeId × Value → H} {w : World} {base : Nat} {spare : Nat → Bool} {held : Bool}
/-- What reads at the type is so many floats; and so many floats read at it. -/
structure Flat (enc : TypeId × Value → H) (w : World) (base : Nat) (spare : Nat → Bool) (held : Bool) (T : TypeId) (k : Nat) (sh : List Nat → DataW H) : Prop where
 op : ∀ n (cs : List Value) y, cs.length = k → DataW.trod enc Try.prog w base spare held n T cs = some y → ∃ ws : List Nat, cs = ws.map (Value.float .f64) ∧ y = (sh ws, []) ∧ ∀ x ∈ ws, wfF x
 sh : ∀ ws : List Nat, ws.length = k → (∀ x ∈ ws, wfF x) → ∃ n0, ∀ n, n0 ≤ n → DataW.trod enc Try.prog w base spare held n T (ws.map (Value.float .f64)) = some (sh ws, [])
def shF (ws : List Nat) : DataW H := .lit (.float .f64 (ws.getD 0 0))
theorem flatF {t : TypeId} (ht : Try.prog.underlying t = some (.float .f64)) : Flat enc w base spare held t 1 shF := by
 refine ⟨?_, ?_⟩
 · intro n cs y hl h
   match cs, hl with
   | [v], _ =>
     obtain ⟨b, rfl, rfl, hw⟩ := trod_float1 ht h
     exact ⟨[b], rfl, rfl, by intro x hx; simp only [List.mem_singleton] at hx; subst hx; exact hw⟩
 · intro ws hl hw
   match ws, hl with
   | [b], _ =>
     have hb : (Lit.float .f64 b).wf = true := hw b (by simp)
     refine ⟨1, fun n hn => ?_⟩
     cases n with
     | zero => omega
     | succ n => simp [DataW.trod, ht, hb, shF]
def sh3 (k : Nat) (f : List Nat → DataW H) (ws : List Nat) : DataW H := .agg [f (ws.take k), f ((ws.drop k).take k), f ((ws.drop (2 * k)).take k)]
theorem cut3 {α : Type} {k : Nat} {cs : List α} (h : cs.length = 3 * k) : cs = (cs.drop (0 * k)).take k ++ (cs.drop (1 * k)).take k ++ (cs.drop (2 * k)).take k := by
 have e : (cs.drop (2 * k)).take k = cs.drop (2 * k) := List.take_of_length_le (by simp; omega)
 rw [e]
 simp only [Nat.zero_mul, Nat.one_mul, List.drop_zero]
 have e2 : List.take k (cs.drop k) ++ cs.drop (2 * k) = cs.drop k := by
   have := List.take_append_drop k (cs.drop k)
   rw [List.drop_drop] at this
   rw [show 2 * k = k + k by omega]; exact this
 rw [List.append_assoc, e2, List.take_append_drop]
theorem trod_arr3 {n : Nat} {T e : TypeId} {cs : List Value} (hT : Try.prog.underlying T = some (.array 3 e)) :
   DataW.trod enc Try.prog w base spare held (n + 1) T cs = (if cs.length = Try.prog.cellsOf T then ((List.range 3).mapM fun i => DataW.trod enc Try.prog w base spare held n e ((cs.drop (i * Try.prog.cellsOf e)).take (Try.prog.cellsOf e))).map fun xs => (DataW.agg (xs.map (·.1)), xs.flatMap (·.2)) else none) := by
 rw [DataW.trod.eq_def]
 simp only [hT]
theorem flat3 {T e : TypeId} {k : Nat} {f : List Nat → DataW H} (hT : Try.prog.underlying T = some (.array 3 e)) (hc : Try.prog.cellsOf T = 3 * k) (he : Try.prog.cellsOf e = k) (F : Flat enc w base spare held e k f) : Flat enc w base spare held T (3 * k) (sh3 k f) := by
 refine ⟨?_, ?_⟩
 · intro n cs y hl h
   cases n with
   | zero => simp [DataW.trod] at h
   | succ n =>
     rw [trod_arr3 hT, if_pos (hl.trans hc.symm), he, show List.range 3 = [0, 1, 2] from rfl] at h
     simp only [List.mapM_cons, List.mapM_nil, Option.map_eq_some_iff, Option.bind_eq_bind, Option.bind_eq_some_iff, Option.pure_def, Option.some.injEq] at h
     obtain ⟨xs, ⟨y0, h0, l1, ⟨y1, h1, l2, ⟨y2, h2, l3, rfl, rfl⟩, rfl⟩, rfl⟩, hx⟩ := h
     obtain ⟨w0, c0, rfl, q0⟩ := F.op _ _ _ (by simp; omega) h0
     obtain ⟨w1, c1, rfl, q1⟩ := F.op _ _ _ (by simp; omega) h1
     obtain ⟨w2, c2, rfl, q2⟩ := F.op _ _ _ (by simp; omega) h2
     have s0 : w0.length = k := by have := congrArg List.length c0; simp at this; omega
     have s1 : w1.length = k := by have := congrArg List.length c1; simp at this; omega
     have s2 : w2.length = k := by have := congrArg List.length c2; simp at this; omega
     refine ⟨w0 ++ w1 ++ w2, ?_, ?_, ?_⟩
     · rw [List.map_append, List.map_append, ← c0, ← c1, ← c2]; exact cut3 hl
     · rw [← hx]
       unfold sh3
       have e0 : List.take k (w0 ++ w1 ++ w2) = w0 := by rw [List.append_assoc, ← s0, List.take_left]
       have e1 : List.take k (List.drop k (w0 ++ w1 ++ w2)) = w1 := by rw [List.append_assoc, show List.drop k (w0 ++ (w1 ++ w2)) = w1 ++ w2 by rw [← s0, List.drop_left], ← s1, List.take_left]
       have e2 : List.take k (List.drop (2 * k) (w0 ++ w1 ++ w2)) = w2 := by rw [show List.drop (2 * k) (w0 ++ w1 ++ w2) = w2 by rw [show 2 * k = (w0 ++ w1).length by simp; omega, List.drop_left], ← s2, List.take_length]
       rw [e0, e1, e2]
       simp
     · intro x hx
       simp only [List.mem_append] at hx
       rcases hx with (hx | hx) | hx
       · exact q0 x hx
       · exact q1 x hx
       · exact q2 x hx
 · intro ws hl hw
   have m : ∀ i x, x ∈ (ws.drop i).take k → wfF x := fun i x hx => hw x (List.mem_of_mem_drop (List.mem_of_mem_take hx))
   obtain ⟨n0, h0⟩ := F.sh ((ws.drop (0 * k)).take k) (by simp; omega) (m _)
   obtain ⟨n1, h1⟩ := F.sh ((ws.drop (1 * k)).take k) (by simp; omega) (m _)
   obtain ⟨n2, h2⟩ := F.sh ((ws.drop (2 * k)).take k) (by simp; omega) (m _)
   refine ⟨n0 + n1 + n2 + 1, fun n hn => ?_⟩
   cases n with
   | zero => omega
   | succ n =>
     rw [trod_arr3 hT, if_pos (by rw [List.length_map]; exact hl.trans hc.symm), he, show List.range 3 = [0, 1, 2] from rfl]
     have k0 := h0 n (by omega)
     have k1 := h1 n (by omega)
     have k2 := h2 n (by omega)
     rw [List.map_take, List.map_drop] at k0 k1 k2
     simp only [List.mapM_cons, List.mapM_nil, k0, k1, k2, Option.bind_eq_bind, Option.bind_some, Option.pure_def, Option.map_some]
     simp [sh3]
theorem flat_open {T : TypeId} {k : Nat} {f : List Nat → DataW H} {cs : Array Value} {d : DataW H} {p : List MemPlace} (F : Flat enc w base spare held T k f) (hs : cs.size = k) (h : DataW.Trod enc Try.prog w base spare held T (.agg cs) d p) :
   ∃ ws : List Nat, cs.toList = ws.map (Value.float .f64) ∧ ws.length = k ∧ d = f ws ∧ p = [] ∧ ∀ x ∈ ws, wfF x := by
 obtain ⟨n, hn⟩ := h
 have hn : DataW.trod enc Try.prog w base spare held n T cs.toList = some (d, p) := hn
 obtain ⟨ws, e, hy, hw⟩ := F.op n cs.toList (d, p) (by simpa using hs) hn
 simp only [Prod.mk.injEq] at hy
 exact ⟨ws, e, by have := congrArg List.length e; simp at this; omega, hy.1, hy.2, hw⟩
theorem flat_shut {T : TypeId} {k : Nat} {f : List Nat → DataW H} (F : Flat enc w base spare held T k f) (ws : List Nat) (hl : ws.length = k) (hw : ∀ x ∈ ws, wfF x) :
   DataW.Trod enc Try.prog w base spare held T (.agg (ws.map (Value.float .f64)).toArray) (f ws) [] := by
 obtain ⟨n, h⟩ := F.sh ws hl hw
 exact ⟨n, h n (Nat.le_refl _)⟩
end
end Go.Proofs.Ytnljfcebmgifdaa
