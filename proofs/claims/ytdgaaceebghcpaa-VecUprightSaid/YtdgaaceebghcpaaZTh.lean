/- A number that fits (gen_th.py). -/
import Derived.Test.YtdgaaceebghcpaaZTx
set_option linter.unusedVariables false
set_option linter.unusedSimpArgs false
namespace Go.Proofs.Ytdgaaceebghcpaa
open Go.RowKit Fl

def ngW (x : Nat) : Nat := Op.negFloat .f64 x
def axW (x : Nat) : Nat := if (FloatKind.f64.format.order x 0 == some .lt) = true then ngW x else x
def fitsB (x : Nat) : Bool := (FloatKind.f64.format.order (axW x) 0 == some .eq) || ((FloatKind.f64.format.order (axW x) 4156822456062967808 == some .gt || FloatKind.f64.format.order (axW x) 4156822456062967808 == some .eq) && (FloatKind.f64.format.order (axW x) 5057542381537067008 == some .lt || FloatKind.f64.format.order (axW x) 5057542381537067008 == some .eq))
def fitW (x : Nat) : Nat := if fitsB x = true then pl x else 4607182418800017408
theorem run_negW (x : Nat) : Op.negFloat .f64 x = ngW x := rfl
theorem ngW_eq (x : Nat) : ngW x = x ^^^ 2 ^ 63 := rfl
theorem ngW_lt {x : Nat} (h : x < 18446744073709551616) : ngW x < 18446744073709551616 := by
  rw [ngW_eq]; exact Nat.xor_lt_two_pow (n := 64) h (by decide)
theorem ngW_mg (x : Nat) : mg (ngW x) = mg x := by
  rw [ngW_eq]
  unfold mg
  rw [show SGN = 2 ^ 63 from rfl, Nat.xor_mod_two_pow, Nat.mod_self, Nat.xor_zero]
theorem axW_lt {x : Nat} (h : x < 18446744073709551616) : axW x < 18446744073709551616 := by
  unfold axW; split
  · exact ngW_lt h
  · exact h
theorem axW_mg (x : Nat) : mg (axW x) = mg x := by
  unfold axW; split
  · exact ngW_mg x
  · rfl
theorem fits_mg {x : Nat} (hx : x < 18446744073709551616) (h : fitsB x = true) : mg x ≤ 5057542381537067008 := by
  rw [← axW_mg x]
  have hy := axW_lt hx
  unfold fitsB at h
  generalize axW x = y at *
  have hn : nan y = false := by
    cases hn : nan y with
    | false => rfl
    | true =>
      have e : ∀ b, FloatKind.f64.format.order y b = none := fun b => order_nan_left y b hy hn
      rw [e, e, e] at h
      exact absurd h (by decide)
  have hl : nan 4156822456062967808 = false := by decide
  have hh : nan 5057542381537067008 = false := by decide
  have q1 : (FloatKind.f64.format.order y 0 == some .eq) = decide (Z y = Z 0) := eq_eq hy (by decide) hn (by decide)
  have q2 : (FloatKind.f64.format.order y 4156822456062967808 == some .gt || FloatKind.f64.format.order y 4156822456062967808 == some .eq) = decide (Z 4156822456062967808 ≤ Z y) := ge_eq hy (by decide) hn hl
  have q3 : (FloatKind.f64.format.order y 5057542381537067008 == some .lt || FloatKind.f64.format.order y 5057542381537067008 == some .eq) = decide (Z y ≤ Z 5057542381537067008) := le_eq hy (by decide) hn hh
  rw [q1, q2, q3] at h
  have z0 : Z 0 = 0 := by decide
  have zl : 0 ≤ Z 4156822456062967808 := by decide +kernel
  have zh : Z 5057542381537067008 = (rv 5057542381537067008 : Int) := by decide +kernel
  simp only [Bool.or_eq_true, Bool.and_eq_true, decide_eq_true_eq] at h
  have hp : 0 ≤ Z y ∧ Z y ≤ Z 5057542381537067008 := by
    rcases h with h | ⟨h1, h2⟩
    · rw [h, z0]; exact ⟨Int.le_refl _, by rw [zh]; exact Int.natCast_nonneg _⟩
    · exact ⟨by omega, h2⟩
  have e := Z_nonneg_mg hp.1
  rw [e, zh] at hp
  exact rv_le_iff.1 (Int.ofNat_le.1 hp.2)
theorem fits_fin {x : Nat} (hx : x < 18446744073709551616) (h : fitsB x = true) : fin x = true := fin_of (Nat.lt_of_le_of_lt (fits_mg hx h) (by decide))
theorem fitW_lt {x : Nat} (hx : x < 18446744073709551616) : fitW x < 18446744073709551616 := by
  unfold fitW; split
  · exact pl_lt hx
  · decide
set_option maxRecDepth 100000 in
set_option maxHeartbeats 8000000 in
theorem fits_0T (x : Nat) (e : (FloatKind.f64.format.order x 0 == some .lt) = false) (e0 : (FloatKind.f64.format.order x 0 == some .eq) = true) (w : World) : Calls Try.prog 73 #[.float .f64 x] w fun r w' => r = .returned (.bool true) ∧ Below w.heap.size w w' := by
  go_enter Try.func73, Try.ntmps73
  go_wp2_with fail
  go_ret
  exact ⟨rfl, (Below.refl _ w)⟩
set_option maxRecDepth 100000 in
set_option maxHeartbeats 8000000 in
theorem fits_0FF (x : Nat) (e : (FloatKind.f64.format.order x 0 == some .lt) = false) (e0 : (FloatKind.f64.format.order x 0 == some .eq) = false) (e1 : (FloatKind.f64.format.order x 4156822456062967808 == some .gt || FloatKind.f64.format.order x 4156822456062967808 == some .eq) = false) (w : World) : Calls Try.prog 73 #[.float .f64 x] w fun r w' => r = .returned (.bool false) ∧ Below w.heap.size w w' := by
  go_enter Try.func73, Try.ntmps73
  go_wp2_with fail
  go_ret
  exact ⟨rfl, (Below.refl _ w)⟩
set_option maxRecDepth 100000 in
set_option maxHeartbeats 8000000 in
theorem fits_0FTF (x : Nat) (e : (FloatKind.f64.format.order x 0 == some .lt) = false) (e0 : (FloatKind.f64.format.order x 0 == some .eq) = false) (e1 : (FloatKind.f64.format.order x 4156822456062967808 == some .gt || FloatKind.f64.format.order x 4156822456062967808 == some .eq) = true) (e2 : (FloatKind.f64.format.order x 5057542381537067008 == some .lt || FloatKind.f64.format.order x 5057542381537067008 == some .eq) = false) (w : World) : Calls Try.prog 73 #[.float .f64 x] w fun r w' => r = .returned (.bool false) ∧ Below w.heap.size w w' := by
  go_enter Try.func73, Try.ntmps73
  go_wp2_with fail
  go_ret
  exact ⟨rfl, (Below.refl _ w)⟩
set_option maxRecDepth 100000 in
set_option maxHeartbeats 8000000 in
theorem fits_0FTT (x : Nat) (e : (FloatKind.f64.format.order x 0 == some .lt) = false) (e0 : (FloatKind.f64.format.order x 0 == some .eq) = false) (e1 : (FloatKind.f64.format.order x 4156822456062967808 == some .gt || FloatKind.f64.format.order x 4156822456062967808 == some .eq) = true) (e2 : (FloatKind.f64.format.order x 5057542381537067008 == some .lt || FloatKind.f64.format.order x 5057542381537067008 == some .eq) = true) (w : World) : Calls Try.prog 73 #[.float .f64 x] w fun r w' => r = .returned (.bool true) ∧ Below w.heap.size w w' := by
  go_enter Try.func73, Try.ntmps73
  go_wp2_with fail
  go_ret
  exact ⟨rfl, (Below.refl _ w)⟩
set_option maxRecDepth 100000 in
set_option maxHeartbeats 8000000 in
theorem fits_1T (x : Nat) (e : (FloatKind.f64.format.order x 0 == some .lt) = true) (e0 : (FloatKind.f64.format.order (ngW x) 0 == some .eq) = true) (w : World) : Calls Try.prog 73 #[.float .f64 x] w fun r w' => r = .returned (.bool true) ∧ Below w.heap.size w w' := by
  have hm := run_negW x
  go_enter Try.func73, Try.ntmps73
  go_wp2_with fail
  go_ret
  exact ⟨rfl, (Below.refl _ w)⟩
set_option maxRecDepth 100000 in
set_option maxHeartbeats 8000000 in
theorem fits_1FF (x : Nat) (e : (FloatKind.f64.format.order x 0 == some .lt) = true) (e0 : (FloatKind.f64.format.order (ngW x) 0 == some .eq) = false) (e1 : (FloatKind.f64.format.order (ngW x) 4156822456062967808 == some .gt || FloatKind.f64.format.order (ngW x) 4156822456062967808 == some .eq) = false) (w : World) : Calls Try.prog 73 #[.float .f64 x] w fun r w' => r = .returned (.bool false) ∧ Below w.heap.size w w' := by
  have hm := run_negW x
  go_enter Try.func73, Try.ntmps73
  go_wp2_with fail
  go_ret
  exact ⟨rfl, (Below.refl _ w)⟩
set_option maxRecDepth 100000 in
set_option maxHeartbeats 8000000 in
theorem fits_1FTF (x : Nat) (e : (FloatKind.f64.format.order x 0 == some .lt) = true) (e0 : (FloatKind.f64.format.order (ngW x) 0 == some .eq) = false) (e1 : (FloatKind.f64.format.order (ngW x) 4156822456062967808 == some .gt || FloatKind.f64.format.order (ngW x) 4156822456062967808 == some .eq) = true) (e2 : (FloatKind.f64.format.order (ngW x) 5057542381537067008 == some .lt || FloatKind.f64.format.order (ngW x) 5057542381537067008 == some .eq) = false) (w : World) : Calls Try.prog 73 #[.float .f64 x] w fun r w' => r = .returned (.bool false) ∧ Below w.heap.size w w' := by
  have hm := run_negW x
  go_enter Try.func73, Try.ntmps73
  go_wp2_with fail
  go_ret
  exact ⟨rfl, (Below.refl _ w)⟩
set_option maxRecDepth 100000 in
set_option maxHeartbeats 8000000 in
theorem fits_1FTT (x : Nat) (e : (FloatKind.f64.format.order x 0 == some .lt) = true) (e0 : (FloatKind.f64.format.order (ngW x) 0 == some .eq) = false) (e1 : (FloatKind.f64.format.order (ngW x) 4156822456062967808 == some .gt || FloatKind.f64.format.order (ngW x) 4156822456062967808 == some .eq) = true) (e2 : (FloatKind.f64.format.order (ngW x) 5057542381537067008 == some .lt || FloatKind.f64.format.order (ngW x) 5057542381537067008 == some .eq) = true) (w : World) : Calls Try.prog 73 #[.float .f64 x] w fun r w' => r = .returned (.bool true) ∧ Below w.heap.size w w' := by
  have hm := run_negW x
  go_enter Try.func73, Try.ntmps73
  go_wp2_with fail
  go_ret
  exact ⟨rfl, (Below.refl _ w)⟩
theorem fits_any (x : Nat) (w : World) : Calls Try.prog 73 #[.float .f64 x] w fun r w' => r = .returned (.bool (fitsB x)) ∧ Below w.heap.size w w' := by
  unfold fitsB
  cases e : (FloatKind.f64.format.order x 0 == some .lt)
  · rw [show axW x = x by unfold axW; rw [e]; rfl]
    cases e0 : (FloatKind.f64.format.order x 0 == some .eq)
    · cases e1 : (FloatKind.f64.format.order x 4156822456062967808 == some .gt || FloatKind.f64.format.order x 4156822456062967808 == some .eq)
      · exact fits_0FF x e e0 e1 w
      · cases e2 : (FloatKind.f64.format.order x 5057542381537067008 == some .lt || FloatKind.f64.format.order x 5057542381537067008 == some .eq)
        · exact fits_0FTF x e e0 e1 e2 w
        · exact fits_0FTT x e e0 e1 e2 w
    · exact fits_0T x e e0 w
  · rw [show axW x = (ngW x) by unfold axW; rw [e]; rfl]
    cases e0 : (FloatKind.f64.format.order (ngW x) 0 == some .eq)
    · cases e1 : (FloatKind.f64.format.order (ngW x) 4156822456062967808 == some .gt || FloatKind.f64.format.order (ngW x) 4156822456062967808 == some .eq)
      · exact fits_1FF x e e0 e1 w
      · cases e2 : (FloatKind.f64.format.order (ngW x) 5057542381537067008 == some .lt || FloatKind.f64.format.order (ngW x) 5057542381537067008 == some .eq)
        · exact fits_1FTF x e e0 e1 e2 w
        · exact fits_1FTT x e e0 e1 e2 w
    · exact fits_1T x e e0 w
set_option maxRecDepth 100000 in
set_option maxHeartbeats 8000000 in
theorem fit_y (x : Nat) (hx : x < 18446744073709551616) (h : fitsB x = true) (w : World) : Calls Try.prog 30 #[.float .f64 x] w fun r w' => r = .returned (.float .f64 (pl x)) ∧ Below w.heap.size w w' := by
  have hd : floatBits .add .f64 x 0 = some (pl x) := Fl.add_zero x hx (nan_of_fin (fits_fin hx h))
  have hm := fun (t : TypeId) (w : World) => run_float_arith (P := Try.prog) w .add t .f64 _ _ _ hd
  clear hd
  have C0 := Lib.hid (fun w => fits_any x w)
  rw [h] at C0
  go_enter Try.func30, Try.ntmps30
  go_wp2_with fail
  obtain ⟨W, hW⟩ : ∃ W, W = w := ⟨_, rfl⟩
  rw [← hW]
  have HB := Lib.hid (hW ▸ Below.refl w.heap.size w : Below w.heap.size w W)
  clear hW
  have D1 := dr W
  refine (C0.out _).mono ?_
  rintro r w2 ⟨rfl, hb⟩
  have D3 := ds D1 hb
  clear D1
  clear hb
  go_wp2_with fail
  go_ret
  exact ⟨rfl, below_step HB.out D3.out⟩
set_option maxRecDepth 100000 in
set_option maxHeartbeats 8000000 in
theorem fit_n (x : Nat) (hx : x < 18446744073709551616) (h : fitsB x = false) (w : World) : Calls Try.prog 30 #[.float .f64 x] w fun r w' => r = .returned (.float .f64 4607182418800017408) ∧ Below w.heap.size w w' := by
  have C0 := Lib.hid (fun w => fits_any x w)
  rw [h] at C0
  go_enter Try.func30, Try.ntmps30
  go_wp2_with fail
  obtain ⟨W, hW⟩ : ∃ W, W = w := ⟨_, rfl⟩
  rw [← hW]
  have HB := Lib.hid (hW ▸ Below.refl w.heap.size w : Below w.heap.size w W)
  clear hW
  have D1 := dr W
  refine (C0.out _).mono ?_
  rintro r w2 ⟨rfl, hb⟩
  have D3 := ds D1 hb
  clear D1
  clear hb
  go_wp2_with fail
  go_ret
  exact ⟨rfl, below_step HB.out D3.out⟩
theorem fit_any (x : Nat) (hx : x < 18446744073709551616) (w : World) : Calls Try.prog 30 #[.float .f64 x] w fun r w' => r = .returned (.float .f64 (fitW x)) ∧ Below w.heap.size w w' := by
  unfold fitW
  by_cases h : fitsB x = true
  · rw [if_pos h]; exact fit_y x hx h w
  · rw [if_neg h]; exact fit_n x hx (by simpa using h) w
end Go.Proofs.Ytdgaaceebghcpaa
