/- The walk of the document's Mul (gen_sh.py). -/
import Derived.Test.YtdgaaceebghcpaaGe
import Derived.Deep.CutBlock
import Derived.Deep.DeepCutAuto
import Derived.LoopN
set_option linter.unusedVariables false
set_option linter.unusedSimpArgs false
namespace Go.Proofs.Ytdgaaceebghcpaa
open Go.RowKit Fl

def LR (l0 l1 l2 l3 m0 m1 m2 m3 : Nat) (V : World) (x y i : Value) (wr : World) : Prop :=
  Below V.heap.size V wr ∧ ((x = .float .f64 9218868437227405312 ∧ y = .float .f64 18442240474082181120 ∧ i = .int .i64 0) ∨ (x = .float .f64 l0 ∧ y = .float .f64 m0 ∧ i = .int .i64 1) ∨ (x = .float .f64 l1 ∧ y = .float .f64 m1 ∧ i = .int .i64 2) ∨ (x = .float .f64 l2 ∧ y = .float .f64 m2 ∧ i = .int .i64 3) ∨ (x = .float .f64 l3 ∧ y = .float .f64 m3 ∧ i = .int .i64 4))
theorem nothing_sp (a : Sp) (w : World) : Calls Try.prog 121 #[.agg #[.float .f64 a.lo, .float .f64 a.hi]] w fun r w' => r = .returned (.bool (isZ a)) ∧ Below w.heap.size w w' := by
  have key : ∀ x : Nat, Gd x → (FloatKind.f64.format.order x 0 == some .eq) = decide (Z x = 0) := by
    intro x h
    have z0 : Z 0 = 0 := by decide
    have := eqb h gd0
    rw [z0] at this
    exact this
  have e1 := key a.lo a.vd.l
  have e2 := key a.hi a.vd.h
  unfold isZ
  generalize decide (Z a.lo = 0) = p at *
  generalize decide (Z a.hi = 0) = q at *
  clear key
  cases p
  all_goals
    go_enter Try.func121, Try.ntmps121
    go_wp2_with fail
    go_ret
    exact ⟨rfl, below_new _ _⟩
set_option maxRecDepth 100000 in
set_option maxHeartbeats 4000000 in
theorem rmul_on (a b : Sp) (z1 : isZ a = false) (z2 : isZ b = false) (h : a.wide = false) (h' : b.wide = false) (w : World) : Calls Try.prog 87 #[.agg #[.float .f64 a.lo, .float .f64 a.hi], .agg #[.float .f64 b.lo, .float .f64 b.hi]] w fun r w' => r = .returned (.agg #[.float .f64 (q4lo mulD a b), .float .f64 (q4hi mulU a b)]) ∧ Below w.heap.size w w' := by
  have HD := mul_rd (a := a) (b := b) (by rw [h, h']; rfl)
  have HU := mul_ru (a := a) (b := b) (by rw [h, h']; rfl)
  have HC : ∀ x y, x < 18446744073709551616 → y < 18446744073709551616 → ∀ d : Bool, ∃ e : Nat, ∀ w, Calls Try.prog 122 #[.float .f64 x, .float .f64 y, .bool d] w fun r w' => r = .returned (.tuple #[.float .f64 (mulR x y d).1, .int .i64 (e : Int)]) ∧ Below w.heap.size w w' := fun x y hx hy d => ⟨(mulR x y d).2, fun w => rmul_any x y d hx hy w⟩
  have H1 := Lib.hid (fun w => nothing_sp a w)
  have H2 := Lib.hid (fun w => nothing_sp b w)
  have H3 := Lib.hid (fun w => rwide_sp a w)
  have H4 := Lib.hid (fun w => rwide_sp b w)
  have HI := Lib.hid (fun w => rinf_any w)
  have NG := neg_inf
  rw [z1] at H1
  rw [z2] at H2
  rw [h] at H3
  rw [h'] at H4
  clear z1 z2 h h'
  have g0 := (HD a.lo b.lo (Or.inl rfl) (Or.inl rfl)).gd
  have k0 := (HU a.lo b.lo (Or.inl rfl) (Or.inl rfl)).gd
  obtain ⟨e0, he⟩ := HC a.lo b.lo a.vd.l.lt b.vd.l.lt true
  have C0 := Lib.hid he
  clear he
  obtain ⟨e1, he⟩ := HC a.lo b.lo a.vd.l.lt b.vd.l.lt false
  have C1 := Lib.hid he
  clear he
  have g1 := (HD a.lo b.hi (Or.inl rfl) (Or.inr rfl)).gd
  have k1 := (HU a.lo b.hi (Or.inl rfl) (Or.inr rfl)).gd
  obtain ⟨e2, he⟩ := HC a.lo b.hi a.vd.l.lt b.vd.h.lt true
  have C2 := Lib.hid he
  clear he
  obtain ⟨e3, he⟩ := HC a.lo b.hi a.vd.l.lt b.vd.h.lt false
  have C3 := Lib.hid he
  clear he
  have g2 := (HD a.hi b.lo (Or.inr rfl) (Or.inl rfl)).gd
  have k2 := (HU a.hi b.lo (Or.inr rfl) (Or.inl rfl)).gd
  obtain ⟨e4, he⟩ := HC a.hi b.lo a.vd.h.lt b.vd.l.lt true
  have C4 := Lib.hid he
  clear he
  obtain ⟨e5, he⟩ := HC a.hi b.lo a.vd.h.lt b.vd.l.lt false
  have C5 := Lib.hid he
  clear he
  have g3 := (HD a.hi b.hi (Or.inr rfl) (Or.inr rfl)).gd
  have k3 := (HU a.hi b.hi (Or.inr rfl) (Or.inr rfl)).gd
  obtain ⟨e6, he⟩ := HC a.hi b.hi a.vd.h.lt b.vd.h.lt true
  have C6 := Lib.hid he
  clear he
  obtain ⟨e7, he⟩ := HC a.hi b.hi a.vd.h.lt b.vd.h.lt false
  have C7 := Lib.hid he
  clear he
  unfold q4lo q4hi
  obtain ⟨d0, hd⟩ : ∃ d, mulD a.lo b.lo = d := ⟨_, rfl⟩
  have hd' : (mulR a.lo b.lo true).1 = d0 := hd
  rw [hd] at g0 ⊢
  rw [hd'] at C0
  clear hd hd'
  obtain ⟨u0, hd⟩ : ∃ d, mulU a.lo b.lo = d := ⟨_, rfl⟩
  have hd' : (mulR a.lo b.lo false).1 = u0 := hd
  rw [hd] at k0 ⊢
  rw [hd'] at C1
  clear hd hd'
  obtain ⟨d1, hd⟩ : ∃ d, mulD a.lo b.hi = d := ⟨_, rfl⟩
  have hd' : (mulR a.lo b.hi true).1 = d1 := hd
  rw [hd] at g1 ⊢
  rw [hd'] at C2
  clear hd hd'
  obtain ⟨u1, hd⟩ : ∃ d, mulU a.lo b.hi = d := ⟨_, rfl⟩
  have hd' : (mulR a.lo b.hi false).1 = u1 := hd
  rw [hd] at k1 ⊢
  rw [hd'] at C3
  clear hd hd'
  obtain ⟨d2, hd⟩ : ∃ d, mulD a.hi b.lo = d := ⟨_, rfl⟩
  have hd' : (mulR a.hi b.lo true).1 = d2 := hd
  rw [hd] at g2 ⊢
  rw [hd'] at C4
  clear hd hd'
  obtain ⟨u2, hd⟩ : ∃ d, mulU a.hi b.lo = d := ⟨_, rfl⟩
  have hd' : (mulR a.hi b.lo false).1 = u2 := hd
  rw [hd] at k2 ⊢
  rw [hd'] at C5
  clear hd hd'
  obtain ⟨d3, hd⟩ : ∃ d, mulD a.hi b.hi = d := ⟨_, rfl⟩
  have hd' : (mulR a.hi b.hi true).1 = d3 := hd
  rw [hd] at g3 ⊢
  rw [hd'] at C6
  clear hd hd'
  obtain ⟨u3, hd⟩ : ∃ d, mulU a.hi b.hi = d := ⟨_, rfl⟩
  have hd' : (mulR a.hi b.hi false).1 = u3 := hd
  rw [hd] at k3 ⊢
  rw [hd'] at C7
  clear hd hd'
  have c0 : ∃ c : Bool, (FloatKind.f64.format.order d0 9218868437227405312 == some .lt) = c ∧ mn 9218868437227405312 d0 = (if c = true then d0 else 9218868437227405312) := ⟨_, rfl, by unfold mn; rw [ltb g0 gdPI]; by_cases h : Z d0 < Z 9218868437227405312 <;> simp [h]⟩
  have s0 : ∃ c : Bool, (FloatKind.f64.format.order u0 18442240474082181120 == some .gt) = c ∧ mx 18442240474082181120 u0 = (if c = true then u0 else 18442240474082181120) := ⟨_, rfl, by unfold mx; rw [gtb k0 gdNI]; by_cases h : Z 18442240474082181120 < Z u0 <;> simp [h]⟩
  have gl0 := mn_gd gdPI g0
  have gh0 := mx_gd gdNI k0
  obtain ⟨l0, hl⟩ : ∃ l, mn 9218868437227405312 d0 = l := ⟨_, rfl⟩
  rw [hl] at c0 gl0 ⊢
  clear hl
  obtain ⟨m0, hl⟩ : ∃ l, mx 18442240474082181120 u0 = l := ⟨_, rfl⟩
  rw [hl] at s0 gh0 ⊢
  clear hl
  have c0 := Lib.hid c0
  have s0 := Lib.hid s0
  have c1 : ∃ c : Bool, (FloatKind.f64.format.order d1 l0 == some .lt) = c ∧ mn l0 d1 = (if c = true then d1 else l0) := ⟨_, rfl, by unfold mn; rw [ltb g1 gl0]; by_cases h : Z d1 < Z l0 <;> simp [h]⟩
  have s1 : ∃ c : Bool, (FloatKind.f64.format.order u1 m0 == some .gt) = c ∧ mx m0 u1 = (if c = true then u1 else m0) := ⟨_, rfl, by unfold mx; rw [gtb k1 gh0]; by_cases h : Z m0 < Z u1 <;> simp [h]⟩
  have gl1 := mn_gd gl0 g1
  have gh1 := mx_gd gh0 k1
  obtain ⟨l1, hl⟩ : ∃ l, mn l0 d1 = l := ⟨_, rfl⟩
  rw [hl] at c1 gl1 ⊢
  clear hl
  obtain ⟨m1, hl⟩ : ∃ l, mx m0 u1 = l := ⟨_, rfl⟩
  rw [hl] at s1 gh1 ⊢
  clear hl
  have c1 := Lib.hid c1
  have s1 := Lib.hid s1
  have c2 : ∃ c : Bool, (FloatKind.f64.format.order d2 l1 == some .lt) = c ∧ mn l1 d2 = (if c = true then d2 else l1) := ⟨_, rfl, by unfold mn; rw [ltb g2 gl1]; by_cases h : Z d2 < Z l1 <;> simp [h]⟩
  have s2 : ∃ c : Bool, (FloatKind.f64.format.order u2 m1 == some .gt) = c ∧ mx m1 u2 = (if c = true then u2 else m1) := ⟨_, rfl, by unfold mx; rw [gtb k2 gh1]; by_cases h : Z m1 < Z u2 <;> simp [h]⟩
  have gl2 := mn_gd gl1 g2
  have gh2 := mx_gd gh1 k2
  obtain ⟨l2, hl⟩ : ∃ l, mn l1 d2 = l := ⟨_, rfl⟩
  rw [hl] at c2 gl2 ⊢
  clear hl
  obtain ⟨m2, hl⟩ : ∃ l, mx m1 u2 = l := ⟨_, rfl⟩
  rw [hl] at s2 gh2 ⊢
  clear hl
  have c2 := Lib.hid c2
  have s2 := Lib.hid s2
  have c3 : ∃ c : Bool, (FloatKind.f64.format.order d3 l2 == some .lt) = c ∧ mn l2 d3 = (if c = true then d3 else l2) := ⟨_, rfl, by unfold mn; rw [ltb g3 gl2]; by_cases h : Z d3 < Z l2 <;> simp [h]⟩
  have s3 : ∃ c : Bool, (FloatKind.f64.format.order u3 m2 == some .gt) = c ∧ mx m2 u3 = (if c = true then u3 else m2) := ⟨_, rfl, by unfold mx; rw [gtb k3 gh2]; by_cases h : Z m2 < Z u3 <;> simp [h]⟩
  have gl3 := mn_gd gl2 g3
  have gh3 := mx_gd gh2 k3
  obtain ⟨l3, hl⟩ : ∃ l, mn l2 d3 = l := ⟨_, rfl⟩
  rw [hl] at c3 gl3 ⊢
  clear hl
  obtain ⟨m3, hl⟩ : ∃ l, mx m2 u3 = l := ⟨_, rfl⟩
  rw [hl] at s3 gh3 ⊢
  clear hl
  have c3 := Lib.hid c3
  have s3 := Lib.hid s3
  clear HD HU HC g0 k0 gl0 gh0 g1 k1 gl1 gh1 g2 k2 gl2 gh2 g3 k3 gl3 gh3
  go_enter Try.func87, Try.ntmps87
  go_wp2_with fail
  obtain ⟨W, hW, K0, K1, K2, hB, hz⟩ := box3 w 24 24 24 #[Value.float FloatKind.f64 a.lo, Value.float FloatKind.f64 a.hi] #[Value.float FloatKind.f64 b.lo, Value.float FloatKind.f64 b.hi] #[Value.float FloatKind.f64 0, Value.float FloatKind.f64 0]
  rw [← hW]
  have K0 := Lib.hid K0
  have K1 := Lib.hid K1
  have K2 := Lib.hid K2
  have HB := Lib.hid hB
  clear hW hB hz
  have HO := Lib.hid (show ∀ w', Hd W (w.heap.size + 1 + 1) 24 2 w' → (Hd W (w.heap.size + 1 + 1) 24 2 w' ∧ w'.cell? ⟨w.heap.size, 0, none⟩ = some (Value.float FloatKind.f64 a.lo) ∧ w'.cell? ⟨w.heap.size, 1, none⟩ = some (Value.float FloatKind.f64 a.hi) ∧ w'.cell? ⟨w.heap.size + 1, 0, none⟩ = some (Value.float FloatKind.f64 b.lo) ∧ w'.cell? ⟨w.heap.size + 1, 1, none⟩ = some (Value.float FloatKind.f64 b.hi) ∧ w'.cell? ⟨w.heap.size + 1 + 1, 0, none⟩ = some (cellAt w' ⟨w.heap.size + 1 + 1, 0, none⟩) ∧ w'.frozen? ⟨w.heap.size + 1 + 1, 0, none⟩ = false ∧ w'.cell? ⟨w.heap.size + 1 + 1, 1, none⟩ = some (cellAt w' ⟨w.heap.size + 1 + 1, 1, none⟩) ∧ w'.frozen? ⟨w.heap.size + 1 + 1, 1, none⟩ = false) from fun w' h => ⟨h, (h.blk K0.out (by omega)).cell 0, (h.blk K0.out (by omega)).cell 1, (h.blk K1.out (by omega)).cell 0, (h.blk K1.out (by omega)).cell 1, (h.at_ 0 (by decide)).1, (h.at_ 0 (by decide)).2, (h.at_ 1 (by decide)).1, (h.at_ 1 (by decide)).2⟩)
  have D0 := Lib.hid (show Hd W (w.heap.size + 1 + 1) 24 2 W from Hd.start K2.out)
  refine (H1.out _).mono ?_
  rintro r w1 ⟨rfl, hb⟩
  have D1 := Lib.hid (Hd.call D0.out hb)
  clear hb
  obtain ⟨-, q0, q1, q2, q3, q4, q5, q6, q7⟩ := HO.out _ D1.out
  have z1 := Hd.lt D1.out
  go_wp2_with fail
  refine (H2.out _).mono ?_
  rintro r w2 ⟨rfl, hb⟩
  have D2 := Lib.hid (Hd.call D1.out hb)
  clear hb
  clear q0 q1 q2 q3 q4 q5 q6 q7
  obtain ⟨-, q0, q1, q2, q3, q4, q5, q6, q7⟩ := HO.out _ D2.out
  have z2 := Hd.lt D2.out
  go_wp2_with fail
  refine (H3.out _).mono ?_
  rintro r w3 ⟨rfl, hb⟩
  have D3 := Lib.hid (Hd.call D2.out hb)
  clear hb
  clear q0 q1 q2 q3 q4 q5 q6 q7
  obtain ⟨-, q0, q1, q2, q3, q4, q5, q6, q7⟩ := HO.out _ D3.out
  have z3 := Hd.lt D3.out
  go_wp2_with fail
  refine (H4.out _).mono ?_
  rintro r w4 ⟨rfl, hb⟩
  have D4 := Lib.hid (Hd.call D3.out hb)
  clear hb
  clear q0 q1 q2 q3 q4 q5 q6 q7
  obtain ⟨-, q0, q1, q2, q3, q4, q5, q6, q7⟩ := HO.out _ D4.out
  have z4 := Hd.lt D4.out
  go_wp2_with fail
  refine (HI.out _).mono ?_
  rintro r w' ⟨rfl, rfl⟩
  go_wp2_with fail
  refine (HI.out _).mono ?_
  rintro r w' ⟨rfl, rfl⟩
  have hz9 := z4
  obtain ⟨g, hg⟩ : ∃ g, w4.heap.size = g := ⟨_, rfl⟩
  obtain ⟨V, hV⟩ : ∃ V, (w4.alloc (.cells #[Value.float FloatKind.f64 a.lo, Value.float FloatKind.f64 a.lo, Value.float FloatKind.f64 a.hi, Value.float FloatKind.f64 a.hi] 22)).alloc (.cells #[Value.float FloatKind.f64 b.lo, Value.float FloatKind.f64 b.hi, Value.float FloatKind.f64 b.lo, Value.float FloatKind.f64 b.hi] 22) = V := ⟨_, rfl⟩
  have O0 : Blk V g 22 #[Value.float FloatKind.f64 a.lo, Value.float FloatKind.f64 a.lo, Value.float FloatKind.f64 a.hi, Value.float FloatKind.f64 a.hi] := by rw [← hV, ← hg]; exact (Blk.new_at _ _ _ rfl).alloc _
  have O1 : Blk V (g + 1) 22 #[Value.float FloatKind.f64 b.lo, Value.float FloatKind.f64 b.hi, Value.float FloatKind.f64 b.lo, Value.float FloatKind.f64 b.hi] := by rw [← hV, ← hg]; exact Blk.new_at _ _ _ (by simp)
  have E0 := Lib.hid (hV ▸ Hd.alloc (Hd.alloc D4.out _) _ : Hd W (w.heap.size + 1 + 1) 24 2 V)
  rw [hg] at hz9
  have y0 : w.heap.size < g := by omega
  have y1 : w.heap.size + 1 < g := by omega
  have HS := Lib.hid (show ∀ w', Below V.heap.size V w' → (Below V.heap.size V w' ∧ w'.cell? ⟨g, 0, none⟩ = some (Value.float FloatKind.f64 a.lo) ∧ w'.cell? ⟨g, 1, none⟩ = some (Value.float FloatKind.f64 a.lo) ∧ w'.cell? ⟨g, 2, none⟩ = some (Value.float FloatKind.f64 a.hi) ∧ w'.cell? ⟨g, 3, none⟩ = some (Value.float FloatKind.f64 a.hi) ∧ w'.cell? ⟨g + 1, 0, none⟩ = some (Value.float FloatKind.f64 b.lo) ∧ w'.cell? ⟨g + 1, 1, none⟩ = some (Value.float FloatKind.f64 b.hi) ∧ w'.cell? ⟨g + 1, 2, none⟩ = some (Value.float FloatKind.f64 b.lo) ∧ w'.cell? ⟨g + 1, 3, none⟩ = some (Value.float FloatKind.f64 b.hi)) from fun w' h => ⟨h, (O0.below h O0.lt).cell 0, (O0.below h O0.lt).cell 1, (O0.below h O0.lt).cell 2, (O0.below h O0.lt).cell 3, (O1.below h O1.lt).cell 0, (O1.below h O1.lt).cell 1, (O1.below h O1.lt).cell 2, (O1.below h O1.lt).cell 3⟩)
  have O0' := Lib.hid O0
  have O1' := Lib.hid O1
  clear O0 O1
  go_wp2_with fail
  clear hV hg q0 q1 q2 q3 q4 q5 q6 q7
  go_loopw [5, 6, 9] (fun x y i wr => LR l0 l1 l2 l3 m0 m1 m2 m3 V x y i wr) (fun _ _ i _ => 4 - (intOf i).toNat)
  case atStart => exact ⟨Below.refl _ _, Or.inl ⟨rfl, rfl, rfl⟩⟩
  case round =>
    obtain ⟨hL, hk⟩ := hrel
    have hS := HS.out _ hL
    rcases hk with ⟨rfl, rfl, rfl⟩ | ⟨rfl, rfl, rfl⟩ | ⟨rfl, rfl, rfl⟩ | ⟨rfl, rfl, rfl⟩ | ⟨rfl, rfl, rfl⟩
    · obtain ⟨c, hc1, hc2⟩ := c0.out
      obtain ⟨e, he1, he2⟩ := s0.out
      have hc2 := Lib.hid hc2
      have he2 := Lib.hid he2
      go_wp2_with fail
      go_region_held3 (fun w' => Below V.heap.size V w' ∧ w'.cell? ⟨g, 0, none⟩ = some (Value.float FloatKind.f64 a.lo) ∧ w'.cell? ⟨g, 1, none⟩ = some (Value.float FloatKind.f64 a.lo) ∧ w'.cell? ⟨g, 2, none⟩ = some (Value.float FloatKind.f64 a.hi) ∧ w'.cell? ⟨g, 3, none⟩ = some (Value.float FloatKind.f64 a.hi) ∧ w'.cell? ⟨g + 1, 0, none⟩ = some (Value.float FloatKind.f64 b.lo) ∧ w'.cell? ⟨g + 1, 1, none⟩ = some (Value.float FloatKind.f64 b.hi) ∧ w'.cell? ⟨g + 1, 2, none⟩ = some (Value.float FloatKind.f64 b.lo) ∧ w'.cell? ⟨g + 1, 3, none⟩ = some (Value.float FloatKind.f64 b.hi))
        (exact HS.out _ (by first | exact (Below.refl _ _).drew | exact Below.drew (And.left (by assumption)) | exact below_step (And.left (by assumption)) hb | exact And.left (by assumption)))
        (first
          | ((go_simp; go_at_call 122; refine (C0.out _).mono ?_; rintro r w' ⟨rfl, hb⟩; dsimp only)))
      go_wp2_with fail
      go_region_held3 (fun w' => Below V.heap.size V w' ∧ w'.cell? ⟨g, 0, none⟩ = some (Value.float FloatKind.f64 a.lo) ∧ w'.cell? ⟨g, 1, none⟩ = some (Value.float FloatKind.f64 a.lo) ∧ w'.cell? ⟨g, 2, none⟩ = some (Value.float FloatKind.f64 a.hi) ∧ w'.cell? ⟨g, 3, none⟩ = some (Value.float FloatKind.f64 a.hi) ∧ w'.cell? ⟨g + 1, 0, none⟩ = some (Value.float FloatKind.f64 b.lo) ∧ w'.cell? ⟨g + 1, 1, none⟩ = some (Value.float FloatKind.f64 b.hi) ∧ w'.cell? ⟨g + 1, 2, none⟩ = some (Value.float FloatKind.f64 b.lo) ∧ w'.cell? ⟨g + 1, 3, none⟩ = some (Value.float FloatKind.f64 b.hi))
        (exact HS.out _ (by first | exact (Below.refl _ _).drew | exact Below.drew (And.left (by assumption)) | exact below_step (And.left (by assumption)) hb | exact And.left (by assumption)))
        (first
          | ((go_simp; go_at_call 122; refine (C1.out _).mono ?_; rintro r w' ⟨rfl, hb⟩; dsimp only)))
      have hL2 := And.left (by assumption)
      clear hL hS
      go_wp2_with fail
      all_goals
        go_roundw
        case rel => exact ⟨hL2, Or.inr (Or.inl ⟨by rw [hc2.out]; simp [*], by rw [he2.out]; simp [*], rfl⟩)⟩
        case measure => simp [intOf]
    · obtain ⟨c, hc1, hc2⟩ := c1.out
      obtain ⟨e, he1, he2⟩ := s1.out
      have hc2 := Lib.hid hc2
      have he2 := Lib.hid he2
      go_wp2_with fail
      go_region_held3 (fun w' => Below V.heap.size V w' ∧ w'.cell? ⟨g, 0, none⟩ = some (Value.float FloatKind.f64 a.lo) ∧ w'.cell? ⟨g, 1, none⟩ = some (Value.float FloatKind.f64 a.lo) ∧ w'.cell? ⟨g, 2, none⟩ = some (Value.float FloatKind.f64 a.hi) ∧ w'.cell? ⟨g, 3, none⟩ = some (Value.float FloatKind.f64 a.hi) ∧ w'.cell? ⟨g + 1, 0, none⟩ = some (Value.float FloatKind.f64 b.lo) ∧ w'.cell? ⟨g + 1, 1, none⟩ = some (Value.float FloatKind.f64 b.hi) ∧ w'.cell? ⟨g + 1, 2, none⟩ = some (Value.float FloatKind.f64 b.lo) ∧ w'.cell? ⟨g + 1, 3, none⟩ = some (Value.float FloatKind.f64 b.hi))
        (exact HS.out _ (by first | exact (Below.refl _ _).drew | exact Below.drew (And.left (by assumption)) | exact below_step (And.left (by assumption)) hb | exact And.left (by assumption)))
        (first
          | ((go_simp; go_at_call 122; refine (C2.out _).mono ?_; rintro r w' ⟨rfl, hb⟩; dsimp only)))
      go_wp2_with fail
      go_region_held3 (fun w' => Below V.heap.size V w' ∧ w'.cell? ⟨g, 0, none⟩ = some (Value.float FloatKind.f64 a.lo) ∧ w'.cell? ⟨g, 1, none⟩ = some (Value.float FloatKind.f64 a.lo) ∧ w'.cell? ⟨g, 2, none⟩ = some (Value.float FloatKind.f64 a.hi) ∧ w'.cell? ⟨g, 3, none⟩ = some (Value.float FloatKind.f64 a.hi) ∧ w'.cell? ⟨g + 1, 0, none⟩ = some (Value.float FloatKind.f64 b.lo) ∧ w'.cell? ⟨g + 1, 1, none⟩ = some (Value.float FloatKind.f64 b.hi) ∧ w'.cell? ⟨g + 1, 2, none⟩ = some (Value.float FloatKind.f64 b.lo) ∧ w'.cell? ⟨g + 1, 3, none⟩ = some (Value.float FloatKind.f64 b.hi))
        (exact HS.out _ (by first | exact (Below.refl _ _).drew | exact Below.drew (And.left (by assumption)) | exact below_step (And.left (by assumption)) hb | exact And.left (by assumption)))
        (first
          | ((go_simp; go_at_call 122; refine (C3.out _).mono ?_; rintro r w' ⟨rfl, hb⟩; dsimp only)))
      have hL2 := And.left (by assumption)
      clear hL hS
      go_wp2_with fail
      all_goals
        go_roundw
        case rel => exact ⟨hL2, Or.inr (Or.inr (Or.inl ⟨by rw [hc2.out]; simp [*], by rw [he2.out]; simp [*], rfl⟩))⟩
        case measure => simp [intOf]
    · obtain ⟨c, hc1, hc2⟩ := c2.out
      obtain ⟨e, he1, he2⟩ := s2.out
      have hc2 := Lib.hid hc2
      have he2 := Lib.hid he2
      go_wp2_with fail
      go_region_held3 (fun w' => Below V.heap.size V w' ∧ w'.cell? ⟨g, 0, none⟩ = some (Value.float FloatKind.f64 a.lo) ∧ w'.cell? ⟨g, 1, none⟩ = some (Value.float FloatKind.f64 a.lo) ∧ w'.cell? ⟨g, 2, none⟩ = some (Value.float FloatKind.f64 a.hi) ∧ w'.cell? ⟨g, 3, none⟩ = some (Value.float FloatKind.f64 a.hi) ∧ w'.cell? ⟨g + 1, 0, none⟩ = some (Value.float FloatKind.f64 b.lo) ∧ w'.cell? ⟨g + 1, 1, none⟩ = some (Value.float FloatKind.f64 b.hi) ∧ w'.cell? ⟨g + 1, 2, none⟩ = some (Value.float FloatKind.f64 b.lo) ∧ w'.cell? ⟨g + 1, 3, none⟩ = some (Value.float FloatKind.f64 b.hi))
        (exact HS.out _ (by first | exact (Below.refl _ _).drew | exact Below.drew (And.left (by assumption)) | exact below_step (And.left (by assumption)) hb | exact And.left (by assumption)))
        (first
          | ((go_simp; go_at_call 122; refine (C4.out _).mono ?_; rintro r w' ⟨rfl, hb⟩; dsimp only)))
      go_wp2_with fail
      go_region_held3 (fun w' => Below V.heap.size V w' ∧ w'.cell? ⟨g, 0, none⟩ = some (Value.float FloatKind.f64 a.lo) ∧ w'.cell? ⟨g, 1, none⟩ = some (Value.float FloatKind.f64 a.lo) ∧ w'.cell? ⟨g, 2, none⟩ = some (Value.float FloatKind.f64 a.hi) ∧ w'.cell? ⟨g, 3, none⟩ = some (Value.float FloatKind.f64 a.hi) ∧ w'.cell? ⟨g + 1, 0, none⟩ = some (Value.float FloatKind.f64 b.lo) ∧ w'.cell? ⟨g + 1, 1, none⟩ = some (Value.float FloatKind.f64 b.hi) ∧ w'.cell? ⟨g + 1, 2, none⟩ = some (Value.float FloatKind.f64 b.lo) ∧ w'.cell? ⟨g + 1, 3, none⟩ = some (Value.float FloatKind.f64 b.hi))
        (exact HS.out _ (by first | exact (Below.refl _ _).drew | exact Below.drew (And.left (by assumption)) | exact below_step (And.left (by assumption)) hb | exact And.left (by assumption)))
        (first
          | ((go_simp; go_at_call 122; refine (C5.out _).mono ?_; rintro r w' ⟨rfl, hb⟩; dsimp only)))
      have hL2 := And.left (by assumption)
      clear hL hS
      go_wp2_with fail
      all_goals
        go_roundw
        case rel => exact ⟨hL2, Or.inr (Or.inr (Or.inr (Or.inl ⟨by rw [hc2.out]; simp [*], by rw [he2.out]; simp [*], rfl⟩)))⟩
        case measure => simp [intOf]
    · obtain ⟨c, hc1, hc2⟩ := c3.out
      obtain ⟨e, he1, he2⟩ := s3.out
      have hc2 := Lib.hid hc2
      have he2 := Lib.hid he2
      go_wp2_with fail
      go_region_held3 (fun w' => Below V.heap.size V w' ∧ w'.cell? ⟨g, 0, none⟩ = some (Value.float FloatKind.f64 a.lo) ∧ w'.cell? ⟨g, 1, none⟩ = some (Value.float FloatKind.f64 a.lo) ∧ w'.cell? ⟨g, 2, none⟩ = some (Value.float FloatKind.f64 a.hi) ∧ w'.cell? ⟨g, 3, none⟩ = some (Value.float FloatKind.f64 a.hi) ∧ w'.cell? ⟨g + 1, 0, none⟩ = some (Value.float FloatKind.f64 b.lo) ∧ w'.cell? ⟨g + 1, 1, none⟩ = some (Value.float FloatKind.f64 b.hi) ∧ w'.cell? ⟨g + 1, 2, none⟩ = some (Value.float FloatKind.f64 b.lo) ∧ w'.cell? ⟨g + 1, 3, none⟩ = some (Value.float FloatKind.f64 b.hi))
        (exact HS.out _ (by first | exact (Below.refl _ _).drew | exact Below.drew (And.left (by assumption)) | exact below_step (And.left (by assumption)) hb | exact And.left (by assumption)))
        (first
          | ((go_simp; go_at_call 122; refine (C6.out _).mono ?_; rintro r w' ⟨rfl, hb⟩; dsimp only)))
      go_wp2_with fail
      go_region_held3 (fun w' => Below V.heap.size V w' ∧ w'.cell? ⟨g, 0, none⟩ = some (Value.float FloatKind.f64 a.lo) ∧ w'.cell? ⟨g, 1, none⟩ = some (Value.float FloatKind.f64 a.lo) ∧ w'.cell? ⟨g, 2, none⟩ = some (Value.float FloatKind.f64 a.hi) ∧ w'.cell? ⟨g, 3, none⟩ = some (Value.float FloatKind.f64 a.hi) ∧ w'.cell? ⟨g + 1, 0, none⟩ = some (Value.float FloatKind.f64 b.lo) ∧ w'.cell? ⟨g + 1, 1, none⟩ = some (Value.float FloatKind.f64 b.hi) ∧ w'.cell? ⟨g + 1, 2, none⟩ = some (Value.float FloatKind.f64 b.lo) ∧ w'.cell? ⟨g + 1, 3, none⟩ = some (Value.float FloatKind.f64 b.hi))
        (exact HS.out _ (by first | exact (Below.refl _ _).drew | exact Below.drew (And.left (by assumption)) | exact below_step (And.left (by assumption)) hb | exact And.left (by assumption)))
        (first
          | ((go_simp; go_at_call 122; refine (C7.out _).mono ?_; rintro r w' ⟨rfl, hb⟩; dsimp only)))
      have hL2 := And.left (by assumption)
      clear hL hS
      go_wp2_with fail
      all_goals
        go_roundw
        case rel => exact ⟨hL2, Or.inr (Or.inr (Or.inr (Or.inr (⟨by rw [hc2.out]; simp [*], by rw [he2.out]; simp [*], rfl⟩))))⟩
        case measure => simp [intOf]
    · obtain ⟨-, q0, q1, q2, q3, q4, q5, q6, q7⟩ := HO.out _ (Hd.call E0.out hL)
      go_wp2_with fail
      (try simp only [Exit.inBlock, Exit.then])
      have hF := Hd.set (Hd.set (Hd.call E0.out hL) 0 (.float .f64 l3)) 1 (.float .f64 m3)
      exact bodyPost_ret (resS rfl _ _ (w.heap.size + 1 + 1) (.float .f64 l3) (.float .f64 m3) rfl (Hd.wrote2 hF)) rfl ⟨rfl, Hd.below hF HB.out (by omega)⟩
set_option maxRecDepth 100000 in
set_option maxHeartbeats 1000000 in
theorem rmul_a0 (a b : Sp) (z1 : isZ a = true) (w : World) : Calls Try.prog 87 #[.agg #[.float .f64 a.lo, .float .f64 a.hi], .agg #[.float .f64 b.lo, .float .f64 b.hi]] w fun r w' => r = .returned (.agg #[.float .f64 0, .float .f64 0]) ∧ Below w.heap.size w w' := by
  have H1 := Lib.hid (fun w => nothing_sp a w)
  rw [z1] at H1
  go_enter Try.func87, Try.ntmps87
  go_wp2_with fail
  obtain ⟨W, hW, K0, K1, K2, hB, hz⟩ := box3 w 24 24 24 #[Value.float FloatKind.f64 a.lo, Value.float FloatKind.f64 a.hi] #[Value.float FloatKind.f64 b.lo, Value.float FloatKind.f64 b.hi] #[Value.float FloatKind.f64 0, Value.float FloatKind.f64 0]
  rw [← hW]
  have K0 := Lib.hid K0
  have K1 := Lib.hid K1
  have K2 := Lib.hid K2
  have HB := Lib.hid hB
  clear hW hB hz
  have HO := Lib.hid (show ∀ w', Hd W (w.heap.size + 1 + 1) 24 2 w' → (Hd W (w.heap.size + 1 + 1) 24 2 w' ∧ w'.cell? ⟨w.heap.size, 0, none⟩ = some (Value.float FloatKind.f64 a.lo) ∧ w'.cell? ⟨w.heap.size, 1, none⟩ = some (Value.float FloatKind.f64 a.hi) ∧ w'.cell? ⟨w.heap.size + 1, 0, none⟩ = some (Value.float FloatKind.f64 b.lo) ∧ w'.cell? ⟨w.heap.size + 1, 1, none⟩ = some (Value.float FloatKind.f64 b.hi) ∧ w'.cell? ⟨w.heap.size + 1 + 1, 0, none⟩ = some (cellAt w' ⟨w.heap.size + 1 + 1, 0, none⟩) ∧ w'.frozen? ⟨w.heap.size + 1 + 1, 0, none⟩ = false ∧ w'.cell? ⟨w.heap.size + 1 + 1, 1, none⟩ = some (cellAt w' ⟨w.heap.size + 1 + 1, 1, none⟩) ∧ w'.frozen? ⟨w.heap.size + 1 + 1, 1, none⟩ = false) from fun w' h => ⟨h, (h.blk K0.out (by omega)).cell 0, (h.blk K0.out (by omega)).cell 1, (h.blk K1.out (by omega)).cell 0, (h.blk K1.out (by omega)).cell 1, (h.at_ 0 (by decide)).1, (h.at_ 0 (by decide)).2, (h.at_ 1 (by decide)).1, (h.at_ 1 (by decide)).2⟩)
  have D0 := Lib.hid (show Hd W (w.heap.size + 1 + 1) 24 2 W from Hd.start K2.out)
  refine (H1.out _).mono ?_
  rintro r w1 ⟨rfl, hb⟩
  have D1 := Lib.hid (Hd.call D0.out hb)
  clear hb
  obtain ⟨-, q0, q1, q2, q3, q4, q5, q6, q7⟩ := HO.out _ D1.out
  have z1 := Hd.lt D1.out
  go_wp2_with fail
  (try simp only [Exit.inBlock, Exit.then])
  have hF := (Hd.set (Hd.set D1.out 0 (.float .f64 0)) 1 (.float .f64 0))
  exact bodyPost_ret (resS rfl _ _ (w.heap.size + 1 + 1) (.float .f64 0) (.float .f64 0) rfl (Hd.wrote2 hF)) rfl ⟨rfl, Hd.below hF HB.out (by omega)⟩
set_option maxRecDepth 100000 in
set_option maxHeartbeats 1000000 in
theorem rmul_b0 (a b : Sp) (z1 : isZ a = false) (z2 : isZ b = true) (w : World) : Calls Try.prog 87 #[.agg #[.float .f64 a.lo, .float .f64 a.hi], .agg #[.float .f64 b.lo, .float .f64 b.hi]] w fun r w' => r = .returned (.agg #[.float .f64 0, .float .f64 0]) ∧ Below w.heap.size w w' := by
  have H1 := Lib.hid (fun w => nothing_sp a w)
  have H2 := Lib.hid (fun w => nothing_sp b w)
  rw [z1] at H1
  rw [z2] at H2
  go_enter Try.func87, Try.ntmps87
  go_wp2_with fail
  obtain ⟨W, hW, K0, K1, K2, hB, hz⟩ := box3 w 24 24 24 #[Value.float FloatKind.f64 a.lo, Value.float FloatKind.f64 a.hi] #[Value.float FloatKind.f64 b.lo, Value.float FloatKind.f64 b.hi] #[Value.float FloatKind.f64 0, Value.float FloatKind.f64 0]
  rw [← hW]
  have K0 := Lib.hid K0
  have K1 := Lib.hid K1
  have K2 := Lib.hid K2
  have HB := Lib.hid hB
  clear hW hB hz
  have HO := Lib.hid (show ∀ w', Hd W (w.heap.size + 1 + 1) 24 2 w' → (Hd W (w.heap.size + 1 + 1) 24 2 w' ∧ w'.cell? ⟨w.heap.size, 0, none⟩ = some (Value.float FloatKind.f64 a.lo) ∧ w'.cell? ⟨w.heap.size, 1, none⟩ = some (Value.float FloatKind.f64 a.hi) ∧ w'.cell? ⟨w.heap.size + 1, 0, none⟩ = some (Value.float FloatKind.f64 b.lo) ∧ w'.cell? ⟨w.heap.size + 1, 1, none⟩ = some (Value.float FloatKind.f64 b.hi) ∧ w'.cell? ⟨w.heap.size + 1 + 1, 0, none⟩ = some (cellAt w' ⟨w.heap.size + 1 + 1, 0, none⟩) ∧ w'.frozen? ⟨w.heap.size + 1 + 1, 0, none⟩ = false ∧ w'.cell? ⟨w.heap.size + 1 + 1, 1, none⟩ = some (cellAt w' ⟨w.heap.size + 1 + 1, 1, none⟩) ∧ w'.frozen? ⟨w.heap.size + 1 + 1, 1, none⟩ = false) from fun w' h => ⟨h, (h.blk K0.out (by omega)).cell 0, (h.blk K0.out (by omega)).cell 1, (h.blk K1.out (by omega)).cell 0, (h.blk K1.out (by omega)).cell 1, (h.at_ 0 (by decide)).1, (h.at_ 0 (by decide)).2, (h.at_ 1 (by decide)).1, (h.at_ 1 (by decide)).2⟩)
  have D0 := Lib.hid (show Hd W (w.heap.size + 1 + 1) 24 2 W from Hd.start K2.out)
  refine (H1.out _).mono ?_
  rintro r w1 ⟨rfl, hb⟩
  have D1 := Lib.hid (Hd.call D0.out hb)
  clear hb
  obtain ⟨-, q0, q1, q2, q3, q4, q5, q6, q7⟩ := HO.out _ D1.out
  have z1 := Hd.lt D1.out
  go_wp2_with fail
  refine (H2.out _).mono ?_
  rintro r w2 ⟨rfl, hb⟩
  have D2 := Lib.hid (Hd.call D1.out hb)
  clear hb
  clear q0 q1 q2 q3 q4 q5 q6 q7
  obtain ⟨-, q0, q1, q2, q3, q4, q5, q6, q7⟩ := HO.out _ D2.out
  have z2 := Hd.lt D2.out
  go_wp2_with fail
  (try simp only [Exit.inBlock, Exit.then])
  have hF := (Hd.set (Hd.set D2.out 0 (.float .f64 0)) 1 (.float .f64 0))
  exact bodyPost_ret (resS rfl _ _ (w.heap.size + 1 + 1) (.float .f64 0) (.float .f64 0) rfl (Hd.wrote2 hF)) rfl ⟨rfl, Hd.below hF HB.out (by omega)⟩
set_option maxRecDepth 100000 in
set_option maxHeartbeats 1000000 in
theorem rmul_aw (a b : Sp) (z1 : isZ a = false) (z2 : isZ b = false) (h : a.wide = true) (w : World) : Calls Try.prog 87 #[.agg #[.float .f64 a.lo, .float .f64 a.hi], .agg #[.float .f64 b.lo, .float .f64 b.hi]] w fun r w' => r = .returned (.agg #[.float .f64 18442240474082181120, .float .f64 9218868437227405312]) ∧ Below w.heap.size w w' := by
  have H1 := Lib.hid (fun w => nothing_sp a w)
  have H2 := Lib.hid (fun w => nothing_sp b w)
  have H3 := Lib.hid (fun w => rwide_sp a w)
  have H5 := Lib.hid (fun w => rall_below w)
  rw [z1] at H1
  rw [z2] at H2
  rw [h] at H3
  go_enter Try.func87, Try.ntmps87
  go_wp2_with fail
  obtain ⟨W, hW, K0, K1, K2, hB, hz⟩ := box3 w 24 24 24 #[Value.float FloatKind.f64 a.lo, Value.float FloatKind.f64 a.hi] #[Value.float FloatKind.f64 b.lo, Value.float FloatKind.f64 b.hi] #[Value.float FloatKind.f64 0, Value.float FloatKind.f64 0]
  rw [← hW]
  have K0 := Lib.hid K0
  have K1 := Lib.hid K1
  have K2 := Lib.hid K2
  have HB := Lib.hid hB
  clear hW hB hz
  have HO := Lib.hid (show ∀ w', Hd W (w.heap.size + 1 + 1) 24 2 w' → (Hd W (w.heap.size + 1 + 1) 24 2 w' ∧ w'.cell? ⟨w.heap.size, 0, none⟩ = some (Value.float FloatKind.f64 a.lo) ∧ w'.cell? ⟨w.heap.size, 1, none⟩ = some (Value.float FloatKind.f64 a.hi) ∧ w'.cell? ⟨w.heap.size + 1, 0, none⟩ = some (Value.float FloatKind.f64 b.lo) ∧ w'.cell? ⟨w.heap.size + 1, 1, none⟩ = some (Value.float FloatKind.f64 b.hi) ∧ w'.cell? ⟨w.heap.size + 1 + 1, 0, none⟩ = some (cellAt w' ⟨w.heap.size + 1 + 1, 0, none⟩) ∧ w'.frozen? ⟨w.heap.size + 1 + 1, 0, none⟩ = false ∧ w'.cell? ⟨w.heap.size + 1 + 1, 1, none⟩ = some (cellAt w' ⟨w.heap.size + 1 + 1, 1, none⟩) ∧ w'.frozen? ⟨w.heap.size + 1 + 1, 1, none⟩ = false) from fun w' h => ⟨h, (h.blk K0.out (by omega)).cell 0, (h.blk K0.out (by omega)).cell 1, (h.blk K1.out (by omega)).cell 0, (h.blk K1.out (by omega)).cell 1, (h.at_ 0 (by decide)).1, (h.at_ 0 (by decide)).2, (h.at_ 1 (by decide)).1, (h.at_ 1 (by decide)).2⟩)
  have D0 := Lib.hid (show Hd W (w.heap.size + 1 + 1) 24 2 W from Hd.start K2.out)
  refine (H1.out _).mono ?_
  rintro r w1 ⟨rfl, hb⟩
  have D1 := Lib.hid (Hd.call D0.out hb)
  clear hb
  obtain ⟨-, q0, q1, q2, q3, q4, q5, q6, q7⟩ := HO.out _ D1.out
  have z1 := Hd.lt D1.out
  go_wp2_with fail
  refine (H2.out _).mono ?_
  rintro r w2 ⟨rfl, hb⟩
  have D2 := Lib.hid (Hd.call D1.out hb)
  clear hb
  clear q0 q1 q2 q3 q4 q5 q6 q7
  obtain ⟨-, q0, q1, q2, q3, q4, q5, q6, q7⟩ := HO.out _ D2.out
  have z2 := Hd.lt D2.out
  go_wp2_with fail
  refine (H3.out _).mono ?_
  rintro r w3 ⟨rfl, hb⟩
  have D3 := Lib.hid (Hd.call D2.out hb)
  clear hb
  clear q0 q1 q2 q3 q4 q5 q6 q7
  obtain ⟨-, q0, q1, q2, q3, q4, q5, q6, q7⟩ := HO.out _ D3.out
  have z3 := Hd.lt D3.out
  go_wp2_with fail
  refine (H5.out _).mono ?_
  rintro r w4 ⟨rfl, hb⟩
  have D4 := Lib.hid (Hd.call D3.out hb)
  clear hb
  clear q0 q1 q2 q3 q4 q5 q6 q7
  obtain ⟨-, q0, q1, q2, q3, q4, q5, q6, q7⟩ := HO.out _ D4.out
  have z4 := Hd.lt D4.out
  go_wp2_with fail
  (try simp only [Exit.inBlock, Exit.then])
  have hF := (Hd.set (Hd.set D4.out 0 (.float .f64 18442240474082181120)) 1 (.float .f64 9218868437227405312))
  exact bodyPost_ret (resS rfl _ _ (w.heap.size + 1 + 1) (.float .f64 18442240474082181120) (.float .f64 9218868437227405312) rfl (Hd.wrote2 hF)) rfl ⟨rfl, Hd.below hF HB.out (by omega)⟩
set_option maxRecDepth 100000 in
set_option maxHeartbeats 1000000 in
theorem rmul_bw (a b : Sp) (z1 : isZ a = false) (z2 : isZ b = false) (h : a.wide = false) (h' : b.wide = true) (w : World) : Calls Try.prog 87 #[.agg #[.float .f64 a.lo, .float .f64 a.hi], .agg #[.float .f64 b.lo, .float .f64 b.hi]] w fun r w' => r = .returned (.agg #[.float .f64 18442240474082181120, .float .f64 9218868437227405312]) ∧ Below w.heap.size w w' := by
  have H1 := Lib.hid (fun w => nothing_sp a w)
  have H2 := Lib.hid (fun w => nothing_sp b w)
  have H3 := Lib.hid (fun w => rwide_sp a w)
  have H4 := Lib.hid (fun w => rwide_sp b w)
  have H5 := Lib.hid (fun w => rall_below w)
  rw [z1] at H1
  rw [z2] at H2
  rw [h] at H3
  rw [h'] at H4
  go_enter Try.func87, Try.ntmps87
  go_wp2_with fail
  obtain ⟨W, hW, K0, K1, K2, hB, hz⟩ := box3 w 24 24 24 #[Value.float FloatKind.f64 a.lo, Value.float FloatKind.f64 a.hi] #[Value.float FloatKind.f64 b.lo, Value.float FloatKind.f64 b.hi] #[Value.float FloatKind.f64 0, Value.float FloatKind.f64 0]
  rw [← hW]
  have K0 := Lib.hid K0
  have K1 := Lib.hid K1
  have K2 := Lib.hid K2
  have HB := Lib.hid hB
  clear hW hB hz
  have HO := Lib.hid (show ∀ w', Hd W (w.heap.size + 1 + 1) 24 2 w' → (Hd W (w.heap.size + 1 + 1) 24 2 w' ∧ w'.cell? ⟨w.heap.size, 0, none⟩ = some (Value.float FloatKind.f64 a.lo) ∧ w'.cell? ⟨w.heap.size, 1, none⟩ = some (Value.float FloatKind.f64 a.hi) ∧ w'.cell? ⟨w.heap.size + 1, 0, none⟩ = some (Value.float FloatKind.f64 b.lo) ∧ w'.cell? ⟨w.heap.size + 1, 1, none⟩ = some (Value.float FloatKind.f64 b.hi) ∧ w'.cell? ⟨w.heap.size + 1 + 1, 0, none⟩ = some (cellAt w' ⟨w.heap.size + 1 + 1, 0, none⟩) ∧ w'.frozen? ⟨w.heap.size + 1 + 1, 0, none⟩ = false ∧ w'.cell? ⟨w.heap.size + 1 + 1, 1, none⟩ = some (cellAt w' ⟨w.heap.size + 1 + 1, 1, none⟩) ∧ w'.frozen? ⟨w.heap.size + 1 + 1, 1, none⟩ = false) from fun w' h => ⟨h, (h.blk K0.out (by omega)).cell 0, (h.blk K0.out (by omega)).cell 1, (h.blk K1.out (by omega)).cell 0, (h.blk K1.out (by omega)).cell 1, (h.at_ 0 (by decide)).1, (h.at_ 0 (by decide)).2, (h.at_ 1 (by decide)).1, (h.at_ 1 (by decide)).2⟩)
  have D0 := Lib.hid (show Hd W (w.heap.size + 1 + 1) 24 2 W from Hd.start K2.out)
  refine (H1.out _).mono ?_
  rintro r w1 ⟨rfl, hb⟩
  have D1 := Lib.hid (Hd.call D0.out hb)
  clear hb
  obtain ⟨-, q0, q1, q2, q3, q4, q5, q6, q7⟩ := HO.out _ D1.out
  have z1 := Hd.lt D1.out
  go_wp2_with fail
  refine (H2.out _).mono ?_
  rintro r w2 ⟨rfl, hb⟩
  have D2 := Lib.hid (Hd.call D1.out hb)
  clear hb
  clear q0 q1 q2 q3 q4 q5 q6 q7
  obtain ⟨-, q0, q1, q2, q3, q4, q5, q6, q7⟩ := HO.out _ D2.out
  have z2 := Hd.lt D2.out
  go_wp2_with fail
  refine (H3.out _).mono ?_
  rintro r w3 ⟨rfl, hb⟩
  have D3 := Lib.hid (Hd.call D2.out hb)
  clear hb
  clear q0 q1 q2 q3 q4 q5 q6 q7
  obtain ⟨-, q0, q1, q2, q3, q4, q5, q6, q7⟩ := HO.out _ D3.out
  have z3 := Hd.lt D3.out
  go_wp2_with fail
  refine (H4.out _).mono ?_
  rintro r w4 ⟨rfl, hb⟩
  have D4 := Lib.hid (Hd.call D3.out hb)
  clear hb
  clear q0 q1 q2 q3 q4 q5 q6 q7
  obtain ⟨-, q0, q1, q2, q3, q4, q5, q6, q7⟩ := HO.out _ D4.out
  have z4 := Hd.lt D4.out
  go_wp2_with fail
  refine (H5.out _).mono ?_
  rintro r w5 ⟨rfl, hb⟩
  have D5 := Lib.hid (Hd.call D4.out hb)
  clear hb
  clear q0 q1 q2 q3 q4 q5 q6 q7
  obtain ⟨-, q0, q1, q2, q3, q4, q5, q6, q7⟩ := HO.out _ D5.out
  have z5 := Hd.lt D5.out
  go_wp2_with fail
  (try simp only [Exit.inBlock, Exit.then])
  have hF := (Hd.set (Hd.set D5.out 0 (.float .f64 18442240474082181120)) 1 (.float .f64 9218868437227405312))
  exact bodyPost_ret (resS rfl _ _ (w.heap.size + 1 + 1) (.float .f64 18442240474082181120) (.float .f64 9218868437227405312) rfl (Hd.wrote2 hF)) rfl ⟨rfl, Hd.below hF HB.out (by omega)⟩
theorem rmul_sp (a b : Sp) (w : World) : Calls Try.prog 87 #[.agg #[.float .f64 a.lo, .float .f64 a.hi], .agg #[.float .f64 b.lo, .float .f64 b.hi]] w fun r w' => r = .returned (.agg #[.float .f64 (mulS a b).lo, .float .f64 (mulS a b).hi]) ∧ Below w.heap.size w w' := by
  unfold mulS
  by_cases hz : (isZ a || isZ b) = true
  · rw [if_pos hz]
    cases h1 : isZ a
    · rw [h1, Bool.false_or] at hz
      exact rmul_b0 a b h1 hz w
    · exact rmul_a0 a b h1 w
  · rw [if_neg hz]
    have ⟨z1, z2⟩ : isZ a = false ∧ isZ b = false := by cases h1 : isZ a <;> cases h2 : isZ b <;> simp_all
    by_cases hw : (a.wide || b.wide) = false
    · rw [dif_pos hw]
      exact rmul_on a b z1 z2 (or_false' hw).1 (or_false' hw).2 w
    · rw [dif_neg hw]
      cases h1 : a.wide
      · have h2 : b.wide = true := by rw [h1] at hw; revert hw; cases b.wide <;> simp
        exact rmul_bw a b z1 z2 h1 h2 w
      · exact rmul_aw a b z1 z2 h1 w
end Go.Proofs.Ytdgaaceebghcpaa
