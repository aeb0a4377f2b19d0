/- The walk of SpanAnswers (gen_lh.py). -/
import Derived.Test.YtlpnfgglpoppfaaSq
import Derived.Test.YtlpnfgglpoppfaaQi
import Derived.Test.YtlpnfgglpoppfaaRh
set_option linter.unusedVariables false
set_option linter.unusedSimpArgs false
namespace Go.Proofs.Ytlpnfgglpoppfaa
open Go.RowKit Fl

set_option maxRecDepth 100000 in
theorem answers_n1 (a b c d s t : Nat) (ha : a < 18446744073709551616) (hb : b < 18446744073709551616) (hc : c < 18446744073709551616) (hd : d < 18446744073709551616) (h1 : vdB a b = false) (w : World) : Calls Try.prog 5 #[.agg #[.float .f64 a, .float .f64 b], .agg #[.float .f64 c, .float .f64 d], .float .f64 s, .float .f64 t] w fun r w' => r = .returned (.bool true) ∧ Below w.heap.size w w' := by
  have H0 := Lib.hid awake2
  have H1 := Lib.hid (fun w => rvalid_any a b ha hb w)
  have H2 := Lib.hid (fun w => rvalid_any c d hc hd w)
  rw [h1] at H1
  go_enter Try.func5, Try.ntmps5
  go_wp2_with fail
  obtain ⟨W, hW, K0, K1, hB, hz⟩ := bx2 w 24 24 #[Value.float FloatKind.f64 a, Value.float FloatKind.f64 b] #[Value.float FloatKind.f64 c, Value.float FloatKind.f64 d]
  rw [← hW]
  have K0 := Lib.hid K0
  have K1 := Lib.hid K1
  have HB := Lib.hid hB
  clear hW hB hz
  have HO := Lib.hid (show ∀ w', Below W.heap.size W w' → (Below W.heap.size W w' ∧ w'.cell? ⟨w.heap.size, 0, none⟩ = some (Value.float FloatKind.f64 a) ∧ w'.cell? ⟨w.heap.size, 1, none⟩ = some (Value.float FloatKind.f64 b) ∧ w'.cell? ⟨w.heap.size + 1, 0, none⟩ = some (Value.float FloatKind.f64 c) ∧ w'.cell? ⟨w.heap.size + 1, 1, none⟩ = some (Value.float FloatKind.f64 d)) from fun w' h => ⟨h, (K0.out.below h K0.out.lt).cell 0, (K0.out.below h K0.out.lt).cell 1, (K1.out.below h K1.out.lt).cell 0, (K1.out.below h K1.out.lt).cell 1⟩)
  have D0 := Lib.hid (Below.refl W.heap.size W)
  refine (H0.out _).mono ?_
  rintro r w1 ⟨rfl, hb⟩
  have D1 := Lib.hid (below_step D0.out hb)
  clear hb
  have hq := (HO.out _ D1.out).2
  go_wp2_with fail
  refine (H1.out _).mono ?_
  clear hq
  rintro r w2 ⟨rfl, hb⟩
  have D2 := Lib.hid (below_step D1.out hb)
  clear hb
  have hq := (HO.out _ D2.out).2
  go_wp2_with fail
  go_ret
  exact ⟨rfl, below_step HB.out D2.out⟩
set_option maxRecDepth 100000 in
theorem answers_n2 (a b c d s t : Nat) (ha : a < 18446744073709551616) (hb : b < 18446744073709551616) (hc : c < 18446744073709551616) (hd : d < 18446744073709551616) (h1 : vdB a b = true) (h2 : vdB c d = false) (w : World) : Calls Try.prog 5 #[.agg #[.float .f64 a, .float .f64 b], .agg #[.float .f64 c, .float .f64 d], .float .f64 s, .float .f64 t] w fun r w' => r = .returned (.bool true) ∧ Below w.heap.size w w' := by
  have H0 := Lib.hid awake2
  have H1 := Lib.hid (fun w => rvalid_any a b ha hb w)
  have H2 := Lib.hid (fun w => rvalid_any c d hc hd w)
  rw [h1] at H1
  rw [h2] at H2
  go_enter Try.func5, Try.ntmps5
  go_wp2_with fail
  obtain ⟨W, hW, K0, K1, hB, hz⟩ := bx2 w 24 24 #[Value.float FloatKind.f64 a, Value.float FloatKind.f64 b] #[Value.float FloatKind.f64 c, Value.float FloatKind.f64 d]
  rw [← hW]
  have K0 := Lib.hid K0
  have K1 := Lib.hid K1
  have HB := Lib.hid hB
  clear hW hB hz
  have HO := Lib.hid (show ∀ w', Below W.heap.size W w' → (Below W.heap.size W w' ∧ w'.cell? ⟨w.heap.size, 0, none⟩ = some (Value.float FloatKind.f64 a) ∧ w'.cell? ⟨w.heap.size, 1, none⟩ = some (Value.float FloatKind.f64 b) ∧ w'.cell? ⟨w.heap.size + 1, 0, none⟩ = some (Value.float FloatKind.f64 c) ∧ w'.cell? ⟨w.heap.size + 1, 1, none⟩ = some (Value.float FloatKind.f64 d)) from fun w' h => ⟨h, (K0.out.below h K0.out.lt).cell 0, (K0.out.below h K0.out.lt).cell 1, (K1.out.below h K1.out.lt).cell 0, (K1.out.below h K1.out.lt).cell 1⟩)
  have D0 := Lib.hid (Below.refl W.heap.size W)
  refine (H0.out _).mono ?_
  rintro r w1 ⟨rfl, hb⟩
  have D1 := Lib.hid (below_step D0.out hb)
  clear hb
  have hq := (HO.out _ D1.out).2
  go_wp2_with fail
  refine (H1.out _).mono ?_
  clear hq
  rintro r w2 ⟨rfl, hb⟩
  have D2 := Lib.hid (below_step D1.out hb)
  clear hb
  have hq := (HO.out _ D2.out).2
  go_wp2_with fail
  refine (H2.out _).mono ?_
  clear hq
  rintro r w3 ⟨rfl, hb⟩
  have D3 := Lib.hid (below_step D2.out hb)
  clear hb
  have hq := (HO.out _ D3.out).2
  go_wp2_with fail
  go_ret
  exact ⟨rfl, below_step HB.out D3.out⟩
theorem pos_tells {A : Sp} {p : Nat} (k : InP A p) : (posS A = 1 ∧ (FloatKind.f64.format.order p 0 == some .gt) = true) ∨ (posS A = 0 ∧ (FloatKind.f64.format.order p 0 == some .gt) = false) ∨ posS A = 2 := by
  have h1 := k.ge
  have h2 := k.le
  rw [k.gt0]
  unfold posS
  by_cases e : 0 < Z A.lo
  · exact Or.inl ⟨if_pos e, decide_eq_true (by omega)⟩
  · by_cases f : Z A.hi ≤ 0
    · exact Or.inr (Or.inl ⟨by rw [if_neg e, if_pos f], decide_eq_false (by omega)⟩)
    · exact Or.inr (Or.inr (by rw [if_neg e, if_neg f]))
theorem less_tells {A B : Sp} {p q : Nat} (k : InP A p) (l : InP B q) : (lessS A B = 1 ∧ (FloatKind.f64.format.order p q == some .lt) = true) ∨ (lessS A B = 0 ∧ (FloatKind.f64.format.order p q == some .lt) = false) ∨ lessS A B = 2 := by
  have h1 := k.ge
  have h2 := k.le
  have l1 := l.ge
  have l2 := l.le
  rw [k.ltp l]
  unfold lessS
  by_cases e : Z A.hi < Z B.lo
  · exact Or.inl ⟨if_pos e, decide_eq_true (by omega)⟩
  · by_cases f : Z B.hi ≤ Z A.lo
    · exact Or.inr (Or.inl ⟨by rw [if_neg e, if_pos f], decide_eq_false (by omega)⟩)
    · exact Or.inr (Or.inr (by rw [if_neg e, if_neg f]))
set_option maxRecDepth 100000 in
set_option maxHeartbeats 4000000 in
theorem answers_y1 (A B : Sp) (s t : Nat) (hs : s < 18446744073709551616) (ht : t < 18446744073709551616) (n : Int) (hn : FlSure A n) (hlt : n < 9007199254740992) (w : World) : Calls Try.prog 5 #[.agg #[.float .f64 A.lo, .float .f64 A.hi], .agg #[.float .f64 B.lo, .float .f64 B.hi], .float .f64 s, .float .f64 t] w fun r w' => r = .returned (.bool true) ∧ Below w.heap.size w w' := by
  have H0 := Lib.hid awake2
  have HV := Lib.hid (fun w => rvalid_any A.lo A.hi A.vd.l.lt A.vd.h.lt w)
  have HW := Lib.hid (fun w => rvalid_any B.lo B.hi B.vd.l.lt B.vd.h.lt w)
  rw [vdB_of A.vd] at HV
  rw [vdB_of B.vd] at HW
  have I1 := Lib.hid (fun w => inner_sp A s hs w)
  have I2 := Lib.hid (fun w => inner_sp B t ht w)
  have P1 := Lib.hid (fun w => pos_sp A w)
  have L1 := Lib.hid (fun w => less_sp A B w)
  have KP := Lib.hid (fun (p : Nat) (k : InP A p) => pos_tells k)
  have KL := Lib.hid (fun (p q : Nat) (k : InP A p) (l : InP B q) => less_tells k l)
  generalize posS A = u at *
  generalize lessS A B = v at *
  have F1 := Lib.hid (fun w => flo_sure A n hn w)
  obtain ⟨x, x1, x2, x3, x4⟩ := ofInt_next n hn.ge hlt
  have KA := Lib.hid (fun (p : Nat) (k : InP A p) => sure_le hn k)
  have KB := Lib.hid (fun (p : Nat) (k : InP A p) => sure_lt hn k x2 x3 x4)
  have AD := fun (t : TypeId) (w : World) => run_float_arith (P := Try.prog) w .add t .f64 _ _ _ x1
  have hl : decide ((9007199254740992 : Int) ≤ n) = false := decide_eq_false (by omega)
  have hl := Lib.hid hl
  clear x1 x2 x3 x4 hn hlt
  go_enter Try.func5, Try.ntmps5
  go_wp2_with fail
  obtain ⟨W, hW, K0, K1, hB, hz⟩ := bx2 w 24 24 #[Value.float FloatKind.f64 A.lo, Value.float FloatKind.f64 A.hi] #[Value.float FloatKind.f64 B.lo, Value.float FloatKind.f64 B.hi]
  rw [← hW]
  have K0 := Lib.hid K0
  have K1 := Lib.hid K1
  have HB := Lib.hid hB
  clear hW hB hz
  have HO := Lib.hid (show ∀ w', Below W.heap.size W w' → (Below W.heap.size W w' ∧ w'.cell? ⟨w.heap.size, 0, none⟩ = some (Value.float FloatKind.f64 A.lo) ∧ w'.cell? ⟨w.heap.size, 1, none⟩ = some (Value.float FloatKind.f64 A.hi) ∧ w'.cell? ⟨w.heap.size + 1, 0, none⟩ = some (Value.float FloatKind.f64 B.lo) ∧ w'.cell? ⟨w.heap.size + 1, 1, none⟩ = some (Value.float FloatKind.f64 B.hi)) from fun w' h => ⟨h, (K0.out.below h K0.out.lt).cell 0, (K0.out.below h K0.out.lt).cell 1, (K1.out.below h K1.out.lt).cell 0, (K1.out.below h K1.out.lt).cell 1⟩)
  have D0 := Lib.hid (Below.refl W.heap.size W)
  refine (H0.out _).mono ?_
  rintro r w1 ⟨rfl, hb⟩
  have D1 := Lib.hid (below_step D0.out hb)
  clear hb
  have hq := (HO.out _ D1.out).2
  go_wp2_with fail
  refine (HV.out _).mono ?_
  clear hq
  rintro r w2 ⟨rfl, hb⟩
  have D2 := Lib.hid (below_step D1.out hb)
  clear hb
  have hq := (HO.out _ D2.out).2
  go_wp2_with fail
  refine (HW.out _).mono ?_
  clear hq
  rintro r w3 ⟨rfl, hb⟩
  have D3 := Lib.hid (below_step D2.out hb)
  clear hb
  have hq := (HO.out _ D3.out).2
  go_wp2_with fail
  clear hq
  refine wp_region_held (S := (fun w' => Below W.heap.size W w' ∧ w'.cell? ⟨w.heap.size, 0, none⟩ = some (Value.float FloatKind.f64 A.lo) ∧ w'.cell? ⟨w.heap.size, 1, none⟩ = some (Value.float FloatKind.f64 A.hi) ∧ w'.cell? ⟨w.heap.size + 1, 0, none⟩ = some (Value.float FloatKind.f64 B.lo) ∧ w'.cell? ⟨w.heap.size + 1, 1, none⟩ = some (Value.float FloatKind.f64 B.hi))) (by kernel_rfl) ?_
  (try change wpAnyH _ _ _ _ _ _ _ (World.drew _))
  have hS0 := HO.out _ (Below.drew D3.out)
  refine wpAnyH_takeN (i := 0) (v := ?v5_0) (l' := bm 8 1) (a' := ?a5_0) rfl (by kernel_rfl) (by kernel_rfl) (by kernel_rfl) (fun _ _ _ h => h) (Or.inl ⟨by kernel_rfl, ?h5_0⟩) (by kernel_rfl) ?p5_0 hS0 ?r5_0
  case h5_0 => (intro w hS; go_simp; try with_reducible rfl)
  case p5_0 => (go_simp; try with_reducible rfl)
  refine wpAnyH_takeN (i := 1) (v := ?v5_1) (l' := bm 8 3) (a' := ?a5_1) rfl (by kernel_rfl) (by kernel_rfl) (by kernel_rfl) (fun _ _ _ h => h) (Or.inl ⟨by kernel_rfl, ?h5_1⟩) (by kernel_rfl) ?p5_1 hS0 ?r5_1
  case h5_1 => (intro w hS; go_simp; try with_reducible rfl)
  case p5_1 => (go_simp; try with_reducible rfl)
  refine wpAnyH_takeN (i := 3) (v := ?v5_3) (l' := bm 8 11) (a' := ?a5_3) rfl (by kernel_rfl) (by kernel_rfl) (by kernel_rfl) (fun _ _ _ h => h) (Or.inl ⟨by kernel_rfl, ?h5_3⟩) (by kernel_rfl) ?p5_3 hS0 ?r5_3
  case h5_3 => (intro w hS; go_simp; try with_reducible rfl)
  case p5_3 => (go_simp; try with_reducible rfl)
  refine wpAnyH_takeN (i := 4) (v := ?v5_4) (l' := bm 8 27) (a' := ?a5_4) rfl (by kernel_rfl) (by kernel_rfl) (by kernel_rfl) (fun _ _ _ h => h) (Or.inl ⟨by kernel_rfl, ?h5_4⟩) (by kernel_rfl) ?p5_4 hS0 ?r5_4
  case h5_4 => (intro w hS; go_simp; try with_reducible rfl)
  case p5_4 => (go_simp; try with_reducible rfl)
  refine wpAnyH_oneN (i := 2) (l' := bm 8 31) rfl (by kernel_rfl) (by kernel_rfl) (by kernel_rfl) (fun K hK => ?_)
  have hP := hS0.1
  go_simp
  go_at_call 29
  refine (I1.out _).mono ?_
  rintro r w4 ⟨p, hp', rfl, hb⟩
  dsimp only
  have D4 := Lib.hid (below_step hP hb)
  clear hb
  have hS1 := HO.out _ (D4.out)
  clear hP hS0
  refine hK _ _ hS1 ?_
  clear hK K
  refine wpAnyH_oneN (i := 5) (l' := bm 8 63) rfl (by kernel_rfl) (by kernel_rfl) (by kernel_rfl) (fun K hK => ?_)
  have hP := hS1.1
  go_simp
  go_at_call 29
  refine (I2.out _).mono ?_
  rintro r w5 ⟨q, hq', rfl, hb⟩
  dsimp only
  have D5 := Lib.hid (below_step hP hb)
  clear hb
  have hS2 := HO.out _ (D5.out)
  clear hP hS1
  refine hK _ _ hS2 ?_
  clear hK K
  refine wpAnyH_takeN (i := 6) (v := ?v5_6) (l' := bm 8 127) (a' := ?a5_6) rfl (by kernel_rfl) (by kernel_rfl) (by kernel_rfl) (fun _ _ _ h => h) (Or.inl ⟨by kernel_rfl, ?h5_6⟩) (by kernel_rfl) ?p5_6 hS2 ?r5_6
  case h5_6 => (intro w hS; go_simp; try with_reducible rfl)
  case p5_6 => (go_simp; try with_reducible rfl)
  refine wpAnyH_takeN (i := 7) (v := ?v5_7) (l' := bm 8 255) (a' := ?a5_7) rfl (by kernel_rfl) (by kernel_rfl) (by kernel_rfl) (fun _ _ _ h => h) (Or.inl ⟨by kernel_rfl, ?h5_7⟩) (by kernel_rfl) ?p5_7 hS2 ?r5_7
  case h5_7 => (intro w hS; go_simp; try with_reducible rfl)
  case p5_7 => (go_simp; try with_reducible rfl)
  refine wpAnyH_done (by kernel_rfl) ?_ _
  clear hS2
  have hq := (HO.out _ D5.out).2
  have hp := Lib.hid hp'
  have hi := Lib.hid hq'
  clear hp' hq'
  go_wp2_with fail
  clear hq
  refine wp_region_held (S := (fun w' => Below W.heap.size W w' ∧ w'.cell? ⟨w.heap.size, 0, none⟩ = some (Value.float FloatKind.f64 A.lo) ∧ w'.cell? ⟨w.heap.size, 1, none⟩ = some (Value.float FloatKind.f64 A.hi) ∧ w'.cell? ⟨w.heap.size + 1, 0, none⟩ = some (Value.float FloatKind.f64 B.lo) ∧ w'.cell? ⟨w.heap.size + 1, 1, none⟩ = some (Value.float FloatKind.f64 B.hi))) (by kernel_rfl) ?_
  (try change wpAnyH _ _ _ _ _ _ _ (World.drew _))
  have hS0 := HO.out _ (Below.drew D5.out)
  refine wpAnyH_takeN (i := 0) (v := ?v6_0) (l' := bm 7 1) (a' := ?a6_0) rfl (by kernel_rfl) (by kernel_rfl) (by kernel_rfl) (fun _ _ _ h => h) (Or.inl ⟨by kernel_rfl, ?h6_0⟩) (by kernel_rfl) ?p6_0 hS0 ?r6_0
  case h6_0 => (intro w hS; go_simp; try with_reducible rfl)
  case p6_0 => (go_simp; try with_reducible rfl)
  refine wpAnyH_takeN (i := 2) (v := ?v6_2) (l' := bm 7 5) (a' := ?a6_2) rfl (by kernel_rfl) (by kernel_rfl) (by kernel_rfl) (fun _ _ _ h => h) (Or.inl ⟨by kernel_rfl, ?h6_2⟩) (by kernel_rfl) ?p6_2 hS0 ?r6_2
  case h6_2 => (intro w hS; go_simp; try with_reducible rfl)
  case p6_2 => (go_simp; try with_reducible rfl)
  refine wpAnyH_takeN (i := 3) (v := ?v6_3) (l' := bm 7 13) (a' := ?a6_3) rfl (by kernel_rfl) (by kernel_rfl) (by kernel_rfl) (fun _ _ _ h => h) (Or.inl ⟨by kernel_rfl, ?h6_3⟩) (by kernel_rfl) ?p6_3 hS0 ?r6_3
  case h6_3 => (intro w hS; go_simp; try with_reducible rfl)
  case p6_3 => (go_simp; try with_reducible rfl)
  refine wpAnyH_oneN (i := 1) (l' := bm 7 15) rfl (by kernel_rfl) (by kernel_rfl) (by kernel_rfl) (fun K hK => ?_)
  have hP := hS0.1
  go_simp
  go_at_call 30
  refine (P1.out _).mono ?_
  rintro r w6 ⟨rfl, hb⟩
  dsimp only
  have D6 := Lib.hid (below_step hP hb)
  clear hb
  have hS1 := HO.out _ (D6.out)
  clear hP hS0
  refine hK _ _ hS1 ?_
  clear hK K
  refine wpAnyH_oneN (i := 4) (l' := bm 7 31) rfl (by kernel_rfl) (by kernel_rfl) (by kernel_rfl) (fun K hK => ?_)
  have hP := hS1.1
  go_simp
  go_at_call 31
  refine (L1.out _).mono ?_
  rintro r w7 ⟨rfl, hb⟩
  dsimp only
  have D7 := Lib.hid (below_step hP hb)
  clear hb
  have hS2 := HO.out _ (D7.out)
  clear hP hS1
  refine hK _ _ hS2 ?_
  clear hK K
  refine wpAnyH_takeN (i := 5) (v := ?v6_5) (l' := bm 7 63) (a' := ?a6_5) rfl (by kernel_rfl) (by kernel_rfl) (by kernel_rfl) (fun _ _ _ h => h) (Or.inl ⟨by kernel_rfl, ?h6_5⟩) (by kernel_rfl) ?p6_5 hS2 ?r6_5
  case h6_5 => (intro w hS; go_simp; try with_reducible rfl)
  case p6_5 => (go_simp; try with_reducible rfl)
  refine wpAnyH_takeN (i := 6) (v := ?v6_6) (l' := bm 7 127) (a' := ?a6_6) rfl (by kernel_rfl) (by kernel_rfl) (by kernel_rfl) (fun _ _ _ h => h) (Or.inl ⟨by kernel_rfl, ?h6_6⟩) (by kernel_rfl) ?p6_6 hS2 ?r6_6
  case h6_6 => (intro w hS; go_simp; try with_reducible rfl)
  case p6_6 => (go_simp; try with_reducible rfl)
  refine wpAnyH_done (by kernel_rfl) ?_ _
  clear hS2
  have hq := (HO.out _ D7.out).2
  rcases KP.out p hp.out with ⟨rfl, e1⟩ | ⟨rfl, e1⟩ | rfl <;> rcases KL.out p q hp.out hi.out with ⟨rfl, e2⟩ | ⟨rfl, e2⟩ | rfl
  all_goals
    go_wp2_with fail
    refine (F1.out _).mono ?_
    clear hq
    rintro r w8 ⟨rfl, hb⟩
    have D8 := Lib.hid (below_step D7.out hb)
    clear hb
    have hq := (HO.out _ D8.out).2
    have e3 := KA.out p hp.out
    have e4 := KB.out p hp.out
    have e5 := hl.out
    go_wp2_with fail
    go_ret
    exact ⟨rfl, below_step HB.out D8.out⟩
set_option maxRecDepth 100000 in
set_option maxHeartbeats 4000000 in
theorem answers_y0 (A B : Sp) (s t : Nat) (hs : s < 18446744073709551616) (ht : t < 18446744073709551616) (hn : ∀ n, ¬ FlSure A n) (w : World) : Calls Try.prog 5 #[.agg #[.float .f64 A.lo, .float .f64 A.hi], .agg #[.float .f64 B.lo, .float .f64 B.hi], .float .f64 s, .float .f64 t] w fun r w' => r = .returned (.bool true) ∧ Below w.heap.size w w' := by
  have H0 := Lib.hid awake2
  have HV := Lib.hid (fun w => rvalid_any A.lo A.hi A.vd.l.lt A.vd.h.lt w)
  have HW := Lib.hid (fun w => rvalid_any B.lo B.hi B.vd.l.lt B.vd.h.lt w)
  rw [vdB_of A.vd] at HV
  rw [vdB_of B.vd] at HW
  have I1 := Lib.hid (fun w => inner_sp A s hs w)
  have I2 := Lib.hid (fun w => inner_sp B t ht w)
  have P1 := Lib.hid (fun w => pos_sp A w)
  have L1 := Lib.hid (fun w => less_sp A B w)
  have KP := Lib.hid (fun (p : Nat) (k : InP A p) => pos_tells k)
  have KL := Lib.hid (fun (p q : Nat) (k : InP A p) (l : InP B q) => less_tells k l)
  generalize posS A = u at *
  generalize lessS A B = v at *
  have F1 := Lib.hid (fun w => flo_not A hn w)
  clear hn
  go_enter Try.func5, Try.ntmps5
  go_wp2_with fail
  obtain ⟨W, hW, K0, K1, hB, hz⟩ := bx2 w 24 24 #[Value.float FloatKind.f64 A.lo, Value.float FloatKind.f64 A.hi] #[Value.float FloatKind.f64 B.lo, Value.float FloatKind.f64 B.hi]
  rw [← hW]
  have K0 := Lib.hid K0
  have K1 := Lib.hid K1
  have HB := Lib.hid hB
  clear hW hB hz
  have HO := Lib.hid (show ∀ w', Below W.heap.size W w' → (Below W.heap.size W w' ∧ w'.cell? ⟨w.heap.size, 0, none⟩ = some (Value.float FloatKind.f64 A.lo) ∧ w'.cell? ⟨w.heap.size, 1, none⟩ = some (Value.float FloatKind.f64 A.hi) ∧ w'.cell? ⟨w.heap.size + 1, 0, none⟩ = some (Value.float FloatKind.f64 B.lo) ∧ w'.cell? ⟨w.heap.size + 1, 1, none⟩ = some (Value.float FloatKind.f64 B.hi)) from fun w' h => ⟨h, (K0.out.below h K0.out.lt).cell 0, (K0.out.below h K0.out.lt).cell 1, (K1.out.below h K1.out.lt).cell 0, (K1.out.below h K1.out.lt).cell 1⟩)
  have D0 := Lib.hid (Below.refl W.heap.size W)
  refine (H0.out _).mono ?_
  rintro r w1 ⟨rfl, hb⟩
  have D1 := Lib.hid (below_step D0.out hb)
  clear hb
  have hq := (HO.out _ D1.out).2
  go_wp2_with fail
  refine (HV.out _).mono ?_
  clear hq
  rintro r w2 ⟨rfl, hb⟩
  have D2 := Lib.hid (below_step D1.out hb)
  clear hb
  have hq := (HO.out _ D2.out).2
  go_wp2_with fail
  refine (HW.out _).mono ?_
  clear hq
  rintro r w3 ⟨rfl, hb⟩
  have D3 := Lib.hid (below_step D2.out hb)
  clear hb
  have hq := (HO.out _ D3.out).2
  go_wp2_with fail
  clear hq
  refine wp_region_held (S := (fun w' => Below W.heap.size W w' ∧ w'.cell? ⟨w.heap.size, 0, none⟩ = some (Value.float FloatKind.f64 A.lo) ∧ w'.cell? ⟨w.heap.size, 1, none⟩ = some (Value.float FloatKind.f64 A.hi) ∧ w'.cell? ⟨w.heap.size + 1, 0, none⟩ = some (Value.float FloatKind.f64 B.lo) ∧ w'.cell? ⟨w.heap.size + 1, 1, none⟩ = some (Value.float FloatKind.f64 B.hi))) (by kernel_rfl) ?_
  (try change wpAnyH _ _ _ _ _ _ _ (World.drew _))
  have hS0 := HO.out _ (Below.drew D3.out)
  refine wpAnyH_takeN (i := 0) (v := ?v5_0) (l' := bm 8 1) (a' := ?a5_0) rfl (by kernel_rfl) (by kernel_rfl) (by kernel_rfl) (fun _ _ _ h => h) (Or.inl ⟨by kernel_rfl, ?h5_0⟩) (by kernel_rfl) ?p5_0 hS0 ?r5_0
  case h5_0 => (intro w hS; go_simp; try with_reducible rfl)
  case p5_0 => (go_simp; try with_reducible rfl)
  refine wpAnyH_takeN (i := 1) (v := ?v5_1) (l' := bm 8 3) (a' := ?a5_1) rfl (by kernel_rfl) (by kernel_rfl) (by kernel_rfl) (fun _ _ _ h => h) (Or.inl ⟨by kernel_rfl, ?h5_1⟩) (by kernel_rfl) ?p5_1 hS0 ?r5_1
  case h5_1 => (intro w hS; go_simp; try with_reducible rfl)
  case p5_1 => (go_simp; try with_reducible rfl)
  refine wpAnyH_takeN (i := 3) (v := ?v5_3) (l' := bm 8 11) (a' := ?a5_3) rfl (by kernel_rfl) (by kernel_rfl) (by kernel_rfl) (fun _ _ _ h => h) (Or.inl ⟨by kernel_rfl, ?h5_3⟩) (by kernel_rfl) ?p5_3 hS0 ?r5_3
  case h5_3 => (intro w hS; go_simp; try with_reducible rfl)
  case p5_3 => (go_simp; try with_reducible rfl)
  refine wpAnyH_takeN (i := 4) (v := ?v5_4) (l' := bm 8 27) (a' := ?a5_4) rfl (by kernel_rfl) (by kernel_rfl) (by kernel_rfl) (fun _ _ _ h => h) (Or.inl ⟨by kernel_rfl, ?h5_4⟩) (by kernel_rfl) ?p5_4 hS0 ?r5_4
  case h5_4 => (intro w hS; go_simp; try with_reducible rfl)
  case p5_4 => (go_simp; try with_reducible rfl)
  refine wpAnyH_oneN (i := 2) (l' := bm 8 31) rfl (by kernel_rfl) (by kernel_rfl) (by kernel_rfl) (fun K hK => ?_)
  have hP := hS0.1
  go_simp
  go_at_call 29
  refine (I1.out _).mono ?_
  rintro r w4 ⟨p, hp', rfl, hb⟩
  dsimp only
  have D4 := Lib.hid (below_step hP hb)
  clear hb
  have hS1 := HO.out _ (D4.out)
  clear hP hS0
  refine hK _ _ hS1 ?_
  clear hK K
  refine wpAnyH_oneN (i := 5) (l' := bm 8 63) rfl (by kernel_rfl) (by kernel_rfl) (by kernel_rfl) (fun K hK => ?_)
  have hP := hS1.1
  go_simp
  go_at_call 29
  refine (I2.out _).mono ?_
  rintro r w5 ⟨q, hq', rfl, hb⟩
  dsimp only
  have D5 := Lib.hid (below_step hP hb)
  clear hb
  have hS2 := HO.out _ (D5.out)
  clear hP hS1
  refine hK _ _ hS2 ?_
  clear hK K
  refine wpAnyH_takeN (i := 6) (v := ?v5_6) (l' := bm 8 127) (a' := ?a5_6) rfl (by kernel_rfl) (by kernel_rfl) (by kernel_rfl) (fun _ _ _ h => h) (Or.inl ⟨by kernel_rfl, ?h5_6⟩) (by kernel_rfl) ?p5_6 hS2 ?r5_6
  case h5_6 => (intro w hS; go_simp; try with_reducible rfl)
  case p5_6 => (go_simp; try with_reducible rfl)
  refine wpAnyH_takeN (i := 7) (v := ?v5_7) (l' := bm 8 255) (a' := ?a5_7) rfl (by kernel_rfl) (by kernel_rfl) (by kernel_rfl) (fun _ _ _ h => h) (Or.inl ⟨by kernel_rfl, ?h5_7⟩) (by kernel_rfl) ?p5_7 hS2 ?r5_7
  case h5_7 => (intro w hS; go_simp; try with_reducible rfl)
  case p5_7 => (go_simp; try with_reducible rfl)
  refine wpAnyH_done (by kernel_rfl) ?_ _
  clear hS2
  have hq := (HO.out _ D5.out).2
  have hp := Lib.hid hp'
  have hi := Lib.hid hq'
  clear hp' hq'
  go_wp2_with fail
  clear hq
  refine wp_region_held (S := (fun w' => Below W.heap.size W w' ∧ w'.cell? ⟨w.heap.size, 0, none⟩ = some (Value.float FloatKind.f64 A.lo) ∧ w'.cell? ⟨w.heap.size, 1, none⟩ = some (Value.float FloatKind.f64 A.hi) ∧ w'.cell? ⟨w.heap.size + 1, 0, none⟩ = some (Value.float FloatKind.f64 B.lo) ∧ w'.cell? ⟨w.heap.size + 1, 1, none⟩ = some (Value.float FloatKind.f64 B.hi))) (by kernel_rfl) ?_
  (try change wpAnyH _ _ _ _ _ _ _ (World.drew _))
  have hS0 := HO.out _ (Below.drew D5.out)
  refine wpAnyH_takeN (i := 0) (v := ?v6_0) (l' := bm 7 1) (a' := ?a6_0) rfl (by kernel_rfl) (by kernel_rfl) (by kernel_rfl) (fun _ _ _ h => h) (Or.inl ⟨by kernel_rfl, ?h6_0⟩) (by kernel_rfl) ?p6_0 hS0 ?r6_0
  case h6_0 => (intro w hS; go_simp; try with_reducible rfl)
  case p6_0 => (go_simp; try with_reducible rfl)
  refine wpAnyH_takeN (i := 2) (v := ?v6_2) (l' := bm 7 5) (a' := ?a6_2) rfl (by kernel_rfl) (by kernel_rfl) (by kernel_rfl) (fun _ _ _ h => h) (Or.inl ⟨by kernel_rfl, ?h6_2⟩) (by kernel_rfl) ?p6_2 hS0 ?r6_2
  case h6_2 => (intro w hS; go_simp; try with_reducible rfl)
  case p6_2 => (go_simp; try with_reducible rfl)
  refine wpAnyH_takeN (i := 3) (v := ?v6_3) (l' := bm 7 13) (a' := ?a6_3) rfl (by kernel_rfl) (by kernel_rfl) (by kernel_rfl) (fun _ _ _ h => h) (Or.inl ⟨by kernel_rfl, ?h6_3⟩) (by kernel_rfl) ?p6_3 hS0 ?r6_3
  case h6_3 => (intro w hS; go_simp; try with_reducible rfl)
  case p6_3 => (go_simp; try with_reducible rfl)
  refine wpAnyH_oneN (i := 1) (l' := bm 7 15) rfl (by kernel_rfl) (by kernel_rfl) (by kernel_rfl) (fun K hK => ?_)
  have hP := hS0.1
  go_simp
  go_at_call 30
  refine (P1.out _).mono ?_
  rintro r w6 ⟨rfl, hb⟩
  dsimp only
  have D6 := Lib.hid (below_step hP hb)
  clear hb
  have hS1 := HO.out _ (D6.out)
  clear hP hS0
  refine hK _ _ hS1 ?_
  clear hK K
  refine wpAnyH_oneN (i := 4) (l' := bm 7 31) rfl (by kernel_rfl) (by kernel_rfl) (by kernel_rfl) (fun K hK => ?_)
  have hP := hS1.1
  go_simp
  go_at_call 31
  refine (L1.out _).mono ?_
  rintro r w7 ⟨rfl, hb⟩
  dsimp only
  have D7 := Lib.hid (below_step hP hb)
  clear hb
  have hS2 := HO.out _ (D7.out)
  clear hP hS1
  refine hK _ _ hS2 ?_
  clear hK K
  refine wpAnyH_takeN (i := 5) (v := ?v6_5) (l' := bm 7 63) (a' := ?a6_5) rfl (by kernel_rfl) (by kernel_rfl) (by kernel_rfl) (fun _ _ _ h => h) (Or.inl ⟨by kernel_rfl, ?h6_5⟩) (by kernel_rfl) ?p6_5 hS2 ?r6_5
  case h6_5 => (intro w hS; go_simp; try with_reducible rfl)
  case p6_5 => (go_simp; try with_reducible rfl)
  refine wpAnyH_takeN (i := 6) (v := ?v6_6) (l' := bm 7 127) (a' := ?a6_6) rfl (by kernel_rfl) (by kernel_rfl) (by kernel_rfl) (fun _ _ _ h => h) (Or.inl ⟨by kernel_rfl, ?h6_6⟩) (by kernel_rfl) ?p6_6 hS2 ?r6_6
  case h6_6 => (intro w hS; go_simp; try with_reducible rfl)
  case p6_6 => (go_simp; try with_reducible rfl)
  refine wpAnyH_done (by kernel_rfl) ?_ _
  clear hS2
  have hq := (HO.out _ D7.out).2
  rcases KP.out p hp.out with ⟨rfl, e1⟩ | ⟨rfl, e1⟩ | rfl <;> rcases KL.out p q hp.out hi.out with ⟨rfl, e2⟩ | ⟨rfl, e2⟩ | rfl
  all_goals
    go_wp2_with fail
    refine (F1.out _).mono ?_
    clear hq
    rintro r w8 ⟨rfl, hb⟩
    have D8 := Lib.hid (below_step D7.out hb)
    clear hb
    have hq := (HO.out _ D8.out).2
    go_wp2_with fail
    go_ret
    exact ⟨rfl, below_step HB.out D8.out⟩
set_option maxRecDepth 100000 in
set_option maxHeartbeats 4000000 in
theorem answers_y2 (A B : Sp) (s t : Nat) (hs : s < 18446744073709551616) (ht : t < 18446744073709551616) (hn : FlSure A 9007199254740992) (w : World) : Calls Try.prog 5 #[.agg #[.float .f64 A.lo, .float .f64 A.hi], .agg #[.float .f64 B.lo, .float .f64 B.hi], .float .f64 s, .float .f64 t] w fun r w' => r = .returned (.bool true) ∧ Below w.heap.size w w' := by
  have H0 := Lib.hid awake2
  have HV := Lib.hid (fun w => rvalid_any A.lo A.hi A.vd.l.lt A.vd.h.lt w)
  have HW := Lib.hid (fun w => rvalid_any B.lo B.hi B.vd.l.lt B.vd.h.lt w)
  rw [vdB_of A.vd] at HV
  rw [vdB_of B.vd] at HW
  have I1 := Lib.hid (fun w => inner_sp A s hs w)
  have I2 := Lib.hid (fun w => inner_sp B t ht w)
  have P1 := Lib.hid (fun w => pos_sp A w)
  have L1 := Lib.hid (fun w => less_sp A B w)
  have KP := Lib.hid (fun (p : Nat) (k : InP A p) => pos_tells k)
  have KL := Lib.hid (fun (p q : Nat) (k : InP A p) (l : InP B q) => less_tells k l)
  generalize posS A = u at *
  generalize lessS A B = v at *
  have F1 := Lib.hid (fun w => flo_sure A _ hn w)
  have KA := Lib.hid (fun (p : Nat) (k : InP A p) => sure_le hn k)
  clear hn
  go_enter Try.func5, Try.ntmps5
  go_wp2_with fail
  obtain ⟨W, hW, K0, K1, hB, hz⟩ := bx2 w 24 24 #[Value.float FloatKind.f64 A.lo, Value.float FloatKind.f64 A.hi] #[Value.float FloatKind.f64 B.lo, Value.float FloatKind.f64 B.hi]
  rw [← hW]
  have K0 := Lib.hid K0
  have K1 := Lib.hid K1
  have HB := Lib.hid hB
  clear hW hB hz
  have HO := Lib.hid (show ∀ w', Below W.heap.size W w' → (Below W.heap.size W w' ∧ w'.cell? ⟨w.heap.size, 0, none⟩ = some (Value.float FloatKind.f64 A.lo) ∧ w'.cell? ⟨w.heap.size, 1, none⟩ = some (Value.float FloatKind.f64 A.hi) ∧ w'.cell? ⟨w.heap.size + 1, 0, none⟩ = some (Value.float FloatKind.f64 B.lo) ∧ w'.cell? ⟨w.heap.size + 1, 1, none⟩ = some (Value.float FloatKind.f64 B.hi)) from fun w' h => ⟨h, (K0.out.below h K0.out.lt).cell 0, (K0.out.below h K0.out.lt).cell 1, (K1.out.below h K1.out.lt).cell 0, (K1.out.below h K1.out.lt).cell 1⟩)
  have D0 := Lib.hid (Below.refl W.heap.size W)
  refine (H0.out _).mono ?_
  rintro r w1 ⟨rfl, hb⟩
  have D1 := Lib.hid (below_step D0.out hb)
  clear hb
  have hq := (HO.out _ D1.out).2
  go_wp2_with fail
  refine (HV.out _).mono ?_
  clear hq
  rintro r w2 ⟨rfl, hb⟩
  have D2 := Lib.hid (below_step D1.out hb)
  clear hb
  have hq := (HO.out _ D2.out).2
  go_wp2_with fail
  refine (HW.out _).mono ?_
  clear hq
  rintro r w3 ⟨rfl, hb⟩
  have D3 := Lib.hid (below_step D2.out hb)
  clear hb
  have hq := (HO.out _ D3.out).2
  go_wp2_with fail
  clear hq
  refine wp_region_held (S := (fun w' => Below W.heap.size W w' ∧ w'.cell? ⟨w.heap.size, 0, none⟩ = some (Value.float FloatKind.f64 A.lo) ∧ w'.cell? ⟨w.heap.size, 1, none⟩ = some (Value.float FloatKind.f64 A.hi) ∧ w'.cell? ⟨w.heap.size + 1, 0, none⟩ = some (Value.float FloatKind.f64 B.lo) ∧ w'.cell? ⟨w.heap.size + 1, 1, none⟩ = some (Value.float FloatKind.f64 B.hi))) (by kernel_rfl) ?_
  (try change wpAnyH _ _ _ _ _ _ _ (World.drew _))
  have hS0 := HO.out _ (Below.drew D3.out)
  refine wpAnyH_takeN (i := 0) (v := ?v5_0) (l' := bm 8 1) (a' := ?a5_0) rfl (by kernel_rfl) (by kernel_rfl) (by kernel_rfl) (fun _ _ _ h => h) (Or.inl ⟨by kernel_rfl, ?h5_0⟩) (by kernel_rfl) ?p5_0 hS0 ?r5_0
  case h5_0 => (intro w hS; go_simp; try with_reducible rfl)
  case p5_0 => (go_simp; try with_reducible rfl)
  refine wpAnyH_takeN (i := 1) (v := ?v5_1) (l' := bm 8 3) (a' := ?a5_1) rfl (by kernel_rfl) (by kernel_rfl) (by kernel_rfl) (fun _ _ _ h => h) (Or.inl ⟨by kernel_rfl, ?h5_1⟩) (by kernel_rfl) ?p5_1 hS0 ?r5_1
  case h5_1 => (intro w hS; go_simp; try with_reducible rfl)
  case p5_1 => (go_simp; try with_reducible rfl)
  refine wpAnyH_takeN (i := 3) (v := ?v5_3) (l' := bm 8 11) (a' := ?a5_3) rfl (by kernel_rfl) (by kernel_rfl) (by kernel_rfl) (fun _ _ _ h => h) (Or.inl ⟨by kernel_rfl, ?h5_3⟩) (by kernel_rfl) ?p5_3 hS0 ?r5_3
  case h5_3 => (intro w hS; go_simp; try with_reducible rfl)
  case p5_3 => (go_simp; try with_reducible rfl)
  refine wpAnyH_takeN (i := 4) (v := ?v5_4) (l' := bm 8 27) (a' := ?a5_4) rfl (by kernel_rfl) (by kernel_rfl) (by kernel_rfl) (fun _ _ _ h => h) (Or.inl ⟨by kernel_rfl, ?h5_4⟩) (by kernel_rfl) ?p5_4 hS0 ?r5_4
  case h5_4 => (intro w hS; go_simp; try with_reducible rfl)
  case p5_4 => (go_simp; try with_reducible rfl)
  refine wpAnyH_oneN (i := 2) (l' := bm 8 31) rfl (by kernel_rfl) (by kernel_rfl) (by kernel_rfl) (fun K hK => ?_)
  have hP := hS0.1
  go_simp
  go_at_call 29
  refine (I1.out _).mono ?_
  rintro r w4 ⟨p, hp', rfl, hb⟩
  dsimp only
  have D4 := Lib.hid (below_step hP hb)
  clear hb
  have hS1 := HO.out _ (D4.out)
  clear hP hS0
  refine hK _ _ hS1 ?_
  clear hK K
  refine wpAnyH_oneN (i := 5) (l' := bm 8 63) rfl (by kernel_rfl) (by kernel_rfl) (by kernel_rfl) (fun K hK => ?_)
  have hP := hS1.1
  go_simp
  go_at_call 29
  refine (I2.out _).mono ?_
  rintro r w5 ⟨q, hq', rfl, hb⟩
  dsimp only
  have D5 := Lib.hid (below_step hP hb)
  clear hb
  have hS2 := HO.out _ (D5.out)
  clear hP hS1
  refine hK _ _ hS2 ?_
  clear hK K
  refine wpAnyH_takeN (i := 6) (v := ?v5_6) (l' := bm 8 127) (a' := ?a5_6) rfl (by kernel_rfl) (by kernel_rfl) (by kernel_rfl) (fun _ _ _ h => h) (Or.inl ⟨by kernel_rfl, ?h5_6⟩) (by kernel_rfl) ?p5_6 hS2 ?r5_6
  case h5_6 => (intro w hS; go_simp; try with_reducible rfl)
  case p5_6 => (go_simp; try with_reducible rfl)
  refine wpAnyH_takeN (i := 7) (v := ?v5_7) (l' := bm 8 255) (a' := ?a5_7) rfl (by kernel_rfl) (by kernel_rfl) (by kernel_rfl) (fun _ _ _ h => h) (Or.inl ⟨by kernel_rfl, ?h5_7⟩) (by kernel_rfl) ?p5_7 hS2 ?r5_7
  case h5_7 => (intro w hS; go_simp; try with_reducible rfl)
  case p5_7 => (go_simp; try with_reducible rfl)
  refine wpAnyH_done (by kernel_rfl) ?_ _
  clear hS2
  have hq := (HO.out _ D5.out).2
  have hp := Lib.hid hp'
  have hi := Lib.hid hq'
  clear hp' hq'
  go_wp2_with fail
  clear hq
  refine wp_region_held (S := (fun w' => Below W.heap.size W w' ∧ w'.cell? ⟨w.heap.size, 0, none⟩ = some (Value.float FloatKind.f64 A.lo) ∧ w'.cell? ⟨w.heap.size, 1, none⟩ = some (Value.float FloatKind.f64 A.hi) ∧ w'.cell? ⟨w.heap.size + 1, 0, none⟩ = some (Value.float FloatKind.f64 B.lo) ∧ w'.cell? ⟨w.heap.size + 1, 1, none⟩ = some (Value.float FloatKind.f64 B.hi))) (by kernel_rfl) ?_
  (try change wpAnyH _ _ _ _ _ _ _ (World.drew _))
  have hS0 := HO.out _ (Below.drew D5.out)
  refine wpAnyH_takeN (i := 0) (v := ?v6_0) (l' := bm 7 1) (a' := ?a6_0) rfl (by kernel_rfl) (by kernel_rfl) (by kernel_rfl) (fun _ _ _ h => h) (Or.inl ⟨by kernel_rfl, ?h6_0⟩) (by kernel_rfl) ?p6_0 hS0 ?r6_0
  case h6_0 => (intro w hS; go_simp; try with_reducible rfl)
  case p6_0 => (go_simp; try with_reducible rfl)
  refine wpAnyH_takeN (i := 2) (v := ?v6_2) (l' := bm 7 5) (a' := ?a6_2) rfl (by kernel_rfl) (by kernel_rfl) (by kernel_rfl) (fun _ _ _ h => h) (Or.inl ⟨by kernel_rfl, ?h6_2⟩) (by kernel_rfl) ?p6_2 hS0 ?r6_2
  case h6_2 => (intro w hS; go_simp; try with_reducible rfl)
  case p6_2 => (go_simp; try with_reducible rfl)
  refine wpAnyH_takeN (i := 3) (v := ?v6_3) (l' := bm 7 13) (a' := ?a6_3) rfl (by kernel_rfl) (by kernel_rfl) (by kernel_rfl) (fun _ _ _ h => h) (Or.inl ⟨by kernel_rfl, ?h6_3⟩) (by kernel_rfl) ?p6_3 hS0 ?r6_3
  case h6_3 => (intro w hS; go_simp; try with_reducible rfl)
  case p6_3 => (go_simp; try with_reducible rfl)
  refine wpAnyH_oneN (i := 1) (l' := bm 7 15) rfl (by kernel_rfl) (by kernel_rfl) (by kernel_rfl) (fun K hK => ?_)
  have hP := hS0.1
  go_simp
  go_at_call 30
  refine (P1.out _).mono ?_
  rintro r w6 ⟨rfl, hb⟩
  dsimp only
  have D6 := Lib.hid (below_step hP hb)
  clear hb
  have hS1 := HO.out _ (D6.out)
  clear hP hS0
  refine hK _ _ hS1 ?_
  clear hK K
  refine wpAnyH_oneN (i := 4) (l' := bm 7 31) rfl (by kernel_rfl) (by kernel_rfl) (by kernel_rfl) (fun K hK => ?_)
  have hP := hS1.1
  go_simp
  go_at_call 31
  refine (L1.out _).mono ?_
  rintro r w7 ⟨rfl, hb⟩
  dsimp only
  have D7 := Lib.hid (below_step hP hb)
  clear hb
  have hS2 := HO.out _ (D7.out)
  clear hP hS1
  refine hK _ _ hS2 ?_
  clear hK K
  refine wpAnyH_takeN (i := 5) (v := ?v6_5) (l' := bm 7 63) (a' := ?a6_5) rfl (by kernel_rfl) (by kernel_rfl) (by kernel_rfl) (fun _ _ _ h => h) (Or.inl ⟨by kernel_rfl, ?h6_5⟩) (by kernel_rfl) ?p6_5 hS2 ?r6_5
  case h6_5 => (intro w hS; go_simp; try with_reducible rfl)
  case p6_5 => (go_simp; try with_reducible rfl)
  refine wpAnyH_takeN (i := 6) (v := ?v6_6) (l' := bm 7 127) (a' := ?a6_6) rfl (by kernel_rfl) (by kernel_rfl) (by kernel_rfl) (fun _ _ _ h => h) (Or.inl ⟨by kernel_rfl, ?h6_6⟩) (by kernel_rfl) ?p6_6 hS2 ?r6_6
  case h6_6 => (intro w hS; go_simp; try with_reducible rfl)
  case p6_6 => (go_simp; try with_reducible rfl)
  refine wpAnyH_done (by kernel_rfl) ?_ _
  clear hS2
  have hq := (HO.out _ D7.out).2
  rcases KP.out p hp.out with ⟨rfl, e1⟩ | ⟨rfl, e1⟩ | rfl <;> rcases KL.out p q hp.out hi.out with ⟨rfl, e2⟩ | ⟨rfl, e2⟩ | rfl
  all_goals
    go_wp2_with fail
    refine (F1.out _).mono ?_
    clear hq
    rintro r w8 ⟨rfl, hb⟩
    have D8 := Lib.hid (below_step D7.out hb)
    clear hb
    have hq := (HO.out _ D8.out).2
    have e3 := KA.out p hp.out
    go_wp2_with fail
    go_ret
    exact ⟨rfl, below_step HB.out D8.out⟩
theorem walk_answers (a b c d s t : Nat) (ha : a < 18446744073709551616) (hb : b < 18446744073709551616) (hc : c < 18446744073709551616) (hd : d < 18446744073709551616) (hs : s < 18446744073709551616) (ht : t < 18446744073709551616) (w : World) : Calls Try.prog 5 #[.agg #[.float .f64 a, .float .f64 b], .agg #[.float .f64 c, .float .f64 d], .float .f64 s, .float .f64 t] w fun r w' => r = .returned (.bool true) ∧ Below w.heap.size w w' := by
  cases h1 : vdB a b
  · exact answers_n1 a b c d s t ha hb hc hd h1 w
  · cases h2 : vdB c d
    · exact answers_n2 a b c d s t ha hb hc hd h1 h2 w
    · by_cases k : ∃ n, FlSure ⟨a, b, vdB_true ha hb h1⟩ n
      · obtain ⟨n, k⟩ := k
        by_cases e : n < 9007199254740992
        · exact answers_y1 ⟨a, b, vdB_true ha hb h1⟩ ⟨c, d, vdB_true hc hd h2⟩ s t hs ht n k e w
        · obtain rfl : n = 9007199254740992 := by have := k.le; omega
          exact answers_y2 ⟨a, b, vdB_true ha hb h1⟩ ⟨c, d, vdB_true hc hd h2⟩ s t hs ht k w
      · exact answers_y0 ⟨a, b, vdB_true ha hb h1⟩ ⟨c, d, vdB_true hc hd h2⟩ s t hs ht (fun n q => k ⟨n, q⟩) w
end Go.Proofs.Ytlpnfgglpoppfaa
