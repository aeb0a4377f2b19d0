/- The law RoundSquare (gen_nb.py). -/
import Derived.Test.YthkfaacgabkhhaaNc
import Derived.Test.YthkfaacgabkhhaaVz
set_option linter.unusedVariables false
set_option linter.unusedSimpArgs false
namespace Go.Proofs.Ythkfaacgabkhhaa
open Go.RowKit Fl

set_option maxRecDepth 100000 in
set_option maxHeartbeats 8000000 in
theorem square_n1 (a : Nat) (ha : a < 18446744073709551616) (f : fin a = false) (w : World) : Calls Try.prog 6 #[.float .f64 a] w fun r w' => r = .returned (.bool true) ∧ Below w.heap.size w w' := by
  have H0 := Lib.hid awake
  have H1 := Lib.hid (fun w => rnum_any a ha w)
  rw [f] at H1
  go_enter Try.func6, Try.ntmps6
  go_wp2_with fail
  obtain ⟨W, hW⟩ : ∃ W, W = w := ⟨_, rfl⟩
  rw [← hW]
  have HB := Lib.hid (hW ▸ Below.refl w.heap.size w : Below w.heap.size w W)
  clear hW
  have HO := Lib.hid (show ∀ w', Below W.heap.size W w' → (Below W.heap.size W w') from fun w' h => h)
  have D0 := Lib.hid (Below.refl W.heap.size W)
  refine (H0.out _).mono ?_
  rintro r w1 ⟨rfl, hb⟩
  have D1 := Lib.hid (below_step D0.out hb)
  clear hb
  go_wp2_with fail
  refine (H1.out _).mono ?_
  rintro r w' ⟨rfl, k, rfl⟩
  go_wp2_with fail
  go_ret
  exact ⟨rfl, below_drewN (below_step HB.out D1.out) _⟩
set_option maxRecDepth 100000 in
set_option maxHeartbeats 8000000 in
theorem square_n2 (a : Nat) (ha : a < 18446744073709551616) (f : fin a = true) (z : Z a < 0) (w : World) : Calls Try.prog 6 #[.float .f64 a] w fun r w' => r = .returned (.bool true) ∧ Below w.heap.size w w' := by
  have H0 := Lib.hid awake
  have H1 := Lib.hid (fun w => rnum_good a ha f w)
  have e := Z_lt0 a ha f
  rw [decide_eq_true z] at e
  go_enter Try.func6, Try.ntmps6
  go_wp2_with fail
  obtain ⟨W, hW⟩ : ∃ W, W = w := ⟨_, rfl⟩
  rw [← hW]
  have HB := Lib.hid (hW ▸ Below.refl w.heap.size w : Below w.heap.size w W)
  clear hW
  have HO := Lib.hid (show ∀ w', Below W.heap.size W w' → (Below W.heap.size W w') from fun w' h => h)
  have D0 := Lib.hid (Below.refl W.heap.size W)
  refine (H0.out _).mono ?_
  rintro r w1 ⟨rfl, hb⟩
  have D1 := Lib.hid (below_step D0.out hb)
  clear hb
  go_wp2_with fail
  refine (H1.out _).mono ?_
  rintro r w' ⟨rfl, rfl⟩
  go_wp2_with fail
  go_ret
  exact ⟨rfl, below_step HB.out D1.out⟩
set_option maxRecDepth 100000 in
set_option maxHeartbeats 8000000 in
theorem square_y (a : Nat) (ha : a < 18446744073709551616) (f : fin a = true) (z : 0 ≤ Z a) (w : World) : Calls Try.prog 6 #[.float .f64 a] w fun r w' => r = .returned (.bool true) ∧ Below w.heap.size w w' := by
  have H0 := Lib.hid awake
  have H1 := Lib.hid (fun w => rnum_good a ha f w)
  have e := Z_lt0 a ha f
  rw [decide_eq_false (by omega)] at e
  have S1 := Lib.hid (fun w => sqrt_any a true ha w)
  have S2 := Lib.hid (fun w => sqrt_any a false ha w)
  have q1 := sqrt_dn f z
  have q2 := sqrt_up f z
  obtain ⟨f2, f1⟩ := root_fin f q1 q2
  rw [sqrt_ok f z true] at S1
  rw [sqrt_ok f z false] at S2
  simp only [pV, numV] at S1 S2
  generalize (sqrtR a true).1 = lo at *
  generalize (sqrtR a false).1 = hi at *
  have e2 := Z_lt0 lo q1.gd.lt f1
  rw [decide_eq_false (by have := q1.nn; omega)] at e2
  have CL := Lib.hid (fun w => close_any q1.gd q2.gd (nbr_qd q1 q2) w)
  have OX := Lib.hid (fun w => of_rp ha f w)
  have OL := Lib.hid (fun w => of_rp q1.gd.lt f1 w)
  have OH := Lib.hid (fun w => of_rp q2.gd.lt f2 w)
  have G1 := Lib.hid (sq_rat.1 q1.lo)
  have G2 := Lib.hid (rat_sq.1 (q2.hi.resolve_left (fun k => by rw [k] at f2; exact absurd f2 (by decide))))
  clear q1 q2 f1 f2 f z ha
  generalize fv a = xa at *
  generalize fv lo = xl at *
  generalize fv hi = xh at *
  go_enter Try.func6, Try.ntmps6
  go_wp2_with fail
  obtain ⟨W, hW⟩ : ∃ W, W = w := ⟨_, rfl⟩
  rw [← hW]
  have HB := Lib.hid (hW ▸ Below.refl w.heap.size w : Below w.heap.size w W)
  clear hW
  have HO := Lib.hid (show ∀ w', Below W.heap.size W w' → (Below W.heap.size W w') from fun w' h => h)
  have D0 := Lib.hid (Below.refl W.heap.size W)
  refine (H0.out _).mono ?_
  rintro r w1 ⟨rfl, hb⟩
  have D1 := Lib.hid (below_step D0.out hb)
  clear hb
  go_wp2_with fail
  refine (H1.out _).mono ?_
  rintro r w' ⟨rfl, rfl⟩
  go_wp2_with fail
  refine (S1.out _).mono ?_
  rintro r w2 ⟨rfl, hb⟩
  have D2 := Lib.hid (below_step D1.out hb)
  clear hb
  go_wp2_with fail
  refine (S2.out _).mono ?_
  rintro r w3 ⟨rfl, hb⟩
  have D3 := Lib.hid (below_step D2.out hb)
  clear hb
  go_wp2_with fail
  refine (CL.out _).mono ?_
  rintro r w4 ⟨rfl, hb⟩
  have D4 := Lib.hid (below_step D3.out hb)
  clear hb
  go_wp2_with fail
  refine (OX.out _).mono ?_
  rintro r w5 ⟨bx, gx, cx, rfl, hrx, hpx, hb⟩
  have D5 := Lib.hid (below_step D4.out hb)
  clear hb
  have HRbx := Lib.hid hrx
  have HPbx := Lib.hid hpx
  clear hrx hpx
  go_wp2_with fail
  refine (OL.out _).mono ?_
  rintro r w6 ⟨bl, gl, cl, rfl, hrx, hpx, hb⟩
  have D6 := Lib.hid (below_step D5.out hb)
  have HRbx := Lib.hid (HRbx.out.below' hb)
  clear hb
  have HRbl := Lib.hid hrx
  have HPbl := Lib.hid hpx
  clear hrx hpx
  go_wp2_with fail
  refine (OH.out _).mono ?_
  rintro r w7 ⟨bh, gh, ch, rfl, hrx, hpx, hb⟩
  have D7 := Lib.hid (below_step D6.out hb)
  have HRbx := Lib.hid (HRbx.out.below' hb)
  have HRbl := Lib.hid (HRbl.out.below' hb)
  clear hb
  have HRbh := Lib.hid hrx
  have HPbh := Lib.hid hpx
  clear hrx hpx
  go_wp2_with fail
  obtain ⟨V, hV, KN0, KN1, KN2, hBV, hz⟩ := by3 w7 35 35 35 #[Value.bool bx.neg, Value.slice (some ⟨gx, 0, none⟩) bx.ws.length cx, Value.int IntKind.i64 bx.e] #[Value.bool bl.neg, Value.slice (some ⟨gl, 0, none⟩) bl.ws.length cl, Value.int IntKind.i64 bl.e] #[Value.bool bh.neg, Value.slice (some ⟨gh, 0, none⟩) bh.ws.length ch, Value.int IntKind.i64 bh.e]
  rw [← hV]
  have HLTbx := Lib.hid HRbx.out.lt
  have HRbx := Lib.hid (HRbx.out.below' hBV)
  have HLTbl := Lib.hid HRbl.out.lt
  have HRbl := Lib.hid (HRbl.out.below' hBV)
  have HLTbh := Lib.hid HRbh.out.lt
  have HRbh := Lib.hid (HRbh.out.below' hBV)
  have HB' := Lib.hid (below_step (below_step HB.out D7.out) hBV)
  obtain ⟨gv, hgv⟩ : ∃ g, w7.heap.size = g := ⟨_, rfl⟩
  have hwg : w.heap.size ≤ gv := by rw [← hgv]; exact (below_step HB.out D7.out).size
  have lt_bx : gx < gv := by rw [← hgv]; exact HLTbx.out
  have lt_bl : gl < gv := by rw [← hgv]; exact HLTbl.out
  have lt_bh : gh < gv := by rw [← hgv]; exact HLTbh.out
  rw [hgv] at KN0 KN1 KN2
  rw [hgv]
  have K0 := Lib.hid KN0
  have K1 := Lib.hid KN1
  have K2 := Lib.hid KN2
  clear HB HO KN0 KN1 KN2 hV hBV hz hgv
  have HB := HB'
  clear HB'
  have HO := Lib.hid (show ∀ w', Below V.heap.size V w' → (Below V.heap.size V w' ∧ w'.cell? ⟨gv, 0, none⟩ = some (Value.bool bx.neg) ∧ w'.cell? ⟨gv, 1, none⟩ = some (Value.slice (some ⟨gx, 0, none⟩) bx.ws.length cx) ∧ w'.cell? ⟨gv, 2, none⟩ = some (Value.int IntKind.i64 bx.e) ∧ w'.cell? ⟨gv + 1, 0, none⟩ = some (Value.bool bl.neg) ∧ w'.cell? ⟨gv + 1, 1, none⟩ = some (Value.slice (some ⟨gl, 0, none⟩) bl.ws.length cl) ∧ w'.cell? ⟨gv + 1, 2, none⟩ = some (Value.int IntKind.i64 bl.e) ∧ w'.cell? ⟨gv + 1 + 1, 0, none⟩ = some (Value.bool bh.neg) ∧ w'.cell? ⟨gv + 1 + 1, 1, none⟩ = some (Value.slice (some ⟨gh, 0, none⟩) bh.ws.length ch) ∧ w'.cell? ⟨gv + 1 + 1, 2, none⟩ = some (Value.int IntKind.i64 bh.e)) from fun w' h => ⟨h, (K0.out.below h K0.out.lt).cell 0, (K0.out.below h K0.out.lt).cell 1, (K0.out.below h K0.out.lt).cell 2, (K1.out.below h K1.out.lt).cell 0, (K1.out.below h K1.out.lt).cell 1, (K1.out.below h K1.out.lt).cell 2, (K2.out.below h K2.out.lt).cell 0, (K2.out.below h K2.out.lt).cell 1, (K2.out.below h K2.out.lt).cell 2⟩)
  have D8 := Lib.hid (Below.refl V.heap.size V)
  have hq := (HO.out _ D8.out).2
  have HRbx := Lib.hid (fun w' (b : Below V.heap.size V w') => HRbx.out.below' b)
  have HRbl := Lib.hid (fun w' (b : Below V.heap.size V w') => HRbl.out.below' b)
  have HRbh := Lib.hid (fun w' (b : Below V.heap.size V w') => HRbh.out.below' b)
  go_wp2_with fail
  clear hq
  refine wp_region_held (S := (fun w' => Below V.heap.size V w' ∧ w'.cell? ⟨gv, 0, none⟩ = some (Value.bool bx.neg) ∧ w'.cell? ⟨gv, 1, none⟩ = some (Value.slice (some ⟨gx, 0, none⟩) bx.ws.length cx) ∧ w'.cell? ⟨gv, 2, none⟩ = some (Value.int IntKind.i64 bx.e) ∧ w'.cell? ⟨gv + 1, 0, none⟩ = some (Value.bool bl.neg) ∧ w'.cell? ⟨gv + 1, 1, none⟩ = some (Value.slice (some ⟨gl, 0, none⟩) bl.ws.length cl) ∧ w'.cell? ⟨gv + 1, 2, none⟩ = some (Value.int IntKind.i64 bl.e) ∧ w'.cell? ⟨gv + 1 + 1, 0, none⟩ = some (Value.bool bh.neg) ∧ w'.cell? ⟨gv + 1 + 1, 1, none⟩ = some (Value.slice (some ⟨gh, 0, none⟩) bh.ws.length ch) ∧ w'.cell? ⟨gv + 1 + 1, 2, none⟩ = some (Value.int IntKind.i64 bh.e))) (by kernel_rfl) ?_
  (try change wpAnyH _ _ _ _ _ _ _ (World.drew _))
  have hS0 := HO.out _ (Below.drew D8.out)
  refine wpAnyH_takeM (i := 0) (v := ?v10_0) (l' := bm 15 1) (a' := ?a10_0) rfl (by kernel_rfl) (by kernel_rfl) (by kernel_rfl) (fun _ _ _ h => h) (Or.inl ⟨by kernel_rfl, ?h10_0⟩) (by kernel_rfl) ?p10_0 hS0 ?r10_0
  case h10_0 => (intro w hS; go_simp; try with_reducible rfl)
  case p10_0 => (go_simp; try with_reducible rfl)
  refine wpAnyH_takeM (i := 1) (v := ?v10_1) (l' := bm 15 3) (a' := ?a10_1) rfl (by kernel_rfl) (by kernel_rfl) (by kernel_rfl) (fun _ _ _ h => h) (Or.inl ⟨by kernel_rfl, ?h10_1⟩) (by kernel_rfl) ?p10_1 hS0 ?r10_1
  case h10_1 => (intro w hS; go_simp; try with_reducible rfl)
  case p10_1 => (go_simp; try with_reducible rfl)
  refine wpAnyH_takeM (i := 2) (v := ?v10_2) (l' := bm 15 7) (a' := ?a10_2) rfl (by kernel_rfl) (by kernel_rfl) (by kernel_rfl) (fun _ _ _ h => h) (Or.inl ⟨by kernel_rfl, ?h10_2⟩) (by kernel_rfl) ?p10_2 hS0 ?r10_2
  case h10_2 => (intro w hS; go_simp; try with_reducible rfl)
  case p10_2 => (go_simp; try with_reducible rfl)
  refine wpAnyH_oneM (i := 3) (l' := bm 15 15) rfl (by kernel_rfl) (by kernel_rfl) (by kernel_rfl) (fun K hK => ?_)
  have hP := hS0.1
  go_simp
  go_at_call 25
  refine (mul_rp (HRbl.out _ hP) (HRbl.out _ hP) cl cl HPbl.out HPbl.out (by decide) (by decide) (by decide) (by decide) (by decide) (by decide)).mono ?_
  rintro r w9 ⟨s1_, h1_, c1_, rfl, hr1, hp1, hb⟩
  dsimp only
  have D9 := Lib.hid (below_step hP hb)
  clear hb
  have hS1 := HO.out _ (D9.out)
  clear hP hS0
  refine hK _ _ hS1 ?_
  clear hK K
  refine wpAnyH_oneM (i := 4) (l' := bm 15 31) rfl (by kernel_rfl) (by kernel_rfl) (by kernel_rfl) (fun K hK => ?_)
  have hP := hS1.1
  go_simp
  go_at_call 24
  refine (less_rp (HRbx.out _ hP) hr1 cx c1_ HPbx.out hp1 (by decide) (by decide) (by decide) (by decide) (by decide) (by decide) G1.out).mono ?_
  rintro r w10 ⟨rfl, hb⟩
  dsimp only
  have D10 := Lib.hid (below_step hP hb)
  clear hb
  have hS2 := HO.out _ (D10.out)
  clear hP hS1
  refine hK _ _ hS2 ?_
  clear hK K
  refine wpAnyH_takeM (i := 5) (v := ?v10_5) (l' := bm 15 63) (a' := ?a10_5) rfl (by kernel_rfl) (by kernel_rfl) (by kernel_rfl) (fun _ _ _ h => h) (Or.inl ⟨by kernel_rfl, ?h10_5⟩) (by kernel_rfl) ?p10_5 hS2 ?r10_5
  case h10_5 => (intro w hS; go_simp; try with_reducible rfl)
  case p10_5 => (go_simp; try with_reducible rfl)
  refine wpAnyH_takeM (i := 6) (v := ?v10_6) (l' := bm 15 127) (a' := ?a10_6) rfl (by kernel_rfl) (by kernel_rfl) (by kernel_rfl) (fun _ _ _ h => h) (Or.inl ⟨by kernel_rfl, ?h10_6⟩) (by kernel_rfl) ?p10_6 hS2 ?r10_6
  case h10_6 => (intro w hS; go_simp; try with_reducible rfl)
  case p10_6 => (go_simp; try with_reducible rfl)
  refine wpAnyH_takeM (i := 7) (v := ?v10_7) (l' := bm 15 255) (a' := ?a10_7) rfl (by kernel_rfl) (by kernel_rfl) (by kernel_rfl) (fun _ _ _ h => h) (Or.inl ⟨by kernel_rfl, ?h10_7⟩) (by kernel_rfl) ?p10_7 hS2 ?r10_7
  case h10_7 => (intro w hS; go_simp; try with_reducible rfl)
  case p10_7 => (go_simp; try with_reducible rfl)
  refine wpAnyH_takeM (i := 8) (v := ?v10_8) (l' := bm 15 511) (a' := ?a10_8) rfl (by kernel_rfl) (by kernel_rfl) (by kernel_rfl) (fun _ _ _ h => h) (Or.inl ⟨by kernel_rfl, ?h10_8⟩) (by kernel_rfl) ?p10_8 hS2 ?r10_8
  case h10_8 => (intro w hS; go_simp; try with_reducible rfl)
  case p10_8 => (go_simp; try with_reducible rfl)
  refine wpAnyH_takeM (i := 10) (v := ?v10_10) (l' := bm 15 1535) (a' := ?a10_10) rfl (by kernel_rfl) (by kernel_rfl) (by kernel_rfl) (fun _ _ _ h => h) (Or.inl ⟨by kernel_rfl, ?h10_10⟩) (by kernel_rfl) ?p10_10 hS2 ?r10_10
  case h10_10 => (intro w hS; go_simp; try with_reducible rfl)
  case p10_10 => (go_simp; try with_reducible rfl)
  refine wpAnyH_oneM (i := 9) (l' := bm 15 2047) rfl (by kernel_rfl) (by kernel_rfl) (by kernel_rfl) (fun K hK => ?_)
  have hP := hS2.1
  go_simp
  go_at_call 25
  refine (mul_rp (HRbh.out _ hP) (HRbh.out _ hP) ch ch HPbh.out HPbh.out (by decide) (by decide) (by decide) (by decide) (by decide) (by decide)).mono ?_
  rintro r w11 ⟨s2_, h2_, c2_, rfl, hr2, hp2, hb⟩
  dsimp only
  have D11 := Lib.hid (below_step hP hb)
  clear hb
  have hS3 := HO.out _ (D11.out)
  clear hP hS2
  refine hK _ _ hS3 ?_
  clear hK K
  refine wpAnyH_oneM (i := 11) (l' := bm 15 4095) rfl (by kernel_rfl) (by kernel_rfl) (by kernel_rfl) (fun K hK => ?_)
  have hP := hS3.1
  go_simp
  go_at_call 24
  refine (less_rp hr2 (HRbx.out _ hP) c2_ cx hp2 HPbx.out (by decide) (by decide) (by decide) (by decide) (by decide) (by decide) G2.out).mono ?_
  rintro r w12 ⟨rfl, hb⟩
  dsimp only
  have D12 := Lib.hid (below_step hP hb)
  clear hb
  have hS4 := HO.out _ (D12.out)
  clear hP hS3
  refine hK _ _ hS4 ?_
  clear hK K
  refine wpAnyH_takeM (i := 12) (v := ?v10_12) (l' := bm 15 8191) (a' := ?a10_12) rfl (by kernel_rfl) (by kernel_rfl) (by kernel_rfl) (fun _ _ _ h => h) (Or.inl ⟨by kernel_rfl, ?h10_12⟩) (by kernel_rfl) ?p10_12 hS4 ?r10_12
  case h10_12 => (intro w hS; go_simp; try with_reducible rfl)
  case p10_12 => (go_simp; try with_reducible rfl)
  refine wpAnyH_takeM (i := 13) (v := ?v10_13) (l' := bm 15 16383) (a' := ?a10_13) rfl (by kernel_rfl) (by kernel_rfl) (by kernel_rfl) (fun _ _ _ h => h) (Or.inl ⟨by kernel_rfl, ?h10_13⟩) (by kernel_rfl) ?p10_13 hS4 ?r10_13
  case h10_13 => (intro w hS; go_simp; try with_reducible rfl)
  case p10_13 => (go_simp; try with_reducible rfl)
  refine wpAnyH_takeM (i := 14) (v := ?v10_14) (l' := bm 15 32767) (a' := ?a10_14) rfl (by kernel_rfl) (by kernel_rfl) (by kernel_rfl) (fun _ _ _ h => h) (Or.inl ⟨by kernel_rfl, ?h10_14⟩) (by kernel_rfl) ?p10_14 hS4 ?r10_14
  case h10_14 => (intro w hS; go_simp; try with_reducible rfl)
  case p10_14 => (go_simp; try with_reducible rfl)
  refine wpAnyH_done (by kernel_rfl) ?_ _
  clear hS4
  have hq := (HO.out _ D12.out).2
  go_wp2_with fail
  go_ret
  exact ⟨rfl, below_step HB.out D12.out⟩
theorem walk_square (a : Nat) (ha : a < 18446744073709551616) (w : World) : Calls Try.prog 6 #[.float .f64 a] w fun r w' => r = .returned (.bool true) ∧ Below w.heap.size w w' := by
  cases f : fin a
  · exact square_n1 a ha f w
  · by_cases z : Z a < 0
    · exact square_n2 a ha f z w
    · exact square_y a ha f (by omega) w
end Go.Proofs.Ythkfaacgabkhhaa
