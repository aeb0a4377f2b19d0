/- The walk of SpanNests, the good way (gen_lk.py). -/
import Derived.Test.YtlpnfgglpoppfaaLk
set_option linter.unusedVariables false
set_option linter.unusedSimpArgs false
namespace Go.Proofs.Ytlpnfgglpoppfaa
open Go.RowKit Fl

def FlWays (A C : Sp) : Prop := (∃ n : Int, (∀ w, Calls Try.prog 32 #[.agg #[.float .f64 A.lo, .float .f64 A.hi]] w fun r w' => r = .returned (.tuple #[.int .i64 n, .int .i64 1]) ∧ Below w.heap.size w w') ∧ (∀ w, Calls Try.prog 32 #[.agg #[.float .f64 C.lo, .float .f64 C.hi]] w fun r w' => r = .returned (.tuple #[.int .i64 n, .int .i64 1]) ∧ Below w.heap.size w w')) ∨ (∃ m k : Int, (∀ w, Calls Try.prog 32 #[.agg #[.float .f64 A.lo, .float .f64 A.hi]] w fun r w' => r = .returned (.tuple #[.int .i64 0, .int .i64 2]) ∧ Below w.heap.size w w') ∧ (∀ w, Calls Try.prog 32 #[.agg #[.float .f64 C.lo, .float .f64 C.hi]] w fun r w' => r = .returned (.tuple #[.int .i64 m, .int .i64 k]) ∧ Below w.heap.size w w'))
theorem flo_ways {A C : Sp} (hC : Wi C A) : FlWays A C := by
  by_cases s : ∃ n, FlSure A n
  · obtain ⟨n, hn⟩ := s
    exact Or.inl ⟨n, fun w => flo_sure A n hn w, fun w => flo_sure C n (hn.wi hC) w⟩
  · have FA : ∀ n, ¬ FlSure A n := fun n q => s ⟨n, q⟩
    by_cases t : ∃ n, FlSure C n
    · obtain ⟨n, hn⟩ := t
      exact Or.inr ⟨n, 1, fun w => flo_not A FA w, fun w => flo_sure C n hn w⟩
    · exact Or.inr ⟨0, 2, fun w => flo_not A FA w, fun w => flo_not C (fun n q => t ⟨n, q⟩) w⟩
set_option maxRecDepth 100000 in
set_option maxHeartbeats 40000000 in
theorem nests_gen (A B : Sp) (s0 s1 s2 s3 : Nat) (hs0 : s0 < 18446744073709551616) (hs1 : s1 < 18446744073709551616) (hs2 : s2 < 18446744073709551616) (hs3 : s3 < 18446744073709551616) (w : World) : Calls Try.prog 12 #[.agg #[.float .f64 A.lo, .float .f64 A.hi], .agg #[.float .f64 B.lo, .float .f64 B.hi], .agg #[.float .f64 s0, .float .f64 s1, .float .f64 s2, .float .f64 s3]] w fun r w' => r = .returned (.bool true) ∧ Below w.heap.size w w' := by
  have H0 := Lib.hid awake2
  have U0 := Lib.hid (fun w => rvalid_any A.lo A.hi A.vd.l.lt A.vd.h.lt w)
  rw [vdB_of A.vd] at U0
  have U1 := Lib.hid (fun w => rvalid_any B.lo B.hi B.vd.l.lt B.vd.h.lt w)
  rw [vdB_of B.vd] at U1
  have J1 := Lib.hid (fun w => inner2_sp A s0 s1 hs0 hs1 w)
  have J2 := Lib.hid (fun w => inner2_sp B s2 s3 hs2 hs3 w)
  clear hs0 hs1 hs2 hs3
  go_enter Try.func12, Try.ntmps12
  go_wp2_with fail
  obtain ⟨W, hW, K0, K1, K2, hB, hz⟩ := bx3 w 24 24 57 #[Value.float FloatKind.f64 A.lo, Value.float FloatKind.f64 A.hi] #[Value.float FloatKind.f64 B.lo, Value.float FloatKind.f64 B.hi] #[Value.float FloatKind.f64 s0, Value.float FloatKind.f64 s1, Value.float FloatKind.f64 s2, Value.float FloatKind.f64 s3]
  rw [← hW]
  have K0 := Lib.hid K0
  have K1 := Lib.hid K1
  have K2 := Lib.hid K2
  have HB := Lib.hid hB
  clear hW hB hz
  have HO := Lib.hid (show ∀ w', Below W.heap.size W w' → (Below W.heap.size W w' ∧ w'.cell? ⟨w.heap.size, 0, none⟩ = some (Value.float FloatKind.f64 A.lo) ∧ w'.cell? ⟨w.heap.size, 1, none⟩ = some (Value.float FloatKind.f64 A.hi) ∧ w'.cell? ⟨w.heap.size + 1, 0, none⟩ = some (Value.float FloatKind.f64 B.lo) ∧ w'.cell? ⟨w.heap.size + 1, 1, none⟩ = some (Value.float FloatKind.f64 B.hi) ∧ w'.cell? ⟨w.heap.size + 1 + 1, 0, none⟩ = some (Value.float FloatKind.f64 s0) ∧ w'.cell? ⟨w.heap.size + 1 + 1, 1, none⟩ = some (Value.float FloatKind.f64 s1) ∧ w'.cell? ⟨w.heap.size + 1 + 1, 2, none⟩ = some (Value.float FloatKind.f64 s2) ∧ w'.cell? ⟨w.heap.size + 1 + 1, 3, none⟩ = some (Value.float FloatKind.f64 s3)) from fun w' h => ⟨h, (K0.out.below h K0.out.lt).cell 0, (K0.out.below h K0.out.lt).cell 1, (K1.out.below h K1.out.lt).cell 0, (K1.out.below h K1.out.lt).cell 1, (K2.out.below h K2.out.lt).cell 0, (K2.out.below h K2.out.lt).cell 1, (K2.out.below h K2.out.lt).cell 2, (K2.out.below h K2.out.lt).cell 3⟩)
  have D0 := Lib.hid (Below.refl W.heap.size W)
  refine (H0.out _).mono ?_
  rintro r w1 ⟨rfl, hb⟩
  have D1 := Lib.hid (below_step D0.out hb)
  clear hb
  have hq := (HO.out _ D1.out).2
  go_wp2_with fail
  refine (U0.out _).mono ?_
  clear hq
  rintro r w2 ⟨rfl, hb⟩
  have D2 := Lib.hid (below_step D1.out hb)
  clear hb
  have hq := (HO.out _ D2.out).2
  go_wp2_with fail
  refine (U1.out _).mono ?_
  clear hq
  rintro r w3 ⟨rfl, hb⟩
  have D3 := Lib.hid (below_step D2.out hb)
  clear hb
  have hq := (HO.out _ D3.out).2
  go_upto_region 5 with fail
  clear hq
  go_cut [7, 8] (fun s7 s8 wx => ∃ (g7 g8 : Nat) (C D : Sp), s7 = .pointer (some ⟨g7, 0, none⟩) ∧ s8 = .pointer (some ⟨g8, 0, none⟩) ∧ Wi C A ∧ Wi D B ∧ Blk wx g7 24 #[.float .f64 C.lo, .float .f64 C.hi] ∧ Blk wx g8 24 #[.float .f64 D.lo, .float .f64 D.hi] ∧ Below W.heap.size W wx)
  case first =>
    refine wp_region_held (S := (fun w' => Below W.heap.size W w' ∧ w'.cell? ⟨w.heap.size, 0, none⟩ = some (Value.float FloatKind.f64 A.lo) ∧ w'.cell? ⟨w.heap.size, 1, none⟩ = some (Value.float FloatKind.f64 A.hi) ∧ w'.cell? ⟨w.heap.size + 1, 0, none⟩ = some (Value.float FloatKind.f64 B.lo) ∧ w'.cell? ⟨w.heap.size + 1, 1, none⟩ = some (Value.float FloatKind.f64 B.hi) ∧ w'.cell? ⟨w.heap.size + 1 + 1, 0, none⟩ = some (Value.float FloatKind.f64 s0) ∧ w'.cell? ⟨w.heap.size + 1 + 1, 1, none⟩ = some (Value.float FloatKind.f64 s1) ∧ w'.cell? ⟨w.heap.size + 1 + 1, 2, none⟩ = some (Value.float FloatKind.f64 s2) ∧ w'.cell? ⟨w.heap.size + 1 + 1, 3, none⟩ = some (Value.float FloatKind.f64 s3))) (by kernel_rfl) ?_
    change wpAnyH _ _ _ _ _ _ _ _ (World.drew _)
    obtain ⟨wd1, hwd⟩ : ∃ x, x = World.drew w3 := ⟨_, rfl⟩
    rw [← hwd]
    have hB0 := Lib.hid (hwd ▸ Below.drew (D3.out) : Below W.heap.size W wd1)
    clear hwd
    have hS0 := HO.out _ hB0.out
    refine wpAnyH_takeN (i := 0) (v := ?vu2) (l' := bm 16 1) (a' := ?au2) rfl (by kernel_rfl) (by kernel_rfl) (by kernel_rfl) (fun _ _ _ h => h) (Or.inl ⟨by kernel_rfl, ?hu2⟩) (by kernel_rfl) ?pu2 hS0 ?ru2
    case hu2 => (intro w hS; go_simp; try with_reducible rfl)
    case pu2 => (go_simp; try with_reducible rfl)
    refine wpAnyH_takeN (i := 1) (v := ?vu3) (l' := bm 16 3) (a' := ?au3) rfl (by kernel_rfl) (by kernel_rfl) (by kernel_rfl) (fun _ _ _ h => h) (Or.inl ⟨by kernel_rfl, ?hu3⟩) (by kernel_rfl) ?pu3 hS0 ?ru3
    case hu3 => (intro w hS; go_simp; try with_reducible rfl)
    case pu3 => (go_simp; try with_reducible rfl)
    refine wpAnyH_takeN (i := 2) (v := ?vu4) (l' := bm 16 7) (a' := ?au4) rfl (by kernel_rfl) (by kernel_rfl) (by kernel_rfl) (fun _ _ _ h => h) (Or.inl ⟨by kernel_rfl, ?hu4⟩) (by kernel_rfl) ?pu4 hS0 ?ru4
    case hu4 => (intro w hS; go_simp; try with_reducible rfl)
    case pu4 => (go_simp; try with_reducible rfl)
    refine wpAnyH_takeN (i := 3) (v := ?vu5) (l' := bm 16 15) (a' := ?au5) rfl (by kernel_rfl) (by kernel_rfl) (by kernel_rfl) (fun _ _ _ h => h) (Or.inl ⟨by kernel_rfl, ?hu5⟩) (by kernel_rfl) ?pu5 hS0 ?ru5
    case hu5 => (intro w hS; go_simp; try with_reducible rfl)
    case pu5 => (go_simp; try with_reducible rfl)
    refine wpAnyH_takeN (i := 4) (v := ?vu6) (l' := bm 16 31) (a' := ?au6) rfl (by kernel_rfl) (by kernel_rfl) (by kernel_rfl) (fun _ _ _ h => h) (Or.inl ⟨by kernel_rfl, ?hu6⟩) (by kernel_rfl) ?pu6 hS0 ?ru6
    case hu6 => (intro w hS; go_simp; try with_reducible rfl)
    case pu6 => (go_simp; try with_reducible rfl)
    refine wpAnyH_takeN (i := 6) (v := ?vu7) (l' := bm 16 95) (a' := ?au7) rfl (by kernel_rfl) (by kernel_rfl) (by kernel_rfl) (fun _ _ _ h => h) (Or.inl ⟨by kernel_rfl, ?hu7⟩) (by kernel_rfl) ?pu7 hS0 ?ru7
    case hu7 => (intro w hS; go_simp; try with_reducible rfl)
    case pu7 => (go_simp; try with_reducible rfl)
    refine wpAnyH_takeN (i := 7) (v := ?vu8) (l' := bm 16 223) (a' := ?au8) rfl (by kernel_rfl) (by kernel_rfl) (by kernel_rfl) (fun _ _ _ h => h) (Or.inl ⟨by kernel_rfl, ?hu8⟩) (by kernel_rfl) ?pu8 hS0 ?ru8
    case hu8 => (intro w hS; go_simp; try with_reducible rfl)
    case pu8 => (go_simp; try with_reducible rfl)
    refine wpAnyH_takeN (i := 8) (v := ?vu9) (l' := bm 16 479) (a' := ?au9) rfl (by kernel_rfl) (by kernel_rfl) (by kernel_rfl) (fun _ _ _ h => h) (Or.inl ⟨by kernel_rfl, ?hu9⟩) (by kernel_rfl) ?pu9 hS0 ?ru9
    case hu9 => (intro w hS; go_simp; try with_reducible rfl)
    case pu9 => (go_simp; try with_reducible rfl)
    refine wpAnyH_takeN (i := 9) (v := ?vu10) (l' := bm 16 991) (a' := ?au10) rfl (by kernel_rfl) (by kernel_rfl) (by kernel_rfl) (fun _ _ _ h => h) (Or.inl ⟨by kernel_rfl, ?hu10⟩) (by kernel_rfl) ?pu10 hS0 ?ru10
    case hu10 => (intro w hS; go_simp; try with_reducible rfl)
    case pu10 => (go_simp; try with_reducible rfl)
    refine wpAnyH_takeN (i := 10) (v := ?vu11) (l' := bm 16 2015) (a' := ?au11) rfl (by kernel_rfl) (by kernel_rfl) (by kernel_rfl) (fun _ _ _ h => h) (Or.inl ⟨by kernel_rfl, ?hu11⟩) (by kernel_rfl) ?pu11 hS0 ?ru11
    case hu11 => (intro w hS; go_simp; try with_reducible rfl)
    case pu11 => (go_simp; try with_reducible rfl)
    refine wpAnyH_three (i := 5) (j := 12) (k := 13) (by kernel_rfl) ?_ ?_ ?_
    · refine wpOpH_of (i := 5) (l' := bm 16 2047) rfl (by kernel_rfl) (by kernel_rfl) (fun K hK => ?_)
      go_simp
      go_at_call 66
      refine (J1.out _).mono ?_
      rintro r wd12 ⟨C, hC, rfl, hb⟩
      dsimp only
      have hB13 := Lib.hid (below_step hB0.out hb)
      clear hb
      have hS14 := HO.out _ hB13.out
      refine hK _ _ hS14 ?_
      clear hK K hS0
      refine wpAnyH_three (i := 11) (j := 12) (k := 13) (by kernel_rfl) ?_ ?_ ?_
      · refine wpOpH_of (i := 11) (l' := bm 16 4095) rfl (by kernel_rfl) (by kernel_rfl) (fun K hK => ?_)
        go_simp
        go_at_call 66
        refine (J2.out _).mono ?_
        rintro r wd15 ⟨D, hD, rfl, hb⟩
        dsimp only
        have hB16 := Lib.hid (below_step hB13.out hb)
        clear hb
        have hS17 := HO.out _ hB16.out
        refine hK _ _ hS17 ?_
        clear hK K hS14
        refine wpAnyH_two (i := 12) (j := 13) (by kernel_rfl) ?_ ?_
        · refine wpOpH_of (i := 12) (l' := bm 16 8191) rfl (by kernel_rfl) (by kernel_rfl) (fun K hK => ?_)
          obtain ⟨ga21, hg⟩ : ∃ g, wd15.heap.size = g := ⟨_, rfl⟩
          obtain ⟨wd18, hv⟩ : ∃ V, wd15.alloc (.cells #[Value.float FloatKind.f64 0, Value.float FloatKind.f64 0] 24) = V := ⟨_, rfl⟩
          have lega21 : W.heap.size ≤ ga21 := by rw [← hg]; exact hB16.out.size
          have hB19 := Lib.hid (hv ▸ Below.alloc hB16.out hB16.out.size _ : Below W.heap.size W wd18)
          have KK22 := Lib.hid (show Blk wd18 ga21 24 #[Value.float FloatKind.f64 0, Value.float FloatKind.f64 0] by rw [← hv, ← hg]; exact Blk.new_at _ _ _ rfl)
          go_simp
          clear hg hv
          have hS20 := HO.out _ hB19.out
          refine hK _ _ hS20 ?_
          clear hK K hS17
          refine wpAnyH_oneN (i := 13) (l' := bm 16 16383) rfl (by kernel_rfl) (by kernel_rfl) (by kernel_rfl) (fun K hK => ?_)
          obtain ⟨ga26, hg⟩ : ∃ g, wd18.heap.size = g := ⟨_, rfl⟩
          obtain ⟨wd23, hv⟩ : ∃ V, wd18.alloc (.cells #[Value.float FloatKind.f64 0, Value.float FloatKind.f64 0] 24) = V := ⟨_, rfl⟩
          have lega26 : W.heap.size ≤ ga26 := by rw [← hg]; exact hB19.out.size
          have ltga26_ga21 : ga21 < ga26 := by rw [← hg]; exact KK22.out.lt
          have hB24 := Lib.hid (hv ▸ Below.alloc hB19.out hB19.out.size _ : Below W.heap.size W wd23)
          have KK27 := Lib.hid (hv ▸ Blk.alloc KK22.out _ : Blk wd23 ga21 24 #[Value.float FloatKind.f64 0, Value.float FloatKind.f64 0])
          have KK28 := Lib.hid (show Blk wd23 ga26 24 #[Value.float FloatKind.f64 0, Value.float FloatKind.f64 0] by rw [← hv, ← hg]; exact Blk.new_at _ _ _ rfl)
          go_simp
          clear hg hv
          have hS25 := HO.out _ hB24.out
          refine hK _ _ hS25 ?_
          clear hK K hS20
          refine wpAnyH_oneN (i := 14) (l' := bm 16 32767) rfl (by kernel_rfl) (by kernel_rfl) (by kernel_rfl) (fun K hK => ?_)
          obtain ⟨o0, o1, o2, o3⟩ := Blk.both KK27.out
          obtain ⟨wd29, hv⟩ : ∃ V, (wd23.setCell ⟨ga21, 0, none⟩ (Value.float FloatKind.f64 C.lo)).setCell ⟨ga21, 1, none⟩ (Value.float FloatKind.f64 C.hi) = V := ⟨_, rfl⟩
          have hB30 := Lib.hid (hv ▸ Below.setCell (Below.setCell hB24.out lega21 _) lega21 _ : Below W.heap.size W wd29)
          have KK32 := Lib.hid (hv ▸ Blk.set_ (Blk.set_ KK27.out 0 _) 1 _ : Blk wd29 ga21 24 #[Value.float FloatKind.f64 C.lo, Value.float FloatKind.f64 C.hi])
          have KK33 := Lib.hid (hv ▸ Blk.far (Blk.far KK28.out (by show ga26 ≠ ga21; omega) _) (by show ga26 ≠ ga21; omega) _ : Blk wd29 ga26 24 #[Value.float FloatKind.f64 0, Value.float FloatKind.f64 0])
          go_simp
          clear hv o0 o1 o2 o3
          have hS31 := HO.out _ hB30.out
          refine hK _ _ hS31 ?_
          clear hK K hS25
          refine wpAnyH_oneN (i := 15) (l' := bm 16 65535) rfl (by kernel_rfl) (by kernel_rfl) (by kernel_rfl) (fun K hK => ?_)
          obtain ⟨o0, o1, o2, o3⟩ := Blk.both KK33.out
          obtain ⟨wd34, hv⟩ : ∃ V, (wd29.setCell ⟨ga26, 0, none⟩ (Value.float FloatKind.f64 D.lo)).setCell ⟨ga26, 1, none⟩ (Value.float FloatKind.f64 D.hi) = V := ⟨_, rfl⟩
          have hB35 := Lib.hid (hv ▸ Below.setCell (Below.setCell hB30.out lega26 _) lega26 _ : Below W.heap.size W wd34)
          have KK37 := Lib.hid (hv ▸ Blk.far (Blk.far KK32.out (by show ga21 ≠ ga26; omega) _) (by show ga21 ≠ ga26; omega) _ : Blk wd34 ga21 24 #[Value.float FloatKind.f64 C.lo, Value.float FloatKind.f64 C.hi])
          have KK38 := Lib.hid (hv ▸ Blk.set_ (Blk.set_ KK33.out 0 _) 1 _ : Blk wd34 ga26 24 #[Value.float FloatKind.f64 D.lo, Value.float FloatKind.f64 D.hi])
          go_simp
          clear hv o0 o1 o2 o3
          have hS36 := HO.out _ hB35.out
          refine hK _ _ hS36 ?_
          clear hK K hS31
          refine wpAnyH_done (by kernel_rfl) ?_ _
          go_wp2_with fail
          go_meet
          exact ⟨_, _, C, D, rfl, rfl, hC, hD, KK37.out, KK38.out, hB35.out⟩
        · refine wpOpH_of (i := 13) (l' := bm 16 12287) rfl (by kernel_rfl) (by kernel_rfl) (fun K hK => ?_)
          obtain ⟨ga42, hg⟩ : ∃ g, wd15.heap.size = g := ⟨_, rfl⟩
          obtain ⟨wd39, hv⟩ : ∃ V, wd15.alloc (.cells #[Value.float FloatKind.f64 0, Value.float FloatKind.f64 0] 24) = V := ⟨_, rfl⟩
          have lega42 : W.heap.size ≤ ga42 := by rw [← hg]; exact hB16.out.size
          have hB40 := Lib.hid (hv ▸ Below.alloc hB16.out hB16.out.size _ : Below W.heap.size W wd39)
          have KK43 := Lib.hid (show Blk wd39 ga42 24 #[Value.float FloatKind.f64 0, Value.float FloatKind.f64 0] by rw [← hv, ← hg]; exact Blk.new_at _ _ _ rfl)
          go_simp
          clear hg hv
          have hS41 := HO.out _ hB40.out
          refine hK _ _ hS41 ?_
          clear hK K hS17
          refine wpAnyH_oneN (i := 12) (l' := bm 16 16383) rfl (by kernel_rfl) (by kernel_rfl) (by kernel_rfl) (fun K hK => ?_)
          obtain ⟨ga47, hg⟩ : ∃ g, wd39.heap.size = g := ⟨_, rfl⟩
          obtain ⟨wd44, hv⟩ : ∃ V, wd39.alloc (.cells #[Value.float FloatKind.f64 0, Value.float FloatKind.f64 0] 24) = V := ⟨_, rfl⟩
          have lega47 : W.heap.size ≤ ga47 := by rw [← hg]; exact hB40.out.size
          have ltga47_ga42 : ga42 < ga47 := by rw [← hg]; exact KK43.out.lt
          have hB45 := Lib.hid (hv ▸ Below.alloc hB40.out hB40.out.size _ : Below W.heap.size W wd44)
          have KK48 := Lib.hid (hv ▸ Blk.alloc KK43.out _ : Blk wd44 ga42 24 #[Value.float FloatKind.f64 0, Value.float FloatKind.f64 0])
          have KK49 := Lib.hid (show Blk wd44 ga47 24 #[Value.float FloatKind.f64 0, Value.float FloatKind.f64 0] by rw [← hv, ← hg]; exact Blk.new_at _ _ _ rfl)
          go_simp
          clear hg hv
          have hS46 := HO.out _ hB45.out
          refine hK _ _ hS46 ?_
          clear hK K hS41
          refine wpAnyH_oneN (i := 14) (l' := bm 16 32767) rfl (by kernel_rfl) (by kernel_rfl) (by kernel_rfl) (fun K hK => ?_)
          obtain ⟨o0, o1, o2, o3⟩ := Blk.both KK49.out
          obtain ⟨wd50, hv⟩ : ∃ V, (wd44.setCell ⟨ga47, 0, none⟩ (Value.float FloatKind.f64 C.lo)).setCell ⟨ga47, 1, none⟩ (Value.float FloatKind.f64 C.hi) = V := ⟨_, rfl⟩
          have hB51 := Lib.hid (hv ▸ Below.setCell (Below.setCell hB45.out lega47 _) lega47 _ : Below W.heap.size W wd50)
          have KK53 := Lib.hid (hv ▸ Blk.far (Blk.far KK48.out (by show ga42 ≠ ga47; omega) _) (by show ga42 ≠ ga47; omega) _ : Blk wd50 ga42 24 #[Value.float FloatKind.f64 0, Value.float FloatKind.f64 0])
          have KK54 := Lib.hid (hv ▸ Blk.set_ (Blk.set_ KK49.out 0 _) 1 _ : Blk wd50 ga47 24 #[Value.float FloatKind.f64 C.lo, Value.float FloatKind.f64 C.hi])
          go_simp
          clear hv o0 o1 o2 o3
          have hS52 := HO.out _ hB51.out
          refine hK _ _ hS52 ?_
          clear hK K hS46
          refine wpAnyH_oneN (i := 15) (l' := bm 16 65535) rfl (by kernel_rfl) (by kernel_rfl) (by kernel_rfl) (fun K hK => ?_)
          obtain ⟨o0, o1, o2, o3⟩ := Blk.both KK53.out
          obtain ⟨wd55, hv⟩ : ∃ V, (wd50.setCell ⟨ga42, 0, none⟩ (Value.float FloatKind.f64 D.lo)).setCell ⟨ga42, 1, none⟩ (Value.float FloatKind.f64 D.hi) = V := ⟨_, rfl⟩
          have hB56 := Lib.hid (hv ▸ Below.setCell (Below.setCell hB51.out lega42 _) lega42 _ : Below W.heap.size W wd55)
          have KK58 := Lib.hid (hv ▸ Blk.set_ (Blk.set_ KK53.out 0 _) 1 _ : Blk wd55 ga42 24 #[Value.float FloatKind.f64 D.lo, Value.float FloatKind.f64 D.hi])
          have KK59 := Lib.hid (hv ▸ Blk.far (Blk.far KK54.out (by show ga47 ≠ ga42; omega) _) (by show ga47 ≠ ga42; omega) _ : Blk wd55 ga47 24 #[Value.float FloatKind.f64 C.lo, Value.float FloatKind.f64 C.hi])
          go_simp
          clear hv o0 o1 o2 o3
          have hS57 := HO.out _ hB56.out
          refine hK _ _ hS57 ?_
          clear hK K hS52
          refine wpAnyH_done (by kernel_rfl) ?_ _
          go_wp2_with fail
          go_meet
          exact ⟨_, _, C, D, rfl, rfl, hC, hD, KK59.out, KK58.out, hB56.out⟩
      · refine wpOpH_of (i := 12) (l' := bm 16 6143) rfl (by kernel_rfl) (by kernel_rfl) (fun K hK => ?_)
        obtain ⟨ga63, hg⟩ : ∃ g, wd12.heap.size = g := ⟨_, rfl⟩
        obtain ⟨wd60, hv⟩ : ∃ V, wd12.alloc (.cells #[Value.float FloatKind.f64 0, Value.float FloatKind.f64 0] 24) = V := ⟨_, rfl⟩
        have lega63 : W.heap.size ≤ ga63 := by rw [← hg]; exact hB13.out.size
        have hB61 := Lib.hid (hv ▸ Below.alloc hB13.out hB13.out.size _ : Below W.heap.size W wd60)
        have KK64 := Lib.hid (show Blk wd60 ga63 24 #[Value.float FloatKind.f64 0, Value.float FloatKind.f64 0] by rw [← hv, ← hg]; exact Blk.new_at _ _ _ rfl)
        go_simp
        clear hg hv
        have hS62 := HO.out _ hB61.out
        refine hK _ _ hS62 ?_
        clear hK K hS14
        refine wpAnyH_two (i := 11) (j := 13) (by kernel_rfl) ?_ ?_
        · refine wpOpH_of (i := 11) (l' := bm 16 8191) rfl (by kernel_rfl) (by kernel_rfl) (fun K hK => ?_)
          go_simp
          go_at_call 66
          refine (J2.out _).mono ?_
          rintro r wd65 ⟨D, hD, rfl, hb⟩
          dsimp only
          have hB66 := Lib.hid (below_step hB61.out hb)
          have KK68 := Lib.hid (Blk.below KK64.out hb (Blk.lt KK64.out))
          clear hb
          have hS67 := HO.out _ hB66.out
          refine hK _ _ hS67 ?_
          clear hK K hS62
          refine wpAnyH_oneN (i := 13) (l' := bm 16 16383) rfl (by kernel_rfl) (by kernel_rfl) (by kernel_rfl) (fun K hK => ?_)
          obtain ⟨ga72, hg⟩ : ∃ g, wd65.heap.size = g := ⟨_, rfl⟩
          obtain ⟨wd69, hv⟩ : ∃ V, wd65.alloc (.cells #[Value.float FloatKind.f64 0, Value.float FloatKind.f64 0] 24) = V := ⟨_, rfl⟩
          have lega72 : W.heap.size ≤ ga72 := by rw [← hg]; exact hB66.out.size
          have ltga72_ga63 : ga63 < ga72 := by rw [← hg]; exact KK68.out.lt
          have hB70 := Lib.hid (hv ▸ Below.alloc hB66.out hB66.out.size _ : Below W.heap.size W wd69)
          have KK73 := Lib.hid (hv ▸ Blk.alloc KK68.out _ : Blk wd69 ga63 24 #[Value.float FloatKind.f64 0, Value.float FloatKind.f64 0])
          have KK74 := Lib.hid (show Blk wd69 ga72 24 #[Value.float FloatKind.f64 0, Value.float FloatKind.f64 0] by rw [← hv, ← hg]; exact Blk.new_at _ _ _ rfl)
          go_simp
          clear hg hv
          have hS71 := HO.out _ hB70.out
          refine hK _ _ hS71 ?_
          clear hK K hS67
          refine wpAnyH_oneN (i := 14) (l' := bm 16 32767) rfl (by kernel_rfl) (by kernel_rfl) (by kernel_rfl) (fun K hK => ?_)
          obtain ⟨o0, o1, o2, o3⟩ := Blk.both KK73.out
          obtain ⟨wd75, hv⟩ : ∃ V, (wd69.setCell ⟨ga63, 0, none⟩ (Value.float FloatKind.f64 C.lo)).setCell ⟨ga63, 1, none⟩ (Value.float FloatKind.f64 C.hi) = V := ⟨_, rfl⟩
          have hB76 := Lib.hid (hv ▸ Below.setCell (Below.setCell hB70.out lega63 _) lega63 _ : Below W.heap.size W wd75)
          have KK78 := Lib.hid (hv ▸ Blk.set_ (Blk.set_ KK73.out 0 _) 1 _ : Blk wd75 ga63 24 #[Value.float FloatKind.f64 C.lo, Value.float FloatKind.f64 C.hi])
          have KK79 := Lib.hid (hv ▸ Blk.far (Blk.far KK74.out (by show ga72 ≠ ga63; omega) _) (by show ga72 ≠ ga63; omega) _ : Blk wd75 ga72 24 #[Value.float FloatKind.f64 0, Value.float FloatKind.f64 0])
          go_simp
          clear hv o0 o1 o2 o3
          have hS77 := HO.out _ hB76.out
          refine hK _ _ hS77 ?_
          clear hK K hS71
          refine wpAnyH_oneN (i := 15) (l' := bm 16 65535) rfl (by kernel_rfl) (by kernel_rfl) (by kernel_rfl) (fun K hK => ?_)
          obtain ⟨o0, o1, o2, o3⟩ := Blk.both KK79.out
          obtain ⟨wd80, hv⟩ : ∃ V, (wd75.setCell ⟨ga72, 0, none⟩ (Value.float FloatKind.f64 D.lo)).setCell ⟨ga72, 1, none⟩ (Value.float FloatKind.f64 D.hi) = V := ⟨_, rfl⟩
          have hB81 := Lib.hid (hv ▸ Below.setCell (Below.setCell hB76.out lega72 _) lega72 _ : Below W.heap.size W wd80)
          have KK83 := Lib.hid (hv ▸ Blk.far (Blk.far KK78.out (by show ga63 ≠ ga72; omega) _) (by show ga63 ≠ ga72; omega) _ : Blk wd80 ga63 24 #[Value.float FloatKind.f64 C.lo, Value.float FloatKind.f64 C.hi])
          have KK84 := Lib.hid (hv ▸ Blk.set_ (Blk.set_ KK79.out 0 _) 1 _ : Blk wd80 ga72 24 #[Value.float FloatKind.f64 D.lo, Value.float FloatKind.f64 D.hi])
          go_simp
          clear hv o0 o1 o2 o3
          have hS82 := HO.out _ hB81.out
          refine hK _ _ hS82 ?_
          clear hK K hS77
          refine wpAnyH_done (by kernel_rfl) ?_ _
          go_wp2_with fail
          go_meet
          exact ⟨_, _, C, D, rfl, rfl, hC, hD, KK83.out, KK84.out, hB81.out⟩
        · refine wpOpH_of (i := 13) (l' := bm 16 14335) rfl (by kernel_rfl) (by kernel_rfl) (fun K hK => ?_)
          obtain ⟨ga88, hg⟩ : ∃ g, wd60.heap.size = g := ⟨_, rfl⟩
          obtain ⟨wd85, hv⟩ : ∃ V, wd60.alloc (.cells #[Value.float FloatKind.f64 0, Value.float FloatKind.f64 0] 24) = V := ⟨_, rfl⟩
          have lega88 : W.heap.size ≤ ga88 := by rw [← hg]; exact hB61.out.size
          have ltga88_ga63 : ga63 < ga88 := by rw [← hg]; exact KK64.out.lt
          have hB86 := Lib.hid (hv ▸ Below.alloc hB61.out hB61.out.size _ : Below W.heap.size W wd85)
          have KK89 := Lib.hid (hv ▸ Blk.alloc KK64.out _ : Blk wd85 ga63 24 #[Value.float FloatKind.f64 0, Value.float FloatKind.f64 0])
          have KK90 := Lib.hid (show Blk wd85 ga88 24 #[Value.float FloatKind.f64 0, Value.float FloatKind.f64 0] by rw [← hv, ← hg]; exact Blk.new_at _ _ _ rfl)
          go_simp
          clear hg hv
          have hS87 := HO.out _ hB86.out
          refine hK _ _ hS87 ?_
          clear hK K hS62
          refine wpAnyH_oneN (i := 11) (l' := bm 16 16383) rfl (by kernel_rfl) (by kernel_rfl) (by kernel_rfl) (fun K hK => ?_)
          go_simp
          go_at_call 66
          refine (J2.out _).mono ?_
          rintro r wd91 ⟨D, hD, rfl, hb⟩
          dsimp only
          have hB92 := Lib.hid (below_step hB86.out hb)
          have KK94 := Lib.hid (Blk.below KK89.out hb (Blk.lt KK89.out))
          have KK95 := Lib.hid (Blk.below KK90.out hb (Blk.lt KK90.out))
          clear hb
          have hS93 := HO.out _ hB92.out
          refine hK _ _ hS93 ?_
          clear hK K hS87
          refine wpAnyH_oneN (i := 14) (l' := bm 16 32767) rfl (by kernel_rfl) (by kernel_rfl) (by kernel_rfl) (fun K hK => ?_)
          obtain ⟨o0, o1, o2, o3⟩ := Blk.both KK94.out
          obtain ⟨wd96, hv⟩ : ∃ V, (wd91.setCell ⟨ga63, 0, none⟩ (Value.float FloatKind.f64 C.lo)).setCell ⟨ga63, 1, none⟩ (Value.float FloatKind.f64 C.hi) = V := ⟨_, rfl⟩
          have hB97 := Lib.hid (hv ▸ Below.setCell (Below.setCell hB92.out lega63 _) lega63 _ : Below W.heap.size W wd96)
          have KK99 := Lib.hid (hv ▸ Blk.set_ (Blk.set_ KK94.out 0 _) 1 _ : Blk wd96 ga63 24 #[Value.float FloatKind.f64 C.lo, Value.float FloatKind.f64 C.hi])
          have KK100 := Lib.hid (hv ▸ Blk.far (Blk.far KK95.out (by show ga88 ≠ ga63; omega) _) (by show ga88 ≠ ga63; omega) _ : Blk wd96 ga88 24 #[Value.float FloatKind.f64 0, Value.float FloatKind.f64 0])
          go_simp
          clear hv o0 o1 o2 o3
          have hS98 := HO.out _ hB97.out
          refine hK _ _ hS98 ?_
          clear hK K hS93
          refine wpAnyH_oneN (i := 15) (l' := bm 16 65535) rfl (by kernel_rfl) (by kernel_rfl) (by kernel_rfl) (fun K hK => ?_)
          obtain ⟨o0, o1, o2, o3⟩ := Blk.both KK100.out
          obtain ⟨wd101, hv⟩ : ∃ V, (wd96.setCell ⟨ga88, 0, none⟩ (Value.float FloatKind.f64 D.lo)).setCell ⟨ga88, 1, none⟩ (Value.float FloatKind.f64 D.hi) = V := ⟨_, rfl⟩
          have hB102 := Lib.hid (hv ▸ Below.setCell (Below.setCell hB97.out lega88 _) lega88 _ : Below W.heap.size W wd101)
          have KK104 := Lib.hid (hv ▸ Blk.far (Blk.far KK99.out (by show ga63 ≠ ga88; omega) _) (by show ga63 ≠ ga88; omega) _ : Blk wd101 ga63 24 #[Value.float FloatKind.f64 C.lo, Value.float FloatKind.f64 C.hi])
          have KK105 := Lib.hid (hv ▸ Blk.set_ (Blk.set_ KK100.out 0 _) 1 _ : Blk wd101 ga88 24 #[Value.float FloatKind.f64 D.lo, Value.float FloatKind.f64 D.hi])
          go_simp
          clear hv o0 o1 o2 o3
          have hS103 := HO.out _ hB102.out
          refine hK _ _ hS103 ?_
          clear hK K hS98
          refine wpAnyH_done (by kernel_rfl) ?_ _
          go_wp2_with fail
          go_meet
          exact ⟨_, _, C, D, rfl, rfl, hC, hD, KK104.out, KK105.out, hB102.out⟩
      · refine wpOpH_of (i := 13) (l' := bm 16 10239) rfl (by kernel_rfl) (by kernel_rfl) (fun K hK => ?_)
        obtain ⟨ga109, hg⟩ : ∃ g, wd12.heap.size = g := ⟨_, rfl⟩
        obtain ⟨wd106, hv⟩ : ∃ V, wd12.alloc (.cells #[Value.float FloatKind.f64 0, Value.float FloatKind.f64 0] 24) = V := ⟨_, rfl⟩
        have lega109 : W.heap.size ≤ ga109 := by rw [← hg]; exact hB13.out.size
        have hB107 := Lib.hid (hv ▸ Below.alloc hB13.out hB13.out.size _ : Below W.heap.size W wd106)
        have KK110 := Lib.hid (show Blk wd106 ga109 24 #[Value.float FloatKind.f64 0, Value.float FloatKind.f64 0] by rw [← hv, ← hg]; exact Blk.new_at _ _ _ rfl)
        go_simp
        clear hg hv
        have hS108 := HO.out _ hB107.out
        refine hK _ _ hS108 ?_
        clear hK K hS14
        refine wpAnyH_two (i := 11) (j := 12) (by kernel_rfl) ?_ ?_
        · refine wpOpH_of (i := 11) (l' := bm 16 12287) rfl (by kernel_rfl) (by kernel_rfl) (fun K hK => ?_)
          go_simp
          go_at_call 66
          refine (J2.out _).mono ?_
          rintro r wd111 ⟨D, hD, rfl, hb⟩
          dsimp only
          have hB112 := Lib.hid (below_step hB107.out hb)
          have KK114 := Lib.hid (Blk.below KK110.out hb (Blk.lt KK110.out))
          clear hb
          have hS113 := HO.out _ hB112.out
          refine hK _ _ hS113 ?_
          clear hK K hS108
          refine wpAnyH_oneN (i := 12) (l' := bm 16 16383) rfl (by kernel_rfl) (by kernel_rfl) (by kernel_rfl) (fun K hK => ?_)
          obtain ⟨ga118, hg⟩ : ∃ g, wd111.heap.size = g := ⟨_, rfl⟩
          obtain ⟨wd115, hv⟩ : ∃ V, wd111.alloc (.cells #[Value.float FloatKind.f64 0, Value.float FloatKind.f64 0] 24) = V := ⟨_, rfl⟩
          have lega118 : W.heap.size ≤ ga118 := by rw [← hg]; exact hB112.out.size
          have ltga118_ga109 : ga109 < ga118 := by rw [← hg]; exact KK114.out.lt
          have hB116 := Lib.hid (hv ▸ Below.alloc hB112.out hB112.out.size _ : Below W.heap.size W wd115)
          have KK119 := Lib.hid (hv ▸ Blk.alloc KK114.out _ : Blk wd115 ga109 24 #[Value.float FloatKind.f64 0, Value.float FloatKind.f64 0])
          have KK120 := Lib.hid (show Blk wd115 ga118 24 #[Value.float FloatKind.f64 0, Value.float FloatKind.f64 0] by rw [← hv, ← hg]; exact Blk.new_at _ _ _ rfl)
          go_simp
          clear hg hv
          have hS117 := HO.out _ hB116.out
          refine hK _ _ hS117 ?_
          clear hK K hS113
          refine wpAnyH_oneN (i := 14) (l' := bm 16 32767) rfl (by kernel_rfl) (by kernel_rfl) (by kernel_rfl) (fun K hK => ?_)
          obtain ⟨o0, o1, o2, o3⟩ := Blk.both KK120.out
          obtain ⟨wd121, hv⟩ : ∃ V, (wd115.setCell ⟨ga118, 0, none⟩ (Value.float FloatKind.f64 C.lo)).setCell ⟨ga118, 1, none⟩ (Value.float FloatKind.f64 C.hi) = V := ⟨_, rfl⟩
          have hB122 := Lib.hid (hv ▸ Below.setCell (Below.setCell hB116.out lega118 _) lega118 _ : Below W.heap.size W wd121)
          have KK124 := Lib.hid (hv ▸ Blk.far (Blk.far KK119.out (by show ga109 ≠ ga118; omega) _) (by show ga109 ≠ ga118; omega) _ : Blk wd121 ga109 24 #[Value.float FloatKind.f64 0, Value.float FloatKind.f64 0])
          have KK125 := Lib.hid (hv ▸ Blk.set_ (Blk.set_ KK120.out 0 _) 1 _ : Blk wd121 ga118 24 #[Value.float FloatKind.f64 C.lo, Value.float FloatKind.f64 C.hi])
          go_simp
          clear hv o0 o1 o2 o3
          have hS123 := HO.out _ hB122.out
          refine hK _ _ hS123 ?_
          clear hK K hS117
          refine wpAnyH_oneN (i := 15) (l' := bm 16 65535) rfl (by kernel_rfl) (by kernel_rfl) (by kernel_rfl) (fun K hK => ?_)
          obtain ⟨o0, o1, o2, o3⟩ := Blk.both KK124.out
          obtain ⟨wd126, hv⟩ : ∃ V, (wd121.setCell ⟨ga109, 0, none⟩ (Value.float FloatKind.f64 D.lo)).setCell ⟨ga109, 1, none⟩ (Value.float FloatKind.f64 D.hi) = V := ⟨_, rfl⟩
          have hB127 := Lib.hid (hv ▸ Below.setCell (Below.setCell hB122.out lega109 _) lega109 _ : Below W.heap.size W wd126)
          have KK129 := Lib.hid (hv ▸ Blk.set_ (Blk.set_ KK124.out 0 _) 1 _ : Blk wd126 ga109 24 #[Value.float FloatKind.f64 D.lo, Value.float FloatKind.f64 D.hi])
          have KK130 := Lib.hid (hv ▸ Blk.far (Blk.far KK125.out (by show ga118 ≠ ga109; omega) _) (by show ga118 ≠ ga109; omega) _ : Blk wd126 ga118 24 #[Value.float FloatKind.f64 C.lo, Value.float FloatKind.f64 C.hi])
          go_simp
          clear hv o0 o1 o2 o3
          have hS128 := HO.out _ hB127.out
          refine hK _ _ hS128 ?_
          clear hK K hS123
          refine wpAnyH_done (by kernel_rfl) ?_ _
          go_wp2_with fail
          go_meet
          exact ⟨_, _, C, D, rfl, rfl, hC, hD, KK130.out, KK129.out, hB127.out⟩
        · refine wpOpH_of (i := 12) (l' := bm 16 14335) rfl (by kernel_rfl) (by kernel_rfl) (fun K hK => ?_)
          obtain ⟨ga134, hg⟩ : ∃ g, wd106.heap.size = g := ⟨_, rfl⟩
          obtain ⟨wd131, hv⟩ : ∃ V, wd106.alloc (.cells #[Value.float FloatKind.f64 0, Value.float FloatKind.f64 0] 24) = V := ⟨_, rfl⟩
          have lega134 : W.heap.size ≤ ga134 := by rw [← hg]; exact hB107.out.size
          have ltga134_ga109 : ga109 < ga134 := by rw [← hg]; exact KK110.out.lt
          have hB132 := Lib.hid (hv ▸ Below.alloc hB107.out hB107.out.size _ : Below W.heap.size W wd131)
          have KK135 := Lib.hid (hv ▸ Blk.alloc KK110.out _ : Blk wd131 ga109 24 #[Value.float FloatKind.f64 0, Value.float FloatKind.f64 0])
          have KK136 := Lib.hid (show Blk wd131 ga134 24 #[Value.float FloatKind.f64 0, Value.float FloatKind.f64 0] by rw [← hv, ← hg]; exact Blk.new_at _ _ _ rfl)
          go_simp
          clear hg hv
          have hS133 := HO.out _ hB132.out
          refine hK _ _ hS133 ?_
          clear hK K hS108
          refine wpAnyH_oneN (i := 11) (l' := bm 16 16383) rfl (by kernel_rfl) (by kernel_rfl) (by kernel_rfl) (fun K hK => ?_)
          go_simp
          go_at_call 66
          refine (J2.out _).mono ?_
          rintro r wd137 ⟨D, hD, rfl, hb⟩
          dsimp only
          have hB138 := Lib.hid (below_step hB132.out hb)
          have KK140 := Lib.hid (Blk.below KK135.out hb (Blk.lt KK135.out))
          have KK141 := Lib.hid (Blk.below KK136.out hb (Blk.lt KK136.out))
          clear hb
          have hS139 := HO.out _ hB138.out
          refine hK _ _ hS139 ?_
          clear hK K hS133
          refine wpAnyH_oneN (i := 14) (l' := bm 16 32767) rfl (by kernel_rfl) (by kernel_rfl) (by kernel_rfl) (fun K hK => ?_)
          obtain ⟨o0, o1, o2, o3⟩ := Blk.both KK141.out
          obtain ⟨wd142, hv⟩ : ∃ V, (wd137.setCell ⟨ga134, 0, none⟩ (Value.float FloatKind.f64 C.lo)).setCell ⟨ga134, 1, none⟩ (Value.float FloatKind.f64 C.hi) = V := ⟨_, rfl⟩
          have hB143 := Lib.hid (hv ▸ Below.setCell (Below.setCell hB138.out lega134 _) lega134 _ : Below W.heap.size W wd142)
          have KK145 := Lib.hid (hv ▸ Blk.far (Blk.far KK140.out (by show ga109 ≠ ga134; omega) _) (by show ga109 ≠ ga134; omega) _ : Blk wd142 ga109 24 #[Value.float FloatKind.f64 0, Value.float FloatKind.f64 0])
          have KK146 := Lib.hid (hv ▸ Blk.set_ (Blk.set_ KK141.out 0 _) 1 _ : Blk wd142 ga134 24 #[Value.float FloatKind.f64 C.lo, Value.float FloatKind.f64 C.hi])
          go_simp
          clear hv o0 o1 o2 o3
          have hS144 := HO.out _ hB143.out
          refine hK _ _ hS144 ?_
          clear hK K hS139
          refine wpAnyH_oneN (i := 15) (l' := bm 16 65535) rfl (by kernel_rfl) (by kernel_rfl) (by kernel_rfl) (fun K hK => ?_)
          obtain ⟨o0, o1, o2, o3⟩ := Blk.both KK145.out
          obtain ⟨wd147, hv⟩ : ∃ V, (wd142.setCell ⟨ga109, 0, none⟩ (Value.float FloatKind.f64 D.lo)).setCell ⟨ga109, 1, none⟩ (Value.float FloatKind.f64 D.hi) = V := ⟨_, rfl⟩
          have hB148 := Lib.hid (hv ▸ Below.setCell (Below.setCell hB143.out lega109 _) lega109 _ : Below W.heap.size W wd147)
          have KK150 := Lib.hid (hv ▸ Blk.set_ (Blk.set_ KK145.out 0 _) 1 _ : Blk wd147 ga109 24 #[Value.float FloatKind.f64 D.lo, Value.float FloatKind.f64 D.hi])
          have KK151 := Lib.hid (hv ▸ Blk.far (Blk.far KK146.out (by show ga134 ≠ ga109; omega) _) (by show ga134 ≠ ga109; omega) _ : Blk wd147 ga134 24 #[Value.float FloatKind.f64 C.lo, Value.float FloatKind.f64 C.hi])
          go_simp
          clear hv o0 o1 o2 o3
          have hS149 := HO.out _ hB148.out
          refine hK _ _ hS149 ?_
          clear hK K hS144
          refine wpAnyH_done (by kernel_rfl) ?_ _
          go_wp2_with fail
          go_meet
          exact ⟨_, _, C, D, rfl, rfl, hC, hD, KK151.out, KK150.out, hB148.out⟩
    · refine wpOpH_of (i := 12) (l' := bm 16 6111) rfl (by kernel_rfl) (by kernel_rfl) (fun K hK => ?_)
      obtain ⟨ga155, hg⟩ : ∃ g, wd1.heap.size = g := ⟨_, rfl⟩
      obtain ⟨wd152, hv⟩ : ∃ V, wd1.alloc (.cells #[Value.float FloatKind.f64 0, Value.float FloatKind.f64 0] 24) = V := ⟨_, rfl⟩
      have lega155 : W.heap.size ≤ ga155 := by rw [← hg]; exact hB0.out.size
      have hB153 := Lib.hid (hv ▸ Below.alloc hB0.out hB0.out.size _ : Below W.heap.size W wd152)
      have KK156 := Lib.hid (show Blk wd152 ga155 24 #[Value.float FloatKind.f64 0, Value.float FloatKind.f64 0] by rw [← hv, ← hg]; exact Blk.new_at _ _ _ rfl)
      go_simp
      clear hg hv
      have hS154 := HO.out _ hB153.out
      refine hK _ _ hS154 ?_
      clear hK K hS0
      refine wpAnyH_two (i := 5) (j := 13) (by kernel_rfl) ?_ ?_
      · refine wpOpH_of (i := 5) (l' := bm 16 6143) rfl (by kernel_rfl) (by kernel_rfl) (fun K hK => ?_)
        go_simp
        go_at_call 66
        refine (J1.out _).mono ?_
        rintro r wd157 ⟨C, hC, rfl, hb⟩
        dsimp only
        have hB158 := Lib.hid (below_step hB153.out hb)
        have KK160 := Lib.hid (Blk.below KK156.out hb (Blk.lt KK156.out))
        clear hb
        have hS159 := HO.out _ hB158.out
        refine hK _ _ hS159 ?_
        clear hK K hS154
        refine wpAnyH_two (i := 11) (j := 13) (by kernel_rfl) ?_ ?_
        · refine wpOpH_of (i := 11) (l' := bm 16 8191) rfl (by kernel_rfl) (by kernel_rfl) (fun K hK => ?_)
          go_simp
          go_at_call 66
          refine (J2.out _).mono ?_
          rintro r wd161 ⟨D, hD, rfl, hb⟩
          dsimp only
          have hB162 := Lib.hid (below_step hB158.out hb)
          have KK164 := Lib.hid (Blk.below KK160.out hb (Blk.lt KK160.out))
          clear hb
          have hS163 := HO.out _ hB162.out
          refine hK _ _ hS163 ?_
          clear hK K hS159
          refine wpAnyH_oneN (i := 13) (l' := bm 16 16383) rfl (by kernel_rfl) (by kernel_rfl) (by kernel_rfl) (fun K hK => ?_)
          obtain ⟨ga168, hg⟩ : ∃ g, wd161.heap.size = g := ⟨_, rfl⟩
          obtain ⟨wd165, hv⟩ : ∃ V, wd161.alloc (.cells #[Value.float FloatKind.f64 0, Value.float FloatKind.f64 0] 24) = V := ⟨_, rfl⟩
          have lega168 : W.heap.size ≤ ga168 := by rw [← hg]; exact hB162.out.size
          have ltga168_ga155 : ga155 < ga168 := by rw [← hg]; exact KK164.out.lt
          have hB166 := Lib.hid (hv ▸ Below.alloc hB162.out hB162.out.size _ : Below W.heap.size W wd165)
          have KK169 := Lib.hid (hv ▸ Blk.alloc KK164.out _ : Blk wd165 ga155 24 #[Value.float FloatKind.f64 0, Value.float FloatKind.f64 0])
          have KK170 := Lib.hid (show Blk wd165 ga168 24 #[Value.float FloatKind.f64 0, Value.float FloatKind.f64 0] by rw [← hv, ← hg]; exact Blk.new_at _ _ _ rfl)
          go_simp
          clear hg hv
          have hS167 := HO.out _ hB166.out
          refine hK _ _ hS167 ?_
          clear hK K hS163
          refine wpAnyH_oneN (i := 14) (l' := bm 16 32767) rfl (by kernel_rfl) (by kernel_rfl) (by kernel_rfl) (fun K hK => ?_)
          obtain ⟨o0, o1, o2, o3⟩ := Blk.both KK169.out
          obtain ⟨wd171, hv⟩ : ∃ V, (wd165.setCell ⟨ga155, 0, none⟩ (Value.float FloatKind.f64 C.lo)).setCell ⟨ga155, 1, none⟩ (Value.float FloatKind.f64 C.hi) = V := ⟨_, rfl⟩
          have hB172 := Lib.hid (hv ▸ Below.setCell (Below.setCell hB166.out lega155 _) lega155 _ : Below W.heap.size W wd171)
          have KK174 := Lib.hid (hv ▸ Blk.set_ (Blk.set_ KK169.out 0 _) 1 _ : Blk wd171 ga155 24 #[Value.float FloatKind.f64 C.lo, Value.float FloatKind.f64 C.hi])
          have KK175 := Lib.hid (hv ▸ Blk.far (Blk.far KK170.out (by show ga168 ≠ ga155; omega) _) (by show ga168 ≠ ga155; omega) _ : Blk wd171 ga168 24 #[Value.float FloatKind.f64 0, Value.float FloatKind.f64 0])
          go_simp
          clear hv o0 o1 o2 o3
          have hS173 := HO.out _ hB172.out
          refine hK _ _ hS173 ?_
          clear hK K hS167
          refine wpAnyH_oneN (i := 15) (l' := bm 16 65535) rfl (by kernel_rfl) (by kernel_rfl) (by kernel_rfl) (fun K hK => ?_)
          obtain ⟨o0, o1, o2, o3⟩ := Blk.both KK175.out
          obtain ⟨wd176, hv⟩ : ∃ V, (wd171.setCell ⟨ga168, 0, none⟩ (Value.float FloatKind.f64 D.lo)).setCell ⟨ga168, 1, none⟩ (Value.float FloatKind.f64 D.hi) = V := ⟨_, rfl⟩
          have hB177 := Lib.hid (hv ▸ Below.setCell (Below.setCell hB172.out lega168 _) lega168 _ : Below W.heap.size W wd176)
          have KK179 := Lib.hid (hv ▸ Blk.far (Blk.far KK174.out (by show ga155 ≠ ga168; omega) _) (by show ga155 ≠ ga168; omega) _ : Blk wd176 ga155 24 #[Value.float FloatKind.f64 C.lo, Value.float FloatKind.f64 C.hi])
          have KK180 := Lib.hid (hv ▸ Blk.set_ (Blk.set_ KK175.out 0 _) 1 _ : Blk wd176 ga168 24 #[Value.float FloatKind.f64 D.lo, Value.float FloatKind.f64 D.hi])
          go_simp
          clear hv o0 o1 o2 o3
          have hS178 := HO.out _ hB177.out
          refine hK _ _ hS178 ?_
          clear hK K hS173
          refine wpAnyH_done (by kernel_rfl) ?_ _
          go_wp2_with fail
          go_meet
          exact ⟨_, _, C, D, rfl, rfl, hC, hD, KK179.out, KK180.out, hB177.out⟩
        · refine wpOpH_of (i := 13) (l' := bm 16 14335) rfl (by kernel_rfl) (by kernel_rfl) (fun K hK => ?_)
          obtain ⟨ga184, hg⟩ : ∃ g, wd157.heap.size = g := ⟨_, rfl⟩
          obtain ⟨wd181, hv⟩ : ∃ V, wd157.alloc (.cells #[Value.float FloatKind.f64 0, Value.float FloatKind.f64 0] 24) = V := ⟨_, rfl⟩
          have lega184 : W.heap.size ≤ ga184 := by rw [← hg]; exact hB158.out.size
          have ltga184_ga155 : ga155 < ga184 := by rw [← hg]; exact KK160.out.lt
          have hB182 := Lib.hid (hv ▸ Below.alloc hB158.out hB158.out.size _ : Below W.heap.size W wd181)
          have KK185 := Lib.hid (hv ▸ Blk.alloc KK160.out _ : Blk wd181 ga155 24 #[Value.float FloatKind.f64 0, Value.float FloatKind.f64 0])
          have KK186 := Lib.hid (show Blk wd181 ga184 24 #[Value.float FloatKind.f64 0, Value.float FloatKind.f64 0] by rw [← hv, ← hg]; exact Blk.new_at _ _ _ rfl)
          go_simp
          clear hg hv
          have hS183 := HO.out _ hB182.out
          refine hK _ _ hS183 ?_
          clear hK K hS159
          refine wpAnyH_oneN (i := 11) (l' := bm 16 16383) rfl (by kernel_rfl) (by kernel_rfl) (by kernel_rfl) (fun K hK => ?_)
          go_simp
          go_at_call 66
          refine (J2.out _).mono ?_
          rintro r wd187 ⟨D, hD, rfl, hb⟩
          dsimp only
          have hB188 := Lib.hid (below_step hB182.out hb)
          have KK190 := Lib.hid (Blk.below KK185.out hb (Blk.lt KK185.out))
          have KK191 := Lib.hid (Blk.below KK186.out hb (Blk.lt KK186.out))
          clear hb
          have hS189 := HO.out _ hB188.out
          refine hK _ _ hS189 ?_
          clear hK K hS183
          refine wpAnyH_oneN (i := 14) (l' := bm 16 32767) rfl (by kernel_rfl) (by kernel_rfl) (by kernel_rfl) (fun K hK => ?_)
          obtain ⟨o0, o1, o2, o3⟩ := Blk.both KK190.out
          obtain ⟨wd192, hv⟩ : ∃ V, (wd187.setCell ⟨ga155, 0, none⟩ (Value.float FloatKind.f64 C.lo)).setCell ⟨ga155, 1, none⟩ (Value.float FloatKind.f64 C.hi) = V := ⟨_, rfl⟩
          have hB193 := Lib.hid (hv ▸ Below.setCell (Below.setCell hB188.out lega155 _) lega155 _ : Below W.heap.size W wd192)
          have KK195 := Lib.hid (hv ▸ Blk.set_ (Blk.set_ KK190.out 0 _) 1 _ : Blk wd192 ga155 24 #[Value.float FloatKind.f64 C.lo, Value.float FloatKind.f64 C.hi])
          have KK196 := Lib.hid (hv ▸ Blk.far (Blk.far KK191.out (by show ga184 ≠ ga155; omega) _) (by show ga184 ≠ ga155; omega) _ : Blk wd192 ga184 24 #[Value.float FloatKind.f64 0, Value.float FloatKind.f64 0])
          go_simp
          clear hv o0 o1 o2 o3
          have hS194 := HO.out _ hB193.out
          refine hK _ _ hS194 ?_
          clear hK K hS189
          refine wpAnyH_oneN (i := 15) (l' := bm 16 65535) rfl (by kernel_rfl) (by kernel_rfl) (by kernel_rfl) (fun K hK => ?_)
          obtain ⟨o0, o1, o2, o3⟩ := Blk.both KK196.out
          obtain ⟨wd197, hv⟩ : ∃ V, (wd192.setCell ⟨ga184, 0, none⟩ (Value.float FloatKind.f64 D.lo)).setCell ⟨ga184, 1, none⟩ (Value.float FloatKind.f64 D.hi) = V := ⟨_, rfl⟩
          have hB198 := Lib.hid (hv ▸ Below.setCell (Below.setCell hB193.out lega184 _) lega184 _ : Below W.heap.size W wd197)
          have KK200 := Lib.hid (hv ▸ Blk.far (Blk.far KK195.out (by show ga155 ≠ ga184; omega) _) (by show ga155 ≠ ga184; omega) _ : Blk wd197 ga155 24 #[Value.float FloatKind.f64 C.lo, Value.float FloatKind.f64 C.hi])
          have KK201 := Lib.hid (hv ▸ Blk.set_ (Blk.set_ KK196.out 0 _) 1 _ : Blk wd197 ga184 24 #[Value.float FloatKind.f64 D.lo, Value.float FloatKind.f64 D.hi])
          go_simp
          clear hv o0 o1 o2 o3
          have hS199 := HO.out _ hB198.out
          refine hK _ _ hS199 ?_
          clear hK K hS194
          refine wpAnyH_done (by kernel_rfl) ?_ _
          go_wp2_with fail
          go_meet
          exact ⟨_, _, C, D, rfl, rfl, hC, hD, KK200.out, KK201.out, hB198.out⟩
      · refine wpOpH_of (i := 13) (l' := bm 16 14303) rfl (by kernel_rfl) (by kernel_rfl) (fun K hK => ?_)
        obtain ⟨ga205, hg⟩ : ∃ g, wd152.heap.size = g := ⟨_, rfl⟩
        obtain ⟨wd202, hv⟩ : ∃ V, wd152.alloc (.cells #[Value.float FloatKind.f64 0, Value.float FloatKind.f64 0] 24) = V := ⟨_, rfl⟩
        have lega205 : W.heap.size ≤ ga205 := by rw [← hg]; exact hB153.out.size
        have ltga205_ga155 : ga155 < ga205 := by rw [← hg]; exact KK156.out.lt
        have hB203 := Lib.hid (hv ▸ Below.alloc hB153.out hB153.out.size _ : Below W.heap.size W wd202)
        have KK206 := Lib.hid (hv ▸ Blk.alloc KK156.out _ : Blk wd202 ga155 24 #[Value.float FloatKind.f64 0, Value.float FloatKind.f64 0])
        have KK207 := Lib.hid (show Blk wd202 ga205 24 #[Value.float FloatKind.f64 0, Value.float FloatKind.f64 0] by rw [← hv, ← hg]; exact Blk.new_at _ _ _ rfl)
        go_simp
        clear hg hv
        have hS204 := HO.out _ hB203.out
        refine hK _ _ hS204 ?_
        clear hK K hS154
        refine wpAnyH_oneN (i := 5) (l' := bm 16 14335) rfl (by kernel_rfl) (by kernel_rfl) (by kernel_rfl) (fun K hK => ?_)
        go_simp
        go_at_call 66
        refine (J1.out _).mono ?_
        rintro r wd208 ⟨C, hC, rfl, hb⟩
        dsimp only
        have hB209 := Lib.hid (below_step hB203.out hb)
        have KK211 := Lib.hid (Blk.below KK206.out hb (Blk.lt KK206.out))
        have KK212 := Lib.hid (Blk.below KK207.out hb (Blk.lt KK207.out))
        clear hb
        have hS210 := HO.out _ hB209.out
        refine hK _ _ hS210 ?_
        clear hK K hS204
        refine wpAnyH_oneN (i := 11) (l' := bm 16 16383) rfl (by kernel_rfl) (by kernel_rfl) (by kernel_rfl) (fun K hK => ?_)
        go_simp
        go_at_call 66
        refine (J2.out _).mono ?_
        rintro r wd213 ⟨D, hD, rfl, hb⟩
        dsimp only
        have hB214 := Lib.hid (below_step hB209.out hb)
        have KK216 := Lib.hid (Blk.below KK211.out hb (Blk.lt KK211.out))
        have KK217 := Lib.hid (Blk.below KK212.out hb (Blk.lt KK212.out))
        clear hb
        have hS215 := HO.out _ hB214.out
        refine hK _ _ hS215 ?_
        clear hK K hS210
        refine wpAnyH_oneN (i := 14) (l' := bm 16 32767) rfl (by kernel_rfl) (by kernel_rfl) (by kernel_rfl) (fun K hK => ?_)
        obtain ⟨o0, o1, o2, o3⟩ := Blk.both KK216.out
        obtain ⟨wd218, hv⟩ : ∃ V, (wd213.setCell ⟨ga155, 0, none⟩ (Value.float FloatKind.f64 C.lo)).setCell ⟨ga155, 1, none⟩ (Value.float FloatKind.f64 C.hi) = V := ⟨_, rfl⟩
        have hB219 := Lib.hid (hv ▸ Below.setCell (Below.setCell hB214.out lega155 _) lega155 _ : Below W.heap.size W wd218)
        have KK221 := Lib.hid (hv ▸ Blk.set_ (Blk.set_ KK216.out 0 _) 1 _ : Blk wd218 ga155 24 #[Value.float FloatKind.f64 C.lo, Value.float FloatKind.f64 C.hi])
        have KK222 := Lib.hid (hv ▸ Blk.far (Blk.far KK217.out (by show ga205 ≠ ga155; omega) _) (by show ga205 ≠ ga155; omega) _ : Blk wd218 ga205 24 #[Value.float FloatKind.f64 0, Value.float FloatKind.f64 0])
        go_simp
        clear hv o0 o1 o2 o3
        have hS220 := HO.out _ hB219.out
        refine hK _ _ hS220 ?_
        clear hK K hS215
        refine wpAnyH_oneN (i := 15) (l' := bm 16 65535) rfl (by kernel_rfl) (by kernel_rfl) (by kernel_rfl) (fun K hK => ?_)
        obtain ⟨o0, o1, o2, o3⟩ := Blk.both KK222.out
        obtain ⟨wd223, hv⟩ : ∃ V, (wd218.setCell ⟨ga205, 0, none⟩ (Value.float FloatKind.f64 D.lo)).setCell ⟨ga205, 1, none⟩ (Value.float FloatKind.f64 D.hi) = V := ⟨_, rfl⟩
        have hB224 := Lib.hid (hv ▸ Below.setCell (Below.setCell hB219.out lega205 _) lega205 _ : Below W.heap.size W wd223)
        have KK226 := Lib.hid (hv ▸ Blk.far (Blk.far KK221.out (by show ga155 ≠ ga205; omega) _) (by show ga155 ≠ ga205; omega) _ : Blk wd223 ga155 24 #[Value.float FloatKind.f64 C.lo, Value.float FloatKind.f64 C.hi])
        have KK227 := Lib.hid (hv ▸ Blk.set_ (Blk.set_ KK222.out 0 _) 1 _ : Blk wd223 ga205 24 #[Value.float FloatKind.f64 D.lo, Value.float FloatKind.f64 D.hi])
        go_simp
        clear hv o0 o1 o2 o3
        have hS225 := HO.out _ hB224.out
        refine hK _ _ hS225 ?_
        clear hK K hS220
        refine wpAnyH_done (by kernel_rfl) ?_ _
        go_wp2_with fail
        go_meet
        exact ⟨_, _, C, D, rfl, rfl, hC, hD, KK226.out, KK227.out, hB224.out⟩
    · refine wpOpH_of (i := 13) (l' := bm 16 10207) rfl (by kernel_rfl) (by kernel_rfl) (fun K hK => ?_)
      obtain ⟨ga231, hg⟩ : ∃ g, wd1.heap.size = g := ⟨_, rfl⟩
      obtain ⟨wd228, hv⟩ : ∃ V, wd1.alloc (.cells #[Value.float FloatKind.f64 0, Value.float FloatKind.f64 0] 24) = V := ⟨_, rfl⟩
      have lega231 : W.heap.size ≤ ga231 := by rw [← hg]; exact hB0.out.size
      have hB229 := Lib.hid (hv ▸ Below.alloc hB0.out hB0.out.size _ : Below W.heap.size W wd228)
      have KK232 := Lib.hid (show Blk wd228 ga231 24 #[Value.float FloatKind.f64 0, Value.float FloatKind.f64 0] by rw [← hv, ← hg]; exact Blk.new_at _ _ _ rfl)
      go_simp
      clear hg hv
      have hS230 := HO.out _ hB229.out
      refine hK _ _ hS230 ?_
      clear hK K hS0
      refine wpAnyH_two (i := 5) (j := 12) (by kernel_rfl) ?_ ?_
      · refine wpOpH_of (i := 5) (l' := bm 16 10239) rfl (by kernel_rfl) (by kernel_rfl) (fun K hK => ?_)
        go_simp
        go_at_call 66
        refine (J1.out _).mono ?_
        rintro r wd233 ⟨C, hC, rfl, hb⟩
        dsimp only
        have hB234 := Lib.hid (below_step hB229.out hb)
        have KK236 := Lib.hid (Blk.below KK232.out hb (Blk.lt KK232.out))
        clear hb
        have hS235 := HO.out _ hB234.out
        refine hK _ _ hS235 ?_
        clear hK K hS230
        refine wpAnyH_two (i := 11) (j := 12) (by kernel_rfl) ?_ ?_
        · refine wpOpH_of (i := 11) (l' := bm 16 12287) rfl (by kernel_rfl) (by kernel_rfl) (fun K hK => ?_)
          go_simp
          go_at_call 66
          refine (J2.out _).mono ?_
          rintro r wd237 ⟨D, hD, rfl, hb⟩
          dsimp only
          have hB238 := Lib.hid (below_step hB234.out hb)
          have KK240 := Lib.hid (Blk.below KK236.out hb (Blk.lt KK236.out))
          clear hb
          have hS239 := HO.out _ hB238.out
          refine hK _ _ hS239 ?_
          clear hK K hS235
          refine wpAnyH_oneN (i := 12) (l' := bm 16 16383) rfl (by kernel_rfl) (by kernel_rfl) (by kernel_rfl) (fun K hK => ?_)
          obtain ⟨ga244, hg⟩ : ∃ g, wd237.heap.size = g := ⟨_, rfl⟩
          obtain ⟨wd241, hv⟩ : ∃ V, wd237.alloc (.cells #[Value.float FloatKind.f64 0, Value.float FloatKind.f64 0] 24) = V := ⟨_, rfl⟩
          have lega244 : W.heap.size ≤ ga244 := by rw [← hg]; exact hB238.out.size
          have ltga244_ga231 : ga231 < ga244 := by rw [← hg]; exact KK240.out.lt
          have hB242 := Lib.hid (hv ▸ Below.alloc hB238.out hB238.out.size _ : Below W.heap.size W wd241)
          have KK245 := Lib.hid (hv ▸ Blk.alloc KK240.out _ : Blk wd241 ga231 24 #[Value.float FloatKind.f64 0, Value.float FloatKind.f64 0])
          have KK246 := Lib.hid (show Blk wd241 ga244 24 #[Value.float FloatKind.f64 0, Value.float FloatKind.f64 0] by rw [← hv, ← hg]; exact Blk.new_at _ _ _ rfl)
          go_simp
          clear hg hv
          have hS243 := HO.out _ hB242.out
          refine hK _ _ hS243 ?_
          clear hK K hS239
          refine wpAnyH_oneN (i := 14) (l' := bm 16 32767) rfl (by kernel_rfl) (by kernel_rfl) (by kernel_rfl) (fun K hK => ?_)
          obtain ⟨o0, o1, o2, o3⟩ := Blk.both KK246.out
          obtain ⟨wd247, hv⟩ : ∃ V, (wd241.setCell ⟨ga244, 0, none⟩ (Value.float FloatKind.f64 C.lo)).setCell ⟨ga244, 1, none⟩ (Value.float FloatKind.f64 C.hi) = V := ⟨_, rfl⟩
          have hB248 := Lib.hid (hv ▸ Below.setCell (Below.setCell hB242.out lega244 _) lega244 _ : Below W.heap.size W wd247)
          have KK250 := Lib.hid (hv ▸ Blk.far (Blk.far KK245.out (by show ga231 ≠ ga244; omega) _) (by show ga231 ≠ ga244; omega) _ : Blk wd247 ga231 24 #[Value.float FloatKind.f64 0, Value.float FloatKind.f64 0])
          have KK251 := Lib.hid (hv ▸ Blk.set_ (Blk.set_ KK246.out 0 _) 1 _ : Blk wd247 ga244 24 #[Value.float FloatKind.f64 C.lo, Value.float FloatKind.f64 C.hi])
          go_simp
          clear hv o0 o1 o2 o3
          have hS249 := HO.out _ hB248.out
          refine hK _ _ hS249 ?_
          clear hK K hS243
          refine wpAnyH_oneN (i := 15) (l' := bm 16 65535) rfl (by kernel_rfl) (by kernel_rfl) (by kernel_rfl) (fun K hK => ?_)
          obtain ⟨o0, o1, o2, o3⟩ := Blk.both KK250.out
          obtain ⟨wd252, hv⟩ : ∃ V, (wd247.setCell ⟨ga231, 0, none⟩ (Value.float FloatKind.f64 D.lo)).setCell ⟨ga231, 1, none⟩ (Value.float FloatKind.f64 D.hi) = V := ⟨_, rfl⟩
          have hB253 := Lib.hid (hv ▸ Below.setCell (Below.setCell hB248.out lega231 _) lega231 _ : Below W.heap.size W wd252)
          have KK255 := Lib.hid (hv ▸ Blk.set_ (Blk.set_ KK250.out 0 _) 1 _ : Blk wd252 ga231 24 #[Value.float FloatKind.f64 D.lo, Value.float FloatKind.f64 D.hi])
          have KK256 := Lib.hid (hv ▸ Blk.far (Blk.far KK251.out (by show ga244 ≠ ga231; omega) _) (by show ga244 ≠ ga231; omega) _ : Blk wd252 ga244 24 #[Value.float FloatKind.f64 C.lo, Value.float FloatKind.f64 C.hi])
          go_simp
          clear hv o0 o1 o2 o3
          have hS254 := HO.out _ hB253.out
          refine hK _ _ hS254 ?_
          clear hK K hS249
          refine wpAnyH_done (by kernel_rfl) ?_ _
          go_wp2_with fail
          go_meet
          exact ⟨_, _, C, D, rfl, rfl, hC, hD, KK256.out, KK255.out, hB253.out⟩
        · refine wpOpH_of (i := 12) (l' := bm 16 14335) rfl (by kernel_rfl) (by kernel_rfl) (fun K hK => ?_)
          obtain ⟨ga260, hg⟩ : ∃ g, wd233.heap.size = g := ⟨_, rfl⟩
          obtain ⟨wd257, hv⟩ : ∃ V, wd233.alloc (.cells #[Value.float FloatKind.f64 0, Value.float FloatKind.f64 0] 24) = V := ⟨_, rfl⟩
          have lega260 : W.heap.size ≤ ga260 := by rw [← hg]; exact hB234.out.size
          have ltga260_ga231 : ga231 < ga260 := by rw [← hg]; exact KK236.out.lt
          have hB258 := Lib.hid (hv ▸ Below.alloc hB234.out hB234.out.size _ : Below W.heap.size W wd257)
          have KK261 := Lib.hid (hv ▸ Blk.alloc KK236.out _ : Blk wd257 ga231 24 #[Value.float FloatKind.f64 0, Value.float FloatKind.f64 0])
          have KK262 := Lib.hid (show Blk wd257 ga260 24 #[Value.float FloatKind.f64 0, Value.float FloatKind.f64 0] by rw [← hv, ← hg]; exact Blk.new_at _ _ _ rfl)
          go_simp
          clear hg hv
          have hS259 := HO.out _ hB258.out
          refine hK _ _ hS259 ?_
          clear hK K hS235
          refine wpAnyH_oneN (i := 11) (l' := bm 16 16383) rfl (by kernel_rfl) (by kernel_rfl) (by kernel_rfl) (fun K hK => ?_)
          go_simp
          go_at_call 66
          refine (J2.out _).mono ?_
          rintro r wd263 ⟨D, hD, rfl, hb⟩
          dsimp only
          have hB264 := Lib.hid (below_step hB258.out hb)
          have KK266 := Lib.hid (Blk.below KK261.out hb (Blk.lt KK261.out))
          have KK267 := Lib.hid (Blk.below KK262.out hb (Blk.lt KK262.out))
          clear hb
          have hS265 := HO.out _ hB264.out
          refine hK _ _ hS265 ?_
          clear hK K hS259
          refine wpAnyH_oneN (i := 14) (l' := bm 16 32767) rfl (by kernel_rfl) (by kernel_rfl) (by kernel_rfl) (fun K hK => ?_)
          obtain ⟨o0, o1, o2, o3⟩ := Blk.both KK267.out
          obtain ⟨wd268, hv⟩ : ∃ V, (wd263.setCell ⟨ga260, 0, none⟩ (Value.float FloatKind.f64 C.lo)).setCell ⟨ga260, 1, none⟩ (Value.float FloatKind.f64 C.hi) = V := ⟨_, rfl⟩
          have hB269 := Lib.hid (hv ▸ Below.setCell (Below.setCell hB264.out lega260 _) lega260 _ : Below W.heap.size W wd268)
          have KK271 := Lib.hid (hv ▸ Blk.far (Blk.far KK266.out (by show ga231 ≠ ga260; omega) _) (by show ga231 ≠ ga260; omega) _ : Blk wd268 ga231 24 #[Value.float FloatKind.f64 0, Value.float FloatKind.f64 0])
          have KK272 := Lib.hid (hv ▸ Blk.set_ (Blk.set_ KK267.out 0 _) 1 _ : Blk wd268 ga260 24 #[Value.float FloatKind.f64 C.lo, Value.float FloatKind.f64 C.hi])
          go_simp
          clear hv o0 o1 o2 o3
          have hS270 := HO.out _ hB269.out
          refine hK _ _ hS270 ?_
          clear hK K hS265
          refine wpAnyH_oneN (i := 15) (l' := bm 16 65535) rfl (by kernel_rfl) (by kernel_rfl) (by kernel_rfl) (fun K hK => ?_)
          obtain ⟨o0, o1, o2, o3⟩ := Blk.both KK271.out
          obtain ⟨wd273, hv⟩ : ∃ V, (wd268.setCell ⟨ga231, 0, none⟩ (Value.float FloatKind.f64 D.lo)).setCell ⟨ga231, 1, none⟩ (Value.float FloatKind.f64 D.hi) = V := ⟨_, rfl⟩
          have hB274 := Lib.hid (hv ▸ Below.setCell (Below.setCell hB269.out lega231 _) lega231 _ : Below W.heap.size W wd273)
          have KK276 := Lib.hid (hv ▸ Blk.set_ (Blk.set_ KK271.out 0 _) 1 _ : Blk wd273 ga231 24 #[Value.float FloatKind.f64 D.lo, Value.float FloatKind.f64 D.hi])
          have KK277 := Lib.hid (hv ▸ Blk.far (Blk.far KK272.out (by show ga260 ≠ ga231; omega) _) (by show ga260 ≠ ga231; omega) _ : Blk wd273 ga260 24 #[Value.float FloatKind.f64 C.lo, Value.float FloatKind.f64 C.hi])
          go_simp
          clear hv o0 o1 o2 o3
          have hS275 := HO.out _ hB274.out
          refine hK _ _ hS275 ?_
          clear hK K hS270
          refine wpAnyH_done (by kernel_rfl) ?_ _
          go_wp2_with fail
          go_meet
          exact ⟨_, _, C, D, rfl, rfl, hC, hD, KK277.out, KK276.out, hB274.out⟩
      · refine wpOpH_of (i := 12) (l' := bm 16 14303) rfl (by kernel_rfl) (by kernel_rfl) (fun K hK => ?_)
        obtain ⟨ga281, hg⟩ : ∃ g, wd228.heap.size = g := ⟨_, rfl⟩
        obtain ⟨wd278, hv⟩ : ∃ V, wd228.alloc (.cells #[Value.float FloatKind.f64 0, Value.float FloatKind.f64 0] 24) = V := ⟨_, rfl⟩
        have lega281 : W.heap.size ≤ ga281 := by rw [← hg]; exact hB229.out.size
        have ltga281_ga231 : ga231 < ga281 := by rw [← hg]; exact KK232.out.lt
        have hB279 := Lib.hid (hv ▸ Below.alloc hB229.out hB229.out.size _ : Below W.heap.size W wd278)
        have KK282 := Lib.hid (hv ▸ Blk.alloc KK232.out _ : Blk wd278 ga231 24 #[Value.float FloatKind.f64 0, Value.float FloatKind.f64 0])
        have KK283 := Lib.hid (show Blk wd278 ga281 24 #[Value.float FloatKind.f64 0, Value.float FloatKind.f64 0] by rw [← hv, ← hg]; exact Blk.new_at _ _ _ rfl)
        go_simp
        clear hg hv
        have hS280 := HO.out _ hB279.out
        refine hK _ _ hS280 ?_
        clear hK K hS230
        refine wpAnyH_oneN (i := 5) (l' := bm 16 14335) rfl (by kernel_rfl) (by kernel_rfl) (by kernel_rfl) (fun K hK => ?_)
        go_simp
        go_at_call 66
        refine (J1.out _).mono ?_
        rintro r wd284 ⟨C, hC, rfl, hb⟩
        dsimp only
        have hB285 := Lib.hid (below_step hB279.out hb)
        have KK287 := Lib.hid (Blk.below KK282.out hb (Blk.lt KK282.out))
        have KK288 := Lib.hid (Blk.below KK283.out hb (Blk.lt KK283.out))
        clear hb
        have hS286 := HO.out _ hB285.out
        refine hK _ _ hS286 ?_
        clear hK K hS280
        refine wpAnyH_oneN (i := 11) (l' := bm 16 16383) rfl (by kernel_rfl) (by kernel_rfl) (by kernel_rfl) (fun K hK => ?_)
        go_simp
        go_at_call 66
        refine (J2.out _).mono ?_
        rintro r wd289 ⟨D, hD, rfl, hb⟩
        dsimp only
        have hB290 := Lib.hid (below_step hB285.out hb)
        have KK292 := Lib.hid (Blk.below KK287.out hb (Blk.lt KK287.out))
        have KK293 := Lib.hid (Blk.below KK288.out hb (Blk.lt KK288.out))
        clear hb
        have hS291 := HO.out _ hB290.out
        refine hK _ _ hS291 ?_
        clear hK K hS286
        refine wpAnyH_oneN (i := 14) (l' := bm 16 32767) rfl (by kernel_rfl) (by kernel_rfl) (by kernel_rfl) (fun K hK => ?_)
        obtain ⟨o0, o1, o2, o3⟩ := Blk.both KK293.out
        obtain ⟨wd294, hv⟩ : ∃ V, (wd289.setCell ⟨ga281, 0, none⟩ (Value.float FloatKind.f64 C.lo)).setCell ⟨ga281, 1, none⟩ (Value.float FloatKind.f64 C.hi) = V := ⟨_, rfl⟩
        have hB295 := Lib.hid (hv ▸ Below.setCell (Below.setCell hB290.out lega281 _) lega281 _ : Below W.heap.size W wd294)
        have KK297 := Lib.hid (hv ▸ Blk.far (Blk.far KK292.out (by show ga231 ≠ ga281; omega) _) (by show ga231 ≠ ga281; omega) _ : Blk wd294 ga231 24 #[Value.float FloatKind.f64 0, Value.float FloatKind.f64 0])
        have KK298 := Lib.hid (hv ▸ Blk.set_ (Blk.set_ KK293.out 0 _) 1 _ : Blk wd294 ga281 24 #[Value.float FloatKind.f64 C.lo, Value.float FloatKind.f64 C.hi])
        go_simp
        clear hv o0 o1 o2 o3
        have hS296 := HO.out _ hB295.out
        refine hK _ _ hS296 ?_
        clear hK K hS291
        refine wpAnyH_oneN (i := 15) (l' := bm 16 65535) rfl (by kernel_rfl) (by kernel_rfl) (by kernel_rfl) (fun K hK => ?_)
        obtain ⟨o0, o1, o2, o3⟩ := Blk.both KK297.out
        obtain ⟨wd299, hv⟩ : ∃ V, (wd294.setCell ⟨ga231, 0, none⟩ (Value.float FloatKind.f64 D.lo)).setCell ⟨ga231, 1, none⟩ (Value.float FloatKind.f64 D.hi) = V := ⟨_, rfl⟩
        have hB300 := Lib.hid (hv ▸ Below.setCell (Below.setCell hB295.out lega231 _) lega231 _ : Below W.heap.size W wd299)
        have KK302 := Lib.hid (hv ▸ Blk.set_ (Blk.set_ KK297.out 0 _) 1 _ : Blk wd299 ga231 24 #[Value.float FloatKind.f64 D.lo, Value.float FloatKind.f64 D.hi])
        have KK303 := Lib.hid (hv ▸ Blk.far (Blk.far KK298.out (by show ga281 ≠ ga231; omega) _) (by show ga281 ≠ ga231; omega) _ : Blk wd299 ga281 24 #[Value.float FloatKind.f64 C.lo, Value.float FloatKind.f64 C.hi])
        go_simp
        clear hv o0 o1 o2 o3
        have hS301 := HO.out _ hB300.out
        refine hK _ _ hS301 ?_
        clear hK K hS296
        refine wpAnyH_done (by kernel_rfl) ?_ _
        go_wp2_with fail
        go_meet
        exact ⟨_, _, C, D, rfl, rfl, hC, hD, KK303.out, KK302.out, hB300.out⟩
  obtain ⟨g7, g8, C, D, rfl, rfl, hC, hD, kc, kd, hx⟩ := hcut
  have K0' := Lib.hid (Blk.below K0.out hx (Blk.lt K0.out))
  have K1' := Lib.hid (Blk.below K1.out hx (Blk.lt K1.out))
  have HB' := Lib.hid (below_step HB.out hx)
  clear K0 K1 K2 HB HO
  have K0 := K0'
  have K1 := K1'
  have HB := HB'
  have K2 := Lib.hid kc
  have K3 := Lib.hid kd
  clear K0' K1' HB' kc kd hx
  have HO := Lib.hid (show ∀ w', Below wc.heap.size wc w' → (Below wc.heap.size wc w' ∧ w'.cell? ⟨w.heap.size, 0, none⟩ = some (Value.float FloatKind.f64 A.lo) ∧ w'.cell? ⟨w.heap.size, 1, none⟩ = some (Value.float FloatKind.f64 A.hi) ∧ w'.cell? ⟨w.heap.size + 1, 0, none⟩ = some (Value.float FloatKind.f64 B.lo) ∧ w'.cell? ⟨w.heap.size + 1, 1, none⟩ = some (Value.float FloatKind.f64 B.hi) ∧ w'.cell? ⟨g7, 0, none⟩ = some (Value.float FloatKind.f64 C.lo) ∧ w'.cell? ⟨g7, 1, none⟩ = some (Value.float FloatKind.f64 C.hi) ∧ w'.cell? ⟨g8, 0, none⟩ = some (Value.float FloatKind.f64 D.lo) ∧ w'.cell? ⟨g8, 1, none⟩ = some (Value.float FloatKind.f64 D.hi)) from fun w' h => ⟨h, (K0.out.below h K0.out.lt).cell 0, (K0.out.below h K0.out.lt).cell 1, (K1.out.below h K1.out.lt).cell 0, (K1.out.below h K1.out.lt).cell 1, (K2.out.below h K2.out.lt).cell 0, (K2.out.below h K2.out.lt).cell 1, (K3.out.below h K3.out.lt).cell 0, (K3.out.below h K3.out.lt).cell 1⟩)
  have D4 := Lib.hid (Below.refl wc.heap.size wc)
  have hq := (HO.out _ D4.out).2
  have X0 := Lib.hid (fun w => add_sp C D w)
  have Y0 := Lib.hid (fun w => add_sp A B w)
  have hw := wi_add hC hD
  obtain ⟨x0, hs⟩ : ∃ s, addS C D = s := ⟨_, rfl⟩
  rw [hs] at X0 hw
  clear hs
  obtain ⟨y0, hs⟩ : ∃ s, addS A B = s := ⟨_, rfl⟩
  rw [hs] at Y0 hw
  clear hs
  have Z0' := Lib.hid (fun w => within_sp hw w)
  clear hw
  have X1 := Lib.hid (fun w => sub_sp C D w)
  have Y1 := Lib.hid (fun w => sub_sp A B w)
  have hw := wi_sub hC hD
  obtain ⟨x1, hs⟩ : ∃ s, subS C D = s := ⟨_, rfl⟩
  rw [hs] at X1 hw
  clear hs
  obtain ⟨y1, hs⟩ : ∃ s, subS A B = s := ⟨_, rfl⟩
  rw [hs] at Y1 hw
  clear hs
  have Z1' := Lib.hid (fun w => within_sp hw w)
  clear hw
  have X2 := Lib.hid (fun w => mul_sp C D w)
  have Y2 := Lib.hid (fun w => mul_sp A B w)
  have hw := wi_mul hC hD
  obtain ⟨x2, hs⟩ : ∃ s, mulS C D = s := ⟨_, rfl⟩
  rw [hs] at X2 hw
  clear hs
  obtain ⟨y2, hs⟩ : ∃ s, mulS A B = s := ⟨_, rfl⟩
  rw [hs] at Y2 hw
  clear hs
  have Z2' := Lib.hid (fun w => within_sp hw w)
  clear hw
  have X3 := Lib.hid (fun w => div_sp C D w)
  have Y3 := Lib.hid (fun w => div_sp A B w)
  have hw := wi_div hC hD
  obtain ⟨x3, hs⟩ : ∃ s, divS C D = s := ⟨_, rfl⟩
  rw [hs] at X3 hw
  clear hs
  obtain ⟨y3, hs⟩ : ∃ s, divS A B = s := ⟨_, rfl⟩
  rw [hs] at Y3 hw
  clear hs
  have Z3' := Lib.hid (fun w => within_sp hw w)
  clear hw
  have X4 := Lib.hid (fun w => sqr_sp C w)
  have Y4 := Lib.hid (fun w => sqr_sp A w)
  have hw := wi_sqr hC
  obtain ⟨x4, hs⟩ : ∃ s, sqrS C = s := ⟨_, rfl⟩
  rw [hs] at X4 hw
  clear hs
  obtain ⟨y4, hs⟩ : ∃ s, sqrS A = s := ⟨_, rfl⟩
  rw [hs] at Y4 hw
  clear hs
  have Z4' := Lib.hid (fun w => within_sp hw w)
  clear hw
  have X5 := Lib.hid (fun w => min_sp C D w)
  have Y5 := Lib.hid (fun w => min_sp A B w)
  have hw := wi_min hC hD
  obtain ⟨x5, hs⟩ : ∃ s, minS C D = s := ⟨_, rfl⟩
  rw [hs] at X5 hw
  clear hs
  obtain ⟨y5, hs⟩ : ∃ s, minS A B = s := ⟨_, rfl⟩
  rw [hs] at Y5 hw
  clear hs
  have Z5' := Lib.hid (fun w => within_sp hw w)
  clear hw
  have X6 := Lib.hid (fun w => max_sp C D w)
  have Y6 := Lib.hid (fun w => max_sp A B w)
  have hw := wi_max hC hD
  obtain ⟨x6, hs⟩ : ∃ s, maxS C D = s := ⟨_, rfl⟩
  rw [hs] at X6 hw
  clear hs
  obtain ⟨y6, hs⟩ : ∃ s, maxS A B = s := ⟨_, rfl⟩
  rw [hs] at Y6 hw
  clear hs
  have Z6' := Lib.hid (fun w => within_sp hw w)
  clear hw
  have X7 := Lib.hid (fun w => hull_sp C D w)
  have Y7 := Lib.hid (fun w => hull_sp A B w)
  have hw := wi_hull hC hD
  obtain ⟨x7, hs⟩ : ∃ s, hullS C D = s := ⟨_, rfl⟩
  rw [hs] at X7 hw
  clear hs
  obtain ⟨y7, hs⟩ : ∃ s, hullS A B = s := ⟨_, rfl⟩
  rw [hs] at Y7 hw
  clear hs
  have Z7' := Lib.hid (fun w => within_sp hw w)
  clear hw
  have HQ := Lib.hid (root_way hC)
  have HF := Lib.hid (flo_ways hC)
  have XQ := Lib.hid (fun w => sqrt_sp C w)
  have YQ := Lib.hid (fun w => sqrt_sp A w)
  generalize sqrtS C = xq at *
  generalize sqrtS A = yq at *
  have P1 := Lib.hid (fun w => pos_sp A w)
  have P2 := Lib.hid (fun w => pos_sp C w)
  have L1 := Lib.hid (fun w => less_sp A B w)
  have L2 := Lib.hid (fun w => less_sp C D w)
  have S1 := Lib.hid (fun w => stays_sp (posS A : Nat) (posS C : Nat) ((pos_stays hC).imp (fun e => by rw [e]; rfl) (fun e => by rw [e])) w)
  have S2 := Lib.hid (fun w => stays_sp (lessS A B : Nat) (lessS C D : Nat) ((less_stays hC hD).imp (fun e => by rw [e]; rfl) (fun e => by rw [e])) w)
  generalize posS A = u1 at *
  generalize posS C = u2 at *
  generalize lessS A B = u3 at *
  generalize lessS C D = u4 at *
  clear hC hD
  go_wp2_with fail
  clear hq
  refine wp_region_held (S := (fun w' => Below wc.heap.size wc w' ∧ w'.cell? ⟨w.heap.size, 0, none⟩ = some (Value.float FloatKind.f64 A.lo) ∧ w'.cell? ⟨w.heap.size, 1, none⟩ = some (Value.float FloatKind.f64 A.hi) ∧ w'.cell? ⟨w.heap.size + 1, 0, none⟩ = some (Value.float FloatKind.f64 B.lo) ∧ w'.cell? ⟨w.heap.size + 1, 1, none⟩ = some (Value.float FloatKind.f64 B.hi) ∧ w'.cell? ⟨g7, 0, none⟩ = some (Value.float FloatKind.f64 C.lo) ∧ w'.cell? ⟨g7, 1, none⟩ = some (Value.float FloatKind.f64 C.hi) ∧ w'.cell? ⟨g8, 0, none⟩ = some (Value.float FloatKind.f64 D.lo) ∧ w'.cell? ⟨g8, 1, none⟩ = some (Value.float FloatKind.f64 D.hi))) (by kernel_rfl) ?_
  (try change wpAnyH _ _ _ _ _ _ _ (World.drew _))
  have hS0 := HO.out _ (Below.drew D4.out)
  refine wpAnyH_takeN (i := 0) (v := ?v6_0) (l' := bm 25 1) (a' := ?a6_0) rfl (by kernel_rfl) (by kernel_rfl) (by kernel_rfl) (fun _ _ _ h => h) (Or.inl ⟨by kernel_rfl, ?h6_0⟩) (by kernel_rfl) ?p6_0 hS0 ?r6_0
  case h6_0 => (intro w hS; go_simp; try with_reducible rfl)
  case p6_0 => (go_simp; try with_reducible rfl)
  refine wpAnyH_takeN (i := 1) (v := ?v6_1) (l' := bm 25 3) (a' := ?a6_1) rfl (by kernel_rfl) (by kernel_rfl) (by kernel_rfl) (fun _ _ _ h => h) (Or.inl ⟨by kernel_rfl, ?h6_1⟩) (by kernel_rfl) ?p6_1 hS0 ?r6_1
  case h6_1 => (intro w hS; go_simp; try with_reducible rfl)
  case p6_1 => (go_simp; try with_reducible rfl)
  refine wpAnyH_takeN (i := 3) (v := ?v6_3) (l' := bm 25 11) (a' := ?a6_3) rfl (by kernel_rfl) (by kernel_rfl) (by kernel_rfl) (fun _ _ _ h => h) (Or.inl ⟨by kernel_rfl, ?h6_3⟩) (by kernel_rfl) ?p6_3 hS0 ?r6_3
  case h6_3 => (intro w hS; go_simp; try with_reducible rfl)
  case p6_3 => (go_simp; try with_reducible rfl)
  refine wpAnyH_takeN (i := 4) (v := ?v6_4) (l' := bm 25 27) (a' := ?a6_4) rfl (by kernel_rfl) (by kernel_rfl) (by kernel_rfl) (fun _ _ _ h => h) (Or.inl ⟨by kernel_rfl, ?h6_4⟩) (by kernel_rfl) ?p6_4 hS0 ?r6_4
  case h6_4 => (intro w hS; go_simp; try with_reducible rfl)
  case p6_4 => (go_simp; try with_reducible rfl)
  refine wpAnyH_takeN (i := 6) (v := ?v6_6) (l' := bm 25 91) (a' := ?a6_6) rfl (by kernel_rfl) (by kernel_rfl) (by kernel_rfl) (fun _ _ _ h => h) (Or.inl ⟨by kernel_rfl, ?h6_6⟩) (by kernel_rfl) ?p6_6 hS0 ?r6_6
  case h6_6 => (intro w hS; go_simp; try with_reducible rfl)
  case p6_6 => (go_simp; try with_reducible rfl)
  refine wpAnyH_takeN (i := 7) (v := ?v6_7) (l' := bm 25 219) (a' := ?a6_7) rfl (by kernel_rfl) (by kernel_rfl) (by kernel_rfl) (fun _ _ _ h => h) (Or.inl ⟨by kernel_rfl, ?h6_7⟩) (by kernel_rfl) ?p6_7 hS0 ?r6_7
  case h6_7 => (intro w hS; go_simp; try with_reducible rfl)
  case p6_7 => (go_simp; try with_reducible rfl)
  refine wpAnyH_takeN (i := 9) (v := ?v6_9) (l' := bm 25 731) (a' := ?a6_9) rfl (by kernel_rfl) (by kernel_rfl) (by kernel_rfl) (fun _ _ _ h => h) (Or.inl ⟨by kernel_rfl, ?h6_9⟩) (by kernel_rfl) ?p6_9 hS0 ?r6_9
  case h6_9 => (intro w hS; go_simp; try with_reducible rfl)
  case p6_9 => (go_simp; try with_reducible rfl)
  refine wpAnyH_takeN (i := 10) (v := ?v6_10) (l' := bm 25 1755) (a' := ?a6_10) rfl (by kernel_rfl) (by kernel_rfl) (by kernel_rfl) (fun _ _ _ h => h) (Or.inl ⟨by kernel_rfl, ?h6_10⟩) (by kernel_rfl) ?p6_10 hS0 ?r6_10
  case h6_10 => (intro w hS; go_simp; try with_reducible rfl)
  case p6_10 => (go_simp; try with_reducible rfl)
  refine wpAnyH_takeN (i := 12) (v := ?v6_12) (l' := bm 25 5851) (a' := ?a6_12) rfl (by kernel_rfl) (by kernel_rfl) (by kernel_rfl) (fun _ _ _ h => h) (Or.inl ⟨by kernel_rfl, ?h6_12⟩) (by kernel_rfl) ?p6_12 hS0 ?r6_12
  case h6_12 => (intro w hS; go_simp; try with_reducible rfl)
  case p6_12 => (go_simp; try with_reducible rfl)
  refine wpAnyH_takeN (i := 14) (v := ?v6_14) (l' := bm 25 22235) (a' := ?a6_14) rfl (by kernel_rfl) (by kernel_rfl) (by kernel_rfl) (fun _ _ _ h => h) (Or.inl ⟨by kernel_rfl, ?h6_14⟩) (by kernel_rfl) ?p6_14 hS0 ?r6_14
  case h6_14 => (intro w hS; go_simp; try with_reducible rfl)
  case p6_14 => (go_simp; try with_reducible rfl)
  refine wpAnyH_takeN (i := 15) (v := ?v6_15) (l' := bm 25 55003) (a' := ?a6_15) rfl (by kernel_rfl) (by kernel_rfl) (by kernel_rfl) (fun _ _ _ h => h) (Or.inl ⟨by kernel_rfl, ?h6_15⟩) (by kernel_rfl) ?p6_15 hS0 ?r6_15
  case h6_15 => (intro w hS; go_simp; try with_reducible rfl)
  case p6_15 => (go_simp; try with_reducible rfl)
  refine wpAnyH_takeN (i := 17) (v := ?v6_17) (l' := bm 25 186075) (a' := ?a6_17) rfl (by kernel_rfl) (by kernel_rfl) (by kernel_rfl) (fun _ _ _ h => h) (Or.inl ⟨by kernel_rfl, ?h6_17⟩) (by kernel_rfl) ?p6_17 hS0 ?r6_17
  case h6_17 => (intro w hS; go_simp; try with_reducible rfl)
  case p6_17 => (go_simp; try with_reducible rfl)
  refine wpAnyH_takeN (i := 18) (v := ?v6_18) (l' := bm 25 448219) (a' := ?a6_18) rfl (by kernel_rfl) (by kernel_rfl) (by kernel_rfl) (fun _ _ _ h => h) (Or.inl ⟨by kernel_rfl, ?h6_18⟩) (by kernel_rfl) ?p6_18 hS0 ?r6_18
  case h6_18 => (intro w hS; go_simp; try with_reducible rfl)
  case p6_18 => (go_simp; try with_reducible rfl)
  refine wpAnyH_takeN (i := 20) (v := ?v6_20) (l' := bm 25 1496795) (a' := ?a6_20) rfl (by kernel_rfl) (by kernel_rfl) (by kernel_rfl) (fun _ _ _ h => h) (Or.inl ⟨by kernel_rfl, ?h6_20⟩) (by kernel_rfl) ?p6_20 hS0 ?r6_20
  case h6_20 => (intro w hS; go_simp; try with_reducible rfl)
  case p6_20 => (go_simp; try with_reducible rfl)
  refine wpAnyH_takeN (i := 21) (v := ?v6_21) (l' := bm 25 3593947) (a' := ?a6_21) rfl (by kernel_rfl) (by kernel_rfl) (by kernel_rfl) (fun _ _ _ h => h) (Or.inl ⟨by kernel_rfl, ?h6_21⟩) (by kernel_rfl) ?p6_21 hS0 ?r6_21
  case h6_21 => (intro w hS; go_simp; try with_reducible rfl)
  case p6_21 => (go_simp; try with_reducible rfl)
  refine wpAnyH_oneN (i := 2) (l' := bm 25 3593951) rfl (by kernel_rfl) (by kernel_rfl) (by kernel_rfl) (fun K hK => ?_)
  have hP := hS0.1
  go_simp
  go_at_call 37
  refine (X0.out _).mono ?_
  rintro r w5 ⟨rfl, hb⟩
  dsimp only
  have D5 := Lib.hid (below_step hP hb)
  clear hb
  have hS1 := HO.out _ (D5.out)
  clear hP hS0
  refine hK _ _ hS1 ?_
  clear hK K
  refine wpAnyH_oneN (i := 5) (l' := bm 25 3593983) rfl (by kernel_rfl) (by kernel_rfl) (by kernel_rfl) (fun K hK => ?_)
  have hP := hS1.1
  go_simp
  go_at_call 38
  refine (X1.out _).mono ?_
  rintro r w6 ⟨rfl, hb⟩
  dsimp only
  have D6 := Lib.hid (below_step hP hb)
  clear hb
  have hS2 := HO.out _ (D6.out)
  clear hP hS1
  refine hK _ _ hS2 ?_
  clear hK K
  refine wpAnyH_oneN (i := 8) (l' := bm 25 3594239) rfl (by kernel_rfl) (by kernel_rfl) (by kernel_rfl) (fun K hK => ?_)
  have hP := hS2.1
  go_simp
  go_at_call 39
  refine (X2.out _).mono ?_
  rintro r w7 ⟨rfl, hb⟩
  dsimp only
  have D7 := Lib.hid (below_step hP hb)
  clear hb
  have hS3 := HO.out _ (D7.out)
  clear hP hS2
  refine hK _ _ hS3 ?_
  clear hK K
  refine wpAnyH_oneN (i := 11) (l' := bm 25 3596287) rfl (by kernel_rfl) (by kernel_rfl) (by kernel_rfl) (fun K hK => ?_)
  have hP := hS3.1
  go_simp
  go_at_call 53
  refine (X3.out _).mono ?_
  rintro r w8 ⟨rfl, hb⟩
  dsimp only
  have D8 := Lib.hid (below_step hP hb)
  clear hb
  have hS4 := HO.out _ (D8.out)
  clear hP hS3
  refine hK _ _ hS4 ?_
  clear hK K
  refine wpAnyH_oneN (i := 13) (l' := bm 25 3604479) rfl (by kernel_rfl) (by kernel_rfl) (by kernel_rfl) (fun K hK => ?_)
  have hP := hS4.1
  go_simp
  go_at_call 40
  refine (X4.out _).mono ?_
  rintro r w9 ⟨rfl, hb⟩
  dsimp only
  have D9 := Lib.hid (below_step hP hb)
  clear hb
  have hS5 := HO.out _ (D9.out)
  clear hP hS4
  refine hK _ _ hS5 ?_
  clear hK K
  refine wpAnyH_oneN (i := 16) (l' := bm 25 3670015) rfl (by kernel_rfl) (by kernel_rfl) (by kernel_rfl) (fun K hK => ?_)
  have hP := hS5.1
  go_simp
  go_at_call 45
  refine (X5.out _).mono ?_
  rintro r w10 ⟨rfl, hb⟩
  dsimp only
  have D10 := Lib.hid (below_step hP hb)
  clear hb
  have hS6 := HO.out _ (D10.out)
  clear hP hS5
  refine hK _ _ hS6 ?_
  clear hK K
  refine wpAnyH_oneN (i := 19) (l' := bm 25 4194303) rfl (by kernel_rfl) (by kernel_rfl) (by kernel_rfl) (fun K hK => ?_)
  have hP := hS6.1
  go_simp
  go_at_call 46
  refine (X6.out _).mono ?_
  rintro r w11 ⟨rfl, hb⟩
  dsimp only
  have D11 := Lib.hid (below_step hP hb)
  clear hb
  have hS7 := HO.out _ (D11.out)
  clear hP hS6
  refine hK _ _ hS7 ?_
  clear hK K
  refine wpAnyH_oneN (i := 22) (l' := bm 25 8388607) rfl (by kernel_rfl) (by kernel_rfl) (by kernel_rfl) (fun K hK => ?_)
  have hP := hS7.1
  go_simp
  go_at_call 17
  refine (X7.out _).mono ?_
  rintro r w12 ⟨rfl, hb⟩
  dsimp only
  have D12 := Lib.hid (below_step hP hb)
  clear hb
  have hS8 := HO.out _ (D12.out)
  clear hP hS7
  refine hK _ _ hS8 ?_
  clear hK K
  refine wpAnyH_oneN (i := 23) (l' := bm 25 16777215) rfl (by kernel_rfl) (by kernel_rfl) (by kernel_rfl) (fun K hK => ?_)
  have hP := hS8.1
  go_simp
  have hS9 := fun o => HO.out _ (below_more hP o)
  clear hP hS8
  refine hK _ _ (hS9 _) ?_
  clear hK K
  refine wpAnyH_takeN (i := 24) (v := ?v6_24) (l' := bm 25 33554431) (a' := ?a6_24) rfl (by kernel_rfl) (by kernel_rfl) (by kernel_rfl) (fun _ _ _ h => h) (Or.inl ⟨by kernel_rfl, ?h6_24⟩) (by kernel_rfl) ?p6_24 (hS9 _) ?r6_24
  case h6_24 => (intro w hS; go_simp; try with_reducible rfl)
  case p6_24 => (go_simp; try with_reducible rfl)
  refine wpAnyH_done (by kernel_rfl) ?_ _
  clear hS9
  obtain ⟨g1, hg1⟩ : ∃ g, w12.heap.size = g := ⟨_, rfl⟩
  obtain ⟨V1, hV⟩ : ∃ V, w12.alloc (.cells #[Value.float FloatKind.f64 x0.lo, Value.float FloatKind.f64 x0.hi, Value.float FloatKind.f64 x1.lo, Value.float FloatKind.f64 x1.hi, Value.float FloatKind.f64 x2.lo, Value.float FloatKind.f64 x2.hi, Value.float FloatKind.f64 x3.lo, Value.float FloatKind.f64 x3.hi, Value.float FloatKind.f64 x4.lo, Value.float FloatKind.f64 x4.hi, Value.float FloatKind.f64 x5.lo, Value.float FloatKind.f64 x5.hi, Value.float FloatKind.f64 x6.lo, Value.float FloatKind.f64 x6.hi, Value.float FloatKind.f64 x7.lo, Value.float FloatKind.f64 x7.hi] 24) = V := ⟨_, rfl⟩
  rw [hV, hg1]
  have K0' := Lib.hid (hV ▸ Blk.alloc (Blk.below K0.out D12.out K0.out.lt) _ : Blk V1 (w.heap.size) 24 #[Value.float FloatKind.f64 A.lo, Value.float FloatKind.f64 A.hi])
  have K1' := Lib.hid (hV ▸ Blk.alloc (Blk.below K1.out D12.out K1.out.lt) _ : Blk V1 (w.heap.size + 1) 24 #[Value.float FloatKind.f64 B.lo, Value.float FloatKind.f64 B.hi])
  have K2' := Lib.hid (hV ▸ Blk.alloc (Blk.below K2.out D12.out K2.out.lt) _ : Blk V1 (g7) 24 #[Value.float FloatKind.f64 C.lo, Value.float FloatKind.f64 C.hi])
  have K3' := Lib.hid (hV ▸ Blk.alloc (Blk.below K3.out D12.out K3.out.lt) _ : Blk V1 (g8) 24 #[Value.float FloatKind.f64 D.lo, Value.float FloatKind.f64 D.hi])
  have K4 := Lib.hid (show Blk V1 g1 24 #[Value.float FloatKind.f64 x0.lo, Value.float FloatKind.f64 x0.hi, Value.float FloatKind.f64 x1.lo, Value.float FloatKind.f64 x1.hi, Value.float FloatKind.f64 x2.lo, Value.float FloatKind.f64 x2.hi, Value.float FloatKind.f64 x3.lo, Value.float FloatKind.f64 x3.hi, Value.float FloatKind.f64 x4.lo, Value.float FloatKind.f64 x4.hi, Value.float FloatKind.f64 x5.lo, Value.float FloatKind.f64 x5.hi, Value.float FloatKind.f64 x6.lo, Value.float FloatKind.f64 x6.hi, Value.float FloatKind.f64 x7.lo, Value.float FloatKind.f64 x7.hi] by rw [← hV, ← hg1]; exact Blk.new_at _ _ _ rfl)
  have HB' := Lib.hid (hV ▸ below_more (below_step HB.out D12.out) _ : Below w.heap.size w V1)
  clear HB HO hV K0 K1 K2 K3
  have HB := HB'
  clear HB'
  have K0 := K0'
  clear K0'
  have K1 := K1'
  clear K1'
  have K2 := K2'
  clear K2'
  have K3 := K3'
  clear K3'
  have HO := Lib.hid (show ∀ w', Below V1.heap.size V1 w' → (Below V1.heap.size V1 w' ∧ w'.cell? ⟨w.heap.size, 0, none⟩ = some (Value.float FloatKind.f64 A.lo) ∧ w'.cell? ⟨w.heap.size, 1, none⟩ = some (Value.float FloatKind.f64 A.hi) ∧ w'.cell? ⟨w.heap.size + 1, 0, none⟩ = some (Value.float FloatKind.f64 B.lo) ∧ w'.cell? ⟨w.heap.size + 1, 1, none⟩ = some (Value.float FloatKind.f64 B.hi) ∧ w'.cell? ⟨g7, 0, none⟩ = some (Value.float FloatKind.f64 C.lo) ∧ w'.cell? ⟨g7, 1, none⟩ = some (Value.float FloatKind.f64 C.hi) ∧ w'.cell? ⟨g8, 0, none⟩ = some (Value.float FloatKind.f64 D.lo) ∧ w'.cell? ⟨g8, 1, none⟩ = some (Value.float FloatKind.f64 D.hi) ∧ w'.cell? ⟨g1, 0, none⟩ = some (Value.float FloatKind.f64 x0.lo) ∧ w'.cell? ⟨g1, 1, none⟩ = some (Value.float FloatKind.f64 x0.hi) ∧ w'.cell? ⟨g1, 2, none⟩ = some (Value.float FloatKind.f64 x1.lo) ∧ w'.cell? ⟨g1, 3, none⟩ = some (Value.float FloatKind.f64 x1.hi) ∧ w'.cell? ⟨g1, 4, none⟩ = some (Value.float FloatKind.f64 x2.lo) ∧ w'.cell? ⟨g1, 5, none⟩ = some (Value.float FloatKind.f64 x2.hi) ∧ w'.cell? ⟨g1, 6, none⟩ = some (Value.float FloatKind.f64 x3.lo) ∧ w'.cell? ⟨g1, 7, none⟩ = some (Value.float FloatKind.f64 x3.hi) ∧ w'.cell? ⟨g1, 8, none⟩ = some (Value.float FloatKind.f64 x4.lo) ∧ w'.cell? ⟨g1, 9, none⟩ = some (Value.float FloatKind.f64 x4.hi) ∧ w'.cell? ⟨g1, 10, none⟩ = some (Value.float FloatKind.f64 x5.lo) ∧ w'.cell? ⟨g1, 11, none⟩ = some (Value.float FloatKind.f64 x5.hi) ∧ w'.cell? ⟨g1, 12, none⟩ = some (Value.float FloatKind.f64 x6.lo) ∧ w'.cell? ⟨g1, 13, none⟩ = some (Value.float FloatKind.f64 x6.hi) ∧ w'.cell? ⟨g1, 14, none⟩ = some (Value.float FloatKind.f64 x7.lo) ∧ w'.cell? ⟨g1, 15, none⟩ = some (Value.float FloatKind.f64 x7.hi)) from fun w' h => ⟨h, (K0.out.below h K0.out.lt).cell 0, (K0.out.below h K0.out.lt).cell 1, (K1.out.below h K1.out.lt).cell 0, (K1.out.below h K1.out.lt).cell 1, (K2.out.below h K2.out.lt).cell 0, (K2.out.below h K2.out.lt).cell 1, (K3.out.below h K3.out.lt).cell 0, (K3.out.below h K3.out.lt).cell 1, (K4.out.below h K4.out.lt).cell 0, (K4.out.below h K4.out.lt).cell 1, (K4.out.below h K4.out.lt).cell 2, (K4.out.below h K4.out.lt).cell 3, (K4.out.below h K4.out.lt).cell 4, (K4.out.below h K4.out.lt).cell 5, (K4.out.below h K4.out.lt).cell 6, (K4.out.below h K4.out.lt).cell 7, (K4.out.below h K4.out.lt).cell 8, (K4.out.below h K4.out.lt).cell 9, (K4.out.below h K4.out.lt).cell 10, (K4.out.below h K4.out.lt).cell 11, (K4.out.below h K4.out.lt).cell 12, (K4.out.below h K4.out.lt).cell 13, (K4.out.below h K4.out.lt).cell 14, (K4.out.below h K4.out.lt).cell 15⟩)
  have D13 := Lib.hid (Below.refl V1.heap.size V1)
  have hq := (HO.out _ D13.out).2
  try rw [hg1]
  go_wp2_with fail
  clear hq
  refine wp_region_held (S := (fun w' => Below V1.heap.size V1 w' ∧ w'.cell? ⟨w.heap.size, 0, none⟩ = some (Value.float FloatKind.f64 A.lo) ∧ w'.cell? ⟨w.heap.size, 1, none⟩ = some (Value.float FloatKind.f64 A.hi) ∧ w'.cell? ⟨w.heap.size + 1, 0, none⟩ = some (Value.float FloatKind.f64 B.lo) ∧ w'.cell? ⟨w.heap.size + 1, 1, none⟩ = some (Value.float FloatKind.f64 B.hi) ∧ w'.cell? ⟨g7, 0, none⟩ = some (Value.float FloatKind.f64 C.lo) ∧ w'.cell? ⟨g7, 1, none⟩ = some (Value.float FloatKind.f64 C.hi) ∧ w'.cell? ⟨g8, 0, none⟩ = some (Value.float FloatKind.f64 D.lo) ∧ w'.cell? ⟨g8, 1, none⟩ = some (Value.float FloatKind.f64 D.hi) ∧ w'.cell? ⟨g1, 0, none⟩ = some (Value.float FloatKind.f64 x0.lo) ∧ w'.cell? ⟨g1, 1, none⟩ = some (Value.float FloatKind.f64 x0.hi) ∧ w'.cell? ⟨g1, 2, none⟩ = some (Value.float FloatKind.f64 x1.lo) ∧ w'.cell? ⟨g1, 3, none⟩ = some (Value.float FloatKind.f64 x1.hi) ∧ w'.cell? ⟨g1, 4, none⟩ = some (Value.float FloatKind.f64 x2.lo) ∧ w'.cell? ⟨g1, 5, none⟩ = some (Value.float FloatKind.f64 x2.hi) ∧ w'.cell? ⟨g1, 6, none⟩ = some (Value.float FloatKind.f64 x3.lo) ∧ w'.cell? ⟨g1, 7, none⟩ = some (Value.float FloatKind.f64 x3.hi) ∧ w'.cell? ⟨g1, 8, none⟩ = some (Value.float FloatKind.f64 x4.lo) ∧ w'.cell? ⟨g1, 9, none⟩ = some (Value.float FloatKind.f64 x4.hi) ∧ w'.cell? ⟨g1, 10, none⟩ = some (Value.float FloatKind.f64 x5.lo) ∧ w'.cell? ⟨g1, 11, none⟩ = some (Value.float FloatKind.f64 x5.hi) ∧ w'.cell? ⟨g1, 12, none⟩ = some (Value.float FloatKind.f64 x6.lo) ∧ w'.cell? ⟨g1, 13, none⟩ = some (Value.float FloatKind.f64 x6.hi) ∧ w'.cell? ⟨g1, 14, none⟩ = some (Value.float FloatKind.f64 x7.lo) ∧ w'.cell? ⟨g1, 15, none⟩ = some (Value.float FloatKind.f64 x7.hi))) (by kernel_rfl) ?_
  (try change wpAnyH _ _ _ _ _ _ _ (World.drew _))
  have hS0 := HO.out _ (Below.drew D13.out)
  refine wpAnyH_takeN (i := 0) (v := ?v7_0) (l' := bm 25 1) (a' := ?a7_0) rfl (by kernel_rfl) (by kernel_rfl) (by kernel_rfl) (fun _ _ _ h => h) (Or.inl ⟨by kernel_rfl, ?h7_0⟩) (by kernel_rfl) ?p7_0 hS0 ?r7_0
  case h7_0 => (intro w hS; go_simp; try with_reducible rfl)
  case p7_0 => (go_simp; try with_reducible rfl)
  refine wpAnyH_takeN (i := 1) (v := ?v7_1) (l' := bm 25 3) (a' := ?a7_1) rfl (by kernel_rfl) (by kernel_rfl) (by kernel_rfl) (fun _ _ _ h => h) (Or.inl ⟨by kernel_rfl, ?h7_1⟩) (by kernel_rfl) ?p7_1 hS0 ?r7_1
  case h7_1 => (intro w hS; go_simp; try with_reducible rfl)
  case p7_1 => (go_simp; try with_reducible rfl)
  refine wpAnyH_takeN (i := 3) (v := ?v7_3) (l' := bm 25 11) (a' := ?a7_3) rfl (by kernel_rfl) (by kernel_rfl) (by kernel_rfl) (fun _ _ _ h => h) (Or.inl ⟨by kernel_rfl, ?h7_3⟩) (by kernel_rfl) ?p7_3 hS0 ?r7_3
  case h7_3 => (intro w hS; go_simp; try with_reducible rfl)
  case p7_3 => (go_simp; try with_reducible rfl)
  refine wpAnyH_takeN (i := 4) (v := ?v7_4) (l' := bm 25 27) (a' := ?a7_4) rfl (by kernel_rfl) (by kernel_rfl) (by kernel_rfl) (fun _ _ _ h => h) (Or.inl ⟨by kernel_rfl, ?h7_4⟩) (by kernel_rfl) ?p7_4 hS0 ?r7_4
  case h7_4 => (intro w hS; go_simp; try with_reducible rfl)
  case p7_4 => (go_simp; try with_reducible rfl)
  refine wpAnyH_takeN (i := 6) (v := ?v7_6) (l' := bm 25 91) (a' := ?a7_6) rfl (by kernel_rfl) (by kernel_rfl) (by kernel_rfl) (fun _ _ _ h => h) (Or.inl ⟨by kernel_rfl, ?h7_6⟩) (by kernel_rfl) ?p7_6 hS0 ?r7_6
  case h7_6 => (intro w hS; go_simp; try with_reducible rfl)
  case p7_6 => (go_simp; try with_reducible rfl)
  refine wpAnyH_takeN (i := 7) (v := ?v7_7) (l' := bm 25 219) (a' := ?a7_7) rfl (by kernel_rfl) (by kernel_rfl) (by kernel_rfl) (fun _ _ _ h => h) (Or.inl ⟨by kernel_rfl, ?h7_7⟩) (by kernel_rfl) ?p7_7 hS0 ?r7_7
  case h7_7 => (intro w hS; go_simp; try with_reducible rfl)
  case p7_7 => (go_simp; try with_reducible rfl)
  refine wpAnyH_takeN (i := 9) (v := ?v7_9) (l' := bm 25 731) (a' := ?a7_9) rfl (by kernel_rfl) (by kernel_rfl) (by kernel_rfl) (fun _ _ _ h => h) (Or.inl ⟨by kernel_rfl, ?h7_9⟩) (by kernel_rfl) ?p7_9 hS0 ?r7_9
  case h7_9 => (intro w hS; go_simp; try with_reducible rfl)
  case p7_9 => (go_simp; try with_reducible rfl)
  refine wpAnyH_takeN (i := 10) (v := ?v7_10) (l' := bm 25 1755) (a' := ?a7_10) rfl (by kernel_rfl) (by kernel_rfl) (by kernel_rfl) (fun _ _ _ h => h) (Or.inl ⟨by kernel_rfl, ?h7_10⟩) (by kernel_rfl) ?p7_10 hS0 ?r7_10
  case h7_10 => (intro w hS; go_simp; try with_reducible rfl)
  case p7_10 => (go_simp; try with_reducible rfl)
  refine wpAnyH_takeN (i := 12) (v := ?v7_12) (l' := bm 25 5851) (a' := ?a7_12) rfl (by kernel_rfl) (by kernel_rfl) (by kernel_rfl) (fun _ _ _ h => h) (Or.inl ⟨by kernel_rfl, ?h7_12⟩) (by kernel_rfl) ?p7_12 hS0 ?r7_12
  case h7_12 => (intro w hS; go_simp; try with_reducible rfl)
  case p7_12 => (go_simp; try with_reducible rfl)
  refine wpAnyH_takeN (i := 14) (v := ?v7_14) (l' := bm 25 22235) (a' := ?a7_14) rfl (by kernel_rfl) (by kernel_rfl) (by kernel_rfl) (fun _ _ _ h => h) (Or.inl ⟨by kernel_rfl, ?h7_14⟩) (by kernel_rfl) ?p7_14 hS0 ?r7_14
  case h7_14 => (intro w hS; go_simp; try with_reducible rfl)
  case p7_14 => (go_simp; try with_reducible rfl)
  refine wpAnyH_takeN (i := 15) (v := ?v7_15) (l' := bm 25 55003) (a' := ?a7_15) rfl (by kernel_rfl) (by kernel_rfl) (by kernel_rfl) (fun _ _ _ h => h) (Or.inl ⟨by kernel_rfl, ?h7_15⟩) (by kernel_rfl) ?p7_15 hS0 ?r7_15
  case h7_15 => (intro w hS; go_simp; try with_reducible rfl)
  case p7_15 => (go_simp; try with_reducible rfl)
  refine wpAnyH_takeN (i := 17) (v := ?v7_17) (l' := bm 25 186075) (a' := ?a7_17) rfl (by kernel_rfl) (by kernel_rfl) (by kernel_rfl) (fun _ _ _ h => h) (Or.inl ⟨by kernel_rfl, ?h7_17⟩) (by kernel_rfl) ?p7_17 hS0 ?r7_17
  case h7_17 => (intro w hS; go_simp; try with_reducible rfl)
  case p7_17 => (go_simp; try with_reducible rfl)
  refine wpAnyH_takeN (i := 18) (v := ?v7_18) (l' := bm 25 448219) (a' := ?a7_18) rfl (by kernel_rfl) (by kernel_rfl) (by kernel_rfl) (fun _ _ _ h => h) (Or.inl ⟨by kernel_rfl, ?h7_18⟩) (by kernel_rfl) ?p7_18 hS0 ?r7_18
  case h7_18 => (intro w hS; go_simp; try with_reducible rfl)
  case p7_18 => (go_simp; try with_reducible rfl)
  refine wpAnyH_takeN (i := 20) (v := ?v7_20) (l' := bm 25 1496795) (a' := ?a7_20) rfl (by kernel_rfl) (by kernel_rfl) (by kernel_rfl) (fun _ _ _ h => h) (Or.inl ⟨by kernel_rfl, ?h7_20⟩) (by kernel_rfl) ?p7_20 hS0 ?r7_20
  case h7_20 => (intro w hS; go_simp; try with_reducible rfl)
  case p7_20 => (go_simp; try with_reducible rfl)
  refine wpAnyH_takeN (i := 21) (v := ?v7_21) (l' := bm 25 3593947) (a' := ?a7_21) rfl (by kernel_rfl) (by kernel_rfl) (by kernel_rfl) (fun _ _ _ h => h) (Or.inl ⟨by kernel_rfl, ?h7_21⟩) (by kernel_rfl) ?p7_21 hS0 ?r7_21
  case h7_21 => (intro w hS; go_simp; try with_reducible rfl)
  case p7_21 => (go_simp; try with_reducible rfl)
  refine wpAnyH_oneN (i := 2) (l' := bm 25 3593951) rfl (by kernel_rfl) (by kernel_rfl) (by kernel_rfl) (fun K hK => ?_)
  have hP := hS0.1
  go_simp
  go_at_call 37
  refine (Y0.out _).mono ?_
  rintro r w14 ⟨rfl, hb⟩
  dsimp only
  have D14 := Lib.hid (below_step hP hb)
  clear hb
  have hS1 := HO.out _ (D14.out)
  clear hP hS0
  refine hK _ _ hS1 ?_
  clear hK K
  refine wpAnyH_oneN (i := 5) (l' := bm 25 3593983) rfl (by kernel_rfl) (by kernel_rfl) (by kernel_rfl) (fun K hK => ?_)
  have hP := hS1.1
  go_simp
  go_at_call 38
  refine (Y1.out _).mono ?_
  rintro r w15 ⟨rfl, hb⟩
  dsimp only
  have D15 := Lib.hid (below_step hP hb)
  clear hb
  have hS2 := HO.out _ (D15.out)
  clear hP hS1
  refine hK _ _ hS2 ?_
  clear hK K
  refine wpAnyH_oneN (i := 8) (l' := bm 25 3594239) rfl (by kernel_rfl) (by kernel_rfl) (by kernel_rfl) (fun K hK => ?_)
  have hP := hS2.1
  go_simp
  go_at_call 39
  refine (Y2.out _).mono ?_
  rintro r w16 ⟨rfl, hb⟩
  dsimp only
  have D16 := Lib.hid (below_step hP hb)
  clear hb
  have hS3 := HO.out _ (D16.out)
  clear hP hS2
  refine hK _ _ hS3 ?_
  clear hK K
  refine wpAnyH_oneN (i := 11) (l' := bm 25 3596287) rfl (by kernel_rfl) (by kernel_rfl) (by kernel_rfl) (fun K hK => ?_)
  have hP := hS3.1
  go_simp
  go_at_call 53
  refine (Y3.out _).mono ?_
  rintro r w17 ⟨rfl, hb⟩
  dsimp only
  have D17 := Lib.hid (below_step hP hb)
  clear hb
  have hS4 := HO.out _ (D17.out)
  clear hP hS3
  refine hK _ _ hS4 ?_
  clear hK K
  refine wpAnyH_oneN (i := 13) (l' := bm 25 3604479) rfl (by kernel_rfl) (by kernel_rfl) (by kernel_rfl) (fun K hK => ?_)
  have hP := hS4.1
  go_simp
  go_at_call 40
  refine (Y4.out _).mono ?_
  rintro r w18 ⟨rfl, hb⟩
  dsimp only
  have D18 := Lib.hid (below_step hP hb)
  clear hb
  have hS5 := HO.out _ (D18.out)
  clear hP hS4
  refine hK _ _ hS5 ?_
  clear hK K
  refine wpAnyH_oneN (i := 16) (l' := bm 25 3670015) rfl (by kernel_rfl) (by kernel_rfl) (by kernel_rfl) (fun K hK => ?_)
  have hP := hS5.1
  go_simp
  go_at_call 45
  refine (Y5.out _).mono ?_
  rintro r w19 ⟨rfl, hb⟩
  dsimp only
  have D19 := Lib.hid (below_step hP hb)
  clear hb
  have hS6 := HO.out _ (D19.out)
  clear hP hS5
  refine hK _ _ hS6 ?_
  clear hK K
  refine wpAnyH_oneN (i := 19) (l' := bm 25 4194303) rfl (by kernel_rfl) (by kernel_rfl) (by kernel_rfl) (fun K hK => ?_)
  have hP := hS6.1
  go_simp
  go_at_call 46
  refine (Y6.out _).mono ?_
  rintro r w20 ⟨rfl, hb⟩
  dsimp only
  have D20 := Lib.hid (below_step hP hb)
  clear hb
  have hS7 := HO.out _ (D20.out)
  clear hP hS6
  refine hK _ _ hS7 ?_
  clear hK K
  refine wpAnyH_oneN (i := 22) (l' := bm 25 8388607) rfl (by kernel_rfl) (by kernel_rfl) (by kernel_rfl) (fun K hK => ?_)
  have hP := hS7.1
  go_simp
  go_at_call 17
  refine (Y7.out _).mono ?_
  rintro r w21 ⟨rfl, hb⟩
  dsimp only
  have D21 := Lib.hid (below_step hP hb)
  clear hb
  have hS8 := HO.out _ (D21.out)
  clear hP hS7
  refine hK _ _ hS8 ?_
  clear hK K
  refine wpAnyH_oneN (i := 23) (l' := bm 25 16777215) rfl (by kernel_rfl) (by kernel_rfl) (by kernel_rfl) (fun K hK => ?_)
  have hP := hS8.1
  go_simp
  have hS9 := fun o => HO.out _ (below_more hP o)
  clear hP hS8
  refine hK _ _ (hS9 _) ?_
  clear hK K
  refine wpAnyH_takeN (i := 24) (v := ?v7_24) (l' := bm 25 33554431) (a' := ?a7_24) rfl (by kernel_rfl) (by kernel_rfl) (by kernel_rfl) (fun _ _ _ h => h) (Or.inl ⟨by kernel_rfl, ?h7_24⟩) (by kernel_rfl) ?p7_24 (hS9 _) ?r7_24
  case h7_24 => (intro w hS; go_simp; try with_reducible rfl)
  case p7_24 => (go_simp; try with_reducible rfl)
  refine wpAnyH_done (by kernel_rfl) ?_ _
  clear hS9
  obtain ⟨g2, hg2⟩ : ∃ g, w21.heap.size = g := ⟨_, rfl⟩
  obtain ⟨V2, hV⟩ : ∃ V, w21.alloc (.cells #[Value.float FloatKind.f64 y0.lo, Value.float FloatKind.f64 y0.hi, Value.float FloatKind.f64 y1.lo, Value.float FloatKind.f64 y1.hi, Value.float FloatKind.f64 y2.lo, Value.float FloatKind.f64 y2.hi, Value.float FloatKind.f64 y3.lo, Value.float FloatKind.f64 y3.hi, Value.float FloatKind.f64 y4.lo, Value.float FloatKind.f64 y4.hi, Value.float FloatKind.f64 y5.lo, Value.float FloatKind.f64 y5.hi, Value.float FloatKind.f64 y6.lo, Value.float FloatKind.f64 y6.hi, Value.float FloatKind.f64 y7.lo, Value.float FloatKind.f64 y7.hi] 24) = V := ⟨_, rfl⟩
  rw [hV, hg2]
  have K0' := Lib.hid (hV ▸ Blk.alloc (Blk.below K0.out D21.out K0.out.lt) _ : Blk V2 (w.heap.size) 24 #[Value.float FloatKind.f64 A.lo, Value.float FloatKind.f64 A.hi])
  have K1' := Lib.hid (hV ▸ Blk.alloc (Blk.below K1.out D21.out K1.out.lt) _ : Blk V2 (w.heap.size + 1) 24 #[Value.float FloatKind.f64 B.lo, Value.float FloatKind.f64 B.hi])
  have K2' := Lib.hid (hV ▸ Blk.alloc (Blk.below K2.out D21.out K2.out.lt) _ : Blk V2 (g7) 24 #[Value.float FloatKind.f64 C.lo, Value.float FloatKind.f64 C.hi])
  have K3' := Lib.hid (hV ▸ Blk.alloc (Blk.below K3.out D21.out K3.out.lt) _ : Blk V2 (g8) 24 #[Value.float FloatKind.f64 D.lo, Value.float FloatKind.f64 D.hi])
  have K4' := Lib.hid (hV ▸ Blk.alloc (Blk.below K4.out D21.out K4.out.lt) _ : Blk V2 (g1) 24 #[Value.float FloatKind.f64 x0.lo, Value.float FloatKind.f64 x0.hi, Value.float FloatKind.f64 x1.lo, Value.float FloatKind.f64 x1.hi, Value.float FloatKind.f64 x2.lo, Value.float FloatKind.f64 x2.hi, Value.float FloatKind.f64 x3.lo, Value.float FloatKind.f64 x3.hi, Value.float FloatKind.f64 x4.lo, Value.float FloatKind.f64 x4.hi, Value.float FloatKind.f64 x5.lo, Value.float FloatKind.f64 x5.hi, Value.float FloatKind.f64 x6.lo, Value.float FloatKind.f64 x6.hi, Value.float FloatKind.f64 x7.lo, Value.float FloatKind.f64 x7.hi])
  have K5 := Lib.hid (show Blk V2 g2 24 #[Value.float FloatKind.f64 y0.lo, Value.float FloatKind.f64 y0.hi, Value.float FloatKind.f64 y1.lo, Value.float FloatKind.f64 y1.hi, Value.float FloatKind.f64 y2.lo, Value.float FloatKind.f64 y2.hi, Value.float FloatKind.f64 y3.lo, Value.float FloatKind.f64 y3.hi, Value.float FloatKind.f64 y4.lo, Value.float FloatKind.f64 y4.hi, Value.float FloatKind.f64 y5.lo, Value.float FloatKind.f64 y5.hi, Value.float FloatKind.f64 y6.lo, Value.float FloatKind.f64 y6.hi, Value.float FloatKind.f64 y7.lo, Value.float FloatKind.f64 y7.hi] by rw [← hV, ← hg2]; exact Blk.new_at _ _ _ rfl)
  have HB' := Lib.hid (hV ▸ below_more (below_step HB.out D21.out) _ : Below w.heap.size w V2)
  clear HB HO hV K0 K1 K2 K3 K4
  have HB := HB'
  clear HB'
  have K0 := K0'
  clear K0'
  have K1 := K1'
  clear K1'
  have K2 := K2'
  clear K2'
  have K3 := K3'
  clear K3'
  have K4 := K4'
  clear K4'
  have HO := Lib.hid (show ∀ w', Below V2.heap.size V2 w' → (Below V2.heap.size V2 w' ∧ w'.cell? ⟨w.heap.size, 0, none⟩ = some (Value.float FloatKind.f64 A.lo) ∧ w'.cell? ⟨w.heap.size, 1, none⟩ = some (Value.float FloatKind.f64 A.hi) ∧ w'.cell? ⟨w.heap.size + 1, 0, none⟩ = some (Value.float FloatKind.f64 B.lo) ∧ w'.cell? ⟨w.heap.size + 1, 1, none⟩ = some (Value.float FloatKind.f64 B.hi) ∧ w'.cell? ⟨g7, 0, none⟩ = some (Value.float FloatKind.f64 C.lo) ∧ w'.cell? ⟨g7, 1, none⟩ = some (Value.float FloatKind.f64 C.hi) ∧ w'.cell? ⟨g8, 0, none⟩ = some (Value.float FloatKind.f64 D.lo) ∧ w'.cell? ⟨g8, 1, none⟩ = some (Value.float FloatKind.f64 D.hi) ∧ w'.cell? ⟨g1, 0, none⟩ = some (Value.float FloatKind.f64 x0.lo) ∧ w'.cell? ⟨g1, 1, none⟩ = some (Value.float FloatKind.f64 x0.hi) ∧ w'.cell? ⟨g1, 2, none⟩ = some (Value.float FloatKind.f64 x1.lo) ∧ w'.cell? ⟨g1, 3, none⟩ = some (Value.float FloatKind.f64 x1.hi) ∧ w'.cell? ⟨g1, 4, none⟩ = some (Value.float FloatKind.f64 x2.lo) ∧ w'.cell? ⟨g1, 5, none⟩ = some (Value.float FloatKind.f64 x2.hi) ∧ w'.cell? ⟨g1, 6, none⟩ = some (Value.float FloatKind.f64 x3.lo) ∧ w'.cell? ⟨g1, 7, none⟩ = some (Value.float FloatKind.f64 x3.hi) ∧ w'.cell? ⟨g1, 8, none⟩ = some (Value.float FloatKind.f64 x4.lo) ∧ w'.cell? ⟨g1, 9, none⟩ = some (Value.float FloatKind.f64 x4.hi) ∧ w'.cell? ⟨g1, 10, none⟩ = some (Value.float FloatKind.f64 x5.lo) ∧ w'.cell? ⟨g1, 11, none⟩ = some (Value.float FloatKind.f64 x5.hi) ∧ w'.cell? ⟨g1, 12, none⟩ = some (Value.float FloatKind.f64 x6.lo) ∧ w'.cell? ⟨g1, 13, none⟩ = some (Value.float FloatKind.f64 x6.hi) ∧ w'.cell? ⟨g1, 14, none⟩ = some (Value.float FloatKind.f64 x7.lo) ∧ w'.cell? ⟨g1, 15, none⟩ = some (Value.float FloatKind.f64 x7.hi) ∧ w'.cell? ⟨g2, 0, none⟩ = some (Value.float FloatKind.f64 y0.lo) ∧ w'.cell? ⟨g2, 1, none⟩ = some (Value.float FloatKind.f64 y0.hi) ∧ w'.cell? ⟨g2, 2, none⟩ = some (Value.float FloatKind.f64 y1.lo) ∧ w'.cell? ⟨g2, 3, none⟩ = some (Value.float FloatKind.f64 y1.hi) ∧ w'.cell? ⟨g2, 4, none⟩ = some (Value.float FloatKind.f64 y2.lo) ∧ w'.cell? ⟨g2, 5, none⟩ = some (Value.float FloatKind.f64 y2.hi) ∧ w'.cell? ⟨g2, 6, none⟩ = some (Value.float FloatKind.f64 y3.lo) ∧ w'.cell? ⟨g2, 7, none⟩ = some (Value.float FloatKind.f64 y3.hi) ∧ w'.cell? ⟨g2, 8, none⟩ = some (Value.float FloatKind.f64 y4.lo) ∧ w'.cell? ⟨g2, 9, none⟩ = some (Value.float FloatKind.f64 y4.hi) ∧ w'.cell? ⟨g2, 10, none⟩ = some (Value.float FloatKind.f64 y5.lo) ∧ w'.cell? ⟨g2, 11, none⟩ = some (Value.float FloatKind.f64 y5.hi) ∧ w'.cell? ⟨g2, 12, none⟩ = some (Value.float FloatKind.f64 y6.lo) ∧ w'.cell? ⟨g2, 13, none⟩ = some (Value.float FloatKind.f64 y6.hi) ∧ w'.cell? ⟨g2, 14, none⟩ = some (Value.float FloatKind.f64 y7.lo) ∧ w'.cell? ⟨g2, 15, none⟩ = some (Value.float FloatKind.f64 y7.hi)) from fun w' h => ⟨h, (K0.out.below h K0.out.lt).cell 0, (K0.out.below h K0.out.lt).cell 1, (K1.out.below h K1.out.lt).cell 0, (K1.out.below h K1.out.lt).cell 1, (K2.out.below h K2.out.lt).cell 0, (K2.out.below h K2.out.lt).cell 1, (K3.out.below h K3.out.lt).cell 0, (K3.out.below h K3.out.lt).cell 1, (K4.out.below h K4.out.lt).cell 0, (K4.out.below h K4.out.lt).cell 1, (K4.out.below h K4.out.lt).cell 2, (K4.out.below h K4.out.lt).cell 3, (K4.out.below h K4.out.lt).cell 4, (K4.out.below h K4.out.lt).cell 5, (K4.out.below h K4.out.lt).cell 6, (K4.out.below h K4.out.lt).cell 7, (K4.out.below h K4.out.lt).cell 8, (K4.out.below h K4.out.lt).cell 9, (K4.out.below h K4.out.lt).cell 10, (K4.out.below h K4.out.lt).cell 11, (K4.out.below h K4.out.lt).cell 12, (K4.out.below h K4.out.lt).cell 13, (K4.out.below h K4.out.lt).cell 14, (K4.out.below h K4.out.lt).cell 15, (K5.out.below h K5.out.lt).cell 0, (K5.out.below h K5.out.lt).cell 1, (K5.out.below h K5.out.lt).cell 2, (K5.out.below h K5.out.lt).cell 3, (K5.out.below h K5.out.lt).cell 4, (K5.out.below h K5.out.lt).cell 5, (K5.out.below h K5.out.lt).cell 6, (K5.out.below h K5.out.lt).cell 7, (K5.out.below h K5.out.lt).cell 8, (K5.out.below h K5.out.lt).cell 9, (K5.out.below h K5.out.lt).cell 10, (K5.out.below h K5.out.lt).cell 11, (K5.out.below h K5.out.lt).cell 12, (K5.out.below h K5.out.lt).cell 13, (K5.out.below h K5.out.lt).cell 14, (K5.out.below h K5.out.lt).cell 15⟩)
  have D22 := Lib.hid (Below.refl V2.heap.size V2)
  have hq := (HO.out _ D22.out).2
  try rw [hg2]
  go_wp2_with fail
  clear hg2
  refine wp_loop_rounds 9 ?_
  rw [rounds_succ]
  go_wp2_with fail
  clear hq
  refine wp_region_held (S := (fun w' => Below V2.heap.size V2 w' ∧ w'.cell? ⟨w.heap.size, 0, none⟩ = some (Value.float FloatKind.f64 A.lo) ∧ w'.cell? ⟨w.heap.size, 1, none⟩ = some (Value.float FloatKind.f64 A.hi) ∧ w'.cell? ⟨w.heap.size + 1, 0, none⟩ = some (Value.float FloatKind.f64 B.lo) ∧ w'.cell? ⟨w.heap.size + 1, 1, none⟩ = some (Value.float FloatKind.f64 B.hi) ∧ w'.cell? ⟨g7, 0, none⟩ = some (Value.float FloatKind.f64 C.lo) ∧ w'.cell? ⟨g7, 1, none⟩ = some (Value.float FloatKind.f64 C.hi) ∧ w'.cell? ⟨g8, 0, none⟩ = some (Value.float FloatKind.f64 D.lo) ∧ w'.cell? ⟨g8, 1, none⟩ = some (Value.float FloatKind.f64 D.hi) ∧ w'.cell? ⟨g1, 0, none⟩ = some (Value.float FloatKind.f64 x0.lo) ∧ w'.cell? ⟨g1, 1, none⟩ = some (Value.float FloatKind.f64 x0.hi) ∧ w'.cell? ⟨g1, 2, none⟩ = some (Value.float FloatKind.f64 x1.lo) ∧ w'.cell? ⟨g1, 3, none⟩ = some (Value.float FloatKind.f64 x1.hi) ∧ w'.cell? ⟨g1, 4, none⟩ = some (Value.float FloatKind.f64 x2.lo) ∧ w'.cell? ⟨g1, 5, none⟩ = some (Value.float FloatKind.f64 x2.hi) ∧ w'.cell? ⟨g1, 6, none⟩ = some (Value.float FloatKind.f64 x3.lo) ∧ w'.cell? ⟨g1, 7, none⟩ = some (Value.float FloatKind.f64 x3.hi) ∧ w'.cell? ⟨g1, 8, none⟩ = some (Value.float FloatKind.f64 x4.lo) ∧ w'.cell? ⟨g1, 9, none⟩ = some (Value.float FloatKind.f64 x4.hi) ∧ w'.cell? ⟨g1, 10, none⟩ = some (Value.float FloatKind.f64 x5.lo) ∧ w'.cell? ⟨g1, 11, none⟩ = some (Value.float FloatKind.f64 x5.hi) ∧ w'.cell? ⟨g1, 12, none⟩ = some (Value.float FloatKind.f64 x6.lo) ∧ w'.cell? ⟨g1, 13, none⟩ = some (Value.float FloatKind.f64 x6.hi) ∧ w'.cell? ⟨g1, 14, none⟩ = some (Value.float FloatKind.f64 x7.lo) ∧ w'.cell? ⟨g1, 15, none⟩ = some (Value.float FloatKind.f64 x7.hi) ∧ w'.cell? ⟨g2, 0, none⟩ = some (Value.float FloatKind.f64 y0.lo) ∧ w'.cell? ⟨g2, 1, none⟩ = some (Value.float FloatKind.f64 y0.hi) ∧ w'.cell? ⟨g2, 2, none⟩ = some (Value.float FloatKind.f64 y1.lo) ∧ w'.cell? ⟨g2, 3, none⟩ = some (Value.float FloatKind.f64 y1.hi) ∧ w'.cell? ⟨g2, 4, none⟩ = some (Value.float FloatKind.f64 y2.lo) ∧ w'.cell? ⟨g2, 5, none⟩ = some (Value.float FloatKind.f64 y2.hi) ∧ w'.cell? ⟨g2, 6, none⟩ = some (Value.float FloatKind.f64 y3.lo) ∧ w'.cell? ⟨g2, 7, none⟩ = some (Value.float FloatKind.f64 y3.hi) ∧ w'.cell? ⟨g2, 8, none⟩ = some (Value.float FloatKind.f64 y4.lo) ∧ w'.cell? ⟨g2, 9, none⟩ = some (Value.float FloatKind.f64 y4.hi) ∧ w'.cell? ⟨g2, 10, none⟩ = some (Value.float FloatKind.f64 y5.lo) ∧ w'.cell? ⟨g2, 11, none⟩ = some (Value.float FloatKind.f64 y5.hi) ∧ w'.cell? ⟨g2, 12, none⟩ = some (Value.float FloatKind.f64 y6.lo) ∧ w'.cell? ⟨g2, 13, none⟩ = some (Value.float FloatKind.f64 y6.hi) ∧ w'.cell? ⟨g2, 14, none⟩ = some (Value.float FloatKind.f64 y7.lo) ∧ w'.cell? ⟨g2, 15, none⟩ = some (Value.float FloatKind.f64 y7.hi))) (by kernel_rfl) ?_
  (try change wpAnyH _ _ _ _ _ _ _ (World.drew _))
  have hS0 := HO.out _ (Below.drew D22.out)
  refine wpAnyH_takeN (i := 0) (v := ?v11_0) (l' := bm 10 1) (a' := ?a11_0) rfl (by kernel_rfl) (by kernel_rfl) (by kernel_rfl) (fun _ _ _ h => h) (Or.inl ⟨by kernel_rfl, ?h11_0⟩) (by kernel_rfl) ?p11_0 hS0 ?r11_0
  case h11_0 => (intro w hS; go_simp; try with_reducible rfl)
  case p11_0 => (go_simp; try with_reducible rfl)
  refine wpAnyH_takeN (i := 1) (v := ?v11_1) (l' := bm 10 3) (a' := ?a11_1) rfl (by kernel_rfl) (by kernel_rfl) (by kernel_rfl) (fun _ _ _ h => h) (Or.inl ⟨by kernel_rfl, ?h11_1⟩) (by kernel_rfl) ?p11_1 hS0 ?r11_1
  case h11_1 => (intro w hS; go_simp; try with_reducible rfl)
  case p11_1 => (go_simp; try with_reducible rfl)
  refine wpAnyH_takeN (i := 2) (v := ?v11_2) (l' := bm 10 7) (a' := ?a11_2) rfl (by kernel_rfl) (by kernel_rfl) (by kernel_rfl) (fun _ _ _ h => h) (Or.inl ⟨by kernel_rfl, ?h11_2⟩) (by kernel_rfl) ?p11_2 hS0 ?r11_2
  case h11_2 => (intro w hS; go_simp; try with_reducible rfl)
  case p11_2 => (go_simp; try with_reducible rfl)
  refine wpAnyH_takeN (i := 3) (v := ?v11_3) (l' := bm 10 15) (a' := ?a11_3) rfl (by kernel_rfl) (by kernel_rfl) (by kernel_rfl) (fun _ _ _ h => h) (Or.inl ⟨by kernel_rfl, ?h11_3⟩) (by kernel_rfl) ?p11_3 hS0 ?r11_3
  case h11_3 => (intro w hS; go_simp; try with_reducible rfl)
  case p11_3 => (go_simp; try with_reducible rfl)
  refine wpAnyH_takeN (i := 4) (v := ?v11_4) (l' := bm 10 31) (a' := ?a11_4) rfl (by kernel_rfl) (by kernel_rfl) (by kernel_rfl) (fun _ _ _ h => h) (Or.inl ⟨by kernel_rfl, ?h11_4⟩) (by kernel_rfl) ?p11_4 hS0 ?r11_4
  case h11_4 => (intro w hS; go_simp; try with_reducible rfl)
  case p11_4 => (go_simp; try with_reducible rfl)
  refine wpAnyH_takeN (i := 5) (v := ?v11_5) (l' := bm 10 63) (a' := ?a11_5) rfl (by kernel_rfl) (by kernel_rfl) (by kernel_rfl) (fun _ _ _ h => h) (Or.inl ⟨by kernel_rfl, ?h11_5⟩) (by kernel_rfl) ?p11_5 hS0 ?r11_5
  case h11_5 => (intro w hS; go_simp; try with_reducible rfl)
  case p11_5 => (go_simp; try with_reducible rfl)
  refine wpAnyH_takeN (i := 6) (v := ?v11_6) (l' := bm 10 127) (a' := ?a11_6) rfl (by kernel_rfl) (by kernel_rfl) (by kernel_rfl) (fun _ _ _ h => h) (Or.inl ⟨by kernel_rfl, ?h11_6⟩) (by kernel_rfl) ?p11_6 hS0 ?r11_6
  case h11_6 => (intro w hS; go_simp; try with_reducible rfl)
  case p11_6 => (go_simp; try with_reducible rfl)
  refine wpAnyH_takeN (i := 7) (v := ?v11_7) (l' := bm 10 255) (a' := ?a11_7) rfl (by kernel_rfl) (by kernel_rfl) (by kernel_rfl) (fun _ _ _ h => h) (Or.inl ⟨by kernel_rfl, ?h11_7⟩) (by kernel_rfl) ?p11_7 hS0 ?r11_7
  case h11_7 => (intro w hS; go_simp; try with_reducible rfl)
  case p11_7 => (go_simp; try with_reducible rfl)
  refine wpAnyH_oneN (i := 8) (l' := bm 10 511) rfl (by kernel_rfl) (by kernel_rfl) (by kernel_rfl) (fun K hK => ?_)
  have hP := hS0.1
  go_simp
  go_at_call 67
  refine (Z0'.out _).mono ?_
  rintro r w23 ⟨rfl, hb⟩
  dsimp only
  have D23 := Lib.hid (below_step hP hb)
  clear hb
  have hS1 := HO.out _ (D23.out)
  clear hP hS0
  refine hK _ _ hS1 ?_
  clear hK K
  refine wpAnyH_takeN (i := 9) (v := ?v11_9) (l' := bm 10 1023) (a' := ?a11_9) rfl (by kernel_rfl) (by kernel_rfl) (by kernel_rfl) (fun _ _ _ h => h) (Or.inl ⟨by kernel_rfl, ?h11_9⟩) (by kernel_rfl) ?p11_9 hS1 ?r11_9
  case h11_9 => (intro w hS; go_simp; try with_reducible rfl)
  case p11_9 => (go_simp; try with_reducible rfl)
  refine wpAnyH_done (by kernel_rfl) ?_ _
  clear hS1
  have hq := (HO.out _ D23.out).2
  go_wp2_with fail
  rw [rounds_succ]
  go_wp2_with fail
  clear hq
  refine wp_region_held (S := (fun w' => Below V2.heap.size V2 w' ∧ w'.cell? ⟨w.heap.size, 0, none⟩ = some (Value.float FloatKind.f64 A.lo) ∧ w'.cell? ⟨w.heap.size, 1, none⟩ = some (Value.float FloatKind.f64 A.hi) ∧ w'.cell? ⟨w.heap.size + 1, 0, none⟩ = some (Value.float FloatKind.f64 B.lo) ∧ w'.cell? ⟨w.heap.size + 1, 1, none⟩ = some (Value.float FloatKind.f64 B.hi) ∧ w'.cell? ⟨g7, 0, none⟩ = some (Value.float FloatKind.f64 C.lo) ∧ w'.cell? ⟨g7, 1, none⟩ = some (Value.float FloatKind.f64 C.hi) ∧ w'.cell? ⟨g8, 0, none⟩ = some (Value.float FloatKind.f64 D.lo) ∧ w'.cell? ⟨g8, 1, none⟩ = some (Value.float FloatKind.f64 D.hi) ∧ w'.cell? ⟨g1, 0, none⟩ = some (Value.float FloatKind.f64 x0.lo) ∧ w'.cell? ⟨g1, 1, none⟩ = some (Value.float FloatKind.f64 x0.hi) ∧ w'.cell? ⟨g1, 2, none⟩ = some (Value.float FloatKind.f64 x1.lo) ∧ w'.cell? ⟨g1, 3, none⟩ = some (Value.float FloatKind.f64 x1.hi) ∧ w'.cell? ⟨g1, 4, none⟩ = some (Value.float FloatKind.f64 x2.lo) ∧ w'.cell? ⟨g1, 5, none⟩ = some (Value.float FloatKind.f64 x2.hi) ∧ w'.cell? ⟨g1, 6, none⟩ = some (Value.float FloatKind.f64 x3.lo) ∧ w'.cell? ⟨g1, 7, none⟩ = some (Value.float FloatKind.f64 x3.hi) ∧ w'.cell? ⟨g1, 8, none⟩ = some (Value.float FloatKind.f64 x4.lo) ∧ w'.cell? ⟨g1, 9, none⟩ = some (Value.float FloatKind.f64 x4.hi) ∧ w'.cell? ⟨g1, 10, none⟩ = some (Value.float FloatKind.f64 x5.lo) ∧ w'.cell? ⟨g1, 11, none⟩ = some (Value.float FloatKind.f64 x5.hi) ∧ w'.cell? ⟨g1, 12, none⟩ = some (Value.float FloatKind.f64 x6.lo) ∧ w'.cell? ⟨g1, 13, none⟩ = some (Value.float FloatKind.f64 x6.hi) ∧ w'.cell? ⟨g1, 14, none⟩ = some (Value.float FloatKind.f64 x7.lo) ∧ w'.cell? ⟨g1, 15, none⟩ = some (Value.float FloatKind.f64 x7.hi) ∧ w'.cell? ⟨g2, 0, none⟩ = some (Value.float FloatKind.f64 y0.lo) ∧ w'.cell? ⟨g2, 1, none⟩ = some (Value.float FloatKind.f64 y0.hi) ∧ w'.cell? ⟨g2, 2, none⟩ = some (Value.float FloatKind.f64 y1.lo) ∧ w'.cell? ⟨g2, 3, none⟩ = some (Value.float FloatKind.f64 y1.hi) ∧ w'.cell? ⟨g2, 4, none⟩ = some (Value.float FloatKind.f64 y2.lo) ∧ w'.cell? ⟨g2, 5, none⟩ = some (Value.float FloatKind.f64 y2.hi) ∧ w'.cell? ⟨g2, 6, none⟩ = some (Value.float FloatKind.f64 y3.lo) ∧ w'.cell? ⟨g2, 7, none⟩ = some (Value.float FloatKind.f64 y3.hi) ∧ w'.cell? ⟨g2, 8, none⟩ = some (Value.float FloatKind.f64 y4.lo) ∧ w'.cell? ⟨g2, 9, none⟩ = some (Value.float FloatKind.f64 y4.hi) ∧ w'.cell? ⟨g2, 10, none⟩ = some (Value.float FloatKind.f64 y5.lo) ∧ w'.cell? ⟨g2, 11, none⟩ = some (Value.float FloatKind.f64 y5.hi) ∧ w'.cell? ⟨g2, 12, none⟩ = some (Value.float FloatKind.f64 y6.lo) ∧ w'.cell? ⟨g2, 13, none⟩ = some (Value.float FloatKind.f64 y6.hi) ∧ w'.cell? ⟨g2, 14, none⟩ = some (Value.float FloatKind.f64 y7.lo) ∧ w'.cell? ⟨g2, 15, none⟩ = some (Value.float FloatKind.f64 y7.hi))) (by kernel_rfl) ?_
  (try change wpAnyH _ _ _ _ _ _ _ (World.drew _))
  have hS0 := HO.out _ (Below.drew D23.out)
  refine wpAnyH_takeN (i := 0) (v := ?v11_0x1) (l' := bm 10 1) (a' := ?a11_0x1) rfl (by kernel_rfl) (by kernel_rfl) (by kernel_rfl) (fun _ _ _ h => h) (Or.inl ⟨by kernel_rfl, ?h11_0x1⟩) (by kernel_rfl) ?p11_0x1 hS0 ?r11_0x1
  case h11_0x1 => (intro w hS; go_simp; try with_reducible rfl)
  case p11_0x1 => (go_simp; try with_reducible rfl)
  refine wpAnyH_takeN (i := 1) (v := ?v11_1x1) (l' := bm 10 3) (a' := ?a11_1x1) rfl (by kernel_rfl) (by kernel_rfl) (by kernel_rfl) (fun _ _ _ h => h) (Or.inl ⟨by kernel_rfl, ?h11_1x1⟩) (by kernel_rfl) ?p11_1x1 hS0 ?r11_1x1
  case h11_1x1 => (intro w hS; go_simp; try with_reducible rfl)
  case p11_1x1 => (go_simp; try with_reducible rfl)
  refine wpAnyH_takeN (i := 2) (v := ?v11_2x1) (l' := bm 10 7) (a' := ?a11_2x1) rfl (by kernel_rfl) (by kernel_rfl) (by kernel_rfl) (fun _ _ _ h => h) (Or.inl ⟨by kernel_rfl, ?h11_2x1⟩) (by kernel_rfl) ?p11_2x1 hS0 ?r11_2x1
  case h11_2x1 => (intro w hS; go_simp; try with_reducible rfl)
  case p11_2x1 => (go_simp; try with_reducible rfl)
  refine wpAnyH_takeN (i := 3) (v := ?v11_3x1) (l' := bm 10 15) (a' := ?a11_3x1) rfl (by kernel_rfl) (by kernel_rfl) (by kernel_rfl) (fun _ _ _ h => h) (Or.inl ⟨by kernel_rfl, ?h11_3x1⟩) (by kernel_rfl) ?p11_3x1 hS0 ?r11_3x1
  case h11_3x1 => (intro w hS; go_simp; try with_reducible rfl)
  case p11_3x1 => (go_simp; try with_reducible rfl)
  refine wpAnyH_takeN (i := 4) (v := ?v11_4x1) (l' := bm 10 31) (a' := ?a11_4x1) rfl (by kernel_rfl) (by kernel_rfl) (by kernel_rfl) (fun _ _ _ h => h) (Or.inl ⟨by kernel_rfl, ?h11_4x1⟩) (by kernel_rfl) ?p11_4x1 hS0 ?r11_4x1
  case h11_4x1 => (intro w hS; go_simp; try with_reducible rfl)
  case p11_4x1 => (go_simp; try with_reducible rfl)
  refine wpAnyH_takeN (i := 5) (v := ?v11_5x1) (l' := bm 10 63) (a' := ?a11_5x1) rfl (by kernel_rfl) (by kernel_rfl) (by kernel_rfl) (fun _ _ _ h => h) (Or.inl ⟨by kernel_rfl, ?h11_5x1⟩) (by kernel_rfl) ?p11_5x1 hS0 ?r11_5x1
  case h11_5x1 => (intro w hS; go_simp; try with_reducible rfl)
  case p11_5x1 => (go_simp; try with_reducible rfl)
  refine wpAnyH_takeN (i := 6) (v := ?v11_6x1) (l' := bm 10 127) (a' := ?a11_6x1) rfl (by kernel_rfl) (by kernel_rfl) (by kernel_rfl) (fun _ _ _ h => h) (Or.inl ⟨by kernel_rfl, ?h11_6x1⟩) (by kernel_rfl) ?p11_6x1 hS0 ?r11_6x1
  case h11_6x1 => (intro w hS; go_simp; try with_reducible rfl)
  case p11_6x1 => (go_simp; try with_reducible rfl)
  refine wpAnyH_takeN (i := 7) (v := ?v11_7x1) (l' := bm 10 255) (a' := ?a11_7x1) rfl (by kernel_rfl) (by kernel_rfl) (by kernel_rfl) (fun _ _ _ h => h) (Or.inl ⟨by kernel_rfl, ?h11_7x1⟩) (by kernel_rfl) ?p11_7x1 hS0 ?r11_7x1
  case h11_7x1 => (intro w hS; go_simp; try with_reducible rfl)
  case p11_7x1 => (go_simp; try with_reducible rfl)
  refine wpAnyH_oneN (i := 8) (l' := bm 10 511) rfl (by kernel_rfl) (by kernel_rfl) (by kernel_rfl) (fun K hK => ?_)
  have hP := hS0.1
  go_simp
  go_at_call 67
  refine (Z1'.out _).mono ?_
  rintro r w24 ⟨rfl, hb⟩
  dsimp only
  have D24 := Lib.hid (below_step hP hb)
  clear hb
  have hS1 := HO.out _ (D24.out)
  clear hP hS0
  refine hK _ _ hS1 ?_
  clear hK K
  refine wpAnyH_takeN (i := 9) (v := ?v11_9x1) (l' := bm 10 1023) (a' := ?a11_9x1) rfl (by kernel_rfl) (by kernel_rfl) (by kernel_rfl) (fun _ _ _ h => h) (Or.inl ⟨by kernel_rfl, ?h11_9x1⟩) (by kernel_rfl) ?p11_9x1 hS1 ?r11_9x1
  case h11_9x1 => (intro w hS; go_simp; try with_reducible rfl)
  case p11_9x1 => (go_simp; try with_reducible rfl)
  refine wpAnyH_done (by kernel_rfl) ?_ _
  clear hS1
  have hq := (HO.out _ D24.out).2
  go_wp2_with fail
  rw [rounds_succ]
  go_wp2_with fail
  clear hq
  refine wp_region_held (S := (fun w' => Below V2.heap.size V2 w' ∧ w'.cell? ⟨w.heap.size, 0, none⟩ = some (Value.float FloatKind.f64 A.lo) ∧ w'.cell? ⟨w.heap.size, 1, none⟩ = some (Value.float FloatKind.f64 A.hi) ∧ w'.cell? ⟨w.heap.size + 1, 0, none⟩ = some (Value.float FloatKind.f64 B.lo) ∧ w'.cell? ⟨w.heap.size + 1, 1, none⟩ = some (Value.float FloatKind.f64 B.hi) ∧ w'.cell? ⟨g7, 0, none⟩ = some (Value.float FloatKind.f64 C.lo) ∧ w'.cell? ⟨g7, 1, none⟩ = some (Value.float FloatKind.f64 C.hi) ∧ w'.cell? ⟨g8, 0, none⟩ = some (Value.float FloatKind.f64 D.lo) ∧ w'.cell? ⟨g8, 1, none⟩ = some (Value.float FloatKind.f64 D.hi) ∧ w'.cell? ⟨g1, 0, none⟩ = some (Value.float FloatKind.f64 x0.lo) ∧ w'.cell? ⟨g1, 1, none⟩ = some (Value.float FloatKind.f64 x0.hi) ∧ w'.cell? ⟨g1, 2, none⟩ = some (Value.float FloatKind.f64 x1.lo) ∧ w'.cell? ⟨g1, 3, none⟩ = some (Value.float FloatKind.f64 x1.hi) ∧ w'.cell? ⟨g1, 4, none⟩ = some (Value.float FloatKind.f64 x2.lo) ∧ w'.cell? ⟨g1, 5, none⟩ = some (Value.float FloatKind.f64 x2.hi) ∧ w'.cell? ⟨g1, 6, none⟩ = some (Value.float FloatKind.f64 x3.lo) ∧ w'.cell? ⟨g1, 7, none⟩ = some (Value.float FloatKind.f64 x3.hi) ∧ w'.cell? ⟨g1, 8, none⟩ = some (Value.float FloatKind.f64 x4.lo) ∧ w'.cell? ⟨g1, 9, none⟩ = some (Value.float FloatKind.f64 x4.hi) ∧ w'.cell? ⟨g1, 10, none⟩ = some (Value.float FloatKind.f64 x5.lo) ∧ w'.cell? ⟨g1, 11, none⟩ = some (Value.float FloatKind.f64 x5.hi) ∧ w'.cell? ⟨g1, 12, none⟩ = some (Value.float FloatKind.f64 x6.lo) ∧ w'.cell? ⟨g1, 13, none⟩ = some (Value.float FloatKind.f64 x6.hi) ∧ w'.cell? ⟨g1, 14, none⟩ = some (Value.float FloatKind.f64 x7.lo) ∧ w'.cell? ⟨g1, 15, none⟩ = some (Value.float FloatKind.f64 x7.hi) ∧ w'.cell? ⟨g2, 0, none⟩ = some (Value.float FloatKind.f64 y0.lo) ∧ w'.cell? ⟨g2, 1, none⟩ = some (Value.float FloatKind.f64 y0.hi) ∧ w'.cell? ⟨g2, 2, none⟩ = some (Value.float FloatKind.f64 y1.lo) ∧ w'.cell? ⟨g2, 3, none⟩ = some (Value.float FloatKind.f64 y1.hi) ∧ w'.cell? ⟨g2, 4, none⟩ = some (Value.float FloatKind.f64 y2.lo) ∧ w'.cell? ⟨g2, 5, none⟩ = some (Value.float FloatKind.f64 y2.hi) ∧ w'.cell? ⟨g2, 6, none⟩ = some (Value.float FloatKind.f64 y3.lo) ∧ w'.cell? ⟨g2, 7, none⟩ = some (Value.float FloatKind.f64 y3.hi) ∧ w'.cell? ⟨g2, 8, none⟩ = some (Value.float FloatKind.f64 y4.lo) ∧ w'.cell? ⟨g2, 9, none⟩ = some (Value.float FloatKind.f64 y4.hi) ∧ w'.cell? ⟨g2, 10, none⟩ = some (Value.float FloatKind.f64 y5.lo) ∧ w'.cell? ⟨g2, 11, none⟩ = some (Value.float FloatKind.f64 y5.hi) ∧ w'.cell? ⟨g2, 12, none⟩ = some (Value.float FloatKind.f64 y6.lo) ∧ w'.cell? ⟨g2, 13, none⟩ = some (Value.float FloatKind.f64 y6.hi) ∧ w'.cell? ⟨g2, 14, none⟩ = some (Value.float FloatKind.f64 y7.lo) ∧ w'.cell? ⟨g2, 15, none⟩ = some (Value.float FloatKind.f64 y7.hi))) (by kernel_rfl) ?_
  (try change wpAnyH _ _ _ _ _ _ _ (World.drew _))
  have hS0 := HO.out _ (Below.drew D24.out)
  refine wpAnyH_takeN (i := 0) (v := ?v11_0x2) (l' := bm 10 1) (a' := ?a11_0x2) rfl (by kernel_rfl) (by kernel_rfl) (by kernel_rfl) (fun _ _ _ h => h) (Or.inl ⟨by kernel_rfl, ?h11_0x2⟩) (by kernel_rfl) ?p11_0x2 hS0 ?r11_0x2
  case h11_0x2 => (intro w hS; go_simp; try with_reducible rfl)
  case p11_0x2 => (go_simp; try with_reducible rfl)
  refine wpAnyH_takeN (i := 1) (v := ?v11_1x2) (l' := bm 10 3) (a' := ?a11_1x2) rfl (by kernel_rfl) (by kernel_rfl) (by kernel_rfl) (fun _ _ _ h => h) (Or.inl ⟨by kernel_rfl, ?h11_1x2⟩) (by kernel_rfl) ?p11_1x2 hS0 ?r11_1x2
  case h11_1x2 => (intro w hS; go_simp; try with_reducible rfl)
  case p11_1x2 => (go_simp; try with_reducible rfl)
  refine wpAnyH_takeN (i := 2) (v := ?v11_2x2) (l' := bm 10 7) (a' := ?a11_2x2) rfl (by kernel_rfl) (by kernel_rfl) (by kernel_rfl) (fun _ _ _ h => h) (Or.inl ⟨by kernel_rfl, ?h11_2x2⟩) (by kernel_rfl) ?p11_2x2 hS0 ?r11_2x2
  case h11_2x2 => (intro w hS; go_simp; try with_reducible rfl)
  case p11_2x2 => (go_simp; try with_reducible rfl)
  refine wpAnyH_takeN (i := 3) (v := ?v11_3x2) (l' := bm 10 15) (a' := ?a11_3x2) rfl (by kernel_rfl) (by kernel_rfl) (by kernel_rfl) (fun _ _ _ h => h) (Or.inl ⟨by kernel_rfl, ?h11_3x2⟩) (by kernel_rfl) ?p11_3x2 hS0 ?r11_3x2
  case h11_3x2 => (intro w hS; go_simp; try with_reducible rfl)
  case p11_3x2 => (go_simp; try with_reducible rfl)
  refine wpAnyH_takeN (i := 4) (v := ?v11_4x2) (l' := bm 10 31) (a' := ?a11_4x2) rfl (by kernel_rfl) (by kernel_rfl) (by kernel_rfl) (fun _ _ _ h => h) (Or.inl ⟨by kernel_rfl, ?h11_4x2⟩) (by kernel_rfl) ?p11_4x2 hS0 ?r11_4x2
  case h11_4x2 => (intro w hS; go_simp; try with_reducible rfl)
  case p11_4x2 => (go_simp; try with_reducible rfl)
  refine wpAnyH_takeN (i := 5) (v := ?v11_5x2) (l' := bm 10 63) (a' := ?a11_5x2) rfl (by kernel_rfl) (by kernel_rfl) (by kernel_rfl) (fun _ _ _ h => h) (Or.inl ⟨by kernel_rfl, ?h11_5x2⟩) (by kernel_rfl) ?p11_5x2 hS0 ?r11_5x2
  case h11_5x2 => (intro w hS; go_simp; try with_reducible rfl)
  case p11_5x2 => (go_simp; try with_reducible rfl)
  refine wpAnyH_takeN (i := 6) (v := ?v11_6x2) (l' := bm 10 127) (a' := ?a11_6x2) rfl (by kernel_rfl) (by kernel_rfl) (by kernel_rfl) (fun _ _ _ h => h) (Or.inl ⟨by kernel_rfl, ?h11_6x2⟩) (by kernel_rfl) ?p11_6x2 hS0 ?r11_6x2
  case h11_6x2 => (intro w hS; go_simp; try with_reducible rfl)
  case p11_6x2 => (go_simp; try with_reducible rfl)
  refine wpAnyH_takeN (i := 7) (v := ?v11_7x2) (l' := bm 10 255) (a' := ?a11_7x2) rfl (by kernel_rfl) (by kernel_rfl) (by kernel_rfl) (fun _ _ _ h => h) (Or.inl ⟨by kernel_rfl, ?h11_7x2⟩) (by kernel_rfl) ?p11_7x2 hS0 ?r11_7x2
  case h11_7x2 => (intro w hS; go_simp; try with_reducible rfl)
  case p11_7x2 => (go_simp; try with_reducible rfl)
  refine wpAnyH_oneN (i := 8) (l' := bm 10 511) rfl (by kernel_rfl) (by kernel_rfl) (by kernel_rfl) (fun K hK => ?_)
  have hP := hS0.1
  go_simp
  go_at_call 67
  refine (Z2'.out _).mono ?_
  rintro r w25 ⟨rfl, hb⟩
  dsimp only
  have D25 := Lib.hid (below_step hP hb)
  clear hb
  have hS1 := HO.out _ (D25.out)
  clear hP hS0
  refine hK _ _ hS1 ?_
  clear hK K
  refine wpAnyH_takeN (i := 9) (v := ?v11_9x2) (l' := bm 10 1023) (a' := ?a11_9x2) rfl (by kernel_rfl) (by kernel_rfl) (by kernel_rfl) (fun _ _ _ h => h) (Or.inl ⟨by kernel_rfl, ?h11_9x2⟩) (by kernel_rfl) ?p11_9x2 hS1 ?r11_9x2
  case h11_9x2 => (intro w hS; go_simp; try with_reducible rfl)
  case p11_9x2 => (go_simp; try with_reducible rfl)
  refine wpAnyH_done (by kernel_rfl) ?_ _
  clear hS1
  have hq := (HO.out _ D25.out).2
  go_wp2_with fail
  rw [rounds_succ]
  go_wp2_with fail
  clear hq
  refine wp_region_held (S := (fun w' => Below V2.heap.size V2 w' ∧ w'.cell? ⟨w.heap.size, 0, none⟩ = some (Value.float FloatKind.f64 A.lo) ∧ w'.cell? ⟨w.heap.size, 1, none⟩ = some (Value.float FloatKind.f64 A.hi) ∧ w'.cell? ⟨w.heap.size + 1, 0, none⟩ = some (Value.float FloatKind.f64 B.lo) ∧ w'.cell? ⟨w.heap.size + 1, 1, none⟩ = some (Value.float FloatKind.f64 B.hi) ∧ w'.cell? ⟨g7, 0, none⟩ = some (Value.float FloatKind.f64 C.lo) ∧ w'.cell? ⟨g7, 1, none⟩ = some (Value.float FloatKind.f64 C.hi) ∧ w'.cell? ⟨g8, 0, none⟩ = some (Value.float FloatKind.f64 D.lo) ∧ w'.cell? ⟨g8, 1, none⟩ = some (Value.float FloatKind.f64 D.hi) ∧ w'.cell? ⟨g1, 0, none⟩ = some (Value.float FloatKind.f64 x0.lo) ∧ w'.cell? ⟨g1, 1, none⟩ = some (Value.float FloatKind.f64 x0.hi) ∧ w'.cell? ⟨g1, 2, none⟩ = some (Value.float FloatKind.f64 x1.lo) ∧ w'.cell? ⟨g1, 3, none⟩ = some (Value.float FloatKind.f64 x1.hi) ∧ w'.cell? ⟨g1, 4, none⟩ = some (Value.float FloatKind.f64 x2.lo) ∧ w'.cell? ⟨g1, 5, none⟩ = some (Value.float FloatKind.f64 x2.hi) ∧ w'.cell? ⟨g1, 6, none⟩ = some (Value.float FloatKind.f64 x3.lo) ∧ w'.cell? ⟨g1, 7, none⟩ = some (Value.float FloatKind.f64 x3.hi) ∧ w'.cell? ⟨g1, 8, none⟩ = some (Value.float FloatKind.f64 x4.lo) ∧ w'.cell? ⟨g1, 9, none⟩ = some (Value.float FloatKind.f64 x4.hi) ∧ w'.cell? ⟨g1, 10, none⟩ = some (Value.float FloatKind.f64 x5.lo) ∧ w'.cell? ⟨g1, 11, none⟩ = some (Value.float FloatKind.f64 x5.hi) ∧ w'.cell? ⟨g1, 12, none⟩ = some (Value.float FloatKind.f64 x6.lo) ∧ w'.cell? ⟨g1, 13, none⟩ = some (Value.float FloatKind.f64 x6.hi) ∧ w'.cell? ⟨g1, 14, none⟩ = some (Value.float FloatKind.f64 x7.lo) ∧ w'.cell? ⟨g1, 15, none⟩ = some (Value.float FloatKind.f64 x7.hi) ∧ w'.cell? ⟨g2, 0, none⟩ = some (Value.float FloatKind.f64 y0.lo) ∧ w'.cell? ⟨g2, 1, none⟩ = some (Value.float FloatKind.f64 y0.hi) ∧ w'.cell? ⟨g2, 2, none⟩ = some (Value.float FloatKind.f64 y1.lo) ∧ w'.cell? ⟨g2, 3, none⟩ = some (Value.float FloatKind.f64 y1.hi) ∧ w'.cell? ⟨g2, 4, none⟩ = some (Value.float FloatKind.f64 y2.lo) ∧ w'.cell? ⟨g2, 5, none⟩ = some (Value.float FloatKind.f64 y2.hi) ∧ w'.cell? ⟨g2, 6, none⟩ = some (Value.float FloatKind.f64 y3.lo) ∧ w'.cell? ⟨g2, 7, none⟩ = some (Value.float FloatKind.f64 y3.hi) ∧ w'.cell? ⟨g2, 8, none⟩ = some (Value.float FloatKind.f64 y4.lo) ∧ w'.cell? ⟨g2, 9, none⟩ = some (Value.float FloatKind.f64 y4.hi) ∧ w'.cell? ⟨g2, 10, none⟩ = some (Value.float FloatKind.f64 y5.lo) ∧ w'.cell? ⟨g2, 11, none⟩ = some (Value.float FloatKind.f64 y5.hi) ∧ w'.cell? ⟨g2, 12, none⟩ = some (Value.float FloatKind.f64 y6.lo) ∧ w'.cell? ⟨g2, 13, none⟩ = some (Value.float FloatKind.f64 y6.hi) ∧ w'.cell? ⟨g2, 14, none⟩ = some (Value.float FloatKind.f64 y7.lo) ∧ w'.cell? ⟨g2, 15, none⟩ = some (Value.float FloatKind.f64 y7.hi))) (by kernel_rfl) ?_
  (try change wpAnyH _ _ _ _ _ _ _ (World.drew _))
  have hS0 := HO.out _ (Below.drew D25.out)
  refine wpAnyH_takeN (i := 0) (v := ?v11_0x3) (l' := bm 10 1) (a' := ?a11_0x3) rfl (by kernel_rfl) (by kernel_rfl) (by kernel_rfl) (fun _ _ _ h => h) (Or.inl ⟨by kernel_rfl, ?h11_0x3⟩) (by kernel_rfl) ?p11_0x3 hS0 ?r11_0x3
  case h11_0x3 => (intro w hS; go_simp; try with_reducible rfl)
  case p11_0x3 => (go_simp; try with_reducible rfl)
  refine wpAnyH_takeN (i := 1) (v := ?v11_1x3) (l' := bm 10 3) (a' := ?a11_1x3) rfl (by kernel_rfl) (by kernel_rfl) (by kernel_rfl) (fun _ _ _ h => h) (Or.inl ⟨by kernel_rfl, ?h11_1x3⟩) (by kernel_rfl) ?p11_1x3 hS0 ?r11_1x3
  case h11_1x3 => (intro w hS; go_simp; try with_reducible rfl)
  case p11_1x3 => (go_simp; try with_reducible rfl)
  refine wpAnyH_takeN (i := 2) (v := ?v11_2x3) (l' := bm 10 7) (a' := ?a11_2x3) rfl (by kernel_rfl) (by kernel_rfl) (by kernel_rfl) (fun _ _ _ h => h) (Or.inl ⟨by kernel_rfl, ?h11_2x3⟩) (by kernel_rfl) ?p11_2x3 hS0 ?r11_2x3
  case h11_2x3 => (intro w hS; go_simp; try with_reducible rfl)
  case p11_2x3 => (go_simp; try with_reducible rfl)
  refine wpAnyH_takeN (i := 3) (v := ?v11_3x3) (l' := bm 10 15) (a' := ?a11_3x3) rfl (by kernel_rfl) (by kernel_rfl) (by kernel_rfl) (fun _ _ _ h => h) (Or.inl ⟨by kernel_rfl, ?h11_3x3⟩) (by kernel_rfl) ?p11_3x3 hS0 ?r11_3x3
  case h11_3x3 => (intro w hS; go_simp; try with_reducible rfl)
  case p11_3x3 => (go_simp; try with_reducible rfl)
  refine wpAnyH_takeN (i := 4) (v := ?v11_4x3) (l' := bm 10 31) (a' := ?a11_4x3) rfl (by kernel_rfl) (by kernel_rfl) (by kernel_rfl) (fun _ _ _ h => h) (Or.inl ⟨by kernel_rfl, ?h11_4x3⟩) (by kernel_rfl) ?p11_4x3 hS0 ?r11_4x3
  case h11_4x3 => (intro w hS; go_simp; try with_reducible rfl)
  case p11_4x3 => (go_simp; try with_reducible rfl)
  refine wpAnyH_takeN (i := 5) (v := ?v11_5x3) (l' := bm 10 63) (a' := ?a11_5x3) rfl (by kernel_rfl) (by kernel_rfl) (by kernel_rfl) (fun _ _ _ h => h) (Or.inl ⟨by kernel_rfl, ?h11_5x3⟩) (by kernel_rfl) ?p11_5x3 hS0 ?r11_5x3
  case h11_5x3 => (intro w hS; go_simp; try with_reducible rfl)
  case p11_5x3 => (go_simp; try with_reducible rfl)
  refine wpAnyH_takeN (i := 6) (v := ?v11_6x3) (l' := bm 10 127) (a' := ?a11_6x3) rfl (by kernel_rfl) (by kernel_rfl) (by kernel_rfl) (fun _ _ _ h => h) (Or.inl ⟨by kernel_rfl, ?h11_6x3⟩) (by kernel_rfl) ?p11_6x3 hS0 ?r11_6x3
  case h11_6x3 => (intro w hS; go_simp; try with_reducible rfl)
  case p11_6x3 => (go_simp; try with_reducible rfl)
  refine wpAnyH_takeN (i := 7) (v := ?v11_7x3) (l' := bm 10 255) (a' := ?a11_7x3) rfl (by kernel_rfl) (by kernel_rfl) (by kernel_rfl) (fun _ _ _ h => h) (Or.inl ⟨by kernel_rfl, ?h11_7x3⟩) (by kernel_rfl) ?p11_7x3 hS0 ?r11_7x3
  case h11_7x3 => (intro w hS; go_simp; try with_reducible rfl)
  case p11_7x3 => (go_simp; try with_reducible rfl)
  refine wpAnyH_oneN (i := 8) (l' := bm 10 511) rfl (by kernel_rfl) (by kernel_rfl) (by kernel_rfl) (fun K hK => ?_)
  have hP := hS0.1
  go_simp
  go_at_call 67
  refine (Z3'.out _).mono ?_
  rintro r w26 ⟨rfl, hb⟩
  dsimp only
  have D26 := Lib.hid (below_step hP hb)
  clear hb
  have hS1 := HO.out _ (D26.out)
  clear hP hS0
  refine hK _ _ hS1 ?_
  clear hK K
  refine wpAnyH_takeN (i := 9) (v := ?v11_9x3) (l' := bm 10 1023) (a' := ?a11_9x3) rfl (by kernel_rfl) (by kernel_rfl) (by kernel_rfl) (fun _ _ _ h => h) (Or.inl ⟨by kernel_rfl, ?h11_9x3⟩) (by kernel_rfl) ?p11_9x3 hS1 ?r11_9x3
  case h11_9x3 => (intro w hS; go_simp; try with_reducible rfl)
  case p11_9x3 => (go_simp; try with_reducible rfl)
  refine wpAnyH_done (by kernel_rfl) ?_ _
  clear hS1
  have hq := (HO.out _ D26.out).2
  go_wp2_with fail
  rw [rounds_succ]
  go_wp2_with fail
  clear hq
  refine wp_region_held (S := (fun w' => Below V2.heap.size V2 w' ∧ w'.cell? ⟨w.heap.size, 0, none⟩ = some (Value.float FloatKind.f64 A.lo) ∧ w'.cell? ⟨w.heap.size, 1, none⟩ = some (Value.float FloatKind.f64 A.hi) ∧ w'.cell? ⟨w.heap.size + 1, 0, none⟩ = some (Value.float FloatKind.f64 B.lo) ∧ w'.cell? ⟨w.heap.size + 1, 1, none⟩ = some (Value.float FloatKind.f64 B.hi) ∧ w'.cell? ⟨g7, 0, none⟩ = some (Value.float FloatKind.f64 C.lo) ∧ w'.cell? ⟨g7, 1, none⟩ = some (Value.float FloatKind.f64 C.hi) ∧ w'.cell? ⟨g8, 0, none⟩ = some (Value.float FloatKind.f64 D.lo) ∧ w'.cell? ⟨g8, 1, none⟩ = some (Value.float FloatKind.f64 D.hi) ∧ w'.cell? ⟨g1, 0, none⟩ = some (Value.float FloatKind.f64 x0.lo) ∧ w'.cell? ⟨g1, 1, none⟩ = some (Value.float FloatKind.f64 x0.hi) ∧ w'.cell? ⟨g1, 2, none⟩ = some (Value.float FloatKind.f64 x1.lo) ∧ w'.cell? ⟨g1, 3, none⟩ = some (Value.float FloatKind.f64 x1.hi) ∧ w'.cell? ⟨g1, 4, none⟩ = some (Value.float FloatKind.f64 x2.lo) ∧ w'.cell? ⟨g1, 5, none⟩ = some (Value.float FloatKind.f64 x2.hi) ∧ w'.cell? ⟨g1, 6, none⟩ = some (Value.float FloatKind.f64 x3.lo) ∧ w'.cell? ⟨g1, 7, none⟩ = some (Value.float FloatKind.f64 x3.hi) ∧ w'.cell? ⟨g1, 8, none⟩ = some (Value.float FloatKind.f64 x4.lo) ∧ w'.cell? ⟨g1, 9, none⟩ = some (Value.float FloatKind.f64 x4.hi) ∧ w'.cell? ⟨g1, 10, none⟩ = some (Value.float FloatKind.f64 x5.lo) ∧ w'.cell? ⟨g1, 11, none⟩ = some (Value.float FloatKind.f64 x5.hi) ∧ w'.cell? ⟨g1, 12, none⟩ = some (Value.float FloatKind.f64 x6.lo) ∧ w'.cell? ⟨g1, 13, none⟩ = some (Value.float FloatKind.f64 x6.hi) ∧ w'.cell? ⟨g1, 14, none⟩ = some (Value.float FloatKind.f64 x7.lo) ∧ w'.cell? ⟨g1, 15, none⟩ = some (Value.float FloatKind.f64 x7.hi) ∧ w'.cell? ⟨g2, 0, none⟩ = some (Value.float FloatKind.f64 y0.lo) ∧ w'.cell? ⟨g2, 1, none⟩ = some (Value.float FloatKind.f64 y0.hi) ∧ w'.cell? ⟨g2, 2, none⟩ = some (Value.float FloatKind.f64 y1.lo) ∧ w'.cell? ⟨g2, 3, none⟩ = some (Value.float FloatKind.f64 y1.hi) ∧ w'.cell? ⟨g2, 4, none⟩ = some (Value.float FloatKind.f64 y2.lo) ∧ w'.cell? ⟨g2, 5, none⟩ = some (Value.float FloatKind.f64 y2.hi) ∧ w'.cell? ⟨g2, 6, none⟩ = some (Value.float FloatKind.f64 y3.lo) ∧ w'.cell? ⟨g2, 7, none⟩ = some (Value.float FloatKind.f64 y3.hi) ∧ w'.cell? ⟨g2, 8, none⟩ = some (Value.float FloatKind.f64 y4.lo) ∧ w'.cell? ⟨g2, 9, none⟩ = some (Value.float FloatKind.f64 y4.hi) ∧ w'.cell? ⟨g2, 10, none⟩ = some (Value.float FloatKind.f64 y5.lo) ∧ w'.cell? ⟨g2, 11, none⟩ = some (Value.float FloatKind.f64 y5.hi) ∧ w'.cell? ⟨g2, 12, none⟩ = some (Value.float FloatKind.f64 y6.lo) ∧ w'.cell? ⟨g2, 13, none⟩ = some (Value.float FloatKind.f64 y6.hi) ∧ w'.cell? ⟨g2, 14, none⟩ = some (Value.float FloatKind.f64 y7.lo) ∧ w'.cell? ⟨g2, 15, none⟩ = some (Value.float FloatKind.f64 y7.hi))) (by kernel_rfl) ?_
  (try change wpAnyH _ _ _ _ _ _ _ (World.drew _))
  have hS0 := HO.out _ (Below.drew D26.out)
  refine wpAnyH_takeN (i := 0) (v := ?v11_0x4) (l' := bm 10 1) (a' := ?a11_0x4) rfl (by kernel_rfl) (by kernel_rfl) (by kernel_rfl) (fun _ _ _ h => h) (Or.inl ⟨by kernel_rfl, ?h11_0x4⟩) (by kernel_rfl) ?p11_0x4 hS0 ?r11_0x4
  case h11_0x4 => (intro w hS; go_simp; try with_reducible rfl)
  case p11_0x4 => (go_simp; try with_reducible rfl)
  refine wpAnyH_takeN (i := 1) (v := ?v11_1x4) (l' := bm 10 3) (a' := ?a11_1x4) rfl (by kernel_rfl) (by kernel_rfl) (by kernel_rfl) (fun _ _ _ h => h) (Or.inl ⟨by kernel_rfl, ?h11_1x4⟩) (by kernel_rfl) ?p11_1x4 hS0 ?r11_1x4
  case h11_1x4 => (intro w hS; go_simp; try with_reducible rfl)
  case p11_1x4 => (go_simp; try with_reducible rfl)
  refine wpAnyH_takeN (i := 2) (v := ?v11_2x4) (l' := bm 10 7) (a' := ?a11_2x4) rfl (by kernel_rfl) (by kernel_rfl) (by kernel_rfl) (fun _ _ _ h => h) (Or.inl ⟨by kernel_rfl, ?h11_2x4⟩) (by kernel_rfl) ?p11_2x4 hS0 ?r11_2x4
  case h11_2x4 => (intro w hS; go_simp; try with_reducible rfl)
  case p11_2x4 => (go_simp; try with_reducible rfl)
  refine wpAnyH_takeN (i := 3) (v := ?v11_3x4) (l' := bm 10 15) (a' := ?a11_3x4) rfl (by kernel_rfl) (by kernel_rfl) (by kernel_rfl) (fun _ _ _ h => h) (Or.inl ⟨by kernel_rfl, ?h11_3x4⟩) (by kernel_rfl) ?p11_3x4 hS0 ?r11_3x4
  case h11_3x4 => (intro w hS; go_simp; try with_reducible rfl)
  case p11_3x4 => (go_simp; try with_reducible rfl)
  refine wpAnyH_takeN (i := 4) (v := ?v11_4x4) (l' := bm 10 31) (a' := ?a11_4x4) rfl (by kernel_rfl) (by kernel_rfl) (by kernel_rfl) (fun _ _ _ h => h) (Or.inl ⟨by kernel_rfl, ?h11_4x4⟩) (by kernel_rfl) ?p11_4x4 hS0 ?r11_4x4
  case h11_4x4 => (intro w hS; go_simp; try with_reducible rfl)
  case p11_4x4 => (go_simp; try with_reducible rfl)
  refine wpAnyH_takeN (i := 5) (v := ?v11_5x4) (l' := bm 10 63) (a' := ?a11_5x4) rfl (by kernel_rfl) (by kernel_rfl) (by kernel_rfl) (fun _ _ _ h => h) (Or.inl ⟨by kernel_rfl, ?h11_5x4⟩) (by kernel_rfl) ?p11_5x4 hS0 ?r11_5x4
  case h11_5x4 => (intro w hS; go_simp; try with_reducible rfl)
  case p11_5x4 => (go_simp; try with_reducible rfl)
  refine wpAnyH_takeN (i := 6) (v := ?v11_6x4) (l' := bm 10 127) (a' := ?a11_6x4) rfl (by kernel_rfl) (by kernel_rfl) (by kernel_rfl) (fun _ _ _ h => h) (Or.inl ⟨by kernel_rfl, ?h11_6x4⟩) (by kernel_rfl) ?p11_6x4 hS0 ?r11_6x4
  case h11_6x4 => (intro w hS; go_simp; try with_reducible rfl)
  case p11_6x4 => (go_simp; try with_reducible rfl)
  refine wpAnyH_takeN (i := 7) (v := ?v11_7x4) (l' := bm 10 255) (a' := ?a11_7x4) rfl (by kernel_rfl) (by kernel_rfl) (by kernel_rfl) (fun _ _ _ h => h) (Or.inl ⟨by kernel_rfl, ?h11_7x4⟩) (by kernel_rfl) ?p11_7x4 hS0 ?r11_7x4
  case h11_7x4 => (intro w hS; go_simp; try with_reducible rfl)
  case p11_7x4 => (go_simp; try with_reducible rfl)
  refine wpAnyH_oneN (i := 8) (l' := bm 10 511) rfl (by kernel_rfl) (by kernel_rfl) (by kernel_rfl) (fun K hK => ?_)
  have hP := hS0.1
  go_simp
  go_at_call 67
  refine (Z4'.out _).mono ?_
  rintro r w27 ⟨rfl, hb⟩
  dsimp only
  have D27 := Lib.hid (below_step hP hb)
  clear hb
  have hS1 := HO.out _ (D27.out)
  clear hP hS0
  refine hK _ _ hS1 ?_
  clear hK K
  refine wpAnyH_takeN (i := 9) (v := ?v11_9x4) (l' := bm 10 1023) (a' := ?a11_9x4) rfl (by kernel_rfl) (by kernel_rfl) (by kernel_rfl) (fun _ _ _ h => h) (Or.inl ⟨by kernel_rfl, ?h11_9x4⟩) (by kernel_rfl) ?p11_9x4 hS1 ?r11_9x4
  case h11_9x4 => (intro w hS; go_simp; try with_reducible rfl)
  case p11_9x4 => (go_simp; try with_reducible rfl)
  refine wpAnyH_done (by kernel_rfl) ?_ _
  clear hS1
  have hq := (HO.out _ D27.out).2
  go_wp2_with fail
  rw [rounds_succ]
  go_wp2_with fail
  clear hq
  refine wp_region_held (S := (fun w' => Below V2.heap.size V2 w' ∧ w'.cell? ⟨w.heap.size, 0, none⟩ = some (Value.float FloatKind.f64 A.lo) ∧ w'.cell? ⟨w.heap.size, 1, none⟩ = some (Value.float FloatKind.f64 A.hi) ∧ w'.cell? ⟨w.heap.size + 1, 0, none⟩ = some (Value.float FloatKind.f64 B.lo) ∧ w'.cell? ⟨w.heap.size + 1, 1, none⟩ = some (Value.float FloatKind.f64 B.hi) ∧ w'.cell? ⟨g7, 0, none⟩ = some (Value.float FloatKind.f64 C.lo) ∧ w'.cell? ⟨g7, 1, none⟩ = some (Value.float FloatKind.f64 C.hi) ∧ w'.cell? ⟨g8, 0, none⟩ = some (Value.float FloatKind.f64 D.lo) ∧ w'.cell? ⟨g8, 1, none⟩ = some (Value.float FloatKind.f64 D.hi) ∧ w'.cell? ⟨g1, 0, none⟩ = some (Value.float FloatKind.f64 x0.lo) ∧ w'.cell? ⟨g1, 1, none⟩ = some (Value.float FloatKind.f64 x0.hi) ∧ w'.cell? ⟨g1, 2, none⟩ = some (Value.float FloatKind.f64 x1.lo) ∧ w'.cell? ⟨g1, 3, none⟩ = some (Value.float FloatKind.f64 x1.hi) ∧ w'.cell? ⟨g1, 4, none⟩ = some (Value.float FloatKind.f64 x2.lo) ∧ w'.cell? ⟨g1, 5, none⟩ = some (Value.float FloatKind.f64 x2.hi) ∧ w'.cell? ⟨g1, 6, none⟩ = some (Value.float FloatKind.f64 x3.lo) ∧ w'.cell? ⟨g1, 7, none⟩ = some (Value.float FloatKind.f64 x3.hi) ∧ w'.cell? ⟨g1, 8, none⟩ = some (Value.float FloatKind.f64 x4.lo) ∧ w'.cell? ⟨g1, 9, none⟩ = some (Value.float FloatKind.f64 x4.hi) ∧ w'.cell? ⟨g1, 10, none⟩ = some (Value.float FloatKind.f64 x5.lo) ∧ w'.cell? ⟨g1, 11, none⟩ = some (Value.float FloatKind.f64 x5.hi) ∧ w'.cell? ⟨g1, 12, none⟩ = some (Value.float FloatKind.f64 x6.lo) ∧ w'.cell? ⟨g1, 13, none⟩ = some (Value.float FloatKind.f64 x6.hi) ∧ w'.cell? ⟨g1, 14, none⟩ = some (Value.float FloatKind.f64 x7.lo) ∧ w'.cell? ⟨g1, 15, none⟩ = some (Value.float FloatKind.f64 x7.hi) ∧ w'.cell? ⟨g2, 0, none⟩ = some (Value.float FloatKind.f64 y0.lo) ∧ w'.cell? ⟨g2, 1, none⟩ = some (Value.float FloatKind.f64 y0.hi) ∧ w'.cell? ⟨g2, 2, none⟩ = some (Value.float FloatKind.f64 y1.lo) ∧ w'.cell? ⟨g2, 3, none⟩ = some (Value.float FloatKind.f64 y1.hi) ∧ w'.cell? ⟨g2, 4, none⟩ = some (Value.float FloatKind.f64 y2.lo) ∧ w'.cell? ⟨g2, 5, none⟩ = some (Value.float FloatKind.f64 y2.hi) ∧ w'.cell? ⟨g2, 6, none⟩ = some (Value.float FloatKind.f64 y3.lo) ∧ w'.cell? ⟨g2, 7, none⟩ = some (Value.float FloatKind.f64 y3.hi) ∧ w'.cell? ⟨g2, 8, none⟩ = some (Value.float FloatKind.f64 y4.lo) ∧ w'.cell? ⟨g2, 9, none⟩ = some (Value.float FloatKind.f64 y4.hi) ∧ w'.cell? ⟨g2, 10, none⟩ = some (Value.float FloatKind.f64 y5.lo) ∧ w'.cell? ⟨g2, 11, none⟩ = some (Value.float FloatKind.f64 y5.hi) ∧ w'.cell? ⟨g2, 12, none⟩ = some (Value.float FloatKind.f64 y6.lo) ∧ w'.cell? ⟨g2, 13, none⟩ = some (Value.float FloatKind.f64 y6.hi) ∧ w'.cell? ⟨g2, 14, none⟩ = some (Value.float FloatKind.f64 y7.lo) ∧ w'.cell? ⟨g2, 15, none⟩ = some (Value.float FloatKind.f64 y7.hi))) (by kernel_rfl) ?_
  (try change wpAnyH _ _ _ _ _ _ _ (World.drew _))
  have hS0 := HO.out _ (Below.drew D27.out)
  refine wpAnyH_takeN (i := 0) (v := ?v11_0x5) (l' := bm 10 1) (a' := ?a11_0x5) rfl (by kernel_rfl) (by kernel_rfl) (by kernel_rfl) (fun _ _ _ h => h) (Or.inl ⟨by kernel_rfl, ?h11_0x5⟩) (by kernel_rfl) ?p11_0x5 hS0 ?r11_0x5
  case h11_0x5 => (intro w hS; go_simp; try with_reducible rfl)
  case p11_0x5 => (go_simp; try with_reducible rfl)
  refine wpAnyH_takeN (i := 1) (v := ?v11_1x5) (l' := bm 10 3) (a' := ?a11_1x5) rfl (by kernel_rfl) (by kernel_rfl) (by kernel_rfl) (fun _ _ _ h => h) (Or.inl ⟨by kernel_rfl, ?h11_1x5⟩) (by kernel_rfl) ?p11_1x5 hS0 ?r11_1x5
  case h11_1x5 => (intro w hS; go_simp; try with_reducible rfl)
  case p11_1x5 => (go_simp; try with_reducible rfl)
  refine wpAnyH_takeN (i := 2) (v := ?v11_2x5) (l' := bm 10 7) (a' := ?a11_2x5) rfl (by kernel_rfl) (by kernel_rfl) (by kernel_rfl) (fun _ _ _ h => h) (Or.inl ⟨by kernel_rfl, ?h11_2x5⟩) (by kernel_rfl) ?p11_2x5 hS0 ?r11_2x5
  case h11_2x5 => (intro w hS; go_simp; try with_reducible rfl)
  case p11_2x5 => (go_simp; try with_reducible rfl)
  refine wpAnyH_takeN (i := 3) (v := ?v11_3x5) (l' := bm 10 15) (a' := ?a11_3x5) rfl (by kernel_rfl) (by kernel_rfl) (by kernel_rfl) (fun _ _ _ h => h) (Or.inl ⟨by kernel_rfl, ?h11_3x5⟩) (by kernel_rfl) ?p11_3x5 hS0 ?r11_3x5
  case h11_3x5 => (intro w hS; go_simp; try with_reducible rfl)
  case p11_3x5 => (go_simp; try with_reducible rfl)
  refine wpAnyH_takeN (i := 4) (v := ?v11_4x5) (l' := bm 10 31) (a' := ?a11_4x5) rfl (by kernel_rfl) (by kernel_rfl) (by kernel_rfl) (fun _ _ _ h => h) (Or.inl ⟨by kernel_rfl, ?h11_4x5⟩) (by kernel_rfl) ?p11_4x5 hS0 ?r11_4x5
  case h11_4x5 => (intro w hS; go_simp; try with_reducible rfl)
  case p11_4x5 => (go_simp; try with_reducible rfl)
  refine wpAnyH_takeN (i := 5) (v := ?v11_5x5) (l' := bm 10 63) (a' := ?a11_5x5) rfl (by kernel_rfl) (by kernel_rfl) (by kernel_rfl) (fun _ _ _ h => h) (Or.inl ⟨by kernel_rfl, ?h11_5x5⟩) (by kernel_rfl) ?p11_5x5 hS0 ?r11_5x5
  case h11_5x5 => (intro w hS; go_simp; try with_reducible rfl)
  case p11_5x5 => (go_simp; try with_reducible rfl)
  refine wpAnyH_takeN (i := 6) (v := ?v11_6x5) (l' := bm 10 127) (a' := ?a11_6x5) rfl (by kernel_rfl) (by kernel_rfl) (by kernel_rfl) (fun _ _ _ h => h) (Or.inl ⟨by kernel_rfl, ?h11_6x5⟩) (by kernel_rfl) ?p11_6x5 hS0 ?r11_6x5
  case h11_6x5 => (intro w hS; go_simp; try with_reducible rfl)
  case p11_6x5 => (go_simp; try with_reducible rfl)
  refine wpAnyH_takeN (i := 7) (v := ?v11_7x5) (l' := bm 10 255) (a' := ?a11_7x5) rfl (by kernel_rfl) (by kernel_rfl) (by kernel_rfl) (fun _ _ _ h => h) (Or.inl ⟨by kernel_rfl, ?h11_7x5⟩) (by kernel_rfl) ?p11_7x5 hS0 ?r11_7x5
  case h11_7x5 => (intro w hS; go_simp; try with_reducible rfl)
  case p11_7x5 => (go_simp; try with_reducible rfl)
  refine wpAnyH_oneN (i := 8) (l' := bm 10 511) rfl (by kernel_rfl) (by kernel_rfl) (by kernel_rfl) (fun K hK => ?_)
  have hP := hS0.1
  go_simp
  go_at_call 67
  refine (Z5'.out _).mono ?_
  rintro r w28 ⟨rfl, hb⟩
  dsimp only
  have D28 := Lib.hid (below_step hP hb)
  clear hb
  have hS1 := HO.out _ (D28.out)
  clear hP hS0
  refine hK _ _ hS1 ?_
  clear hK K
  refine wpAnyH_takeN (i := 9) (v := ?v11_9x5) (l' := bm 10 1023) (a' := ?a11_9x5) rfl (by kernel_rfl) (by kernel_rfl) (by kernel_rfl) (fun _ _ _ h => h) (Or.inl ⟨by kernel_rfl, ?h11_9x5⟩) (by kernel_rfl) ?p11_9x5 hS1 ?r11_9x5
  case h11_9x5 => (intro w hS; go_simp; try with_reducible rfl)
  case p11_9x5 => (go_simp; try with_reducible rfl)
  refine wpAnyH_done (by kernel_rfl) ?_ _
  clear hS1
  have hq := (HO.out _ D28.out).2
  go_wp2_with fail
  rw [rounds_succ]
  go_wp2_with fail
  clear hq
  refine wp_region_held (S := (fun w' => Below V2.heap.size V2 w' ∧ w'.cell? ⟨w.heap.size, 0, none⟩ = some (Value.float FloatKind.f64 A.lo) ∧ w'.cell? ⟨w.heap.size, 1, none⟩ = some (Value.float FloatKind.f64 A.hi) ∧ w'.cell? ⟨w.heap.size + 1, 0, none⟩ = some (Value.float FloatKind.f64 B.lo) ∧ w'.cell? ⟨w.heap.size + 1, 1, none⟩ = some (Value.float FloatKind.f64 B.hi) ∧ w'.cell? ⟨g7, 0, none⟩ = some (Value.float FloatKind.f64 C.lo) ∧ w'.cell? ⟨g7, 1, none⟩ = some (Value.float FloatKind.f64 C.hi) ∧ w'.cell? ⟨g8, 0, none⟩ = some (Value.float FloatKind.f64 D.lo) ∧ w'.cell? ⟨g8, 1, none⟩ = some (Value.float FloatKind.f64 D.hi) ∧ w'.cell? ⟨g1, 0, none⟩ = some (Value.float FloatKind.f64 x0.lo) ∧ w'.cell? ⟨g1, 1, none⟩ = some (Value.float FloatKind.f64 x0.hi) ∧ w'.cell? ⟨g1, 2, none⟩ = some (Value.float FloatKind.f64 x1.lo) ∧ w'.cell? ⟨g1, 3, none⟩ = some (Value.float FloatKind.f64 x1.hi) ∧ w'.cell? ⟨g1, 4, none⟩ = some (Value.float FloatKind.f64 x2.lo) ∧ w'.cell? ⟨g1, 5, none⟩ = some (Value.float FloatKind.f64 x2.hi) ∧ w'.cell? ⟨g1, 6, none⟩ = some (Value.float FloatKind.f64 x3.lo) ∧ w'.cell? ⟨g1, 7, none⟩ = some (Value.float FloatKind.f64 x3.hi) ∧ w'.cell? ⟨g1, 8, none⟩ = some (Value.float FloatKind.f64 x4.lo) ∧ w'.cell? ⟨g1, 9, none⟩ = some (Value.float FloatKind.f64 x4.hi) ∧ w'.cell? ⟨g1, 10, none⟩ = some (Value.float FloatKind.f64 x5.lo) ∧ w'.cell? ⟨g1, 11, none⟩ = some (Value.float FloatKind.f64 x5.hi) ∧ w'.cell? ⟨g1, 12, none⟩ = some (Value.float FloatKind.f64 x6.lo) ∧ w'.cell? ⟨g1, 13, none⟩ = some (Value.float FloatKind.f64 x6.hi) ∧ w'.cell? ⟨g1, 14, none⟩ = some (Value.float FloatKind.f64 x7.lo) ∧ w'.cell? ⟨g1, 15, none⟩ = some (Value.float FloatKind.f64 x7.hi) ∧ w'.cell? ⟨g2, 0, none⟩ = some (Value.float FloatKind.f64 y0.lo) ∧ w'.cell? ⟨g2, 1, none⟩ = some (Value.float FloatKind.f64 y0.hi) ∧ w'.cell? ⟨g2, 2, none⟩ = some (Value.float FloatKind.f64 y1.lo) ∧ w'.cell? ⟨g2, 3, none⟩ = some (Value.float FloatKind.f64 y1.hi) ∧ w'.cell? ⟨g2, 4, none⟩ = some (Value.float FloatKind.f64 y2.lo) ∧ w'.cell? ⟨g2, 5, none⟩ = some (Value.float FloatKind.f64 y2.hi) ∧ w'.cell? ⟨g2, 6, none⟩ = some (Value.float FloatKind.f64 y3.lo) ∧ w'.cell? ⟨g2, 7, none⟩ = some (Value.float FloatKind.f64 y3.hi) ∧ w'.cell? ⟨g2, 8, none⟩ = some (Value.float FloatKind.f64 y4.lo) ∧ w'.cell? ⟨g2, 9, none⟩ = some (Value.float FloatKind.f64 y4.hi) ∧ w'.cell? ⟨g2, 10, none⟩ = some (Value.float FloatKind.f64 y5.lo) ∧ w'.cell? ⟨g2, 11, none⟩ = some (Value.float FloatKind.f64 y5.hi) ∧ w'.cell? ⟨g2, 12, none⟩ = some (Value.float FloatKind.f64 y6.lo) ∧ w'.cell? ⟨g2, 13, none⟩ = some (Value.float FloatKind.f64 y6.hi) ∧ w'.cell? ⟨g2, 14, none⟩ = some (Value.float FloatKind.f64 y7.lo) ∧ w'.cell? ⟨g2, 15, none⟩ = some (Value.float FloatKind.f64 y7.hi))) (by kernel_rfl) ?_
  (try change wpAnyH _ _ _ _ _ _ _ (World.drew _))
  have hS0 := HO.out _ (Below.drew D28.out)
  refine wpAnyH_takeN (i := 0) (v := ?v11_0x6) (l' := bm 10 1) (a' := ?a11_0x6) rfl (by kernel_rfl) (by kernel_rfl) (by kernel_rfl) (fun _ _ _ h => h) (Or.inl ⟨by kernel_rfl, ?h11_0x6⟩) (by kernel_rfl) ?p11_0x6 hS0 ?r11_0x6
  case h11_0x6 => (intro w hS; go_simp; try with_reducible rfl)
  case p11_0x6 => (go_simp; try with_reducible rfl)
  refine wpAnyH_takeN (i := 1) (v := ?v11_1x6) (l' := bm 10 3) (a' := ?a11_1x6) rfl (by kernel_rfl) (by kernel_rfl) (by kernel_rfl) (fun _ _ _ h => h) (Or.inl ⟨by kernel_rfl, ?h11_1x6⟩) (by kernel_rfl) ?p11_1x6 hS0 ?r11_1x6
  case h11_1x6 => (intro w hS; go_simp; try with_reducible rfl)
  case p11_1x6 => (go_simp; try with_reducible rfl)
  refine wpAnyH_takeN (i := 2) (v := ?v11_2x6) (l' := bm 10 7) (a' := ?a11_2x6) rfl (by kernel_rfl) (by kernel_rfl) (by kernel_rfl) (fun _ _ _ h => h) (Or.inl ⟨by kernel_rfl, ?h11_2x6⟩) (by kernel_rfl) ?p11_2x6 hS0 ?r11_2x6
  case h11_2x6 => (intro w hS; go_simp; try with_reducible rfl)
  case p11_2x6 => (go_simp; try with_reducible rfl)
  refine wpAnyH_takeN (i := 3) (v := ?v11_3x6) (l' := bm 10 15) (a' := ?a11_3x6) rfl (by kernel_rfl) (by kernel_rfl) (by kernel_rfl) (fun _ _ _ h => h) (Or.inl ⟨by kernel_rfl, ?h11_3x6⟩) (by kernel_rfl) ?p11_3x6 hS0 ?r11_3x6
  case h11_3x6 => (intro w hS; go_simp; try with_reducible rfl)
  case p11_3x6 => (go_simp; try with_reducible rfl)
  refine wpAnyH_takeN (i := 4) (v := ?v11_4x6) (l' := bm 10 31) (a' := ?a11_4x6) rfl (by kernel_rfl) (by kernel_rfl) (by kernel_rfl) (fun _ _ _ h => h) (Or.inl ⟨by kernel_rfl, ?h11_4x6⟩) (by kernel_rfl) ?p11_4x6 hS0 ?r11_4x6
  case h11_4x6 => (intro w hS; go_simp; try with_reducible rfl)
  case p11_4x6 => (go_simp; try with_reducible rfl)
  refine wpAnyH_takeN (i := 5) (v := ?v11_5x6) (l' := bm 10 63) (a' := ?a11_5x6) rfl (by kernel_rfl) (by kernel_rfl) (by kernel_rfl) (fun _ _ _ h => h) (Or.inl ⟨by kernel_rfl, ?h11_5x6⟩) (by kernel_rfl) ?p11_5x6 hS0 ?r11_5x6
  case h11_5x6 => (intro w hS; go_simp; try with_reducible rfl)
  case p11_5x6 => (go_simp; try with_reducible rfl)
  refine wpAnyH_takeN (i := 6) (v := ?v11_6x6) (l' := bm 10 127) (a' := ?a11_6x6) rfl (by kernel_rfl) (by kernel_rfl) (by kernel_rfl) (fun _ _ _ h => h) (Or.inl ⟨by kernel_rfl, ?h11_6x6⟩) (by kernel_rfl) ?p11_6x6 hS0 ?r11_6x6
  case h11_6x6 => (intro w hS; go_simp; try with_reducible rfl)
  case p11_6x6 => (go_simp; try with_reducible rfl)
  refine wpAnyH_takeN (i := 7) (v := ?v11_7x6) (l' := bm 10 255) (a' := ?a11_7x6) rfl (by kernel_rfl) (by kernel_rfl) (by kernel_rfl) (fun _ _ _ h => h) (Or.inl ⟨by kernel_rfl, ?h11_7x6⟩) (by kernel_rfl) ?p11_7x6 hS0 ?r11_7x6
  case h11_7x6 => (intro w hS; go_simp; try with_reducible rfl)
  case p11_7x6 => (go_simp; try with_reducible rfl)
  refine wpAnyH_oneN (i := 8) (l' := bm 10 511) rfl (by kernel_rfl) (by kernel_rfl) (by kernel_rfl) (fun K hK => ?_)
  have hP := hS0.1
  go_simp
  go_at_call 67
  refine (Z6'.out _).mono ?_
  rintro r w29 ⟨rfl, hb⟩
  dsimp only
  have D29 := Lib.hid (below_step hP hb)
  clear hb
  have hS1 := HO.out _ (D29.out)
  clear hP hS0
  refine hK _ _ hS1 ?_
  clear hK K
  refine wpAnyH_takeN (i := 9) (v := ?v11_9x6) (l' := bm 10 1023) (a' := ?a11_9x6) rfl (by kernel_rfl) (by kernel_rfl) (by kernel_rfl) (fun _ _ _ h => h) (Or.inl ⟨by kernel_rfl, ?h11_9x6⟩) (by kernel_rfl) ?p11_9x6 hS1 ?r11_9x6
  case h11_9x6 => (intro w hS; go_simp; try with_reducible rfl)
  case p11_9x6 => (go_simp; try with_reducible rfl)
  refine wpAnyH_done (by kernel_rfl) ?_ _
  clear hS1
  have hq := (HO.out _ D29.out).2
  go_wp2_with fail
  rw [rounds_succ]
  go_wp2_with fail
  clear hq
  refine wp_region_held (S := (fun w' => Below V2.heap.size V2 w' ∧ w'.cell? ⟨w.heap.size, 0, none⟩ = some (Value.float FloatKind.f64 A.lo) ∧ w'.cell? ⟨w.heap.size, 1, none⟩ = some (Value.float FloatKind.f64 A.hi) ∧ w'.cell? ⟨w.heap.size + 1, 0, none⟩ = some (Value.float FloatKind.f64 B.lo) ∧ w'.cell? ⟨w.heap.size + 1, 1, none⟩ = some (Value.float FloatKind.f64 B.hi) ∧ w'.cell? ⟨g7, 0, none⟩ = some (Value.float FloatKind.f64 C.lo) ∧ w'.cell? ⟨g7, 1, none⟩ = some (Value.float FloatKind.f64 C.hi) ∧ w'.cell? ⟨g8, 0, none⟩ = some (Value.float FloatKind.f64 D.lo) ∧ w'.cell? ⟨g8, 1, none⟩ = some (Value.float FloatKind.f64 D.hi) ∧ w'.cell? ⟨g1, 0, none⟩ = some (Value.float FloatKind.f64 x0.lo) ∧ w'.cell? ⟨g1, 1, none⟩ = some (Value.float FloatKind.f64 x0.hi) ∧ w'.cell? ⟨g1, 2, none⟩ = some (Value.float FloatKind.f64 x1.lo) ∧ w'.cell? ⟨g1, 3, none⟩ = some (Value.float FloatKind.f64 x1.hi) ∧ w'.cell? ⟨g1, 4, none⟩ = some (Value.float FloatKind.f64 x2.lo) ∧ w'.cell? ⟨g1, 5, none⟩ = some (Value.float FloatKind.f64 x2.hi) ∧ w'.cell? ⟨g1, 6, none⟩ = some (Value.float FloatKind.f64 x3.lo) ∧ w'.cell? ⟨g1, 7, none⟩ = some (Value.float FloatKind.f64 x3.hi) ∧ w'.cell? ⟨g1, 8, none⟩ = some (Value.float FloatKind.f64 x4.lo) ∧ w'.cell? ⟨g1, 9, none⟩ = some (Value.float FloatKind.f64 x4.hi) ∧ w'.cell? ⟨g1, 10, none⟩ = some (Value.float FloatKind.f64 x5.lo) ∧ w'.cell? ⟨g1, 11, none⟩ = some (Value.float FloatKind.f64 x5.hi) ∧ w'.cell? ⟨g1, 12, none⟩ = some (Value.float FloatKind.f64 x6.lo) ∧ w'.cell? ⟨g1, 13, none⟩ = some (Value.float FloatKind.f64 x6.hi) ∧ w'.cell? ⟨g1, 14, none⟩ = some (Value.float FloatKind.f64 x7.lo) ∧ w'.cell? ⟨g1, 15, none⟩ = some (Value.float FloatKind.f64 x7.hi) ∧ w'.cell? ⟨g2, 0, none⟩ = some (Value.float FloatKind.f64 y0.lo) ∧ w'.cell? ⟨g2, 1, none⟩ = some (Value.float FloatKind.f64 y0.hi) ∧ w'.cell? ⟨g2, 2, none⟩ = some (Value.float FloatKind.f64 y1.lo) ∧ w'.cell? ⟨g2, 3, none⟩ = some (Value.float FloatKind.f64 y1.hi) ∧ w'.cell? ⟨g2, 4, none⟩ = some (Value.float FloatKind.f64 y2.lo) ∧ w'.cell? ⟨g2, 5, none⟩ = some (Value.float FloatKind.f64 y2.hi) ∧ w'.cell? ⟨g2, 6, none⟩ = some (Value.float FloatKind.f64 y3.lo) ∧ w'.cell? ⟨g2, 7, none⟩ = some (Value.float FloatKind.f64 y3.hi) ∧ w'.cell? ⟨g2, 8, none⟩ = some (Value.float FloatKind.f64 y4.lo) ∧ w'.cell? ⟨g2, 9, none⟩ = some (Value.float FloatKind.f64 y4.hi) ∧ w'.cell? ⟨g2, 10, none⟩ = some (Value.float FloatKind.f64 y5.lo) ∧ w'.cell? ⟨g2, 11, none⟩ = some (Value.float FloatKind.f64 y5.hi) ∧ w'.cell? ⟨g2, 12, none⟩ = some (Value.float FloatKind.f64 y6.lo) ∧ w'.cell? ⟨g2, 13, none⟩ = some (Value.float FloatKind.f64 y6.hi) ∧ w'.cell? ⟨g2, 14, none⟩ = some (Value.float FloatKind.f64 y7.lo) ∧ w'.cell? ⟨g2, 15, none⟩ = some (Value.float FloatKind.f64 y7.hi))) (by kernel_rfl) ?_
  (try change wpAnyH _ _ _ _ _ _ _ (World.drew _))
  have hS0 := HO.out _ (Below.drew D29.out)
  refine wpAnyH_takeN (i := 0) (v := ?v11_0x7) (l' := bm 10 1) (a' := ?a11_0x7) rfl (by kernel_rfl) (by kernel_rfl) (by kernel_rfl) (fun _ _ _ h => h) (Or.inl ⟨by kernel_rfl, ?h11_0x7⟩) (by kernel_rfl) ?p11_0x7 hS0 ?r11_0x7
  case h11_0x7 => (intro w hS; go_simp; try with_reducible rfl)
  case p11_0x7 => (go_simp; try with_reducible rfl)
  refine wpAnyH_takeN (i := 1) (v := ?v11_1x7) (l' := bm 10 3) (a' := ?a11_1x7) rfl (by kernel_rfl) (by kernel_rfl) (by kernel_rfl) (fun _ _ _ h => h) (Or.inl ⟨by kernel_rfl, ?h11_1x7⟩) (by kernel_rfl) ?p11_1x7 hS0 ?r11_1x7
  case h11_1x7 => (intro w hS; go_simp; try with_reducible rfl)
  case p11_1x7 => (go_simp; try with_reducible rfl)
  refine wpAnyH_takeN (i := 2) (v := ?v11_2x7) (l' := bm 10 7) (a' := ?a11_2x7) rfl (by kernel_rfl) (by kernel_rfl) (by kernel_rfl) (fun _ _ _ h => h) (Or.inl ⟨by kernel_rfl, ?h11_2x7⟩) (by kernel_rfl) ?p11_2x7 hS0 ?r11_2x7
  case h11_2x7 => (intro w hS; go_simp; try with_reducible rfl)
  case p11_2x7 => (go_simp; try with_reducible rfl)
  refine wpAnyH_takeN (i := 3) (v := ?v11_3x7) (l' := bm 10 15) (a' := ?a11_3x7) rfl (by kernel_rfl) (by kernel_rfl) (by kernel_rfl) (fun _ _ _ h => h) (Or.inl ⟨by kernel_rfl, ?h11_3x7⟩) (by kernel_rfl) ?p11_3x7 hS0 ?r11_3x7
  case h11_3x7 => (intro w hS; go_simp; try with_reducible rfl)
  case p11_3x7 => (go_simp; try with_reducible rfl)
  refine wpAnyH_takeN (i := 4) (v := ?v11_4x7) (l' := bm 10 31) (a' := ?a11_4x7) rfl (by kernel_rfl) (by kernel_rfl) (by kernel_rfl) (fun _ _ _ h => h) (Or.inl ⟨by kernel_rfl, ?h11_4x7⟩) (by kernel_rfl) ?p11_4x7 hS0 ?r11_4x7
  case h11_4x7 => (intro w hS; go_simp; try with_reducible rfl)
  case p11_4x7 => (go_simp; try with_reducible rfl)
  refine wpAnyH_takeN (i := 5) (v := ?v11_5x7) (l' := bm 10 63) (a' := ?a11_5x7) rfl (by kernel_rfl) (by kernel_rfl) (by kernel_rfl) (fun _ _ _ h => h) (Or.inl ⟨by kernel_rfl, ?h11_5x7⟩) (by kernel_rfl) ?p11_5x7 hS0 ?r11_5x7
  case h11_5x7 => (intro w hS; go_simp; try with_reducible rfl)
  case p11_5x7 => (go_simp; try with_reducible rfl)
  refine wpAnyH_takeN (i := 6) (v := ?v11_6x7) (l' := bm 10 127) (a' := ?a11_6x7) rfl (by kernel_rfl) (by kernel_rfl) (by kernel_rfl) (fun _ _ _ h => h) (Or.inl ⟨by kernel_rfl, ?h11_6x7⟩) (by kernel_rfl) ?p11_6x7 hS0 ?r11_6x7
  case h11_6x7 => (intro w hS; go_simp; try with_reducible rfl)
  case p11_6x7 => (go_simp; try with_reducible rfl)
  refine wpAnyH_takeN (i := 7) (v := ?v11_7x7) (l' := bm 10 255) (a' := ?a11_7x7) rfl (by kernel_rfl) (by kernel_rfl) (by kernel_rfl) (fun _ _ _ h => h) (Or.inl ⟨by kernel_rfl, ?h11_7x7⟩) (by kernel_rfl) ?p11_7x7 hS0 ?r11_7x7
  case h11_7x7 => (intro w hS; go_simp; try with_reducible rfl)
  case p11_7x7 => (go_simp; try with_reducible rfl)
  refine wpAnyH_oneN (i := 8) (l' := bm 10 511) rfl (by kernel_rfl) (by kernel_rfl) (by kernel_rfl) (fun K hK => ?_)
  have hP := hS0.1
  go_simp
  go_at_call 67
  refine (Z7'.out _).mono ?_
  rintro r w30 ⟨rfl, hb⟩
  dsimp only
  have D30 := Lib.hid (below_step hP hb)
  clear hb
  have hS1 := HO.out _ (D30.out)
  clear hP hS0
  refine hK _ _ hS1 ?_
  clear hK K
  refine wpAnyH_takeN (i := 9) (v := ?v11_9x7) (l' := bm 10 1023) (a' := ?a11_9x7) rfl (by kernel_rfl) (by kernel_rfl) (by kernel_rfl) (fun _ _ _ h => h) (Or.inl ⟨by kernel_rfl, ?h11_9x7⟩) (by kernel_rfl) ?p11_9x7 hS1 ?r11_9x7
  case h11_9x7 => (intro w hS; go_simp; try with_reducible rfl)
  case p11_9x7 => (go_simp; try with_reducible rfl)
  refine wpAnyH_done (by kernel_rfl) ?_ _
  clear hS1
  have hq := (HO.out _ D30.out).2
  go_wp2_with fail
  rw [rounds_succ]
  go_wp2_with fail
  rcases HQ.out with ⟨e9, hz⟩ | e9
  · have ZQ := Lib.hid (fun w => within_sp hz w)
    clear hz
    go_wp2_with fail
    clear hq
    refine wp_region_held (S := (fun w' => Below V2.heap.size V2 w' ∧ w'.cell? ⟨w.heap.size, 0, none⟩ = some (Value.float FloatKind.f64 A.lo) ∧ w'.cell? ⟨w.heap.size, 1, none⟩ = some (Value.float FloatKind.f64 A.hi) ∧ w'.cell? ⟨w.heap.size + 1, 0, none⟩ = some (Value.float FloatKind.f64 B.lo) ∧ w'.cell? ⟨w.heap.size + 1, 1, none⟩ = some (Value.float FloatKind.f64 B.hi) ∧ w'.cell? ⟨g7, 0, none⟩ = some (Value.float FloatKind.f64 C.lo) ∧ w'.cell? ⟨g7, 1, none⟩ = some (Value.float FloatKind.f64 C.hi) ∧ w'.cell? ⟨g8, 0, none⟩ = some (Value.float FloatKind.f64 D.lo) ∧ w'.cell? ⟨g8, 1, none⟩ = some (Value.float FloatKind.f64 D.hi) ∧ w'.cell? ⟨g1, 0, none⟩ = some (Value.float FloatKind.f64 x0.lo) ∧ w'.cell? ⟨g1, 1, none⟩ = some (Value.float FloatKind.f64 x0.hi) ∧ w'.cell? ⟨g1, 2, none⟩ = some (Value.float FloatKind.f64 x1.lo) ∧ w'.cell? ⟨g1, 3, none⟩ = some (Value.float FloatKind.f64 x1.hi) ∧ w'.cell? ⟨g1, 4, none⟩ = some (Value.float FloatKind.f64 x2.lo) ∧ w'.cell? ⟨g1, 5, none⟩ = some (Value.float FloatKind.f64 x2.hi) ∧ w'.cell? ⟨g1, 6, none⟩ = some (Value.float FloatKind.f64 x3.lo) ∧ w'.cell? ⟨g1, 7, none⟩ = some (Value.float FloatKind.f64 x3.hi) ∧ w'.cell? ⟨g1, 8, none⟩ = some (Value.float FloatKind.f64 x4.lo) ∧ w'.cell? ⟨g1, 9, none⟩ = some (Value.float FloatKind.f64 x4.hi) ∧ w'.cell? ⟨g1, 10, none⟩ = some (Value.float FloatKind.f64 x5.lo) ∧ w'.cell? ⟨g1, 11, none⟩ = some (Value.float FloatKind.f64 x5.hi) ∧ w'.cell? ⟨g1, 12, none⟩ = some (Value.float FloatKind.f64 x6.lo) ∧ w'.cell? ⟨g1, 13, none⟩ = some (Value.float FloatKind.f64 x6.hi) ∧ w'.cell? ⟨g1, 14, none⟩ = some (Value.float FloatKind.f64 x7.lo) ∧ w'.cell? ⟨g1, 15, none⟩ = some (Value.float FloatKind.f64 x7.hi) ∧ w'.cell? ⟨g2, 0, none⟩ = some (Value.float FloatKind.f64 y0.lo) ∧ w'.cell? ⟨g2, 1, none⟩ = some (Value.float FloatKind.f64 y0.hi) ∧ w'.cell? ⟨g2, 2, none⟩ = some (Value.float FloatKind.f64 y1.lo) ∧ w'.cell? ⟨g2, 3, none⟩ = some (Value.float FloatKind.f64 y1.hi) ∧ w'.cell? ⟨g2, 4, none⟩ = some (Value.float FloatKind.f64 y2.lo) ∧ w'.cell? ⟨g2, 5, none⟩ = some (Value.float FloatKind.f64 y2.hi) ∧ w'.cell? ⟨g2, 6, none⟩ = some (Value.float FloatKind.f64 y3.lo) ∧ w'.cell? ⟨g2, 7, none⟩ = some (Value.float FloatKind.f64 y3.hi) ∧ w'.cell? ⟨g2, 8, none⟩ = some (Value.float FloatKind.f64 y4.lo) ∧ w'.cell? ⟨g2, 9, none⟩ = some (Value.float FloatKind.f64 y4.hi) ∧ w'.cell? ⟨g2, 10, none⟩ = some (Value.float FloatKind.f64 y5.lo) ∧ w'.cell? ⟨g2, 11, none⟩ = some (Value.float FloatKind.f64 y5.hi) ∧ w'.cell? ⟨g2, 12, none⟩ = some (Value.float FloatKind.f64 y6.lo) ∧ w'.cell? ⟨g2, 13, none⟩ = some (Value.float FloatKind.f64 y6.hi) ∧ w'.cell? ⟨g2, 14, none⟩ = some (Value.float FloatKind.f64 y7.lo) ∧ w'.cell? ⟨g2, 15, none⟩ = some (Value.float FloatKind.f64 y7.hi))) (by kernel_rfl) ?_
    (try change wpAnyH _ _ _ _ _ _ _ (World.drew _))
    have hS0 := HO.out _ (Below.drew D30.out)
    refine wpAnyH_takeN (i := 0) (v := ?v13_0) (l' := bm 11 1) (a' := ?a13_0) rfl (by kernel_rfl) (by kernel_rfl) (by kernel_rfl) (fun _ _ _ h => h) (Or.inl ⟨by kernel_rfl, ?h13_0⟩) (by kernel_rfl) ?p13_0 hS0 ?r13_0
    case h13_0 => (intro w hS; go_simp; try with_reducible rfl)
    case p13_0 => (go_simp; try with_reducible rfl)
    refine wpAnyH_takeN (i := 1) (v := ?v13_1) (l' := bm 11 3) (a' := ?a13_1) rfl (by kernel_rfl) (by kernel_rfl) (by kernel_rfl) (fun _ _ _ h => h) (Or.inl ⟨by kernel_rfl, ?h13_1⟩) (by kernel_rfl) ?p13_1 hS0 ?r13_1
    case h13_1 => (intro w hS; go_simp; try with_reducible rfl)
    case p13_1 => (go_simp; try with_reducible rfl)
    refine wpAnyH_takeN (i := 2) (v := ?v13_2) (l' := bm 11 7) (a' := ?a13_2) rfl (by kernel_rfl) (by kernel_rfl) (by kernel_rfl) (fun _ _ _ h => h) (Or.inl ⟨by kernel_rfl, ?h13_2⟩) (by kernel_rfl) ?p13_2 hS0 ?r13_2
    case h13_2 => (intro w hS; go_simp; try with_reducible rfl)
    case p13_2 => (go_simp; try with_reducible rfl)
    refine wpAnyH_takeN (i := 3) (v := ?v13_3) (l' := bm 11 15) (a' := ?a13_3) rfl (by kernel_rfl) (by kernel_rfl) (by kernel_rfl) (fun _ _ _ h => h) (Or.inl ⟨by kernel_rfl, ?h13_3⟩) (by kernel_rfl) ?p13_3 hS0 ?r13_3
    case h13_3 => (intro w hS; go_simp; try with_reducible rfl)
    case p13_3 => (go_simp; try with_reducible rfl)
    refine wpAnyH_takeN (i := 4) (v := ?v13_4) (l' := bm 11 31) (a' := ?a13_4) rfl (by kernel_rfl) (by kernel_rfl) (by kernel_rfl) (fun _ _ _ h => h) (Or.inl ⟨by kernel_rfl, ?h13_4⟩) (by kernel_rfl) ?p13_4 hS0 ?r13_4
    case h13_4 => (intro w hS; go_simp; try with_reducible rfl)
    case p13_4 => (go_simp; try with_reducible rfl)
    refine wpAnyH_takeN (i := 6) (v := ?v13_6) (l' := bm 11 95) (a' := ?a13_6) rfl (by kernel_rfl) (by kernel_rfl) (by kernel_rfl) (fun _ _ _ h => h) (Or.inl ⟨by kernel_rfl, ?h13_6⟩) (by kernel_rfl) ?p13_6 hS0 ?r13_6
    case h13_6 => (intro w hS; go_simp; try with_reducible rfl)
    case p13_6 => (go_simp; try with_reducible rfl)
    refine wpAnyH_oneN (i := 5) (l' := bm 11 127) rfl (by kernel_rfl) (by kernel_rfl) (by kernel_rfl) (fun K hK => ?_)
    have hP := hS0.1
    go_simp
    go_at_call 54
    refine (XQ.out _).mono ?_
    rintro r w31 ⟨rfl, hb⟩
    dsimp only
    have D31 := Lib.hid (below_step hP hb)
    clear hb
    have hS1 := HO.out _ (D31.out)
    clear hP hS0
    refine hK _ _ hS1 ?_
    clear hK K
    refine wpAnyH_oneN (i := 7) (l' := bm 11 255) rfl (by kernel_rfl) (by kernel_rfl) (by kernel_rfl) (fun K hK => ?_)
    have hP := hS1.1
    go_simp
    go_at_call 54
    refine (YQ.out _).mono ?_
    rintro r w32 ⟨rfl, hb⟩
    dsimp only
    have D32 := Lib.hid (below_step hP hb)
    clear hb
    have hS2 := HO.out _ (D32.out)
    clear hP hS1
    refine hK _ _ hS2 ?_
    clear hK K
    refine wpAnyH_oneN (i := 8) (l' := bm 11 511) rfl (by kernel_rfl) (by kernel_rfl) (by kernel_rfl) (fun K hK => ?_)
    have hP := hS2.1
    go_simp
    go_at_call 67
    refine (ZQ.out _).mono ?_
    rintro r w33 ⟨rfl, hb⟩
    dsimp only
    have D33 := Lib.hid (below_step hP hb)
    clear hb
    have hS3 := HO.out _ (D33.out)
    clear hP hS2
    refine hK _ _ hS3 ?_
    clear hK K
    refine wpAnyH_takeN (i := 9) (v := ?v13_9) (l' := bm 11 1023) (a' := ?a13_9) rfl (by kernel_rfl) (by kernel_rfl) (by kernel_rfl) (fun _ _ _ h => h) (Or.inl ⟨by kernel_rfl, ?h13_9⟩) (by kernel_rfl) ?p13_9 hS3 ?r13_9
    case h13_9 => (intro w hS; go_simp; try with_reducible rfl)
    case p13_9 => (go_simp; try with_reducible rfl)
    refine wpAnyH_takeN (i := 10) (v := ?v13_10) (l' := bm 11 2047) (a' := ?a13_10) rfl (by kernel_rfl) (by kernel_rfl) (by kernel_rfl) (fun _ _ _ h => h) (Or.inl ⟨by kernel_rfl, ?h13_10⟩) (by kernel_rfl) ?p13_10 hS3 ?r13_10
    case h13_10 => (intro w hS; go_simp; try with_reducible rfl)
    case p13_10 => (go_simp; try with_reducible rfl)
    refine wpAnyH_done (by kernel_rfl) ?_ _
    clear hS3
    have hq := (HO.out _ D33.out).2
    rcases HF.out with ⟨fn, f1, f2⟩ | ⟨fm, fk, f1, f2⟩
    · have S3 := Lib.hid (fun w => stays_sp 1 1 (Or.inr rfl) w)
      have F1 := Lib.hid f1
      have F2 := Lib.hid f2
      clear f1 f2
      go_wp2_with fail
      refine (F1.out _).mono ?_
      clear hq
      rintro r w34 ⟨rfl, hb⟩
      have D34 := Lib.hid (below_step D33.out hb)
      clear hb
      have hq := (HO.out _ D34.out).2
      go_wp2_with fail
      refine (F2.out _).mono ?_
      clear hq
      rintro r w35 ⟨rfl, hb⟩
      have D35 := Lib.hid (below_step D34.out hb)
      clear hb
      have hq := (HO.out _ D35.out).2
      go_wp2_with fail
      clear hq
      refine wp_region_held (S := (fun w' => Below V2.heap.size V2 w' ∧ w'.cell? ⟨w.heap.size, 0, none⟩ = some (Value.float FloatKind.f64 A.lo) ∧ w'.cell? ⟨w.heap.size, 1, none⟩ = some (Value.float FloatKind.f64 A.hi) ∧ w'.cell? ⟨w.heap.size + 1, 0, none⟩ = some (Value.float FloatKind.f64 B.lo) ∧ w'.cell? ⟨w.heap.size + 1, 1, none⟩ = some (Value.float FloatKind.f64 B.hi) ∧ w'.cell? ⟨g7, 0, none⟩ = some (Value.float FloatKind.f64 C.lo) ∧ w'.cell? ⟨g7, 1, none⟩ = some (Value.float FloatKind.f64 C.hi) ∧ w'.cell? ⟨g8, 0, none⟩ = some (Value.float FloatKind.f64 D.lo) ∧ w'.cell? ⟨g8, 1, none⟩ = some (Value.float FloatKind.f64 D.hi) ∧ w'.cell? ⟨g1, 0, none⟩ = some (Value.float FloatKind.f64 x0.lo) ∧ w'.cell? ⟨g1, 1, none⟩ = some (Value.float FloatKind.f64 x0.hi) ∧ w'.cell? ⟨g1, 2, none⟩ = some (Value.float FloatKind.f64 x1.lo) ∧ w'.cell? ⟨g1, 3, none⟩ = some (Value.float FloatKind.f64 x1.hi) ∧ w'.cell? ⟨g1, 4, none⟩ = some (Value.float FloatKind.f64 x2.lo) ∧ w'.cell? ⟨g1, 5, none⟩ = some (Value.float FloatKind.f64 x2.hi) ∧ w'.cell? ⟨g1, 6, none⟩ = some (Value.float FloatKind.f64 x3.lo) ∧ w'.cell? ⟨g1, 7, none⟩ = some (Value.float FloatKind.f64 x3.hi) ∧ w'.cell? ⟨g1, 8, none⟩ = some (Value.float FloatKind.f64 x4.lo) ∧ w'.cell? ⟨g1, 9, none⟩ = some (Value.float FloatKind.f64 x4.hi) ∧ w'.cell? ⟨g1, 10, none⟩ = some (Value.float FloatKind.f64 x5.lo) ∧ w'.cell? ⟨g1, 11, none⟩ = some (Value.float FloatKind.f64 x5.hi) ∧ w'.cell? ⟨g1, 12, none⟩ = some (Value.float FloatKind.f64 x6.lo) ∧ w'.cell? ⟨g1, 13, none⟩ = some (Value.float FloatKind.f64 x6.hi) ∧ w'.cell? ⟨g1, 14, none⟩ = some (Value.float FloatKind.f64 x7.lo) ∧ w'.cell? ⟨g1, 15, none⟩ = some (Value.float FloatKind.f64 x7.hi) ∧ w'.cell? ⟨g2, 0, none⟩ = some (Value.float FloatKind.f64 y0.lo) ∧ w'.cell? ⟨g2, 1, none⟩ = some (Value.float FloatKind.f64 y0.hi) ∧ w'.cell? ⟨g2, 2, none⟩ = some (Value.float FloatKind.f64 y1.lo) ∧ w'.cell? ⟨g2, 3, none⟩ = some (Value.float FloatKind.f64 y1.hi) ∧ w'.cell? ⟨g2, 4, none⟩ = some (Value.float FloatKind.f64 y2.lo) ∧ w'.cell? ⟨g2, 5, none⟩ = some (Value.float FloatKind.f64 y2.hi) ∧ w'.cell? ⟨g2, 6, none⟩ = some (Value.float FloatKind.f64 y3.lo) ∧ w'.cell? ⟨g2, 7, none⟩ = some (Value.float FloatKind.f64 y3.hi) ∧ w'.cell? ⟨g2, 8, none⟩ = some (Value.float FloatKind.f64 y4.lo) ∧ w'.cell? ⟨g2, 9, none⟩ = some (Value.float FloatKind.f64 y4.hi) ∧ w'.cell? ⟨g2, 10, none⟩ = some (Value.float FloatKind.f64 y5.lo) ∧ w'.cell? ⟨g2, 11, none⟩ = some (Value.float FloatKind.f64 y5.hi) ∧ w'.cell? ⟨g2, 12, none⟩ = some (Value.float FloatKind.f64 y6.lo) ∧ w'.cell? ⟨g2, 13, none⟩ = some (Value.float FloatKind.f64 y6.hi) ∧ w'.cell? ⟨g2, 14, none⟩ = some (Value.float FloatKind.f64 y7.lo) ∧ w'.cell? ⟨g2, 15, none⟩ = some (Value.float FloatKind.f64 y7.hi))) (by kernel_rfl) ?_
      (try change wpAnyH _ _ _ _ _ _ _ (World.drew _))
      have hS0 := HO.out _ (Below.drew D35.out)
      refine wpAnyH_takeN (i := 0) (v := ?v17_0) (l' := bm 29 1) (a' := ?a17_0) rfl (by kernel_rfl) (by kernel_rfl) (by kernel_rfl) (fun _ _ _ h => h) (Or.inl ⟨by kernel_rfl, ?h17_0⟩) (by kernel_rfl) ?p17_0 hS0 ?r17_0
      case h17_0 => (intro w hS; go_simp; try with_reducible rfl)
      case p17_0 => (go_simp; try with_reducible rfl)
      refine wpAnyH_takeN (i := 2) (v := ?v17_2) (l' := bm 29 5) (a' := ?a17_2) rfl (by kernel_rfl) (by kernel_rfl) (by kernel_rfl) (fun _ _ _ h => h) (Or.inl ⟨by kernel_rfl, ?h17_2⟩) (by kernel_rfl) ?p17_2 hS0 ?r17_2
      case h17_2 => (intro w hS; go_simp; try with_reducible rfl)
      case p17_2 => (go_simp; try with_reducible rfl)
      refine wpAnyH_oneN (i := 1) (l' := bm 29 7) rfl (by kernel_rfl) (by kernel_rfl) (by kernel_rfl) (fun K hK => ?_)
      have hP := hS0.1
      go_simp
      go_at_call 30
      refine (P1.out _).mono ?_
      rintro r w36 ⟨rfl, hb⟩
      dsimp only
      have D36 := Lib.hid (below_step hP hb)
      clear hb
      have hS1 := HO.out _ (D36.out)
      clear hP hS0
      refine hK _ _ hS1 ?_
      clear hK K
      refine wpAnyH_oneN (i := 3) (l' := bm 29 15) rfl (by kernel_rfl) (by kernel_rfl) (by kernel_rfl) (fun K hK => ?_)
      have hP := hS1.1
      go_simp
      go_at_call 30
      refine (P2.out _).mono ?_
      rintro r w37 ⟨rfl, hb⟩
      dsimp only
      have D37 := Lib.hid (below_step hP hb)
      clear hb
      have hS2 := HO.out _ (D37.out)
      clear hP hS1
      refine hK _ _ hS2 ?_
      clear hK K
      refine wpAnyH_oneN (i := 4) (l' := bm 29 31) rfl (by kernel_rfl) (by kernel_rfl) (by kernel_rfl) (fun K hK => ?_)
      have hP := hS2.1
      go_simp
      go_at_call 68
      refine (S1.out _).mono ?_
      rintro r w38 ⟨rfl, hb⟩
      dsimp only
      have D38 := Lib.hid (below_step hP hb)
      clear hb
      have hS3 := HO.out _ (D38.out)
      clear hP hS2
      refine hK _ _ hS3 ?_
      clear hK K
      refine wpAnyH_takeN (i := 5) (v := ?v17_5) (l' := bm 29 63) (a' := ?a17_5) rfl (by kernel_rfl) (by kernel_rfl) (by kernel_rfl) (fun _ _ _ h => h) (Or.inl ⟨by kernel_rfl, ?h17_5⟩) (by kernel_rfl) ?p17_5 hS3 ?r17_5
      case h17_5 => (intro w hS; go_simp; try with_reducible rfl)
      case p17_5 => (go_simp; try with_reducible rfl)
      refine wpAnyH_takeN (i := 6) (v := ?v17_6) (l' := bm 29 127) (a' := ?a17_6) rfl (by kernel_rfl) (by kernel_rfl) (by kernel_rfl) (fun _ _ _ h => h) (Or.inl ⟨by kernel_rfl, ?h17_6⟩) (by kernel_rfl) ?p17_6 hS3 ?r17_6
      case h17_6 => (intro w hS; go_simp; try with_reducible rfl)
      case p17_6 => (go_simp; try with_reducible rfl)
      refine wpAnyH_takeN (i := 7) (v := ?v17_7) (l' := bm 29 255) (a' := ?a17_7) rfl (by kernel_rfl) (by kernel_rfl) (by kernel_rfl) (fun _ _ _ h => h) (Or.inl ⟨by kernel_rfl, ?h17_7⟩) (by kernel_rfl) ?p17_7 hS3 ?r17_7
      case h17_7 => (intro w hS; go_simp; try with_reducible rfl)
      case p17_7 => (go_simp; try with_reducible rfl)
      refine wpAnyH_takeN (i := 9) (v := ?v17_9) (l' := bm 29 767) (a' := ?a17_9) rfl (by kernel_rfl) (by kernel_rfl) (by kernel_rfl) (fun _ _ _ h => h) (Or.inl ⟨by kernel_rfl, ?h17_9⟩) (by kernel_rfl) ?p17_9 hS3 ?r17_9
      case h17_9 => (intro w hS; go_simp; try with_reducible rfl)
      case p17_9 => (go_simp; try with_reducible rfl)
      refine wpAnyH_takeN (i := 10) (v := ?v17_10) (l' := bm 29 1791) (a' := ?a17_10) rfl (by kernel_rfl) (by kernel_rfl) (by kernel_rfl) (fun _ _ _ h => h) (Or.inl ⟨by kernel_rfl, ?h17_10⟩) (by kernel_rfl) ?p17_10 hS3 ?r17_10
      case h17_10 => (intro w hS; go_simp; try with_reducible rfl)
      case p17_10 => (go_simp; try with_reducible rfl)
      refine wpAnyH_oneN (i := 8) (l' := bm 29 2047) rfl (by kernel_rfl) (by kernel_rfl) (by kernel_rfl) (fun K hK => ?_)
      have hP := hS3.1
      go_simp
      go_at_call 31
      refine (L1.out _).mono ?_
      rintro r w39 ⟨rfl, hb⟩
      dsimp only
      have D39 := Lib.hid (below_step hP hb)
      clear hb
      have hS4 := HO.out _ (D39.out)
      clear hP hS3
      refine hK _ _ hS4 ?_
      clear hK K
      refine wpAnyH_oneN (i := 11) (l' := bm 29 4095) rfl (by kernel_rfl) (by kernel_rfl) (by kernel_rfl) (fun K hK => ?_)
      have hP := hS4.1
      go_simp
      go_at_call 31
      refine (L2.out _).mono ?_
      rintro r w40 ⟨rfl, hb⟩
      dsimp only
      have D40 := Lib.hid (below_step hP hb)
      clear hb
      have hS5 := HO.out _ (D40.out)
      clear hP hS4
      refine hK _ _ hS5 ?_
      clear hK K
      refine wpAnyH_oneN (i := 12) (l' := bm 29 8191) rfl (by kernel_rfl) (by kernel_rfl) (by kernel_rfl) (fun K hK => ?_)
      have hP := hS5.1
      go_simp
      go_at_call 68
      refine (S2.out _).mono ?_
      rintro r w41 ⟨rfl, hb⟩
      dsimp only
      have D41 := Lib.hid (below_step hP hb)
      clear hb
      have hS6 := HO.out _ (D41.out)
      clear hP hS5
      refine hK _ _ hS6 ?_
      clear hK K
      refine wpAnyH_takeN (i := 13) (v := ?v17_13) (l' := bm 29 16383) (a' := ?a17_13) rfl (by kernel_rfl) (by kernel_rfl) (by kernel_rfl) (fun _ _ _ h => h) (Or.inl ⟨by kernel_rfl, ?h17_13⟩) (by kernel_rfl) ?p17_13 hS6 ?r17_13
      case h17_13 => (intro w hS; go_simp; try with_reducible rfl)
      case p17_13 => (go_simp; try with_reducible rfl)
      refine wpAnyH_takeN (i := 14) (v := ?v17_14) (l' := bm 29 32767) (a' := ?a17_14) rfl (by kernel_rfl) (by kernel_rfl) (by kernel_rfl) (fun _ _ _ h => h) (Or.inl ⟨by kernel_rfl, ?h17_14⟩) (by kernel_rfl) ?p17_14 hS6 ?r17_14
      case h17_14 => (intro w hS; go_simp; try with_reducible rfl)
      case p17_14 => (go_simp; try with_reducible rfl)
      refine wpAnyH_takeN (i := 15) (v := ?v17_15) (l' := bm 29 65535) (a' := ?a17_15) rfl (by kernel_rfl) (by kernel_rfl) (by kernel_rfl) (fun _ _ _ h => h) (Or.inl ⟨by kernel_rfl, ?h17_15⟩) (by kernel_rfl) ?p17_15 hS6 ?r17_15
      case h17_15 => (intro w hS; go_simp; try with_reducible rfl)
      case p17_15 => (go_simp; try with_reducible rfl)
      refine wpAnyH_takeN (i := 16) (v := ?v17_16) (l' := bm 29 131071) (a' := ?a17_16) rfl (by kernel_rfl) (by kernel_rfl) (by kernel_rfl) (fun _ _ _ h => h) (Or.inl ⟨by kernel_rfl, ?h17_16⟩) (by kernel_rfl) ?p17_16 hS6 ?r17_16
      case h17_16 => (intro w hS; go_simp; try with_reducible rfl)
      case p17_16 => (go_simp; try with_reducible rfl)
      refine wpAnyH_oneN (i := 17) (l' := bm 29 262143) rfl (by kernel_rfl) (by kernel_rfl) (by kernel_rfl) (fun K hK => ?_)
      have hP := hS6.1
      go_simp
      go_at_call 68
      refine (S3.out _).mono ?_
      rintro r w42 ⟨rfl, hb⟩
      dsimp only
      have D42 := Lib.hid (below_step hP hb)
      clear hb
      have hS7 := HO.out _ (D42.out)
      clear hP hS6
      refine hK _ _ hS7 ?_
      clear hK K
      refine wpAnyH_takeN (i := 18) (v := ?v17_18) (l' := bm 29 524287) (a' := ?a17_18) rfl (by kernel_rfl) (by kernel_rfl) (by kernel_rfl) (fun _ _ _ h => h) (Or.inl ⟨by kernel_rfl, ?h17_18⟩) (by kernel_rfl) ?p17_18 hS7 ?r17_18
      case h17_18 => (intro w hS; go_simp; try with_reducible rfl)
      case p17_18 => (go_simp; try with_reducible rfl)
      refine wpAnyH_takeN (i := 19) (v := ?v17_19) (l' := bm 29 1048575) (a' := ?a17_19) rfl (by kernel_rfl) (by kernel_rfl) (by kernel_rfl) (fun _ _ _ h => h) (Or.inl ⟨by kernel_rfl, ?h17_19⟩) (by kernel_rfl) ?p17_19 hS7 ?r17_19
      case h17_19 => (intro w hS; go_simp; try with_reducible rfl)
      case p17_19 => (go_simp; try with_reducible rfl)
      refine wpAnyH_takeN (i := 20) (v := ?v17_20) (l' := bm 29 2097151) (a' := ?a17_20) rfl (by kernel_rfl) (by kernel_rfl) (by kernel_rfl) (fun _ _ _ h => h) (Or.inl ⟨by kernel_rfl, ?h17_20⟩) (by kernel_rfl) ?p17_20 hS7 ?r17_20
      case h17_20 => (intro w hS; go_simp; try with_reducible rfl)
      case p17_20 => (go_simp; try with_reducible rfl)
      refine wpAnyH_takeN (i := 21) (v := ?v17_21) (l' := bm 29 4194303) (a' := ?a17_21) rfl (by kernel_rfl) (by kernel_rfl) (by kernel_rfl) (fun _ _ _ h => h) (Or.inl ⟨by kernel_rfl, ?h17_21⟩) (by kernel_rfl) ?p17_21 hS7 ?r17_21
      case h17_21 => (intro w hS; go_simp; try with_reducible rfl)
      case p17_21 => (go_simp; try with_reducible rfl)
      refine wpAnyH_takeN (i := 22) (v := ?v17_22) (l' := bm 29 8388607) (a' := ?a17_22) rfl (by kernel_rfl) (by kernel_rfl) (by kernel_rfl) (fun _ _ _ h => h) (Or.inl ⟨by kernel_rfl, ?h17_22⟩) (by kernel_rfl) ?p17_22 hS7 ?r17_22
      case h17_22 => (intro w hS; go_simp; try with_reducible rfl)
      case p17_22 => (go_simp; try with_reducible rfl)
      refine wpAnyH_takeN (i := 23) (v := ?v17_23) (l' := bm 29 16777215) (a' := ?a17_23) rfl (by kernel_rfl) (by kernel_rfl) (by kernel_rfl) (fun _ _ _ h => h) (Or.inl ⟨by kernel_rfl, ?h17_23⟩) (by kernel_rfl) ?p17_23 hS7 ?r17_23
      case h17_23 => (intro w hS; go_simp; try with_reducible rfl)
      case p17_23 => (go_simp; try with_reducible rfl)
      refine wpAnyH_takeN (i := 24) (v := ?v17_24) (l' := bm 29 33554431) (a' := ?a17_24) rfl (by kernel_rfl) (by kernel_rfl) (by kernel_rfl) (fun _ _ _ h => h) (Or.inl ⟨by kernel_rfl, ?h17_24⟩) (by kernel_rfl) ?p17_24 hS7 ?r17_24
      case h17_24 => (intro w hS; go_simp; try with_reducible rfl)
      case p17_24 => (go_simp; try with_reducible rfl)
      refine wpAnyH_takeN (i := 25) (v := ?v17_25) (l' := bm 29 67108863) (a' := ?a17_25) rfl (by kernel_rfl) (by kernel_rfl) (by kernel_rfl) (fun _ _ _ h => h) (Or.inl ⟨by kernel_rfl, ?h17_25⟩) (by kernel_rfl) ?p17_25 hS7 ?r17_25
      case h17_25 => (intro w hS; go_simp; try with_reducible rfl)
      case p17_25 => (go_simp; try with_reducible rfl)
      refine wpAnyH_takeN (i := 26) (v := ?v17_26) (l' := bm 29 134217727) (a' := ?a17_26) rfl (by kernel_rfl) (by kernel_rfl) (by kernel_rfl) (fun _ _ _ h => h) (Or.inl ⟨by kernel_rfl, ?h17_26⟩) (by kernel_rfl) ?p17_26 hS7 ?r17_26
      case h17_26 => (intro w hS; go_simp; try with_reducible rfl)
      case p17_26 => (go_simp; try with_reducible rfl)
      refine wpAnyH_takeN (i := 27) (v := ?v17_27) (l' := bm 29 268435455) (a' := ?a17_27) rfl (by kernel_rfl) (by kernel_rfl) (by kernel_rfl) (fun _ _ _ h => h) (Or.inl ⟨by kernel_rfl, ?h17_27⟩) (by kernel_rfl) ?p17_27 hS7 ?r17_27
      case h17_27 => (intro w hS; go_simp; try with_reducible rfl)
      case p17_27 => (go_simp; try with_reducible rfl)
      refine wpAnyH_takeN (i := 28) (v := ?v17_28) (l' := bm 29 536870911) (a' := ?a17_28) rfl (by kernel_rfl) (by kernel_rfl) (by kernel_rfl) (fun _ _ _ h => h) (Or.inl ⟨by kernel_rfl, ?h17_28⟩) (by kernel_rfl) ?p17_28 hS7 ?r17_28
      case h17_28 => (intro w hS; go_simp; try with_reducible rfl)
      case p17_28 => (go_simp; try with_reducible rfl)
      refine wpAnyH_done (by kernel_rfl) ?_ _
      clear hS7
      have hq := (HO.out _ D42.out).2
      go_wp2_with fail
      go_ret
      exact ⟨ret_bool (by simp), below_step HB.out D42.out⟩
    · have S3 := Lib.hid (fun w => stays_sp 2 fk (Or.inl rfl) w)
      have F1 := Lib.hid f1
      have F2 := Lib.hid f2
      clear f1 f2
      go_wp2_with fail
      refine (F1.out _).mono ?_
      clear hq
      rintro r w34 ⟨rfl, hb⟩
      have D34 := Lib.hid (below_step D33.out hb)
      clear hb
      have hq := (HO.out _ D34.out).2
      go_wp2_with fail
      refine (F2.out _).mono ?_
      clear hq
      rintro r w35 ⟨rfl, hb⟩
      have D35 := Lib.hid (below_step D34.out hb)
      clear hb
      have hq := (HO.out _ D35.out).2
      go_wp2_with fail
      clear hq
      refine wp_region_held (S := (fun w' => Below V2.heap.size V2 w' ∧ w'.cell? ⟨w.heap.size, 0, none⟩ = some (Value.float FloatKind.f64 A.lo) ∧ w'.cell? ⟨w.heap.size, 1, none⟩ = some (Value.float FloatKind.f64 A.hi) ∧ w'.cell? ⟨w.heap.size + 1, 0, none⟩ = some (Value.float FloatKind.f64 B.lo) ∧ w'.cell? ⟨w.heap.size + 1, 1, none⟩ = some (Value.float FloatKind.f64 B.hi) ∧ w'.cell? ⟨g7, 0, none⟩ = some (Value.float FloatKind.f64 C.lo) ∧ w'.cell? ⟨g7, 1, none⟩ = some (Value.float FloatKind.f64 C.hi) ∧ w'.cell? ⟨g8, 0, none⟩ = some (Value.float FloatKind.f64 D.lo) ∧ w'.cell? ⟨g8, 1, none⟩ = some (Value.float FloatKind.f64 D.hi) ∧ w'.cell? ⟨g1, 0, none⟩ = some (Value.float FloatKind.f64 x0.lo) ∧ w'.cell? ⟨g1, 1, none⟩ = some (Value.float FloatKind.f64 x0.hi) ∧ w'.cell? ⟨g1, 2, none⟩ = some (Value.float FloatKind.f64 x1.lo) ∧ w'.cell? ⟨g1, 3, none⟩ = some (Value.float FloatKind.f64 x1.hi) ∧ w'.cell? ⟨g1, 4, none⟩ = some (Value.float FloatKind.f64 x2.lo) ∧ w'.cell? ⟨g1, 5, none⟩ = some (Value.float FloatKind.f64 x2.hi) ∧ w'.cell? ⟨g1, 6, none⟩ = some (Value.float FloatKind.f64 x3.lo) ∧ w'.cell? ⟨g1, 7, none⟩ = some (Value.float FloatKind.f64 x3.hi) ∧ w'.cell? ⟨g1, 8, none⟩ = some (Value.float FloatKind.f64 x4.lo) ∧ w'.cell? ⟨g1, 9, none⟩ = some (Value.float FloatKind.f64 x4.hi) ∧ w'.cell? ⟨g1, 10, none⟩ = some (Value.float FloatKind.f64 x5.lo) ∧ w'.cell? ⟨g1, 11, none⟩ = some (Value.float FloatKind.f64 x5.hi) ∧ w'.cell? ⟨g1, 12, none⟩ = some (Value.float FloatKind.f64 x6.lo) ∧ w'.cell? ⟨g1, 13, none⟩ = some (Value.float FloatKind.f64 x6.hi) ∧ w'.cell? ⟨g1, 14, none⟩ = some (Value.float FloatKind.f64 x7.lo) ∧ w'.cell? ⟨g1, 15, none⟩ = some (Value.float FloatKind.f64 x7.hi) ∧ w'.cell? ⟨g2, 0, none⟩ = some (Value.float FloatKind.f64 y0.lo) ∧ w'.cell? ⟨g2, 1, none⟩ = some (Value.float FloatKind.f64 y0.hi) ∧ w'.cell? ⟨g2, 2, none⟩ = some (Value.float FloatKind.f64 y1.lo) ∧ w'.cell? ⟨g2, 3, none⟩ = some (Value.float FloatKind.f64 y1.hi) ∧ w'.cell? ⟨g2, 4, none⟩ = some (Value.float FloatKind.f64 y2.lo) ∧ w'.cell? ⟨g2, 5, none⟩ = some (Value.float FloatKind.f64 y2.hi) ∧ w'.cell? ⟨g2, 6, none⟩ = some (Value.float FloatKind.f64 y3.lo) ∧ w'.cell? ⟨g2, 7, none⟩ = some (Value.float FloatKind.f64 y3.hi) ∧ w'.cell? ⟨g2, 8, none⟩ = some (Value.float FloatKind.f64 y4.lo) ∧ w'.cell? ⟨g2, 9, none⟩ = some (Value.float FloatKind.f64 y4.hi) ∧ w'.cell? ⟨g2, 10, none⟩ = some (Value.float FloatKind.f64 y5.lo) ∧ w'.cell? ⟨g2, 11, none⟩ = some (Value.float FloatKind.f64 y5.hi) ∧ w'.cell? ⟨g2, 12, none⟩ = some (Value.float FloatKind.f64 y6.lo) ∧ w'.cell? ⟨g2, 13, none⟩ = some (Value.float FloatKind.f64 y6.hi) ∧ w'.cell? ⟨g2, 14, none⟩ = some (Value.float FloatKind.f64 y7.lo) ∧ w'.cell? ⟨g2, 15, none⟩ = some (Value.float FloatKind.f64 y7.hi))) (by kernel_rfl) ?_
      (try change wpAnyH _ _ _ _ _ _ _ (World.drew _))
      have hS0 := HO.out _ (Below.drew D35.out)
      refine wpAnyH_takeN (i := 0) (v := ?v17_0x1) (l' := bm 29 1) (a' := ?a17_0x1) rfl (by kernel_rfl) (by kernel_rfl) (by kernel_rfl) (fun _ _ _ h => h) (Or.inl ⟨by kernel_rfl, ?h17_0x1⟩) (by kernel_rfl) ?p17_0x1 hS0 ?r17_0x1
      case h17_0x1 => (intro w hS; go_simp; try with_reducible rfl)
      case p17_0x1 => (go_simp; try with_reducible rfl)
      refine wpAnyH_takeN (i := 2) (v := ?v17_2x1) (l' := bm 29 5) (a' := ?a17_2x1) rfl (by kernel_rfl) (by kernel_rfl) (by kernel_rfl) (fun _ _ _ h => h) (Or.inl ⟨by kernel_rfl, ?h17_2x1⟩) (by kernel_rfl) ?p17_2x1 hS0 ?r17_2x1
      case h17_2x1 => (intro w hS; go_simp; try with_reducible rfl)
      case p17_2x1 => (go_simp; try with_reducible rfl)
      refine wpAnyH_oneN (i := 1) (l' := bm 29 7) rfl (by kernel_rfl) (by kernel_rfl) (by kernel_rfl) (fun K hK => ?_)
      have hP := hS0.1
      go_simp
      go_at_call 30
      refine (P1.out _).mono ?_
      rintro r w36 ⟨rfl, hb⟩
      dsimp only
      have D36 := Lib.hid (below_step hP hb)
      clear hb
      have hS1 := HO.out _ (D36.out)
      clear hP hS0
      refine hK _ _ hS1 ?_
      clear hK K
      refine wpAnyH_oneN (i := 3) (l' := bm 29 15) rfl (by kernel_rfl) (by kernel_rfl) (by kernel_rfl) (fun K hK => ?_)
      have hP := hS1.1
      go_simp
      go_at_call 30
      refine (P2.out _).mono ?_
      rintro r w37 ⟨rfl, hb⟩
      dsimp only
      have D37 := Lib.hid (below_step hP hb)
      clear hb
      have hS2 := HO.out _ (D37.out)
      clear hP hS1
      refine hK _ _ hS2 ?_
      clear hK K
      refine wpAnyH_oneN (i := 4) (l' := bm 29 31) rfl (by kernel_rfl) (by kernel_rfl) (by kernel_rfl) (fun K hK => ?_)
      have hP := hS2.1
      go_simp
      go_at_call 68
      refine (S1.out _).mono ?_
      rintro r w38 ⟨rfl, hb⟩
      dsimp only
      have D38 := Lib.hid (below_step hP hb)
      clear hb
      have hS3 := HO.out _ (D38.out)
      clear hP hS2
      refine hK _ _ hS3 ?_
      clear hK K
      refine wpAnyH_takeN (i := 5) (v := ?v17_5x1) (l' := bm 29 63) (a' := ?a17_5x1) rfl (by kernel_rfl) (by kernel_rfl) (by kernel_rfl) (fun _ _ _ h => h) (Or.inl ⟨by kernel_rfl, ?h17_5x1⟩) (by kernel_rfl) ?p17_5x1 hS3 ?r17_5x1
      case h17_5x1 => (intro w hS; go_simp; try with_reducible rfl)
      case p17_5x1 => (go_simp; try with_reducible rfl)
      refine wpAnyH_takeN (i := 6) (v := ?v17_6x1) (l' := bm 29 127) (a' := ?a17_6x1) rfl (by kernel_rfl) (by kernel_rfl) (by kernel_rfl) (fun _ _ _ h => h) (Or.inl ⟨by kernel_rfl, ?h17_6x1⟩) (by kernel_rfl) ?p17_6x1 hS3 ?r17_6x1
      case h17_6x1 => (intro w hS; go_simp; try with_reducible rfl)
      case p17_6x1 => (go_simp; try with_reducible rfl)
      refine wpAnyH_takeN (i := 7) (v := ?v17_7x1) (l' := bm 29 255) (a' := ?a17_7x1) rfl (by kernel_rfl) (by kernel_rfl) (by kernel_rfl) (fun _ _ _ h => h) (Or.inl ⟨by kernel_rfl, ?h17_7x1⟩) (by kernel_rfl) ?p17_7x1 hS3 ?r17_7x1
      case h17_7x1 => (intro w hS; go_simp; try with_reducible rfl)
      case p17_7x1 => (go_simp; try with_reducible rfl)
      refine wpAnyH_takeN (i := 9) (v := ?v17_9x1) (l' := bm 29 767) (a' := ?a17_9x1) rfl (by kernel_rfl) (by kernel_rfl) (by kernel_rfl) (fun _ _ _ h => h) (Or.inl ⟨by kernel_rfl, ?h17_9x1⟩) (by kernel_rfl) ?p17_9x1 hS3 ?r17_9x1
      case h17_9x1 => (intro w hS; go_simp; try with_reducible rfl)
      case p17_9x1 => (go_simp; try with_reducible rfl)
      refine wpAnyH_takeN (i := 10) (v := ?v17_10x1) (l' := bm 29 1791) (a' := ?a17_10x1) rfl (by kernel_rfl) (by kernel_rfl) (by kernel_rfl) (fun _ _ _ h => h) (Or.inl ⟨by kernel_rfl, ?h17_10x1⟩) (by kernel_rfl) ?p17_10x1 hS3 ?r17_10x1
      case h17_10x1 => (intro w hS; go_simp; try with_reducible rfl)
      case p17_10x1 => (go_simp; try with_reducible rfl)
      refine wpAnyH_oneN (i := 8) (l' := bm 29 2047) rfl (by kernel_rfl) (by kernel_rfl) (by kernel_rfl) (fun K hK => ?_)
      have hP := hS3.1
      go_simp
      go_at_call 31
      refine (L1.out _).mono ?_
      rintro r w39 ⟨rfl, hb⟩
      dsimp only
      have D39 := Lib.hid (below_step hP hb)
      clear hb
      have hS4 := HO.out _ (D39.out)
      clear hP hS3
      refine hK _ _ hS4 ?_
      clear hK K
      refine wpAnyH_oneN (i := 11) (l' := bm 29 4095) rfl (by kernel_rfl) (by kernel_rfl) (by kernel_rfl) (fun K hK => ?_)
      have hP := hS4.1
      go_simp
      go_at_call 31
      refine (L2.out _).mono ?_
      rintro r w40 ⟨rfl, hb⟩
      dsimp only
      have D40 := Lib.hid (below_step hP hb)
      clear hb
      have hS5 := HO.out _ (D40.out)
      clear hP hS4
      refine hK _ _ hS5 ?_
      clear hK K
      refine wpAnyH_oneN (i := 12) (l' := bm 29 8191) rfl (by kernel_rfl) (by kernel_rfl) (by kernel_rfl) (fun K hK => ?_)
      have hP := hS5.1
      go_simp
      go_at_call 68
      refine (S2.out _).mono ?_
      rintro r w41 ⟨rfl, hb⟩
      dsimp only
      have D41 := Lib.hid (below_step hP hb)
      clear hb
      have hS6 := HO.out _ (D41.out)
      clear hP hS5
      refine hK _ _ hS6 ?_
      clear hK K
      refine wpAnyH_takeN (i := 13) (v := ?v17_13x1) (l' := bm 29 16383) (a' := ?a17_13x1) rfl (by kernel_rfl) (by kernel_rfl) (by kernel_rfl) (fun _ _ _ h => h) (Or.inl ⟨by kernel_rfl, ?h17_13x1⟩) (by kernel_rfl) ?p17_13x1 hS6 ?r17_13x1
      case h17_13x1 => (intro w hS; go_simp; try with_reducible rfl)
      case p17_13x1 => (go_simp; try with_reducible rfl)
      refine wpAnyH_takeN (i := 14) (v := ?v17_14x1) (l' := bm 29 32767) (a' := ?a17_14x1) rfl (by kernel_rfl) (by kernel_rfl) (by kernel_rfl) (fun _ _ _ h => h) (Or.inl ⟨by kernel_rfl, ?h17_14x1⟩) (by kernel_rfl) ?p17_14x1 hS6 ?r17_14x1
      case h17_14x1 => (intro w hS; go_simp; try with_reducible rfl)
      case p17_14x1 => (go_simp; try with_reducible rfl)
      refine wpAnyH_takeN (i := 15) (v := ?v17_15x1) (l' := bm 29 65535) (a' := ?a17_15x1) rfl (by kernel_rfl) (by kernel_rfl) (by kernel_rfl) (fun _ _ _ h => h) (Or.inl ⟨by kernel_rfl, ?h17_15x1⟩) (by kernel_rfl) ?p17_15x1 hS6 ?r17_15x1
      case h17_15x1 => (intro w hS; go_simp; try with_reducible rfl)
      case p17_15x1 => (go_simp; try with_reducible rfl)
      refine wpAnyH_takeN (i := 16) (v := ?v17_16x1) (l' := bm 29 131071) (a' := ?a17_16x1) rfl (by kernel_rfl) (by kernel_rfl) (by kernel_rfl) (fun _ _ _ h => h) (Or.inl ⟨by kernel_rfl, ?h17_16x1⟩) (by kernel_rfl) ?p17_16x1 hS6 ?r17_16x1
      case h17_16x1 => (intro w hS; go_simp; try with_reducible rfl)
      case p17_16x1 => (go_simp; try with_reducible rfl)
      refine wpAnyH_oneN (i := 17) (l' := bm 29 262143) rfl (by kernel_rfl) (by kernel_rfl) (by kernel_rfl) (fun K hK => ?_)
      have hP := hS6.1
      go_simp
      go_at_call 68
      refine (S3.out _).mono ?_
      rintro r w42 ⟨rfl, hb⟩
      dsimp only
      have D42 := Lib.hid (below_step hP hb)
      clear hb
      have hS7 := HO.out _ (D42.out)
      clear hP hS6
      refine hK _ _ hS7 ?_
      clear hK K
      refine wpAnyH_takeN (i := 18) (v := ?v17_18x1) (l' := bm 29 524287) (a' := ?a17_18x1) rfl (by kernel_rfl) (by kernel_rfl) (by kernel_rfl) (fun _ _ _ h => h) (Or.inl ⟨by kernel_rfl, ?h17_18x1⟩) (by kernel_rfl) ?p17_18x1 hS7 ?r17_18x1
      case h17_18x1 => (intro w hS; go_simp; try with_reducible rfl)
      case p17_18x1 => (go_simp; try with_reducible rfl)
      refine wpAnyH_takeN (i := 19) (v := ?v17_19x1) (l' := bm 29 1048575) (a' := ?a17_19x1) rfl (by kernel_rfl) (by kernel_rfl) (by kernel_rfl) (fun _ _ _ h => h) (Or.inl ⟨by kernel_rfl, ?h17_19x1⟩) (by kernel_rfl) ?p17_19x1 hS7 ?r17_19x1
      case h17_19x1 => (intro w hS; go_simp; try with_reducible rfl)
      case p17_19x1 => (go_simp; try with_reducible rfl)
      refine wpAnyH_takeN (i := 20) (v := ?v17_20x1) (l' := bm 29 2097151) (a' := ?a17_20x1) rfl (by kernel_rfl) (by kernel_rfl) (by kernel_rfl) (fun _ _ _ h => h) (Or.inl ⟨by kernel_rfl, ?h17_20x1⟩) (by kernel_rfl) ?p17_20x1 hS7 ?r17_20x1
      case h17_20x1 => (intro w hS; go_simp; try with_reducible rfl)
      case p17_20x1 => (go_simp; try with_reducible rfl)
      refine wpAnyH_takeN (i := 21) (v := ?v17_21x1) (l' := bm 29 4194303) (a' := ?a17_21x1) rfl (by kernel_rfl) (by kernel_rfl) (by kernel_rfl) (fun _ _ _ h => h) (Or.inl ⟨by kernel_rfl, ?h17_21x1⟩) (by kernel_rfl) ?p17_21x1 hS7 ?r17_21x1
      case h17_21x1 => (intro w hS; go_simp; try with_reducible rfl)
      case p17_21x1 => (go_simp; try with_reducible rfl)
      refine wpAnyH_takeN (i := 22) (v := ?v17_22x1) (l' := bm 29 8388607) (a' := ?a17_22x1) rfl (by kernel_rfl) (by kernel_rfl) (by kernel_rfl) (fun _ _ _ h => h) (Or.inl ⟨by kernel_rfl, ?h17_22x1⟩) (by kernel_rfl) ?p17_22x1 hS7 ?r17_22x1
      case h17_22x1 => (intro w hS; go_simp; try with_reducible rfl)
      case p17_22x1 => (go_simp; try with_reducible rfl)
      refine wpAnyH_takeN (i := 23) (v := undef) (l' := bm 29 16777215) (a' := ?a17_23x1) rfl (by kernel_rfl) (by kernel_rfl) (by kernel_rfl) (fun _ _ _ h => h) (Or.inr ⟨by kernel_rfl, rfl⟩) (by kernel_rfl) ?p17_23x1 hS7 ?_
      case p17_23x1 => (go_simp; try with_reducible rfl)
      refine wpAnyH_takeN (i := 24) (v := undef) (l' := bm 29 33554431) (a' := ?a17_24x1) rfl (by kernel_rfl) (by kernel_rfl) (by kernel_rfl) (fun _ _ _ h => h) (Or.inr ⟨by kernel_rfl, rfl⟩) (by kernel_rfl) ?p17_24x1 hS7 ?_
      case p17_24x1 => (go_simp; try with_reducible rfl)
      refine wpAnyH_takeN (i := 25) (v := undef) (l' := bm 29 67108863) (a' := ?a17_25x1) rfl (by kernel_rfl) (by kernel_rfl) (by kernel_rfl) (fun _ _ _ h => h) (Or.inr ⟨by kernel_rfl, rfl⟩) (by kernel_rfl) ?p17_25x1 hS7 ?_
      case p17_25x1 => (go_simp; try with_reducible rfl)
      refine wpAnyH_takeN (i := 26) (v := ?v17_26x1) (l' := bm 29 134217727) (a' := ?a17_26x1) rfl (by kernel_rfl) (by kernel_rfl) (by kernel_rfl) (fun _ _ _ h => h) (Or.inl ⟨by kernel_rfl, ?h17_26x1⟩) (by kernel_rfl) ?p17_26x1 hS7 ?r17_26x1
      case h17_26x1 => (intro w hS; go_simp; try with_reducible rfl)
      case p17_26x1 => (go_simp; try with_reducible rfl)
      refine wpAnyH_takeN (i := 27) (v := ?v17_27x1) (l' := bm 29 268435455) (a' := ?a17_27x1) rfl (by kernel_rfl) (by kernel_rfl) (by kernel_rfl) (fun _ _ _ h => h) (Or.inl ⟨by kernel_rfl, ?h17_27x1⟩) (by kernel_rfl) ?p17_27x1 hS7 ?r17_27x1
      case h17_27x1 => (intro w hS; go_simp; try with_reducible rfl)
      case p17_27x1 => (go_simp; try with_reducible rfl)
      refine wpAnyH_takeN (i := 28) (v := ?v17_28x1) (l' := bm 29 536870911) (a' := ?a17_28x1) rfl (by kernel_rfl) (by kernel_rfl) (by kernel_rfl) (fun _ _ _ h => h) (Or.inl ⟨by kernel_rfl, ?h17_28x1⟩) (by kernel_rfl) ?p17_28x1 hS7 ?r17_28x1
      case h17_28x1 => (intro w hS; go_simp; try with_reducible rfl)
      case p17_28x1 => (go_simp; try with_reducible rfl)
      refine wpAnyH_done (by kernel_rfl) ?_ _
      clear hS7
      have hq := (HO.out _ D42.out).2
      go_wp2_with fail
      go_ret
      exact ⟨ret_bool (by simp), below_step HB.out D42.out⟩
  · go_wp2_with fail
    clear hq
    refine wp_region_held (S := (fun w' => Below V2.heap.size V2 w' ∧ w'.cell? ⟨w.heap.size, 0, none⟩ = some (Value.float FloatKind.f64 A.lo) ∧ w'.cell? ⟨w.heap.size, 1, none⟩ = some (Value.float FloatKind.f64 A.hi) ∧ w'.cell? ⟨w.heap.size + 1, 0, none⟩ = some (Value.float FloatKind.f64 B.lo) ∧ w'.cell? ⟨w.heap.size + 1, 1, none⟩ = some (Value.float FloatKind.f64 B.hi) ∧ w'.cell? ⟨g7, 0, none⟩ = some (Value.float FloatKind.f64 C.lo) ∧ w'.cell? ⟨g7, 1, none⟩ = some (Value.float FloatKind.f64 C.hi) ∧ w'.cell? ⟨g8, 0, none⟩ = some (Value.float FloatKind.f64 D.lo) ∧ w'.cell? ⟨g8, 1, none⟩ = some (Value.float FloatKind.f64 D.hi) ∧ w'.cell? ⟨g1, 0, none⟩ = some (Value.float FloatKind.f64 x0.lo) ∧ w'.cell? ⟨g1, 1, none⟩ = some (Value.float FloatKind.f64 x0.hi) ∧ w'.cell? ⟨g1, 2, none⟩ = some (Value.float FloatKind.f64 x1.lo) ∧ w'.cell? ⟨g1, 3, none⟩ = some (Value.float FloatKind.f64 x1.hi) ∧ w'.cell? ⟨g1, 4, none⟩ = some (Value.float FloatKind.f64 x2.lo) ∧ w'.cell? ⟨g1, 5, none⟩ = some (Value.float FloatKind.f64 x2.hi) ∧ w'.cell? ⟨g1, 6, none⟩ = some (Value.float FloatKind.f64 x3.lo) ∧ w'.cell? ⟨g1, 7, none⟩ = some (Value.float FloatKind.f64 x3.hi) ∧ w'.cell? ⟨g1, 8, none⟩ = some (Value.float FloatKind.f64 x4.lo) ∧ w'.cell? ⟨g1, 9, none⟩ = some (Value.float FloatKind.f64 x4.hi) ∧ w'.cell? ⟨g1, 10, none⟩ = some (Value.float FloatKind.f64 x5.lo) ∧ w'.cell? ⟨g1, 11, none⟩ = some (Value.float FloatKind.f64 x5.hi) ∧ w'.cell? ⟨g1, 12, none⟩ = some (Value.float FloatKind.f64 x6.lo) ∧ w'.cell? ⟨g1, 13, none⟩ = some (Value.float FloatKind.f64 x6.hi) ∧ w'.cell? ⟨g1, 14, none⟩ = some (Value.float FloatKind.f64 x7.lo) ∧ w'.cell? ⟨g1, 15, none⟩ = some (Value.float FloatKind.f64 x7.hi) ∧ w'.cell? ⟨g2, 0, none⟩ = some (Value.float FloatKind.f64 y0.lo) ∧ w'.cell? ⟨g2, 1, none⟩ = some (Value.float FloatKind.f64 y0.hi) ∧ w'.cell? ⟨g2, 2, none⟩ = some (Value.float FloatKind.f64 y1.lo) ∧ w'.cell? ⟨g2, 3, none⟩ = some (Value.float FloatKind.f64 y1.hi) ∧ w'.cell? ⟨g2, 4, none⟩ = some (Value.float FloatKind.f64 y2.lo) ∧ w'.cell? ⟨g2, 5, none⟩ = some (Value.float FloatKind.f64 y2.hi) ∧ w'.cell? ⟨g2, 6, none⟩ = some (Value.float FloatKind.f64 y3.lo) ∧ w'.cell? ⟨g2, 7, none⟩ = some (Value.float FloatKind.f64 y3.hi) ∧ w'.cell? ⟨g2, 8, none⟩ = some (Value.float FloatKind.f64 y4.lo) ∧ w'.cell? ⟨g2, 9, none⟩ = some (Value.float FloatKind.f64 y4.hi) ∧ w'.cell? ⟨g2, 10, none⟩ = some (Value.float FloatKind.f64 y5.lo) ∧ w'.cell? ⟨g2, 11, none⟩ = some (Value.float FloatKind.f64 y5.hi) ∧ w'.cell? ⟨g2, 12, none⟩ = some (Value.float FloatKind.f64 y6.lo) ∧ w'.cell? ⟨g2, 13, none⟩ = some (Value.float FloatKind.f64 y6.hi) ∧ w'.cell? ⟨g2, 14, none⟩ = some (Value.float FloatKind.f64 y7.lo) ∧ w'.cell? ⟨g2, 15, none⟩ = some (Value.float FloatKind.f64 y7.hi))) (by kernel_rfl) ?_
    (try change wpAnyH _ _ _ _ _ _ _ (World.drew _))
    have hS0 := HO.out _ (Below.drew D30.out)
    refine wpAnyH_takeN (i := 0) (v := ?v13_0x1) (l' := bm 11 1) (a' := ?a13_0x1) rfl (by kernel_rfl) (by kernel_rfl) (by kernel_rfl) (fun _ _ _ h => h) (Or.inl ⟨by kernel_rfl, ?h13_0x1⟩) (by kernel_rfl) ?p13_0x1 hS0 ?r13_0x1
    case h13_0x1 => (intro w hS; go_simp; try with_reducible rfl)
    case p13_0x1 => (go_simp; try with_reducible rfl)
    refine wpAnyH_takeN (i := 1) (v := ?v13_1x1) (l' := bm 11 3) (a' := ?a13_1x1) rfl (by kernel_rfl) (by kernel_rfl) (by kernel_rfl) (fun _ _ _ h => h) (Or.inl ⟨by kernel_rfl, ?h13_1x1⟩) (by kernel_rfl) ?p13_1x1 hS0 ?r13_1x1
    case h13_1x1 => (intro w hS; go_simp; try with_reducible rfl)
    case p13_1x1 => (go_simp; try with_reducible rfl)
    refine wpAnyH_takeN (i := 2) (v := ?v13_2x1) (l' := bm 11 7) (a' := ?a13_2x1) rfl (by kernel_rfl) (by kernel_rfl) (by kernel_rfl) (fun _ _ _ h => h) (Or.inl ⟨by kernel_rfl, ?h13_2x1⟩) (by kernel_rfl) ?p13_2x1 hS0 ?r13_2x1
    case h13_2x1 => (intro w hS; go_simp; try with_reducible rfl)
    case p13_2x1 => (go_simp; try with_reducible rfl)
    refine wpAnyH_takeN (i := 3) (v := ?v13_3x1) (l' := bm 11 15) (a' := ?a13_3x1) rfl (by kernel_rfl) (by kernel_rfl) (by kernel_rfl) (fun _ _ _ h => h) (Or.inl ⟨by kernel_rfl, ?h13_3x1⟩) (by kernel_rfl) ?p13_3x1 hS0 ?r13_3x1
    case h13_3x1 => (intro w hS; go_simp; try with_reducible rfl)
    case p13_3x1 => (go_simp; try with_reducible rfl)
    refine wpAnyH_takeN (i := 4) (v := undef) (l' := bm 11 31) (a' := ?a13_4x1) rfl (by kernel_rfl) (by kernel_rfl) (by kernel_rfl) (fun _ _ _ h => h) (Or.inr ⟨by kernel_rfl, rfl⟩) (by kernel_rfl) ?p13_4x1 hS0 ?_
    case p13_4x1 => (go_simp; try with_reducible rfl)
    refine wpAnyH_takeN (i := 5) (v := undef) (l' := bm 11 63) (a' := ?a13_5x1) rfl (by kernel_rfl) (by kernel_rfl) (by kernel_rfl) (fun _ _ _ h => h) (Or.inr ⟨by kernel_rfl, rfl⟩) (by kernel_rfl) ?p13_5x1 hS0 ?_
    case p13_5x1 => (go_simp; try with_reducible rfl)
    refine wpAnyH_takeN (i := 6) (v := undef) (l' := bm 11 127) (a' := ?a13_6x1) rfl (by kernel_rfl) (by kernel_rfl) (by kernel_rfl) (fun _ _ _ h => h) (Or.inr ⟨by kernel_rfl, rfl⟩) (by kernel_rfl) ?p13_6x1 hS0 ?_
    case p13_6x1 => (go_simp; try with_reducible rfl)
    refine wpAnyH_takeN (i := 7) (v := undef) (l' := bm 11 255) (a' := ?a13_7x1) rfl (by kernel_rfl) (by kernel_rfl) (by kernel_rfl) (fun _ _ _ h => h) (Or.inr ⟨by kernel_rfl, rfl⟩) (by kernel_rfl) ?p13_7x1 hS0 ?_
    case p13_7x1 => (go_simp; try with_reducible rfl)
    refine wpAnyH_takeN (i := 8) (v := undef) (l' := bm 11 511) (a' := ?a13_8x1) rfl (by kernel_rfl) (by kernel_rfl) (by kernel_rfl) (fun _ _ _ h => h) (Or.inr ⟨by kernel_rfl, rfl⟩) (by kernel_rfl) ?p13_8x1 hS0 ?_
    case p13_8x1 => (go_simp; try with_reducible rfl)
    refine wpAnyH_takeN (i := 9) (v := undef) (l' := bm 11 1023) (a' := ?a13_9x1) rfl (by kernel_rfl) (by kernel_rfl) (by kernel_rfl) (fun _ _ _ h => h) (Or.inr ⟨by kernel_rfl, rfl⟩) (by kernel_rfl) ?p13_9x1 hS0 ?_
    case p13_9x1 => (go_simp; try with_reducible rfl)
    refine wpAnyH_takeN (i := 10) (v := ?v13_10x1) (l' := bm 11 2047) (a' := ?a13_10x1) rfl (by kernel_rfl) (by kernel_rfl) (by kernel_rfl) (fun _ _ _ h => h) (Or.inl ⟨by kernel_rfl, ?h13_10x1⟩) (by kernel_rfl) ?p13_10x1 hS0 ?r13_10x1
    case h13_10x1 => (intro w hS; go_simp; try with_reducible rfl)
    case p13_10x1 => (go_simp; try with_reducible rfl)
    refine wpAnyH_done (by kernel_rfl) ?_ _
    have D31 := Lib.hid (Below.drew D30.out)
    clear hS0
    have hq := (HO.out _ D31.out).2
    rcases HF.out with ⟨fn, f1, f2⟩ | ⟨fm, fk, f1, f2⟩
    · have S3 := Lib.hid (fun w => stays_sp 1 1 (Or.inr rfl) w)
      have F1 := Lib.hid f1
      have F2 := Lib.hid f2
      clear f1 f2
      go_wp2_with fail
      refine (F1.out _).mono ?_
      clear hq
      rintro r w32 ⟨rfl, hb⟩
      have D32 := Lib.hid (below_step D31.out hb)
      clear hb
      have hq := (HO.out _ D32.out).2
      go_wp2_with fail
      refine (F2.out _).mono ?_
      clear hq
      rintro r w33 ⟨rfl, hb⟩
      have D33 := Lib.hid (below_step D32.out hb)
      clear hb
      have hq := (HO.out _ D33.out).2
      go_wp2_with fail
      clear hq
      refine wp_region_held (S := (fun w' => Below V2.heap.size V2 w' ∧ w'.cell? ⟨w.heap.size, 0, none⟩ = some (Value.float FloatKind.f64 A.lo) ∧ w'.cell? ⟨w.heap.size, 1, none⟩ = some (Value.float FloatKind.f64 A.hi) ∧ w'.cell? ⟨w.heap.size + 1, 0, none⟩ = some (Value.float FloatKind.f64 B.lo) ∧ w'.cell? ⟨w.heap.size + 1, 1, none⟩ = some (Value.float FloatKind.f64 B.hi) ∧ w'.cell? ⟨g7, 0, none⟩ = some (Value.float FloatKind.f64 C.lo) ∧ w'.cell? ⟨g7, 1, none⟩ = some (Value.float FloatKind.f64 C.hi) ∧ w'.cell? ⟨g8, 0, none⟩ = some (Value.float FloatKind.f64 D.lo) ∧ w'.cell? ⟨g8, 1, none⟩ = some (Value.float FloatKind.f64 D.hi) ∧ w'.cell? ⟨g1, 0, none⟩ = some (Value.float FloatKind.f64 x0.lo) ∧ w'.cell? ⟨g1, 1, none⟩ = some (Value.float FloatKind.f64 x0.hi) ∧ w'.cell? ⟨g1, 2, none⟩ = some (Value.float FloatKind.f64 x1.lo) ∧ w'.cell? ⟨g1, 3, none⟩ = some (Value.float FloatKind.f64 x1.hi) ∧ w'.cell? ⟨g1, 4, none⟩ = some (Value.float FloatKind.f64 x2.lo) ∧ w'.cell? ⟨g1, 5, none⟩ = some (Value.float FloatKind.f64 x2.hi) ∧ w'.cell? ⟨g1, 6, none⟩ = some (Value.float FloatKind.f64 x3.lo) ∧ w'.cell? ⟨g1, 7, none⟩ = some (Value.float FloatKind.f64 x3.hi) ∧ w'.cell? ⟨g1, 8, none⟩ = some (Value.float FloatKind.f64 x4.lo) ∧ w'.cell? ⟨g1, 9, none⟩ = some (Value.float FloatKind.f64 x4.hi) ∧ w'.cell? ⟨g1, 10, none⟩ = some (Value.float FloatKind.f64 x5.lo) ∧ w'.cell? ⟨g1, 11, none⟩ = some (Value.float FloatKind.f64 x5.hi) ∧ w'.cell? ⟨g1, 12, none⟩ = some (Value.float FloatKind.f64 x6.lo) ∧ w'.cell? ⟨g1, 13, none⟩ = some (Value.float FloatKind.f64 x6.hi) ∧ w'.cell? ⟨g1, 14, none⟩ = some (Value.float FloatKind.f64 x7.lo) ∧ w'.cell? ⟨g1, 15, none⟩ = some (Value.float FloatKind.f64 x7.hi) ∧ w'.cell? ⟨g2, 0, none⟩ = some (Value.float FloatKind.f64 y0.lo) ∧ w'.cell? ⟨g2, 1, none⟩ = some (Value.float FloatKind.f64 y0.hi) ∧ w'.cell? ⟨g2, 2, none⟩ = some (Value.float FloatKind.f64 y1.lo) ∧ w'.cell? ⟨g2, 3, none⟩ = some (Value.float FloatKind.f64 y1.hi) ∧ w'.cell? ⟨g2, 4, none⟩ = some (Value.float FloatKind.f64 y2.lo) ∧ w'.cell? ⟨g2, 5, none⟩ = some (Value.float FloatKind.f64 y2.hi) ∧ w'.cell? ⟨g2, 6, none⟩ = some (Value.float FloatKind.f64 y3.lo) ∧ w'.cell? ⟨g2, 7, none⟩ = some (Value.float FloatKind.f64 y3.hi) ∧ w'.cell? ⟨g2, 8, none⟩ = some (Value.float FloatKind.f64 y4.lo) ∧ w'.cell? ⟨g2, 9, none⟩ = some (Value.float FloatKind.f64 y4.hi) ∧ w'.cell? ⟨g2, 10, none⟩ = some (Value.float FloatKind.f64 y5.lo) ∧ w'.cell? ⟨g2, 11, none⟩ = some (Value.float FloatKind.f64 y5.hi) ∧ w'.cell? ⟨g2, 12, none⟩ = some (Value.float FloatKind.f64 y6.lo) ∧ w'.cell? ⟨g2, 13, none⟩ = some (Value.float FloatKind.f64 y6.hi) ∧ w'.cell? ⟨g2, 14, none⟩ = some (Value.float FloatKind.f64 y7.lo) ∧ w'.cell? ⟨g2, 15, none⟩ = some (Value.float FloatKind.f64 y7.hi))) (by kernel_rfl) ?_
      (try change wpAnyH _ _ _ _ _ _ _ (World.drew _))
      have hS0 := HO.out _ (Below.drew D33.out)
      refine wpAnyH_takeN (i := 0) (v := ?v17_0x2) (l' := bm 29 1) (a' := ?a17_0x2) rfl (by kernel_rfl) (by kernel_rfl) (by kernel_rfl) (fun _ _ _ h => h) (Or.inl ⟨by kernel_rfl, ?h17_0x2⟩) (by kernel_rfl) ?p17_0x2 hS0 ?r17_0x2
      case h17_0x2 => (intro w hS; go_simp; try with_reducible rfl)
      case p17_0x2 => (go_simp; try with_reducible rfl)
      refine wpAnyH_takeN (i := 2) (v := ?v17_2x2) (l' := bm 29 5) (a' := ?a17_2x2) rfl (by kernel_rfl) (by kernel_rfl) (by kernel_rfl) (fun _ _ _ h => h) (Or.inl ⟨by kernel_rfl, ?h17_2x2⟩) (by kernel_rfl) ?p17_2x2 hS0 ?r17_2x2
      case h17_2x2 => (intro w hS; go_simp; try with_reducible rfl)
      case p17_2x2 => (go_simp; try with_reducible rfl)
      refine wpAnyH_oneN (i := 1) (l' := bm 29 7) rfl (by kernel_rfl) (by kernel_rfl) (by kernel_rfl) (fun K hK => ?_)
      have hP := hS0.1
      go_simp
      go_at_call 30
      refine (P1.out _).mono ?_
      rintro r w34 ⟨rfl, hb⟩
      dsimp only
      have D34 := Lib.hid (below_step hP hb)
      clear hb
      have hS1 := HO.out _ (D34.out)
      clear hP hS0
      refine hK _ _ hS1 ?_
      clear hK K
      refine wpAnyH_oneN (i := 3) (l' := bm 29 15) rfl (by kernel_rfl) (by kernel_rfl) (by kernel_rfl) (fun K hK => ?_)
      have hP := hS1.1
      go_simp
      go_at_call 30
      refine (P2.out _).mono ?_
      rintro r w35 ⟨rfl, hb⟩
      dsimp only
      have D35 := Lib.hid (below_step hP hb)
      clear hb
      have hS2 := HO.out _ (D35.out)
      clear hP hS1
      refine hK _ _ hS2 ?_
      clear hK K
      refine wpAnyH_oneN (i := 4) (l' := bm 29 31) rfl (by kernel_rfl) (by kernel_rfl) (by kernel_rfl) (fun K hK => ?_)
      have hP := hS2.1
      go_simp
      go_at_call 68
      refine (S1.out _).mono ?_
      rintro r w36 ⟨rfl, hb⟩
      dsimp only
      have D36 := Lib.hid (below_step hP hb)
      clear hb
      have hS3 := HO.out _ (D36.out)
      clear hP hS2
      refine hK _ _ hS3 ?_
      clear hK K
      refine wpAnyH_takeN (i := 5) (v := ?v17_5x2) (l' := bm 29 63) (a' := ?a17_5x2) rfl (by kernel_rfl) (by kernel_rfl) (by kernel_rfl) (fun _ _ _ h => h) (Or.inl ⟨by kernel_rfl, ?h17_5x2⟩) (by kernel_rfl) ?p17_5x2 hS3 ?r17_5x2
      case h17_5x2 => (intro w hS; go_simp; try with_reducible rfl)
      case p17_5x2 => (go_simp; try with_reducible rfl)
      refine wpAnyH_takeN (i := 6) (v := ?v17_6x2) (l' := bm 29 127) (a' := ?a17_6x2) rfl (by kernel_rfl) (by kernel_rfl) (by kernel_rfl) (fun _ _ _ h => h) (Or.inl ⟨by kernel_rfl, ?h17_6x2⟩) (by kernel_rfl) ?p17_6x2 hS3 ?r17_6x2
      case h17_6x2 => (intro w hS; go_simp; try with_reducible rfl)
      case p17_6x2 => (go_simp; try with_reducible rfl)
      refine wpAnyH_takeN (i := 7) (v := ?v17_7x2) (l' := bm 29 255) (a' := ?a17_7x2) rfl (by kernel_rfl) (by kernel_rfl) (by kernel_rfl) (fun _ _ _ h => h) (Or.inl ⟨by kernel_rfl, ?h17_7x2⟩) (by kernel_rfl) ?p17_7x2 hS3 ?r17_7x2
      case h17_7x2 => (intro w hS; go_simp; try with_reducible rfl)
      case p17_7x2 => (go_simp; try with_reducible rfl)
      refine wpAnyH_takeN (i := 9) (v := ?v17_9x2) (l' := bm 29 767) (a' := ?a17_9x2) rfl (by kernel_rfl) (by kernel_rfl) (by kernel_rfl) (fun _ _ _ h => h) (Or.inl ⟨by kernel_rfl, ?h17_9x2⟩) (by kernel_rfl) ?p17_9x2 hS3 ?r17_9x2
      case h17_9x2 => (intro w hS; go_simp; try with_reducible rfl)
      case p17_9x2 => (go_simp; try with_reducible rfl)
      refine wpAnyH_takeN (i := 10) (v := ?v17_10x2) (l' := bm 29 1791) (a' := ?a17_10x2) rfl (by kernel_rfl) (by kernel_rfl) (by kernel_rfl) (fun _ _ _ h => h) (Or.inl ⟨by kernel_rfl, ?h17_10x2⟩) (by kernel_rfl) ?p17_10x2 hS3 ?r17_10x2
      case h17_10x2 => (intro w hS; go_simp; try with_reducible rfl)
      case p17_10x2 => (go_simp; try with_reducible rfl)
      refine wpAnyH_oneN (i := 8) (l' := bm 29 2047) rfl (by kernel_rfl) (by kernel_rfl) (by kernel_rfl) (fun K hK => ?_)
      have hP := hS3.1
      go_simp
      go_at_call 31
      refine (L1.out _).mono ?_
      rintro r w37 ⟨rfl, hb⟩
      dsimp only
      have D37 := Lib.hid (below_step hP hb)
      clear hb
      have hS4 := HO.out _ (D37.out)
      clear hP hS3
      refine hK _ _ hS4 ?_
      clear hK K
      refine wpAnyH_oneN (i := 11) (l' := bm 29 4095) rfl (by kernel_rfl) (by kernel_rfl) (by kernel_rfl) (fun K hK => ?_)
      have hP := hS4.1
      go_simp
      go_at_call 31
      refine (L2.out _).mono ?_
      rintro r w38 ⟨rfl, hb⟩
      dsimp only
      have D38 := Lib.hid (below_step hP hb)
      clear hb
      have hS5 := HO.out _ (D38.out)
      clear hP hS4
      refine hK _ _ hS5 ?_
      clear hK K
      refine wpAnyH_oneN (i := 12) (l' := bm 29 8191) rfl (by kernel_rfl) (by kernel_rfl) (by kernel_rfl) (fun K hK => ?_)
      have hP := hS5.1
      go_simp
      go_at_call 68
      refine (S2.out _).mono ?_
      rintro r w39 ⟨rfl, hb⟩
      dsimp only
      have D39 := Lib.hid (below_step hP hb)
      clear hb
      have hS6 := HO.out _ (D39.out)
      clear hP hS5
      refine hK _ _ hS6 ?_
      clear hK K
      refine wpAnyH_takeN (i := 13) (v := ?v17_13x2) (l' := bm 29 16383) (a' := ?a17_13x2) rfl (by kernel_rfl) (by kernel_rfl) (by kernel_rfl) (fun _ _ _ h => h) (Or.inl ⟨by kernel_rfl, ?h17_13x2⟩) (by kernel_rfl) ?p17_13x2 hS6 ?r17_13x2
      case h17_13x2 => (intro w hS; go_simp; try with_reducible rfl)
      case p17_13x2 => (go_simp; try with_reducible rfl)
      refine wpAnyH_takeN (i := 14) (v := ?v17_14x2) (l' := bm 29 32767) (a' := ?a17_14x2) rfl (by kernel_rfl) (by kernel_rfl) (by kernel_rfl) (fun _ _ _ h => h) (Or.inl ⟨by kernel_rfl, ?h17_14x2⟩) (by kernel_rfl) ?p17_14x2 hS6 ?r17_14x2
      case h17_14x2 => (intro w hS; go_simp; try with_reducible rfl)
      case p17_14x2 => (go_simp; try with_reducible rfl)
      refine wpAnyH_takeN (i := 15) (v := ?v17_15x2) (l' := bm 29 65535) (a' := ?a17_15x2) rfl (by kernel_rfl) (by kernel_rfl) (by kernel_rfl) (fun _ _ _ h => h) (Or.inl ⟨by kernel_rfl, ?h17_15x2⟩) (by kernel_rfl) ?p17_15x2 hS6 ?r17_15x2
      case h17_15x2 => (intro w hS; go_simp; try with_reducible rfl)
      case p17_15x2 => (go_simp; try with_reducible rfl)
      refine wpAnyH_takeN (i := 16) (v := ?v17_16x2) (l' := bm 29 131071) (a' := ?a17_16x2) rfl (by kernel_rfl) (by kernel_rfl) (by kernel_rfl) (fun _ _ _ h => h) (Or.inl ⟨by kernel_rfl, ?h17_16x2⟩) (by kernel_rfl) ?p17_16x2 hS6 ?r17_16x2
      case h17_16x2 => (intro w hS; go_simp; try with_reducible rfl)
      case p17_16x2 => (go_simp; try with_reducible rfl)
      refine wpAnyH_oneN (i := 17) (l' := bm 29 262143) rfl (by kernel_rfl) (by kernel_rfl) (by kernel_rfl) (fun K hK => ?_)
      have hP := hS6.1
      go_simp
      go_at_call 68
      refine (S3.out _).mono ?_
      rintro r w40 ⟨rfl, hb⟩
      dsimp only
      have D40 := Lib.hid (below_step hP hb)
      clear hb
      have hS7 := HO.out _ (D40.out)
      clear hP hS6
      refine hK _ _ hS7 ?_
      clear hK K
      refine wpAnyH_takeN (i := 18) (v := ?v17_18x2) (l' := bm 29 524287) (a' := ?a17_18x2) rfl (by kernel_rfl) (by kernel_rfl) (by kernel_rfl) (fun _ _ _ h => h) (Or.inl ⟨by kernel_rfl, ?h17_18x2⟩) (by kernel_rfl) ?p17_18x2 hS7 ?r17_18x2
      case h17_18x2 => (intro w hS; go_simp; try with_reducible rfl)
      case p17_18x2 => (go_simp; try with_reducible rfl)
      refine wpAnyH_takeN (i := 19) (v := ?v17_19x2) (l' := bm 29 1048575) (a' := ?a17_19x2) rfl (by kernel_rfl) (by kernel_rfl) (by kernel_rfl) (fun _ _ _ h => h) (Or.inl ⟨by kernel_rfl, ?h17_19x2⟩) (by kernel_rfl) ?p17_19x2 hS7 ?r17_19x2
      case h17_19x2 => (intro w hS; go_simp; try with_reducible rfl)
      case p17_19x2 => (go_simp; try with_reducible rfl)
      refine wpAnyH_takeN (i := 20) (v := ?v17_20x2) (l' := bm 29 2097151) (a' := ?a17_20x2) rfl (by kernel_rfl) (by kernel_rfl) (by kernel_rfl) (fun _ _ _ h => h) (Or.inl ⟨by kernel_rfl, ?h17_20x2⟩) (by kernel_rfl) ?p17_20x2 hS7 ?r17_20x2
      case h17_20x2 => (intro w hS; go_simp; try with_reducible rfl)
      case p17_20x2 => (go_simp; try with_reducible rfl)
      refine wpAnyH_takeN (i := 21) (v := ?v17_21x2) (l' := bm 29 4194303) (a' := ?a17_21x2) rfl (by kernel_rfl) (by kernel_rfl) (by kernel_rfl) (fun _ _ _ h => h) (Or.inl ⟨by kernel_rfl, ?h17_21x2⟩) (by kernel_rfl) ?p17_21x2 hS7 ?r17_21x2
      case h17_21x2 => (intro w hS; go_simp; try with_reducible rfl)
      case p17_21x2 => (go_simp; try with_reducible rfl)
      refine wpAnyH_takeN (i := 22) (v := ?v17_22x2) (l' := bm 29 8388607) (a' := ?a17_22x2) rfl (by kernel_rfl) (by kernel_rfl) (by kernel_rfl) (fun _ _ _ h => h) (Or.inl ⟨by kernel_rfl, ?h17_22x2⟩) (by kernel_rfl) ?p17_22x2 hS7 ?r17_22x2
      case h17_22x2 => (intro w hS; go_simp; try with_reducible rfl)
      case p17_22x2 => (go_simp; try with_reducible rfl)
      refine wpAnyH_takeN (i := 23) (v := ?v17_23x2) (l' := bm 29 16777215) (a' := ?a17_23x2) rfl (by kernel_rfl) (by kernel_rfl) (by kernel_rfl) (fun _ _ _ h => h) (Or.inl ⟨by kernel_rfl, ?h17_23x2⟩) (by kernel_rfl) ?p17_23x2 hS7 ?r17_23x2
      case h17_23x2 => (intro w hS; go_simp; try with_reducible rfl)
      case p17_23x2 => (go_simp; try with_reducible rfl)
      refine wpAnyH_takeN (i := 24) (v := ?v17_24x2) (l' := bm 29 33554431) (a' := ?a17_24x2) rfl (by kernel_rfl) (by kernel_rfl) (by kernel_rfl) (fun _ _ _ h => h) (Or.inl ⟨by kernel_rfl, ?h17_24x2⟩) (by kernel_rfl) ?p17_24x2 hS7 ?r17_24x2
      case h17_24x2 => (intro w hS; go_simp; try with_reducible rfl)
      case p17_24x2 => (go_simp; try with_reducible rfl)
      refine wpAnyH_takeN (i := 25) (v := ?v17_25x2) (l' := bm 29 67108863) (a' := ?a17_25x2) rfl (by kernel_rfl) (by kernel_rfl) (by kernel_rfl) (fun _ _ _ h => h) (Or.inl ⟨by kernel_rfl, ?h17_25x2⟩) (by kernel_rfl) ?p17_25x2 hS7 ?r17_25x2
      case h17_25x2 => (intro w hS; go_simp; try with_reducible rfl)
      case p17_25x2 => (go_simp; try with_reducible rfl)
      refine wpAnyH_takeN (i := 26) (v := ?v17_26x2) (l' := bm 29 134217727) (a' := ?a17_26x2) rfl (by kernel_rfl) (by kernel_rfl) (by kernel_rfl) (fun _ _ _ h => h) (Or.inl ⟨by kernel_rfl, ?h17_26x2⟩) (by kernel_rfl) ?p17_26x2 hS7 ?r17_26x2
      case h17_26x2 => (intro w hS; go_simp; try with_reducible rfl)
      case p17_26x2 => (go_simp; try with_reducible rfl)
      refine wpAnyH_takeN (i := 27) (v := ?v17_27x2) (l' := bm 29 268435455) (a' := ?a17_27x2) rfl (by kernel_rfl) (by kernel_rfl) (by kernel_rfl) (fun _ _ _ h => h) (Or.inl ⟨by kernel_rfl, ?h17_27x2⟩) (by kernel_rfl) ?p17_27x2 hS7 ?r17_27x2
      case h17_27x2 => (intro w hS; go_simp; try with_reducible rfl)
      case p17_27x2 => (go_simp; try with_reducible rfl)
      refine wpAnyH_takeN (i := 28) (v := ?v17_28x2) (l' := bm 29 536870911) (a' := ?a17_28x2) rfl (by kernel_rfl) (by kernel_rfl) (by kernel_rfl) (fun _ _ _ h => h) (Or.inl ⟨by kernel_rfl, ?h17_28x2⟩) (by kernel_rfl) ?p17_28x2 hS7 ?r17_28x2
      case h17_28x2 => (intro w hS; go_simp; try with_reducible rfl)
      case p17_28x2 => (go_simp; try with_reducible rfl)
      refine wpAnyH_done (by kernel_rfl) ?_ _
      clear hS7
      have hq := (HO.out _ D40.out).2
      go_wp2_with fail
      go_ret
      exact ⟨ret_bool (by simp), below_step HB.out D40.out⟩
    · have S3 := Lib.hid (fun w => stays_sp 2 fk (Or.inl rfl) w)
      have F1 := Lib.hid f1
      have F2 := Lib.hid f2
      clear f1 f2
      go_wp2_with fail
      refine (F1.out _).mono ?_
      clear hq
      rintro r w32 ⟨rfl, hb⟩
      have D32 := Lib.hid (below_step D31.out hb)
      clear hb
      have hq := (HO.out _ D32.out).2
      go_wp2_with fail
      refine (F2.out _).mono ?_
      clear hq
      rintro r w33 ⟨rfl, hb⟩
      have D33 := Lib.hid (below_step D32.out hb)
      clear hb
      have hq := (HO.out _ D33.out).2
      go_wp2_with fail
      clear hq
      refine wp_region_held (S := (fun w' => Below V2.heap.size V2 w' ∧ w'.cell? ⟨w.heap.size, 0, none⟩ = some (Value.float FloatKind.f64 A.lo) ∧ w'.cell? ⟨w.heap.size, 1, none⟩ = some (Value.float FloatKind.f64 A.hi) ∧ w'.cell? ⟨w.heap.size + 1, 0, none⟩ = some (Value.float FloatKind.f64 B.lo) ∧ w'.cell? ⟨w.heap.size + 1, 1, none⟩ = some (Value.float FloatKind.f64 B.hi) ∧ w'.cell? ⟨g7, 0, none⟩ = some (Value.float FloatKind.f64 C.lo) ∧ w'.cell? ⟨g7, 1, none⟩ = some (Value.float FloatKind.f64 C.hi) ∧ w'.cell? ⟨g8, 0, none⟩ = some (Value.float FloatKind.f64 D.lo) ∧ w'.cell? ⟨g8, 1, none⟩ = some (Value.float FloatKind.f64 D.hi) ∧ w'.cell? ⟨g1, 0, none⟩ = some (Value.float FloatKind.f64 x0.lo) ∧ w'.cell? ⟨g1, 1, none⟩ = some (Value.float FloatKind.f64 x0.hi) ∧ w'.cell? ⟨g1, 2, none⟩ = some (Value.float FloatKind.f64 x1.lo) ∧ w'.cell? ⟨g1, 3, none⟩ = some (Value.float FloatKind.f64 x1.hi) ∧ w'.cell? ⟨g1, 4, none⟩ = some (Value.float FloatKind.f64 x2.lo) ∧ w'.cell? ⟨g1, 5, none⟩ = some (Value.float FloatKind.f64 x2.hi) ∧ w'.cell? ⟨g1, 6, none⟩ = some (Value.float FloatKind.f64 x3.lo) ∧ w'.cell? ⟨g1, 7, none⟩ = some (Value.float FloatKind.f64 x3.hi) ∧ w'.cell? ⟨g1, 8, none⟩ = some (Value.float FloatKind.f64 x4.lo) ∧ w'.cell? ⟨g1, 9, none⟩ = some (Value.float FloatKind.f64 x4.hi) ∧ w'.cell? ⟨g1, 10, none⟩ = some (Value.float FloatKind.f64 x5.lo) ∧ w'.cell? ⟨g1, 11, none⟩ = some (Value.float FloatKind.f64 x5.hi) ∧ w'.cell? ⟨g1, 12, none⟩ = some (Value.float FloatKind.f64 x6.lo) ∧ w'.cell? ⟨g1, 13, none⟩ = some (Value.float FloatKind.f64 x6.hi) ∧ w'.cell? ⟨g1, 14, none⟩ = some (Value.float FloatKind.f64 x7.lo) ∧ w'.cell? ⟨g1, 15, none⟩ = some (Value.float FloatKind.f64 x7.hi) ∧ w'.cell? ⟨g2, 0, none⟩ = some (Value.float FloatKind.f64 y0.lo) ∧ w'.cell? ⟨g2, 1, none⟩ = some (Value.float FloatKind.f64 y0.hi) ∧ w'.cell? ⟨g2, 2, none⟩ = some (Value.float FloatKind.f64 y1.lo) ∧ w'.cell? ⟨g2, 3, none⟩ = some (Value.float FloatKind.f64 y1.hi) ∧ w'.cell? ⟨g2, 4, none⟩ = some (Value.float FloatKind.f64 y2.lo) ∧ w'.cell? ⟨g2, 5, none⟩ = some (Value.float FloatKind.f64 y2.hi) ∧ w'.cell? ⟨g2, 6, none⟩ = some (Value.float FloatKind.f64 y3.lo) ∧ w'.cell? ⟨g2, 7, none⟩ = some (Value.float FloatKind.f64 y3.hi) ∧ w'.cell? ⟨g2, 8, none⟩ = some (Value.float FloatKind.f64 y4.lo) ∧ w'.cell? ⟨g2, 9, none⟩ = some (Value.float FloatKind.f64 y4.hi) ∧ w'.cell? ⟨g2, 10, none⟩ = some (Value.float FloatKind.f64 y5.lo) ∧ w'.cell? ⟨g2, 11, none⟩ = some (Value.float FloatKind.f64 y5.hi) ∧ w'.cell? ⟨g2, 12, none⟩ = some (Value.float FloatKind.f64 y6.lo) ∧ w'.cell? ⟨g2, 13, none⟩ = some (Value.float FloatKind.f64 y6.hi) ∧ w'.cell? ⟨g2, 14, none⟩ = some (Value.float FloatKind.f64 y7.lo) ∧ w'.cell? ⟨g2, 15, none⟩ = some (Value.float FloatKind.f64 y7.hi))) (by kernel_rfl) ?_
      (try change wpAnyH _ _ _ _ _ _ _ (World.drew _))
      have hS0 := HO.out _ (Below.drew D33.out)
      refine wpAnyH_takeN (i := 0) (v := ?v17_0x3) (l' := bm 29 1) (a' := ?a17_0x3) rfl (by kernel_rfl) (by kernel_rfl) (by kernel_rfl) (fun _ _ _ h => h) (Or.inl ⟨by kernel_rfl, ?h17_0x3⟩) (by kernel_rfl) ?p17_0x3 hS0 ?r17_0x3
      case h17_0x3 => (intro w hS; go_simp; try with_reducible rfl)
      case p17_0x3 => (go_simp; try with_reducible rfl)
      refine wpAnyH_takeN (i := 2) (v := ?v17_2x3) (l' := bm 29 5) (a' := ?a17_2x3) rfl (by kernel_rfl) (by kernel_rfl) (by kernel_rfl) (fun _ _ _ h => h) (Or.inl ⟨by kernel_rfl, ?h17_2x3⟩) (by kernel_rfl) ?p17_2x3 hS0 ?r17_2x3
      case h17_2x3 => (intro w hS; go_simp; try with_reducible rfl)
      case p17_2x3 => (go_simp; try with_reducible rfl)
      refine wpAnyH_oneN (i := 1) (l' := bm 29 7) rfl (by kernel_rfl) (by kernel_rfl) (by kernel_rfl) (fun K hK => ?_)
      have hP := hS0.1
      go_simp
      go_at_call 30
      refine (P1.out _).mono ?_
      rintro r w34 ⟨rfl, hb⟩
      dsimp only
      have D34 := Lib.hid (below_step hP hb)
      clear hb
      have hS1 := HO.out _ (D34.out)
      clear hP hS0
      refine hK _ _ hS1 ?_
      clear hK K
      refine wpAnyH_oneN (i := 3) (l' := bm 29 15) rfl (by kernel_rfl) (by kernel_rfl) (by kernel_rfl) (fun K hK => ?_)
      have hP := hS1.1
      go_simp
      go_at_call 30
      refine (P2.out _).mono ?_
      rintro r w35 ⟨rfl, hb⟩
      dsimp only
      have D35 := Lib.hid (below_step hP hb)
      clear hb
      have hS2 := HO.out _ (D35.out)
      clear hP hS1
      refine hK _ _ hS2 ?_
      clear hK K
      refine wpAnyH_oneN (i := 4) (l' := bm 29 31) rfl (by kernel_rfl) (by kernel_rfl) (by kernel_rfl) (fun K hK => ?_)
      have hP := hS2.1
      go_simp
      go_at_call 68
      refine (S1.out _).mono ?_
      rintro r w36 ⟨rfl, hb⟩
      dsimp only
      have D36 := Lib.hid (below_step hP hb)
      clear hb
      have hS3 := HO.out _ (D36.out)
      clear hP hS2
      refine hK _ _ hS3 ?_
      clear hK K
      refine wpAnyH_takeN (i := 5) (v := ?v17_5x3) (l' := bm 29 63) (a' := ?a17_5x3) rfl (by kernel_rfl) (by kernel_rfl) (by kernel_rfl) (fun _ _ _ h => h) (Or.inl ⟨by kernel_rfl, ?h17_5x3⟩) (by kernel_rfl) ?p17_5x3 hS3 ?r17_5x3
      case h17_5x3 => (intro w hS; go_simp; try with_reducible rfl)
      case p17_5x3 => (go_simp; try with_reducible rfl)
      refine wpAnyH_takeN (i := 6) (v := ?v17_6x3) (l' := bm 29 127) (a' := ?a17_6x3) rfl (by kernel_rfl) (by kernel_rfl) (by kernel_rfl) (fun _ _ _ h => h) (Or.inl ⟨by kernel_rfl, ?h17_6x3⟩) (by kernel_rfl) ?p17_6x3 hS3 ?r17_6x3
      case h17_6x3 => (intro w hS; go_simp; try with_reducible rfl)
      case p17_6x3 => (go_simp; try with_reducible rfl)
      refine wpAnyH_takeN (i := 7) (v := ?v17_7x3) (l' := bm 29 255) (a' := ?a17_7x3) rfl (by kernel_rfl) (by kernel_rfl) (by kernel_rfl) (fun _ _ _ h => h) (Or.inl ⟨by kernel_rfl, ?h17_7x3⟩) (by kernel_rfl) ?p17_7x3 hS3 ?r17_7x3
      case h17_7x3 => (intro w hS; go_simp; try with_reducible rfl)
      case p17_7x3 => (go_simp; try with_reducible rfl)
      refine wpAnyH_takeN (i := 9) (v := ?v17_9x3) (l' := bm 29 767) (a' := ?a17_9x3) rfl (by kernel_rfl) (by kernel_rfl) (by kernel_rfl) (fun _ _ _ h => h) (Or.inl ⟨by kernel_rfl, ?h17_9x3⟩) (by kernel_rfl) ?p17_9x3 hS3 ?r17_9x3
      case h17_9x3 => (intro w hS; go_simp; try with_reducible rfl)
      case p17_9x3 => (go_simp; try with_reducible rfl)
      refine wpAnyH_takeN (i := 10) (v := ?v17_10x3) (l' := bm 29 1791) (a' := ?a17_10x3) rfl (by kernel_rfl) (by kernel_rfl) (by kernel_rfl) (fun _ _ _ h => h) (Or.inl ⟨by kernel_rfl, ?h17_10x3⟩) (by kernel_rfl) ?p17_10x3 hS3 ?r17_10x3
      case h17_10x3 => (intro w hS; go_simp; try with_reducible rfl)
      case p17_10x3 => (go_simp; try with_reducible rfl)
      refine wpAnyH_oneN (i := 8) (l' := bm 29 2047) rfl (by kernel_rfl) (by kernel_rfl) (by kernel_rfl) (fun K hK => ?_)
      have hP := hS3.1
      go_simp
      go_at_call 31
      refine (L1.out _).mono ?_
      rintro r w37 ⟨rfl, hb⟩
      dsimp only
      have D37 := Lib.hid (below_step hP hb)
      clear hb
      have hS4 := HO.out _ (D37.out)
      clear hP hS3
      refine hK _ _ hS4 ?_
      clear hK K
      refine wpAnyH_oneN (i := 11) (l' := bm 29 4095) rfl (by kernel_rfl) (by kernel_rfl) (by kernel_rfl) (fun K hK => ?_)
      have hP := hS4.1
      go_simp
      go_at_call 31
      refine (L2.out _).mono ?_
      rintro r w38 ⟨rfl, hb⟩
      dsimp only
      have D38 := Lib.hid (below_step hP hb)
      clear hb
      have hS5 := HO.out _ (D38.out)
      clear hP hS4
      refine hK _ _ hS5 ?_
      clear hK K
      refine wpAnyH_oneN (i := 12) (l' := bm 29 8191) rfl (by kernel_rfl) (by kernel_rfl) (by kernel_rfl) (fun K hK => ?_)
      have hP := hS5.1
      go_simp
      go_at_call 68
      refine (S2.out _).mono ?_
      rintro r w39 ⟨rfl, hb⟩
      dsimp only
      have D39 := Lib.hid (below_step hP hb)
      clear hb
      have hS6 := HO.out _ (D39.out)
      clear hP hS5
      refine hK _ _ hS6 ?_
      clear hK K
      refine wpAnyH_takeN (i := 13) (v := ?v17_13x3) (l' := bm 29 16383) (a' := ?a17_13x3) rfl (by kernel_rfl) (by kernel_rfl) (by kernel_rfl) (fun _ _ _ h => h) (Or.inl ⟨by kernel_rfl, ?h17_13x3⟩) (by kernel_rfl) ?p17_13x3 hS6 ?r17_13x3
      case h17_13x3 => (intro w hS; go_simp; try with_reducible rfl)
      case p17_13x3 => (go_simp; try with_reducible rfl)
      refine wpAnyH_takeN (i := 14) (v := ?v17_14x3) (l' := bm 29 32767) (a' := ?a17_14x3) rfl (by kernel_rfl) (by kernel_rfl) (by kernel_rfl) (fun _ _ _ h => h) (Or.inl ⟨by kernel_rfl, ?h17_14x3⟩) (by kernel_rfl) ?p17_14x3 hS6 ?r17_14x3
      case h17_14x3 => (intro w hS; go_simp; try with_reducible rfl)
      case p17_14x3 => (go_simp; try with_reducible rfl)
      refine wpAnyH_takeN (i := 15) (v := ?v17_15x3) (l' := bm 29 65535) (a' := ?a17_15x3) rfl (by kernel_rfl) (by kernel_rfl) (by kernel_rfl) (fun _ _ _ h => h) (Or.inl ⟨by kernel_rfl, ?h17_15x3⟩) (by kernel_rfl) ?p17_15x3 hS6 ?r17_15x3
      case h17_15x3 => (intro w hS; go_simp; try with_reducible rfl)
      case p17_15x3 => (go_simp; try with_reducible rfl)
      refine wpAnyH_takeN (i := 16) (v := ?v17_16x3) (l' := bm 29 131071) (a' := ?a17_16x3) rfl (by kernel_rfl) (by kernel_rfl) (by kernel_rfl) (fun _ _ _ h => h) (Or.inl ⟨by kernel_rfl, ?h17_16x3⟩) (by kernel_rfl) ?p17_16x3 hS6 ?r17_16x3
      case h17_16x3 => (intro w hS; go_simp; try with_reducible rfl)
      case p17_16x3 => (go_simp; try with_reducible rfl)
      refine wpAnyH_oneN (i := 17) (l' := bm 29 262143) rfl (by kernel_rfl) (by kernel_rfl) (by kernel_rfl) (fun K hK => ?_)
      have hP := hS6.1
      go_simp
      go_at_call 68
      refine (S3.out _).mono ?_
      rintro r w40 ⟨rfl, hb⟩
      dsimp only
      have D40 := Lib.hid (below_step hP hb)
      clear hb
      have hS7 := HO.out _ (D40.out)
      clear hP hS6
      refine hK _ _ hS7 ?_
      clear hK K
      refine wpAnyH_takeN (i := 18) (v := ?v17_18x3) (l' := bm 29 524287) (a' := ?a17_18x3) rfl (by kernel_rfl) (by kernel_rfl) (by kernel_rfl) (fun _ _ _ h => h) (Or.inl ⟨by kernel_rfl, ?h17_18x3⟩) (by kernel_rfl) ?p17_18x3 hS7 ?r17_18x3
      case h17_18x3 => (intro w hS; go_simp; try with_reducible rfl)
      case p17_18x3 => (go_simp; try with_reducible rfl)
      refine wpAnyH_takeN (i := 19) (v := ?v17_19x3) (l' := bm 29 1048575) (a' := ?a17_19x3) rfl (by kernel_rfl) (by kernel_rfl) (by kernel_rfl) (fun _ _ _ h => h) (Or.inl ⟨by kernel_rfl, ?h17_19x3⟩) (by kernel_rfl) ?p17_19x3 hS7 ?r17_19x3
      case h17_19x3 => (intro w hS; go_simp; try with_reducible rfl)
      case p17_19x3 => (go_simp; try with_reducible rfl)
      refine wpAnyH_takeN (i := 20) (v := ?v17_20x3) (l' := bm 29 2097151) (a' := ?a17_20x3) rfl (by kernel_rfl) (by kernel_rfl) (by kernel_rfl) (fun _ _ _ h => h) (Or.inl ⟨by kernel_rfl, ?h17_20x3⟩) (by kernel_rfl) ?p17_20x3 hS7 ?r17_20x3
      case h17_20x3 => (intro w hS; go_simp; try with_reducible rfl)
      case p17_20x3 => (go_simp; try with_reducible rfl)
      refine wpAnyH_takeN (i := 21) (v := ?v17_21x3) (l' := bm 29 4194303) (a' := ?a17_21x3) rfl (by kernel_rfl) (by kernel_rfl) (by kernel_rfl) (fun _ _ _ h => h) (Or.inl ⟨by kernel_rfl, ?h17_21x3⟩) (by kernel_rfl) ?p17_21x3 hS7 ?r17_21x3
      case h17_21x3 => (intro w hS; go_simp; try with_reducible rfl)
      case p17_21x3 => (go_simp; try with_reducible rfl)
      refine wpAnyH_takeN (i := 22) (v := ?v17_22x3) (l' := bm 29 8388607) (a' := ?a17_22x3) rfl (by kernel_rfl) (by kernel_rfl) (by kernel_rfl) (fun _ _ _ h => h) (Or.inl ⟨by kernel_rfl, ?h17_22x3⟩) (by kernel_rfl) ?p17_22x3 hS7 ?r17_22x3
      case h17_22x3 => (intro w hS; go_simp; try with_reducible rfl)
      case p17_22x3 => (go_simp; try with_reducible rfl)
      refine wpAnyH_takeN (i := 23) (v := undef) (l' := bm 29 16777215) (a' := ?a17_23x3) rfl (by kernel_rfl) (by kernel_rfl) (by kernel_rfl) (fun _ _ _ h => h) (Or.inr ⟨by kernel_rfl, rfl⟩) (by kernel_rfl) ?p17_23x3 hS7 ?_
      case p17_23x3 => (go_simp; try with_reducible rfl)
      refine wpAnyH_takeN (i := 24) (v := undef) (l' := bm 29 33554431) (a' := ?a17_24x3) rfl (by kernel_rfl) (by kernel_rfl) (by kernel_rfl) (fun _ _ _ h => h) (Or.inr ⟨by kernel_rfl, rfl⟩) (by kernel_rfl) ?p17_24x3 hS7 ?_
      case p17_24x3 => (go_simp; try with_reducible rfl)
      refine wpAnyH_takeN (i := 25) (v := undef) (l' := bm 29 67108863) (a' := ?a17_25x3) rfl (by kernel_rfl) (by kernel_rfl) (by kernel_rfl) (fun _ _ _ h => h) (Or.inr ⟨by kernel_rfl, rfl⟩) (by kernel_rfl) ?p17_25x3 hS7 ?_
      case p17_25x3 => (go_simp; try with_reducible rfl)
      refine wpAnyH_takeN (i := 26) (v := ?v17_26x3) (l' := bm 29 134217727) (a' := ?a17_26x3) rfl (by kernel_rfl) (by kernel_rfl) (by kernel_rfl) (fun _ _ _ h => h) (Or.inl ⟨by kernel_rfl, ?h17_26x3⟩) (by kernel_rfl) ?p17_26x3 hS7 ?r17_26x3
      case h17_26x3 => (intro w hS; go_simp; try with_reducible rfl)
      case p17_26x3 => (go_simp; try with_reducible rfl)
      refine wpAnyH_takeN (i := 27) (v := ?v17_27x3) (l' := bm 29 268435455) (a' := ?a17_27x3) rfl (by kernel_rfl) (by kernel_rfl) (by kernel_rfl) (fun _ _ _ h => h) (Or.inl ⟨by kernel_rfl, ?h17_27x3⟩) (by kernel_rfl) ?p17_27x3 hS7 ?r17_27x3
      case h17_27x3 => (intro w hS; go_simp; try with_reducible rfl)
      case p17_27x3 => (go_simp; try with_reducible rfl)
      refine wpAnyH_takeN (i := 28) (v := ?v17_28x3) (l' := bm 29 536870911) (a' := ?a17_28x3) rfl (by kernel_rfl) (by kernel_rfl) (by kernel_rfl) (fun _ _ _ h => h) (Or.inl ⟨by kernel_rfl, ?h17_28x3⟩) (by kernel_rfl) ?p17_28x3 hS7 ?r17_28x3
      case h17_28x3 => (intro w hS; go_simp; try with_reducible rfl)
      case p17_28x3 => (go_simp; try with_reducible rfl)
      refine wpAnyH_done (by kernel_rfl) ?_ _
      clear hS7
      have hq := (HO.out _ D40.out).2
      go_wp2_with fail
      go_ret
      exact ⟨ret_bool (by simp), below_step HB.out D40.out⟩
theorem walk_nests (a b c d s0 s1 s2 s3 : Nat) (ha : a < 18446744073709551616) (hb : b < 18446744073709551616) (hc : c < 18446744073709551616) (hd : d < 18446744073709551616) (hs0 : s0 < 18446744073709551616) (hs1 : s1 < 18446744073709551616) (hs2 : s2 < 18446744073709551616) (hs3 : s3 < 18446744073709551616) (w : World) : Calls Try.prog 12 #[.agg #[.float .f64 a, .float .f64 b], .agg #[.float .f64 c, .float .f64 d], .agg #[.float .f64 s0, .float .f64 s1, .float .f64 s2, .float .f64 s3]] w fun r w' => r = .returned (.bool true) ∧ Below w.heap.size w w' := by
  cases h1 : vdB a b
  · exact nests_n1 a b c d s0 s1 s2 s3 ha hb hc hd h1 w
  · cases h2 : vdB c d
    · exact nests_n2 a b c d s0 s1 s2 s3 ha hb hc hd h1 h2 w
    · exact nests_gen ⟨a, b, vdB_true ha hb h1⟩ ⟨c, d, vdB_true hc hd h2⟩ s0 s1 s2 s3 hs0 hs1 hs2 hs3 w
end Go.Proofs.Ytlpnfgglpoppfaa
