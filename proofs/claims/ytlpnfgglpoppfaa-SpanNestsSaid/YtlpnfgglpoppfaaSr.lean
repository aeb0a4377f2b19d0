/- The walk of the statements' Inner (gen_sr.py). -/
import Derived.Test.YtlpnfgglpoppfaaSq
import Derived.Test.YtlpnfgglpoppfaaRh
set_option linter.unusedVariables false
set_option linter.unusedSimpArgs false
namespace Go.Proofs.Ytlpnfgglpoppfaa
open Go.RowKit Fl

/-- What Inner tells. -/
def InnerPost (A : Sp) (w : World) (r : Ending) (w' : World) : Prop := ∃ C : Sp, Wi C A ∧ r = .returned (.agg #[.float .f64 C.lo, .float .f64 C.hi]) ∧ Below w.heap.size w w'
theorem inner2_nan {p q : Nat} (hp : p < 18446744073709551616) (hq : q < 18446744073709551616) (np : nan p = false) (nq : nan q = false) : lst p q < 18446744073709551616 ∧ nan (lst p q) = false ∧ gst p q < 18446744073709551616 ∧ nan (gst p q) = false := by
  unfold lst gst
  refine ⟨?_, ?_, ?_, ?_⟩ <;> split <;> assumption
set_option maxRecDepth 100000 in
set_option maxHeartbeats 4000000 in
theorem inner2_sp (A : Sp) (s t : Nat) (hs : s < 18446744073709551616) (ht : t < 18446744073709551616) (w : World) : Calls Try.prog 66 #[.agg #[.float .f64 A.lo, .float .f64 A.hi], .float .f64 s, .float .f64 t] w (InnerPost A w) := by
  have I1 := Lib.hid (fun w => inner_sp A s hs w)
  have I2 := Lib.hid (fun w => inner_sp A t ht w)
  have LL := Lib.hid (fun p q w => least_any p q w)
  have GG := Lib.hid (fun p q w => greatest_any p q w)
  go_enter Try.func66, Try.ntmps66
  go_wp2_with fail
  obtain ⟨W, hW, K0, K1, hB, hz⟩ := bx2 w 24 24 #[Value.float FloatKind.f64 A.lo, Value.float FloatKind.f64 A.hi] #[Value.float FloatKind.f64 0, Value.float FloatKind.f64 0]
  rw [← hW]
  have K0 := Lib.hid K0
  have K1 := Lib.hid K1
  have HB := Lib.hid hB
  clear hW hB hz
  have HO := Lib.hid (show ∀ w', Below W.heap.size W w' → (Below W.heap.size W w' ∧ w'.cell? ⟨w.heap.size, 0, none⟩ = some (Value.float FloatKind.f64 A.lo) ∧ w'.cell? ⟨w.heap.size, 1, none⟩ = some (Value.float FloatKind.f64 A.hi) ∧ w'.cell? ⟨w.heap.size + 1, 0, none⟩ = some (Value.float FloatKind.f64 0) ∧ w'.cell? ⟨w.heap.size + 1, 1, none⟩ = some (Value.float FloatKind.f64 0)) from fun w' h => ⟨h, (K0.out.below h K0.out.lt).cell 0, (K0.out.below h K0.out.lt).cell 1, (K1.out.below h K1.out.lt).cell 0, (K1.out.below h K1.out.lt).cell 1⟩)
  have D0 := Lib.hid (Below.refl W.heap.size W)
  go_wp2_with fail
  refine wp_region_held (S := (fun w' => Below W.heap.size W w' ∧ w'.cell? ⟨w.heap.size, 0, none⟩ = some (Value.float FloatKind.f64 A.lo) ∧ w'.cell? ⟨w.heap.size, 1, none⟩ = some (Value.float FloatKind.f64 A.hi) ∧ w'.cell? ⟨w.heap.size + 1, 0, none⟩ = some (Value.float FloatKind.f64 0) ∧ w'.cell? ⟨w.heap.size + 1, 1, none⟩ = some (Value.float FloatKind.f64 0))) (by kernel_rfl) ?_
  (try change wpAnyH _ _ _ _ _ _ _ (World.drew _))
  have hS0 := HO.out _ (Below.drew D0.out)
  refine wpAnyH_takeN (i := 0) (v := ?v1_0) (l' := bm 8 1) (a' := ?a1_0) rfl (by kernel_rfl) (by kernel_rfl) (by kernel_rfl) (fun _ _ _ h => h) (Or.inl ⟨by kernel_rfl, ?h1_0⟩) (by kernel_rfl) ?p1_0 hS0 ?r1_0
  case h1_0 => (intro w hS; go_simp; try with_reducible rfl)
  case p1_0 => (go_simp; try with_reducible rfl)
  refine wpAnyH_takeN (i := 1) (v := ?v1_1) (l' := bm 8 3) (a' := ?a1_1) rfl (by kernel_rfl) (by kernel_rfl) (by kernel_rfl) (fun _ _ _ h => h) (Or.inl ⟨by kernel_rfl, ?h1_1⟩) (by kernel_rfl) ?p1_1 hS0 ?r1_1
  case h1_1 => (intro w hS; go_simp; try with_reducible rfl)
  case p1_1 => (go_simp; try with_reducible rfl)
  refine wpAnyH_takeN (i := 3) (v := ?v1_3) (l' := bm 8 11) (a' := ?a1_3) rfl (by kernel_rfl) (by kernel_rfl) (by kernel_rfl) (fun _ _ _ h => h) (Or.inl ⟨by kernel_rfl, ?h1_3⟩) (by kernel_rfl) ?p1_3 hS0 ?r1_3
  case h1_3 => (intro w hS; go_simp; try with_reducible rfl)
  case p1_3 => (go_simp; try with_reducible rfl)
  refine wpAnyH_takeN (i := 4) (v := ?v1_4) (l' := bm 8 27) (a' := ?a1_4) rfl (by kernel_rfl) (by kernel_rfl) (by kernel_rfl) (fun _ _ _ h => h) (Or.inl ⟨by kernel_rfl, ?h1_4⟩) (by kernel_rfl) ?p1_4 hS0 ?r1_4
  case h1_4 => (intro w hS; go_simp; try with_reducible rfl)
  case p1_4 => (go_simp; try with_reducible rfl)
  refine wpAnyH_oneN (i := 2) (l' := bm 8 31) rfl (by kernel_rfl) (by kernel_rfl) (by kernel_rfl) (fun K hK => ?_)
  have hP := hS0.1
  go_simp
  go_at_call 29
  refine (I1.out _).mono ?_
  rintro r w1 ⟨p, hp, rfl, hb⟩
  dsimp only
  have D1 := Lib.hid (below_step hP hb)
  clear hb
  have hS1 := HO.out _ (D1.out)
  clear hP hS0
  refine hK _ _ hS1 ?_
  clear hK K
  refine wpAnyH_oneN (i := 5) (l' := bm 8 63) rfl (by kernel_rfl) (by kernel_rfl) (by kernel_rfl) (fun K hK => ?_)
  have hP := hS1.1
  go_simp
  go_at_call 29
  refine (I2.out _).mono ?_
  rintro r w2 ⟨q, hi, rfl, hb⟩
  dsimp only
  have D2 := Lib.hid (below_step hP hb)
  clear hb
  have hS2 := HO.out _ (D2.out)
  clear hP hS1
  refine hK _ _ hS2 ?_
  clear hK K
  refine wpAnyH_takeN (i := 6) (v := ?v1_6) (l' := bm 8 127) (a' := ?a1_6) rfl (by kernel_rfl) (by kernel_rfl) (by kernel_rfl) (fun _ _ _ h => h) (Or.inl ⟨by kernel_rfl, ?h1_6⟩) (by kernel_rfl) ?p1_6 hS2 ?r1_6
  case h1_6 => (intro w hS; go_simp; try with_reducible rfl)
  case p1_6 => (go_simp; try with_reducible rfl)
  refine wpAnyH_takeN (i := 7) (v := ?v1_7) (l' := bm 8 255) (a' := ?a1_7) rfl (by kernel_rfl) (by kernel_rfl) (by kernel_rfl) (fun _ _ _ h => h) (Or.inl ⟨by kernel_rfl, ?h1_7⟩) (by kernel_rfl) ?p1_7 hS2 ?r1_7
  case h1_7 => (intro w hS; go_simp; try with_reducible rfl)
  case p1_7 => (go_simp; try with_reducible rfl)
  refine wpAnyH_done (by kernel_rfl) ?_ _
  clear hS2
  have hq := (HO.out _ D2.out).2
  have hin := Lib.hid (innS_wi A p q hp hi)
  obtain ⟨n1, n2, n3, n4⟩ := inner2_nan hp.lt hi.lt (nan_of_fin hp.fin) (nan_of_fin hi.fin)
  have x1 : floatBits .add .f64 (lst p q) 0 = some (pl (lst p q)) := add_zero _ n1 n2
  have x2 : floatBits .add .f64 (gst p q) 0 = some (pl (gst p q)) := add_zero _ n3 n4
  have A1 := fun (t : TypeId) (w : World) => run_float_arith (P := Try.prog) w .add t .f64 _ _ _ x1
  have A2 := fun (t : TypeId) (w : World) => run_float_arith (P := Try.prog) w .add t .f64 _ _ _ x2
  clear x1 x2 n1 n2 n3 n4
  have L1 := Lib.hid (LL.out p q)
  have G1 := Lib.hid (GG.out p q)
  have hcs := Lib.hid (show (innS A p q hp hi).lo = pl (lst p q) ∧ (innS A p q hp hi).hi = pl (gst p q) from ⟨rfl, rfl⟩)
  generalize innS A p q hp hi = C at *
  clear hp hi
  generalize lst p q = y at *
  generalize gst p q = z at *
  generalize pl y = y1 at *
  generalize pl z = z1 at *
  have fz0 := (K1.out.below D2.out K1.out.lt).unfrozen 0
  have fz1 := (K1.out.below D2.out K1.out.lt).unfrozen 1
  go_wp2_with fail
  refine (L1.out _).mono ?_
  rintro r w' ⟨rfl, rfl⟩
  go_wp2_with fail
  refine (G1.out _).mono ?_
  rintro r w' ⟨rfl, rfl⟩
  go_wp2_with fail
  (try simp only [Exit.inBlock, Exit.then])
  have hK := Blk.set_ (Blk.set_ (K1.out.below D2.out K1.out.lt) 0 (.float .f64 y1)) 1 (.float .f64 z1)
  refine bodyPost_ret (resS rfl _ _ (w.heap.size + 1) (.float .f64 y1) (.float .f64 z1) rfl hK) rfl ⟨C, hin.out, by rw [hcs.out.1, hcs.out.2], ?_⟩
  exact (((below_step HB.out D2.out).mono (Nat.le_refl _)).setCell (by show w.heap.size ≤ w.heap.size + 1; omega) _).setCell (by show w.heap.size ≤ w.heap.size + 1; omega) _
end Go.Proofs.Ytlpnfgglpoppfaa
