/- Shaken: Qa Gd Ge Ta. -/
import Derived.Test.YtnljfcebmgifdaaZTa
set_option linter.unusedVariables false
set_option linter.unusedSimpArgs false
namespace Go.Proofs.Ytnljfcebmgifdaa
open Fl
/-- 'at most' of any two words. -/
def leF (x y : Nat) : Bool := FloatKind.f64.format.order x y == some .lt || FloatKind.f64.format.order x y == some .eq
theorem leF_gd {x y : Nat} (hx : Gd x) (hy : Gd y) : leF x y = decide (Z x ≤ Z y) := leb hx hy
theorem leF_nan_r (x : Nat) {y : Nat} (hy : y < 18446744073709551616) (h : nan y = true) : leF x y = false := by
 unfold leF
 have := order_nan_right x y hy h
 rw [show FloatKind.f64.format.order x y = none from this]; rfl
theorem leF_nan_l {x : Nat} (y : Nat) (hx : x < 18446744073709551616) (h : nan x = true) : leF x y = false := by
 unfold leF
 have := order_nan_left x y hx h
 rw [show FloatKind.f64.format.order x y = none from this]; rfl
end Go.Proofs.Ytnljfcebmgifdaa
set_option linter.unusedVariables false
set_option linter.unusedSimpArgs false
namespace Go.Proofs.Ytnljfcebmgifdaa
open Fl
end Go.Proofs.Ytnljfcebmgifdaa
namespace Go.Proofs.Ytnljfcebmgifdaa
open Fl
end Go.Proofs.Ytnljfcebmgifdaa
namespace Go.Proofs.Ytnljfcebmgifdaa
open Fl
theorem in_sub {x y : Rat} {a b : Sp} (h : InS x a) (k : InS y b) : InS (x - y) (subS a b) := by
 rw [Rat.sub_eq_add_neg]
 exact in_add h (in_neg k)
end Go.Proofs.Ytnljfcebmgifdaa
namespace Go.Proofs.Ytnljfcebmgifdaa
open Fl
end Go.Proofs.Ytnljfcebmgifdaa
namespace Go.Proofs.Ytnljfcebmgifdaa
open Fl Ieee
end Go.Proofs.Ytnljfcebmgifdaa
set_option linter.unusedVariables false
set_option linter.unusedSimpArgs false
namespace Go.Proofs.Ytnljfcebmgifdaa
end Go.Proofs.Ytnljfcebmgifdaa
namespace Go.Proofs.Ytnljfcebmgifdaa
open Go.RowKit
end Go.Proofs.Ytnljfcebmgifdaa
namespace Go.Proofs.Ytnljfcebmgifdaa
open Go.RowKit Fl
/-- Do two words make a span? -/
def vdB (a b : Nat) : Bool := leF a b && (a != PI) && (b != NI) && (a != SGN) && (b != SGN)
theorem leF_nan {a b : Nat} (ha : a < 18446744073709551616) (hb : b < 18446744073709551616) (h : leF a b = true) : nan a = false ∧ nan b = false := by
 constructor
 · cases e : nan a
   · rfl
   · rw [leF_nan_l b ha e] at h; exact absurd h (by decide)
 · cases e : nan b
   · rfl
   · rw [leF_nan_r a hb e] at h; exact absurd h (by decide)
theorem vdB_true {a b : Nat} (ha : a < 18446744073709551616) (hb : b < 18446744073709551616) (h : vdB a b = true) : Vd a b := by
 unfold vdB at h
 simp only [Bool.and_eq_true, bne_iff_ne, ne_eq] at h
 obtain ⟨⟨⟨⟨h1, h2⟩, h3⟩, h4⟩, h5⟩ := h
 obtain ⟨n1, n2⟩ := leF_nan ha hb h1
 have ga : Gd a := ⟨ha, n1, h4⟩
 have gb : Gd b := ⟨hb, n2, h5⟩
 rw [leF_gd ga gb] at h1
 exact ⟨ga, gb, of_decide_eq_true h1, h2, h3⟩
theorem minus_is (a : Nat) (h : a < 18446744073709551616) : ((FloatKind.f64.format.order a 0 == some .eq) = true ∧ ((a : Int) != 0) = decide (a = SGN)) ∨ ((FloatKind.f64.format.order a 0 == some .eq) = false ∧ decide (a = SGN) = false) := by
 cases hn : nan a
 · have e := eq_eq (a := a) (b := 0) h (by decide) hn (by decide)
   have z0 : Z 0 = 0 := by decide
   rw [z0] at e
   by_cases hz : Z a = 0
   · left
     refine ⟨e.trans (decide_eq_true hz), ?_⟩
     have hm : mg a = 0 := by
       apply Nat.eq_zero_of_not_pos
       intro k
       have := rv_pos k
       have h2 := Z_natAbs a
       omega
     rcases mg_zero_cases h hm with rfl | rfl <;> decide
   · right
     refine ⟨e.trans (decide_eq_false hz), decide_eq_false ?_⟩
     rintro rfl
     exact hz (by decide)
 · right
   have e : FloatKind.f64.format.order a 0 = none := order_nan_left a 0 h hn
   rw [e]
   refine ⟨rfl, decide_eq_false ?_⟩
   rintro rfl
   exact absurd hn (by decide)
theorem minus_any (a : Nat) (h : a < 18446744073709551616) (w : World) : Calls Try.prog 94 #[.float .f64 a] w fun e w' => e = .returned (.bool (decide (a = SGN))) ∧ w = w' := by
 rcases minus_is a h with ⟨e1, e2⟩ | ⟨e1, e2⟩
 · rw [← e2]
   have E2 := Lib.hid e2
   clear e2
   go_enter Try.func94, Try.ntmps94
   go_wp2_with fail
   go_ret
   exact ⟨rfl, rfl⟩
 · rw [e2]
   clear e2
   go_enter Try.func94, Try.ntmps94
   go_wp2_with fail
   go_ret
   exact ⟨rfl, rfl⟩
theorem rvalid_gen (a b : Nat) (c1 k2 k3 m1 m2 : Bool) (E1 : (FloatKind.f64.format.order a b == some .lt || FloatKind.f64.format.order a b == some .eq) = c1)
   (E2 : (FloatKind.f64.format.order a 9218868437227405312 != some .eq) = k2) (E3 : (FloatKind.f64.format.order b 18442240474082181120 != some .eq) = k3)
   (HS : Hid (∀ w, Calls Try.prog 94 #[.float .f64 a] w fun e w' => e = .returned (.bool m1) ∧ w = w'))
   (HT : Hid (∀ w, Calls Try.prog 94 #[.float .f64 b] w fun e w' => e = .returned (.bool m2) ∧ w = w')) (w : World) :
   Calls Try.prog 51 #[.agg #[.float .f64 a, .float .f64 b]] w fun r w' => r = .returned (.bool (c1 && (k2 && (k3 && (!m1 && !m2))))) ∧ ∃ o k, w' = (w.alloc o).drewN k := by
 have N := neg_inf
 have HI := Lib.hid (fun w => rinf_any w)
 cases c1
 · go_enter Try.func51, Try.ntmps51
   go_wp2_with fail
   go_quiet ((first | (go_at_call 93; exact Calls.quiet_of_same ((HI.out _).mono fun _ _ h => ⟨h.1, h.2.symm⟩)) | (go_at_call_of 94 (Value.float FloatKind.f64 a); exact Calls.quiet_of_same ((HS.out _).mono fun _ _ h => ⟨h.1, h.2.symm⟩)) | (go_at_call_of 94 (Value.float FloatKind.f64 b); exact Calls.quiet_of_same ((HT.out _).mono fun _ _ h => ⟨h.1, h.2.symm⟩))))
   go_wp2_with fail
   go_ret
   exact ⟨rfl, _, _, rfl⟩
 · cases k2
   · go_enter Try.func51, Try.ntmps51
     go_wp2_with fail
     go_quiet ((first | (go_at_call 93; exact Calls.quiet_of_same ((HI.out _).mono fun _ _ h => ⟨h.1, h.2.symm⟩)) | (go_at_call_of 94 (Value.float FloatKind.f64 a); exact Calls.quiet_of_same ((HS.out _).mono fun _ _ h => ⟨h.1, h.2.symm⟩)) | (go_at_call_of 94 (Value.float FloatKind.f64 b); exact Calls.quiet_of_same ((HT.out _).mono fun _ _ h => ⟨h.1, h.2.symm⟩))))
     go_wp2_with fail
     go_ret
     exact ⟨rfl, _, _, rfl⟩
   · cases k3
     · go_enter Try.func51, Try.ntmps51
       go_wp2_with fail
       go_quiet ((first | (go_at_call 93; exact Calls.quiet_of_same ((HI.out _).mono fun _ _ h => ⟨h.1, h.2.symm⟩)) | (go_at_call_of 94 (Value.float FloatKind.f64 a); exact Calls.quiet_of_same ((HS.out _).mono fun _ _ h => ⟨h.1, h.2.symm⟩)) | (go_at_call_of 94 (Value.float FloatKind.f64 b); exact Calls.quiet_of_same ((HT.out _).mono fun _ _ h => ⟨h.1, h.2.symm⟩))))
       go_wp2_with fail
       go_ret
       exact ⟨rfl, _, _, rfl⟩
     · cases m1
       · cases m2
         · go_enter Try.func51, Try.ntmps51
           go_wp2_with fail
           go_quiet ((first | (go_at_call 93; exact Calls.quiet_of_same ((HI.out _).mono fun _ _ h => ⟨h.1, h.2.symm⟩)) | (go_at_call_of 94 (Value.float FloatKind.f64 a); exact Calls.quiet_of_same ((HS.out _).mono fun _ _ h => ⟨h.1, h.2.symm⟩)) | (go_at_call_of 94 (Value.float FloatKind.f64 b); exact Calls.quiet_of_same ((HT.out _).mono fun _ _ h => ⟨h.1, h.2.symm⟩))))
           go_wp2_with fail
           go_ret
           exact ⟨rfl, _, _, rfl⟩
         · go_enter Try.func51, Try.ntmps51
           go_wp2_with fail
           go_quiet ((first | (go_at_call 93; exact Calls.quiet_of_same ((HI.out _).mono fun _ _ h => ⟨h.1, h.2.symm⟩)) | (go_at_call_of 94 (Value.float FloatKind.f64 a); exact Calls.quiet_of_same ((HS.out _).mono fun _ _ h => ⟨h.1, h.2.symm⟩)) | (go_at_call_of 94 (Value.float FloatKind.f64 b); exact Calls.quiet_of_same ((HT.out _).mono fun _ _ h => ⟨h.1, h.2.symm⟩))))
           go_wp2_with fail
           go_ret
           exact ⟨rfl, _, _, rfl⟩
       · go_enter Try.func51, Try.ntmps51
         go_wp2_with fail
         go_quiet ((first | (go_at_call 93; exact Calls.quiet_of_same ((HI.out _).mono fun _ _ h => ⟨h.1, h.2.symm⟩)) | (go_at_call_of 94 (Value.float FloatKind.f64 a); exact Calls.quiet_of_same ((HS.out _).mono fun _ _ h => ⟨h.1, h.2.symm⟩)) | (go_at_call_of 94 (Value.float FloatKind.f64 b); exact Calls.quiet_of_same ((HT.out _).mono fun _ _ h => ⟨h.1, h.2.symm⟩))))
         go_wp2_with fail
         go_ret
         exact ⟨rfl, _, _, rfl⟩
end Go.Proofs.Ytnljfcebmgifdaa
namespace Go.Proofs.Ytnljfcebmgifdaa
open Go.RowKit Fl
theorem ne_lit (a v : Nat) (ha : a < 18446744073709551616) (hv : v < 18446744073709551616) (nv : nan v = false) (h0 : mg v ≠ 0) : (FloatKind.f64.format.order a v != some .eq) = (a != v) := by
 cases hn : nan a
 · have e := eq_eq (a := a) (b := v) ha hv hn nv
   have e2 : (FloatKind.f64.format.order a v == some .eq) = decide (a = v) := by
     refine e.trans ?_
     rw [decide_eq_decide, Z_eq_iff ha hv]
     exact ⟨fun h => h.elim id (fun h => absurd h.2 h0), Or.inl⟩
   rw [bne, e2]
   by_cases h : a = v <;> simp [h]
 · have e : FloatKind.f64.format.order a v = none := order_nan_left a v ha hn
   rw [e]
   have : a ≠ v := by rintro rfl; rw [hn] at nv; exact absurd nv (by decide)
   have p : (a != v) = true := by simpa using this
   rw [p]; rfl
theorem rvalid_any (a b : Nat) (ha : a < 18446744073709551616) (hb : b < 18446744073709551616) (w : World) :
   Calls Try.prog 51 #[.agg #[.float .f64 a, .float .f64 b]] w fun r w' => r = .returned (.bool (vdB a b)) ∧ Below w.heap.size w w' := by
 refine (rvalid_gen a b _ _ _ _ _ rfl rfl rfl (Lib.hid (fun w => minus_any a ha w)) (Lib.hid (fun w => minus_any b hb w)) w).mono ?_
 rintro r w' ⟨rfl, o, k, rfl⟩
 refine ⟨ret_bool ?_, below_drewN (below_new w o) k⟩
 rw [ne_lit a _ ha (by decide) (by decide) (by decide), ne_lit b _ hb (by decide) (by decide) (by decide)]
 unfold vdB
 have p1 : (a != SGN) = !decide (a = SGN) := by by_cases h : a = SGN <;> simp [h]
 have p2 : (b != SGN) = !decide (b = SGN) := by by_cases h : b = SGN <;> simp [h]
 rw [p1, p2]
 show (leF a b && _) = _
 simp only [Bool.and_assoc]
end Go.Proofs.Ytnljfcebmgifdaa
namespace Go.Proofs.Ytnljfcebmgifdaa
open Go.RowKit Fl
end Go.Proofs.Ytnljfcebmgifdaa
namespace Go.Proofs.Ytnljfcebmgifdaa
open Go.RowKit Fl
end Go.Proofs.Ytnljfcebmgifdaa
set_option linter.unusedVariables false
set_option linter.unusedSimpArgs false
namespace Go.Proofs.Ytnljfcebmgifdaa
open Go.RowKit Fl
set_option maxRecDepth 100000 in
set_option maxHeartbeats 8000000 in
theorem rsumV_any (a : V3) (w : World) : Calls Try.prog 68 #[Value.agg #[.float .f64 a.x.lo, .float .f64 a.x.hi, .float .f64 a.y.lo, .float .f64 a.y.hi, .float .f64 a.z.lo, .float .f64 a.z.hi]] w fun r w' => r = .returned (.agg #[.float .f64 (vSum a).lo, .float .f64 (vSum a).hi]) ∧ Below w.heap.size w w' := by
 have C0 := Lib.hid (fun w => radd_sp a.x a.y w)
 obtain ⟨p0, hp0⟩ : ∃ z_, addS a.x a.y = z_ := ⟨_, rfl⟩
 rw [hp0] at C0
 have C1 := Lib.hid (fun w => radd_sp p0 a.z w)
 obtain ⟨p1, hp1⟩ : ∃ z_, addS p0 a.z = z_ := ⟨_, rfl⟩
 rw [hp1] at C1
 have hT : vSum a = p1 := by
   subst hp0 hp1; rfl
 rw [hT]
 clear hT
 clear hp0 hp1
 go_enter Try.func68, Try.ntmps68
 go_wp2_with fail
 obtain ⟨W, hW, K0, K1, hB, hz⟩ := bx2 w 30 28 (vc a) #[.float .f64 0, .float .f64 0]
 rw [← hW]
 have K0 := Lib.hid K0
 have K1 := Lib.hid K1
 have HB := Lib.hid hB
 clear hW hB hz
 have D1 := dr W
 refine wp_region_held (S := (fun w' => True ∧ CellsL w' (w.heap.size) 0 (vl a))) (by kernel_rfl) ?_
 change wpAnyH _ _ _ _ _ _ _ _ (World.drew _)
 obtain ⟨wd2, hwd⟩ : ∃ x, x = World.drew W := ⟨_, rfl⟩
 rw [← hwd]
 have D3 := Lib.hid (hwd ▸ Below.drew D1.out : Below W.heap.size W wd2)
 clear D1 hwd
 have hS4 : True ∧ CellsL wd2 (w.heap.size) 0 (vl a) := ⟨trivial, (kb K0 D3).cellsL 0 (vl a) rfl⟩
 refine tkq 0 (bm 9 1) hS4 ?_
 refine tke 1 (bm 9 3) hS4 ?_
 refine tkq 2 (bm 9 7) hS4 ?_
 refine tke 3 (bm 9 15) hS4 ?_
 refine tkq 5 (bm 9 47) hS4 ?_
 refine tke 6 (bm 9 111) hS4 ?_
 refine wpAnyH_oneN (i := 4) (l' := bm 9 127) rfl (by kernel_rfl) (by kernel_rfl) (by kernel_rfl) (fun K hK => ?_)
 go_simp
 go_at_call 71
 refine (C0.out _).mono ?_
 rintro r w11 ⟨rfl, hb⟩
 dsimp only
 have D12 := ds D3 hb
 clear D3
 clear hb
 have hS13 : True ∧ CellsL w11 (w.heap.size) 0 (vl a) := ⟨trivial, (kb K0 D12).cellsL 0 (vl a) rfl⟩
 refine hK _ _ hS13 ?_
 clear hK K hS4
 refine wpAnyH_oneN (i := 7) (l' := bm 9 255) rfl (by kernel_rfl) (by kernel_rfl) (by kernel_rfl) (fun K hK => ?_)
 go_simp
 go_at_call 71
 refine (C1.out _).mono ?_
 rintro r w14 ⟨rfl, hb⟩
 dsimp only
 have D15 := ds D12 hb
 clear D12
 clear hb
 have hS16 : True ∧ CellsL w14 (w.heap.size) 0 (vl a) := ⟨trivial, (kb K0 D15).cellsL 0 (vl a) rfl⟩
 refine hK _ _ hS16 ?_
 clear hK K hS13
 refine wpAnyH_oneN (i := 8) (l' := bm 9 511) rfl (by kernel_rfl) (by kernel_rfl) (by kernel_rfl) (fun K hK => ?_)
 have f19 := (kb K1 D15).cellsL 0 [.float .f64 0, .float .f64 0] rfl
 dsimp only [CellsL, al, vl, Nat.reduceAdd] at f19
 have u20 := (kb K1 D15).unfrozen
 obtain ⟨V17, hV18⟩ : ∃ V, setCells w14 (w.heap.size + 1) 0 [.float .f64 p1.lo, .float .f64 p1.hi] = V := ⟨_, rfl⟩
 have hv21 := hV18
 simp only [setCells, Nat.reduceAdd] at hv21
 have K22 := kf hV18 K0 D15 (by omega)
 have K23 := Lib.hid (show Blk V17 (w.heap.size + 1) 28 #[.float .f64 p1.lo, .float .f64 p1.hi] from (ks hV18 K1 D15).out)
 have HB24 := hbs hV18 HB D15 (by omega)
 have D25 := dr V17
 clear K0 K1 HB D15
 go_simp
 clear hV18 f19 u20 hv21
 have hS26 : True ∧ CellsL V17 (w.heap.size) 0 (vl a) := ⟨trivial, (kb K22 D25).cellsL 0 (vl a) rfl⟩
 refine hK _ _ hS26 ?_
 clear hK K hS16
 refine wpAnyH_done (by kernel_rfl) ?_ _
 clear hS26
 go_wp2_with fail
 (try simp only [Exit.inBlock, Exit.then])
 exact bodyPost_ret (res_c rfl _ _ (w.heap.size + 1) #[.float .f64 p1.lo, .float .f64 p1.hi] rfl (kb K23 D25) (by rw [info_Span]; rfl) Try.underlying28 rfl) rfl ⟨rfl, below_step HB24.out D25.out⟩
end Go.Proofs.Ytnljfcebmgifdaa
