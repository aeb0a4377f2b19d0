/- Shaken: Sa Gf Tx Tb Yf Bs1. -/
import Derived.Test.YtnljfcebmgifdaaZRcdef
import Derived.Test.YtnljfcebmgifdaaZRabcef
set_option maxRecDepth 100000
set_option maxHeartbeats 8000000
set_option linter.unusedVariables false
set_option linter.unusedSimpArgs false
namespace Go.Proofs.Ytnljfcebmgifdaa
open Go.RowKit
theorem positive_any (a b : Nat) (p q : Bool) (h1 : (FloatKind.f64.format.order a 0 == some .gt) = p) (h2 : (FloatKind.f64.format.order b 0 == some .lt || FloatKind.f64.format.order b 0 == some .eq) = q) (w : World) : Calls Try.prog 85 #[.agg #[.float .f64 a, .float .f64 b]] w fun r w' => r = .returned (.int .i64 (if p then 1 else if q then 0 else 2)) ∧ ∃ o, w' = w.alloc o := by
 cases p
 · cases q
   all_goals (go_enter Try.func85, Try.ntmps85; go_wp2_with fail; go_ret; exact ⟨rfl, _, rfl⟩)
 · go_enter Try.func85, Try.ntmps85
   go_wp2_with fail
   go_ret
   exact ⟨rfl, _, rfl⟩
end Go.Proofs.Ytnljfcebmgifdaa
set_option linter.unusedVariables false
set_option linter.unusedSimpArgs false
namespace Go.Proofs.Ytnljfcebmgifdaa
open Go.RowKit Fl
end Go.Proofs.Ytnljfcebmgifdaa
namespace Go.Proofs.Ytnljfcebmgifdaa
open Go.RowKit Fl
theorem pos_sp (a : Sp) (w : World) : Calls Try.prog 85 #[.agg #[.float .f64 a.lo, .float .f64 a.hi]] w fun r w' => r = .returned (.int .i64 (posS a : Nat)) ∧ Below w.heap.size w w' := by
 refine (positive_any a.lo a.hi _ _ (gt0_gd a.vd.l) (le0_gd a.vd.h) w).mono ?_
 rintro _ _ ⟨rfl, o, rfl⟩
 refine ⟨?_, below_new w o⟩
 unfold posS
 by_cases h1 : 0 < Z a.lo
 · simp [h1]
 · by_cases h2 : Z a.hi ≤ 0 <;> simp [h1, h2]
end Go.Proofs.Ytnljfcebmgifdaa
namespace Go.Proofs.Ytnljfcebmgifdaa
open Go.RowKit Fl
end Go.Proofs.Ytnljfcebmgifdaa
namespace Go.Proofs.Ytnljfcebmgifdaa
open Go.RowKit Fl
end Go.Proofs.Ytnljfcebmgifdaa
namespace Go.Proofs.Ytnljfcebmgifdaa
open Go.RowKit Fl
end Go.Proofs.Ytnljfcebmgifdaa
namespace Go.Proofs.Ytnljfcebmgifdaa
open Go.RowKit Fl
end Go.Proofs.Ytnljfcebmgifdaa
set_option linter.unusedVariables false
set_option linter.unusedSimpArgs false
namespace Go.Proofs.Ytnljfcebmgifdaa
open Go.RowKit Fl
section
variable {fn : Func} {p q r : Tmp} {ta tb : TypeId}
theorem res_cct (h : fn.results = #[.cell p ta, .cell q tb, .tmp r]) (tmps : Array Value) (w : World) (g : Nat) (cs : Array Value) (g' : Nat) (cs' : Array Value) {t t' : TypeId} {d d' : TypeDesc}
   (hp : tmps.getD p undef = .pointer (some ⟨g, 0, none⟩)) (hg : Blk w g t cs) (hi : (Try.prog.info? ta).map (·.size) = some cs.size) (hu : Try.prog.underlying ta = some d) (hd : isRow d = true)
   (hp' : tmps.getD q undef = .pointer (some ⟨g', 0, none⟩)) (hg' : Blk w g' t' cs') (hi' : (Try.prog.info? tb).map (·.size) = some cs'.size) (hu' : Try.prog.underlying tb = some d') (hd' : isRow d' = true) :
   (results fn tmps).run Try.prog w = .ok (.tuple #[.agg cs, .agg cs', tmps.getD r undef]) w := by
 have e1 : tmps[p]?.getD undef = .pointer (some ⟨g, 0, none⟩) := by simpa using hp
 have e2 : tmps[q]?.getD undef = .pointer (some ⟨g', 0, none⟩) := by simpa using hp'
 simp [results, h, e1, e2, asAddr, run_row w g t ta cs d hg hu hd hi, run_row w g' t' tb cs' d' hg' hu' hd' hi']
end
end Go.Proofs.Ytnljfcebmgifdaa
set_option linter.unusedVariables false
set_option linter.unusedSimpArgs false
namespace Go.Proofs.Ytnljfcebmgifdaa
open Go.RowKit Fl
theorem negV_any (a : V3) (w : World) : Calls Try.prog 40 #[Value.agg #[.float .f64 a.x.lo, .float .f64 a.x.hi, .float .f64 a.y.lo, .float .f64 a.y.hi, .float .f64 a.z.lo, .float .f64 a.z.hi]] w fun r w' => r = .returned (vval (vNeg a)) ∧ Below w.heap.size w w' := by
 have C0 := Lib.hid (fun w => neg_sp a.x w)
 obtain ⟨p0, hp0⟩ : ∃ z_, negS a.x = z_ := ⟨_, rfl⟩
 rw [hp0] at C0
 have C1 := Lib.hid (fun w => neg_sp a.y w)
 obtain ⟨p1, hp1⟩ : ∃ z_, negS a.y = z_ := ⟨_, rfl⟩
 rw [hp1] at C1
 have C2 := Lib.hid (fun w => neg_sp a.z w)
 obtain ⟨p2, hp2⟩ : ∃ z_, negS a.z = z_ := ⟨_, rfl⟩
 rw [hp2] at C2
 have hT : vNeg a = (⟨p0, p1, p2⟩ : V3) := by
   subst hp0 hp1 hp2; rfl
 rw [hT]
 clear hT
 clear hp0 hp1 hp2
 go_enter Try.func40, Try.ntmps40
 go_wp2_with fail
 obtain ⟨W, hW, K0, K1, hB, hz⟩ := bx2 w 30 30 (vc a) #[.float .f64 0, .float .f64 0, .float .f64 0, .float .f64 0, .float .f64 0, .float .f64 0]
 rw [← hW]
 have K0 := Lib.hid K0
 have K1 := Lib.hid K1
 have HB := Lib.hid hB
 clear hW hB hz
 have D1 := dr W
 refine wp_region_held (S := (fun w' => True ∧ CellsL w' (w.heap.size) 0 (vl a))) (by kernel_rfl) ?_
 change wpAnyH _ _ _ _ _ _ _ _ (World.drew _)
 obtain ⟨wd2, hwd⟩ : ∃ x, x = World.drew W := ⟨_, rfl⟩
 rw [← hwd]
 have D3 := Lib.hid (hwd ▸ Below.drew D1.out : Below W.heap.size W wd2)
 clear D1 hwd
 have hS4 : True ∧ CellsL wd2 (w.heap.size) 0 (vl a) := ⟨trivial, (kb K0 D3).cellsL 0 (vl a) rfl⟩
 refine tkq 0 (bm 11 1) hS4 ?_
 refine tke 1 (bm 11 3) hS4 ?_
 refine tkq 3 (bm 11 11) hS4 ?_
 refine tke 4 (bm 11 27) hS4 ?_
 refine tkq 6 (bm 11 91) hS4 ?_
 refine tke 7 (bm 11 219) hS4 ?_
 refine wpAnyH_oneN (i := 2) (l' := bm 11 223) rfl (by kernel_rfl) (by kernel_rfl) (by kernel_rfl) (fun K hK => ?_)
 go_simp
 go_at_call 67
 refine (C0.out _).mono ?_
 rintro r w11 ⟨rfl, hb⟩
 dsimp only
 have D12 := ds D3 hb
 clear D3
 clear hb
 have hS13 : True ∧ CellsL w11 (w.heap.size) 0 (vl a) := ⟨trivial, (kb K0 D12).cellsL 0 (vl a) rfl⟩
 refine hK _ _ hS13 ?_
 clear hK K hS4
 refine wpAnyH_oneN (i := 5) (l' := bm 11 255) rfl (by kernel_rfl) (by kernel_rfl) (by kernel_rfl) (fun K hK => ?_)
 go_simp
 go_at_call 67
 refine (C1.out _).mono ?_
 rintro r w14 ⟨rfl, hb⟩
 dsimp only
 have D15 := ds D12 hb
 clear D12
 clear hb
 have hS16 : True ∧ CellsL w14 (w.heap.size) 0 (vl a) := ⟨trivial, (kb K0 D15).cellsL 0 (vl a) rfl⟩
 refine hK _ _ hS16 ?_
 clear hK K hS13
 refine wpAnyH_oneN (i := 8) (l' := bm 11 511) rfl (by kernel_rfl) (by kernel_rfl) (by kernel_rfl) (fun K hK => ?_)
 go_simp
 go_at_call 67
 refine (C2.out _).mono ?_
 rintro r w17 ⟨rfl, hb⟩
 dsimp only
 have D18 := ds D15 hb
 clear D15
 clear hb
 have hS19 : True ∧ CellsL w17 (w.heap.size) 0 (vl a) := ⟨trivial, (kb K0 D18).cellsL 0 (vl a) rfl⟩
 refine hK _ _ hS19 ?_
 clear hK K hS16
 refine tkq 9 (bm 11 1023) hS19 ?_
 refine wpAnyH_oneN (i := 10) (l' := bm 11 2047) rfl (by kernel_rfl) (by kernel_rfl) (by kernel_rfl) (fun K hK => ?_)
 have f23 := (kb K1 D18)
 obtain ⟨V21, hV22⟩ : ∃ V, World.setRow w17 (w.heap.size + 1) #[.float .f64 p0.lo, .float .f64 p0.hi, .float .f64 p1.lo, .float .f64 p1.hi, .float .f64 p2.lo, .float .f64 p2.hi] = V := ⟨_, rfl⟩
 have K24 := kfr hV22 K0 D18 (by omega)
 have K25 := ksr hV22 K1 D18
 have HB26 := hbr hV22 HB D18 (by omega)
 have D27 := dr V21
 clear K0 K1 HB D18
 refine wp_store_row 30 _ _ rfl (w.heap.size + 1) #[.float .f64 p0.lo, .float .f64 p0.hi, .float .f64 p1.lo, .float .f64 p1.hi, .float .f64 p2.lo, .float .f64 p2.hi] rfl rfl _ _ f23 (by rw [info_V3]; rfl) rfl (by kernel_rfl) ?_
 rw [hV22]
 go_simp
 clear hV22 f23
 have hS28 : True ∧ CellsL V21 (w.heap.size) 0 (vl a) := ⟨trivial, (kb K24 D27).cellsL 0 (vl a) rfl⟩
 refine hK _ _ hS28 ?_
 clear hK K hS19
 refine wpAnyH_done (by kernel_rfl) ?_ _
 clear hS28
 go_wp2_with fail
 (try simp only [Exit.inBlock, Exit.then])
 exact bodyPost_ret (res_c rfl _ _ (w.heap.size + 1) #[.float .f64 p0.lo, .float .f64 p0.hi, .float .f64 p1.lo, .float .f64 p1.hi, .float .f64 p2.lo, .float .f64 p2.hi] rfl (kb K25 D27) (by rw [info_V3]; rfl) Try.underlying30 rfl) rfl ⟨rfl, below_step HB26.out D27.out⟩
end Go.Proofs.Ytnljfcebmgifdaa
set_option linter.unusedVariables false
set_option linter.unusedSimpArgs false
namespace Go.Proofs.Ytnljfcebmgifdaa
open Fl
noncomputable def bdCos (n d : V3) : Sp := negS (vDot n d)
end Go.Proofs.Ytnljfcebmgifdaa
set_option linter.unusedVariables false
set_option linter.unusedSimpArgs false
namespace Go.Proofs.Ytnljfcebmgifdaa
open Go.RowKit Fl
theorem pos_lit {a : Sp} {k : Nat} (h : posS a = k) (w : World) : Calls Try.prog 85 #[.agg #[.float .f64 a.lo, .float .f64 a.hi]] w fun r w' => r = .returned (.int .i64 (k : Nat)) ∧ Below w.heap.size w w' := h ▸ pos_sp a w
theorem face_1 (n d : V3) (h : posS (bdCos n d) = 1) (w : World) : Calls Try.prog 52 #[Value.agg #[.float .f64 n.x.lo, .float .f64 n.x.hi, .float .f64 n.y.lo, .float .f64 n.y.hi, .float .f64 n.z.lo, .float .f64 n.z.hi], Value.agg #[.float .f64 d.x.lo, .float .f64 d.x.hi, .float .f64 d.y.lo, .float .f64 d.y.hi, .float .f64 d.z.lo, .float .f64 d.z.hi]] w fun r w' => r = .returned (.tuple #[vval n, .agg #[.float .f64 (bdCos n d).lo, .float .f64 (bdCos n d).hi], .int .i64 1]) ∧ Below w.heap.size w w' := by
 have C0 := Lib.hid (fun w => dotV_any n d w)
 obtain ⟨p0, hp0⟩ : ∃ z_, vDot n d = z_ := ⟨_, rfl⟩
 rw [hp0] at C0
 have C1 := Lib.hid (fun w => neg_sp p0 w)
 obtain ⟨p1, hp1⟩ : ∃ z_, negS p0 = z_ := ⟨_, rfl⟩
 rw [hp1] at C1
 have hl : posS p1 = 1 := by rw [← hp1, ← hp0]; exact h
 have C2 := Lib.hid (fun w => pos_lit hl w)
 have hT : bdCos n d = p1 := by
   subst hp0 hp1; rfl
 rw [hT]
 clear hT
 clear hp0 hp1
 go_enter Try.func52, Try.ntmps52
 go_wp2_with (first | (refine wl_load (by kernel_rfl) rfl rfl ((((Blk.new_at _ _ _ rfl).alloc _).alloc _).alloc _) (by rw [info_V3]; rfl) Try.underlying30 rfl ?_) | (refine wl_load (by kernel_rfl) rfl rfl (((Blk.new_at _ _ _ (by simp)).alloc _).alloc _) (by rw [info_V3]; rfl) Try.underlying30 rfl ?_))
 obtain ⟨W, hW, K0, K1, K2, K3, hB, hz⟩ := bx4 w 30 30 30 28 (vc n) (vc d) #[.float .f64 0, .float .f64 0, .float .f64 0, .float .f64 0, .float .f64 0, .float .f64 0] #[.float .f64 0, .float .f64 0]
 rw [← hW]
 have K0 := Lib.hid K0
 have K1 := Lib.hid K1
 have K2 := Lib.hid K2
 have K3 := Lib.hid K3
 have HB := Lib.hid hB
 clear hW hB hz
 have D1 := dr W
 refine (C0.out _).mono ?_
 rintro r w2 ⟨rfl, hb⟩
 have D3 := ds D1 hb
 clear D1
 clear hb
 go_wp2_with fail
 refine (C1.out _).mono ?_
 rintro r w4 ⟨rfl, hb⟩
 have D5 := ds D3 hb
 clear D3
 clear hb
 obtain ⟨g6, hg8⟩ : ∃ g, w4.heap.size = g := ⟨_, rfl⟩
 have Y10 := Lib.hid (show w.heap.size < g6 ∧ w.heap.size + 1 < g6 ∧ w.heap.size + 1 + 1 < g6 ∧ w.heap.size + 1 + 1 + 1 < g6 by rw [← hg8]; exact ⟨(kb K0 D5).lt, (kb K1 D5).lt, (kb K2 D5).lt, (kb K3 D5).lt⟩)
 obtain ⟨V7, hV9⟩ : ∃ V, w4.alloc (.cells #[.float .f64 0, .float .f64 0] 28) = V := ⟨_, rfl⟩
 have K11 := ka hV9 K0 D5
 have K12 := ka hV9 K1 D5
 have K13 := ka hV9 K2 D5
 have K14 := ka hV9 K3 D5
 have K15 := kn hV9 hg8
 have HB16 := hba hV9 HB D5
 have D17 := dr V7
 clear K0 K1 K2 K3 HB D5
 have f20 := (kb K15 D17).cellsL 0 [.float .f64 0, .float .f64 0] rfl
 dsimp only [CellsL, al, vl, Nat.reduceAdd] at f20
 have u21 := (kb K15 D17).unfrozen
 obtain ⟨V18, hV19⟩ : ∃ V, setCells V7 (g6) 0 [.float .f64 p1.lo, .float .f64 p1.hi] = V := ⟨_, rfl⟩
 have hv22 := hV19
 simp only [setCells, Nat.reduceAdd] at hv22
 have K23 := kf hV19 K11 D17 (by have := Y10.out; omega)
 have K24 := kf hV19 K12 D17 (by have := Y10.out; omega)
 have K25 := kf hV19 K13 D17 (by have := Y10.out; omega)
 have K26 := kf hV19 K14 D17 (by have := Y10.out; omega)
 have K27 := Lib.hid (show Blk V18 (g6) 28 #[.float .f64 p1.lo, .float .f64 p1.hi] from (ks hV19 K15 D17).out)
 have HB28 := hbs hV19 HB16 D17 (by have := Y10.out; omega)
 have D29 := dr V18
 clear K11 K12 K13 K14 K15 HB16 D17
 have hq30 := (kb K27 D29).cellsL 0 [.float .f64 p1.lo, .float .f64 p1.hi] rfl
 dsimp only [CellsL, al, vl, Nat.reduceAdd] at hq30
 go_wp2_with fail
 clear hg8 hV9 hV19 f20 u21 hv22 hq30
 refine (C2.out _).mono ?_
 rintro r w31 ⟨rfl, hb⟩
 have D32 := ds D29 hb
 clear D29
 clear hb
 go_wp2_with fail
 refine wp_region_held (S := (fun w' => True ∧ Blk w' (w.heap.size) 30 (vc n) ∧ CellsL w' (g6) 0 [.float .f64 p1.lo, .float .f64 p1.hi])) (by kernel_rfl) ?_
 change wpAnyH _ _ _ _ _ _ _ _ (World.drew _)
 obtain ⟨wd33, hwd⟩ : ∃ x, x = World.drew w31 := ⟨_, rfl⟩
 rw [← hwd]
 have D34 := Lib.hid (hwd ▸ Below.drew D32.out : Below V18.heap.size V18 wd33)
 clear D32 hwd
 have hS35 : True ∧ Blk wd33 (w.heap.size) 30 (vc n) ∧ CellsL wd33 (g6) 0 [.float .f64 p1.lo, .float .f64 p1.hi] := ⟨trivial, (kb K23 D34), (kb K27 D34).cellsL 0 [.float .f64 p1.lo, .float .f64 p1.hi] rfl⟩
 refine tkL 0 (bm 5 1) ?aq36 rfl (by kernel_rfl) (fun _ _ _ h => h) (by kernel_rfl) rfl rfl (fun _ hS => hS.2.1) (by rw [info_V3]; rfl) Try.underlying30 rfl ?pq36 hS35 ?rq36
 case pq36 => (go_simp; try with_reducible rfl)
 refine tke 1 (bm 5 3) hS35 ?_
 refine wpAnyH_oneN (i := 2) (l' := bm 5 7) rfl (by kernel_rfl) (by kernel_rfl) (by kernel_rfl) (fun K hK => ?_)
 have f40 := (kb K25 D34)
 obtain ⟨V38, hV39⟩ : ∃ V, World.setRow wd33 (w.heap.size + 1 + 1) (vc n) = V := ⟨_, rfl⟩
 have K41 := kfr hV39 K23 D34 (by have := Y10.out; omega)
 have K42 := kfr hV39 K24 D34 (by have := Y10.out; omega)
 have K43 := ksr hV39 K25 D34
 have K44 := kfr hV39 K26 D34 (by have := Y10.out; omega)
 have K45 := kfr hV39 K27 D34 (by have := Y10.out; omega)
 have HB46 := hbr hV39 HB28 D34 (by have := Y10.out; omega)
 have D47 := dr V38
 clear K23 K24 K25 K26 K27 HB28 D34
 refine wp_store_row 30 _ _ rfl (w.heap.size + 1 + 1) (vc n) rfl rfl _ _ f40 (by rw [info_V3]; rfl) rfl (by kernel_rfl) ?_
 rw [hV39]
 go_simp
 clear hV39 f40
 have hS48 : True ∧ Blk V38 (w.heap.size) 30 (vc n) ∧ CellsL V38 (g6) 0 [.float .f64 p1.lo, .float .f64 p1.hi] := ⟨trivial, (kb K41 D47), (kb K45 D47).cellsL 0 [.float .f64 p1.lo, .float .f64 p1.hi] rfl⟩
 refine hK _ _ hS48 ?_
 clear hK K hS35
 refine wpAnyH_oneN (i := 3) (l' := bm 5 15) rfl (by kernel_rfl) (by kernel_rfl) (by kernel_rfl) (fun K hK => ?_)
 have f51 := (kb K44 D47).cellsL 0 [.float .f64 0, .float .f64 0] rfl
 dsimp only [CellsL, al, vl, Nat.reduceAdd] at f51
 have u52 := (kb K44 D47).unfrozen
 obtain ⟨V49, hV50⟩ : ∃ V, setCells V38 (w.heap.size + 1 + 1 + 1) 0 [.float .f64 p1.lo, .float .f64 p1.hi] = V := ⟨_, rfl⟩
 have hv53 := hV50
 simp only [setCells, Nat.reduceAdd] at hv53
 have K54 := kf hV50 K41 D47 (by have := Y10.out; omega)
 have K55 := kf hV50 K42 D47 (by have := Y10.out; omega)
 have K56 := kf hV50 K43 D47 (by have := Y10.out; omega)
 have K57 := Lib.hid (show Blk V49 (w.heap.size + 1 + 1 + 1) 28 #[.float .f64 p1.lo, .float .f64 p1.hi] from (ks hV50 K44 D47).out)
 have K58 := kf hV50 K45 D47 (by have := Y10.out; omega)
 have HB59 := hbs hV50 HB46 D47 (by have := Y10.out; omega)
 have D60 := dr V49
 clear K41 K42 K43 K44 K45 HB46 D47
 go_simp
 clear hV50 f51 u52 hv53
 have hS61 : True ∧ Blk V49 (w.heap.size) 30 (vc n) ∧ CellsL V49 (g6) 0 [.float .f64 p1.lo, .float .f64 p1.hi] := ⟨trivial, (kb K54 D60), (kb K58 D60).cellsL 0 [.float .f64 p1.lo, .float .f64 p1.hi] rfl⟩
 refine hK _ _ hS61 ?_
 clear hK K hS48
 refine tkq 4 (bm 5 31) hS61 ?_
 refine wpAnyH_done (by kernel_rfl) ?_ _
 clear hS61
 go_wp2_with fail
 (try simp only [Exit.inBlock, Exit.then])
 exact bodyPost_ret (res_cct rfl _ _ (w.heap.size + 1 + 1) (vc n) (w.heap.size + 1 + 1 + 1) #[.float .f64 p1.lo, .float .f64 p1.hi] rfl (kb K56 D60) (by rw [info_V3]; rfl) Try.underlying30 rfl rfl (kb K57 D60) (by rw [info_Span]; rfl) Try.underlying28 rfl) rfl ⟨rfl, below_step HB59.out D60.out⟩
theorem face_0 (n d : V3) (h : posS (bdCos n d) = 0) (w : World) : Calls Try.prog 52 #[Value.agg #[.float .f64 n.x.lo, .float .f64 n.x.hi, .float .f64 n.y.lo, .float .f64 n.y.hi, .float .f64 n.z.lo, .float .f64 n.z.hi], Value.agg #[.float .f64 d.x.lo, .float .f64 d.x.hi, .float .f64 d.y.lo, .float .f64 d.y.hi, .float .f64 d.z.lo, .float .f64 d.z.hi]] w fun r w' => r = .returned (.tuple #[vval (vNeg n), .agg #[.float .f64 (negS (bdCos n d)).lo, .float .f64 (negS (bdCos n d)).hi], .int .i64 1]) ∧ Below w.heap.size w w' := by
 have C0 := Lib.hid (fun w => dotV_any n d w)
 obtain ⟨p0, hp0⟩ : ∃ z_, vDot n d = z_ := ⟨_, rfl⟩
 rw [hp0] at C0
 have C1 := Lib.hid (fun w => neg_sp p0 w)
 obtain ⟨p1, hp1⟩ : ∃ z_, negS p0 = z_ := ⟨_, rfl⟩
 rw [hp1] at C1
 have hl : posS p1 = 0 := by rw [← hp1, ← hp0]; exact h
 have C2 := Lib.hid (fun w => pos_lit hl w)
 have C3 := Lib.hid (fun w => negV_any n w)
 obtain ⟨p3, hp3⟩ : ∃ z_, vNeg n = z_ := ⟨_, rfl⟩
 rw [hp3] at C3
 have C4 := Lib.hid (fun w => neg_sp p1 w)
 obtain ⟨p4, hp4⟩ : ∃ z_, negS p1 = z_ := ⟨_, rfl⟩
 rw [hp4] at C4
 have hT0 : negS (bdCos n d) = p4 := by
   subst hp0 hp1 hp3 hp4; rfl
 have hT1 : vNeg n = p3 := by
   subst hp0 hp1 hp3 hp4; rfl
 rw [hT0, hT1]
 clear hT0 hT1
 clear hp0 hp1 hp3 hp4
 go_enter Try.func52, Try.ntmps52
 go_wp2_with (first | (refine wl_load (by kernel_rfl) rfl rfl ((((Blk.new_at _ _ _ rfl).alloc _).alloc _).alloc _) (by rw [info_V3]; rfl) Try.underlying30 rfl ?_) | (refine wl_load (by kernel_rfl) rfl rfl (((Blk.new_at _ _ _ (by simp)).alloc _).alloc _) (by rw [info_V3]; rfl) Try.underlying30 rfl ?_))
 obtain ⟨W, hW, K0, K1, K2, K3, hB, hz⟩ := bx4 w 30 30 30 28 (vc n) (vc d) #[.float .f64 0, .float .f64 0, .float .f64 0, .float .f64 0, .float .f64 0, .float .f64 0] #[.float .f64 0, .float .f64 0]
 rw [← hW]
 have K0 := Lib.hid K0
 have K1 := Lib.hid K1
 have K2 := Lib.hid K2
 have K3 := Lib.hid K3
 have HB := Lib.hid hB
 clear hW hB hz
 have D1 := dr W
 refine (C0.out _).mono ?_
 rintro r w2 ⟨rfl, hb⟩
 have D3 := ds D1 hb
 clear D1
 clear hb
 go_wp2_with fail
 refine (C1.out _).mono ?_
 rintro r w4 ⟨rfl, hb⟩
 have D5 := ds D3 hb
 clear D3
 clear hb
 obtain ⟨g6, hg8⟩ : ∃ g, w4.heap.size = g := ⟨_, rfl⟩
 have Y10 := Lib.hid (show w.heap.size < g6 ∧ w.heap.size + 1 < g6 ∧ w.heap.size + 1 + 1 < g6 ∧ w.heap.size + 1 + 1 + 1 < g6 by rw [← hg8]; exact ⟨(kb K0 D5).lt, (kb K1 D5).lt, (kb K2 D5).lt, (kb K3 D5).lt⟩)
 obtain ⟨V7, hV9⟩ : ∃ V, w4.alloc (.cells #[.float .f64 0, .float .f64 0] 28) = V := ⟨_, rfl⟩
 have K11 := ka hV9 K0 D5
 have K12 := ka hV9 K1 D5
 have K13 := ka hV9 K2 D5
 have K14 := ka hV9 K3 D5
 have K15 := kn hV9 hg8
 have HB16 := hba hV9 HB D5
 have D17 := dr V7
 clear K0 K1 K2 K3 HB D5
 have f20 := (kb K15 D17).cellsL 0 [.float .f64 0, .float .f64 0] rfl
 dsimp only [CellsL, al, vl, Nat.reduceAdd] at f20
 have u21 := (kb K15 D17).unfrozen
 obtain ⟨V18, hV19⟩ : ∃ V, setCells V7 (g6) 0 [.float .f64 p1.lo, .float .f64 p1.hi] = V := ⟨_, rfl⟩
 have hv22 := hV19
 simp only [setCells, Nat.reduceAdd] at hv22
 have K23 := kf hV19 K11 D17 (by have := Y10.out; omega)
 have K24 := kf hV19 K12 D17 (by have := Y10.out; omega)
 have K25 := kf hV19 K13 D17 (by have := Y10.out; omega)
 have K26 := kf hV19 K14 D17 (by have := Y10.out; omega)
 have K27 := Lib.hid (show Blk V18 (g6) 28 #[.float .f64 p1.lo, .float .f64 p1.hi] from (ks hV19 K15 D17).out)
 have HB28 := hbs hV19 HB16 D17 (by have := Y10.out; omega)
 have D29 := dr V18
 clear K11 K12 K13 K14 K15 HB16 D17
 have hq30 := (kb K27 D29).cellsL 0 [.float .f64 p1.lo, .float .f64 p1.hi] rfl
 dsimp only [CellsL, al, vl, Nat.reduceAdd] at hq30
 go_wp2_with fail
 clear hg8 hV9 hV19 f20 u21 hv22 hq30
 refine (C2.out _).mono ?_
 rintro r w31 ⟨rfl, hb⟩
 have D32 := ds D29 hb
 clear D29
 clear hb
 go_wp2_with fail
 refine wp_region_held (S := (fun w' => True ∧ Blk w' (w.heap.size) 30 (vc n) ∧ CellsL w' (g6) 0 [.float .f64 p1.lo, .float .f64 p1.hi])) (by kernel_rfl) ?_
 change wpAnyH _ _ _ _ _ _ _ _ (World.drew _)
 obtain ⟨wd33, hwd⟩ : ∃ x, x = World.drew w31 := ⟨_, rfl⟩
 rw [← hwd]
 have D34 := Lib.hid (hwd ▸ Below.drew D32.out : Below V18.heap.size V18 wd33)
 clear D32 hwd
 have hS35 : True ∧ Blk wd33 (w.heap.size) 30 (vc n) ∧ CellsL wd33 (g6) 0 [.float .f64 p1.lo, .float .f64 p1.hi] := ⟨trivial, (kb K23 D34), (kb K27 D34).cellsL 0 [.float .f64 p1.lo, .float .f64 p1.hi] rfl⟩
 refine tkL 0 (bm 7 1) ?aq36 rfl (by kernel_rfl) (fun _ _ _ h => h) (by kernel_rfl) rfl rfl (fun _ hS => hS.2.1) (by rw [info_V3]; rfl) Try.underlying30 rfl ?pq36 hS35 ?rq36
 case pq36 => (go_simp; try with_reducible rfl)
 refine tke 2 (bm 7 5) hS35 ?_
 refine wpAnyH_oneN (i := 1) (l' := bm 7 7) rfl (by kernel_rfl) (by kernel_rfl) (by kernel_rfl) (fun K hK => ?_)
 go_simp
 go_at_call 40
 refine (C3.out _).mono ?_
 rintro r w38 ⟨rfl, hb⟩
 dsimp only
 have D39 := ds D34 hb
 clear D34
 clear hb
 have hS40 : True ∧ Blk w38 (w.heap.size) 30 (vc n) ∧ CellsL w38 (g6) 0 [.float .f64 p1.lo, .float .f64 p1.hi] := ⟨trivial, (kb K23 D39), (kb K27 D39).cellsL 0 [.float .f64 p1.lo, .float .f64 p1.hi] rfl⟩
 refine hK _ _ hS40 ?_
 clear hK K hS35
 refine wpAnyH_oneN (i := 3) (l' := bm 7 15) rfl (by kernel_rfl) (by kernel_rfl) (by kernel_rfl) (fun K hK => ?_)
 go_simp
 go_at_call 67
 refine (C4.out _).mono ?_
 rintro r w41 ⟨rfl, hb⟩
 dsimp only
 have D42 := ds D39 hb
 clear D39
 clear hb
 have hS43 : True ∧ Blk w41 (w.heap.size) 30 (vc n) ∧ CellsL w41 (g6) 0 [.float .f64 p1.lo, .float .f64 p1.hi] := ⟨trivial, (kb K23 D42), (kb K27 D42).cellsL 0 [.float .f64 p1.lo, .float .f64 p1.hi] rfl⟩
 refine hK _ _ hS43 ?_
 clear hK K hS40
 refine wpAnyH_oneN (i := 4) (l' := bm 7 31) rfl (by kernel_rfl) (by kernel_rfl) (by kernel_rfl) (fun K hK => ?_)
 have f46 := (kb K25 D42)
 obtain ⟨V44, hV45⟩ : ∃ V, World.setRow w41 (w.heap.size + 1 + 1) (vc p3) = V := ⟨_, rfl⟩
 have K47 := kfr hV45 K23 D42 (by have := Y10.out; omega)
 have K48 := kfr hV45 K24 D42 (by have := Y10.out; omega)
 have K49 := ksr hV45 K25 D42
 have K50 := kfr hV45 K26 D42 (by have := Y10.out; omega)
 have K51 := kfr hV45 K27 D42 (by have := Y10.out; omega)
 have HB52 := hbr hV45 HB28 D42 (by have := Y10.out; omega)
 have D53 := dr V44
 clear K23 K24 K25 K26 K27 HB28 D42
 refine wp_store_row 30 _ _ rfl (w.heap.size + 1 + 1) (vc p3) rfl rfl _ _ f46 (by rw [info_V3]; rfl) rfl (by kernel_rfl) ?_
 rw [hV45]
 go_simp
 clear hV45 f46
 have hS54 : True ∧ Blk V44 (w.heap.size) 30 (vc n) ∧ CellsL V44 (g6) 0 [.float .f64 p1.lo, .float .f64 p1.hi] := ⟨trivial, (kb K47 D53), (kb K51 D53).cellsL 0 [.float .f64 p1.lo, .float .f64 p1.hi] rfl⟩
 refine hK _ _ hS54 ?_
 clear hK K hS43
 refine wpAnyH_oneN (i := 5) (l' := bm 7 63) rfl (by kernel_rfl) (by kernel_rfl) (by kernel_rfl) (fun K hK => ?_)
 have f57 := (kb K50 D53).cellsL 0 [.float .f64 0, .float .f64 0] rfl
 dsimp only [CellsL, al, vl, Nat.reduceAdd] at f57
 have u58 := (kb K50 D53).unfrozen
 obtain ⟨V55, hV56⟩ : ∃ V, setCells V44 (w.heap.size + 1 + 1 + 1) 0 [.float .f64 p4.lo, .float .f64 p4.hi] = V := ⟨_, rfl⟩
 have hv59 := hV56
 simp only [setCells, Nat.reduceAdd] at hv59
 have K60 := kf hV56 K47 D53 (by have := Y10.out; omega)
 have K61 := kf hV56 K48 D53 (by have := Y10.out; omega)
 have K62 := kf hV56 K49 D53 (by have := Y10.out; omega)
 have K63 := Lib.hid (show Blk V55 (w.heap.size + 1 + 1 + 1) 28 #[.float .f64 p4.lo, .float .f64 p4.hi] from (ks hV56 K50 D53).out)
 have K64 := kf hV56 K51 D53 (by have := Y10.out; omega)
 have HB65 := hbs hV56 HB52 D53 (by have := Y10.out; omega)
 have D66 := dr V55
 clear K47 K48 K49 K50 K51 HB52 D53
 go_simp
 clear hV56 f57 u58 hv59
 have hS67 : True ∧ Blk V55 (w.heap.size) 30 (vc n) ∧ CellsL V55 (g6) 0 [.float .f64 p1.lo, .float .f64 p1.hi] := ⟨trivial, (kb K60 D66), (kb K64 D66).cellsL 0 [.float .f64 p1.lo, .float .f64 p1.hi] rfl⟩
 refine hK _ _ hS67 ?_
 clear hK K hS54
 refine tkq 6 (bm 7 127) hS67 ?_
 refine wpAnyH_done (by kernel_rfl) ?_ _
 clear hS67
 go_wp2_with fail
 (try simp only [Exit.inBlock, Exit.then])
 exact bodyPost_ret (res_cct rfl _ _ (w.heap.size + 1 + 1) (vc p3) (w.heap.size + 1 + 1 + 1) #[.float .f64 p4.lo, .float .f64 p4.hi] rfl (kb K62 D66) (by rw [info_V3]; rfl) Try.underlying30 rfl rfl (kb K63 D66) (by rw [info_Span]; rfl) Try.underlying28 rfl) rfl ⟨rfl, below_step HB65.out D66.out⟩
theorem face_2 (n d : V3) (h : posS (bdCos n d) = 2) (w : World) : Calls Try.prog 52 #[Value.agg #[.float .f64 n.x.lo, .float .f64 n.x.hi, .float .f64 n.y.lo, .float .f64 n.y.hi, .float .f64 n.z.lo, .float .f64 n.z.hi], Value.agg #[.float .f64 d.x.lo, .float .f64 d.x.hi, .float .f64 d.y.lo, .float .f64 d.y.hi, .float .f64 d.z.lo, .float .f64 d.z.hi]] w fun r w' => r = .returned (.tuple #[vval n, .agg #[.float .f64 (bdCos n d).lo, .float .f64 (bdCos n d).hi], .int .i64 2]) ∧ Below w.heap.size w w' := by
 have C0 := Lib.hid (fun w => dotV_any n d w)
 obtain ⟨p0, hp0⟩ : ∃ z_, vDot n d = z_ := ⟨_, rfl⟩
 rw [hp0] at C0
 have C1 := Lib.hid (fun w => neg_sp p0 w)
 obtain ⟨p1, hp1⟩ : ∃ z_, negS p0 = z_ := ⟨_, rfl⟩
 rw [hp1] at C1
 have hl : posS p1 = 2 := by rw [← hp1, ← hp0]; exact h
 have C2 := Lib.hid (fun w => pos_lit hl w)
 have hT : bdCos n d = p1 := by
   subst hp0 hp1; rfl
 rw [hT]
 clear hT
 clear hp0 hp1
 go_enter Try.func52, Try.ntmps52
 go_wp2_with (first | (refine wl_load (by kernel_rfl) rfl rfl ((((Blk.new_at _ _ _ rfl).alloc _).alloc _).alloc _) (by rw [info_V3]; rfl) Try.underlying30 rfl ?_) | (refine wl_load (by kernel_rfl) rfl rfl (((Blk.new_at _ _ _ (by simp)).alloc _).alloc _) (by rw [info_V3]; rfl) Try.underlying30 rfl ?_))
 obtain ⟨W, hW, K0, K1, K2, K3, hB, hz⟩ := bx4 w 30 30 30 28 (vc n) (vc d) #[.float .f64 0, .float .f64 0, .float .f64 0, .float .f64 0, .float .f64 0, .float .f64 0] #[.float .f64 0, .float .f64 0]
 rw [← hW]
 have K0 := Lib.hid K0
 have K1 := Lib.hid K1
 have K2 := Lib.hid K2
 have K3 := Lib.hid K3
 have HB := Lib.hid hB
 clear hW hB hz
 have D1 := dr W
 refine (C0.out _).mono ?_
 rintro r w2 ⟨rfl, hb⟩
 have D3 := ds D1 hb
 clear D1
 clear hb
 go_wp2_with fail
 refine (C1.out _).mono ?_
 rintro r w4 ⟨rfl, hb⟩
 have D5 := ds D3 hb
 clear D3
 clear hb
 obtain ⟨g6, hg8⟩ : ∃ g, w4.heap.size = g := ⟨_, rfl⟩
 have Y10 := Lib.hid (show w.heap.size < g6 ∧ w.heap.size + 1 < g6 ∧ w.heap.size + 1 + 1 < g6 ∧ w.heap.size + 1 + 1 + 1 < g6 by rw [← hg8]; exact ⟨(kb K0 D5).lt, (kb K1 D5).lt, (kb K2 D5).lt, (kb K3 D5).lt⟩)
 obtain ⟨V7, hV9⟩ : ∃ V, w4.alloc (.cells #[.float .f64 0, .float .f64 0] 28) = V := ⟨_, rfl⟩
 have K11 := ka hV9 K0 D5
 have K12 := ka hV9 K1 D5
 have K13 := ka hV9 K2 D5
 have K14 := ka hV9 K3 D5
 have K15 := kn hV9 hg8
 have HB16 := hba hV9 HB D5
 have D17 := dr V7
 clear K0 K1 K2 K3 HB D5
 have f20 := (kb K15 D17).cellsL 0 [.float .f64 0, .float .f64 0] rfl
 dsimp only [CellsL, al, vl, Nat.reduceAdd] at f20
 have u21 := (kb K15 D17).unfrozen
 obtain ⟨V18, hV19⟩ : ∃ V, setCells V7 (g6) 0 [.float .f64 p1.lo, .float .f64 p1.hi] = V := ⟨_, rfl⟩
 have hv22 := hV19
 simp only [setCells, Nat.reduceAdd] at hv22
 have K23 := kf hV19 K11 D17 (by have := Y10.out; omega)
 have K24 := kf hV19 K12 D17 (by have := Y10.out; omega)
 have K25 := kf hV19 K13 D17 (by have := Y10.out; omega)
 have K26 := kf hV19 K14 D17 (by have := Y10.out; omega)
 have K27 := Lib.hid (show Blk V18 (g6) 28 #[.float .f64 p1.lo, .float .f64 p1.hi] from (ks hV19 K15 D17).out)
 have HB28 := hbs hV19 HB16 D17 (by have := Y10.out; omega)
 have D29 := dr V18
 clear K11 K12 K13 K14 K15 HB16 D17
 have hq30 := (kb K27 D29).cellsL 0 [.float .f64 p1.lo, .float .f64 p1.hi] rfl
 dsimp only [CellsL, al, vl, Nat.reduceAdd] at hq30
 go_wp2_with fail
 clear hg8 hV9 hV19 f20 u21 hv22 hq30
 refine (C2.out _).mono ?_
 rintro r w31 ⟨rfl, hb⟩
 have D32 := ds D29 hb
 clear D29
 clear hb
 go_wp2_with fail
 refine wp_region_held (S := (fun w' => True ∧ Blk w' (w.heap.size) 30 (vc n) ∧ CellsL w' (g6) 0 [.float .f64 p1.lo, .float .f64 p1.hi])) (by kernel_rfl) ?_
 change wpAnyH _ _ _ _ _ _ _ _ (World.drew _)
 obtain ⟨wd33, hwd⟩ : ∃ x, x = World.drew w31 := ⟨_, rfl⟩
 rw [← hwd]
 have D34 := Lib.hid (hwd ▸ Below.drew D32.out : Below V18.heap.size V18 wd33)
 clear D32 hwd
 have hS35 : True ∧ Blk wd33 (w.heap.size) 30 (vc n) ∧ CellsL wd33 (g6) 0 [.float .f64 p1.lo, .float .f64 p1.hi] := ⟨trivial, (kb K23 D34), (kb K27 D34).cellsL 0 [.float .f64 p1.lo, .float .f64 p1.hi] rfl⟩
 refine tkL 0 (bm 5 1) ?aq36 rfl (by kernel_rfl) (fun _ _ _ h => h) (by kernel_rfl) rfl rfl (fun _ hS => hS.2.1) (by rw [info_V3]; rfl) Try.underlying30 rfl ?pq36 hS35 ?rq36
 case pq36 => (go_simp; try with_reducible rfl)
 refine tke 1 (bm 5 3) hS35 ?_
 refine wpAnyH_oneN (i := 2) (l' := bm 5 7) rfl (by kernel_rfl) (by kernel_rfl) (by kernel_rfl) (fun K hK => ?_)
 have f40 := (kb K25 D34)
 obtain ⟨V38, hV39⟩ : ∃ V, World.setRow wd33 (w.heap.size + 1 + 1) (vc n) = V := ⟨_, rfl⟩
 have K41 := kfr hV39 K23 D34 (by have := Y10.out; omega)
 have K42 := kfr hV39 K24 D34 (by have := Y10.out; omega)
 have K43 := ksr hV39 K25 D34
 have K44 := kfr hV39 K26 D34 (by have := Y10.out; omega)
 have K45 := kfr hV39 K27 D34 (by have := Y10.out; omega)
 have HB46 := hbr hV39 HB28 D34 (by have := Y10.out; omega)
 have D47 := dr V38
 clear K23 K24 K25 K26 K27 HB28 D34
 refine wp_store_row 30 _ _ rfl (w.heap.size + 1 + 1) (vc n) rfl rfl _ _ f40 (by rw [info_V3]; rfl) rfl (by kernel_rfl) ?_
 rw [hV39]
 go_simp
 clear hV39 f40
 have hS48 : True ∧ Blk V38 (w.heap.size) 30 (vc n) ∧ CellsL V38 (g6) 0 [.float .f64 p1.lo, .float .f64 p1.hi] := ⟨trivial, (kb K41 D47), (kb K45 D47).cellsL 0 [.float .f64 p1.lo, .float .f64 p1.hi] rfl⟩
 refine hK _ _ hS48 ?_
 clear hK K hS35
 refine wpAnyH_oneN (i := 3) (l' := bm 5 15) rfl (by kernel_rfl) (by kernel_rfl) (by kernel_rfl) (fun K hK => ?_)
 have f51 := (kb K44 D47).cellsL 0 [.float .f64 0, .float .f64 0] rfl
 dsimp only [CellsL, al, vl, Nat.reduceAdd] at f51
 have u52 := (kb K44 D47).unfrozen
 obtain ⟨V49, hV50⟩ : ∃ V, setCells V38 (w.heap.size + 1 + 1 + 1) 0 [.float .f64 p1.lo, .float .f64 p1.hi] = V := ⟨_, rfl⟩
 have hv53 := hV50
 simp only [setCells, Nat.reduceAdd] at hv53
 have K54 := kf hV50 K41 D47 (by have := Y10.out; omega)
 have K55 := kf hV50 K42 D47 (by have := Y10.out; omega)
 have K56 := kf hV50 K43 D47 (by have := Y10.out; omega)
 have K57 := Lib.hid (show Blk V49 (w.heap.size + 1 + 1 + 1) 28 #[.float .f64 p1.lo, .float .f64 p1.hi] from (ks hV50 K44 D47).out)
 have K58 := kf hV50 K45 D47 (by have := Y10.out; omega)
 have HB59 := hbs hV50 HB46 D47 (by have := Y10.out; omega)
 have D60 := dr V49
 clear K41 K42 K43 K44 K45 HB46 D47
 go_simp
 clear hV50 f51 u52 hv53
 have hS61 : True ∧ Blk V49 (w.heap.size) 30 (vc n) ∧ CellsL V49 (g6) 0 [.float .f64 p1.lo, .float .f64 p1.hi] := ⟨trivial, (kb K54 D60), (kb K58 D60).cellsL 0 [.float .f64 p1.lo, .float .f64 p1.hi] rfl⟩
 refine hK _ _ hS61 ?_
 clear hK K hS48
 refine tkq 4 (bm 5 31) hS61 ?_
 refine wpAnyH_done (by kernel_rfl) ?_ _
 clear hS61
 go_wp2_with fail
 (try simp only [Exit.inBlock, Exit.then])
 exact bodyPost_ret (res_cct rfl _ _ (w.heap.size + 1 + 1) (vc n) (w.heap.size + 1 + 1 + 1) #[.float .f64 p1.lo, .float .f64 p1.hi] rfl (kb K56 D60) (by rw [info_V3]; rfl) Try.underlying30 rfl rfl (kb K57 D60) (by rw [info_Span]; rfl) Try.underlying28 rfl) rfl ⟨rfl, below_step HB59.out D60.out⟩
end Go.Proofs.Ytnljfcebmgifdaa
