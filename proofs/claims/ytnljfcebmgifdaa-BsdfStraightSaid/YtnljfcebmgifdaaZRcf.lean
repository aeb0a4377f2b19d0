/- Shaken: Ya Tx Yf Za. -/
import Derived.Test.YtnljfcebmgifdaaZRacf
import Derived.Test.YtnljfcebmgifdaaZRbcf
import Derived.Test.YtnljfcebmgifdaaZRcdef
set_option maxRecDepth 100000
set_option maxHeartbeats 8000000
set_option linter.unusedVariables false
set_option linter.unusedSimpArgs false
namespace Go.Proofs.Ytnljfcebmgifdaa
open Fl
theorem InV.over {x y z l : Rat} {a : V3} {s : Sp} (h : InV x y z a) (k : InS l s) : InV (x / l) (y / l) (z / l) (vOver a s) := ⟨in_div h.x k, in_div h.y k, in_div h.z k⟩
end Go.Proofs.Ytnljfcebmgifdaa
set_option linter.unusedVariables false
set_option linter.unusedSimpArgs false
namespace Go.Proofs.Ytnljfcebmgifdaa
open Go.RowKit Fl
section
variable {fn : Func} {p q r : Tmp} {ta tb : TypeId}
theorem res_cc (h : fn.results = #[.cell p ta, .cell q tb]) (tmps : Array Value) (w : World) (g : Nat) (cs : Array Value) (g' : Nat) (cs' : Array Value) {t t' : TypeId} {d d' : TypeDesc}
   (hp : tmps.getD p undef = .pointer (some ⟨g, 0, none⟩)) (hg : Blk w g t cs) (hi : (Try.prog.info? ta).map (·.size) = some cs.size) (hu : Try.prog.underlying ta = some d) (hd : isRow d = true)
   (hp' : tmps.getD q undef = .pointer (some ⟨g', 0, none⟩)) (hg' : Blk w g' t' cs') (hi' : (Try.prog.info? tb).map (·.size) = some cs'.size) (hu' : Try.prog.underlying tb = some d') (hd' : isRow d' = true) :
   (results fn tmps).run Try.prog w = .ok (.tuple #[.agg cs, .agg cs']) w := by
 have e1 : tmps[p]?.getD undef = .pointer (some ⟨g, 0, none⟩) := by simpa using hp
 have e2 : tmps[q]?.getD undef = .pointer (some ⟨g', 0, none⟩) := by simpa using hp'
 simp [results, h, e1, e2, asAddr, run_row w g t ta cs d hg hu hd hi, run_row w g' t' tb cs' d' hg' hu' hd' hi']
end
end Go.Proofs.Ytnljfcebmgifdaa
set_option linter.unusedVariables false
set_option linter.unusedSimpArgs false
namespace Go.Proofs.Ytnljfcebmgifdaa
open Fl
theorem InV.scale {x y z s : Rat} {a : V3} {t : Sp} (h : InV x y z a) (k : InS s t) : InV (x * s) (y * s) (z * s) (vMul a ⟨t, t, t⟩) := ⟨in_mul h.x k, in_mul h.y k, in_mul h.z k⟩
/-- A unit vector by two numbers of its root. -/
theorem unit_two (p q r : Nat) (hl : 0 < Z (vLen (vOf p q r)).lo) : ∃ a b : Rat, 0 < a ∧ 0 < b ∧ InV (fv p * a) (fv q * a) (fv r * a) (vUnit (vOf p q r)) ∧ InV (fv p * b) (fv q * b) (fv r * b) (vUnit (vOf p q r)) ∧
   1 ≤ (fv p * fv p + fv q * fv q + fv r * fv r) * (a * a) ∧ (fv p * fv p + fv q * fv q + fv r * fv r) * (b * b) ≤ 1 := by
 have iv := in_vof p q r
 have iS := iv.sqr
 have hS : 0 ≤ fv p * fv p + fv q * fv q + fv r * fv r := by have := sq_nonneg (fv p); have := sq_nonneg (fv q); have := sq_nonneg (fv r); grind
 obtain ⟨a, b, ha, hb, ja, jb, ka, kb⟩ := root_two hS iS hl
 have ia := iv.over ja
 have ib := iv.over jb
 have e : ∀ x y : Rat, x / y = x * (1 / y) := by intro x y; rw [Rat.div_def, Rat.div_def, Rat.one_mul]
 rw [e (fv p), e (fv q), e (fv r)] at ia ib
 exact ⟨1 / a, 1 / b, inv_pos' ha, inv_pos' hb, ia, ib, inv_sq ha ka, inv_sq' hb kb⟩
end Go.Proofs.Ytnljfcebmgifdaa
set_option linter.unusedVariables false
set_option linter.unusedSimpArgs false
namespace Go.Proofs.Ytnljfcebmgifdaa
open Go.RowKit Fl
theorem roverV_any (a : V3) (s : Sp) (w : World) : Calls Try.prog 88 #[Value.agg #[.float .f64 a.x.lo, .float .f64 a.x.hi, .float .f64 a.y.lo, .float .f64 a.y.hi, .float .f64 a.z.lo, .float .f64 a.z.hi], Value.agg #[.float .f64 s.lo, .float .f64 s.hi]] w fun r w' => r = .returned (vval (vOver a s)) ∧ Below w.heap.size w w' := by
 have C0 := Lib.hid (fun w => rdiv_sp a.x s w)
 obtain ⟨p0, hp0⟩ : ∃ z_, divS a.x s = z_ := ⟨_, rfl⟩
 rw [hp0] at C0
 have C1 := Lib.hid (fun w => rdiv_sp a.y s w)
 obtain ⟨p1, hp1⟩ : ∃ z_, divS a.y s = z_ := ⟨_, rfl⟩
 rw [hp1] at C1
 have C2 := Lib.hid (fun w => rdiv_sp a.z s w)
 obtain ⟨p2, hp2⟩ : ∃ z_, divS a.z s = z_ := ⟨_, rfl⟩
 rw [hp2] at C2
 have hT : vOver a s = (⟨p0, p1, p2⟩ : V3) := by
   subst hp0 hp1 hp2; rfl
 rw [hT]
 clear hT
 clear hp0 hp1 hp2
 go_enter Try.func88, Try.ntmps88
 go_wp2_with fail
 obtain ⟨W, hW, K0, K1, K2, hB, hz⟩ := bx3 w 30 28 30 (vc a) #[.float .f64 s.lo, .float .f64 s.hi] #[.float .f64 0, .float .f64 0, .float .f64 0, .float .f64 0, .float .f64 0, .float .f64 0]
 rw [← hW]
 have K0 := Lib.hid K0
 have K1 := Lib.hid K1
 have K2 := Lib.hid K2
 have HB := Lib.hid hB
 clear hW hB hz
 have D1 := dr W
 refine wp_region_held (S := (fun w' => True ∧ CellsL w' (w.heap.size) 0 (vl a) ∧ CellsL w' (w.heap.size + 1) 0 [.float .f64 s.lo, .float .f64 s.hi])) (by kernel_rfl) ?_
 change wpAnyH _ _ _ _ _ _ _ _ (World.drew _)
 obtain ⟨wd2, hwd⟩ : ∃ x, x = World.drew W := ⟨_, rfl⟩
 rw [← hwd]
 have D3 := Lib.hid (hwd ▸ Below.drew D1.out : Below W.heap.size W wd2)
 clear D1 hwd
 have hS4 : True ∧ CellsL wd2 (w.heap.size) 0 (vl a) ∧ CellsL wd2 (w.heap.size + 1) 0 [.float .f64 s.lo, .float .f64 s.hi] := ⟨trivial, (kb K0 D3).cellsL 0 (vl a) rfl, (kb K1 D3).cellsL 0 [.float .f64 s.lo, .float .f64 s.hi] rfl⟩
 refine tkq 0 (bm 14 1) hS4 ?_
 refine tke 1 (bm 14 3) hS4 ?_
 refine tke 2 (bm 14 7) hS4 ?_
 refine tkq 4 (bm 14 23) hS4 ?_
 refine tke 5 (bm 14 55) hS4 ?_
 refine tke 6 (bm 14 119) hS4 ?_
 refine tkq 8 (bm 14 375) hS4 ?_
 refine tke 9 (bm 14 887) hS4 ?_
 refine tke 10 (bm 14 1911) hS4 ?_
 refine wpAnyH_oneN (i := 3) (l' := bm 14 1919) rfl (by kernel_rfl) (by kernel_rfl) (by kernel_rfl) (fun K hK => ?_)
 go_simp
 go_at_call 72
 refine (C0.out _).mono ?_
 rintro r w14 ⟨rfl, hb⟩
 dsimp only
 have D15 := ds D3 hb
 clear D3
 clear hb
 have hS16 : True ∧ CellsL w14 (w.heap.size) 0 (vl a) ∧ CellsL w14 (w.heap.size + 1) 0 [.float .f64 s.lo, .float .f64 s.hi] := ⟨trivial, (kb K0 D15).cellsL 0 (vl a) rfl, (kb K1 D15).cellsL 0 [.float .f64 s.lo, .float .f64 s.hi] rfl⟩
 refine hK _ _ hS16 ?_
 clear hK K hS4
 refine wpAnyH_oneN (i := 7) (l' := bm 14 2047) rfl (by kernel_rfl) (by kernel_rfl) (by kernel_rfl) (fun K hK => ?_)
 go_simp
 go_at_call 72
 refine (C1.out _).mono ?_
 rintro r w17 ⟨rfl, hb⟩
 dsimp only
 have D18 := ds D15 hb
 clear D15
 clear hb
 have hS19 : True ∧ CellsL w17 (w.heap.size) 0 (vl a) ∧ CellsL w17 (w.heap.size + 1) 0 [.float .f64 s.lo, .float .f64 s.hi] := ⟨trivial, (kb K0 D18).cellsL 0 (vl a) rfl, (kb K1 D18).cellsL 0 [.float .f64 s.lo, .float .f64 s.hi] rfl⟩
 refine hK _ _ hS19 ?_
 clear hK K hS16
 refine wpAnyH_oneN (i := 11) (l' := bm 14 4095) rfl (by kernel_rfl) (by kernel_rfl) (by kernel_rfl) (fun K hK => ?_)
 go_simp
 go_at_call 72
 refine (C2.out _).mono ?_
 rintro r w20 ⟨rfl, hb⟩
 dsimp only
 have D21 := ds D18 hb
 clear D18
 clear hb
 have hS22 : True ∧ CellsL w20 (w.heap.size) 0 (vl a) ∧ CellsL w20 (w.heap.size + 1) 0 [.float .f64 s.lo, .float .f64 s.hi] := ⟨trivial, (kb K0 D21).cellsL 0 (vl a) rfl, (kb K1 D21).cellsL 0 [.float .f64 s.lo, .float .f64 s.hi] rfl⟩
 refine hK _ _ hS22 ?_
 clear hK K hS19
 refine tkq 12 (bm 14 8191) hS22 ?_
 refine wpAnyH_oneN (i := 13) (l' := bm 14 16383) rfl (by kernel_rfl) (by kernel_rfl) (by kernel_rfl) (fun K hK => ?_)
 have f26 := (kb K2 D21)
 obtain ⟨V24, hV25⟩ : ∃ V, World.setRow w20 (w.heap.size + 1 + 1) #[.float .f64 p0.lo, .float .f64 p0.hi, .float .f64 p1.lo, .float .f64 p1.hi, .float .f64 p2.lo, .float .f64 p2.hi] = V := ⟨_, rfl⟩
 have K27 := kfr hV25 K0 D21 (by omega)
 have K28 := kfr hV25 K1 D21 (by omega)
 have K29 := ksr hV25 K2 D21
 have HB30 := hbr hV25 HB D21 (by omega)
 have D31 := dr V24
 clear K0 K1 K2 HB D21
 refine wp_store_row 30 _ _ rfl (w.heap.size + 1 + 1) #[.float .f64 p0.lo, .float .f64 p0.hi, .float .f64 p1.lo, .float .f64 p1.hi, .float .f64 p2.lo, .float .f64 p2.hi] rfl rfl _ _ f26 (by rw [info_V3]; rfl) rfl (by kernel_rfl) ?_
 rw [hV25]
 go_simp
 clear hV25 f26
 have hS32 : True ∧ CellsL V24 (w.heap.size) 0 (vl a) ∧ CellsL V24 (w.heap.size + 1) 0 [.float .f64 s.lo, .float .f64 s.hi] := ⟨trivial, (kb K27 D31).cellsL 0 (vl a) rfl, (kb K28 D31).cellsL 0 [.float .f64 s.lo, .float .f64 s.hi] rfl⟩
 refine hK _ _ hS32 ?_
 clear hK K hS22
 refine wpAnyH_done (by kernel_rfl) ?_ _
 clear hS32
 go_wp2_with fail
 (try simp only [Exit.inBlock, Exit.then])
 exact bodyPost_ret (res_c rfl _ _ (w.heap.size + 1 + 1) #[.float .f64 p0.lo, .float .f64 p0.hi, .float .f64 p1.lo, .float .f64 p1.hi, .float .f64 p2.lo, .float .f64 p2.hi] rfl (kb K29 D31) (by rw [info_V3]; rfl) Try.underlying30 rfl) rfl ⟨rfl, below_step HB30.out D31.out⟩
theorem runitV_any (a : V3) (w : World) : Calls Try.prog 47 #[Value.agg #[.float .f64 a.x.lo, .float .f64 a.x.hi, .float .f64 a.y.lo, .float .f64 a.y.hi, .float .f64 a.z.lo, .float .f64 a.z.hi]] w fun r w' => r = .returned (.tuple #[vval (vUnit a), .agg #[.float .f64 (vLen a).lo, .float .f64 (vLen a).hi]]) ∧ Below w.heap.size w w' := by
 have C0 := Lib.hid (fun w => rsqrV_any a w)
 obtain ⟨p0, hp0⟩ : ∃ z_, vSqr a = z_ := ⟨_, rfl⟩
 rw [hp0] at C0
 have C1 := Lib.hid (fun w => rsqrt_sp p0 w)
 obtain ⟨p1, hp1⟩ : ∃ z_, sqrtS p0 = z_ := ⟨_, rfl⟩
 rw [hp1] at C1
 have C2 := Lib.hid (fun w => roverV_any a p1 w)
 obtain ⟨p2, hp2⟩ : ∃ z_, vOver a p1 = z_ := ⟨_, rfl⟩
 rw [hp2] at C2
 have hT0 : vUnit a = p2 := by
   subst hp0 hp1 hp2; rfl
 have hT1 : vLen a = p1 := by
   subst hp0 hp1 hp2; rfl
 rw [hT0, hT1]
 clear hT0 hT1
 clear hp0 hp1 hp2
 go_enter Try.func47, Try.ntmps47
 go_wp2_with (refine wl_load (by kernel_rfl) rfl rfl (((Blk.new_at _ _ _ rfl).alloc _).alloc _) (by rw [info_V3]; rfl) Try.underlying30 rfl ?_)
 obtain ⟨W, hW, K0, K1, K2, hB, hz⟩ := bx3 w 30 30 28 (vc a) #[.float .f64 0, .float .f64 0, .float .f64 0, .float .f64 0, .float .f64 0, .float .f64 0] #[.float .f64 0, .float .f64 0]
 rw [← hW]
 have K0 := Lib.hid K0
 have K1 := Lib.hid K1
 have K2 := Lib.hid K2
 have HB := Lib.hid hB
 clear hW hB hz
 have D1 := dr W
 refine (C0.out _).mono ?_
 rintro r w2 ⟨rfl, hb⟩
 have D3 := ds D1 hb
 clear D1
 clear hb
 go_wp2_with fail
 refine (C1.out _).mono ?_
 rintro r w4 ⟨rfl, hb⟩
 have D5 := ds D3 hb
 clear D3
 clear hb
 obtain ⟨g6, hg8⟩ : ∃ g, w4.heap.size = g := ⟨_, rfl⟩
 have Y10 := Lib.hid (show w.heap.size + 1 + 1 < g6 by rw [← hg8]; exact (kb K2 D5).lt)
 obtain ⟨V7, hV9⟩ : ∃ V, w4.alloc (.cells #[.float .f64 0, .float .f64 0] 28) = V := ⟨_, rfl⟩
 have K11 := ka hV9 K0 D5
 have K12 := ka hV9 K1 D5
 have K13 := ka hV9 K2 D5
 have K14 := kn hV9 hg8
 have HB15 := hba hV9 HB D5
 have D16 := dr V7
 clear K0 K1 K2 HB D5
 have f19 := (kb K14 D16).cellsL 0 [.float .f64 0, .float .f64 0] rfl
 dsimp only [CellsL, al, vl, Nat.reduceAdd] at f19
 have u20 := (kb K14 D16).unfrozen
 obtain ⟨V17, hV18⟩ : ∃ V, setCells V7 (g6) 0 [.float .f64 p1.lo, .float .f64 p1.hi] = V := ⟨_, rfl⟩
 have hv21 := hV18
 simp only [setCells, Nat.reduceAdd] at hv21
 have K22 := kf hV18 K11 D16 (by have := Y10.out; omega)
 have K23 := kf hV18 K12 D16 (by have := Y10.out; omega)
 have K24 := kf hV18 K13 D16 (by have := Y10.out; omega)
 have K25 := Lib.hid (show Blk V17 (g6) 28 #[.float .f64 p1.lo, .float .f64 p1.hi] from (ks hV18 K14 D16).out)
 have HB26 := hbs hV18 HB15 D16 (by have := Y10.out; omega)
 have D27 := dr V17
 clear K11 K12 K13 K14 HB15 D16
 go_wp2_with fail
 clear hg8 hV9 hV18 f19 u20 hv21
 refine wp_region_held (S := (fun w' => True ∧ Blk w' (w.heap.size) 30 (vc a) ∧ CellsL w' (g6) 0 [.float .f64 p1.lo, .float .f64 p1.hi])) (by kernel_rfl) ?_
 change wpAnyH _ _ _ _ _ _ _ _ (World.drew _)
 obtain ⟨wd28, hwd⟩ : ∃ x, x = World.drew V17 := ⟨_, rfl⟩
 rw [← hwd]
 have D29 := Lib.hid (hwd ▸ Below.drew D27.out : Below V17.heap.size V17 wd28)
 clear D27 hwd
 have hS30 : True ∧ Blk wd28 (w.heap.size) 30 (vc a) ∧ CellsL wd28 (g6) 0 [.float .f64 p1.lo, .float .f64 p1.hi] := ⟨trivial, (kb K22 D29), (kb K25 D29).cellsL 0 [.float .f64 p1.lo, .float .f64 p1.hi] rfl⟩
 refine tkL 0 (bm 6 1) ?aq31 rfl (by kernel_rfl) (fun _ _ _ h => h) (by kernel_rfl) rfl rfl (fun _ hS => hS.2.1) (by rw [info_V3]; rfl) Try.underlying30 rfl ?pq31 hS30 ?rq31
 case pq31 => (go_simp; try with_reducible rfl)
 refine tke 1 (bm 6 3) hS30 ?_
 refine tke 3 (bm 6 11) hS30 ?_
 refine wpAnyH_oneN (i := 2) (l' := bm 6 15) rfl (by kernel_rfl) (by kernel_rfl) (by kernel_rfl) (fun K hK => ?_)
 go_simp
 go_at_call 88
 refine (C2.out _).mono ?_
 rintro r w34 ⟨rfl, hb⟩
 dsimp only
 have D35 := ds D29 hb
 clear D29
 clear hb
 have hS36 : True ∧ Blk w34 (w.heap.size) 30 (vc a) ∧ CellsL w34 (g6) 0 [.float .f64 p1.lo, .float .f64 p1.hi] := ⟨trivial, (kb K22 D35), (kb K25 D35).cellsL 0 [.float .f64 p1.lo, .float .f64 p1.hi] rfl⟩
 refine hK _ _ hS36 ?_
 clear hK K hS30
 refine wpAnyH_oneN (i := 4) (l' := bm 6 31) rfl (by kernel_rfl) (by kernel_rfl) (by kernel_rfl) (fun K hK => ?_)
 have f39 := (kb K23 D35)
 obtain ⟨V37, hV38⟩ : ∃ V, World.setRow w34 (w.heap.size + 1) (vc p2) = V := ⟨_, rfl⟩
 have K40 := kfr hV38 K22 D35 (by have := Y10.out; omega)
 have K41 := ksr hV38 K23 D35
 have K42 := kfr hV38 K24 D35 (by have := Y10.out; omega)
 have K43 := kfr hV38 K25 D35 (by have := Y10.out; omega)
 have HB44 := hbr hV38 HB26 D35 (by have := Y10.out; omega)
 have D45 := dr V37
 clear K22 K23 K24 K25 HB26 D35
 refine wp_store_row 30 _ _ rfl (w.heap.size + 1) (vc p2) rfl rfl _ _ f39 (by rw [info_V3]; rfl) rfl (by kernel_rfl) ?_
 rw [hV38]
 go_simp
 clear hV38 f39
 have hS46 : True ∧ Blk V37 (w.heap.size) 30 (vc a) ∧ CellsL V37 (g6) 0 [.float .f64 p1.lo, .float .f64 p1.hi] := ⟨trivial, (kb K40 D45), (kb K43 D45).cellsL 0 [.float .f64 p1.lo, .float .f64 p1.hi] rfl⟩
 refine hK _ _ hS46 ?_
 clear hK K hS36
 refine wpAnyH_oneN (i := 5) (l' := bm 6 63) rfl (by kernel_rfl) (by kernel_rfl) (by kernel_rfl) (fun K hK => ?_)
 have f49 := (kb K42 D45).cellsL 0 [.float .f64 0, .float .f64 0] rfl
 dsimp only [CellsL, al, vl, Nat.reduceAdd] at f49
 have u50 := (kb K42 D45).unfrozen
 obtain ⟨V47, hV48⟩ : ∃ V, setCells V37 (w.heap.size + 1 + 1) 0 [.float .f64 p1.lo, .float .f64 p1.hi] = V := ⟨_, rfl⟩
 have hv51 := hV48
 simp only [setCells, Nat.reduceAdd] at hv51
 have K52 := kf hV48 K40 D45 (by have := Y10.out; omega)
 have K53 := kf hV48 K41 D45 (by have := Y10.out; omega)
 have K54 := Lib.hid (show Blk V47 (w.heap.size + 1 + 1) 28 #[.float .f64 p1.lo, .float .f64 p1.hi] from (ks hV48 K42 D45).out)
 have K55 := kf hV48 K43 D45 (by have := Y10.out; omega)
 have HB56 := hbs hV48 HB44 D45 (by have := Y10.out; omega)
 have D57 := dr V47
 clear K40 K41 K42 K43 HB44 D45
 go_simp
 clear hV48 f49 u50 hv51
 have hS58 : True ∧ Blk V47 (w.heap.size) 30 (vc a) ∧ CellsL V47 (g6) 0 [.float .f64 p1.lo, .float .f64 p1.hi] := ⟨trivial, (kb K52 D57), (kb K55 D57).cellsL 0 [.float .f64 p1.lo, .float .f64 p1.hi] rfl⟩
 refine hK _ _ hS58 ?_
 clear hK K hS46
 refine wpAnyH_done (by kernel_rfl) ?_ _
 clear hS58
 go_wp2_with fail
 (try simp only [Exit.inBlock, Exit.then])
 exact bodyPost_ret (res_cc rfl _ _ (w.heap.size + 1) (vc p2) (w.heap.size + 1 + 1) #[.float .f64 p1.lo, .float .f64 p1.hi] rfl (kb K53 D57) (by rw [info_V3]; rfl) Try.underlying30 rfl rfl (kb K54 D57) (by rw [info_Span]; rfl) Try.underlying28 rfl) rfl ⟨rfl, below_step HB56.out D57.out⟩
end Go.Proofs.Ytnljfcebmgifdaa
