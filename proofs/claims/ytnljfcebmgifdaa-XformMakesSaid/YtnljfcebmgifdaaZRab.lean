/- Shaken: Yc Tx Tb Ua. -/
import Derived.Test.YtnljfcebmgifdaaZRabf
set_option maxRecDepth 100000
set_option maxHeartbeats 8000000
set_option linter.unusedVariables false
set_option linter.unusedSimpArgs false
namespace Go.Proofs.Ytnljfcebmgifdaa
open Fl
noncomputable def afStretch (p q r : Nat) : Af := ⟨⟨ofS p, zeroS, zeroS⟩, ⟨zeroS, ofS q, zeroS⟩, ⟨zeroS, zeroS, ofS r⟩, zeroV⟩
noncomputable def afSame : Af := afStretch W1 W1 W1
noncomputable def afMove (p q r : Nat) : Af := ⟨afSame.a, afSame.b, afSame.c, vOf p q r⟩
/-- Around the first, second, third axis. -/
noncomputable def afTurn0 (p q : Sp) : Af := ⟨⟨ofS W1, zeroS, zeroS⟩, ⟨zeroS, p, negS q⟩, ⟨zeroS, q, p⟩, zeroV⟩
noncomputable def afTurn1 (p q : Sp) : Af := ⟨⟨p, zeroS, q⟩, ⟨zeroS, ofS W1, zeroS⟩, ⟨negS q, zeroS, p⟩, zeroV⟩
noncomputable def afTurn2 (p q : Sp) : Af := ⟨⟨p, negS q, zeroS⟩, ⟨q, p, zeroS⟩, ⟨zeroS, zeroS, ofS W1⟩, zeroV⟩
noncomputable def tuL (c s : Nat) : Sp := sqrtS (addS (sqrS (ofS c)) (sqrS (ofS s)))
theorem of0 : ofS 0 = zeroS := by
 refine Sp.ext ?_ ?_ <;> decide +kernel
end Go.Proofs.Ytnljfcebmgifdaa
set_option linter.unusedVariables false
set_option linter.unusedSimpArgs false
namespace Go.Proofs.Ytnljfcebmgifdaa
open Go.RowKit Fl
abbrev ac (m : Af) : Array Value := #[Value.float FloatKind.f64 m.a.x.lo, Value.float FloatKind.f64 m.a.x.hi, Value.float FloatKind.f64 m.a.y.lo, Value.float FloatKind.f64 m.a.y.hi, Value.float FloatKind.f64 m.a.z.lo, Value.float FloatKind.f64 m.a.z.hi, Value.float FloatKind.f64 m.b.x.lo, Value.float FloatKind.f64 m.b.x.hi, Value.float FloatKind.f64 m.b.y.lo, Value.float FloatKind.f64 m.b.y.hi, Value.float FloatKind.f64 m.b.z.lo, Value.float FloatKind.f64 m.b.z.hi, Value.float FloatKind.f64 m.c.x.lo, Value.float FloatKind.f64 m.c.x.hi, Value.float FloatKind.f64 m.c.y.lo, Value.float FloatKind.f64 m.c.y.hi, Value.float FloatKind.f64 m.c.z.lo, Value.float FloatKind.f64 m.c.z.hi, Value.float FloatKind.f64 m.t.x.lo, Value.float FloatKind.f64 m.t.x.hi, Value.float FloatKind.f64 m.t.y.lo, Value.float FloatKind.f64 m.t.y.hi, Value.float FloatKind.f64 m.t.z.lo, Value.float FloatKind.f64 m.t.z.hi]
section
variable {fn : Func} {p q r : Tmp} {ta tb : TypeId}
theorem res_ct (h : fn.results = #[.cell p ta, .tmp r]) (tmps : Array Value) (w : World) (g : Nat) (cs : Array Value) {t : TypeId} {d : TypeDesc}
   (hp : tmps.getD p undef = .pointer (some ⟨g, 0, none⟩)) (hg : Blk w g t cs) (hi : (Try.prog.info? ta).map (·.size) = some cs.size) (hu : Try.prog.underlying ta = some d) (hd : isRow d = true) :
   (results fn tmps).run Try.prog w = .ok (.tuple #[.agg cs, tmps.getD r undef]) w := by
 have e1 : tmps[p]?.getD undef = .pointer (some ⟨g, 0, none⟩) := by simpa using hp
 simp [results, h, e1, asAddr, run_row w g t ta cs d hg hu hd hi]
end
theorem info_Affine : (Try.prog.info? 33).map (·.size) = some 24 := by kernel_rfl
end Go.Proofs.Ytnljfcebmgifdaa
set_option linter.unusedVariables false
set_option linter.unusedSimpArgs false
namespace Go.Proofs.Ytnljfcebmgifdaa
open Go.RowKit Fl
theorem ofV_any (t0 t1 t2 : Nat) (h0 : t0 < 18446744073709551616) (h1 : t1 < 18446744073709551616) (h2 : t2 < 18446744073709551616) (w : World) : Calls Try.prog 30 #[Value.agg #[.float .f64 t0, .float .f64 t1, .float .f64 t2]] w fun r w' => r = .returned (vval (vOf t0 t1 t2)) ∧ Below w.heap.size w w' := by
 have C0 := Lib.hid (fun w => of_sp t0 h0 w)
 obtain ⟨p0, hp0⟩ : ∃ z_, ofS t0 = z_ := ⟨_, rfl⟩
 rw [hp0] at C0
 have C1 := Lib.hid (fun w => of_sp t1 h1 w)
 obtain ⟨p1, hp1⟩ : ∃ z_, ofS t1 = z_ := ⟨_, rfl⟩
 rw [hp1] at C1
 have C2 := Lib.hid (fun w => of_sp t2 h2 w)
 obtain ⟨p2, hp2⟩ : ∃ z_, ofS t2 = z_ := ⟨_, rfl⟩
 rw [hp2] at C2
 have hT : vOf t0 t1 t2 = (⟨p0, p1, p2⟩ : V3) := by
   subst hp0 hp1 hp2; rfl
 rw [hT]
 clear hT
 clear hp0 hp1 hp2
 go_enter Try.func30, Try.ntmps30
 go_wp2_with fail
 obtain ⟨W, hW, K0, K1, hB, hz⟩ := bx2 w 24 30 #[.float .f64 t0, .float .f64 t1, .float .f64 t2] #[.float .f64 0, .float .f64 0, .float .f64 0, .float .f64 0, .float .f64 0, .float .f64 0]
 rw [← hW]
 have K0 := Lib.hid K0
 have K1 := Lib.hid K1
 have HB := Lib.hid hB
 clear hW hB hz
 have D1 := dr W
 refine wp_region_held (S := (fun w' => True ∧ CellsL w' (w.heap.size) 0 [.float .f64 t0, .float .f64 t1, .float .f64 t2])) (by kernel_rfl) ?_
 change wpAnyH _ _ _ _ _ _ _ _ (World.drew _)
 obtain ⟨wd2, hwd⟩ : ∃ x, x = World.drew W := ⟨_, rfl⟩
 rw [← hwd]
 have D3 := Lib.hid (hwd ▸ Below.drew D1.out : Below W.heap.size W wd2)
 clear D1 hwd
 have hS4 : True ∧ CellsL wd2 (w.heap.size) 0 [.float .f64 t0, .float .f64 t1, .float .f64 t2] := ⟨trivial, (kb K0 D3).cellsL 0 [.float .f64 t0, .float .f64 t1, .float .f64 t2] rfl⟩
 refine tkq 0 (bm 11 1) hS4 ?_
 refine tke 1 (bm 11 3) hS4 ?_
 refine tkq 3 (bm 11 11) hS4 ?_
 refine tke 4 (bm 11 27) hS4 ?_
 refine tkq 6 (bm 11 91) hS4 ?_
 refine tke 7 (bm 11 219) hS4 ?_
 refine wpAnyH_oneN (i := 2) (l' := bm 11 223) rfl (by kernel_rfl) (by kernel_rfl) (by kernel_rfl) (fun K hK => ?_)
 go_simp
 go_at_call 64
 refine (C0.out _).mono ?_
 rintro r w11 ⟨rfl, hb⟩
 dsimp only
 have D12 := ds D3 hb
 clear D3
 clear hb
 have hS13 : True ∧ CellsL w11 (w.heap.size) 0 [.float .f64 t0, .float .f64 t1, .float .f64 t2] := ⟨trivial, (kb K0 D12).cellsL 0 [.float .f64 t0, .float .f64 t1, .float .f64 t2] rfl⟩
 refine hK _ _ hS13 ?_
 clear hK K hS4
 refine wpAnyH_oneN (i := 5) (l' := bm 11 255) rfl (by kernel_rfl) (by kernel_rfl) (by kernel_rfl) (fun K hK => ?_)
 go_simp
 go_at_call 64
 refine (C1.out _).mono ?_
 rintro r w14 ⟨rfl, hb⟩
 dsimp only
 have D15 := ds D12 hb
 clear D12
 clear hb
 have hS16 : True ∧ CellsL w14 (w.heap.size) 0 [.float .f64 t0, .float .f64 t1, .float .f64 t2] := ⟨trivial, (kb K0 D15).cellsL 0 [.float .f64 t0, .float .f64 t1, .float .f64 t2] rfl⟩
 refine hK _ _ hS16 ?_
 clear hK K hS13
 refine wpAnyH_oneN (i := 8) (l' := bm 11 511) rfl (by kernel_rfl) (by kernel_rfl) (by kernel_rfl) (fun K hK => ?_)
 go_simp
 go_at_call 64
 refine (C2.out _).mono ?_
 rintro r w17 ⟨rfl, hb⟩
 dsimp only
 have D18 := ds D15 hb
 clear D15
 clear hb
 have hS19 : True ∧ CellsL w17 (w.heap.size) 0 [.float .f64 t0, .float .f64 t1, .float .f64 t2] := ⟨trivial, (kb K0 D18).cellsL 0 [.float .f64 t0, .float .f64 t1, .float .f64 t2] rfl⟩
 refine hK _ _ hS19 ?_
 clear hK K hS16
 refine tkq 9 (bm 11 1023) hS19 ?_
 refine wpAnyH_oneN (i := 10) (l' := bm 11 2047) rfl (by kernel_rfl) (by kernel_rfl) (by kernel_rfl) (fun K hK => ?_)
 have f23 := (kb K1 D18)
 obtain ⟨V21, hV22⟩ : ∃ V, World.setRow w17 (w.heap.size + 1) #[.float .f64 p0.lo, .float .f64 p0.hi, .float .f64 p1.lo, .float .f64 p1.hi, .float .f64 p2.lo, .float .f64 p2.hi] = V := ⟨_, rfl⟩
 have K24 := kfr hV22 K0 D18 (by omega)
 have K25 := ksr hV22 K1 D18
 have HB26 := hbr hV22 HB D18 (by omega)
 have D27 := dr V21
 clear K0 K1 HB D18
 refine wp_store_row 30 _ _ rfl (w.heap.size + 1) #[.float .f64 p0.lo, .float .f64 p0.hi, .float .f64 p1.lo, .float .f64 p1.hi, .float .f64 p2.lo, .float .f64 p2.hi] rfl rfl _ _ f23 (by rw [info_V3]; rfl) rfl (by kernel_rfl) ?_
 rw [hV22]
 go_simp
 clear hV22 f23
 have hS28 : True ∧ CellsL V21 (w.heap.size) 0 [.float .f64 t0, .float .f64 t1, .float .f64 t2] := ⟨trivial, (kb K24 D27).cellsL 0 [.float .f64 t0, .float .f64 t1, .float .f64 t2] rfl⟩
 refine hK _ _ hS28 ?_
 clear hK K hS19
 refine wpAnyH_done (by kernel_rfl) ?_ _
 clear hS28
 go_wp2_with fail
 (try simp only [Exit.inBlock, Exit.then])
 exact bodyPost_ret (res_c rfl _ _ (w.heap.size + 1) #[.float .f64 p0.lo, .float .f64 p0.hi, .float .f64 p1.lo, .float .f64 p1.hi, .float .f64 p2.lo, .float .f64 p2.hi] rfl (kb K25 D27) (by rw [info_V3]; rfl) Try.underlying30 rfl) rfl ⟨rfl, below_step HB26.out D27.out⟩
theorem crossV_any (a b : V3) (w : World) : Calls Try.prog 31 #[Value.agg #[.float .f64 a.x.lo, .float .f64 a.x.hi, .float .f64 a.y.lo, .float .f64 a.y.hi, .float .f64 a.z.lo, .float .f64 a.z.hi], Value.agg #[.float .f64 b.x.lo, .float .f64 b.x.hi, .float .f64 b.y.lo, .float .f64 b.y.hi, .float .f64 b.z.lo, .float .f64 b.z.hi]] w fun r w' => r = .returned (vval (vCross a b)) ∧ Below w.heap.size w w' := by
 have C0 := Lib.hid (fun w => mul_sp a.y b.z w)
 obtain ⟨p0, hp0⟩ : ∃ z_, mulS a.y b.z = z_ := ⟨_, rfl⟩
 rw [hp0] at C0
 have C1 := Lib.hid (fun w => mul_sp a.z b.y w)
 obtain ⟨p1, hp1⟩ : ∃ z_, mulS a.z b.y = z_ := ⟨_, rfl⟩
 rw [hp1] at C1
 have C2 := Lib.hid (fun w => sub_sp p0 p1 w)
 obtain ⟨p2, hp2⟩ : ∃ z_, subS p0 p1 = z_ := ⟨_, rfl⟩
 rw [hp2] at C2
 have C3 := Lib.hid (fun w => mul_sp a.z b.x w)
 obtain ⟨p3, hp3⟩ : ∃ z_, mulS a.z b.x = z_ := ⟨_, rfl⟩
 rw [hp3] at C3
 have C4 := Lib.hid (fun w => mul_sp a.x b.z w)
 obtain ⟨p4, hp4⟩ : ∃ z_, mulS a.x b.z = z_ := ⟨_, rfl⟩
 rw [hp4] at C4
 have C5 := Lib.hid (fun w => sub_sp p3 p4 w)
 obtain ⟨p5, hp5⟩ : ∃ z_, subS p3 p4 = z_ := ⟨_, rfl⟩
 rw [hp5] at C5
 have C6 := Lib.hid (fun w => mul_sp a.x b.y w)
 obtain ⟨p6, hp6⟩ : ∃ z_, mulS a.x b.y = z_ := ⟨_, rfl⟩
 rw [hp6] at C6
 have C7 := Lib.hid (fun w => mul_sp a.y b.x w)
 obtain ⟨p7, hp7⟩ : ∃ z_, mulS a.y b.x = z_ := ⟨_, rfl⟩
 rw [hp7] at C7
 have C8 := Lib.hid (fun w => sub_sp p6 p7 w)
 obtain ⟨p8, hp8⟩ : ∃ z_, subS p6 p7 = z_ := ⟨_, rfl⟩
 rw [hp8] at C8
 have hT : vCross a b = (⟨p2, p5, p8⟩ : V3) := by
   subst hp0 hp1 hp2 hp3 hp4 hp5 hp6 hp7 hp8; rfl
 rw [hT]
 clear hT
 clear hp0 hp1 hp2 hp3 hp4 hp5 hp6 hp7 hp8
 go_enter Try.func31, Try.ntmps31
 go_wp2_with fail
 obtain ⟨W, hW, K0, K1, K2, K3, hB, hz⟩ := bx4 w 30 30 30 30 (vc a) (vc b) #[.float .f64 0, .float .f64 0, .float .f64 0, .float .f64 0, .float .f64 0, .float .f64 0] #[.float .f64 0, .float .f64 0, .float .f64 0, .float .f64 0, .float .f64 0, .float .f64 0]
 rw [← hW]
 have K0 := Lib.hid K0
 have K1 := Lib.hid K1
 have K2 := Lib.hid K2
 have K3 := Lib.hid K3
 have HB := Lib.hid hB
 clear hW hB hz
 have D1 := dr W
 go_wp2_with fail
 refine wp_loop_rounds 4 ?_
 rw [rounds_succ]
 go_wp2_with fail
 refine wp_region_held (S := (fun w' => True ∧ CellsL w' (w.heap.size) 2 [.float .f64 a.y.lo, .float .f64 a.y.hi, .float .f64 a.z.lo, .float .f64 a.z.hi] ∧ CellsL w' (w.heap.size + 1) 2 [.float .f64 b.y.lo, .float .f64 b.y.hi, .float .f64 b.z.lo, .float .f64 b.z.hi])) (by kernel_rfl) ?_
 change wpAnyH _ _ _ _ _ _ _ _ (World.drew _)
 obtain ⟨wd2, hwd⟩ : ∃ x, x = World.drew W := ⟨_, rfl⟩
 rw [← hwd]
 have D3 := Lib.hid (hwd ▸ Below.drew D1.out : Below W.heap.size W wd2)
 clear D1 hwd
 have hS4 : True ∧ CellsL wd2 (w.heap.size) 2 [.float .f64 a.y.lo, .float .f64 a.y.hi, .float .f64 a.z.lo, .float .f64 a.z.hi] ∧ CellsL wd2 (w.heap.size + 1) 2 [.float .f64 b.y.lo, .float .f64 b.y.hi, .float .f64 b.z.lo, .float .f64 b.z.hi] := ⟨trivial, (kb K0 D3).cellsL 2 [.float .f64 a.y.lo, .float .f64 a.y.hi, .float .f64 a.z.lo, .float .f64 a.z.hi] rfl, (kb K1 D3).cellsL 2 [.float .f64 b.y.lo, .float .f64 b.y.hi, .float .f64 b.z.lo, .float .f64 b.z.hi] rfl⟩
 refine tkq 0 (bm 18 1) hS4 ?_
 refine tkq 1 (bm 18 3) hS4 ?_
 refine tkq 2 (bm 18 7) hS4 ?_
 refine tke 3 (bm 18 15) hS4 ?_
 refine tkq 4 (bm 18 31) hS4 ?_
 refine tkq 5 (bm 18 63) hS4 ?_
 refine tke 6 (bm 18 127) hS4 ?_
 refine tkq 8 (bm 18 383) hS4 ?_
 refine tkq 9 (bm 18 895) hS4 ?_
 refine tke 10 (bm 18 1919) hS4 ?_
 refine tkq 11 (bm 18 3967) hS4 ?_
 refine tkq 12 (bm 18 8063) hS4 ?_
 refine tke 13 (bm 18 16255) hS4 ?_
 refine wpAnyH_oneN (i := 7) (l' := bm 18 16383) rfl (by kernel_rfl) (by kernel_rfl) (by kernel_rfl) (fun K hK => ?_)
 go_simp
 go_at_call 77
 refine (C0.out _).mono ?_
 rintro r w18 ⟨rfl, hb⟩
 dsimp only
 have D19 := ds D3 hb
 clear D3
 clear hb
 have hS20 : True ∧ CellsL w18 (w.heap.size) 2 [.float .f64 a.y.lo, .float .f64 a.y.hi, .float .f64 a.z.lo, .float .f64 a.z.hi] ∧ CellsL w18 (w.heap.size + 1) 2 [.float .f64 b.y.lo, .float .f64 b.y.hi, .float .f64 b.z.lo, .float .f64 b.z.hi] := ⟨trivial, (kb K0 D19).cellsL 2 [.float .f64 a.y.lo, .float .f64 a.y.hi, .float .f64 a.z.lo, .float .f64 a.z.hi] rfl, (kb K1 D19).cellsL 2 [.float .f64 b.y.lo, .float .f64 b.y.hi, .float .f64 b.z.lo, .float .f64 b.z.hi] rfl⟩
 refine hK _ _ hS20 ?_
 clear hK K hS4
 refine wpAnyH_oneN (i := 14) (l' := bm 18 32767) rfl (by kernel_rfl) (by kernel_rfl) (by kernel_rfl) (fun K hK => ?_)
 go_simp
 go_at_call 77
 refine (C1.out _).mono ?_
 rintro r w21 ⟨rfl, hb⟩
 dsimp only
 have D22 := ds D19 hb
 clear D19
 clear hb
 have hS23 : True ∧ CellsL w21 (w.heap.size) 2 [.float .f64 a.y.lo, .float .f64 a.y.hi, .float .f64 a.z.lo, .float .f64 a.z.hi] ∧ CellsL w21 (w.heap.size + 1) 2 [.float .f64 b.y.lo, .float .f64 b.y.hi, .float .f64 b.z.lo, .float .f64 b.z.hi] := ⟨trivial, (kb K0 D22).cellsL 2 [.float .f64 a.y.lo, .float .f64 a.y.hi, .float .f64 a.z.lo, .float .f64 a.z.hi] rfl, (kb K1 D22).cellsL 2 [.float .f64 b.y.lo, .float .f64 b.y.hi, .float .f64 b.z.lo, .float .f64 b.z.hi] rfl⟩
 refine hK _ _ hS23 ?_
 clear hK K hS20
 refine wpAnyH_oneN (i := 15) (l' := bm 18 65535) rfl (by kernel_rfl) (by kernel_rfl) (by kernel_rfl) (fun K hK => ?_)
 go_simp
 go_at_call 76
 refine (C2.out _).mono ?_
 rintro r w24 ⟨rfl, hb⟩
 dsimp only
 have D25 := ds D22 hb
 clear D22
 clear hb
 have hS26 : True ∧ CellsL w24 (w.heap.size) 2 [.float .f64 a.y.lo, .float .f64 a.y.hi, .float .f64 a.z.lo, .float .f64 a.z.hi] ∧ CellsL w24 (w.heap.size + 1) 2 [.float .f64 b.y.lo, .float .f64 b.y.hi, .float .f64 b.z.lo, .float .f64 b.z.hi] := ⟨trivial, (kb K0 D25).cellsL 2 [.float .f64 a.y.lo, .float .f64 a.y.hi, .float .f64 a.z.lo, .float .f64 a.z.hi] rfl, (kb K1 D25).cellsL 2 [.float .f64 b.y.lo, .float .f64 b.y.hi, .float .f64 b.z.lo, .float .f64 b.z.hi] rfl⟩
 refine hK _ _ hS26 ?_
 clear hK K hS23
 refine tkq 16 (bm 18 131071) hS26 ?_
 refine wpAnyH_oneN (i := 17) (l' := bm 18 262143) rfl (by kernel_rfl) (by kernel_rfl) (by kernel_rfl) (fun K hK => ?_)
 have f30 := (kb K3 D25).cellsL 0 [.float .f64 0, .float .f64 0] rfl
 dsimp only [CellsL, al, vl, Nat.reduceAdd] at f30
 have u31 := (kb K3 D25).unfrozen
 obtain ⟨V28, hV29⟩ : ∃ V, setCells w24 (w.heap.size + 1 + 1 + 1) 0 [.float .f64 p2.lo, .float .f64 p2.hi] = V := ⟨_, rfl⟩
 have hv32 := hV29
 simp only [setCells, Nat.reduceAdd] at hv32
 have K33 := kf hV29 K0 D25 (by omega)
 have K34 := kf hV29 K1 D25 (by omega)
 have K35 := kf hV29 K2 D25 (by omega)
 have K36 := Lib.hid (show Blk V28 (w.heap.size + 1 + 1 + 1) 30 #[.float .f64 p2.lo, .float .f64 p2.hi, .float .f64 0, .float .f64 0, .float .f64 0, .float .f64 0] from (ks hV29 K3 D25).out)
 have HB37 := hbs hV29 HB D25 (by omega)
 have D38 := dr V28
 clear K0 K1 K2 K3 HB D25
 go_simp
 clear hV29 f30 u31 hv32
 have hS39 : True ∧ CellsL V28 (w.heap.size) 2 [.float .f64 a.y.lo, .float .f64 a.y.hi, .float .f64 a.z.lo, .float .f64 a.z.hi] ∧ CellsL V28 (w.heap.size + 1) 2 [.float .f64 b.y.lo, .float .f64 b.y.hi, .float .f64 b.z.lo, .float .f64 b.z.hi] := ⟨trivial, (kb K33 D38).cellsL 2 [.float .f64 a.y.lo, .float .f64 a.y.hi, .float .f64 a.z.lo, .float .f64 a.z.hi] rfl, (kb K34 D38).cellsL 2 [.float .f64 b.y.lo, .float .f64 b.y.hi, .float .f64 b.z.lo, .float .f64 b.z.hi] rfl⟩
 refine hK _ _ hS39 ?_
 clear hK K hS26
 refine wpAnyH_done (by kernel_rfl) ?_ _
 clear hS39
 go_wp2_with fail
 rw [rounds_succ]
 go_wp2_with fail
 refine wp_region_held (S := (fun w' => True ∧ CellsL w' (w.heap.size) 0 [.float .f64 a.x.lo, .float .f64 a.x.hi] ∧ CellsL w' (w.heap.size) 4 [.float .f64 a.z.lo, .float .f64 a.z.hi] ∧ CellsL w' (w.heap.size + 1) 0 [.float .f64 b.x.lo, .float .f64 b.x.hi] ∧ CellsL w' (w.heap.size + 1) 4 [.float .f64 b.z.lo, .float .f64 b.z.hi])) (by kernel_rfl) ?_
 change wpAnyH _ _ _ _ _ _ _ _ (World.drew _)
 obtain ⟨wd40, hwd⟩ : ∃ x, x = World.drew V28 := ⟨_, rfl⟩
 rw [← hwd]
 have D41 := Lib.hid (hwd ▸ Below.drew D38.out : Below V28.heap.size V28 wd40)
 clear D38 hwd
 have hS42 : True ∧ CellsL wd40 (w.heap.size) 0 [.float .f64 a.x.lo, .float .f64 a.x.hi] ∧ CellsL wd40 (w.heap.size) 4 [.float .f64 a.z.lo, .float .f64 a.z.hi] ∧ CellsL wd40 (w.heap.size + 1) 0 [.float .f64 b.x.lo, .float .f64 b.x.hi] ∧ CellsL wd40 (w.heap.size + 1) 4 [.float .f64 b.z.lo, .float .f64 b.z.hi] := ⟨trivial, (kb K33 D41).cellsL 0 [.float .f64 a.x.lo, .float .f64 a.x.hi] rfl, (kb K33 D41).cellsL 4 [.float .f64 a.z.lo, .float .f64 a.z.hi] rfl, (kb K34 D41).cellsL 0 [.float .f64 b.x.lo, .float .f64 b.x.hi] rfl, (kb K34 D41).cellsL 4 [.float .f64 b.z.lo, .float .f64 b.z.hi] rfl⟩
 refine tkq 0 (bm 18 1) hS42 ?_
 refine tkq 1 (bm 18 3) hS42 ?_
 refine tkq 2 (bm 18 7) hS42 ?_
 refine tke 3 (bm 18 15) hS42 ?_
 refine tkq 4 (bm 18 31) hS42 ?_
 refine tkq 5 (bm 18 63) hS42 ?_
 refine tke 6 (bm 18 127) hS42 ?_
 refine tkq 8 (bm 18 383) hS42 ?_
 refine tkq 9 (bm 18 895) hS42 ?_
 refine tke 10 (bm 18 1919) hS42 ?_
 refine tkq 11 (bm 18 3967) hS42 ?_
 refine tkq 12 (bm 18 8063) hS42 ?_
 refine tke 13 (bm 18 16255) hS42 ?_
 refine wpAnyH_oneN (i := 7) (l' := bm 18 16383) rfl (by kernel_rfl) (by kernel_rfl) (by kernel_rfl) (fun K hK => ?_)
 go_simp
 go_at_call 77
 refine (C3.out _).mono ?_
 rintro r w56 ⟨rfl, hb⟩
 dsimp only
 have D57 := ds D41 hb
 clear D41
 clear hb
 have hS58 : True ∧ CellsL w56 (w.heap.size) 0 [.float .f64 a.x.lo, .float .f64 a.x.hi] ∧ CellsL w56 (w.heap.size) 4 [.float .f64 a.z.lo, .float .f64 a.z.hi] ∧ CellsL w56 (w.heap.size + 1) 0 [.float .f64 b.x.lo, .float .f64 b.x.hi] ∧ CellsL w56 (w.heap.size + 1) 4 [.float .f64 b.z.lo, .float .f64 b.z.hi] := ⟨trivial, (kb K33 D57).cellsL 0 [.float .f64 a.x.lo, .float .f64 a.x.hi] rfl, (kb K33 D57).cellsL 4 [.float .f64 a.z.lo, .float .f64 a.z.hi] rfl, (kb K34 D57).cellsL 0 [.float .f64 b.x.lo, .float .f64 b.x.hi] rfl, (kb K34 D57).cellsL 4 [.float .f64 b.z.lo, .float .f64 b.z.hi] rfl⟩
 refine hK _ _ hS58 ?_
 clear hK K hS42
 refine wpAnyH_oneN (i := 14) (l' := bm 18 32767) rfl (by kernel_rfl) (by kernel_rfl) (by kernel_rfl) (fun K hK => ?_)
 go_simp
 go_at_call 77
 refine (C4.out _).mono ?_
 rintro r w59 ⟨rfl, hb⟩
 dsimp only
 have D60 := ds D57 hb
 clear D57
 clear hb
 have hS61 : True ∧ CellsL w59 (w.heap.size) 0 [.float .f64 a.x.lo, .float .f64 a.x.hi] ∧ CellsL w59 (w.heap.size) 4 [.float .f64 a.z.lo, .float .f64 a.z.hi] ∧ CellsL w59 (w.heap.size + 1) 0 [.float .f64 b.x.lo, .float .f64 b.x.hi] ∧ CellsL w59 (w.heap.size + 1) 4 [.float .f64 b.z.lo, .float .f64 b.z.hi] := ⟨trivial, (kb K33 D60).cellsL 0 [.float .f64 a.x.lo, .float .f64 a.x.hi] rfl, (kb K33 D60).cellsL 4 [.float .f64 a.z.lo, .float .f64 a.z.hi] rfl, (kb K34 D60).cellsL 0 [.float .f64 b.x.lo, .float .f64 b.x.hi] rfl, (kb K34 D60).cellsL 4 [.float .f64 b.z.lo, .float .f64 b.z.hi] rfl⟩
 refine hK _ _ hS61 ?_
 clear hK K hS58
 refine wpAnyH_oneN (i := 15) (l' := bm 18 65535) rfl (by kernel_rfl) (by kernel_rfl) (by kernel_rfl) (fun K hK => ?_)
 go_simp
 go_at_call 76
 refine (C5.out _).mono ?_
 rintro r w62 ⟨rfl, hb⟩
 dsimp only
 have D63 := ds D60 hb
 clear D60
 clear hb
 have hS64 : True ∧ CellsL w62 (w.heap.size) 0 [.float .f64 a.x.lo, .float .f64 a.x.hi] ∧ CellsL w62 (w.heap.size) 4 [.float .f64 a.z.lo, .float .f64 a.z.hi] ∧ CellsL w62 (w.heap.size + 1) 0 [.float .f64 b.x.lo, .float .f64 b.x.hi] ∧ CellsL w62 (w.heap.size + 1) 4 [.float .f64 b.z.lo, .float .f64 b.z.hi] := ⟨trivial, (kb K33 D63).cellsL 0 [.float .f64 a.x.lo, .float .f64 a.x.hi] rfl, (kb K33 D63).cellsL 4 [.float .f64 a.z.lo, .float .f64 a.z.hi] rfl, (kb K34 D63).cellsL 0 [.float .f64 b.x.lo, .float .f64 b.x.hi] rfl, (kb K34 D63).cellsL 4 [.float .f64 b.z.lo, .float .f64 b.z.hi] rfl⟩
 refine hK _ _ hS64 ?_
 clear hK K hS61
 refine tkq 16 (bm 18 131071) hS64 ?_
 refine wpAnyH_oneN (i := 17) (l' := bm 18 262143) rfl (by kernel_rfl) (by kernel_rfl) (by kernel_rfl) (fun K hK => ?_)
 have f68 := (kb K36 D63).cellsL 2 [.float .f64 0, .float .f64 0] rfl
 dsimp only [CellsL, al, vl, Nat.reduceAdd] at f68
 have u69 := (kb K36 D63).unfrozen
 obtain ⟨V66, hV67⟩ : ∃ V, setCells w62 (w.heap.size + 1 + 1 + 1) 2 [.float .f64 p5.lo, .float .f64 p5.hi] = V := ⟨_, rfl⟩
 have hv70 := hV67
 simp only [setCells, Nat.reduceAdd] at hv70
 have K71 := kf hV67 K33 D63 (by omega)
 have K72 := kf hV67 K34 D63 (by omega)
 have K73 := kf hV67 K35 D63 (by omega)
 have K74 := Lib.hid (show Blk V66 (w.heap.size + 1 + 1 + 1) 30 #[.float .f64 p2.lo, .float .f64 p2.hi, .float .f64 p5.lo, .float .f64 p5.hi, .float .f64 0, .float .f64 0] from (ks hV67 K36 D63).out)
 have HB75 := hbs hV67 HB37 D63 (by omega)
 have D76 := dr V66
 clear K33 K34 K35 K36 HB37 D63
 go_simp
 clear hV67 f68 u69 hv70
 have hS77 : True ∧ CellsL V66 (w.heap.size) 0 [.float .f64 a.x.lo, .float .f64 a.x.hi] ∧ CellsL V66 (w.heap.size) 4 [.float .f64 a.z.lo, .float .f64 a.z.hi] ∧ CellsL V66 (w.heap.size + 1) 0 [.float .f64 b.x.lo, .float .f64 b.x.hi] ∧ CellsL V66 (w.heap.size + 1) 4 [.float .f64 b.z.lo, .float .f64 b.z.hi] := ⟨trivial, (kb K71 D76).cellsL 0 [.float .f64 a.x.lo, .float .f64 a.x.hi] rfl, (kb K71 D76).cellsL 4 [.float .f64 a.z.lo, .float .f64 a.z.hi] rfl, (kb K72 D76).cellsL 0 [.float .f64 b.x.lo, .float .f64 b.x.hi] rfl, (kb K72 D76).cellsL 4 [.float .f64 b.z.lo, .float .f64 b.z.hi] rfl⟩
 refine hK _ _ hS77 ?_
 clear hK K hS64
 refine wpAnyH_done (by kernel_rfl) ?_ _
 clear hS77
 go_wp2_with fail
 rw [rounds_succ]
 go_wp2_with fail
 refine wp_region_held (S := (fun w' => True ∧ CellsL w' (w.heap.size) 0 [.float .f64 a.x.lo, .float .f64 a.x.hi, .float .f64 a.y.lo, .float .f64 a.y.hi] ∧ CellsL w' (w.heap.size + 1) 0 [.float .f64 b.x.lo, .float .f64 b.x.hi, .float .f64 b.y.lo, .float .f64 b.y.hi])) (by kernel_rfl) ?_
 change wpAnyH _ _ _ _ _ _ _ _ (World.drew _)
 obtain ⟨wd78, hwd⟩ : ∃ x, x = World.drew V66 := ⟨_, rfl⟩
 rw [← hwd]
 have D79 := Lib.hid (hwd ▸ Below.drew D76.out : Below V66.heap.size V66 wd78)
 clear D76 hwd
 have hS80 : True ∧ CellsL wd78 (w.heap.size) 0 [.float .f64 a.x.lo, .float .f64 a.x.hi, .float .f64 a.y.lo, .float .f64 a.y.hi] ∧ CellsL wd78 (w.heap.size + 1) 0 [.float .f64 b.x.lo, .float .f64 b.x.hi, .float .f64 b.y.lo, .float .f64 b.y.hi] := ⟨trivial, (kb K71 D79).cellsL 0 [.float .f64 a.x.lo, .float .f64 a.x.hi, .float .f64 a.y.lo, .float .f64 a.y.hi] rfl, (kb K72 D79).cellsL 0 [.float .f64 b.x.lo, .float .f64 b.x.hi, .float .f64 b.y.lo, .float .f64 b.y.hi] rfl⟩
 refine tkq 0 (bm 18 1) hS80 ?_
 refine tkq 1 (bm 18 3) hS80 ?_
 refine tkq 2 (bm 18 7) hS80 ?_
 refine tke 3 (bm 18 15) hS80 ?_
 refine tkq 4 (bm 18 31) hS80 ?_
 refine tkq 5 (bm 18 63) hS80 ?_
 refine tke 6 (bm 18 127) hS80 ?_
 refine tkq 8 (bm 18 383) hS80 ?_
 refine tkq 9 (bm 18 895) hS80 ?_
 refine tke 10 (bm 18 1919) hS80 ?_
 refine tkq 11 (bm 18 3967) hS80 ?_
 refine tkq 12 (bm 18 8063) hS80 ?_
 refine tke 13 (bm 18 16255) hS80 ?_
 refine wpAnyH_oneN (i := 7) (l' := bm 18 16383) rfl (by kernel_rfl) (by kernel_rfl) (by kernel_rfl) (fun K hK => ?_)
 go_simp
 go_at_call 77
 refine (C6.out _).mono ?_
 rintro r w94 ⟨rfl, hb⟩
 dsimp only
 have D95 := ds D79 hb
 clear D79
 clear hb
 have hS96 : True ∧ CellsL w94 (w.heap.size) 0 [.float .f64 a.x.lo, .float .f64 a.x.hi, .float .f64 a.y.lo, .float .f64 a.y.hi] ∧ CellsL w94 (w.heap.size + 1) 0 [.float .f64 b.x.lo, .float .f64 b.x.hi, .float .f64 b.y.lo, .float .f64 b.y.hi] := ⟨trivial, (kb K71 D95).cellsL 0 [.float .f64 a.x.lo, .float .f64 a.x.hi, .float .f64 a.y.lo, .float .f64 a.y.hi] rfl, (kb K72 D95).cellsL 0 [.float .f64 b.x.lo, .float .f64 b.x.hi, .float .f64 b.y.lo, .float .f64 b.y.hi] rfl⟩
 refine hK _ _ hS96 ?_
 clear hK K hS80
 refine wpAnyH_oneN (i := 14) (l' := bm 18 32767) rfl (by kernel_rfl) (by kernel_rfl) (by kernel_rfl) (fun K hK => ?_)
 go_simp
 go_at_call 77
 refine (C7.out _).mono ?_
 rintro r w97 ⟨rfl, hb⟩
 dsimp only
 have D98 := ds D95 hb
 clear D95
 clear hb
 have hS99 : True ∧ CellsL w97 (w.heap.size) 0 [.float .f64 a.x.lo, .float .f64 a.x.hi, .float .f64 a.y.lo, .float .f64 a.y.hi] ∧ CellsL w97 (w.heap.size + 1) 0 [.float .f64 b.x.lo, .float .f64 b.x.hi, .float .f64 b.y.lo, .float .f64 b.y.hi] := ⟨trivial, (kb K71 D98).cellsL 0 [.float .f64 a.x.lo, .float .f64 a.x.hi, .float .f64 a.y.lo, .float .f64 a.y.hi] rfl, (kb K72 D98).cellsL 0 [.float .f64 b.x.lo, .float .f64 b.x.hi, .float .f64 b.y.lo, .float .f64 b.y.hi] rfl⟩
 refine hK _ _ hS99 ?_
 clear hK K hS96
 refine wpAnyH_oneN (i := 15) (l' := bm 18 65535) rfl (by kernel_rfl) (by kernel_rfl) (by kernel_rfl) (fun K hK => ?_)
 go_simp
 go_at_call 76
 refine (C8.out _).mono ?_
 rintro r w100 ⟨rfl, hb⟩
 dsimp only
 have D101 := ds D98 hb
 clear D98
 clear hb
 have hS102 : True ∧ CellsL w100 (w.heap.size) 0 [.float .f64 a.x.lo, .float .f64 a.x.hi, .float .f64 a.y.lo, .float .f64 a.y.hi] ∧ CellsL w100 (w.heap.size + 1) 0 [.float .f64 b.x.lo, .float .f64 b.x.hi, .float .f64 b.y.lo, .float .f64 b.y.hi] := ⟨trivial, (kb K71 D101).cellsL 0 [.float .f64 a.x.lo, .float .f64 a.x.hi, .float .f64 a.y.lo, .float .f64 a.y.hi] rfl, (kb K72 D101).cellsL 0 [.float .f64 b.x.lo, .float .f64 b.x.hi, .float .f64 b.y.lo, .float .f64 b.y.hi] rfl⟩
 refine hK _ _ hS102 ?_
 clear hK K hS99
 refine tkq 16 (bm 18 131071) hS102 ?_
 refine wpAnyH_oneN (i := 17) (l' := bm 18 262143) rfl (by kernel_rfl) (by kernel_rfl) (by kernel_rfl) (fun K hK => ?_)
 have f106 := (kb K74 D101).cellsL 4 [.float .f64 0, .float .f64 0] rfl
 dsimp only [CellsL, al, vl, Nat.reduceAdd] at f106
 have u107 := (kb K74 D101).unfrozen
 obtain ⟨V104, hV105⟩ : ∃ V, setCells w100 (w.heap.size + 1 + 1 + 1) 4 [.float .f64 p8.lo, .float .f64 p8.hi] = V := ⟨_, rfl⟩
 have hv108 := hV105
 simp only [setCells, Nat.reduceAdd] at hv108
 have K109 := kf hV105 K71 D101 (by omega)
 have K110 := kf hV105 K72 D101 (by omega)
 have K111 := kf hV105 K73 D101 (by omega)
 have K112 := Lib.hid (show Blk V104 (w.heap.size + 1 + 1 + 1) 30 #[.float .f64 p2.lo, .float .f64 p2.hi, .float .f64 p5.lo, .float .f64 p5.hi, .float .f64 p8.lo, .float .f64 p8.hi] from (ks hV105 K74 D101).out)
 have HB113 := hbs hV105 HB75 D101 (by omega)
 have D114 := dr V104
 clear K71 K72 K73 K74 HB75 D101
 go_simp
 clear hV105 f106 u107 hv108
 have hS115 : True ∧ CellsL V104 (w.heap.size) 0 [.float .f64 a.x.lo, .float .f64 a.x.hi, .float .f64 a.y.lo, .float .f64 a.y.hi] ∧ CellsL V104 (w.heap.size + 1) 0 [.float .f64 b.x.lo, .float .f64 b.x.hi, .float .f64 b.y.lo, .float .f64 b.y.hi] := ⟨trivial, (kb K109 D114).cellsL 0 [.float .f64 a.x.lo, .float .f64 a.x.hi, .float .f64 a.y.lo, .float .f64 a.y.hi] rfl, (kb K110 D114).cellsL 0 [.float .f64 b.x.lo, .float .f64 b.x.hi, .float .f64 b.y.lo, .float .f64 b.y.hi] rfl⟩
 refine hK _ _ hS115 ?_
 clear hK K hS102
 refine wpAnyH_done (by kernel_rfl) ?_ _
 clear hS115
 go_wp2_with fail
 rw [rounds_succ]
 have f116 := (kb K112 D114)
 have f119 := (kb K111 D114)
 obtain ⟨V117, hV118⟩ : ∃ V, World.setRow V104 (w.heap.size + 1 + 1) #[.float .f64 p2.lo, .float .f64 p2.hi, .float .f64 p5.lo, .float .f64 p5.hi, .float .f64 p8.lo, .float .f64 p8.hi] = V := ⟨_, rfl⟩
 have K120 := kfr hV118 K109 D114 (by omega)
 have K121 := kfr hV118 K110 D114 (by omega)
 have K122 := ksr hV118 K111 D114
 have K123 := kfr hV118 K112 D114 (by omega)
 have HB124 := hbr hV118 HB113 D114 (by omega)
 have D125 := dr V117
 clear K109 K110 K111 K112 HB113 D114
 go_wp2_with (first | (refine wpList_store_row rfl 30 _ _ rfl (w.heap.size + 1 + 1) #[.float .f64 p2.lo, .float .f64 p2.hi, .float .f64 p5.lo, .float .f64 p5.hi, .float .f64 p8.lo, .float .f64 p8.hi] rfl rfl _ _ f119 (by rw [info_V3]; rfl) rfl (by kernel_rfl) ?_; rw [hV118]) | (refine wl_load (by kernel_rfl) rfl rfl f116 (by rw [info_V3]; rfl) Try.underlying30 rfl ?_))
 clear f116 hV118 f119
 (try simp only [Exit.inBlock, Exit.then])
 exact bodyPost_ret (res_c rfl _ _ (w.heap.size + 1 + 1) #[.float .f64 p2.lo, .float .f64 p2.hi, .float .f64 p5.lo, .float .f64 p5.hi, .float .f64 p8.lo, .float .f64 p8.hi] rfl (kb K122 D125) (by rw [info_V3]; rfl) Try.underlying30 rfl) rfl ⟨rfl, below_step HB124.out D125.out⟩
end Go.Proofs.Ytnljfcebmgifdaa
set_option linter.unusedVariables false
set_option linter.unusedSimpArgs false
namespace Go.Proofs.Ytnljfcebmgifdaa
open Go.RowKit Fl
abbrev aval (m : Af) : Value := .agg #[Value.float FloatKind.f64 m.a.x.lo, Value.float FloatKind.f64 m.a.x.hi, Value.float FloatKind.f64 m.a.y.lo, Value.float FloatKind.f64 m.a.y.hi, Value.float FloatKind.f64 m.a.z.lo, Value.float FloatKind.f64 m.a.z.hi, Value.float FloatKind.f64 m.b.x.lo, Value.float FloatKind.f64 m.b.x.hi, Value.float FloatKind.f64 m.b.y.lo, Value.float FloatKind.f64 m.b.y.hi, Value.float FloatKind.f64 m.b.z.lo, Value.float FloatKind.f64 m.b.z.hi, Value.float FloatKind.f64 m.c.x.lo, Value.float FloatKind.f64 m.c.x.hi, Value.float FloatKind.f64 m.c.y.lo, Value.float FloatKind.f64 m.c.y.hi, Value.float FloatKind.f64 m.c.z.lo, Value.float FloatKind.f64 m.c.z.hi, Value.float FloatKind.f64 m.t.x.lo, Value.float FloatKind.f64 m.t.x.hi, Value.float FloatKind.f64 m.t.y.lo, Value.float FloatKind.f64 m.t.y.hi, Value.float FloatKind.f64 m.t.z.lo, Value.float FloatKind.f64 m.t.z.hi]
theorem vecA_any (m : Af) (v : V3) (w : World) : Calls Try.prog 18 #[Value.agg #[.float .f64 m.a.x.lo, .float .f64 m.a.x.hi, .float .f64 m.a.y.lo, .float .f64 m.a.y.hi, .float .f64 m.a.z.lo, .float .f64 m.a.z.hi, .float .f64 m.b.x.lo, .float .f64 m.b.x.hi, .float .f64 m.b.y.lo, .float .f64 m.b.y.hi, .float .f64 m.b.z.lo, .float .f64 m.b.z.hi, .float .f64 m.c.x.lo, .float .f64 m.c.x.hi, .float .f64 m.c.y.lo, .float .f64 m.c.y.hi, .float .f64 m.c.z.lo, .float .f64 m.c.z.hi, .float .f64 m.t.x.lo, .float .f64 m.t.x.hi, .float .f64 m.t.y.lo, .float .f64 m.t.y.hi, .float .f64 m.t.z.lo, .float .f64 m.t.z.hi], Value.agg #[.float .f64 v.x.lo, .float .f64 v.x.hi, .float .f64 v.y.lo, .float .f64 v.y.hi, .float .f64 v.z.lo, .float .f64 v.z.hi]] w fun r w' => r = .returned (vval (afVec m v)) ∧ Below w.heap.size w w' := by
 have C0 := Lib.hid (fun w => dotV_any m.a v w)
 obtain ⟨p0, hp0⟩ : ∃ z_, vDot m.a v = z_ := ⟨_, rfl⟩
 rw [hp0] at C0
 have C1 := Lib.hid (fun w => dotV_any m.b v w)
 obtain ⟨p1, hp1⟩ : ∃ z_, vDot m.b v = z_ := ⟨_, rfl⟩
 rw [hp1] at C1
 have C2 := Lib.hid (fun w => dotV_any m.c v w)
 obtain ⟨p2, hp2⟩ : ∃ z_, vDot m.c v = z_ := ⟨_, rfl⟩
 rw [hp2] at C2
 have hT : afVec m v = (⟨p0, p1, p2⟩ : V3) := by
   subst hp0 hp1 hp2; rfl
 rw [hT]
 clear hT
 clear hp0 hp1 hp2
 go_enter Try.func18, Try.ntmps18
 go_wp2_with fail
 obtain ⟨W, hW, K0, K1, K2, hB, hz⟩ := bx3 w 33 30 30 (ac m) (vc v) #[.float .f64 0, .float .f64 0, .float .f64 0, .float .f64 0, .float .f64 0, .float .f64 0]
 rw [← hW]
 have K0 := Lib.hid K0
 have K1 := Lib.hid K1
 have K2 := Lib.hid K2
 have HB := Lib.hid hB
 clear hW hB hz
 have D1 := dr W
 refine wp_region_held (S := (fun w' => True ∧ Blk w' (w.heap.size + 1) 30 (vc v) ∧ CellsL w' (w.heap.size) 0 [.float .f64 m.a.x.lo, .float .f64 m.a.x.hi, .float .f64 m.a.y.lo, .float .f64 m.a.y.hi, .float .f64 m.a.z.lo, .float .f64 m.a.z.hi, .float .f64 m.b.x.lo, .float .f64 m.b.x.hi, .float .f64 m.b.y.lo, .float .f64 m.b.y.hi, .float .f64 m.b.z.lo, .float .f64 m.b.z.hi, .float .f64 m.c.x.lo, .float .f64 m.c.x.hi, .float .f64 m.c.y.lo, .float .f64 m.c.y.hi, .float .f64 m.c.z.lo, .float .f64 m.c.z.hi])) (by kernel_rfl) ?_
 change wpAnyH _ _ _ _ _ _ _ _ (World.drew _)
 obtain ⟨wd2, hwd⟩ : ∃ x, x = World.drew W := ⟨_, rfl⟩
 rw [← hwd]
 have D3 := Lib.hid (hwd ▸ Below.drew D1.out : Below W.heap.size W wd2)
 clear D1 hwd
 have hS4 : True ∧ Blk wd2 (w.heap.size + 1) 30 (vc v) ∧ CellsL wd2 (w.heap.size) 0 [.float .f64 m.a.x.lo, .float .f64 m.a.x.hi, .float .f64 m.a.y.lo, .float .f64 m.a.y.hi, .float .f64 m.a.z.lo, .float .f64 m.a.z.hi, .float .f64 m.b.x.lo, .float .f64 m.b.x.hi, .float .f64 m.b.y.lo, .float .f64 m.b.y.hi, .float .f64 m.b.z.lo, .float .f64 m.b.z.hi, .float .f64 m.c.x.lo, .float .f64 m.c.x.hi, .float .f64 m.c.y.lo, .float .f64 m.c.y.hi, .float .f64 m.c.z.lo, .float .f64 m.c.z.hi] := ⟨trivial, (kb K1 D3), (kb K0 D3).cellsL 0 [.float .f64 m.a.x.lo, .float .f64 m.a.x.hi, .float .f64 m.a.y.lo, .float .f64 m.a.y.hi, .float .f64 m.a.z.lo, .float .f64 m.a.z.hi, .float .f64 m.b.x.lo, .float .f64 m.b.x.hi, .float .f64 m.b.y.lo, .float .f64 m.b.y.hi, .float .f64 m.b.z.lo, .float .f64 m.b.z.hi, .float .f64 m.c.x.lo, .float .f64 m.c.x.hi, .float .f64 m.c.y.lo, .float .f64 m.c.y.hi, .float .f64 m.c.z.lo, .float .f64 m.c.z.hi] rfl⟩
 refine tkq 0 (bm 17 1) hS4 ?_
 refine tkq 1 (bm 17 3) hS4 ?_
 refine tke 2 (bm 17 7) hS4 ?_
 refine tkL 3 (bm 17 15) ?aq8 rfl (by kernel_rfl) (fun _ _ _ h => h) (by kernel_rfl) rfl rfl (fun _ hS => hS.2.1) (by rw [info_V3]; rfl) Try.underlying30 rfl ?pq8 hS4 ?rq8
 case pq8 => (go_simp; try with_reducible rfl)
 refine tkq 5 (bm 17 47) hS4 ?_
 refine tkq 6 (bm 17 111) hS4 ?_
 refine tke 7 (bm 17 239) hS4 ?_
 refine tkL 8 (bm 17 495) ?aq12 rfl (by kernel_rfl) (fun _ _ _ h => h) (by kernel_rfl) rfl rfl (fun _ hS => hS.2.1) (by rw [info_V3]; rfl) Try.underlying30 rfl ?pq12 hS4 ?rq12
 case pq12 => (go_simp; try with_reducible rfl)
 refine tkq 10 (bm 17 1519) hS4 ?_
 refine tkq 11 (bm 17 3567) hS4 ?_
 refine tke 12 (bm 17 7663) hS4 ?_
 refine tkL 13 (bm 17 15855) ?aq16 rfl (by kernel_rfl) (fun _ _ _ h => h) (by kernel_rfl) rfl rfl (fun _ hS => hS.2.1) (by rw [info_V3]; rfl) Try.underlying30 rfl ?pq16 hS4 ?rq16
 case pq16 => (go_simp; try with_reducible rfl)
 refine wpAnyH_oneN (i := 4) (l' := bm 17 15871) rfl (by kernel_rfl) (by kernel_rfl) (by kernel_rfl) (fun K hK => ?_)
 go_simp
 go_at_call 29
 refine (C0.out _).mono ?_
 rintro r w17 ⟨rfl, hb⟩
 dsimp only
 have D18 := ds D3 hb
 clear D3
 clear hb
 have hS19 : True ∧ Blk w17 (w.heap.size + 1) 30 (vc v) ∧ CellsL w17 (w.heap.size) 0 [.float .f64 m.a.x.lo, .float .f64 m.a.x.hi, .float .f64 m.a.y.lo, .float .f64 m.a.y.hi, .float .f64 m.a.z.lo, .float .f64 m.a.z.hi, .float .f64 m.b.x.lo, .float .f64 m.b.x.hi, .float .f64 m.b.y.lo, .float .f64 m.b.y.hi, .float .f64 m.b.z.lo, .float .f64 m.b.z.hi, .float .f64 m.c.x.lo, .float .f64 m.c.x.hi, .float .f64 m.c.y.lo, .float .f64 m.c.y.hi, .float .f64 m.c.z.lo, .float .f64 m.c.z.hi] := ⟨trivial, (kb K1 D18), (kb K0 D18).cellsL 0 [.float .f64 m.a.x.lo, .float .f64 m.a.x.hi, .float .f64 m.a.y.lo, .float .f64 m.a.y.hi, .float .f64 m.a.z.lo, .float .f64 m.a.z.hi, .float .f64 m.b.x.lo, .float .f64 m.b.x.hi, .float .f64 m.b.y.lo, .float .f64 m.b.y.hi, .float .f64 m.b.z.lo, .float .f64 m.b.z.hi, .float .f64 m.c.x.lo, .float .f64 m.c.x.hi, .float .f64 m.c.y.lo, .float .f64 m.c.y.hi, .float .f64 m.c.z.lo, .float .f64 m.c.z.hi] rfl⟩
 refine hK _ _ hS19 ?_
 clear hK K hS4
 refine wpAnyH_oneN (i := 9) (l' := bm 17 16383) rfl (by kernel_rfl) (by kernel_rfl) (by kernel_rfl) (fun K hK => ?_)
 go_simp
 go_at_call 29
 refine (C1.out _).mono ?_
 rintro r w20 ⟨rfl, hb⟩
 dsimp only
 have D21 := ds D18 hb
 clear D18
 clear hb
 have hS22 : True ∧ Blk w20 (w.heap.size + 1) 30 (vc v) ∧ CellsL w20 (w.heap.size) 0 [.float .f64 m.a.x.lo, .float .f64 m.a.x.hi, .float .f64 m.a.y.lo, .float .f64 m.a.y.hi, .float .f64 m.a.z.lo, .float .f64 m.a.z.hi, .float .f64 m.b.x.lo, .float .f64 m.b.x.hi, .float .f64 m.b.y.lo, .float .f64 m.b.y.hi, .float .f64 m.b.z.lo, .float .f64 m.b.z.hi, .float .f64 m.c.x.lo, .float .f64 m.c.x.hi, .float .f64 m.c.y.lo, .float .f64 m.c.y.hi, .float .f64 m.c.z.lo, .float .f64 m.c.z.hi] := ⟨trivial, (kb K1 D21), (kb K0 D21).cellsL 0 [.float .f64 m.a.x.lo, .float .f64 m.a.x.hi, .float .f64 m.a.y.lo, .float .f64 m.a.y.hi, .float .f64 m.a.z.lo, .float .f64 m.a.z.hi, .float .f64 m.b.x.lo, .float .f64 m.b.x.hi, .float .f64 m.b.y.lo, .float .f64 m.b.y.hi, .float .f64 m.b.z.lo, .float .f64 m.b.z.hi, .float .f64 m.c.x.lo, .float .f64 m.c.x.hi, .float .f64 m.c.y.lo, .float .f64 m.c.y.hi, .float .f64 m.c.z.lo, .float .f64 m.c.z.hi] rfl⟩
 refine hK _ _ hS22 ?_
 clear hK K hS19
 refine wpAnyH_oneN (i := 14) (l' := bm 17 32767) rfl (by kernel_rfl) (by kernel_rfl) (by kernel_rfl) (fun K hK => ?_)
 go_simp
 go_at_call 29
 refine (C2.out _).mono ?_
 rintro r w23 ⟨rfl, hb⟩
 dsimp only
 have D24 := ds D21 hb
 clear D21
 clear hb
 have hS25 : True ∧ Blk w23 (w.heap.size + 1) 30 (vc v) ∧ CellsL w23 (w.heap.size) 0 [.float .f64 m.a.x.lo, .float .f64 m.a.x.hi, .float .f64 m.a.y.lo, .float .f64 m.a.y.hi, .float .f64 m.a.z.lo, .float .f64 m.a.z.hi, .float .f64 m.b.x.lo, .float .f64 m.b.x.hi, .float .f64 m.b.y.lo, .float .f64 m.b.y.hi, .float .f64 m.b.z.lo, .float .f64 m.b.z.hi, .float .f64 m.c.x.lo, .float .f64 m.c.x.hi, .float .f64 m.c.y.lo, .float .f64 m.c.y.hi, .float .f64 m.c.z.lo, .float .f64 m.c.z.hi] := ⟨trivial, (kb K1 D24), (kb K0 D24).cellsL 0 [.float .f64 m.a.x.lo, .float .f64 m.a.x.hi, .float .f64 m.a.y.lo, .float .f64 m.a.y.hi, .float .f64 m.a.z.lo, .float .f64 m.a.z.hi, .float .f64 m.b.x.lo, .float .f64 m.b.x.hi, .float .f64 m.b.y.lo, .float .f64 m.b.y.hi, .float .f64 m.b.z.lo, .float .f64 m.b.z.hi, .float .f64 m.c.x.lo, .float .f64 m.c.x.hi, .float .f64 m.c.y.lo, .float .f64 m.c.y.hi, .float .f64 m.c.z.lo, .float .f64 m.c.z.hi] rfl⟩
 refine hK _ _ hS25 ?_
 clear hK K hS22
 refine tkq 15 (bm 17 65535) hS25 ?_
 refine wpAnyH_oneN (i := 16) (l' := bm 17 131071) rfl (by kernel_rfl) (by kernel_rfl) (by kernel_rfl) (fun K hK => ?_)
 have f29 := (kb K2 D24)
 obtain ⟨V27, hV28⟩ : ∃ V, World.setRow w23 (w.heap.size + 1 + 1) #[.float .f64 p0.lo, .float .f64 p0.hi, .float .f64 p1.lo, .float .f64 p1.hi, .float .f64 p2.lo, .float .f64 p2.hi] = V := ⟨_, rfl⟩
 have K30 := kfr hV28 K0 D24 (by omega)
 have K31 := kfr hV28 K1 D24 (by omega)
 have K32 := ksr hV28 K2 D24
 have HB33 := hbr hV28 HB D24 (by omega)
 have D34 := dr V27
 clear K0 K1 K2 HB D24
 refine wp_store_row 30 _ _ rfl (w.heap.size + 1 + 1) #[.float .f64 p0.lo, .float .f64 p0.hi, .float .f64 p1.lo, .float .f64 p1.hi, .float .f64 p2.lo, .float .f64 p2.hi] rfl rfl _ _ f29 (by rw [info_V3]; rfl) rfl (by kernel_rfl) ?_
 rw [hV28]
 go_simp
 clear hV28 f29
 have hS35 : True ∧ Blk V27 (w.heap.size + 1) 30 (vc v) ∧ CellsL V27 (w.heap.size) 0 [.float .f64 m.a.x.lo, .float .f64 m.a.x.hi, .float .f64 m.a.y.lo, .float .f64 m.a.y.hi, .float .f64 m.a.z.lo, .float .f64 m.a.z.hi, .float .f64 m.b.x.lo, .float .f64 m.b.x.hi, .float .f64 m.b.y.lo, .float .f64 m.b.y.hi, .float .f64 m.b.z.lo, .float .f64 m.b.z.hi, .float .f64 m.c.x.lo, .float .f64 m.c.x.hi, .float .f64 m.c.y.lo, .float .f64 m.c.y.hi, .float .f64 m.c.z.lo, .float .f64 m.c.z.hi] := ⟨trivial, (kb K31 D34), (kb K30 D34).cellsL 0 [.float .f64 m.a.x.lo, .float .f64 m.a.x.hi, .float .f64 m.a.y.lo, .float .f64 m.a.y.hi, .float .f64 m.a.z.lo, .float .f64 m.a.z.hi, .float .f64 m.b.x.lo, .float .f64 m.b.x.hi, .float .f64 m.b.y.lo, .float .f64 m.b.y.hi, .float .f64 m.b.z.lo, .float .f64 m.b.z.hi, .float .f64 m.c.x.lo, .float .f64 m.c.x.hi, .float .f64 m.c.y.lo, .float .f64 m.c.y.hi, .float .f64 m.c.z.lo, .float .f64 m.c.z.hi] rfl⟩
 refine hK _ _ hS35 ?_
 clear hK K hS25
 refine wpAnyH_done (by kernel_rfl) ?_ _
 clear hS35
 go_wp2_with fail
 (try simp only [Exit.inBlock, Exit.then])
 exact bodyPost_ret (res_c rfl _ _ (w.heap.size + 1 + 1) #[.float .f64 p0.lo, .float .f64 p0.hi, .float .f64 p1.lo, .float .f64 p1.hi, .float .f64 p2.lo, .float .f64 p2.hi] rfl (kb K32 D34) (by rw [info_V3]; rfl) Try.underlying30 rfl) rfl ⟨rfl, below_step HB33.out D34.out⟩
theorem ptA_any (m : Af) (v : V3) (w : World) : Calls Try.prog 59 #[Value.agg #[.float .f64 m.a.x.lo, .float .f64 m.a.x.hi, .float .f64 m.a.y.lo, .float .f64 m.a.y.hi, .float .f64 m.a.z.lo, .float .f64 m.a.z.hi, .float .f64 m.b.x.lo, .float .f64 m.b.x.hi, .float .f64 m.b.y.lo, .float .f64 m.b.y.hi, .float .f64 m.b.z.lo, .float .f64 m.b.z.hi, .float .f64 m.c.x.lo, .float .f64 m.c.x.hi, .float .f64 m.c.y.lo, .float .f64 m.c.y.hi, .float .f64 m.c.z.lo, .float .f64 m.c.z.hi, .float .f64 m.t.x.lo, .float .f64 m.t.x.hi, .float .f64 m.t.y.lo, .float .f64 m.t.y.hi, .float .f64 m.t.z.lo, .float .f64 m.t.z.hi], Value.agg #[.float .f64 v.x.lo, .float .f64 v.x.hi, .float .f64 v.y.lo, .float .f64 v.y.hi, .float .f64 v.z.lo, .float .f64 v.z.hi]] w fun r w' => r = .returned (vval (afPt m v)) ∧ Below w.heap.size w w' := by
 have C0 := Lib.hid (fun w => vecA_any m v w)
 obtain ⟨p0, hp0⟩ : ∃ z_, afVec m v = z_ := ⟨_, rfl⟩
 rw [hp0] at C0
 have C1 := Lib.hid (fun w => vAdd_any p0 m.t w)
 obtain ⟨p1, hp1⟩ : ∃ z_, vAdd p0 m.t = z_ := ⟨_, rfl⟩
 rw [hp1] at C1
 have hT : afPt m v = p1 := by
   subst hp0 hp1; rfl
 rw [hT]
 clear hT
 clear hp0 hp1
 go_enter Try.func59, Try.ntmps59
 go_wp2_with fail
 obtain ⟨W, hW, K0, K1, K2, hB, hz⟩ := bx3 w 33 30 30 (ac m) (vc v) #[.float .f64 0, .float .f64 0, .float .f64 0, .float .f64 0, .float .f64 0, .float .f64 0]
 rw [← hW]
 have K0 := Lib.hid K0
 have K1 := Lib.hid K1
 have K2 := Lib.hid K2
 have HB := Lib.hid hB
 clear hW hB hz
 have D1 := dr W
 refine wp_region_held (S := (fun w' => True ∧ Blk w' (w.heap.size) 33 (ac m) ∧ Blk w' (w.heap.size + 1) 30 (vc v) ∧ CellsL w' (w.heap.size) 18 (vl m.t))) (by kernel_rfl) ?_
 change wpAnyH _ _ _ _ _ _ _ _ (World.drew _)
 obtain ⟨wd2, hwd⟩ : ∃ x, x = World.drew W := ⟨_, rfl⟩
 rw [← hwd]
 have D3 := Lib.hid (hwd ▸ Below.drew D1.out : Below W.heap.size W wd2)
 clear D1 hwd
 have hS4 : True ∧ Blk wd2 (w.heap.size) 33 (ac m) ∧ Blk wd2 (w.heap.size + 1) 30 (vc v) ∧ CellsL wd2 (w.heap.size) 18 (vl m.t) := ⟨trivial, (kb K0 D3), (kb K1 D3), (kb K0 D3).cellsL 18 (vl m.t) rfl⟩
 refine tkL 0 (bm 7 1) ?aq5 rfl (by kernel_rfl) (fun _ _ _ h => h) (by kernel_rfl) rfl rfl (fun _ hS => hS.2.1) (by rw [info_Affine]; rfl) Try.underlying33 rfl ?pq5 hS4 ?rq5
 case pq5 => (go_simp; try with_reducible rfl)
 refine tkL 1 (bm 7 3) ?aq6 rfl (by kernel_rfl) (fun _ _ _ h => h) (by kernel_rfl) rfl rfl (fun _ hS => hS.2.2.1) (by rw [info_V3]; rfl) Try.underlying30 rfl ?pq6 hS4 ?rq6
 case pq6 => (go_simp; try with_reducible rfl)
 refine tkq 3 (bm 7 11) hS4 ?_
 refine tke 4 (bm 7 27) hS4 ?_
 refine wpAnyH_oneN (i := 2) (l' := bm 7 31) rfl (by kernel_rfl) (by kernel_rfl) (by kernel_rfl) (fun K hK => ?_)
 go_simp
 go_at_call 18
 refine (C0.out _).mono ?_
 rintro r w9 ⟨rfl, hb⟩
 dsimp only
 have D10 := ds D3 hb
 clear D3
 clear hb
 have hS11 : True ∧ Blk w9 (w.heap.size) 33 (ac m) ∧ Blk w9 (w.heap.size + 1) 30 (vc v) ∧ CellsL w9 (w.heap.size) 18 (vl m.t) := ⟨trivial, (kb K0 D10), (kb K1 D10), (kb K0 D10).cellsL 18 (vl m.t) rfl⟩
 refine hK _ _ hS11 ?_
 clear hK K hS4
 refine wpAnyH_oneN (i := 5) (l' := bm 7 63) rfl (by kernel_rfl) (by kernel_rfl) (by kernel_rfl) (fun K hK => ?_)
 go_simp
 go_at_call 37
 refine (C1.out _).mono ?_
 rintro r w12 ⟨rfl, hb⟩
 dsimp only
 have D13 := ds D10 hb
 clear D10
 clear hb
 have hS14 : True ∧ Blk w12 (w.heap.size) 33 (ac m) ∧ Blk w12 (w.heap.size + 1) 30 (vc v) ∧ CellsL w12 (w.heap.size) 18 (vl m.t) := ⟨trivial, (kb K0 D13), (kb K1 D13), (kb K0 D13).cellsL 18 (vl m.t) rfl⟩
 refine hK _ _ hS14 ?_
 clear hK K hS11
 refine wpAnyH_oneN (i := 6) (l' := bm 7 127) rfl (by kernel_rfl) (by kernel_rfl) (by kernel_rfl) (fun K hK => ?_)
 have f17 := (kb K2 D13)
 obtain ⟨V15, hV16⟩ : ∃ V, World.setRow w12 (w.heap.size + 1 + 1) (vc p1) = V := ⟨_, rfl⟩
 have K18 := kfr hV16 K0 D13 (by omega)
 have K19 := kfr hV16 K1 D13 (by omega)
 have K20 := ksr hV16 K2 D13
 have HB21 := hbr hV16 HB D13 (by omega)
 have D22 := dr V15
 clear K0 K1 K2 HB D13
 refine wp_store_row 30 _ _ rfl (w.heap.size + 1 + 1) (vc p1) rfl rfl _ _ f17 (by rw [info_V3]; rfl) rfl (by kernel_rfl) ?_
 rw [hV16]
 go_simp
 clear hV16 f17
 have hS23 : True ∧ Blk V15 (w.heap.size) 33 (ac m) ∧ Blk V15 (w.heap.size + 1) 30 (vc v) ∧ CellsL V15 (w.heap.size) 18 (vl m.t) := ⟨trivial, (kb K18 D22), (kb K19 D22), (kb K18 D22).cellsL 18 (vl m.t) rfl⟩
 refine hK _ _ hS23 ?_
 clear hK K hS14
 refine wpAnyH_done (by kernel_rfl) ?_ _
 clear hS23
 go_wp2_with fail
 (try simp only [Exit.inBlock, Exit.then])
 exact bodyPost_ret (res_c rfl _ _ (w.heap.size + 1 + 1) (vc p1) rfl (kb K20 D22) (by rw [info_V3]; rfl) Try.underlying30 rfl) rfl ⟨rfl, below_step HB21.out D22.out⟩
theorem detA_any (m : Af) (w : World) : Calls Try.prog 15 #[Value.agg #[.float .f64 m.a.x.lo, .float .f64 m.a.x.hi, .float .f64 m.a.y.lo, .float .f64 m.a.y.hi, .float .f64 m.a.z.lo, .float .f64 m.a.z.hi, .float .f64 m.b.x.lo, .float .f64 m.b.x.hi, .float .f64 m.b.y.lo, .float .f64 m.b.y.hi, .float .f64 m.b.z.lo, .float .f64 m.b.z.hi, .float .f64 m.c.x.lo, .float .f64 m.c.x.hi, .float .f64 m.c.y.lo, .float .f64 m.c.y.hi, .float .f64 m.c.z.lo, .float .f64 m.c.z.hi, .float .f64 m.t.x.lo, .float .f64 m.t.x.hi, .float .f64 m.t.y.lo, .float .f64 m.t.y.hi, .float .f64 m.t.z.lo, .float .f64 m.t.z.hi]] w fun r w' => r = .returned (.agg #[.float .f64 (afDet m).lo, .float .f64 (afDet m).hi]) ∧ Below w.heap.size w w' := by
 have C0 := Lib.hid (fun w => crossV_any m.b m.c w)
 obtain ⟨p0, hp0⟩ : ∃ z_, vCross m.b m.c = z_ := ⟨_, rfl⟩
 rw [hp0] at C0
 have C1 := Lib.hid (fun w => dotV_any m.a p0 w)
 obtain ⟨p1, hp1⟩ : ∃ z_, vDot m.a p0 = z_ := ⟨_, rfl⟩
 rw [hp1] at C1
 have hT : afDet m = p1 := by
   subst hp0 hp1; rfl
 rw [hT]
 clear hT
 clear hp0 hp1
 go_enter Try.func15, Try.ntmps15
 go_wp2_with fail
 obtain ⟨W, hW, K0, K1, hB, hz⟩ := bx2 w 33 28 (ac m) #[.float .f64 0, .float .f64 0]
 rw [← hW]
 have K0 := Lib.hid K0
 have K1 := Lib.hid K1
 have HB := Lib.hid hB
 clear hW hB hz
 have D1 := dr W
 refine wp_region_held (S := (fun w' => True ∧ CellsL w' (w.heap.size) 0 [.float .f64 m.a.x.lo, .float .f64 m.a.x.hi, .float .f64 m.a.y.lo, .float .f64 m.a.y.hi, .float .f64 m.a.z.lo, .float .f64 m.a.z.hi, .float .f64 m.b.x.lo, .float .f64 m.b.x.hi, .float .f64 m.b.y.lo, .float .f64 m.b.y.hi, .float .f64 m.b.z.lo, .float .f64 m.b.z.hi, .float .f64 m.c.x.lo, .float .f64 m.c.x.hi, .float .f64 m.c.y.lo, .float .f64 m.c.y.hi, .float .f64 m.c.z.lo, .float .f64 m.c.z.hi])) (by kernel_rfl) ?_
 change wpAnyH _ _ _ _ _ _ _ _ (World.drew _)
 obtain ⟨wd2, hwd⟩ : ∃ x, x = World.drew W := ⟨_, rfl⟩
 rw [← hwd]
 have D3 := Lib.hid (hwd ▸ Below.drew D1.out : Below W.heap.size W wd2)
 clear D1 hwd
 have hS4 : True ∧ CellsL wd2 (w.heap.size) 0 [.float .f64 m.a.x.lo, .float .f64 m.a.x.hi, .float .f64 m.a.y.lo, .float .f64 m.a.y.hi, .float .f64 m.a.z.lo, .float .f64 m.a.z.hi, .float .f64 m.b.x.lo, .float .f64 m.b.x.hi, .float .f64 m.b.y.lo, .float .f64 m.b.y.hi, .float .f64 m.b.z.lo, .float .f64 m.b.z.hi, .float .f64 m.c.x.lo, .float .f64 m.c.x.hi, .float .f64 m.c.y.lo, .float .f64 m.c.y.hi, .float .f64 m.c.z.lo, .float .f64 m.c.z.hi] := ⟨trivial, (kb K0 D3).cellsL 0 [.float .f64 m.a.x.lo, .float .f64 m.a.x.hi, .float .f64 m.a.y.lo, .float .f64 m.a.y.hi, .float .f64 m.a.z.lo, .float .f64 m.a.z.hi, .float .f64 m.b.x.lo, .float .f64 m.b.x.hi, .float .f64 m.b.y.lo, .float .f64 m.b.y.hi, .float .f64 m.b.z.lo, .float .f64 m.b.z.hi, .float .f64 m.c.x.lo, .float .f64 m.c.x.hi, .float .f64 m.c.y.lo, .float .f64 m.c.y.hi, .float .f64 m.c.z.lo, .float .f64 m.c.z.hi] rfl⟩
 refine tkq 0 (bm 12 1) hS4 ?_
 refine tkq 1 (bm 12 3) hS4 ?_
 refine tke 2 (bm 12 7) hS4 ?_
 refine tkq 3 (bm 12 15) hS4 ?_
 refine tkq 4 (bm 12 31) hS4 ?_
 refine tke 5 (bm 12 63) hS4 ?_
 refine tkq 6 (bm 12 127) hS4 ?_
 refine tkq 7 (bm 12 255) hS4 ?_
 refine tke 8 (bm 12 511) hS4 ?_
 refine wpAnyH_oneN (i := 9) (l' := bm 12 1023) rfl (by kernel_rfl) (by kernel_rfl) (by kernel_rfl) (fun K hK => ?_)
 go_simp
 go_at_call 31
 refine (C0.out _).mono ?_
 rintro r w14 ⟨rfl, hb⟩
 dsimp only
 have D15 := ds D3 hb
 clear D3
 clear hb
 have hS16 : True ∧ CellsL w14 (w.heap.size) 0 [.float .f64 m.a.x.lo, .float .f64 m.a.x.hi, .float .f64 m.a.y.lo, .float .f64 m.a.y.hi, .float .f64 m.a.z.lo, .float .f64 m.a.z.hi, .float .f64 m.b.x.lo, .float .f64 m.b.x.hi, .float .f64 m.b.y.lo, .float .f64 m.b.y.hi, .float .f64 m.b.z.lo, .float .f64 m.b.z.hi, .float .f64 m.c.x.lo, .float .f64 m.c.x.hi, .float .f64 m.c.y.lo, .float .f64 m.c.y.hi, .float .f64 m.c.z.lo, .float .f64 m.c.z.hi] := ⟨trivial, (kb K0 D15).cellsL 0 [.float .f64 m.a.x.lo, .float .f64 m.a.x.hi, .float .f64 m.a.y.lo, .float .f64 m.a.y.hi, .float .f64 m.a.z.lo, .float .f64 m.a.z.hi, .float .f64 m.b.x.lo, .float .f64 m.b.x.hi, .float .f64 m.b.y.lo, .float .f64 m.b.y.hi, .float .f64 m.b.z.lo, .float .f64 m.b.z.hi, .float .f64 m.c.x.lo, .float .f64 m.c.x.hi, .float .f64 m.c.y.lo, .float .f64 m.c.y.hi, .float .f64 m.c.z.lo, .float .f64 m.c.z.hi] rfl⟩
 refine hK _ _ hS16 ?_
 clear hK K hS4
 refine wpAnyH_oneN (i := 10) (l' := bm 12 2047) rfl (by kernel_rfl) (by kernel_rfl) (by kernel_rfl) (fun K hK => ?_)
 go_simp
 go_at_call 29
 refine (C1.out _).mono ?_
 rintro r w17 ⟨rfl, hb⟩
 dsimp only
 have D18 := ds D15 hb
 clear D15
 clear hb
 have hS19 : True ∧ CellsL w17 (w.heap.size) 0 [.float .f64 m.a.x.lo, .float .f64 m.a.x.hi, .float .f64 m.a.y.lo, .float .f64 m.a.y.hi, .float .f64 m.a.z.lo, .float .f64 m.a.z.hi, .float .f64 m.b.x.lo, .float .f64 m.b.x.hi, .float .f64 m.b.y.lo, .float .f64 m.b.y.hi, .float .f64 m.b.z.lo, .float .f64 m.b.z.hi, .float .f64 m.c.x.lo, .float .f64 m.c.x.hi, .float .f64 m.c.y.lo, .float .f64 m.c.y.hi, .float .f64 m.c.z.lo, .float .f64 m.c.z.hi] := ⟨trivial, (kb K0 D18).cellsL 0 [.float .f64 m.a.x.lo, .float .f64 m.a.x.hi, .float .f64 m.a.y.lo, .float .f64 m.a.y.hi, .float .f64 m.a.z.lo, .float .f64 m.a.z.hi, .float .f64 m.b.x.lo, .float .f64 m.b.x.hi, .float .f64 m.b.y.lo, .float .f64 m.b.y.hi, .float .f64 m.b.z.lo, .float .f64 m.b.z.hi, .float .f64 m.c.x.lo, .float .f64 m.c.x.hi, .float .f64 m.c.y.lo, .float .f64 m.c.y.hi, .float .f64 m.c.z.lo, .float .f64 m.c.z.hi] rfl⟩
 refine hK _ _ hS19 ?_
 clear hK K hS16
 refine wpAnyH_oneN (i := 11) (l' := bm 12 4095) rfl (by kernel_rfl) (by kernel_rfl) (by kernel_rfl) (fun K hK => ?_)
 have f22 := (kb K1 D18).cellsL 0 [.float .f64 0, .float .f64 0] rfl
 dsimp only [CellsL, al, vl, Nat.reduceAdd] at f22
 have u23 := (kb K1 D18).unfrozen
 obtain ⟨V20, hV21⟩ : ∃ V, setCells w17 (w.heap.size + 1) 0 [.float .f64 p1.lo, .float .f64 p1.hi] = V := ⟨_, rfl⟩
 have hv24 := hV21
 simp only [setCells, Nat.reduceAdd] at hv24
 have K25 := kf hV21 K0 D18 (by omega)
 have K26 := Lib.hid (show Blk V20 (w.heap.size + 1) 28 #[.float .f64 p1.lo, .float .f64 p1.hi] from (ks hV21 K1 D18).out)
 have HB27 := hbs hV21 HB D18 (by omega)
 have D28 := dr V20
 clear K0 K1 HB D18
 go_simp
 clear hV21 f22 u23 hv24
 have hS29 : True ∧ CellsL V20 (w.heap.size) 0 [.float .f64 m.a.x.lo, .float .f64 m.a.x.hi, .float .f64 m.a.y.lo, .float .f64 m.a.y.hi, .float .f64 m.a.z.lo, .float .f64 m.a.z.hi, .float .f64 m.b.x.lo, .float .f64 m.b.x.hi, .float .f64 m.b.y.lo, .float .f64 m.b.y.hi, .float .f64 m.b.z.lo, .float .f64 m.b.z.hi, .float .f64 m.c.x.lo, .float .f64 m.c.x.hi, .float .f64 m.c.y.lo, .float .f64 m.c.y.hi, .float .f64 m.c.z.lo, .float .f64 m.c.z.hi] := ⟨trivial, (kb K25 D28).cellsL 0 [.float .f64 m.a.x.lo, .float .f64 m.a.x.hi, .float .f64 m.a.y.lo, .float .f64 m.a.y.hi, .float .f64 m.a.z.lo, .float .f64 m.a.z.hi, .float .f64 m.b.x.lo, .float .f64 m.b.x.hi, .float .f64 m.b.y.lo, .float .f64 m.b.y.hi, .float .f64 m.b.z.lo, .float .f64 m.b.z.hi, .float .f64 m.c.x.lo, .float .f64 m.c.x.hi, .float .f64 m.c.y.lo, .float .f64 m.c.y.hi, .float .f64 m.c.z.lo, .float .f64 m.c.z.hi] rfl⟩
 refine hK _ _ hS29 ?_
 clear hK K hS19
 refine wpAnyH_done (by kernel_rfl) ?_ _
 clear hS29
 go_wp2_with fail
 (try simp only [Exit.inBlock, Exit.then])
 exact bodyPost_ret (res_c rfl _ _ (w.heap.size + 1) #[.float .f64 p1.lo, .float .f64 p1.hi] rfl (kb K26 D28) (by rw [info_Span]; rfl) Try.underlying28 rfl) rfl ⟨rfl, below_step HB27.out D28.out⟩
theorem stretchA_any (t0 t1 t2 : Nat) (ht0 : t0 < 18446744073709551616) (ht1 : t1 < 18446744073709551616) (ht2 : t2 < 18446744073709551616) (w : World) : Calls Try.prog 24 #[Value.agg #[.float .f64 t0, .float .f64 t1, .float .f64 t2]] w fun r w' => r = .returned (aval (afStretch t0 t1 t2)) ∧ Below w.heap.size w w' := by
 have C0 := Lib.hid (fun w => of_sp t0 ht0 w)
 obtain ⟨p0, hp0⟩ : ∃ z_, ofS t0 = z_ := ⟨_, rfl⟩
 rw [hp0] at C0
 have C1 := Lib.hid (fun w => of_sp t1 ht1 w)
 obtain ⟨p1, hp1⟩ : ∃ z_, ofS t1 = z_ := ⟨_, rfl⟩
 rw [hp1] at C1
 have C2 := Lib.hid (fun w => of_sp t2 ht2 w)
 obtain ⟨p2, hp2⟩ : ∃ z_, ofS t2 = z_ := ⟨_, rfl⟩
 rw [hp2] at C2
 have hT : afStretch t0 t1 t2 = (⟨(⟨p0, zeroS, zeroS⟩ : V3), (⟨zeroS, p1, zeroS⟩ : V3), (⟨zeroS, zeroS, p2⟩ : V3), zeroV⟩ : Af) := by
   subst hp0 hp1 hp2; rfl
 rw [hT]
 clear hT
 clear hp0 hp1 hp2
 go_enter Try.func24, Try.ntmps24
 go_wp2_with fail
 obtain ⟨W, hW, K0, K1, K2, hB, hz⟩ := bx3 w 24 33 33 #[.float .f64 t0, .float .f64 t1, .float .f64 t2] #[.float .f64 0, .float .f64 0, .float .f64 0, .float .f64 0, .float .f64 0, .float .f64 0, .float .f64 0, .float .f64 0, .float .f64 0, .float .f64 0, .float .f64 0, .float .f64 0, .float .f64 0, .float .f64 0, .float .f64 0, .float .f64 0, .float .f64 0, .float .f64 0, .float .f64 0, .float .f64 0, .float .f64 0, .float .f64 0, .float .f64 0, .float .f64 0] #[.float .f64 0, .float .f64 0, .float .f64 0, .float .f64 0, .float .f64 0, .float .f64 0, .float .f64 0, .float .f64 0, .float .f64 0, .float .f64 0, .float .f64 0, .float .f64 0, .float .f64 0, .float .f64 0, .float .f64 0, .float .f64 0, .float .f64 0, .float .f64 0, .float .f64 0, .float .f64 0, .float .f64 0, .float .f64 0, .float .f64 0, .float .f64 0]
 rw [← hW]
 have K0 := Lib.hid K0
 have K1 := Lib.hid K1
 have K2 := Lib.hid K2
 have HB := Lib.hid hB
 clear hW hB hz
 have D1 := dr W
 go_wp2_with fail
 refine wp_loop_rounds 4 ?_
 rw [rounds_succ]
 go_wp2_with fail
 refine wp_region_held (S := (fun w' => True ∧ CellsL w' (w.heap.size) 0 [.float .f64 t0])) (by kernel_rfl) ?_
 change wpAnyH _ _ _ _ _ _ _ _ (World.drew _)
 obtain ⟨wd2, hwd⟩ : ∃ x, x = World.drew W := ⟨_, rfl⟩
 rw [← hwd]
 have D3 := Lib.hid (hwd ▸ Below.drew D1.out : Below W.heap.size W wd2)
 clear D1 hwd
 have hS4 : True ∧ CellsL wd2 (w.heap.size) 0 [.float .f64 t0] := ⟨trivial, (kb K0 D3).cellsL 0 [.float .f64 t0] rfl⟩
 refine tkq 0 (bm 10 1) hS4 ?_
 refine tkq 1 (bm 10 3) hS4 ?_
 refine tkq 2 (bm 10 7) hS4 ?_
 refine tkq 3 (bm 10 15) hS4 ?_
 refine tke 4 (bm 10 31) hS4 ?_
 refine tkq 6 (bm 10 95) hS4 ?_
 refine tkq 7 (bm 10 223) hS4 ?_
 refine wpAnyH_oneN (i := 5) (l' := bm 10 255) rfl (by kernel_rfl) (by kernel_rfl) (by kernel_rfl) (fun K hK => ?_)
 go_simp
 go_at_call 64
 refine (C0.out _).mono ?_
 rintro r w12 ⟨rfl, hb⟩
 dsimp only
 have D13 := ds D3 hb
 clear D3
 clear hb
 have hS14 : True ∧ CellsL w12 (w.heap.size) 0 [.float .f64 t0] := ⟨trivial, (kb K0 D13).cellsL 0 [.float .f64 t0] rfl⟩
 refine hK _ _ hS14 ?_
 clear hK K hS4
 refine tkq 8 (bm 10 511) hS14 ?_
 refine wpAnyH_oneN (i := 9) (l' := bm 10 1023) rfl (by kernel_rfl) (by kernel_rfl) (by kernel_rfl) (fun K hK => ?_)
 have f18 := (kb K2 D13).cellsL 0 [.float .f64 0, .float .f64 0] rfl
 dsimp only [CellsL, al, vl, Nat.reduceAdd] at f18
 have u19 := (kb K2 D13).unfrozen
 obtain ⟨V16, hV17⟩ : ∃ V, setCells w12 (w.heap.size + 1 + 1) 0 [.float .f64 p0.lo, .float .f64 p0.hi] = V := ⟨_, rfl⟩
 have hv20 := hV17
 simp only [setCells, Nat.reduceAdd] at hv20
 have K21 := kf hV17 K0 D13 (by omega)
 have K22 := kf hV17 K1 D13 (by omega)
 have K23 := Lib.hid (show Blk V16 (w.heap.size + 1 + 1) 33 #[.float .f64 p0.lo, .float .f64 p0.hi, .float .f64 0, .float .f64 0, .float .f64 0, .float .f64 0, .float .f64 0, .float .f64 0, .float .f64 0, .float .f64 0, .float .f64 0, .float .f64 0, .float .f64 0, .float .f64 0, .float .f64 0, .float .f64 0, .float .f64 0, .float .f64 0, .float .f64 0, .float .f64 0, .float .f64 0, .float .f64 0, .float .f64 0, .float .f64 0] from (ks hV17 K2 D13).out)
 have HB24 := hbs hV17 HB D13 (by omega)
 have D25 := dr V16
 clear K0 K1 K2 HB D13
 go_simp
 clear hV17 f18 u19 hv20
 have hS26 : True ∧ CellsL V16 (w.heap.size) 0 [.float .f64 t0] := ⟨trivial, (kb K21 D25).cellsL 0 [.float .f64 t0] rfl⟩
 refine hK _ _ hS26 ?_
 clear hK K hS14
 refine wpAnyH_done (by kernel_rfl) ?_ _
 clear hS26
 go_wp2_with fail
 rw [rounds_succ]
 go_wp2_with fail
 refine wp_region_held (S := (fun w' => True ∧ CellsL w' (w.heap.size) 1 [.float .f64 t1])) (by kernel_rfl) ?_
 change wpAnyH _ _ _ _ _ _ _ _ (World.drew _)
 obtain ⟨wd27, hwd⟩ : ∃ x, x = World.drew V16 := ⟨_, rfl⟩
 rw [← hwd]
 have D28 := Lib.hid (hwd ▸ Below.drew D25.out : Below V16.heap.size V16 wd27)
 clear D25 hwd
 have hS29 : True ∧ CellsL wd27 (w.heap.size) 1 [.float .f64 t1] := ⟨trivial, (kb K21 D28).cellsL 1 [.float .f64 t1] rfl⟩
 refine tkq 0 (bm 10 1) hS29 ?_
 refine tkq 1 (bm 10 3) hS29 ?_
 refine tkq 2 (bm 10 7) hS29 ?_
 refine tkq 3 (bm 10 15) hS29 ?_
 refine tke 4 (bm 10 31) hS29 ?_
 refine tkq 6 (bm 10 95) hS29 ?_
 refine tkq 7 (bm 10 223) hS29 ?_
 refine wpAnyH_oneN (i := 5) (l' := bm 10 255) rfl (by kernel_rfl) (by kernel_rfl) (by kernel_rfl) (fun K hK => ?_)
 go_simp
 go_at_call 64
 refine (C1.out _).mono ?_
 rintro r w37 ⟨rfl, hb⟩
 dsimp only
 have D38 := ds D28 hb
 clear D28
 clear hb
 have hS39 : True ∧ CellsL w37 (w.heap.size) 1 [.float .f64 t1] := ⟨trivial, (kb K21 D38).cellsL 1 [.float .f64 t1] rfl⟩
 refine hK _ _ hS39 ?_
 clear hK K hS29
 refine tkq 8 (bm 10 511) hS39 ?_
 refine wpAnyH_oneN (i := 9) (l' := bm 10 1023) rfl (by kernel_rfl) (by kernel_rfl) (by kernel_rfl) (fun K hK => ?_)
 have f43 := (kb K23 D38).cellsL 8 [.float .f64 0, .float .f64 0] rfl
 dsimp only [CellsL, al, vl, Nat.reduceAdd] at f43
 have u44 := (kb K23 D38).unfrozen
 obtain ⟨V41, hV42⟩ : ∃ V, setCells w37 (w.heap.size + 1 + 1) 8 [.float .f64 p1.lo, .float .f64 p1.hi] = V := ⟨_, rfl⟩
 have hv45 := hV42
 simp only [setCells, Nat.reduceAdd] at hv45
 have K46 := kf hV42 K21 D38 (by omega)
 have K47 := kf hV42 K22 D38 (by omega)
 have K48 := Lib.hid (show Blk V41 (w.heap.size + 1 + 1) 33 #[.float .f64 p0.lo, .float .f64 p0.hi, .float .f64 0, .float .f64 0, .float .f64 0, .float .f64 0, .float .f64 0, .float .f64 0, .float .f64 p1.lo, .float .f64 p1.hi, .float .f64 0, .float .f64 0, .float .f64 0, .float .f64 0, .float .f64 0, .float .f64 0, .float .f64 0, .float .f64 0, .float .f64 0, .float .f64 0, .float .f64 0, .float .f64 0, .float .f64 0, .float .f64 0] from (ks hV42 K23 D38).out)
 have HB49 := hbs hV42 HB24 D38 (by omega)
 have D50 := dr V41
 clear K21 K22 K23 HB24 D38
 go_simp
 clear hV42 f43 u44 hv45
 have hS51 : True ∧ CellsL V41 (w.heap.size) 1 [.float .f64 t1] := ⟨trivial, (kb K46 D50).cellsL 1 [.float .f64 t1] rfl⟩
 refine hK _ _ hS51 ?_
 clear hK K hS39
 refine wpAnyH_done (by kernel_rfl) ?_ _
 clear hS51
 go_wp2_with fail
 rw [rounds_succ]
 go_wp2_with fail
 refine wp_region_held (S := (fun w' => True ∧ CellsL w' (w.heap.size) 2 [.float .f64 t2])) (by kernel_rfl) ?_
 change wpAnyH _ _ _ _ _ _ _ _ (World.drew _)
 obtain ⟨wd52, hwd⟩ : ∃ x, x = World.drew V41 := ⟨_, rfl⟩
 rw [← hwd]
 have D53 := Lib.hid (hwd ▸ Below.drew D50.out : Below V41.heap.size V41 wd52)
 clear D50 hwd
 have hS54 : True ∧ CellsL wd52 (w.heap.size) 2 [.float .f64 t2] := ⟨trivial, (kb K46 D53).cellsL 2 [.float .f64 t2] rfl⟩
 refine tkq 0 (bm 10 1) hS54 ?_
 refine tkq 1 (bm 10 3) hS54 ?_
 refine tkq 2 (bm 10 7) hS54 ?_
 refine tkq 3 (bm 10 15) hS54 ?_
 refine tke 4 (bm 10 31) hS54 ?_
 refine tkq 6 (bm 10 95) hS54 ?_
 refine tkq 7 (bm 10 223) hS54 ?_
 refine wpAnyH_oneN (i := 5) (l' := bm 10 255) rfl (by kernel_rfl) (by kernel_rfl) (by kernel_rfl) (fun K hK => ?_)
 go_simp
 go_at_call 64
 refine (C2.out _).mono ?_
 rintro r w62 ⟨rfl, hb⟩
 dsimp only
 have D63 := ds D53 hb
 clear D53
 clear hb
 have hS64 : True ∧ CellsL w62 (w.heap.size) 2 [.float .f64 t2] := ⟨trivial, (kb K46 D63).cellsL 2 [.float .f64 t2] rfl⟩
 refine hK _ _ hS64 ?_
 clear hK K hS54
 refine tkq 8 (bm 10 511) hS64 ?_
 refine wpAnyH_oneN (i := 9) (l' := bm 10 1023) rfl (by kernel_rfl) (by kernel_rfl) (by kernel_rfl) (fun K hK => ?_)
 have f68 := (kb K48 D63).cellsL 16 [.float .f64 0, .float .f64 0] rfl
 dsimp only [CellsL, al, vl, Nat.reduceAdd] at f68
 have u69 := (kb K48 D63).unfrozen
 obtain ⟨V66, hV67⟩ : ∃ V, setCells w62 (w.heap.size + 1 + 1) 16 [.float .f64 p2.lo, .float .f64 p2.hi] = V := ⟨_, rfl⟩
 have hv70 := hV67
 simp only [setCells, Nat.reduceAdd] at hv70
 have K71 := kf hV67 K46 D63 (by omega)
 have K72 := kf hV67 K47 D63 (by omega)
 have K73 := Lib.hid (show Blk V66 (w.heap.size + 1 + 1) 33 #[.float .f64 p0.lo, .float .f64 p0.hi, .float .f64 0, .float .f64 0, .float .f64 0, .float .f64 0, .float .f64 0, .float .f64 0, .float .f64 p1.lo, .float .f64 p1.hi, .float .f64 0, .float .f64 0, .float .f64 0, .float .f64 0, .float .f64 0, .float .f64 0, .float .f64 p2.lo, .float .f64 p2.hi, .float .f64 0, .float .f64 0, .float .f64 0, .float .f64 0, .float .f64 0, .float .f64 0] from (ks hV67 K48 D63).out)
 have HB74 := hbs hV67 HB49 D63 (by omega)
 have D75 := dr V66
 clear K46 K47 K48 HB49 D63
 go_simp
 clear hV67 f68 u69 hv70
 have hS76 : True ∧ CellsL V66 (w.heap.size) 2 [.float .f64 t2] := ⟨trivial, (kb K71 D75).cellsL 2 [.float .f64 t2] rfl⟩
 refine hK _ _ hS76 ?_
 clear hK K hS64
 refine wpAnyH_done (by kernel_rfl) ?_ _
 clear hS76
 go_wp2_with fail
 rw [rounds_succ]
 have f77 := (kb K73 D75)
 have f80 := (kb K72 D75)
 obtain ⟨V78, hV79⟩ : ∃ V, World.setRow V66 (w.heap.size + 1) #[.float .f64 p0.lo, .float .f64 p0.hi, .float .f64 0, .float .f64 0, .float .f64 0, .float .f64 0, .float .f64 0, .float .f64 0, .float .f64 p1.lo, .float .f64 p1.hi, .float .f64 0, .float .f64 0, .float .f64 0, .float .f64 0, .float .f64 0, .float .f64 0, .float .f64 p2.lo, .float .f64 p2.hi, .float .f64 0, .float .f64 0, .float .f64 0, .float .f64 0, .float .f64 0, .float .f64 0] = V := ⟨_, rfl⟩
 have K81 := kfr hV79 K71 D75 (by omega)
 have K82 := ksr hV79 K72 D75
 have K83 := kfr hV79 K73 D75 (by omega)
 have HB84 := hbr hV79 HB74 D75 (by omega)
 have D85 := dr V78
 clear K71 K72 K73 HB74 D75
 go_wp2_with (first | (refine wpList_store_row rfl 33 _ _ rfl (w.heap.size + 1) #[.float .f64 p0.lo, .float .f64 p0.hi, .float .f64 0, .float .f64 0, .float .f64 0, .float .f64 0, .float .f64 0, .float .f64 0, .float .f64 p1.lo, .float .f64 p1.hi, .float .f64 0, .float .f64 0, .float .f64 0, .float .f64 0, .float .f64 0, .float .f64 0, .float .f64 p2.lo, .float .f64 p2.hi, .float .f64 0, .float .f64 0, .float .f64 0, .float .f64 0, .float .f64 0, .float .f64 0] rfl rfl _ _ f80 (by rw [info_Affine]; rfl) rfl (by kernel_rfl) ?_; rw [hV79]) | (refine wl_load (by kernel_rfl) rfl rfl f77 (by rw [info_Affine]; rfl) Try.underlying33 rfl ?_))
 clear f77 hV79 f80
 (try simp only [Exit.inBlock, Exit.then])
 exact bodyPost_ret (res_c rfl _ _ (w.heap.size + 1) #[.float .f64 p0.lo, .float .f64 p0.hi, .float .f64 0, .float .f64 0, .float .f64 0, .float .f64 0, .float .f64 0, .float .f64 0, .float .f64 p1.lo, .float .f64 p1.hi, .float .f64 0, .float .f64 0, .float .f64 0, .float .f64 0, .float .f64 0, .float .f64 0, .float .f64 p2.lo, .float .f64 p2.hi, .float .f64 0, .float .f64 0, .float .f64 0, .float .f64 0, .float .f64 0, .float .f64 0] rfl (kb K82 D85) (by rw [info_Affine]; rfl) Try.underlying33 rfl) rfl ⟨rfl, below_step HB84.out D85.out⟩
theorem vOf_e0 : vOf 4607182418800017408 0 0 = ⟨ofS W1, zeroS, zeroS⟩ := V3.ext rfl of0 of0
theorem vOf_e1 : vOf 0 4607182418800017408 0 = ⟨zeroS, ofS W1, zeroS⟩ := V3.ext of0 rfl of0
theorem vOf_e2 : vOf 0 0 4607182418800017408 = ⟨zeroS, zeroS, ofS W1⟩ := V3.ext of0 of0 rfl
theorem sameA_any  (w : World) : Calls Try.prog 20 #[] w fun r w' => r = .returned (aval afSame) ∧ Below w.heap.size w w' := by
 have C0 := Lib.hid (fun w => ofV_any 4607182418800017408 0 0 (by decide) (by decide) (by decide) w)
 rw [vOf_e0] at C0
 obtain ⟨p0, hp0⟩ : ∃ z_, (⟨ofS W1, zeroS, zeroS⟩ : V3) = z_ := ⟨_, rfl⟩
 rw [hp0] at C0
 have C1 := Lib.hid (fun w => ofV_any 0 4607182418800017408 0 (by decide) (by decide) (by decide) w)
 rw [vOf_e1] at C1
 obtain ⟨p1, hp1⟩ : ∃ z_, (⟨zeroS, ofS W1, zeroS⟩ : V3) = z_ := ⟨_, rfl⟩
 rw [hp1] at C1
 have C2 := Lib.hid (fun w => ofV_any 0 0 4607182418800017408 (by decide) (by decide) (by decide) w)
 rw [vOf_e2] at C2
 obtain ⟨p2, hp2⟩ : ∃ z_, (⟨zeroS, zeroS, ofS W1⟩ : V3) = z_ := ⟨_, rfl⟩
 rw [hp2] at C2
 have hT : afSame = (⟨p0, p1, p2, zeroV⟩ : Af) := by
   subst hp0 hp1 hp2; rfl
 rw [hT]
 clear hT
 clear hp0 hp1 hp2
 go_enter Try.func20, Try.ntmps20
 go_wp2_with fail
 obtain ⟨W, hW, K0, hB, hz⟩ := bx1 w 33 #[.float .f64 0, .float .f64 0, .float .f64 0, .float .f64 0, .float .f64 0, .float .f64 0, .float .f64 0, .float .f64 0, .float .f64 0, .float .f64 0, .float .f64 0, .float .f64 0, .float .f64 0, .float .f64 0, .float .f64 0, .float .f64 0, .float .f64 0, .float .f64 0, .float .f64 0, .float .f64 0, .float .f64 0, .float .f64 0, .float .f64 0, .float .f64 0]
 rw [← hW]
 have K0 := Lib.hid K0
 have HB := Lib.hid hB
 clear hW hB hz
 have D1 := dr W
 refine (C0.out _).mono ?_
 rintro r w2 ⟨rfl, hb⟩
 have D3 := ds D1 hb
 clear D1
 clear hb
 go_wp2_with fail
 refine (C1.out _).mono ?_
 rintro r w4 ⟨rfl, hb⟩
 have D5 := ds D3 hb
 clear D3
 clear hb
 go_wp2_with fail
 refine (C2.out _).mono ?_
 rintro r w6 ⟨rfl, hb⟩
 have D7 := ds D5 hb
 clear D5
 clear hb
 have f10 := (kb K0 D7)
 obtain ⟨V8, hV9⟩ : ∃ V, World.setRow w6 (w.heap.size) #[.float .f64 p0.x.lo, .float .f64 p0.x.hi, .float .f64 p0.y.lo, .float .f64 p0.y.hi, .float .f64 p0.z.lo, .float .f64 p0.z.hi, .float .f64 p1.x.lo, .float .f64 p1.x.hi, .float .f64 p1.y.lo, .float .f64 p1.y.hi, .float .f64 p1.z.lo, .float .f64 p1.z.hi, .float .f64 p2.x.lo, .float .f64 p2.x.hi, .float .f64 p2.y.lo, .float .f64 p2.y.hi, .float .f64 p2.z.lo, .float .f64 p2.z.hi, .float .f64 0, .float .f64 0, .float .f64 0, .float .f64 0, .float .f64 0, .float .f64 0] = V := ⟨_, rfl⟩
 have K11 := ksr hV9 K0 D7
 have HB12 := hbr hV9 HB D7 (by omega)
 have D13 := dr V8
 clear K0 HB D7
 go_wp2_with (refine wpList_store_row rfl 33 _ _ rfl (w.heap.size) #[.float .f64 p0.x.lo, .float .f64 p0.x.hi, .float .f64 p0.y.lo, .float .f64 p0.y.hi, .float .f64 p0.z.lo, .float .f64 p0.z.hi, .float .f64 p1.x.lo, .float .f64 p1.x.hi, .float .f64 p1.y.lo, .float .f64 p1.y.hi, .float .f64 p1.z.lo, .float .f64 p1.z.hi, .float .f64 p2.x.lo, .float .f64 p2.x.hi, .float .f64 p2.y.lo, .float .f64 p2.y.hi, .float .f64 p2.z.lo, .float .f64 p2.z.hi, .float .f64 0, .float .f64 0, .float .f64 0, .float .f64 0, .float .f64 0, .float .f64 0] rfl rfl _ _ f10 (by rw [info_Affine]; rfl) rfl (by kernel_rfl) ?_; rw [hV9])
 clear hV9 f10
 (try simp only [Exit.inBlock, Exit.then])
 exact bodyPost_ret (res_c rfl _ _ (w.heap.size) #[.float .f64 p0.x.lo, .float .f64 p0.x.hi, .float .f64 p0.y.lo, .float .f64 p0.y.hi, .float .f64 p0.z.lo, .float .f64 p0.z.hi, .float .f64 p1.x.lo, .float .f64 p1.x.hi, .float .f64 p1.y.lo, .float .f64 p1.y.hi, .float .f64 p1.z.lo, .float .f64 p1.z.hi, .float .f64 p2.x.lo, .float .f64 p2.x.hi, .float .f64 p2.y.lo, .float .f64 p2.y.hi, .float .f64 p2.z.lo, .float .f64 p2.z.hi, .float .f64 0, .float .f64 0, .float .f64 0, .float .f64 0, .float .f64 0, .float .f64 0] rfl (kb K11 D13) (by rw [info_Affine]; rfl) Try.underlying33 rfl) rfl ⟨rfl, below_step HB12.out D13.out⟩
theorem moveA_any (t0 t1 t2 : Nat) (ht0 : t0 < 18446744073709551616) (ht1 : t1 < 18446744073709551616) (ht2 : t2 < 18446744073709551616) (w : World) : Calls Try.prog 22 #[Value.agg #[.float .f64 t0, .float .f64 t1, .float .f64 t2]] w fun r w' => r = .returned (aval (afMove t0 t1 t2)) ∧ Below w.heap.size w w' := by
 have C0 := Lib.hid (fun w => sameA_any w)
 obtain ⟨p0, hp0⟩ : ∃ z_, afSame = z_ := ⟨_, rfl⟩
 rw [hp0] at C0
 have C1 := Lib.hid (fun w => ofV_any t0 t1 t2 ht0 ht1 ht2 w)
 obtain ⟨p1, hp1⟩ : ∃ z_, vOf t0 t1 t2 = z_ := ⟨_, rfl⟩
 rw [hp1] at C1
 have hT : afMove t0 t1 t2 = (⟨p0.a, p0.b, p0.c, p1⟩ : Af) := by
   subst hp0 hp1; rfl
 rw [hT]
 clear hT
 clear hp0 hp1
 go_enter Try.func22, Try.ntmps22
 go_wp2_with fail
 obtain ⟨W, hW, K0, K1, hB, hz⟩ := bx2 w 24 33 #[.float .f64 t0, .float .f64 t1, .float .f64 t2] #[.float .f64 0, .float .f64 0, .float .f64 0, .float .f64 0, .float .f64 0, .float .f64 0, .float .f64 0, .float .f64 0, .float .f64 0, .float .f64 0, .float .f64 0, .float .f64 0, .float .f64 0, .float .f64 0, .float .f64 0, .float .f64 0, .float .f64 0, .float .f64 0, .float .f64 0, .float .f64 0, .float .f64 0, .float .f64 0, .float .f64 0, .float .f64 0]
 rw [← hW]
 have K0 := Lib.hid K0
 have K1 := Lib.hid K1
 have HB := Lib.hid hB
 clear hW hB hz
 have D1 := dr W
 refine (C0.out _).mono ?_
 rintro r w2 ⟨rfl, hb⟩
 have D3 := ds D1 hb
 clear D1
 clear hb
 obtain ⟨g4, hg6⟩ : ∃ g, w2.heap.size = g := ⟨_, rfl⟩
 have Y8 := Lib.hid (show w.heap.size + 1 < g4 by rw [← hg6]; exact (kb K1 D3).lt)
 obtain ⟨V5, hV7⟩ : ∃ V, w2.alloc (.cells #[.float .f64 0, .float .f64 0, .float .f64 0, .float .f64 0, .float .f64 0, .float .f64 0, .float .f64 0, .float .f64 0, .float .f64 0, .float .f64 0, .float .f64 0, .float .f64 0, .float .f64 0, .float .f64 0, .float .f64 0, .float .f64 0, .float .f64 0, .float .f64 0, .float .f64 0, .float .f64 0, .float .f64 0, .float .f64 0, .float .f64 0, .float .f64 0] 33) = V := ⟨_, rfl⟩
 have K9 := ka hV7 K0 D3
 have K10 := ka hV7 K1 D3
 have K11 := kn hV7 hg6
 have HB12 := hba hV7 HB D3
 have D13 := dr V5
 clear K0 K1 HB D3
 have f16 := (kb K11 D13)
 obtain ⟨V14, hV15⟩ : ∃ V, World.setRow V5 (g4) (ac p0) = V := ⟨_, rfl⟩
 have K17 := kfr hV15 K9 D13 (by have := Y8.out; omega)
 have K18 := kfr hV15 K10 D13 (by have := Y8.out; omega)
 have K19 := ksr hV15 K11 D13
 have HB20 := hbr hV15 HB12 D13 (by have := Y8.out; omega)
 have D21 := dr V14
 clear K9 K10 K11 HB12 D13
 have hq22 := (kb K17 D21).cellsL 0 [.float .f64 t0, .float .f64 t1, .float .f64 t2] rfl
 dsimp only [CellsL, al, vl, Nat.reduceAdd] at hq22
 go_wp2_with (refine wpList_store_row rfl 33 _ _ rfl (g4) (ac p0) rfl rfl _ _ f16 (by rw [info_Affine]; rfl) rfl (by kernel_rfl) ?_; rw [hV15])
 clear hg6 hV7 hV15 f16 hq22
 refine (C1.out _).mono ?_
 rintro r w23 ⟨rfl, hb⟩
 have D24 := ds D21 hb
 clear D21
 clear hb
 have f27 := (kb K19 D24).cellsL 18 (vl p0.t) rfl
 dsimp only [CellsL, al, vl, Nat.reduceAdd] at f27
 have u28 := (kb K19 D24).unfrozen
 obtain ⟨V25, hV26⟩ : ∃ V, setCells w23 (g4) 18 [.float .f64 p1.x.lo, .float .f64 p1.x.hi, .float .f64 p1.y.lo, .float .f64 p1.y.hi, .float .f64 p1.z.lo, .float .f64 p1.z.hi] = V := ⟨_, rfl⟩
 have hv29 := hV26
 simp only [setCells, Nat.reduceAdd] at hv29
 have K30 := kf hV26 K17 D24 (by have := Y8.out; omega)
 have K31 := kf hV26 K18 D24 (by have := Y8.out; omega)
 have K32 := Lib.hid (show Blk V25 (g4) 33 #[.float .f64 p0.a.x.lo, .float .f64 p0.a.x.hi, .float .f64 p0.a.y.lo, .float .f64 p0.a.y.hi, .float .f64 p0.a.z.lo, .float .f64 p0.a.z.hi, .float .f64 p0.b.x.lo, .float .f64 p0.b.x.hi, .float .f64 p0.b.y.lo, .float .f64 p0.b.y.hi, .float .f64 p0.b.z.lo, .float .f64 p0.b.z.hi, .float .f64 p0.c.x.lo, .float .f64 p0.c.x.hi, .float .f64 p0.c.y.lo, .float .f64 p0.c.y.hi, .float .f64 p0.c.z.lo, .float .f64 p0.c.z.hi, .float .f64 p1.x.lo, .float .f64 p1.x.hi, .float .f64 p1.y.lo, .float .f64 p1.y.hi, .float .f64 p1.z.lo, .float .f64 p1.z.hi] from (ks hV26 K19 D24).out)
 have HB33 := hbs hV26 HB20 D24 (by have := Y8.out; omega)
 have D34 := dr V25
 clear K17 K18 K19 HB20 D24
 have f35 := (kb K32 D34)
 have f38 := (kb K31 D34)
 obtain ⟨V36, hV37⟩ : ∃ V, World.setRow V25 (w.heap.size + 1) #[.float .f64 p0.a.x.lo, .float .f64 p0.a.x.hi, .float .f64 p0.a.y.lo, .float .f64 p0.a.y.hi, .float .f64 p0.a.z.lo, .float .f64 p0.a.z.hi, .float .f64 p0.b.x.lo, .float .f64 p0.b.x.hi, .float .f64 p0.b.y.lo, .float .f64 p0.b.y.hi, .float .f64 p0.b.z.lo, .float .f64 p0.b.z.hi, .float .f64 p0.c.x.lo, .float .f64 p0.c.x.hi, .float .f64 p0.c.y.lo, .float .f64 p0.c.y.hi, .float .f64 p0.c.z.lo, .float .f64 p0.c.z.hi, .float .f64 p1.x.lo, .float .f64 p1.x.hi, .float .f64 p1.y.lo, .float .f64 p1.y.hi, .float .f64 p1.z.lo, .float .f64 p1.z.hi] = V := ⟨_, rfl⟩
 have K39 := kfr hV37 K30 D34 (by have := Y8.out; omega)
 have K40 := ksr hV37 K31 D34
 have K41 := kfr hV37 K32 D34 (by have := Y8.out; omega)
 have HB42 := hbr hV37 HB33 D34 (by have := Y8.out; omega)
 have D43 := dr V36
 clear K30 K31 K32 HB33 D34
 go_wp2_with (first | (refine wpList_store_row rfl 33 _ _ rfl (w.heap.size + 1) #[.float .f64 p0.a.x.lo, .float .f64 p0.a.x.hi, .float .f64 p0.a.y.lo, .float .f64 p0.a.y.hi, .float .f64 p0.a.z.lo, .float .f64 p0.a.z.hi, .float .f64 p0.b.x.lo, .float .f64 p0.b.x.hi, .float .f64 p0.b.y.lo, .float .f64 p0.b.y.hi, .float .f64 p0.b.z.lo, .float .f64 p0.b.z.hi, .float .f64 p0.c.x.lo, .float .f64 p0.c.x.hi, .float .f64 p0.c.y.lo, .float .f64 p0.c.y.hi, .float .f64 p0.c.z.lo, .float .f64 p0.c.z.hi, .float .f64 p1.x.lo, .float .f64 p1.x.hi, .float .f64 p1.y.lo, .float .f64 p1.y.hi, .float .f64 p1.z.lo, .float .f64 p1.z.hi] rfl rfl _ _ f38 (by rw [info_Affine]; rfl) rfl (by kernel_rfl) ?_; rw [hV37]) | (refine wl_load (by kernel_rfl) rfl rfl f35 (by rw [info_Affine]; rfl) Try.underlying33 rfl ?_))
 clear hV26 f27 u28 hv29 f35 hV37 f38
 (try simp only [Exit.inBlock, Exit.then])
 exact bodyPost_ret (res_c rfl _ _ (w.heap.size + 1) #[.float .f64 p0.a.x.lo, .float .f64 p0.a.x.hi, .float .f64 p0.a.y.lo, .float .f64 p0.a.y.hi, .float .f64 p0.a.z.lo, .float .f64 p0.a.z.hi, .float .f64 p0.b.x.lo, .float .f64 p0.b.x.hi, .float .f64 p0.b.y.lo, .float .f64 p0.b.y.hi, .float .f64 p0.b.z.lo, .float .f64 p0.b.z.hi, .float .f64 p0.c.x.lo, .float .f64 p0.c.x.hi, .float .f64 p0.c.y.lo, .float .f64 p0.c.y.hi, .float .f64 p0.c.z.lo, .float .f64 p0.c.z.hi, .float .f64 p1.x.lo, .float .f64 p1.x.hi, .float .f64 p1.y.lo, .float .f64 p1.y.hi, .float .f64 p1.z.lo, .float .f64 p1.z.hi] rfl (kb K40 D43) (by rw [info_Affine]; rfl) Try.underlying33 rfl) rfl ⟨rfl, below_step HB42.out D43.out⟩
end Go.Proofs.Ytnljfcebmgifdaa
