/- Shaken: Yf Bs1. -/
import Derived.Test.YtnljfcebmgifdaaZRcdef
import Derived.Test.YtnljfcebmgifdaaZRabdf
set_option linter.unusedVariables false
set_option linter.unusedSimpArgs false
namespace Go.Proofs.Ytnljfcebmgifdaa
open Fl
abbrev WH : Nat := 4602678819172646912
noncomputable def bdF1 (i o r : Sp) : Sp := divS (subS (mulS r i) o) (addS (mulS r i) o)
noncomputable def bdF2 (i o r : Sp) : Sp := divS (subS i (mulS r o)) (addS i (mulS r o))
noncomputable def bdFr (i o r : Sp) : Sp := mulS (addS (sqrS (bdF1 i o r)) (sqrS (bdF2 i o r))) (ofS WH)
theorem in_share {x y z : Rat} {i o r : Sp} (hi : InS x i) (ho : InS y o) (hr : InS z r) :
   InS (((z * x - y) / (z * x + y) * ((z * x - y) / (z * x + y)) + (x - z * y) / (x + z * y) * ((x - z * y) / (x + z * y))) * fv WH) (bdFr i o r) :=
 in_mul (in_add (in_sqr (in_div (in_sub (in_mul hr hi) ho) (in_add (in_mul hr hi) ho))) (in_sqr (in_div (in_sub hi (in_mul hr ho)) (in_add hi (in_mul hr ho))))) (in_of WH)
end Go.Proofs.Ytnljfcebmgifdaa
set_option linter.unusedVariables false
set_option linter.unusedSimpArgs false
namespace Go.Proofs.Ytnljfcebmgifdaa
open Go.RowKit Fl
set_option maxRecDepth 100000 in
set_option maxHeartbeats 8000000 in
theorem fresnel_any (i o q : Sp) (w : World) : Calls Try.prog 49 #[Value.agg #[.float .f64 i.lo, .float .f64 i.hi], Value.agg #[.float .f64 o.lo, .float .f64 o.hi], Value.agg #[.float .f64 q.lo, .float .f64 q.hi]] w fun r w' => r = .returned (.agg #[.float .f64 (bdFr i o q).lo, .float .f64 (bdFr i o q).hi]) ∧ Below w.heap.size w w' := by
 have C0 := Lib.hid (fun w => mul_sp q i w)
 obtain ⟨p0, hp0⟩ : ∃ z_, mulS q i = z_ := ⟨_, rfl⟩
 rw [hp0] at C0
 have C1 := Lib.hid (fun w => sub_sp p0 o w)
 obtain ⟨p1, hp1⟩ : ∃ z_, subS p0 o = z_ := ⟨_, rfl⟩
 rw [hp1] at C1
 have C2 := Lib.hid (fun w => mul_sp q i w)
 rw [hp0] at C2
 have C3 := Lib.hid (fun w => add_sp p0 o w)
 obtain ⟨p3, hp3⟩ : ∃ z_, addS p0 o = z_ := ⟨_, rfl⟩
 rw [hp3] at C3
 have C4 := Lib.hid (fun w => div_sp p1 p3 w)
 obtain ⟨p4, hp4⟩ : ∃ z_, divS p1 p3 = z_ := ⟨_, rfl⟩
 rw [hp4] at C4
 have C5 := Lib.hid (fun w => mul_sp q o w)
 obtain ⟨p5, hp5⟩ : ∃ z_, mulS q o = z_ := ⟨_, rfl⟩
 rw [hp5] at C5
 have C6 := Lib.hid (fun w => sub_sp i p5 w)
 obtain ⟨p6, hp6⟩ : ∃ z_, subS i p5 = z_ := ⟨_, rfl⟩
 rw [hp6] at C6
 have C7 := Lib.hid (fun w => mul_sp q o w)
 rw [hp5] at C7
 have C8 := Lib.hid (fun w => add_sp i p5 w)
 obtain ⟨p8, hp8⟩ : ∃ z_, addS i p5 = z_ := ⟨_, rfl⟩
 rw [hp8] at C8
 have C9 := Lib.hid (fun w => div_sp p6 p8 w)
 obtain ⟨p9, hp9⟩ : ∃ z_, divS p6 p8 = z_ := ⟨_, rfl⟩
 rw [hp9] at C9
 have C10 := Lib.hid (fun w => sqr_sp p4 w)
 obtain ⟨p10, hp10⟩ : ∃ z_, sqrS p4 = z_ := ⟨_, rfl⟩
 rw [hp10] at C10
 have C11 := Lib.hid (fun w => sqr_sp p9 w)
 obtain ⟨p11, hp11⟩ : ∃ z_, sqrS p9 = z_ := ⟨_, rfl⟩
 rw [hp11] at C11
 have C12 := Lib.hid (fun w => add_sp p10 p11 w)
 obtain ⟨p12, hp12⟩ : ∃ z_, addS p10 p11 = z_ := ⟨_, rfl⟩
 rw [hp12] at C12
 have C13 := Lib.hid (fun w => of_sp 4602678819172646912 (by decide) w)
 obtain ⟨p13, hp13⟩ : ∃ z_, ofS 4602678819172646912 = z_ := ⟨_, rfl⟩
 rw [hp13] at C13
 have C14 := Lib.hid (fun w => mul_sp p12 p13 w)
 obtain ⟨p14, hp14⟩ : ∃ z_, mulS p12 p13 = z_ := ⟨_, rfl⟩
 rw [hp14] at C14
 have hT : bdFr i o q = p14 := by
   subst hp0 hp1 hp3 hp4 hp5 hp6 hp8 hp9 hp10 hp11 hp12 hp13 hp14; rfl
 rw [hT]
 clear hT
 clear hp0 hp1 hp3 hp4 hp5 hp6 hp8 hp9 hp10 hp11 hp12 hp13 hp14
 go_enter Try.func49, Try.ntmps49
 go_wp2_with fail
 obtain ⟨W, hW, K0, K1, K2, K3, hB, hz⟩ := bx4 w 28 28 28 28 #[.float .f64 i.lo, .float .f64 i.hi] #[.float .f64 o.lo, .float .f64 o.hi] #[.float .f64 q.lo, .float .f64 q.hi] #[.float .f64 0, .float .f64 0]
 rw [← hW]
 have K0 := Lib.hid K0
 have K1 := Lib.hid K1
 have K2 := Lib.hid K2
 have K3 := Lib.hid K3
 have HB := Lib.hid hB
 clear hW hB hz
 have D1 := dr W
 refine wp_region_held (S := (fun w' => True ∧ CellsL w' (w.heap.size) 0 [.float .f64 i.lo, .float .f64 i.hi] ∧ CellsL w' (w.heap.size + 1) 0 [.float .f64 o.lo, .float .f64 o.hi] ∧ CellsL w' (w.heap.size + 1 + 1) 0 [.float .f64 q.lo, .float .f64 q.hi])) (by kernel_rfl) ?_
 change wpAnyH _ _ _ _ _ _ _ _ (World.drew _)
 obtain ⟨wd2, hwd⟩ : ∃ x, x = World.drew W := ⟨_, rfl⟩
 rw [← hwd]
 have D3 := Lib.hid (hwd ▸ Below.drew D1.out : Below W.heap.size W wd2)
 clear D1 hwd
 have hS4 : True ∧ CellsL wd2 (w.heap.size) 0 [.float .f64 i.lo, .float .f64 i.hi] ∧ CellsL wd2 (w.heap.size + 1) 0 [.float .f64 o.lo, .float .f64 o.hi] ∧ CellsL wd2 (w.heap.size + 1 + 1) 0 [.float .f64 q.lo, .float .f64 q.hi] := ⟨trivial, (kb K0 D3).cellsL 0 [.float .f64 i.lo, .float .f64 i.hi] rfl, (kb K1 D3).cellsL 0 [.float .f64 o.lo, .float .f64 o.hi] rfl, (kb K2 D3).cellsL 0 [.float .f64 q.lo, .float .f64 q.hi] rfl⟩
 refine tke 0 (bm 13 1) hS4 ?_
 refine tke 1 (bm 13 3) hS4 ?_
 refine tke 3 (bm 13 11) hS4 ?_
 refine tke 5 (bm 13 43) hS4 ?_
 refine tke 6 (bm 13 107) hS4 ?_
 refine tke 8 (bm 13 363) hS4 ?_
 have HS11 := Lib.hid (show ∀ w', Below W.heap.size W w' → (True ∧ CellsL w' (w.heap.size) 0 [.float .f64 i.lo, .float .f64 i.hi] ∧ CellsL w' (w.heap.size + 1) 0 [.float .f64 o.lo, .float .f64 o.hi] ∧ CellsL w' (w.heap.size + 1 + 1) 0 [.float .f64 q.lo, .float .f64 q.hi]) from fun w' b => ⟨trivial, (K0.out.below b K0.out.lt).cellsL 0 [.float .f64 i.lo, .float .f64 i.hi] rfl, (K1.out.below b K1.out.lt).cellsL 0 [.float .f64 o.lo, .float .f64 o.hi] rfl, (K2.out.below b K2.out.lt).cellsL 0 [.float .f64 q.lo, .float .f64 q.hi] rfl⟩)
 refine wpAnyH_sets2 (N := 13) (stop := 4095) (F := 1) (m := 363) (R := [2, 4, 7, 9, 10, 11]) (M := [363, 367, 2411, 383, 2415, 511, 2431, 1023, 2559, 2047, 3071, 4095]) (fun i => if i = 2 then 3 else if i = 4 then 12 else if i = 7 then 112 else if i = 9 then 384 else if i = 10 then 528 else if i = 11 then 0 else 0) (fun a0 m a w9 => ∃ (v2 v4 v7 v9 v10 p11_ : Value) (g11_ : Nat), a = ((((((a0.put (some 11) v2).put (some 13) v4).put (some 16) v7).put (some 18) v9).put (some 19) v10).put (some 7) p11_) ∧ Below W.heap.size W w9 ∧ (m.testBit 2 = true → v2 = Value.agg #[.float .f64 p0.lo, .float .f64 p0.hi]) ∧ (m.testBit 4 = true → v4 = Value.agg #[.float .f64 p1.lo, .float .f64 p1.hi]) ∧ (m.testBit 7 = true → v7 = Value.agg #[.float .f64 p0.lo, .float .f64 p0.hi]) ∧ (m.testBit 9 = true → v9 = Value.agg #[.float .f64 p3.lo, .float .f64 p3.hi]) ∧ (m.testBit 10 = true → v10 = Value.agg #[.float .f64 p4.lo, .float .f64 p4.hi]) ∧ (m.testBit 11 = true → p11_ = .pointer (some ⟨g11_, 0, none⟩) ∧ Blk w9 g11_ 28 #[.float .f64 0, .float .f64 0] ∧ W.heap.size ≤ g11_)) (by kernel_rfl) (by kernel_rfl) (by kernel_rfl) (by kernel_rfl) ?st1 ?sp1 ?re1
 case st1 =>
   exact ⟨undef, undef, undef, undef, undef, undef, 0, by go_simp, D3.out, fun h => absurd h (by decide), fun h => absurd h (by decide), fun h => absurd h (by decide), fun h => absurd h (by decide), fun h => absurd h (by decide), fun h => absurd h (by decide)⟩
 case sp1 =>
   intro m a' w9 i hi hm hd hJ
   obtain ⟨v2, v4, v7, v9, v10, p11_, g11_, rfl, hb0, cl2, cl4, cl7, cl9, cl10, ql11⟩ := hJ
   have CL2 := Lib.hid cl2
   have CL4 := Lib.hid cl4
   have CL7 := Lib.hid cl7
   have CL9 := Lib.hid cl9
   have CL10 := Lib.hid cl10
   have QL11 := Lib.hid ql11
   have HB0 := Lib.hid hb0
   clear cl2 cl4 cl7 cl9 cl10 ql11 hb0 hS4
   simp only [List.mem_cons, List.not_mem_nil, or_false] at hi
   rcases hi with rfl | rfl | rfl | rfl | rfl | rfl
   · refine wpOp_at rfl (by kernel_rfl) (fun K hK => ?_)
     have hd := fun j => @tb_of _ _ j hd
     go_simp
     go_at_call 77
     refine (C0.out _).mono ?_
     rintro r w10 ⟨rfl, hb⟩
     dsimp only
     have hb1 := below_step HB0.out hb
     exact hK _ _ ⟨HS11.out _ hb1, _, v4, v7, v9, v10, p11_, g11_, by go_simp, hb1, fun _ => rfl, fun h => CL4.out (by rwa [tb_ne (by decide)] at h), fun h => CL7.out (by rwa [tb_ne (by decide)] at h), fun h => CL9.out (by rwa [tb_ne (by decide)] at h), fun h => CL10.out (by rwa [tb_ne (by decide)] at h), fun h => ⟨(QL11.out (by rwa [tb_ne (by decide)] at h)).1, (QL11.out (by rwa [tb_ne (by decide)] at h)).2.1.below hb (QL11.out (by rwa [tb_ne (by decide)] at h)).2.1.lt, (QL11.out (by rwa [tb_ne (by decide)] at h)).2.2⟩⟩
   · refine wpOp_at rfl (by kernel_rfl) (fun K hK => ?_)
     have hd := fun j => @tb_of _ _ j hd
     obtain rfl := CL2.out (hd _ (by decide))
     go_simp
     go_at_call 76
     refine (C1.out _).mono ?_
     rintro r w10 ⟨rfl, hb⟩
     dsimp only
     have hb1 := below_step HB0.out hb
     exact hK _ _ ⟨HS11.out _ hb1, _, _, v7, v9, v10, p11_, g11_, by go_simp, hb1, fun _ => rfl, fun _ => rfl, fun h => CL7.out (by rwa [tb_ne (by decide)] at h), fun h => CL9.out (by rwa [tb_ne (by decide)] at h), fun h => CL10.out (by rwa [tb_ne (by decide)] at h), fun h => ⟨(QL11.out (by rwa [tb_ne (by decide)] at h)).1, (QL11.out (by rwa [tb_ne (by decide)] at h)).2.1.below hb (QL11.out (by rwa [tb_ne (by decide)] at h)).2.1.lt, (QL11.out (by rwa [tb_ne (by decide)] at h)).2.2⟩⟩
   · refine wpOp_at rfl (by kernel_rfl) (fun K hK => ?_)
     have hd := fun j => @tb_of _ _ j hd
     obtain rfl := CL4.out (hd _ (by decide))
     go_simp
     go_at_call 77
     refine (C2.out _).mono ?_
     rintro r w10 ⟨rfl, hb⟩
     dsimp only
     have hb1 := below_step HB0.out hb
     exact hK _ _ ⟨HS11.out _ hb1, v2, _, _, v9, v10, p11_, g11_, by go_simp, hb1, fun h => CL2.out (by rwa [tb_ne (by decide)] at h), fun _ => rfl, fun _ => rfl, fun h => CL9.out (by rwa [tb_ne (by decide)] at h), fun h => CL10.out (by rwa [tb_ne (by decide)] at h), fun h => ⟨(QL11.out (by rwa [tb_ne (by decide)] at h)).1, (QL11.out (by rwa [tb_ne (by decide)] at h)).2.1.below hb (QL11.out (by rwa [tb_ne (by decide)] at h)).2.1.lt, (QL11.out (by rwa [tb_ne (by decide)] at h)).2.2⟩⟩
   · refine wpOp_at rfl (by kernel_rfl) (fun K hK => ?_)
     have hd := fun j => @tb_of _ _ j hd
     obtain rfl := CL7.out (hd _ (by decide))
     go_simp
     go_at_call 62
     refine (C3.out _).mono ?_
     rintro r w10 ⟨rfl, hb⟩
     dsimp only
     have hb1 := below_step HB0.out hb
     exact hK _ _ ⟨HS11.out _ hb1, v2, v4, _, _, v10, p11_, g11_, by go_simp, hb1, fun h => CL2.out (by rwa [tb_ne (by decide)] at h), fun h => CL4.out (by rwa [tb_ne (by decide)] at h), fun _ => rfl, fun _ => rfl, fun h => CL10.out (by rwa [tb_ne (by decide)] at h), fun h => ⟨(QL11.out (by rwa [tb_ne (by decide)] at h)).1, (QL11.out (by rwa [tb_ne (by decide)] at h)).2.1.below hb (QL11.out (by rwa [tb_ne (by decide)] at h)).2.1.lt, (QL11.out (by rwa [tb_ne (by decide)] at h)).2.2⟩⟩
   · refine wpOp_at rfl (by kernel_rfl) (fun K hK => ?_)
     have hd := fun j => @tb_of _ _ j hd
     obtain rfl := CL4.out (hd _ (by decide))
     obtain rfl := CL9.out (hd _ (by decide))
     go_simp
     go_at_call 66
     refine (C4.out _).mono ?_
     rintro r w10 ⟨rfl, hb⟩
     dsimp only
     have hb1 := below_step HB0.out hb
     exact hK _ _ ⟨HS11.out _ hb1, v2, _, v7, _, _, p11_, g11_, by go_simp, hb1, fun h => CL2.out (by rwa [tb_ne (by decide)] at h), fun _ => rfl, fun h => CL7.out (by rwa [tb_ne (by decide)] at h), fun _ => rfl, fun _ => rfl, fun h => ⟨(QL11.out (by rwa [tb_ne (by decide)] at h)).1, (QL11.out (by rwa [tb_ne (by decide)] at h)).2.1.below hb (QL11.out (by rwa [tb_ne (by decide)] at h)).2.1.lt, (QL11.out (by rwa [tb_ne (by decide)] at h)).2.2⟩⟩
   · refine wpOp_at rfl (by kernel_rfl) (fun K hK => ?_)
     have hd := fun j => @tb_of _ _ j hd
     go_simp
     have hb1 := below_more HB0.out (.cells #[.float .f64 0, .float .f64 0] 28)
     exact hK _ _ ⟨HS11.out _ hb1, v2, v4, v7, v9, v10, .pointer (some ⟨w9.heap.size, 0, none⟩), w9.heap.size, by go_simp, hb1, fun h => CL2.out (by rwa [tb_ne (by decide)] at h), fun h => CL4.out (by rwa [tb_ne (by decide)] at h), fun h => CL7.out (by rwa [tb_ne (by decide)] at h), fun h => CL9.out (by rwa [tb_ne (by decide)] at h), fun h => CL10.out (by rwa [tb_ne (by decide)] at h), fun _ => ⟨rfl, Blk.new_at _ _ _ rfl, HB0.out.size⟩⟩
 clear hS4 D3 HS11
 intro a' W24 hJ
 obtain ⟨v2, v4, v7, v9, v10, p11_, g25, rfl, hb0, cl2, cl4, cl7, cl9, cl10, ql11⟩ := hJ
 obtain rfl := cl2 (by decide)
 obtain rfl := cl4 (by decide)
 obtain rfl := cl7 (by decide)
 obtain rfl := cl9 (by decide)
 obtain rfl := cl10 (by decide)
 obtain ⟨rfl, kk11, ll11⟩ := ql11 (by decide)
 have D14 := Lib.hid hb0
 clear hb0
 refine wpAnyH_frame (a' := ?frq13) ?feq13 ?fgq13
 case feq13 => (go_simp; try with_reducible rfl)
 have K16 := Lib.hid ((kb K0 D14) : Blk W24 (w.heap.size) 28 #[.float .f64 i.lo, .float .f64 i.hi])
 have K17 := Lib.hid ((kb K1 D14) : Blk W24 (w.heap.size + 1) 28 #[.float .f64 o.lo, .float .f64 o.hi])
 have K18 := Lib.hid ((kb K2 D14) : Blk W24 (w.heap.size + 1 + 1) 28 #[.float .f64 q.lo, .float .f64 q.hi])
 have K19 := Lib.hid ((kb K3 D14) : Blk W24 (w.heap.size + 1 + 1 + 1) 28 #[.float .f64 0, .float .f64 0])
 have K20 := Lib.hid kk11
 clear kk11
 have HB23 := Lib.hid (below_step HB.out D14.out)
 have Y22 := Lib.hid (show w.heap.size ≤ g25 ∧ w.heap.size < g25 ∧ w.heap.size + 1 < g25 ∧ w.heap.size + 1 + 1 < g25 ∧ w.heap.size + 1 + 1 + 1 < g25 from ⟨Nat.le_trans HB.out.size ll11, Nat.lt_of_lt_of_le K0.out.lt ll11, Nat.lt_of_lt_of_le K1.out.lt ll11, Nat.lt_of_lt_of_le K2.out.lt ll11, Nat.lt_of_lt_of_le K3.out.lt ll11⟩)
 clear K0 K1 K2 K3 ll11 HB
 have D26 := Lib.hid (Below.refl W24.heap.size W24)
 clear D14
 have hS27 : True ∧ CellsL W24 (w.heap.size) 0 [.float .f64 i.lo, .float .f64 i.hi] ∧ CellsL W24 (w.heap.size + 1) 0 [.float .f64 o.lo, .float .f64 o.hi] ∧ CellsL W24 (w.heap.size + 1 + 1) 0 [.float .f64 q.lo, .float .f64 q.hi] := ⟨trivial, (kb K16 D26).cellsL 0 [.float .f64 i.lo, .float .f64 i.hi] rfl, (kb K17 D26).cellsL 0 [.float .f64 o.lo, .float .f64 o.hi] rfl, (kb K18 D26).cellsL 0 [.float .f64 q.lo, .float .f64 q.hi] rfl⟩
 refine wpAnyH_oneM (i := 12) (l' := bm 13 8191) rfl (by kernel_rfl) (by kernel_rfl) (by kernel_rfl) (fun K hK => ?_)
 have f30 := (kb K20 D26).cellsL 0 [.float .f64 0, .float .f64 0] rfl
 dsimp only [CellsL, al, vl, Nat.reduceAdd] at f30
 have u31 := (kb K20 D26).unfrozen
 obtain ⟨V28, hV29⟩ : ∃ V, setCells W24 (g25) 0 [.float .f64 p4.lo, .float .f64 p4.hi] = V := ⟨_, rfl⟩
 have hv32 := hV29
 simp only [setCells, Nat.reduceAdd] at hv32
 have K33 := kf hV29 K16 D26 (by have := Y22.out; omega)
 have K34 := kf hV29 K17 D26 (by have := Y22.out; omega)
 have K35 := kf hV29 K18 D26 (by have := Y22.out; omega)
 have K36 := kf hV29 K19 D26 (by have := Y22.out; omega)
 have K37 := Lib.hid (show Blk V28 (g25) 28 #[.float .f64 p4.lo, .float .f64 p4.hi] from (ks hV29 K20 D26).out)
 have HB38 := hbs hV29 HB23 D26 (by have := Y22.out; omega)
 have D39 := dr V28
 clear K16 K17 K18 K19 K20 HB23 D26
 go_simp
 clear hV29 f30 u31 hv32
 have hS40 : True ∧ CellsL V28 (w.heap.size) 0 [.float .f64 i.lo, .float .f64 i.hi] ∧ CellsL V28 (w.heap.size + 1) 0 [.float .f64 o.lo, .float .f64 o.hi] ∧ CellsL V28 (w.heap.size + 1 + 1) 0 [.float .f64 q.lo, .float .f64 q.hi] := ⟨trivial, (kb K33 D39).cellsL 0 [.float .f64 i.lo, .float .f64 i.hi] rfl, (kb K34 D39).cellsL 0 [.float .f64 o.lo, .float .f64 o.hi] rfl, (kb K35 D39).cellsL 0 [.float .f64 q.lo, .float .f64 q.hi] rfl⟩
 refine hK _ _ hS40 ?_
 clear hK K hS27
 refine wpAnyH_done (by kernel_rfl) ?_ _
 clear hS40
 go_wp2_with fail
 refine wp_region_held (S := (fun w' => True ∧ CellsL w' (w.heap.size) 0 [.float .f64 i.lo, .float .f64 i.hi] ∧ CellsL w' (w.heap.size + 1) 0 [.float .f64 o.lo, .float .f64 o.hi] ∧ CellsL w' (w.heap.size + 1 + 1) 0 [.float .f64 q.lo, .float .f64 q.hi])) (by kernel_rfl) ?_
 change wpAnyH _ _ _ _ _ _ _ _ (World.drew _)
 obtain ⟨wd41, hwd⟩ : ∃ x, x = World.drew V28 := ⟨_, rfl⟩
 rw [← hwd]
 have D42 := Lib.hid (hwd ▸ Below.drew D39.out : Below V28.heap.size V28 wd41)
 clear D39 hwd
 have hS43 : True ∧ CellsL wd41 (w.heap.size) 0 [.float .f64 i.lo, .float .f64 i.hi] ∧ CellsL wd41 (w.heap.size + 1) 0 [.float .f64 o.lo, .float .f64 o.hi] ∧ CellsL wd41 (w.heap.size + 1 + 1) 0 [.float .f64 q.lo, .float .f64 q.hi] := ⟨trivial, (kb K33 D42).cellsL 0 [.float .f64 i.lo, .float .f64 i.hi] rfl, (kb K34 D42).cellsL 0 [.float .f64 o.lo, .float .f64 o.hi] rfl, (kb K35 D42).cellsL 0 [.float .f64 q.lo, .float .f64 q.hi] rfl⟩
 refine tke 0 (bm 13 1) hS43 ?_
 refine tke 1 (bm 13 3) hS43 ?_
 refine tke 2 (bm 13 7) hS43 ?_
 refine tke 5 (bm 13 39) hS43 ?_
 refine tke 6 (bm 13 103) hS43 ?_
 refine tke 7 (bm 13 231) hS43 ?_
 have HS50 := Lib.hid (show ∀ w', Below V28.heap.size V28 w' → (True ∧ CellsL w' (w.heap.size) 0 [.float .f64 i.lo, .float .f64 i.hi] ∧ CellsL w' (w.heap.size + 1) 0 [.float .f64 o.lo, .float .f64 o.hi] ∧ CellsL w' (w.heap.size + 1 + 1) 0 [.float .f64 q.lo, .float .f64 q.hi]) from fun w' b => ⟨trivial, (K33.out.below b K33.out.lt).cellsL 0 [.float .f64 i.lo, .float .f64 i.hi] rfl, (K34.out.below b K34.out.lt).cellsL 0 [.float .f64 o.lo, .float .f64 o.hi] rfl, (K35.out.below b K35.out.lt).cellsL 0 [.float .f64 q.lo, .float .f64 q.hi] rfl⟩)
 refine wpAnyH_sets2 (N := 13) (stop := 4095) (F := 1) (m := 231) (R := [3, 4, 8, 9, 10, 11]) (M := [231, 239, 2279, 255, 2287, 511, 2303, 1023, 2559, 2047, 3071, 4095]) (fun i => if i = 3 then 6 else if i = 4 then 9 else if i = 8 then 208 else if i = 9 then 288 else if i = 10 then 528 else if i = 11 then 0 else 0) (fun a0 m a w9 => ∃ (v3 v4 v8 v9 v10 p11_ : Value) (g11_ : Nat), a = ((((((a0.put (some 23) v3).put (some 24) v4).put (some 28) v8).put (some 29) v9).put (some 30) v10).put (some 8) p11_) ∧ Below V28.heap.size V28 w9 ∧ (m.testBit 3 = true → v3 = Value.agg #[.float .f64 p5.lo, .float .f64 p5.hi]) ∧ (m.testBit 4 = true → v4 = Value.agg #[.float .f64 p6.lo, .float .f64 p6.hi]) ∧ (m.testBit 8 = true → v8 = Value.agg #[.float .f64 p5.lo, .float .f64 p5.hi]) ∧ (m.testBit 9 = true → v9 = Value.agg #[.float .f64 p8.lo, .float .f64 p8.hi]) ∧ (m.testBit 10 = true → v10 = Value.agg #[.float .f64 p9.lo, .float .f64 p9.hi]) ∧ (m.testBit 11 = true → p11_ = .pointer (some ⟨g11_, 0, none⟩) ∧ Blk w9 g11_ 28 #[.float .f64 0, .float .f64 0] ∧ V28.heap.size ≤ g11_)) (by kernel_rfl) (by kernel_rfl) (by kernel_rfl) (by kernel_rfl) ?st2 ?sp2 ?re2
 case st2 =>
   exact ⟨undef, undef, undef, undef, undef, undef, 0, by go_simp, D42.out, fun h => absurd h (by decide), fun h => absurd h (by decide), fun h => absurd h (by decide), fun h => absurd h (by decide), fun h => absurd h (by decide), fun h => absurd h (by decide)⟩
 case sp2 =>
   intro m a' w9 i hi hm hd hJ
   obtain ⟨v3, v4, v8, v9, v10, p11_, g11_, rfl, hb0, cl3, cl4, cl8, cl9, cl10, ql11⟩ := hJ
   have CL3 := Lib.hid cl3
   have CL4 := Lib.hid cl4
   have CL8 := Lib.hid cl8
   have CL9 := Lib.hid cl9
   have CL10 := Lib.hid cl10
   have QL11 := Lib.hid ql11
   have HB0 := Lib.hid hb0
   clear cl3 cl4 cl8 cl9 cl10 ql11 hb0 hS43
   simp only [List.mem_cons, List.not_mem_nil, or_false] at hi
   rcases hi with rfl | rfl | rfl | rfl | rfl | rfl
   · refine wpOp_at rfl (by kernel_rfl) (fun K hK => ?_)
     have hd := fun j => @tb_of _ _ j hd
     go_simp
     go_at_call 77
     refine (C5.out _).mono ?_
     rintro r w10 ⟨rfl, hb⟩
     dsimp only
     have hb1 := below_step HB0.out hb
     exact hK _ _ ⟨HS50.out _ hb1, _, v4, v8, v9, v10, p11_, g11_, by go_simp, hb1, fun _ => rfl, fun h => CL4.out (by rwa [tb_ne (by decide)] at h), fun h => CL8.out (by rwa [tb_ne (by decide)] at h), fun h => CL9.out (by rwa [tb_ne (by decide)] at h), fun h => CL10.out (by rwa [tb_ne (by decide)] at h), fun h => ⟨(QL11.out (by rwa [tb_ne (by decide)] at h)).1, (QL11.out (by rwa [tb_ne (by decide)] at h)).2.1.below hb (QL11.out (by rwa [tb_ne (by decide)] at h)).2.1.lt, (QL11.out (by rwa [tb_ne (by decide)] at h)).2.2⟩⟩
   · refine wpOp_at rfl (by kernel_rfl) (fun K hK => ?_)
     have hd := fun j => @tb_of _ _ j hd
     obtain rfl := CL3.out (hd _ (by decide))
     go_simp
     go_at_call 76
     refine (C6.out _).mono ?_
     rintro r w10 ⟨rfl, hb⟩
     dsimp only
     have hb1 := below_step HB0.out hb
     exact hK _ _ ⟨HS50.out _ hb1, _, _, v8, v9, v10, p11_, g11_, by go_simp, hb1, fun _ => rfl, fun _ => rfl, fun h => CL8.out (by rwa [tb_ne (by decide)] at h), fun h => CL9.out (by rwa [tb_ne (by decide)] at h), fun h => CL10.out (by rwa [tb_ne (by decide)] at h), fun h => ⟨(QL11.out (by rwa [tb_ne (by decide)] at h)).1, (QL11.out (by rwa [tb_ne (by decide)] at h)).2.1.below hb (QL11.out (by rwa [tb_ne (by decide)] at h)).2.1.lt, (QL11.out (by rwa [tb_ne (by decide)] at h)).2.2⟩⟩
   · refine wpOp_at rfl (by kernel_rfl) (fun K hK => ?_)
     have hd := fun j => @tb_of _ _ j hd
     obtain rfl := CL4.out (hd _ (by decide))
     go_simp
     go_at_call 77
     refine (C7.out _).mono ?_
     rintro r w10 ⟨rfl, hb⟩
     dsimp only
     have hb1 := below_step HB0.out hb
     exact hK _ _ ⟨HS50.out _ hb1, v3, _, _, v9, v10, p11_, g11_, by go_simp, hb1, fun h => CL3.out (by rwa [tb_ne (by decide)] at h), fun _ => rfl, fun _ => rfl, fun h => CL9.out (by rwa [tb_ne (by decide)] at h), fun h => CL10.out (by rwa [tb_ne (by decide)] at h), fun h => ⟨(QL11.out (by rwa [tb_ne (by decide)] at h)).1, (QL11.out (by rwa [tb_ne (by decide)] at h)).2.1.below hb (QL11.out (by rwa [tb_ne (by decide)] at h)).2.1.lt, (QL11.out (by rwa [tb_ne (by decide)] at h)).2.2⟩⟩
   · refine wpOp_at rfl (by kernel_rfl) (fun K hK => ?_)
     have hd := fun j => @tb_of _ _ j hd
     obtain rfl := CL8.out (hd _ (by decide))
     go_simp
     go_at_call 62
     refine (C8.out _).mono ?_
     rintro r w10 ⟨rfl, hb⟩
     dsimp only
     have hb1 := below_step HB0.out hb
     exact hK _ _ ⟨HS50.out _ hb1, v3, v4, _, _, v10, p11_, g11_, by go_simp, hb1, fun h => CL3.out (by rwa [tb_ne (by decide)] at h), fun h => CL4.out (by rwa [tb_ne (by decide)] at h), fun _ => rfl, fun _ => rfl, fun h => CL10.out (by rwa [tb_ne (by decide)] at h), fun h => ⟨(QL11.out (by rwa [tb_ne (by decide)] at h)).1, (QL11.out (by rwa [tb_ne (by decide)] at h)).2.1.below hb (QL11.out (by rwa [tb_ne (by decide)] at h)).2.1.lt, (QL11.out (by rwa [tb_ne (by decide)] at h)).2.2⟩⟩
   · refine wpOp_at rfl (by kernel_rfl) (fun K hK => ?_)
     have hd := fun j => @tb_of _ _ j hd
     obtain rfl := CL4.out (hd _ (by decide))
     obtain rfl := CL9.out (hd _ (by decide))
     go_simp
     go_at_call 66
     refine (C9.out _).mono ?_
     rintro r w10 ⟨rfl, hb⟩
     dsimp only
     have hb1 := below_step HB0.out hb
     exact hK _ _ ⟨HS50.out _ hb1, v3, _, v8, _, _, p11_, g11_, by go_simp, hb1, fun h => CL3.out (by rwa [tb_ne (by decide)] at h), fun _ => rfl, fun h => CL8.out (by rwa [tb_ne (by decide)] at h), fun _ => rfl, fun _ => rfl, fun h => ⟨(QL11.out (by rwa [tb_ne (by decide)] at h)).1, (QL11.out (by rwa [tb_ne (by decide)] at h)).2.1.below hb (QL11.out (by rwa [tb_ne (by decide)] at h)).2.1.lt, (QL11.out (by rwa [tb_ne (by decide)] at h)).2.2⟩⟩
   · refine wpOp_at rfl (by kernel_rfl) (fun K hK => ?_)
     have hd := fun j => @tb_of _ _ j hd
     go_simp
     have hb1 := below_more HB0.out (.cells #[.float .f64 0, .float .f64 0] 28)
     exact hK _ _ ⟨HS50.out _ hb1, v3, v4, v8, v9, v10, .pointer (some ⟨w9.heap.size, 0, none⟩), w9.heap.size, by go_simp, hb1, fun h => CL3.out (by rwa [tb_ne (by decide)] at h), fun h => CL4.out (by rwa [tb_ne (by decide)] at h), fun h => CL8.out (by rwa [tb_ne (by decide)] at h), fun h => CL9.out (by rwa [tb_ne (by decide)] at h), fun h => CL10.out (by rwa [tb_ne (by decide)] at h), fun _ => ⟨rfl, Blk.new_at _ _ _ rfl, HB0.out.size⟩⟩
 clear hS43 D42 HS50
 intro a' W65 hJ
 obtain ⟨v3, v4, v8, v9, v10, p11_, g66, rfl, hb0, cl3, cl4, cl8, cl9, cl10, ql11⟩ := hJ
 obtain rfl := cl3 (by decide)
 obtain rfl := cl4 (by decide)
 obtain rfl := cl8 (by decide)
 obtain rfl := cl9 (by decide)
 obtain rfl := cl10 (by decide)
 obtain ⟨rfl, kk11, ll11⟩ := ql11 (by decide)
 have D53 := Lib.hid hb0
 clear hb0
 refine wpAnyH_frame (a' := ?frq52) ?feq52 ?fgq52
 case feq52 => (go_simp; try with_reducible rfl)
 have K55 := Lib.hid ((kb K33 D53) : Blk W65 (w.heap.size) 28 #[.float .f64 i.lo, .float .f64 i.hi])
 have K56 := Lib.hid ((kb K34 D53) : Blk W65 (w.heap.size + 1) 28 #[.float .f64 o.lo, .float .f64 o.hi])
 have K57 := Lib.hid ((kb K35 D53) : Blk W65 (w.heap.size + 1 + 1) 28 #[.float .f64 q.lo, .float .f64 q.hi])
 have K58 := Lib.hid ((kb K36 D53) : Blk W65 (w.heap.size + 1 + 1 + 1) 28 #[.float .f64 0, .float .f64 0])
 have K59 := Lib.hid ((kb K37 D53) : Blk W65 (g25) 28 #[.float .f64 p4.lo, .float .f64 p4.hi])
 have K60 := Lib.hid kk11
 clear kk11
 have HB63 := Lib.hid (below_step HB38.out D53.out)
 have Y62 := Lib.hid (show w.heap.size ≤ g66 ∧ w.heap.size < g66 ∧ w.heap.size + 1 < g66 ∧ w.heap.size + 1 + 1 < g66 ∧ w.heap.size + 1 + 1 + 1 < g66 ∧ g25 < g66 from ⟨Nat.le_trans HB38.out.size ll11, Nat.lt_of_lt_of_le K33.out.lt ll11, Nat.lt_of_lt_of_le K34.out.lt ll11, Nat.lt_of_lt_of_le K35.out.lt ll11, Nat.lt_of_lt_of_le K36.out.lt ll11, Nat.lt_of_lt_of_le K37.out.lt ll11⟩)
 have Y64 := Lib.hid (And.intro Y22.out Y62.out)
 clear Y22 Y62
 clear K33 K34 K35 K36 K37 ll11 HB38
 have D67 := Lib.hid (Below.refl W65.heap.size W65)
 clear D53
 have hS68 : True ∧ CellsL W65 (w.heap.size) 0 [.float .f64 i.lo, .float .f64 i.hi] ∧ CellsL W65 (w.heap.size + 1) 0 [.float .f64 o.lo, .float .f64 o.hi] ∧ CellsL W65 (w.heap.size + 1 + 1) 0 [.float .f64 q.lo, .float .f64 q.hi] := ⟨trivial, (kb K55 D67).cellsL 0 [.float .f64 i.lo, .float .f64 i.hi] rfl, (kb K56 D67).cellsL 0 [.float .f64 o.lo, .float .f64 o.hi] rfl, (kb K57 D67).cellsL 0 [.float .f64 q.lo, .float .f64 q.hi] rfl⟩
 refine wpAnyH_oneM (i := 12) (l' := bm 13 8191) rfl (by kernel_rfl) (by kernel_rfl) (by kernel_rfl) (fun K hK => ?_)
 have f71 := (kb K60 D67).cellsL 0 [.float .f64 0, .float .f64 0] rfl
 dsimp only [CellsL, al, vl, Nat.reduceAdd] at f71
 have u72 := (kb K60 D67).unfrozen
 obtain ⟨V69, hV70⟩ : ∃ V, setCells W65 (g66) 0 [.float .f64 p9.lo, .float .f64 p9.hi] = V := ⟨_, rfl⟩
 have hv73 := hV70
 simp only [setCells, Nat.reduceAdd] at hv73
 have K74 := kf hV70 K55 D67 (by have := Y64.out; omega)
 have K75 := kf hV70 K56 D67 (by have := Y64.out; omega)
 have K76 := kf hV70 K57 D67 (by have := Y64.out; omega)
 have K77 := kf hV70 K58 D67 (by have := Y64.out; omega)
 have K78 := kf hV70 K59 D67 (by have := Y64.out; omega)
 have K79 := Lib.hid (show Blk V69 (g66) 28 #[.float .f64 p9.lo, .float .f64 p9.hi] from (ks hV70 K60 D67).out)
 have HB80 := hbs hV70 HB63 D67 (by have := Y64.out; omega)
 have D81 := dr V69
 clear K55 K56 K57 K58 K59 K60 HB63 D67
 go_simp
 clear hV70 f71 u72 hv73
 have hS82 : True ∧ CellsL V69 (w.heap.size) 0 [.float .f64 i.lo, .float .f64 i.hi] ∧ CellsL V69 (w.heap.size + 1) 0 [.float .f64 o.lo, .float .f64 o.hi] ∧ CellsL V69 (w.heap.size + 1 + 1) 0 [.float .f64 q.lo, .float .f64 q.hi] := ⟨trivial, (kb K74 D81).cellsL 0 [.float .f64 i.lo, .float .f64 i.hi] rfl, (kb K75 D81).cellsL 0 [.float .f64 o.lo, .float .f64 o.hi] rfl, (kb K76 D81).cellsL 0 [.float .f64 q.lo, .float .f64 q.hi] rfl⟩
 refine hK _ _ hS82 ?_
 clear hK K hS68
 refine wpAnyH_done (by kernel_rfl) ?_ _
 clear hS82
 go_wp2_with fail
 refine wp_region_held (S := (fun w' => True ∧ CellsL w' (g25) 0 [.float .f64 p4.lo, .float .f64 p4.hi] ∧ CellsL w' (g66) 0 [.float .f64 p9.lo, .float .f64 p9.hi])) (by kernel_rfl) ?_
 change wpAnyH _ _ _ _ _ _ _ _ (World.drew _)
 obtain ⟨wd83, hwd⟩ : ∃ x, x = World.drew V69 := ⟨_, rfl⟩
 rw [← hwd]
 have D84 := Lib.hid (hwd ▸ Below.drew D81.out : Below V69.heap.size V69 wd83)
 clear D81 hwd
 have hS85 : True ∧ CellsL wd83 (g25) 0 [.float .f64 p4.lo, .float .f64 p4.hi] ∧ CellsL wd83 (g66) 0 [.float .f64 p9.lo, .float .f64 p9.hi] := ⟨trivial, (kb K78 D84).cellsL 0 [.float .f64 p4.lo, .float .f64 p4.hi] rfl, (kb K79 D84).cellsL 0 [.float .f64 p9.lo, .float .f64 p9.hi] rfl⟩
 refine tke 0 (bm 8 1) hS85 ?_
 refine tke 2 (bm 8 5) hS85 ?_
 refine wpAnyH_oneN (i := 1) (l' := bm 8 7) rfl (by kernel_rfl) (by kernel_rfl) (by kernel_rfl) (fun K hK => ?_)
 go_simp
 go_at_call 63
 refine (C10.out _).mono ?_
 rintro r w88 ⟨rfl, hb⟩
 dsimp only
 have D89 := ds D84 hb
 clear D84
 clear hb
 have hS90 : True ∧ CellsL w88 (g25) 0 [.float .f64 p4.lo, .float .f64 p4.hi] ∧ CellsL w88 (g66) 0 [.float .f64 p9.lo, .float .f64 p9.hi] := ⟨trivial, (kb K78 D89).cellsL 0 [.float .f64 p4.lo, .float .f64 p4.hi] rfl, (kb K79 D89).cellsL 0 [.float .f64 p9.lo, .float .f64 p9.hi] rfl⟩
 refine hK _ _ hS90 ?_
 clear hK K hS85
 refine wpAnyH_oneN (i := 3) (l' := bm 8 15) rfl (by kernel_rfl) (by kernel_rfl) (by kernel_rfl) (fun K hK => ?_)
 go_simp
 go_at_call 63
 refine (C11.out _).mono ?_
 rintro r w91 ⟨rfl, hb⟩
 dsimp only
 have D92 := ds D89 hb
 clear D89
 clear hb
 have hS93 : True ∧ CellsL w91 (g25) 0 [.float .f64 p4.lo, .float .f64 p4.hi] ∧ CellsL w91 (g66) 0 [.float .f64 p9.lo, .float .f64 p9.hi] := ⟨trivial, (kb K78 D92).cellsL 0 [.float .f64 p4.lo, .float .f64 p4.hi] rfl, (kb K79 D92).cellsL 0 [.float .f64 p9.lo, .float .f64 p9.hi] rfl⟩
 refine hK _ _ hS93 ?_
 clear hK K hS90
 refine wpAnyH_oneN (i := 4) (l' := bm 8 31) rfl (by kernel_rfl) (by kernel_rfl) (by kernel_rfl) (fun K hK => ?_)
 go_simp
 go_at_call 62
 refine (C12.out _).mono ?_
 rintro r w94 ⟨rfl, hb⟩
 dsimp only
 have D95 := ds D92 hb
 clear D92
 clear hb
 have hS96 : True ∧ CellsL w94 (g25) 0 [.float .f64 p4.lo, .float .f64 p4.hi] ∧ CellsL w94 (g66) 0 [.float .f64 p9.lo, .float .f64 p9.hi] := ⟨trivial, (kb K78 D95).cellsL 0 [.float .f64 p4.lo, .float .f64 p4.hi] rfl, (kb K79 D95).cellsL 0 [.float .f64 p9.lo, .float .f64 p9.hi] rfl⟩
 refine hK _ _ hS96 ?_
 clear hK K hS93
 refine wpAnyH_oneN (i := 5) (l' := bm 8 63) rfl (by kernel_rfl) (by kernel_rfl) (by kernel_rfl) (fun K hK => ?_)
 go_simp
 go_at_call 64
 refine (C13.out _).mono ?_
 rintro r w97 ⟨rfl, hb⟩
 dsimp only
 have D98 := ds D95 hb
 clear D95
 clear hb
 have hS99 : True ∧ CellsL w97 (g25) 0 [.float .f64 p4.lo, .float .f64 p4.hi] ∧ CellsL w97 (g66) 0 [.float .f64 p9.lo, .float .f64 p9.hi] := ⟨trivial, (kb K78 D98).cellsL 0 [.float .f64 p4.lo, .float .f64 p4.hi] rfl, (kb K79 D98).cellsL 0 [.float .f64 p9.lo, .float .f64 p9.hi] rfl⟩
 refine hK _ _ hS99 ?_
 clear hK K hS96
 refine wpAnyH_oneN (i := 6) (l' := bm 8 127) rfl (by kernel_rfl) (by kernel_rfl) (by kernel_rfl) (fun K hK => ?_)
 go_simp
 go_at_call 77
 refine (C14.out _).mono ?_
 rintro r w100 ⟨rfl, hb⟩
 dsimp only
 have D101 := ds D98 hb
 clear D98
 clear hb
 have hS102 : True ∧ CellsL w100 (g25) 0 [.float .f64 p4.lo, .float .f64 p4.hi] ∧ CellsL w100 (g66) 0 [.float .f64 p9.lo, .float .f64 p9.hi] := ⟨trivial, (kb K78 D101).cellsL 0 [.float .f64 p4.lo, .float .f64 p4.hi] rfl, (kb K79 D101).cellsL 0 [.float .f64 p9.lo, .float .f64 p9.hi] rfl⟩
 refine hK _ _ hS102 ?_
 clear hK K hS99
 refine wpAnyH_oneN (i := 7) (l' := bm 8 255) rfl (by kernel_rfl) (by kernel_rfl) (by kernel_rfl) (fun K hK => ?_)
 have f105 := (kb K77 D101).cellsL 0 [.float .f64 0, .float .f64 0] rfl
 dsimp only [CellsL, al, vl, Nat.reduceAdd] at f105
 have u106 := (kb K77 D101).unfrozen
 obtain ⟨V103, hV104⟩ : ∃ V, setCells w100 (w.heap.size + 1 + 1 + 1) 0 [.float .f64 p14.lo, .float .f64 p14.hi] = V := ⟨_, rfl⟩
 have hv107 := hV104
 simp only [setCells, Nat.reduceAdd] at hv107
 have K108 := kf hV104 K74 D101 (by have := Y64.out; omega)
 have K109 := kf hV104 K75 D101 (by have := Y64.out; omega)
 have K110 := kf hV104 K76 D101 (by have := Y64.out; omega)
 have K111 := Lib.hid (show Blk V103 (w.heap.size + 1 + 1 + 1) 28 #[.float .f64 p14.lo, .float .f64 p14.hi] from (ks hV104 K77 D101).out)
 have K112 := kf hV104 K78 D101 (by have := Y64.out; omega)
 have K113 := kf hV104 K79 D101 (by have := Y64.out; omega)
 have HB114 := hbs hV104 HB80 D101 (by have := Y64.out; omega)
 have D115 := dr V103
 clear K74 K75 K76 K77 K78 K79 HB80 D101
 go_simp
 clear hV104 f105 u106 hv107
 have hS116 : True ∧ CellsL V103 (g25) 0 [.float .f64 p4.lo, .float .f64 p4.hi] ∧ CellsL V103 (g66) 0 [.float .f64 p9.lo, .float .f64 p9.hi] := ⟨trivial, (kb K112 D115).cellsL 0 [.float .f64 p4.lo, .float .f64 p4.hi] rfl, (kb K113 D115).cellsL 0 [.float .f64 p9.lo, .float .f64 p9.hi] rfl⟩
 refine hK _ _ hS116 ?_
 clear hK K hS102
 refine wpAnyH_done (by kernel_rfl) ?_ _
 clear hS116
 go_wp2_with fail
 (try simp only [Exit.inBlock, Exit.then])
 exact bodyPost_ret (res_c rfl _ _ (w.heap.size + 1 + 1 + 1) #[.float .f64 p14.lo, .float .f64 p14.hi] rfl (kb K111 D115) (by rw [info_Span]; rfl) Try.underlying28 rfl) rfl ⟨rfl, below_step HB114.out D115.out⟩
end Go.Proofs.Ytnljfcebmgifdaa
