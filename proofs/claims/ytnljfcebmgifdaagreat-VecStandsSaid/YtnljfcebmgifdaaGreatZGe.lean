/- Shaken: Sa Ge. -/
import Derived.Test.YtnljfcebmgifdaaGreatZGd
import Derived.Test.YtnljfcebmgifdaaGreatZQa
import Derived.Test.YtnljfcebmgifdaaGreatZGb
import Derived.Handy
import Derived.BigQuiet
import Derived.Deep.QuietTactic
import Derived.OrdersHeld
import Derived.Laws.StructEq
import Derived.LoopN
set_option linter.unusedVariables false
set_option linter.unusedSimpArgs false
namespace Go.Proofs.YtnljfcebmgifdaaGreat
open Go.RowKit
@[go_sem] theorem run_store_float {P : Program} {w : World} {a : Addr} {m : Mode} (x : Nat) : (store a (.float .f64 x) m).run P w = stored P w a (.float .f64 x) m := run_store P w a _ m rfl
theorem infoS : (Tryz.prog.info? 24).map (·.size) = some 2 := by kernel_rfl
theorem resS {fn : Func} {p : Tmp} (h : fn.results = #[.cell p 24]) (tmps : Array Value) (w : World) (g : Nat) (a b : Value)
   (hp : tmps.getD p undef = .pointer (some ⟨g, 0, none⟩)) (hg : Blk w g 24 #[a, b]) :
   (results fn tmps).run Tryz.prog w = .ok (.agg #[a, b]) w :=
 results_cell_row h tmps w g _ _ (0, 0) _ hp hg Tryz.underlying24 rfl (by rw [infoS]; rfl)
theorem run_min_gd {P : Program} {x y : Nat} (hx : Gd x) (hy : Gd y) (ts : Array TypeId) (t : TypeId) (w : World) : (Builtin.min_ ts t #[.float .f64 x, .float .f64 y]).run P w = .ok (.float .f64 (mn x y)) w := by
 unfold mn
 rcases Int.lt_trichotomy (Fl.Z x) (Fl.Z y) with h | h | h
 · have hc : compare (Fl.Z x) (Fl.Z y) = .lt := by simp [compare, compareOfLessAndEq, h]
   simp [Builtin.min_, Builtin.min2, order_gd hx hy, hc]
   intro; omega
 · have := hx.inj hy h
   subst this
   simp [Builtin.min_, Builtin.min2, order_gd hx hx]
 · have hc : compare (Fl.Z x) (Fl.Z y) = .gt := by simp [compare, compareOfLessAndEq, show ¬ Fl.Z x < Fl.Z y by omega, show ¬ Fl.Z x = Fl.Z y by omega]
   simp [Builtin.min_, Builtin.min2, order_gd hx hy, hc]
   intro; omega
theorem run_max_gd {P : Program} {x y : Nat} (hx : Gd x) (hy : Gd y) (ts : Array TypeId) (t : TypeId) (w : World) : (Builtin.max_ ts t #[.float .f64 x, .float .f64 y]).run P w = .ok (.float .f64 (mx x y)) w := by
 unfold mx
 rcases Int.lt_trichotomy (Fl.Z x) (Fl.Z y) with h | h | h
 · have hc : compare (Fl.Z x) (Fl.Z y) = .lt := by simp [compare, compareOfLessAndEq, h]
   simp [Builtin.max_, Builtin.max2, order_gd hx hy, hc]
   intro; omega
 · have := hx.inj hy h
   subst this
   simp [Builtin.max_, Builtin.max2, order_gd hx hx]
 · have hc : compare (Fl.Z x) (Fl.Z y) = .gt := by simp [compare, compareOfLessAndEq, show ¬ Fl.Z x < Fl.Z y by omega, show ¬ Fl.Z x = Fl.Z y by omega]
   simp [Builtin.max_, Builtin.max2, order_gd hx hy, hc]
   intro; omega
theorem all_any (w : World) : Calls Tryz.prog 89 #[] w fun r w' => r = .returned (.agg #[.float .f64 18442240474082181120, .float .f64 9218868437227405312]) ∧ ∃ o, w' = w.alloc o := by
 have h1 := Lib.hid (fun w => inf_pos 1 (by decide) w)
 have h2 := Lib.hid (fun w => inf_neg (-1) (by decide) w)
 go_enter Tryz.func89, Tryz.ntmps89
 go_wp2_with fail
 refine (h2.out _).mono ?_
 rintro r w' ⟨rfl, rfl⟩
 go_wp2_with fail
 refine (h1.out _).mono ?_
 rintro r w' ⟨rfl, rfl⟩
 go_wp2_with fail
 go_returns
 exact ⟨rfl, _, rfl⟩
theorem neg_inf : Op.negFloat .f64 9218868437227405312 = 18442240474082181120 := by decide
theorem rall_any (w : World) : Calls Tryz.prog 100 #[] w fun r w' => r = .returned (.agg #[.float .f64 18442240474082181120, .float .f64 9218868437227405312]) ∧ ∃ o, w' = w.alloc o := by
 have h1 := Lib.hid (fun w => rinf_any w)
 have e := neg_inf
 go_enter Tryz.func100, Tryz.ntmps100
 go_wp2_with fail
 refine (h1.out _).mono ?_
 rintro r w' ⟨rfl, rfl⟩
 go_wp2_with fail
 refine (h1.out _).mono ?_
 rintro r w' ⟨rfl, rfl⟩
 go_wp2_with fail
 go_returns
 exact ⟨rfl, _, rfl⟩
theorem low_any (x e : Nat) (w : World) : Calls Tryz.prog 103 #[.float .f64 x, .int .i64 e] w fun r w' => r = .returned (.float .f64 (if e = 0 then x else 18442240474082181120)) ∧ w = w' := by
 have h2 := Lib.hid (fun w => inf_neg (-1) (by decide) w)
 by_cases h : e = 0
 · rw [if_pos h]
   subst h
   go_enter Tryz.func103, Tryz.ntmps103
   go_wp2_with fail
   go_ret
   exact ⟨rfl, rfl⟩
 · rw [if_neg h]
   have E : ((e : Int) != 0) = true := by simp [h]
   go_enter Tryz.func103, Tryz.ntmps103
   go_wp2_with fail
   refine (h2.out _).mono ?_
   rintro r w' ⟨rfl, rfl⟩
   go_wp2_with fail
   go_ret
   exact ⟨rfl, rfl⟩
theorem high_any (x e : Nat) (w : World) : Calls Tryz.prog 105 #[.float .f64 x, .int .i64 e] w fun r w' => r = .returned (.float .f64 (if e = 0 then x else 9218868437227405312)) ∧ w = w' := by
 have h2 := Lib.hid (fun w => inf_pos 1 (by decide) w)
 by_cases h : e = 0
 · rw [if_pos h]
   subst h
   go_enter Tryz.func105, Tryz.ntmps105
   go_wp2_with fail
   go_ret
   exact ⟨rfl, rfl⟩
 · rw [if_neg h]
   have E : ((e : Int) != 0) = true := by simp [h]
   go_enter Tryz.func105, Tryz.ntmps105
   go_wp2_with fail
   refine (h2.out _).mono ?_
   rintro r w' ⟨rfl, rfl⟩
   go_wp2_with fail
   go_ret
   exact ⟨rfl, rfl⟩
end Go.Proofs.YtnljfcebmgifdaaGreat
set_option linter.unusedVariables false
set_option linter.unusedSimpArgs false
namespace Go.Proofs.YtnljfcebmgifdaaGreat
theorem wpAnyH_one {P : Program} {ops : Array Oper} {Q : Exit → Act → World → Prop} {md : Region.Mode} {S : World → Prop} {i : Nat} {o : Oper} {fuel : Nat} {listed : Array Bool} {a : Act} {w : World}
   (hi : ops[i]? = some o) (hr : Region.ready md ops listed = [i]) (hw : Region.wanted o (yielded ops a.tmps) = true)
   (h : ∀ K : Act → World → Prop, (∀ a' w', S w' → wpAnyH P md ops Q S fuel (listed.setIfInBounds i true) a' w' → K a' w') → o.wp P a w K Q) : wpAnyH P md ops Q S (fuel + 1) listed a w := by
 refine wpAnyH_all hr (by simp) ?_
 intro j hj
 obtain rfl : j = i := by simpa using hj
 unfold wpOp
 simp only [hi, hw, if_true]
 exact Or.inl (h _ fun a' w' s k => ⟨s, k⟩)
theorem wpAnyH_oneN {P : Program} {ops : Array Oper} {Q : Exit → Act → World → Prop} {md : Region.Mode} {S : World → Prop} {i : Nat} {o : Oper} {fuel : Nat} {listed l' : Array Bool} {a : Act} {w : World}
   (hi : ops[i]? = some o) (hr : Region.ready md ops listed = [i]) (hw : Region.wanted o (yielded ops a.tmps) = true) (hl : listed.setIfInBounds i true = l')
   (h : ∀ K : Act → World → Prop, (∀ a' w', S w' → wpAnyH P md ops Q S fuel l' a' w' → K a' w') → o.wp P a w K Q) : wpAnyH P md ops Q S (fuel + 1) listed a w := by
 subst hl
 exact wpAnyH_one hi hr hw h
end Go.Proofs.YtnljfcebmgifdaaGreat
namespace Go.Proofs.YtnljfcebmgifdaaGreat
open Go.RowKit
theorem addL_eq (a b : Nat) : (if (addR a b true).2 = 0 then (addR a b true).1 else NI) = addL a b := by
 unfold addL addR
 split <;> rfl
theorem addH_eq (a b : Nat) : (if (addR a b false).2 = 0 then (addR a b false).1 else PI) = addH a b := by
 unfold addH addR
 split <;> rfl
theorem below_new3 (w : World) (o o' o3 : Obj) : Below w.heap.size w (((w.alloc o).alloc o').alloc o3) := (below_new2 w o o').alloc (by simp; omega) _
/-- Behind the boxes of the arguments: a world with those blocks. -/
theorem box2 (w : World) (t1 t2 : TypeId) (c1 c2 : Array Value) : ∃ W, W = (w.alloc (.cells c1 t1)).alloc (.cells c2 t2) ∧ Blk W w.heap.size t1 c1 ∧ Blk W (w.heap.size + 1) t2 c2 ∧ Below w.heap.size w W ∧ W.heap.size = w.heap.size + 1 + 1 :=
 ⟨_, rfl, (Blk.new_at _ _ _ rfl).alloc _, Blk.new_at _ _ _ (by simp), ((Below.refl _ _).alloc (Nat.le_refl _) _).alloc (by simp) _, by simp⟩
theorem box3 (w : World) (t1 t2 t3 : TypeId) (c1 c2 c3 : Array Value) : ∃ W, W = ((w.alloc (.cells c1 t1)).alloc (.cells c2 t2)).alloc (.cells c3 t3) ∧ Blk W w.heap.size t1 c1 ∧ Blk W (w.heap.size + 1) t2 c2 ∧ Blk W (w.heap.size + 1 + 1) t3 c3 ∧ Below w.heap.size w W ∧ W.heap.size = w.heap.size + 1 + 1 + 1 :=
 ⟨_, rfl, ((Blk.new_at _ _ _ rfl).alloc _).alloc _, (Blk.new_at _ _ _ (by simp)).alloc _, Blk.new_at _ _ _ (by simp), (((Below.refl _ _).alloc (Nat.le_refl _) _).alloc (by simp) _).alloc (by simp; omega) _, by simp⟩
/-- W' is a later world: the blocks under B are as they were, and B is a block of n cells of the type T. -/
structure Hd (W : World) (B : Nat) (T : TypeId) (n : Nat) (W' : World) : Prop where
 low : Below B W W'
 res : ∃ cs : Array Value, cs.size = n ∧ Blk W' B T cs
theorem Hd.start {W : World} {B : Nat} {T : TypeId} {cs : Array Value} (h : Blk W B T cs) : Hd W B T cs.size W := ⟨Below.refl _ _, cs, rfl, h⟩
theorem Hd.lt {W W' : World} {B : Nat} {T : TypeId} {n : Nat} (h : Hd W B T n W') : B < W'.heap.size := by obtain ⟨cs, _, hb⟩ := h.res; exact hb.lt
theorem Hd.call {W w1 w2 : World} {B : Nat} {T : TypeId} {n : Nat} (h : Hd W B T n w1) (k : Below w1.heap.size w1 w2) : Hd W B T n w2 := by
 obtain ⟨cs, hn, hb⟩ := h.res
 exact ⟨h.low.trans (k.mono (Nat.le_of_lt hb.lt)), cs, hn, hb.below k hb.lt⟩
theorem Hd.drew {W w1 : World} {B : Nat} {T : TypeId} {n : Nat} (h : Hd W B T n w1) : Hd W B T n w1.drew := ⟨h.low.drew, h.res⟩
theorem Hd.set {W w1 : World} {B : Nat} {T : TypeId} {n : Nat} (h : Hd W B T n w1) (i : Nat) (v : Value) : Hd W B T n (w1.setCell ⟨B, i, none⟩ v) := by
 obtain ⟨cs, hn, hb⟩ := h.res
 exact ⟨h.low.setCell (Nat.le_refl _) v, cs.setIfInBounds i v, by simpa using hn, hb.set_ i v⟩
theorem Hd.far {W w1 : World} {B g : Nat} {T : TypeId} {n : Nat} (h : Hd W B T n w1) (hg : B < g) (i : Nat) (v : Value) : Hd W B T n (w1.setCell ⟨g, i, none⟩ v) := by
 obtain ⟨cs, hn, hb⟩ := h.res
 exact ⟨h.low.setCell (Nat.le_of_lt hg) v, cs, hn, hb.far (by show B ≠ g; omega) v⟩
theorem Hd.alloc {W w1 : World} {B : Nat} {T : TypeId} {n : Nat} (h : Hd W B T n w1) (o : Obj) : Hd W B T n (w1.alloc o) := h.call (below_new w1 o)
theorem Blk.unfrozen {w : World} {g : Nat} {t : TypeId} {cs : Array Value} (h : Blk w g t cs) (i : Nat) : w.frozen? ⟨g, i, none⟩ = false := by
 unfold Blk at h
 simp [World.frozen?, h]
/-- The four facts of a block of two. -/
theorem Blk.both {w : World} {g : Nat} {t : TypeId} {x y : Value} (h : Blk w g t #[x, y]) : w.cell? ⟨g, 0, none⟩ = some x ∧ w.cell? ⟨g, 1, none⟩ = some y ∧ w.frozen? ⟨g, 0, none⟩ = false ∧ w.frozen? ⟨g, 1, none⟩ = false :=
 ⟨h.cell 0, h.cell 1, h.unfrozen 0, h.unfrozen 1⟩
theorem Hd.blk {W w1 : World} {B g : Nat} {T t : TypeId} {n : Nat} {cs : Array Value} (h : Hd W B T n w1) (k : Blk W g t cs) (hg : g < B) : Blk w1 g t cs := k.below h.low hg
theorem Hd.below {w W w1 : World} {B : Nat} {T : TypeId} {n : Nat} (h : Hd W B T n w1) (k : Below w.heap.size w W) (hB : w.heap.size ≤ B) : Below w.heap.size w w1 := k.trans (h.low.mono hB)
theorem Blk.unset {w : World} {g i : Nat} {t : TypeId} {cs : Array Value} {u : Value} (h : Blk (w.setCell ⟨g, i, none⟩ u) g t cs) : ∃ cs0, Blk w g t cs0 ∧ cs = cs0.setIfInBounds i u := by
 unfold Blk at *
 simp only [World.setCell, Array.getElem?_modify, if_true] at h
 cases e : w.heap[g]? with
 | none => rw [e] at h; cases h
 | some o =>
   rw [e] at h
   cases o with
   | cells c el fr =>
     have h := Option.some.inj h
     injection h with h1 h2 h3
     subst h2; subst h3
     exact ⟨c, rfl, h1.symm⟩
   | _ => cases h
/-- The cells that were just written. -/
theorem Hd.wrote2 {W w1 : World} {B : Nat} {T : TypeId} {u v : Value} (h : Hd W B T 2 ((w1.setCell ⟨B, 0, none⟩ u).setCell ⟨B, 1, none⟩ v)) : Blk ((w1.setCell ⟨B, 0, none⟩ u).setCell ⟨B, 1, none⟩ v) B T #[u, v] := by
 obtain ⟨cs, hn, hb⟩ := h.res
 obtain ⟨c1, h1, e1⟩ := hb.unset
 obtain ⟨c2, h2, e2⟩ := h1.unset
 subst e2
 subst e1
 obtain ⟨l⟩ := c2
 have hl : l.length = 2 := by simpa using hn
 match l, hl, hb with
 | [x, y], _, hb => exact hb
theorem all_below (w : World) : Calls Tryz.prog 89 #[] w fun r w' => r = .returned (.agg #[.float .f64 18442240474082181120, .float .f64 9218868437227405312]) ∧ Below w.heap.size w w' := (all_any w).mono fun _ _ ⟨h, o, e⟩ => ⟨h, e ▸ below_new w o⟩
theorem rall_below (w : World) : Calls Tryz.prog 100 #[] w fun r w' => r = .returned (.agg #[.float .f64 18442240474082181120, .float .f64 9218868437227405312]) ∧ Below w.heap.size w w' := (rall_any w).mono fun _ _ ⟨h, o, e⟩ => ⟨h, e ▸ below_new w o⟩
theorem Hd.two {W w1 : World} {B : Nat} {T : TypeId} (h : Hd W B T 2 w1) (u v : Value) : Blk ((w1.setCell ⟨B, 0, none⟩ u).setCell ⟨B, 1, none⟩ v) B T #[u, v] := by
 obtain ⟨⟨l⟩, hn, hb⟩ := h.res
 match l, hn, hb with
 | [x, y], _, hb => exact (hb.set_ 0 u).set_ 1 v
/-- What lies in a cell. -/
def cellAt (w : World) (a : Addr) : Value := (w.cell? a).getD undef
theorem Hd.at_ {W w1 : World} {B : Nat} {T : TypeId} {n : Nat} (h : Hd W B T n w1) (i : Nat) (hi : i < n) : w1.cell? ⟨B, i, none⟩ = some (cellAt w1 ⟨B, i, none⟩) ∧ w1.frozen? ⟨B, i, none⟩ = false := by
 obtain ⟨cs, hn, hb⟩ := h.res
 refine ⟨?_, ?_⟩
 · unfold cellAt
   rw [hb.cell i, Array.getElem?_eq_getElem (by omega)]
   rfl
 · unfold Blk at hb
   simp [World.frozen?, hb]
/-- What a region reads and writes. -/
theorem hold2 {W w' : World} {B g g' : Nat} {T t t' : TypeId} {a b c d : Value} (h : Hd W B T 2 w') (k : Blk W g t #[a, b]) (l : Blk W g' t' #[c, d]) (hg : g < B) (hg' : g' < B) :
   Hd W B T 2 w' ∧ w'.cell? ⟨g, 0, none⟩ = some a ∧ w'.cell? ⟨g, 1, none⟩ = some b ∧ w'.cell? ⟨g', 0, none⟩ = some c ∧ w'.cell? ⟨g', 1, none⟩ = some d ∧
   w'.cell? ⟨B, 0, none⟩ = some (cellAt w' ⟨B, 0, none⟩) ∧ w'.frozen? ⟨B, 0, none⟩ = false ∧ w'.cell? ⟨B, 1, none⟩ = some (cellAt w' ⟨B, 1, none⟩) ∧ w'.frozen? ⟨B, 1, none⟩ = false :=
 ⟨h, (h.blk k hg).cell 0, (h.blk k hg).cell 1, (h.blk l hg').cell 0, (h.blk l hg').cell 1, (h.at_ 0 (by decide)).1, (h.at_ 0 (by decide)).2, (h.at_ 1 (by decide)).1, (h.at_ 1 (by decide)).2⟩
set_option maxHeartbeats 1000000 in
theorem add_sp (a b : Sp) (w : World) : Calls Tryz.prog 67 #[.agg #[.float .f64 a.lo, .float .f64 a.hi], .agg #[.float .f64 b.lo, .float .f64 b.hi]] w fun r w' => r = .returned (.agg #[.float .f64 (addS a b).lo, .float .f64 (addS a b).hi]) ∧ Below w.heap.size w w' := by
 have H1 := Lib.hid (fun w => add_any a.lo b.lo true a.vd.l.lt b.vd.l.lt w)
 have H2 := Lib.hid (fun w => add_any a.hi b.hi false a.vd.h.lt b.vd.h.lt w)
 have H3 := Lib.hid (fun w => low_any (addR a.lo b.lo true).1 (addR a.lo b.lo true).2 w)
 have H4 := Lib.hid (fun w => high_any (addR a.hi b.hi false).1 (addR a.hi b.hi false).2 w)
 rw [addL_eq] at H3
 rw [addH_eq] at H4
 show Calls _ _ _ _ fun r w' => r = .returned (.agg #[.float .f64 (addL a.lo b.lo), .float .f64 (addH a.hi b.hi)]) ∧ Below w.heap.size w w'
 obtain ⟨x, hx⟩ : ∃ x, x = addR a.lo b.lo true := ⟨_, rfl⟩
 obtain ⟨y, hy⟩ : ∃ x, x = addR a.hi b.hi false := ⟨_, rfl⟩
 rw [← hx] at H1 H3
 rw [← hy] at H2 H4
 clear hx hy
 obtain ⟨x1, x2⟩ := x
 obtain ⟨y1, y2⟩ := y
 unfold pV numV at H1 H2
 dsimp only at H1 H2 H3 H4
 generalize addL a.lo b.lo = r1 at *
 generalize addH a.hi b.hi = r2 at *
 obtain ⟨a0, a1, av⟩ := a
 obtain ⟨b0, b1, bv⟩ := b
 dsimp only at *
 clear av bv
 go_enter Tryz.func67, Tryz.ntmps67
 go_wp2_with fail
 obtain ⟨W, hW, K0, K1, K2, hB, hz⟩ := box3 w 24 24 24 #[Value.float FloatKind.f64 a0, Value.float FloatKind.f64 a1] #[Value.float FloatKind.f64 b0, Value.float FloatKind.f64 b1] #[Value.float FloatKind.f64 0, Value.float FloatKind.f64 0]
 rw [← hW]
 have K0 := Lib.hid K0
 have K1 := Lib.hid K1
 have K2 := Lib.hid K2
 have HB := Lib.hid hB
 have HZ := Lib.hid hz
 clear hW hB hz
 go_region_held3 (fun w' => Hd W (w.heap.size + 1 + 1) 24 2 w' ∧ w'.cell? ⟨w.heap.size, 0, none⟩ = some (.float .f64 a0) ∧ w'.cell? ⟨w.heap.size, 1, none⟩ = some (.float .f64 a1) ∧ w'.cell? ⟨w.heap.size + 1, 0, none⟩ = some (.float .f64 b0) ∧ w'.cell? ⟨w.heap.size + 1, 1, none⟩ = some (.float .f64 b1) ∧
     w'.cell? ⟨w.heap.size + 1 + 1, 0, none⟩ = some (cellAt w' ⟨w.heap.size + 1 + 1, 0, none⟩) ∧ w'.frozen? ⟨w.heap.size + 1 + 1, 0, none⟩ = false ∧ w'.cell? ⟨w.heap.size + 1 + 1, 1, none⟩ = some (cellAt w' ⟨w.heap.size + 1 + 1, 1, none⟩) ∧ w'.frozen? ⟨w.heap.size + 1 + 1, 1, none⟩ = false)
   (exact hold2 (by first | exact (Hd.start K2.out).drew | exact Hd.call (And.left (by assumption)) hb | exact And.left (by assumption) | exact Hd.set (Hd.set (And.left (by assumption)) _ _) _ _) K0.out K1.out (by omega) (by omega))
   (first
     | (go_simp; go_at_call_of 104 (Value.float FloatKind.f64 a0); refine (H1.out _).mono ?_; rintro r w' ⟨rfl, hb⟩; dsimp only)
     | (go_simp; go_at_call_of 104 (Value.float FloatKind.f64 a1); refine (H2.out _).mono ?_; rintro r w' ⟨rfl, hb⟩; dsimp only)
     | (go_simp; go_at_call 103; refine (H3.out _).mono ?_; rintro r w' ⟨rfl, rfl⟩; dsimp only)
     | (go_simp; go_at_call 105; refine (H4.out _).mono ?_; rintro r w' ⟨rfl, rfl⟩; dsimp only))
 go_wp2_with fail
 (try simp only [Exit.inBlock, Exit.then])
 have hF := And.left (by assumption)
 refine bodyPost_ret (resS rfl _ _ (w.heap.size + 1 + 1) (.float .f64 r1) (.float .f64 r2) rfl (Hd.wrote2 hF)) rfl ⟨rfl, hF.below HB.out (by omega)⟩
end Go.Proofs.YtnljfcebmgifdaaGreat
namespace Go.Proofs.YtnljfcebmgifdaaGreat
open Go.RowKit Fl
/-- Do two words make a span? -/
def vdB (a b : Nat) : Bool := leF a b && (a != PI) && (b != NI) && (a != SGN) && (b != SGN)
theorem leF_nan {a b : Nat} (ha : a < 18446744073709551616) (hb : b < 18446744073709551616) (h : leF a b = true) : nan a = false ∧ nan b = false := by
 constructor
 · cases e : nan a
   · rfl
   · rw [leF_nan_l b ha e] at h; exact absurd h (by decide)
 · cases e : nan b
   · rfl
   · rw [leF_nan_r a hb e] at h; exact absurd h (by decide)
theorem vdB_true {a b : Nat} (ha : a < 18446744073709551616) (hb : b < 18446744073709551616) (h : vdB a b = true) : Vd a b := by
 unfold vdB at h
 simp only [Bool.and_eq_true, bne_iff_ne, ne_eq] at h
 obtain ⟨⟨⟨⟨h1, h2⟩, h3⟩, h4⟩, h5⟩ := h
 obtain ⟨n1, n2⟩ := leF_nan ha hb h1
 have ga : Gd a := ⟨ha, n1, h4⟩
 have gb : Gd b := ⟨hb, n2, h5⟩
 rw [leF_gd ga gb] at h1
 exact ⟨ga, gb, of_decide_eq_true h1, h2, h3⟩
theorem vdB_of {a b : Nat} (h : Vd a b) : vdB a b = true := by
 unfold vdB
 simp only [Bool.and_eq_true, bne_iff_ne, ne_eq]
 exact ⟨⟨⟨⟨by rw [leF_gd h.l h.h]; exact decide_eq_true h.le, h.li⟩, h.hi⟩, h.l.nz⟩, h.h.nz⟩
theorem minus_is (a : Nat) (h : a < 18446744073709551616) : ((FloatKind.f64.format.order a 0 == some .eq) = true ∧ ((a : Int) != 0) = decide (a = SGN)) ∨ ((FloatKind.f64.format.order a 0 == some .eq) = false ∧ decide (a = SGN) = false) := by
 cases hn : nan a
 · have e := eq_eq (a := a) (b := 0) h (by decide) hn (by decide)
   have z0 : Z 0 = 0 := by decide
   rw [z0] at e
   by_cases hz : Z a = 0
   · left
     refine ⟨e.trans (decide_eq_true hz), ?_⟩
     have hm : mg a = 0 := by
       apply Nat.eq_zero_of_not_pos
       intro k
       have := rv_pos k
       have h2 := Z_natAbs a
       omega
     rcases mg_zero_cases h hm with rfl | rfl <;> decide
   · right
     refine ⟨e.trans (decide_eq_false hz), decide_eq_false ?_⟩
     rintro rfl
     exact hz (by decide)
 · right
   have e : FloatKind.f64.format.order a 0 = none := order_nan_left a 0 h hn
   rw [e]
   refine ⟨rfl, decide_eq_false ?_⟩
   rintro rfl
   exact absurd hn (by decide)
theorem minus_any (a : Nat) (h : a < 18446744073709551616) (w : World) : Calls Tryz.prog 59 #[.float .f64 a] w fun e w' => e = .returned (.bool (decide (a = SGN))) ∧ w = w' := by
 rcases minus_is a h with ⟨e1, e2⟩ | ⟨e1, e2⟩
 · rw [← e2]
   have E2 := Lib.hid e2
   clear e2
   go_enter Tryz.func59, Tryz.ntmps59
   go_wp2_with fail
   go_ret
   exact ⟨rfl, rfl⟩
 · rw [e2]
   clear e2
   go_enter Tryz.func59, Tryz.ntmps59
   go_wp2_with fail
   go_ret
   exact ⟨rfl, rfl⟩
theorem rvalid_gen (a b : Nat) (c1 k2 k3 m1 m2 : Bool) (E1 : (FloatKind.f64.format.order a b == some .lt || FloatKind.f64.format.order a b == some .eq) = c1)
   (E2 : (FloatKind.f64.format.order a 9218868437227405312 != some .eq) = k2) (E3 : (FloatKind.f64.format.order b 18442240474082181120 != some .eq) = k3)
   (HS : Hid (∀ w, Calls Tryz.prog 59 #[.float .f64 a] w fun e w' => e = .returned (.bool m1) ∧ w = w'))
   (HT : Hid (∀ w, Calls Tryz.prog 59 #[.float .f64 b] w fun e w' => e = .returned (.bool m2) ∧ w = w')) (w : World) :
   Calls Tryz.prog 23 #[.agg #[.float .f64 a, .float .f64 b]] w fun r w' => r = .returned (.bool (c1 && (k2 && (k3 && (!m1 && !m2))))) ∧ ∃ o k, w' = (w.alloc o).drewN k := by
 have N := neg_inf
 have HI := Lib.hid (fun w => rinf_any w)
 cases c1
 · go_enter Tryz.func23, Tryz.ntmps23
   go_wp2_with fail
   go_quiet ((first | (go_at_call 58; exact Calls.quiet_of_same ((HI.out _).mono fun _ _ h => ⟨h.1, h.2.symm⟩)) | (go_at_call_of 59 (Value.float FloatKind.f64 a); exact Calls.quiet_of_same ((HS.out _).mono fun _ _ h => ⟨h.1, h.2.symm⟩)) | (go_at_call_of 59 (Value.float FloatKind.f64 b); exact Calls.quiet_of_same ((HT.out _).mono fun _ _ h => ⟨h.1, h.2.symm⟩))))
   go_wp2_with fail
   go_ret
   exact ⟨rfl, _, _, rfl⟩
 · cases k2
   · go_enter Tryz.func23, Tryz.ntmps23
     go_wp2_with fail
     go_quiet ((first | (go_at_call 58; exact Calls.quiet_of_same ((HI.out _).mono fun _ _ h => ⟨h.1, h.2.symm⟩)) | (go_at_call_of 59 (Value.float FloatKind.f64 a); exact Calls.quiet_of_same ((HS.out _).mono fun _ _ h => ⟨h.1, h.2.symm⟩)) | (go_at_call_of 59 (Value.float FloatKind.f64 b); exact Calls.quiet_of_same ((HT.out _).mono fun _ _ h => ⟨h.1, h.2.symm⟩))))
     go_wp2_with fail
     go_ret
     exact ⟨rfl, _, _, rfl⟩
   · cases k3
     · go_enter Tryz.func23, Tryz.ntmps23
       go_wp2_with fail
       go_quiet ((first | (go_at_call 58; exact Calls.quiet_of_same ((HI.out _).mono fun _ _ h => ⟨h.1, h.2.symm⟩)) | (go_at_call_of 59 (Value.float FloatKind.f64 a); exact Calls.quiet_of_same ((HS.out _).mono fun _ _ h => ⟨h.1, h.2.symm⟩)) | (go_at_call_of 59 (Value.float FloatKind.f64 b); exact Calls.quiet_of_same ((HT.out _).mono fun _ _ h => ⟨h.1, h.2.symm⟩))))
       go_wp2_with fail
       go_ret
       exact ⟨rfl, _, _, rfl⟩
     · cases m1
       · cases m2
         · go_enter Tryz.func23, Tryz.ntmps23
           go_wp2_with fail
           go_quiet ((first | (go_at_call 58; exact Calls.quiet_of_same ((HI.out _).mono fun _ _ h => ⟨h.1, h.2.symm⟩)) | (go_at_call_of 59 (Value.float FloatKind.f64 a); exact Calls.quiet_of_same ((HS.out _).mono fun _ _ h => ⟨h.1, h.2.symm⟩)) | (go_at_call_of 59 (Value.float FloatKind.f64 b); exact Calls.quiet_of_same ((HT.out _).mono fun _ _ h => ⟨h.1, h.2.symm⟩))))
           go_wp2_with fail
           go_ret
           exact ⟨rfl, _, _, rfl⟩
         · go_enter Tryz.func23, Tryz.ntmps23
           go_wp2_with fail
           go_quiet ((first | (go_at_call 58; exact Calls.quiet_of_same ((HI.out _).mono fun _ _ h => ⟨h.1, h.2.symm⟩)) | (go_at_call_of 59 (Value.float FloatKind.f64 a); exact Calls.quiet_of_same ((HS.out _).mono fun _ _ h => ⟨h.1, h.2.symm⟩)) | (go_at_call_of 59 (Value.float FloatKind.f64 b); exact Calls.quiet_of_same ((HT.out _).mono fun _ _ h => ⟨h.1, h.2.symm⟩))))
           go_wp2_with fail
           go_ret
           exact ⟨rfl, _, _, rfl⟩
       · go_enter Tryz.func23, Tryz.ntmps23
         go_wp2_with fail
         go_quiet ((first | (go_at_call 58; exact Calls.quiet_of_same ((HI.out _).mono fun _ _ h => ⟨h.1, h.2.symm⟩)) | (go_at_call_of 59 (Value.float FloatKind.f64 a); exact Calls.quiet_of_same ((HS.out _).mono fun _ _ h => ⟨h.1, h.2.symm⟩)) | (go_at_call_of 59 (Value.float FloatKind.f64 b); exact Calls.quiet_of_same ((HT.out _).mono fun _ _ h => ⟨h.1, h.2.symm⟩))))
         go_wp2_with fail
         go_ret
         exact ⟨rfl, _, _, rfl⟩
end Go.Proofs.YtnljfcebmgifdaaGreat
namespace Go.Proofs.YtnljfcebmgifdaaGreat
open Go.RowKit Fl
theorem ne_lit (a v : Nat) (ha : a < 18446744073709551616) (hv : v < 18446744073709551616) (nv : nan v = false) (h0 : mg v ≠ 0) : (FloatKind.f64.format.order a v != some .eq) = (a != v) := by
 cases hn : nan a
 · have e := eq_eq (a := a) (b := v) ha hv hn nv
   have e2 : (FloatKind.f64.format.order a v == some .eq) = decide (a = v) := by
     refine e.trans ?_
     rw [decide_eq_decide, Z_eq_iff ha hv]
     exact ⟨fun h => h.elim id (fun h => absurd h.2 h0), Or.inl⟩
   rw [bne, e2]
   by_cases h : a = v <;> simp [h]
 · have e : FloatKind.f64.format.order a v = none := order_nan_left a v ha hn
   rw [e]
   have : a ≠ v := by rintro rfl; rw [hn] at nv; exact absurd nv (by decide)
   have p : (a != v) = true := by simpa using this
   rw [p]; rfl
theorem rvalid_any (a b : Nat) (ha : a < 18446744073709551616) (hb : b < 18446744073709551616) (w : World) :
   Calls Tryz.prog 23 #[.agg #[.float .f64 a, .float .f64 b]] w fun r w' => r = .returned (.bool (vdB a b)) ∧ Below w.heap.size w w' := by
 refine (rvalid_gen a b _ _ _ _ _ rfl rfl rfl (Lib.hid (fun w => minus_any a ha w)) (Lib.hid (fun w => minus_any b hb w)) w).mono ?_
 rintro r w' ⟨rfl, o, k, rfl⟩
 refine ⟨ret_bool ?_, below_drewN (below_new w o) k⟩
 rw [ne_lit a _ ha (by decide) (by decide) (by decide), ne_lit b _ hb (by decide) (by decide) (by decide)]
 unfold vdB
 have p1 : (a != SGN) = !decide (a = SGN) := by by_cases h : a = SGN <;> simp [h]
 have p2 : (b != SGN) = !decide (b = SGN) := by by_cases h : b = SGN <;> simp [h]
 rw [p1, p2]
 show (leF a b && _) = _
 simp only [Bool.and_assoc]
theorem inf_fin {b : Nat} (h : Gd b) : decide (mg b = INF) = !fin b := by
 have := mg_le_inf h
 unfold fin
 by_cases e : mg b = INF
 · rw [decide_eq_true e, decide_eq_false (by omega)]; rfl
 · rw [decide_eq_false e, decide_eq_true (by omega)]; rfl
theorem wide_or (a : Sp) : a.wide = (!fin a.lo || !fin a.hi) := by unfold Sp.wide wd; cases fin a.lo <;> cases fin a.hi <;> rfl
theorem wide_sp (a : Sp) (w : World) : Calls Tryz.prog 43 #[.agg #[.float .f64 a.lo, .float .f64 a.hi]] w fun r w' => r = .returned (.bool a.wide) ∧ Below w.heap.size w w' := by
 have H1 := Lib.hid (fun w => isInf_any a.lo a.vd.l.lt w)
 have H2 := Lib.hid (fun w => isInf_any a.hi a.vd.h.lt w)
 rw [inf_fin a.vd.l] at H1
 rw [inf_fin a.vd.h] at H2
 rw [wide_or]
 generalize (!fin a.lo) = p at *
 generalize (!fin a.hi) = q at *
 cases p
 · go_enter Tryz.func43, Tryz.ntmps43
   go_wp2_with fail
   refine (H1.out _).mono ?_
   rintro r w' ⟨rfl, rfl⟩
   go_wp2_with fail
   refine (H2.out _).mono ?_
   rintro r w' ⟨rfl, rfl⟩
   go_wp2_with fail
   go_ret
   exact ⟨rfl, below_new _ _⟩
 · go_enter Tryz.func43, Tryz.ntmps43
   go_wp2_with fail
   refine (H1.out _).mono ?_
   rintro r w' ⟨rfl, rfl⟩
   go_wp2_with fail
   go_ret
   exact ⟨rfl, below_new _ _⟩
theorem neg_sp (a : Sp) (w : World) : Calls Tryz.prog 65 #[.agg #[.float .f64 a.lo, .float .f64 a.hi]] w fun r w' => r = .returned (.agg #[.float .f64 (negS a).lo, .float .f64 (negS a).hi]) ∧ Below w.heap.size w w' := by
 have d1 := ng_sub a.lo a.vd.l.lt a.vd.l.nn
 have d2 := ng_sub a.hi a.vd.h.lt a.vd.h.nn
 have m1 := fun (t : TypeId) (w : World) => run_float_arith (P := Tryz.prog) w .sub t .f64 _ _ _ d1
 have m2 := fun (t : TypeId) (w : World) => run_float_arith (P := Tryz.prog) w .sub t .f64 _ _ _ d2
 show Calls _ _ _ _ fun r w' => r = .returned (.agg #[.float .f64 (ng a.hi), .float .f64 (ng a.lo)]) ∧ Below w.heap.size w w'
 generalize ng a.hi = x at *
 generalize ng a.lo = y at *
 clear d1 d2
 go_enter Tryz.func65, Tryz.ntmps65
 go_wp2_with fail
 go_returns
 exact ⟨rfl, below_new2 _ _ _⟩
set_option maxHeartbeats 1000000 in
theorem sub_sp (a b : Sp) (w : World) : Calls Tryz.prog 83 #[.agg #[.float .f64 a.lo, .float .f64 a.hi], .agg #[.float .f64 b.lo, .float .f64 b.hi]] w fun r w' => r = .returned (.agg #[.float .f64 (subS a b).lo, .float .f64 (subS a b).hi]) ∧ Below w.heap.size w w' := by
 have H1 := Lib.hid (fun w => neg_sp b w)
 have H2 := Lib.hid (fun w => add_sp a (negS b) w)
 unfold subS
 generalize addS a (negS b) = x at *
 generalize negS b = n at *
 go_enter Tryz.func83, Tryz.ntmps83
 go_wp2_with fail
 obtain ⟨W, hW, K0, K1, K2, hB, hz⟩ := box3 w 24 24 24 #[Value.float FloatKind.f64 a.lo, Value.float FloatKind.f64 a.hi] #[Value.float FloatKind.f64 b.lo, Value.float FloatKind.f64 b.hi] #[Value.float FloatKind.f64 0, Value.float FloatKind.f64 0]
 rw [← hW]
 have K0 := Lib.hid K0
 have K1 := Lib.hid K1
 have K2 := Lib.hid K2
 have HB := Lib.hid hB
 clear hW hB hz
 have HO := Lib.hid (show ∀ w', Hd W (w.heap.size + 1 + 1) 24 2 w' → (Hd W (w.heap.size + 1 + 1) 24 2 w' ∧ w'.cell? ⟨w.heap.size, 0, none⟩ = some (Value.float FloatKind.f64 a.lo) ∧ w'.cell? ⟨w.heap.size, 1, none⟩ = some (Value.float FloatKind.f64 a.hi) ∧ w'.cell? ⟨w.heap.size + 1, 0, none⟩ = some (Value.float FloatKind.f64 b.lo) ∧ w'.cell? ⟨w.heap.size + 1, 1, none⟩ = some (Value.float FloatKind.f64 b.hi) ∧ w'.cell? ⟨w.heap.size + 1 + 1, 0, none⟩ = some (cellAt w' ⟨w.heap.size + 1 + 1, 0, none⟩) ∧ w'.frozen? ⟨w.heap.size + 1 + 1, 0, none⟩ = false ∧ w'.cell? ⟨w.heap.size + 1 + 1, 1, none⟩ = some (cellAt w' ⟨w.heap.size + 1 + 1, 1, none⟩) ∧ w'.frozen? ⟨w.heap.size + 1 + 1, 1, none⟩ = false) from fun w' h => ⟨h, (h.blk K0.out (by omega)).cell 0, (h.blk K0.out (by omega)).cell 1, (h.blk K1.out (by omega)).cell 0, (h.blk K1.out (by omega)).cell 1, (h.at_ 0 (by decide)).1, (h.at_ 0 (by decide)).2, (h.at_ 1 (by decide)).1, (h.at_ 1 (by decide)).2⟩)
 have D0 := Lib.hid (Hd.start K2.out)
 go_region_held3 (fun w' => Hd W (w.heap.size + 1 + 1) 24 2 w' ∧ w'.cell? ⟨w.heap.size, 0, none⟩ = some (Value.float FloatKind.f64 a.lo) ∧ w'.cell? ⟨w.heap.size, 1, none⟩ = some (Value.float FloatKind.f64 a.hi) ∧ w'.cell? ⟨w.heap.size + 1, 0, none⟩ = some (Value.float FloatKind.f64 b.lo) ∧ w'.cell? ⟨w.heap.size + 1, 1, none⟩ = some (Value.float FloatKind.f64 b.hi) ∧ w'.cell? ⟨w.heap.size + 1 + 1, 0, none⟩ = some (cellAt w' ⟨w.heap.size + 1 + 1, 0, none⟩) ∧ w'.frozen? ⟨w.heap.size + 1 + 1, 0, none⟩ = false ∧ w'.cell? ⟨w.heap.size + 1 + 1, 1, none⟩ = some (cellAt w' ⟨w.heap.size + 1 + 1, 1, none⟩) ∧ w'.frozen? ⟨w.heap.size + 1 + 1, 1, none⟩ = false)
   (exact HO.out _ (by first | exact D0.out.drew | exact Hd.call (And.left (by assumption)) hb | exact And.left (by assumption) | exact Hd.set (Hd.set (And.left (by assumption)) _ _) _ _))
   (first
     | ((go_simp; go_at_call 65; refine (H1.out _).mono ?_; rintro r w' ⟨rfl, hb⟩; dsimp only))
     | ((go_simp; go_at_call 67; refine (H2.out _).mono ?_; rintro r w' ⟨rfl, hb⟩; dsimp only)))
 go_wp2_with fail
 (try simp only [Exit.inBlock, Exit.then])
 have hF := And.left (by assumption)
 refine bodyPost_ret (resS rfl _ _ (w.heap.size + 1 + 1) (.float .f64 x.lo) (.float .f64 x.hi) rfl (Hd.wrote2 hF)) rfl ⟨rfl, Hd.below hF HB.out (by omega)⟩
end Go.Proofs.YtnljfcebmgifdaaGreat
namespace Go.Proofs.YtnljfcebmgifdaaGreat
open Go.RowKit Fl
@[go_sem] theorem run_equalIn_float {P : Program} (w : World) (d : Nat) (t : TypeId) (a b : Nat) (h : P.underlying t = some (.float .f64)) : (Op.equalIn (d + 1) t (.float .f64 a) (.float .f64 b)).run P w = .ok (FloatKind.f64.format.order a b == some .eq) w := by
 simp [Op.equalIn, run_underlying h, Op.floatEq]
@[go_sem] theorem guard_span (op : BinOp) (x y : Operand) (xs ys : Array Value) (w : World) : (eqGuard op 24 x y (.agg xs) (.agg ys)).run Tryz.prog w = .ok () w :=
 run_eqGuard_agg w op _ x y xs ys (by kernel_rfl)
theorem le0_gd {x : Nat} (h : Gd x) : (FloatKind.f64.format.order x 0 == some .lt || FloatKind.f64.format.order x 0 == some .eq) = decide (Z x ≤ 0) := by
 have z0 : Z 0 = 0 := by decide
 have := leb h gd0
 rw [z0] at this
 exact this
theorem ge0_gd {x : Nat} (h : Gd x) : (FloatKind.f64.format.order x 0 == some .gt || FloatKind.f64.format.order x 0 == some .eq) = decide (0 ≤ Z x) := by
 have z0 : Z 0 = 0 := by decide
 have := geb h gd0
 rw [z0] at this
 exact this
/-- Are both words 0? -/
def isZW (x y : Nat) : Bool := (FloatKind.f64.format.order x 0 == some .eq) && (FloatKind.f64.format.order y 0 == some .eq)
@[go_sem ↓] theorem eql_span0 (x y : Nat) (w : World) : (binOp .eql 24 (.agg #[.float .f64 x, .float .f64 y]) (.agg #[.float .f64 0, .float .f64 0])).run Tryz.prog w = .ok (.bool (isZW x y)) w := by
 unfold isZW
 cases h1 : (FloatKind.f64.format.order x 0 == some .eq) <;> cases h2 : (FloatKind.f64.format.order y 0 == some .eq) <;> go_simp <;> simp_all
@[go_sem] theorem idx2_0 (x y : Nat) (w : World) : (Instr.index 86 (.agg #[.float .f64 x, .float .f64 y]) (.int .i64 0)).run Tryz.prog w = .ok (.float .f64 x) w := by kernel_rfl
@[go_sem] theorem idx2_1 (x y : Nat) (w : World) : (Instr.index 86 (.agg #[.float .f64 x, .float .f64 y]) (.int .i64 1)).run Tryz.prog w = .ok (.float .f64 y) w := by kernel_rfl
theorem eq0_gd {x : Nat} (h : Gd x) : (FloatKind.f64.format.order x 0 == some .eq) = decide (Z x = 0) := by
 have z0 : Z 0 = 0 := by decide
 have := eqb h gd0
 rw [z0] at this
 exact this
theorem isZ_eqW (a : Sp) : isZW a.lo a.hi = isZ a := by
 unfold isZW isZ
 rw [eq0_gd a.vd.l, eq0_gd a.vd.h]
end Go.Proofs.YtnljfcebmgifdaaGreat
namespace Go.Proofs.YtnljfcebmgifdaaGreat
open Go.RowKit Fl
end Go.Proofs.YtnljfcebmgifdaaGreat
