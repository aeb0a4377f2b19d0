/- Shaken: Rh Gr Yc Yd Tx. -/
import Derived.Test.YtnljfcebmgifdaaGreatZGf
import Derived.Test.YtnljfcebmgifdaaGreatZYa
import Derived.Test.YtnljfcebmgifdaaGreatZGe
set_option linter.unusedVariables false
set_option linter.unusedSimpArgs false
namespace Go.Proofs.YtnljfcebmgifdaaGreat
def bm (n m : Nat) : Array Bool := ((List.range n).map fun i => m.testBit i).toArray
end Go.Proofs.YtnljfcebmgifdaaGreat
set_option linter.unusedVariables false
set_option linter.unusedSimpArgs false
namespace Go.Proofs.YtnljfcebmgifdaaGreat
theorem wpAnyH_oneP {P : Program} {ops : Array Oper} {Q : Exit → Act → World → Prop} {md : Region.Mode} {S : World → Prop} {i : Nat} {o : Oper} {fuel : Nat} {listed : Array Bool} {a : Act} {w : World}
   (hi : ops[i]? = some o) (hr : Region.ready md ops listed = [i]) (hw : Region.wanted o (yielded ops a.tmps) = true)
   (h : ∀ K : Act → World → Prop, (∀ a' w', S w' → wpAnyH P md ops Q S fuel (listed.setIfInBounds i true) a' w' → K a' w') → o.wp P a w K Q) : wpAnyH P md ops Q S (fuel + 1) listed a w := by
 refine wpAnyH_all hr (by simp) ?_
 intro j hj
 obtain rfl : j = i := by simpa using hj
 unfold wpOp
 simp only [hi, hw, if_true]
 exact Or.inl (h _ fun a' w' s k => ⟨s, k⟩)
theorem wpAnyH_oneM {P : Program} {ops : Array Oper} {Q : Exit → Act → World → Prop} {md : Region.Mode} {S : World → Prop} {i : Nat} {o : Oper} {fuel : Nat} {listed l' : Array Bool} {a : Act} {w : World}
   (hi : ops[i]? = some o) (hr : Region.ready md ops listed = [i]) (hw : Region.wanted o (yielded ops a.tmps) = true) (hl : listed.setIfInBounds i true = l')
   (h : ∀ K : Act → World → Prop, (∀ a' w', S w' → wpAnyH P md ops Q S fuel l' a' w' → K a' w') → o.wp P a w K Q) : wpAnyH P md ops Q S (fuel + 1) listed a w := by
 subst hl
 exact wpAnyH_oneP hi hr hw h
end Go.Proofs.YtnljfcebmgifdaaGreat
namespace Go.Proofs.YtnljfcebmgifdaaGreat
def needM (N stop m : Nat) : Nat := (List.range N).countP fun i => stop.testBit i && !m.testBit i
theorem needM_self (N m : Nat) : needM N m m = 0 := by
 unfold needM
 rw [List.countP_eq_zero]
 intro i _
 cases m.testBit i <;> simp
def okM (md : Region.Mode) (ops : Array Oper) (N stop : Nat) (R M : List Nat) : Bool :=
 M.all fun m => m == stop || (needM N stop m != 0 && !(Region.ready md ops (bm N m)).isEmpty && (Region.ready md ops (bm N m)).all fun i =>
   R.contains i && !m.testBit i && M.contains (m ||| 2 ^ i) && needM N stop (m ||| 2 ^ i) + 1 == needM N stop m && decide ((bm N m).setIfInBounds i true = bm N (m ||| 2 ^ i)))
theorem wpOp_at {P : Program} {ops : Array Oper} {Q : Exit → Act → World → Prop} {i : Nat} {o : Oper} {R : Act → World → Prop} {a : Act} {w : World}
   (hi : ops[i]? = some o) (hw : Region.wanted o (yielded ops a.tmps) = true) (h : ∀ K : Act → World → Prop, (∀ a' w', R a' w' → K a' w') → o.wp P a w K Q) : wpOp P ops Q i R a w := by
 unfold wpOp
 simp only [hi, hw, if_true]
 exact Or.inl (h _ fun a' w' k => k)
theorem tb_ne {m i j : Nat} (h : i ≠ j) : (m ||| 2 ^ i).testBit j = m.testBit j := by
 rw [Nat.testBit_or, Nat.testBit_two_pow_of_ne h, Bool.or_false]
theorem wpAnyH_frame {P : Program} {ops : Array Oper} {Q : Exit → Act → World → Prop} {md : Region.Mode} {S : World → Prop} {fuel : Nat} {l : Array Bool} {a a' : Act} {w : World} (ha : a = a') (h : wpAnyH P md ops Q S fuel l a' w) : wpAnyH P md ops Q S fuel l a w := ha ▸ h
end Go.Proofs.YtnljfcebmgifdaaGreat
namespace Go.Proofs.YtnljfcebmgifdaaGreat
def okD (md : Region.Mode) (ops : Array Oper) (N : Nat) (M : List Nat) (D : Nat → Nat) : Bool :=
 M.all fun m => (Region.ready md ops (bm N m)).all fun i => (m &&& D i) == D i
theorem wpAnyH_masks2 {P : Program} {ops : Array Oper} {Q : Exit → Act → World → Prop} {md : Region.Mode} {S : World → Prop} {N stop F : Nat} {R M : List Nat} {D : Nat → Nat} {I : Nat → Act → World → Prop}
   (hok : okM md ops N stop R M = true) (hD : okD md ops N M D = true)
   (step : ∀ m a w i, i ∈ R → m.testBit i = false → m &&& D i = D i → I m a w → wpOp P ops Q i (fun a' w' => S w' ∧ I (m ||| 2 ^ i) a' w') a w)
   (rest : ∀ a w, I stop a w → wpAnyH P md ops Q S F (bm N stop) a w) :
   ∀ n m a w, m ∈ M → needM N stop m = n → I m a w → wpAnyH P md ops Q S (F + n) (bm N m) a w := by
 intro n
 induction n with
 | zero =>
   intro m a w hm hn hI
   have h := List.all_eq_true.1 hok m hm
   rw [hn] at h
   have : m = stop := by simpa using h
   subst this
   exact rest a w hI
 | succ n ih =>
   intro m a w hm hn hI
   have h := List.all_eq_true.1 hok m hm
   have hd := List.all_eq_true.1 hD m hm
   by_cases e : m = stop
   · subst e; rw [needM_self] at hn; omega
   · simp only [Bool.or_eq_true, beq_iff_eq, e, false_or, Bool.and_eq_true, Bool.not_eq_true', List.isEmpty_eq_false_iff, List.all_eq_true] at h
     refine wpAnyH_all rfl h.1.2 fun i hi => ?_
     have g := h.2 i hi
     have d := List.all_eq_true.1 hd i hi
     simp only [List.contains_iff_mem, decide_eq_true_eq] at g
     refine wpOp_mono (fun a' w' k => ⟨k.1, ?_⟩) (step m a w i g.1.1.1.1 (by simpa using g.1.1.1.2) (by simpa using d) hI)
     rw [g.2]
     exact ih _ _ _ g.1.1.2 (by have := g.1.2; omega) k.2
theorem wpAnyH_sets2 {P : Program} {ops : Array Oper} {Q : Exit → Act → World → Prop} {md : Region.Mode} {S : World → Prop} {N stop F fuel m : Nat} {R M : List Nat} (D : Nat → Nat) (J : Act → Nat → Act → World → Prop) {a : Act} {w : World}
   (hok : okM md ops N stop R M = true) (hD : okD md ops N M D = true) (hm : M.contains m = true) (hf : fuel = F + needM N stop m)
   (start : J a m a w)
   (step : ∀ m a' w i, i ∈ R → m.testBit i = false → m &&& D i = D i → J a m a' w → wpOp P ops Q i (fun a'' w' => S w' ∧ J a (m ||| 2 ^ i) a'' w') a' w)
   (rest : ∀ a' w, J a stop a' w → wpAnyH P md ops Q S F (bm N stop) a' w) :
   wpAnyH P md ops Q S fuel (bm N m) a w := by
 subst hf
 exact wpAnyH_masks2 (I := J a) hok hD step rest _ m a w (by simpa using hm) rfl start
theorem tb_of {m d j : Nat} (h : m &&& d = d) (hj : d.testBit j = true) : m.testBit j = true := by
 have := congrArg (fun x => x.testBit j) h
 simp only [Nat.testBit_and, hj, Bool.and_true] at this
 exact this
end Go.Proofs.YtnljfcebmgifdaaGreat
set_option linter.unusedVariables false
set_option linter.unusedSimpArgs false
namespace Go.Proofs.YtnljfcebmgifdaaGreat
open Fl
structure Af where
 a : V3
 b : V3
 c : V3
 t : V3
noncomputable def afVec (m : Af) (v : V3) : V3 := ⟨vDot m.a v, vDot m.b v, vDot m.c v⟩
noncomputable def afPt (m : Af) (p : V3) : V3 := vAdd (afVec m p) m.t
abbrev Af.col0 (m : Af) : V3 := ⟨m.a.x, m.b.x, m.c.x⟩
abbrev Af.col1 (m : Af) : V3 := ⟨m.a.y, m.b.y, m.c.y⟩
abbrev Af.col2 (m : Af) : V3 := ⟨m.a.z, m.b.z, m.c.z⟩
noncomputable def afThen (m n : Af) : Af :=
 ⟨⟨vDot m.a n.col0, vDot m.a n.col1, vDot m.a n.col2⟩, ⟨vDot m.b n.col0, vDot m.b n.col1, vDot m.b n.col2⟩, ⟨vDot m.c n.col0, vDot m.c n.col1, vDot m.c n.col2⟩, afPt m n.t⟩
abbrev W1 : Nat := 4607182418800017408
def zeroV : V3 := ⟨zeroS, zeroS, zeroS⟩
def zeroA : Af := ⟨zeroV, zeroV, zeroV, zeroV⟩
theorem InV.vec {x y z a1 a2 a3 b1 b2 b3 c1 c2 c3 : Rat} {m : Af} {v : V3} (ha : InV a1 a2 a3 m.a) (hb : InV b1 b2 b3 m.b) (hc : InV c1 c2 c3 m.c) (h : InV x y z v) :
   InV (a1 * x + a2 * y + a3 * z) (b1 * x + b2 * y + b3 * z) (c1 * x + c2 * y + c3 * z) (afVec m v) := ⟨ha.dot h, hb.dot h, hc.dot h⟩
/-- Numbers in all spans of a transformation. -/
structure InA (a1 a2 a3 b1 b2 b3 c1 c2 c3 t1 t2 t3 : Rat) (m : Af) : Prop where
 a : InV a1 a2 a3 m.a
 b : InV b1 b2 b3 m.b
 c : InV c1 c2 c3 m.c
 t : InV t1 t2 t3 m.t
theorem InA.pt {x y z a1 a2 a3 b1 b2 b3 c1 c2 c3 t1 t2 t3 : Rat} {m : Af} {v : V3} (h : InA a1 a2 a3 b1 b2 b3 c1 c2 c3 t1 t2 t3 m) (k : InV x y z v) :
   InV (a1 * x + a2 * y + a3 * z + t1) (b1 * x + b2 * y + b3 * z + t2) (c1 * x + c2 * y + c3 * z + t3) (afPt m v) := (InV.vec h.a h.b h.c k).add h.t
theorem V3.in_lo (v : V3) : InV (fv v.x.lo) (fv v.y.lo) (fv v.z.lo) v := ⟨v.x.in_lo, v.y.in_lo, v.z.in_lo⟩
theorem InA.then {a1 a2 a3 b1 b2 b3 c1 c2 c3 t1 t2 t3 p1 p2 p3 q1 q2 q3 r1 r2 r3 u1 u2 u3 : Rat} {m n : Af} (h : InA a1 a2 a3 b1 b2 b3 c1 c2 c3 t1 t2 t3 m) (k : InA p1 p2 p3 q1 q2 q3 r1 r2 r3 u1 u2 u3 n) :
   InA (a1 * p1 + a2 * q1 + a3 * r1) (a1 * p2 + a2 * q2 + a3 * r2) (a1 * p3 + a2 * q3 + a3 * r3) (b1 * p1 + b2 * q1 + b3 * r1) (b1 * p2 + b2 * q2 + b3 * r2) (b1 * p3 + b2 * q3 + b3 * r3) (c1 * p1 + c2 * q1 + c3 * r1) (c1 * p2 + c2 * q2 + c3 * r2) (c1 * p3 + c2 * q3 + c3 * r3)
     (a1 * u1 + a2 * u2 + a3 * u3 + t1) (b1 * u1 + b2 * u2 + b3 * u3 + t2) (c1 * u1 + c2 * u2 + c3 * u3 + t3) (afThen m n) := by
 have k0 : InV p1 q1 r1 n.col0 := ⟨k.a.x, k.b.x, k.c.x⟩
 have k1 : InV p2 q2 r2 n.col1 := ⟨k.a.y, k.b.y, k.c.y⟩
 have k2 : InV p3 q3 r3 n.col2 := ⟨k.a.z, k.b.z, k.c.z⟩
 exact ⟨⟨h.a.dot k0, h.a.dot k1, h.a.dot k2⟩, ⟨h.b.dot k0, h.b.dot k1, h.b.dot k2⟩, ⟨h.c.dot k0, h.c.dot k1, h.c.dot k2⟩, h.pt k.t⟩
theorem Af.in_lo (m : Af) : InA (fv m.a.x.lo) (fv m.a.y.lo) (fv m.a.z.lo) (fv m.b.x.lo) (fv m.b.y.lo) (fv m.b.z.lo) (fv m.c.x.lo) (fv m.c.y.lo) (fv m.c.z.lo) (fv m.t.x.lo) (fv m.t.y.lo) (fv m.t.z.lo) m := ⟨m.a.in_lo, m.b.in_lo, m.c.in_lo, m.t.in_lo⟩
theorem rd_self {a : Nat} (g : Gd a) (f : fin a = true) : RD a (fv a) :=
 ⟨g, fun e => by rw [e] at f; exact absurd f (by decide), Or.inr Rat.le_refl, fun b gb _ k => by
   rcases k with k | k
   · rw [k, Z_NI]; exact (Z_range g.nn).1
   · exact fv_le.1 k⟩
theorem ru_self {a : Nat} (g : Gd a) (f : fin a = true) : RU a (fv a) :=
 ⟨g, fun e => by rw [e] at f; exact absurd f (by decide), Or.inr Rat.le_refl, fun b gb _ k => by
   rcases k with k | k
   · rw [k, Z_PI]; exact (Z_range g.nn).2
   · exact fv_le.1 k⟩
theorem add_zero {a : Sp} (w : a.wide = false) : addS a zeroS = a := by
 have ⟨f1, f2⟩ := Sp.fins w
 refine Sp.ext ?_ ?_
 · show addL a.lo 0 = a.lo
   unfold addL
   rw [if_pos (by rw [f1]; decide)]
   have := add_dn (b := 0) f1 (by decide)
   rw [fv0, Rat.add_zero] at this
   exact this.uniq (rd_self a.vd.l f1)
 · show addH a.hi 0 = a.hi
   unfold addH
   rw [if_pos (by rw [f2]; decide)]
   have := add_up (b := 0) f2 (by decide)
   rw [fv0, Rat.add_zero] at this
   exact this.uniq (ru_self a.vd.h f2)
theorem zero_add {a : Sp} (w : a.wide = false) : addS zeroS a = a := by rw [addS_comm, add_zero w]
def V3.wide (v : V3) : Bool := v.x.wide || v.y.wide || v.z.wide
end Go.Proofs.YtnljfcebmgifdaaGreat
set_option linter.unusedVariables false
set_option linter.unusedSimpArgs false
namespace Go.Proofs.YtnljfcebmgifdaaGreat
open Fl
theorem zeroS_lo : zeroS.lo = 0 := rfl
theorem zeroS_hi : zeroS.hi = 0 := rfl
theorem zeroV_x : zeroV.x = zeroS := rfl
theorem zeroV_y : zeroV.y = zeroS := rfl
theorem zeroV_z : zeroV.z = zeroS := rfl
theorem zeroA_a : zeroA.a = zeroV := rfl
theorem zeroA_b : zeroA.b = zeroV := rfl
theorem zeroA_c : zeroA.c = zeroV := rfl
theorem zeroA_t : zeroA.t = zeroV := rfl
theorem V3.ext {a b : V3} (h1 : a.x = b.x) (h2 : a.y = b.y) (h3 : a.z = b.z) : a = b := by
 cases a; cases b; simp only at h1 h2 h3; subst h1 h2 h3; rfl
end Go.Proofs.YtnljfcebmgifdaaGreat
set_option linter.unusedVariables false
set_option linter.unusedSimpArgs false
namespace Go.Proofs.YtnljfcebmgifdaaGreat
open Go.RowKit Fl
abbrev vc (a : V3) : Array Value := #[Value.float FloatKind.f64 a.x.lo, Value.float FloatKind.f64 a.x.hi, Value.float FloatKind.f64 a.y.lo, Value.float FloatKind.f64 a.y.hi, Value.float FloatKind.f64 a.z.lo, Value.float FloatKind.f64 a.z.hi]
/-- Stores into neighbouring cells. -/
def setCells (w : World) (g : Nat) : Nat → List Value → World
 | _, [] => w
 | i, v :: vs => setCells (w.setCell ⟨g, i, none⟩ v) g (i + 1) vs
def setL (cs : Array Value) : Nat → List Value → Array Value
 | _, [] => cs
 | i, v :: vs => setL (cs.setIfInBounds i v) (i + 1) vs
theorem Blk.setL' {g : Nat} {t : TypeId} (vs : List Value) : ∀ {w : World} {cs : Array Value} (h : Blk w g t cs) (i : Nat), Blk (setCells w g i vs) g t (Go.Proofs.YtnljfcebmgifdaaGreat.setL cs i vs) := by
 induction vs with
 | nil => intro w cs h i; exact h
 | cons v vs ih => intro w cs h i; exact ih (h.set_ i v) (i + 1)
theorem Blk.setL {w : World} {g : Nat} {t : TypeId} {cs : Array Value} (h : Blk w g t cs) (i : Nat) (vs : List Value) : Blk (setCells w g i vs) g t (Go.Proofs.YtnljfcebmgifdaaGreat.setL cs i vs) := Blk.setL' vs h i
theorem Blk.farL' {g g' : Nat} {t : TypeId} {cs : Array Value} (hg : g ≠ g') (vs : List Value) : ∀ {w : World} (h : Blk w g t cs) (i : Nat), Blk (setCells w g' i vs) g t cs := by
 induction vs with
 | nil => intro w h i; exact h
 | cons v vs ih => intro w h i; exact ih (h.far (p := ⟨g', i, none⟩) hg v) (i + 1)
theorem Blk.farL {w : World} {g g' : Nat} {t : TypeId} {cs : Array Value} (h : Blk w g t cs) (hg : g ≠ g') (i : Nat) (vs : List Value) : Blk (setCells w g' i vs) g t cs := Blk.farL' hg vs h i
theorem Below.setL' {B g : Nat} {a : World} (hg : B ≤ g) (vs : List Value) : ∀ {w : World} (h : Below B a w) (i : Nat), Below B a (setCells w g i vs) := by
 induction vs with
 | nil => intro w h i; exact h
 | cons v vs ih => intro w h i; exact ih (h.setCell (p := ⟨g, i, none⟩) hg v) (i + 1)
theorem Below.setL {B g : Nat} {a w : World} (h : Below B a w) (hg : B ≤ g) (i : Nat) (vs : List Value) : Below B a (setCells w g i vs) := Below.setL' hg vs h i
/-- So many cells are known. -/
def CellsAt (w : World) (g : Nat) (cs : Array Value) : Nat → Nat → Prop
 | _, 0 => True
 | i, n + 1 => w.cell? ⟨g, i, none⟩ = cs[i]? ∧ CellsAt w g cs (i + 1) n
theorem Blk.cells {w : World} {g : Nat} {t : TypeId} {cs : Array Value} (h : Blk w g t cs) (i n : Nat) (hn : i + n ≤ cs.size) : CellsAt w g cs i n := by
 induction n generalizing i with
 | zero => trivial
 | succ n ih => exact ⟨h.cell i, ih (i + 1) (by omega)⟩
abbrev al (m : Af) : List Value := [.float .f64 m.a.x.lo, .float .f64 m.a.x.hi, .float .f64 m.a.y.lo, .float .f64 m.a.y.hi, .float .f64 m.a.z.lo, .float .f64 m.a.z.hi, .float .f64 m.b.x.lo, .float .f64 m.b.x.hi, .float .f64 m.b.y.lo, .float .f64 m.b.y.hi, .float .f64 m.b.z.lo, .float .f64 m.b.z.hi, .float .f64 m.c.x.lo, .float .f64 m.c.x.hi, .float .f64 m.c.y.lo, .float .f64 m.c.y.hi, .float .f64 m.c.z.lo, .float .f64 m.c.z.hi, .float .f64 m.t.x.lo, .float .f64 m.t.x.hi, .float .f64 m.t.y.lo, .float .f64 m.t.y.hi, .float .f64 m.t.z.lo, .float .f64 m.t.z.hi]
abbrev vl (a : V3) : List Value := [.float .f64 a.x.lo, .float .f64 a.x.hi, .float .f64 a.y.lo, .float .f64 a.y.hi, .float .f64 a.z.lo, .float .f64 a.z.hi]
def CellsL (w : World) (g : Nat) : Nat → List Value → Prop
 | _, [] => True
 | i, v :: l => w.cell? ⟨g, i, none⟩ = some v ∧ CellsL w g (i + 1) l
theorem cellsL_of {w : World} {g : Nat} {t : TypeId} {cs : Array Value} (h : Blk w g t cs) (l : List Value) : ∀ (i : Nat), (∀ j, j < l.length → cs[i + j]? = l[j]?) → CellsL w g i l := by
 induction l with
 | nil => intro i _; trivial
 | cons v l ih =>
   intro i e
   refine ⟨?_, ih (i + 1) fun j hj => ?_⟩
   · rw [h.cell i]
     have := e 0 (by simp)
     simpa using this
   · have := e (j + 1) (by simpa using hj)
     rw [show i + 1 + j = i + (j + 1) by omega, this]
     simp
theorem Blk.cellsL {w : World} {g : Nat} {t : TypeId} {cs : Array Value} (h : Blk w g t cs) (i : Nat) (l : List Value) (e : (cs.toList.drop i).take l.length = l) : CellsL w g i l := by
 refine cellsL_of h l i fun j hj => ?_
 have e' := congrArg (fun x => x[j]?) e
 simp only [List.getElem?_take, List.getElem?_drop, hj, if_true] at e'
 rw [← e', Array.getElem?_toList]
theorem info_V3 : (Tryz.prog.info? 26).map (·.size) = some 6 := by kernel_rfl
theorem info_Span : (Tryz.prog.info? 24).map (·.size) = some 2 := by kernel_rfl
def isRow : TypeDesc → Bool
 | .struct _ | .array _ _ => true
 | _ => false
theorem run_row (w : World) (g : Nat) (t ty : TypeId) (cs : Array Value) (d : TypeDesc) (hg : w.heap[g]? = some (.cells cs t (0, 0))) (hu : Tryz.prog.underlying ty = some d) (hd : isRow d = true) (hi : (Tryz.prog.info? ty).map (·.size) = some cs.size) :
   (loadVar ty ⟨g, 0, none⟩).run Tryz.prog w = .ok (.agg cs) w :=
 run_loadVar_row w g t ty cs (0, 0) d hg hu (by cases d <;> simp_all [isRow]) hi
section
variable {fn : Func} {p q r : Tmp} {ta tb : TypeId}
theorem res_c (h : fn.results = #[.cell p ta]) (tmps : Array Value) (w : World) (g : Nat) (cs : Array Value) {t : TypeId} {d : TypeDesc}
   (hp : tmps.getD p undef = .pointer (some ⟨g, 0, none⟩)) (hg : Blk w g t cs) (hi : (Tryz.prog.info? ta).map (·.size) = some cs.size) (hu : Tryz.prog.underlying ta = some d) (hd : isRow d = true) :
   (results fn tmps).run Tryz.prog w = .ok (.agg cs) w := by
 have e1 : tmps[p]?.getD undef = .pointer (some ⟨g, 0, none⟩) := by simpa using hp
 simp [results, h, e1, asAddr, run_row w g t ta cs d hg hu hd hi]
end
theorem bx5 (w : World) (t1 t2 t3 t4 t5 : TypeId) (c1 c2 c3 c4 c5 : Array Value) : ∃ W, W = ((((w.alloc (.cells c1 t1)).alloc (.cells c2 t2)).alloc (.cells c3 t3)).alloc (.cells c4 t4)).alloc (.cells c5 t5) ∧ Blk W w.heap.size t1 c1 ∧ Blk W (w.heap.size + 1) t2 c2 ∧ Blk W (w.heap.size + 1 + 1) t3 c3 ∧ Blk W (w.heap.size + 1 + 1 + 1) t4 c4 ∧ Blk W (w.heap.size + 1 + 1 + 1 + 1) t5 c5 ∧ Below w.heap.size w W ∧ W.heap.size = w.heap.size + 1 + 1 + 1 + 1 + 1 := by
 obtain ⟨W, rfl, k0, k1, k2, k3, hb, hz⟩ := bx4 w t1 t2 t3 t4 c1 c2 c3 c4
 exact ⟨_, rfl, k0.alloc _, k1.alloc _, k2.alloc _, k3.alloc _, Blk.new_at _ _ _ hz.symm, hb.alloc (by omega) _, by simp⟩
theorem kb {V w : World} {g : Nat} {t : TypeId} {cs : Array Value} (K : Hid (Blk V g t cs)) (D : Hid (Below V.heap.size V w)) : Blk w g t cs := K.out.below D.out K.out.lt
theorem kf {V w V' : World} {g g' i : Nat} {vs : List Value} {t : TypeId} {cs : Array Value} (hV : setCells w g' i vs = V') (K : Hid (Blk V g t cs)) (D : Hid (Below V.heap.size V w)) (hg : g ≠ g') : Hid (Blk V' g t cs) := Lib.hid (hV ▸ Blk.farL (kb K D) hg i vs)
theorem ks {V w V' : World} {g i : Nat} {vs : List Value} {t : TypeId} {cs : Array Value} (hV : setCells w g i vs = V') (K : Hid (Blk V g t cs)) (D : Hid (Below V.heap.size V w)) : Hid (Blk V' g t (setL cs i vs)) := Lib.hid (hV ▸ Blk.setL (kb K D) i vs)
theorem ka {V w V' : World} {g : Nat} {o : Obj} {t : TypeId} {cs : Array Value} (hV : w.alloc o = V') (K : Hid (Blk V g t cs)) (D : Hid (Below V.heap.size V w)) : Hid (Blk V' g t cs) := Lib.hid (hV ▸ (kb K D).alloc o)
theorem kn {w V' : World} {g : Nat} {t : TypeId} {cs : Array Value} (hV : w.alloc (.cells cs t) = V') (hg : w.heap.size = g) : Hid (Blk V' g t cs) := Lib.hid (by rw [← hV, ← hg]; exact Blk.new_at _ _ _ rfl)
theorem hbs {w V w' V' : World} {g i : Nat} {vs : List Value} (hV : setCells w' g i vs = V') (HB : Hid (Below w.heap.size w V)) (D : Hid (Below V.heap.size V w')) (hg : w.heap.size ≤ g) : Hid (Below w.heap.size w V') := Lib.hid (hV ▸ Below.setL (below_step HB.out D.out) hg i vs)
theorem hba {w V w' V' : World} {o : Obj} (hV : w'.alloc o = V') (HB : Hid (Below w.heap.size w V)) (D : Hid (Below V.heap.size V w')) : Hid (Below w.heap.size w V') := Lib.hid (hV ▸ below_more (below_step HB.out D.out) o)
theorem dr (V : World) : Hid (Below V.heap.size V V) := Lib.hid (Below.refl _ _)
theorem ds {V w w' : World} (D : Hid (Below V.heap.size V w)) (hb : Below w.heap.size w w') : Hid (Below V.heap.size V w') := Lib.hid (below_step D.out hb)
theorem Blk.setRow {w : World} {g : Nat} {t : TypeId} {cs : Array Value} (h : Blk w g t cs) (cs' : Array Value) : Blk (w.setRow g cs') g t cs' := setRow_heap w g cs cs' t (0, 0) h
theorem Blk.farR {w : World} {g g' : Nat} {t : TypeId} {cs cs' : Array Value} (h : Blk w g t cs) (hg : g ≠ g') : Blk (w.setRow g' cs') g t cs := (setRow_other w g' g cs' hg).trans h
theorem Below.setRow {B g : Nat} {a w : World} {cs : Array Value} (h : Below B a w) (hg : B ≤ g) : Below B a (w.setRow g cs) :=
 ⟨(setRow_os w g cs).trans h.os, (setRow_tape w g cs).trans h.tape, (setRow_output w g cs).trans h.output, by rw [setRow_size]; exact h.size, fun k hk => (setRow_other w g k cs (by omega)).trans (h.block k hk)⟩
theorem kfr {V w V' : World} {g g' : Nat} {t : TypeId} {cs cs' : Array Value} (hV : w.setRow g' cs' = V') (K : Hid (Blk V g t cs)) (D : Hid (Below V.heap.size V w)) (hg : g ≠ g') : Hid (Blk V' g t cs) := Lib.hid (hV ▸ Blk.farR (kb K D) hg)
theorem ksr {V w V' : World} {g : Nat} {t : TypeId} {cs cs' : Array Value} (hV : w.setRow g cs' = V') (K : Hid (Blk V g t cs)) (D : Hid (Below V.heap.size V w)) : Hid (Blk V' g t cs') := Lib.hid (hV ▸ Blk.setRow (kb K D) cs')
theorem hbr {w V w' V' : World} {g : Nat} {cs : Array Value} (hV : w'.setRow g cs = V') (HB : Hid (Below w.heap.size w V)) (D : Hid (Below V.heap.size V w')) (hg : w.heap.size ≤ g) : Hid (Below w.heap.size w V') := Lib.hid (hV ▸ Below.setRow (below_step HB.out D.out) hg)
theorem ldR {oi : Oper} {a : Act} {w : World} {ty t : TypeId} {x : Operand} {g : Nat} {cs : Array Value} {d : TypeDesc} (ho : oi.op = .load ty x) (hx : a.eval x = .pointer (some ⟨g, 0, none⟩)) (hg : Blk w g t cs)
   (hi : (Tryz.prog.info? ty).map (·.size) = some cs.size) (hu : Tryz.prog.underlying ty = some d) (hd : isRow d = true) : (execOp a.eval oi).run Tryz.prog w = .ok (.value (.agg cs)) w := by
 unfold execOp
 simp only [ho, hx, Instr.loadAt, Instr.sureAddr, Sem.run_bind, Sem.run_pure, Result.andThen_ok, run_row w g t ty cs d hg hu hd hi]
theorem wl_load {ops : Array Oper} {rest : List Oper} {o : Oper} {a : Act} {w : World} {Q : Exit → Act → World → Prop} {ty t : TypeId} {x : Operand} {g : Nat} {cs : Array Value} {d : TypeDesc} (hgd : Region.wanted o (yielded ops a.tmps) = true) (ho : o.op = .load ty x)
   (hx : a.eval x = .pointer (some ⟨g, 0, none⟩)) (hg : Blk w g t cs) (hi : (Tryz.prog.info? ty).map (·.size) = some cs.size) (hu : Tryz.prog.underlying ty = some d) (hd : isRow d = true)
   (h : wpList Tryz.prog ops Q rest (a.put o.dst (.agg cs)) w) : wpList Tryz.prog ops Q (o :: rest) a w :=
 BigFrame.wpList_want hgd fun _ hK => wp_load_row ty x ho g hx t cs (0, 0) d hg hu (by cases d <;> simp_all [isRow]) hi (hK _ _ h)
def tkOk (md : Region.Mode) (ops : Array Oper) (listed : Array Bool) (i : Nat) (l' : Array Bool) : Bool :=
 Region.noSelect ops && Region.free md ops listed i && (Region.ready md ops listed).contains i && decide (listed.setIfInBounds i true = l')
theorem tk {P : Program} {ops : Array Oper} {Q : Exit → Act → World → Prop} {md : Region.Mode} {S : World → Prop} {oi : Oper} {fuel : Nat} {listed : Array Bool} {a : Act} {w : World} (i : Nat) (l' : Array Bool) (v : Value) (a' : Act)
   (hi : ops[i]? = some oi) (hk : tkOk md ops listed i l' = true) (hQ : ∀ c a w, Q (.panic c) (a.put oi.dst v) w → Q (.panic c) a w) (hw : Region.wanted oi (yielded ops a.tmps) = true)
   (hv : ∀ w, S w → (execOp a.eval oi).run P w = .ok (.value v) w) (ha : a.put oi.dst v = a') (hS : S w) (h : wpAnyH P md ops Q S fuel l' a' w) : wpAnyH P md ops Q S (fuel + 1) listed a w := by
 unfold tkOk at hk
 simp only [Bool.and_eq_true, decide_eq_true_eq] at hk
 obtain ⟨⟨⟨h1, h2⟩, h3⟩, rfl⟩ := hk
 subst ha
 exact wpAnyH_take hi h1 h2 h3 hQ (Or.inl ⟨hw, hv⟩) hS h
theorem tkq {P : Program} {ops : Array Oper} {Q : Exit → Act → World → Prop} {md : Region.Mode} {S : World → Prop} {oi : Oper} {fuel : Nat} {listed : Array Bool} {a : Act} {w : World} (i : Nat) (l' : Array Bool) {v : Value} {a' : Act} (hS : S w) (h : wpAnyH P md ops Q S fuel l' a' w)
   (hi : ops[i]? = some oi := by rfl) (hk : tkOk md ops listed i l' = true := by kernel_rfl) (hQ : ∀ c a w, Q (.panic c) (a.put oi.dst v) w → Q (.panic c) a w := by exact fun _ _ _ h => h) (hw : Region.wanted oi (yielded ops a.tmps) = true := by kernel_rfl)
   (hv : ∀ w, S w → (execOp a.eval oi).run P w = .ok (.value v) w := by (intro w hS; go_simp; try with_reducible rfl)) (ha : a.put oi.dst v = a' := by (go_simp; try with_reducible rfl)) : wpAnyH P md ops Q S (fuel + 1) listed a w :=
 tk i l' v a' hi hk hQ hw hv ha hS h
theorem tke {P : Program} {ops : Array Oper} {Q : Exit → Act → World → Prop} {md : Region.Mode} {S : World → Prop} {oi : Oper} {fuel : Nat} {listed : Array Bool} {a : Act} {w : World} (i : Nat) (l' : Array Bool) {v : Value} {a' : Act} (hS : S w) (h : wpAnyH P md ops Q S fuel l' a' w)
   (hi : ops[i]? = some oi := by rfl) (hk : tkOk md ops listed i l' = true := by kernel_rfl) (hQ : ∀ c a w, Q (.panic c) (a.put oi.dst v) w → Q (.panic c) a w := by exact fun _ _ _ h => h) (hw : Region.wanted oi (yielded ops a.tmps) = true := by kernel_rfl)
   (hv : ∀ w, S w → (execOp a.eval oi).run P w = .ok (.value v) w := by (intro w hS; dsimp only [CellsL, al, vl, Nat.reduceAdd] at hS; go_simp; try with_reducible rfl)) (ha : a.put oi.dst v = a' := by (go_simp; try with_reducible rfl)) : wpAnyH P md ops Q S (fuel + 1) listed a w :=
 tk i l' v a' hi hk hQ hw hv ha hS h
theorem tkL {ops : Array Oper} {Q : Exit → Act → World → Prop} {md : Region.Mode} {S : World → Prop} {oi : Oper} {fuel : Nat} {listed : Array Bool} {a : Act} {w : World} {ty t : TypeId} {x : Operand} {g : Nat} {cs : Array Value} {d : TypeDesc} (i : Nat) (l' : Array Bool) (a' : Act)
   (hi : ops[i]? = some oi) (hk : tkOk md ops listed i l' = true) (hQ : ∀ c a w, Q (.panic c) (a.put oi.dst (.agg cs)) w → Q (.panic c) a w) (hw : Region.wanted oi (yielded ops a.tmps) = true)
   (ho : oi.op = .load ty x) (hx : a.eval x = .pointer (some ⟨g, 0, none⟩)) (hg : ∀ w, S w → Blk w g t cs) (hn : (Tryz.prog.info? ty).map (·.size) = some cs.size) (hu : Tryz.prog.underlying ty = some d) (hd : isRow d = true)
   (ha : a.put oi.dst (.agg cs) = a') (hS : S w) (h : wpAnyH Tryz.prog md ops Q S fuel l' a' w) : wpAnyH Tryz.prog md ops Q S (fuel + 1) listed a w :=
 tk i l' _ a' hi hk hQ hw (fun w s => ldR ho hx (hg w s) hn hu hd) ha hS h
end Go.Proofs.YtnljfcebmgifdaaGreat
