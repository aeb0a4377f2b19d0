/- How the walks of layers 3 and 4 are written: blocks, stores, results, steps of a region. -/
import Derived.Test.YtdgaaceebghcpaaZGf
import Derived.Test.YtdgaaceebghcpaaZGr
import Derived.Test.YtdgaaceebghcpaaZYd
set_option linter.unusedVariables false
set_option linter.unusedSimpArgs false
namespace Go.Proofs.Ytdgaaceebghcpaa
open Go.RowKit Fl

abbrev ac (m : Af) : Array Value := #[Value.float FloatKind.f64 m.a.x.lo, Value.float FloatKind.f64 m.a.x.hi, Value.float FloatKind.f64 m.a.y.lo, Value.float FloatKind.f64 m.a.y.hi, Value.float FloatKind.f64 m.a.z.lo, Value.float FloatKind.f64 m.a.z.hi, Value.float FloatKind.f64 m.b.x.lo, Value.float FloatKind.f64 m.b.x.hi, Value.float FloatKind.f64 m.b.y.lo, Value.float FloatKind.f64 m.b.y.hi, Value.float FloatKind.f64 m.b.z.lo, Value.float FloatKind.f64 m.b.z.hi, Value.float FloatKind.f64 m.c.x.lo, Value.float FloatKind.f64 m.c.x.hi, Value.float FloatKind.f64 m.c.y.lo, Value.float FloatKind.f64 m.c.y.hi, Value.float FloatKind.f64 m.c.z.lo, Value.float FloatKind.f64 m.c.z.hi, Value.float FloatKind.f64 m.t.x.lo, Value.float FloatKind.f64 m.t.x.hi, Value.float FloatKind.f64 m.t.y.lo, Value.float FloatKind.f64 m.t.y.hi, Value.float FloatKind.f64 m.t.z.lo, Value.float FloatKind.f64 m.t.z.hi]
abbrev vc (a : V3) : Array Value := #[Value.float FloatKind.f64 a.x.lo, Value.float FloatKind.f64 a.x.hi, Value.float FloatKind.f64 a.y.lo, Value.float FloatKind.f64 a.y.hi, Value.float FloatKind.f64 a.z.lo, Value.float FloatKind.f64 a.z.hi]
/-- Stores into neighbouring cells. -/
def setCells (w : World) (g : Nat) : Nat → List Value → World
  | _, [] => w
  | i, v :: vs => setCells (w.setCell ⟨g, i, none⟩ v) g (i + 1) vs
def setL (cs : Array Value) : Nat → List Value → Array Value
  | _, [] => cs
  | i, v :: vs => setL (cs.setIfInBounds i v) (i + 1) vs
theorem Blk.setL' {g : Nat} {t : TypeId} (vs : List Value) : ∀ {w : World} {cs : Array Value} (h : Blk w g t cs) (i : Nat), Blk (setCells w g i vs) g t (Go.Proofs.Ytdgaaceebghcpaa.setL cs i vs) := by
  induction vs with
  | nil => intro w cs h i; exact h
  | cons v vs ih => intro w cs h i; exact ih (h.set_ i v) (i + 1)
theorem Blk.setL {w : World} {g : Nat} {t : TypeId} {cs : Array Value} (h : Blk w g t cs) (i : Nat) (vs : List Value) : Blk (setCells w g i vs) g t (Go.Proofs.Ytdgaaceebghcpaa.setL cs i vs) := Blk.setL' vs h i
theorem Blk.farL' {g g' : Nat} {t : TypeId} {cs : Array Value} (hg : g ≠ g') (vs : List Value) : ∀ {w : World} (h : Blk w g t cs) (i : Nat), Blk (setCells w g' i vs) g t cs := by
  induction vs with
  | nil => intro w h i; exact h
  | cons v vs ih => intro w h i; exact ih (h.far (p := ⟨g', i, none⟩) hg v) (i + 1)
theorem Blk.farL {w : World} {g g' : Nat} {t : TypeId} {cs : Array Value} (h : Blk w g t cs) (hg : g ≠ g') (i : Nat) (vs : List Value) : Blk (setCells w g' i vs) g t cs := Blk.farL' hg vs h i
theorem Below.setL' {B g : Nat} {a : World} (hg : B ≤ g) (vs : List Value) : ∀ {w : World} (h : Below B a w) (i : Nat), Below B a (setCells w g i vs) := by
  induction vs with
  | nil => intro w h i; exact h
  | cons v vs ih => intro w h i; exact ih (h.setCell (p := ⟨g, i, none⟩) hg v) (i + 1)
theorem Below.setL {B g : Nat} {a w : World} (h : Below B a w) (hg : B ≤ g) (i : Nat) (vs : List Value) : Below B a (setCells w g i vs) := Below.setL' hg vs h i
/-- So many cells are known. -/
def CellsAt (w : World) (g : Nat) (cs : Array Value) : Nat → Nat → Prop
  | _, 0 => True
  | i, n + 1 => w.cell? ⟨g, i, none⟩ = cs[i]? ∧ CellsAt w g cs (i + 1) n
theorem Blk.cells {w : World} {g : Nat} {t : TypeId} {cs : Array Value} (h : Blk w g t cs) (i n : Nat) (hn : i + n ≤ cs.size) : CellsAt w g cs i n := by
  induction n generalizing i with
  | zero => trivial
  | succ n ih => exact ⟨h.cell i, ih (i + 1) (by omega)⟩
abbrev al (m : Af) : List Value := [.float .f64 m.a.x.lo, .float .f64 m.a.x.hi, .float .f64 m.a.y.lo, .float .f64 m.a.y.hi, .float .f64 m.a.z.lo, .float .f64 m.a.z.hi, .float .f64 m.b.x.lo, .float .f64 m.b.x.hi, .float .f64 m.b.y.lo, .float .f64 m.b.y.hi, .float .f64 m.b.z.lo, .float .f64 m.b.z.hi, .float .f64 m.c.x.lo, .float .f64 m.c.x.hi, .float .f64 m.c.y.lo, .float .f64 m.c.y.hi, .float .f64 m.c.z.lo, .float .f64 m.c.z.hi, .float .f64 m.t.x.lo, .float .f64 m.t.x.hi, .float .f64 m.t.y.lo, .float .f64 m.t.y.hi, .float .f64 m.t.z.lo, .float .f64 m.t.z.hi]
abbrev vl (a : V3) : List Value := [.float .f64 a.x.lo, .float .f64 a.x.hi, .float .f64 a.y.lo, .float .f64 a.y.hi, .float .f64 a.z.lo, .float .f64 a.z.hi]
def CellsL (w : World) (g : Nat) : Nat → List Value → Prop
  | _, [] => True
  | i, v :: l => w.cell? ⟨g, i, none⟩ = some v ∧ CellsL w g (i + 1) l
theorem cellsL_of {w : World} {g : Nat} {t : TypeId} {cs : Array Value} (h : Blk w g t cs) (l : List Value) : ∀ (i : Nat), (∀ j, j < l.length → cs[i + j]? = l[j]?) → CellsL w g i l := by
  induction l with
  | nil => intro i _; trivial
  | cons v l ih =>
    intro i e
    refine ⟨?_, ih (i + 1) fun j hj => ?_⟩
    · rw [h.cell i]
      have := e 0 (by simp)
      simpa using this
    · have := e (j + 1) (by simpa using hj)
      rw [show i + 1 + j = i + (j + 1) by omega, this]
      simp
theorem Blk.cellsL {w : World} {g : Nat} {t : TypeId} {cs : Array Value} (h : Blk w g t cs) (i : Nat) (l : List Value) (e : (cs.toList.drop i).take l.length = l) : CellsL w g i l := by
  refine cellsL_of h l i fun j hj => ?_
  have e' := congrArg (fun x => x[j]?) e
  simp only [List.getElem?_take, List.getElem?_drop, hj, if_true] at e'
  rw [← e', Array.getElem?_toList]
theorem info_V3 : (Try.prog.info? 26).map (·.size) = some 6 := by kernel_rfl
theorem info_Span : (Try.prog.info? 24).map (·.size) = some 2 := by kernel_rfl
def isRow : TypeDesc → Bool
  | .struct _ | .array _ _ => true
  | _ => false
theorem run_row (w : World) (g : Nat) (t ty : TypeId) (cs : Array Value) (d : TypeDesc) (hg : w.heap[g]? = some (.cells cs t (0, 0))) (hu : Try.prog.underlying ty = some d) (hd : isRow d = true) (hi : (Try.prog.info? ty).map (·.size) = some cs.size) :
    (loadVar ty ⟨g, 0, none⟩).run Try.prog w = .ok (.agg cs) w :=
  run_loadVar_row w g t ty cs (0, 0) d hg hu (by cases d <;> simp_all [isRow]) hi
section
variable {fn : Func} {p q r : Tmp} {ta tb : TypeId}
theorem res_c (h : fn.results = #[.cell p ta]) (tmps : Array Value) (w : World) (g : Nat) (cs : Array Value) {t : TypeId} {d : TypeDesc}
    (hp : tmps.getD p undef = .pointer (some ⟨g, 0, none⟩)) (hg : Blk w g t cs) (hi : (Try.prog.info? ta).map (·.size) = some cs.size) (hu : Try.prog.underlying ta = some d) (hd : isRow d = true) :
    (results fn tmps).run Try.prog w = .ok (.agg cs) w := by
  have e1 : tmps[p]?.getD undef = .pointer (some ⟨g, 0, none⟩) := by simpa using hp
  simp [results, h, e1, asAddr, run_row w g t ta cs d hg hu hd hi]
theorem res_cc (h : fn.results = #[.cell p ta, .cell q tb]) (tmps : Array Value) (w : World) (g : Nat) (cs : Array Value) (g' : Nat) (cs' : Array Value) {t t' : TypeId} {d d' : TypeDesc}
    (hp : tmps.getD p undef = .pointer (some ⟨g, 0, none⟩)) (hg : Blk w g t cs) (hi : (Try.prog.info? ta).map (·.size) = some cs.size) (hu : Try.prog.underlying ta = some d) (hd : isRow d = true)
    (hp' : tmps.getD q undef = .pointer (some ⟨g', 0, none⟩)) (hg' : Blk w g' t' cs') (hi' : (Try.prog.info? tb).map (·.size) = some cs'.size) (hu' : Try.prog.underlying tb = some d') (hd' : isRow d' = true) :
    (results fn tmps).run Try.prog w = .ok (.tuple #[.agg cs, .agg cs']) w := by
  have e1 : tmps[p]?.getD undef = .pointer (some ⟨g, 0, none⟩) := by simpa using hp
  have e2 : tmps[q]?.getD undef = .pointer (some ⟨g', 0, none⟩) := by simpa using hp'
  simp [results, h, e1, e2, asAddr, run_row w g t ta cs d hg hu hd hi, run_row w g' t' tb cs' d' hg' hu' hd' hi']
theorem res_cct (h : fn.results = #[.cell p ta, .cell q tb, .tmp r]) (tmps : Array Value) (w : World) (g : Nat) (cs : Array Value) (g' : Nat) (cs' : Array Value) {t t' : TypeId} {d d' : TypeDesc}
    (hp : tmps.getD p undef = .pointer (some ⟨g, 0, none⟩)) (hg : Blk w g t cs) (hi : (Try.prog.info? ta).map (·.size) = some cs.size) (hu : Try.prog.underlying ta = some d) (hd : isRow d = true)
    (hp' : tmps.getD q undef = .pointer (some ⟨g', 0, none⟩)) (hg' : Blk w g' t' cs') (hi' : (Try.prog.info? tb).map (·.size) = some cs'.size) (hu' : Try.prog.underlying tb = some d') (hd' : isRow d' = true) :
    (results fn tmps).run Try.prog w = .ok (.tuple #[.agg cs, .agg cs', tmps.getD r undef]) w := by
  have e1 : tmps[p]?.getD undef = .pointer (some ⟨g, 0, none⟩) := by simpa using hp
  have e2 : tmps[q]?.getD undef = .pointer (some ⟨g', 0, none⟩) := by simpa using hp'
  simp [results, h, e1, e2, asAddr, run_row w g t ta cs d hg hu hd hi, run_row w g' t' tb cs' d' hg' hu' hd' hi']
theorem res_ct (h : fn.results = #[.cell p ta, .tmp r]) (tmps : Array Value) (w : World) (g : Nat) (cs : Array Value) {t : TypeId} {d : TypeDesc}
    (hp : tmps.getD p undef = .pointer (some ⟨g, 0, none⟩)) (hg : Blk w g t cs) (hi : (Try.prog.info? ta).map (·.size) = some cs.size) (hu : Try.prog.underlying ta = some d) (hd : isRow d = true) :
    (results fn tmps).run Try.prog w = .ok (.tuple #[.agg cs, tmps.getD r undef]) w := by
  have e1 : tmps[p]?.getD undef = .pointer (some ⟨g, 0, none⟩) := by simpa using hp
  simp [results, h, e1, asAddr, run_row w g t ta cs d hg hu hd hi]
end
theorem info_Affine : (Try.prog.info? 29).map (·.size) = some 24 := by kernel_rfl
theorem kb {V w : World} {g : Nat} {t : TypeId} {cs : Array Value} (K : Hid (Blk V g t cs)) (D : Hid (Below V.heap.size V w)) : Blk w g t cs := K.out.below D.out K.out.lt
theorem kf {V w V' : World} {g g' i : Nat} {vs : List Value} {t : TypeId} {cs : Array Value} (hV : setCells w g' i vs = V') (K : Hid (Blk V g t cs)) (D : Hid (Below V.heap.size V w)) (hg : g ≠ g') : Hid (Blk V' g t cs) := Lib.hid (hV ▸ Blk.farL (kb K D) hg i vs)
theorem ks {V w V' : World} {g i : Nat} {vs : List Value} {t : TypeId} {cs : Array Value} (hV : setCells w g i vs = V') (K : Hid (Blk V g t cs)) (D : Hid (Below V.heap.size V w)) : Hid (Blk V' g t (setL cs i vs)) := Lib.hid (hV ▸ Blk.setL (kb K D) i vs)
theorem ka {V w V' : World} {g : Nat} {o : Obj} {t : TypeId} {cs : Array Value} (hV : w.alloc o = V') (K : Hid (Blk V g t cs)) (D : Hid (Below V.heap.size V w)) : Hid (Blk V' g t cs) := Lib.hid (hV ▸ (kb K D).alloc o)
theorem kn {w V' : World} {g : Nat} {t : TypeId} {cs : Array Value} (hV : w.alloc (.cells cs t) = V') (hg : w.heap.size = g) : Hid (Blk V' g t cs) := Lib.hid (by rw [← hV, ← hg]; exact Blk.new_at _ _ _ rfl)
theorem hbs {w V w' V' : World} {g i : Nat} {vs : List Value} (hV : setCells w' g i vs = V') (HB : Hid (Below w.heap.size w V)) (D : Hid (Below V.heap.size V w')) (hg : w.heap.size ≤ g) : Hid (Below w.heap.size w V') := Lib.hid (hV ▸ Below.setL (below_step HB.out D.out) hg i vs)
theorem hba {w V w' V' : World} {o : Obj} (hV : w'.alloc o = V') (HB : Hid (Below w.heap.size w V)) (D : Hid (Below V.heap.size V w')) : Hid (Below w.heap.size w V') := Lib.hid (hV ▸ below_more (below_step HB.out D.out) o)
theorem dr (V : World) : Hid (Below V.heap.size V V) := Lib.hid (Below.refl _ _)
theorem ds {V w w' : World} (D : Hid (Below V.heap.size V w)) (hb : Below w.heap.size w w') : Hid (Below V.heap.size V w') := Lib.hid (below_step D.out hb)
theorem Blk.setRow {w : World} {g : Nat} {t : TypeId} {cs : Array Value} (h : Blk w g t cs) (cs' : Array Value) : Blk (w.setRow g cs') g t cs' := setRow_heap w g cs cs' t (0, 0) h
theorem Blk.farR {w : World} {g g' : Nat} {t : TypeId} {cs cs' : Array Value} (h : Blk w g t cs) (hg : g ≠ g') : Blk (w.setRow g' cs') g t cs := (setRow_other w g' g cs' hg).trans h
theorem Below.setRow {B g : Nat} {a w : World} {cs : Array Value} (h : Below B a w) (hg : B ≤ g) : Below B a (w.setRow g cs) :=
  ⟨(setRow_os w g cs).trans h.os, (setRow_tape w g cs).trans h.tape, (setRow_output w g cs).trans h.output, by rw [setRow_size]; exact h.size, fun k hk => (setRow_other w g k cs (by omega)).trans (h.block k hk)⟩
theorem kfr {V w V' : World} {g g' : Nat} {t : TypeId} {cs cs' : Array Value} (hV : w.setRow g' cs' = V') (K : Hid (Blk V g t cs)) (D : Hid (Below V.heap.size V w)) (hg : g ≠ g') : Hid (Blk V' g t cs) := Lib.hid (hV ▸ Blk.farR (kb K D) hg)
theorem ksr {V w V' : World} {g : Nat} {t : TypeId} {cs cs' : Array Value} (hV : w.setRow g cs' = V') (K : Hid (Blk V g t cs)) (D : Hid (Below V.heap.size V w)) : Hid (Blk V' g t cs') := Lib.hid (hV ▸ Blk.setRow (kb K D) cs')
theorem hbr {w V w' V' : World} {g : Nat} {cs : Array Value} (hV : w'.setRow g cs = V') (HB : Hid (Below w.heap.size w V)) (D : Hid (Below V.heap.size V w')) (hg : w.heap.size ≤ g) : Hid (Below w.heap.size w V') := Lib.hid (hV ▸ Below.setRow (below_step HB.out D.out) hg)
theorem info_V3x3 : (Try.prog.info? 27).map (·.size) = some 18 := by kernel_rfl
theorem ldR {oi : Oper} {a : Act} {w : World} {ty t : TypeId} {x : Operand} {g : Nat} {cs : Array Value} {d : TypeDesc} (ho : oi.op = .load ty x) (hx : a.eval x = .pointer (some ⟨g, 0, none⟩)) (hg : Blk w g t cs)
    (hi : (Try.prog.info? ty).map (·.size) = some cs.size) (hu : Try.prog.underlying ty = some d) (hd : isRow d = true) : (execOp a.eval oi).run Try.prog w = .ok (.value (.agg cs)) w := by
  unfold execOp
  simp only [ho, hx, Instr.loadAt, Instr.sureAddr, Sem.run_bind, Sem.run_pure, Result.andThen_ok, run_row w g t ty cs d hg hu hd hi]
theorem wl_load {ops : Array Oper} {rest : List Oper} {o : Oper} {a : Act} {w : World} {Q : Exit → Act → World → Prop} {ty t : TypeId} {x : Operand} {g : Nat} {cs : Array Value} {d : TypeDesc} (hgd : Region.wanted o (yielded ops a.tmps) = true) (ho : o.op = .load ty x)
    (hx : a.eval x = .pointer (some ⟨g, 0, none⟩)) (hg : Blk w g t cs) (hi : (Try.prog.info? ty).map (·.size) = some cs.size) (hu : Try.prog.underlying ty = some d) (hd : isRow d = true)
    (h : wpList Try.prog ops Q rest (a.put o.dst (.agg cs)) w) : wpList Try.prog ops Q (o :: rest) a w :=
  BigFrame.wpList_want hgd fun _ hK => wp_load_row ty x ho g hx t cs (0, 0) d hg hu (by cases d <;> simp_all [isRow]) hi (hK _ _ h)
def tkOk (md : Region.Mode) (ops : Array Oper) (listed : Array Bool) (i : Nat) (l' : Array Bool) : Bool :=
  Region.noSelect ops && Region.free md ops listed i && (Region.ready md ops listed).contains i && decide (listed.setIfInBounds i true = l')
theorem tk {P : Program} {ops : Array Oper} {Q : Exit → Act → World → Prop} {md : Region.Mode} {S : World → Prop} {oi : Oper} {fuel : Nat} {listed : Array Bool} {a : Act} {w : World} (i : Nat) (l' : Array Bool) (v : Value) (a' : Act)
    (hi : ops[i]? = some oi) (hk : tkOk md ops listed i l' = true) (hQ : ∀ c a w, Q (.panic c) (a.put oi.dst v) w → Q (.panic c) a w) (hw : Region.wanted oi (yielded ops a.tmps) = true)
    (hv : ∀ w, S w → (execOp a.eval oi).run P w = .ok (.value v) w) (ha : a.put oi.dst v = a') (hS : S w) (h : wpAnyH P md ops Q S fuel l' a' w) : wpAnyH P md ops Q S (fuel + 1) listed a w := by
  unfold tkOk at hk
  simp only [Bool.and_eq_true, decide_eq_true_eq] at hk
  obtain ⟨⟨⟨h1, h2⟩, h3⟩, rfl⟩ := hk
  subst ha
  exact wpAnyH_take hi h1 h2 h3 hQ (Or.inl ⟨hw, hv⟩) hS h
theorem tu {P : Program} {ops : Array Oper} {Q : Exit → Act → World → Prop} {md : Region.Mode} {S : World → Prop} {oi : Oper} {fuel : Nat} {listed : Array Bool} {a : Act} {w : World} (i : Nat) (l' : Array Bool) (a' : Act)
    (hi : ops[i]? = some oi) (hk : tkOk md ops listed i l' = true) (hQ : ∀ c a w, Q (.panic c) (a.put oi.dst undef) w → Q (.panic c) a w) (hw : Region.wanted oi (yielded ops a.tmps) = false)
    (ha : a.put oi.dst undef = a') (hS : S w) (h : wpAnyH P md ops Q S fuel l' a' w) : wpAnyH P md ops Q S (fuel + 1) listed a w := by
  unfold tkOk at hk
  simp only [Bool.and_eq_true, decide_eq_true_eq] at hk
  obtain ⟨⟨⟨h1, h2⟩, h3⟩, rfl⟩ := hk
  subst ha
  exact wpAnyH_take hi h1 h2 h3 hQ (Or.inr ⟨hw, rfl⟩) hS h
theorem tkL {ops : Array Oper} {Q : Exit → Act → World → Prop} {md : Region.Mode} {S : World → Prop} {oi : Oper} {fuel : Nat} {listed : Array Bool} {a : Act} {w : World} {ty t : TypeId} {x : Operand} {g : Nat} {cs : Array Value} {d : TypeDesc} (i : Nat) (l' : Array Bool) (a' : Act)
    (hi : ops[i]? = some oi) (hk : tkOk md ops listed i l' = true) (hQ : ∀ c a w, Q (.panic c) (a.put oi.dst (.agg cs)) w → Q (.panic c) a w) (hw : Region.wanted oi (yielded ops a.tmps) = true)
    (ho : oi.op = .load ty x) (hx : a.eval x = .pointer (some ⟨g, 0, none⟩)) (hg : ∀ w, S w → Blk w g t cs) (hn : (Try.prog.info? ty).map (·.size) = some cs.size) (hu : Try.prog.underlying ty = some d) (hd : isRow d = true)
    (ha : a.put oi.dst (.agg cs) = a') (hS : S w) (h : wpAnyH Try.prog md ops Q S fuel l' a' w) : wpAnyH Try.prog md ops Q S (fuel + 1) listed a w :=
  tk i l' _ a' hi hk hQ hw (fun w s => ldR ho hx (hg w s) hn hu hd) ha hS h
end Go.Proofs.Ytdgaaceebghcpaa
