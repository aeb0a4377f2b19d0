/- Shaken: RowV. -/
import Derived.Test.YtnljfcebmgifdaaGreatZRowS
set_option linter.unusedVariables false
set_option linter.unusedSimpArgs false
namespace Go.Proofs.YtnljfcebmgifdaaGreat
open Go.ChangeShapes Go.WideShapes Go.ChangeAt Go.RowKit Go.Joins
theorem okWide_arr {P : Program} {w : World} {r : Reach} {b0 n : Nat} {t e : TypeId} {v : Value} (ht : P.underlying t = some (.array n e)) (h : Value.okWide P w r b0 t v) : ∃ cs, v = .agg cs ∧ cs.size = P.cellsOf t := by
 simp only [Value.okWide, ht] at h
 obtain ⟨cs, h1, h2, _⟩ := h
 exact ⟨cs, h1, h2⟩
section
variable {H : Type} {enc : TypeId × Value → H} {w : World} {base : Nat} {spare : Nat → Bool} {held : Bool}
def wfF (x : Nat) : Prop := (Lit.float .f64 x).wf = true
/-- What reads at the type is so many floats; and so many floats read at it. -/
structure Flat (enc : TypeId × Value → H) (w : World) (base : Nat) (spare : Nat → Bool) (held : Bool) (T : TypeId) (k : Nat) (sh : List Nat → DataW H) : Prop where
 op : ∀ n (cs : List Value) y, cs.length = k → DataW.trod enc Tryz.prog w base spare held n T cs = some y → ∃ ws : List Nat, cs = ws.map (Value.float .f64) ∧ y = (sh ws, []) ∧ ∀ x ∈ ws, wfF x
 sh : ∀ ws : List Nat, ws.length = k → (∀ x ∈ ws, wfF x) → ∃ n0, ∀ n, n0 ≤ n → DataW.trod enc Tryz.prog w base spare held n T (ws.map (Value.float .f64)) = some (sh ws, [])
def shF (ws : List Nat) : DataW H := .lit (.float .f64 (ws.getD 0 0))
theorem flatF {t : TypeId} (ht : Tryz.prog.underlying t = some (.float .f64)) : Flat enc w base spare held t 1 shF := by
 refine ⟨?_, ?_⟩
 · intro n cs y hl h
   match cs, hl with
   | [v], _ =>
     obtain ⟨b, rfl, rfl, hw⟩ := trod_float1 ht h
     exact ⟨[b], rfl, rfl, by intro x hx; simp only [List.mem_singleton] at hx; subst hx; exact hw⟩
 · intro ws hl hw
   match ws, hl with
   | [b], _ =>
     have hb : (Lit.float .f64 b).wf = true := hw b (by simp)
     refine ⟨1, fun n hn => ?_⟩
     cases n with
     | zero => omega
     | succ n => simp [DataW.trod, ht, hb, shF]
def sh3 (k : Nat) (f : List Nat → DataW H) (ws : List Nat) : DataW H := .agg [f (ws.take k), f ((ws.drop k).take k), f ((ws.drop (2 * k)).take k)]
theorem cut3 {α : Type} {k : Nat} {cs : List α} (h : cs.length = 3 * k) : cs = (cs.drop (0 * k)).take k ++ (cs.drop (1 * k)).take k ++ (cs.drop (2 * k)).take k := by
 have e : (cs.drop (2 * k)).take k = cs.drop (2 * k) := List.take_of_length_le (by simp; omega)
 rw [e]
 simp only [Nat.zero_mul, Nat.one_mul, List.drop_zero]
 have e2 : List.take k (cs.drop k) ++ cs.drop (2 * k) = cs.drop k := by
   have := List.take_append_drop k (cs.drop k)
   rw [List.drop_drop] at this
   rw [show 2 * k = k + k by omega]; exact this
 rw [List.append_assoc, e2, List.take_append_drop]
theorem trod_arr3 {n : Nat} {T e : TypeId} {cs : List Value} (hT : Tryz.prog.underlying T = some (.array 3 e)) :
   DataW.trod enc Tryz.prog w base spare held (n + 1) T cs = (if cs.length = Tryz.prog.cellsOf T then ((List.range 3).mapM fun i => DataW.trod enc Tryz.prog w base spare held n e ((cs.drop (i * Tryz.prog.cellsOf e)).take (Tryz.prog.cellsOf e))).map fun xs => (DataW.agg (xs.map (·.1)), xs.flatMap (·.2)) else none) := by
 rw [DataW.trod.eq_def]
 simp only [hT]
theorem flat3 {T e : TypeId} {k : Nat} {f : List Nat → DataW H} (hT : Tryz.prog.underlying T = some (.array 3 e)) (hc : Tryz.prog.cellsOf T = 3 * k) (he : Tryz.prog.cellsOf e = k) (F : Flat enc w base spare held e k f) : Flat enc w base spare held T (3 * k) (sh3 k f) := by
 refine ⟨?_, ?_⟩
 · intro n cs y hl h
   cases n with
   | zero => simp [DataW.trod] at h
   | succ n =>
     rw [trod_arr3 hT, if_pos (hl.trans hc.symm), he, show List.range 3 = [0, 1, 2] from rfl] at h
     simp only [List.mapM_cons, List.mapM_nil, Option.map_eq_some_iff, Option.bind_eq_bind, Option.bind_eq_some_iff, Option.pure_def, Option.some.injEq] at h
     obtain ⟨xs, ⟨y0, h0, l1, ⟨y1, h1, l2, ⟨y2, h2, l3, rfl, rfl⟩, rfl⟩, rfl⟩, hx⟩ := h
     obtain ⟨w0, c0, rfl, q0⟩ := F.op _ _ _ (by simp; omega) h0
     obtain ⟨w1, c1, rfl, q1⟩ := F.op _ _ _ (by simp; omega) h1
     obtain ⟨w2, c2, rfl, q2⟩ := F.op _ _ _ (by simp; omega) h2
     have s0 : w0.length = k := by have := congrArg List.length c0; simp at this; omega
     have s1 : w1.length = k := by have := congrArg List.length c1; simp at this; omega
     have s2 : w2.length = k := by have := congrArg List.length c2; simp at this; omega
     refine ⟨w0 ++ w1 ++ w2, ?_, ?_, ?_⟩
     · rw [List.map_append, List.map_append, ← c0, ← c1, ← c2]; exact cut3 hl
     · rw [← hx]
       unfold sh3
       have e0 : List.take k (w0 ++ w1 ++ w2) = w0 := by rw [List.append_assoc, ← s0, List.take_left]
       have e1 : List.take k (List.drop k (w0 ++ w1 ++ w2)) = w1 := by rw [List.append_assoc, show List.drop k (w0 ++ (w1 ++ w2)) = w1 ++ w2 by rw [← s0, List.drop_left], ← s1, List.take_left]
       have e2 : List.take k (List.drop (2 * k) (w0 ++ w1 ++ w2)) = w2 := by rw [show List.drop (2 * k) (w0 ++ w1 ++ w2) = w2 by rw [show 2 * k = (w0 ++ w1).length by simp; omega, List.drop_left], ← s2, List.take_length]
       rw [e0, e1, e2]
       simp
     · intro x hx
       simp only [List.mem_append] at hx
       rcases hx with (hx | hx) | hx
       · exact q0 x hx
       · exact q1 x hx
       · exact q2 x hx
 · intro ws hl hw
   have m : ∀ i x, x ∈ (ws.drop i).take k → wfF x := fun i x hx => hw x (List.mem_of_mem_drop (List.mem_of_mem_take hx))
   obtain ⟨n0, h0⟩ := F.sh ((ws.drop (0 * k)).take k) (by simp; omega) (m _)
   obtain ⟨n1, h1⟩ := F.sh ((ws.drop (1 * k)).take k) (by simp; omega) (m _)
   obtain ⟨n2, h2⟩ := F.sh ((ws.drop (2 * k)).take k) (by simp; omega) (m _)
   refine ⟨n0 + n1 + n2 + 1, fun n hn => ?_⟩
   cases n with
   | zero => omega
   | succ n =>
     rw [trod_arr3 hT, if_pos (by rw [List.length_map]; exact hl.trans hc.symm), he, show List.range 3 = [0, 1, 2] from rfl]
     have k0 := h0 n (by omega)
     have k1 := h1 n (by omega)
     have k2 := h2 n (by omega)
     rw [List.map_take, List.map_drop] at k0 k1 k2
     simp only [List.mapM_cons, List.mapM_nil, k0, k1, k2, Option.bind_eq_bind, Option.bind_some, Option.pure_def, Option.map_some]
     simp [sh3]
def sh2 (k l : Nat) (f g : List Nat → DataW H) (ws : List Nat) : DataW H := .agg [f (ws.take k), g ((ws.drop k).take l)]
theorem flat2 {T : TypeId} {f0 f1 : Field} {k l : Nat} {f g : List Nat → DataW H} (hT : Tryz.prog.underlying T = some (.struct #[f0, f1])) (hc : Tryz.prog.cellsOf T = k + l) (h0 : Tryz.prog.cellsOf f0.type = k) (h1 : Tryz.prog.cellsOf f1.type = l) (o0 : f0.offset = 0) (o1 : f1.offset = k)
   (F : Flat enc w base spare held f0.type k f) (G : Flat enc w base spare held f1.type l g) : Flat enc w base spare held T (k + l) (sh2 k l f g) := by
 have e2 : ∀ {α : Type} (cs : List α), cs.length = k + l → cs = cs.take k ++ (cs.drop k).take l := by
   intro α cs hl
   rw [show (cs.drop k).take l = cs.drop k from List.take_of_length_le (by simp; omega), List.take_append_drop]
 refine ⟨?_, ?_⟩
 · intro n cs y hl h
   obtain ⟨y0, y1, n, rfl, _, t0, t1⟩ := trod_struct2 hT h
   rw [o0, h0, List.drop_zero] at t0
   rw [o1, h1] at t1
   obtain ⟨w0, c0, rfl, q0⟩ := F.op _ _ _ (by simp; omega) t0
   obtain ⟨w1, c1, rfl, q1⟩ := G.op _ _ _ (by simp; omega) t1
   have s0 : w0.length = k := by have := congrArg List.length c0; simp at this; omega
   have s1 : w1.length = l := by have := congrArg List.length c1; simp at this; omega
   refine ⟨w0 ++ w1, ?_, ?_, ?_⟩
   · rw [List.map_append, ← c0, ← c1]; exact e2 cs hl
   · unfold sh2
     have a0 : List.take k (w0 ++ w1) = w0 := by rw [← s0, List.take_left]
     have a1 : List.take l (List.drop k (w0 ++ w1)) = w1 := by rw [show List.drop k (w0 ++ w1) = w1 by rw [← s0, List.drop_left], ← s1, List.take_length]
     rw [a0, a1]; rfl
   · intro x hx
     rcases List.mem_append.1 hx with hx | hx
     · exact q0 x hx
     · exact q1 x hx
 · intro ws hl hw
   obtain ⟨n0, k0⟩ := F.sh (ws.take k) (by simp; omega) (fun x hx => hw x (List.mem_of_mem_take hx))
   obtain ⟨n1, k1⟩ := G.sh ((ws.drop k).take l) (by simp; omega) (fun x hx => hw x (List.mem_of_mem_drop (List.mem_of_mem_take hx)))
   refine ⟨n0 + n1 + 1, fun n hn => ?_⟩
   cases n with
   | zero => omega
   | succ n =>
     have := trod_struct_mk (enc := enc) (w := w) (base := base) (spare := spare) (held := held) (n := n) (cs := ws.map (Value.float .f64)) (xs := [(f (ws.take k), []), (g ((ws.drop k).take l), [])]) hT (by rw [List.length_map]; exact hl.trans hc.symm) (by
       have a0 := k0 n (by omega)
       have a1 := k1 n (by omega)
       rw [List.map_take] at a0
       rw [List.map_take, List.map_drop] at a1
       simp [o0, o1, h0, h1, a0, a1])
     simpa [sh2] using this
theorem flat_open {T : TypeId} {k : Nat} {f : List Nat → DataW H} {cs : Array Value} {d : DataW H} {p : List MemPlace} (F : Flat enc w base spare held T k f) (hs : cs.size = k) (h : DataW.Trod enc Tryz.prog w base spare held T (.agg cs) d p) :
   ∃ ws : List Nat, cs.toList = ws.map (Value.float .f64) ∧ ws.length = k ∧ d = f ws ∧ p = [] ∧ ∀ x ∈ ws, wfF x := by
 obtain ⟨n, hn⟩ := h
 have hn : DataW.trod enc Tryz.prog w base spare held n T cs.toList = some (d, p) := hn
 obtain ⟨ws, e, hy, hw⟩ := F.op n cs.toList (d, p) (by simpa using hs) hn
 simp only [Prod.mk.injEq] at hy
 exact ⟨ws, e, by have := congrArg List.length e; simp at this; omega, hy.1, hy.2, hw⟩
theorem flat_shut {T : TypeId} {k : Nat} {f : List Nat → DataW H} (F : Flat enc w base spare held T k f) (ws : List Nat) (hl : ws.length = k) (hw : ∀ x ∈ ws, wfF x) :
   DataW.Trod enc Tryz.prog w base spare held T (.agg (ws.map (Value.float .f64)).toArray) (f ws) [] := by
 obtain ⟨n, h⟩ := F.sh ws hl hw
 exact ⟨n, h n (Nat.le_refl _)⟩
theorem list6 {α : Type} {l : List α} (h : l.length = 6) : ∃ x0 x1 x2 x3 x4 x5, l = [x0, x1, x2, x3, x4, x5] := by
 match l, h with
 | [x0, x1, x2, x3, x4, x5], _ => exact ⟨x0, x1, x2, x3, x4, x5, rfl⟩
abbrev shV : List Nat → DataW H := sh3 2 (sh2 1 1 shF shF)
set_option maxRecDepth 100000 in
theorem flatV : Flat enc w base spare held 26 6 shV := (flat3 Tryz.underlying26 (by kernel_rfl) (by kernel_rfl) (flat2 Tryz.underlying24 (by kernel_rfl) (by kernel_rfl) (by kernel_rfl) rfl rfl (flatF Tryz.underlying22) (flatF Tryz.underlying22)))
set_option maxRecDepth 100000 in
theorem open_v3 {r : Reach} {b0 : Nat} {v : Value} {d : DataW H} {p : List MemPlace} (hv : Value.okWide Tryz.prog w r b0 26 v) (h : DataW.Trod enc Tryz.prog w base spare held 26 v d p) :
   ∃ x0 x1 x2 x3 x4 x5 : Nat, v = .agg #[.float .f64 x0, .float .f64 x1, .float .f64 x2, .float .f64 x3, .float .f64 x4, .float .f64 x5] ∧ d = shV [x0, x1, x2, x3, x4, x5] ∧ p = [] ∧ (wfF x0 ∧ wfF x1 ∧ wfF x2 ∧ wfF x3 ∧ wfF x4 ∧ wfF x5) := by
 obtain ⟨cs, rfl, hsz⟩ := okWide_arr Tryz.underlying26 hv
 obtain ⟨ws, e, hl, rfl, rfl, hw⟩ := flat_open flatV (hsz.trans (by kernel_rfl)) h
 obtain ⟨x0, x1, x2, x3, x4, x5, rfl⟩ := list6 hl
 refine ⟨x0, x1, x2, x3, x4, x5, ?_, rfl, rfl, hw _ (by simp), hw _ (by simp), hw _ (by simp), hw _ (by simp), hw _ (by simp), hw _ (by simp)⟩
 rw [show cs = cs.toList.toArray by simp, e]; rfl
set_option maxRecDepth 100000 in
theorem shut_v3 {x0 x1 x2 x3 x4 x5 : Nat} (h : wfF x0 ∧ wfF x1 ∧ wfF x2 ∧ wfF x3 ∧ wfF x4 ∧ wfF x5) : DataW.Trod enc Tryz.prog w base spare held 26 (.agg #[.float .f64 x0, .float .f64 x1, .float .f64 x2, .float .f64 x3, .float .f64 x4, .float .f64 x5]) (shV [x0, x1, x2, x3, x4, x5]) [] := by
 obtain ⟨h0, h1, h2, h3, h4, h5⟩ := h
 exact flat_shut flatV [x0, x1, x2, x3, x4, x5] rfl (by intro x hx; simp only [List.mem_cons, List.not_mem_nil, or_false] at hx; rcases hx with rfl | rfl | rfl | rfl | rfl | rfl <;> assumption)
theorem wfF.lt {x : Nat} (h : wfF x) : x < 18446744073709551616 := f64_lt h
end
end Go.Proofs.YtnljfcebmgifdaaGreat
