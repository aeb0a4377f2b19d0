/- The walk of layer 1's last step: a word rounded to a float. -/
import Derived.Test.YthkfaacgabkhhaaWd
import Derived.Deep.DeepCutAuto
set_option linter.unusedVariables false
set_option linter.unusedSimpArgs false
namespace Go.Proofs.Ythkfaacgabkhhaa
open Go.RowKit Ieee

/-- m times 2 to the e: 0 is 0. -/
def ldz (m : Nat) (e : Int) : Nat := if m = 0 then 0 else Fl.ld m e
def flz (m : Nat) : Nat := if m = 0 then 0 else Fl.rung m 1074

theorem ofInt_flz (m : Nat) (hm : m ≤ 9007199254740992) : floatOfInt .f64 (m : Int) = flz m := by
  unfold flz
  split
  · rename_i h; subst h; exact ofInt_zero
  · rename_i h; exact ofInt_small m h hm

theorem ldexp_all (m : Nat) (e : Int) (hm : m ≤ 9007199254740992) (he : -1074 ≤ e) (he2 : e ≤ 100000) (w : World) :
    Calls Try.prog 76 #[.float .f64 (flz m), .int .i64 e] w fun s w' => s = .returned (.float .f64 (ldz m e)) ∧ w = w' := by
  unfold flz ldz
  split
  · exact ldexp_pub e w _ _ (ldexp_zero e w)
  · rename_i h; exact ldexp_pub e w _ _ (ldexp_any m e w h hm he he2)

theorem ldz_lt (m : Nat) (e : Int) : ldz m e ≤ Fl.INF := by
  unfold ldz Fl.ld
  split
  · exact Nat.zero_le _
  · exact Nat.min_le_right _ _

/-- What 'to' hands out of a magnitude. -/
def toRes (neg grow : Bool) (r : Nat) : Nat := Fl.pl (Fl.wrd neg (if r = Fl.INF ∧ grow = false then 9218868437227405311 else r))

def Cells5 (w wc : World) (neg : Bool) (m : Nat) (e : Int) (more : Bool) : Prop :=
  wc.cell? ⟨w.heap.size, 0, none⟩ = some (.bool neg) ∧ wc.cell? ⟨w.heap.size, 2, none⟩ = some (.int .u64 (m : Int)) ∧ wc.cell? ⟨w.heap.size, 3, none⟩ = some (.int .i64 e) ∧ wc.cell? ⟨w.heap.size, 4, none⟩ = some (.bool more) ∧ Below w.heap.size w wc

/-- Block g holds just the cells cs, none frozen. -/
def Blk (w : World) (g : Nat) (t : TypeId) (cs : Array Value) : Prop := w.heap[g]? = some (.cells cs t (0, 0))

section
variable {w w' : World} {g : Nat} {t : TypeId} {cs : Array Value}
theorem Blk.lt (h : Blk w g t cs) : g < w.heap.size := by
  rcases Nat.lt_or_ge g w.heap.size with hlt | hge
  · exact hlt
  · unfold Blk at h; rw [Array.getElem?_eq_none hge] at h; cases h
theorem Blk.cell (h : Blk w g t cs) (i : Nat) : w.cell? ⟨g, i, none⟩ = cs[i]? := cell_of_row w g i cs t (0, 0) h
theorem Blk.new (w : World) (t : TypeId) (cs : Array Value) : Blk (w.alloc (.cells cs t)) w.heap.size t cs := heap_alloc_new w _
theorem Blk.drew (h : Blk w g t cs) : Blk w.drew g t cs := h
theorem Blk.drewN (h : Blk w g t cs) (n : Nat) : Blk (w.drewN n) g t cs := h
theorem Blk.alloc (h : Blk w g t cs) (o : Obj) : Blk (w.alloc o) g t cs := (Below.heap_alloc w o g h.lt).trans h
theorem Blk.set_ (h : Blk w g t cs) (i : Nat) (u : Value) : Blk (w.setCell ⟨g, i, none⟩ u) g t (cs.setIfInBounds i u) := by
  unfold Blk at h ⊢
  simp [World.setCell, Array.getElem?_modify, h]
theorem Blk.far (h : Blk w g t cs) {p : Addr} (hp : g ≠ p.block) (u : Value) : Blk (w.setCell p u) g t cs := (Below.heap_setCell w p u g hp).trans h
theorem Blk.below {B : Nat} (h : Blk w g t cs) (hb : Below B w w') (hg : g < B) : Blk w' g t cs := (hb.block g hg).trans h
theorem Blk.congr {cs' : Array Value} (h : Blk w g t cs) (e : cs = cs') : Blk w g t cs' := e ▸ h
end

theorem below_drewN {B : Nat} {a w : World} (h : Below B a w) (n : Nat) : Below B a (w.drewN n) := ⟨h.os, h.tape, h.output, h.size, h.block⟩

theorem below_more {w w' : World} (h : Below w.heap.size w w') (o : Obj) : Below w.heap.size w (w'.alloc o) := h.alloc h.size o

@[go_sem] theorem unary_neg_float (b : Nat) : Op.unary .neg (.float .f64 b) = pure (.float .f64 (Op.negFloat .f64 b)) := rfl
theorem negFloat_wrd (r : Nat) (h : r ≤ Fl.INF) : Op.negFloat .f64 r = Fl.wrd true r := by
  have hs : r < 2 ^ 63 := Nat.lt_of_le_of_lt h (by decide)
  show r ^^^ 2 ^ 63 = Fl.SGN + r
  have e1 : r ^^^ 2 ^ 63 = 2 ^ 63 ||| r := by
    apply Nat.eq_of_testBit_eq
    intro i
    rw [Nat.testBit_xor, Nat.testBit_or, Nat.testBit_two_pow]
    by_cases hi : 63 = i
    · subst hi
      rw [Nat.testBit_lt_two_pow hs]; rfl
    · rw [decide_eq_false hi]; simp
  have e2 := Nat.two_pow_add_eq_or_of_lt hs 1
  rw [e1, ← Nat.mul_one (2 ^ 63), ← e2, Nat.mul_one]
  rfl
theorem wrd_ok (neg : Bool) (r : Nat) (h : r ≤ Fl.INF) : Fl.wrd neg r < 18446744073709551616 ∧ Fl.nan (Fl.wrd neg r) = false := by
  have hr' : r < Fl.SGN := Nat.lt_of_le_of_lt h Fl.inf_sgn
  refine ⟨Fl.wrd_lt neg hr', ?_⟩
  unfold Fl.nan
  rw [Fl.wrd_mg neg hr']
  exact decide_eq_false (by omega)
theorem plain_pos (r : Nat) (h : r ≤ Fl.INF) (w : World) : Calls Try.prog 68 #[.float .f64 r] w fun e w' => e = .returned (.float .f64 (Fl.pl (Fl.wrd false r))) ∧ w = w' :=
  plain_any r (wrd_ok false r h).1 (wrd_ok false r h).2 w
theorem plain_neg (r : Nat) (h : r ≤ Fl.INF) (w : World) : Calls Try.prog 68 #[.float .f64 (Op.negFloat .f64 r)] w fun e w' => e = .returned (.float .f64 (Fl.pl (Fl.wrd true r))) ∧ w = w' := by
  rw [negFloat_wrd r h]
  exact plain_any _ (wrd_ok true r h).1 (wrd_ok true r h).2 w

theorem cells5_of {w wc : World} {neg : Bool} {hi : Int} {m : Nat} {e : Int} {more : Bool} (h : Blk wc w.heap.size 53 #[.bool neg, .int .u64 hi, .int .u64 (m : Int), .int .i64 e, .bool more]) (hb : Below w.heap.size w wc) : Cells5 w wc neg m e more :=
  ⟨h.cell 0, h.cell 2, h.cell 3, h.cell 4, hb⟩

theorem cells5_set {w wc : World} {neg : Bool} {hi m : Nat} {e : Int} {more : Bool} {a b c d e' : Value} (h : Blk wc w.heap.size 53 #[a, b, c, d, e']) (hb : Below w.heap.size w wc) :
    Cells5 w (((((wc.setCell ⟨w.heap.size, 0, none⟩ (.bool neg)).setCell ⟨w.heap.size, 1, none⟩ (.int .u64 (hi : Int))).setCell ⟨w.heap.size, 2, none⟩ (.int .u64 (m : Int))).setCell ⟨w.heap.size, 3, none⟩ (.int .i64 e)).setCell ⟨w.heap.size, 4, none⟩ (.bool more)) neg m e more :=
  cells5_of (hi := hi) (((((h.set_ 0 _).set_ 1 _).set_ 2 _).set_ 3 _).set_ 4 _)
    (((((hb.setCell (Nat.le_refl _) _).setCell (Nat.le_refl _) _).setCell (Nat.le_refl _) _).setCell (Nat.le_refl _) _).setCell (Nat.le_refl _) _)

theorem val_max (L : Nat) (e n : Int) (hL : L ≤ 128) (he : -100000 ≤ e) (he2 : e ≤ 100000) (hn : max ((L : Int) - 53) (-1074 - e) = n) :
    Value.int IntKind.i64 (max (IntKind.i64.wrap ((L : Int) - 53)) (IntKind.i64.wrap (-1074 - e))) = Value.int IntKind.i64 n := by
  have h1 : IntKind.i64.wrap ((L : Int) - 53) = (L : Int) - 53 := by rw [IntKind.wrap_i64]; omega
  have h2 : IntKind.i64.wrap (-1074 - e) = -1074 - e := by rw [IntKind.wrap_i64]; omega
  rw [h1, h2, hn]

/-- What the right shift does at n > 0: two new blocks, or three. -/
def RightIs (neg : Bool) (hi lo : Nat) (e : Int) (more : Bool) (n : Int) (m0 : Nat) (e' : Int) (more0 : Bool) : Prop :=
  (n ≤ 0 ∧ lo = m0 ∧ e = e' ∧ more = more0) ∨
  (0 < n ∧ ∀ w, Calls Try.prog 73 #[exv neg hi lo e more, .int .i64 n] w fun r w' => r = .returned (exv neg 0 m0 e' more0) ∧ ∃ k o o', w' = ((w.alloc o).alloc o').drewN k) ∨
  (0 < n ∧ ∀ w, Calls Try.prog 73 #[exv neg hi lo e more, .int .i64 n] w fun r w' => r = .returned (exv neg 0 m0 e' more0) ∧ ∃ k o o' o'', w' = (((w.alloc o).alloc o').alloc o'').drewN k)

set_option maxRecDepth 100000 in
set_option maxHeartbeats 4000000 in
theorem toA (neg down : Bool) (hi lo : Nat) (e : Int) (more : Bool) (h1 : hi < 18446744073709551616) (h2 : lo < 18446744073709551616) (he : -100000 ≤ e) (he2 : e ≤ 100000) (w : World)
    (L : Nat) (hL : L ≤ 128) (HL : ∀ w, Calls Try.prog 57 #[exv neg hi lo e more] w fun r w' => r = .returned (.int .i64 (L : Int)) ∧ ∃ o, w' = w.alloc o)
    (n : Int) (hn : max ((L : Int) - 53) (-1074 - e) = n) (m0 : Nat) (e' : Int) (more0 : Bool) (HR : RightIs neg hi lo e more n m0 e' more0)
    (hm0 : m0 < 9007199254740992) (R0 R1 : Nat) (hR0 : R0 ≤ Fl.INF) (hR1 : R1 ≤ Fl.INF)
    (HD0 : ∀ w, Calls Try.prog 76 #[.float .f64 (floatOfInt .f64 (m0 : Int)), .int .i64 e'] w fun s w' => s = .returned (.float .f64 R0) ∧ w = w')
    (HD1 : ∀ w, Calls Try.prog 76 #[.float .f64 (floatOfInt .f64 ((m0 : Int) + 1)), .int .i64 e'] w fun s w' => s = .returned (.float .f64 R1) ∧ w = w') :
    Calls Try.prog 46 #[exv neg hi lo e more, .bool down] w fun r w' => r = .returned (.float .f64 (toRes neg (neg == down) (if (more0 && (neg == down)) then R1 else R0))) ∧ Below w.heap.size w w' := by
  have HL0 := Lib.hid HL
  have HDa := Lib.hid HD0
  have HDb := Lib.hid HD1
  clear HL HD0 HD1
  have HN := Lib.hid (val_max L e n hL he he2 hn)
  have HI0 := Lib.hid (fun w => isInf_any R0 (Nat.lt_of_le_of_lt hR0 (by decide)) w)
  have HI1 := Lib.hid (fun w => isInf_any R1 (Nat.lt_of_le_of_lt hR1 (by decide)) w)
  rw [show Fl.mg R0 = R0 from Nat.mod_eq_of_lt (Nat.lt_of_le_of_lt hR0 Fl.inf_sgn)] at HI0
  rw [show Fl.mg R1 = R1 from Nat.mod_eq_of_lt (Nat.lt_of_le_of_lt hR1 Fl.inf_sgn)] at HI1
  generalize hg : (neg == down) = grow
  have HG := Lib.hid hg
  clear hg
  generalize hres : toRes neg grow (if (more0 && grow) then R1 else R0) = res
  have HRES := Lib.hid hres
  clear hres
  have hn1 : -101074 ≤ n := by omega
  have hn2 : n ≤ 101074 := by omega
  clear hn
  go_enter Try.func46, Try.ntmps46
  go_wp2_with fail
  go_cut [5, 6] (fun g v wc => g = .bool grow ∧ v = .int .i64 n ∧ ∃ o, wc = ((w.alloc (.cells #[.bool neg, .int .u64 (hi : Int), .int .u64 (lo : Int), .int .i64 e, .bool more] 53)).alloc o).drew)
  case first =>
    go_region_with (go_at_call 57; refine (HL0.out _).mono ?_; rintro r w' ⟨rfl, o, rfl⟩)
    all_goals (go_wp2_with fail; go_meet; refine ⟨congrArg Value.bool HG.out, HN.out, _, rfl⟩)
  case rest =>
    obtain ⟨rfl, rfl, o, rfl⟩ := hcut
    go_upto_if 21 with fail
    go_cut [] (fun wc => Cells5 w wc neg m0 e' more0)
    case first =>
      rcases HR with ⟨hn0, rfl, rfl, rfl⟩ | ⟨hn0, HR⟩ | ⟨hn0, HR⟩
      · go_wp2_with fail
        go_meet
        exact cells5_of ((Blk.new _ _ _).alloc _).drew (below_drewN (below_new2 _ _ _) 1)
      · have HR1 := Lib.hid HR
        clear HR
        go_wp2_with fail
        refine (HR1.out _).mono ?_
        rintro r w' ⟨rfl, k, o', o'', rfl⟩
        go_wp2_with fail
        go_meet
        exact cells5_set (((((Blk.new _ _ _).alloc _).alloc _).alloc _).drewN _) (below_drewN (below_more (below_more (below_new2 _ _ _) _) _) _)
      · have HR1 := Lib.hid HR
        clear HR
        go_wp2_with fail
        refine (HR1.out _).mono ?_
        rintro r w' ⟨rfl, k, o', o'', o4, rfl⟩
        go_wp2_with fail
        go_meet
        exact cells5_set ((((((Blk.new _ _ _).alloc _).alloc _).alloc _).alloc _).drewN _) (below_drewN (below_more (below_more (below_more (below_new2 _ _ _) _) _) _) _)
    case rest =>
      obtain ⟨c0, c2, c3, c4, cb⟩ := hcut
      have CB := Lib.hid cb
      clear cb HR HL0 HN
      have P0 := Lib.hid (fun w => plain_pos R0 hR0 w)
      have P1 := Lib.hid (fun w => plain_pos R1 hR1 w)
      have N0 := Lib.hid (fun w => plain_neg R0 hR0 w)
      have N1 := Lib.hid (fun w => plain_neg R1 hR1 w)
      have PM := Lib.hid (fun w => plain_pos 9218868437227405311 (by decide) w)
      have NM := Lib.hid (fun w => plain_neg 9218868437227405311 (by decide) w)
      have PI := Lib.hid (fun w => plain_pos Fl.INF (Nat.le_refl _) w)
      have NI := Lib.hid (fun w => plain_neg Fl.INF (Nat.le_refl _) w)
      clear hR0 hR1 HG
      go_wp2_with fail
      · refine (HDb.out _).mono ?_
        rintro r w' ⟨rfl, rfl⟩
        go_wp2_with fail
        refine (HI1.out _).mono ?_
        rintro r w' ⟨rfl, rfl⟩
        go_wp2_with fail
        all_goals
          first
          | refine (P1.out _).mono ?_
          | refine (N1.out _).mono ?_
          | refine (PI.out _).mono ?_
          | refine (NI.out _).mono ?_
          | refine (PM.out _).mono ?_
          | refine (NM.out _).mono ?_
          rintro r w' ⟨rfl, rfl⟩
          go_wp2_with fail
          go_ret
          refine ⟨ret_float ?_, CB.out⟩
          rw [← HRES.out]
          simp [toRes, *]
      all_goals
        refine (HDa.out _).mono ?_
        rintro r w' ⟨rfl, rfl⟩
        go_wp2_with fail
        refine (HI0.out _).mono ?_
        rintro r w' ⟨rfl, rfl⟩
        go_wp2_with fail
        all_goals
          first
          | refine (P0.out _).mono ?_
          | refine (N0.out _).mono ?_
          | refine (PI.out _).mono ?_
          | refine (NI.out _).mono ?_
          | refine (PM.out _).mono ?_
          | refine (NM.out _).mono ?_
          rintro r w' ⟨rfl, rfl⟩
          go_wp2_with fail
          go_ret
          refine ⟨ret_float ?_, CB.out⟩
          rw [← HRES.out]
          clear HRES HI0 HI1 HDa HDb P0 P1 N0 N1 PM NM PI NI CB c0 c2 c3 c4
          cases grow <;> simp_all [toRes]
end Go.Proofs.Ythkfaacgabkhhaa
