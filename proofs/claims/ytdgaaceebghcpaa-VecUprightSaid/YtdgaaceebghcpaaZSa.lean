/- The walks of span's and its answer's small functions (gen_sa.py). -/
import Derived.Test.YtdgaaceebghcpaaZQa
import Derived.Test.YtdgaaceebghcpaaZGa
import Derived.Test.YtdgaaceebghcpaaZGb
import Derived.Handy
import Derived.BigQuiet
import Derived.Deep.RegionHeld3
import Derived.Deep.QuietTactic
set_option linter.unusedVariables false
set_option linter.unusedSimpArgs false
namespace Go.Proofs.Ytdgaaceebghcpaa
open Go.RowKit

@[go_sem] theorem run_store_float {P : Program} {w : World} {a : Addr} {m : Mode} (x : Nat) : (store a (.float .f64 x) m).run P w = stored P w a (.float .f64 x) m := run_store P w a _ m rfl

theorem infoS : (Try.prog.info? 24).map (·.size) = some 2 := by kernel_rfl
theorem resS {fn : Func} {p : Tmp} (h : fn.results = #[.cell p 24]) (tmps : Array Value) (w : World) (g : Nat) (a b : Value)
    (hp : tmps.getD p undef = .pointer (some ⟨g, 0, none⟩)) (hg : Blk w g 24 #[a, b]) :
    (results fn tmps).run Try.prog w = .ok (.agg #[a, b]) w :=
  results_cell_row h tmps w g _ _ (0, 0) _ hp hg Try.underlying24 rfl (by rw [infoS]; rfl)

theorem run_min_gd {P : Program} {x y : Nat} (hx : Gd x) (hy : Gd y) (ts : Array TypeId) (t : TypeId) (w : World) : (Builtin.min_ ts t #[.float .f64 x, .float .f64 y]).run P w = .ok (.float .f64 (mn x y)) w := by
  unfold mn
  rcases Int.lt_trichotomy (Fl.Z x) (Fl.Z y) with h | h | h
  · have hc : compare (Fl.Z x) (Fl.Z y) = .lt := by simp [compare, compareOfLessAndEq, h]
    simp [Builtin.min_, Builtin.min2, order_gd hx hy, hc]
    intro; omega
  · have := hx.inj hy h
    subst this
    simp [Builtin.min_, Builtin.min2, order_gd hx hx]
  · have hc : compare (Fl.Z x) (Fl.Z y) = .gt := by simp [compare, compareOfLessAndEq, show ¬ Fl.Z x < Fl.Z y by omega, show ¬ Fl.Z x = Fl.Z y by omega]
    simp [Builtin.min_, Builtin.min2, order_gd hx hy, hc]
    intro; omega
theorem run_max_gd {P : Program} {x y : Nat} (hx : Gd x) (hy : Gd y) (ts : Array TypeId) (t : TypeId) (w : World) : (Builtin.max_ ts t #[.float .f64 x, .float .f64 y]).run P w = .ok (.float .f64 (mx x y)) w := by
  unfold mx
  rcases Int.lt_trichotomy (Fl.Z x) (Fl.Z y) with h | h | h
  · have hc : compare (Fl.Z x) (Fl.Z y) = .lt := by simp [compare, compareOfLessAndEq, h]
    simp [Builtin.max_, Builtin.max2, order_gd hx hy, hc]
    intro; omega
  · have := hx.inj hy h
    subst this
    simp [Builtin.max_, Builtin.max2, order_gd hx hx]
  · have hc : compare (Fl.Z x) (Fl.Z y) = .gt := by simp [compare, compareOfLessAndEq, show ¬ Fl.Z x < Fl.Z y by omega, show ¬ Fl.Z x = Fl.Z y by omega]
    simp [Builtin.max_, Builtin.max2, order_gd hx hy, hc]
    intro; omega

theorem has_any (a b x : Nat) (w : World) : Calls Try.prog 69 #[.agg #[.float .f64 a, .float .f64 b], .float .f64 x] w fun r w' => r = .returned (.bool (leF a x && leF x b)) ∧ ∃ o, w' = w.alloc o := by
  obtain ⟨p, hp⟩ : ∃ p, leF a x = p := ⟨_, rfl⟩
  obtain ⟨q, hq⟩ : ∃ p, leF x b = p := ⟨_, rfl⟩
  have E1 := hp
  have E2 := hq
  unfold leF at E1 E2
  rw [hp, hq]
  clear hp hq
  cases p
  · go_enter Try.func69, Try.ntmps69
    go_wp2_with fail
    go_ret
    exact ⟨rfl, ⟨_, rfl⟩⟩
  · go_enter Try.func69, Try.ntmps69
    go_wp2_with fail
    go_ret
    exact ⟨rfl, ⟨_, rfl⟩⟩

theorem within_any (a b c d : Nat) (w : World) : Calls Try.prog 68 #[.agg #[.float .f64 a, .float .f64 b], .agg #[.float .f64 c, .float .f64 d]] w fun r w' => r = .returned (.bool (leF c a && leF b d)) ∧ ∃ o o', w' = (w.alloc o).alloc o' := by
  obtain ⟨p, hp⟩ : ∃ p, leF c a = p := ⟨_, rfl⟩
  obtain ⟨q, hq⟩ : ∃ p, leF b d = p := ⟨_, rfl⟩
  have E1 := hp
  have E2 := hq
  unfold leF at E1 E2
  rw [hp, hq]
  clear hp hq
  cases p
  · go_enter Try.func68, Try.ntmps68
    go_wp2_with fail
    go_ret
    exact ⟨rfl, ⟨_, _, rfl⟩⟩
  · go_enter Try.func68, Try.ntmps68
    go_wp2_with fail
    go_ret
    exact ⟨rfl, ⟨_, _, rfl⟩⟩

theorem positive_any (a b : Nat) (p q : Bool) (h1 : (FloatKind.f64.format.order a 0 == some .gt) = p) (h2 : (FloatKind.f64.format.order b 0 == some .lt || FloatKind.f64.format.order b 0 == some .eq) = q) (w : World) : Calls Try.prog 96 #[.agg #[.float .f64 a, .float .f64 b]] w fun r w' => r = .returned (.int .i64 (if p then 1 else if q then 0 else 2)) ∧ ∃ o, w' = w.alloc o := by
  cases p
  · cases q
    all_goals (go_enter Try.func96, Try.ntmps96; go_wp2_with fail; go_ret; exact ⟨rfl, _, rfl⟩)
  · go_enter Try.func96, Try.ntmps96
    go_wp2_with fail
    go_ret
    exact ⟨rfl, _, rfl⟩

theorem all_any (w : World) : Calls Try.prog 105 #[] w fun r w' => r = .returned (.agg #[.float .f64 18442240474082181120, .float .f64 9218868437227405312]) ∧ ∃ o, w' = w.alloc o := by
  have h1 := Lib.hid (fun w => inf_pos 1 (by decide) w)
  have h2 := Lib.hid (fun w => inf_neg (-1) (by decide) w)
  go_enter Try.func105, Try.ntmps105
  go_wp2_with fail
  refine (h2.out _).mono ?_
  rintro r w' ⟨rfl, rfl⟩
  go_wp2_with fail
  refine (h1.out _).mono ?_
  rintro r w' ⟨rfl, rfl⟩
  go_wp2_with fail
  go_returns
  exact ⟨rfl, _, rfl⟩
theorem neg_inf : Op.negFloat .f64 9218868437227405312 = 18442240474082181120 := by decide
theorem rall_any (w : World) : Calls Try.prog 108 #[] w fun r w' => r = .returned (.agg #[.float .f64 18442240474082181120, .float .f64 9218868437227405312]) ∧ ∃ o, w' = w.alloc o := by
  have h1 := Lib.hid (fun w => rinf_any w)
  have e := neg_inf
  go_enter Try.func108, Try.ntmps108
  go_wp2_with fail
  refine (h1.out _).mono ?_
  rintro r w' ⟨rfl, rfl⟩
  go_wp2_with fail
  refine (h1.out _).mono ?_
  rintro r w' ⟨rfl, rfl⟩
  go_wp2_with fail
  go_returns
  exact ⟨rfl, _, rfl⟩
theorem low_any (x e : Nat) (w : World) : Calls Try.prog 110 #[.float .f64 x, .int .i64 e] w fun r w' => r = .returned (.float .f64 (if e = 0 then x else 18442240474082181120)) ∧ w = w' := by
  have h2 := Lib.hid (fun w => inf_neg (-1) (by decide) w)
  by_cases h : e = 0
  · rw [if_pos h]
    subst h
    go_enter Try.func110, Try.ntmps110
    go_wp2_with fail
    go_ret
    exact ⟨rfl, rfl⟩
  · rw [if_neg h]
    have E : ((e : Int) != 0) = true := by simp [h]
    go_enter Try.func110, Try.ntmps110
    go_wp2_with fail
    refine (h2.out _).mono ?_
    rintro r w' ⟨rfl, rfl⟩
    go_wp2_with fail
    go_ret
    exact ⟨rfl, rfl⟩
theorem high_any (x e : Nat) (w : World) : Calls Try.prog 112 #[.float .f64 x, .int .i64 e] w fun r w' => r = .returned (.float .f64 (if e = 0 then x else 9218868437227405312)) ∧ w = w' := by
  have h2 := Lib.hid (fun w => inf_pos 1 (by decide) w)
  by_cases h : e = 0
  · rw [if_pos h]
    subst h
    go_enter Try.func112, Try.ntmps112
    go_wp2_with fail
    go_ret
    exact ⟨rfl, rfl⟩
  · rw [if_neg h]
    have E : ((e : Int) != 0) = true := by simp [h]
    go_enter Try.func112, Try.ntmps112
    go_wp2_with fail
    refine (h2.out _).mono ?_
    rintro r w' ⟨rfl, rfl⟩
    go_wp2_with fail
    go_ret
    exact ⟨rfl, rfl⟩

end Go.Proofs.Ytdgaaceebghcpaa
