/- Plain: lists of 32-bit words, the lowest first, as whole numbers. · Plain: a number without rounding: its sign, its words, its power of 2; as a whole number times 2^-5000. · The walks of the small functions on numbers without rounding: at, size, Sign, Neg. · The walk of Of: a finite float64 as a number without rounding. · The walk of shift: the words moved up by n bits. · Regions that draw their order: the lone ready operation. · The walk of level: two numbers' words at one power. · The walk of Add where both are of one sign. · The walk of Add where the two are of two signs. · The walks of Sub and Less. · The walk of Mul. · The walk of Between where it says yes. · Regions that draw their order: an invariant over what has come up, the sets of it as the bits of a number. -/
import Derived.Test.YthkfaacgabkhhaaRowKit
import Derived.OwnWalk
import Derived.Laws.AppendOwn
import Derived.Maps.AppendAt
import Derived.Test.YthkfaacgabkhhaaRh
import Derived.Test.YthkfaacgabkhhaaVl
import Derived.Deep.QuietTactic
import Derived.BigQuiet
import Derived.Deep.OwnRows
import Derived.Test.YthkfaacgabkhhaaGc
set_option linter.unusedVariables false
set_option linter.unusedSimpArgs false
namespace Go.Proofs.Ythkfaacgabkhhaa

def wv : List Nat → Nat
  | [] => 0
  | x :: xs => x + 4294967296 * wv xs
def wok (l : List Nat) : Prop := ∀ x ∈ l, x < 4294967296
theorem wok_nil : wok [] := by intro x h; cases h
theorem wok_snoc {l : List Nat} {x : Nat} (h : wok l) (hx : x < 4294967296) : wok (l ++ [x]) := by
  intro y hy
  rcases List.mem_append.1 hy with h1 | h1
  · exact h y h1
  · rw [List.mem_singleton.1 h1]; exact hx
theorem wok_zeros (n : Nat) : wok (List.replicate n 0) := by
  intro x hx
  rw [List.eq_of_mem_replicate hx]; decide
theorem wok_getD {l : List Nat} (h : wok l) (i : Nat) : l.getD i 0 < 4294967296 := by
  by_cases hi : i < l.length
  · rw [List.getD_eq_getElem?_getD, List.getElem?_eq_getElem hi]; exact h _ (List.getElem_mem hi)
  · rw [List.getD_eq_getElem?_getD, List.getElem?_eq_none (by omega)]; decide
theorem wok_set {l : List Nat} (h : wok l) (i : Nat) {x : Nat} (hx : x < 4294967296) : wok (l.set i x) := by
  intro y hy
  rcases List.mem_or_eq_of_mem_set hy with h1 | h1
  · exact h y h1
  · rw [h1]; exact hx
theorem wv_append (a b : List Nat) : wv (a ++ b) = wv a + 4294967296 ^ a.length * wv b := by
  induction a with
  | nil => simp [wv]
  | cons x xs ih => simp only [List.cons_append, wv, List.length_cons, Nat.pow_succ, ih]; grind
theorem wv_snoc (a : List Nat) (x : Nat) : wv (a ++ [x]) = wv a + 4294967296 ^ a.length * x := by rw [wv_append]; simp [wv]
theorem wv_zeros (n : Nat) : wv (List.replicate n 0) = 0 := by
  induction n with
  | zero => rfl
  | succ n ih => simp [List.replicate_succ, wv, ih]
theorem wv_lt {l : List Nat} (h : wok l) : wv l < 4294967296 ^ l.length := by
  induction l with
  | nil => simp [wv]
  | cons x xs ih =>
    have h1 := ih fun y hy => h y (List.mem_cons_of_mem _ hy)
    have h2 := h x List.mem_cons_self
    simp only [wv, List.length_cons, Nat.pow_succ]
    have : wv xs + 1 ≤ 4294967296 ^ xs.length := h1
    have := Nat.mul_le_mul_left 4294967296 this
    rw [Nat.mul_comm (4294967296 ^ xs.length)]
    omega
theorem wv_take_succ (l : List Nat) (k : Nat) : wv (l.take (k + 1)) = wv (l.take k) + 4294967296 ^ k * l.getD k 0 := by
  by_cases hk : k < l.length
  · rw [List.take_succ_eq_append_getElem hk, wv_snoc, List.length_take, Nat.min_eq_left (by omega), List.getD_eq_getElem?_getD, List.getElem?_eq_getElem hk]; rfl
  · rw [List.take_of_length_le (by omega), List.take_of_length_le (by omega), List.getD_eq_getElem?_getD, List.getElem?_eq_none (by omega)]; simp
theorem wv_take_all (l : List Nat) {k : Nat} (h : l.length ≤ k) : wv (l.take k) = wv l := by rw [List.take_of_length_le h]
theorem wv_eq_zero {l : List Nat} (h : ∀ x ∈ l, x = 0) : wv l = 0 := by
  induction l with
  | nil => rfl
  | cons x xs ih => simp [wv, h x List.mem_cons_self, ih fun y hy => h y (List.mem_cons_of_mem _ hy)]
theorem wv_pos {l : List Nat} {i : Nat} (h : l.getD i 0 ≠ 0) : 0 < wv l := by
  induction l generalizing i with
  | nil => simp at h
  | cons x xs ih =>
    cases i with
    | zero => simp at h; simp only [wv]; omega
    | succ i => have := ih (i := i) (by simpa using h); simp only [wv]; omega
theorem wv_set (l : List Nat) (i x : Nat) (hi : i < l.length) : wv (l.set i x) + 4294967296 ^ i * l.getD i 0 = wv l + 4294967296 ^ i * x := by
  induction l generalizing i with
  | nil => simp at hi
  | cons y ys ih =>
    cases i with
    | zero => simp [wv]; omega
    | succ i =>
      have := ih i (by simpa using hi)
      simp only [List.set_cons_succ, wv, List.getD_cons_succ, Nat.pow_succ]
      grind

/-- A round of the shift: the carry below 2^r, the word moved up by r. -/
theorem shift_round {out w : List Nat} {q k n r c : Nat} (hn : n = 32 * q + r) (hl : out.length = q + k) (hv : wv out + 4294967296 ^ (q + k) * c = 2 ^ n * wv (w.take k)) :
    wv (out ++ [(c + w.getD k 0 * 2 ^ r) % 4294967296]) + 4294967296 ^ (q + (k + 1)) * ((c + w.getD k 0 * 2 ^ r) / 4294967296) = 2 ^ n * wv (w.take (k + 1)) := by
  rw [wv_snoc, wv_take_succ, hl, Nat.mul_add, ← hv]
  have e : 2 ^ n * (4294967296 ^ k * w.getD k 0) = 4294967296 ^ (q + k) * (w.getD k 0 * 2 ^ r) := by
    rw [hn, Nat.pow_add, Nat.pow_mul, show (2 : Nat) ^ 32 = 4294967296 from rfl, Nat.pow_add]; grind
  rw [e]
  have d := Nat.div_add_mod (c + w.getD k 0 * 2 ^ r) 4294967296
  generalize hx : c + w.getD k 0 * 2 ^ r = x at *
  rw [show q + (k + 1) = (q + k) + 1 from rfl, Nat.pow_succ]
  generalize 4294967296 ^ (q + k) = p
  generalize x % 4294967296 = m at *
  generalize x / 4294967296 = d' at *
  grind
/-- A round of the sum. -/
theorem add_round {out x y : List Nat} {k c : Nat} (hl : out.length = k) (hv : wv out + 4294967296 ^ k * c = wv (x.take k) + wv (y.take k)) :
    wv (out ++ [(c + x.getD k 0 + y.getD k 0) % 4294967296]) + 4294967296 ^ (k + 1) * ((c + x.getD k 0 + y.getD k 0) / 4294967296) = wv (x.take (k + 1)) + wv (y.take (k + 1)) := by
  rw [wv_snoc, wv_take_succ, wv_take_succ, hl, Nat.pow_succ]
  have d := Nat.div_add_mod (c + x.getD k 0 + y.getD k 0) 4294967296
  generalize (c + x.getD k 0 + y.getD k 0) % 4294967296 = m at *
  generalize (c + x.getD k 0 + y.getD k 0) / 4294967296 = d' at *
  generalize 4294967296 ^ k = p at *
  grind
theorem cp (k : Nat) : ((4294967296 ^ k : Nat) : Int) = (4294967296 : Int) ^ k := Int.natCast_pow 4294967296 k
/-- A round of the difference; the carry is 0 or -1. -/
theorem sub_round {out x y : List Nat} {k : Nat} {c : Int} (hl : out.length = k) (hv : (wv out : Int) + 4294967296 ^ k * c = wv (x.take k) - wv (y.take k)) :
    (wv (out ++ [((c + x.getD k 0 - y.getD k 0) % 4294967296).toNat]) : Int) + 4294967296 ^ (k + 1) * ((c + x.getD k 0 - y.getD k 0) / 4294967296) = wv (x.take (k + 1)) - wv (y.take (k + 1)) := by
  rw [wv_snoc, wv_take_succ, wv_take_succ, hl, Int.pow_succ]
  have d := Int.mul_ediv_add_emod (c + x.getD k 0 - y.getD k 0) 4294967296
  have m0 := Int.emod_nonneg (c + x.getD k 0 - y.getD k 0) (show (4294967296 : Int) ≠ 0 by decide)
  obtain ⟨m, hm⟩ := Int.eq_ofNat_of_zero_le m0
  rw [hm] at d ⊢
  generalize (c + x.getD k 0 - y.getD k 0) / 4294967296 = d' at *
  rw [Int.toNat_natCast]
  simp only [Int.natCast_add, Int.natCast_mul, cp]
  generalize (4294967296 : Int) ^ k = p at *
  grind
theorem sub_carry {x y : Nat} {c : Int} (hx : x < 4294967296) (hy : y < 4294967296) (h0 : -1 ≤ c) (h1 : c ≤ 0) : -1 ≤ (c + x - y) / 4294967296 ∧ (c + x - y) / 4294967296 ≤ 0 := by omega
/-- The end of the difference: no carry is left where it isn't below 0. -/
theorem sub_end {out x y : List Nat} {k : Nat} {c : Int} (hl : out.length = k) (hw : wok out) (hx : x.length ≤ k) (hy : y.length ≤ k) (h0 : -1 ≤ c) (h1 : c ≤ 0) (hle : wv y ≤ wv x)
    (hv : (wv out : Int) + 4294967296 ^ k * c = wv (x.take k) - wv (y.take k)) : wv out = wv x - wv y := by
  rw [wv_take_all x hx, wv_take_all y hy] at hv
  have hlt := wv_lt hw
  rw [hl] at hlt
  have hlt' : (wv out : Int) < 4294967296 ^ k := by rw [← cp]; exact Int.ofNat_lt.2 hlt
  have : c = 0 ∨ c = -1 := by omega
  rcases this with rfl | rfl
  · simp at hv; omega
  · exfalso
    have : (wv y : Int) ≤ wv x := Int.ofNat_le.2 hle
    generalize (4294967296 : Int) ^ k = p at *
    omega
/-- A round of the inner loop of the product: the word i + k. -/
theorem mul_round {out b : List Nat} {i k a c V : Nat} (hi : i + k < out.length) (hv : wv out + 4294967296 ^ (i + k) * c = V + 4294967296 ^ i * (a * wv (b.take k))) :
    wv (out.set (i + k) ((c + out.getD (i + k) 0 + a * b.getD k 0) % 4294967296)) + 4294967296 ^ (i + (k + 1)) * ((c + out.getD (i + k) 0 + a * b.getD k 0) / 4294967296) = V + 4294967296 ^ i * (a * wv (b.take (k + 1))) := by
  have hs := wv_set out (i + k) ((c + out.getD (i + k) 0 + a * b.getD k 0) % 4294967296) hi
  rw [wv_take_succ, show i + (k + 1) = (i + k) + 1 from rfl, Nat.pow_succ]
  have d := Nat.div_add_mod (c + out.getD (i + k) 0 + a * b.getD k 0) 4294967296
  have e : 4294967296 ^ i * (a * (wv (b.take k) + 4294967296 ^ k * b.getD k 0)) = 4294967296 ^ i * (a * wv (b.take k)) + 4294967296 ^ (i + k) * (a * b.getD k 0) := by rw [Nat.pow_add]; grind
  rw [e]
  generalize (c + out.getD (i + k) 0 + a * b.getD k 0) % 4294967296 = m at *
  generalize (c + out.getD (i + k) 0 + a * b.getD k 0) / 4294967296 = d' at *
  generalize wv (out.set (i + k) m) = S at *
  generalize 4294967296 ^ (i + k) = p at *
  generalize 4294967296 ^ i * (a * wv (b.take k)) = q at *
  grind
theorem mul_carry {a b o c : Nat} (ha : a < 4294967296) (hb : b < 4294967296) (ho : o < 4294967296) (hc : c < 4294967296) : c + o + a * b < 18446744073709551616 ∧ (c + o + a * b) / 4294967296 < 4294967296 := by
  have : a * b ≤ 4294967295 * 4294967295 := Nat.mul_le_mul (by omega) (by omega)
  omega
end Go.Proofs.Ythkfaacgabkhhaa

namespace Go.Proofs.Ythkfaacgabkhhaa

def sg (n : Bool) : Int := if n then -1 else 1
theorem sg_not (n : Bool) : sg (!n) = - sg n := by cases n <;> rfl
theorem sg_xor (a b : Bool) : sg (a != b) = sg a * sg b := by cases a <;> cases b <;> rfl
structure Bg where
  neg : Bool
  ws : List Nat
  e : Int
def Bg.m (a : Bg) : Nat := wv a.ws * 2 ^ (a.e + 5000).toNat
def Bg.z (a : Bg) : Int := sg a.neg * (a.m : Int)
def Bg.ok (a : Bg) : Prop := wok a.ws ∧ -5000 ≤ a.e ∧ a.e ≤ 5000
theorem pow2_pos (n : Nat) : 0 < 2 ^ n := Nat.pow_pos (by decide)
/-- The words moved up, with the lower power: the same number. -/
theorem Bg.m_shift {ws out : List Nat} {e f : Int} (h : f ≤ e) (hf : -5000 ≤ f) (hv : wv out = 2 ^ (e - f).toNat * wv ws) : wv out * 2 ^ (f + 5000).toNat = wv ws * 2 ^ (e + 5000).toNat := by
  rw [hv, show (e + 5000).toNat = (e - f).toNat + (f + 5000).toNat by omega, Nat.pow_add]; grind
theorem Bg.z_neg (a : Bg) : Bg.z ⟨!a.neg, a.ws, a.e⟩ = - a.z := by
  show sg (!a.neg) * _ = - (sg a.neg * _)
  rw [sg_not, Int.neg_mul]; rfl
def k5 : Nat := 5000
/-- The product: by 2^5000 too small. -/
theorem Bg.z_mul {a b : Bg} (ha : -5000 ≤ a.e) (hb : -5000 ≤ b.e) (hab : -5000 ≤ a.e + b.e) {out : List Nat} (hv : wv out = wv a.ws * wv b.ws) :
    Bg.z ⟨a.neg != b.neg, out, a.e + b.e⟩ * ((2 ^ k5 : Nat) : Int) = a.z * b.z := by
  have e : Bg.m ⟨a.neg != b.neg, out, a.e + b.e⟩ * 2 ^ k5 = a.m * b.m := by
    show wv out * 2 ^ (a.e + b.e + 5000).toNat * 2 ^ k5 = (wv a.ws * 2 ^ (a.e + 5000).toNat) * (wv b.ws * 2 ^ (b.e + 5000).toNat)
    have p : 2 ^ (a.e + b.e + 5000).toNat * 2 ^ k5 = 2 ^ (a.e + 5000).toNat * 2 ^ (b.e + 5000).toNat := by
      rw [← Nat.pow_add, ← Nat.pow_add]; congr 1; have : k5 = 5000 := rfl; omega
    rw [hv, Nat.mul_assoc, p]; grind
  show sg (a.neg != b.neg) * _ * _ = sg a.neg * _ * (sg b.neg * _)
  rw [sg_xor, Int.mul_assoc, ← Int.natCast_mul, e, Int.natCast_mul]; grind
/-- The sum of two at one power, of one sign. -/
theorem Bg.z_add {n : Bool} {x y out : List Nat} {e : Int} (hv : wv out = wv x + wv y) : Bg.z ⟨n, out, e⟩ = Bg.z ⟨n, x, e⟩ + Bg.z ⟨n, y, e⟩ := by
  show sg n * ((wv out * _ : Nat) : Int) = sg n * ((wv x * _ : Nat) : Int) + sg n * ((wv y * _ : Nat) : Int)
  rw [hv, Nat.add_mul, Int.natCast_add, Int.mul_add]
/-- The sum of two at one power, of two signs, the first the greater. -/
theorem Bg.z_sub {n : Bool} {x y out : List Nat} {e : Int} (h : wv y ≤ wv x) (hv : wv out = wv x - wv y) : Bg.z ⟨n, out, e⟩ = Bg.z ⟨n, x, e⟩ + Bg.z ⟨!n, y, e⟩ := by
  show sg n * ((wv out * 2 ^ (e + 5000).toNat : Nat) : Int) = sg n * ((wv x * 2 ^ (e + 5000).toNat : Nat) : Int) + sg (!n) * ((wv y * 2 ^ (e + 5000).toNat : Nat) : Int)
  have : wv x = wv out + wv y := by omega
  rw [this, sg_not, Nat.add_mul, Int.natCast_add, Int.mul_add, Int.neg_mul]; omega
/-- What Sign answers. -/
def Bg.sign (a : Bg) : Int := if wv a.ws = 0 then 0 else sg a.neg
theorem Bg.sign_neg (a : Bg) : a.sign < 0 ↔ a.z < 0 := by
  have hp := pow2_pos (a.e + 5000).toNat
  unfold Bg.sign Bg.z Bg.m
  generalize 2 ^ (a.e + 5000).toNat = p at *
  by_cases h : wv a.ws = 0
  · simp [h]
  · have : 0 < wv a.ws * p := Nat.mul_pos (by omega) hp
    generalize wv a.ws * p = q at *
    cases a.neg <;> simp [h, sg] <;> omega
theorem Bg.sign_zero (a : Bg) : a.sign = 0 ↔ a.z = 0 := by
  have hp := pow2_pos (a.e + 5000).toNat
  unfold Bg.sign Bg.z Bg.m
  generalize 2 ^ (a.e + 5000).toNat = p at *
  by_cases h : wv a.ws = 0
  · simp [h]
  · have : 0 < wv a.ws * p := Nat.mul_pos (by omega) hp
    generalize wv a.ws * p = q at *
    cases a.neg <;> simp [h, sg] <;> omega
end Go.Proofs.Ythkfaacgabkhhaa

namespace Go.Proofs.Ythkfaacgabkhhaa
open Go.RowKit

/-- A list of words lies at the head of block g. -/
structure RL (w : World) (g : Nat) (ws : List Nat) : Prop where
  lt : g < w.heap.size
  ok : wok ws
  cell : ∀ i, i < ws.length → w.cell? ⟨g, i, none⟩ = some (.int .u32 (ws.getD i 0 : Nat))
theorem RL.below {w w' : World} {B g : Nat} {ws : List Nat} (h : RL w g ws) (hb : Below B w w') (hg : g < B) : RL w' g ws :=
  ⟨Nat.lt_of_lt_of_le h.lt hb.size, h.ok, fun i hi => (hb.cell (p := ⟨g, i, none⟩) hg).trans (h.cell i hi)⟩
theorem RL.below' {w w' : World} {g : Nat} {ws : List Nat} (h : RL w g ws) (hb : Below w.heap.size w w') : RL w' g ws := h.below hb h.lt

theorem at_in (w : World) (g c n i x : Nat) (hi : i < n) (hn : n ≤ 4096) (hc : w.cell? ⟨g, i, none⟩ = some (.int .u32 (x : Nat))) :
    Calls Try.prog 64 #[.slice (some ⟨g, 0, none⟩) n c, .int .i64 (i : Nat)] w fun e w' => e = .returned (.int .u32 (x : Nat)) ∧ w = w' := by
  go_enter Try.func64, Try.ntmps64
  go_wp2
  go_ret
  exact ⟨rfl, rfl⟩
theorem at_out (w : World) (g c n i : Nat) (hi : ¬ i < n) (hn : n ≤ 4096) :
    Calls Try.prog 64 #[.slice (some ⟨g, 0, none⟩) n c, .int .i64 (i : Nat)] w fun e w' => e = .returned (.int .u32 0) ∧ w = w' := by
  go_enter Try.func64, Try.ntmps64
  go_wp2
  go_ret
  exact ⟨rfl, rfl⟩
theorem at_any {w : World} {g : Nat} {ws : List Nat} (h : RL w g ws) (c i : Nat) (hn : ws.length ≤ 4096) :
    Calls Try.prog 64 #[.slice (some ⟨g, 0, none⟩) ws.length c, .int .i64 (i : Nat)] w fun e w' => e = .returned (.int .u32 (ws.getD i 0 : Nat)) ∧ w = w' := by
  by_cases hi : i < ws.length
  · exact at_in w g c ws.length i _ hi hn (h.cell i hi)
  · rw [List.getD_eq_getElem?_getD, List.getElem?_eq_none (by omega)]
    exact at_out w g c ws.length i hi hn
theorem infoBig : (Try.prog.info? 35).map (·.size) = some 3 := by kernel_rfl
theorem resB {fn : Func} {p : Tmp} (h : fn.results = #[.cell p 35]) (tmps : Array Value) (w : World) (g : Nat) (a b c : Value)
    (hp : tmps.getD p undef = .pointer (some ⟨g, 0, none⟩)) (hg : Blk w g 35 #[a, b, c]) :
    (results fn tmps).run Try.prog w = .ok (.agg #[a, b, c]) w :=
  results_cell_row h tmps w g _ _ (0, 0) _ hp hg Try.underlying35 rfl (by rw [infoBig]; rfl)
theorem below_n2 (w : World) (o o' : Obj) : Below w.heap.size w ((w.alloc o).alloc o') := ((Below.refl _ w).alloc (Nat.le_refl _) _).alloc (by simp) _
theorem neg_any (w : World) (n : Bool) (p : Option Addr) (l c : Nat) (e : Int) :
    Calls Try.prog 23 #[.agg #[.bool n, .slice p l c, .int .i64 e]] w fun r w' => r = .returned (.agg #[.bool (!n), .slice p l c, .int .i64 e]) ∧ Below w.heap.size w w' := by
  go_enter Try.func23, Try.ntmps23
  go_wp2_with fail
  exact bodyPost_ret (resB rfl _ _ (w.heap.size + 1) _ _ _ rfl (Blk.new_at _ _ _ (by simp))) rfl ⟨rfl, below_n2 _ _ _⟩
/-- What size answers. -/
def szq (x y : Nat) : Int := if x < y then -1 else if y < x then 1 else 0
def Eq_ (x y : List Nat) (k : Nat) : Prop := wv x + wv (y.take k) = wv y + wv (x.take k)
theorem wok_take {l : List Nat} (h : wok l) (k : Nat) : wok (l.take k) := fun x hx => h x (List.mem_of_mem_take hx)
theorem wv_take_lt {l : List Nat} (h : wok l) (k : Nat) : wv (l.take k) < 4294967296 ^ k := by
  have := wv_lt (wok_take h k)
  exact Nat.lt_of_lt_of_le this (Nat.pow_le_pow_right (by decide) (by rw [List.length_take]; exact Nat.min_le_left _ _))
theorem Eq_.all (x y : List Nat) {k : Nat} (hx : x.length ≤ k) (hy : y.length ≤ k) : Eq_ x y k := by
  unfold Eq_; rw [wv_take_all x hx, wv_take_all y hy]; omega
theorem Eq_.step {x y : List Nat} {k : Nat} (h : Eq_ x y (k + 1)) (he : x.getD k 0 = y.getD k 0) : Eq_ x y k := by
  unfold Eq_ at *; rw [wv_take_succ, wv_take_succ, he] at h; omega
theorem Eq_.lt {x y : List Nat} {k : Nat} (hx : wok x) (h : Eq_ x y (k + 1)) (he : x.getD k 0 < y.getD k 0) : wv x < wv y := by
  unfold Eq_ at *; rw [wv_take_succ, wv_take_succ] at h
  have a := wv_take_lt hx k
  have b := Nat.mul_le_mul_left (4294967296 ^ k) (show x.getD k 0 + 1 ≤ y.getD k 0 from he)
  rw [Nat.mul_add] at b
  omega
theorem Eq_.symm {x y : List Nat} {k : Nat} (h : Eq_ x y k) : Eq_ y x k := by unfold Eq_ at *; omega
theorem Eq_.zero {x y : List Nat} (h : Eq_ x y 0) : wv x = wv y := by unfold Eq_ at h; simpa [wv] using h
theorem szq_lt {x y : Nat} (h : x < y) : (-1 : Int) = szq x y := by unfold szq; rw [if_pos h]
theorem szq_gt {x y : Nat} (h : y < x) : (1 : Int) = szq x y := by unfold szq; rw [if_neg (by omega), if_pos h]
theorem szq_eq {x y : Nat} (h : x = y) : (0 : Int) = szq x y := by unfold szq; rw [if_neg (by omega), if_neg (by omega)]
def SzRel (x y : List Nat) (n : Nat) (i : Value) (w wr : World) : Prop := ∃ k : Nat, i = .int .i64 ((k : Int) - 1) ∧ k ≤ n ∧ Eq_ x y k ∧ w = wr
theorem size_any {w : World} {g h : Nat} {x y : List Nat} (hx : RL w g x) (hy : RL w h y) (c d : Nat) (lx : x.length ≤ 4096) (ly : y.length ≤ 4096) :
    Calls Try.prog 65 #[.slice (some ⟨g, 0, none⟩) x.length c, .slice (some ⟨h, 0, none⟩) y.length d] w fun r w' => r = .returned (.int .i64 (szq (wv x) (wv y))) ∧ w = w' := by
  have HX := Lib.hid (fun i => at_any hx c i lx)
  have HY := Lib.hid (fun i => at_any hy d i ly)
  have hwx := hx.ok
  have hwy := hy.ok
  clear hx hy
  by_cases hl : x.length < y.length
  · go_enter Try.func65, Try.ntmps65
    go_wp2_with fail
    go_loopw [6] (fun i wr => SzRel x y y.length i w wr) (fun i _ => (intOf i + 1).toNat)
    case atStart => exact ⟨y.length, rfl, Nat.le_refl _, Eq_.all x y (by omega) (by omega), rfl⟩
    case round =>
      obtain ⟨k, hi, hkn, he, rfl⟩ := hrel
      have HE := Lib.hid he
      clear he
      cases k with
      | zero =>
        obtain rfl : _ = Value.int .i64 (-1) := hi
        go_wp2
        go_ret
        exact ⟨by rw [← szq_eq HE.out.zero]; rfl, rfl⟩
      | succ m =>
        have e : (((m + 1 : Nat) : Int) - 1) = (m : Int) := by omega
        rw [e] at hi
        subst hi
        clear e
        go_wp2_with fail
        refine (HX.out m).mono ?_
        rintro e1 w1 ⟨rfl, rfl⟩
        go_wp2_with fail
        refine (HY.out m).mono ?_
        rintro e1 w1 ⟨rfl, rfl⟩
        go_wp2_with fail
        · have h1 : x[m]?.getD 0 < y[m]?.getD 0 := by assumption
          rw [← List.getD_eq_getElem?_getD, ← List.getD_eq_getElem?_getD] at h1
          go_ret
          exact ⟨by rw [← szq_lt (HE.out.lt hwx h1)]; rfl, rfl⟩
        · have h1 : ¬ x[m]?.getD 0 < y[m]?.getD 0 := by assumption
          rw [← List.getD_eq_getElem?_getD, ← List.getD_eq_getElem?_getD] at h1
          have H1 := Lib.hid h1
          clear h1
          refine (HX.out m).mono ?_
          rintro e1 w1 ⟨rfl, rfl⟩
          go_wp2_with fail
          refine (HY.out m).mono ?_
          rintro e1 w1 ⟨rfl, rfl⟩
          go_wp2_with fail
          · have h2 : y[m]?.getD 0 < x[m]?.getD 0 := by assumption
            rw [← List.getD_eq_getElem?_getD, ← List.getD_eq_getElem?_getD] at h2
            go_ret
            exact ⟨by rw [← szq_gt (HE.out.symm.lt hwy h2)]; rfl, rfl⟩
          · have h2 : ¬ y[m]?.getD 0 < x[m]?.getD 0 := by assumption
            rw [← List.getD_eq_getElem?_getD, ← List.getD_eq_getElem?_getD] at h2
            go_roundw
            case rel => exact ⟨m, rfl, by omega, HE.out.step (by have := H1.out; omega), rfl⟩
            case measure => simp [intOf]
  · go_enter Try.func65, Try.ntmps65
    go_wp2_with fail
    go_loopw [6] (fun i wr => SzRel x y x.length i w wr) (fun i _ => (intOf i + 1).toNat)
    case atStart => exact ⟨x.length, rfl, Nat.le_refl _, Eq_.all x y (by omega) (by omega), rfl⟩
    case round =>
      obtain ⟨k, hi, hkn, he, rfl⟩ := hrel
      have HE := Lib.hid he
      clear he
      cases k with
      | zero =>
        obtain rfl : _ = Value.int .i64 (-1) := hi
        go_wp2
        go_ret
        exact ⟨by rw [← szq_eq HE.out.zero]; rfl, rfl⟩
      | succ m =>
        have e : (((m + 1 : Nat) : Int) - 1) = (m : Int) := by omega
        rw [e] at hi
        subst hi
        clear e
        go_wp2_with fail
        refine (HX.out m).mono ?_
        rintro e1 w1 ⟨rfl, rfl⟩
        go_wp2_with fail
        refine (HY.out m).mono ?_
        rintro e1 w1 ⟨rfl, rfl⟩
        go_wp2_with fail
        · have h1 : x[m]?.getD 0 < y[m]?.getD 0 := by assumption
          rw [← List.getD_eq_getElem?_getD, ← List.getD_eq_getElem?_getD] at h1
          go_ret
          exact ⟨by rw [← szq_lt (HE.out.lt hwx h1)]; rfl, rfl⟩
        · have h1 : ¬ x[m]?.getD 0 < y[m]?.getD 0 := by assumption
          rw [← List.getD_eq_getElem?_getD, ← List.getD_eq_getElem?_getD] at h1
          have H1 := Lib.hid h1
          clear h1
          refine (HX.out m).mono ?_
          rintro e1 w1 ⟨rfl, rfl⟩
          go_wp2_with fail
          refine (HY.out m).mono ?_
          rintro e1 w1 ⟨rfl, rfl⟩
          go_wp2_with fail
          · have h2 : y[m]?.getD 0 < x[m]?.getD 0 := by assumption
            rw [← List.getD_eq_getElem?_getD, ← List.getD_eq_getElem?_getD] at h2
            go_ret
            exact ⟨by rw [← szq_gt (HE.out.symm.lt hwy h2)]; rfl, rfl⟩
          · have h2 : ¬ y[m]?.getD 0 < x[m]?.getD 0 := by assumption
            rw [← List.getD_eq_getElem?_getD, ← List.getD_eq_getElem?_getD] at h2
            go_roundw
            case rel => exact ⟨m, rfl, by omega, HE.out.step (by have := H1.out; omega), rfl⟩
            case measure => simp [intOf]
def SgRel (ws : List Nat) (i : Value) (w wr : World) : Prop := ∃ k : Nat, i = .int .i64 (k : Nat) ∧ k ≤ ws.length ∧ wv (ws.take k) = 0 ∧ w = wr
theorem sign_pos {n : Bool} {ws : List Nat} {e : Int} {i : Nat} (h : ws.getD i 0 ≠ 0) : sg n = Bg.sign ⟨n, ws, e⟩ := by
  unfold Bg.sign; rw [if_neg (by have := wv_pos h; show wv ws ≠ 0; omega)]
theorem sign_nil {n : Bool} {ws : List Nat} {e : Int} (h : wv ws = 0) : (0 : Int) = Bg.sign ⟨n, ws, e⟩ := by
  unfold Bg.sign; rw [if_pos h]
theorem sign_any {w : World} {g : Nat} {ws : List Nat} (h : RL w g ws) (n : Bool) (c : Nat) (e : Int) (hl : ws.length ≤ 4096) :
    Calls Try.prog 32 #[.agg #[.bool n, .slice (some ⟨g, 0, none⟩) ws.length c, .int .i64 e]] w fun r w' => r = .returned (.int .i64 (Bg.sign ⟨n, ws, e⟩)) ∧ Below w.heap.size w w' := by
  have HB := Lib.hid (below_new w (.cells #[.bool n, .slice (some ⟨g, 0, none⟩) ws.length c, .int .i64 e] 35))
  have HC := Lib.hid (h.below' HB.out)
  clear h
  go_enter Try.func32, Try.ntmps32
  go_wp2_with fail
  go_loopw [3] (fun i wr => SgRel ws i (w.alloc (.cells #[.bool n, .slice (some ⟨g, 0, none⟩) ws.length c, .int .i64 e] 35)) wr) (fun i _ => ws.length - (intOf i).toNat)
  case atStart => exact ⟨0, rfl, Nat.zero_le _, rfl, rfl⟩
  case round =>
    obtain ⟨k, rfl, hk, hz, rfl⟩ := hrel
    have HZ := Lib.hid hz
    clear hz
    by_cases hkn : k < ws.length
    · have hc := HC.out.cell k hkn
      by_cases h0 : ws.getD k 0 = 0
      · rw [h0] at hc
        have H0 := Lib.hid h0
        clear h0
        go_wp2_with fail
        go_roundw
        case rel => exact ⟨k + 1, by go_num, by omega, by rw [wv_take_succ, HZ.out, H0.out]; rfl, rfl⟩
        case measure => simp [intOf]; omega
      · have H0 := Lib.hid (fun n => sign_pos (n := n) (e := e) h0)
        generalize ws.getD k 0 = x at hc h0
        cases n
        · go_wp2_with fail
          go_ret
          exact ⟨by rw [← H0.out]; rfl, HB.out⟩
        · go_wp2_with fail
          go_ret
          exact ⟨by rw [← H0.out]; rfl, HB.out⟩
    · have H0 := Lib.hid (sign_nil (n := n) (e := e) (show wv ws = 0 by rw [← wv_take_all ws (k := k) (by omega)]; exact HZ.out))
      go_wp2_with fail
      go_ret
      exact ⟨by rw [← H0.out]; rfl, HB.out⟩
end Go.Proofs.Ythkfaacgabkhhaa

namespace Go.Proofs.Ythkfaacgabkhhaa
open Go.RowKit Ieee

/-- The two words of a float's whole number. -/
def ow (b : Nat) : List Nat := [Fl.sM b % 4294967296, Fl.sM b / 4294967296]
theorem ow_ok (b : Nat) : wok (ow b) := by
  intro x hx
  have := Fl.sM_lt b
  unfold ow at hx
  simp at hx
  omega
theorem wv_ow (b : Nat) : wv (ow b) = Fl.sM b := by unfold ow; simp only [wv]; omega
theorem bgv_eq {n n' : Bool} {p : Option Addr} {l c : Nat} {e e' : Int} (hn : n = n') (he : e = e') :
    Ending.returned (.agg #[.bool n, .slice p l c, .int .i64 e]) = .returned (.agg #[.bool n', .slice p l c, .int .i64 e']) := by subst hn he; rfl
abbrev bgv (a : Bg) (g c : Nat) : Value := .agg #[.bool a.neg, .slice (some ⟨g, 0, none⟩) a.ws.length c, .int .i64 a.e]
/-- A number is handed back, its words in memory; what was there before the call stands. -/
def RB (w : World) (a : Bg) (r : Ending) (w' : World) : Prop := ∃ g c, r = .returned (bgv a g c) ∧ RL w' g a.ws ∧ w.heap.size ≤ g ∧ Below w.heap.size w w'
def ofB (b : Nat) : Bg := ⟨Fl.sg b, ow b, Fl.sE b⟩
theorem of_shut {b : Nat} (w w' : World) (t : TypeId) (x y e : Int) (n : Bool) (h : w'.heap[w.heap.size + 1]? = some (.cells #[.int .u32 x, .int .u32 y] t (0, 0))) (hx : x = ((Fl.sM b % 4294967296 : Nat) : Int)) (hy : y = ((Fl.sM b / 4294967296 : Nat) : Int))
    (hn : n = Fl.sg b) (he : e = Fl.sE b) (hb : Below w.heap.size w w') : RB w (ofB b) (.returned (.agg #[.bool n, .slice (some ⟨w.heap.size + 1, 0, none⟩) 2 2, .int .i64 e])) w' := by
  subst hx hy hn he
  have hB : Blk w' (w.heap.size + 1) t #[.int .u32 ((Fl.sM b % 4294967296 : Nat) : Int), .int .u32 ((Fl.sM b / 4294967296 : Nat) : Int)] := h
  refine ⟨_, _, rfl, ⟨hB.lt, ow_ok b, fun i hi => ?_⟩, Nat.le_succ _, hb⟩
  have hi : i < 2 := hi
  match i, hi with
  | 0, _ => exact hB.cell 0
  | 1, _ => exact hB.cell 1
theorem of_big (b : Nat) (hb : b < 18446744073709551616) (w : World) :
    Calls Try.prog 22 #[.float .f64 b] w fun r w' => RB w (ofB b) r w' := by
  have F1 := fld_exp b hb
  have F2 := fld_frac b hb
  have F3 := fld_one (Fl.mg b % 4503599627370496) (Nat.mod_lt _ (by decide))
  have FS := Lib.hid (fld_sign b hb)
  have hp : Fl.mg b / 4503599627370496 < 2048 := by have := Fl.mg_lt b; unfold Fl.SGN at this; omega
  have HE : Hid ((Fl.mg b / 4503599627370496 = 0 → Fl.sM b = Fl.mg b % 4503599627370496 ∧ Fl.sE b = -1074) ∧ (Fl.mg b / 4503599627370496 ≠ 0 → Fl.sM b = Fl.mg b % 4503599627370496 + 4503599627370496 ∧ Fl.sE b = ((Fl.mg b / 4503599627370496 : Nat) : Int) - 1075)) := by
    refine Lib.hid ⟨fun h => ?_, fun h => ?_⟩
    · have h' : Fl.mg b < 4503599627370496 := by omega
      unfold Fl.sM Fl.sE
      rw [if_pos h', if_pos h']
      exact ⟨by omega, rfl⟩
    · have h' : ¬ Fl.mg b < 4503599627370496 := by omega
      unfold Fl.sM Fl.sE
      rw [if_neg h', if_neg h']
      exact ⟨rfl, rfl⟩
  have HW := Lib.hid (fun (w w' : World) (t : TypeId) (x y e : Int) (n : Bool) => of_shut w w' t x y e n (b := b))
  generalize ofB b = O at *
  generalize Fl.sM b = M at *
  generalize Fl.sE b = E at *
  generalize Fl.mg b / 4503599627370496 = p at *
  have hf : Fl.mg b % 4503599627370496 < 4503599627370496 := Nat.mod_lt _ (by decide)
  generalize Fl.mg b % 4503599627370496 = f at *
  by_cases h0 : p = 0
  · subst h0
    go_enter Try.func22, Try.ntmps22
    go_wp2_with fail
    (try simp only [Exit.inBlock, Exit.then])
    obtain ⟨rfl, rfl⟩ := HE.out.1 (by first | exact rfl | exact trivial)
    refine bodyPost_ret (resB rfl _ _ w.heap.size _ _ _ rfl ((Blk.new_at _ _ _ rfl).alloc _)) rfl ?_
    refine HW.out _ _ _ _ _ _ _ (Blk.new_at _ _ _ (by simp)) ?_ ?_ FS.out ?_ (below_n2 _ _ _)
    all_goals omega
  · go_enter Try.func22, Try.ntmps22
    go_wp2_with fail
    (try simp only [Exit.inBlock, Exit.then])
    obtain ⟨rfl, rfl⟩ := HE.out.2 h0
    refine bodyPost_ret (resB rfl _ _ w.heap.size _ _ _ rfl ((Blk.new_at _ _ _ rfl).alloc _)) rfl ?_
    refine HW.out _ _ _ _ _ _ _ (Blk.new_at _ _ _ (by simp)) ?_ ?_ FS.out ?_ (below_n2 _ _ _)
    all_goals omega
end Go.Proofs.Ythkfaacgabkhhaa

namespace Go.Proofs.Ythkfaacgabkhhaa
open Go.RowKit

theorem infoU32 : (Try.prog.info? 71).map (fun i => (i.zero, i.size, i.bytes)) = some (some (.int .u32 0), 1, 4) := by kernel_rfl
/-- The words as cells. -/
def wc (l : List Nat) : List Value := l.map fun x => Value.int .u32 (x : Nat)
theorem wc_snoc (l : List Nat) (x : Nat) : wc l ++ [Value.int .u32 (x : Nat)] = wc (l ++ [x]) := by unfold wc; rw [List.map_append]; rfl
theorem wc_length (l : List Nat) : (wc l).length = l.length := by unfold wc; rw [List.length_map]
theorem wc_zeros (n : Nat) : wc (List.replicate n 0) = List.replicate n (Value.int .u32 0) := by unfold wc; rw [List.map_replicate]; rfl
theorem wc_get (l : List Nat) (i : Nat) (h : i < l.length) : (wc l)[i]? = some (.int .u32 (l.getD i 0 : Nat)) := by
  unfold wc; rw [List.getElem?_map, List.getElem?_eq_getElem h, List.getD_eq_getElem?_getD, List.getElem?_eq_getElem h]; rfl
/-- What is gathered: owned, not nil, words. -/
structure Own (wr : World) (B : Nat) (v : Value) (out : List Nat) : Prop where
  own : wr.ownsRow B 71 1 v out.length (wc out)
  nn : v ≠ .slice none 0 0
  ok : wok out
theorem Own.rl {wr : World} {B : Nat} {v : Value} {out : List Nat} (h : Own wr B v out) : ∃ g c, v = .slice (some ⟨g, 0, none⟩) out.length c ∧ RL wr g out ∧ B ≤ g := by
  rcases h.own.2 with ⟨rfl, _⟩ | ⟨g, cap, cur, rfl, hbg, hg, hnc, hcm, hcs, htake⟩
  · exact absurd rfl h.nn
  · refine ⟨g, cap, rfl, ⟨(h.own.lt g rfl).2, h.ok, fun i hi => ?_⟩, hbg⟩
    have := h.own.cells (g := g) rfl i _ (wc_get out i hi)
    have e : (⟨g, 0, none⟩ : Addr).add i = ⟨g, i, none⟩ := by
      by_cases h0 : i = 0 <;> simp [Addr.add, h0]
    rwa [e] at this
theorem Own.grown {wr w' : World} {B x : Nat} {v v' : Value} {out : List Nat} (h : Own wr B v out) (hx : x < 4294967296) {o : Obj} (hown : w'.ownsRow B 71 1 v' (out.length + 1) (wc out ++ [Value.int .u32 (x : Nat)])) (hnil : v' ≠ .slice none 0 0) :
    Own w' B v' (out ++ [x]) := by
  refine ⟨?_, hnil, wok_snoc h.ok hx⟩
  rw [← wc_snoc, List.length_append]; exact hown
/-- What stood below N stands. -/
theorem below_grown {w wr w' : World} {N B : Nat} {v : Value} {out : List Nat} {o : Obj} (h : Own wr B v out) (hb : Below N w wr) (hN : N ≤ B) (hB : B ≤ wr.heap.size) (hg : (wr.alloc o).grownBy w' v.ownBlock) : Below N w w' :=
  (hb.alloc (by omega) o).grown hg (by simp; omega) (fun j hj => by have := (h.own.lt j hj).1; omega)
/-- 'make([]T, q, N)', both variables, T of one cell: q zero elements are owned, with room for N. -/
theorem wpList_make_some {P : Program} (w : World) {ops : Array Oper} {rest : List Oper} {o : Oper} {a : Act} {Q : Exit → Act → World → Prop}
    (hg : o.guard = none) (l c : Operand) (t : TypeId) (hop : o.op = Op.makeSlice t l c)
    (base : Nat) (e : TypeId) (i : TypeInfo) (z : Value) (h1 : P.underlying t = some (.slice e)) (h2 : P.info? e = some i) (h3 : i.zero = some z) (h4 : i.size = 1) (h5 : z.cells = #[z])
    (kl kc : IntKind) (L C : Int) (q N : Nat) (hl : a.eval l = .int kl L) (hc : a.eval c = .int kc C) (hL : L = (q : Int)) (hC : C = (N : Int)) (hq : q ≤ N) (b2 : i.bytes * N ≤ 281474976710656) (b3 : N ≤ maxLen) (b4 : base ≤ w.heap.size)
    (hK : ∀ w', w'.ownsRow base e 1 (.slice (some ⟨w.heap.size, 0, none⟩) q N) q (List.replicate q z) → w.grownBy w' none → wpList P ops Q rest (a.put o.dst (.slice (some ⟨w.heap.size, 0, none⟩) q N)) w') :
    wpList P ops Q (o :: rest) a w := by
  refine wpList_plain hg fun K hK' => ?_
  have hb' : (i.bytes : Int) * (N : Int) ≤ 281474976710656 := by
    have h : ((i.bytes * N : Nat) : Int) ≤ 281474976710656 := by omega
    rwa [Int.natCast_mul] at h
  have hrun := run_make (P := P) w t e i z h1 h2 h3 kl kc q N (by omega) (by omega) hb' (by unfold maxLen at b3; omega)
  simp only [Int.toNat_natCast, h4, Nat.mul_one, h5] at hrun
  have r1 : (w.alloc (.cells (madeCells #[z] N) e)).ownsRow base e 1 (.slice (some ⟨w.heap.size, 0, none⟩) q N) q (List.replicate q z) := by
    refine ⟨by rw [List.length_replicate, Nat.mul_one], .inr ⟨w.heap.size, N, _, rfl, b4, heap_alloc_new w _, hq, b3, by rw [size_madeCells, Nat.mul_one], ?_⟩⟩
    rw [toList_madeCells_one, List.take_replicate, Nat.mul_one, Nat.min_eq_left hq]
  subst hL hC
  unfold Oper.wp
  simp [execOp, hop, hl, hc, hrun, Result.andThen]
  exact hK' _ _ (hK _ r1 (World.grownBy_alloc w _ none))
structure ShI (w wr : World) (q r n : Nat) (ws : List Nat) (k c : Nat) (v : Value) (out : List Nat) : Prop where
  own : Own wr w.heap.size v out
  len : out.length = q + k
  b : Below w.heap.size w wr
  hc : c < 2 ^ r
  hv : wv out + 4294967296 ^ (q + k) * c = 2 ^ n * wv (ws.take k)
def ShRel (q r n : Nat) (ws : List Nat) (v c i : Value) (w wr : World) : Prop := ∃ (k c' : Nat) (out : List Nat), k ≤ ws.length ∧ i = .int .i64 (k : Nat) ∧ c = .int .u64 (c' : Nat) ∧ ShI w wr q r n ws k c' v out
theorem ShI.start {w w' : World} {q r n : Nat} {ws : List Nat} {v : Value} (hown : w'.ownsRow w.heap.size 71 1 v q (List.replicate q (.int .u32 0))) (hv : v ≠ .slice none 0 0) (hg : w.grownBy w' none) :
    ShI w w' q r n ws 0 0 v (List.replicate q 0) := by
  refine ⟨⟨?_, hv, wok_zeros q⟩, by rw [List.length_replicate]; rfl, (Below.refl _ _).grown hg (Nat.le_refl _) (fun k h => by cases h), Nat.two_pow_pos r, ?_⟩
  · rw [wc_zeros, List.length_replicate]; exact hown
  · rw [wv_zeros]; simp [wv]
theorem ShI.step {w wr w' : World} {q r n k c s : Nat} {ws out : List Nat} {v v' : Value} {o : Obj} (hn : n = 32 * q + r) (hr : r < 32) (h : ShI w wr q r n ws k c v out) (hk : w.heap.size ≤ wr.heap.size) (hx : ws.getD k 0 < 4294967296) (hs : s = c + ws.getD k 0 * 2 ^ r)
    (hown : w'.ownsRow w.heap.size 71 1 v' (out.length + 1) (wc out ++ [Value.int .u32 ((s : Int) % 4294967296)])) (hg : (wr.alloc o).grownBy w' v.ownBlock) (hnil : v' ≠ .slice none 0 0) :
    ShI w w' q r n ws (k + 1) (s / 4294967296) v' (out ++ [s % 4294967296]) := by
  have e : ((s : Int) % 4294967296) = ((s % 4294967296 : Nat) : Int) := by omega
  rw [e] at hown
  refine ⟨h.own.grown (Nat.mod_lt _ (by decide)) (o := o) hown hnil, by rw [List.length_append, h.len]; rfl, below_grown h.own h.b (Nat.le_refl _) hk hg, ?_, ?_⟩
  · have h1 : ws.getD k 0 * 2 ^ r ≤ 4294967295 * 2 ^ r := Nat.mul_le_mul_right _ (by omega)
    have h2 := h.hc
    have h3 : 2 ^ r ≤ 4294967296 := Nat.pow_le_pow_right (n := 2) (i := r) (j := 32) (by decide) (by omega)
    generalize 2 ^ r = p at *
    rw [Nat.div_lt_iff_lt_mul (by decide)]
    omega
  · rw [hs]; exact shift_round hn h.len h.hv
theorem sh_lt {c x r : Nat} (hc : c < 2 ^ r) (hx : x < 4294967296) (hr : r < 32) : c + x * 2 ^ r < 18446744073709551616 := by
  have h3 : 2 ^ r ≤ 2147483648 := Nat.pow_le_pow_right (n := 2) (i := r) (j := 31) (by decide) (by omega)
  have h1 : x * 2 ^ r ≤ 4294967295 * 2147483648 := Nat.mul_le_mul (by omega) h3
  omega
theorem sh_or {c x r : Nat} (hc : c < 2 ^ r) (hx : x < 4294967296) (hr : r < 32) : bits BinOp.or IntKind.u64 (c : Int) (IntKind.u64.wrap (IntKind.u64.wrap (x : Int) * 2 ^ r)) = ((c + x * 2 ^ r : Nat) : Int) := by
  have h3 : 2 ^ r ≤ 2147483648 := Nat.pow_le_pow_right (n := 2) (i := r) (j := 31) (by decide) (by omega)
  have h1 : x * 2 ^ r ≤ 4294967295 * 2147483648 := Nat.mul_le_mul (by omega) h3
  have e : IntKind.u64.wrap (IntKind.u64.wrap (x : Int) * 2 ^ r) = ((x * 2 ^ r : Nat) : Int) := by
    rw [IntKind.wrap_u64, IntKind.wrap_u64, show (x : Int) % 18446744073709551616 = (x : Int) by omega, Int.natCast_mul, Int.natCast_pow]
    have : ((x * 2 ^ r : Nat) : Int) < 18446744073709551616 := by omega
    rw [Int.natCast_mul, Int.natCast_pow] at this
    have h0 : 0 ≤ (x : Int) * 2 ^ r := by
      have : 0 ≤ ((x * 2 ^ r : Nat) : Int) := Int.natCast_nonneg _
      rwa [Int.natCast_mul, Int.natCast_pow] at this
    exact Int.emod_eq_of_lt h0 this
  rw [e]
  have h := u64_or_nat c (x * 2 ^ r) (by omega) (by omega)
  refine h.trans ?_
  congr 1
  rw [Nat.or_comm, Nat.mul_comm, ← Nat.two_pow_add_eq_or_of_lt hc, Nat.add_comm]
def ShP (n : Nat) (w : World) (ws : List Nat) (r : Ending) (w' : World) : Prop := ∃ g' c' out, r = .returned (.slice (some ⟨g', 0, none⟩) out.length c') ∧ RL w' g' out ∧ wv out = 2 ^ n * wv ws ∧ out.length ≤ n / 32 + ws.length + 1 ∧ Below w.heap.size w w'
theorem ShI.fin {w wr w' : World} {q r n k c : Nat} {ws out : List Nat} {v v' : Value} {o : Obj} (hn : n = 32 * q + r) (hr : r < 32) (h : ShI w wr q r n ws k c v out) (hk : w.heap.size ≤ wr.heap.size) (hkl : k = ws.length)
    (hown : w'.ownsRow w.heap.size 71 1 v' (out.length + 1) (wc out ++ [Value.int .u32 (c : Nat)])) (hg : (wr.alloc o).grownBy w' v.ownBlock) (hnil : v' ≠ .slice none 0 0) :
    ShP n w ws (.returned v') w' := by
  have hc : c < 4294967296 := Nat.lt_of_lt_of_le h.hc (Nat.pow_le_pow_right (n := 2) (i := r) (j := 32) (by decide) (by omega))
  have hO := h.own.grown hc (o := o) hown hnil
  obtain ⟨g, cc, rfl, hrl, _⟩ := hO.rl
  refine ⟨g, cc, _, rfl, hrl, ?_, ?_, below_grown h.own h.b (Nat.le_refl _) hk hg⟩
  · rw [wv_snoc, h.len, h.hv, hkl, List.take_length]
  · rw [List.length_append, h.len]; simp; omega
theorem sh_mod {c r : Nat} (hc : c < 2 ^ r) (hr : r < 32) : c < 4294967296 := Nat.lt_of_lt_of_le hc (Nat.pow_le_pow_right (n := 2) (i := r) (j := 32) (by decide) (by omega))
set_option maxRecDepth 100000 in
set_option maxHeartbeats 1000000 in
theorem shift_any {w : World} {g : Nat} {ws : List Nat} (h : RL w g ws) (c n : Nat) (hl : ws.length ≤ 1000) (hn : n ≤ 20000) :
    Calls Try.prog 80 #[.slice (some ⟨g, 0, none⟩) ws.length c, .int .i64 (n : Nat)] w fun r w' => ∃ g' c' out, r = .returned (.slice (some ⟨g', 0, none⟩) out.length c') ∧ RL w' g' out ∧ wv out = 2 ^ n * wv ws ∧ out.length ≤ n / 32 + ws.length + 1 ∧ Below w.heap.size w w' := by
  obtain ⟨i0, hi0, hz0, hz1, hz2⟩ := info_parts infoU32
  obtain ⟨q, r, hq, hr⟩ : ∃ q r : Nat, n = 32 * q + r ∧ r < 32 := ⟨n / 32, n % 32, by omega, by omega⟩
  have e1 : (n : Int) / 32 = (q : Int) := by omega
  have e2 : (n : Int) % 32 = (r : Int) := by omega
  have e3 : ((q : Int) + (ws.length : Int) + 1) = ((q + ws.length + 1 : Nat) : Int) := by omega
  have hqq : q ≤ 625 := by omega
  have HN := Lib.hid hq
  have HR := Lib.hid h
  clear hq h
  generalize hm : q + ws.length + 1 = m at e3
  have HM := Lib.hid hm
  have hm2 : q ≤ m ∧ m ≤ 2000 := by omega
  clear hm
  show Calls _ _ _ _ (fun r w' => ShP n w ws r w')
  go_enter Try.func80, Try.ntmps80
  go_wp2_with (first
    | (at_make; refine wpList_make_some _ rfl _ _ 33 rfl w.heap.size 71 i0 (.int .u32 0) Try.underlying33 hi0 hz0 hz1 rfl .i64 .i64 _ _ q m rfl rfl rfl (by first | rfl | omega) hm2.1 (by rw [hz2]; omega) (by unfold maxLen; omega) (Nat.le_refl _) ?_; intro w1 hown hg))
  have HS := Lib.hid (ShI.start (r := r) (n := n) (ws := ws) hown (by simp) hg)
  clear hown hg
  go_loopw [5, 6, 7] (fun v c i wr => ShRel q r n ws v c i w wr) (fun _ _ i _ => ws.length - (intOf i).toNat)
  case atStart => exact ⟨0, 0, _, Nat.zero_le _, rfl, rfl, HS.out⟩
  case round =>
    clear HS
    obtain ⟨k, c', out, hk, rfl, rfl, hi⟩ := hrel
    by_cases hlt : k < ws.length
    · have hc := (HR.out.below' hi.b).cell k hlt
      have hx := HR.out.ok (ws.getD k 0) (by rw [List.getD_eq_getElem?_getD, List.getElem?_eq_getElem hlt]; exact List.getElem_mem hlt)
      have F := sh_or hi.hc hx hr
      have hln := hi.len
      have hsz := hi.b.size
      obtain ⟨s, hs⟩ : ∃ s, s = c' + ws.getD k 0 * 2 ^ r := ⟨_, rfl⟩
      rw [← hs] at F
      have hs64 : s < 18446744073709551616 := by rw [hs]; exact sh_lt hi.hc hx hr
      have HX := Lib.hid hx
      have HI := Lib.hid hi
      have HSS := Lib.hid hs
      clear hi hx hs
      have hx0 : ∃ x, x = ws.getD k 0 := ⟨_, rfl⟩
      obtain ⟨x, hx0⟩ := hx0
      rw [← hx0] at hc F
      clear hx0
      go_wp2_with (at_builtin; refine wpList_append_own _ rfl (.tmp 33) (.tmp 36) 33 rfl w.heap.size 71 i0 (.int .u32 0) 1 4 Try.underlying33 hi0 hz0 hz1 hz2 rfl (by decide) _ _ _ rfl (HI.out.own.own.alloc _) ⟨wr.heap.size, 0, none⟩ 1 1 [.int .u32 ((s : Int) % 4294967296)] rfl rfl ?c1 ?c2 ?c3 ?c4 ?c5 ?_)
      case c1 => exact cell_one_new _ _ _
      case c2 => intro u hu; simp at hu; subst hu; rfl
      case c3 => unfold maxLen; omega
      case c4 => omega
      case c5 => simp; omega
      intro v' w3 hown hg hnil
      have HD := Lib.hid (HI.out.step HN.out hr hsz HX.out HSS.out (by rw [hln]; exact hown) hg hnil)
      clear hown hg hnil
      go_wp2
      go_roundw
      case rel => exact ⟨k + 1, _, _, by omega, by go_num, by go_num, HD.out⟩
      case measure => simp [intOf]; omega
    · obtain rfl : k = ws.length := by omega
      have hln := hi.len
      have hsz := hi.b.size
      have hcc := sh_mod hi.hc hr
      have HI := Lib.hid hi
      clear hi
      go_wp2_with (at_builtin; refine wpList_append_own _ rfl (.tmp 40) (.tmp 43) 33 rfl w.heap.size 71 i0 (.int .u32 0) 1 4 Try.underlying33 hi0 hz0 hz1 hz2 rfl (by decide) _ _ _ rfl (HI.out.own.own.alloc _) ⟨wr.heap.size, 0, none⟩ 1 1 [.int .u32 (c' : Nat)] rfl rfl ?c1 ?c2 ?c3 ?c4 ?c5 ?_)
      case c1 => exact cell_one_new _ _ _
      case c2 => intro u hu; simp at hu; subst hu; rfl
      case c3 => unfold maxLen; omega
      case c4 => omega
      case c5 => simp; omega
      intro v' w3 hown hg hnil
      have HD := Lib.hid (HI.out.fin HN.out hr hsz rfl (by rw [hln]; exact hown) hg hnil)
      clear hown hg hnil
      go_wp2
      go_ret
      exact HD.out
end Go.Proofs.Ythkfaacgabkhhaa

namespace Go.Proofs.Ythkfaacgabkhhaa

theorem wpAnyH_oneP {P : Program} {ops : Array Oper} {Q : Exit → Act → World → Prop} {md : Region.Mode} {S : World → Prop} {i : Nat} {o : Oper} {fuel : Nat} {listed : Array Bool} {a : Act} {w : World}
    (hi : ops[i]? = some o) (hr : Region.ready md ops listed = [i]) (hw : Region.wanted o (yielded ops a.tmps) = true)
    (h : ∀ K : Act → World → Prop, (∀ a' w', S w' → wpAnyH P md ops Q S fuel (listed.setIfInBounds i true) a' w' → K a' w') → o.wp P a w K Q) : wpAnyH P md ops Q S (fuel + 1) listed a w := by
  refine wpAnyH_all hr (by simp) ?_
  intro j hj
  obtain rfl : j = i := by simpa using hj
  unfold wpOp
  simp only [hi, hw, if_true]
  exact Or.inl (h _ fun a' w' s k => ⟨s, k⟩)
theorem wpAnyH_takeM {P : Program} {ops : Array Oper} {Q : Exit → Act → World → Prop} {md : Region.Mode} {S : World → Prop} {i : Nat} {oi : Oper} {v : Value} {fuel : Nat} {listed l' : Array Bool} {a a' : Act} {w : World}
    (hi : ops[i]? = some oi) (hs : Region.noSelect ops = true) (hf : Region.free md ops listed i = true) (hr : (Region.ready md ops listed).contains i = true)
    (hQ : ∀ c a w, Q (.panic c) (a.put oi.dst v) w → Q (.panic c) a w) (hy : YieldsIf P ops S oi v a) (hl : listed.setIfInBounds i true = l') (ha : a.put oi.dst v = a') (hS : S w)
    (h : wpAnyH P md ops Q S fuel l' a' w) : wpAnyH P md ops Q S (fuel + 1) listed a w := by
  subst hl
  subst ha
  exact wpAnyH_take hi hs hf hr hQ hy hS h
theorem wpAnyH_oneM {P : Program} {ops : Array Oper} {Q : Exit → Act → World → Prop} {md : Region.Mode} {S : World → Prop} {i : Nat} {o : Oper} {fuel : Nat} {listed l' : Array Bool} {a : Act} {w : World}
    (hi : ops[i]? = some o) (hr : Region.ready md ops listed = [i]) (hw : Region.wanted o (yielded ops a.tmps) = true) (hl : listed.setIfInBounds i true = l')
    (h : ∀ K : Act → World → Prop, (∀ a' w', S w' → wpAnyH P md ops Q S fuel l' a' w' → K a' w') → o.wp P a w K Q) : wpAnyH P md ops Q S (fuel + 1) listed a w := by
  subst hl
  exact wpAnyH_oneP hi hr hw h
end Go.Proofs.Ythkfaacgabkhhaa

namespace Go.Proofs.Ythkfaacgabkhhaa
open Go.RowKit

theorem by1 (w : World) (t1 : TypeId) (c1 : Array Value) : ∃ W, W = w.alloc (.cells c1 t1) ∧ Blk W w.heap.size t1 c1 ∧ Below w.heap.size w W ∧ W.heap.size = w.heap.size + 1 :=
  ⟨_, rfl, Blk.new_at _ _ _ rfl, (Below.refl _ _).alloc (Nat.le_refl _) _, by simp⟩
theorem by2 (w : World) (t1 t2 : TypeId) (c1 c2 : Array Value) : ∃ W, W = (w.alloc (.cells c1 t1)).alloc (.cells c2 t2) ∧ Blk W w.heap.size t1 c1 ∧ Blk W (w.heap.size + 1) t2 c2 ∧ Below w.heap.size w W ∧ W.heap.size = w.heap.size + 1 + 1 := by
  obtain ⟨W, rfl, k0, hb, hz⟩ := by1 w t1 c1
  exact ⟨_, rfl, k0.alloc _, Blk.new_at _ _ _ (by omega), hb.alloc (by omega) _, by simp⟩
theorem by3 (w : World) (t1 t2 t3 : TypeId) (c1 c2 c3 : Array Value) : ∃ W, W = ((w.alloc (.cells c1 t1)).alloc (.cells c2 t2)).alloc (.cells c3 t3) ∧ Blk W w.heap.size t1 c1 ∧ Blk W (w.heap.size + 1) t2 c2 ∧ Blk W (w.heap.size + 1 + 1) t3 c3 ∧ Below w.heap.size w W ∧ W.heap.size = w.heap.size + 1 + 1 + 1 := by
  obtain ⟨W, rfl, k0, k1, hb, hz⟩ := by2 w t1 t2 c1 c2
  exact ⟨_, rfl, k0.alloc _, k1.alloc _, Blk.new_at _ _ _ (by omega), hb.alloc (by omega) _, by simp⟩
/-- What level hands back: both at the lower power. -/
structure Lev (a b : Bg) (x y : List Nat) (e : Int) : Prop where
  e1 : e ≤ a.e
  e2 : e ≤ b.e
  e3 : e = a.e ∨ e = b.e
  vx : wv x = 2 ^ (a.e - e).toNat * wv a.ws
  vy : wv y = 2 ^ (b.e - e).toNat * wv b.ws
  lx : x.length ≤ (a.e - e).toNat / 32 + a.ws.length + 1
  ly : y.length ≤ (b.e - e).toNat / 32 + b.ws.length + 1
def LevP (a b : Bg) (w : World) (r : Ending) (w' : World) : Prop := ∃ gx cx x gy cy y e, r = .returned (.tuple #[.slice (some ⟨gx, 0, none⟩) (List.length x) cx, .slice (some ⟨gy, 0, none⟩) (List.length y) cy, .int .i64 e]) ∧ RL w' gx x ∧ RL w' gy y ∧ Lev a b x y e ∧ Below w.heap.size w w'
theorem Lev.ge {a b : Bg} {out : List Nat} (h : b.e ≤ a.e) (hv : wv out = 2 ^ (a.e - b.e).toNat * wv a.ws) (hl : out.length ≤ (a.e - b.e).toNat / 32 + a.ws.length + 1) : Lev a b out b.ws b.e :=
  ⟨h, Int.le_refl _, Or.inr rfl, hv, by rw [Int.sub_self]; simp, hl, by omega⟩
theorem Lev.lt {a b : Bg} {out : List Nat} (h : a.e ≤ b.e) (hv : wv out = 2 ^ (b.e - a.e).toNat * wv b.ws) (hl : out.length ≤ (b.e - a.e).toNat / 32 + b.ws.length + 1) : Lev a b a.ws out a.e :=
  ⟨Int.le_refl _, h, Or.inl rfl, by rw [Int.sub_self]; simp, hv, by omega, hl⟩
/-- A number that is small enough. -/
structure Bnd (a : Bg) : Prop where
  l : a.ws.length ≤ 400
  lo : -5000 ≤ a.e
  hi : a.e ≤ 5000
set_option maxRecDepth 100000 in
set_option maxHeartbeats 2000000 in
theorem level_ge {a b : Bg} {w : World} {g h : Nat} (ha : RL w g a.ws) (hb : RL w h b.ws) (c d : Nat) (na : Bnd a) (nb : Bnd b) (hc : b.e ≤ a.e) :
    Calls Try.prog 63 #[bgv a g c, bgv b h d] w (LevP a b w) := by
  obtain ⟨n, hn⟩ : ∃ n : Nat, a.e - b.e = (n : Int) := ⟨(a.e - b.e).toNat, by omega⟩
  have hnl : n ≤ 20000 := by have := na.lo; have := na.hi; have := nb.lo; have := nb.hi; omega
  have F := Lib.hid (fun out (hv : wv out = 2 ^ n * wv a.ws) (hl : out.length ≤ n / 32 + a.ws.length + 1) => Lev.ge (a := a) (b := b) (out := out) hc (by rw [hn]; exact hv) (by rw [hn]; exact hl))
  have hwr : IntKind.i64.wrap (a.e - b.e) = (n : Int) := by
    have := na.lo; have := na.hi; have := nb.lo; have := nb.hi
    rw [IntKind.wrap_i64]; omega
  have HS : Hid (∀ w' (k : Below w.heap.size w w'), Calls Try.prog 80 #[.slice (some ⟨g, 0, none⟩) a.ws.length c, .int .i64 (IntKind.i64.wrap (a.e - b.e))] w' (ShP n w' a.ws)) := by
    rw [hwr]
    exact fun w' k => shift_any (ha.below' k) c n (by have := na.l; omega) hnl
  have HG := Lib.hid ((fun w' (k : Below w.heap.size w w') => hb.below' k) : ∀ w', Below w.heap.size w w' → RL w' h b.ws)
  have bo := na.lo
  have bp := na.hi
  have bq := nb.lo
  have br := nb.hi
  have bl := nb.l
  clear ha hb hnl na nb hwr hn
  obtain ⟨an, aw, ae⟩ := a
  obtain ⟨bn, bw, be⟩ := b
  simp only at *
  go_enter Try.func63, Try.ntmps63
  go_wp2_with fail
  obtain ⟨W, hW, K0, K1, hB, hz⟩ := by2 w 35 35 #[Value.bool an, Value.slice (some ⟨g, 0, none⟩) aw.length c, Value.int IntKind.i64 ae] #[Value.bool bn, Value.slice (some ⟨h, 0, none⟩) bw.length d, Value.int IntKind.i64 be]
  rw [← hW]
  have K0 := Lib.hid K0
  have K1 := Lib.hid K1
  have HB := Lib.hid hB
  clear hW hB hz
  have HO := Lib.hid (show ∀ w', Below W.heap.size W w' → (Below W.heap.size W w' ∧ w'.cell? ⟨w.heap.size, 0, none⟩ = some (Value.bool an) ∧ w'.cell? ⟨w.heap.size, 1, none⟩ = some (Value.slice (some ⟨g, 0, none⟩) aw.length c) ∧ w'.cell? ⟨w.heap.size, 2, none⟩ = some (Value.int IntKind.i64 ae) ∧ w'.cell? ⟨w.heap.size + 1, 0, none⟩ = some (Value.bool bn) ∧ w'.cell? ⟨w.heap.size + 1, 1, none⟩ = some (Value.slice (some ⟨h, 0, none⟩) bw.length d) ∧ w'.cell? ⟨w.heap.size + 1, 2, none⟩ = some (Value.int IntKind.i64 be)) from fun w' h => ⟨h, (K0.out.below h K0.out.lt).cell 0, (K0.out.below h K0.out.lt).cell 1, (K0.out.below h K0.out.lt).cell 2, (K1.out.below h K1.out.lt).cell 0, (K1.out.below h K1.out.lt).cell 1, (K1.out.below h K1.out.lt).cell 2⟩)
  have D0 := Lib.hid (Below.refl W.heap.size W)
  go_wp2_with fail
  refine wp_region_held (S := (fun w' => Below W.heap.size W w' ∧ w'.cell? ⟨w.heap.size, 0, none⟩ = some (Value.bool an) ∧ w'.cell? ⟨w.heap.size, 1, none⟩ = some (Value.slice (some ⟨g, 0, none⟩) aw.length c) ∧ w'.cell? ⟨w.heap.size, 2, none⟩ = some (Value.int IntKind.i64 ae) ∧ w'.cell? ⟨w.heap.size + 1, 0, none⟩ = some (Value.bool bn) ∧ w'.cell? ⟨w.heap.size + 1, 1, none⟩ = some (Value.slice (some ⟨h, 0, none⟩) bw.length d) ∧ w'.cell? ⟨w.heap.size + 1, 2, none⟩ = some (Value.int IntKind.i64 be))) (by kernel_rfl) ?_
  (try change wpAnyH _ _ _ _ _ _ _ (World.drew _))
  have hS0 := HO.out _ (Below.drew D0.out)
  refine wpAnyH_takeM (i := 0) (v := ?v2_0) (l' := bm 15 1) (a' := ?a2_0) rfl (by kernel_rfl) (by kernel_rfl) (by kernel_rfl) (fun _ _ _ h => h) (Or.inl ⟨by kernel_rfl, ?h2_0⟩) (by kernel_rfl) ?p2_0 hS0 ?r2_0
  case h2_0 => (intro w hS; go_simp; try with_reducible rfl)
  case p2_0 => (go_simp; try with_reducible rfl)
  refine wpAnyH_takeM (i := 1) (v := ?v2_1) (l' := bm 15 3) (a' := ?a2_1) rfl (by kernel_rfl) (by kernel_rfl) (by kernel_rfl) (fun _ _ _ h => h) (Or.inl ⟨by kernel_rfl, ?h2_1⟩) (by kernel_rfl) ?p2_1 hS0 ?r2_1
  case h2_1 => (intro w hS; go_simp; try with_reducible rfl)
  case p2_1 => (go_simp; try with_reducible rfl)
  refine wpAnyH_takeM (i := 2) (v := ?v2_2) (l' := bm 15 7) (a' := ?a2_2) rfl (by kernel_rfl) (by kernel_rfl) (by kernel_rfl) (fun _ _ _ h => h) (Or.inl ⟨by kernel_rfl, ?h2_2⟩) (by kernel_rfl) ?p2_2 hS0 ?r2_2
  case h2_2 => (intro w hS; go_simp; try with_reducible rfl)
  case p2_2 => (go_simp; try with_reducible rfl)
  refine wpAnyH_takeM (i := 3) (v := ?v2_3) (l' := bm 15 15) (a' := ?a2_3) rfl (by kernel_rfl) (by kernel_rfl) (by kernel_rfl) (fun _ _ _ h => h) (Or.inl ⟨by kernel_rfl, ?h2_3⟩) (by kernel_rfl) ?p2_3 hS0 ?r2_3
  case h2_3 => (intro w hS; go_simp; try with_reducible rfl)
  case p2_3 => (go_simp; try with_reducible rfl)
  refine wpAnyH_takeM (i := 4) (v := ?v2_4) (l' := bm 15 31) (a' := ?a2_4) rfl (by kernel_rfl) (by kernel_rfl) (by kernel_rfl) (fun _ _ _ h => h) (Or.inl ⟨by kernel_rfl, ?h2_4⟩) (by kernel_rfl) ?p2_4 hS0 ?r2_4
  case h2_4 => (intro w hS; go_simp; try with_reducible rfl)
  case p2_4 => (go_simp; try with_reducible rfl)
  refine wpAnyH_takeM (i := 5) (v := ?v2_5) (l' := bm 15 63) (a' := ?a2_5) rfl (by kernel_rfl) (by kernel_rfl) (by kernel_rfl) (fun _ _ _ h => h) (Or.inl ⟨by kernel_rfl, ?h2_5⟩) (by kernel_rfl) ?p2_5 hS0 ?r2_5
  case h2_5 => (intro w hS; go_simp; try with_reducible rfl)
  case p2_5 => (go_simp; try with_reducible rfl)
  refine wpAnyH_takeM (i := 6) (v := ?v2_6) (l' := bm 15 127) (a' := ?a2_6) rfl (by kernel_rfl) (by kernel_rfl) (by kernel_rfl) (fun _ _ _ h => h) (Or.inl ⟨by kernel_rfl, ?h2_6⟩) (by kernel_rfl) ?p2_6 hS0 ?r2_6
  case h2_6 => (intro w hS; go_simp; try with_reducible rfl)
  case p2_6 => (go_simp; try with_reducible rfl)
  refine wpAnyH_takeM (i := 8) (v := ?v2_8) (l' := bm 15 383) (a' := ?a2_8) rfl (by kernel_rfl) (by kernel_rfl) (by kernel_rfl) (fun _ _ _ h => h) (Or.inl ⟨by kernel_rfl, ?h2_8⟩) (by kernel_rfl) ?p2_8 hS0 ?r2_8
  case h2_8 => (intro w hS; go_simp; try with_reducible rfl)
  case p2_8 => (go_simp; try with_reducible rfl)
  refine wpAnyH_takeM (i := 9) (v := ?v2_9) (l' := bm 15 895) (a' := ?a2_9) rfl (by kernel_rfl) (by kernel_rfl) (by kernel_rfl) (fun _ _ _ h => h) (Or.inl ⟨by kernel_rfl, ?h2_9⟩) (by kernel_rfl) ?p2_9 hS0 ?r2_9
  case h2_9 => (intro w hS; go_simp; try with_reducible rfl)
  case p2_9 => (go_simp; try with_reducible rfl)
  refine wpAnyH_takeM (i := 10) (v := ?v2_10) (l' := bm 15 1919) (a' := ?a2_10) rfl (by kernel_rfl) (by kernel_rfl) (by kernel_rfl) (fun _ _ _ h => h) (Or.inl ⟨by kernel_rfl, ?h2_10⟩) (by kernel_rfl) ?p2_10 hS0 ?r2_10
  case h2_10 => (intro w hS; go_simp; try with_reducible rfl)
  case p2_10 => (go_simp; try with_reducible rfl)
  refine wpAnyH_takeM (i := 11) (v := ?v2_11) (l' := bm 15 3967) (a' := ?a2_11) rfl (by kernel_rfl) (by kernel_rfl) (by kernel_rfl) (fun _ _ _ h => h) (Or.inl ⟨by kernel_rfl, ?h2_11⟩) (by kernel_rfl) ?p2_11 hS0 ?r2_11
  case h2_11 => (intro w hS; go_simp; try with_reducible rfl)
  case p2_11 => (go_simp; try with_reducible rfl)
  refine wpAnyH_oneM (i := 7) (l' := bm 15 4095) rfl (by kernel_rfl) (by kernel_rfl) (by kernel_rfl) (fun K hK => ?_)
  have hP := hS0.1
  go_simp
  go_at_call 80
  refine (HS.out _ (below_step HB.out hP)).mono ?_
  rintro r w1 ⟨g', c', out, rfl, hrl, hv, hln, hb⟩
  dsimp only
  have D1 := Lib.hid (below_step hP hb)
  clear hb
  have hS1 := HO.out _ (D1.out)
  clear hP hS0
  refine hK _ _ hS1 ?_
  clear hK K
  refine wpAnyH_takeM (i := 12) (v := ?v2_12) (l' := bm 15 8191) (a' := ?a2_12) rfl (by kernel_rfl) (by kernel_rfl) (by kernel_rfl) (fun _ _ _ h => h) (Or.inl ⟨by kernel_rfl, ?h2_12⟩) (by kernel_rfl) ?p2_12 hS1 ?r2_12
  case h2_12 => (intro w hS; go_simp; try with_reducible rfl)
  case p2_12 => (go_simp; try with_reducible rfl)
  refine wpAnyH_takeM (i := 13) (v := ?v2_13) (l' := bm 15 16383) (a' := ?a2_13) rfl (by kernel_rfl) (by kernel_rfl) (by kernel_rfl) (fun _ _ _ h => h) (Or.inl ⟨by kernel_rfl, ?h2_13⟩) (by kernel_rfl) ?p2_13 hS1 ?r2_13
  case h2_13 => (intro w hS; go_simp; try with_reducible rfl)
  case p2_13 => (go_simp; try with_reducible rfl)
  refine wpAnyH_takeM (i := 14) (v := ?v2_14) (l' := bm 15 32767) (a' := ?a2_14) rfl (by kernel_rfl) (by kernel_rfl) (by kernel_rfl) (fun _ _ _ h => h) (Or.inl ⟨by kernel_rfl, ?h2_14⟩) (by kernel_rfl) ?p2_14 hS1 ?r2_14
  case h2_14 => (intro w hS; go_simp; try with_reducible rfl)
  case p2_14 => (go_simp; try with_reducible rfl)
  refine wpAnyH_done (by kernel_rfl) ?_ _
  clear hS1
  have hq := (HO.out _ D1.out).2
  have HR := Lib.hid hrl
  have HF := Lib.hid (F.out out hv hln)
  clear hrl hv hln
  go_wp2_with fail
  go_ret3
  exact ⟨_, _, _, _, _, _, _, rfl, HR.out, HG.out _ (below_step HB.out D1.out), HF.out, below_step HB.out D1.out⟩
set_option maxRecDepth 100000 in
set_option maxHeartbeats 2000000 in
theorem level_lt {a b : Bg} {w : World} {g h : Nat} (ha : RL w g a.ws) (hb : RL w h b.ws) (c d : Nat) (na : Bnd a) (nb : Bnd b) (hc : a.e < b.e) :
    Calls Try.prog 63 #[bgv a g c, bgv b h d] w (LevP a b w) := by
  obtain ⟨n, hn⟩ : ∃ n : Nat, b.e - a.e = (n : Int) := ⟨(b.e - a.e).toNat, by omega⟩
  have hnl : n ≤ 20000 := by have := na.lo; have := na.hi; have := nb.lo; have := nb.hi; omega
  have F := Lib.hid (fun out (hv : wv out = 2 ^ n * wv b.ws) (hl : out.length ≤ n / 32 + b.ws.length + 1) => Lev.lt (a := a) (b := b) (out := out) (Int.le_of_lt hc) (by rw [hn]; exact hv) (by rw [hn]; exact hl))
  have hwr : IntKind.i64.wrap (b.e - a.e) = (n : Int) := by
    have := na.lo; have := na.hi; have := nb.lo; have := nb.hi
    rw [IntKind.wrap_i64]; omega
  have HS : Hid (∀ w' (k : Below w.heap.size w w'), Calls Try.prog 80 #[.slice (some ⟨h, 0, none⟩) b.ws.length d, .int .i64 (IntKind.i64.wrap (b.e - a.e))] w' (ShP n w' b.ws)) := by
    rw [hwr]
    exact fun w' k => shift_any (hb.below' k) d n (by have := nb.l; omega) hnl
  have HG := Lib.hid ((fun w' (k : Below w.heap.size w w') => ha.below' k) : ∀ w', Below w.heap.size w w' → RL w' g a.ws)
  have bo := na.lo
  have bp := na.hi
  have bq := nb.lo
  have br := nb.hi
  have bl := na.l
  clear ha hb hnl na nb hwr hn
  obtain ⟨an, aw, ae⟩ := a
  obtain ⟨bn, bw, be⟩ := b
  simp only at *
  go_enter Try.func63, Try.ntmps63
  go_wp2_with fail
  obtain ⟨W, hW, K0, K1, hB, hz⟩ := by2 w 35 35 #[Value.bool an, Value.slice (some ⟨g, 0, none⟩) aw.length c, Value.int IntKind.i64 ae] #[Value.bool bn, Value.slice (some ⟨h, 0, none⟩) bw.length d, Value.int IntKind.i64 be]
  rw [← hW]
  have K0 := Lib.hid K0
  have K1 := Lib.hid K1
  have HB := Lib.hid hB
  clear hW hB hz
  have HO := Lib.hid (show ∀ w', Below W.heap.size W w' → (Below W.heap.size W w' ∧ w'.cell? ⟨w.heap.size, 0, none⟩ = some (Value.bool an) ∧ w'.cell? ⟨w.heap.size, 1, none⟩ = some (Value.slice (some ⟨g, 0, none⟩) aw.length c) ∧ w'.cell? ⟨w.heap.size, 2, none⟩ = some (Value.int IntKind.i64 ae) ∧ w'.cell? ⟨w.heap.size + 1, 0, none⟩ = some (Value.bool bn) ∧ w'.cell? ⟨w.heap.size + 1, 1, none⟩ = some (Value.slice (some ⟨h, 0, none⟩) bw.length d) ∧ w'.cell? ⟨w.heap.size + 1, 2, none⟩ = some (Value.int IntKind.i64 be)) from fun w' h => ⟨h, (K0.out.below h K0.out.lt).cell 0, (K0.out.below h K0.out.lt).cell 1, (K0.out.below h K0.out.lt).cell 2, (K1.out.below h K1.out.lt).cell 0, (K1.out.below h K1.out.lt).cell 1, (K1.out.below h K1.out.lt).cell 2⟩)
  have D0 := Lib.hid (Below.refl W.heap.size W)
  go_wp2_with fail
  refine wp_region_held (S := (fun w' => Below W.heap.size W w' ∧ w'.cell? ⟨w.heap.size, 0, none⟩ = some (Value.bool an) ∧ w'.cell? ⟨w.heap.size, 1, none⟩ = some (Value.slice (some ⟨g, 0, none⟩) aw.length c) ∧ w'.cell? ⟨w.heap.size, 2, none⟩ = some (Value.int IntKind.i64 ae) ∧ w'.cell? ⟨w.heap.size + 1, 0, none⟩ = some (Value.bool bn) ∧ w'.cell? ⟨w.heap.size + 1, 1, none⟩ = some (Value.slice (some ⟨h, 0, none⟩) bw.length d) ∧ w'.cell? ⟨w.heap.size + 1, 2, none⟩ = some (Value.int IntKind.i64 be))) (by kernel_rfl) ?_
  (try change wpAnyH _ _ _ _ _ _ _ (World.drew _))
  have hS0 := HO.out _ (Below.drew D0.out)
  refine wpAnyH_takeM (i := 0) (v := ?v3_0) (l' := bm 15 1) (a' := ?a3_0) rfl (by kernel_rfl) (by kernel_rfl) (by kernel_rfl) (fun _ _ _ h => h) (Or.inl ⟨by kernel_rfl, ?h3_0⟩) (by kernel_rfl) ?p3_0 hS0 ?r3_0
  case h3_0 => (intro w hS; go_simp; try with_reducible rfl)
  case p3_0 => (go_simp; try with_reducible rfl)
  refine wpAnyH_takeM (i := 1) (v := ?v3_1) (l' := bm 15 3) (a' := ?a3_1) rfl (by kernel_rfl) (by kernel_rfl) (by kernel_rfl) (fun _ _ _ h => h) (Or.inl ⟨by kernel_rfl, ?h3_1⟩) (by kernel_rfl) ?p3_1 hS0 ?r3_1
  case h3_1 => (intro w hS; go_simp; try with_reducible rfl)
  case p3_1 => (go_simp; try with_reducible rfl)
  refine wpAnyH_takeM (i := 2) (v := ?v3_2) (l' := bm 15 7) (a' := ?a3_2) rfl (by kernel_rfl) (by kernel_rfl) (by kernel_rfl) (fun _ _ _ h => h) (Or.inl ⟨by kernel_rfl, ?h3_2⟩) (by kernel_rfl) ?p3_2 hS0 ?r3_2
  case h3_2 => (intro w hS; go_simp; try with_reducible rfl)
  case p3_2 => (go_simp; try with_reducible rfl)
  refine wpAnyH_takeM (i := 3) (v := ?v3_3) (l' := bm 15 15) (a' := ?a3_3) rfl (by kernel_rfl) (by kernel_rfl) (by kernel_rfl) (fun _ _ _ h => h) (Or.inl ⟨by kernel_rfl, ?h3_3⟩) (by kernel_rfl) ?p3_3 hS0 ?r3_3
  case h3_3 => (intro w hS; go_simp; try with_reducible rfl)
  case p3_3 => (go_simp; try with_reducible rfl)
  refine wpAnyH_takeM (i := 4) (v := ?v3_4) (l' := bm 15 31) (a' := ?a3_4) rfl (by kernel_rfl) (by kernel_rfl) (by kernel_rfl) (fun _ _ _ h => h) (Or.inl ⟨by kernel_rfl, ?h3_4⟩) (by kernel_rfl) ?p3_4 hS0 ?r3_4
  case h3_4 => (intro w hS; go_simp; try with_reducible rfl)
  case p3_4 => (go_simp; try with_reducible rfl)
  refine wpAnyH_takeM (i := 5) (v := ?v3_5) (l' := bm 15 63) (a' := ?a3_5) rfl (by kernel_rfl) (by kernel_rfl) (by kernel_rfl) (fun _ _ _ h => h) (Or.inl ⟨by kernel_rfl, ?h3_5⟩) (by kernel_rfl) ?p3_5 hS0 ?r3_5
  case h3_5 => (intro w hS; go_simp; try with_reducible rfl)
  case p3_5 => (go_simp; try with_reducible rfl)
  refine wpAnyH_takeM (i := 6) (v := ?v3_6) (l' := bm 15 127) (a' := ?a3_6) rfl (by kernel_rfl) (by kernel_rfl) (by kernel_rfl) (fun _ _ _ h => h) (Or.inl ⟨by kernel_rfl, ?h3_6⟩) (by kernel_rfl) ?p3_6 hS0 ?r3_6
  case h3_6 => (intro w hS; go_simp; try with_reducible rfl)
  case p3_6 => (go_simp; try with_reducible rfl)
  refine wpAnyH_takeM (i := 7) (v := ?v3_7) (l' := bm 15 255) (a' := ?a3_7) rfl (by kernel_rfl) (by kernel_rfl) (by kernel_rfl) (fun _ _ _ h => h) (Or.inl ⟨by kernel_rfl, ?h3_7⟩) (by kernel_rfl) ?p3_7 hS0 ?r3_7
  case h3_7 => (intro w hS; go_simp; try with_reducible rfl)
  case p3_7 => (go_simp; try with_reducible rfl)
  refine wpAnyH_takeM (i := 8) (v := ?v3_8) (l' := bm 15 511) (a' := ?a3_8) rfl (by kernel_rfl) (by kernel_rfl) (by kernel_rfl) (fun _ _ _ h => h) (Or.inl ⟨by kernel_rfl, ?h3_8⟩) (by kernel_rfl) ?p3_8 hS0 ?r3_8
  case h3_8 => (intro w hS; go_simp; try with_reducible rfl)
  case p3_8 => (go_simp; try with_reducible rfl)
  refine wpAnyH_takeM (i := 10) (v := ?v3_10) (l' := bm 15 1535) (a' := ?a3_10) rfl (by kernel_rfl) (by kernel_rfl) (by kernel_rfl) (fun _ _ _ h => h) (Or.inl ⟨by kernel_rfl, ?h3_10⟩) (by kernel_rfl) ?p3_10 hS0 ?r3_10
  case h3_10 => (intro w hS; go_simp; try with_reducible rfl)
  case p3_10 => (go_simp; try with_reducible rfl)
  refine wpAnyH_takeM (i := 11) (v := ?v3_11) (l' := bm 15 3583) (a' := ?a3_11) rfl (by kernel_rfl) (by kernel_rfl) (by kernel_rfl) (fun _ _ _ h => h) (Or.inl ⟨by kernel_rfl, ?h3_11⟩) (by kernel_rfl) ?p3_11 hS0 ?r3_11
  case h3_11 => (intro w hS; go_simp; try with_reducible rfl)
  case p3_11 => (go_simp; try with_reducible rfl)
  refine wpAnyH_oneM (i := 9) (l' := bm 15 4095) rfl (by kernel_rfl) (by kernel_rfl) (by kernel_rfl) (fun K hK => ?_)
  have hP := hS0.1
  go_simp
  go_at_call 80
  refine (HS.out _ (below_step HB.out hP)).mono ?_
  rintro r w1 ⟨g', c', out, rfl, hrl, hv, hln, hb⟩
  dsimp only
  have D1 := Lib.hid (below_step hP hb)
  clear hb
  have hS1 := HO.out _ (D1.out)
  clear hP hS0
  refine hK _ _ hS1 ?_
  clear hK K
  refine wpAnyH_takeM (i := 12) (v := ?v3_12) (l' := bm 15 8191) (a' := ?a3_12) rfl (by kernel_rfl) (by kernel_rfl) (by kernel_rfl) (fun _ _ _ h => h) (Or.inl ⟨by kernel_rfl, ?h3_12⟩) (by kernel_rfl) ?p3_12 hS1 ?r3_12
  case h3_12 => (intro w hS; go_simp; try with_reducible rfl)
  case p3_12 => (go_simp; try with_reducible rfl)
  refine wpAnyH_takeM (i := 13) (v := ?v3_13) (l' := bm 15 16383) (a' := ?a3_13) rfl (by kernel_rfl) (by kernel_rfl) (by kernel_rfl) (fun _ _ _ h => h) (Or.inl ⟨by kernel_rfl, ?h3_13⟩) (by kernel_rfl) ?p3_13 hS1 ?r3_13
  case h3_13 => (intro w hS; go_simp; try with_reducible rfl)
  case p3_13 => (go_simp; try with_reducible rfl)
  refine wpAnyH_takeM (i := 14) (v := ?v3_14) (l' := bm 15 32767) (a' := ?a3_14) rfl (by kernel_rfl) (by kernel_rfl) (by kernel_rfl) (fun _ _ _ h => h) (Or.inl ⟨by kernel_rfl, ?h3_14⟩) (by kernel_rfl) ?p3_14 hS1 ?r3_14
  case h3_14 => (intro w hS; go_simp; try with_reducible rfl)
  case p3_14 => (go_simp; try with_reducible rfl)
  refine wpAnyH_done (by kernel_rfl) ?_ _
  clear hS1
  have hq := (HO.out _ D1.out).2
  have HR := Lib.hid hrl
  have HF := Lib.hid (F.out out hv hln)
  clear hrl hv hln
  go_wp2_with fail
  go_ret3
  exact ⟨_, _, _, _, _, _, _, rfl, HG.out _ (below_step HB.out D1.out), HR.out, HF.out, below_step HB.out D1.out⟩
theorem level_any {a b : Bg} {w : World} {g h : Nat} (ha : RL w g a.ws) (hb : RL w h b.ws) (c d : Nat) (na : Bnd a) (nb : Bnd b) :
    Calls Try.prog 63 #[bgv a g c, bgv b h d] w (LevP a b w) := by
  by_cases hc : b.e ≤ a.e
  · exact level_ge ha hb c d na nb hc
  · exact level_lt ha hb c d na nb (by omega)
end Go.Proofs.Ythkfaacgabkhhaa

namespace Go.Proofs.Ythkfaacgabkhhaa
open Go.RowKit

/-- The loop of a sum: what is gathered, and the carry. -/
structure AdI (W1 wr : World) (B : Nat) (x y : List Nat) (k c : Nat) (v : Value) (out : List Nat) : Prop where
  own : Own wr B v out
  len : out.length = k
  b : Below B W1 wr
  sz : B ≤ wr.heap.size
  hc : c < 2
  hv : wv out + 4294967296 ^ k * c = wv (x.take k) + wv (y.take k)
def AdRel (W1 : World) (B : Nat) (x y : List Nat) (v c i : Value) (wr : World) : Prop := ∃ (k c' : Nat) (out : List Nat), (k ≤ x.length ∨ k ≤ y.length) ∧ i = .int .i64 (k : Nat) ∧ c = .int .u64 (c' : Nat) ∧ AdI W1 wr B x y k c' v out
theorem Own.start (w : World) (t : TypeId) {B : Nat} (hB : B = w.heap.size) : Own (w.alloc (.cells #[] 71)) B (.slice (some ⟨B, 0, none⟩) 0 0) [] := by
  subst hB
  exact ⟨World.ownsRow_made w #[] 0 (Nat.le_refl _) (by decide) rfl, by simp, wok_nil⟩
theorem AdI.start (w : World) {B : Nat} (x y : List Nat) (hB : B = w.heap.size) : AdI w (w.alloc (.cells #[] 71)) B x y 0 0 (.slice (some ⟨B, 0, none⟩) 0 0) [] :=
  ⟨Own.start w 71 hB, rfl, by subst hB; exact below_new w _, by subst hB; simp, by decide, by simp [wv]⟩
theorem AdI.drew {W1 wr : World} {B : Nat} {x y out : List Nat} {k c : Nat} {v : Value} (h : AdI W1 wr B x y k c v out) : AdI W1 wr.drew B x y k c v out :=
  ⟨⟨h.own.own.drew, h.own.nn, h.own.ok⟩, h.len, h.b.drew, h.sz, h.hc, h.hv⟩
theorem AdI.step {W1 wr w' : World} {B : Nat} {x y out : List Nat} {k c s : Nat} {v v' : Value} {o : Obj} (hx : wok x) (hy : wok y) (h : AdI W1 wr B x y k c v out) (hs : s = c + x.getD k 0 + y.getD k 0)
    (hown : w'.ownsRow B 71 1 v' (out.length + 1) (wc out ++ [Value.int .u32 ((s : Int) % 4294967296)])) (hg : (wr.alloc o).grownBy w' v.ownBlock) (hnil : v' ≠ .slice none 0 0) :
    AdI W1 w' B x y (k + 1) (s / 4294967296) v' (out ++ [s % 4294967296]) := by
  have e : ((s : Int) % 4294967296) = ((s % 4294967296 : Nat) : Int) := by omega
  rw [e] at hown
  refine ⟨h.own.grown (Nat.mod_lt _ (by decide)) (o := o) hown hnil, by rw [List.length_append, h.len]; rfl, below_grown h.own h.b (Nat.le_refl _) h.sz hg, ?_, ?_, ?_⟩
  · have := hg.size
    have h2 := h.sz
    simp at this
    omega
  · have h1 := wok_getD hx k
    have h2 := wok_getD hy k
    have h3 := h.hc
    omega
  · rw [hs]; exact add_round h.len h.hv
theorem AdI.fin {W1 wr w' : World} {B : Nat} {x y out : List Nat} {k c : Nat} {v v' : Value} {o : Obj} (h : AdI W1 wr B x y k c v out) (hx : x.length ≤ k) (hy : y.length ≤ k)
    (hown : w'.ownsRow B 71 1 v' (out.length + 1) (wc out ++ [Value.int .u32 (c : Nat)])) (hg : (wr.alloc o).grownBy w' v.ownBlock) (hnil : v' ≠ .slice none 0 0) :
    Own w' B v' (out ++ [c]) ∧ Below B W1 w' ∧ wv (out ++ [c]) = wv x + wv y := by
  refine ⟨h.own.grown (by have := h.hc; omega) (o := o) hown hnil, below_grown h.own h.b (Nat.le_refl _) h.sz hg, ?_⟩
  rw [wv_snoc, h.len, h.hv, wv_take_all x hx, wv_take_all y hy]
theorem Blk.frz {w : World} {g : Nat} {t : TypeId} {cs : Array Value} (h : Blk w g t cs) (i : Nat) : w.frozen? ⟨g, i, none⟩ = false := by
  unfold Blk at h
  simp [World.frozen?, h]
theorem Blk.off {w : World} {g : Nat} {t : TypeId} {cs : Array Value} (h : Blk w g t cs) (a : Addr) (u : Value) (hne : g ≠ a.block) : Blk (w.setCell a u) g t cs := (Below.heap_setCell w a u g hne).trans h
theorem RL.off {w : World} {g : Nat} {ws : List Nat} (h : RL w g ws) (a : Addr) (u : Value) (hne : g ≠ a.block) : RL (w.setCell a u) g ws :=
  ⟨by simpa using h.lt, h.ok, fun i hi => (World.cell?_of_block (a := ⟨g, i, none⟩) (Below.heap_setCell w a u g hne)).trans (h.cell i hi)⟩
/-- What Add hands back. -/
def AddP (a b : Bg) (w : World) (r : Ending) (w' : World) : Prop := ∃ s : Bg, s.z = a.z + b.z ∧ (s.e = a.e ∨ s.e = b.e) ∧ s.e ≤ a.e ∧ s.e ≤ b.e ∧ s.ws.length ≤ (a.e - s.e).toNat / 32 + (b.e - s.e).toNat / 32 + a.ws.length + b.ws.length + 2 ∧ RB w s r w'
theorem Lev.zx {a b : Bg} {x y : List Nat} {e : Int} (h : Lev a b x y e) (he : -5000 ≤ e) : Bg.z ⟨a.neg, x, e⟩ = a.z := by
  have := Bg.m_shift h.e1 he h.vx
  show sg a.neg * ((wv x * 2 ^ (e + 5000).toNat : Nat) : Int) = sg a.neg * ((wv a.ws * 2 ^ (a.e + 5000).toNat : Nat) : Int)
  rw [this]
theorem Lev.zy {a b : Bg} {x y : List Nat} {e : Int} (h : Lev a b x y e) (he : -5000 ≤ e) : Bg.z ⟨b.neg, y, e⟩ = b.z := by
  have := Bg.m_shift h.e2 he h.vy
  show sg b.neg * ((wv y * 2 ^ (e + 5000).toNat : Nat) : Int) = sg b.neg * ((wv b.ws * 2 ^ (b.e + 5000).toNat : Nat) : Int)
  rw [this]
theorem add_shut {a b : Bg} {w w3 : World} {g1 : Nat} {x y out : List Nat} {e : Int} {v' v2 u0 u2 : Value} (h : Lev a b x y e) (h2 : v2 = v') (hn : a.neg = b.neg) (hO : Own w3 g1 v' out) (hv : wv out = wv x + wv y) (hl : out.length ≤ x.length + 1 ∨ out.length ≤ y.length + 1)
    (he : -5000 ≤ e) (hb : Below w.heap.size w w3) (hg : w.heap.size + 1 + 1 < g1) :
    AddP a b w (.returned (.agg #[.bool a.neg, v2, .int .i64 e])) (((w3.setCell ⟨w.heap.size + 1 + 1, 0, none⟩ u0).setCell ⟨w.heap.size + 1 + 1, 1, none⟩ v2).setCell ⟨w.heap.size + 1 + 1, 2, none⟩ u2) := by
  obtain ⟨g, c, rfl, hr, hge⟩ := hO.rl
  subst h2
  refine ⟨⟨a.neg, out, e⟩, ?_, h.e3, h.e1, h.e2, ?_, g, c, rfl, ?_, by omega, ?_⟩
  · rw [Bg.z_add hv, h.zx he, hn, h.zy he]
  · have := h.lx; have := h.ly
    show out.length ≤ (a.e - e).toNat / 32 + (b.e - e).toNat / 32 + a.ws.length + b.ws.length + 2
    omega
  · exact ((hr.off _ _ (by show g ≠ w.heap.size + 1 + 1; omega)).off _ _ (by show g ≠ w.heap.size + 1 + 1; omega)).off _ _ (by show g ≠ w.heap.size + 1 + 1; omega)
  · exact ((hb.setCell (by show w.heap.size ≤ w.heap.size + 1 + 1; omega) _).setCell (by show w.heap.size ≤ w.heap.size + 1 + 1; omega) _).setCell (by show w.heap.size ≤ w.heap.size + 1 + 1; omega) _
set_option maxRecDepth 100000 in
set_option maxHeartbeats 4000000 in
theorem addB_plus {a b : Bg} {w : World} {g h : Nat} (ha : RL w g a.ws) (hb : RL w h b.ws) (c d : Nat) (na : Bnd a) (nb : Bnd b) (hn : a.neg = b.neg) :
    Calls Try.prog 30 #[bgv a g c, bgv b h d] w (AddP a b w) := by
  obtain ⟨i0, hi0, hz0, hz1, hz2⟩ := info_parts infoU32
  have HL := Lib.hid (fun w' (k : Below w.heap.size w w') => level_any (ha.below' k) (hb.below' k) c d na nb)
  obtain ⟨an, aw, ae⟩ := a
  obtain ⟨bn, bw, be⟩ := b
  obtain rfl : an = bn := hn
  have bo := na.lo
  have bp := na.hi
  have bq := nb.lo
  have br := nb.hi
  have bl := na.l
  have bn_ := nb.l
  simp only at bo bp bq br bl bn_
  clear ha hb na nb
  go_enter Try.func30, Try.ntmps30
  go_wp2_with fail
  obtain ⟨W, hW, K0, K1, K2, hB, hz⟩ := by3 w 35 35 35 #[Value.bool an, Value.slice (some ⟨g, 0, none⟩) aw.length c, Value.int IntKind.i64 ae] #[Value.bool an, Value.slice (some ⟨h, 0, none⟩) bw.length d, Value.int IntKind.i64 be] #[Value.bool false, Value.slice none 0 0, Value.int IntKind.i64 0]
  rw [← hW]
  have K0 := Lib.hid K0
  have K1 := Lib.hid K1
  have K2 := Lib.hid K2
  have HB := Lib.hid hB
  clear hW hB hz
  have HO := Lib.hid (show ∀ w', Below W.heap.size W w' → (Below W.heap.size W w' ∧ w'.cell? ⟨w.heap.size, 0, none⟩ = some (Value.bool an) ∧ w'.cell? ⟨w.heap.size, 1, none⟩ = some (Value.slice (some ⟨g, 0, none⟩) aw.length c) ∧ w'.cell? ⟨w.heap.size, 2, none⟩ = some (Value.int IntKind.i64 ae) ∧ w'.cell? ⟨w.heap.size + 1, 0, none⟩ = some (Value.bool an) ∧ w'.cell? ⟨w.heap.size + 1, 1, none⟩ = some (Value.slice (some ⟨h, 0, none⟩) bw.length d) ∧ w'.cell? ⟨w.heap.size + 1, 2, none⟩ = some (Value.int IntKind.i64 be) ∧ w'.cell? ⟨w.heap.size + 1 + 1, 0, none⟩ = some (Value.bool false) ∧ w'.cell? ⟨w.heap.size + 1 + 1, 1, none⟩ = some (Value.slice none 0 0) ∧ w'.cell? ⟨w.heap.size + 1 + 1, 2, none⟩ = some (Value.int IntKind.i64 0)) from fun w' h => ⟨h, (K0.out.below h K0.out.lt).cell 0, (K0.out.below h K0.out.lt).cell 1, (K0.out.below h K0.out.lt).cell 2, (K1.out.below h K1.out.lt).cell 0, (K1.out.below h K1.out.lt).cell 1, (K1.out.below h K1.out.lt).cell 2, (K2.out.below h K2.out.lt).cell 0, (K2.out.below h K2.out.lt).cell 1, (K2.out.below h K2.out.lt).cell 2⟩)
  have D0 := Lib.hid (Below.refl W.heap.size W)
  refine (HL.out _ HB.out).mono ?_
  rintro r w1 ⟨gx, cx, x, gy, cy, y, e, rfl, hx, hy, hlv, hb⟩
  have D1 := Lib.hid (below_step D0.out hb)
  clear hb
  obtain ⟨g1, hg1⟩ : ∃ g, w1.heap.size = g := ⟨_, rfl⟩
  have HX := Lib.hid (fun w' (b : Below g1 w1 w') => (hx.below b (by rw [← hg1]; exact hx.lt) : RL w' gx x))
  have HY := Lib.hid (fun w' (b : Below g1 w1 w') => (hy.below b (by rw [← hg1]; exact hy.lt) : RL w' gy y))
  have hgg : W.heap.size ≤ g1 := by rw [← hg1]; exact D1.out.size
  have hR : w.heap.size + 1 + 1 < W.heap.size := K2.out.lt
  have HA := Lib.hid (fun w' (b : Below g1 w1 w') => Blk.below (Blk.below K0.out D1.out K0.out.lt) b (by have := K0.out.lt; omega))
  have HE := Lib.hid (fun w' (b : Below g1 w1 w') => (HA.out w' b).cell 0)
  have HK := Lib.hid (fun w' (b : Below g1 w1 w') => Blk.below (Blk.below K2.out D1.out K2.out.lt) b (by have := K2.out.lt; omega))
  have HEE := Lib.hid (show -5000 ≤ e by have := hlv.e3; simp only at this; omega)
  have HX0 := Lib.hid hx.ok
  have HY0 := Lib.hid hy.ok
  have HV := Lib.hid hlv
  have l1 : x.length ≤ 720 := by have := hlv.lx; have := hlv.e3; have := hlv.e1; have := hlv.e2; simp only at *; omega
  have l2 : y.length ≤ 720 := by have := hlv.ly; have := hlv.e3; have := hlv.e1; have := hlv.e2; simp only at *; omega
  clear hx hy hlv
  have hq := (HO.out _ D1.out).2
  have HST := Lib.hid (AdI.start w1 x y hg1.symm)
  go_wp2_with fail
  clear hg1
  go_loopw [8, 9, 10] (fun v c i wr => AdRel w1 g1 x y v c i wr) (fun _ _ i _ => x.length + y.length - (intOf i).toNat)
  case atStart => exact ⟨0, 0, _, Or.inl (Nat.zero_le _), rfl, rfl, HST.out⟩
  case round =>
    clear HST
    obtain ⟨k, c', out, hk, rfl, rfl, hi⟩ := hrel
    have HX := HX
    have HY := HY
    have HXk := Lib.hid (at_any (HX.out _ hi.b) cx k (by omega))
    have HYk := Lib.hid (at_any (HY.out _ hi.b) cy k (by omega))
    have p32 := wok_getD HX0.out k
    have q32 := wok_getD HY0.out k
    have hln := hi.len
    have hsz := hi.sz
    have hcc := hi.hc
    have HSX := Lib.hid (fun s (hs : s = c' + x.getD k 0 + y.getD k 0) v' w' o => AdI.step (s := s) (v' := v') (w' := w') (o := o) HX0.out HY0.out hi hs)
    have HI := Lib.hid hi
    clear hi
    obtain ⟨s, hs⟩ : ∃ s, s = c' + x.getD k 0 + y.getD k 0 := ⟨_, rfl⟩
    have HS := Lib.hid (HSX.out s hs)
    clear HSX
    obtain ⟨p, hp⟩ : ∃ p, p = x.getD k 0 := ⟨_, rfl⟩
    obtain ⟨q, hq'⟩ : ∃ q, q = y.getD k 0 := ⟨_, rfl⟩
    rw [← hp] at hs p32 HXk
    rw [← hq'] at hs q32 HYk
    clear hp hq'
    have F : (c' : Int) + (p : Int) + (q : Int) = (s : Int) := by omega
    have hs64 : s < 18446744073709551616 := by omega
    clear hs
    by_cases h1 : k < x.length
    · go_wp2_with fail
      refine HXk.out.mono ?_
      rintro e1 w2 ⟨rfl, rfl⟩
      go_wp2_with fail
      refine HYk.out.mono ?_
      rintro e1 w2 ⟨rfl, rfl⟩
      go_wp2_with (at_builtin; refine wpList_append_own _ rfl (.tmp 50) (.tmp 53) 33 rfl g1 71 i0 (.int .u32 0) 1 4 Try.underlying33 hi0 hz0 hz1 hz2 rfl (by decide) _ _ _ rfl (HI.out.own.own.alloc _) ⟨wr.heap.size, 0, none⟩ 1 1 [.int .u32 ((s : Int) % 4294967296)] rfl rfl ?c1 ?c2 ?c3 ?c4 ?c5 ?_)
      case c1 => exact cell_one_new _ _ _
      case c2 => intro u hu; simp at hu; subst hu; rfl
      case c3 => unfold maxLen; omega
      case c4 => omega
      case c5 => simp; omega
      intro v' w3 hown hg hnil
      have HD := Lib.hid (HS.out _ _ _ (by rw [hln]; exact hown) hg hnil)
      clear hown hg hnil
      go_wp2
      go_roundw
      case rel => exact ⟨k + 1, _, _, by omega, by go_num, by go_num, HD.out⟩
      case measure => simp [intOf]; omega
    · by_cases h2 : k < y.length
      · go_wp2_with fail
        refine HXk.out.mono ?_
        rintro e1 w2 ⟨rfl, rfl⟩
        go_wp2_with fail
        refine HYk.out.mono ?_
        rintro e1 w2 ⟨rfl, rfl⟩
        go_wp2_with (at_builtin; refine wpList_append_own _ rfl (.tmp 50) (.tmp 53) 33 rfl g1 71 i0 (.int .u32 0) 1 4 Try.underlying33 hi0 hz0 hz1 hz2 rfl (by decide) _ _ _ rfl (HI.out.own.own.alloc _) ⟨wr.heap.size, 0, none⟩ 1 1 [.int .u32 ((s : Int) % 4294967296)] rfl rfl ?c1 ?c2 ?c3 ?c4 ?c5 ?_)
        case c1 => exact cell_one_new _ _ _
        case c2 => intro u hu; simp at hu; subst hu; rfl
        case c3 => unfold maxLen; omega
        case c4 => omega
        case c5 => simp; omega
        intro v' w3 hown hg hnil
        have HD := Lib.hid (HS.out _ _ _ (by rw [hln]; exact hown) hg hnil)
        clear hown hg hnil
        go_wp2
        go_roundw
        case rel => exact ⟨k + 1, _, _, by omega, by go_num, by go_num, HD.out⟩
        case measure => simp [intOf]; omega
      · go_wp2_with fail
        refine wp_region_held (S := fun w' => w'.cell? ⟨w.heap.size, 0, none⟩ = some (Value.bool an)) (by kernel_rfl) ?_
        change wpAnyH _ _ _ _ _ _ _ _ (World.drew _)
        obtain ⟨wd, hwd⟩ : ∃ x, x = World.drew wr := ⟨_, rfl⟩
        rw [← hwd]
        have HID := Lib.hid (hwd ▸ HI.out.drew : AdI w1 wd g1 x y k c' u8 out)
        clear hwd
        have hS0 := HE.out _ HID.out.b
        refine wpAnyH_takeM (i := 0) (v := ?vt0) (l' := bm 10 1) (a' := ?at0) rfl (by kernel_rfl) (by kernel_rfl) (by kernel_rfl) (fun _ _ _ h => h) (Or.inl ⟨by kernel_rfl, ?ht0⟩) (by kernel_rfl) ?pt0 hS0 ?rt0
        case ht0 => (intro w hS; go_simp; try with_reducible rfl)
        case pt0 => (go_simp; try with_reducible rfl)
        refine wpAnyH_takeM (i := 1) (v := ?vt1) (l' := bm 10 3) (a' := ?at1) rfl (by kernel_rfl) (by kernel_rfl) (by kernel_rfl) (fun _ _ _ h => h) (Or.inl ⟨by kernel_rfl, ?ht1⟩) (by kernel_rfl) ?pt1 hS0 ?rt1
        case ht1 => (intro w hS; go_simp; try with_reducible rfl)
        case pt1 => (go_simp; try with_reducible rfl)
        refine wpAnyH_takeM (i := 2) (v := ?vt2) (l' := bm 10 7) (a' := ?at2) rfl (by kernel_rfl) (by kernel_rfl) (by kernel_rfl) (fun _ _ _ h => h) (Or.inl ⟨by kernel_rfl, ?ht2⟩) (by kernel_rfl) ?pt2 hS0 ?rt2
        case ht2 => (intro w hS; go_simp; try with_reducible rfl)
        case pt2 => (go_simp; try with_reducible rfl)
        refine wpAnyH_takeM (i := 3) (v := ?vt3) (l' := bm 10 15) (a' := ?at3) rfl (by kernel_rfl) (by kernel_rfl) (by kernel_rfl) (fun _ _ _ h => h) (Or.inl ⟨by kernel_rfl, ?ht3⟩) (by kernel_rfl) ?pt3 hS0 ?rt3
        case ht3 => (intro w hS; go_simp; try with_reducible rfl)
        case pt3 => (go_simp; try with_reducible rfl)
        refine wpAnyH_takeM (i := 4) (v := ?vt4) (l' := bm 10 31) (a' := ?at4) rfl (by kernel_rfl) (by kernel_rfl) (by kernel_rfl) (fun _ _ _ h => h) (Or.inl ⟨by kernel_rfl, ?ht4⟩) (by kernel_rfl) ?pt4 hS0 ?rt4
        case ht4 => (intro w hS; go_simp; try with_reducible rfl)
        case pt4 => (go_simp; try with_reducible rfl)
        refine wpAnyH_takeM (i := 7) (v := ?vt7) (l' := bm 10 159) (a' := ?at7) rfl (by kernel_rfl) (by kernel_rfl) (by kernel_rfl) (fun _ _ _ h => h) (Or.inl ⟨by kernel_rfl, ?ht7⟩) (by kernel_rfl) ?pt7 hS0 ?rt7
        case ht7 => (intro w hS; go_simp; try with_reducible rfl)
        case pt7 => (go_simp; try with_reducible rfl)
        refine wpAnyH_oneM (i := 5) (l' := bm 10 191) rfl (by kernel_rfl) (by kernel_rfl) (by kernel_rfl) (fun K hK => ?_)
        go_simp
        have hS1 := fun o => HE.out _ (HID.out.b.alloc HID.out.sz o)
        refine hK _ _ (hS1 _) ?_
        clear hK K
        refine wpAnyH_oneM (i := 6) (l' := bm 10 255) rfl (by kernel_rfl) (by kernel_rfl) (by kernel_rfl) (fun K hK => ?_)
        refine wp_append_own _ (.tmp 59) (.tmp 62) 33 rfl g1 71 i0 (.int .u32 0) 1 4 Try.underlying33 hi0 hz0 hz1 hz2 rfl (by decide) _ _ _ rfl (HID.out.own.own.alloc _) ⟨wd.heap.size, 0, none⟩ 1 1 [.int .u32 (IntKind.u32.wrap (c' : Int))] rfl rfl (cell_one_new _ _ _) (by intro u hu; simp at hu; subst hu; rfl) (by unfold maxLen; omega) (by omega) (by have := HID.out.sz; simp; omega) ?_
        intro v' w3 hown hg hnil
        have hcw : IntKind.u32.wrap (c' : Int) = (c' : Int) := by rw [IntKind.wrap_u32]; omega
        rw [hcw] at hown
        have HF := Lib.hid (HID.out.fin (by omega) (by omega) hown hg (fun e => absurd (hnil.1 e).2 (by decide)))
        clear hown hg hnil hcw
        obtain ⟨g5, c5, rfl, -, -⟩ := HF.out.1.rl
        have hS2 := HE.out _ HF.out.2.1
        refine hK _ _ hS2 ?_
        clear hK K hS1 hS0
        refine wpAnyH_takeM (i := 8) (v := ?vt8) (l' := bm 10 511) (a' := ?at8) rfl (by kernel_rfl) (by kernel_rfl) (by kernel_rfl) (fun _ _ _ h => h) (Or.inl ⟨by kernel_rfl, ?ht8⟩) (by kernel_rfl) ?pt8 hS2 ?rt8
        case ht8 => (intro w hS; go_simp; try with_reducible rfl)
        case pt8 => (go_simp; try with_reducible rfl)
        have KR := Lib.hid (HK.out _ HF.out.2.1)
        have KA := Lib.hid (HA.out _ HF.out.2.1)
        have f0 := KR.out.cell 0
        have f1 := KR.out.cell 1
        have f2 := KR.out.cell 2
        have u0 := KR.out.frz 0
        have u1 := KR.out.frz 1
        have u2 := KR.out.frz 2
        refine wpAnyH_oneM (i := 9) (l' := bm 10 1023) rfl (by kernel_rfl) (by kernel_rfl) (by kernel_rfl) (fun K hK => ?_)
        go_simp
        have h3 := fun z0 z1 z2 => (((KA.out.off ⟨w.heap.size + 1 + 1, 0, none⟩ z0 (by show w.heap.size ≠ w.heap.size + 1 + 1; omega)).off ⟨w.heap.size + 1 + 1, 1, none⟩ z1 (by show w.heap.size ≠ w.heap.size + 1 + 1; omega)).off ⟨w.heap.size + 1 + 1, 2, none⟩ z2 (by show w.heap.size ≠ w.heap.size + 1 + 1; omega)).cell 0
        refine hK _ _ (h3 _ _ _) ?_
        clear h3
        clear hK K
        refine wpAnyH_done (by kernel_rfl) ?_ _
        clear hS2 f0 f1 f2 u0 u1 u2
        go_wp2_with fail
        (try simp only [Exit.inBlock, Exit.then])
        refine bodyPost_ret (resB rfl _ _ (w.heap.size + 1 + 1) _ _ _ rfl (Blk.set_ (Blk.set_ (Blk.set_ KR.out 0 _) 1 _) 2 _)) rfl ?_
        exact add_shut (g1 := g1) HV.out (by simp [hln]) rfl HF.out.1 HF.out.2.2 (by simp only [List.length_append, List.length_singleton]; omega) HEE.out ((below_step HB.out D1.out).trans (HF.out.2.1.mono (by omega))) (by omega)
end Go.Proofs.Ythkfaacgabkhhaa

namespace Go.Proofs.Ythkfaacgabkhhaa
open Go.RowKit

/-- The loop of a difference. -/
structure SbI (W1 wr : World) (B : Nat) (x y : List Nat) (k : Nat) (c : Int) (v : Value) (out : List Nat) : Prop where
  own : Own wr B v out
  len : out.length = k
  b : Below B W1 wr
  sz : B ≤ wr.heap.size
  c0 : -1 ≤ c
  c1 : c ≤ 0
  hv : (wv out : Int) + 4294967296 ^ k * c = wv (x.take k) - wv (y.take k)
def SbRel (W1 : World) (B : Nat) (x y : List Nat) (v c i : Value) (wr : World) : Prop := ∃ (k : Nat) (c' : Int) (out : List Nat), (k ≤ x.length ∨ k ≤ y.length) ∧ i = .int .i64 (k : Nat) ∧ c = .int .i64 c' ∧ SbI W1 wr B x y k c' v out
theorem SbI.start (w : World) {B : Nat} (x y : List Nat) (hB : B = w.heap.size) : SbI w (w.alloc (.cells #[] 71)) B x y 0 0 (.slice (some ⟨B, 0, none⟩) 0 0) [] :=
  ⟨Own.start w 71 hB, rfl, by subst hB; exact below_new w _, by subst hB; simp, by decide, by decide, by simp [wv]⟩
theorem SbI.step {W1 wr w' : World} {B : Nat} {x y out : List Nat} {k : Nat} {c t : Int} {v v' : Value} {o : Obj} (hx : wok x) (hy : wok y) (h : SbI W1 wr B x y k c v out) (ht : t = c + x.getD k 0 - y.getD k 0)
    (hown : w'.ownsRow B 71 1 v' (out.length + 1) (wc out ++ [Value.int .u32 (t % 4294967296)])) (hg : (wr.alloc o).grownBy w' v.ownBlock) (hnil : v' ≠ .slice none 0 0) :
    SbI W1 w' B x y (k + 1) (t / 4294967296) v' (out ++ [(t % 4294967296).toNat]) := by
  have e : t % 4294967296 = (((t % 4294967296).toNat : Nat) : Int) := by omega
  rw [e] at hown
  have hlt : (t % 4294967296).toNat < 4294967296 := by omega
  refine ⟨h.own.grown hlt (o := o) hown hnil, by rw [List.length_append, h.len]; rfl, below_grown h.own h.b (Nat.le_refl _) h.sz hg, ?_, ?_, ?_, ?_⟩
  · have := hg.size
    have h2 := h.sz
    simp at this
    omega
  · rw [ht]; exact (sub_carry (wok_getD hx k) (wok_getD hy k) h.c0 h.c1).1
  · rw [ht]; exact (sub_carry (wok_getD hx k) (wok_getD hy k) h.c0 h.c1).2
  · rw [ht]; exact sub_round h.len h.hv
theorem SbI.fin {W1 wr : World} {B : Nat} {x y out : List Nat} {k : Nat} {c : Int} {v : Value} (h : SbI W1 wr B x y k c v out) (hx : x.length ≤ k) (hy : y.length ≤ k) (hle : wv y ≤ wv x) : wv out = wv x - wv y :=
  sub_end h.len h.own.ok hx hy h.c0 h.c1 hle h.hv
theorem Lev.le {a b : Bg} {x y : List Nat} {e : Int} (h : Lev a b x y e) (he : -5000 ≤ e) : wv y ≤ wv x ↔ b.m ≤ a.m := by
  have h1 := Bg.m_shift h.e1 he h.vx
  have h2 := Bg.m_shift h.e2 he h.vy
  unfold Bg.m
  rw [← h1, ← h2]
  have hp := pow2_pos (e + 5000).toNat
  exact ⟨fun h => Nat.mul_le_mul_right _ h, fun h => Nat.le_of_mul_le_mul_right h hp⟩
theorem szq_ge {x y : Nat} (h : y ≤ x) : szq x y = 0 ∨ szq x y = 1 := by unfold szq; rw [if_neg (by omega)]; split <;> simp
theorem add_shut2 {a b : Bg} {w w3 : World} {g1 : Nat} {x y out : List Nat} {e : Int} {v' v2 u0 u2 : Value} (h : Lev a b x y e) (h2 : v2 = v') (hn : b.neg = !a.neg) (hO : Own w3 g1 v' out) (hle : wv y ≤ wv x) (hv : wv out = wv x - wv y) (hl : out.length ≤ x.length ∨ out.length ≤ y.length)
    (he : -5000 ≤ e) (hb : Below w.heap.size w w3) (hg : w.heap.size + 1 + 1 < g1) :
    AddP a b w (.returned (.agg #[.bool a.neg, v2, .int .i64 e])) (((w3.setCell ⟨w.heap.size + 1 + 1, 0, none⟩ u0).setCell ⟨w.heap.size + 1 + 1, 1, none⟩ v2).setCell ⟨w.heap.size + 1 + 1, 2, none⟩ u2) := by
  obtain ⟨g, c, rfl, hr, hge⟩ := hO.rl
  subst h2
  refine ⟨⟨a.neg, out, e⟩, ?_, h.e3, h.e1, h.e2, ?_, g, c, rfl, ?_, by omega, ?_⟩
  · rw [Bg.z_sub hle hv, h.zx he, ← hn, h.zy he]
  · have := h.lx; have := h.ly
    show out.length ≤ (a.e - e).toNat / 32 + (b.e - e).toNat / 32 + a.ws.length + b.ws.length + 2
    omega
  · exact ((hr.off _ _ (by show g ≠ w.heap.size + 1 + 1; omega)).off _ _ (by show g ≠ w.heap.size + 1 + 1; omega)).off _ _ (by show g ≠ w.heap.size + 1 + 1; omega)
  · exact ((hb.setCell (by show w.heap.size ≤ w.heap.size + 1 + 1; omega) _).setCell (by show w.heap.size ≤ w.heap.size + 1 + 1; omega) _).setCell (by show w.heap.size ≤ w.heap.size + 1 + 1; omega) _
theorem addB_turn {a b : Bg} {w w2 w3 : World} {r : Ending} (h : AddP b a w2 r w3) (hb : Below w.heap.size w w2) (hg : w.heap.size + 1 + 1 < w2.heap.size) :
    ∃ s g c, r = .returned (bgv s g c) ∧ Below w2.heap.size w2 w3 ∧ ∀ u0 u1 u2,
      AddP a b w (.returned (bgv s g c)) (((w3.setCell ⟨w.heap.size + 1 + 1, 0, none⟩ u0).setCell ⟨w.heap.size + 1 + 1, 1, none⟩ u1).setCell ⟨w.heap.size + 1 + 1, 2, none⟩ u2) := by
  obtain ⟨s, hz, he, h1, h2, hl, g, c, rfl, hr, hge, hb2⟩ := h
  have hb3 := hb.trans (hb2.mono hb.size)
  refine ⟨s, g, c, rfl, hb2, fun u0 u1 u2 => ⟨s, by rw [hz, Int.add_comm], he.symm, h2, h1, by omega, g, c, rfl, ?_, by omega, ?_⟩⟩
  · exact ((hr.off _ _ (by show g ≠ w.heap.size + 1 + 1; omega)).off _ _ (by show g ≠ w.heap.size + 1 + 1; omega)).off _ _ (by show g ≠ w.heap.size + 1 + 1; omega)
  · exact ((hb3.setCell (by show w.heap.size ≤ w.heap.size + 1 + 1; omega) _).setCell (by show w.heap.size ≤ w.heap.size + 1 + 1; omega) _).setCell (by show w.heap.size ≤ w.heap.size + 1 + 1; omega) _
set_option maxRecDepth 100000 in
set_option maxHeartbeats 4000000 in
theorem addB_ge {a b : Bg} {w : World} {g h : Nat} (ha : RL w g a.ws) (hb : RL w h b.ws) (c d : Nat) (na : Bnd a) (nb : Bnd b) (hn : a.neg ≠ b.neg) (hm : b.m ≤ a.m) :
    Calls Try.prog 30 #[bgv a g c, bgv b h d] w (AddP a b w) := by
  obtain ⟨i0, hi0, hz0, hz1, hz2⟩ := info_parts infoU32
  have HL := Lib.hid (fun w' (k : Below w.heap.size w w') => level_any (ha.below' k) (hb.below' k) c d na nb)
  obtain ⟨an, aw, ae⟩ := a
  obtain ⟨bn, bw, be⟩ := b
  obtain rfl : bn = !an := by revert hn; cases an <;> cases bn <;> simp
  have bo := na.lo
  have bp := na.hi
  have bq := nb.lo
  have br := nb.hi
  have bl := na.l
  have bn_ := nb.l
  simp only at bo bp bq br bl bn_
  have HM := Lib.hid hm
  clear ha hb na nb hn hm
  go_enter Try.func30, Try.ntmps30
  go_wp2_with fail
  obtain ⟨W, hW, K0, K1, K2, hB, hz⟩ := by3 w 35 35 35 #[Value.bool an, Value.slice (some ⟨g, 0, none⟩) aw.length c, Value.int IntKind.i64 ae] #[Value.bool !an, Value.slice (some ⟨h, 0, none⟩) bw.length d, Value.int IntKind.i64 be] #[Value.bool false, Value.slice none 0 0, Value.int IntKind.i64 0]
  rw [← hW]
  have K0 := Lib.hid K0
  have K1 := Lib.hid K1
  have K2 := Lib.hid K2
  have HB := Lib.hid hB
  clear hW hB hz
  have HO := Lib.hid (show ∀ w', Below W.heap.size W w' → (Below W.heap.size W w' ∧ w'.cell? ⟨w.heap.size, 0, none⟩ = some (Value.bool an) ∧ w'.cell? ⟨w.heap.size, 1, none⟩ = some (Value.slice (some ⟨g, 0, none⟩) aw.length c) ∧ w'.cell? ⟨w.heap.size, 2, none⟩ = some (Value.int IntKind.i64 ae) ∧ w'.cell? ⟨w.heap.size + 1, 0, none⟩ = some (Value.bool !an) ∧ w'.cell? ⟨w.heap.size + 1, 1, none⟩ = some (Value.slice (some ⟨h, 0, none⟩) bw.length d) ∧ w'.cell? ⟨w.heap.size + 1, 2, none⟩ = some (Value.int IntKind.i64 be) ∧ w'.cell? ⟨w.heap.size + 1 + 1, 0, none⟩ = some (Value.bool false) ∧ w'.cell? ⟨w.heap.size + 1 + 1, 1, none⟩ = some (Value.slice none 0 0) ∧ w'.cell? ⟨w.heap.size + 1 + 1, 2, none⟩ = some (Value.int IntKind.i64 0)) from fun w' h => ⟨h, (K0.out.below h K0.out.lt).cell 0, (K0.out.below h K0.out.lt).cell 1, (K0.out.below h K0.out.lt).cell 2, (K1.out.below h K1.out.lt).cell 0, (K1.out.below h K1.out.lt).cell 1, (K1.out.below h K1.out.lt).cell 2, (K2.out.below h K2.out.lt).cell 0, (K2.out.below h K2.out.lt).cell 1, (K2.out.below h K2.out.lt).cell 2⟩)
  have D0 := Lib.hid (Below.refl W.heap.size W)
  refine (HL.out _ HB.out).mono ?_
  rintro r w1 ⟨gx, cx, x, gy, cy, y, e, rfl, hx, hy, hlv, hb⟩
  have D1 := Lib.hid (below_step D0.out hb)
  clear hb
  obtain ⟨g1, hg1⟩ : ∃ g, w1.heap.size = g := ⟨_, rfl⟩
  have HX := Lib.hid (fun w' (b : Below g1 w1 w') => (hx.below b (by rw [← hg1]; exact hx.lt) : RL w' gx x))
  have HY := Lib.hid (fun w' (b : Below g1 w1 w') => (hy.below b (by rw [← hg1]; exact hy.lt) : RL w' gy y))
  have hgg : W.heap.size ≤ g1 := by rw [← hg1]; exact D1.out.size
  have hR : w.heap.size + 1 + 1 < W.heap.size := K2.out.lt
  have HA := Lib.hid (fun w' (b : Below g1 w1 w') => Blk.below (Blk.below K0.out D1.out K0.out.lt) b (by have := K0.out.lt; omega))
  have HK := Lib.hid (fun w' (b : Below g1 w1 w') => Blk.below (Blk.below K2.out D1.out K2.out.lt) b (by have := K2.out.lt; omega))
  have hee : -5000 ≤ e := by have := hlv.e3; simp only at this; omega
  have HLE := Lib.hid ((hlv.le hee).2)
  have HLM := Lib.hid ((hlv.le hee).1)
  have HEE := Lib.hid hee
  have HX0 := Lib.hid hx.ok
  have HY0 := Lib.hid hy.ok
  have HV := Lib.hid hlv
  have l1 : x.length ≤ 720 := by have := hlv.lx; have := hlv.e3; have := hlv.e1; have := hlv.e2; simp only at *; omega
  have l2 : y.length ≤ 720 := by have := hlv.ly; have := hlv.e3; have := hlv.e1; have := hlv.e2; simp only at *; omega
  have HSZ := Lib.hid (size_any hx hy cx cy (by omega) (by omega))
  clear hx hy hlv hee
  have hq := (HO.out _ D1.out).2
  have HST := Lib.hid (SbI.start w1 x y hg1.symm)
  go_wp2_with fail
  have hs0 := szq_ge (HLE.out HM.out)
  have HLE2 := Lib.hid (HLE.out HM.out)
  generalize szq (wv x) (wv y) = z at hs0 HSZ
  refine HSZ.out.mono ?_
  rintro e1 w2 ⟨rfl, rfl⟩
  have hz0' : ¬ z < 0 := by omega
  go_wp2_with fail
  clear hg1
  go_loopw [11, 12, 13] (fun v c i wr => SbRel w1 g1 x y v c i wr) (fun _ _ i _ => x.length + y.length - (intOf i).toNat)
  case atStart => exact ⟨0, 0, _, Or.inl (Nat.zero_le _), rfl, rfl, HST.out⟩
  case round =>
    clear HST
    obtain ⟨k, c', out, hk, rfl, rfl, hi⟩ := hrel
    have HXk := Lib.hid (at_any (HX.out _ hi.b) cx k (by omega))
    have HYk := Lib.hid (at_any (HY.out _ hi.b) cy k (by omega))
    have p32 := wok_getD HX0.out k
    have q32 := wok_getD HY0.out k
    have hln := hi.len
    have hsz := hi.sz
    have hc0 := hi.c0
    have hc1 := hi.c1
    have HSX := Lib.hid (fun s (hs : s = c' + (x.getD k 0 : Int) - (y.getD k 0 : Int)) v' w' o => SbI.step (t := s) (v' := v') (w' := w') (o := o) HX0.out HY0.out hi hs)
    have HI := Lib.hid hi
    clear hi
    obtain ⟨s, hs⟩ : ∃ s, s = c' + (x.getD k 0 : Int) - (y.getD k 0 : Int) := ⟨_, rfl⟩
    have HS := Lib.hid (HSX.out s hs)
    clear HSX
    obtain ⟨p, hp⟩ : ∃ p, p = x.getD k 0 := ⟨_, rfl⟩
    obtain ⟨q, hq'⟩ : ∃ q, q = y.getD k 0 := ⟨_, rfl⟩
    rw [← hp] at hs p32 HXk
    rw [← hq'] at hs q32 HYk
    clear hp hq'
    have F : c' + (p : Int) - (q : Int) = s := hs.symm
    have b0 : -4294967297 ≤ s := by omega
    have b1 : s ≤ 4294967296 := by omega
    clear hs
    by_cases h1 : k < x.length
    · go_wp2_with fail
      refine HXk.out.mono ?_
      rintro e1 w2 ⟨rfl, rfl⟩
      go_wp2_with fail
      refine HYk.out.mono ?_
      rintro e1 w2 ⟨rfl, rfl⟩
      go_wp2_with (at_builtin; refine wpList_append_own _ rfl (.tmp 97) (.tmp 100) 33 rfl g1 71 i0 (.int .u32 0) 1 4 Try.underlying33 hi0 hz0 hz1 hz2 rfl (by decide) _ _ _ rfl (HI.out.own.own.alloc _) ⟨wr.heap.size, 0, none⟩ 1 1 [.int .u32 (s % 4294967296)] rfl rfl ?c1 ?c2 ?c3 ?c4 ?c5 ?_)
      case c1 => exact cell_one_new _ _ _
      case c2 => intro u hu; simp at hu; subst hu; rfl
      case c3 => unfold maxLen; omega
      case c4 => omega
      case c5 => simp; omega
      intro v' w3 hown hg hnil
      have HD := Lib.hid (HS.out _ _ _ (by rw [hln]; exact hown) hg hnil)
      clear hown hg hnil
      go_wp2
      go_roundw
      case rel => exact ⟨k + 1, _, _, by omega, by go_num, by go_num, HD.out⟩
      case measure => simp [intOf]; omega
    · by_cases h2 : k < y.length
      · go_wp2_with fail
        refine HXk.out.mono ?_
        rintro e1 w2 ⟨rfl, rfl⟩
        go_wp2_with fail
        refine HYk.out.mono ?_
        rintro e1 w2 ⟨rfl, rfl⟩
        go_wp2_with (at_builtin; refine wpList_append_own _ rfl (.tmp 97) (.tmp 100) 33 rfl g1 71 i0 (.int .u32 0) 1 4 Try.underlying33 hi0 hz0 hz1 hz2 rfl (by decide) _ _ _ rfl (HI.out.own.own.alloc _) ⟨wr.heap.size, 0, none⟩ 1 1 [.int .u32 (s % 4294967296)] rfl rfl ?c1 ?c2 ?c3 ?c4 ?c5 ?_)
        case c1 => exact cell_one_new _ _ _
        case c2 => intro u hu; simp at hu; subst hu; rfl
        case c3 => unfold maxLen; omega
        case c4 => omega
        case c5 => simp; omega
        intro v' w3 hown hg hnil
        have HD := Lib.hid (HS.out _ _ _ (by rw [hln]; exact hown) hg hnil)
        clear hown hg hnil
        go_wp2
        go_roundw
        case rel => exact ⟨k + 1, _, _, by omega, by go_num, by go_num, HD.out⟩
        case measure => simp [intOf]; omega
      · obtain ⟨g5, c5, rfl, -, -⟩ := HI.out.own.rl
        have KR := Lib.hid (HK.out _ HI.out.b)
        have KA := Lib.hid (HA.out _ HI.out.b)
        have ka0 := KA.out.cell 0
        have f0 := KR.out.cell 0
        have f1 := KR.out.cell 1
        have f2 := KR.out.cell 2
        have u0 := KR.out.frz 0
        have u1 := KR.out.frz 1
        have u2 := KR.out.frz 2
        have HF := Lib.hid (HI.out.fin (by omega) (by omega) HLE2.out)
        go_wp2_with fail
        (try simp only [Exit.inBlock, Exit.then])
        refine bodyPost_ret (resB rfl _ _ (w.heap.size + 1 + 1) _ _ _ rfl (Blk.set_ (Blk.set_ (Blk.set_ KR.out 0 _) 1 _) 2 _)) rfl ?_
        exact add_shut2 (g1 := g1) HV.out (by simp [hln]) rfl HI.out.own HLE2.out HF.out (by omega) HEE.out ((below_step HB.out D1.out).trans (HI.out.b.mono (by omega))) (by omega)
set_option maxRecDepth 100000 in
set_option maxHeartbeats 4000000 in
theorem addB_lt {a b : Bg} {w : World} {g h : Nat} (ha : RL w g a.ws) (hb : RL w h b.ws) (c d : Nat) (na : Bnd a) (nb : Bnd b) (hn : a.neg ≠ b.neg) (hm : a.m < b.m) :
    Calls Try.prog 30 #[bgv a g c, bgv b h d] w (AddP a b w) := by
  have HG := Lib.hid (fun w' (k : Below w.heap.size w w') => addB_ge (hb.below' k) (ha.below' k) d c nb na (fun e => hn e.symm) (Nat.le_of_lt hm))
  obtain ⟨i0, hi0, hz0, hz1, hz2⟩ := info_parts infoU32
  have HL := Lib.hid (fun w' (k : Below w.heap.size w w') => level_any (ha.below' k) (hb.below' k) c d na nb)
  obtain ⟨an, aw, ae⟩ := a
  obtain ⟨bn, bw, be⟩ := b
  obtain rfl : bn = !an := by revert hn; cases an <;> cases bn <;> simp
  have bo := na.lo
  have bp := na.hi
  have bq := nb.lo
  have br := nb.hi
  have bl := na.l
  have bn_ := nb.l
  simp only at bo bp bq br bl bn_
  have HM := Lib.hid hm
  clear ha hb na nb hn hm
  go_enter Try.func30, Try.ntmps30
  go_wp2_with fail
  obtain ⟨W, hW, K0, K1, K2, hB, hz⟩ := by3 w 35 35 35 #[Value.bool an, Value.slice (some ⟨g, 0, none⟩) aw.length c, Value.int IntKind.i64 ae] #[Value.bool !an, Value.slice (some ⟨h, 0, none⟩) bw.length d, Value.int IntKind.i64 be] #[Value.bool false, Value.slice none 0 0, Value.int IntKind.i64 0]
  rw [← hW]
  have K0 := Lib.hid K0
  have K1 := Lib.hid K1
  have K2 := Lib.hid K2
  have HB := Lib.hid hB
  clear hW hB hz
  have HO := Lib.hid (show ∀ w', Below W.heap.size W w' → (Below W.heap.size W w' ∧ w'.cell? ⟨w.heap.size, 0, none⟩ = some (Value.bool an) ∧ w'.cell? ⟨w.heap.size, 1, none⟩ = some (Value.slice (some ⟨g, 0, none⟩) aw.length c) ∧ w'.cell? ⟨w.heap.size, 2, none⟩ = some (Value.int IntKind.i64 ae) ∧ w'.cell? ⟨w.heap.size + 1, 0, none⟩ = some (Value.bool !an) ∧ w'.cell? ⟨w.heap.size + 1, 1, none⟩ = some (Value.slice (some ⟨h, 0, none⟩) bw.length d) ∧ w'.cell? ⟨w.heap.size + 1, 2, none⟩ = some (Value.int IntKind.i64 be) ∧ w'.cell? ⟨w.heap.size + 1 + 1, 0, none⟩ = some (Value.bool false) ∧ w'.cell? ⟨w.heap.size + 1 + 1, 1, none⟩ = some (Value.slice none 0 0) ∧ w'.cell? ⟨w.heap.size + 1 + 1, 2, none⟩ = some (Value.int IntKind.i64 0)) from fun w' h => ⟨h, (K0.out.below h K0.out.lt).cell 0, (K0.out.below h K0.out.lt).cell 1, (K0.out.below h K0.out.lt).cell 2, (K1.out.below h K1.out.lt).cell 0, (K1.out.below h K1.out.lt).cell 1, (K1.out.below h K1.out.lt).cell 2, (K2.out.below h K2.out.lt).cell 0, (K2.out.below h K2.out.lt).cell 1, (K2.out.below h K2.out.lt).cell 2⟩)
  have D0 := Lib.hid (Below.refl W.heap.size W)
  refine (HL.out _ HB.out).mono ?_
  rintro r w1 ⟨gx, cx, x, gy, cy, y, e, rfl, hx, hy, hlv, hb⟩
  have D1 := Lib.hid (below_step D0.out hb)
  clear hb
  obtain ⟨g1, hg1⟩ : ∃ g, w1.heap.size = g := ⟨_, rfl⟩
  have HX := Lib.hid (fun w' (b : Below g1 w1 w') => (hx.below b (by rw [← hg1]; exact hx.lt) : RL w' gx x))
  have HY := Lib.hid (fun w' (b : Below g1 w1 w') => (hy.below b (by rw [← hg1]; exact hy.lt) : RL w' gy y))
  have hgg : W.heap.size ≤ g1 := by rw [← hg1]; exact D1.out.size
  have hR : w.heap.size + 1 + 1 < W.heap.size := K2.out.lt
  have HA := Lib.hid (fun w' (b : Below g1 w1 w') => Blk.below (Blk.below K0.out D1.out K0.out.lt) b (by have := K0.out.lt; omega))
  have HK := Lib.hid (fun w' (b : Below g1 w1 w') => Blk.below (Blk.below K2.out D1.out K2.out.lt) b (by have := K2.out.lt; omega))
  have hee : -5000 ≤ e := by have := hlv.e3; simp only at this; omega
  have HLE := Lib.hid ((hlv.le hee).2)
  have HLM := Lib.hid ((hlv.le hee).1)
  have HEE := Lib.hid hee
  have HX0 := Lib.hid hx.ok
  have HY0 := Lib.hid hy.ok
  have HV := Lib.hid hlv
  have l1 : x.length ≤ 720 := by have := hlv.lx; have := hlv.e3; have := hlv.e1; have := hlv.e2; simp only at *; omega
  have l2 : y.length ≤ 720 := by have := hlv.ly; have := hlv.e3; have := hlv.e1; have := hlv.e2; simp only at *; omega
  have HSZ := Lib.hid (size_any hx hy cx cy (by omega) (by omega))
  clear hx hy hlv hee
  have hq := (HO.out _ D1.out).2
  have HST := Lib.hid (SbI.start w1 x y hg1.symm)
  go_wp2_with fail
  have hs0 : szq (wv x) (wv y) = -1 := by
    have : ¬ wv y ≤ wv x := fun hh => by have h1 := HLM.out hh; have h2 := HM.out; omega
    exact (szq_lt (by omega)).symm
  generalize szq (wv x) (wv y) = z at hs0 HSZ
  subst hs0
  have HGS := Lib.hid (show w.heap.size + 1 + 1 < w1.heap.size by rw [hg1]; omega)
  clear hg1
  refine HSZ.out.mono ?_
  rintro e1 w2 ⟨rfl, rfl⟩
  go_wp2_with fail
  refine (HG.out _ (below_step HB.out D1.out)).mono ?_
  intro r w3 hP
  obtain ⟨s, g5, c5, rfl, hb, hF⟩ := addB_turn hP (below_step HB.out D1.out) HGS.out
  have HF := Lib.hid hF
  have D2 := Lib.hid (below_step D1.out hb)
  clear hP hF hb hq
  have KR := Lib.hid (K2.out.below D2.out K2.out.lt)
  have f0 := KR.out.cell 0
  have f1 := KR.out.cell 1
  have f2 := KR.out.cell 2
  have u0 := KR.out.frz 0
  have u1 := KR.out.frz 1
  have u2 := KR.out.frz 2
  
  go_wp2_with fail
  (try simp only [Exit.inBlock, Exit.then])
  refine bodyPost_ret (resB rfl _ _ (w.heap.size + 1 + 1) _ _ _ rfl (Blk.set_ (Blk.set_ (Blk.set_ KR.out 0 _) 1 _) 2 _)) rfl ?_
  exact HF.out _ _ _
theorem addB_any {a b : Bg} {w : World} {g h : Nat} (ha : RL w g a.ws) (hb : RL w h b.ws) (c d : Nat) (na : Bnd a) (nb : Bnd b) :
    Calls Try.prog 30 #[bgv a g c, bgv b h d] w (AddP a b w) := by
  by_cases hn : a.neg = b.neg
  · exact addB_plus ha hb c d na nb hn
  · by_cases hm : b.m ≤ a.m
    · exact addB_ge ha hb c d na nb hn hm
    · exact addB_lt ha hb c d na nb hn (by omega)
end Go.Proofs.Ythkfaacgabkhhaa

namespace Go.Proofs.Ythkfaacgabkhhaa
open Go.RowKit

theorem AddP.symm {a b : Bg} {w w' : World} {r : Ending} (h : AddP b a w r w') : AddP a b w r w' := by
  obtain ⟨s, hz, he, h1, h2, hl, hr⟩ := h
  exact ⟨s, by rw [hz, Int.add_comm], he.symm, h2, h1, by omega, hr⟩
/-- The opposite. -/
def Bg.opp (b : Bg) : Bg := ⟨!b.neg, b.ws, b.e⟩
theorem Bg.z_opp (b : Bg) : b.opp.z = - b.z := Bg.z_neg b
theorem sign_shut {a b s : Bg} (hz : s.z = a.z + b.opp.z) : decide (s.sign < 0) = decide (a.z < b.z) := by
  rw [Bg.z_opp] at hz
  have := s.sign_neg
  exact decide_eq_decide.2 (this.trans (by omega))
set_option maxRecDepth 100000 in
set_option maxHeartbeats 4000000 in
theorem subB_any {a b : Bg} {w : World} {g h : Nat} (ha : RL w g a.ws) (hb : RL w h b.ws) (c d : Nat) (na : Bnd a) (nb : Bnd b) :
    Calls Try.prog 33 #[bgv a g c, bgv b h d] w (AddP a b.opp w) := by
  have nb' : Bnd b.opp := ⟨nb.l, nb.lo, nb.hi⟩
  have HG := Lib.hid (fun w' (k : Below w.heap.size w w') => addB_any (a := a) (b := b.opp) (ha.below' k) (hb.below' k) c d na nb')
  have HN := Lib.hid (fun w' => neg_any w' b.neg (some ⟨h, 0, none⟩) b.ws.length d b.e)
  clear ha hb na nb nb'
  obtain ⟨an, aw, ae⟩ := a
  obtain ⟨bn, bw, be⟩ := b
  simp only [Bg.opp] at *
  go_enter Try.func33, Try.ntmps33
  go_wp2_with fail
  obtain ⟨W, hW, K0, K1, K2, hB, hz⟩ := by3 w 35 35 35 #[Value.bool an, Value.slice (some ⟨g, 0, none⟩) aw.length c, Value.int IntKind.i64 ae] #[Value.bool bn, Value.slice (some ⟨h, 0, none⟩) bw.length d, Value.int IntKind.i64 be] #[Value.bool false, Value.slice none 0 0, Value.int IntKind.i64 0]
  rw [← hW]
  have K0 := Lib.hid K0
  have K1 := Lib.hid K1
  have K2 := Lib.hid K2
  have HB := Lib.hid hB
  clear hW hB hz
  have HO := Lib.hid (show ∀ w', Below W.heap.size W w' → (Below W.heap.size W w' ∧ w'.cell? ⟨w.heap.size, 0, none⟩ = some (Value.bool an) ∧ w'.cell? ⟨w.heap.size, 1, none⟩ = some (Value.slice (some ⟨g, 0, none⟩) aw.length c) ∧ w'.cell? ⟨w.heap.size, 2, none⟩ = some (Value.int IntKind.i64 ae) ∧ w'.cell? ⟨w.heap.size + 1, 0, none⟩ = some (Value.bool bn) ∧ w'.cell? ⟨w.heap.size + 1, 1, none⟩ = some (Value.slice (some ⟨h, 0, none⟩) bw.length d) ∧ w'.cell? ⟨w.heap.size + 1, 2, none⟩ = some (Value.int IntKind.i64 be) ∧ w'.cell? ⟨w.heap.size + 1 + 1, 0, none⟩ = some (Value.bool false) ∧ w'.cell? ⟨w.heap.size + 1 + 1, 1, none⟩ = some (Value.slice none 0 0) ∧ w'.cell? ⟨w.heap.size + 1 + 1, 2, none⟩ = some (Value.int IntKind.i64 0)) from fun w' h => ⟨h, (K0.out.below h K0.out.lt).cell 0, (K0.out.below h K0.out.lt).cell 1, (K0.out.below h K0.out.lt).cell 2, (K1.out.below h K1.out.lt).cell 0, (K1.out.below h K1.out.lt).cell 1, (K1.out.below h K1.out.lt).cell 2, (K2.out.below h K2.out.lt).cell 0, (K2.out.below h K2.out.lt).cell 1, (K2.out.below h K2.out.lt).cell 2⟩)
  have D0 := Lib.hid (Below.refl W.heap.size W)
  have hR : w.heap.size + 1 + 1 < W.heap.size := K2.out.lt
  have HE := Lib.hid (show ∀ w', Below W.heap.size W w' → (w'.cell? ⟨w.heap.size, 0, none⟩ = some (Value.bool an) ∧ w'.cell? ⟨w.heap.size, 1, none⟩ = some (Value.slice (some ⟨g, 0, none⟩) aw.length c) ∧ w'.cell? ⟨w.heap.size, 2, none⟩ = some (Value.int IntKind.i64 ae) ∧ w'.cell? ⟨w.heap.size + 1, 0, none⟩ = some (Value.bool bn) ∧ w'.cell? ⟨w.heap.size + 1, 1, none⟩ = some (Value.slice (some ⟨h, 0, none⟩) bw.length d) ∧ w'.cell? ⟨w.heap.size + 1, 2, none⟩ = some (Value.int IntKind.i64 be)) from fun w' k => ⟨(K0.out.below k K0.out.lt).cell 0, (K0.out.below k K0.out.lt).cell 1, (K0.out.below k K0.out.lt).cell 2, (K1.out.below k K1.out.lt).cell 0, (K1.out.below k K1.out.lt).cell 1, (K1.out.below k K1.out.lt).cell 2⟩)
  refine wp_region_held (S := fun w' => w'.cell? ⟨w.heap.size, 0, none⟩ = some (Value.bool an) ∧ w'.cell? ⟨w.heap.size, 1, none⟩ = some (Value.slice (some ⟨g, 0, none⟩) aw.length c) ∧ w'.cell? ⟨w.heap.size, 2, none⟩ = some (Value.int IntKind.i64 ae) ∧ w'.cell? ⟨w.heap.size + 1, 0, none⟩ = some (Value.bool bn) ∧ w'.cell? ⟨w.heap.size + 1, 1, none⟩ = some (Value.slice (some ⟨h, 0, none⟩) bw.length d) ∧ w'.cell? ⟨w.heap.size + 1, 2, none⟩ = some (Value.int IntKind.i64 be)) (by kernel_rfl) ?_
  change wpAnyH _ _ _ _ _ _ _ _ (World.drew _)
  obtain ⟨wd, hwd⟩ : ∃ x, x = World.drew W := ⟨_, rfl⟩
  rw [← hwd]
  have DD := Lib.hid (hwd ▸ D0.out.drew : Below W.heap.size W wd)
  clear hwd
  have hS0 := HE.out _ DD.out
  refine wpAnyH_takeM (i := 0) (v := ?vt0) (l' := bm 5 1) (a' := ?at0) rfl (by kernel_rfl) (by kernel_rfl) (by kernel_rfl) (fun _ _ _ h => h) (Or.inl ⟨by kernel_rfl, ?ht0⟩) (by kernel_rfl) ?pt0 hS0 ?rt0
  case ht0 => (intro w hS; go_simp; try with_reducible rfl)
  case pt0 => (go_simp; try with_reducible rfl)
  refine wpAnyH_takeM (i := 1) (v := ?vt1) (l' := bm 5 3) (a' := ?at1) rfl (by kernel_rfl) (by kernel_rfl) (by kernel_rfl) (fun _ _ _ h => h) (Or.inl ⟨by kernel_rfl, ?ht1⟩) (by kernel_rfl) ?pt1 hS0 ?rt1
  case ht1 => (intro w hS; go_simp; try with_reducible rfl)
  case pt1 => (go_simp; try with_reducible rfl)
  refine wpAnyH_oneM (i := 2) (l' := bm 5 7) rfl (by kernel_rfl) (by kernel_rfl) (by kernel_rfl) (fun K hK => ?_)
  go_simp
  go_at_call 23
  refine (HN.out _).mono ?_
  rintro r w1 ⟨rfl, hb⟩
  dsimp only
  have D1 := Lib.hid (below_step DD.out hb)
  clear hb
  have hS1 := HE.out _ D1.out
  refine hK _ _ hS1 ?_
  clear hK K hS0
  refine wpAnyH_oneM (i := 3) (l' := bm 5 15) rfl (by kernel_rfl) (by kernel_rfl) (by kernel_rfl) (fun K hK => ?_)
  go_simp
  go_at_call 30
  refine (HG.out _ (below_step HB.out D1.out)).mono ?_
  intro r w2 hP
  obtain ⟨s, g5, c5, rfl, hb, hF⟩ := addB_turn hP.symm (below_step HB.out D1.out) (by have := D1.out.size; omega)
  dsimp only
  have HF := Lib.hid hF
  have D2 := Lib.hid (below_step D1.out hb)
  clear hP hF hb
  have hS2 := HE.out _ D2.out
  refine hK _ _ hS2 ?_
  clear hK K hS1
  have KR := Lib.hid (K2.out.below D2.out K2.out.lt)
  have KA := Lib.hid (K0.out.below D2.out K0.out.lt)
  have KB := Lib.hid (K1.out.below D2.out K1.out.lt)
  have f0 := KR.out.cell 0
  have f1 := KR.out.cell 1
  have f2 := KR.out.cell 2
  have u0 := KR.out.frz 0
  have u1 := KR.out.frz 1
  have u2 := KR.out.frz 2
  refine wpAnyH_oneM (i := 4) (l' := bm 5 31) rfl (by kernel_rfl) (by kernel_rfl) (by kernel_rfl) (fun K hK => ?_)
  go_simp
  have h3 := fun z0 z1 z2 => (((KA.out.off ⟨w.heap.size + 1 + 1, 0, none⟩ z0 (by show w.heap.size ≠ w.heap.size + 1 + 1; omega)).off ⟨w.heap.size + 1 + 1, 1, none⟩ z1 (by show w.heap.size ≠ w.heap.size + 1 + 1; omega)).off ⟨w.heap.size + 1 + 1, 2, none⟩ z2 (by show w.heap.size ≠ w.heap.size + 1 + 1; omega))
  have h4 := fun z0 z1 z2 => (((KB.out.off ⟨w.heap.size + 1 + 1, 0, none⟩ z0 (by show w.heap.size + 1 ≠ w.heap.size + 1 + 1; omega)).off ⟨w.heap.size + 1 + 1, 1, none⟩ z1 (by show w.heap.size + 1 ≠ w.heap.size + 1 + 1; omega)).off ⟨w.heap.size + 1 + 1, 2, none⟩ z2 (by show w.heap.size + 1 ≠ w.heap.size + 1 + 1; omega))
  refine hK _ _ ⟨(h3 _ _ _).cell 0, (h3 _ _ _).cell 1, (h3 _ _ _).cell 2, (h4 _ _ _).cell 0, (h4 _ _ _).cell 1, (h4 _ _ _).cell 2⟩ ?_
  clear h3 h4 hK K
  refine wpAnyH_done (by kernel_rfl) ?_ _
  clear hS2 f0 f1 f2 u0 u1 u2
  go_wp2_with fail
  (try simp only [Exit.inBlock, Exit.then])
  refine bodyPost_ret (resB rfl _ _ (w.heap.size + 1 + 1) _ _ _ rfl (Blk.set_ (Blk.set_ (Blk.set_ KR.out 0 _) 1 _) 2 _)) rfl ?_
  exact (HF.out _ _ _)
set_option maxRecDepth 100000 in
set_option maxHeartbeats 4000000 in
theorem lessB_any {a b : Bg} {w : World} {g h : Nat} (ha : RL w g a.ws) (hb : RL w h b.ws) (c d : Nat) (na : Bnd a) (nb : Bnd b) :
    Calls Try.prog 24 #[bgv a g c, bgv b h d] w fun r w' => r = .returned (.bool (decide (a.z < b.z))) ∧ Below w.heap.size w w' := by
  have HG := Lib.hid (fun w' (k : Below w.heap.size w w') => subB_any (a := a) (b := b) (ha.below' k) (hb.below' k) c d na nb)
  have HS := Lib.hid (fun (s : Bg) (hz : s.z = a.z + b.opp.z) => sign_shut (a := a) (b := b) hz)
  have nl : ∀ s : Bg, s.e ≤ a.e → s.e ≤ b.opp.e → (s.e = a.e ∨ s.e = b.opp.e) → s.ws.length ≤ (a.e - s.e).toNat / 32 + (b.opp.e - s.e).toNat / 32 + a.ws.length + b.opp.ws.length + 2 → s.ws.length ≤ 4096 := by
    intro s h1 h2 h3 h4
    have := na.l; have := nb.l; have := na.lo; have := na.hi; have := nb.lo; have := nb.hi
    simp only [Bg.opp] at *
    omega
  have NL := Lib.hid nl
  clear ha hb na nb nl
  generalize decide (a.z < b.z) = q at *
  obtain ⟨an, aw, ae⟩ := a
  obtain ⟨bn, bw, be⟩ := b
  go_enter Try.func24, Try.ntmps24
  go_wp2_with fail
  obtain ⟨W, hW, K0, K1, hB, hz⟩ := by2 w 35 35 #[Value.bool an, Value.slice (some ⟨g, 0, none⟩) aw.length c, Value.int IntKind.i64 ae] #[Value.bool bn, Value.slice (some ⟨h, 0, none⟩) bw.length d, Value.int IntKind.i64 be]
  rw [← hW]
  have K0 := Lib.hid K0
  have K1 := Lib.hid K1
  have HB := Lib.hid hB
  clear hW hB hz
  have HO := Lib.hid (show ∀ w', Below W.heap.size W w' → (Below W.heap.size W w' ∧ w'.cell? ⟨w.heap.size, 0, none⟩ = some (Value.bool an) ∧ w'.cell? ⟨w.heap.size, 1, none⟩ = some (Value.slice (some ⟨g, 0, none⟩) aw.length c) ∧ w'.cell? ⟨w.heap.size, 2, none⟩ = some (Value.int IntKind.i64 ae) ∧ w'.cell? ⟨w.heap.size + 1, 0, none⟩ = some (Value.bool bn) ∧ w'.cell? ⟨w.heap.size + 1, 1, none⟩ = some (Value.slice (some ⟨h, 0, none⟩) bw.length d) ∧ w'.cell? ⟨w.heap.size + 1, 2, none⟩ = some (Value.int IntKind.i64 be)) from fun w' h => ⟨h, (K0.out.below h K0.out.lt).cell 0, (K0.out.below h K0.out.lt).cell 1, (K0.out.below h K0.out.lt).cell 2, (K1.out.below h K1.out.lt).cell 0, (K1.out.below h K1.out.lt).cell 1, (K1.out.below h K1.out.lt).cell 2⟩)
  have D0 := Lib.hid (Below.refl W.heap.size W)
  refine (HG.out _ HB.out).mono ?_
  rintro r w1 ⟨⟨sn, sw, se⟩, hz, h3, h1, h2, h4, g5, c5, rfl, hr, hge, hb⟩
  have D1 := Lib.hid (below_step D0.out hb)
  have hw := HS.out _ hz
  have hl := NL.out _ h1 h2 h3 h4
  simp only at hl hr
  have HSG := Lib.hid (sign_any hr sn c5 se hl)
  clear hb hz h1 h2 h3 h4 hr hge hl
  generalize Bg.sign ⟨sn, sw, se⟩ = sg at *
  go_wp2_with fail
  refine HSG.out.mono ?_
  rintro r w2 ⟨rfl, hb⟩
  have D2 := Lib.hid (below_step D1.out hb)
  clear hb
  go_wp2_with fail
  go_ret
  exact ⟨rfl, below_step HB.out D2.out⟩
end Go.Proofs.Ythkfaacgabkhhaa

namespace Go.Proofs.Ythkfaacgabkhhaa
open Go.RowKit

/-- The words as a block's cells. -/
def wa (l : List Nat) : Array Value := (wc l).toArray
theorem wa_get (l : List Nat) (i : Nat) (h : i < l.length) : (wa l)[i]? = some (.int .u32 (l.getD i 0 : Nat)) := by
  unfold wa; rw [List.getElem?_toArray]; exact wc_get l i h
theorem wa_set (l : List Nat) (i x : Nat) : (wa l).setIfInBounds i (.int .u32 (x : Nat)) = wa (l.set i x) := by
  unfold wa wc
  rw [List.setIfInBounds_toArray, List.map_set]
theorem wa_zeros (n : Nat) : madeCells #[.int .u32 0] n = wa (List.replicate n 0) := by
  unfold wa
  rw [wc_zeros, ← toList_madeCells_one]
/-- The words in the product's own block. -/
structure MuI (W wr : World) (g1 N lb i : Nat) (out : List Nat) : Prop where
  blk : Blk wr g1 71 (wa out)
  len : out.length = N
  ok : wok out
  b : Below g1 W wr
  z : ∀ j, i + lb ≤ j → out.getD j 0 = 0
def MuA (W : World) (g1 N : Nat) (x y : List Nat) (i : Value) (wr : World) : Prop := ∃ (i' : Nat) (out : List Nat), i' ≤ x.length ∧ i = .int .i64 (i' : Nat) ∧ MuI W wr g1 N y.length i' out ∧ wv out = wv (x.take i') * wv y
def MuB (W : World) (g1 N i p V : Nat) (y : List Nat) (c k : Value) (wr : World) : Prop := ∃ (k' c' : Nat) (out : List Nat), k' ≤ y.length ∧ k = .int .i64 (k' : Nat) ∧ c = .int .u64 (c' : Nat) ∧ c' < 4294967296 ∧ MuI W wr g1 N y.length i out ∧
  wv out + 4294967296 ^ (i + k') * c' = V + 4294967296 ^ i * (p * wv (y.take k'))
theorem MuI.start (w : World) (N lb : Nat) {g1 : Nat} (hg : g1 = w.heap.size) : MuI w (w.alloc (.cells (madeCells #[.int .u32 0] N) 71)) g1 N lb 0 (List.replicate N 0) := by
  subst hg
  refine ⟨by rw [wa_zeros]; exact Blk.new _ _ _, List.length_replicate, wok_zeros N, below_new w _, fun j _ => ?_⟩
  rw [List.getD_eq_getElem?_getD, List.getElem?_replicate]
  split <;> rfl
theorem MuI.put {W wr : World} {g1 N lb i m s : Nat} {out : List Nat} (h : MuI W wr g1 N lb i out) (hm : m < i + lb) (hs : s < 4294967296) : MuI W (wr.setCell ⟨g1, m, none⟩ (.int .u32 (s : Nat))) g1 N lb i (out.set m s) := by
  refine ⟨by rw [← wa_set]; exact h.blk.set_ m _, by rw [List.length_set]; exact h.len, wok_set h.ok m hs, h.b.setCell (Nat.le_refl _) _, fun j hj => ?_⟩
  rw [List.getD_eq_getElem?_getD, List.getElem?_set_ne (by omega), ← List.getD_eq_getElem?_getD]
  exact h.z j hj
theorem MuI.last {W wr : World} {g1 N lb i m s : Nat} {out : List Nat} (h : MuI W wr g1 N lb i out) (hm : m = i + lb) (hmN : m < N) (hs : s < 4294967296) {V : Nat} (hv : wv out + 4294967296 ^ m * s = V) :
    MuI W (wr.setCell ⟨g1, m, none⟩ (.int .u32 (s : Nat))) g1 N lb (i + 1) (out.set m s) ∧ wv (out.set m s) = V := by
  refine ⟨⟨by rw [← wa_set]; exact h.blk.set_ m _, by rw [List.length_set]; exact h.len, wok_set h.ok m hs, h.b.setCell (Nat.le_refl _) _, fun j hj => ?_⟩, ?_⟩
  · rw [List.getD_eq_getElem?_getD, List.getElem?_set_ne (by omega), ← List.getD_eq_getElem?_getD]
    exact h.z j (by omega)
  · have e := wv_set out m s (by rw [h.len]; exact hmN)
    rw [h.z m (by omega), Nat.mul_zero, Nat.add_zero] at e
    rw [e]; exact hv
/-- What Mul hands back. -/
def MulP (a b : Bg) (w : World) (r : Ending) (w' : World) : Prop := ∃ s : Bg, s.neg = (a.neg != b.neg) ∧ s.e = a.e + b.e ∧ wv s.ws = wv a.ws * wv b.ws ∧ s.ws.length = a.ws.length + b.ws.length + 1 ∧ RB w s r w'
theorem MuI.drewN {W wr : World} {g1 N lb i : Nat} {out : List Nat} (h : MuI W wr g1 N lb i out) (n : Nat) : MuI W (wr.drewN n) g1 N lb i out :=
  ⟨h.blk.drewN n, h.len, h.ok, below_drewN h.b n, h.z⟩
theorem MuI.put' {W wr : World} {g1 N lb i m s : Nat} {out : List Nat} (h : MuI W wr g1 N lb i out) (hm : m < i + lb) : MuI W (wr.setCell ⟨g1, m, none⟩ (.int .u32 ((s : Int) % 4294967296))) g1 N lb i (out.set m (s % 4294967296)) := by
  have e : ((s : Int) % 4294967296) = ((s % 4294967296 : Nat) : Int) := by omega
  rw [e]
  exact h.put hm (Nat.mod_lt _ (by decide))
theorem mu_wrap {c o p q s : Nat} (hs : s = c + o + p * q) (h : s < 18446744073709551616) : IntKind.u64.wrap ((c : Int) + (o : Int) + IntKind.u64.wrap ((p : Int) * (q : Int))) = (s : Int) := by
  rw [IntKind.wrap_u64, IntKind.wrap_u64, ← Int.natCast_mul]
  generalize p * q = r at *
  omega
theorem mu_outer {x y o2 out : List Nat} {i m c p : Nat} (hE : wv o2 + 4294967296 ^ (i + y.length) * c = wv out + 4294967296 ^ i * (p * wv (y.take y.length))) (hm : m = i + y.length)
    (hx : wv (x.take (i + 1)) = wv (x.take i) + 4294967296 ^ i * p) (hV : wv out = wv (x.take i) * wv y) : wv o2 + 4294967296 ^ m * c = wv (x.take (i + 1)) * wv y := by
  rw [List.take_length] at hE
  rw [hm, hE, hx, hV, Nat.add_mul, Nat.mul_assoc]
theorem mul_shut {a b : Bg} {w W w3 : World} {g1 N i : Nat} {out : List Nat} {c : Nat} {u0 u1 u2 : Value} (h : MuI W w3 g1 N b.ws.length i out) (hN : N = a.ws.length + b.ws.length + 1) (hv : wv out = wv a.ws * wv b.ws)
    (hb : Below w.heap.size w w3) (hg : w.heap.size + 1 + 1 < g1) :
    MulP a b w (.returned (.agg #[.bool (a.neg != b.neg), .slice (some ⟨g1, 0, none⟩) N c, .int .i64 (a.e + b.e)])) (((w3.setCell ⟨w.heap.size + 1 + 1, 0, none⟩ u0).setCell ⟨w.heap.size + 1 + 1, 1, none⟩ u1).setCell ⟨w.heap.size + 1 + 1, 2, none⟩ u2) := by
  have hr : RL w3 g1 out := ⟨h.blk.lt, h.ok, fun i hi => (h.blk.cell i).trans (wa_get out i hi)⟩
  refine ⟨⟨a.neg != b.neg, out, a.e + b.e⟩, rfl, rfl, hv, by rw [← hN]; exact h.len, g1, c, by rw [← h.len], ?_, by omega, ?_⟩
  · exact ((hr.off _ _ (by show g1 ≠ w.heap.size + 1 + 1; omega)).off _ _ (by show g1 ≠ w.heap.size + 1 + 1; omega)).off _ _ (by show g1 ≠ w.heap.size + 1 + 1; omega)
  · exact ((hb.setCell (by show w.heap.size ≤ w.heap.size + 1 + 1; omega) _).setCell (by show w.heap.size ≤ w.heap.size + 1 + 1; omega) _).setCell (by show w.heap.size ≤ w.heap.size + 1 + 1; omega) _
set_option maxRecDepth 100000 in
set_option maxHeartbeats 4000000 in
theorem mulB_any {a b : Bg} {w : World} {g h : Nat} (ha : RL w g a.ws) (hb : RL w h b.ws) (c d : Nat) (na : Bnd a) (nb : Bnd b) :
    Calls Try.prog 25 #[bgv a g c, bgv b h d] w (MulP a b w) := by
  obtain ⟨i0, hi0, hz0, hz1, hz2⟩ := info_parts infoU32
  obtain ⟨an, x, ae⟩ := a
  obtain ⟨bn, y, be⟩ := b
  have bo := na.lo
  have bp := na.hi
  have bq := nb.lo
  have br := nb.hi
  have bl := na.l
  have bn_ := nb.l
  simp only at bo bp bq br bl bn_ ha hb
  clear na nb
  have e3 : ((x.length : Int) + (y.length : Int) + 1) = ((x.length + y.length + 1 : Nat) : Int) := by omega
  obtain ⟨N, hN⟩ : ∃ N, N = x.length + y.length + 1 := ⟨_, rfl⟩
  rw [← hN] at e3
  have hNb : N ≤ 801 := by omega
  have hNl : x.length + y.length < N := by omega
  have HN := Lib.hid hN
  clear hN
  go_enter Try.func25, Try.ntmps25
  go_wp2_with fail
  obtain ⟨W, hW, K0, K1, K2, hB, hz⟩ := by3 w 35 35 35 #[Value.bool an, Value.slice (some ⟨g, 0, none⟩) x.length c, Value.int IntKind.i64 ae] #[Value.bool bn, Value.slice (some ⟨h, 0, none⟩) y.length d, Value.int IntKind.i64 be] #[Value.bool false, Value.slice none 0 0, Value.int IntKind.i64 0]
  rw [← hW]
  have K0 := Lib.hid K0
  have K1 := Lib.hid K1
  have K2 := Lib.hid K2
  have HB := Lib.hid hB
  clear hW hB hz
  have HO := Lib.hid (show ∀ w', Below W.heap.size W w' → (Below W.heap.size W w' ∧ w'.cell? ⟨w.heap.size, 0, none⟩ = some (Value.bool an) ∧ w'.cell? ⟨w.heap.size, 1, none⟩ = some (Value.slice (some ⟨g, 0, none⟩) x.length c) ∧ w'.cell? ⟨w.heap.size, 2, none⟩ = some (Value.int IntKind.i64 ae) ∧ w'.cell? ⟨w.heap.size + 1, 0, none⟩ = some (Value.bool bn) ∧ w'.cell? ⟨w.heap.size + 1, 1, none⟩ = some (Value.slice (some ⟨h, 0, none⟩) y.length d) ∧ w'.cell? ⟨w.heap.size + 1, 2, none⟩ = some (Value.int IntKind.i64 be) ∧ w'.cell? ⟨w.heap.size + 1 + 1, 0, none⟩ = some (Value.bool false) ∧ w'.cell? ⟨w.heap.size + 1 + 1, 1, none⟩ = some (Value.slice none 0 0) ∧ w'.cell? ⟨w.heap.size + 1 + 1, 2, none⟩ = some (Value.int IntKind.i64 0)) from fun w' h => ⟨h, (K0.out.below h K0.out.lt).cell 0, (K0.out.below h K0.out.lt).cell 1, (K0.out.below h K0.out.lt).cell 2, (K1.out.below h K1.out.lt).cell 0, (K1.out.below h K1.out.lt).cell 1, (K1.out.below h K1.out.lt).cell 2, (K2.out.below h K2.out.lt).cell 0, (K2.out.below h K2.out.lt).cell 1, (K2.out.below h K2.out.lt).cell 2⟩)
  have D0 := Lib.hid (Below.refl W.heap.size W)
  have hq := (HO.out _ D0.out).2
  obtain ⟨g1, hg1⟩ : ∃ g, W.heap.size = g := ⟨_, rfl⟩
  have hR : w.heap.size + 1 + 1 < W.heap.size := K2.out.lt
  have HST := Lib.hid (MuI.start W N y.length hg1.symm)
  have HA := Lib.hid (fun w' (b : Below g1 W w') => K0.out.below b (by have := K0.out.lt; omega))
  have HC := Lib.hid (fun w' (b : Below g1 W w') => K1.out.below b (by have := K1.out.lt; omega))
  have HK := Lib.hid (fun w' (b : Below g1 W w') => K2.out.below b (by have := K2.out.lt; omega))
  have HX := Lib.hid (fun w' (b : Below g1 W w') => ((ha.below' HB.out).below b (by rw [← hg1]; exact (ha.below' HB.out).lt) : RL w' g x))
  have HY := Lib.hid (fun w' (b : Below g1 W w') => ((hb.below' HB.out).below b (by rw [← hg1]; exact (hb.below' HB.out).lt) : RL w' h y))
  clear ha hb
  rw [run_make_row (P := Try.prog) 33 71 i0 (.int .u32 0) Try.underlying33 hi0 hz0 hz1 rfl .i64 .i64 N (by rw [hz2]; omega) (by omega) W]
  clear hq
  go_wp2_with fail
  have hgR : w.heap.size + 1 + 1 < g1 := by rw [← hg1]; exact hR
  have hgW : W.heap.size = g1 := hg1
  clear hg1
  have hgW' : w.heap.size ≤ g1 := by omega
  clear hgW
  go_loopw [6] (fun i wr => MuA W g1 N x y i wr) (fun i _ => x.length - (intOf i).toNat)
  case atStart => exact ⟨0, _, Nat.zero_le _, rfl, HST.out, by rw [wv_zeros]; simp [wv]⟩
  case round =>
    clear HST
    obtain ⟨i', out, hi, rfl, hI, hV⟩ := hrel
    have HI := Lib.hid hI
    have HV := Lib.hid hV
    clear hI hV
    by_cases h1 : i' < x.length
    · have hxi := (HX.out _ HI.out.b).cell i' h1
      have hx32 := wok_getD (HX.out _ HI.out.b).ok i'
      have HXS := Lib.hid (wv_take_succ x i')
      obtain ⟨p, hp⟩ : ∃ p, p = x.getD i' 0 := ⟨_, rfl⟩
      rw [← hp] at hxi hx32 HXS
      have HP := Lib.hid hp
      clear hp
      have kA := HA.out _ HI.out.b
      have kB := HC.out _ HI.out.b
      have a1 := kA.cell 1
      have b1 := kB.cell 1
      clear kA kB
      have HX32 := Lib.hid hx32
      clear hx32
      go_wp2_with fail
      clear a1 b1 hxi
      have HPX := Lib.hid (fun w' (b : Below g1 W w') => (HX.out w' b).cell i' h1)
      go_loopw [7, 8] (fun c k wr => MuB W g1 N i' p (wv out) y c k wr) (fun _ k _ => y.length - (intOf k).toNat)
      case atStart => exact ⟨0, 0, out, Nat.zero_le _, rfl, rfl, by decide, HI.out, by simp [wv]⟩
      case round =>
        obtain ⟨k', c', o2, hk, rfl, rfl, hc32, hJ, hE⟩ := hrel
        by_cases h2 : k' < y.length
        · have hmN : i' + k' < o2.length := by rw [hJ.len]; omega
          have HMR := Lib.hid (mul_round (b := y) (a := p) hmN hE)
          have hyk := (HY.out _ hJ.b).cell k' h2
          have hxi := (HX.out _ hJ.b).cell i' h1
          rw [← HP.out] at hxi
          have hout : wr.cell? ⟨g1, i' + k', none⟩ = some (.int .u32 (o2.getD (i' + k') 0 : Nat)) := (hJ.blk.cell _).trans (wa_get o2 _ hmN)
          have y32 := wok_getD (HY.out _ hJ.b).ok k'
          have o32 := wok_getD hJ.ok (i' + k')
          have kA : wr.cell? ⟨w.heap.size, 1, none⟩ = some (.slice (some ⟨g, 0, none⟩) x.length c) := (HA.out _ hJ.b).cell 1
          have kB : wr.cell? ⟨w.heap.size + 1, 1, none⟩ = some (.slice (some ⟨h, 0, none⟩) y.length d) := (HC.out _ hJ.b).cell 1
          have x32 := HX32.out
          obtain ⟨q, hq'⟩ : ∃ q, q = y.getD k' 0 := ⟨_, rfl⟩
          obtain ⟨o, ho'⟩ : ∃ o, o = o2.getD (i' + k') 0 := ⟨_, rfl⟩
          rw [← hq'] at hyk y32 HMR
          rw [← ho'] at hout o32 HMR
          clear hq' ho'
          obtain ⟨m, hm⟩ : ∃ m, m = i' + k' := ⟨_, rfl⟩
          rw [← hm] at hout HMR hmN
          have F : (i' : Int) + (k' : Int) = (m : Int) := by omega
          have hmN2 : m < N := by rw [hJ.len] at hmN; exact hmN
          have hmi : m < i' + y.length := by omega
          have HMI := Lib.hid hmi
          have mc := mul_carry x32 y32 o32 hc32
          obtain ⟨s, hs⟩ : ∃ s, s = c' + o + p * q := ⟨_, rfl⟩
          rw [← hs] at mc HMR
          have HS := Lib.hid hs
          have HC2 := Lib.hid mc
          have fz := hJ.blk.frz m
          have HJ := Lib.hid hJ
          clear hm hmi hs hJ hE hmN mc HX32
          have hkN : k' ≤ 800 := by omega
          have G : IntKind.u64.wrap ((c' : Int) + (o : Int) + IntKind.u64.wrap ((p : Int) * (q : Int))) = (s : Int) := mu_wrap HS.out HC2.out.1
          have hs64 := HC2.out.1
          go_wp2_with fail
          go_quiet (fail)
          clear G hyk hxi hout kA kB
          have HJ5 := Lib.hid (HJ.out.drewN nq)
          generalize wr.drewN nq = w5 at HJ5 ⊢
          have hout : w5.cell? ⟨g1, m, none⟩ = some (.int .u32 (o2.getD m 0 : Nat)) := (HJ5.out.blk.cell _).trans (wa_get o2 _ (by rw [HJ5.out.len]; exact hmN2))
          have fz := HJ5.out.blk.frz m
          have HD := Lib.hid (HJ5.out.put' (s := s) HMI.out)
          go_wp2
          go_roundw
          case rel => exact ⟨k' + 1, s / 4294967296, _, h2, by go_num, by go_num, HC2.out.2, HD.out, HMR.out⟩
          case measure => simp [intOf]; omega
        · obtain rfl : k' = y.length := by omega
          have HE := Lib.hid hE
          clear hE
          obtain ⟨m, hm⟩ : ∃ m, m = i' + y.length := ⟨_, rfl⟩
          have F : (i' : Int) + (y.length : Int) = (m : Int) := by omega
          have hmN : m < N := by omega
          have hout : wr.cell? ⟨g1, m, none⟩ = some (.int .u32 (o2.getD m 0 : Nat)) := (hJ.blk.cell _).trans (wa_get o2 _ (by rw [hJ.len]; exact hmN))
          have fz := hJ.blk.frz m
          have kB : wr.cell? ⟨w.heap.size + 1, 1, none⟩ = some (.slice (some ⟨h, 0, none⟩) y.length d) := (HC.out _ hJ.b).cell 1
          have HD := Lib.hid (hJ.last (s := c') hm hmN hc32 (mu_outer HE.out hm HXS.out HV.out))
          clear hJ hm HE
          go_wp2
          go_roundw
          case rel => exact ⟨i' + 1, _, by omega, by go_num, HD.out.1, HD.out.2⟩
          case measure => simp [intOf]; omega
    · obtain rfl : i' = x.length := by omega
      have kA := (HA.out _ HI.out.b)
      have kB := (HC.out _ HI.out.b)
      have KR := Lib.hid (HK.out _ HI.out.b)
      have a0 := kA.cell 0
      have a1 := kA.cell 1
      have a2 := kA.cell 2
      have b0 := kB.cell 0
      have b2 := kB.cell 2
      clear kA kB
      have f0 := KR.out.cell 0
      have f1 := KR.out.cell 1
      have f2 := KR.out.cell 2
      have u0 := KR.out.frz 0
      have u1 := KR.out.frz 1
      have u2 := KR.out.frz 2
      go_wp2_with fail
      (try simp only [Exit.inBlock, Exit.then])
      refine bodyPost_ret (resB rfl _ _ (w.heap.size + 1 + 1) _ _ _ rfl (Blk.set_ (Blk.set_ (Blk.set_ KR.out 0 _) 1 _) 2 _)) rfl ?_
      exact mul_shut HI.out HN.out (HV.out.trans (by rw [List.take_length])) (HB.out.trans (HI.out.b.mono hgW')) hgR
end Go.Proofs.Ythkfaacgabkhhaa

namespace Go.Proofs.Ythkfaacgabkhhaa
open Go.RowKit Fl

def k39 : Nat := 3926
theorem ofB_z (b : Nat) : (ofB b).z = Z b * ((2 ^ k39 : Nat) : Int) := by
  have e : (ofB b).m = sM b * 2 ^ (sE b + 1074).toNat * 2 ^ k39 := by
    show wv (ow b) * 2 ^ (sE b + 5000).toNat = _
    rw [wv_ow, Nat.mul_assoc, ← Nat.pow_add]
    congr 2
    have := sE_ge b
    have : k39 = 3926 := rfl
    omega
  show Go.Proofs.Ythkfaacgabkhhaa.sg (Fl.sg b) * ((ofB b).m : Int) = _
  rw [e, sM_rv, Int.natCast_mul, ← Int.mul_assoc]
  congr 1
  unfold Z Go.Proofs.Ythkfaacgabkhhaa.sg
  cases Fl.sg b <;> simp
theorem ofB_bnd {b : Nat} (h : fin b = true) : Bnd (ofB b) :=
  ⟨by show 2 ≤ 400; decide, by have := sE_ge b; show -5000 ≤ sE b; omega, by have := sE_le b h; show sE b ≤ 5000; omega⟩
theorem less_no {a b : Bg} {w : World} {g h : Nat} (hn : ¬ a.z < b.z) (ha : RL w g a.ws) (hb : RL w h b.ws) (c d : Nat) (na : Bnd a) (nb : Bnd b) :
    Calls Try.prog 24 #[bgv a g c, bgv b h d] w fun r w' => r = .returned (.bool false) ∧ Below w.heap.size w w' := by
  have := lessB_any ha hb c d na nb
  rw [decide_eq_false hn] at this
  exact this
theorem o_self {a : Nat} (h : a < 18446744073709551616) (hn : nan a = false) : FloatKind.f64.format.order a a = some .eq := by
  have : FloatKind.f64.format.order a a = some (compare (Z a) (Z a)) := order_eq a a h h hn hn
  rw [this]
  rcases hc : compare (Z a) (Z a) with _ | _ | _
  · rw [Int.compare_eq_lt] at hc; omega
  · rfl
  · rw [Int.compare_eq_gt] at hc; omega
theorem Z_top : Z 9218868437227405311 = (rv (INF - 1) : Int) := by decide +kernel
theorem Z_bot : Z 18442240474082181119 = -(rv (INF - 1) : Int) := by decide +kernel
theorem fin_in {b : Nat} (h : fin b = true) : -(rv (INF - 1) : Int) ≤ Z b ∧ Z b ≤ (rv (INF - 1) : Int) := by
  have h1 : rv (mg b) ≤ rv (INF - 1) := rv_le (by have := mg_of_fin h; omega)
  have h1 : (rv (mg b) : Int) ≤ (rv (INF - 1) : Int) := Int.ofNat_le.2 h1
  have h0 : 0 ≤ (rv (mg b) : Int) := Int.natCast_nonneg _
  unfold Z
  generalize (rv (mg b) : Int) = u at *
  generalize (rv (INF - 1) : Int) = v at *
  cases Fl.sg b <;> simp <;> omega
theorem o_lt {b : Nat} (h : b < 18446744073709551616) (hf : fin b = true) : (FloatKind.f64.format.order b 18442240474082181119 == some .lt) = false := by
  have : FloatKind.f64.format.order b 18442240474082181119 = some (compare (Z b) (Z 18442240474082181119)) := order_eq b _ h (by decide) (nan_of_fin hf) (by decide)
  rw [this, Z_bot]
  have := (fin_in hf).1
  rcases hc : compare (Z b) (-(rv (INF - 1) : Int)) with _ | _ | _
  · rw [Int.compare_eq_lt] at hc; omega
  · rfl
  · rfl
theorem o_le {b : Nat} (h : b < 18446744073709551616) (hf : fin b = true) : (FloatKind.f64.format.order b 9218868437227405311 == some .lt || FloatKind.f64.format.order b 9218868437227405311 == some .eq) = true := by
  have : FloatKind.f64.format.order b 9218868437227405311 = some (compare (Z b) (Z 9218868437227405311)) := order_eq b _ h (by decide) (nan_of_fin hf) (by decide)
  rw [this, Z_top]
  have := (fin_in hf).2
  rcases hc : compare (Z b) ((rv (INF - 1) : Int)) with _ | _ | _
  · rfl
  · rfl
  · rw [Int.compare_eq_gt] at hc; omega
theorem o_gt {b : Nat} (h : b < 18446744073709551616) (hf : fin b = true) : (FloatKind.f64.format.order b 9218868437227405311 == some .gt) = false := by
  have : FloatKind.f64.format.order b 9218868437227405311 = some (compare (Z b) (Z 9218868437227405311)) := order_eq b _ h (by decide) (nan_of_fin hf) (by decide)
  rw [this, Z_top]
  have := (fin_in hf).2
  rcases hc : compare (Z b) ((rv (INF - 1) : Int)) with _ | _ | _
  · rfl
  · rfl
  · rw [Int.compare_eq_gt] at hc; omega
theorem o_ge {b : Nat} (h : b < 18446744073709551616) (hf : fin b = true) : (FloatKind.f64.format.order b 18442240474082181119 == some .gt || FloatKind.f64.format.order b 18442240474082181119 == some .eq) = true := by
  have : FloatKind.f64.format.order b 18442240474082181119 = some (compare (Z b) (Z 18442240474082181119)) := order_eq b _ h (by decide) (nan_of_fin hf) (by decide)
  rw [this, Z_bot]
  have := (fin_in hf).1
  rcases hc : compare (Z b) (-(rv (INF - 1) : Int)) with _ | _ | _
  · rw [Int.compare_eq_lt] at hc; omega
  · rfl
  · rfl
theorem o_ni : (FloatKind.f64.format.order 18442240474082181120 18442240474082181119 == some .lt) = true := by decide +kernel
theorem o_pi : (FloatKind.f64.format.order 9218868437227405312 9218868437227405311 == some .gt) = true := by decide +kernel
set_option maxRecDepth 100000 in
set_option maxHeartbeats 4000000 in
theorem btw_ff {a : Bg} {w : World} {g : Nat} (ha : RL w g a.ws) (c : Nat) (na : Bnd a) {lo : Nat} (hl : lo < 18446744073709551616) (fl : fin lo = true) (ul : ¬ a.z < (ofB lo).z) {hi : Nat} (hh : hi < 18446744073709551616) (fh : fin hi = true) (uh : ¬ (ofB hi).z < a.z) :
    Calls Try.prog 31 #[bgv a g c, .float .f64 lo, .float .f64 hi] w fun r w' => r = .returned (.bool true) ∧ Below w.heap.size w w' := by
  have n1 := o_self (a := lo) hl (nan_of_fin fl)
  have n2 := o_self (a := hi) hh (nan_of_fin fh)
  have e1 := o_lt hl fl
  have e2 := o_le hl fl
  have OL := Lib.hid (fun w' => of_big lo hl w')
  have UL := Lib.hid (fun w' (g5 c5 : Nat) (k : Below w.heap.size w w') (h5 : RL w' g5 (ofB lo).ws) => less_no ul (ha.below' k) h5 c c5 na (ofB_bnd fl))
  clear ul hl fl
  have e3 := o_gt hh fh
  have e4 := o_ge hh fh
  have OH := Lib.hid (fun w' => of_big hi hh w')
  have UH := Lib.hid (fun w' (g5 c5 : Nat) (k : Below w.heap.size w w') (h5 : RL w' g5 (ofB hi).ws) => less_no uh h5 (ha.below' k) c5 c (ofB_bnd fh) na)
  clear uh hh fh
  generalize ofB lo = p at *
  generalize ofB hi = q at *
  clear na ha
  obtain ⟨an, aw, ae⟩ := a
  go_enter Try.func31, Try.ntmps31
  go_wp2_with fail
  obtain ⟨W, hW, K0, hB, hz⟩ := by1 w 35 #[Value.bool an, Value.slice (some ⟨g, 0, none⟩) aw.length c, Value.int IntKind.i64 ae]
  rw [← hW]
  have K0 := Lib.hid K0
  have HB := Lib.hid hB
  clear hW hB hz
  have HO := Lib.hid (show ∀ w', Below W.heap.size W w' → (Below W.heap.size W w' ∧ w'.cell? ⟨w.heap.size, 0, none⟩ = some (Value.bool an) ∧ w'.cell? ⟨w.heap.size, 1, none⟩ = some (Value.slice (some ⟨g, 0, none⟩) aw.length c) ∧ w'.cell? ⟨w.heap.size, 2, none⟩ = some (Value.int IntKind.i64 ae)) from fun w' h => ⟨h, (K0.out.below h K0.out.lt).cell 0, (K0.out.below h K0.out.lt).cell 1, (K0.out.below h K0.out.lt).cell 2⟩)
  have D0 := Lib.hid (Below.refl W.heap.size W)
  go_wp2_with fail
  refine wp_region_held (S := (fun w' => Below W.heap.size W w' ∧ w'.cell? ⟨w.heap.size, 0, none⟩ = some (Value.bool an) ∧ w'.cell? ⟨w.heap.size, 1, none⟩ = some (Value.slice (some ⟨g, 0, none⟩) aw.length c) ∧ w'.cell? ⟨w.heap.size, 2, none⟩ = some (Value.int IntKind.i64 ae))) (by kernel_rfl) ?_
  (try change wpAnyH _ _ _ _ _ _ _ (World.drew _))
  have hS0 := HO.out _ (Below.drew D0.out)
  refine wpAnyH_takeM (i := 0) (v := ?v3_0) (l' := bm 14 1) (a' := ?a3_0) rfl (by kernel_rfl) (by kernel_rfl) (by kernel_rfl) (fun _ _ _ h => h) (Or.inl ⟨by kernel_rfl, ?h3_0⟩) (by kernel_rfl) ?p3_0 hS0 ?r3_0
  case h3_0 => (intro w hS; go_simp; try with_reducible rfl)
  case p3_0 => (go_simp; try with_reducible rfl)
  refine wpAnyH_takeM (i := 1) (v := ?v3_1) (l' := bm 14 3) (a' := ?a3_1) rfl (by kernel_rfl) (by kernel_rfl) (by kernel_rfl) (fun _ _ _ h => h) (Or.inl ⟨by kernel_rfl, ?h3_1⟩) (by kernel_rfl) ?p3_1 hS0 ?r3_1
  case h3_1 => (intro w hS; go_simp; try with_reducible rfl)
  case p3_1 => (go_simp; try with_reducible rfl)
  refine wpAnyH_takeM (i := 2) (v := ?v3_2) (l' := bm 14 7) (a' := ?a3_2) rfl (by kernel_rfl) (by kernel_rfl) (by kernel_rfl) (fun _ _ _ h => h) (Or.inl ⟨by kernel_rfl, ?h3_2⟩) (by kernel_rfl) ?p3_2 hS0 ?r3_2
  case h3_2 => (intro w hS; go_simp; try with_reducible rfl)
  case p3_2 => (go_simp; try with_reducible rfl)
  refine wpAnyH_takeM (i := 3) (v := ?v3_3) (l' := bm 14 15) (a' := ?a3_3) rfl (by kernel_rfl) (by kernel_rfl) (by kernel_rfl) (fun _ _ _ h => h) (Or.inl ⟨by kernel_rfl, ?h3_3⟩) (by kernel_rfl) ?p3_3 hS0 ?r3_3
  case h3_3 => (intro w hS; go_simp; try with_reducible rfl)
  case p3_3 => (go_simp; try with_reducible rfl)
  refine wpAnyH_takeM (i := 4) (v := ?v3_4) (l' := bm 14 31) (a' := ?a3_4) rfl (by kernel_rfl) (by kernel_rfl) (by kernel_rfl) (fun _ _ _ h => h) (Or.inl ⟨by kernel_rfl, ?h3_4⟩) (by kernel_rfl) ?p3_4 hS0 ?r3_4
  case h3_4 => (intro w hS; go_simp; try with_reducible rfl)
  case p3_4 => (go_simp; try with_reducible rfl)
  refine wpAnyH_takeM (i := 5) (v := ?v3_5) (l' := bm 14 63) (a' := ?a3_5) rfl (by kernel_rfl) (by kernel_rfl) (by kernel_rfl) (fun _ _ _ h => h) (Or.inl ⟨by kernel_rfl, ?h3_5⟩) (by kernel_rfl) ?p3_5 hS0 ?r3_5
  case h3_5 => (intro w hS; go_simp; try with_reducible rfl)
  case p3_5 => (go_simp; try with_reducible rfl)
  refine wpAnyH_takeM (i := 6) (v := ?v3_6) (l' := bm 14 127) (a' := ?a3_6) rfl (by kernel_rfl) (by kernel_rfl) (by kernel_rfl) (fun _ _ _ h => h) (Or.inl ⟨by kernel_rfl, ?h3_6⟩) (by kernel_rfl) ?p3_6 hS0 ?r3_6
  case h3_6 => (intro w hS; go_simp; try with_reducible rfl)
  case p3_6 => (go_simp; try with_reducible rfl)
  refine wpAnyH_takeM (i := 7) (v := ?v3_7) (l' := bm 14 255) (a' := ?a3_7) rfl (by kernel_rfl) (by kernel_rfl) (by kernel_rfl) (fun _ _ _ h => h) (Or.inl ⟨by kernel_rfl, ?h3_7⟩) (by kernel_rfl) ?p3_7 hS0 ?r3_7
  case h3_7 => (intro w hS; go_simp; try with_reducible rfl)
  case p3_7 => (go_simp; try with_reducible rfl)
  refine wpAnyH_oneM (i := 8) (l' := bm 14 511) rfl (by kernel_rfl) (by kernel_rfl) (by kernel_rfl) (fun K hK => ?_)
  have hP := hS0.1
  go_simp
  go_at_call 22
  refine (OL.out _).mono ?_
  rintro r w1 ⟨g5, c5, rfl, hr5, -, hb⟩
  dsimp only
  have D1 := Lib.hid (below_step hP hb)
  clear hb
  have hS1 := HO.out _ (D1.out)
  clear hP hS0
  refine hK _ _ hS1 ?_
  clear hK K
  refine wpAnyH_oneM (i := 9) (l' := bm 14 1023) rfl (by kernel_rfl) (by kernel_rfl) (by kernel_rfl) (fun K hK => ?_)
  have hP := hS1.1
  go_simp
  go_at_call 24
  refine (UL.out _ g5 c5 (below_step HB.out hP) hr5).mono ?_
  rintro r w2 ⟨rfl, hb⟩
  dsimp only
  have D2 := Lib.hid (below_step hP hb)
  clear hb
  have hS2 := HO.out _ (D2.out)
  clear hP hS1
  refine hK _ _ hS2 ?_
  clear hK K
  refine wpAnyH_takeM (i := 10) (v := ?v3_10) (l' := bm 14 2047) (a' := ?a3_10) rfl (by kernel_rfl) (by kernel_rfl) (by kernel_rfl) (fun _ _ _ h => h) (Or.inl ⟨by kernel_rfl, ?h3_10⟩) (by kernel_rfl) ?p3_10 hS2 ?r3_10
  case h3_10 => (intro w hS; go_simp; try with_reducible rfl)
  case p3_10 => (go_simp; try with_reducible rfl)
  refine wpAnyH_takeM (i := 11) (v := ?v3_11) (l' := bm 14 4095) (a' := ?a3_11) rfl (by kernel_rfl) (by kernel_rfl) (by kernel_rfl) (fun _ _ _ h => h) (Or.inl ⟨by kernel_rfl, ?h3_11⟩) (by kernel_rfl) ?p3_11 hS2 ?r3_11
  case h3_11 => (intro w hS; go_simp; try with_reducible rfl)
  case p3_11 => (go_simp; try with_reducible rfl)
  refine wpAnyH_takeM (i := 12) (v := ?v3_12) (l' := bm 14 8191) (a' := ?a3_12) rfl (by kernel_rfl) (by kernel_rfl) (by kernel_rfl) (fun _ _ _ h => h) (Or.inl ⟨by kernel_rfl, ?h3_12⟩) (by kernel_rfl) ?p3_12 hS2 ?r3_12
  case h3_12 => (intro w hS; go_simp; try with_reducible rfl)
  case p3_12 => (go_simp; try with_reducible rfl)
  refine wpAnyH_takeM (i := 13) (v := ?v3_13) (l' := bm 14 16383) (a' := ?a3_13) rfl (by kernel_rfl) (by kernel_rfl) (by kernel_rfl) (fun _ _ _ h => h) (Or.inl ⟨by kernel_rfl, ?h3_13⟩) (by kernel_rfl) ?p3_13 hS2 ?r3_13
  case h3_13 => (intro w hS; go_simp; try with_reducible rfl)
  case p3_13 => (go_simp; try with_reducible rfl)
  refine wpAnyH_done (by kernel_rfl) ?_ _
  clear hS2
  have hq := (HO.out _ D2.out).2
  clear hr5
  clear hq
  go_wp2_with fail
  go_wp2_with fail
  refine wp_region_held (S := (fun w' => Below W.heap.size W w' ∧ w'.cell? ⟨w.heap.size, 0, none⟩ = some (Value.bool an) ∧ w'.cell? ⟨w.heap.size, 1, none⟩ = some (Value.slice (some ⟨g, 0, none⟩) aw.length c) ∧ w'.cell? ⟨w.heap.size, 2, none⟩ = some (Value.int IntKind.i64 ae))) (by kernel_rfl) ?_
  (try change wpAnyH _ _ _ _ _ _ _ (World.drew _))
  have hS0 := HO.out _ (Below.drew D2.out)
  refine wpAnyH_takeM (i := 0) (v := ?v4_0) (l' := bm 14 1) (a' := ?a4_0) rfl (by kernel_rfl) (by kernel_rfl) (by kernel_rfl) (fun _ _ _ h => h) (Or.inl ⟨by kernel_rfl, ?h4_0⟩) (by kernel_rfl) ?p4_0 hS0 ?r4_0
  case h4_0 => (intro w hS; go_simp; try with_reducible rfl)
  case p4_0 => (go_simp; try with_reducible rfl)
  refine wpAnyH_takeM (i := 1) (v := ?v4_1) (l' := bm 14 3) (a' := ?a4_1) rfl (by kernel_rfl) (by kernel_rfl) (by kernel_rfl) (fun _ _ _ h => h) (Or.inl ⟨by kernel_rfl, ?h4_1⟩) (by kernel_rfl) ?p4_1 hS0 ?r4_1
  case h4_1 => (intro w hS; go_simp; try with_reducible rfl)
  case p4_1 => (go_simp; try with_reducible rfl)
  refine wpAnyH_takeM (i := 2) (v := ?v4_2) (l' := bm 14 7) (a' := ?a4_2) rfl (by kernel_rfl) (by kernel_rfl) (by kernel_rfl) (fun _ _ _ h => h) (Or.inl ⟨by kernel_rfl, ?h4_2⟩) (by kernel_rfl) ?p4_2 hS0 ?r4_2
  case h4_2 => (intro w hS; go_simp; try with_reducible rfl)
  case p4_2 => (go_simp; try with_reducible rfl)
  refine wpAnyH_takeM (i := 3) (v := ?v4_3) (l' := bm 14 15) (a' := ?a4_3) rfl (by kernel_rfl) (by kernel_rfl) (by kernel_rfl) (fun _ _ _ h => h) (Or.inl ⟨by kernel_rfl, ?h4_3⟩) (by kernel_rfl) ?p4_3 hS0 ?r4_3
  case h4_3 => (intro w hS; go_simp; try with_reducible rfl)
  case p4_3 => (go_simp; try with_reducible rfl)
  refine wpAnyH_takeM (i := 4) (v := ?v4_4) (l' := bm 14 31) (a' := ?a4_4) rfl (by kernel_rfl) (by kernel_rfl) (by kernel_rfl) (fun _ _ _ h => h) (Or.inl ⟨by kernel_rfl, ?h4_4⟩) (by kernel_rfl) ?p4_4 hS0 ?r4_4
  case h4_4 => (intro w hS; go_simp; try with_reducible rfl)
  case p4_4 => (go_simp; try with_reducible rfl)
  refine wpAnyH_takeM (i := 5) (v := ?v4_5) (l' := bm 14 63) (a' := ?a4_5) rfl (by kernel_rfl) (by kernel_rfl) (by kernel_rfl) (fun _ _ _ h => h) (Or.inl ⟨by kernel_rfl, ?h4_5⟩) (by kernel_rfl) ?p4_5 hS0 ?r4_5
  case h4_5 => (intro w hS; go_simp; try with_reducible rfl)
  case p4_5 => (go_simp; try with_reducible rfl)
  refine wpAnyH_takeM (i := 6) (v := ?v4_6) (l' := bm 14 127) (a' := ?a4_6) rfl (by kernel_rfl) (by kernel_rfl) (by kernel_rfl) (fun _ _ _ h => h) (Or.inl ⟨by kernel_rfl, ?h4_6⟩) (by kernel_rfl) ?p4_6 hS0 ?r4_6
  case h4_6 => (intro w hS; go_simp; try with_reducible rfl)
  case p4_6 => (go_simp; try with_reducible rfl)
  refine wpAnyH_takeM (i := 8) (v := ?v4_8) (l' := bm 14 383) (a' := ?a4_8) rfl (by kernel_rfl) (by kernel_rfl) (by kernel_rfl) (fun _ _ _ h => h) (Or.inl ⟨by kernel_rfl, ?h4_8⟩) (by kernel_rfl) ?p4_8 hS0 ?r4_8
  case h4_8 => (intro w hS; go_simp; try with_reducible rfl)
  case p4_8 => (go_simp; try with_reducible rfl)
  refine wpAnyH_oneM (i := 7) (l' := bm 14 511) rfl (by kernel_rfl) (by kernel_rfl) (by kernel_rfl) (fun K hK => ?_)
  have hP := hS0.1
  go_simp
  go_at_call 22
  refine (OH.out _).mono ?_
  rintro r w3 ⟨g6, c6, rfl, hr6, -, hb⟩
  dsimp only
  have D3 := Lib.hid (below_step hP hb)
  clear hb
  have hS1 := HO.out _ (D3.out)
  clear hP hS0
  refine hK _ _ hS1 ?_
  clear hK K
  refine wpAnyH_oneM (i := 9) (l' := bm 14 1023) rfl (by kernel_rfl) (by kernel_rfl) (by kernel_rfl) (fun K hK => ?_)
  have hP := hS1.1
  go_simp
  go_at_call 24
  refine (UH.out _ g6 c6 (below_step HB.out hP) hr6).mono ?_
  rintro r w4 ⟨rfl, hb⟩
  dsimp only
  have D4 := Lib.hid (below_step hP hb)
  clear hb
  have hS2 := HO.out _ (D4.out)
  clear hP hS1
  refine hK _ _ hS2 ?_
  clear hK K
  refine wpAnyH_takeM (i := 10) (v := ?v4_10) (l' := bm 14 2047) (a' := ?a4_10) rfl (by kernel_rfl) (by kernel_rfl) (by kernel_rfl) (fun _ _ _ h => h) (Or.inl ⟨by kernel_rfl, ?h4_10⟩) (by kernel_rfl) ?p4_10 hS2 ?r4_10
  case h4_10 => (intro w hS; go_simp; try with_reducible rfl)
  case p4_10 => (go_simp; try with_reducible rfl)
  refine wpAnyH_takeM (i := 11) (v := ?v4_11) (l' := bm 14 4095) (a' := ?a4_11) rfl (by kernel_rfl) (by kernel_rfl) (by kernel_rfl) (fun _ _ _ h => h) (Or.inl ⟨by kernel_rfl, ?h4_11⟩) (by kernel_rfl) ?p4_11 hS2 ?r4_11
  case h4_11 => (intro w hS; go_simp; try with_reducible rfl)
  case p4_11 => (go_simp; try with_reducible rfl)
  refine wpAnyH_takeM (i := 12) (v := ?v4_12) (l' := bm 14 8191) (a' := ?a4_12) rfl (by kernel_rfl) (by kernel_rfl) (by kernel_rfl) (fun _ _ _ h => h) (Or.inl ⟨by kernel_rfl, ?h4_12⟩) (by kernel_rfl) ?p4_12 hS2 ?r4_12
  case h4_12 => (intro w hS; go_simp; try with_reducible rfl)
  case p4_12 => (go_simp; try with_reducible rfl)
  refine wpAnyH_takeM (i := 13) (v := ?v4_13) (l' := bm 14 16383) (a' := ?a4_13) rfl (by kernel_rfl) (by kernel_rfl) (by kernel_rfl) (fun _ _ _ h => h) (Or.inl ⟨by kernel_rfl, ?h4_13⟩) (by kernel_rfl) ?p4_13 hS2 ?r4_13
  case h4_13 => (intro w hS; go_simp; try with_reducible rfl)
  case p4_13 => (go_simp; try with_reducible rfl)
  refine wpAnyH_done (by kernel_rfl) ?_ _
  clear hS2
  have hq := (HO.out _ D4.out).2
  clear hr6
  clear hq
  go_wp2_with fail
  go_ret
  exact ⟨rfl, below_step HB.out D4.out⟩
set_option maxRecDepth 100000 in
set_option maxHeartbeats 4000000 in
theorem btw_fp {a : Bg} {w : World} {g : Nat} (ha : RL w g a.ws) (c : Nat) (na : Bnd a) {lo : Nat} (hl : lo < 18446744073709551616) (fl : fin lo = true) (ul : ¬ a.z < (ofB lo).z) :
    Calls Try.prog 31 #[bgv a g c, .float .f64 lo, .float .f64 9218868437227405312] w fun r w' => r = .returned (.bool true) ∧ Below w.heap.size w w' := by
  have n1 := o_self (a := lo) hl (nan_of_fin fl)
  have n2 := o_self (a := 9218868437227405312) (by decide) (by decide)
  have e1 := o_lt hl fl
  have e2 := o_le hl fl
  have OL := Lib.hid (fun w' => of_big lo hl w')
  have UL := Lib.hid (fun w' (g5 c5 : Nat) (k : Below w.heap.size w w') (h5 : RL w' g5 (ofB lo).ws) => less_no ul (ha.below' k) h5 c c5 na (ofB_bnd fl))
  clear ul hl fl
  have e3 := o_pi
  generalize ofB lo = p at *
  clear na ha
  obtain ⟨an, aw, ae⟩ := a
  go_enter Try.func31, Try.ntmps31
  go_wp2_with fail
  obtain ⟨W, hW, K0, hB, hz⟩ := by1 w 35 #[Value.bool an, Value.slice (some ⟨g, 0, none⟩) aw.length c, Value.int IntKind.i64 ae]
  rw [← hW]
  have K0 := Lib.hid K0
  have HB := Lib.hid hB
  clear hW hB hz
  have HO := Lib.hid (show ∀ w', Below W.heap.size W w' → (Below W.heap.size W w' ∧ w'.cell? ⟨w.heap.size, 0, none⟩ = some (Value.bool an) ∧ w'.cell? ⟨w.heap.size, 1, none⟩ = some (Value.slice (some ⟨g, 0, none⟩) aw.length c) ∧ w'.cell? ⟨w.heap.size, 2, none⟩ = some (Value.int IntKind.i64 ae)) from fun w' h => ⟨h, (K0.out.below h K0.out.lt).cell 0, (K0.out.below h K0.out.lt).cell 1, (K0.out.below h K0.out.lt).cell 2⟩)
  have D0 := Lib.hid (Below.refl W.heap.size W)
  go_wp2_with fail
  refine wp_region_held (S := (fun w' => Below W.heap.size W w' ∧ w'.cell? ⟨w.heap.size, 0, none⟩ = some (Value.bool an) ∧ w'.cell? ⟨w.heap.size, 1, none⟩ = some (Value.slice (some ⟨g, 0, none⟩) aw.length c) ∧ w'.cell? ⟨w.heap.size, 2, none⟩ = some (Value.int IntKind.i64 ae))) (by kernel_rfl) ?_
  (try change wpAnyH _ _ _ _ _ _ _ (World.drew _))
  have hS0 := HO.out _ (Below.drew D0.out)
  refine wpAnyH_takeM (i := 0) (v := ?v3_0x1) (l' := bm 14 1) (a' := ?a3_0x1) rfl (by kernel_rfl) (by kernel_rfl) (by kernel_rfl) (fun _ _ _ h => h) (Or.inl ⟨by kernel_rfl, ?h3_0x1⟩) (by kernel_rfl) ?p3_0x1 hS0 ?r3_0x1
  case h3_0x1 => (intro w hS; go_simp; try with_reducible rfl)
  case p3_0x1 => (go_simp; try with_reducible rfl)
  refine wpAnyH_takeM (i := 1) (v := ?v3_1x1) (l' := bm 14 3) (a' := ?a3_1x1) rfl (by kernel_rfl) (by kernel_rfl) (by kernel_rfl) (fun _ _ _ h => h) (Or.inl ⟨by kernel_rfl, ?h3_1x1⟩) (by kernel_rfl) ?p3_1x1 hS0 ?r3_1x1
  case h3_1x1 => (intro w hS; go_simp; try with_reducible rfl)
  case p3_1x1 => (go_simp; try with_reducible rfl)
  refine wpAnyH_takeM (i := 2) (v := ?v3_2x1) (l' := bm 14 7) (a' := ?a3_2x1) rfl (by kernel_rfl) (by kernel_rfl) (by kernel_rfl) (fun _ _ _ h => h) (Or.inl ⟨by kernel_rfl, ?h3_2x1⟩) (by kernel_rfl) ?p3_2x1 hS0 ?r3_2x1
  case h3_2x1 => (intro w hS; go_simp; try with_reducible rfl)
  case p3_2x1 => (go_simp; try with_reducible rfl)
  refine wpAnyH_takeM (i := 3) (v := ?v3_3x1) (l' := bm 14 15) (a' := ?a3_3x1) rfl (by kernel_rfl) (by kernel_rfl) (by kernel_rfl) (fun _ _ _ h => h) (Or.inl ⟨by kernel_rfl, ?h3_3x1⟩) (by kernel_rfl) ?p3_3x1 hS0 ?r3_3x1
  case h3_3x1 => (intro w hS; go_simp; try with_reducible rfl)
  case p3_3x1 => (go_simp; try with_reducible rfl)
  refine wpAnyH_takeM (i := 4) (v := ?v3_4x1) (l' := bm 14 31) (a' := ?a3_4x1) rfl (by kernel_rfl) (by kernel_rfl) (by kernel_rfl) (fun _ _ _ h => h) (Or.inl ⟨by kernel_rfl, ?h3_4x1⟩) (by kernel_rfl) ?p3_4x1 hS0 ?r3_4x1
  case h3_4x1 => (intro w hS; go_simp; try with_reducible rfl)
  case p3_4x1 => (go_simp; try with_reducible rfl)
  refine wpAnyH_takeM (i := 5) (v := ?v3_5x1) (l' := bm 14 63) (a' := ?a3_5x1) rfl (by kernel_rfl) (by kernel_rfl) (by kernel_rfl) (fun _ _ _ h => h) (Or.inl ⟨by kernel_rfl, ?h3_5x1⟩) (by kernel_rfl) ?p3_5x1 hS0 ?r3_5x1
  case h3_5x1 => (intro w hS; go_simp; try with_reducible rfl)
  case p3_5x1 => (go_simp; try with_reducible rfl)
  refine wpAnyH_takeM (i := 6) (v := ?v3_6x1) (l' := bm 14 127) (a' := ?a3_6x1) rfl (by kernel_rfl) (by kernel_rfl) (by kernel_rfl) (fun _ _ _ h => h) (Or.inl ⟨by kernel_rfl, ?h3_6x1⟩) (by kernel_rfl) ?p3_6x1 hS0 ?r3_6x1
  case h3_6x1 => (intro w hS; go_simp; try with_reducible rfl)
  case p3_6x1 => (go_simp; try with_reducible rfl)
  refine wpAnyH_takeM (i := 7) (v := ?v3_7x1) (l' := bm 14 255) (a' := ?a3_7x1) rfl (by kernel_rfl) (by kernel_rfl) (by kernel_rfl) (fun _ _ _ h => h) (Or.inl ⟨by kernel_rfl, ?h3_7x1⟩) (by kernel_rfl) ?p3_7x1 hS0 ?r3_7x1
  case h3_7x1 => (intro w hS; go_simp; try with_reducible rfl)
  case p3_7x1 => (go_simp; try with_reducible rfl)
  refine wpAnyH_oneM (i := 8) (l' := bm 14 511) rfl (by kernel_rfl) (by kernel_rfl) (by kernel_rfl) (fun K hK => ?_)
  have hP := hS0.1
  go_simp
  go_at_call 22
  refine (OL.out _).mono ?_
  rintro r w1 ⟨g5, c5, rfl, hr5, -, hb⟩
  dsimp only
  have D1 := Lib.hid (below_step hP hb)
  clear hb
  have hS1 := HO.out _ (D1.out)
  clear hP hS0
  refine hK _ _ hS1 ?_
  clear hK K
  refine wpAnyH_oneM (i := 9) (l' := bm 14 1023) rfl (by kernel_rfl) (by kernel_rfl) (by kernel_rfl) (fun K hK => ?_)
  have hP := hS1.1
  go_simp
  go_at_call 24
  refine (UL.out _ g5 c5 (below_step HB.out hP) hr5).mono ?_
  rintro r w2 ⟨rfl, hb⟩
  dsimp only
  have D2 := Lib.hid (below_step hP hb)
  clear hb
  have hS2 := HO.out _ (D2.out)
  clear hP hS1
  refine hK _ _ hS2 ?_
  clear hK K
  refine wpAnyH_takeM (i := 10) (v := ?v3_10x1) (l' := bm 14 2047) (a' := ?a3_10x1) rfl (by kernel_rfl) (by kernel_rfl) (by kernel_rfl) (fun _ _ _ h => h) (Or.inl ⟨by kernel_rfl, ?h3_10x1⟩) (by kernel_rfl) ?p3_10x1 hS2 ?r3_10x1
  case h3_10x1 => (intro w hS; go_simp; try with_reducible rfl)
  case p3_10x1 => (go_simp; try with_reducible rfl)
  refine wpAnyH_takeM (i := 11) (v := ?v3_11x1) (l' := bm 14 4095) (a' := ?a3_11x1) rfl (by kernel_rfl) (by kernel_rfl) (by kernel_rfl) (fun _ _ _ h => h) (Or.inl ⟨by kernel_rfl, ?h3_11x1⟩) (by kernel_rfl) ?p3_11x1 hS2 ?r3_11x1
  case h3_11x1 => (intro w hS; go_simp; try with_reducible rfl)
  case p3_11x1 => (go_simp; try with_reducible rfl)
  refine wpAnyH_takeM (i := 12) (v := ?v3_12x1) (l' := bm 14 8191) (a' := ?a3_12x1) rfl (by kernel_rfl) (by kernel_rfl) (by kernel_rfl) (fun _ _ _ h => h) (Or.inl ⟨by kernel_rfl, ?h3_12x1⟩) (by kernel_rfl) ?p3_12x1 hS2 ?r3_12x1
  case h3_12x1 => (intro w hS; go_simp; try with_reducible rfl)
  case p3_12x1 => (go_simp; try with_reducible rfl)
  refine wpAnyH_takeM (i := 13) (v := ?v3_13x1) (l' := bm 14 16383) (a' := ?a3_13x1) rfl (by kernel_rfl) (by kernel_rfl) (by kernel_rfl) (fun _ _ _ h => h) (Or.inl ⟨by kernel_rfl, ?h3_13x1⟩) (by kernel_rfl) ?p3_13x1 hS2 ?r3_13x1
  case h3_13x1 => (intro w hS; go_simp; try with_reducible rfl)
  case p3_13x1 => (go_simp; try with_reducible rfl)
  refine wpAnyH_done (by kernel_rfl) ?_ _
  clear hS2
  have hq := (HO.out _ D2.out).2
  clear hr5
  clear hq
  go_wp2_with fail
  go_wp2_with fail
  refine wp_region_held (S := (fun w' => Below W.heap.size W w' ∧ w'.cell? ⟨w.heap.size, 0, none⟩ = some (Value.bool an) ∧ w'.cell? ⟨w.heap.size, 1, none⟩ = some (Value.slice (some ⟨g, 0, none⟩) aw.length c) ∧ w'.cell? ⟨w.heap.size, 2, none⟩ = some (Value.int IntKind.i64 ae))) (by kernel_rfl) ?_
  (try change wpAnyH _ _ _ _ _ _ _ (World.drew _))
  have hS0 := HO.out _ (Below.drew D2.out)
  refine wpAnyH_takeM (i := 0) (v := ?v4_0x1) (l' := bm 14 1) (a' := ?a4_0x1) rfl (by kernel_rfl) (by kernel_rfl) (by kernel_rfl) (fun _ _ _ h => h) (Or.inl ⟨by kernel_rfl, ?h4_0x1⟩) (by kernel_rfl) ?p4_0x1 hS0 ?r4_0x1
  case h4_0x1 => (intro w hS; go_simp; try with_reducible rfl)
  case p4_0x1 => (go_simp; try with_reducible rfl)
  refine wpAnyH_takeM (i := 1) (v := ?v4_1x1) (l' := bm 14 3) (a' := ?a4_1x1) rfl (by kernel_rfl) (by kernel_rfl) (by kernel_rfl) (fun _ _ _ h => h) (Or.inl ⟨by kernel_rfl, ?h4_1x1⟩) (by kernel_rfl) ?p4_1x1 hS0 ?r4_1x1
  case h4_1x1 => (intro w hS; go_simp; try with_reducible rfl)
  case p4_1x1 => (go_simp; try with_reducible rfl)
  refine wpAnyH_takeM (i := 2) (v := ?v4_2x1) (l' := bm 14 7) (a' := ?a4_2x1) rfl (by kernel_rfl) (by kernel_rfl) (by kernel_rfl) (fun _ _ _ h => h) (Or.inl ⟨by kernel_rfl, ?h4_2x1⟩) (by kernel_rfl) ?p4_2x1 hS0 ?r4_2x1
  case h4_2x1 => (intro w hS; go_simp; try with_reducible rfl)
  case p4_2x1 => (go_simp; try with_reducible rfl)
  refine wpAnyH_takeM (i := 3) (v := undef) (l' := bm 14 15) (a' := ?a4_3x1) rfl (by kernel_rfl) (by kernel_rfl) (by kernel_rfl) (fun _ _ _ h => h) (Or.inr ⟨by kernel_rfl, rfl⟩) (by kernel_rfl) ?p4_3x1 hS0 ?_
  case p4_3x1 => (go_simp; try with_reducible rfl)
  refine wpAnyH_takeM (i := 4) (v := undef) (l' := bm 14 31) (a' := ?a4_4x1) rfl (by kernel_rfl) (by kernel_rfl) (by kernel_rfl) (fun _ _ _ h => h) (Or.inr ⟨by kernel_rfl, rfl⟩) (by kernel_rfl) ?p4_4x1 hS0 ?_
  case p4_4x1 => (go_simp; try with_reducible rfl)
  refine wpAnyH_takeM (i := 5) (v := undef) (l' := bm 14 63) (a' := ?a4_5x1) rfl (by kernel_rfl) (by kernel_rfl) (by kernel_rfl) (fun _ _ _ h => h) (Or.inr ⟨by kernel_rfl, rfl⟩) (by kernel_rfl) ?p4_5x1 hS0 ?_
  case p4_5x1 => (go_simp; try with_reducible rfl)
  refine wpAnyH_takeM (i := 6) (v := undef) (l' := bm 14 127) (a' := ?a4_6x1) rfl (by kernel_rfl) (by kernel_rfl) (by kernel_rfl) (fun _ _ _ h => h) (Or.inr ⟨by kernel_rfl, rfl⟩) (by kernel_rfl) ?p4_6x1 hS0 ?_
  case p4_6x1 => (go_simp; try with_reducible rfl)
  refine wpAnyH_takeM (i := 7) (v := undef) (l' := bm 14 255) (a' := ?a4_7x1) rfl (by kernel_rfl) (by kernel_rfl) (by kernel_rfl) (fun _ _ _ h => h) (Or.inr ⟨by kernel_rfl, rfl⟩) (by kernel_rfl) ?p4_7x1 hS0 ?_
  case p4_7x1 => (go_simp; try with_reducible rfl)
  refine wpAnyH_takeM (i := 8) (v := undef) (l' := bm 14 511) (a' := ?a4_8x1) rfl (by kernel_rfl) (by kernel_rfl) (by kernel_rfl) (fun _ _ _ h => h) (Or.inr ⟨by kernel_rfl, rfl⟩) (by kernel_rfl) ?p4_8x1 hS0 ?_
  case p4_8x1 => (go_simp; try with_reducible rfl)
  refine wpAnyH_takeM (i := 9) (v := undef) (l' := bm 14 1023) (a' := ?a4_9x1) rfl (by kernel_rfl) (by kernel_rfl) (by kernel_rfl) (fun _ _ _ h => h) (Or.inr ⟨by kernel_rfl, rfl⟩) (by kernel_rfl) ?p4_9x1 hS0 ?_
  case p4_9x1 => (go_simp; try with_reducible rfl)
  refine wpAnyH_takeM (i := 10) (v := undef) (l' := bm 14 2047) (a' := ?a4_10x1) rfl (by kernel_rfl) (by kernel_rfl) (by kernel_rfl) (fun _ _ _ h => h) (Or.inr ⟨by kernel_rfl, rfl⟩) (by kernel_rfl) ?p4_10x1 hS0 ?_
  case p4_10x1 => (go_simp; try with_reducible rfl)
  refine wpAnyH_takeM (i := 11) (v := undef) (l' := bm 14 4095) (a' := ?a4_11x1) rfl (by kernel_rfl) (by kernel_rfl) (by kernel_rfl) (fun _ _ _ h => h) (Or.inr ⟨by kernel_rfl, rfl⟩) (by kernel_rfl) ?p4_11x1 hS0 ?_
  case p4_11x1 => (go_simp; try with_reducible rfl)
  refine wpAnyH_takeM (i := 12) (v := ?v4_12x1) (l' := bm 14 8191) (a' := ?a4_12x1) rfl (by kernel_rfl) (by kernel_rfl) (by kernel_rfl) (fun _ _ _ h => h) (Or.inl ⟨by kernel_rfl, ?h4_12x1⟩) (by kernel_rfl) ?p4_12x1 hS0 ?r4_12x1
  case h4_12x1 => (intro w hS; go_simp; try with_reducible rfl)
  case p4_12x1 => (go_simp; try with_reducible rfl)
  refine wpAnyH_takeM (i := 13) (v := ?v4_13x1) (l' := bm 14 16383) (a' := ?a4_13x1) rfl (by kernel_rfl) (by kernel_rfl) (by kernel_rfl) (fun _ _ _ h => h) (Or.inl ⟨by kernel_rfl, ?h4_13x1⟩) (by kernel_rfl) ?p4_13x1 hS0 ?r4_13x1
  case h4_13x1 => (intro w hS; go_simp; try with_reducible rfl)
  case p4_13x1 => (go_simp; try with_reducible rfl)
  refine wpAnyH_done (by kernel_rfl) ?_ _
  have D3 := Lib.hid (Below.drew D2.out)
  clear hS0
  have hq := (HO.out _ D3.out).2
  clear hq
  go_wp2_with fail
  go_ret
  exact ⟨rfl, below_step HB.out D3.out⟩
set_option maxRecDepth 100000 in
set_option maxHeartbeats 4000000 in
theorem btw_nf {a : Bg} {w : World} {g : Nat} (ha : RL w g a.ws) (c : Nat) (na : Bnd a) {hi : Nat} (hh : hi < 18446744073709551616) (fh : fin hi = true) (uh : ¬ (ofB hi).z < a.z) :
    Calls Try.prog 31 #[bgv a g c, .float .f64 18442240474082181120, .float .f64 hi] w fun r w' => r = .returned (.bool true) ∧ Below w.heap.size w w' := by
  have n1 := o_self (a := 18442240474082181120) (by decide) (by decide)
  have n2 := o_self (a := hi) hh (nan_of_fin fh)
  have e1 := o_ni
  have e3 := o_gt hh fh
  have e4 := o_ge hh fh
  have OH := Lib.hid (fun w' => of_big hi hh w')
  have UH := Lib.hid (fun w' (g5 c5 : Nat) (k : Below w.heap.size w w') (h5 : RL w' g5 (ofB hi).ws) => less_no uh h5 (ha.below' k) c5 c (ofB_bnd fh) na)
  clear uh hh fh
  generalize ofB hi = q at *
  clear na ha
  obtain ⟨an, aw, ae⟩ := a
  go_enter Try.func31, Try.ntmps31
  go_wp2_with fail
  obtain ⟨W, hW, K0, hB, hz⟩ := by1 w 35 #[Value.bool an, Value.slice (some ⟨g, 0, none⟩) aw.length c, Value.int IntKind.i64 ae]
  rw [← hW]
  have K0 := Lib.hid K0
  have HB := Lib.hid hB
  clear hW hB hz
  have HO := Lib.hid (show ∀ w', Below W.heap.size W w' → (Below W.heap.size W w' ∧ w'.cell? ⟨w.heap.size, 0, none⟩ = some (Value.bool an) ∧ w'.cell? ⟨w.heap.size, 1, none⟩ = some (Value.slice (some ⟨g, 0, none⟩) aw.length c) ∧ w'.cell? ⟨w.heap.size, 2, none⟩ = some (Value.int IntKind.i64 ae)) from fun w' h => ⟨h, (K0.out.below h K0.out.lt).cell 0, (K0.out.below h K0.out.lt).cell 1, (K0.out.below h K0.out.lt).cell 2⟩)
  have D0 := Lib.hid (Below.refl W.heap.size W)
  go_wp2_with fail
  refine wp_region_held (S := (fun w' => Below W.heap.size W w' ∧ w'.cell? ⟨w.heap.size, 0, none⟩ = some (Value.bool an) ∧ w'.cell? ⟨w.heap.size, 1, none⟩ = some (Value.slice (some ⟨g, 0, none⟩) aw.length c) ∧ w'.cell? ⟨w.heap.size, 2, none⟩ = some (Value.int IntKind.i64 ae))) (by kernel_rfl) ?_
  (try change wpAnyH _ _ _ _ _ _ _ (World.drew _))
  have hS0 := HO.out _ (Below.drew D0.out)
  refine wpAnyH_takeM (i := 0) (v := ?v3_0x2) (l' := bm 14 1) (a' := ?a3_0x2) rfl (by kernel_rfl) (by kernel_rfl) (by kernel_rfl) (fun _ _ _ h => h) (Or.inl ⟨by kernel_rfl, ?h3_0x2⟩) (by kernel_rfl) ?p3_0x2 hS0 ?r3_0x2
  case h3_0x2 => (intro w hS; go_simp; try with_reducible rfl)
  case p3_0x2 => (go_simp; try with_reducible rfl)
  refine wpAnyH_takeM (i := 1) (v := ?v3_1x2) (l' := bm 14 3) (a' := ?a3_1x2) rfl (by kernel_rfl) (by kernel_rfl) (by kernel_rfl) (fun _ _ _ h => h) (Or.inl ⟨by kernel_rfl, ?h3_1x2⟩) (by kernel_rfl) ?p3_1x2 hS0 ?r3_1x2
  case h3_1x2 => (intro w hS; go_simp; try with_reducible rfl)
  case p3_1x2 => (go_simp; try with_reducible rfl)
  refine wpAnyH_takeM (i := 2) (v := ?v3_2x2) (l' := bm 14 7) (a' := ?a3_2x2) rfl (by kernel_rfl) (by kernel_rfl) (by kernel_rfl) (fun _ _ _ h => h) (Or.inl ⟨by kernel_rfl, ?h3_2x2⟩) (by kernel_rfl) ?p3_2x2 hS0 ?r3_2x2
  case h3_2x2 => (intro w hS; go_simp; try with_reducible rfl)
  case p3_2x2 => (go_simp; try with_reducible rfl)
  refine wpAnyH_takeM (i := 3) (v := undef) (l' := bm 14 15) (a' := ?a3_3x2) rfl (by kernel_rfl) (by kernel_rfl) (by kernel_rfl) (fun _ _ _ h => h) (Or.inr ⟨by kernel_rfl, rfl⟩) (by kernel_rfl) ?p3_3x2 hS0 ?_
  case p3_3x2 => (go_simp; try with_reducible rfl)
  refine wpAnyH_takeM (i := 4) (v := undef) (l' := bm 14 31) (a' := ?a3_4x2) rfl (by kernel_rfl) (by kernel_rfl) (by kernel_rfl) (fun _ _ _ h => h) (Or.inr ⟨by kernel_rfl, rfl⟩) (by kernel_rfl) ?p3_4x2 hS0 ?_
  case p3_4x2 => (go_simp; try with_reducible rfl)
  refine wpAnyH_takeM (i := 5) (v := undef) (l' := bm 14 63) (a' := ?a3_5x2) rfl (by kernel_rfl) (by kernel_rfl) (by kernel_rfl) (fun _ _ _ h => h) (Or.inr ⟨by kernel_rfl, rfl⟩) (by kernel_rfl) ?p3_5x2 hS0 ?_
  case p3_5x2 => (go_simp; try with_reducible rfl)
  refine wpAnyH_takeM (i := 6) (v := undef) (l' := bm 14 127) (a' := ?a3_6x2) rfl (by kernel_rfl) (by kernel_rfl) (by kernel_rfl) (fun _ _ _ h => h) (Or.inr ⟨by kernel_rfl, rfl⟩) (by kernel_rfl) ?p3_6x2 hS0 ?_
  case p3_6x2 => (go_simp; try with_reducible rfl)
  refine wpAnyH_takeM (i := 7) (v := undef) (l' := bm 14 255) (a' := ?a3_7x2) rfl (by kernel_rfl) (by kernel_rfl) (by kernel_rfl) (fun _ _ _ h => h) (Or.inr ⟨by kernel_rfl, rfl⟩) (by kernel_rfl) ?p3_7x2 hS0 ?_
  case p3_7x2 => (go_simp; try with_reducible rfl)
  refine wpAnyH_takeM (i := 8) (v := undef) (l' := bm 14 511) (a' := ?a3_8x2) rfl (by kernel_rfl) (by kernel_rfl) (by kernel_rfl) (fun _ _ _ h => h) (Or.inr ⟨by kernel_rfl, rfl⟩) (by kernel_rfl) ?p3_8x2 hS0 ?_
  case p3_8x2 => (go_simp; try with_reducible rfl)
  refine wpAnyH_takeM (i := 9) (v := undef) (l' := bm 14 1023) (a' := ?a3_9x2) rfl (by kernel_rfl) (by kernel_rfl) (by kernel_rfl) (fun _ _ _ h => h) (Or.inr ⟨by kernel_rfl, rfl⟩) (by kernel_rfl) ?p3_9x2 hS0 ?_
  case p3_9x2 => (go_simp; try with_reducible rfl)
  refine wpAnyH_takeM (i := 10) (v := undef) (l' := bm 14 2047) (a' := ?a3_10x2) rfl (by kernel_rfl) (by kernel_rfl) (by kernel_rfl) (fun _ _ _ h => h) (Or.inr ⟨by kernel_rfl, rfl⟩) (by kernel_rfl) ?p3_10x2 hS0 ?_
  case p3_10x2 => (go_simp; try with_reducible rfl)
  refine wpAnyH_takeM (i := 11) (v := undef) (l' := bm 14 4095) (a' := ?a3_11x2) rfl (by kernel_rfl) (by kernel_rfl) (by kernel_rfl) (fun _ _ _ h => h) (Or.inr ⟨by kernel_rfl, rfl⟩) (by kernel_rfl) ?p3_11x2 hS0 ?_
  case p3_11x2 => (go_simp; try with_reducible rfl)
  refine wpAnyH_takeM (i := 12) (v := ?v3_12x2) (l' := bm 14 8191) (a' := ?a3_12x2) rfl (by kernel_rfl) (by kernel_rfl) (by kernel_rfl) (fun _ _ _ h => h) (Or.inl ⟨by kernel_rfl, ?h3_12x2⟩) (by kernel_rfl) ?p3_12x2 hS0 ?r3_12x2
  case h3_12x2 => (intro w hS; go_simp; try with_reducible rfl)
  case p3_12x2 => (go_simp; try with_reducible rfl)
  refine wpAnyH_takeM (i := 13) (v := ?v3_13x2) (l' := bm 14 16383) (a' := ?a3_13x2) rfl (by kernel_rfl) (by kernel_rfl) (by kernel_rfl) (fun _ _ _ h => h) (Or.inl ⟨by kernel_rfl, ?h3_13x2⟩) (by kernel_rfl) ?p3_13x2 hS0 ?r3_13x2
  case h3_13x2 => (intro w hS; go_simp; try with_reducible rfl)
  case p3_13x2 => (go_simp; try with_reducible rfl)
  refine wpAnyH_done (by kernel_rfl) ?_ _
  have D1 := Lib.hid (Below.drew D0.out)
  clear hS0
  have hq := (HO.out _ D1.out).2
  clear hq
  go_wp2_with fail
  go_wp2_with fail
  refine wp_region_held (S := (fun w' => Below W.heap.size W w' ∧ w'.cell? ⟨w.heap.size, 0, none⟩ = some (Value.bool an) ∧ w'.cell? ⟨w.heap.size, 1, none⟩ = some (Value.slice (some ⟨g, 0, none⟩) aw.length c) ∧ w'.cell? ⟨w.heap.size, 2, none⟩ = some (Value.int IntKind.i64 ae))) (by kernel_rfl) ?_
  (try change wpAnyH _ _ _ _ _ _ _ (World.drew _))
  have hS0 := HO.out _ (Below.drew D1.out)
  refine wpAnyH_takeM (i := 0) (v := ?v4_0x2) (l' := bm 14 1) (a' := ?a4_0x2) rfl (by kernel_rfl) (by kernel_rfl) (by kernel_rfl) (fun _ _ _ h => h) (Or.inl ⟨by kernel_rfl, ?h4_0x2⟩) (by kernel_rfl) ?p4_0x2 hS0 ?r4_0x2
  case h4_0x2 => (intro w hS; go_simp; try with_reducible rfl)
  case p4_0x2 => (go_simp; try with_reducible rfl)
  refine wpAnyH_takeM (i := 1) (v := ?v4_1x2) (l' := bm 14 3) (a' := ?a4_1x2) rfl (by kernel_rfl) (by kernel_rfl) (by kernel_rfl) (fun _ _ _ h => h) (Or.inl ⟨by kernel_rfl, ?h4_1x2⟩) (by kernel_rfl) ?p4_1x2 hS0 ?r4_1x2
  case h4_1x2 => (intro w hS; go_simp; try with_reducible rfl)
  case p4_1x2 => (go_simp; try with_reducible rfl)
  refine wpAnyH_takeM (i := 2) (v := ?v4_2x2) (l' := bm 14 7) (a' := ?a4_2x2) rfl (by kernel_rfl) (by kernel_rfl) (by kernel_rfl) (fun _ _ _ h => h) (Or.inl ⟨by kernel_rfl, ?h4_2x2⟩) (by kernel_rfl) ?p4_2x2 hS0 ?r4_2x2
  case h4_2x2 => (intro w hS; go_simp; try with_reducible rfl)
  case p4_2x2 => (go_simp; try with_reducible rfl)
  refine wpAnyH_takeM (i := 3) (v := ?v4_3x2) (l' := bm 14 15) (a' := ?a4_3x2) rfl (by kernel_rfl) (by kernel_rfl) (by kernel_rfl) (fun _ _ _ h => h) (Or.inl ⟨by kernel_rfl, ?h4_3x2⟩) (by kernel_rfl) ?p4_3x2 hS0 ?r4_3x2
  case h4_3x2 => (intro w hS; go_simp; try with_reducible rfl)
  case p4_3x2 => (go_simp; try with_reducible rfl)
  refine wpAnyH_takeM (i := 4) (v := ?v4_4x2) (l' := bm 14 31) (a' := ?a4_4x2) rfl (by kernel_rfl) (by kernel_rfl) (by kernel_rfl) (fun _ _ _ h => h) (Or.inl ⟨by kernel_rfl, ?h4_4x2⟩) (by kernel_rfl) ?p4_4x2 hS0 ?r4_4x2
  case h4_4x2 => (intro w hS; go_simp; try with_reducible rfl)
  case p4_4x2 => (go_simp; try with_reducible rfl)
  refine wpAnyH_takeM (i := 5) (v := ?v4_5x2) (l' := bm 14 63) (a' := ?a4_5x2) rfl (by kernel_rfl) (by kernel_rfl) (by kernel_rfl) (fun _ _ _ h => h) (Or.inl ⟨by kernel_rfl, ?h4_5x2⟩) (by kernel_rfl) ?p4_5x2 hS0 ?r4_5x2
  case h4_5x2 => (intro w hS; go_simp; try with_reducible rfl)
  case p4_5x2 => (go_simp; try with_reducible rfl)
  refine wpAnyH_takeM (i := 6) (v := ?v4_6x2) (l' := bm 14 127) (a' := ?a4_6x2) rfl (by kernel_rfl) (by kernel_rfl) (by kernel_rfl) (fun _ _ _ h => h) (Or.inl ⟨by kernel_rfl, ?h4_6x2⟩) (by kernel_rfl) ?p4_6x2 hS0 ?r4_6x2
  case h4_6x2 => (intro w hS; go_simp; try with_reducible rfl)
  case p4_6x2 => (go_simp; try with_reducible rfl)
  refine wpAnyH_takeM (i := 8) (v := ?v4_8x2) (l' := bm 14 383) (a' := ?a4_8x2) rfl (by kernel_rfl) (by kernel_rfl) (by kernel_rfl) (fun _ _ _ h => h) (Or.inl ⟨by kernel_rfl, ?h4_8x2⟩) (by kernel_rfl) ?p4_8x2 hS0 ?r4_8x2
  case h4_8x2 => (intro w hS; go_simp; try with_reducible rfl)
  case p4_8x2 => (go_simp; try with_reducible rfl)
  refine wpAnyH_oneM (i := 7) (l' := bm 14 511) rfl (by kernel_rfl) (by kernel_rfl) (by kernel_rfl) (fun K hK => ?_)
  have hP := hS0.1
  go_simp
  go_at_call 22
  refine (OH.out _).mono ?_
  rintro r w2 ⟨g6, c6, rfl, hr6, -, hb⟩
  dsimp only
  have D2 := Lib.hid (below_step hP hb)
  clear hb
  have hS1 := HO.out _ (D2.out)
  clear hP hS0
  refine hK _ _ hS1 ?_
  clear hK K
  refine wpAnyH_oneM (i := 9) (l' := bm 14 1023) rfl (by kernel_rfl) (by kernel_rfl) (by kernel_rfl) (fun K hK => ?_)
  have hP := hS1.1
  go_simp
  go_at_call 24
  refine (UH.out _ g6 c6 (below_step HB.out hP) hr6).mono ?_
  rintro r w3 ⟨rfl, hb⟩
  dsimp only
  have D3 := Lib.hid (below_step hP hb)
  clear hb
  have hS2 := HO.out _ (D3.out)
  clear hP hS1
  refine hK _ _ hS2 ?_
  clear hK K
  refine wpAnyH_takeM (i := 10) (v := ?v4_10x2) (l' := bm 14 2047) (a' := ?a4_10x2) rfl (by kernel_rfl) (by kernel_rfl) (by kernel_rfl) (fun _ _ _ h => h) (Or.inl ⟨by kernel_rfl, ?h4_10x2⟩) (by kernel_rfl) ?p4_10x2 hS2 ?r4_10x2
  case h4_10x2 => (intro w hS; go_simp; try with_reducible rfl)
  case p4_10x2 => (go_simp; try with_reducible rfl)
  refine wpAnyH_takeM (i := 11) (v := ?v4_11x2) (l' := bm 14 4095) (a' := ?a4_11x2) rfl (by kernel_rfl) (by kernel_rfl) (by kernel_rfl) (fun _ _ _ h => h) (Or.inl ⟨by kernel_rfl, ?h4_11x2⟩) (by kernel_rfl) ?p4_11x2 hS2 ?r4_11x2
  case h4_11x2 => (intro w hS; go_simp; try with_reducible rfl)
  case p4_11x2 => (go_simp; try with_reducible rfl)
  refine wpAnyH_takeM (i := 12) (v := ?v4_12x2) (l' := bm 14 8191) (a' := ?a4_12x2) rfl (by kernel_rfl) (by kernel_rfl) (by kernel_rfl) (fun _ _ _ h => h) (Or.inl ⟨by kernel_rfl, ?h4_12x2⟩) (by kernel_rfl) ?p4_12x2 hS2 ?r4_12x2
  case h4_12x2 => (intro w hS; go_simp; try with_reducible rfl)
  case p4_12x2 => (go_simp; try with_reducible rfl)
  refine wpAnyH_takeM (i := 13) (v := ?v4_13x2) (l' := bm 14 16383) (a' := ?a4_13x2) rfl (by kernel_rfl) (by kernel_rfl) (by kernel_rfl) (fun _ _ _ h => h) (Or.inl ⟨by kernel_rfl, ?h4_13x2⟩) (by kernel_rfl) ?p4_13x2 hS2 ?r4_13x2
  case h4_13x2 => (intro w hS; go_simp; try with_reducible rfl)
  case p4_13x2 => (go_simp; try with_reducible rfl)
  refine wpAnyH_done (by kernel_rfl) ?_ _
  clear hS2
  have hq := (HO.out _ D3.out).2
  clear hr6
  clear hq
  go_wp2_with fail
  go_ret
  exact ⟨rfl, below_step HB.out D3.out⟩
set_option maxRecDepth 100000 in
set_option maxHeartbeats 4000000 in
theorem btw_np {a : Bg} {w : World} {g : Nat} (ha : RL w g a.ws) (c : Nat) (na : Bnd a) :
    Calls Try.prog 31 #[bgv a g c, .float .f64 18442240474082181120, .float .f64 9218868437227405312] w fun r w' => r = .returned (.bool true) ∧ Below w.heap.size w w' := by
  have n1 := o_self (a := 18442240474082181120) (by decide) (by decide)
  have n2 := o_self (a := 9218868437227405312) (by decide) (by decide)
  have e1 := o_ni
  have e3 := o_pi
  clear na ha
  obtain ⟨an, aw, ae⟩ := a
  go_enter Try.func31, Try.ntmps31
  go_wp2_with fail
  obtain ⟨W, hW, K0, hB, hz⟩ := by1 w 35 #[Value.bool an, Value.slice (some ⟨g, 0, none⟩) aw.length c, Value.int IntKind.i64 ae]
  rw [← hW]
  have K0 := Lib.hid K0
  have HB := Lib.hid hB
  clear hW hB hz
  have HO := Lib.hid (show ∀ w', Below W.heap.size W w' → (Below W.heap.size W w' ∧ w'.cell? ⟨w.heap.size, 0, none⟩ = some (Value.bool an) ∧ w'.cell? ⟨w.heap.size, 1, none⟩ = some (Value.slice (some ⟨g, 0, none⟩) aw.length c) ∧ w'.cell? ⟨w.heap.size, 2, none⟩ = some (Value.int IntKind.i64 ae)) from fun w' h => ⟨h, (K0.out.below h K0.out.lt).cell 0, (K0.out.below h K0.out.lt).cell 1, (K0.out.below h K0.out.lt).cell 2⟩)
  have D0 := Lib.hid (Below.refl W.heap.size W)
  go_wp2_with fail
  refine wp_region_held (S := (fun w' => Below W.heap.size W w' ∧ w'.cell? ⟨w.heap.size, 0, none⟩ = some (Value.bool an) ∧ w'.cell? ⟨w.heap.size, 1, none⟩ = some (Value.slice (some ⟨g, 0, none⟩) aw.length c) ∧ w'.cell? ⟨w.heap.size, 2, none⟩ = some (Value.int IntKind.i64 ae))) (by kernel_rfl) ?_
  (try change wpAnyH _ _ _ _ _ _ _ (World.drew _))
  have hS0 := HO.out _ (Below.drew D0.out)
  refine wpAnyH_takeM (i := 0) (v := ?v3_0x3) (l' := bm 14 1) (a' := ?a3_0x3) rfl (by kernel_rfl) (by kernel_rfl) (by kernel_rfl) (fun _ _ _ h => h) (Or.inl ⟨by kernel_rfl, ?h3_0x3⟩) (by kernel_rfl) ?p3_0x3 hS0 ?r3_0x3
  case h3_0x3 => (intro w hS; go_simp; try with_reducible rfl)
  case p3_0x3 => (go_simp; try with_reducible rfl)
  refine wpAnyH_takeM (i := 1) (v := ?v3_1x3) (l' := bm 14 3) (a' := ?a3_1x3) rfl (by kernel_rfl) (by kernel_rfl) (by kernel_rfl) (fun _ _ _ h => h) (Or.inl ⟨by kernel_rfl, ?h3_1x3⟩) (by kernel_rfl) ?p3_1x3 hS0 ?r3_1x3
  case h3_1x3 => (intro w hS; go_simp; try with_reducible rfl)
  case p3_1x3 => (go_simp; try with_reducible rfl)
  refine wpAnyH_takeM (i := 2) (v := ?v3_2x3) (l' := bm 14 7) (a' := ?a3_2x3) rfl (by kernel_rfl) (by kernel_rfl) (by kernel_rfl) (fun _ _ _ h => h) (Or.inl ⟨by kernel_rfl, ?h3_2x3⟩) (by kernel_rfl) ?p3_2x3 hS0 ?r3_2x3
  case h3_2x3 => (intro w hS; go_simp; try with_reducible rfl)
  case p3_2x3 => (go_simp; try with_reducible rfl)
  refine wpAnyH_takeM (i := 3) (v := undef) (l' := bm 14 15) (a' := ?a3_3x3) rfl (by kernel_rfl) (by kernel_rfl) (by kernel_rfl) (fun _ _ _ h => h) (Or.inr ⟨by kernel_rfl, rfl⟩) (by kernel_rfl) ?p3_3x3 hS0 ?_
  case p3_3x3 => (go_simp; try with_reducible rfl)
  refine wpAnyH_takeM (i := 4) (v := undef) (l' := bm 14 31) (a' := ?a3_4x3) rfl (by kernel_rfl) (by kernel_rfl) (by kernel_rfl) (fun _ _ _ h => h) (Or.inr ⟨by kernel_rfl, rfl⟩) (by kernel_rfl) ?p3_4x3 hS0 ?_
  case p3_4x3 => (go_simp; try with_reducible rfl)
  refine wpAnyH_takeM (i := 5) (v := undef) (l' := bm 14 63) (a' := ?a3_5x3) rfl (by kernel_rfl) (by kernel_rfl) (by kernel_rfl) (fun _ _ _ h => h) (Or.inr ⟨by kernel_rfl, rfl⟩) (by kernel_rfl) ?p3_5x3 hS0 ?_
  case p3_5x3 => (go_simp; try with_reducible rfl)
  refine wpAnyH_takeM (i := 6) (v := undef) (l' := bm 14 127) (a' := ?a3_6x3) rfl (by kernel_rfl) (by kernel_rfl) (by kernel_rfl) (fun _ _ _ h => h) (Or.inr ⟨by kernel_rfl, rfl⟩) (by kernel_rfl) ?p3_6x3 hS0 ?_
  case p3_6x3 => (go_simp; try with_reducible rfl)
  refine wpAnyH_takeM (i := 7) (v := undef) (l' := bm 14 255) (a' := ?a3_7x3) rfl (by kernel_rfl) (by kernel_rfl) (by kernel_rfl) (fun _ _ _ h => h) (Or.inr ⟨by kernel_rfl, rfl⟩) (by kernel_rfl) ?p3_7x3 hS0 ?_
  case p3_7x3 => (go_simp; try with_reducible rfl)
  refine wpAnyH_takeM (i := 8) (v := undef) (l' := bm 14 511) (a' := ?a3_8x3) rfl (by kernel_rfl) (by kernel_rfl) (by kernel_rfl) (fun _ _ _ h => h) (Or.inr ⟨by kernel_rfl, rfl⟩) (by kernel_rfl) ?p3_8x3 hS0 ?_
  case p3_8x3 => (go_simp; try with_reducible rfl)
  refine wpAnyH_takeM (i := 9) (v := undef) (l' := bm 14 1023) (a' := ?a3_9x3) rfl (by kernel_rfl) (by kernel_rfl) (by kernel_rfl) (fun _ _ _ h => h) (Or.inr ⟨by kernel_rfl, rfl⟩) (by kernel_rfl) ?p3_9x3 hS0 ?_
  case p3_9x3 => (go_simp; try with_reducible rfl)
  refine wpAnyH_takeM (i := 10) (v := undef) (l' := bm 14 2047) (a' := ?a3_10x3) rfl (by kernel_rfl) (by kernel_rfl) (by kernel_rfl) (fun _ _ _ h => h) (Or.inr ⟨by kernel_rfl, rfl⟩) (by kernel_rfl) ?p3_10x3 hS0 ?_
  case p3_10x3 => (go_simp; try with_reducible rfl)
  refine wpAnyH_takeM (i := 11) (v := undef) (l' := bm 14 4095) (a' := ?a3_11x3) rfl (by kernel_rfl) (by kernel_rfl) (by kernel_rfl) (fun _ _ _ h => h) (Or.inr ⟨by kernel_rfl, rfl⟩) (by kernel_rfl) ?p3_11x3 hS0 ?_
  case p3_11x3 => (go_simp; try with_reducible rfl)
  refine wpAnyH_takeM (i := 12) (v := ?v3_12x3) (l' := bm 14 8191) (a' := ?a3_12x3) rfl (by kernel_rfl) (by kernel_rfl) (by kernel_rfl) (fun _ _ _ h => h) (Or.inl ⟨by kernel_rfl, ?h3_12x3⟩) (by kernel_rfl) ?p3_12x3 hS0 ?r3_12x3
  case h3_12x3 => (intro w hS; go_simp; try with_reducible rfl)
  case p3_12x3 => (go_simp; try with_reducible rfl)
  refine wpAnyH_takeM (i := 13) (v := ?v3_13x3) (l' := bm 14 16383) (a' := ?a3_13x3) rfl (by kernel_rfl) (by kernel_rfl) (by kernel_rfl) (fun _ _ _ h => h) (Or.inl ⟨by kernel_rfl, ?h3_13x3⟩) (by kernel_rfl) ?p3_13x3 hS0 ?r3_13x3
  case h3_13x3 => (intro w hS; go_simp; try with_reducible rfl)
  case p3_13x3 => (go_simp; try with_reducible rfl)
  refine wpAnyH_done (by kernel_rfl) ?_ _
  have D1 := Lib.hid (Below.drew D0.out)
  clear hS0
  have hq := (HO.out _ D1.out).2
  clear hq
  go_wp2_with fail
  go_wp2_with fail
  refine wp_region_held (S := (fun w' => Below W.heap.size W w' ∧ w'.cell? ⟨w.heap.size, 0, none⟩ = some (Value.bool an) ∧ w'.cell? ⟨w.heap.size, 1, none⟩ = some (Value.slice (some ⟨g, 0, none⟩) aw.length c) ∧ w'.cell? ⟨w.heap.size, 2, none⟩ = some (Value.int IntKind.i64 ae))) (by kernel_rfl) ?_
  (try change wpAnyH _ _ _ _ _ _ _ (World.drew _))
  have hS0 := HO.out _ (Below.drew D1.out)
  refine wpAnyH_takeM (i := 0) (v := ?v4_0x3) (l' := bm 14 1) (a' := ?a4_0x3) rfl (by kernel_rfl) (by kernel_rfl) (by kernel_rfl) (fun _ _ _ h => h) (Or.inl ⟨by kernel_rfl, ?h4_0x3⟩) (by kernel_rfl) ?p4_0x3 hS0 ?r4_0x3
  case h4_0x3 => (intro w hS; go_simp; try with_reducible rfl)
  case p4_0x3 => (go_simp; try with_reducible rfl)
  refine wpAnyH_takeM (i := 1) (v := ?v4_1x3) (l' := bm 14 3) (a' := ?a4_1x3) rfl (by kernel_rfl) (by kernel_rfl) (by kernel_rfl) (fun _ _ _ h => h) (Or.inl ⟨by kernel_rfl, ?h4_1x3⟩) (by kernel_rfl) ?p4_1x3 hS0 ?r4_1x3
  case h4_1x3 => (intro w hS; go_simp; try with_reducible rfl)
  case p4_1x3 => (go_simp; try with_reducible rfl)
  refine wpAnyH_takeM (i := 2) (v := ?v4_2x3) (l' := bm 14 7) (a' := ?a4_2x3) rfl (by kernel_rfl) (by kernel_rfl) (by kernel_rfl) (fun _ _ _ h => h) (Or.inl ⟨by kernel_rfl, ?h4_2x3⟩) (by kernel_rfl) ?p4_2x3 hS0 ?r4_2x3
  case h4_2x3 => (intro w hS; go_simp; try with_reducible rfl)
  case p4_2x3 => (go_simp; try with_reducible rfl)
  refine wpAnyH_takeM (i := 3) (v := undef) (l' := bm 14 15) (a' := ?a4_3x3) rfl (by kernel_rfl) (by kernel_rfl) (by kernel_rfl) (fun _ _ _ h => h) (Or.inr ⟨by kernel_rfl, rfl⟩) (by kernel_rfl) ?p4_3x3 hS0 ?_
  case p4_3x3 => (go_simp; try with_reducible rfl)
  refine wpAnyH_takeM (i := 4) (v := undef) (l' := bm 14 31) (a' := ?a4_4x3) rfl (by kernel_rfl) (by kernel_rfl) (by kernel_rfl) (fun _ _ _ h => h) (Or.inr ⟨by kernel_rfl, rfl⟩) (by kernel_rfl) ?p4_4x3 hS0 ?_
  case p4_4x3 => (go_simp; try with_reducible rfl)
  refine wpAnyH_takeM (i := 5) (v := undef) (l' := bm 14 63) (a' := ?a4_5x3) rfl (by kernel_rfl) (by kernel_rfl) (by kernel_rfl) (fun _ _ _ h => h) (Or.inr ⟨by kernel_rfl, rfl⟩) (by kernel_rfl) ?p4_5x3 hS0 ?_
  case p4_5x3 => (go_simp; try with_reducible rfl)
  refine wpAnyH_takeM (i := 6) (v := undef) (l' := bm 14 127) (a' := ?a4_6x3) rfl (by kernel_rfl) (by kernel_rfl) (by kernel_rfl) (fun _ _ _ h => h) (Or.inr ⟨by kernel_rfl, rfl⟩) (by kernel_rfl) ?p4_6x3 hS0 ?_
  case p4_6x3 => (go_simp; try with_reducible rfl)
  refine wpAnyH_takeM (i := 7) (v := undef) (l' := bm 14 255) (a' := ?a4_7x3) rfl (by kernel_rfl) (by kernel_rfl) (by kernel_rfl) (fun _ _ _ h => h) (Or.inr ⟨by kernel_rfl, rfl⟩) (by kernel_rfl) ?p4_7x3 hS0 ?_
  case p4_7x3 => (go_simp; try with_reducible rfl)
  refine wpAnyH_takeM (i := 8) (v := undef) (l' := bm 14 511) (a' := ?a4_8x3) rfl (by kernel_rfl) (by kernel_rfl) (by kernel_rfl) (fun _ _ _ h => h) (Or.inr ⟨by kernel_rfl, rfl⟩) (by kernel_rfl) ?p4_8x3 hS0 ?_
  case p4_8x3 => (go_simp; try with_reducible rfl)
  refine wpAnyH_takeM (i := 9) (v := undef) (l' := bm 14 1023) (a' := ?a4_9x3) rfl (by kernel_rfl) (by kernel_rfl) (by kernel_rfl) (fun _ _ _ h => h) (Or.inr ⟨by kernel_rfl, rfl⟩) (by kernel_rfl) ?p4_9x3 hS0 ?_
  case p4_9x3 => (go_simp; try with_reducible rfl)
  refine wpAnyH_takeM (i := 10) (v := undef) (l' := bm 14 2047) (a' := ?a4_10x3) rfl (by kernel_rfl) (by kernel_rfl) (by kernel_rfl) (fun _ _ _ h => h) (Or.inr ⟨by kernel_rfl, rfl⟩) (by kernel_rfl) ?p4_10x3 hS0 ?_
  case p4_10x3 => (go_simp; try with_reducible rfl)
  refine wpAnyH_takeM (i := 11) (v := undef) (l' := bm 14 4095) (a' := ?a4_11x3) rfl (by kernel_rfl) (by kernel_rfl) (by kernel_rfl) (fun _ _ _ h => h) (Or.inr ⟨by kernel_rfl, rfl⟩) (by kernel_rfl) ?p4_11x3 hS0 ?_
  case p4_11x3 => (go_simp; try with_reducible rfl)
  refine wpAnyH_takeM (i := 12) (v := ?v4_12x3) (l' := bm 14 8191) (a' := ?a4_12x3) rfl (by kernel_rfl) (by kernel_rfl) (by kernel_rfl) (fun _ _ _ h => h) (Or.inl ⟨by kernel_rfl, ?h4_12x3⟩) (by kernel_rfl) ?p4_12x3 hS0 ?r4_12x3
  case h4_12x3 => (intro w hS; go_simp; try with_reducible rfl)
  case p4_12x3 => (go_simp; try with_reducible rfl)
  refine wpAnyH_takeM (i := 13) (v := ?v4_13x3) (l' := bm 14 16383) (a' := ?a4_13x3) rfl (by kernel_rfl) (by kernel_rfl) (by kernel_rfl) (fun _ _ _ h => h) (Or.inl ⟨by kernel_rfl, ?h4_13x3⟩) (by kernel_rfl) ?p4_13x3 hS0 ?r4_13x3
  case h4_13x3 => (intro w hS; go_simp; try with_reducible rfl)
  case p4_13x3 => (go_simp; try with_reducible rfl)
  refine wpAnyH_done (by kernel_rfl) ?_ _
  have D2 := Lib.hid (Below.drew D1.out)
  clear hS0
  have hq := (HO.out _ D2.out).2
  clear hq
  go_wp2_with fail
  go_ret
  exact ⟨rfl, below_step HB.out D2.out⟩
end Go.Proofs.Ythkfaacgabkhhaa

namespace Go.Proofs.Ythkfaacgabkhhaa

def needM (N stop m : Nat) : Nat := (List.range N).countP fun i => stop.testBit i && !m.testBit i
theorem needM_self (N m : Nat) : needM N m m = 0 := by
  unfold needM
  rw [List.countP_eq_zero]
  intro i _
  cases m.testBit i <;> simp
def okM (md : Region.Mode) (ops : Array Oper) (N stop : Nat) (R M : List Nat) : Bool :=
  M.all fun m => m == stop || (needM N stop m != 0 && !(Region.ready md ops (bm N m)).isEmpty && (Region.ready md ops (bm N m)).all fun i =>
    R.contains i && !m.testBit i && M.contains (m ||| 2 ^ i) && needM N stop (m ||| 2 ^ i) + 1 == needM N stop m && decide ((bm N m).setIfInBounds i true = bm N (m ||| 2 ^ i)))
theorem wpAnyH_masks {P : Program} {ops : Array Oper} {Q : Exit → Act → World → Prop} {md : Region.Mode} {S : World → Prop} {N stop F : Nat} {R M : List Nat} {I : Nat → Act → World → Prop}
    (hok : okM md ops N stop R M = true)
    (step : ∀ m a w i, i ∈ R → m.testBit i = false → I m a w → wpOp P ops Q i (fun a' w' => S w' ∧ I (m ||| 2 ^ i) a' w') a w)
    (rest : ∀ a w, I stop a w → wpAnyH P md ops Q S F (bm N stop) a w) :
    ∀ n m a w, m ∈ M → needM N stop m = n → I m a w → wpAnyH P md ops Q S (F + n) (bm N m) a w := by
  intro n
  induction n with
  | zero =>
    intro m a w hm hn hI
    have h := List.all_eq_true.1 hok m hm
    rw [hn] at h
    have : m = stop := by simpa using h
    subst this
    exact rest a w hI
  | succ n ih =>
    intro m a w hm hn hI
    have h := List.all_eq_true.1 hok m hm
    by_cases e : m = stop
    · subst e; rw [needM_self] at hn; omega
    · simp only [Bool.or_eq_true, beq_iff_eq, e, false_or, Bool.and_eq_true, Bool.not_eq_true', List.isEmpty_eq_false_iff, List.all_eq_true] at h
      refine wpAnyH_all rfl h.1.2 fun i hi => ?_
      have g := h.2 i hi
      simp only [List.contains_iff_mem, decide_eq_true_eq] at g
      refine wpOp_mono (fun a' w' k => ⟨k.1, ?_⟩) (step m a w i g.1.1.1.1 (by simpa using g.1.1.1.2) hI)
      rw [g.2]
      exact ih _ _ _ g.1.1.2 (by have := g.1.2; omega) k.2
theorem wpAnyH_sets {P : Program} {ops : Array Oper} {Q : Exit → Act → World → Prop} {md : Region.Mode} {S : World → Prop} {N stop F fuel m : Nat} {R M : List Nat} (J : Act → Nat → Act → World → Prop) {a : Act} {w : World}
    (hok : okM md ops N stop R M = true) (hm : M.contains m = true) (hf : fuel = F + needM N stop m)
    (start : J a m a w)
    (step : ∀ m a' w i, i ∈ R → m.testBit i = false → J a m a' w → wpOp P ops Q i (fun a'' w' => S w' ∧ J a (m ||| 2 ^ i) a'' w') a' w)
    (rest : ∀ a' w, J a stop a' w → wpAnyH P md ops Q S F (bm N stop) a' w) :
    wpAnyH P md ops Q S fuel (bm N m) a w := by
  subst hf
  exact wpAnyH_masks (I := J a) hok step rest _ m a w (by simpa using hm) rfl start
theorem wpOp_at {P : Program} {ops : Array Oper} {Q : Exit → Act → World → Prop} {i : Nat} {o : Oper} {R : Act → World → Prop} {a : Act} {w : World}
    (hi : ops[i]? = some o) (hw : Region.wanted o (yielded ops a.tmps) = true) (h : ∀ K : Act → World → Prop, (∀ a' w', R a' w' → K a' w') → o.wp P a w K Q) : wpOp P ops Q i R a w := by
  unfold wpOp
  simp only [hi, hw, if_true]
  exact Or.inl (h _ fun a' w' k => k)
theorem tb_ne {m i j : Nat} (h : i ≠ j) : (m ||| 2 ^ i).testBit j = m.testBit j := by
  rw [Nat.testBit_or, Nat.testBit_two_pow_of_ne h, Bool.or_false]
theorem wpAnyH_frame {P : Program} {ops : Array Oper} {Q : Exit → Act → World → Prop} {md : Region.Mode} {S : World → Prop} {fuel : Nat} {l : Array Bool} {a a' : Act} {w : World} (ha : a = a') (h : wpAnyH P md ops Q S fuel l a' w) : wpAnyH P md ops Q S fuel l a w := ha ▸ h
end Go.Proofs.Ythkfaacgabkhhaa

