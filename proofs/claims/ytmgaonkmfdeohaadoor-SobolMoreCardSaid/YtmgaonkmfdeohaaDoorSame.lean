/- lanternref05.Same of two lists with the same draws: true. -/
import Derived.Test.YtmgaonkmfdeohaaDoorDraws
import Derived.BigQuiet
import Derived.Deep.QuietTactic
namespace Go.Proofs.YtmgaonkmfdeohaaDoor
open Go.RowKit

/-- A slice of n words f. -/
def Sl (w : World) (v : Value) (n : Nat) (f : Nat → Nat) : Prop :=
  ∃ A cap, v = .slice A n cap ∧ n ≤ cap ∧ (0 < n → ∃ g, A = some ⟨g, 0, none⟩ ∧ ∀ j, j < n → w.cell? ⟨g, j, none⟩ = some (.int .u32 (f j : Nat)))

theorem sl_of_own {w : World} {base n index seed : Nat} {v : Value} (h : w.ownsRow base 22 1 v n (dl index seed n)) : Sl w v n (dr index seed) := by
  have hc := h.2
  rcases hc with ⟨rfl, rfl⟩ | ⟨g, cap, cur, rfl, _, _, hcap, _⟩
  · exact ⟨none, 0, rfl, by omega, by omega⟩
  · refine ⟨_, _, rfl, hcap, fun _ => ⟨g, rfl, fun j hj => ?_⟩⟩
    have := h.cells (g := g) rfl j _ (dl_get index seed n j hj)
    have e : (⟨g, 0, none⟩ : Addr).add j = ⟨g, j, none⟩ := by unfold Addr.add; split <;> simp_all
    rwa [e] at this

theorem sl_nil (w : World) (f : Nat → Nat) : Sl w (.slice none 0 0) 0 f := ⟨none, 0, rfl, by omega, by omega⟩
theorem sl_below {w w' : World} {v : Value} {n : Nat} {f : Nat → Nat} (h : Sl w v n f) (hb : Below w.heap.size w w') : Sl w' v n f := by
  obtain ⟨A, cap, rfl, hcap, hc⟩ := h
  refine ⟨A, cap, rfl, hcap, fun hn => ?_⟩
  obtain ⟨g, rfl, hcell⟩ := hc hn
  refine ⟨g, rfl, fun j hj => ?_⟩
  have hlt := World.block_lt_of_cell? w _ (hcell j hj)
  rw [hb.cell (p := ⟨g, j, none⟩) hlt]
  exact hcell j hj

def SRel (n : Nat) (w : World) (c : Value) (wr : World) : Prop := ∃ k m : Nat, k ≤ n ∧ c = .int .i64 k ∧ wr = w.drewN m

set_option maxHeartbeats 1000000 in
theorem same_any (v u : Value) (n : Nat) (hn : n ≤ 256) (f : Nat → Nat) (w : World) (hv : Sl w v n f) (hu : Sl w u n f) :
    Calls Tryd.prog 20 #[v, u] w fun e w' => e = .returned (.bool true) ∧ ∃ m, w' = w.drewN m := by
  obtain ⟨A, ca, rfl, _, hA⟩ := hv
  obtain ⟨B, cb, rfl, _, hB⟩ := hu
  have HA := Lib.hid hA
  have HB := Lib.hid hB
  clear hA hB
  go_enter Tryd.func20, Tryd.ntmps20
  go_wp2_with fail
  go_loopw [5] (fun c wr => SRel n w c wr) (fun c _ => n - (intOf c).toNat)
  case atStart => exact ⟨0, 0, by omega, rfl, rfl⟩
  case round =>
    obtain ⟨k, m, hk, rfl, rfl⟩ := hrel
    by_cases hlt : k < n
    · obtain ⟨ga, rfl, ha⟩ := HA.out (by omega)
      obtain ⟨gb, rfl, hb⟩ := HB.out (by omega)
      have ha1 := ha k hlt
      have hb1 := hb k hlt
      clear ha hb
      have hne : (((f k : Nat) : Int) != ((f k : Nat) : Int)) = false := by simp
      generalize f k = x at *
      go_wp2_with fail
      go_quiet (fail)
      go_wp2
      go_roundw
      case rel => exact ⟨k + 1, m + nq, by omega, by go_num, rfl⟩
      case measure => simp [intOf]; omega
    · obtain rfl : k = n := by omega
      go_wp2
      go_ret
      exact ⟨rfl, m, rfl⟩
end Go.Proofs.YtmgaonkmfdeohaaDoor
