/- Plain: whole numbers at or below a float. · Floor: both sides. · Floor: the walks of both sides; the row of roots. · Plain: the whole number at or below all of a span. -/
import Derived.Test.YtdgaaceebghcpaaZFl1
import Derived.Test.YtdgaaceebghcpaaZGc
import Derived.Test.YtdgaaceebghcpaaZGd
import Derived.Laws.FloatArith
import GoSem.Extern.MathFloor
import Derived.Laws.Externs
set_option linter.unusedVariables false
set_option linter.unusedSimpArgs false
namespace Go.Proofs.Ytdgaaceebghcpaa
open Ieee
namespace Fl

/-- The whole part of a size; is something behind it? -/
def whole (b : Nat) : Nat := rv (mg b) / 2 ^ BB
def rest (b : Nat) : Bool := rv (mg b) % 2 ^ BB != 0
end Fl
end Go.Proofs.Ytdgaaceebghcpaa

namespace Go.Proofs.Ytdgaaceebghcpaa
open Go.RowKit Ieee

namespace Fl
end Fl

end Go.Proofs.Ytdgaaceebghcpaa

namespace Go.Proofs.Ytdgaaceebghcpaa
open Go.RowKit Ieee

end Go.Proofs.Ytdgaaceebghcpaa

namespace Go.Proofs.Ytdgaaceebghcpaa
open Fl Ieee

def UI : Int := ((2 ^ BB : Nat) : Int)
theorem UI_pos : 0 < UI := Int.natCast_pos.2 (Nat.two_pow_pos _)
/-- The whole number at or below a word's number. -/
def flq (b : Nat) : Int := Z b / UI
theorem flq_mono {a b : Nat} (h : Z a ≤ Z b) : flq a ≤ flq b := Int.ediv_le_ediv UI_pos h
/-- What Floor tells. -/
structure FlSure (a : Sp) (n : Int) : Prop where
  lo : fin a.lo = true
  hi : fin a.hi = true
  el : flq a.lo = n
  eh : flq a.hi = n
  ge : -9007199254740992 ≤ n
  le : n ≤ 9007199254740992
theorem FlSure.wi {a c : Sp} {n : Int} (h : FlSure a n) (k : Wi c a) : FlSure c n := by
  have w : c.wide = false := k.fin (by unfold Sp.wide wd; rw [h.lo, h.hi]; rfl)
  have ⟨f1, f2⟩ := Sp.fins w
  have h1 := flq_mono k.lo
  have h2 := flq_mono k.hi
  have h3 := flq_mono c.vd.le
  have e1 := h.el
  have e2 := h.eh
  exact ⟨f1, f2, by omega, by omega, h.ge, h.le⟩
theorem FlSure.uniq {a : Sp} {n m : Int} (h : FlSure a n) (k : FlSure a m) : n = m := h.el.symm.trans k.el
end Go.Proofs.Ytdgaaceebghcpaa

