/- The walks of layer 5's small functions: the hash, the number of a draw, the trailing zeros. -/
import Derived.Test.YtmgaonkmfdeohaaDoorPlain
import Derived.Test.YtmgaonkmfdeohaaDoorChecked
import Derived.WalkKit
import Derived.WalkSpells
import Derived.WalkLawsBesides
import Derived.Laws.BitsAllLaws
import Derived.Lib.Hide
namespace Go.Proofs.YtmgaonkmfdeohaaDoor
open Go.RowKit

theorem xor_step (x s : Nat) (hx : x < 4294967296) : bits .xor .u32 (x : Int) ((x : Int) / (s : Int)) = ((x ^^^ x / s : Nat) : Int) := by
  rw [← Int.natCast_ediv]
  exact u32_xor_nat x (x / s) hx (Nat.lt_of_le_of_lt (Nat.div_le_self _ _) hx)

theorem ret_int {k : IntKind} {a b : Int} (h : a = b) : Ending.returned (.int k a) = .returned (.int k b) := by rw [h]

theorem mul_step (x c : Nat) : ((x : Nat) : Int) * (c : Int) % 4294967296 = ((x * c % 4294967296 : Nat) : Int) := by
  rw [← Int.natCast_mul]
  omega

theorem hash_int (a : Nat) (ha : a < 4294967296) :
    bits BinOp.xor IntKind.u32
      (bits BinOp.xor IntKind.u32 (bits BinOp.xor IntKind.u32 (a : Int) ((a : Int) / 65536) * 2146121005 % 4294967296) (bits BinOp.xor IntKind.u32 (a : Int) ((a : Int) / 65536) * 2146121005 % 4294967296 / 32768) * 2221713035 % 4294967296)
      (bits BinOp.xor IntKind.u32 (bits BinOp.xor IntKind.u32 (a : Int) ((a : Int) / 65536) * 2146121005 % 4294967296) (bits BinOp.xor IntKind.u32 (a : Int) ((a : Int) / 65536) * 2146121005 % 4294967296 / 32768) * 2221713035 % 4294967296 / 65536)
      = ((Sob.hash a : Nat) : Int) := by
  have x16 : ∀ x : Nat, x < 4294967296 → bits .xor .u32 (x : Int) ((x : Int) / (65536 : Int)) = ((x ^^^ x / 65536 : Nat) : Int) := fun x hx => xor_step x 65536 hx
  have x15 : ∀ x : Nat, x < 4294967296 → bits .xor .u32 (x : Int) ((x : Int) / (32768 : Int)) = ((x ^^^ x / 32768 : Nat) : Int) := fun x hx => xor_step x 32768 hx
  have m1 : ∀ x : Nat, ((x : Nat) : Int) * (2146121005 : Int) % 4294967296 = ((x * 2146121005 % 4294967296 : Nat) : Int) := fun x => mul_step x 2146121005
  have m2 : ∀ x : Nat, ((x : Nat) : Int) * (2221713035 : Int) % 4294967296 = ((x * 2221713035 % 4294967296 : Nat) : Int) := fun x => mul_step x 2221713035
  rw [x16 a ha, m1, x15 _ (Nat.mod_lt _ (by decide)), m2, x16 _ (Nat.mod_lt _ (by decide))]
  rfl

set_option maxHeartbeats 400000 in
theorem hash_any (a : Nat) (ha : a < 4294967296) (w : World) :
    Calls Tryd.prog 18 #[.int .u32 a] w fun e w' => e = .returned (.int .u32 (Sob.hash a : Nat)) ∧ w = w' := by
  go_enter Tryd.func18, Tryd.ntmps18
  go_wp2
  go_ret
  exact ⟨ret_int (hash_int a ha), rfl⟩

set_option maxHeartbeats 400000 in
theorem rhash_any (a : Nat) (ha : a < 4294967296) (w : World) :
    Calls Tryd.prog 19 #[.int .u32 a] w fun e w' => e = .returned (.int .u32 (Sob.hash a : Nat)) ∧ w = w' := by
  go_enter Tryd.func19, Tryd.ntmps19
  go_wp2
  go_ret
  exact ⟨ret_int (hash_int a ha), rfl⟩

/-- A draw's number: the bits of the quotient by 2^32. -/
noncomputable def unitBits (a : Nat) : Option Nat := FloatKind.f64.format.div (floatOfInt .f64 (a : Int)) 4751297606875873280

set_option maxHeartbeats 400000 in
theorem unit_any (a b : Nat) (hb : unitBits a = some b) (w : World) :
    Calls Tryd.prog 21 #[.int .u32 a] w fun e w' => e = .returned (.float .f64 b) ∧ w = w' := by
  have hd : floatBits .quo .f64 (floatOfInt .f64 (a : Int)) 4751297606875873280 = some b := hb
  have hr := fun (t : TypeId) (w : World) => run_float_arith (P := Tryd.prog) w .quo t .f64 _ _ _ hd
  clear hd hb
  go_enter Tryd.func21, Tryd.ntmps21
  go_wp2
  go_ret
  exact ⟨rfl, rfl⟩

set_option maxHeartbeats 400000 in
theorem runit_any (a b : Nat) (hb : unitBits a = some b) (w : World) :
    Calls Tryd.prog 22 #[.int .u32 a] w fun e w' => e = .returned (.float .f64 b) ∧ w = w' := by
  have hd : floatBits .quo .f64 (floatOfInt .f64 (a : Int)) 4751297606875873280 = some b := hb
  have hr := fun (t : TypeId) (w : World) => run_float_arith (P := Tryd.prog) w .quo t .f64 _ _ _ hd
  clear hd hb
  go_enter Tryd.func22, Tryd.ntmps22
  go_wp2
  go_ret
  exact ⟨rfl, rfl⟩

/-- The library's table lies in its variable. -/
def Tab (w : World) : Prop := 2 ≤ w.heap.size ∧ ∀ j, j < 32 → w.cell? ⟨1, j, none⟩ = some (.int .u8 (Lib.deBruijn32tab.getD j 0))

theorem tz_key (x a : Nat) (hx : x < 4294967296) (hx0 : x ≠ 0) (hlow : x &&& (4294967296 - x) = a) :
    bits BinOp.and IntKind.u32 (x : Int) (-(x : Int) % 4294967296) * 125613361 % 4294967296 / 134217728 = ((a * 125613361 % 4294967296 / 134217728 : Nat) : Int) := by
  have e1 : (-(x : Int) % 4294967296) = ((4294967296 - x : Nat) : Int) := by omega
  rw [e1, u32_and_nat x _ hx (by omega), hlow]
  omega

set_option maxHeartbeats 1000000 in
theorem tz_core (x k idx : Nat) (w : World) (hx0 : ((x : Int) == 0) = false)
    (key : bits BinOp.and IntKind.u32 (x : Int) (-(x : Int) % 4294967296) * 125613361 % 4294967296 / 134217728 = (idx : Int))
    (hi : idx < 32) (hk : k < 32) (hcell : w.cell? ⟨1, idx, none⟩ = some (.int .u8 k)) :
    Calls Tryd.prog 24 #[.int .u32 x] w fun e w' => e = .returned (.int .i64 k) ∧ w = w' := by
  go_enter Tryd.func24, Tryd.ntmps24
  go_wp2_with (simp only [key])
  go_ret
  exact ⟨rfl, rfl⟩

theorem tz_any (x : Nat) (hx : x < 4294967296) (hx0 : x ≠ 0) (w : World) (hT : Tab w) :
    Calls Tryd.prog 24 #[.int .u32 x] w fun e w' => e = .returned (.int .i64 (Lib.ctz 32 x : Nat)) ∧ w = w' := by
  obtain ⟨hlow, hk⟩ := Lib.lowest_bit 32 x hx0 hx
  obtain ⟨hi, htab⟩ := Lib.deBruijn32_at _ hk
  refine tz_core x _ _ w (beq_eq_false_iff_ne.2 (by omega)) (tz_key x _ hx hx0 hlow) hi hk ?_
  rw [hT.2 _ hi, htab]
end Go.Proofs.YtmgaonkmfdeohaaDoor
