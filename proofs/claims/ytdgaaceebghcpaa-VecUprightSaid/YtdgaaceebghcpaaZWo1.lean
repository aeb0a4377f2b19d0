/- The walks of round.Div and round.Sqrt (gen_wo.py). -/
import Derived.Test.YtdgaaceebghcpaaZWn
import Derived.Test.YtdgaaceebghcpaaZWj
set_option linter.unusedVariables false
set_option linter.unusedSimpArgs false
namespace Go.Proofs.Ytdgaaceebghcpaa
open Go.RowKit Ieee


set_option maxRecDepth 100000 in
set_option maxHeartbeats 4000000 in
theorem sqrt_walk_odd (a : Nat) (down : Bool) (na : Bool) (A : Nat) (ea : Int) (hE0 : (FloatKind.f64.format.order a 0 == some .lt) = false) (hE1 : (FloatKind.f64.format.order a 0 == some .eq) = false)
    (hHT : ∀ w, Calls Try.prog 113 #[.float .f64 a] w fun e w' => e = .returned (.bool true) ∧ w = w')
    (hHA : ∀ w, Calls Try.prog 132 #[.float .f64 a] w fun r w' => r = .returned (exv na 0 A ea false) ∧ ∃ o, w' = w.alloc o)
    (La : Nat) (hLa : La ≤ 53)
    (hHLa : ∀ w, Calls Try.prog 134 #[exv na 0 A ea false] w fun r w' => r = .returned (.int .i64 (La : Int)) ∧ ∃ o, w' = w.alloc o)
    (X1 X0 : Nat) (ex : Int)
    (hHLX : ∀ w, Calls Try.prog 133 #[exv na 0 A ea false, .int .i64 (IntKind.i64.wrap (115 - (La : Int)))] w fun r w' => r = .returned (exv na X1 X0 ex false) ∧ ∃ k o o', w' = ((w.alloc o).alloc o').drewN k)
    (hex : -5000 ≤ ex) (hex2 : ex ≤ 5000) (hpar : (Int.tmod ex 2 != 0) = true) (M1 M0 : Nat) (ee : Int) (hee : -5001 ≤ ee) (hee2 : ee ≤ 5000) (hHL1 : ∀ w, Calls Try.prog 133 #[exv na X1 X0 ex false, .int .i64 1] w fun r w' => r = .returned (exv na M1 M0 ee false) ∧ ∃ k o o', w' = ((w.alloc o).alloc o').drewN k) (R : Nat) (more : Bool)
    (hHR : ∀ w, Calls Try.prog 150 #[.int .u64 (M1 : Int), .int .u64 (M0 : Int)] w fun r w' => r = .returned (.tuple #[.int .u64 (R : Int), .bool more]) ∧ w = w')
    (v : Nat) (hHO : ∀ w, Calls Try.prog 136 #[exv false 0 R (Int.tdiv ee 2) more, .bool down] w fun r w' => r = .returned (.float .f64 v) ∧ Below w.heap.size w w') (w : World) :
    Calls Try.prog 123 #[.float .f64 a, .bool down] w fun r w' => r = .returned (numV v 0) ∧ Below w.heap.size w w' := by
  have HT := Lib.hid hHT; clear hHT
  have HA := Lib.hid hHA; clear hHA
  have HLa := Lib.hid hHLa; clear hHLa
  have HLX := Lib.hid hHLX; clear hHLX
  have HR := Lib.hid hHR; clear hHR
  have HO := Lib.hid hHO; clear hHO
  have HL1 := Lib.hid hHL1; clear hHL1
  go_enter Try.func123, Try.ntmps123
  go_wp2_with fail
  refine (HT.out _).mono ?_
  rintro e w' ⟨rfl, rfl⟩
  go_wp2_with fail
  refine (HA.out _).mono ?_
  rintro e w' ⟨rfl, o1, rfl⟩
  go_wp2_with fail
  go_cut [] (fun wc => ∃ p1 p2 p3 k, wc = (((((w.alloc o1).alloc (exo na X1 X0 ex false)).alloc p1).alloc p2).alloc p3).drewN k)
  case first =>
    go_region_with (first
      | (go_at_call 134; refine (HLa.out _).mono ?_; rintro r w' ⟨rfl, o, rfl⟩)
      | (go_at_call 133; refine (HLX.out _).mono ?_; rintro r w' ⟨rfl, k, o, o', rfl⟩))
    all_goals (go_wp2_with fail; go_meet; exact ⟨_, _, _, _, rfl⟩)
  case rest =>
    obtain ⟨p1, p2, p3, k1, rfl⟩ := hcut
    go_wp2_with fail
    refine (HL1.out _).mono ?_
    rintro r w' ⟨rfl, k5, q1, q2, rfl⟩
    go_wp2_with fail
    refine (HR.out _).mono ?_
    rintro r w' ⟨rfl, rfl⟩
    go_wp2_with fail
    refine (HO.out _).mono ?_
    rintro r w' ⟨rfl, hb⟩
    have HBe := Lib.hid hb
    clear hb
    go_wp2_with fail
    go_ret2
    exact ⟨rfl, (below_drewN (below_more (below_more (below_more (below_more (below_more (below_more (below_new _ _) _) _) _) _) _) _) _).trans (HBe.out.mono (by simp; omega))⟩

set_option maxRecDepth 100000 in
set_option maxHeartbeats 4000000 in
theorem sqrt_walk_even (a : Nat) (down : Bool) (na : Bool) (A : Nat) (ea : Int) (hE0 : (FloatKind.f64.format.order a 0 == some .lt) = false) (hE1 : (FloatKind.f64.format.order a 0 == some .eq) = false)
    (hHT : ∀ w, Calls Try.prog 113 #[.float .f64 a] w fun e w' => e = .returned (.bool true) ∧ w = w')
    (hHA : ∀ w, Calls Try.prog 132 #[.float .f64 a] w fun r w' => r = .returned (exv na 0 A ea false) ∧ ∃ o, w' = w.alloc o)
    (La : Nat) (hLa : La ≤ 53)
    (hHLa : ∀ w, Calls Try.prog 134 #[exv na 0 A ea false] w fun r w' => r = .returned (.int .i64 (La : Int)) ∧ ∃ o, w' = w.alloc o)
    (X1 X0 : Nat) (ex : Int)
    (hHLX : ∀ w, Calls Try.prog 133 #[exv na 0 A ea false, .int .i64 (IntKind.i64.wrap (115 - (La : Int)))] w fun r w' => r = .returned (exv na X1 X0 ex false) ∧ ∃ k o o', w' = ((w.alloc o).alloc o').drewN k)
    (hex : -5000 ≤ ex) (hex2 : ex ≤ 5000) (hpar : (Int.tmod ex 2 != 0) = false) (R : Nat) (more : Bool)
    (hHR : ∀ w, Calls Try.prog 150 #[.int .u64 (X1 : Int), .int .u64 (X0 : Int)] w fun r w' => r = .returned (.tuple #[.int .u64 (R : Int), .bool more]) ∧ w = w')
    (v : Nat) (hHO : ∀ w, Calls Try.prog 136 #[exv false 0 R (Int.tdiv ex 2) more, .bool down] w fun r w' => r = .returned (.float .f64 v) ∧ Below w.heap.size w w') (w : World) :
    Calls Try.prog 123 #[.float .f64 a, .bool down] w fun r w' => r = .returned (numV v 0) ∧ Below w.heap.size w w' := by
  have HT := Lib.hid hHT; clear hHT
  have HA := Lib.hid hHA; clear hHA
  have HLa := Lib.hid hHLa; clear hHLa
  have HLX := Lib.hid hHLX; clear hHLX
  have HR := Lib.hid hHR; clear hHR
  have HO := Lib.hid hHO; clear hHO
  go_enter Try.func123, Try.ntmps123
  go_wp2_with fail
  refine (HT.out _).mono ?_
  rintro e w' ⟨rfl, rfl⟩
  go_wp2_with fail
  refine (HA.out _).mono ?_
  rintro e w' ⟨rfl, o1, rfl⟩
  go_wp2_with fail
  go_cut [] (fun wc => ∃ p1 p2 p3 k, wc = (((((w.alloc o1).alloc (exo na X1 X0 ex false)).alloc p1).alloc p2).alloc p3).drewN k)
  case first =>
    go_region_with (first
      | (go_at_call 134; refine (HLa.out _).mono ?_; rintro r w' ⟨rfl, o, rfl⟩)
      | (go_at_call 133; refine (HLX.out _).mono ?_; rintro r w' ⟨rfl, k, o, o', rfl⟩))
    all_goals (go_wp2_with fail; go_meet; exact ⟨_, _, _, _, rfl⟩)
  case rest =>
    obtain ⟨p1, p2, p3, k1, rfl⟩ := hcut
    go_wp2_with fail
    refine (HR.out _).mono ?_
    rintro r w' ⟨rfl, rfl⟩
    go_wp2_with fail
    refine (HO.out _).mono ?_
    rintro r w' ⟨rfl, hb⟩
    have HBe := Lib.hid hb
    clear hb
    go_wp2_with fail
    go_ret2
    exact ⟨rfl, (below_drewN (below_more (below_more (below_more (below_more (below_new _ _) _) _) _) _) _).trans (HBe.out.mono (by simp; omega))⟩
end Go.Proofs.Ytdgaaceebghcpaa
