/- The walks of round.Div and round.Sqrt (gen_wo.py). -/
import Derived.Test.YtdgaaceebghcpaaZWn
import Derived.Test.YtdgaaceebghcpaaZWj
set_option linter.unusedVariables false
set_option linter.unusedSimpArgs false
namespace Go.Proofs.Ytdgaaceebghcpaa
open Go.RowKit Ieee

set_option maxRecDepth 100000 in
set_option maxHeartbeats 4000000 in
theorem div_walk (a b : Nat) (down : Bool) (na nb : Bool) (A B : Nat) (ea eb : Int) (hEb : (FloatKind.f64.format.order b 0 == some .eq) = false)
    (hHT : ∀ w, Calls Try.prog 131 #[.float .f64 a, .float .f64 b] w fun e w' => e = .returned (.bool true) ∧ w = w')
    (hHA : ∀ w, Calls Try.prog 132 #[.float .f64 a] w fun r w' => r = .returned (exv na 0 A ea false) ∧ ∃ o, w' = w.alloc o)
    (hHB : ∀ w, Calls Try.prog 132 #[.float .f64 b] w fun r w' => r = .returned (exv nb 0 B eb false) ∧ ∃ o, w' = w.alloc o)
    (La Lb : Nat) (hLa : La ≤ 53) (hLb : Lb ≤ 53)
    (hHLa : ∀ w, Calls Try.prog 134 #[exv na 0 A ea false] w fun r w' => r = .returned (.int .i64 (La : Int)) ∧ ∃ o, w' = w.alloc o)
    (hHLb : ∀ w, Calls Try.prog 134 #[exv nb 0 B eb false] w fun r w' => r = .returned (.int .i64 (Lb : Int)) ∧ ∃ o, w' = w.alloc o)
    (X1 X0 Y1 Y0 : Nat) (ex ey : Int)
    (hHLX : ∀ w, Calls Try.prog 133 #[exv na 0 A ea false, .int .i64 (IntKind.i64.wrap (117 - (La : Int)))] w fun r w' => r = .returned (exv na X1 X0 ex false) ∧ ∃ k o o', w' = ((w.alloc o).alloc o').drewN k)
    (hHLY : ∀ w, Calls Try.prog 133 #[exv nb 0 B eb false, .int .i64 (IntKind.i64.wrap (53 - (Lb : Int)))] w fun r w' => r = .returned (exv nb Y1 Y0 ey false) ∧ ∃ k o o', w' = ((w.alloc o).alloc o').drewN k)
    (hex : -5000 ≤ ex) (hex2 : ex ≤ 5000) (hey : -5000 ≤ ey) (hey2 : ey ≤ 5000) (q1 r1 q2 r2 : Nat)
    (hHD1 : ∀ w, Calls Try.prog 135 #[.int .u64 0, .int .u64 (X1 : Int), .int .u64 (Y0 : Int)] w fun r w' => r = .returned (.tuple #[.int .u64 (q1 : Int), .int .u64 (r1 : Int)]) ∧ ∃ k, w' = w.drewN k)
    (hHD2 : ∀ w, Calls Try.prog 135 #[.int .u64 (r1 : Int), .int .u64 (X0 : Int), .int .u64 (Y0 : Int)] w fun r w' => r = .returned (.tuple #[.int .u64 (q2 : Int), .int .u64 (r2 : Int)]) ∧ ∃ k, w' = w.drewN k)
    (v : Nat) (hHO : ∀ w, Calls Try.prog 136 #[exv (na != nb) q1 q2 (ex - ey) ((r2 : Int) != 0), .bool down] w fun r w' => r = .returned (.float .f64 v) ∧ Below w.heap.size w w') (w : World) :
    Calls Try.prog 107 #[.float .f64 a, .float .f64 b, .bool down] w fun r w' => r = .returned (numV v 0) ∧ Below w.heap.size w w' := by
  have HT := Lib.hid hHT; clear hHT
  have HA := Lib.hid hHA; clear hHA
  have HB := Lib.hid hHB; clear hHB
  have HLa := Lib.hid hHLa; clear hHLa
  have HLb := Lib.hid hHLb; clear hHLb
  have HLX := Lib.hid hHLX; clear hHLX
  have HLY := Lib.hid hHLY; clear hHLY
  have HD1 := Lib.hid hHD1; clear hHD1
  have HD2 := Lib.hid hHD2; clear hHD2
  have HO := Lib.hid hHO; clear hHO
  go_enter Try.func107, Try.ntmps107
  go_wp2_with fail
  refine (HT.out _).mono ?_
  rintro e w' ⟨rfl, rfl⟩
  go_wp2_with fail
  refine (HA.out _).mono ?_
  rintro e w' ⟨rfl, o1, rfl⟩
  go_wp2_with fail
  refine (HB.out _).mono ?_
  rintro e w' ⟨rfl, o2, rfl⟩
  go_wp2_with fail
  go_cut [] (fun wc => ∃ p1 p2 p3 k, wc = (((((((w.alloc o1).alloc o2).alloc (exo na X1 X0 ex false)).alloc (exo nb 0 B eb false)).alloc p1).alloc p2).alloc p3).drewN k)
  case first =>
    go_region_with (first
      | (go_at_call 134; refine (HLa.out _).mono ?_; rintro r w' ⟨rfl, o, rfl⟩)
      | (go_at_call 133; refine (HLX.out _).mono ?_; rintro r w' ⟨rfl, k, o, o', rfl⟩))
    all_goals (go_wp2_with fail; go_meet; exact ⟨_, _, _, _, rfl⟩)
  case rest =>
    obtain ⟨p1, p2, p3, k1, rfl⟩ := hcut
    go_wp2_with fail
    go_cut [] (fun wc => ∃ p1 p2 p3 p4 p5 p6 k, wc = ((((((((((w.alloc o1).alloc o2).alloc (exo na X1 X0 ex false)).alloc (exo nb Y1 Y0 ey false)).alloc p1).alloc p2).alloc p3).alloc p4).alloc p5).alloc p6).drewN k)
    case first =>
      go_region_with (first
        | (go_at_call 134; refine (HLb.out _).mono ?_; rintro r w' ⟨rfl, o, rfl⟩)
        | (go_at_call 133; refine (HLY.out _).mono ?_; rintro r w' ⟨rfl, k, o, o', rfl⟩))
      all_goals (go_wp2_with fail; go_meet; exact ⟨_, _, _, _, _, _, _, rfl⟩)
    case rest =>
      obtain ⟨p1, p2, p3, p4, p5, p6, k2, rfl⟩ := hcut
      go_wp2_with fail
      refine (HD1.out _).mono ?_
      rintro r w' ⟨rfl, k3, rfl⟩
      go_wp2_with fail
      refine (HD2.out _).mono ?_
      rintro r w' ⟨rfl, k4, rfl⟩
      go_wp2_with fail
      refine (HO.out _).mono ?_
      rintro r w' ⟨rfl, hb⟩
      have HBe := Lib.hid hb
      clear hb
      go_wp2_with fail
      go_ret2
      exact ⟨rfl, (below_drewN (below_more (below_more (below_more (below_more (below_more (below_more (below_more (below_more (below_more (below_more (below_new _ _) _) _) _) _) _) _) _) _) _) _) _).trans (HBe.out.mono (by simp; omega))⟩
end Go.Proofs.Ytdgaaceebghcpaa
