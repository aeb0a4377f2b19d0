/- The walk of the document's Sqrt (gen_vi.py). -/
import Derived.Test.YtdgaaceebghcpaaVh
import Derived.Test.YtdgaaceebghcpaaWj
set_option linter.unusedVariables false
set_option linter.unusedSimpArgs false
namespace Go.Proofs.Ytdgaaceebghcpaa
open Go.RowKit Ieee

def Rq (N M1 M0 : Nat) (ee : Int) (w : World) (r i : Value) (wr : World) : Prop :=
  ∃ (a k : Nat) (c : Int), r = .int .u64 (a : Int) ∧ i = .int .i64 c ∧ c = 57 - (k : Int) ∧ RtR N k a ∧ Blk wr (w.heap.size + 1) 135 #[.int .u64 (M1 : Int), .int .u64 (M0 : Int), .int .i64 ee, .bool false] ∧ Below w.heap.size w wr
theorem below_in2 {w wr : World} {o o' : Obj} (h : Below w.heap.size w wr) : Below w.heap.size w ((wr.alloc o).alloc o') := below_more (below_more h _) _
theorem rt_times0 {x ph pl : Nat} (h : x < 18446744073709551616) (hP : x * x = ph * 18446744073709551616 + pl ∧ pl < 18446744073709551616) (w : World) : Calls Try.prog 149 #[.int .u64 (x : Int), .int .u64 (x : Int)] w fun e w' => e = .returned (.tuple #[.int .u64 (ph : Int), .int .u64 (pl : Int)]) ∧ w = w' := by
  have := times_any x x h h w
  rw [hP.1, show (ph * 18446744073709551616 + pl) / 18446744073709551616 = ph by omega, show (ph * 18446744073709551616 + pl) % 18446744073709551616 = pl by omega] at this
  exact this
theorem rt_times {T s ph pl : Nat} (hT : T = s) (hs : s < 288230376151711744) (hP : T * T = ph * 18446744073709551616 + pl ∧ pl < 18446744073709551616) (w : World) : Calls Try.prog 149 #[.int .u64 (T : Int), .int .u64 (T : Int)] w fun e w' => e = .returned (.tuple #[.int .u64 (ph : Int), .int .u64 (pl : Int)]) ∧ w = w' :=
  rt_times0 (by omega) hP w
theorem rq_yes {N M1 M0 k a T j : Nat} {ee : Int} {w wr : World} (h : RtR N k a) (hk : k < 58) (hT : T = a + 2 ^ (57 - k)) (hj : j = 57 - k) (hc : T * T ≤ N) (hb : Blk wr (w.heap.size + 1) 135 #[.int .u64 (M1 : Int), .int .u64 (M0 : Int), .int .i64 ee, .bool false]) (hbe : Below w.heap.size w wr) :
    Rq N M1 M0 ee w (Value.int .u64 (T : Int)) (Value.int .i64 ((j : Int) - 1)) wr ∧ (intOf (Value.int IntKind.i64 ((j : Int) - 1)) + 1).toNat < (intOf (Value.int IntKind.i64 (j : Int)) + 1).toNat := by
  subst hT
  exact ⟨⟨_, k + 1, _, rfl, rfl, by omega, h.yes hk hc, hb, hbe⟩, by simp only [intOf]; omega⟩
theorem rq_no {N M1 M0 k a T j : Nat} {ee : Int} {w wr : World} (h : RtR N k a) (hk : k < 58) (hT : T = a + 2 ^ (57 - k)) (hj : j = 57 - k) (hc : ¬ T * T ≤ N) (hb : Blk wr (w.heap.size + 1) 135 #[.int .u64 (M1 : Int), .int .u64 (M0 : Int), .int .i64 ee, .bool false]) (hbe : Below w.heap.size w wr) :
    Rq N M1 M0 ee w (Value.int .u64 (a : Int)) (Value.int .i64 ((j : Int) - 1)) wr ∧ (intOf (Value.int IntKind.i64 ((j : Int) - 1)) + 1).toNat < (intOf (Value.int IntKind.i64 (j : Int)) + 1).toNat := by
  subst hT
  exact ⟨⟨_, k + 1, _, rfl, rfl, by omega, h.no hk hc, hb, hbe⟩, by simp only [intOf]; omega⟩
theorem ne_words {x ph pl M1 M0 : Nat} (h : x = ph * 18446744073709551616 + pl) (h2 : pl < 18446744073709551616) (h3 : M0 < 18446744073709551616) : (x != M1 * 18446744073709551616 + M0) = ((ph : Int) != (M1 : Int) || (pl : Int) != (M0 : Int)) := by
  rw [Bool.eq_iff_iff]
  simp only [bne_iff_ne, ne_eq, Bool.or_eq_true]
  omega

set_option maxRecDepth 100000 in
set_option maxHeartbeats 4000000 in
theorem rsqrt_walk_even (x : Nat) (down na : Bool) (A : Nat) (ea : Int) (hX1 : (FloatKind.f64.format.order x 0 == some .lt) = false) (hX0 : (FloatKind.f64.format.order x 0 == some .eq) = false)
    (hNx : ∀ w, Calls Try.prog 103 #[.float .f64 x] w fun e w' => e = .returned (.bool true) ∧ w = w')
    (hPx : ∀ w, Calls Try.prog 141 #[.float .f64 x] w fun r w' => r = .returned (.tuple #[wdv 0 A ea false, .bool na]) ∧ ∃ o, w' = w.alloc o)
    (La : Nat) (hLa : La ≤ 53)
    (hLA : ∀ w, Calls Try.prog 142 #[wdv 0 A ea false] w fun r w' => r = .returned (.int .i64 (La : Int)) ∧ ∃ o, w' = w.alloc o)
    (X1 X0 : Nat) (ex : Int)
    (hUX : ∀ w, Calls Try.prog 143 #[wdv 0 A ea false, .int .i64 (IntKind.i64.wrap (115 - (La : Int)))] w fun r w' => r = .returned (wdv X1 X0 ex false) ∧ ∃ k o o', w' = ((w.alloc o).alloc o').drewN k)
    (hex : -5000 ≤ ex) (hex2 : ex ≤ 5000) (hpar : (Int.tmod ex 2 != 0) = false) (hM : Hid (X1 * 18446744073709551616 + X0 < 83076749736557242056487941267521536 ∧ X0 < 18446744073709551616)) (R : Nat) (hR : Hid (IsRoot (X1 * 18446744073709551616 + X0) R))
    (mm : Bool) (hmm : Hid (mm = (R * R != X1 * 18446744073709551616 + X0))) (v : Nat) (hO : ∀ w, Calls Try.prog 145 #[.agg #[.int .u64 0, .int .u64 (R : Int), .int .i64 (Int.tdiv ex 2), .bool mm], .bool false, .bool down] w fun r w' => r = .returned (.float .f64 v) ∧ Below w.heap.size w w') (w : World) :
    Calls Try.prog 127 #[.float .f64 x, .bool down] w fun r w' => r = .returned (numV v 0) ∧ Below w.heap.size w w' := by
  have HNx := Lib.hid hNx
  have HPx := Lib.hid hPx
  have HLA := Lib.hid hLA
  have HUX := Lib.hid hUX
  have HO := Lib.hid hO
  clear hNx hPx hLA hUX hO
  go_enter Try.func127, Try.ntmps127
  go_wp2_with fail
  refine (HNx.out _).mono ?_
  rintro e w' ⟨rfl, rfl⟩
  go_wp2_with fail
  refine (HPx.out _).mono ?_
  rintro e w' ⟨rfl, p1, rfl⟩
  go_wp2_with fail
  go_cut [] (fun wc => ∃ p3 p4 p5 k, wc = (((((w.alloc p1).alloc (wdo X1 X0 ex false)).alloc p3).alloc p4).alloc p5).drewN k)
  case first =>
    go_region_with (first
      | (go_at_call 142; refine (HLA.out _).mono ?_; rintro r w' ⟨rfl, o, rfl⟩)
      | (go_at_call 143; refine (HUX.out _).mono ?_; rintro r w' ⟨rfl, k, o, o', rfl⟩))
    all_goals (go_wp2_with fail; go_meet; exact ⟨_, _, _, _, rfl⟩)
  case rest =>
    obtain ⟨p3, p4, p5, k1, rfl⟩ := hcut
    go_wp2_with fail
    go_loopw [8, 9] (fun r i wr => Rq (X1 * 18446744073709551616 + X0) X1 X0 ex w r i wr) (fun _ i _ => (intOf i + 1).toNat)
    case atStart => exact ⟨0, 0, 57, rfl, rfl, rfl, RtR.start hM.out.1, (((((Blk.new_at _ _ _ (by simp)).alloc _).alloc _).alloc _).drewN _), (below_drewN (below_more (below_more (below_more (below_more (below_new _ _) _) _) _) _) _)⟩
    case round =>
      obtain ⟨a, k, c, rfl, rfl, hc, hd, hb, hbe⟩ := hrel
      have HD := Lib.hid hd
      have hk := hd.hi
      have HBk := Lib.hid hb
      have HBe := Lib.hid hbe
      have C0 := hb.cell 0
      have C1 := hb.cell 1
      have C2 := hb.cell 2
      clear hd hb hbe
      by_cases hk2 : k < 58
      · obtain ⟨j, rfl⟩ : ∃ j : Nat, c = j := ⟨(57 - k), by omega⟩
        have hj : j = 57 - k := by omega
        obtain ⟨T, hT, F, ph, pl, hP, hC⟩ := rt_mul HD.out hk2
        rw [← hj] at F
        have HP := Lib.hid hP
        have HT := Lib.hid hT
        have HC := Lib.hid (rt_times hT (HD.out.bit hk2).2.1 hP)
        have HL := Lib.hid (fun w => wless_words X1 X0 ph pl 0 0 false false w)
        have hj2 : j ≤ 57 := by omega
        have HJ := Lib.hid hj
        clear hP hC hT hc hj
        go_wp2_with fail
        refine (HC.out _).mono ?_
        rintro r w' ⟨rfl, rfl⟩
        go_wp2_with fail
        refine (HL.out _).mono ?_
        rintro r w' ⟨rfl, o, o', rfl⟩
        go_wp2_with fail
        all_goals
          have hp := HP.out
          have hN := hM.out.2
          first
            | exact rq_yes HD.out hk2 HT.out HJ.out (by (try simp only [Bool.or_eq_true, Bool.and_eq_true, Bool.or_eq_false_iff, Bool.and_eq_false_iff, Bool.not_eq_true', Bool.not_eq_false', decide_eq_true_eq, decide_eq_false_iff_not] at *); omega) ((HBk.out.alloc _).alloc _) (below_in2 HBe.out)
            | exact rq_no HD.out hk2 HT.out HJ.out (by (try simp only [Bool.or_eq_true, Bool.and_eq_true, Bool.or_eq_false_iff, Bool.and_eq_false_iff, Bool.not_eq_true', Bool.not_eq_false', decide_eq_true_eq, decide_eq_false_iff_not] at *); omega) ((HBk.out.alloc _).alloc _) (below_in2 HBe.out)
      · obtain rfl : k = 58 := by omega
        obtain rfl : c = -1 := by omega
        have hA : a = R := HD.out.stop.uniq hR.out
        have hlt := HD.out.lt
        subst hA
        obtain ⟨ph, pl, hP⟩ : ∃ ph pl : Nat, a * a = ph * 18446744073709551616 + pl ∧ pl < 18446744073709551616 := ⟨a * a / 18446744073709551616, a * a % 18446744073709551616, by generalize a * a = y; omega, Nat.mod_lt _ (by decide)⟩
        have HC := Lib.hid (fun w => rt_times0 (x := a) (by omega) hP w)
        have hx := hmm.out
        rw [ne_words hP.1 hP.2 hM.out.2] at hx
        clear hP hlt
        by_cases h1 : ph = X1
        · subst h1
          have E : ((pl : Int) != (X0 : Int)) = mm := by rw [hx]; simp
          clear hx
          go_wp2_with fail
          refine (HC.out _).mono ?_
          rintro r w' ⟨rfl, rfl⟩
          go_wp2_with fail
          refine (HO.out _).mono ?_
          rintro e w2 ⟨rfl, h2⟩
          have HW2 := Lib.hid h2
          clear h2
          go_wp2_with fail
          go_ret2
          exact ⟨rfl, HBe.out.trans (HW2.out.mono HBe.out.size)⟩
        · have E : ((ph : Int) != (X1 : Int)) = true := by
            rw [bne_iff_ne]; omega
          have hm : mm = true := by rw [hx, E]; rfl
          subst hm
          clear hx
          go_wp2_with fail
          refine (HC.out _).mono ?_
          rintro r w' ⟨rfl, rfl⟩
          go_wp2_with fail
          refine (HO.out _).mono ?_
          rintro e w2 ⟨rfl, h2⟩
          have HW2 := Lib.hid h2
          clear h2
          go_wp2_with fail
          go_ret2
          exact ⟨rfl, HBe.out.trans (HW2.out.mono HBe.out.size)⟩

set_option maxRecDepth 100000 in
set_option maxHeartbeats 4000000 in
theorem rsqrt_walk_odd (x : Nat) (down na : Bool) (A : Nat) (ea : Int) (hX1 : (FloatKind.f64.format.order x 0 == some .lt) = false) (hX0 : (FloatKind.f64.format.order x 0 == some .eq) = false)
    (hNx : ∀ w, Calls Try.prog 103 #[.float .f64 x] w fun e w' => e = .returned (.bool true) ∧ w = w')
    (hPx : ∀ w, Calls Try.prog 141 #[.float .f64 x] w fun r w' => r = .returned (.tuple #[wdv 0 A ea false, .bool na]) ∧ ∃ o, w' = w.alloc o)
    (La : Nat) (hLa : La ≤ 53)
    (hLA : ∀ w, Calls Try.prog 142 #[wdv 0 A ea false] w fun r w' => r = .returned (.int .i64 (La : Int)) ∧ ∃ o, w' = w.alloc o)
    (X1 X0 : Nat) (ex : Int)
    (hUX : ∀ w, Calls Try.prog 143 #[wdv 0 A ea false, .int .i64 (IntKind.i64.wrap (115 - (La : Int)))] w fun r w' => r = .returned (wdv X1 X0 ex false) ∧ ∃ k o o', w' = ((w.alloc o).alloc o').drewN k)
    (hex : -5000 ≤ ex) (hex2 : ex ≤ 5000) (hpar : (Int.tmod ex 2 != 0) = true) (M1 M0 : Nat) (ee : Int) (hee : -5001 ≤ ee) (hee2 : ee ≤ 5000) (hL1 : ∀ w, Calls Try.prog 143 #[wdv X1 X0 ex false, .int .i64 1] w fun r w' => r = .returned (wdv M1 M0 ee false) ∧ ∃ k o o', w' = ((w.alloc o).alloc o').drewN k) (hM : Hid (M1 * 18446744073709551616 + M0 < 83076749736557242056487941267521536 ∧ M0 < 18446744073709551616)) (R : Nat) (hR : Hid (IsRoot (M1 * 18446744073709551616 + M0) R))
    (mm : Bool) (hmm : Hid (mm = (R * R != M1 * 18446744073709551616 + M0))) (v : Nat) (hO : ∀ w, Calls Try.prog 145 #[.agg #[.int .u64 0, .int .u64 (R : Int), .int .i64 (Int.tdiv ee 2), .bool mm], .bool false, .bool down] w fun r w' => r = .returned (.float .f64 v) ∧ Below w.heap.size w w') (w : World) :
    Calls Try.prog 127 #[.float .f64 x, .bool down] w fun r w' => r = .returned (numV v 0) ∧ Below w.heap.size w w' := by
  have HNx := Lib.hid hNx
  have HPx := Lib.hid hPx
  have HLA := Lib.hid hLA
  have HUX := Lib.hid hUX
  have HO := Lib.hid hO
  clear hNx hPx hLA hUX hO
  have HL1 := Lib.hid hL1
  clear hL1
  go_enter Try.func127, Try.ntmps127
  go_wp2_with fail
  refine (HNx.out _).mono ?_
  rintro e w' ⟨rfl, rfl⟩
  go_wp2_with fail
  refine (HPx.out _).mono ?_
  rintro e w' ⟨rfl, p1, rfl⟩
  go_wp2_with fail
  go_cut [] (fun wc => ∃ p3 p4 p5 k, wc = (((((w.alloc p1).alloc (wdo X1 X0 ex false)).alloc p3).alloc p4).alloc p5).drewN k)
  case first =>
    go_region_with (first
      | (go_at_call 142; refine (HLA.out _).mono ?_; rintro r w' ⟨rfl, o, rfl⟩)
      | (go_at_call 143; refine (HUX.out _).mono ?_; rintro r w' ⟨rfl, k, o, o', rfl⟩))
    all_goals (go_wp2_with fail; go_meet; exact ⟨_, _, _, _, rfl⟩)
  case rest =>
    obtain ⟨p3, p4, p5, k1, rfl⟩ := hcut
    go_wp2_with fail
    refine (HL1.out _).mono ?_
    rintro r w' ⟨rfl, k5, q1, q2, rfl⟩
    go_wp2_with fail
    go_loopw [8, 9] (fun r i wr => Rq (M1 * 18446744073709551616 + M0) M1 M0 ee w r i wr) (fun _ i _ => (intOf i + 1).toNat)
    case atStart => exact ⟨0, 0, 57, rfl, rfl, rfl, RtR.start hM.out.1, (((((((Blk.new_at _ _ _ (by simp)).alloc _).alloc _).alloc _).alloc _).alloc _).drewN _), (below_drewN (below_more (below_more (below_more (below_more (below_more (below_more (below_new _ _) _) _) _) _) _) _) _)⟩
    case round =>
      obtain ⟨a, k, c, rfl, rfl, hc, hd, hb, hbe⟩ := hrel
      have HD := Lib.hid hd
      have hk := hd.hi
      have HBk := Lib.hid hb
      have HBe := Lib.hid hbe
      have C0 := hb.cell 0
      have C1 := hb.cell 1
      have C2 := hb.cell 2
      clear hd hb hbe
      by_cases hk2 : k < 58
      · obtain ⟨j, rfl⟩ : ∃ j : Nat, c = j := ⟨(57 - k), by omega⟩
        have hj : j = 57 - k := by omega
        obtain ⟨T, hT, F, ph, pl, hP, hC⟩ := rt_mul HD.out hk2
        rw [← hj] at F
        have HP := Lib.hid hP
        have HT := Lib.hid hT
        have HC := Lib.hid (rt_times hT (HD.out.bit hk2).2.1 hP)
        have HL := Lib.hid (fun w => wless_words M1 M0 ph pl 0 0 false false w)
        have hj2 : j ≤ 57 := by omega
        have HJ := Lib.hid hj
        clear hP hC hT hc hj
        go_wp2_with fail
        refine (HC.out _).mono ?_
        rintro r w' ⟨rfl, rfl⟩
        go_wp2_with fail
        refine (HL.out _).mono ?_
        rintro r w' ⟨rfl, o, o', rfl⟩
        go_wp2_with fail
        all_goals
          have hp := HP.out
          have hN := hM.out.2
          first
            | exact rq_yes HD.out hk2 HT.out HJ.out (by (try simp only [Bool.or_eq_true, Bool.and_eq_true, Bool.or_eq_false_iff, Bool.and_eq_false_iff, Bool.not_eq_true', Bool.not_eq_false', decide_eq_true_eq, decide_eq_false_iff_not] at *); omega) ((HBk.out.alloc _).alloc _) (below_in2 HBe.out)
            | exact rq_no HD.out hk2 HT.out HJ.out (by (try simp only [Bool.or_eq_true, Bool.and_eq_true, Bool.or_eq_false_iff, Bool.and_eq_false_iff, Bool.not_eq_true', Bool.not_eq_false', decide_eq_true_eq, decide_eq_false_iff_not] at *); omega) ((HBk.out.alloc _).alloc _) (below_in2 HBe.out)
      · obtain rfl : k = 58 := by omega
        obtain rfl : c = -1 := by omega
        have hA : a = R := HD.out.stop.uniq hR.out
        have hlt := HD.out.lt
        subst hA
        obtain ⟨ph, pl, hP⟩ : ∃ ph pl : Nat, a * a = ph * 18446744073709551616 + pl ∧ pl < 18446744073709551616 := ⟨a * a / 18446744073709551616, a * a % 18446744073709551616, by generalize a * a = y; omega, Nat.mod_lt _ (by decide)⟩
        have HC := Lib.hid (fun w => rt_times0 (x := a) (by omega) hP w)
        have hx := hmm.out
        rw [ne_words hP.1 hP.2 hM.out.2] at hx
        clear hP hlt
        by_cases h1 : ph = M1
        · subst h1
          have E : ((pl : Int) != (M0 : Int)) = mm := by rw [hx]; simp
          clear hx
          go_wp2_with fail
          refine (HC.out _).mono ?_
          rintro r w' ⟨rfl, rfl⟩
          go_wp2_with fail
          refine (HO.out _).mono ?_
          rintro e w2 ⟨rfl, h2⟩
          have HW2 := Lib.hid h2
          clear h2
          go_wp2_with fail
          go_ret2
          exact ⟨rfl, HBe.out.trans (HW2.out.mono HBe.out.size)⟩
        · have E : ((ph : Int) != (M1 : Int)) = true := by
            rw [bne_iff_ne]; omega
          have hm : mm = true := by rw [hx, E]; rfl
          subst hm
          clear hx
          go_wp2_with fail
          refine (HC.out _).mono ?_
          rintro r w' ⟨rfl, rfl⟩
          go_wp2_with fail
          refine (HO.out _).mono ?_
          rintro e w2 ⟨rfl, h2⟩
          have HW2 := Lib.hid h2
          clear h2
          go_wp2_with fail
          go_ret2
          exact ⟨rfl, HBe.out.trans (HW2.out.mono HBe.out.size)⟩
end Go.Proofs.Ytdgaaceebghcpaa
