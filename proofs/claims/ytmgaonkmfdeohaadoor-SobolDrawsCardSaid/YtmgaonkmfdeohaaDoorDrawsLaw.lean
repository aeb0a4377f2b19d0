/- SobolDraws: the hash, the scrambled word, the draws and a draw's number are the document's, for every input. -/
import Derived.Test.YtmgaonkmfdeohaaDoorSame
import Derived.Test.YtmgaonkmfdeohaaDoorUnit
namespace Go.Proofs.YtmgaonkmfdeohaaDoor
open Go.RowKit

-- The callees' answers as hypotheses: the same word and error of the one, the same list and error of the other.
set_option maxHeartbeats 1000000 in
theorem draws_core (n d : Int) (index seed : Nat) (x : Nat) (er eg : Int) (L : Nat) (hL : L ≤ 256) (f : Nat → Nat) (hs : seed < 4294967296) (w : World) (hP : Plans w) (hT : Tab w)
    (ha : ∀ w, Plans w → Tab w → Calls Tryd.prog 14 #[.int .i64 d, .int .u32 index, .int .u32 seed] w fun e w' => e = .returned (.tuple #[.int .u32 x, .int .i64 er]) ∧ Below w.heap.size w w')
    (hb : ∀ w, Calls Tryd.prog 15 #[.int .i64 d, .int .u32 index, .int .u32 seed] w fun e w' => e = .returned (.tuple #[.int .u32 x, .int .i64 er]) ∧ Below w.heap.size w w')
    (hc : ∀ w, Plans w → Tab w → Calls Tryd.prog 16 #[.int .i64 n, .int .u32 index, .int .u32 seed] w fun e w' => ∃ v, e = .returned (.tuple #[v, .int .i64 eg]) ∧ Sl w' v L f ∧ Below w.heap.size w w')
    (hd : ∀ w, Plans w → Tab w → Calls Tryd.prog 17 #[.int .i64 n, .int .u32 index, .int .u32 seed] w fun e w' => ∃ v, e = .returned (.tuple #[v, .int .i64 eg]) ∧ Sl w' v L f ∧ Below w.heap.size w w') :
    Calls Tryd.prog 7 #[.int .i64 n, .int .i64 d, .int .u32 index, .int .u32 seed] w fun e w' => e = .returned (.bool true) ∧ Below w.heap.size w w' := by
  obtain ⟨b, hb1, hb2⟩ := unit_ok seed hs
  have HU := Lib.hid (fun w => unit_any seed b hb1 w)
  have HV := Lib.hid (fun w => runit_any seed b hb1 w)
  have HP := Lib.hid hP
  have HT := Lib.hid hT
  have HA := Lib.hid ha
  have HB := Lib.hid hb
  have HC := Lib.hid hc
  have HD := Lib.hid hd
  clear hP hT ha hb hc hd hb1
  go_enter Tryd.func7, Tryd.ntmps7
  go_wp2_with fail
  refine (awake_any _ HP.out HT.out).mono ?_
  rintro e w1 ⟨rfl, hq⟩
  have HP1 := Lib.hid (HP.out.below hq)
  have HT1 := Lib.hid (HT.out.below hq)
  have HB1 := Lib.hid hq
  clear hq HP HT
  go_wp2_with fail
  refine (HA.out _ HP1.out HT1.out).mono ?_
  rintro e w2 ⟨rfl, hq⟩
  have HP2 := Lib.hid (HP1.out.below hq)
  have HT2 := Lib.hid (HT1.out.below hq)
  have HB2 := Lib.hid (HB1.out.trans (hq.mono HB1.out.size))
  clear hq HP1 HT1 HB1 HA
  go_wp2_with fail
  refine (HB.out _).mono ?_
  rintro e w3 ⟨rfl, hq⟩
  have HP3 := Lib.hid (HP2.out.below hq)
  have HT3 := Lib.hid (HT2.out.below hq)
  have HB3 := Lib.hid (HB2.out.trans (hq.mono HB2.out.size))
  clear hq HP2 HT2 HB2 HB
  go_wp2_with fail
  refine (HC.out _ HP3.out HT3.out).mono ?_
  rintro e w4 ⟨v, rfl, hv, hq⟩
  have HP4 := Lib.hid (HP3.out.below hq)
  have HT4 := Lib.hid (HT3.out.below hq)
  have HB4 := Lib.hid (HB3.out.trans (hq.mono HB3.out.size))
  have HV4 := Lib.hid hv
  clear hq hv HP3 HT3 HB3 HC
  go_wp2_with fail
  refine (HD.out _ HP4.out HT4.out).mono ?_
  rintro e w5 ⟨u, rfl, hu, hq⟩
  have HB5 := Lib.hid (HB4.out.trans (hq.mono HB4.out.size))
  have HV5 := Lib.hid (sl_below HV4.out hq)
  have HU5 := Lib.hid hu
  clear hq hu HP4 HT4 HB4 HV4 HD
  go_wp2_with fail
  refine (hash_any seed hs _).mono ?_
  rintro e w' ⟨rfl, rfl⟩
  go_wp2_with fail
  refine (rhash_any seed hs _).mono ?_
  rintro e w' ⟨rfl, rfl⟩
  go_wp2_with fail
  refine (same_any v u L hL f _ HV5.out HU5.out).mono ?_
  rintro e w6 ⟨rfl, m, rfl⟩
  go_wp2_with fail
  refine (HU.out _).mono ?_
  rintro e w' ⟨rfl, rfl⟩
  go_wp2_with fail
  refine (HV.out _).mono ?_
  rintro e w' ⟨rfl, rfl⟩
  go_wp2_with fail
  go_ret
  exact ⟨rfl, below_drewN HB5.out m⟩

theorem drawslaw_any (n d : Int) (index seed : Nat) (hi : index < 4294967296) (hs : seed < 4294967296) (w : World) (hP : Plans w) (hT : Tab w) :
    Calls Tryd.prog 7 #[.int .i64 n, .int .i64 d, .int .u32 index, .int .u32 seed] w fun e w' => e = .returned (.bool true) ∧ Below w.heap.size w w' := by
  have one : ∃ (x : Nat) (er : Int), (∀ w, Plans w → Tab w → Calls Tryd.prog 14 #[.int .i64 d, .int .u32 index, .int .u32 seed] w fun e w' => e = .returned (.tuple #[.int .u32 x, .int .i64 er]) ∧ Below w.heap.size w w') ∧
      (∀ w, Calls Tryd.prog 15 #[.int .i64 d, .int .u32 index, .int .u32 seed] w fun e w' => e = .returned (.tuple #[.int .u32 x, .int .i64 er]) ∧ Below w.heap.size w w') := by
    by_cases hd : 0 ≤ d ∧ d < 8
    · obtain ⟨D, rfl⟩ := Int.eq_ofNat_of_zero_le hd.1
      have hD : D < 8 := by omega
      exact ⟨_, 0, fun w hP hT => scr_any D hD index seed hi hs w hP hT, fun w => rscr_any D hD index seed hi hs w⟩
    · have hb : d < 0 ∨ 8 ≤ d := by omega
      exact ⟨0, 50, fun w _ _ => scr_bad d hb index seed w, fun w => rscr_bad d hb index seed w⟩
  obtain ⟨x, er, ha, hb⟩ := one
  by_cases hn : 0 ≤ n ∧ n ≤ 256
  · obtain ⟨N, rfl⟩ := Int.eq_ofNat_of_zero_le hn.1
    have hN : N ≤ 256 := by omega
    exact draws_core N d index seed x er 0 N hN (dr index seed) hs w hP hT ha hb
      (fun w hP hT => (draws_any N index seed hN hi w hP hT).mono fun e w' ⟨v, h1, h2, h3⟩ => ⟨v, h1, sl_of_own h2, h3⟩)
      (fun w hP hT => (rdraws_any N index seed hN hi w hP hT).mono fun e w' ⟨v, h1, h2, h3⟩ => ⟨v, h1, sl_of_own h2, h3⟩)
  · have h : n < 0 ∨ 256 < n := by omega
    exact draws_core n d index seed x er 2 0 (by omega) (dr index seed) hs w hP hT ha hb
      (fun w _ _ => (draws_bad n h index seed w).mono fun e w' ⟨h1, h2⟩ => ⟨_, h1, sl_nil _ _, h2 ▸ Below.refl _ _⟩)
      (fun w _ _ => (rdraws_bad n h index seed w).mono fun e w' ⟨h1, h2⟩ => ⟨_, h1, sl_nil _ _, h2 ▸ Below.refl _ _⟩)
end Go.Proofs.YtmgaonkmfdeohaaDoor
