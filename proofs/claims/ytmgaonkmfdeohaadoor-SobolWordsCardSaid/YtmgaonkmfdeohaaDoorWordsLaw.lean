/- SobolWords: words and points of any dimension and index are the document's. -/
import Derived.Test.YtmgaonkmfdeohaaDoorLaw1
namespace Go.Proofs.YtmgaonkmfdeohaaDoor
open Go.RowKit

-- Two callees that answer alike: the same row and error, the same word and error.
set_option maxRecDepth 100000 in
set_option maxHeartbeats 1000000 in
theorem words_core (d : Int) (idx : Nat) (f : Nat → Nat) (i : Nat) (er : Int) (x : Nat) (w : World) (hP : Plans w) (hT : Tab w)
    (hw : ∀ w, Plans w → Calls Tryd.prog 10 #[.int .i64 d] w fun e w' => e = .returned (.tuple #[.agg (rowOf f i), .int .i64 er]) ∧ Below w.heap.size w w')
    (hr : ∀ w, Calls Tryd.prog 11 #[.int .i64 d] w fun e w' => e = .returned (.tuple #[.agg (rowOf f i), .int .i64 er]) ∧ Below w.heap.size w w')
    (ha : ∀ w, Plans w → Tab w → Calls Tryd.prog 12 #[.int .i64 d, .int .u32 idx] w fun e w' => e = .returned (.tuple #[.int .u32 x, .int .i64 er]) ∧ Below w.heap.size w w')
    (hb : ∀ w, Calls Tryd.prog 13 #[.int .i64 d, .int .u32 idx] w fun e w' => e = .returned (.tuple #[.int .u32 x, .int .i64 er]) ∧ Below w.heap.size w w') :
    Calls Tryd.prog 3 #[.int .i64 d, .int .u32 idx] w fun e w' => e = .returned (.bool true) ∧ Below w.heap.size w w' := by
  have HP := Lib.hid hP
  have HT := Lib.hid hT
  have HW := Lib.hid hw
  have HR := Lib.hid hr
  have HA := Lib.hid ha
  have HB := Lib.hid hb
  have heq := eq24 f i
  clear hP hT hw hr ha hb
  go_enter Tryd.func3, Tryd.ntmps3
  go_wp2_with fail
  refine (awake_any _ HP.out HT.out).mono ?_
  rintro e w1 ⟨rfl, hb1⟩
  have hP1 := HP.out.below hb1
  have hT1 := HT.out.below hb1
  have HB1 := Lib.hid hb1
  have HP1 := Lib.hid hP1
  have HT1 := Lib.hid hT1
  clear hb1 hP1 hT1 HP HT
  go_wp2_with fail
  refine (HW.out _ HP1.out).mono ?_
  rintro e w2 ⟨rfl, hb2⟩
  have hP2 := HP1.out.below hb2
  have hT2 := HT1.out.below hb2
  have HB2 := Lib.hid (HB1.out.trans (hb2.mono HB1.out.size))
  have HP2 := Lib.hid hP2
  have HT2 := Lib.hid hT2
  clear hb2 hP2 hT2 HP1 HT1 HB1 HW
  go_wp2_with (refine wpList_store_row rfl 24 _ _ rfl w2.heap.size _ rfl rfl _ _ (Blk.new w2 24 zeros) (info24r _ _) (sizez _ i) (rowOf_one _ _) ?_; rw [World.setRow_alloc_new])
  have hA : Blk (w2.alloc (.cells (rowOf f i) 24)) w2.heap.size 24 (rowOf f i) := Blk.new _ _ _
  have HB3 := Lib.hid (HB2.out.alloc HB2.out.size (.cells (rowOf f i) 24))
  have HP3 := Lib.hid (HP2.out.below ((Below.refl _ _).alloc (Nat.le_refl _) (.cells (rowOf f i) 24)))
  have HT3 := Lib.hid (HT2.out.below ((Below.refl _ _).alloc (Nat.le_refl _) (.cells (rowOf f i) 24)))
  have hs2 : w2.heap.size < (w2.alloc (.cells (rowOf f i) 24)).heap.size := by simp
  have HS2 := Lib.hid hs2
  have HA2 := Lib.hid hA
  clear hA hs2 HB2 HP2 HT2
  refine (HR.out _).mono ?_
  rintro e w3 ⟨rfl, hb3⟩
  have HP4 := Lib.hid (HP3.out.below hb3)
  have HT4 := Lib.hid (HT3.out.below hb3)
  have HB4 := Lib.hid (HB3.out.trans (hb3.mono HB3.out.size))
  have HA4 := Lib.hid (HA2.out.below hb3 HS2.out)
  have HS4 := Lib.hid (Nat.lt_of_lt_of_le HS2.out hb3.size)
  clear hb3 HP3 HT3 HB3 HA2 HS2 HR
  go_wp2_with (refine wpList_store_row rfl 24 _ _ rfl w3.heap.size _ rfl rfl _ _ (Blk.new w3 24 zeros) (info24r _ _) (sizez _ i) (rowOf_one _ _) ?_; rw [World.setRow_alloc_new])
  have hC : Blk (w3.alloc (.cells (rowOf f i) 24)) w3.heap.size 24 (rowOf f i) := Blk.new _ _ _
  have hs3 : w3.heap.size < (w3.alloc (.cells (rowOf f i) 24)).heap.size := by simp
  have h34 : w3.heap.size ≤ (w3.alloc (.cells (rowOf f i) 24)).heap.size := by simp
  have HC5 := Lib.hid hC
  have HA5 := Lib.hid (HA4.out.alloc (.cells (rowOf f i) 24))
  have HB5 := Lib.hid (HB4.out.alloc HB4.out.size (.cells (rowOf f i) 24))
  have HP5 := Lib.hid (HP4.out.below ((Below.refl _ _).alloc (Nat.le_refl _) (.cells (rowOf f i) 24)))
  have HT5 := Lib.hid (HT4.out.below ((Below.refl _ _).alloc (Nat.le_refl _) (.cells (rowOf f i) 24)))
  have HSA := Lib.hid (Nat.lt_of_lt_of_le HS4.out h34)
  have HSC := Lib.hid hs3
  clear hC hs3 h34 HP4 HT4 HB4 HA4 HS4
  refine (HA.out _ HP5.out HT5.out).mono ?_
  rintro e w4 ⟨rfl, hb4⟩
  have HB6 := Lib.hid (HB5.out.trans (hb4.mono HB5.out.size))
  have HA6 := Lib.hid (HA5.out.below hb4 HSA.out)
  have HC6 := Lib.hid (HC5.out.below hb4 HSC.out)
  have HSA6 := Lib.hid (Nat.lt_of_lt_of_le HSA.out hb4.size)
  have HSC6 := Lib.hid (Nat.lt_of_lt_of_le HSC.out hb4.size)
  clear hb4 HB5 HA5 HC5 HSA HSC HP5 HT5 HA
  go_wp2_with fail
  refine (HB.out _).mono ?_
  rintro e w5 ⟨rfl, hb5⟩
  have HB7 := Lib.hid (HB6.out.trans (hb5.mono HB6.out.size))
  have hA7 := HA6.out.below hb5 HSA6.out
  have hC7 := HC6.out.below hb5 HSC6.out
  clear hb5 HB6 HA6 HC6 HSA6 HSC6 HB
  go_wp2_with (first
    | (refine wpList_load_row rfl 24 (.tmp 5) rfl _ rfl _ _ _ _ hA7 Tryd.underlying24 rfl (info24r _ _) ?_)
    | (refine wpList_load_row rfl 24 (.tmp 7) rfl _ rfl _ _ _ _ hC7 Tryd.underlying24 rfl (info24r _ _) ?_))
  go_ret
  exact ⟨rfl, HB7.out⟩

theorem wordslaw_any (d : Int) (idx : Nat) (hi : idx < 4294967296) (w : World) (hP : Plans w) (hT : Tab w) :
    Calls Tryd.prog 3 #[.int .i64 d, .int .u32 idx] w fun e w' => e = .returned (.bool true) ∧ Below w.heap.size w w' := by
  by_cases hd : 0 ≤ d ∧ d < 8
  · obtain ⟨n, rfl⟩ := Int.eq_ofNat_of_zero_le hd.1
    have hn : n < 8 := by omega
    exact words_core n idx (Sob.wd n) 32 0 (Sob.at32 (Sob.wd n) idx) w hP hT (fun w hP => words_any n hn w hP) (fun w => rwords_any n hn w)
      (fun w hP hT => at_any n hn idx hi w hP hT) (fun w => rat_any n hn idx hi w)
  · have hb : d < 0 ∨ 8 ≤ d := by omega
    exact words_core d idx (Sob.wd 0) 0 50 0 w hP hT (fun w _ => words_bad d hb w) (fun w => rwords_bad d hb w)
      (fun w _ _ => at_bad d hb idx w) (fun w => rat_bad d hb idx w)
end Go.Proofs.YtmgaonkmfdeohaaDoor
