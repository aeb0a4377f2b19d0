/- SobolEven: a block of 2^k indices has each number in its highest k bits once, scrambled or not. -/
import Derived.Test.YtmgaonkmfdeohaaDoorSeen
import Derived.BigQuiet
import Derived.Deep.QuietTactic
import Derived.RegionTactic
namespace Go.Proofs.YtmgaonkmfdeohaaDoor
open Go.RowKit

/-- What a round of the loop knows: two rows. -/
structure EIn (g h : Nat → Nat) (M B C n : Nat) (w wr : World) : Prop where
  hn : n ≤ M
  hB : w.heap.size ≤ B
  hC : w.heap.size ≤ C
  ne : B ≠ C
  r : wr.rowIs B 4 M (fun x => .bool (seen g n x))
  q : wr.rowIs C 4 M (fun x => .bool (seen h n x))
  b : Below w.heap.size w wr
  P : Plans wr
  T : Tab wr
  s : B < wr.heap.size
  z : C < wr.heap.size

section
variable {g h : Nat → Nat} {M B C n : Nat} {w wr w' : World}
theorem EIn.start {w1 : World} (hb : Below w.heap.size w w1) (hP : Plans w1) (hT : Tab w1) :
    EIn g h M w1.heap.size (w1.heap.size + 1) 0 w ((w1.alloc (.cells (madeCells #[.bool false] M) 4)).alloc (.cells (madeCells #[.bool false] M) 4)) := by
  have e : (w1.alloc (.cells (madeCells #[.bool false] M) 4)).heap.size = w1.heap.size + 1 := by simp
  have q := World.rowIs_made (w1.alloc (.cells (madeCells #[.bool false] M) 4)) (.bool false) M 4
  rw [e] at q
  have hb2 : Below w1.heap.size w1 ((w1.alloc (.cells (madeCells #[.bool false] M) 4)).alloc (.cells (madeCells #[.bool false] M) 4)) := ((Below.refl _ _).alloc (Nat.le_refl _) _).alloc (by simp) _
  exact ⟨by omega, hb.size, Nat.le_succ_of_le hb.size, by omega, (World.rowIs_made _ _ _ _).alloc _, q, hb.trans (hb2.mono hb.size), hP.below hb2, hT.below hb2, by simp; omega, by simp⟩
theorem EIn.start' {w1 : World} (hb : Below w.heap.size w w1) (hP : Plans w1) (hT : Tab w1) :
    EIn g h M (w1.heap.size + 1) w1.heap.size 0 w ((w1.alloc (.cells (madeCells #[.bool false] M) 4)).alloc (.cells (madeCells #[.bool false] M) 4)) := by
  have x : EIn h g M w1.heap.size (w1.heap.size + 1) 0 w _ := EIn.start hb hP hT
  exact ⟨x.hn, x.hC, x.hB, x.ne.symm, x.q, x.r, x.b, x.P, x.T, x.z, x.s⟩
theorem EIn.below (x : EIn g h M B C n w wr) (hb : Below wr.heap.size wr w') : EIn g h M B C n w w' :=
  ⟨x.hn, x.hB, x.hC, x.ne, rowIs_below x.r hb x.s, rowIs_below x.q hb x.z, x.b.trans (hb.mono x.b.size), x.P.below hb, x.T.below hb, Nat.lt_of_lt_of_le x.s hb.size, Nat.lt_of_lt_of_le x.z hb.size⟩
theorem EIn.drewN (x : EIn g h M B C n w wr) (k : Nat) : EIn g h M B C n w (wr.drewN k) := ⟨x.hn, x.hB, x.hC, x.ne, x.r, x.q, below_drewN x.b k, x.P, x.T, x.s, x.z⟩
theorem EIn.drew (x : EIn g h M B C n w wr) : EIn g h M B C n w wr.drew := ⟨x.hn, x.hB, x.hC, x.ne, x.r, x.q, x.b.drew, x.P, x.T, x.s, x.z⟩
theorem row_step {B : Nat} {g : Nat → Nat} (hr : wr.rowIs B 4 M (fun x => .bool (seen g n x))) : (wr.setCell ⟨B, g n, none⟩ (.bool true)).rowIs B 4 M (fun x => .bool (seen g (n + 1) x)) := by
  refine (hr.set (g n) (.bool true)).congr fun x _ => ?_
  rw [seen_succ]
  by_cases hx : x = g n
  · subst hx; simp
  · have : (g n == x) = false := by simpa using fun e => hx e.symm
    simp [hx, this]
theorem EIn.step (x : EIn g h M B C n w wr) (hn : n < M) (h2 : 2 ≤ w.heap.size) : EIn g h M B C (n + 1) w ((wr.setCell ⟨B, g n, none⟩ (.bool true)).setCell ⟨C, h n, none⟩ (.bool true)) := by
  have h2B : 2 ≤ B := Nat.le_trans h2 x.hB
  have h2C : 2 ≤ C := Nat.le_trans h2 x.hC
  have hne := x.ne
  refine ⟨hn, x.hB, x.hC, x.ne, ?_, ?_, (x.b.setCell x.hB _).setCell x.hC _, plans_setCell (plans_setCell x.P h2B _) h2C _, tab_setCell (tab_setCell x.T h2B _) h2C _, by simpa using x.s, by simpa using x.z⟩
  · exact (row_step x.r).setOther (a := ⟨C, h n, none⟩) hne _
  · exact row_step (x.q.setOther (a := ⟨B, g n, none⟩) (fun e => hne e.symm) _)
theorem EIn.free (x : EIn g h M B C n w wr) (hg : g n < M) (hne : ∀ i, i < n → g i ≠ g n) : wr.cell? ⟨B, g n, none⟩ = some (.bool false) := by
  rw [x.r.cell hg, seen_new g n hne]
theorem EIn.free' (x : EIn g h M B C n w wr) (hg : h n < M) (hne : ∀ i, i < n → h i ≠ h n) : wr.cell? ⟨C, h n, none⟩ = some (.bool false) := by
  rw [x.q.cell hg, seen_new h n hne]
end

def ERel (g h : Nat → Nat) (M B C : Nat) (w : World) (c : Value) (wr : World) : Prop := ∃ n : Nat, c = .int .u32 n ∧ EIn g h M B C n w wr

set_option maxRecDepth 100000 in
set_option maxHeartbeats 1000000 in
theorem even_any (d k : Int) (block seed : Nat) (hb : block < 4294967296) (hs : seed < 4294967296) (w : World) (hP : Plans w) (hT : Tab w) :
    Calls Tryd.prog 5 #[.int .i64 d, .int .i64 k, .int .u32 block, .int .u32 seed] w fun e w' => e = .returned (.bool true) ∧ Below w.heap.size w w' := by
  have HP := Lib.hid hP
  have HT := Lib.hid hT
  have h2 : 2 ≤ w.heap.size := hP.1
  have H2 := Lib.hid h2
  clear hP hT h2
  obtain ⟨K, hK, hKe⟩ := mod_int k 9 (by decide) (by decide)
  obtain ⟨D, hD, hDe⟩ := mod_int d 8 (by decide) (by decide)
  have HKe := Lib.hid hKe
  have HDe := Lib.hid hDe
  have hp := pow_cast K
  have hf := first_int block K hb
  have hl := fun i hi => first_lt block K i hb (by omega) hi
  have hm := pow_small (K := K) (by omega)
  have hpos := Nat.two_pow_pos K
  have ht1 := fun x => Sob.top_lt K (Sob.at32 (Sob.wd D) x) (Sob.at32_lt D x)
  have ht2 := fun x => Sob.top_lt K (Sob.scr D x seed) (Sob.scr_lt D x seed)
  have hn1 := fun i i' hi hi' hne => Sob.even_ne D K (block / 2 ^ K) i i' (by omega) (by omega) hi hi' hne
  have hn2 := fun i i' hi hi' hne => Sob.even_ne_scr D K (block / 2 ^ K) i i' seed (by omega) (by omega) hi hi' hne
  have hti := fun A hA => top_int K A hA (by omega)
  generalize hM : 2 ^ K = M at *
  generalize hF : block / M * M = F at *
  have hFl : F < 4294967296 := by have := hl 0 hpos; omega
  have hwM : wrap64 (M : Int) = (M : Int) := by unfold wrap64; omega
  have HWM := Lib.hid hwM
  have HPw := Lib.hid hp
  have HF := Lib.hid hf
  have HL := Lib.hid hl
  have HT1' := Lib.hid ht1
  have HT2' := Lib.hid ht2
  have HN1 := Lib.hid hn1
  have HN2 := Lib.hid hn2
  have HTI := Lib.hid hti
  clear hp hf hl ht1 ht2 hn1 hn2 hti hKe hDe hM hF hwM
  go_enter Tryd.func5, Tryd.ntmps5
  go_wp2_with fail
  refine (awake_any _ HP.out HT.out).mono ?_
  rintro e w1 ⟨rfl, hb1⟩
  have hP1 := HP.out.below hb1
  have hT1 := HT.out.below hb1
  have HB1 := Lib.hid hb1
  have HP1 := Lib.hid hP1
  have HT1 := Lib.hid hT1
  clear hb1 hP1 hT1 HP HT
  go_wp2_with (first | simp only [HKe.out] | simp only [HDe.out] | simp only [HPw.out] | simp only [HF.out])
  have hmk := run_make_row' (P := Tryd.prog) 37 4 (.bool false) 1 Tryd.underlying37 info4 rfl .i64 .i64 M (by omega) (by omega)
  have e1 : wrap64 ((2 : Int) ^ K) = (M : Int) := by rw [HPw.out, HWM.out]
  have e2 : IntKind.i64.wrap ((2 : Int) ^ K) = (M : Int) := by rw [HPw.out, IntKind.wrap_i64]; omega
  have hmk1 := hmk
  have hmk2 := hmk
  rw [← e1] at hmk1
  rw [← e2] at hmk2
  clear e1 e2
  go_region
  · have hst : EIn (fun i => Sob.top K (Sob.at32 (Sob.wd D) (F + i))) (fun i => Sob.top K (Sob.scr D (F + i) seed)) M w1.heap.size (w1.heap.size + 1) 0 w _ := (EIn.start HB1.out HP1.out HT1.out).drew
    have HST := Lib.hid hst
    clear hst HB1 HP1 HT1
    generalize hCC : w1.heap.size + 1 = B1 at *
    generalize w1.heap.size = B0 at *
    clear hCC hmk hmk1 hmk2
    go_wp2_with fail
    simp only [HPw.out, HWM.out]
    go_loopw [12] (fun c wr => ERel (fun i => Sob.top K (Sob.at32 (Sob.wd D) (F + i))) (fun i => Sob.top K (Sob.scr D (F + i) seed)) M B0 B1 w c wr) (fun c _ => M - (intOf c).toNat)
    case atStart => exact ⟨0, rfl, HST.out⟩
    case round =>
      clear HST
      obtain ⟨n, rfl, hn⟩ := hrel
      have hnM := hn.hn
      by_cases hlt : n < M
      · have hfn := HL.out n hlt
        have HN := Lib.hid hn
        clear hn
        go_wp2_with (first | simp only [HPw.out])
        refine (at_at D (by omega) _ (F + n) (by omega) hfn _ HN.out.P HN.out.T).mono ?_
        rintro e w2 ⟨rfl, hb2⟩
        have HM2 := Lib.hid (HN.out.below hb2)
        clear hb2 HN
        go_wp2_with fail
        refine (scr_at D (by omega) _ (F + n) seed (by omega) hfn hs _ HM2.out.P HM2.out.T).mono ?_
        rintro e w3 ⟨rfl, hb3⟩
        have HM3 := Lib.hid (HM2.out.below hb3)
        clear hb3 HM2
        have la := Sob.at32_lt D (F + n)
        have lb := Sob.scr_lt D (F + n) seed
        have hx1 := HT1'.out (F + n)
        have hx2 := HT2'.out (F + n)
        have HV1 := Lib.hid (HTI.out _ la)
        have HV2 := Lib.hid (HTI.out _ lb)
        go_wp2_with fail
        go_quiet (fail)
        rw [HV1.out, HV2.out]
        have HM4 := Lib.hid (HM3.out.drewN nq)
        have hc1 := HM4.out.free hx1 (fun i hi => HN1.out i n (by omega) hlt (by omega))
        have hc2 := HM4.out.free' hx2 (fun i hi => HN2.out i n (by omega) hlt (by omega))
        have hz1 := HM4.out.r.frozen (Sob.top K (Sob.at32 (Sob.wd D) (F + n)))
        have hz2 := HM4.out.q.frozen (Sob.top K (Sob.scr D (F + n) seed))
        have HS := Lib.hid (HM4.out.step hlt H2.out)
        have hne := HM4.out.ne
        have hne' := hne.symm
        clear HM3 HM4 HV1 HV2 la lb
        generalize w3.drewN nq = w4 at *
        generalize Sob.top K (Sob.at32 (Sob.wd D) (F + n)) = x at *
        generalize Sob.top K (Sob.scr D (F + n) seed) = y at *
        go_wp2
        go_roundw
        case rel => exact ⟨n + 1, by go_num, HS.out⟩
        case measure => simp [intOf]; omega
      · obtain rfl : n = M := by omega
        have HN := Lib.hid hn
        clear hn
        go_wp2_with (first | simp only [HPw.out])
        go_ret
        exact ⟨rfl, HN.out.b⟩
  · have hst : EIn (fun i => Sob.top K (Sob.at32 (Sob.wd D) (F + i))) (fun i => Sob.top K (Sob.scr D (F + i) seed)) M (w1.heap.size + 1) w1.heap.size 0 w _ := (EIn.start' HB1.out HP1.out HT1.out).drew
    have HST := Lib.hid hst
    clear hst HB1 HP1 HT1
    generalize hCC : w1.heap.size + 1 = B1 at *
    generalize w1.heap.size = B0 at *
    clear hCC hmk hmk1 hmk2
    go_wp2_with fail
    simp only [HPw.out, HWM.out]
    go_loopw [12] (fun c wr => ERel (fun i => Sob.top K (Sob.at32 (Sob.wd D) (F + i))) (fun i => Sob.top K (Sob.scr D (F + i) seed)) M B1 B0 w c wr) (fun c _ => M - (intOf c).toNat)
    case atStart => exact ⟨0, rfl, HST.out⟩
    case round =>
      clear HST
      obtain ⟨n, rfl, hn⟩ := hrel
      have hnM := hn.hn
      by_cases hlt : n < M
      · have hfn := HL.out n hlt
        have HN := Lib.hid hn
        clear hn
        go_wp2_with (first | simp only [HPw.out])
        refine (at_at D (by omega) _ (F + n) (by omega) hfn _ HN.out.P HN.out.T).mono ?_
        rintro e w2 ⟨rfl, hb2⟩
        have HM2 := Lib.hid (HN.out.below hb2)
        clear hb2 HN
        go_wp2_with fail
        refine (scr_at D (by omega) _ (F + n) seed (by omega) hfn hs _ HM2.out.P HM2.out.T).mono ?_
        rintro e w3 ⟨rfl, hb3⟩
        have HM3 := Lib.hid (HM2.out.below hb3)
        clear hb3 HM2
        have la := Sob.at32_lt D (F + n)
        have lb := Sob.scr_lt D (F + n) seed
        have hx1 := HT1'.out (F + n)
        have hx2 := HT2'.out (F + n)
        have HV1 := Lib.hid (HTI.out _ la)
        have HV2 := Lib.hid (HTI.out _ lb)
        go_wp2_with fail
        go_quiet (fail)
        rw [HV1.out, HV2.out]
        have HM4 := Lib.hid (HM3.out.drewN nq)
        have hc1 := HM4.out.free hx1 (fun i hi => HN1.out i n (by omega) hlt (by omega))
        have hc2 := HM4.out.free' hx2 (fun i hi => HN2.out i n (by omega) hlt (by omega))
        have hz1 := HM4.out.r.frozen (Sob.top K (Sob.at32 (Sob.wd D) (F + n)))
        have hz2 := HM4.out.q.frozen (Sob.top K (Sob.scr D (F + n) seed))
        have HS := Lib.hid (HM4.out.step hlt H2.out)
        have hne := HM4.out.ne
        have hne' := hne.symm
        clear HM3 HM4 HV1 HV2 la lb
        generalize w3.drewN nq = w4 at *
        generalize Sob.top K (Sob.at32 (Sob.wd D) (F + n)) = x at *
        generalize Sob.top K (Sob.scr D (F + n) seed) = y at *
        go_wp2
        go_roundw
        case rel => exact ⟨n + 1, by go_num, HS.out⟩
        case measure => simp [intOf]; omega
      · obtain rfl : n = M := by omega
        have HN := Lib.hid hn
        clear hn
        go_wp2_with (first | simp only [HPw.out])
        go_ret
        exact ⟨rfl, HN.out.b⟩
end Go.Proofs.YtmgaonkmfdeohaaDoor
