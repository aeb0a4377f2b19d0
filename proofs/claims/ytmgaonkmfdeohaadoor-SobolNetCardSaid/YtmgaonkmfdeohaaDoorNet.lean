/- SobolNet: each box of the first two dimensions has one point of a block. -/
import Derived.Test.YtmgaonkmfdeohaaDoorSeen
import Derived.BigQuiet
import Derived.Deep.QuietTactic
namespace Go.Proofs.YtmgaonkmfdeohaaDoor
open Go.RowKit

def NRel (g : Nat → Nat) (M B : Nat) (w : World) (c : Value) (wr : World) : Prop := ∃ n : Nat, c = .int .u32 n ∧ NIn g M B n w wr

set_option maxRecDepth 100000 in
set_option maxHeartbeats 1000000 in
theorem net_any (j k : Int) (block seed : Nat) (hb : block < 4294967296) (hs : seed < 4294967296) (w : World) (hP : Plans w) (hT : Tab w) :
    Calls Tryd.prog 6 #[.int .i64 j, .int .i64 k, .int .u32 block, .int .u32 seed] w fun e w' => e = .returned (.bool true) ∧ Below w.heap.size w w' := by
  have HP := Lib.hid hP
  have HT := Lib.hid hT
  have h2 : 2 ≤ w.heap.size := hP.1
  have H2 := Lib.hid h2
  clear hP hT h2
  obtain ⟨K, hK, hKe⟩ := mod_int k 9 (by decide) (by decide)
  obtain ⟨J, hJ, hJe⟩ := mod_int j (K + 1) (by omega) (by omega)
  have HKe := Lib.hid hKe
  have HJe := Lib.hid hJe
  have hp := pow_cast K
  have hf := first_int block K hb
  have hl := fun i hi => first_lt block K i hb (by omega) hi
  have hm := pow_small (K := K) (by omega)
  have hpos := Nat.two_pow_pos K
  have hbox := fun x => Sob.box_lt J K x seed (by omega)
  have hbne := fun i i' hi hi' hne => Sob.box_ne J K (block / 2 ^ K) i i' seed (by omega) (by omega) hi hi' hne
  generalize hM : 2 ^ K = M at *
  generalize hF : block / M * M = F at *
  have hFl : F < 4294967296 := by have := hl 0 hpos; omega
  have HPw := Lib.hid hp
  have HF := Lib.hid hf
  have HL := Lib.hid hl
  have HBX := Lib.hid hbox
  have HBN := Lib.hid hbne
  have hwM : wrap64 (M : Int) = (M : Int) := by unfold wrap64; omega
  have HWM := Lib.hid hwM
  clear hp hf hl hbox hbne hKe hJe hM hF hwM
  go_enter Tryd.func6, Tryd.ntmps6
  go_wp2_with fail
  refine (awake_any _ HP.out HT.out).mono ?_
  rintro e w1 ⟨rfl, hb1⟩
  have hP1 := HP.out.below hb1
  have hT1 := HT.out.below hb1
  have HB1 := Lib.hid hb1
  have HP1 := Lib.hid hP1
  have HT1 := Lib.hid hT1
  clear hb1 hP1 hT1 HP HT
  have hmk := run_make_row' (P := Tryd.prog) 37 4 (.bool false) 1 Tryd.underlying37 info4 rfl .i64 .i64 M (by omega) (by omega)
  go_wp2_with (first | simp only [HKe.out] | simp only [HJe.out] | simp only [HPw.out] | simp only [HF.out] | simp only [HWM.out])
  have hst : NIn (fun i => Sob.box J K (F + i) seed) M w1.heap.size 0 w _ := NIn.start HB1.out HP1.out HT1.out
  have hB2 : 2 ≤ w1.heap.size := HP1.out.1
  generalize w1.heap.size = B at *
  have HST := Lib.hid hst
  clear hst hmk HB1 HP1 HT1 HKe HJe
  go_loopw [11] (fun c wr => NRel (fun i => Sob.box J K (F + i) seed) M B w c wr) (fun c _ => M - (intOf c).toNat)
  case atStart => exact ⟨0, rfl, HST.out⟩
  case round =>
    clear HST
    obtain ⟨n, rfl, hn⟩ := hrel
    have hnM := hn.hn
    by_cases hlt : n < M
    · have hfn := HL.out n hlt
      have HN := Lib.hid hn
      clear hn
      go_wp2_with (first | simp only [HPw.out])
      refine (scr_at 0 (by decide) _ (F + n) seed (by omega) hfn hs _ HN.out.P HN.out.T).mono ?_
      rintro e w2 ⟨rfl, hb2⟩
      have HN2 := Lib.hid (HN.out.below hb2)
      clear hb2 HN
      go_wp2_with fail
      refine (scr_at 1 (by decide) _ (F + n) seed (by omega) hfn hs _ HN2.out.P HN2.out.T).mono ?_
      rintro e w3 ⟨rfl, hb3⟩
      have HN3 := Lib.hid (HN2.out.below hb3)
      clear hb3 HN2
      have la := Sob.scr_lt 0 (F + n) seed
      have lb := Sob.scr_lt 1 (F + n) seed
      have hbx : Sob.box J K (F + n) seed = Sob.top J (Sob.scr 0 (F + n) seed) * 2 ^ (K - J) ||| Sob.top (K - J) (Sob.scr 1 (F + n) seed) := rfl
      have HBX1 := Lib.hid hbx
      clear hbx
      generalize Sob.scr 0 (F + n) seed = A at *
      generalize Sob.scr 1 (F + n) seed = C at *
      go_wp2_with fail
      go_quiet (fail)
      rw [box_int J K A C la lb (by omega) (by omega), ← HBX1.out]
      have HN4 := Lib.hid (HN3.out.drewN nq)
      have hx1 : Sob.box J K (F + n) seed < M := HBX.out _
      have hc : (w3.drewN nq).cell? ⟨B, Sob.box J K (F + n) seed, none⟩ = some (.bool false) := HN4.out.free hx1 (fun i hi => HBN.out i n (by omega) hlt (by omega))
      have hz := HN4.out.frozen (Sob.box J K (F + n) seed)
      have hstep : NIn (fun i => Sob.box J K (F + i) seed) M B (n + 1) w ((w3.drewN nq).setCell ⟨B, Sob.box J K (F + n) seed, none⟩ (.bool true)) := HN4.out.step hlt H2.out
      generalize w3.drewN nq = w4 at *
      have HS := Lib.hid hstep
      clear hstep HN3 HN4 HBX1
      generalize Sob.box J K (F + n) seed = x at *
      go_wp2
      go_roundw
      case rel => exact ⟨n + 1, by go_num, HS.out⟩
      case measure => simp [intOf]; omega
    · obtain rfl : n = M := by omega
      have HN := Lib.hid hn
      clear hn
      go_wp2_with (first | simp only [HPw.out])
      go_ret
      exact ⟨rfl, HN.out.b⟩
end Go.Proofs.YtmgaonkmfdeohaaDoor
