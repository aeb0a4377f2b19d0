/- SobolMore: fewer draws are the first ones of more, and the answers are new memory, for every input. -/
import Derived.Test.YtmgaonkmfdeohaaDoorSame
import Derived.Maps.AppendAt
namespace Go.Proofs.YtmgaonkmfdeohaaDoor
open Go.RowKit

theorem own_form {w : World} {base e n : Nat} {v : Value} {xs : List Value} (h : w.ownsRow base e 1 v n xs) : ∃ A cap, v = .slice A n cap ∧ n ≤ cap ∧ (0 < n → ∃ g, A = some ⟨g, 0, none⟩) := by
  rcases h.2 with ⟨rfl, rfl⟩ | ⟨g, cap, cur, rfl, _, _, hc, _⟩
  · exact ⟨none, 0, rfl, by omega, by omega⟩
  · exact ⟨_, cap, rfl, hc, fun _ => ⟨g, rfl⟩⟩

theorem own_cell {w : World} {base e n g cap : Nat} {xs : List Value} (h : w.ownsRow base e 1 (.slice (some ⟨g, 0, none⟩) n cap) n xs) (k : Nat) (hk : k < n) :
    (∃ x, w.cell? ⟨g, k, none⟩ = some x) ∧ w.frozen? ⟨g, k, none⟩ = false ∧ base ≤ g ∧ g < w.heap.size := by
  have hl := h.lt g rfl
  have hx := h.1
  have hk' : k < xs.length := by omega
  have hc := h.cells (g := g) rfl k _ (List.getElem?_eq_getElem hk')
  have e : (⟨g, 0, none⟩ : Addr).add k = ⟨g, k, none⟩ := by unfold Addr.add; split <;> simp_all
  rw [e] at hc
  refine ⟨⟨_, hc⟩, ?_, hl⟩
  rcases h.2 with ⟨h1, _⟩ | ⟨g', cap', cur, h1, _, hh, _⟩
  · cases h1
  · have : g' = g := by injection h1 with h1; injection h1 with h1; injection h1 with h1; exact h1.symm
    subst this
    simp [World.frozen?, hh]

theorem own_set {w : World} {base e n g cap : Nat} {xs : List Value} (h : w.ownsRow base e 1 (.slice (some ⟨g, 0, none⟩) n cap) n xs) (k : Nat) (u : Value) :
    ∃ ys, (w.setCell ⟨g, k, none⟩ u).ownsRow base e 1 (.slice (some ⟨g, 0, none⟩) n cap) n ys := by
  rcases h.2 with ⟨h1, _⟩ | ⟨g', cap', cur, h1, hb, hh, hc, hm, hs, ht⟩
  · cases h1
  · have e1 : g' = g := by injection h1 with h1; injection h1 with h1; injection h1 with h1; exact h1.symm
    have e2 : cap' = cap := by injection h1 with _ _ h1; exact h1.symm
    subst e1 e2
    refine ⟨(cur.setIfInBounds k u).toList.take (n * 1), ?_, .inr ⟨g', cap', cur.setIfInBounds k u, rfl, hb, ?_, hc, hm, by simpa using hs, rfl⟩⟩
    · simp; omega
    · simp [World.setCell, Array.getElem?_modify, hh]

/-- The one list grows or turns, the other stays. -/
structure MIn (f : Nat → Nat) (M n : Nat) (v u : Value) (w wr : World) : Prop where
  own : ∃ xs, wr.ownsRow w.heap.size 22 1 v n xs
  b : Below w.heap.size w wr
  P : Plans w
  T : Tab w
  su : Sl wr u M f
  ne : ∀ g g', v.ownBlock = some g → u.ownBlock = some g' → g ≠ g'
  lt : ∀ g', u.ownBlock = some g' → g' < wr.heap.size

theorem sl_of {w w' : World} {u : Value} {M : Nat} {f : Nat → Nat} (h : Sl w u M f) (hk : ∀ g, u.ownBlock = some g → w'.heap[g]? = w.heap[g]?) : Sl w' u M f := by
  obtain ⟨A, cap, rfl, hcap, hc⟩ := h
  refine ⟨A, cap, rfl, hcap, fun hn => ?_⟩
  obtain ⟨g, rfl, hcell⟩ := hc hn
  refine ⟨g, rfl, fun j hj => ?_⟩
  rw [World.cell?_of_block (a := ⟨g, j, none⟩) (hk g rfl)]
  exact hcell j hj

section
variable {f : Nat → Nat} {M n : Nat} {v v' u : Value} {w wr w' : World}
theorem MIn.set {g cap k : Nat} (h : MIn f M n (.slice (some ⟨g, 0, none⟩) n cap) u w wr) (hk : k < n) (x : Value) : MIn f M n (.slice (some ⟨g, 0, none⟩) n cap) u w (wr.setCell ⟨g, k, none⟩ x) := by
  obtain ⟨xs, hown⟩ := h.own
  obtain ⟨_, _, hg, _⟩ := own_cell hown k hk
  refine ⟨own_set hown k x, h.b.setCell hg _, h.P, h.T, sl_of h.su (fun g' hg' => Below.heap_setCell _ _ _ _ (fun e => h.ne g g' rfl hg' e.symm)), h.ne, fun g' hg' => by simpa using h.lt g' hg'⟩
theorem MIn.grown {o : Obj} (h : MIn f M n v u w wr) {ys : List Value} (hown : w'.ownsRow w.heap.size 22 1 v' (n + 1) ys) (hg : (wr.alloc o).grownBy w' v.ownBlock)
    (hat : v'.ownBlock = v.ownBlock ∨ v'.ownBlock = some (wr.heap.size + 1)) : MIn f M (n + 1) v' u w w' := by
  obtain ⟨xs, h0⟩ := h.own
  have hs := h.b.size
  have hsz : wr.heap.size + 1 ≤ w'.heap.size := by have := hg.size; simpa using this
  have hb : Below w.heap.size w w' := (h.b.alloc hs o).grown hg (by simp; omega) (fun j hj => (h0.lt j hj).1)
  refine ⟨⟨ys, hown⟩, hb, h.P, h.T, sl_of h.su (fun g hgu => ?_), fun g g' h1 h2 => ?_, fun g' hg' => by have := h.lt g' hg'; omega⟩
  · have hlt := h.lt g hgu
    rw [hg.block g (by simp; omega) (fun e => h.ne g g e.symm hgu rfl), Below.heap_alloc wr o g hlt]
  · rcases hat with e | e
    · exact h.ne g g' (e ▸ h1) h2
    · have := h.lt g' h2
      rw [e] at h1
      injection h1 with h1
      omega
end

theorem MIn.drewN {f : Nat → Nat} {M n : Nat} {v u : Value} {w wr : World} (h : MIn f M n v u w wr) (k : Nat) : MIn f M n v u w (wr.drewN k) :=
  ⟨h.own, below_drewN h.b k, h.P, h.T, sl_of h.su (fun _ _ => rfl), h.ne, h.lt⟩

def M1Rel (f : Nat → Nat) (M n : Nat) (v u : Value) (w : World) (c : Value) (wr : World) : Prop := ∃ k : Nat, k ≤ n ∧ c = .int .i64 k ∧ MIn f M n v u w wr
def M2Rel (f : Nat → Nat) (M n : Nat) (u : Value) (w : World) (o c : Value) (wr : World) : Prop := ∃ k : Nat, k ≤ 9 ∧ c = .int .i64 k ∧ MIn f M (n + k) o u w wr

theorem draws_gen (x : Int) (n index seed : Nat) (hx : x = n) (hn : n ≤ 256) (hi : index < 4294967296) (w : World) (hP : Plans w) (hT : Tab w) :
    Calls Tryd.prog 16 #[.int .i64 x, .int .u32 index, .int .u32 seed] w fun e w' => ∃ v, e = .returned (.tuple #[v, .int .i64 0]) ∧ w'.ownsRow w.heap.size 22 1 v n (dl index seed n) ∧ Below w.heap.size w w' := by
  subst hx; exact draws_any n index seed hn hi w hP hT

set_option maxRecDepth 100000 in
set_option maxHeartbeats 2000000 in
theorem more_le (n m : Int) (A B index seed : Nat) (hA : A ≤ 256) (hB : B ≤ 256) (hn : wrap64 ((IntKind.u64.wrap n).tmod 257) = (A : Int)) (hm : wrap64 ((IntKind.u64.wrap m).tmod 257) = (B : Int)) (hAB : A ≤ B) (hi : index < 4294967296) (w : World) (hP : Plans w) (hT : Tab w) :
    Calls Tryd.prog 8 #[.int .i64 n, .int .i64 m, .int .u32 index, .int .u32 seed] w fun e w' => e = .returned (.bool true) ∧ Below w.heap.size w w' := by
  have HNe := Lib.hid hn
  have HMe := Lib.hid hm
  have HP := Lib.hid hP
  have HT := Lib.hid hT
  obtain ⟨i0, hi0, hz0, hz1, hz2⟩ := info_parts info22
  clear hn hm hP hT
  go_enter Tryd.func8, Tryd.ntmps8
  go_wp2_with fail
  refine (awake_any _ HP.out HT.out).mono ?_
  rintro e w1 ⟨rfl, hq⟩
  have HP1 := Lib.hid (HP.out.below hq)
  have HT1 := Lib.hid (HT.out.below hq)
  have HB1 := Lib.hid hq
  clear hq HP HT
  go_wp2_with (first | simp only [HNe.out] | simp only [HMe.out])
  refine (draws_any A index seed (by omega) hi _ HP1.out HT1.out).mono ?_
  rintro e w2 ⟨v, rfl, hv, hq⟩
  have HP2 := Lib.hid (HP1.out.below hq)
  have HT2 := Lib.hid (HT1.out.below hq)
  have HB2 := Lib.hid hq
  obtain ⟨Av, cv, rfl, hcv, hgv⟩ := own_form hv
  have HV2 := Lib.hid hv
  clear hq hv
  go_wp2_with fail
  refine (draws_any B index seed (by omega) hi _ HP2.out HT2.out).mono ?_
  rintro e w3 ⟨u, rfl, hu, hq⟩
  obtain ⟨Au, cu, rfl, hcu, hgu⟩ := own_form hu
  have HP3 := Lib.hid (HP2.out.below hq)
  have HT3 := Lib.hid (HT2.out.below hq)
  have HV3 := Lib.hid (ownsRow_below HV2.out hq)
  have HSu := Lib.hid (sl_of_own hu)
  have hM : MIn (dr index seed) B A (.slice Av A cv) (.slice Au B cu) w1 w3 := by
    refine ⟨⟨_, HV3.out⟩, HB2.out.trans (hq.mono HB2.out.size), HP1.out, HT1.out, HSu.out, fun g g' h1 h2 => ?_, fun g' h2 => (hu.lt g' h2).2⟩
    have a1 := (HV2.out.lt g h1).2
    have a2 := (hu.lt g' h2).1
    omega
  have HM := Lib.hid hM
  have HSs : Sl w3 (.slice Au A cu) A (dr index seed) := by
    obtain ⟨A', c', e, _, hc⟩ := HSu.out
    injection e with e1 e2 e3
    subst e1 e3
    exact ⟨Au, cu, rfl, by omega, fun h0 => by
      obtain ⟨g, rfl, hcell⟩ := hc (by omega)
      exact ⟨g, rfl, fun j hj => hcell j (by omega)⟩⟩
  have HSS := Lib.hid HSs
  have HSV := Lib.hid (sl_of_own HV3.out)
  clear hq hu hM HSs HP2 HT2 HB2 HV2 HV3 HP3 HT3
  go_wp2_with fail
  refine (same_any _ _ A (by omega) (dr index seed) _ HSV.out HSS.out).mono ?_
  rintro e w4 ⟨rfl, q, rfl⟩
  have HM4 := Lib.hid (HM.out.drewN q)
  clear HM HSV HSS
  go_wp2_with fail
  go_loopw [68] (fun c wr => M1Rel (dr index seed) B A (.slice Av A cv) (.slice Au B cu) w1 c wr) (fun c _ => A - (intOf c).toNat)
  case atStart => exact ⟨0, by omega, rfl, HM4.out⟩
  case round =>
    clear HM4
    obtain ⟨k, hk, rfl, hq⟩ := hrel
    by_cases hlt : k < A
    · obtain ⟨g, rfl⟩ := hgv (by omega)
      have HQ := Lib.hid hq
      have HQ2 := Lib.hid (hq.set hlt (.int .u32 7))
      obtain ⟨xs, hown⟩ := hq.own
      obtain ⟨⟨y, hy⟩, hz, _, _⟩ := own_cell hown k hlt
      clear hown hq
      go_wp2
      go_roundw
      case rel => exact ⟨k + 1, by omega, by go_num, HQ2.out⟩
      case measure => simp [intOf]; omega
    · obtain rfl : k = A := by omega
      have HQ := Lib.hid hq
      clear hq
      obtain ⟨wo, rfl⟩ : ∃ wo : World, wo = wr := ⟨_, rfl⟩
      go_wp2_with fail
      go_loopw [9, 14] (fun o c wr => M2Rel (dr index seed) B k (.slice Au B cu) w1 o c wr) (fun _ c _ => 9 - (intOf c).toNat)
      case atStart => exact ⟨0, by omega, rfl, HQ.out⟩
      case round =>
        clear HQ
        obtain ⟨r, hr, rfl, hq⟩ := hrel
        by_cases hr9 : r < 9
        · obtain ⟨xs, hown⟩ := hq.own
          have HQ := Lib.hid hq
          have HOW := Lib.hid hown
          clear hq hown
          go_wp2_with (at_builtin; refine wpList_append_own_at _ rfl (.tmp 79) (.tmp 80) 42 rfl w1.heap.size 22 i0 (.int .u32 0) 1 4 Tryd.underlying42 hi0 hz0 hz1 hz2 rfl (by decide) _ _ _ rfl (HOW.out.alloc _) ⟨wr.heap.size, 0, none⟩ 1 1 [.int .u32 8] rfl rfl ?c1 ?c2 ?c3 ?c4 ?c5 ?_)
          case c1 => exact cell_one_new _ _ _
          case c2 => intro x hx; simp at hx; subst hx; rfl
          case c3 => unfold maxLen; omega
          case c4 => omega
          case c5 => simpa using Nat.le_succ_of_le HQ.out.b.size
          intro v' w5 hown hg _ hat
          have HD := Lib.hid (HQ.out.grown hown hg (by simpa using hat))
          clear hown hg hat HQ HOW
          go_wp2
          go_roundw
          case rel => exact ⟨r + 1, by omega, by go_num, HD.out⟩
          case measure => simp [intOf]; omega
        · obtain rfl : r = 9 := by omega
          obtain ⟨xs, hown⟩ := hq.own
          obtain ⟨A9, c9, rfl, _, _⟩ := own_form hown
          have HQ := Lib.hid hq
          clear hq hown
          go_wp2_with fail
          refine (draws_any B index seed (by omega) hi _ (HQ.out.P.below HQ.out.b) (HQ.out.T.below HQ.out.b)).mono ?_
          rintro e w6 ⟨z, rfl, hz, hq⟩
          have HZ := Lib.hid (sl_of_own hz)
          have HU := Lib.hid (sl_below HQ.out.su hq)
          have HB6 := Lib.hid (HQ.out.b.trans (hq.mono HQ.out.b.size))
          clear hz hq HQ
          go_wp2_with fail
          refine (same_any _ _ B (by omega) (dr index seed) _ HU.out HZ.out).mono ?_
          rintro e w7 ⟨rfl, p, rfl⟩
          go_wp2_with fail
          go_ret
          exact ⟨rfl, below_drewN (HB1.out.trans (HB6.out.mono HB1.out.size)) p⟩

set_option maxRecDepth 100000 in
set_option maxHeartbeats 2000000 in
theorem more_gt (n m : Int) (A B index seed : Nat) (hA : A ≤ 256) (hB : B ≤ 256) (hn : wrap64 ((IntKind.u64.wrap n).tmod 257) = (A : Int)) (hm : wrap64 ((IntKind.u64.wrap m).tmod 257) = (B : Int)) (hAB : B < A) (hi : index < 4294967296) (w : World) (hP : Plans w) (hT : Tab w) :
    Calls Tryd.prog 8 #[.int .i64 n, .int .i64 m, .int .u32 index, .int .u32 seed] w fun e w' => e = .returned (.bool true) ∧ Below w.heap.size w w' := by
  have HNe := Lib.hid hn
  have HMe := Lib.hid hm
  have HP := Lib.hid hP
  have HT := Lib.hid hT
  obtain ⟨i0, hi0, hz0, hz1, hz2⟩ := info_parts info22
  clear hn hm hP hT
  go_enter Tryd.func8, Tryd.ntmps8
  go_wp2_with fail
  refine (awake_any _ HP.out HT.out).mono ?_
  rintro e w1 ⟨rfl, hq⟩
  have HP1 := Lib.hid (HP.out.below hq)
  have HT1 := Lib.hid (HT.out.below hq)
  have HB1 := Lib.hid hq
  clear hq HP HT
  go_wp2_with (first | simp only [HNe.out] | simp only [HMe.out])
  refine (draws_any B index seed (by omega) hi _ HP1.out HT1.out).mono ?_
  rintro e w2 ⟨v, rfl, hv, hq⟩
  have HP2 := Lib.hid (HP1.out.below hq)
  have HT2 := Lib.hid (HT1.out.below hq)
  have HB2 := Lib.hid hq
  obtain ⟨Av, cv, rfl, hcv, hgv⟩ := own_form hv
  have HV2 := Lib.hid hv
  clear hq hv
  go_wp2_with fail
  refine (draws_any A index seed (by omega) hi _ HP2.out HT2.out).mono ?_
  rintro e w3 ⟨u, rfl, hu, hq⟩
  obtain ⟨Au, cu, rfl, hcu, hgu⟩ := own_form hu
  have HP3 := Lib.hid (HP2.out.below hq)
  have HT3 := Lib.hid (HT2.out.below hq)
  have HV3 := Lib.hid (ownsRow_below HV2.out hq)
  have HSu := Lib.hid (sl_of_own hu)
  have hM : MIn (dr index seed) A B (.slice Av B cv) (.slice Au A cu) w1 w3 := by
    refine ⟨⟨_, HV3.out⟩, HB2.out.trans (hq.mono HB2.out.size), HP1.out, HT1.out, HSu.out, fun g g' h1 h2 => ?_, fun g' h2 => (hu.lt g' h2).2⟩
    have a1 := (HV2.out.lt g h1).2
    have a2 := (hu.lt g' h2).1
    omega
  have HM := Lib.hid hM
  have HSs : Sl w3 (.slice Au B cu) B (dr index seed) := by
    obtain ⟨A', c', e, _, hc⟩ := HSu.out
    injection e with e1 e2 e3
    subst e1 e3
    exact ⟨Au, cu, rfl, by omega, fun h0 => by
      obtain ⟨g, rfl, hcell⟩ := hc (by omega)
      exact ⟨g, rfl, fun j hj => hcell j (by omega)⟩⟩
  have HSS := Lib.hid HSs
  have HSV := Lib.hid (sl_of_own HV3.out)
  clear hq hu hM HSs HP2 HT2 HB2 HV2 HV3 HP3 HT3
  go_wp2_with fail
  refine (same_any _ _ B (by omega) (dr index seed) _ HSV.out HSS.out).mono ?_
  rintro e w4 ⟨rfl, q, rfl⟩
  have HM4 := Lib.hid (HM.out.drewN q)
  clear HM HSV HSS
  go_wp2_with fail
  go_loopw [68] (fun c wr => M1Rel (dr index seed) A B (.slice Av B cv) (.slice Au A cu) w1 c wr) (fun c _ => B - (intOf c).toNat)
  case atStart => exact ⟨0, by omega, rfl, HM4.out⟩
  case round =>
    clear HM4
    obtain ⟨k, hk, rfl, hq⟩ := hrel
    by_cases hlt : k < B
    · obtain ⟨g, rfl⟩ := hgv (by omega)
      have HQ := Lib.hid hq
      have HQ2 := Lib.hid (hq.set hlt (.int .u32 7))
      obtain ⟨xs, hown⟩ := hq.own
      obtain ⟨⟨y, hy⟩, hz, _, _⟩ := own_cell hown k hlt
      clear hown hq
      go_wp2
      go_roundw
      case rel => exact ⟨k + 1, by omega, by go_num, HQ2.out⟩
      case measure => simp [intOf]; omega
    · obtain rfl : k = B := by omega
      have HQ := Lib.hid hq
      clear hq
      obtain ⟨wo, rfl⟩ : ∃ wo : World, wo = wr := ⟨_, rfl⟩
      go_wp2_with fail
      go_loopw [9, 14] (fun o c wr => M2Rel (dr index seed) A k (.slice Au A cu) w1 o c wr) (fun _ c _ => 9 - (intOf c).toNat)
      case atStart => exact ⟨0, by omega, rfl, HQ.out⟩
      case round =>
        clear HQ
        obtain ⟨r, hr, rfl, hq⟩ := hrel
        by_cases hr9 : r < 9
        · obtain ⟨xs, hown⟩ := hq.own
          have HQ := Lib.hid hq
          have HOW := Lib.hid hown
          clear hq hown
          go_wp2_with (at_builtin; refine wpList_append_own_at _ rfl (.tmp 79) (.tmp 80) 42 rfl w1.heap.size 22 i0 (.int .u32 0) 1 4 Tryd.underlying42 hi0 hz0 hz1 hz2 rfl (by decide) _ _ _ rfl (HOW.out.alloc _) ⟨wr.heap.size, 0, none⟩ 1 1 [.int .u32 8] rfl rfl ?c1 ?c2 ?c3 ?c4 ?c5 ?_)
          case c1 => exact cell_one_new _ _ _
          case c2 => intro x hx; simp at hx; subst hx; rfl
          case c3 => unfold maxLen; omega
          case c4 => omega
          case c5 => simpa using Nat.le_succ_of_le HQ.out.b.size
          intro v' w5 hown hg _ hat
          have HD := Lib.hid (HQ.out.grown hown hg (by simpa using hat))
          clear hown hg hat HQ HOW
          go_wp2
          go_roundw
          case rel => exact ⟨r + 1, by omega, by go_num, HD.out⟩
          case measure => simp [intOf]; omega
        · obtain rfl : r = 9 := by omega
          obtain ⟨xs, hown⟩ := hq.own
          obtain ⟨A9, c9, rfl, _, _⟩ := own_form hown
          have HQ := Lib.hid hq
          clear hq hown
          go_wp2_with fail
          refine (draws_any A index seed (by omega) hi _ (HQ.out.P.below HQ.out.b) (HQ.out.T.below HQ.out.b)).mono ?_
          rintro e w6 ⟨z, rfl, hz, hq⟩
          have HZ := Lib.hid (sl_of_own hz)
          have HU := Lib.hid (sl_below HQ.out.su hq)
          have HB6 := Lib.hid (HQ.out.b.trans (hq.mono HQ.out.b.size))
          clear hz hq HQ
          go_wp2_with fail
          refine (same_any _ _ A (by omega) (dr index seed) _ HU.out HZ.out).mono ?_
          rintro e w7 ⟨rfl, p, rfl⟩
          go_wp2_with fail
          go_ret
          exact ⟨rfl, below_drewN (HB1.out.trans (HB6.out.mono HB1.out.size)) p⟩

theorem more_any (n m : Int) (index seed : Nat) (hi : index < 4294967296) (_hs : seed < 4294967296) (w : World) (hP : Plans w) (hT : Tab w) :
    Calls Tryd.prog 8 #[.int .i64 n, .int .i64 m, .int .u32 index, .int .u32 seed] w fun e w' => e = .returned (.bool true) ∧ Below w.heap.size w w' := by
  obtain ⟨A, hA, hn⟩ := mod_int n 257 (by decide) (by decide)
  obtain ⟨B, hB, hm⟩ := mod_int m 257 (by decide) (by decide)
  by_cases h : A ≤ B
  · exact more_le n m A B index seed (by omega) (by omega) hn hm h hi w hP hT
  · exact more_gt n m A B index seed (by omega) (by omega) hn hm (by omega) hi w hP hT
end Go.Proofs.YtmgaonkmfdeohaaDoor
