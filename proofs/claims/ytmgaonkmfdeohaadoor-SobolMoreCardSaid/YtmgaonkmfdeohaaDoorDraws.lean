/- The draws of a sample: sobol.Draws and lanternref05.Draws build the same list in memory of their own. -/
import Derived.Test.YtmgaonkmfdeohaaDoorSeen
import Derived.OwnWalk
import Derived.Laws.AppendOwn
namespace Go.Proofs.YtmgaonkmfdeohaaDoor
open Go.RowKit

/-- The i-th draw. -/
def dr (index seed i : Nat) : Nat := Sob.scr (i % 8) index (Sob.hash ((seed + i / 8) % 4294967296))
theorem dr_lt (index seed i : Nat) : dr index seed i < 4294967296 := Sob.scr_lt _ _ _

/-- The first k draws, as cells. -/
def dl (index seed k : Nat) : List Value := (List.range k).map fun i => Value.int .u32 (dr index seed i : Nat)
theorem dl_zero (index seed : Nat) : dl index seed 0 = [] := rfl
theorem dl_succ (index seed k : Nat) : dl index seed (k + 1) = dl index seed k ++ [Value.int .u32 (dr index seed k : Nat)] := by
  unfold dl; rw [List.range_succ, List.map_append]; rfl
theorem dl_length (index seed k : Nat) : (dl index seed k).length = k := by simp [dl]
theorem dl_get (index seed k i : Nat) (h : i < k) : (dl index seed k)[i]? = some (.int .u32 (dr index seed i : Nat)) := by simp [dl, h]

theorem scr_gen (d : Int) (D : Nat) (hd : d = D) (hD : D < 8) (idx : Nat) (s : Int) (seed : Nat) (hx : s = seed) (hi : idx < 4294967296) (hs : seed < 4294967296) (w : World) (hP : Plans w) (hT : Tab w) :
    Calls Tryd.prog 14 #[.int .i64 d, .int .u32 idx, .int .u32 s] w fun e w' => e = .returned (.tuple #[.int .u32 (Sob.scr D idx seed : Nat), .int .i64 0]) ∧ Below w.heap.size w w' := by
  subst hd hx; exact scr_any D hD idx seed hi hs w hP hT
theorem rscr_gen (d : Int) (D : Nat) (hd : d = D) (hD : D < 8) (idx : Nat) (s : Int) (seed : Nat) (hx : s = seed) (hi : idx < 4294967296) (hs : seed < 4294967296) (w : World) :
    Calls Tryd.prog 15 #[.int .i64 d, .int .u32 idx, .int .u32 s] w fun e w' => e = .returned (.tuple #[.int .u32 (Sob.scr D idx seed : Nat), .int .i64 0]) ∧ Below w.heap.size w w' := by
  subst hd hx; exact rscr_any D hD idx seed hi hs w

theorem info22 : (Tryd.prog.info? 22).map (fun i => (i.zero, i.size, i.bytes)) = some (some (.int .u32 0), 1, 4) := by kernel_rfl

theorem ownsRow_below {B : Nat} {e : TypeId} {k : Nat} {v : Value} {n : Nat} {xs : List Value} {w w' : World} (h : w.ownsRow B e k v n xs) (hb : Below w.heap.size w w') : w'.ownsRow B e k v n xs :=
  h.kept (row := none) ⟨hb.os, hb.tape, hb.output, hb.size, fun j hj _ => hb.block j hj⟩ (by cases hv : v.ownBlock <;> simp)

/-- What a round of the loop knows. -/
structure DIn (index seed N : Nat) (n k : Nat) (v : Value) (w wr : World) : Prop where
  hN : N = w.heap.size
  hk : k ≤ n
  own : wr.ownsRow N 22 1 v k (dl index seed k)
  b : Below w.heap.size w wr
  P0 : Plans w
  T0 : Tab w

theorem DIn.P {index seed N n k : Nat} {v : Value} {w wr : World} (h : DIn index seed N n k v w wr) : Plans wr := h.P0.below h.b
theorem DIn.T {index seed N n k : Nat} {v : Value} {w wr : World} (h : DIn index seed N n k v w wr) : Tab wr := h.T0.below h.b
theorem DIn.start {index seed n : Nat} {w : World} (hP : Plans w) (hT : Tab w) : DIn index seed w.heap.size n 0 (.slice none 0 0) w w :=
  ⟨rfl, by omega, World.ownsRow_nil _ _ _ _, Below.refl _ _, hP, hT⟩
theorem DIn.below {index seed N n k : Nat} {v : Value} {w wr w' : World} (h : DIn index seed N n k v w wr) (hb : Below wr.heap.size wr w') : DIn index seed N n k v w w' :=
  ⟨h.hN, h.hk, ownsRow_below h.own hb, h.b.trans (hb.mono h.b.size), h.P0, h.T0⟩
theorem DIn.grown {index seed N n k x : Nat} {v v' : Value} {w wr w' : World} {o : Obj} (h : DIn index seed N n k v w wr) (hlt : k < n) (hx : dl index seed (k + 1) = dl index seed k ++ [.int .u32 (x : Nat)])
    (hown : w'.ownsRow N 22 1 v' (k + 1) (dl index seed k ++ [.int .u32 (x : Nat)])) (hg : (wr.alloc o).grownBy w' v.ownBlock) : DIn index seed N n (k + 1) v' w w' := by
  have hs := h.b.size
  have hb : Below w.heap.size w w' := (h.b.alloc hs o).grown hg (by simp; omega) (fun j hj => by have := (h.own.lt j hj).1; rw [h.hN] at this; exact this)
  exact ⟨h.hN, hlt, by rw [hx]; exact hown, hb, h.P0, h.T0⟩

def DRel (index seed N n : Nat) (o c : Value) (w wr : World) : Prop := ∃ k : Nat, c = .int .i64 k ∧ DIn index seed N n k o w wr

set_option maxRecDepth 100000 in
set_option maxHeartbeats 1000000 in
theorem draws_any (n index seed : Nat) (hn : n ≤ 256) (hi : index < 4294967296) (w : World) (hP : Plans w) (hT : Tab w) :
    Calls Tryd.prog 16 #[.int .i64 n, .int .u32 index, .int .u32 seed] w fun e w' => ∃ v, e = .returned (.tuple #[v, .int .i64 0]) ∧ w'.ownsRow w.heap.size 22 1 v n (dl index seed n) ∧ Below w.heap.size w w' := by
  have HST := Lib.hid (DIn.start (index := index) (seed := seed) (n := n) hP hT)
  clear hP hT
  obtain ⟨i0, hi0, hz0, hz1, hz2⟩ := info_parts info22
  have hd1 : decide ((n : Int) < 0) = false := decide_eq_false (by omega)
  have hd2 : decide (256 < (n : Int)) = false := decide_eq_false (by omega)
  go_enter Tryd.func16, Tryd.ntmps16
  go_wp2_with fail
  go_loopw [8, 19] (fun o c wr => DRel index seed w.heap.size n o c w wr) (fun _ c _ => n - (intOf c).toNat)
  case atStart => exact ⟨0, rfl, HST.out⟩
  case round =>
    clear HST
    obtain ⟨k, rfl, hk⟩ := hrel
    have hkn := hk.hk
    by_cases hlt : k < n
    · have HK := Lib.hid hk
      clear hk
      have hl := dr_lt index seed k
      go_wp2_with fail
      refine (hash_at _ ((seed + k / 8) % 4294967296) (by omega) (Nat.mod_lt _ (by decide)) _).mono ?_
      rintro e w' ⟨rfl, rfl⟩
      go_wp2_with fail
      refine (scr_gen _ (k % 8) (by omega) (Nat.mod_lt _ (by decide)) index _ _ rfl hi (Sob.hash_lt _) _ HK.out.P HK.out.T).mono ?_
      rintro e w2 ⟨rfl, hb2⟩
      have HK2 := Lib.hid (HK.out.below hb2)
      have hE : Sob.scr (k % 8) index (Sob.hash ((seed + k / 8) % 4294967296)) = dr index seed k := rfl
      rw [hE]
      clear hb2 HK hE
      have HSN := Lib.hid (dl_succ index seed k)
      generalize dr index seed k = x at *
      go_wp2_with (at_builtin; refine wpList_append_own _ rfl (.tmp 35) (.tmp 37) 42 rfl w.heap.size 22 i0 (.int .u32 0) 1 4 Tryd.underlying42 hi0 hz0 hz1 hz2 rfl (by decide) _ _ _ rfl (HK2.out.own.alloc _) ⟨w2.heap.size, 0, none⟩ 1 1 [.int .u32 x] rfl rfl ?c1 ?c2 ?c3 ?c4 ?c5 ?_)
      case c1 => exact cell_one_new _ _ _
      case c2 => intro u hu; simp at hu; subst hu; rfl
      case c3 => unfold maxLen; omega
      case c4 => omega
      case c5 => simpa using Nat.le_succ_of_le HK2.out.b.size
      intro v' w3 hown hg _
      have HD := Lib.hid (HK2.out.grown hlt HSN.out hown hg)
      clear hown hg HK2 HSN
      go_wp2
      go_roundw
      case rel => exact ⟨k + 1, by go_num, HD.out⟩
      case measure => simp [intOf]; omega
    · obtain rfl : k = n := by omega
      have HK := Lib.hid hk
      clear hk
      go_wp2
      go_ret2
      exact ⟨_, rfl, HK.out.own, HK.out.b⟩

set_option maxHeartbeats 1000000 in
theorem draws_bad (n : Int) (h : n < 0 ∨ 256 < n) (index seed : Nat) (w : World) :
    Calls Tryd.prog 16 #[.int .i64 n, .int .u32 index, .int .u32 seed] w fun e w' => e = .returned (.tuple #[.slice none 0 0, .int .i64 2]) ∧ w = w' := by
  by_cases h1 : n < 0
  · clear h
    go_enter Tryd.func16, Tryd.ntmps16
    go_wp2
    go_ret2
    exact ⟨rfl, rfl⟩
  · have h2 : 256 < n := by omega
    clear h
    go_enter Tryd.func16, Tryd.ntmps16
    go_wp2
    go_ret2
    exact ⟨rfl, rfl⟩

def RDRel (index seed N n : Nat) (o c : Value) (w wr : World) : Prop := ∃ k : Nat, c = .int .i64 k ∧ DIn index seed N n k o w wr

set_option maxRecDepth 100000 in
set_option maxHeartbeats 1000000 in
theorem rdraws_any (n index seed : Nat) (hn : n ≤ 256) (hi : index < 4294967296) (w : World) (hP : Plans w) (hT : Tab w) :
    Calls Tryd.prog 17 #[.int .i64 n, .int .u32 index, .int .u32 seed] w fun e w' => ∃ v, e = .returned (.tuple #[v, .int .i64 0]) ∧ w'.ownsRow w.heap.size 22 1 v n (dl index seed n) ∧ Below w.heap.size w w' := by
  have HST := Lib.hid (DIn.start (index := index) (seed := seed) (n := n) hP hT)
  clear hP hT
  obtain ⟨i0, hi0, hz0, hz1, hz2⟩ := info_parts info22
  have hd1 : decide ((n : Int) < 0) = false := decide_eq_false (by omega)
  have hd2 : decide (256 < (n : Int)) = false := decide_eq_false (by omega)
  go_enter Tryd.func17, Tryd.ntmps17
  go_wp2_with fail
  go_loopw [8, 9] (fun o c wr => RDRel index seed w.heap.size n o c w wr) (fun _ c _ => n - (intOf c).toNat)
  case atStart => exact ⟨0, rfl, HST.out⟩
  case round =>
    clear HST
    obtain ⟨k, rfl, hk⟩ := hrel
    have hkn := hk.hk
    by_cases hlt : k < n
    · have HK := Lib.hid hk
      clear hk
      have hl := dr_lt index seed k
      go_wp2_with fail
      refine (rhash_at _ ((seed + k / 8) % 4294967296) (by omega) (Nat.mod_lt _ (by decide)) _).mono ?_
      rintro e w' ⟨rfl, rfl⟩
      go_wp2_with fail
      refine (rscr_gen _ (k % 8) (by omega) (Nat.mod_lt _ (by decide)) index _ _ rfl hi (Sob.hash_lt _) _ ).mono ?_
      rintro e w2 ⟨rfl, hb2⟩
      have HK2 := Lib.hid (HK.out.below hb2)
      have hE : Sob.scr (k % 8) index (Sob.hash ((seed + k / 8) % 4294967296)) = dr index seed k := rfl
      rw [hE]
      clear hb2 HK hE
      have HSN := Lib.hid (dl_succ index seed k)
      generalize dr index seed k = x at *
      go_wp2_with (at_builtin; refine wpList_append_own _ rfl (.tmp 36) (.tmp 38) 42 rfl w.heap.size 22 i0 (.int .u32 0) 1 4 Tryd.underlying42 hi0 hz0 hz1 hz2 rfl (by decide) _ _ _ rfl (HK2.out.own.alloc _) ⟨w2.heap.size, 0, none⟩ 1 1 [.int .u32 x] rfl rfl ?c1 ?c2 ?c3 ?c4 ?c5 ?_)
      case c1 => exact cell_one_new _ _ _
      case c2 => intro u hu; simp at hu; subst hu; rfl
      case c3 => unfold maxLen; omega
      case c4 => omega
      case c5 => simpa using Nat.le_succ_of_le HK2.out.b.size
      intro v' w3 hown hg _
      have HD := Lib.hid (HK2.out.grown hlt HSN.out hown hg)
      clear hown hg HK2 HSN
      go_wp2
      go_roundw
      case rel => exact ⟨k + 1, by go_num, HD.out⟩
      case measure => simp [intOf]; omega
    · obtain rfl : k = n := by omega
      have HK := Lib.hid hk
      clear hk
      go_wp2
      go_ret2
      exact ⟨_, rfl, HK.out.own, HK.out.b⟩

set_option maxHeartbeats 1000000 in
theorem rdraws_bad (n : Int) (h : n < 0 ∨ 256 < n) (index seed : Nat) (w : World) :
    Calls Tryd.prog 17 #[.int .i64 n, .int .u32 index, .int .u32 seed] w fun e w' => e = .returned (.tuple #[.slice none 0 0, .int .i64 2]) ∧ w = w' := by
  by_cases h1 : n < 0
  · clear h
    go_enter Tryd.func17, Tryd.ntmps17
    go_wp2
    go_ret2
    exact ⟨rfl, rfl⟩
  · have h2 : 256 < n := by omega
    clear h
    go_enter Tryd.func17, Tryd.ntmps17
    go_wp2
    go_ret2
    exact ⟨rfl, rfl⟩
end Go.Proofs.YtmgaonkmfdeohaaDoor
