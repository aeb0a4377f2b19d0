/- Layer 5 is awake; the laws on words and on sums of points: what the calls answer. -/
import Derived.Test.YtmgaonkmfdeohaaDoorAt2
import Derived.ChangeKeysEq
namespace Go.Proofs.YtmgaonkmfdeohaaDoor
open Go.RowKit

theorem items_same (f : Nat → Nat) (i : Nat) (w : World) : ∀ is : List Nat, (∀ j ∈ is, j < 32) → (Op.eqItems 9999 22 1 (rowOf f i) (rowOf f i) is).run Tryd.prog w = .ok true w := by
  intro is
  induction is with
  | nil => intro _; simp [Op.eqItems]
  | cons j is ih =>
    intro h
    have hj : j < 32 := h j (by simp)
    obtain ⟨n, hn⟩ : ∃ n : Int, (rowOf f i)[j]? = some (.int .u32 n) := by
      rw [rowOf_get f i j hj]
      by_cases hh : j < i
      · exact ⟨_, by rw [if_pos hh]⟩
      · exact ⟨_, by rw [if_neg hh]⟩
    have hpart : (part 22 (rowOf f i) (j * 1)).run Tryd.prog w = .ok (.int .u32 n) w := by
      have ha := Tryd.isAgg22
      have hz := Tryd.sizeOf22
      simp [part, go_sem, hn, ha, hz]
    simp only [Op.eqItems, Sem.run_bind, hpart, Result.andThen_ok, run_equalIn_int w 9998 22 .u32 .u32 n n Tryd.underlying22]
    simp
    exact ih (fun k hk => h k (by simp [hk]))

theorem eq24 (f : Nat → Nat) (i : Nat) (w : World) : (binOp .eql 24 (.agg (rowOf f i)) (.agg (rowOf f i))).run Tryd.prog w = .ok (.bool true) w := by
  have c22 : Tryd.prog.cellsOf 22 = 1 := by kernel_rfl
  have hs : (Tryd.prog.info? 22).isSome = true := by kernel_rfl
  obtain ⟨i0, hi⟩ := Option.isSome_iff_exists.1 hs
  have h := run_equalIn_array (P := Tryd.prog) (w := w) 9999 (rowOf f i) (rowOf f i) Tryd.underlying24 hi
  rw [c22, items_same f i w _ (fun j hj => List.mem_range.1 hj)] at h
  simp only [binOp]
  simp [Op.equal, Op.maxDepth, h]

set_option maxHeartbeats 1000000 in
theorem awake_any (w : World) (hP : Plans w) (hT : Tab w) :
    Calls Tryd.prog 9 #[] w fun e w' => e = .returned (.bool true) ∧ Below w.heap.size w w' := by
  have h1 := at_any 1 (by decide) 3 (by decide) w hP hT
  have e1 : Sob.at32 (Sob.wd 1) 3 = 1073741824 := by decide +kernel
  rw [e1] at h1
  have h2 := fun w => hash_any 1 (by decide) w
  have e2 : Sob.hash 1 = 1753845952 := by decide +kernel
  rw [e2] at h2
  have e3 : unitBits 2147483648 = some 4602678819172646912 := by decide +kernel
  have h3 := fun w => unit_any 2147483648 _ e3 w
  have e4 : (FloatKind.f64.format.order 4602678819172646912 4602678819172646912 == some .eq) = true := by decide +kernel
  have H1 := Lib.hid h1
  have H2 := Lib.hid h2
  have H3 := Lib.hid h3
  clear h1 h2 h3 e1 e2 e3
  go_enter Tryd.func9, Tryd.ntmps9
  go_wp2_with fail
  refine H1.out.mono ?_
  rintro e w1 ⟨rfl, hb1⟩
  have HB1 := Lib.hid hb1
  clear hb1
  go_wp2_with fail
  refine (H2.out _).mono ?_
  rintro e w' ⟨rfl, rfl⟩
  go_wp2_with fail
  refine (H3.out _).mono ?_
  rintro e w' ⟨rfl, rfl⟩
  go_wp2_with fail
  go_ret
  exact ⟨rfl, HB1.out⟩
end Go.Proofs.YtmgaonkmfdeohaaDoor
