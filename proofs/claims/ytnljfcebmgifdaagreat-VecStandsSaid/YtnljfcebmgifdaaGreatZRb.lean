/- Shaken: Sa Vi Vj Pb Vl Si Gf Ya Yd Tx. -/
import Derived.Test.YtnljfcebmgifdaaGreatZRbc
import Derived.Test.YtnljfcebmgifdaaGreatZRab2
set_option maxRecDepth 100000
set_option maxHeartbeats 4000000
set_option linter.unusedVariables false
set_option linter.unusedSimpArgs false
namespace Go.Proofs.YtnljfcebmgifdaaGreat
open Go.RowKit
theorem four_of {w : World} {g g' : Nat} {t t' : TypeId} {a b a' b' : Value} (h : Blk w g t #[a, b]) (h' : Blk w g' t' #[a', b']) :
   w.cell? ⟨g, 0, none⟩ = some a ∧ w.cell? ⟨g, 1, none⟩ = some b ∧ w.cell? ⟨g', 0, none⟩ = some a' ∧ w.cell? ⟨g', 1, none⟩ = some b' :=
 ⟨h.cell 0, h.cell 1, h'.cell 0, h'.cell 1⟩
def gst (x y : Nat) : Nat := if (FloatKind.f64.format.order x y == some .gt) = true then x else y
theorem gst_gd {x y : Nat} (hx : Gd x) (hy : Gd y) : gst x y = mx x y := by
 unfold gst mx
 rw [gtb hx hy]
 by_cases h : Fl.Z y < Fl.Z x
 · rw [decide_eq_true h, if_pos rfl, if_neg (by omega)]
 · rw [decide_eq_false h, if_neg Bool.false_ne_true]
   by_cases h2 : Fl.Z x < Fl.Z y
   · rw [if_pos h2]
   · rw [if_neg h2]
     exact hy.inj hx (by omega)
theorem greatest_any (x y : Nat) (w : World) : Calls Tryz.prog 112 #[.float .f64 x, .float .f64 y] w fun r w' => r = .returned (.float .f64 (gst x y)) ∧ w = w' := by
 unfold gst
 cases E : (FloatKind.f64.format.order x y == some .gt)
 · rw [if_neg Bool.false_ne_true]
   go_enter Tryz.func112, Tryz.ntmps112
   go_wp2_with fail
   go_ret
   exact ⟨rfl, rfl⟩
 · rw [if_pos rfl]
   go_enter Tryz.func112, Tryz.ntmps112
   go_wp2_with fail
   go_ret
   exact ⟨rfl, rfl⟩
theorem rmax_any {a b c d : Nat} (ga : Gd a) (gb : Gd b) (gc : Gd c) (gd : Gd d) (w : World) : Calls Tryz.prog 78 #[.agg #[.float .f64 a, .float .f64 b], .agg #[.float .f64 c, .float .f64 d]] w fun r w' => r = .returned (.agg #[.float .f64 (mx a c), .float .f64 (mx b d)]) ∧ ∃ o o' o'' k, w' = (((w.alloc o).alloc o').alloc o'').drewN k := by
 have h1 := Lib.hid (fun w => greatest_any a c w)
 have h2 := Lib.hid (fun w => greatest_any b d w)
 rw [gst_gd ga gc] at h1
 rw [gst_gd gb gd] at h2
 clear ga gb gc gd
 go_enter Tryz.func78, Tryz.ntmps78
 go_wp2_with fail
 go_region_held3 (fun w' => w'.cell? ⟨w.heap.size, 0, none⟩ = some (.float .f64 a) ∧ w'.cell? ⟨w.heap.size, 1, none⟩ = some (.float .f64 b) ∧ w'.cell? ⟨w.heap.size + 1, 0, none⟩ = some (.float .f64 c) ∧ w'.cell? ⟨w.heap.size + 1, 1, none⟩ = some (.float .f64 d))
   (exact four_of (t := 24) (t' := 24) (by (repeat' (first | exact Blk.new_at _ _ _ (by simp) | apply Blk.drew | apply Blk.drewN | apply Blk.alloc))) (by (repeat' (first | exact Blk.new_at _ _ _ (by simp) | apply Blk.drew | apply Blk.drewN | apply Blk.alloc))))
   (first
     | (go_simp; go_at_call_of 112 (Value.float FloatKind.f64 a); refine (h1.out _).mono ?_; rintro r w' ⟨rfl, rfl⟩; dsimp only)
     | (go_simp; go_at_call_of 112 (Value.float FloatKind.f64 b); refine (h2.out _).mono ?_; rintro r w' ⟨rfl, rfl⟩; dsimp only))
 all_goals (go_wp2_with fail; (try simp only [Exit.inBlock, Exit.then]); refine bodyPost_ret (resS rfl _ _ (w.heap.size + 1 + 1) (.float .f64 (mx a c)) (.float .f64 (mx b d)) rfl ((Blk.new_at _ _ _ (by simp)).drewN 1)) rfl ?_; exact ⟨rfl, _, _, _, 1, rfl⟩)
theorem rpositive_any (a b : Nat) (p q : Bool) (h1 : (FloatKind.f64.format.order a 0 == some .gt) = p) (h2 : (FloatKind.f64.format.order b 0 == some .lt || FloatKind.f64.format.order b 0 == some .eq) = q) (w : World) : Calls Tryz.prog 71 #[.agg #[.float .f64 a, .float .f64 b]] w fun r w' => r = .returned (.int .i64 (if p then 1 else if q then 0 else 2)) ∧ ∃ o, w' = w.alloc o := by
 cases p
 · cases q
   all_goals (go_enter Tryz.func71, Tryz.ntmps71; go_wp2_with fail; go_ret; exact ⟨rfl, _, rfl⟩)
 · go_enter Tryz.func71, Tryz.ntmps71
   go_wp2_with fail
   go_ret
   exact ⟨rfl, _, rfl⟩
end Go.Proofs.YtnljfcebmgifdaaGreat
set_option linter.unusedVariables false
set_option linter.unusedSimpArgs false
namespace Go.Proofs.YtnljfcebmgifdaaGreat
open Go.RowKit Ieee
theorem LdR.q_lt {X N k q r : Nat} (h : LdR X N k q r) (hX : X < 2 * N) : q < 2 ^ k := by
 have h1 := h.eq
 have hp := Nat.two_pow_pos k
 apply Nat.lt_of_not_le
 intro hh
 have h2 : 2 ^ k * N ≤ q * N := Nat.mul_le_mul_right _ hh
 have h3 : X * 2 ^ k < 2 * N * 2 ^ k := Nat.mul_lt_mul_of_pos_right hX hp
 have h4 : 2 * N * 2 ^ k = 2 * (2 ^ k * N) := by rw [Nat.mul_assoc, Nat.mul_comm N]
 omega
def Ld1 (X N X1 Y1 : Nat) (ex ey : Int) (w : World) (r q i : Value) (wr : World) : Prop :=
 ∃ a b k : Nat, r = .int .u64 (a : Int) ∧ q = .int .u64 (b : Int) ∧ i = .int .i64 (k : Int) ∧ LdR X N k b a ∧
   Blk wr (w.heap.size + 1) 115 #[.int .u64 (X1 : Int), .int .u64 (X : Int), .int .i64 ex, .bool false] ∧
   Blk wr (w.heap.size + 1 + 1 + 1) 115 #[.int .u64 (Y1 : Int), .int .u64 (N : Int), .int .i64 ey, .bool false] ∧ Below w.heap.size w wr
theorem or_one (q : Nat) (h : q < 9223372036854775808) : bits .or .u64 ((q : Int) * 2) 1 = (q : Int) * 2 + 1 := by
 have h1 := bits_or_u64_nat (q * 2) 1 (by omega) (by omega)
 have h2 : q * 2 ||| 1 = q * 2 + 1 := by
   have := Nat.two_pow_add_eq_or_of_lt (i := 1) (b := 1) (by decide) q
   rw [Nat.pow_one, Nat.mul_comm 2 q] at this
   exact this.symm
 rw [h2] at h1
 rw [Int.natCast_mul] at h1
 refine h1.trans ?_
 omega
theorem rdiv_walk (x y : Nat) (down na nb : Bool) (A B : Nat) (ea eb : Int) (hX0 : (FloatKind.f64.format.order x 0 == some .eq) = false) (hY0 : (FloatKind.f64.format.order y 0 == some .eq) = false)
   (hNx : ∀ w, Calls Tryz.prog 92 #[.float .f64 x] w fun e w' => e = .returned (.bool true) ∧ w = w') (hNy : ∀ w, Calls Tryz.prog 92 #[.float .f64 y] w fun e w' => e = .returned (.bool true) ∧ w = w')
   (hPx : ∀ w, Calls Tryz.prog 125 #[.float .f64 x] w fun r w' => r = .returned (.tuple #[wdv 0 A ea false, .bool na]) ∧ ∃ o, w' = w.alloc o)
   (hPy : ∀ w, Calls Tryz.prog 125 #[.float .f64 y] w fun r w' => r = .returned (.tuple #[wdv 0 B eb false, .bool nb]) ∧ ∃ o, w' = w.alloc o)
   (La Lb : Nat) (hLa : La ≤ 53) (hLb : Lb ≤ 53)
   (hLA : ∀ w, Calls Tryz.prog 127 #[wdv 0 A ea false] w fun r w' => r = .returned (.int .i64 (La : Int)) ∧ ∃ o, w' = w.alloc o)
   (hLB : ∀ w, Calls Tryz.prog 127 #[wdv 0 B eb false] w fun r w' => r = .returned (.int .i64 (Lb : Int)) ∧ ∃ o, w' = w.alloc o)
   (X1 X Y1 N : Nat) (ex ey : Int)
   (hUX : ∀ w, Calls Tryz.prog 126 #[wdv 0 A ea false, .int .i64 (IntKind.i64.wrap (53 - (La : Int)))] w fun r w' => r = .returned (wdv X1 X ex false) ∧ ∃ k o o', w' = ((w.alloc o).alloc o').drewN k)
   (hUY : ∀ w, Calls Tryz.prog 126 #[wdv 0 B eb false, .int .i64 (IntKind.i64.wrap (53 - (Lb : Int)))] w fun r w' => r = .returned (wdv Y1 N ey false) ∧ ∃ k o o', w' = ((w.alloc o).alloc o').drewN k)
   (hex : -5000 ≤ ex) (hex2 : ex ≤ 5000) (hey : -5000 ≤ ey) (hey2 : ey ≤ 5000) (hXN : Hid (X < 2 * N ∧ 0 < N ∧ N < 9007199254740992)) (Q R : Nat) (hQR : Hid (Q = X * 2 ^ 60 / (2 * N) ∧ R = X * 2 ^ 60 % (2 * N)))
   (v : Nat) (hO : ∀ w, Calls Tryz.prog 130 #[.agg #[.int .u64 0, .int .u64 (Q : Int), .int .i64 (ex - ey - 59), .bool ((R : Int) != 0)], .bool (na != nb), .bool down] w fun r w' => r = .returned (.float .f64 v) ∧ Below w.heap.size w w') (w : World) :
   Calls Tryz.prog 108 #[.float .f64 x, .float .f64 y, .bool down] w fun r w' => r = .returned (numV v 0) ∧ Below w.heap.size w w' := by
 have HNx := Lib.hid hNx
 have HNy := Lib.hid hNy
 have HPx := Lib.hid hPx
 have HPy := Lib.hid hPy
 have HLA := Lib.hid hLA
 have HLB := Lib.hid hLB
 have HUX := Lib.hid hUX
 have HUY := Lib.hid hUY
 have HO := Lib.hid hO
 clear hNx hNy hPx hPy hLA hLB hUX hUY hO
 go_enter Tryz.func108, Tryz.ntmps108
 go_wp2_with fail
 refine (HNx.out _).mono ?_
 rintro e w' ⟨rfl, rfl⟩
 go_wp2_with fail
 refine (HNy.out _).mono ?_
 rintro e w' ⟨rfl, rfl⟩
 go_wp2_with fail
 refine (HPx.out _).mono ?_
 rintro e w' ⟨rfl, p1, rfl⟩
 go_wp2_with fail
 refine (HPy.out _).mono ?_
 rintro e w' ⟨rfl, p2, rfl⟩
 go_wp2_with fail
 go_cut [] (fun wc => ∃ p3 p4 p5 k, wc = (((((((w.alloc p1).alloc (wdo X1 X ex false)).alloc p2).alloc (wdo 0 B eb false)).alloc p3).alloc p4).alloc p5).drewN k)
 case first =>
   go_region_with (first
     | (go_at_call 127; refine (HLA.out _).mono ?_; rintro r w' ⟨rfl, o, rfl⟩)
     | (go_at_call 126; refine (HUX.out _).mono ?_; rintro r w' ⟨rfl, k, o, o', rfl⟩))
   all_goals (go_wp2_with fail; go_meet; exact ⟨_, _, _, _, rfl⟩)
 case rest =>
   obtain ⟨p3, p4, p5, k1, rfl⟩ := hcut
   go_wp2_with fail
   go_cut [] (fun wc => ∃ p3 p4 p5 p6 p7 p8 k, wc = ((((((((((w.alloc p1).alloc (wdo X1 X ex false)).alloc p2).alloc (wdo Y1 N ey false)).alloc p3).alloc p4).alloc p5).alloc p6).alloc p7).alloc p8).drewN k)
   case first =>
     go_region_with (first
       | (go_at_call 127; refine (HLB.out _).mono ?_; rintro r w' ⟨rfl, o, rfl⟩)
       | (go_at_call 126; refine (HUY.out _).mono ?_; rintro r w' ⟨rfl, k, o, o', rfl⟩))
     all_goals (go_wp2_with fail; go_meet; exact ⟨_, _, _, _, _, _, _, rfl⟩)
   case rest =>
     obtain ⟨p3, p4, p5, p6, p7, p8, k2, rfl⟩ := hcut
     go_wp2_with fail
     go_loopw [12, 13, 14] (fun r q i wr => Ld1 X N X1 Y1 ex ey w r q i wr) (fun _ _ i _ => 60 - (intOf i).toNat)
     case atStart => exact ⟨X, 0, 0, rfl, rfl, rfl, ⟨by omega, by omega, hXN.out.1⟩, ((((((((((Blk.new_at _ _ _ (by simp)).alloc _).alloc _).alloc _).alloc _).alloc _).alloc _).alloc _).alloc _).drewN _), ((((((((Blk.new_at _ _ _ (by simp)).alloc _).alloc _).alloc _).alloc _).alloc _).alloc _).drewN _), (below_drewN (below_more (below_more (below_more (below_more (below_more (below_more (below_more (below_more (below_more (below_new _ _) _) _) _) _) _) _) _) _) _) _)⟩
     case round =>
       obtain ⟨r, q, k, rfl, rfl, rfl, hd, hb1, hb2, hbe⟩ := hrel
       have HD := Lib.hid hd
       have hk := hd.hk
       have C1 := hb1.cell 2
       have C2 := hb2.cell 1
       have C3 := hb2.cell 2
       have HB1 := Lib.hid hb1
       have HB2 := Lib.hid hb2
       have HBe := Lib.hid hbe
       clear hd hb1 hb2 hbe
       by_cases hk2 : k < 60
       · have hq : (q : Int) < 1152921504606846976 := by
           have h1 := HD.out.q_lt hXN.out.1
           have h2 : (2 : Nat) ^ k ≤ 2 ^ 60 := Nat.pow_le_pow_right (by decide) hk
           have h3 : (2 : Nat) ^ 60 = 1152921504606846976 := by decide
           omega
         have hr : (r : Int) < 18014398509481984 := by
           have h1 := HD.out.lt
           have h2 := hXN.out.2.2
           omega
         have F := or_one q (by omega)
         have hk3 : (k : Int) < 60 := by omega
         have HKK := Lib.hid hk2
         clear hk hk2
         by_cases hc : (N : Int) ≤ (r : Int)
         · go_wp2_with fail
           exact ⟨⟨(r - N) * 2, q * 2 + 1, k + 1, congrArg _ (by omega), congrArg _ (by omega), rfl, HD.out.yes HKK.out (by omega), HB1.out, HB2.out, HBe.out⟩, by simp only [intOf]; omega⟩
         · go_wp2_with fail
           exact ⟨⟨r * 2, q * 2, k + 1, congrArg _ (by omega), congrArg _ (by omega), rfl, HD.out.no HKK.out (by omega), HB1.out, HB2.out, HBe.out⟩, by simp only [intOf]; omega⟩
       · obtain ⟨rfl, rfl⟩ : q = Q ∧ r = R := by
           have hk60 : k = 60 := by omega
           rw [hk60] at HD
           have := HD.out.stop hXN.out.2.1
           rw [← hQR.out.1, ← hQR.out.2] at this
           exact this
         have hk3 : ¬ (k : Int) < 60 := by omega
         clear hk hk2
         go_wp2_with fail
         refine (HO.out _).mono ?_
         rintro e w2 ⟨rfl, h2⟩
         have HW2 := Lib.hid h2
         clear h2
         go_wp2_with fail
         go_ret2
         exact ⟨rfl, HBe.out.trans (HW2.out.mono HBe.out.size)⟩
end Go.Proofs.YtnljfcebmgifdaaGreat
set_option linter.unusedVariables false
set_option linter.unusedSimpArgs false
namespace Go.Proofs.YtnljfcebmgifdaaGreat
open Go.RowKit Ieee
def Rq (N M1 M0 : Nat) (ee : Int) (w : World) (r i : Value) (wr : World) : Prop :=
 ∃ (a k : Nat) (c : Int), r = .int .u64 (a : Int) ∧ i = .int .i64 c ∧ c = 57 - (k : Int) ∧ RtR N k a ∧ Blk wr (w.heap.size + 1) 115 #[.int .u64 (M1 : Int), .int .u64 (M0 : Int), .int .i64 ee, .bool false] ∧ Below w.heap.size w wr
theorem below_in2 {w wr : World} {o o' : Obj} (h : Below w.heap.size w wr) : Below w.heap.size w ((wr.alloc o).alloc o') := below_more (below_more h _) _
theorem rt_times0 {x ph pl : Nat} (h : x < 18446744073709551616) (hP : x * x = ph * 18446744073709551616 + pl ∧ pl < 18446744073709551616) (w : World) : Calls Tryz.prog 128 #[.int .u64 (x : Int), .int .u64 (x : Int)] w fun e w' => e = .returned (.tuple #[.int .u64 (ph : Int), .int .u64 (pl : Int)]) ∧ w = w' := by
 have := times_any x x h h w
 rw [hP.1, show (ph * 18446744073709551616 + pl) / 18446744073709551616 = ph by omega, show (ph * 18446744073709551616 + pl) % 18446744073709551616 = pl by omega] at this
 exact this
theorem rt_times {T s ph pl : Nat} (hT : T = s) (hs : s < 288230376151711744) (hP : T * T = ph * 18446744073709551616 + pl ∧ pl < 18446744073709551616) (w : World) : Calls Tryz.prog 128 #[.int .u64 (T : Int), .int .u64 (T : Int)] w fun e w' => e = .returned (.tuple #[.int .u64 (ph : Int), .int .u64 (pl : Int)]) ∧ w = w' :=
 rt_times0 (by omega) hP w
theorem rq_yes {N M1 M0 k a T j : Nat} {ee : Int} {w wr : World} (h : RtR N k a) (hk : k < 58) (hT : T = a + 2 ^ (57 - k)) (hj : j = 57 - k) (hc : T * T ≤ N) (hb : Blk wr (w.heap.size + 1) 115 #[.int .u64 (M1 : Int), .int .u64 (M0 : Int), .int .i64 ee, .bool false]) (hbe : Below w.heap.size w wr) :
   Rq N M1 M0 ee w (Value.int .u64 (T : Int)) (Value.int .i64 ((j : Int) - 1)) wr ∧ (intOf (Value.int IntKind.i64 ((j : Int) - 1)) + 1).toNat < (intOf (Value.int IntKind.i64 (j : Int)) + 1).toNat := by
 subst hT
 exact ⟨⟨_, k + 1, _, rfl, rfl, by omega, h.yes hk hc, hb, hbe⟩, by simp only [intOf]; omega⟩
theorem rq_no {N M1 M0 k a T j : Nat} {ee : Int} {w wr : World} (h : RtR N k a) (hk : k < 58) (hT : T = a + 2 ^ (57 - k)) (hj : j = 57 - k) (hc : ¬ T * T ≤ N) (hb : Blk wr (w.heap.size + 1) 115 #[.int .u64 (M1 : Int), .int .u64 (M0 : Int), .int .i64 ee, .bool false]) (hbe : Below w.heap.size w wr) :
   Rq N M1 M0 ee w (Value.int .u64 (a : Int)) (Value.int .i64 ((j : Int) - 1)) wr ∧ (intOf (Value.int IntKind.i64 ((j : Int) - 1)) + 1).toNat < (intOf (Value.int IntKind.i64 (j : Int)) + 1).toNat := by
 subst hT
 exact ⟨⟨_, k + 1, _, rfl, rfl, by omega, h.no hk hc, hb, hbe⟩, by simp only [intOf]; omega⟩
theorem ne_words {x ph pl M1 M0 : Nat} (h : x = ph * 18446744073709551616 + pl) (h2 : pl < 18446744073709551616) (h3 : M0 < 18446744073709551616) : (x != M1 * 18446744073709551616 + M0) = ((ph : Int) != (M1 : Int) || (pl : Int) != (M0 : Int)) := by
 rw [Bool.eq_iff_iff]
 simp only [bne_iff_ne, ne_eq, Bool.or_eq_true]
 omega
theorem rsqrt_walk_even (x : Nat) (down na : Bool) (A : Nat) (ea : Int) (hX1 : (FloatKind.f64.format.order x 0 == some .lt) = false) (hX0 : (FloatKind.f64.format.order x 0 == some .eq) = false)
   (hNx : ∀ w, Calls Tryz.prog 92 #[.float .f64 x] w fun e w' => e = .returned (.bool true) ∧ w = w')
   (hPx : ∀ w, Calls Tryz.prog 125 #[.float .f64 x] w fun r w' => r = .returned (.tuple #[wdv 0 A ea false, .bool na]) ∧ ∃ o, w' = w.alloc o)
   (La : Nat) (hLa : La ≤ 53)
   (hLA : ∀ w, Calls Tryz.prog 127 #[wdv 0 A ea false] w fun r w' => r = .returned (.int .i64 (La : Int)) ∧ ∃ o, w' = w.alloc o)
   (X1 X0 : Nat) (ex : Int)
   (hUX : ∀ w, Calls Tryz.prog 126 #[wdv 0 A ea false, .int .i64 (IntKind.i64.wrap (115 - (La : Int)))] w fun r w' => r = .returned (wdv X1 X0 ex false) ∧ ∃ k o o', w' = ((w.alloc o).alloc o').drewN k)
   (hex : -5000 ≤ ex) (hex2 : ex ≤ 5000) (hpar : (Int.tmod ex 2 != 0) = false) (hM : Hid (X1 * 18446744073709551616 + X0 < 83076749736557242056487941267521536 ∧ X0 < 18446744073709551616)) (R : Nat) (hR : Hid (IsRoot (X1 * 18446744073709551616 + X0) R))
   (mm : Bool) (hmm : Hid (mm = (R * R != X1 * 18446744073709551616 + X0))) (v : Nat) (hO : ∀ w, Calls Tryz.prog 130 #[.agg #[.int .u64 0, .int .u64 (R : Int), .int .i64 (Int.tdiv ex 2), .bool mm], .bool false, .bool down] w fun r w' => r = .returned (.float .f64 v) ∧ Below w.heap.size w w') (w : World) :
   Calls Tryz.prog 101 #[.float .f64 x, .bool down] w fun r w' => r = .returned (numV v 0) ∧ Below w.heap.size w w' := by
 have HNx := Lib.hid hNx
 have HPx := Lib.hid hPx
 have HLA := Lib.hid hLA
 have HUX := Lib.hid hUX
 have HO := Lib.hid hO
 clear hNx hPx hLA hUX hO
 go_enter Tryz.func101, Tryz.ntmps101
 go_wp2_with fail
 refine (HNx.out _).mono ?_
 rintro e w' ⟨rfl, rfl⟩
 go_wp2_with fail
 refine (HPx.out _).mono ?_
 rintro e w' ⟨rfl, p1, rfl⟩
 go_wp2_with fail
 go_cut [] (fun wc => ∃ p3 p4 p5 k, wc = (((((w.alloc p1).alloc (wdo X1 X0 ex false)).alloc p3).alloc p4).alloc p5).drewN k)
 case first =>
   go_region_with (first
     | (go_at_call 127; refine (HLA.out _).mono ?_; rintro r w' ⟨rfl, o, rfl⟩)
     | (go_at_call 126; refine (HUX.out _).mono ?_; rintro r w' ⟨rfl, k, o, o', rfl⟩))
   all_goals (go_wp2_with fail; go_meet; exact ⟨_, _, _, _, rfl⟩)
 case rest =>
   obtain ⟨p3, p4, p5, k1, rfl⟩ := hcut
   go_wp2_with fail
   go_loopw [8, 9] (fun r i wr => Rq (X1 * 18446744073709551616 + X0) X1 X0 ex w r i wr) (fun _ i _ => (intOf i + 1).toNat)
   case atStart => exact ⟨0, 0, 57, rfl, rfl, rfl, RtR.start hM.out.1, (((((Blk.new_at _ _ _ (by simp)).alloc _).alloc _).alloc _).drewN _), (below_drewN (below_more (below_more (below_more (below_more (below_new _ _) _) _) _) _) _)⟩
   case round =>
     obtain ⟨a, k, c, rfl, rfl, hc, hd, hb, hbe⟩ := hrel
     have HD := Lib.hid hd
     have hk := hd.hi
     have HBk := Lib.hid hb
     have HBe := Lib.hid hbe
     have C0 := hb.cell 0
     have C1 := hb.cell 1
     have C2 := hb.cell 2
     clear hd hb hbe
     by_cases hk2 : k < 58
     · obtain ⟨j, rfl⟩ : ∃ j : Nat, c = j := ⟨(57 - k), by omega⟩
       have hj : j = 57 - k := by omega
       obtain ⟨T, hT, F, ph, pl, hP, hC⟩ := rt_mul HD.out hk2
       rw [← hj] at F
       have HP := Lib.hid hP
       have HT := Lib.hid hT
       have HC := Lib.hid (rt_times hT (HD.out.bit hk2).2.1 hP)
       have HL := Lib.hid (fun w => wless_words X1 X0 ph pl 0 0 false false w)
       have hj2 : j ≤ 57 := by omega
       have HJ := Lib.hid hj
       clear hP hC hT hc hj
       go_wp2_with fail
       refine (HC.out _).mono ?_
       rintro r w' ⟨rfl, rfl⟩
       go_wp2_with fail
       refine (HL.out _).mono ?_
       rintro r w' ⟨rfl, o, o', rfl⟩
       go_wp2_with fail
       all_goals
         have hp := HP.out
         have hN := hM.out.2
         first
           | exact rq_yes HD.out hk2 HT.out HJ.out (by (try simp only [Bool.or_eq_true, Bool.and_eq_true, Bool.or_eq_false_iff, Bool.and_eq_false_iff, Bool.not_eq_true', Bool.not_eq_false', decide_eq_true_eq, decide_eq_false_iff_not] at *); omega) ((HBk.out.alloc _).alloc _) (below_in2 HBe.out)
           | exact rq_no HD.out hk2 HT.out HJ.out (by (try simp only [Bool.or_eq_true, Bool.and_eq_true, Bool.or_eq_false_iff, Bool.and_eq_false_iff, Bool.not_eq_true', Bool.not_eq_false', decide_eq_true_eq, decide_eq_false_iff_not] at *); omega) ((HBk.out.alloc _).alloc _) (below_in2 HBe.out)
     · obtain rfl : k = 58 := by omega
       obtain rfl : c = -1 := by omega
       have hA : a = R := HD.out.stop.uniq hR.out
       have hlt := HD.out.lt
       subst hA
       obtain ⟨ph, pl, hP⟩ : ∃ ph pl : Nat, a * a = ph * 18446744073709551616 + pl ∧ pl < 18446744073709551616 := ⟨a * a / 18446744073709551616, a * a % 18446744073709551616, by generalize a * a = y; omega, Nat.mod_lt _ (by decide)⟩
       have HC := Lib.hid (fun w => rt_times0 (x := a) (by omega) hP w)
       have hx := hmm.out
       rw [ne_words hP.1 hP.2 hM.out.2] at hx
       clear hP hlt
       by_cases h1 : ph = X1
       · subst h1
         have E : ((pl : Int) != (X0 : Int)) = mm := by rw [hx]; simp
         clear hx
         go_wp2_with fail
         refine (HC.out _).mono ?_
         rintro r w' ⟨rfl, rfl⟩
         go_wp2_with fail
         refine (HO.out _).mono ?_
         rintro e w2 ⟨rfl, h2⟩
         have HW2 := Lib.hid h2
         clear h2
         go_wp2_with fail
         go_ret2
         exact ⟨rfl, HBe.out.trans (HW2.out.mono HBe.out.size)⟩
       · have E : ((ph : Int) != (X1 : Int)) = true := by
           rw [bne_iff_ne]; omega
         have hm : mm = true := by rw [hx, E]; rfl
         subst hm
         clear hx
         go_wp2_with fail
         refine (HC.out _).mono ?_
         rintro r w' ⟨rfl, rfl⟩
         go_wp2_with fail
         refine (HO.out _).mono ?_
         rintro e w2 ⟨rfl, h2⟩
         have HW2 := Lib.hid h2
         clear h2
         go_wp2_with fail
         go_ret2
         exact ⟨rfl, HBe.out.trans (HW2.out.mono HBe.out.size)⟩
theorem rsqrt_walk_odd (x : Nat) (down na : Bool) (A : Nat) (ea : Int) (hX1 : (FloatKind.f64.format.order x 0 == some .lt) = false) (hX0 : (FloatKind.f64.format.order x 0 == some .eq) = false)
   (hNx : ∀ w, Calls Tryz.prog 92 #[.float .f64 x] w fun e w' => e = .returned (.bool true) ∧ w = w')
   (hPx : ∀ w, Calls Tryz.prog 125 #[.float .f64 x] w fun r w' => r = .returned (.tuple #[wdv 0 A ea false, .bool na]) ∧ ∃ o, w' = w.alloc o)
   (La : Nat) (hLa : La ≤ 53)
   (hLA : ∀ w, Calls Tryz.prog 127 #[wdv 0 A ea false] w fun r w' => r = .returned (.int .i64 (La : Int)) ∧ ∃ o, w' = w.alloc o)
   (X1 X0 : Nat) (ex : Int)
   (hUX : ∀ w, Calls Tryz.prog 126 #[wdv 0 A ea false, .int .i64 (IntKind.i64.wrap (115 - (La : Int)))] w fun r w' => r = .returned (wdv X1 X0 ex false) ∧ ∃ k o o', w' = ((w.alloc o).alloc o').drewN k)
   (hex : -5000 ≤ ex) (hex2 : ex ≤ 5000) (hpar : (Int.tmod ex 2 != 0) = true) (M1 M0 : Nat) (ee : Int) (hee : -5001 ≤ ee) (hee2 : ee ≤ 5000) (hL1 : ∀ w, Calls Tryz.prog 126 #[wdv X1 X0 ex false, .int .i64 1] w fun r w' => r = .returned (wdv M1 M0 ee false) ∧ ∃ k o o', w' = ((w.alloc o).alloc o').drewN k) (hM : Hid (M1 * 18446744073709551616 + M0 < 83076749736557242056487941267521536 ∧ M0 < 18446744073709551616)) (R : Nat) (hR : Hid (IsRoot (M1 * 18446744073709551616 + M0) R))
   (mm : Bool) (hmm : Hid (mm = (R * R != M1 * 18446744073709551616 + M0))) (v : Nat) (hO : ∀ w, Calls Tryz.prog 130 #[.agg #[.int .u64 0, .int .u64 (R : Int), .int .i64 (Int.tdiv ee 2), .bool mm], .bool false, .bool down] w fun r w' => r = .returned (.float .f64 v) ∧ Below w.heap.size w w') (w : World) :
   Calls Tryz.prog 101 #[.float .f64 x, .bool down] w fun r w' => r = .returned (numV v 0) ∧ Below w.heap.size w w' := by
 have HNx := Lib.hid hNx
 have HPx := Lib.hid hPx
 have HLA := Lib.hid hLA
 have HUX := Lib.hid hUX
 have HO := Lib.hid hO
 clear hNx hPx hLA hUX hO
 have HL1 := Lib.hid hL1
 clear hL1
 go_enter Tryz.func101, Tryz.ntmps101
 go_wp2_with fail
 refine (HNx.out _).mono ?_
 rintro e w' ⟨rfl, rfl⟩
 go_wp2_with fail
 refine (HPx.out _).mono ?_
 rintro e w' ⟨rfl, p1, rfl⟩
 go_wp2_with fail
 go_cut [] (fun wc => ∃ p3 p4 p5 k, wc = (((((w.alloc p1).alloc (wdo X1 X0 ex false)).alloc p3).alloc p4).alloc p5).drewN k)
 case first =>
   go_region_with (first
     | (go_at_call 127; refine (HLA.out _).mono ?_; rintro r w' ⟨rfl, o, rfl⟩)
     | (go_at_call 126; refine (HUX.out _).mono ?_; rintro r w' ⟨rfl, k, o, o', rfl⟩))
   all_goals (go_wp2_with fail; go_meet; exact ⟨_, _, _, _, rfl⟩)
 case rest =>
   obtain ⟨p3, p4, p5, k1, rfl⟩ := hcut
   go_wp2_with fail
   refine (HL1.out _).mono ?_
   rintro r w' ⟨rfl, k5, q1, q2, rfl⟩
   go_wp2_with fail
   go_loopw [8, 9] (fun r i wr => Rq (M1 * 18446744073709551616 + M0) M1 M0 ee w r i wr) (fun _ i _ => (intOf i + 1).toNat)
   case atStart => exact ⟨0, 0, 57, rfl, rfl, rfl, RtR.start hM.out.1, (((((((Blk.new_at _ _ _ (by simp)).alloc _).alloc _).alloc _).alloc _).alloc _).drewN _), (below_drewN (below_more (below_more (below_more (below_more (below_more (below_more (below_new _ _) _) _) _) _) _) _) _)⟩
   case round =>
     obtain ⟨a, k, c, rfl, rfl, hc, hd, hb, hbe⟩ := hrel
     have HD := Lib.hid hd
     have hk := hd.hi
     have HBk := Lib.hid hb
     have HBe := Lib.hid hbe
     have C0 := hb.cell 0
     have C1 := hb.cell 1
     have C2 := hb.cell 2
     clear hd hb hbe
     by_cases hk2 : k < 58
     · obtain ⟨j, rfl⟩ : ∃ j : Nat, c = j := ⟨(57 - k), by omega⟩
       have hj : j = 57 - k := by omega
       obtain ⟨T, hT, F, ph, pl, hP, hC⟩ := rt_mul HD.out hk2
       rw [← hj] at F
       have HP := Lib.hid hP
       have HT := Lib.hid hT
       have HC := Lib.hid (rt_times hT (HD.out.bit hk2).2.1 hP)
       have HL := Lib.hid (fun w => wless_words M1 M0 ph pl 0 0 false false w)
       have hj2 : j ≤ 57 := by omega
       have HJ := Lib.hid hj
       clear hP hC hT hc hj
       go_wp2_with fail
       refine (HC.out _).mono ?_
       rintro r w' ⟨rfl, rfl⟩
       go_wp2_with fail
       refine (HL.out _).mono ?_
       rintro r w' ⟨rfl, o, o', rfl⟩
       go_wp2_with fail
       all_goals
         have hp := HP.out
         have hN := hM.out.2
         first
           | exact rq_yes HD.out hk2 HT.out HJ.out (by (try simp only [Bool.or_eq_true, Bool.and_eq_true, Bool.or_eq_false_iff, Bool.and_eq_false_iff, Bool.not_eq_true', Bool.not_eq_false', decide_eq_true_eq, decide_eq_false_iff_not] at *); omega) ((HBk.out.alloc _).alloc _) (below_in2 HBe.out)
           | exact rq_no HD.out hk2 HT.out HJ.out (by (try simp only [Bool.or_eq_true, Bool.and_eq_true, Bool.or_eq_false_iff, Bool.and_eq_false_iff, Bool.not_eq_true', Bool.not_eq_false', decide_eq_true_eq, decide_eq_false_iff_not] at *); omega) ((HBk.out.alloc _).alloc _) (below_in2 HBe.out)
     · obtain rfl : k = 58 := by omega
       obtain rfl : c = -1 := by omega
       have hA : a = R := HD.out.stop.uniq hR.out
       have hlt := HD.out.lt
       subst hA
       obtain ⟨ph, pl, hP⟩ : ∃ ph pl : Nat, a * a = ph * 18446744073709551616 + pl ∧ pl < 18446744073709551616 := ⟨a * a / 18446744073709551616, a * a % 18446744073709551616, by generalize a * a = y; omega, Nat.mod_lt _ (by decide)⟩
       have HC := Lib.hid (fun w => rt_times0 (x := a) (by omega) hP w)
       have hx := hmm.out
       rw [ne_words hP.1 hP.2 hM.out.2] at hx
       clear hP hlt
       by_cases h1 : ph = M1
       · subst h1
         have E : ((pl : Int) != (M0 : Int)) = mm := by rw [hx]; simp
         clear hx
         go_wp2_with fail
         refine (HC.out _).mono ?_
         rintro r w' ⟨rfl, rfl⟩
         go_wp2_with fail
         refine (HO.out _).mono ?_
         rintro e w2 ⟨rfl, h2⟩
         have HW2 := Lib.hid h2
         clear h2
         go_wp2_with fail
         go_ret2
         exact ⟨rfl, HBe.out.trans (HW2.out.mono HBe.out.size)⟩
       · have E : ((ph : Int) != (M1 : Int)) = true := by
           rw [bne_iff_ne]; omega
         have hm : mm = true := by rw [hx, E]; rfl
         subst hm
         clear hx
         go_wp2_with fail
         refine (HC.out _).mono ?_
         rintro r w' ⟨rfl, rfl⟩
         go_wp2_with fail
         refine (HO.out _).mono ?_
         rintro e w2 ⟨rfl, h2⟩
         have HW2 := Lib.hid h2
         clear h2
         go_wp2_with fail
         go_ret2
         exact ⟨rfl, HBe.out.trans (HW2.out.mono HBe.out.size)⟩
end Go.Proofs.YtnljfcebmgifdaaGreat
set_option linter.unusedVariables false
set_option linter.unusedSimpArgs false
namespace Go.Proofs.YtnljfcebmgifdaaGreat
theorem cut_len {W k : Nat} (h : k < Fl.len W) : Fl.len (W / 2 ^ k) = Fl.len W - k := Fl.len_div_pow k h
theorem near_cut (g : Bool) (W : Nat) (e : Int) (more : Bool) (k : Nat) (hk : (k : Int) ≤ Fl.drop W (e + 1074)) (hl : k < Fl.len W) :
   Fl.near g (W / 2 ^ k) (e + k) (W % 2 ^ k != 0 || more) = Fl.near g W e more := by
 have hW : W ≠ 0 := by intro e0; rw [e0, Fl.len_zero] at hl; omega
 have hW' : W / 2 ^ k ≠ 0 := by
   intro e0
   have := cut_len hl
   rw [e0, Fl.len_zero] at this; omega
 obtain ⟨d, hd⟩ : ∃ d : Nat, Fl.drop W (e + 1074) = k + d := ⟨(Fl.drop W (e + 1074) - k).toNat, by omega⟩
 have hd' : Fl.drop (W / 2 ^ k) (e + k + 1074) = d := by
   unfold Fl.drop at hd ⊢
   rw [cut_len hl]; omega
 have hdiv : W / 2 ^ k / 2 ^ d = W / 2 ^ (k + d) := by rw [Nat.div_div_eq_div_mul, ← Nat.pow_add]
 have hr : Fl.rung (W / 2 ^ k) (e + k + 1074) = Fl.rung W (e + 1074) := by
   unfold Fl.rung Fl.place Fl.kept
   rw [hd, hd', show ((d : Int)).toNat = d by omega, show (((k : Int) + d)).toNat = k + d by omega, show (-(d : Int)).toNat = 0 by omega, show (-((k : Int) + d)).toNat = 0 by omega, hdiv, show (e + k + 1074 + (d : Int)).toNat = (e + 1074 + ((k : Int) + d)).toNat by omega]
 have hlost : (Fl.lost (W / 2 ^ k) (e + k + 1074) || (W % 2 ^ k != 0 || more)) = (Fl.lost W (e + 1074) || more) := by
   unfold Fl.lost
   rw [hd, hd', show ((d : Int)).toNat = d by omega, show (((k : Int) + d)).toNat = k + d by omega, ← Bool.or_assoc]
   congr 1
   have e1 := Nat.div_add_mod W (2 ^ k)
   have e2 := Nat.div_add_mod (W / 2 ^ k) (2 ^ d)
   have e3 := Nat.div_add_mod W (2 ^ (k + d))
   rw [hdiv] at e2
   have e4 : W % 2 ^ (k + d) = 2 ^ k * (W / 2 ^ k % 2 ^ d) + W % 2 ^ k := by
     rw [Nat.pow_add]
     rw [Nat.mod_mul]
     omega
   rw [e4, Bool.eq_iff_iff]
   simp only [Bool.or_eq_true, bne_iff_ne, ne_eq]
   have hp := Nat.two_pow_pos k
   constructor
   · rintro (h | h) hc
     · have : 2 ^ k * (W / 2 ^ k % 2 ^ d) ≠ 0 := Nat.mul_ne_zero (by omega) h
       omega
     · omega
   · intro h
     by_cases h1 : W / 2 ^ k % 2 ^ d = 0
     · right
       intro h2
       rw [h1, h2] at h
       exact h (by simp)
     · exact .inl h1
 unfold Fl.near
 rw [if_neg hW, if_neg hW', hr, hlost]
theorem cut_more0 {NW Nc R m X c : Nat} (r1 : 2 * NW + R = X * 1152921504606846976) (r2 : 32 * NW + Nc + m = X * 18446744073709551616) (hc : (c = 0 ∧ Nc = 0) ∨ (c ≠ 0 ∧ Nc ≠ 0)) : (R ≠ 0) ↔ (c ≠ 0 ∨ m ≠ 0) := by
 omega
theorem cut_more {N W' W c m R X : Nat} (r1 : 2 * N * W' + R = X * 1152921504606846976) (r2 : N * W + m = X * 18446744073709551616) (r3 : 32 * W' + c = W) (hN : 0 < N) : ((R : Int) != 0) = (c != 0 || m != 0) := by
 have k1 : N * W = 32 * (N * W') + N * c := by rw [← r3, Nat.mul_add, Nat.mul_left_comm]
 have k2 : 2 * N * W' = 2 * (N * W') := by rw [Nat.mul_assoc]
 rw [k1] at r2
 rw [k2] at r1
 have hc : (c = 0 ∧ N * c = 0) ∨ (c ≠ 0 ∧ N * c ≠ 0) := by
   by_cases h : c = 0
   · exact .inl ⟨h, by rw [h, Nat.mul_zero]⟩
   · exact .inr ⟨h, Nat.mul_ne_zero (by omega) h⟩
 have key := cut_more0 r1 r2 hc
 rw [Bool.eq_iff_iff]
 simp only [Bool.or_eq_true, bne_iff_ne, ne_eq]
 have hi : ¬ (R : Int) = 0 ↔ R ≠ 0 := by omega
 rw [hi]
 exact key
/-- The document's quotient has five places less. -/
theorem div_cut (a b : Nat) (ha : Fl.sM a ≠ 0) (hb : Fl.sM b ≠ 0) (neg down : Bool) :
   toVal neg down (qX a * 2 ^ 60 / (2 * qX b)) (qE a - qE b - 59) (((qX a * 2 ^ 60 % (2 * qX b) : Nat) : Int) != 0) = toVal neg down (divW a b) (divE a b) (divM a b) ∧
   58 < Fl.len (qX a * 2 ^ 60 / (2 * qX b)) := by
 have hN := qX_ge b hb
 have hbig := div_big a b ha hb
 have hp : (2 : Nat) ^ 60 = 1152921504606846976 := by decide
 have h5 : (2 : Nat) ^ 5 = 32 := by decide
 have hq : qX a * 2 ^ 60 / (2 * qX b) = divW a b / 2 ^ 5 := by
   unfold divW
   rw [Nat.div_div_eq_div_mul, h5, hp]
   have e1 : qX a * 18446744073709551616 = qX a * 1152921504606846976 * 16 := by omega
   have e2 : qX b * 32 = 2 * qX b * 16 := by omega
   rw [e1, e2, Nat.mul_div_mul_right _ _ (by omega)]
 have hm : (((qX a * 2 ^ 60 % (2 * qX b) : Nat) : Int) != 0) = (divW a b % 2 ^ 5 != 0 || divM a b) := by
   have r1 := Nat.div_add_mod (qX a * 2 ^ 60) (2 * qX b)
   have r2 := Nat.div_add_mod (qX a * 18446744073709551616) (qX b)
   have r3 := Nat.div_add_mod (divW a b) (2 ^ 5)
   rw [hq] at r1
   have hdm : divM a b = (qX a * 18446744073709551616 % qX b != 0) := rfl
   have hdw : qX a * 18446744073709551616 / qX b = divW a b := rfl
   rw [hdw] at r2
   rw [hdm]
   rw [h5] at r3
   rw [hp] at r1
   exact cut_more r1 r2 r3 (by omega)
 rw [hq, hm]
 have hn := fun g => near_cut g (divW a b) (divE a b) (divM a b) 5 (by unfold Fl.drop; omega) (by omega)
 have he : qE a - qE b - 59 = divE a b + ((5 : Nat) : Int) := by unfold divE; omega
 rw [he]
 refine ⟨?_, ?_⟩
 · unfold toVal
   rw [hn]
 · rw [cut_len (by omega)]; omega
end Go.Proofs.YtnljfcebmgifdaaGreat
set_option linter.unusedVariables false
set_option linter.unusedSimpArgs false
namespace Go.Proofs.YtnljfcebmgifdaaGreat
open Go.RowKit Ieee
theorem rdiv_good (a b : Nat) (down : Bool) (ha : a < 18446744073709551616) (hb : b < 18446744073709551616) (fa : Fl.fin a = true) (fb : Fl.fin b = true) (ha0 : Fl.mg a ≠ 0) (hb0 : Fl.mg b ≠ 0) (w : World) :
   Calls Tryz.prog 108 #[.float .f64 a, .float .f64 b, .bool down] w fun r w' => r = .returned (numV (divV a b down) 0) ∧ Below w.heap.size w w' := by
 have hEb := eq0_of b hb fb
 rw [decide_eq_false hb0] at hEb
 have hEa := eq0_of a ha fa
 rw [decide_eq_false ha0] at hEa
 have hsb : Fl.sM b ≠ 0 := fun h => hb0 ((Fl.sM_zero b).1 h)
 have hsa : Fl.sM a ≠ 0 := fun h => ha0 ((Fl.sM_zero a).1 h)
 have a1 := Fl.sM_lt a
 have b1 := Fl.sM_lt b
 have la := len53 a1
 have lb := len53 b1
 have ea1 := Fl.sE_ge a
 have ea2 := Fl.sE_le a fa
 have eb1 := Fl.sE_ge b
 have eb2 := Fl.sE_le b fb
 have x1 := qX_lt a
 have x2 := qX_ge a hsa
 have n1 := qX_lt b
 have n2 := qX_ge b hsb
 have hU : ∀ c, Fl.fin c = true → ∀ w, Calls Tryz.prog 126 #[wdv 0 (Fl.sM c) (Fl.sE c) false, .int .i64 (IntKind.i64.wrap (53 - (Fl.len (Fl.sM c) : Int)))] w fun r w' => r = .returned (wdv 0 (qX c) (qE c) false) ∧ ∃ k o o', w' = ((w.alloc o).alloc o').drewN k := by
   intro c fc w
   have c1 := Fl.sM_lt c
   have c2 := qX_lt c
   have c3 := Fl.sE_ge c
   have c4 := Fl.sE_le c fc
   have := up_s (Fl.sM c) (53 - Fl.len (Fl.sM c)) (qX c) (Fl.sE c) _ (wrap_sub 53 (Fl.len (Fl.sM c)) (len53 c1) (by omega) (by omega)) (by omega) rfl (by omega) (by omega) (by omega) (by omega) w
   rw [wdW_small (qX c) _ _ (by omega)] at this
   exact this
 obtain ⟨hv, hlen⟩ := div_cut a b hsa hsb (Fl.sg a != Fl.sg b) down
 have e1 := qE_ge a
 have e2 := qE_le a fa
 have e3 := qE_ge b
 have e4 := qE_le b fb
 have hQlt : qX a * 2 ^ 60 / (2 * qX b) < 18446744073709551616 := by
   rw [Nat.div_lt_iff_lt_mul (by omega), show (2 : Nat) ^ 60 = 1152921504606846976 by decide]
   omega
 have hO : ∀ w, Calls Tryz.prog 130 #[.agg #[.int .u64 0, .int .u64 ((qX a * 2 ^ 60 / (2 * qX b) : Nat) : Int), .int .i64 (qE a - qE b - 59), .bool (((qX a * 2 ^ 60 % (2 * qX b) : Nat) : Int) != 0)], .bool (Fl.sg a != Fl.sg b), .bool down] w fun r w' => r = .returned (.float .f64 (divV a b down)) ∧ Below w.heap.size w w' := by
   intro w
   have hd : 0 ≤ Fl.drop (qX a * 2 ^ 60 / (2 * qX b)) (qE a - qE b - 59 + 1074) := by unfold Fl.drop; omega
   have := rto_ok (Fl.sg a != Fl.sg b) down _ (qE a - qE b - 59) (((qX a * 2 ^ 60 % (2 * qX b) : Nat) : Int) != 0) ⟨by omega, fun h => by rw [h, Fl.len_zero] at hlen; omega, fun _ => hd, by omega, .inr ⟨hd, by omega⟩⟩ w
   rw [hv, wdW_small _ _ _ hQlt] at this
   exact this
 exact rdiv_walk a b down (Fl.sg a) (Fl.sg b) (Fl.sM a) (Fl.sM b) (Fl.sE a) (Fl.sE b) hEa hEb (rnum_good a ha fa) (rnum_good b hb fb) (part_any a ha) (part_any b hb) _ _ la lb (wlen_s _ _ (by omega)) (wlen_s _ _ (by omega)) 0 (qX a) 0 (qX b) (qE a) (qE b) (hU a fa) (hU b fb) (by omega) (by omega) (by omega) (by omega) (Lib.hid ⟨by omega, by omega, n1⟩) _ _ (Lib.hid ⟨rfl, rfl⟩) _ hO w
theorem rM_words (a : Nat) : rM a / 18446744073709551616 * 18446744073709551616 + rM a % 18446744073709551616 = rM a := by omega
theorem rsqrt_good (a R : Nat) (down : Bool) (ha : a < 18446744073709551616) (fa : Fl.fin a = true) (hp : 0 < Fl.Z a) (hR : IsRoot (rM a) R) (w : World) :
   Calls Tryz.prog 101 #[.float .f64 a, .bool down] w fun r w' => r = .returned (numV (rootV a R down) 0) ∧ Below w.heap.size w w' := by
 obtain ⟨h1, h2, hs⟩ := pos_cmp a ha fa hp
 have a1 := Fl.sM_lt a
 have la := len53 a1
 have ea1 := Fl.sE_ge a
 have ea2 := Fl.sE_le a fa
 have e1 := rE_ge a
 have e2 := rE_le a fa
 have x1 := rX_lt a
 have hLX : ∀ w, Calls Tryz.prog 126 #[wdv 0 (Fl.sM a) (Fl.sE a) false, .int .i64 (IntKind.i64.wrap (115 - (Fl.len (Fl.sM a) : Int)))] w fun r w' => r = .returned (wdv (rX a / 18446744073709551616) (rX a % 18446744073709551616) (rE a) false) ∧ ∃ k o o', w' = ((w.alloc o).alloc o').drewN k :=
   up_s (Fl.sM a) (115 - Fl.len (Fl.sM a)) (rX a) (Fl.sE a) _ (wrap_sub 115 (Fl.len (Fl.sM a)) la (by omega) (by omega)) (by omega) rfl (by omega) (by omega) (by omega) (by omega)
 obtain ⟨hok, hR2⟩ := root_ok a R fa hs hR.1 hR.2
 have hO : ∀ w, Calls Tryz.prog 130 #[.agg #[.int .u64 0, .int .u64 (R : Int), .int .i64 (Int.tdiv (rP a) 2), .bool (R * R != rM a)], .bool false, .bool down] w fun r w' => r = .returned (.float .f64 (rootV a R down)) ∧ Below w.heap.size w w' := by
   intro w
   have := rto_ok false down _ _ _ hok w
   rw [wdW_small R _ _ (by omega)] at this
   exact this
 have hw := rM_words a
 have hlt := rM_lt a
 by_cases ho : rOdd a = true
 · have hM : rM a = rX a * 2 := by unfold rM; rw [if_pos ho]
   have hP : rP a = rE a - 1 := by unfold rP; rw [if_pos ho]
   have hL1 : ∀ w, Calls Tryz.prog 126 #[wdv (rX a / 18446744073709551616) (rX a % 18446744073709551616) (rE a) false, .int .i64 1] w fun r w' => r = .returned (wdv (rM a / 18446744073709551616) (rM a % 18446744073709551616) (rP a) false) ∧ ∃ k o o', w' = ((w.alloc o).alloc o').drewN k := by
     intro w
     rw [hM, hP]
     exact up_any (rX a) (rE a) false 1 (by omega) (by omega) (by omega) (by omega) w
   exact rsqrt_walk_odd a down (Fl.sg a) (Fl.sM a) (Fl.sE a) h1 h2 (rnum_good a ha fa) (part_any a ha) _ la (wlen_s _ _ (by omega)) _ _ _ hLX (by omega) (by omega) ho _ _ _ (by omega) (by omega) hL1 (Lib.hid ⟨by rw [hw]; exact hlt, Nat.mod_lt _ (by omega)⟩) R (Lib.hid (by rw [hw]; exact hR)) (R * R != rM a) (Lib.hid (by rw [hw])) _ hO w
 · have hM : rM a = rX a := by unfold rM; rw [if_neg ho]
   have hP : rP a = rE a := by unfold rP; rw [if_neg ho]
   have ho' : (Int.tmod (rE a) 2 != 0) = false := by
     have : rOdd a = false := by revert ho; cases rOdd a <;> simp
     exact this
   rw [hP] at hO
   rw [hM] at hO hw hlt hR
   exact rsqrt_walk_even a down (Fl.sg a) (Fl.sM a) (Fl.sE a) h1 h2 (rnum_good a ha fa) (part_any a ha) _ la (wlen_s _ _ (by omega)) _ _ _ hLX (by omega) (by omega) ho' (Lib.hid ⟨by rw [hw]; exact hlt, Nat.mod_lt _ (by omega)⟩) R (Lib.hid (by rw [hw]; exact hR)) (R * R != rX a) (Lib.hid (by rw [hw])) _ hO w
end Go.Proofs.YtnljfcebmgifdaaGreat
namespace Go.Proofs.YtnljfcebmgifdaaGreat
open Go.RowKit Ieee
end Go.Proofs.YtnljfcebmgifdaaGreat
namespace Go.Proofs.YtnljfcebmgifdaaGreat
open Go.RowKit Ieee
section
variable (F : FuncId)
end
theorem rdiv_bad (a b : Nat) (down : Bool) (ha : a < 18446744073709551616) (hb : b < 18446744073709551616) (hf : (Fl.fin a && Fl.fin b) = false) (w : World) :
   Calls Tryz.prog 108 #[.float .f64 a, .float .f64 b, .bool down] w fun r w' => r = .returned (numV 0 10) ∧ ∃ k, w' = w.drewN k := by
 have HX := Lib.hid (fun w => rnum_any a ha w)
 have HY := Lib.hid (fun w => rnum_any b hb w)
 generalize Fl.fin a = x at *
 generalize Fl.fin b = y at *
 cases x
 · go_enter Tryz.func108, Tryz.ntmps108
   go_wp2_with fail
   refine (HX.out _).mono ?_
   rintro e w' ⟨rfl, k, rfl⟩
   go_wp2_with fail
   go_ret2
   exact ⟨rfl, _, rfl⟩
 · obtain rfl : y = false := by simpa using hf
   go_enter Tryz.func108, Tryz.ntmps108
   go_wp2_with fail
   refine (HX.out _).mono ?_
   rintro e w' ⟨rfl, k, rfl⟩
   go_wp2_with fail
   refine (HY.out _).mono ?_
   rintro e w' ⟨rfl, k', rfl⟩
   go_wp2_with fail
   go_ret2
   exact ⟨rfl, _, rfl⟩
theorem rdiv_by0 (a b : Nat) (down : Bool) (ha : a < 18446744073709551616) (hb : b < 18446744073709551616) (fa : Fl.fin a = true) (fb : Fl.fin b = true) (h0 : Fl.mg b = 0) (w : World) :
   Calls Tryz.prog 108 #[.float .f64 a, .float .f64 b, .bool down] w fun r w' => r = .returned (numV 0 11) ∧ w = w' := by
 have HX := Lib.hid (fun w => rnum_good a ha fa w)
 have HY := Lib.hid (fun w => rnum_good b hb fb w)
 have E := eq0_of b hb fb
 rw [decide_eq_true h0] at E
 clear fa fb h0
 go_enter Tryz.func108, Tryz.ntmps108
 go_wp2_with fail
 refine (HX.out _).mono ?_
 rintro e w' ⟨rfl, rfl⟩
 go_wp2_with fail
 refine (HY.out _).mono ?_
 rintro e w' ⟨rfl, rfl⟩
 go_wp2_with fail
 go_ret2
 exact ⟨rfl, rfl⟩
theorem rdiv_of0 (a b : Nat) (down : Bool) (ha : a < 18446744073709551616) (hb : b < 18446744073709551616) (fa : Fl.fin a = true) (fb : Fl.fin b = true) (h0 : Fl.mg b ≠ 0) (ha0 : Fl.mg a = 0) (w : World) :
   Calls Tryz.prog 108 #[.float .f64 a, .float .f64 b, .bool down] w fun r w' => r = .returned (numV 0 0) ∧ w = w' := by
 have HX := Lib.hid (fun w => rnum_good a ha fa w)
 have HY := Lib.hid (fun w => rnum_good b hb fb w)
 have E := eq0_of b hb fb
 rw [decide_eq_false h0] at E
 have E2 := eq0_of a ha fa
 rw [decide_eq_true ha0] at E2
 clear fa fb h0 ha0
 go_enter Tryz.func108, Tryz.ntmps108
 go_wp2_with fail
 refine (HX.out _).mono ?_
 rintro e w' ⟨rfl, rfl⟩
 go_wp2_with fail
 refine (HY.out _).mono ?_
 rintro e w' ⟨rfl, rfl⟩
 go_wp2_with fail
 go_ret2
 exact ⟨rfl, rfl⟩
theorem rdiv_any (a b : Nat) (down : Bool) (ha : a < 18446744073709551616) (hb : b < 18446744073709551616) (w : World) :
   Calls Tryz.prog 108 #[.float .f64 a, .float .f64 b, .bool down] w fun r w' => r = .returned (pV (divR a b down)) ∧ Below w.heap.size w w' := by
 unfold divR pV
 by_cases hf : (Fl.fin a && Fl.fin b) = true
 · rw [if_pos hf]
   have h2 : Fl.fin a = true ∧ Fl.fin b = true := by revert hf; cases Fl.fin a <;> cases Fl.fin b <;> simp
   by_cases h0 : Fl.mg b = 0
   · rw [if_pos h0]
     refine (rdiv_by0 a b down ha hb h2.1 h2.2 h0 w).mono ?_
     rintro r w' ⟨rfl, rfl⟩
     exact ⟨rfl, Below.refl _ _⟩
   · rw [if_neg h0]
     by_cases ha0 : Fl.mg a = 0
     · refine (rdiv_of0 a b down ha hb h2.1 h2.2 h0 ha0 w).mono ?_
       rintro r w' ⟨rfl, rfl⟩
       have hv : divV a b down = 0 := by
         unfold divV divW
         rw [qX_zero a ((Fl.sM_zero a).2 ha0), Nat.zero_mul, Nat.zero_div]
         exact toVal_zero _ _ _ _
       exact ⟨by rw [hv], Below.refl _ _⟩
     · exact rdiv_good a b down ha hb h2.1 h2.2 ha0 h0 w
 · rw [if_neg hf]
   refine (rdiv_bad a b down ha hb (by revert hf; cases (Fl.fin a && Fl.fin b) <;> simp) w).mono ?_
   rintro r w' ⟨rfl, k, rfl⟩
   exact ⟨rfl, below_drewN0 w k⟩
end Go.Proofs.YtnljfcebmgifdaaGreat
namespace Go.Proofs.YtnljfcebmgifdaaGreat
open Go.RowKit Ieee
theorem rsqrt_any (a : Nat) (down : Bool) (ha : a < 18446744073709551616) (w : World) :
   Calls Tryz.prog 101 #[.float .f64 a, .bool down] w fun r w' => r = .returned (pV (sqrtR a down)) ∧ Below w.heap.size w w' := by
 unfold sqrtR pV
 have HT := Lib.hid (fun w => rnum_any a ha w)
 by_cases hf : Fl.fin a = true
 · rw [if_pos hf]
   by_cases h1 : Fl.Z a < 0
   · rw [if_pos h1]
     have E := Z_lt0 a ha hf
     rw [decide_eq_true h1] at E
     rw [hf] at HT
     clear hf h1
     go_enter Tryz.func101, Tryz.ntmps101
     go_wp2_with fail
     refine (HT.out _).mono ?_
     rintro e w' ⟨rfl, k, rfl⟩
     go_wp2_with fail
     go_ret2
     exact ⟨rfl, below_drewN0 _ _⟩
   · rw [if_neg h1]
     by_cases h2 : Fl.mg a = 0
     · rw [if_pos h2]
       have E := Z_lt0 a ha hf
       rw [decide_eq_false h1] at E
       have E2 := eq0_of a ha hf
       rw [decide_eq_true h2] at E2
       rw [hf] at HT
       clear hf h1 h2
       go_enter Tryz.func101, Tryz.ntmps101
       go_wp2_with fail
       refine (HT.out _).mono ?_
       rintro e w' ⟨rfl, k, rfl⟩
       go_wp2_with fail
       go_ret2
       exact ⟨rfl, below_drewN0 _ _⟩
     · rw [if_neg h2]
       exact rsqrt_good a _ down ha hf (Z_pos h1 h2) (rootOf_is _) w
 · rw [if_neg hf]
   have hf' : Fl.fin a = false := by revert hf; cases Fl.fin a <;> simp
   rw [hf'] at HT
   clear hf hf'
   go_enter Tryz.func101, Tryz.ntmps101
   go_wp2_with fail
   refine (HT.out _).mono ?_
   rintro e w' ⟨rfl, k, rfl⟩
   go_wp2_with fail
   go_ret2
   exact ⟨rfl, below_drewN0 _ _⟩
end Go.Proofs.YtnljfcebmgifdaaGreat
set_option linter.unusedVariables false
set_option linter.unusedSimpArgs false
namespace Go.Proofs.YtnljfcebmgifdaaGreat
open Go.RowKit Fl
theorem rdiv_on (a b : Sp) (h0 : (has0 b || a.wide || b.wide) = false) (w : World) : Calls Tryz.prog 73 #[.agg #[.float .f64 a.lo, .float .f64 a.hi], .agg #[.float .f64 b.lo, .float .f64 b.hi]] w fun r w' => r = .returned (.agg #[.float .f64 (q4lo divD a b), .float .f64 (q4hi divU a b)]) ∧ Below w.heap.size w w' := by
 have HD := div_rd h0
 have HU := div_ru h0
 obtain ⟨hb0, h, h'⟩ := or3_false h0
 have HC : ∀ x y, x < 18446744073709551616 → y < 18446744073709551616 → ∀ d : Bool, ∃ e : Nat, ∀ w, Calls Tryz.prog 108 #[.float .f64 x, .float .f64 y, .bool d] w fun r w' => r = .returned (.tuple #[.float .f64 (divR x y d).1, .int .i64 (e : Int)]) ∧ Below w.heap.size w w' := fun x y hx hy d => ⟨(divR x y d).2, fun w => rdiv_any x y d hx hy w⟩
 have H1 := Lib.hid (fun w => rwide_sp a w)
 have H2 := Lib.hid (fun w => rwide_sp b w)
 have HI := Lib.hid (fun w => rinf_any w)
 have NG := neg_inf
 rw [h] at H1
 rw [h'] at H2
 have B1 := le0_gd b.vd.l
 have B2 := ge0_gd b.vd.h
 have B3 : (decide (Z b.lo ≤ 0) = false) ∨ (decide (Z b.lo ≤ 0) = true ∧ decide (0 ≤ Z b.hi) = false) := by
   unfold has0 at hb0
   cases p : decide (Z b.lo ≤ 0)
   · exact Or.inl rfl
   · rw [p, Bool.true_and] at hb0
     exact Or.inr ⟨rfl, hb0⟩
 generalize decide (Z b.lo ≤ 0) = p1 at *
 generalize decide (0 ≤ Z b.hi) = p2 at *
 clear hb0 h0 h h'
 have g0 := (HD a.lo b.lo (Or.inl rfl) (Or.inl rfl)).gd
 have k0 := (HU a.lo b.lo (Or.inl rfl) (Or.inl rfl)).gd
 obtain ⟨e0, he⟩ := HC a.lo b.lo a.vd.l.lt b.vd.l.lt true
 have C0 := Lib.hid he
 clear he
 obtain ⟨e1, he⟩ := HC a.lo b.lo a.vd.l.lt b.vd.l.lt false
 have C1 := Lib.hid he
 clear he
 have g1 := (HD a.lo b.hi (Or.inl rfl) (Or.inr rfl)).gd
 have k1 := (HU a.lo b.hi (Or.inl rfl) (Or.inr rfl)).gd
 obtain ⟨e2, he⟩ := HC a.lo b.hi a.vd.l.lt b.vd.h.lt true
 have C2 := Lib.hid he
 clear he
 obtain ⟨e3, he⟩ := HC a.lo b.hi a.vd.l.lt b.vd.h.lt false
 have C3 := Lib.hid he
 clear he
 have g2 := (HD a.hi b.lo (Or.inr rfl) (Or.inl rfl)).gd
 have k2 := (HU a.hi b.lo (Or.inr rfl) (Or.inl rfl)).gd
 obtain ⟨e4, he⟩ := HC a.hi b.lo a.vd.h.lt b.vd.l.lt true
 have C4 := Lib.hid he
 clear he
 obtain ⟨e5, he⟩ := HC a.hi b.lo a.vd.h.lt b.vd.l.lt false
 have C5 := Lib.hid he
 clear he
 have g3 := (HD a.hi b.hi (Or.inr rfl) (Or.inr rfl)).gd
 have k3 := (HU a.hi b.hi (Or.inr rfl) (Or.inr rfl)).gd
 obtain ⟨e6, he⟩ := HC a.hi b.hi a.vd.h.lt b.vd.h.lt true
 have C6 := Lib.hid he
 clear he
 obtain ⟨e7, he⟩ := HC a.hi b.hi a.vd.h.lt b.vd.h.lt false
 have C7 := Lib.hid he
 clear he
 unfold q4lo q4hi
 obtain ⟨d0, hd⟩ : ∃ d, divD a.lo b.lo = d := ⟨_, rfl⟩
 have hd' : (divR a.lo b.lo true).1 = d0 := hd
 rw [hd] at g0 ⊢
 rw [hd'] at C0
 clear hd hd'
 obtain ⟨u0, hd⟩ : ∃ d, divU a.lo b.lo = d := ⟨_, rfl⟩
 have hd' : (divR a.lo b.lo false).1 = u0 := hd
 rw [hd] at k0 ⊢
 rw [hd'] at C1
 clear hd hd'
 obtain ⟨d1, hd⟩ : ∃ d, divD a.lo b.hi = d := ⟨_, rfl⟩
 have hd' : (divR a.lo b.hi true).1 = d1 := hd
 rw [hd] at g1 ⊢
 rw [hd'] at C2
 clear hd hd'
 obtain ⟨u1, hd⟩ : ∃ d, divU a.lo b.hi = d := ⟨_, rfl⟩
 have hd' : (divR a.lo b.hi false).1 = u1 := hd
 rw [hd] at k1 ⊢
 rw [hd'] at C3
 clear hd hd'
 obtain ⟨d2, hd⟩ : ∃ d, divD a.hi b.lo = d := ⟨_, rfl⟩
 have hd' : (divR a.hi b.lo true).1 = d2 := hd
 rw [hd] at g2 ⊢
 rw [hd'] at C4
 clear hd hd'
 obtain ⟨u2, hd⟩ : ∃ d, divU a.hi b.lo = d := ⟨_, rfl⟩
 have hd' : (divR a.hi b.lo false).1 = u2 := hd
 rw [hd] at k2 ⊢
 rw [hd'] at C5
 clear hd hd'
 obtain ⟨d3, hd⟩ : ∃ d, divD a.hi b.hi = d := ⟨_, rfl⟩
 have hd' : (divR a.hi b.hi true).1 = d3 := hd
 rw [hd] at g3 ⊢
 rw [hd'] at C6
 clear hd hd'
 obtain ⟨u3, hd⟩ : ∃ d, divU a.hi b.hi = d := ⟨_, rfl⟩
 have hd' : (divR a.hi b.hi false).1 = u3 := hd
 rw [hd] at k3 ⊢
 rw [hd'] at C7
 clear hd hd'
 have c0 : ∃ c : Bool, (FloatKind.f64.format.order d0 9218868437227405312 == some .lt) = c ∧ mn 9218868437227405312 d0 = (if c = true then d0 else 9218868437227405312) := ⟨_, rfl, by unfold mn; rw [ltb g0 gdPI]; by_cases h : Z d0 < Z 9218868437227405312 <;> simp [h]⟩
 have s0 : ∃ c : Bool, (FloatKind.f64.format.order u0 18442240474082181120 == some .gt) = c ∧ mx 18442240474082181120 u0 = (if c = true then u0 else 18442240474082181120) := ⟨_, rfl, by unfold mx; rw [gtb k0 gdNI]; by_cases h : Z 18442240474082181120 < Z u0 <;> simp [h]⟩
 have gl0 := mn_gd gdPI g0
 have gh0 := mx_gd gdNI k0
 obtain ⟨l0, hl⟩ : ∃ l, mn 9218868437227405312 d0 = l := ⟨_, rfl⟩
 rw [hl] at c0 gl0 ⊢
 clear hl
 obtain ⟨m0, hl⟩ : ∃ l, mx 18442240474082181120 u0 = l := ⟨_, rfl⟩
 rw [hl] at s0 gh0 ⊢
 clear hl
 have c0 := Lib.hid c0
 have s0 := Lib.hid s0
 have c1 : ∃ c : Bool, (FloatKind.f64.format.order d1 l0 == some .lt) = c ∧ mn l0 d1 = (if c = true then d1 else l0) := ⟨_, rfl, by unfold mn; rw [ltb g1 gl0]; by_cases h : Z d1 < Z l0 <;> simp [h]⟩
 have s1 : ∃ c : Bool, (FloatKind.f64.format.order u1 m0 == some .gt) = c ∧ mx m0 u1 = (if c = true then u1 else m0) := ⟨_, rfl, by unfold mx; rw [gtb k1 gh0]; by_cases h : Z m0 < Z u1 <;> simp [h]⟩
 have gl1 := mn_gd gl0 g1
 have gh1 := mx_gd gh0 k1
 obtain ⟨l1, hl⟩ : ∃ l, mn l0 d1 = l := ⟨_, rfl⟩
 rw [hl] at c1 gl1 ⊢
 clear hl
 obtain ⟨m1, hl⟩ : ∃ l, mx m0 u1 = l := ⟨_, rfl⟩
 rw [hl] at s1 gh1 ⊢
 clear hl
 have c1 := Lib.hid c1
 have s1 := Lib.hid s1
 have c2 : ∃ c : Bool, (FloatKind.f64.format.order d2 l1 == some .lt) = c ∧ mn l1 d2 = (if c = true then d2 else l1) := ⟨_, rfl, by unfold mn; rw [ltb g2 gl1]; by_cases h : Z d2 < Z l1 <;> simp [h]⟩
 have s2 : ∃ c : Bool, (FloatKind.f64.format.order u2 m1 == some .gt) = c ∧ mx m1 u2 = (if c = true then u2 else m1) := ⟨_, rfl, by unfold mx; rw [gtb k2 gh1]; by_cases h : Z m1 < Z u2 <;> simp [h]⟩
 have gl2 := mn_gd gl1 g2
 have gh2 := mx_gd gh1 k2
 obtain ⟨l2, hl⟩ : ∃ l, mn l1 d2 = l := ⟨_, rfl⟩
 rw [hl] at c2 gl2 ⊢
 clear hl
 obtain ⟨m2, hl⟩ : ∃ l, mx m1 u2 = l := ⟨_, rfl⟩
 rw [hl] at s2 gh2 ⊢
 clear hl
 have c2 := Lib.hid c2
 have s2 := Lib.hid s2
 have c3 : ∃ c : Bool, (FloatKind.f64.format.order d3 l2 == some .lt) = c ∧ mn l2 d3 = (if c = true then d3 else l2) := ⟨_, rfl, by unfold mn; rw [ltb g3 gl2]; by_cases h : Z d3 < Z l2 <;> simp [h]⟩
 have s3 : ∃ c : Bool, (FloatKind.f64.format.order u3 m2 == some .gt) = c ∧ mx m2 u3 = (if c = true then u3 else m2) := ⟨_, rfl, by unfold mx; rw [gtb k3 gh2]; by_cases h : Z m2 < Z u3 <;> simp [h]⟩
 have gl3 := mn_gd gl2 g3
 have gh3 := mx_gd gh2 k3
 obtain ⟨l3, hl⟩ : ∃ l, mn l2 d3 = l := ⟨_, rfl⟩
 rw [hl] at c3 gl3 ⊢
 clear hl
 obtain ⟨m3, hl⟩ : ∃ l, mx m2 u3 = l := ⟨_, rfl⟩
 rw [hl] at s3 gh3 ⊢
 clear hl
 have c3 := Lib.hid c3
 have s3 := Lib.hid s3
 clear HD HU HC g0 k0 gl0 gh0 g1 k1 gl1 gh1 g2 k2 gl2 gh2 g3 k3 gl3 gh3
 go_enter Tryz.func73, Tryz.ntmps73
 go_upto_region 1 with fail
 obtain ⟨W, hW, K0, K1, K2, hB, hz⟩ := box3 w 24 24 24 #[Value.float FloatKind.f64 a.lo, Value.float FloatKind.f64 a.hi] #[Value.float FloatKind.f64 b.lo, Value.float FloatKind.f64 b.hi] #[Value.float FloatKind.f64 0, Value.float FloatKind.f64 0]
 rw [← hW]
 have K0 := Lib.hid K0
 have K1 := Lib.hid K1
 have K2 := Lib.hid K2
 have HB := Lib.hid hB
 clear hW hB hz
 have HO := Lib.hid (show ∀ w', Hd W (w.heap.size + 1 + 1) 24 2 w' → (Hd W (w.heap.size + 1 + 1) 24 2 w' ∧ w'.cell? ⟨w.heap.size, 0, none⟩ = some (Value.float FloatKind.f64 a.lo) ∧ w'.cell? ⟨w.heap.size, 1, none⟩ = some (Value.float FloatKind.f64 a.hi) ∧ w'.cell? ⟨w.heap.size + 1, 0, none⟩ = some (Value.float FloatKind.f64 b.lo) ∧ w'.cell? ⟨w.heap.size + 1, 1, none⟩ = some (Value.float FloatKind.f64 b.hi) ∧ w'.cell? ⟨w.heap.size + 1 + 1, 0, none⟩ = some (cellAt w' ⟨w.heap.size + 1 + 1, 0, none⟩) ∧ w'.frozen? ⟨w.heap.size + 1 + 1, 0, none⟩ = false ∧ w'.cell? ⟨w.heap.size + 1 + 1, 1, none⟩ = some (cellAt w' ⟨w.heap.size + 1 + 1, 1, none⟩) ∧ w'.frozen? ⟨w.heap.size + 1 + 1, 1, none⟩ = false) from fun w' h => ⟨h, (h.blk K0.out (by omega)).cell 0, (h.blk K0.out (by omega)).cell 1, (h.blk K1.out (by omega)).cell 0, (h.blk K1.out (by omega)).cell 1, (h.at_ 0 (by decide)).1, (h.at_ 0 (by decide)).2, (h.at_ 1 (by decide)).1, (h.at_ 1 (by decide)).2⟩)
 have D0 := Lib.hid (show Hd W (w.heap.size + 1 + 1) 24 2 W from Hd.start K2.out)
 obtain ⟨-, q0, q1, q2, q3, q4, q5, q6, q7⟩ := HO.out _ D0.out
 have z0 := Hd.lt D0.out
 go_cut [29] (fun s wx => s = .bool false ∧ Hd W (w.heap.size + 1 + 1) 24 2 wx)
 case first =>
   rcases B3 with rfl | ⟨rfl, rfl⟩
   · go_wp2_with fail
     refine (H1.out _).mono ?_
     rintro r w1 ⟨rfl, hb⟩
     have D1 := Lib.hid (Hd.call D0.out hb)
     clear hb q0 q1 q2 q3 q4 q5 q6 q7
     obtain ⟨-, q0, q1, q2, q3, q4, q5, q6, q7⟩ := HO.out _ D1.out
     have z1 := Hd.lt D1.out
     go_wp2_with fail
     refine (H2.out _).mono ?_
     rintro r w2 ⟨rfl, hb⟩
     have D2 := Lib.hid (Hd.call D1.out hb)
     clear hb
     clear q0 q1 q2 q3 q4 q5 q6 q7
     obtain ⟨-, q0, q1, q2, q3, q4, q5, q6, q7⟩ := HO.out _ D2.out
     have z2 := Hd.lt D2.out
     go_wp2_with fail
     go_meet
     exact ⟨rfl, D2.out⟩
   · go_wp2_with fail
     refine (H1.out _).mono ?_
     rintro r w1 ⟨rfl, hb⟩
     have D1 := Lib.hid (Hd.call D0.out hb)
     clear hb q0 q1 q2 q3 q4 q5 q6 q7
     obtain ⟨-, q0, q1, q2, q3, q4, q5, q6, q7⟩ := HO.out _ D1.out
     have z1 := Hd.lt D1.out
     go_wp2_with fail
     refine (H2.out _).mono ?_
     rintro r w2 ⟨rfl, hb⟩
     have D2 := Lib.hid (Hd.call D1.out hb)
     clear hb
     clear q0 q1 q2 q3 q4 q5 q6 q7
     obtain ⟨-, q0, q1, q2, q3, q4, q5, q6, q7⟩ := HO.out _ D2.out
     have z2 := Hd.lt D2.out
     go_wp2_with fail
     go_meet
     exact ⟨rfl, D2.out⟩
 clear B1 B2 B3
 obtain ⟨rfl, hD⟩ := hcut
 have D2 := Lib.hid hD
 clear hD
 clear q0 q1 q2 q3 q4 q5 q6 q7
 obtain ⟨-, q0, q1, q2, q3, q4, q5, q6, q7⟩ := HO.out _ D2.out
 have z2 := Hd.lt D2.out
 go_wp2_with fail
 refine (HI.out _).mono ?_
 rintro r w' ⟨rfl, rfl⟩
 go_wp2_with fail
 refine (HI.out _).mono ?_
 rintro r w' ⟨rfl, rfl⟩
 have hz9 := z2
 obtain ⟨g, hg⟩ : ∃ g, wc.heap.size = g := ⟨_, rfl⟩
 obtain ⟨V, hV⟩ : ∃ V, (wc.alloc (.cells #[Value.float FloatKind.f64 a.lo, Value.float FloatKind.f64 a.lo, Value.float FloatKind.f64 a.hi, Value.float FloatKind.f64 a.hi] 22)).alloc (.cells #[Value.float FloatKind.f64 b.lo, Value.float FloatKind.f64 b.hi, Value.float FloatKind.f64 b.lo, Value.float FloatKind.f64 b.hi] 22) = V := ⟨_, rfl⟩
 have O0 : Blk V g 22 #[Value.float FloatKind.f64 a.lo, Value.float FloatKind.f64 a.lo, Value.float FloatKind.f64 a.hi, Value.float FloatKind.f64 a.hi] := by rw [← hV, ← hg]; exact (Blk.new_at _ _ _ rfl).alloc _
 have O1 : Blk V (g + 1) 22 #[Value.float FloatKind.f64 b.lo, Value.float FloatKind.f64 b.hi, Value.float FloatKind.f64 b.lo, Value.float FloatKind.f64 b.hi] := by rw [← hV, ← hg]; exact Blk.new_at _ _ _ (by simp)
 have E0 := Lib.hid (hV ▸ Hd.alloc (Hd.alloc D2.out _) _ : Hd W (w.heap.size + 1 + 1) 24 2 V)
 rw [hg] at hz9
 have y0 : w.heap.size < g := by omega
 have y1 : w.heap.size + 1 < g := by omega
 have HS := Lib.hid (show ∀ w', Below V.heap.size V w' → (Below V.heap.size V w' ∧ w'.cell? ⟨g, 0, none⟩ = some (Value.float FloatKind.f64 a.lo) ∧ w'.cell? ⟨g, 1, none⟩ = some (Value.float FloatKind.f64 a.lo) ∧ w'.cell? ⟨g, 2, none⟩ = some (Value.float FloatKind.f64 a.hi) ∧ w'.cell? ⟨g, 3, none⟩ = some (Value.float FloatKind.f64 a.hi) ∧ w'.cell? ⟨g + 1, 0, none⟩ = some (Value.float FloatKind.f64 b.lo) ∧ w'.cell? ⟨g + 1, 1, none⟩ = some (Value.float FloatKind.f64 b.hi) ∧ w'.cell? ⟨g + 1, 2, none⟩ = some (Value.float FloatKind.f64 b.lo) ∧ w'.cell? ⟨g + 1, 3, none⟩ = some (Value.float FloatKind.f64 b.hi)) from fun w' h => ⟨h, (O0.below h O0.lt).cell 0, (O0.below h O0.lt).cell 1, (O0.below h O0.lt).cell 2, (O0.below h O0.lt).cell 3, (O1.below h O1.lt).cell 0, (O1.below h O1.lt).cell 1, (O1.below h O1.lt).cell 2, (O1.below h O1.lt).cell 3⟩)
 have O0' := Lib.hid O0
 have O1' := Lib.hid O1
 clear O0 O1
 go_wp2_with fail
 clear hV hg q0 q1 q2 q3 q4 q5 q6 q7
 go_loopw [5, 6, 9] (fun x y i wr => LR l0 l1 l2 l3 m0 m1 m2 m3 V x y i wr) (fun _ _ i _ => 4 - (intOf i).toNat)
 case atStart => exact ⟨Below.refl _ _, Or.inl ⟨rfl, rfl, rfl⟩⟩
 case round =>
   obtain ⟨hL, hk⟩ := hrel
   have hS := HS.out _ hL
   rcases hk with ⟨rfl, rfl, rfl⟩ | ⟨rfl, rfl, rfl⟩ | ⟨rfl, rfl, rfl⟩ | ⟨rfl, rfl, rfl⟩ | ⟨rfl, rfl, rfl⟩
   · obtain ⟨c, hc1, hc2⟩ := c0.out
     obtain ⟨e, he1, he2⟩ := s0.out
     have hc2 := Lib.hid hc2
     have he2 := Lib.hid he2
     go_wp2_with fail
     go_region_held3 (fun w' => Below V.heap.size V w' ∧ w'.cell? ⟨g, 0, none⟩ = some (Value.float FloatKind.f64 a.lo) ∧ w'.cell? ⟨g, 1, none⟩ = some (Value.float FloatKind.f64 a.lo) ∧ w'.cell? ⟨g, 2, none⟩ = some (Value.float FloatKind.f64 a.hi) ∧ w'.cell? ⟨g, 3, none⟩ = some (Value.float FloatKind.f64 a.hi) ∧ w'.cell? ⟨g + 1, 0, none⟩ = some (Value.float FloatKind.f64 b.lo) ∧ w'.cell? ⟨g + 1, 1, none⟩ = some (Value.float FloatKind.f64 b.hi) ∧ w'.cell? ⟨g + 1, 2, none⟩ = some (Value.float FloatKind.f64 b.lo) ∧ w'.cell? ⟨g + 1, 3, none⟩ = some (Value.float FloatKind.f64 b.hi))
       (exact HS.out _ (by first | exact (Below.refl _ _).drew | exact Below.drew (And.left (by assumption)) | exact below_step (And.left (by assumption)) hb | exact And.left (by assumption)))
       (first
         | ((go_simp; go_at_call 108; refine (C0.out _).mono ?_; rintro r w' ⟨rfl, hb⟩; dsimp only)))
     go_wp2_with fail
     go_region_held3 (fun w' => Below V.heap.size V w' ∧ w'.cell? ⟨g, 0, none⟩ = some (Value.float FloatKind.f64 a.lo) ∧ w'.cell? ⟨g, 1, none⟩ = some (Value.float FloatKind.f64 a.lo) ∧ w'.cell? ⟨g, 2, none⟩ = some (Value.float FloatKind.f64 a.hi) ∧ w'.cell? ⟨g, 3, none⟩ = some (Value.float FloatKind.f64 a.hi) ∧ w'.cell? ⟨g + 1, 0, none⟩ = some (Value.float FloatKind.f64 b.lo) ∧ w'.cell? ⟨g + 1, 1, none⟩ = some (Value.float FloatKind.f64 b.hi) ∧ w'.cell? ⟨g + 1, 2, none⟩ = some (Value.float FloatKind.f64 b.lo) ∧ w'.cell? ⟨g + 1, 3, none⟩ = some (Value.float FloatKind.f64 b.hi))
       (exact HS.out _ (by first | exact (Below.refl _ _).drew | exact Below.drew (And.left (by assumption)) | exact below_step (And.left (by assumption)) hb | exact And.left (by assumption)))
       (first
         | ((go_simp; go_at_call 108; refine (C1.out _).mono ?_; rintro r w' ⟨rfl, hb⟩; dsimp only)))
     have hL2 := And.left (by assumption)
     clear hL hS
     go_wp2_with fail
     all_goals
       go_roundw
       case rel => exact ⟨hL2, Or.inr (Or.inl ⟨by rw [hc2.out]; simp [*], by rw [he2.out]; simp [*], rfl⟩)⟩
       case measure => simp [intOf]
   · obtain ⟨c, hc1, hc2⟩ := c1.out
     obtain ⟨e, he1, he2⟩ := s1.out
     have hc2 := Lib.hid hc2
     have he2 := Lib.hid he2
     go_wp2_with fail
     go_region_held3 (fun w' => Below V.heap.size V w' ∧ w'.cell? ⟨g, 0, none⟩ = some (Value.float FloatKind.f64 a.lo) ∧ w'.cell? ⟨g, 1, none⟩ = some (Value.float FloatKind.f64 a.lo) ∧ w'.cell? ⟨g, 2, none⟩ = some (Value.float FloatKind.f64 a.hi) ∧ w'.cell? ⟨g, 3, none⟩ = some (Value.float FloatKind.f64 a.hi) ∧ w'.cell? ⟨g + 1, 0, none⟩ = some (Value.float FloatKind.f64 b.lo) ∧ w'.cell? ⟨g + 1, 1, none⟩ = some (Value.float FloatKind.f64 b.hi) ∧ w'.cell? ⟨g + 1, 2, none⟩ = some (Value.float FloatKind.f64 b.lo) ∧ w'.cell? ⟨g + 1, 3, none⟩ = some (Value.float FloatKind.f64 b.hi))
       (exact HS.out _ (by first | exact (Below.refl _ _).drew | exact Below.drew (And.left (by assumption)) | exact below_step (And.left (by assumption)) hb | exact And.left (by assumption)))
       (first
         | ((go_simp; go_at_call 108; refine (C2.out _).mono ?_; rintro r w' ⟨rfl, hb⟩; dsimp only)))
     go_wp2_with fail
     go_region_held3 (fun w' => Below V.heap.size V w' ∧ w'.cell? ⟨g, 0, none⟩ = some (Value.float FloatKind.f64 a.lo) ∧ w'.cell? ⟨g, 1, none⟩ = some (Value.float FloatKind.f64 a.lo) ∧ w'.cell? ⟨g, 2, none⟩ = some (Value.float FloatKind.f64 a.hi) ∧ w'.cell? ⟨g, 3, none⟩ = some (Value.float FloatKind.f64 a.hi) ∧ w'.cell? ⟨g + 1, 0, none⟩ = some (Value.float FloatKind.f64 b.lo) ∧ w'.cell? ⟨g + 1, 1, none⟩ = some (Value.float FloatKind.f64 b.hi) ∧ w'.cell? ⟨g + 1, 2, none⟩ = some (Value.float FloatKind.f64 b.lo) ∧ w'.cell? ⟨g + 1, 3, none⟩ = some (Value.float FloatKind.f64 b.hi))
       (exact HS.out _ (by first | exact (Below.refl _ _).drew | exact Below.drew (And.left (by assumption)) | exact below_step (And.left (by assumption)) hb | exact And.left (by assumption)))
       (first
         | ((go_simp; go_at_call 108; refine (C3.out _).mono ?_; rintro r w' ⟨rfl, hb⟩; dsimp only)))
     have hL2 := And.left (by assumption)
     clear hL hS
     go_wp2_with fail
     all_goals
       go_roundw
       case rel => exact ⟨hL2, Or.inr (Or.inr (Or.inl ⟨by rw [hc2.out]; simp [*], by rw [he2.out]; simp [*], rfl⟩))⟩
       case measure => simp [intOf]
   · obtain ⟨c, hc1, hc2⟩ := c2.out
     obtain ⟨e, he1, he2⟩ := s2.out
     have hc2 := Lib.hid hc2
     have he2 := Lib.hid he2
     go_wp2_with fail
     go_region_held3 (fun w' => Below V.heap.size V w' ∧ w'.cell? ⟨g, 0, none⟩ = some (Value.float FloatKind.f64 a.lo) ∧ w'.cell? ⟨g, 1, none⟩ = some (Value.float FloatKind.f64 a.lo) ∧ w'.cell? ⟨g, 2, none⟩ = some (Value.float FloatKind.f64 a.hi) ∧ w'.cell? ⟨g, 3, none⟩ = some (Value.float FloatKind.f64 a.hi) ∧ w'.cell? ⟨g + 1, 0, none⟩ = some (Value.float FloatKind.f64 b.lo) ∧ w'.cell? ⟨g + 1, 1, none⟩ = some (Value.float FloatKind.f64 b.hi) ∧ w'.cell? ⟨g + 1, 2, none⟩ = some (Value.float FloatKind.f64 b.lo) ∧ w'.cell? ⟨g + 1, 3, none⟩ = some (Value.float FloatKind.f64 b.hi))
       (exact HS.out _ (by first | exact (Below.refl _ _).drew | exact Below.drew (And.left (by assumption)) | exact below_step (And.left (by assumption)) hb | exact And.left (by assumption)))
       (first
         | ((go_simp; go_at_call 108; refine (C4.out _).mono ?_; rintro r w' ⟨rfl, hb⟩; dsimp only)))
     go_wp2_with fail
     go_region_held3 (fun w' => Below V.heap.size V w' ∧ w'.cell? ⟨g, 0, none⟩ = some (Value.float FloatKind.f64 a.lo) ∧ w'.cell? ⟨g, 1, none⟩ = some (Value.float FloatKind.f64 a.lo) ∧ w'.cell? ⟨g, 2, none⟩ = some (Value.float FloatKind.f64 a.hi) ∧ w'.cell? ⟨g, 3, none⟩ = some (Value.float FloatKind.f64 a.hi) ∧ w'.cell? ⟨g + 1, 0, none⟩ = some (Value.float FloatKind.f64 b.lo) ∧ w'.cell? ⟨g + 1, 1, none⟩ = some (Value.float FloatKind.f64 b.hi) ∧ w'.cell? ⟨g + 1, 2, none⟩ = some (Value.float FloatKind.f64 b.lo) ∧ w'.cell? ⟨g + 1, 3, none⟩ = some (Value.float FloatKind.f64 b.hi))
       (exact HS.out _ (by first | exact (Below.refl _ _).drew | exact Below.drew (And.left (by assumption)) | exact below_step (And.left (by assumption)) hb | exact And.left (by assumption)))
       (first
         | ((go_simp; go_at_call 108; refine (C5.out _).mono ?_; rintro r w' ⟨rfl, hb⟩; dsimp only)))
     have hL2 := And.left (by assumption)
     clear hL hS
     go_wp2_with fail
     all_goals
       go_roundw
       case rel => exact ⟨hL2, Or.inr (Or.inr (Or.inr (Or.inl ⟨by rw [hc2.out]; simp [*], by rw [he2.out]; simp [*], rfl⟩)))⟩
       case measure => simp [intOf]
   · obtain ⟨c, hc1, hc2⟩ := c3.out
     obtain ⟨e, he1, he2⟩ := s3.out
     have hc2 := Lib.hid hc2
     have he2 := Lib.hid he2
     go_wp2_with fail
     go_region_held3 (fun w' => Below V.heap.size V w' ∧ w'.cell? ⟨g, 0, none⟩ = some (Value.float FloatKind.f64 a.lo) ∧ w'.cell? ⟨g, 1, none⟩ = some (Value.float FloatKind.f64 a.lo) ∧ w'.cell? ⟨g, 2, none⟩ = some (Value.float FloatKind.f64 a.hi) ∧ w'.cell? ⟨g, 3, none⟩ = some (Value.float FloatKind.f64 a.hi) ∧ w'.cell? ⟨g + 1, 0, none⟩ = some (Value.float FloatKind.f64 b.lo) ∧ w'.cell? ⟨g + 1, 1, none⟩ = some (Value.float FloatKind.f64 b.hi) ∧ w'.cell? ⟨g + 1, 2, none⟩ = some (Value.float FloatKind.f64 b.lo) ∧ w'.cell? ⟨g + 1, 3, none⟩ = some (Value.float FloatKind.f64 b.hi))
       (exact HS.out _ (by first | exact (Below.refl _ _).drew | exact Below.drew (And.left (by assumption)) | exact below_step (And.left (by assumption)) hb | exact And.left (by assumption)))
       (first
         | ((go_simp; go_at_call 108; refine (C6.out _).mono ?_; rintro r w' ⟨rfl, hb⟩; dsimp only)))
     go_wp2_with fail
     go_region_held3 (fun w' => Below V.heap.size V w' ∧ w'.cell? ⟨g, 0, none⟩ = some (Value.float FloatKind.f64 a.lo) ∧ w'.cell? ⟨g, 1, none⟩ = some (Value.float FloatKind.f64 a.lo) ∧ w'.cell? ⟨g, 2, none⟩ = some (Value.float FloatKind.f64 a.hi) ∧ w'.cell? ⟨g, 3, none⟩ = some (Value.float FloatKind.f64 a.hi) ∧ w'.cell? ⟨g + 1, 0, none⟩ = some (Value.float FloatKind.f64 b.lo) ∧ w'.cell? ⟨g + 1, 1, none⟩ = some (Value.float FloatKind.f64 b.hi) ∧ w'.cell? ⟨g + 1, 2, none⟩ = some (Value.float FloatKind.f64 b.lo) ∧ w'.cell? ⟨g + 1, 3, none⟩ = some (Value.float FloatKind.f64 b.hi))
       (exact HS.out _ (by first | exact (Below.refl _ _).drew | exact Below.drew (And.left (by assumption)) | exact below_step (And.left (by assumption)) hb | exact And.left (by assumption)))
       (first
         | ((go_simp; go_at_call 108; refine (C7.out _).mono ?_; rintro r w' ⟨rfl, hb⟩; dsimp only)))
     have hL2 := And.left (by assumption)
     clear hL hS
     go_wp2_with fail
     all_goals
       go_roundw
       case rel => exact ⟨hL2, Or.inr (Or.inr (Or.inr (Or.inr (⟨by rw [hc2.out]; simp [*], by rw [he2.out]; simp [*], rfl⟩))))⟩
       case measure => simp [intOf]
   · obtain ⟨-, q0, q1, q2, q3, q4, q5, q6, q7⟩ := HO.out _ (Hd.call E0.out hL)
     go_wp2_with fail
     (try simp only [Exit.inBlock, Exit.then])
     have hF := Hd.set (Hd.set (Hd.call E0.out hL) 0 (.float .f64 l3)) 1 (.float .f64 m3)
     exact bodyPost_ret (resS rfl _ _ (w.heap.size + 1 + 1) (.float .f64 l3) (.float .f64 m3) rfl (Hd.wrote2 hF)) rfl ⟨rfl, Hd.below hF HB.out (by omega)⟩
theorem rdiv_off (a b : Sp) (h0 : (has0 b || a.wide || b.wide) = true) (w : World) : Calls Tryz.prog 73 #[.agg #[.float .f64 a.lo, .float .f64 a.hi], .agg #[.float .f64 b.lo, .float .f64 b.hi]] w fun r w' => r = .returned (.agg #[.float .f64 18442240474082181120, .float .f64 9218868437227405312]) ∧ Below w.heap.size w w' := by
 have H1 := Lib.hid (fun w => rwide_sp a w)
 have H3 := Lib.hid (fun w => rwide_sp b w)
 have H2 := Lib.hid (fun w => rall_below w)
 have B1 := le0_gd b.vd.l
 have B2 := ge0_gd b.vd.h
 have B3 : (decide (Z b.lo ≤ 0) = true ∧ decide (0 ≤ Z b.hi) = true) ∨ ((decide (Z b.lo ≤ 0) = false ∨ (decide (Z b.lo ≤ 0) = true ∧ decide (0 ≤ Z b.hi) = false)) ∧ (a.wide || b.wide) = true) := by
   unfold has0 at h0
   revert h0
   cases decide (Z b.lo ≤ 0) <;> cases decide (0 ≤ Z b.hi) <;> cases a.wide <;> cases b.wide <;> simp
 generalize decide (Z b.lo ≤ 0) = p1 at *
 generalize decide (0 ≤ Z b.hi) = p2 at *
 generalize a.wide = p3 at *
 generalize b.wide = p4 at *
 clear h0
 go_enter Tryz.func73, Tryz.ntmps73
 go_upto_region 1 with fail
 obtain ⟨W, hW, K0, K1, K2, hB, hz⟩ := box3 w 24 24 24 #[Value.float FloatKind.f64 a.lo, Value.float FloatKind.f64 a.hi] #[Value.float FloatKind.f64 b.lo, Value.float FloatKind.f64 b.hi] #[Value.float FloatKind.f64 0, Value.float FloatKind.f64 0]
 rw [← hW]
 have K0 := Lib.hid K0
 have K1 := Lib.hid K1
 have K2 := Lib.hid K2
 have HB := Lib.hid hB
 clear hW hB hz
 have HO := Lib.hid (show ∀ w', Hd W (w.heap.size + 1 + 1) 24 2 w' → (Hd W (w.heap.size + 1 + 1) 24 2 w' ∧ w'.cell? ⟨w.heap.size, 0, none⟩ = some (Value.float FloatKind.f64 a.lo) ∧ w'.cell? ⟨w.heap.size, 1, none⟩ = some (Value.float FloatKind.f64 a.hi) ∧ w'.cell? ⟨w.heap.size + 1, 0, none⟩ = some (Value.float FloatKind.f64 b.lo) ∧ w'.cell? ⟨w.heap.size + 1, 1, none⟩ = some (Value.float FloatKind.f64 b.hi) ∧ w'.cell? ⟨w.heap.size + 1 + 1, 0, none⟩ = some (cellAt w' ⟨w.heap.size + 1 + 1, 0, none⟩) ∧ w'.frozen? ⟨w.heap.size + 1 + 1, 0, none⟩ = false ∧ w'.cell? ⟨w.heap.size + 1 + 1, 1, none⟩ = some (cellAt w' ⟨w.heap.size + 1 + 1, 1, none⟩) ∧ w'.frozen? ⟨w.heap.size + 1 + 1, 1, none⟩ = false) from fun w' h => ⟨h, (h.blk K0.out (by omega)).cell 0, (h.blk K0.out (by omega)).cell 1, (h.blk K1.out (by omega)).cell 0, (h.blk K1.out (by omega)).cell 1, (h.at_ 0 (by decide)).1, (h.at_ 0 (by decide)).2, (h.at_ 1 (by decide)).1, (h.at_ 1 (by decide)).2⟩)
 have D0 := Lib.hid (show Hd W (w.heap.size + 1 + 1) 24 2 W from Hd.start K2.out)
 obtain ⟨-, q0, q1, q2, q3, q4, q5, q6, q7⟩ := HO.out _ D0.out
 have z0 := Hd.lt D0.out
 go_cut [29] (fun s wx => s = .bool true ∧ Hd W (w.heap.size + 1 + 1) 24 2 wx)
 case first =>
   rcases B3 with ⟨rfl, rfl⟩ | ⟨rfl | ⟨rfl, rfl⟩, hw⟩
   · go_wp2_with fail
     go_meet
     exact ⟨rfl, D0.out⟩
   · cases p3
     · rw [Bool.false_or] at hw
       subst hw
       go_wp2_with fail
       refine (H1.out _).mono ?_
       rintro r w1 ⟨rfl, hb⟩
       have D1 := Lib.hid (Hd.call D0.out hb)
       clear hb q0 q1 q2 q3 q4 q5 q6 q7
       obtain ⟨-, q0, q1, q2, q3, q4, q5, q6, q7⟩ := HO.out _ D1.out
       have z1 := Hd.lt D1.out
       go_wp2_with fail
       refine (H3.out _).mono ?_
       rintro r w2 ⟨rfl, hb⟩
       have D2 := Lib.hid (Hd.call D1.out hb)
       clear hb
       clear q0 q1 q2 q3 q4 q5 q6 q7
       obtain ⟨-, q0, q1, q2, q3, q4, q5, q6, q7⟩ := HO.out _ D2.out
       have z2 := Hd.lt D2.out
       go_wp2_with fail
       go_meet
       exact ⟨rfl, D2.out⟩
     · clear hw
       go_wp2_with fail
       refine (H1.out _).mono ?_
       rintro r w1 ⟨rfl, hb⟩
       have D1 := Lib.hid (Hd.call D0.out hb)
       clear hb q0 q1 q2 q3 q4 q5 q6 q7
       obtain ⟨-, q0, q1, q2, q3, q4, q5, q6, q7⟩ := HO.out _ D1.out
       have z1 := Hd.lt D1.out
       go_wp2_with fail
       go_meet
       exact ⟨rfl, D1.out⟩
   · cases p3
     · rw [Bool.false_or] at hw
       subst hw
       go_wp2_with fail
       refine (H1.out _).mono ?_
       rintro r w1 ⟨rfl, hb⟩
       have D1 := Lib.hid (Hd.call D0.out hb)
       clear hb q0 q1 q2 q3 q4 q5 q6 q7
       obtain ⟨-, q0, q1, q2, q3, q4, q5, q6, q7⟩ := HO.out _ D1.out
       have z1 := Hd.lt D1.out
       go_wp2_with fail
       refine (H3.out _).mono ?_
       rintro r w2 ⟨rfl, hb⟩
       have D2 := Lib.hid (Hd.call D1.out hb)
       clear hb
       clear q0 q1 q2 q3 q4 q5 q6 q7
       obtain ⟨-, q0, q1, q2, q3, q4, q5, q6, q7⟩ := HO.out _ D2.out
       have z2 := Hd.lt D2.out
       go_wp2_with fail
       go_meet
       exact ⟨rfl, D2.out⟩
     · clear hw
       go_wp2_with fail
       refine (H1.out _).mono ?_
       rintro r w1 ⟨rfl, hb⟩
       have D1 := Lib.hid (Hd.call D0.out hb)
       clear hb q0 q1 q2 q3 q4 q5 q6 q7
       obtain ⟨-, q0, q1, q2, q3, q4, q5, q6, q7⟩ := HO.out _ D1.out
       have z1 := Hd.lt D1.out
       go_wp2_with fail
       go_meet
       exact ⟨rfl, D1.out⟩
 obtain ⟨rfl, hD⟩ := hcut
 have D1 := Lib.hid hD
 clear hD
 clear q0 q1 q2 q3 q4 q5 q6 q7
 obtain ⟨-, q0, q1, q2, q3, q4, q5, q6, q7⟩ := HO.out _ D1.out
 have z1 := Hd.lt D1.out
 go_wp2_with fail
 refine (H2.out _).mono ?_
 rintro r w2 ⟨rfl, hb⟩
 have D2 := Lib.hid (Hd.call D1.out hb)
 clear hb
 clear q0 q1 q2 q3 q4 q5 q6 q7
 obtain ⟨-, q0, q1, q2, q3, q4, q5, q6, q7⟩ := HO.out _ D2.out
 have z2 := Hd.lt D2.out
 go_wp2_with fail
 (try simp only [Exit.inBlock, Exit.then])
 have hF := (Hd.set (Hd.set D2.out 0 (.float .f64 18442240474082181120)) 1 (.float .f64 9218868437227405312))
 exact bodyPost_ret (resS rfl _ _ (w.heap.size + 1 + 1) (.float .f64 18442240474082181120) (.float .f64 9218868437227405312) rfl (Hd.wrote2 hF)) rfl ⟨rfl, Hd.below hF HB.out (by omega)⟩
theorem rdiv_sp (a b : Sp) (w : World) : Calls Tryz.prog 73 #[.agg #[.float .f64 a.lo, .float .f64 a.hi], .agg #[.float .f64 b.lo, .float .f64 b.hi]] w fun r w' => r = .returned (.agg #[.float .f64 (divS a b).lo, .float .f64 (divS a b).hi]) ∧ Below w.heap.size w w' := by
 unfold divS
 by_cases hw : (has0 b || a.wide || b.wide) = false
 · rw [dif_pos hw]
   exact rdiv_on a b hw w
 · rw [dif_neg hw]
   exact rdiv_off a b (by revert hw; cases (has0 b || a.wide || b.wide) <;> simp) w
end Go.Proofs.YtnljfcebmgifdaaGreat
set_option linter.unusedVariables false
set_option linter.unusedSimpArgs false
namespace Go.Proofs.YtnljfcebmgifdaaGreat
open Go.RowKit Fl
theorem sqrt0 : (sqrtR 0 true).1 = 0 := sqrt_zero (by decide) (by decide) true
theorem rsqr_w (a : Sp) (h : a.wide = true) (w : World) : Calls Tryz.prog 76 #[.agg #[.float .f64 a.lo, .float .f64 a.hi]] w fun r w' => r = .returned (.agg #[.float .f64 0, .float .f64 9218868437227405312]) ∧ Below w.heap.size w w' := by
 have H1 := Lib.hid (fun w => rwide_sp a w)
 have I := Lib.hid (fun w => rall_below w)
 rw [h] at H1
 clear h
 go_enter Tryz.func76, Tryz.ntmps76
 go_wp2_with fail
 obtain ⟨W, hW, K0, K1, hB, hz⟩ := box2 w 24 24 #[Value.float FloatKind.f64 a.lo, Value.float FloatKind.f64 a.hi] #[Value.float FloatKind.f64 0, Value.float FloatKind.f64 0]
 rw [← hW]
 have K0 := Lib.hid K0
 have K1 := Lib.hid K1
 have HB := Lib.hid hB
 clear hW hB hz
 have HO := Lib.hid (show ∀ w', Hd W (w.heap.size + 1) 24 2 w' → (Hd W (w.heap.size + 1) 24 2 w' ∧ w'.cell? ⟨w.heap.size, 0, none⟩ = some (Value.float FloatKind.f64 a.lo) ∧ w'.cell? ⟨w.heap.size, 1, none⟩ = some (Value.float FloatKind.f64 a.hi) ∧ w'.cell? ⟨w.heap.size + 1, 0, none⟩ = some (cellAt w' ⟨w.heap.size + 1, 0, none⟩) ∧ w'.frozen? ⟨w.heap.size + 1, 0, none⟩ = false ∧ w'.cell? ⟨w.heap.size + 1, 1, none⟩ = some (cellAt w' ⟨w.heap.size + 1, 1, none⟩) ∧ w'.frozen? ⟨w.heap.size + 1, 1, none⟩ = false) from fun w' h => ⟨h, (h.blk K0.out (by omega)).cell 0, (h.blk K0.out (by omega)).cell 1, (h.at_ 0 (by decide)).1, (h.at_ 0 (by decide)).2, (h.at_ 1 (by decide)).1, (h.at_ 1 (by decide)).2⟩)
 have D0 := Lib.hid (show Hd W (w.heap.size + 1) 24 2 W from Hd.start K1.out)
 refine (H1.out _).mono ?_
 rintro r w1 ⟨rfl, hb⟩
 have D1 := Lib.hid (Hd.call D0.out hb)
 clear hb
 obtain ⟨-, q0, q1, q2, q3, q4, q5⟩ := HO.out _ D1.out
 have z1 := Hd.lt D1.out
 go_wp2_with fail
 refine (I.out _).mono ?_
 rintro r w2 ⟨rfl, hb⟩
 have D2 := Lib.hid (Hd.call D1.out hb)
 clear hb
 clear q0 q1 q2 q3 q4 q5
 obtain ⟨-, q0, q1, q2, q3, q4, q5⟩ := HO.out _ D2.out
 have z2 := Hd.lt D2.out
 go_wp2_with fail
 (try simp only [Exit.inBlock, Exit.then])
 have hF := (Hd.set (Hd.set D2.out 0 (.float .f64 0)) 1 (.float .f64 9218868437227405312))
 exact bodyPost_ret (resS rfl _ _ (w.heap.size + 1) (.float .f64 0) (.float .f64 9218868437227405312) rfl (Hd.wrote2 hF)) rfl ⟨rfl, Hd.below hF HB.out (by omega)⟩
theorem rsqr_h (a : Sp) (h : a.wide = false) (k : has0 a = true) (w : World) : Calls Tryz.prog 76 #[.agg #[.float .f64 a.lo, .float .f64 a.hi]] w fun r w' => r = .returned (.agg #[.float .f64 0, .float .f64 (mulS a a).hi]) ∧ Below w.heap.size w w' := by
 have H1 := Lib.hid (fun w => rwide_sp a w)
 have H2 := Lib.hid (fun w => rmul_sp a a w)
 rw [h] at H1
 have B1 := le0_gd a.vd.l
 have B2 := ge0_gd a.vd.h
 have B3 : decide (Z a.lo ≤ 0) = true ∧ decide (0 ≤ Z a.hi) = true := by unfold has0 at k; simpa using k
 generalize decide (Z a.lo ≤ 0) = p1 at *
 generalize decide (0 ≤ Z a.hi) = p2 at *
 generalize mulS a a = s at *
 clear h k
 obtain ⟨rfl, rfl⟩ := B3
 go_enter Tryz.func76, Tryz.ntmps76
 go_wp2_with fail
 obtain ⟨W, hW, K0, K1, hB, hz⟩ := box2 w 24 24 #[Value.float FloatKind.f64 a.lo, Value.float FloatKind.f64 a.hi] #[Value.float FloatKind.f64 0, Value.float FloatKind.f64 0]
 rw [← hW]
 have K0 := Lib.hid K0
 have K1 := Lib.hid K1
 have HB := Lib.hid hB
 clear hW hB hz
 have HO := Lib.hid (show ∀ w', Hd W (w.heap.size + 1) 24 2 w' → (Hd W (w.heap.size + 1) 24 2 w' ∧ w'.cell? ⟨w.heap.size, 0, none⟩ = some (Value.float FloatKind.f64 a.lo) ∧ w'.cell? ⟨w.heap.size, 1, none⟩ = some (Value.float FloatKind.f64 a.hi) ∧ w'.cell? ⟨w.heap.size + 1, 0, none⟩ = some (cellAt w' ⟨w.heap.size + 1, 0, none⟩) ∧ w'.frozen? ⟨w.heap.size + 1, 0, none⟩ = false ∧ w'.cell? ⟨w.heap.size + 1, 1, none⟩ = some (cellAt w' ⟨w.heap.size + 1, 1, none⟩) ∧ w'.frozen? ⟨w.heap.size + 1, 1, none⟩ = false) from fun w' h => ⟨h, (h.blk K0.out (by omega)).cell 0, (h.blk K0.out (by omega)).cell 1, (h.at_ 0 (by decide)).1, (h.at_ 0 (by decide)).2, (h.at_ 1 (by decide)).1, (h.at_ 1 (by decide)).2⟩)
 have D0 := Lib.hid (show Hd W (w.heap.size + 1) 24 2 W from Hd.start K1.out)
 refine (H1.out _).mono ?_
 rintro r w1 ⟨rfl, hb⟩
 have D1 := Lib.hid (Hd.call D0.out hb)
 clear hb
 obtain ⟨-, q0, q1, q2, q3, q4, q5⟩ := HO.out _ D1.out
 have z1 := Hd.lt D1.out
 go_wp2_with fail
 refine (H2.out _).mono ?_
 rintro r w2 ⟨rfl, hb⟩
 have D2 := Lib.hid (Hd.call D1.out hb)
 clear hb
 clear q0 q1 q2 q3 q4 q5
 obtain ⟨-, q0, q1, q2, q3, q4, q5⟩ := HO.out _ D2.out
 have z2 := Hd.lt D2.out
 have hz9 := z2
 have y0 : w.heap.size < w2.heap.size := by omega
 obtain ⟨g, hg⟩ : ∃ g, w2.heap.size = g := ⟨_, rfl⟩
 obtain ⟨V, hV⟩ : ∃ V, w2.alloc (.cells #[Value.float FloatKind.f64 s.lo, Value.float FloatKind.f64 s.hi] 24) = V := ⟨_, rfl⟩
 have O0 : Blk V g 24 #[Value.float FloatKind.f64 s.lo, Value.float FloatKind.f64 s.hi] := by rw [← hV, ← hg]; exact Blk.new_at _ _ _ rfl
 have E0 := Lib.hid (hV ▸ Hd.alloc D2.out _ : Hd W (w.heap.size + 1) 24 2 V)
 rw [hg] at hz9 y0
 obtain ⟨o0, o1, o2, o3⟩ := O0.both
 clear q0 q1 q2 q3 q4 q5 z2
 obtain ⟨-, q0, q1, q2, q3, q4, q5⟩ := HO.out _ E0.out
 have O0' := Lib.hid O0
 clear O0
 obtain ⟨V1, hV1⟩ : ∃ V1, V.setCell ⟨g, 0, none⟩ (.float .f64 0) = V1 := ⟨_, rfl⟩
 have O1 := (hV1 ▸ Blk.set_ O0'.out 0 _ : Blk V1 g 24 #[.float .f64 0, .float .f64 s.hi])
 have E1 := Lib.hid (hV1 ▸ Hd.far E0.out (by omega) 0 _ : Hd W (w.heap.size + 1) 24 2 V1)
 obtain ⟨r0, r1, r2, r3⟩ := O1.both
 obtain ⟨-, p0, p1, p2, p3, p4, p5⟩ := HO.out _ E1.out
 go_wp2_with fail
 (try simp only [Exit.inBlock, Exit.then])
 have hF := Hd.set (Hd.set E1.out 0 (.float .f64 0)) 1 (.float .f64 s.hi)
 exact bodyPost_ret (resS rfl _ _ (w.heap.size + 1) (.float .f64 0) (.float .f64 s.hi) rfl (Hd.wrote2 hF)) rfl ⟨rfl, Hd.below hF HB.out (by omega)⟩
theorem rsqr_n (a : Sp) (h : a.wide = false) (k : has0 a = false) (w : World) : Calls Tryz.prog 76 #[.agg #[.float .f64 a.lo, .float .f64 a.hi]] w fun r w' => r = .returned (.agg #[.float .f64 (mulS a a).lo, .float .f64 (mulS a a).hi]) ∧ Below w.heap.size w w' := by
 have H1 := Lib.hid (fun w => rwide_sp a w)
 have H2 := Lib.hid (fun w => rmul_sp a a w)
 rw [h] at H1
 have B1 := le0_gd a.vd.l
 have B2 := ge0_gd a.vd.h
 have B3 : (decide (Z a.lo ≤ 0) = false) ∨ (decide (Z a.lo ≤ 0) = true ∧ decide (0 ≤ Z a.hi) = false) := by
   unfold has0 at k
   cases p : decide (Z a.lo ≤ 0)
   · exact Or.inl rfl
   · rw [p, Bool.true_and] at k
     exact Or.inr ⟨rfl, k⟩
 generalize decide (Z a.lo ≤ 0) = p1 at *
 generalize decide (0 ≤ Z a.hi) = p2 at *
 generalize mulS a a = s at *
 clear h k
 rcases B3 with rfl | ⟨rfl, rfl⟩
 all_goals
   go_enter Tryz.func76, Tryz.ntmps76
   go_wp2_with fail
   obtain ⟨W, hW, K0, K1, hB, hz⟩ := box2 w 24 24 #[Value.float FloatKind.f64 a.lo, Value.float FloatKind.f64 a.hi] #[Value.float FloatKind.f64 0, Value.float FloatKind.f64 0]
   rw [← hW]
   have K0 := Lib.hid K0
   have K1 := Lib.hid K1
   have HB := Lib.hid hB
   clear hW hB hz
   have HO := Lib.hid (show ∀ w', Hd W (w.heap.size + 1) 24 2 w' → (Hd W (w.heap.size + 1) 24 2 w' ∧ w'.cell? ⟨w.heap.size, 0, none⟩ = some (Value.float FloatKind.f64 a.lo) ∧ w'.cell? ⟨w.heap.size, 1, none⟩ = some (Value.float FloatKind.f64 a.hi) ∧ w'.cell? ⟨w.heap.size + 1, 0, none⟩ = some (cellAt w' ⟨w.heap.size + 1, 0, none⟩) ∧ w'.frozen? ⟨w.heap.size + 1, 0, none⟩ = false ∧ w'.cell? ⟨w.heap.size + 1, 1, none⟩ = some (cellAt w' ⟨w.heap.size + 1, 1, none⟩) ∧ w'.frozen? ⟨w.heap.size + 1, 1, none⟩ = false) from fun w' h => ⟨h, (h.blk K0.out (by omega)).cell 0, (h.blk K0.out (by omega)).cell 1, (h.at_ 0 (by decide)).1, (h.at_ 0 (by decide)).2, (h.at_ 1 (by decide)).1, (h.at_ 1 (by decide)).2⟩)
   have D0 := Lib.hid (show Hd W (w.heap.size + 1) 24 2 W from Hd.start K1.out)
   refine (H1.out _).mono ?_
   rintro r w1 ⟨rfl, hb⟩
   have D1 := Lib.hid (Hd.call D0.out hb)
   clear hb
   obtain ⟨-, q0, q1, q2, q3, q4, q5⟩ := HO.out _ D1.out
   have z1 := Hd.lt D1.out
   go_wp2_with fail
   refine (H2.out _).mono ?_
   rintro r w2 ⟨rfl, hb⟩
   have D2 := Lib.hid (Hd.call D1.out hb)
   clear hb
   clear q0 q1 q2 q3 q4 q5
   obtain ⟨-, q0, q1, q2, q3, q4, q5⟩ := HO.out _ D2.out
   have z2 := Hd.lt D2.out
   have hz9 := z2
   have y0 : w.heap.size < w2.heap.size := by omega
   obtain ⟨g, hg⟩ : ∃ g, w2.heap.size = g := ⟨_, rfl⟩
   obtain ⟨V, hV⟩ : ∃ V, w2.alloc (.cells #[Value.float FloatKind.f64 s.lo, Value.float FloatKind.f64 s.hi] 24) = V := ⟨_, rfl⟩
   have O0 : Blk V g 24 #[Value.float FloatKind.f64 s.lo, Value.float FloatKind.f64 s.hi] := by rw [← hV, ← hg]; exact Blk.new_at _ _ _ rfl
   have E0 := Lib.hid (hV ▸ Hd.alloc D2.out _ : Hd W (w.heap.size + 1) 24 2 V)
   rw [hg] at hz9 y0
   obtain ⟨o0, o1, o2, o3⟩ := O0.both
   clear q0 q1 q2 q3 q4 q5 z2
   obtain ⟨-, q0, q1, q2, q3, q4, q5⟩ := HO.out _ E0.out
   have O0' := Lib.hid O0
   clear O0
   go_wp2_with fail
   (try simp only [Exit.inBlock, Exit.then])
   have hF := Hd.set (Hd.set E0.out 0 (.float .f64 s.lo)) 1 (.float .f64 s.hi)
   exact bodyPost_ret (resS rfl _ _ (w.heap.size + 1) (.float .f64 s.lo) (.float .f64 s.hi) rfl (Hd.wrote2 hF)) rfl ⟨rfl, Hd.below hF HB.out (by omega)⟩
theorem rsqr_sp (a : Sp) (w : World) : Calls Tryz.prog 76 #[.agg #[.float .f64 a.lo, .float .f64 a.hi]] w fun r w' => r = .returned (.agg #[.float .f64 (sqrS a).lo, .float .f64 (sqrS a).hi]) ∧ Below w.heap.size w w' := by
 cases h : a.wide
 · cases k : has0 a
   · rw [sqrS_not h k]; exact rsqr_n a h k w
   · rw [sqrS_has h k]; exact rsqr_h a h k w
 · rw [sqrS_wide h]; exact rsqr_w a h w
theorem rsqrt_neg (a : Sp) (h : Z a.hi < 0) (w : World) : Calls Tryz.prog 62 #[.agg #[.float .f64 a.lo, .float .f64 a.hi]] w fun r w' => r = .returned (.agg #[.float .f64 18442240474082181120, .float .f64 9218868437227405312]) ∧ Below w.heap.size w w' := by
 have B1 := lt0_gd a.vd.h
 rw [decide_eq_true h] at B1
 have H2 := Lib.hid (fun w => rall_below w)
 clear h
 go_enter Tryz.func62, Tryz.ntmps62
 go_wp2_with fail
 obtain ⟨W, hW, K0, K1, hB, hz⟩ := box2 w 24 24 #[Value.float FloatKind.f64 a.lo, Value.float FloatKind.f64 a.hi] #[Value.float FloatKind.f64 0, Value.float FloatKind.f64 0]
 rw [← hW]
 have K0 := Lib.hid K0
 have K1 := Lib.hid K1
 have HB := Lib.hid hB
 clear hW hB hz
 have HO := Lib.hid (show ∀ w', Hd W (w.heap.size + 1) 24 2 w' → (Hd W (w.heap.size + 1) 24 2 w' ∧ w'.cell? ⟨w.heap.size, 0, none⟩ = some (Value.float FloatKind.f64 a.lo) ∧ w'.cell? ⟨w.heap.size, 1, none⟩ = some (Value.float FloatKind.f64 a.hi) ∧ w'.cell? ⟨w.heap.size + 1, 0, none⟩ = some (cellAt w' ⟨w.heap.size + 1, 0, none⟩) ∧ w'.frozen? ⟨w.heap.size + 1, 0, none⟩ = false ∧ w'.cell? ⟨w.heap.size + 1, 1, none⟩ = some (cellAt w' ⟨w.heap.size + 1, 1, none⟩) ∧ w'.frozen? ⟨w.heap.size + 1, 1, none⟩ = false) from fun w' h => ⟨h, (h.blk K0.out (by omega)).cell 0, (h.blk K0.out (by omega)).cell 1, (h.at_ 0 (by decide)).1, (h.at_ 0 (by decide)).2, (h.at_ 1 (by decide)).1, (h.at_ 1 (by decide)).2⟩)
 have D0 := Lib.hid (show Hd W (w.heap.size + 1) 24 2 W from Hd.start K1.out)
 refine (H2.out _).mono ?_
 rintro r w1 ⟨rfl, hb⟩
 have D1 := Lib.hid (Hd.call D0.out hb)
 clear hb
 obtain ⟨-, q0, q1, q2, q3, q4, q5⟩ := HO.out _ D1.out
 have z1 := Hd.lt D1.out
 go_wp2_with fail
 (try simp only [Exit.inBlock, Exit.then])
 have hF := (Hd.set (Hd.set D1.out 0 (.float .f64 18442240474082181120)) 1 (.float .f64 9218868437227405312))
 exact bodyPost_ret (resS rfl _ _ (w.heap.size + 1) (.float .f64 18442240474082181120) (.float .f64 9218868437227405312) rfl (Hd.wrote2 hF)) rfl ⟨rfl, Hd.below hF HB.out (by omega)⟩
theorem rsqrt_w (a : Sp) (h : ¬ Z a.hi < 0) (k : a.wide = true) (w : World) : Calls Tryz.prog 62 #[.agg #[.float .f64 a.lo, .float .f64 a.hi]] w fun r w' => r = .returned (.agg #[.float .f64 18442240474082181120, .float .f64 9218868437227405312]) ∧ Below w.heap.size w w' := by
 have B1 := lt0_gd a.vd.h
 rw [decide_eq_false h] at B1
 have H1 := Lib.hid (fun w => rwide_sp a w)
 rw [k] at H1
 have H2 := Lib.hid (fun w => rall_below w)
 clear h k
 go_enter Tryz.func62, Tryz.ntmps62
 go_wp2_with fail
 obtain ⟨W, hW, K0, K1, hB, hz⟩ := box2 w 24 24 #[Value.float FloatKind.f64 a.lo, Value.float FloatKind.f64 a.hi] #[Value.float FloatKind.f64 0, Value.float FloatKind.f64 0]
 rw [← hW]
 have K0 := Lib.hid K0
 have K1 := Lib.hid K1
 have HB := Lib.hid hB
 clear hW hB hz
 have HO := Lib.hid (show ∀ w', Hd W (w.heap.size + 1) 24 2 w' → (Hd W (w.heap.size + 1) 24 2 w' ∧ w'.cell? ⟨w.heap.size, 0, none⟩ = some (Value.float FloatKind.f64 a.lo) ∧ w'.cell? ⟨w.heap.size, 1, none⟩ = some (Value.float FloatKind.f64 a.hi) ∧ w'.cell? ⟨w.heap.size + 1, 0, none⟩ = some (cellAt w' ⟨w.heap.size + 1, 0, none⟩) ∧ w'.frozen? ⟨w.heap.size + 1, 0, none⟩ = false ∧ w'.cell? ⟨w.heap.size + 1, 1, none⟩ = some (cellAt w' ⟨w.heap.size + 1, 1, none⟩) ∧ w'.frozen? ⟨w.heap.size + 1, 1, none⟩ = false) from fun w' h => ⟨h, (h.blk K0.out (by omega)).cell 0, (h.blk K0.out (by omega)).cell 1, (h.at_ 0 (by decide)).1, (h.at_ 0 (by decide)).2, (h.at_ 1 (by decide)).1, (h.at_ 1 (by decide)).2⟩)
 have D0 := Lib.hid (show Hd W (w.heap.size + 1) 24 2 W from Hd.start K1.out)
 refine (H1.out _).mono ?_
 rintro r w1 ⟨rfl, hb⟩
 have D1 := Lib.hid (Hd.call D0.out hb)
 clear hb
 obtain ⟨-, q0, q1, q2, q3, q4, q5⟩ := HO.out _ D1.out
 have z1 := Hd.lt D1.out
 go_wp2_with fail
 refine (H2.out _).mono ?_
 rintro r w2 ⟨rfl, hb⟩
 have D2 := Lib.hid (Hd.call D1.out hb)
 clear hb
 clear q0 q1 q2 q3 q4 q5
 obtain ⟨-, q0, q1, q2, q3, q4, q5⟩ := HO.out _ D2.out
 have z2 := Hd.lt D2.out
 go_wp2_with fail
 (try simp only [Exit.inBlock, Exit.then])
 have hF := (Hd.set (Hd.set D2.out 0 (.float .f64 18442240474082181120)) 1 (.float .f64 9218868437227405312))
 exact bodyPost_ret (resS rfl _ _ (w.heap.size + 1) (.float .f64 18442240474082181120) (.float .f64 9218868437227405312) rfl (Hd.wrote2 hF)) rfl ⟨rfl, Hd.below hF HB.out (by omega)⟩
theorem rsqrt_on1 (a : Sp) (h : ¬ Z a.hi < 0) (k : a.wide = false) (h0 : 0 < Z a.lo) (w : World) : Calls Tryz.prog 62 #[.agg #[.float .f64 a.lo, .float .f64 a.hi]] w fun r w' => r = .returned (.agg #[.float .f64 (sqrtR (mx a.lo 0) true).1, .float .f64 (sqrtR a.hi false).1]) ∧ Below w.heap.size w w' := by
 have B1 := lt0_gd a.vd.h
 rw [decide_eq_false h] at B1
 have H1 := Lib.hid (fun w => rwide_sp a w)
 rw [k] at H1
 have H3 := Lib.hid (fun w => rsqrt_any a.hi false a.vd.h.lt w)
 have B2 := gt0_gd a.vd.l
 rw [decide_eq_true h0] at B2
 have hm : mx a.lo 0 = a.lo := by unfold mx; rw [Z00, if_neg (by omega)]
 rw [hm]
 have H2 := Lib.hid (fun w => rsqrt_any a.lo true a.vd.l.lt w)
 obtain ⟨y, hy⟩ : ∃ y, y = sqrtR a.hi false := ⟨_, rfl⟩
 rw [← hy] at H3 ⊢
 obtain ⟨y1, y2⟩ := y
 clear hy
 unfold pV numV at H3
 dsimp only at H3 ⊢
 obtain ⟨x, hx⟩ : ∃ y, y = sqrtR a.lo true := ⟨_, rfl⟩
 rw [← hx] at H2 ⊢
 obtain ⟨x1, x2⟩ := x
 clear hx h k h0 hm
 unfold pV numV at H2
 dsimp only at H2 ⊢
 go_enter Tryz.func62, Tryz.ntmps62
 go_wp2_with fail
 obtain ⟨W, hW, K0, K1, hB, hz⟩ := box2 w 24 24 #[Value.float FloatKind.f64 a.lo, Value.float FloatKind.f64 a.hi] #[Value.float FloatKind.f64 0, Value.float FloatKind.f64 0]
 rw [← hW]
 have K0 := Lib.hid K0
 have K1 := Lib.hid K1
 have HB := Lib.hid hB
 clear hW hB hz
 have HO := Lib.hid (show ∀ w', Hd W (w.heap.size + 1) 24 2 w' → (Hd W (w.heap.size + 1) 24 2 w' ∧ w'.cell? ⟨w.heap.size, 0, none⟩ = some (Value.float FloatKind.f64 a.lo) ∧ w'.cell? ⟨w.heap.size, 1, none⟩ = some (Value.float FloatKind.f64 a.hi) ∧ w'.cell? ⟨w.heap.size + 1, 0, none⟩ = some (cellAt w' ⟨w.heap.size + 1, 0, none⟩) ∧ w'.frozen? ⟨w.heap.size + 1, 0, none⟩ = false ∧ w'.cell? ⟨w.heap.size + 1, 1, none⟩ = some (cellAt w' ⟨w.heap.size + 1, 1, none⟩) ∧ w'.frozen? ⟨w.heap.size + 1, 1, none⟩ = false) from fun w' h => ⟨h, (h.blk K0.out (by omega)).cell 0, (h.blk K0.out (by omega)).cell 1, (h.at_ 0 (by decide)).1, (h.at_ 0 (by decide)).2, (h.at_ 1 (by decide)).1, (h.at_ 1 (by decide)).2⟩)
 have D0 := Lib.hid (show Hd W (w.heap.size + 1) 24 2 W from Hd.start K1.out)
 refine (H1.out _).mono ?_
 rintro r w1 ⟨rfl, hb⟩
 have D1 := Lib.hid (Hd.call D0.out hb)
 clear hb
 obtain ⟨-, q0, q1, q2, q3, q4, q5⟩ := HO.out _ D1.out
 have z1 := Hd.lt D1.out
 go_wp2_with fail
 refine (H2.out _).mono ?_
 rintro r w2 ⟨rfl, hb⟩
 have D2 := Lib.hid (Hd.call D1.out hb)
 clear hb
 clear q0 q1 q2 q3 q4 q5
 obtain ⟨-, q0, q1, q2, q3, q4, q5⟩ := HO.out _ D2.out
 have z2 := Hd.lt D2.out
 go_wp2_with fail
 refine (H3.out _).mono ?_
 rintro r w3 ⟨rfl, hb⟩
 have D3 := Lib.hid (Hd.call D2.out hb)
 clear hb
 clear q0 q1 q2 q3 q4 q5
 obtain ⟨-, q0, q1, q2, q3, q4, q5⟩ := HO.out _ D3.out
 have z3 := Hd.lt D3.out
 go_wp2_with fail
 (try simp only [Exit.inBlock, Exit.then])
 have hF := (Hd.set (Hd.set D3.out 0 (.float .f64 x1)) 1 (.float .f64 y1))
 exact bodyPost_ret (resS rfl _ _ (w.heap.size + 1) (.float .f64 x1) (.float .f64 y1) rfl (Hd.wrote2 hF)) rfl ⟨rfl, Hd.below hF HB.out (by omega)⟩
theorem rsqrt_on0 (a : Sp) (h : ¬ Z a.hi < 0) (k : a.wide = false) (h0 : ¬ 0 < Z a.lo) (w : World) : Calls Tryz.prog 62 #[.agg #[.float .f64 a.lo, .float .f64 a.hi]] w fun r w' => r = .returned (.agg #[.float .f64 (sqrtR (mx a.lo 0) true).1, .float .f64 (sqrtR a.hi false).1]) ∧ Below w.heap.size w w' := by
 have B1 := lt0_gd a.vd.h
 rw [decide_eq_false h] at B1
 have H1 := Lib.hid (fun w => rwide_sp a w)
 rw [k] at H1
 have H3 := Lib.hid (fun w => rsqrt_any a.hi false a.vd.h.lt w)
 have B2 := gt0_gd a.vd.l
 rw [decide_eq_false h0] at B2
 have hm : mx a.lo 0 = 0 := (mx_gd a.vd.l gd0).inj gd0 (by rw [mx_Z, Z00]; omega)
 rw [hm, sqrt0]
 obtain ⟨y, hy⟩ : ∃ y, y = sqrtR a.hi false := ⟨_, rfl⟩
 rw [← hy] at H3 ⊢
 obtain ⟨y1, y2⟩ := y
 clear hy
 unfold pV numV at H3
 dsimp only at H3 ⊢
 clear h k h0 hm
 go_enter Tryz.func62, Tryz.ntmps62
 go_wp2_with fail
 obtain ⟨W, hW, K0, K1, hB, hz⟩ := box2 w 24 24 #[Value.float FloatKind.f64 a.lo, Value.float FloatKind.f64 a.hi] #[Value.float FloatKind.f64 0, Value.float FloatKind.f64 0]
 rw [← hW]
 have K0 := Lib.hid K0
 have K1 := Lib.hid K1
 have HB := Lib.hid hB
 clear hW hB hz
 have HO := Lib.hid (show ∀ w', Hd W (w.heap.size + 1) 24 2 w' → (Hd W (w.heap.size + 1) 24 2 w' ∧ w'.cell? ⟨w.heap.size, 0, none⟩ = some (Value.float FloatKind.f64 a.lo) ∧ w'.cell? ⟨w.heap.size, 1, none⟩ = some (Value.float FloatKind.f64 a.hi) ∧ w'.cell? ⟨w.heap.size + 1, 0, none⟩ = some (cellAt w' ⟨w.heap.size + 1, 0, none⟩) ∧ w'.frozen? ⟨w.heap.size + 1, 0, none⟩ = false ∧ w'.cell? ⟨w.heap.size + 1, 1, none⟩ = some (cellAt w' ⟨w.heap.size + 1, 1, none⟩) ∧ w'.frozen? ⟨w.heap.size + 1, 1, none⟩ = false) from fun w' h => ⟨h, (h.blk K0.out (by omega)).cell 0, (h.blk K0.out (by omega)).cell 1, (h.at_ 0 (by decide)).1, (h.at_ 0 (by decide)).2, (h.at_ 1 (by decide)).1, (h.at_ 1 (by decide)).2⟩)
 have D0 := Lib.hid (show Hd W (w.heap.size + 1) 24 2 W from Hd.start K1.out)
 refine (H1.out _).mono ?_
 rintro r w1 ⟨rfl, hb⟩
 have D1 := Lib.hid (Hd.call D0.out hb)
 clear hb
 obtain ⟨-, q0, q1, q2, q3, q4, q5⟩ := HO.out _ D1.out
 have z1 := Hd.lt D1.out
 go_wp2_with fail
 refine (H3.out _).mono ?_
 rintro r w2 ⟨rfl, hb⟩
 have D2 := Lib.hid (Hd.call D1.out hb)
 clear hb
 clear q0 q1 q2 q3 q4 q5
 obtain ⟨-, q0, q1, q2, q3, q4, q5⟩ := HO.out _ D2.out
 have z2 := Hd.lt D2.out
 go_wp2_with fail
 (try simp only [Exit.inBlock, Exit.then])
 have hF := (Hd.set (Hd.set D2.out 0 (.float .f64 0)) 1 (.float .f64 y1))
 exact bodyPost_ret (resS rfl _ _ (w.heap.size + 1) (.float .f64 0) (.float .f64 y1) rfl (Hd.wrote2 hF)) rfl ⟨rfl, Hd.below hF HB.out (by omega)⟩
theorem rsqrt_on (a : Sp) (h : ¬ Z a.hi < 0) (k : a.wide = false) (w : World) : Calls Tryz.prog 62 #[.agg #[.float .f64 a.lo, .float .f64 a.hi]] w fun r w' => r = .returned (.agg #[.float .f64 (sqrtR (mx a.lo 0) true).1, .float .f64 (sqrtR a.hi false).1]) ∧ Below w.heap.size w w' := by
 by_cases h0 : 0 < Z a.lo
 · exact rsqrt_on1 a h k h0 w
 · exact rsqrt_on0 a h k h0 w
theorem rsqrt_sp (a : Sp) (w : World) : Calls Tryz.prog 62 #[.agg #[.float .f64 a.lo, .float .f64 a.hi]] w fun r w' => r = .returned (.agg #[.float .f64 (sqrtS a).lo, .float .f64 (sqrtS a).hi]) ∧ Below w.heap.size w w' := by
 unfold sqrtS
 by_cases hw : a.wide = false ∧ 0 ≤ Z a.hi
 · rw [dif_pos hw]
   exact rsqrt_on a (by omega) hw.1 w
 · rw [dif_neg hw]
   by_cases h : Z a.hi < 0
   · exact rsqrt_neg a h w
   · have k : a.wide = true := by
       cases e : a.wide
       · exact absurd ⟨e, by omega⟩ hw
       · rfl
     exact rsqrt_w a h k w
end Go.Proofs.YtnljfcebmgifdaaGreat
namespace Go.Proofs.YtnljfcebmgifdaaGreat
open Go.RowKit Fl
theorem rpos_sp (a : Sp) (w : World) : Calls Tryz.prog 71 #[.agg #[.float .f64 a.lo, .float .f64 a.hi]] w fun r w' => r = .returned (.int .i64 (posS a : Nat)) ∧ Below w.heap.size w w' := by
 refine (rpositive_any a.lo a.hi _ _ (gt0_gd a.vd.l) (le0_gd a.vd.h) w).mono ?_
 rintro _ _ ⟨rfl, o, rfl⟩
 refine ⟨?_, below_new w o⟩
 unfold posS
 by_cases h1 : 0 < Z a.lo
 · simp [h1]
 · by_cases h2 : Z a.hi ≤ 0 <;> simp [h1, h2]
theorem rmax_sp (a b : Sp) (w : World) : Calls Tryz.prog 78 #[.agg #[.float .f64 a.lo, .float .f64 a.hi], .agg #[.float .f64 b.lo, .float .f64 b.hi]] w fun r w' => r = .returned (.agg #[.float .f64 (maxS a b).lo, .float .f64 (maxS a b).hi]) ∧ Below w.heap.size w w' :=
 (rmax_any a.vd.l a.vd.h b.vd.l b.vd.h w).mono fun _ _ ⟨h, o, o', o2, k, e⟩ => ⟨h, e ▸ below_drewN (below_new3 w o o' o2) k⟩
end Go.Proofs.YtnljfcebmgifdaaGreat
namespace Go.Proofs.YtnljfcebmgifdaaGreat
open Go.RowKit Fl
end Go.Proofs.YtnljfcebmgifdaaGreat
namespace Go.Proofs.YtnljfcebmgifdaaGreat
open Go.RowKit Fl
end Go.Proofs.YtnljfcebmgifdaaGreat
namespace Go.Proofs.YtnljfcebmgifdaaGreat
open Go.RowKit Fl
end Go.Proofs.YtnljfcebmgifdaaGreat
namespace Go.Proofs.YtnljfcebmgifdaaGreat
open Go.RowKit Fl
end Go.Proofs.YtnljfcebmgifdaaGreat
set_option linter.unusedVariables false
set_option linter.unusedSimpArgs false
namespace Go.Proofs.YtnljfcebmgifdaaGreat
open Fl
def frQ (n : V3) : Nat := if posS (negS n.z) = 2 then 2 else 1
end Go.Proofs.YtnljfcebmgifdaaGreat
set_option linter.unusedVariables false
set_option linter.unusedSimpArgs false
namespace Go.Proofs.YtnljfcebmgifdaaGreat
open Fl
theorem sq_inj {x y : Int} (hx : 0 ≤ x) (hy : 0 ≤ y) (h : x * x ≤ y * y) : x ≤ y := by
 apply Int.le_of_not_gt
 intro k
 have h5 : y * y < x * x := Int.lt_of_le_of_lt (Int.mul_le_mul_of_nonneg_left (Int.le_of_lt k) hy) (Int.mul_lt_mul_of_pos_right k (by omega))
 omega
theorem root_is {a b : Nat} (fa : fin a = true) (gb : Gd b) (bp : b ≠ PI) (bn : b ≠ NI) (ha : 0 ≤ Z a) (hb : 0 ≤ Z b) (h : Z b * Z b = Z a * (2 ^ BB : Nat)) : (sqrtR a true).1 = b ∧ (sqrtR a false).1 = b := by
 have d := sqrt_dn fa ha
 have u := sqrt_up fa ha
 constructor
 · refine d.gd.inj gb (Int.le_antisymm (sq_inj d.nn hb (by rw [h]; exact d.lo)) (d.gr b gb bp (by rw [h]; exact Int.le_refl _)))
 · refine u.gd.inj gb (Int.le_antisymm (u.le b gb hb (Or.inr (by rw [h]; exact Int.le_refl _))) ?_)
   rcases u.hi with e | e
   · rw [e, Z_PI]; exact (Z_range gb.nn).2
   · exact sq_inj hb u.nn (by rw [h]; exact e)
theorem sqrtS_of {q s : Sp} (w : q.wide = false) (h : 0 ≤ Z q.hi) (e1 : (sqrtR (mx q.lo 0) true).1 = s.lo) (e2 : (sqrtR q.hi false).1 = s.hi) : sqrtS q = s := by
 unfold sqrtS
 rw [dif_pos ⟨w, h⟩]
 exact Sp.ext e1 e2
theorem v_25 : Vd 4627730092099895296 4627730092099895296 := ⟨gd_lit (by decide), gd_lit (by decide), by decide +kernel, by decide, by decide⟩
theorem v_5 : Vd 4617315517961601024 4617315517961601024 := ⟨gd_lit (by decide), gd_lit (by decide), by decide +kernel, by decide, by decide⟩
def fiveS : Sp := ⟨4617315517961601024, 4617315517961601024, v_5⟩
theorem fiveS_lo : fiveS.lo = 4617315517961601024 := rfl
theorem fiveS_hi : fiveS.hi = 4617315517961601024 := rfl
def s25 : Sp := ⟨4627730092099895296, 4627730092099895296, v_25⟩
theorem sqr34 : vSqr (vOf 4613937818241073152 0 4616189618054758400) = s25 := by refine Sp.ext ?_ ?_ <;> decide +kernel
theorem len34 : vLen (vOf 4613937818241073152 0 4616189618054758400) = fiveS := by
 unfold vLen
 rw [sqr34]
 have e0 : mx s25.lo 0 = 4627730092099895296 := by decide +kernel
 have ⟨r1, r2⟩ := root_is (a := 4627730092099895296) (b := 4617315517961601024) (by decide) (gd_lit (by decide)) (by decide) (by decide) (by decide +kernel) (by decide +kernel) (by rw [BB_eq]; decide +kernel)
 exact sqrtS_of (by decide +kernel) (by decide +kernel) (by rw [e0, fiveS_lo]; exact r1) (by rw [show s25.hi = 4627730092099895296 from rfl, fiveS_hi]; exact r2)
theorem cross_xy : vCross (vOf 4607182418800017408 0 0) (vOf 0 4607182418800017408 0) = vOf 0 0 4607182418800017408 := by refine V3.ext (Sp.ext ?_ ?_) (Sp.ext ?_ ?_) (Sp.ext ?_ ?_) <;> decide +kernel
theorem dot_xy : vDot (vOf 4607182418800017408 0 0) (vOf 0 4607182418800017408 0) = zeroS := by refine Sp.ext ?_ ?_ <;> decide +kernel
theorem eq55 : (FloatKind.f64.format.order 4617315517961601024 4617315517961601024 == some .eq) = true := order_self v_5.l
end Go.Proofs.YtnljfcebmgifdaaGreat
set_option linter.unusedVariables false
set_option linter.unusedSimpArgs false
namespace Go.Proofs.YtnljfcebmgifdaaGreat
open Go.RowKit Fl
section
variable {fn : Func} {p q r : Tmp} {ta tb : TypeId}
theorem res_cc (h : fn.results = #[.cell p ta, .cell q tb]) (tmps : Array Value) (w : World) (g : Nat) (cs : Array Value) (g' : Nat) (cs' : Array Value) {t t' : TypeId} {d d' : TypeDesc}
   (hp : tmps.getD p undef = .pointer (some ⟨g, 0, none⟩)) (hg : Blk w g t cs) (hi : (Tryz.prog.info? ta).map (·.size) = some cs.size) (hu : Tryz.prog.underlying ta = some d) (hd : isRow d = true)
   (hp' : tmps.getD q undef = .pointer (some ⟨g', 0, none⟩)) (hg' : Blk w g' t' cs') (hi' : (Tryz.prog.info? tb).map (·.size) = some cs'.size) (hu' : Tryz.prog.underlying tb = some d') (hd' : isRow d' = true) :
   (results fn tmps).run Tryz.prog w = .ok (.tuple #[.agg cs, .agg cs']) w := by
 have e1 : tmps[p]?.getD undef = .pointer (some ⟨g, 0, none⟩) := by simpa using hp
 have e2 : tmps[q]?.getD undef = .pointer (some ⟨g', 0, none⟩) := by simpa using hp'
 simp [results, h, e1, e2, asAddr, run_row w g t ta cs d hg hu hd hi, run_row w g' t' tb cs' d' hg' hu' hd' hi']
end
end Go.Proofs.YtnljfcebmgifdaaGreat
