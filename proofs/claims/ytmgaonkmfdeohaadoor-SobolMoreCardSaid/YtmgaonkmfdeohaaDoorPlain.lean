/- Plain numbers of layer 5: the words of a dimension as a table, the point of an index as the exclusive-or of words, the hash; no program stands in this text. -/
import Derived.Lib.TrailingZeros
namespace Go.Proofs.YtmgaonkmfdeohaaDoor.Sob

def tab : List (List Nat) := [
  [2147483648, 1073741824, 536870912, 268435456, 134217728, 67108864, 33554432, 16777216, 8388608, 4194304, 2097152, 1048576, 524288, 262144, 131072, 65536, 32768, 16384, 8192, 4096, 2048, 1024, 512, 256, 128, 64, 32, 16, 8, 4, 2, 1],
  [2147483648, 3221225472, 2684354560, 4026531840, 2281701376, 3422552064, 2852126720, 4278190080, 2155872256, 3233808384, 2694840320, 4042260480, 2290614272, 3435921408, 2863267840, 4294901760, 2147516416, 3221274624, 2684395520, 4026593280, 2281736192, 3422604288, 2852170240, 4278255360, 2155905152, 3233857728, 2694881440, 4042322160, 2290649224, 3435973836, 2863311530, 4294967295],
  [2147483648, 3221225472, 1610612736, 2415919104, 3892314112, 1543503872, 2382364672, 3305111552, 1753219072, 2629828608, 3999268864, 1435500544, 2154299392, 3231449088, 1626210304, 2421489664, 3900735488, 1556135936, 2388680704, 3314585600, 1751705600, 2627492864, 4008611328, 1431684352, 2147543168, 3221249216, 1610649184, 2415969680, 3892340840, 1543543964, 2382425838, 3305133397],
  [2147483648, 3221225472, 536870912, 1342177280, 4160749568, 1946157056, 2717908992, 2466250752, 3632267264, 624951296, 1507852288, 3872391168, 2013790208, 3020685312, 2181169152, 3271884800, 546275328, 1363623936, 4226424832, 1977167872, 2693105664, 2437829632, 3689389568, 635137280, 1484783744, 3846176960, 2044723232, 3067084880, 2148008184, 3222012020, 537002146, 1342505107],
  [2147483648, 1073741824, 536870912, 2952790016, 4160749568, 3690987520, 2046820352, 2634022912, 1518338048, 801112064, 2707423232, 4038066176, 3666345984, 1875116032, 2170683392, 1085997056, 579305472, 3016343552, 4217741312, 3719483392, 2013407232, 2617981952, 1510979072, 755882752, 2726789248, 4090085440, 3680870432, 1840435376, 2147625208, 1074478300, 537900666, 2953698205],
  [2147483648, 1073741824, 1610612736, 805306368, 3355443200, 603979776, 1442840576, 4211081216, 3766484992, 1883242496, 2824863744, 338690048, 2663907328, 3743678464, 3067478016, 2344288256, 1207992320, 1677737984, 905994240, 3405787136, 679528448, 1413489664, 4267726336, 4012964608, 2118705280, 2942595136, 515287136, 2676692016, 3603439304, 3139739428, 2161563350, 1086045115],
  [2147483648, 3221225472, 2684354560, 3489660928, 1476395008, 2483027968, 1040187392, 3808428032, 3196059648, 599785472, 505413632, 4077912064, 1182269440, 1736704000, 2017853440, 2221342720, 3329785856, 2810494976, 3628507136, 1416089600, 2658719744, 864310272, 3863387648, 3076993792, 553150080, 272922560, 4167467040, 1148698640, 1719673080, 2009075780, 2149644390, 3222291575],
  [2147483648, 1073741824, 2684354560, 1342177280, 2281701376, 603979776, 301989888, 754974720, 1988100096, 2654994432, 136314880, 1678770176, 2988965888, 2098462720, 4272029696, 3125346304, 438599680, 1226522624, 3300237312, 3816001536, 4135585792, 3728737280, 2820672000, 873465088, 975702144, 1494483520, 3970040096, 2538144464, 1822721896, 3613084132, 3432358018, 2271450689]]

/-- The word i of a dimension. -/
def wd (dim i : Nat) : Nat := (tab.getD dim []).getD i 0

def atF (f : Nat → Nat) : Nat → Nat → Nat
  | 0, _ => 0
  | n + 1, x => atF f n x ^^^ (if x.testBit n then f n else 0)

def at32 (f : Nat → Nat) (x : Nat) : Nat := atF f 32 x

theorem atF_lin (f : Nat → Nat) (n x y : Nat) : atF f n (x ^^^ y) = atF f n x ^^^ atF f n y := by
  induction n with
  | zero => simp [atF]
  | succ n ih =>
    simp only [atF, ih, Nat.testBit_xor]
    cases x.testBit n <;> cases y.testBit n <;> simp <;> (apply Nat.eq_of_testBit_eq; intro i; simp only [Nat.testBit_xor]; cases (atF f n x).testBit i <;> cases (atF f n y).testBit i <;> cases (f n).testBit i <;> rfl)

theorem at32_lin (f : Nat → Nat) (x y : Nat) : at32 f (x ^^^ y) = at32 f x ^^^ at32 f y := atF_lin f 32 x y

theorem atF_zero (f : Nat → Nat) (n : Nat) : atF f n 0 = 0 := by
  induction n with
  | zero => rfl
  | succ n ih => simp [atF, ih]

theorem at32_zero (f : Nat → Nat) : at32 f 0 = 0 := atF_zero f 32

theorem atF_pow (f : Nat → Nat) (n k : Nat) : atF f n (2 ^ k) = if k < n then f k else 0 := by
  induction n with
  | zero => simp [atF]
  | succ n ih =>
    simp only [atF, ih, Nat.testBit_two_pow]
    by_cases h1 : k < n
    · have : ¬ k = n := by omega
      simp [h1, this, show k < n + 1 by omega]
    · by_cases h2 : k = n
      · subst h2; simp
      · simp [h1, h2, show ¬ k < n + 1 by omega]

theorem atF_lt (f : Nat → Nat) (hf : ∀ i, f i < 4294967296) (n x : Nat) : atF f n x < 4294967296 := by
  induction n with
  | zero => simp [atF]
  | succ n ih =>
    simp only [atF]
    refine Nat.xor_lt_two_pow (n := 32) ih ?_
    split
    · exact hf n
    · decide

theorem wd_lt (dim i : Nat) : wd dim i < 4294967296 := by
  unfold wd
  have key : ∀ l ∈ tab, ∀ x ∈ l, x < 4294967296 := by decide +kernel
  rw [List.getD_eq_getElem?_getD, List.getD_eq_getElem?_getD]
  cases h : tab[dim]? with
  | none => simp
  | some l =>
    cases h2 : l[i]? with
    | none => simp [h2]
    | some x =>
      simp only [Option.getD_some, h2]
      exact key l (List.mem_of_getElem? h) x (List.mem_of_getElem? h2)

theorem at32_lt (dim x : Nat) : at32 (wd dim) x < 4294967296 := atF_lt _ (wd_lt dim) 32 x

/-- The lowest bit out of a word. -/
theorem low_bit (x : Nat) (hx0 : x ≠ 0) (hx : x < 4294967296) :
    Lib.ctz 32 x < 32 ∧ x = 2 ^ Lib.ctz 32 x ^^^ (x &&& (x - 1)) ∧ x &&& (x - 1) < x := by
  obtain ⟨m, hm, hk⟩ := Lib.ctzFrom_spec 32 x (by omega) hx
  have e : Lib.ctz 32 x = Lib.ctzFrom 32 x := by unfold Lib.ctz; rw [if_neg hx0]
  rw [e]
  generalize Lib.ctzFrom 32 x = k at *
  have h1 : x - 1 = 2 ^ k * (2 * m) + (2 ^ k - 1) := by
    have := Nat.two_pow_pos k
    rw [hm, Nat.mul_add, Nat.mul_one]; omega
  have h2 : x &&& (x - 1) = 2 ^ k * (2 * m) := by
    apply Nat.eq_of_testBit_eq
    intro i
    rw [Nat.testBit_and, h1, hm]
    have e1 : 2 ^ k * (2 * m) = 2 ^ k * (2 * m) + 0 := rfl
    by_cases hi : i < k
    · rw [Nat.testBit_two_pow_mul_add _ (by have := Nat.two_pow_pos k; omega), if_pos hi]
      have : (2 ^ k * (2 * m + 1)).testBit i = false := by
        rw [show 2 ^ k * (2 * m + 1) = 2 ^ k * (2 * m + 1) + 0 from rfl, Nat.testBit_two_pow_mul_add _ (Nat.two_pow_pos k), if_pos hi]; simp
      rw [this]
      rw [show 2 ^ k * (2 * m) = 2 ^ k * (2 * m) + 0 from rfl, Nat.testBit_two_pow_mul_add _ (Nat.two_pow_pos k), if_pos hi]; simp
    · rw [Nat.testBit_two_pow_mul_add _ (by have := Nat.two_pow_pos k; omega), if_neg hi]
      rw [show 2 ^ k * (2 * m + 1) = 2 ^ k * (2 * m + 1) + 0 from rfl, Nat.testBit_two_pow_mul_add _ (Nat.two_pow_pos k), if_neg hi]
      rw [show 2 ^ k * (2 * m) = 2 ^ k * (2 * m) + 0 from rfl, Nat.testBit_two_pow_mul_add _ (Nat.two_pow_pos k), if_neg hi]
      generalize i - k = j
      cases j with
      | zero => simp
      | succ j => rw [Nat.testBit_succ, Nat.testBit_succ, show (2 * m + 1) / 2 = m by omega, show (2 * m) / 2 = m by omega, Bool.and_self]
  refine ⟨hk, ?_, ?_⟩
  · rw [h2]
    apply Nat.eq_of_testBit_eq
    intro i
    rw [Nat.testBit_xor, Nat.testBit_two_pow]
    by_cases hi : i < k
    · have : ¬ k = i := by omega
      rw [hm, show 2 ^ k * (2 * m + 1) = 2 ^ k * (2 * m + 1) + 0 from rfl, Nat.testBit_two_pow_mul_add _ (Nat.two_pow_pos k), if_pos hi,
        show 2 ^ k * (2 * m) = 2 ^ k * (2 * m) + 0 from rfl, Nat.testBit_two_pow_mul_add _ (Nat.two_pow_pos k), if_pos hi]
      simp [this]
    · rw [hm, show 2 ^ k * (2 * m + 1) = 2 ^ k * (2 * m + 1) + 0 from rfl, Nat.testBit_two_pow_mul_add _ (Nat.two_pow_pos k), if_neg hi,
        show 2 ^ k * (2 * m) = 2 ^ k * (2 * m) + 0 from rfl, Nat.testBit_two_pow_mul_add _ (Nat.two_pow_pos k), if_neg hi]
      by_cases h : k = i
      · subst h; simp
      · obtain ⟨j, hj⟩ : ∃ j, i - k = j + 1 := ⟨i - k - 1, by omega⟩
        rw [hj, Nat.testBit_succ, Nat.testBit_succ, show (2 * m + 1) / 2 = m by omega, show (2 * m) / 2 = m by omega]
        simp [h]
  · rw [h2]
    have := Nat.two_pow_pos k
    have e3 : 2 ^ k * (2 * m + 1) = 2 ^ k * (2 * m) + 2 ^ k := by rw [Nat.mul_add, Nat.mul_one]
    omega

theorem at32_step (f : Nat → Nat) (x : Nat) (hx0 : x ≠ 0) (hx : x < 4294967296) :
    at32 f x = f (Lib.ctz 32 x) ^^^ at32 f (x &&& (x - 1)) := by
  obtain ⟨hk, he, _⟩ := low_bit x hx0 hx
  generalize hg : x &&& (x - 1) = y at *
  have h2 : at32 f (2 ^ Lib.ctz 32 x) = f (Lib.ctz 32 x) := by
    unfold at32; rw [atF_pow, if_pos hk]
  rw [← h2, ← at32_lin, ← he]

def hash (a : Nat) : Nat :=
  let b := ((a ^^^ a / 65536) * 2146121005) % 4294967296
  let c := ((b ^^^ b / 32768) * 2221713035) % 4294967296
  c ^^^ c / 65536

theorem hash_lt (a : Nat) : hash a < 4294967296 := by
  unfold hash
  dsimp only
  refine Nat.xor_lt_two_pow (n := 32) (Nat.mod_lt _ (by decide)) ?_
  refine Nat.lt_of_le_of_lt (Nat.div_le_self _ _) (Nat.mod_lt _ (by decide))

def scr (dim x seed : Nat) : Nat := at32 (wd dim) x ^^^ hash (seed ^^^ hash dim)

theorem scr_lt (dim x seed : Nat) : scr dim x seed < 4294967296 := Nat.xor_lt_two_pow (n := 32) (at32_lt _ _) (hash_lt _)

end Go.Proofs.YtmgaonkmfdeohaaDoor.Sob
