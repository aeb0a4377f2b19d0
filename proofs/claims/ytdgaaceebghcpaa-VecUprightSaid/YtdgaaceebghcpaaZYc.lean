/- Plain: transformations. -/
import Derived.Test.YtdgaaceebghcpaaZYb
set_option linter.unusedVariables false
set_option linter.unusedSimpArgs false
namespace Go.Proofs.Ytdgaaceebghcpaa
open Fl

structure Af where
  a : V3
  b : V3
  c : V3
  t : V3
noncomputable def afVec (m : Af) (v : V3) : V3 := ⟨vDot m.a v, vDot m.b v, vDot m.c v⟩
noncomputable def afPt (m : Af) (p : V3) : V3 := vAdd (afVec m p) m.t
abbrev Af.col0 (m : Af) : V3 := ⟨m.a.x, m.b.x, m.c.x⟩
abbrev Af.col1 (m : Af) : V3 := ⟨m.a.y, m.b.y, m.c.y⟩
abbrev Af.col2 (m : Af) : V3 := ⟨m.a.z, m.b.z, m.c.z⟩
noncomputable def afThen (m n : Af) : Af :=
  ⟨⟨vDot m.a n.col0, vDot m.a n.col1, vDot m.a n.col2⟩, ⟨vDot m.b n.col0, vDot m.b n.col1, vDot m.b n.col2⟩, ⟨vDot m.c n.col0, vDot m.c n.col1, vDot m.c n.col2⟩, afPt m n.t⟩
noncomputable def afDet (m : Af) : Sp := vDot m.a (vCross m.b m.c)
noncomputable def afInv (m : Af) (d : Sp) : Af :=
  ⟨⟨divS (vCross m.b m.c).x d, divS (vCross m.c m.a).x d, divS (vCross m.a m.b).x d⟩, ⟨divS (vCross m.b m.c).y d, divS (vCross m.c m.a).y d, divS (vCross m.a m.b).y d⟩, ⟨divS (vCross m.b m.c).z d, divS (vCross m.c m.a).z d, divS (vCross m.a m.b).z d⟩, ⟨zeroS, zeroS, zeroS⟩⟩
noncomputable def afBack (m : Af) (d : Sp) : Af := ⟨(afInv m d).a, (afInv m d).b, (afInv m d).c, vNeg (afVec (afInv m d) m.t)⟩
abbrev W1 : Nat := 4607182418800017408
def zeroV : V3 := ⟨zeroS, zeroS, zeroS⟩
noncomputable def afStretch (p q r : Nat) : Af := ⟨⟨ofS p, zeroS, zeroS⟩, ⟨zeroS, ofS q, zeroS⟩, ⟨zeroS, zeroS, ofS r⟩, zeroV⟩
noncomputable def afSame : Af := afStretch W1 W1 W1
noncomputable def afMove (p q r : Nat) : Af := ⟨afSame.a, afSame.b, afSame.c, vOf p q r⟩
def zeroA : Af := ⟨zeroV, zeroV, zeroV, zeroV⟩
theorem of0 : ofS 0 = zeroS := by
  refine Sp.ext ?_ ?_ <;> decide +kernel
theorem InV.vec {x y z a1 a2 a3 b1 b2 b3 c1 c2 c3 : Rat} {m : Af} {v : V3} (ha : InV a1 a2 a3 m.a) (hb : InV b1 b2 b3 m.b) (hc : InV c1 c2 c3 m.c) (h : InV x y z v) :
    InV (a1 * x + a2 * y + a3 * z) (b1 * x + b2 * y + b3 * z) (c1 * x + c2 * y + c3 * z) (afVec m v) := ⟨ha.dot h, hb.dot h, hc.dot h⟩
/-- Numbers in all spans of a transformation. -/
structure InA (a1 a2 a3 b1 b2 b3 c1 c2 c3 t1 t2 t3 : Rat) (m : Af) : Prop where
  a : InV a1 a2 a3 m.a
  b : InV b1 b2 b3 m.b
  c : InV c1 c2 c3 m.c
  t : InV t1 t2 t3 m.t
theorem InA.pt {x y z a1 a2 a3 b1 b2 b3 c1 c2 c3 t1 t2 t3 : Rat} {m : Af} {v : V3} (h : InA a1 a2 a3 b1 b2 b3 c1 c2 c3 t1 t2 t3 m) (k : InV x y z v) :
    InV (a1 * x + a2 * y + a3 * z + t1) (b1 * x + b2 * y + b3 * z + t2) (c1 * x + c2 * y + c3 * z + t3) (afPt m v) := (InV.vec h.a h.b h.c k).add h.t
theorem V3.in_lo (v : V3) : InV (fv v.x.lo) (fv v.y.lo) (fv v.z.lo) v := ⟨v.x.in_lo, v.y.in_lo, v.z.in_lo⟩
/-- A number in both, each by each. -/
structure ShV (a b : V3) : Prop where
  x1 : Z a.x.lo ≤ Z b.x.hi
  x2 : Z b.x.lo ≤ Z a.x.hi
  y1 : Z a.y.lo ≤ Z b.y.hi
  y2 : Z b.y.lo ≤ Z a.y.hi
  z1 : Z a.z.lo ≤ Z b.z.hi
  z2 : Z b.z.lo ≤ Z a.z.hi
theorem InV.share {x y z x' y' z' : Rat} {a b : V3} (h : InV x y z a) (k : InV x' y' z' b) (e1 : x = x') (e2 : y = y') (e3 : z = z') : ShV a b := by
  subst e1 e2 e3
  exact ⟨h.x.share k.x, k.x.share h.x, h.y.share k.y, k.y.share h.y, h.z.share k.z, k.z.share h.z⟩
theorem InA.then {a1 a2 a3 b1 b2 b3 c1 c2 c3 t1 t2 t3 p1 p2 p3 q1 q2 q3 r1 r2 r3 u1 u2 u3 : Rat} {m n : Af} (h : InA a1 a2 a3 b1 b2 b3 c1 c2 c3 t1 t2 t3 m) (k : InA p1 p2 p3 q1 q2 q3 r1 r2 r3 u1 u2 u3 n) :
    InA (a1 * p1 + a2 * q1 + a3 * r1) (a1 * p2 + a2 * q2 + a3 * r2) (a1 * p3 + a2 * q3 + a3 * r3) (b1 * p1 + b2 * q1 + b3 * r1) (b1 * p2 + b2 * q2 + b3 * r2) (b1 * p3 + b2 * q3 + b3 * r3) (c1 * p1 + c2 * q1 + c3 * r1) (c1 * p2 + c2 * q2 + c3 * r2) (c1 * p3 + c2 * q3 + c3 * r3)
      (a1 * u1 + a2 * u2 + a3 * u3 + t1) (b1 * u1 + b2 * u2 + b3 * u3 + t2) (c1 * u1 + c2 * u2 + c3 * u3 + t3) (afThen m n) := by
  have k0 : InV p1 q1 r1 n.col0 := ⟨k.a.x, k.b.x, k.c.x⟩
  have k1 : InV p2 q2 r2 n.col1 := ⟨k.a.y, k.b.y, k.c.y⟩
  have k2 : InV p3 q3 r3 n.col2 := ⟨k.a.z, k.b.z, k.c.z⟩
  exact ⟨⟨h.a.dot k0, h.a.dot k1, h.a.dot k2⟩, ⟨h.b.dot k0, h.b.dot k1, h.b.dot k2⟩, ⟨h.c.dot k0, h.c.dot k1, h.c.dot k2⟩, h.pt k.t⟩
theorem Af.in_lo (m : Af) : InA (fv m.a.x.lo) (fv m.a.y.lo) (fv m.a.z.lo) (fv m.b.x.lo) (fv m.b.y.lo) (fv m.b.z.lo) (fv m.c.x.lo) (fv m.c.y.lo) (fv m.c.z.lo) (fv m.t.x.lo) (fv m.t.y.lo) (fv m.t.z.lo) m := ⟨m.a.in_lo, m.b.in_lo, m.c.in_lo, m.t.in_lo⟩
theorem chain_pt (m n : Af) (p : V3) : ShV (afPt (afThen m n) p) (afPt m (afPt n p)) :=
  ((m.in_lo.then n.in_lo).pt p.in_lo).share (m.in_lo.pt (n.in_lo.pt p.in_lo)) (by grind) (by grind) (by grind)
theorem chain_vec (m n : Af) (p : V3) : ShV (afVec (afThen m n) p) (afVec m (afVec n p)) := by
  have h := m.in_lo.then n.in_lo
  have k := n.in_lo
  have q := m.in_lo
  exact (InV.vec h.a h.b h.c p.in_lo).share (InV.vec q.a q.b q.c (InV.vec k.a k.b k.c p.in_lo)) (by grind) (by grind) (by grind)
theorem in_det {a1 a2 a3 b1 b2 b3 c1 c2 c3 t1 t2 t3 : Rat} {m : Af} (h : InA a1 a2 a3 b1 b2 b3 c1 c2 c3 t1 t2 t3 m) :
    InS (a1 * (b2 * c3 - b3 * c2) + a2 * (b3 * c1 - b1 * c3) + a3 * (b1 * c2 - b2 * c1)) (afDet m) := h.a.dot (h.b.cross h.c)
theorem InS.ne0 {x : Rat} {s : Sp} (h : InS x s) (k : has0 s = false) : x ≠ 0 := by
  intro e
  subst e
  unfold has0 at k
  have z0 : Z 0 = 0 := by decide
  have h1 : Z s.lo ≤ 0 := by
    rcases h.lo with e | e
    · rw [e, Z_NI]; have := rv_inf_pos; omega
    · exact fv_nonpos.1 e
  have h2 : 0 ≤ Z s.hi := by
    rcases h.hi with e | e
    · rw [e, Z_PI]; have := rv_inf_pos; omega
    · exact fv_nonneg.1 e
  rw [decide_eq_true h1, decide_eq_true h2] at k
  exact absurd k (by decide)
theorem in_inv {a1 a2 a3 b1 b2 b3 c1 c2 c3 t1 t2 t3 d i : Rat} {m : Af} {s : Sp} (h : InA a1 a2 a3 b1 b2 b3 c1 c2 c3 t1 t2 t3 m) (hd : InS d s) (hi : i = 1 / d) :
    InA ((b2 * c3 - b3 * c2) * i) ((c2 * a3 - c3 * a2) * i) ((a2 * b3 - a3 * b2) * i) ((b3 * c1 - b1 * c3) * i) ((c3 * a1 - c1 * a3) * i) ((a3 * b1 - a1 * b3) * i) ((b1 * c2 - b2 * c1) * i) ((c1 * a2 - c2 * a1) * i) ((a1 * b2 - a2 * b1) * i) 0 0 0 (afInv m s) := by
  have e : ∀ x : Rat, x * i = x / d := by intro x; rw [hi, Rat.div_def, Rat.div_def, Rat.one_mul]
  simp only [e]
  have k1 := h.b.cross h.c
  have k2 := h.c.cross h.a
  have k3 := h.a.cross h.b
  exact ⟨⟨in_div k1.x hd, in_div k2.x hd, in_div k3.x hd⟩, ⟨in_div k1.y hd, in_div k2.y hd, in_div k3.y hd⟩, ⟨in_div k1.z hd, in_div k2.z hd, in_div k3.z hd⟩, ⟨in_zero, in_zero, in_zero⟩⟩
theorem in_back {a1 a2 a3 b1 b2 b3 c1 c2 c3 t1 t2 t3 p1 p2 p3 q1 q2 q3 r1 r2 r3 : Rat} {m : Af} {s : Sp} (h : InA a1 a2 a3 b1 b2 b3 c1 c2 c3 t1 t2 t3 m) (k : InA p1 p2 p3 q1 q2 q3 r1 r2 r3 0 0 0 (afInv m s)) :
    InA p1 p2 p3 q1 q2 q3 r1 r2 r3 (-(p1 * t1 + p2 * t2 + p3 * t3)) (-(q1 * t1 + q2 * t2 + q3 * t3)) (-(r1 * t1 + r2 * t2 + r3 * t3)) (afBack m s) := by
  refine ⟨k.a, k.b, k.c, ?_⟩
  exact (InV.vec k.a k.b k.c h.t).neg
theorem InS.wi {x : Nat} {s : Sp} (h : InS (fv x) s) (f : fin x = true) : Z s.lo ≤ Z x ∧ Z x ≤ Z s.hi := by
  refine ⟨?_, ?_⟩
  · rcases h.lo with e | e
    · rw [e, Z_NI]; have := (Z_range (nan_of_fin f)).1; exact this
    · exact fv_le.1 e
  · rcases h.hi with e | e
    · rw [e, Z_PI]; have := (Z_range (nan_of_fin f)).2; exact this
    · exact fv_le.1 e
theorem InS.wi_of {x : Nat} {s : Sp} (h : InS (fv x) s) (hx : x < 18446744073709551616) (f : fin x = true) : Wi (ofS x) s := by
  have e : ofS x = oneS (pl x) (pl_gd hx (nan_of_fin f)) (pl_fin f) := by unfold ofS; rw [dif_pos ⟨hx, f⟩]
  rw [e]
  have ⟨h1, h2⟩ := h.wi f
  refine ⟨?_, ?_⟩
  · show Z s.lo ≤ Z (pl x)
    rw [Z_pl]; exact h1
  · show Z (pl x) ≤ Z s.hi
    rw [Z_pl]; exact h2
/-- There and back. -/
theorem back_there {m : Af} {p q r : Nat} (hp : p < 18446744073709551616) (fp : fin p = true) (hq : q < 18446744073709551616) (fq : fin q = true) (hr : r < 18446744073709551616) (fr : fin r = true) (hd : has0 (afDet m) = false) :
    WiV (vOf p q r) (afPt (afBack m (afDet m)) (afPt m (vOf p q r))) ∧ WiV (vOf p q r) (afPt m (afPt (afBack m (afDet m)) (vOf p q r))) := by
  have h := m.in_lo
  have v := in_vof p q r
  have id := in_det h
  have nd := id.ne0 hd
  generalize fv m.a.x.lo = a1 at *
  generalize fv m.a.y.lo = a2 at *
  generalize fv m.a.z.lo = a3 at *
  generalize fv m.b.x.lo = b1 at *
  generalize fv m.b.y.lo = b2 at *
  generalize fv m.b.z.lo = b3 at *
  generalize fv m.c.x.lo = c1 at *
  generalize fv m.c.y.lo = c2 at *
  generalize fv m.c.z.lo = c3 at *
  generalize fv m.t.x.lo = t1 at *
  generalize fv m.t.y.lo = t2 at *
  generalize fv m.t.z.lo = t3 at *
  obtain ⟨d, hdd⟩ : ∃ d, a1 * (b2 * c3 - b3 * c2) + a2 * (b3 * c1 - b1 * c3) + a3 * (b1 * c2 - b2 * c1) = d := ⟨_, rfl⟩
  rw [hdd] at id nd
  obtain ⟨i, hi⟩ : ∃ i, i = 1 / d := ⟨_, rfl⟩
  have e := rat_inv nd hi
  have k := in_back h (in_inv h id hi)
  have w1 := k.pt (h.pt v)
  have w2 := h.pt (k.pt v)
  refine ⟨⟨?_, ?_, ?_⟩, ⟨?_, ?_, ?_⟩⟩
  · exact InS.wi_of (by have := w1.x; rw [show fv p = (i * d) * fv p by rw [e, Rat.one_mul], ← hdd]; grind) hp fp
  · exact InS.wi_of (by have := w1.y; rw [show fv q = (i * d) * fv q by rw [e, Rat.one_mul], ← hdd]; grind) hq fq
  · exact InS.wi_of (by have := w1.z; rw [show fv r = (i * d) * fv r by rw [e, Rat.one_mul], ← hdd]; grind) hr fr
  · exact InS.wi_of (by have := w2.x; rw [show fv p = (i * d) * (fv p - t1) + t1 by rw [e]; grind, ← hdd]; grind) hp fp
  · exact InS.wi_of (by have := w2.y; rw [show fv q = (i * d) * (fv q - t2) + t2 by rw [e]; grind, ← hdd]; grind) hq fq
  · exact InS.wi_of (by have := w2.z; rw [show fv r = (i * d) * (fv r - t3) + t3 by rw [e]; grind, ← hdd]; grind) hr fr
/-! what changes nothing -/
theorem rd_self {a : Nat} (g : Gd a) (f : fin a = true) : RD a (fv a) :=
  ⟨g, fun e => by rw [e] at f; exact absurd f (by decide), Or.inr Rat.le_refl, fun b gb _ k => by
    rcases k with k | k
    · rw [k, Z_NI]; exact (Z_range g.nn).1
    · exact fv_le.1 k⟩
theorem ru_self {a : Nat} (g : Gd a) (f : fin a = true) : RU a (fv a) :=
  ⟨g, fun e => by rw [e] at f; exact absurd f (by decide), Or.inr Rat.le_refl, fun b gb _ k => by
    rcases k with k | k
    · rw [k, Z_PI]; exact (Z_range g.nn).2
    · exact fv_le.1 k⟩
theorem add_zero {a : Sp} (w : a.wide = false) : addS a zeroS = a := by
  have ⟨f1, f2⟩ := Sp.fins w
  refine Sp.ext ?_ ?_
  · show addL a.lo 0 = a.lo
    unfold addL
    rw [if_pos (by rw [f1]; decide)]
    have := add_dn (b := 0) f1 (by decide)
    rw [fv0, Rat.add_zero] at this
    exact this.uniq (rd_self a.vd.l f1)
  · show addH a.hi 0 = a.hi
    unfold addH
    rw [if_pos (by rw [f2]; decide)]
    have := add_up (b := 0) f2 (by decide)
    rw [fv0, Rat.add_zero] at this
    exact this.uniq (ru_self a.vd.h f2)
theorem zero_add {a : Sp} (w : a.wide = false) : addS zeroS a = a := by rw [addS_comm, add_zero w]
theorem one_lo : (ofS W1).lo = W1 := by decide +kernel
theorem one_hi : (ofS W1).hi = W1 := by decide +kernel
theorem one_wide : (ofS W1).wide = false := by decide +kernel
theorem one_isZ : isZ (ofS W1) = false := by decide +kernel
theorem one_mulS {a : Sp} (w : a.wide = false) : mulS (ofS W1) a = a := by
  unfold mulS
  by_cases hz : (isZ (ofS W1) || isZ a) = true
  · rw [if_pos hz]
    rw [one_isZ, Bool.false_or] at hz
    exact (isZ_eq hz).symm
  · rw [if_neg hz]
    have hw : ((ofS W1).wide || a.wide) = false := by rw [one_wide, w]; rfl
    rw [dif_pos hw]
    have ⟨f1, f2⟩ := Sp.fins w
    have le := a.fv_le
    have d := q4lo_rd (g := fun x y => x * y) (mul_rd hw)
    have u := q4hi_ru (g := fun x y => x * y) (mul_ru hw)
    simp only [one_lo, one_hi, fv_one, Rat.one_mul] at d u
    refine Sp.ext ?_ ?_
    · refine d.uniq ?_
      rw [show min (min (min (fv a.lo) (fv a.hi)) (fv a.lo)) (fv a.hi) = fv a.lo by grind]
      exact rd_self a.vd.l f1
    · refine u.uniq ?_
      rw [show max (max (max (fv a.lo) (fv a.hi)) (fv a.lo)) (fv a.hi) = fv a.hi by grind]
      exact ru_self a.vd.h f2
theorem zero_mulS (a : Sp) : mulS zeroS a = zeroS := by
  unfold mulS; rw [if_pos (by rw [isZ_zero]; rfl)]
theorem add_zz : addS zeroS zeroS = zeroS := add_zero (by decide)
def V3.wide (v : V3) : Bool := v.x.wide || v.y.wide || v.z.wide
theorem V3.not_wide {v : V3} (h : v.wide = false) : v.x.wide = false ∧ v.y.wide = false ∧ v.z.wide = false := by
  unfold V3.wide at h; exact or3_false h
theorem same_vec {v : V3} (h : v.wide = false) : afVec afSame v = v := by
  have ⟨h1, h2, h3⟩ := V3.not_wide h
  unfold afVec afSame afStretch vDot vMul vSum
  simp only [one_mulS h1, one_mulS h2, one_mulS h3, zero_mulS, add_zz, add_zero h1, add_zero h2, zero_add h2, zero_add h3]
theorem add_zeroV {v : V3} (h : v.wide = false) : vAdd v zeroV = v := by
  have ⟨h1, h2, h3⟩ := V3.not_wide h
  unfold vAdd zeroV
  simp only [add_zero h1, add_zero h2, add_zero h3]
theorem same_pt {v : V3} (h : v.wide = false) : afPt afSame v = v := by
  unfold afPt
  rw [same_vec h]
  exact add_zeroV h
theorem vdot1 {v : V3} (h : v.x.wide = false) : vDot ⟨ofS W1, zeroS, zeroS⟩ v = v.x := by
  unfold vDot vMul vSum
  simp only [one_mulS h, zero_mulS, add_zz, add_zero h]
theorem vdot2 {v : V3} (h : v.y.wide = false) : vDot ⟨zeroS, ofS W1, zeroS⟩ v = v.y := by
  unfold vDot vMul vSum
  simp only [one_mulS h, zero_mulS, add_zz, add_zero h, zero_add h]
theorem vdot3 {v : V3} (h : v.z.wide = false) : vDot ⟨zeroS, zeroS, ofS W1⟩ v = v.z := by
  unfold vDot vMul vSum
  simp only [one_mulS h, zero_mulS, add_zz, add_zero h, zero_add h]
theorem same_then {m : Af} (ha : m.a.wide = false) (hb : m.b.wide = false) (hc : m.c.wide = false) (ht : m.t.wide = false) : afThen afSame m = m := by
  have ⟨a1, a2, a3⟩ := V3.not_wide ha
  have ⟨b1, b2, b3⟩ := V3.not_wide hb
  have ⟨c1, c2, c3⟩ := V3.not_wide hc
  obtain ⟨⟨ax, ay, az⟩, ⟨bx, By, bz⟩, ⟨cx, cy, cz⟩, t⟩ := m
  unfold afThen
  rw [same_pt ht]
  unfold afSame afStretch
  simp only at a1 a2 a3 b1 b2 b3 c1 c2 c3
  rw [vdot1 (v := ⟨ax, bx, cx⟩) a1, vdot1 (v := ⟨ay, By, cy⟩) a2, vdot1 (v := ⟨az, bz, cz⟩) a3, vdot2 (v := ⟨ax, bx, cx⟩) b1, vdot2 (v := ⟨ay, By, cy⟩) b2, vdot2 (v := ⟨az, bz, cz⟩) b3, vdot3 (v := ⟨ax, bx, cx⟩) c1, vdot3 (v := ⟨ay, By, cy⟩) c2, vdot3 (v := ⟨az, bz, cz⟩) c3]
theorem in_move (p q r : Nat) : InA 1 0 0 0 1 0 0 0 1 (fv p) (fv q) (fv r) (afMove p q r) :=
  ⟨⟨in_one, in_zero, in_zero⟩, ⟨in_zero, in_one, in_zero⟩, ⟨in_zero, in_zero, in_one⟩, in_vof p q r⟩
theorem ends_wi {c s : Sp} (w : c.wide = false) (h : ∀ x, InS x c → InS x s) : Wi c s := by
  have ⟨f1, f2⟩ := Sp.fins w
  exact ⟨((h _ c.in_lo).wi f1).1, ((h _ c.in_hi).wi f2).2⟩
/-- Moved there and back. -/
theorem move_back {v : V3} (hv : v.wide = false) {p q r p' q' r' : Nat} (hp : fv p' = -fv p) (hq : fv q' = -fv q) (hr : fv r' = -fv r) : WiV v (afPt (afMove p' q' r') (afPt (afMove p q r) v)) := by
  have ⟨h1, h2, h3⟩ := V3.not_wide hv
  have k := fun {x y z : Rat} (h : InV x y z v) => (in_move p' q' r').pt ((in_move p q r).pt h)
  rw [hp, hq, hr] at k
  refine ⟨ends_wi h1 fun x hx => ?_, ends_wi h2 fun x hx => ?_, ends_wi h3 fun x hx => ?_⟩
  · have := (k ⟨hx, v.y.in_lo, v.z.in_lo⟩).x
    grind
  · have := (k ⟨v.x.in_lo, hx, v.z.in_lo⟩).y
    grind
  · have := (k ⟨v.x.in_lo, v.y.in_lo, hx⟩).z
    grind
/-! turns -/
end Go.Proofs.Ytdgaaceebghcpaa
