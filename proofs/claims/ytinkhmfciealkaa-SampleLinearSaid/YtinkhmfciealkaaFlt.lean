/- Floats that are whole numbers of at most 24 binary digits: sums and products are exact. -/
import Derived.Test.YtinkhmfciealkaaRep
import Derived.Laws.ComplexArith
set_option linter.unusedSimpArgs false
namespace Go.Ev

theorem pow_split (a b : Nat) : (2 : Int) ^ (a + b) = 2 ^ a * 2 ^ b := Int.pow_add 2 a b
theorem pow_pos' (a : Nat) : (0 : Int) < 2 ^ a := Int.pow_pos (by decide)

/-- An equation at one scale is one at all. -/
theorem scale {X pl n : Int} {K0 : Nat} (h0 : 0 ≤ pl + K0) (e : X * 2 ^ (pl + K0).toNat = n * 2 ^ K0) (K : Nat) (hK : 0 ≤ pl + K) : X * 2 ^ (pl + K).toNat = n * 2 ^ K := by
  rcases Nat.le_total K0 K with h | h
  · obtain ⟨d, rfl⟩ := Nat.le.dest h
    have : (pl + (K0 + d : Nat)).toNat = (pl + K0).toNat + d := by omega
    rw [this, pow_split, pow_split, ← Int.mul_assoc, e, Int.mul_assoc]
  · obtain ⟨d, rfl⟩ := Nat.le.dest h
    have : (pl + (K + d : Nat)).toNat = (pl + K).toNat + d := by omega
    rw [this, pow_split, pow_split, ← Int.mul_assoc, ← Int.mul_assoc] at e
    exact Int.eq_of_mul_eq_mul_right (Int.ne_of_gt (pow_pos' d)) e

theorem Val.of_one {neg : Bool} {mag : Nat} {place n : Int} {K : Nat} (h : 0 ≤ place + K) (e : sgn neg mag * 2 ^ (place + K).toNat = n * 2 ^ K) : Val (.number neg mag place) n :=
  ⟨neg, mag, place, rfl, scale h e⟩

theorem signed_eq (neg : Bool) (mag up : Nat) : Ieee.signed neg mag up = sgn neg mag * 2 ^ up := by
  have : ((mag <<< up : Nat) : Int) = (mag : Int) * 2 ^ up := by rw [Nat.shiftLeft_eq]; simp
  cases neg
  · simp only [Ieee.signed, sgn, this, Bool.false_eq_true, if_false]
  · simp only [Ieee.signed, sgn, this, if_true]; rw [Int.neg_mul]

theorem sgn_natAbs (t : Int) (b : Bool) (h : t ≠ 0 → b = decide (t < 0)) : sgn b t.natAbs = t := by
  unfold sgn
  by_cases h0 : t = 0
  · subst h0; simp
  · rw [h h0]
    by_cases hl : t < 0
    · simp [hl]; omega
    · simp [hl]; omega

theorem Val.sum {d1 d2 : Ieee.Datum} {a b : Int} (h1 : Val d1 a) (h2 : Val d2 b) : ∃ d, d1.sum d2 = some d ∧ Val d (a + b) := by
  obtain ⟨s, m, i, rfl, e1⟩ := h1
  obtain ⟨t, n, j, rfl, e2⟩ := h2
  refine ⟨_, rfl, ?_⟩
  generalize hbase : min i j = base
  have hbi : base ≤ i := by omega
  have hbj : base ≤ j := by omega
  generalize htot : Ieee.signed s m (i - base).toNat + Ieee.signed t n (j - base).toNat = total
  refine Val.of_one (K := base.natAbs) (by omega) ?_
  rw [sgn_natAbs total _ (by intro h; simp [h])]
  have f1 := e1 base.natAbs (by omega)
  have f2 := e2 base.natAbs (by omega)
  rw [← htot, signed_eq, signed_eq, Int.add_mul, Int.add_mul, ← f1, ← f2, Int.mul_assoc, Int.mul_assoc, ← pow_split, ← pow_split]
  congr 3 <;> congr 1 <;> omega

theorem sgn_mul (s t : Bool) (m n : Nat) : sgn (s ^^ t) (m * n) = sgn s m * sgn t n := by
  cases s <;> cases t <;> simp [sgn, Int.neg_mul, Int.mul_neg]

theorem Val.product {d1 d2 : Ieee.Datum} {a b : Int} (h1 : Val d1 a) (h2 : Val d2 b) : ∃ d, d1.product d2 = some d ∧ Val d (a * b) := by
  obtain ⟨s, m, i, rfl, e1⟩ := h1
  obtain ⟨t, n, j, rfl, e2⟩ := h2
  refine ⟨_, rfl, Val.of_one (K := i.natAbs + j.natAbs) (by omega) ?_⟩
  have f1 := e1 i.natAbs (by omega)
  have f2 := e2 j.natAbs (by omega)
  have : (i + j + (i.natAbs + j.natAbs : Nat)).toNat = (i + i.natAbs).toNat + (j + j.natAbs).toNat := by omega
  rw [sgn_mul, this, pow_split, pow_split]
  calc sgn s m * sgn t n * (2 ^ (i + i.natAbs).toNat * 2 ^ (j + j.natAbs).toNat)
      = (sgn s m * 2 ^ (i + i.natAbs).toNat) * (sgn t n * 2 ^ (j + j.natAbs).toNat) := by
        simp only [Int.mul_assoc, Int.mul_left_comm, Int.mul_comm]
    _ = a * b * (2 ^ i.natAbs * 2 ^ j.natAbs) := by rw [f1, f2]; simp only [Int.mul_assoc, Int.mul_left_comm, Int.mul_comm]

theorem Val.opposite {d : Ieee.Datum} {a : Int} (h : Val d a) : Val d.opposite (-a) := by
  obtain ⟨s, m, i, rfl, e⟩ := h
  refine ⟨!s, m, i, rfl, fun K hK => ?_⟩
  have := e K hK
  have hs : sgn (!s) m = -sgn s m := by cases s <;> simp [sgn]
  rw [hs, Int.neg_mul, this, Int.neg_mul]

/-- The parts of a number that is whole. -/
theorem Val.nat {neg : Bool} {mag : Nat} {place n : Int} (h : Val (.number neg mag place) n) : (0 ≤ place → mag * 2 ^ place.toNat = n.natAbs) ∧ (place ≤ 0 → mag = n.natAbs * 2 ^ (-place).toNat) ∧ (mag ≠ 0 → (neg = true ↔ n < 0)) := by
  obtain ⟨neg', mag', place', he, h⟩ := h
  obtain ⟨rfl, rfl, rfl⟩ := Ieee.Datum.number.inj he
  have habs : (sgn neg mag).natAbs = mag := by cases neg <;> simp [sgn]
  refine ⟨fun hp => ?_, fun hp => ?_, fun hm => ?_⟩
  · have := congrArg Int.natAbs (h 0 (by omega))
    simpa [Int.natAbs_mul, Int.natAbs_pow, habs] using this
  · have := congrArg Int.natAbs (h (-place).toNat (by omega))
    have hz : (place + ((-place).toNat : Nat)).toNat = 0 := by omega
    rw [hz] at this
    simpa [Int.natAbs_mul, Int.natAbs_pow, habs] using this
  · have hK := h place.natAbs (by omega)
    have h1 := pow_pos' (place + place.natAbs).toNat
    have h2 := pow_pos' place.natAbs
    cases neg
    · simp only [sgn, Bool.false_eq_true, if_false, false_iff] at hK ⊢
      intro hn
      have : n * 2 ^ place.natAbs < 0 := Int.mul_neg_of_neg_of_pos hn h2
      have : 0 ≤ (mag : Int) * 2 ^ (place + place.natAbs).toNat := Int.mul_nonneg (by omega) (Int.le_of_lt h1)
      omega
    · simp only [sgn, if_true, true_iff] at hK ⊢
      apply Int.not_le.1
      intro hn
      have : 0 ≤ n * 2 ^ place.natAbs := Int.mul_nonneg hn (Int.le_of_lt h2)
      have : -(mag : Int) * 2 ^ (place + place.natAbs).toNat < 0 := Int.mul_neg_of_neg_of_pos (by omega) h1
      omega

/-- What is cut off is nothing. -/
theorem cut_exact (way : Ieee.Toward) (hw : way = .even ∨ way = .zero) (neg : Bool) (q drop : Nat) (hq : q ≠ 0 ∨ drop = 0) : way.cut neg (q * 2 ^ drop) drop = q := by
  have hmin : min drop ((q * 2 ^ drop).log2 + 2) = drop := by
    rcases hq with hq | hq
    · have : drop ≤ (q * 2 ^ drop).log2 := by
        rw [Nat.le_log2 (Nat.mul_ne_zero hq (Nat.ne_of_gt (Nat.two_pow_pos _)))]
        exact Nat.le_mul_of_pos_left _ (Nat.pos_of_ne_zero hq)
      omega
    · subst hq; simp
  have hpos := Nat.two_pow_pos drop
  unfold Ieee.Toward.cut
  simp only [hmin, Nat.one_shiftLeft, Nat.mul_div_cancel _ hpos, Nat.mul_mod_left]
  have : ¬ (2 ^ drop = 0) := by omega
  rcases hw with rfl | rfl <;> simp [this]

theorem Val.toInt {d : Ieee.Datum} {n : Int} (h : Val d n) : d.toInt .zero = some n := by
  obtain ⟨neg, mag, place, rfl, hv⟩ := h
  obtain ⟨h1, h2, h3⟩ := Val.nat ⟨neg, mag, place, rfl, hv⟩
  simp only [Ieee.Datum.toInt, Ieee.Datum.integral, signed_eq, Option.some.injEq, Int.pow_zero, Int.mul_one]
  have hm : mag ≠ 0 ∨ n = 0 := by
    by_cases h0 : mag = 0
    · right
      subst h0
      have := hv place.natAbs (by omega)
      have hs : sgn neg 0 = 0 := by cases neg <;> simp [sgn]
      rw [hs, Int.zero_mul] at this
      rcases Int.mul_eq_zero.1 this.symm with h | h
      · exact h
      · exact absurd h (Int.ne_of_gt (pow_pos' _))
    · exact .inl h0
  have key : ∀ m : Nat, m = n.natAbs → sgn neg m = n := by
    intro m hmn
    rcases hm with hm | hm
    · have := h3 hm
      subst hmn
      cases neg
      · simp only [Bool.false_eq_true, false_iff] at this; simp [sgn]; omega
      · simp only [true_iff] at this; simp [sgn]; omega
    · subst hm; subst hmn; simp [sgn]
  apply key
  rcases Int.le_total 0 place with hp | hp
  · have hd : (-place).toNat = 0 := by omega
    have := cut_exact .zero (.inr rfl) neg (mag <<< place.toNat) 0 (.inr rfl)
    rw [hd]
    simp only [Nat.pow_zero, Nat.mul_one] at this
    rw [this, Nat.shiftLeft_eq]
    exact h1 hp
  · have hz : place.toNat = 0 := by omega
    have hq := h2 hp
    rw [hz, Nat.shiftLeft_zero, hq]
    rcases hm with hm | hm
    · exact cut_exact .zero (.inr rfl) neg _ _ (.inl (by intro h0; rw [h0, Nat.zero_mul] at hq; exact hm hq))
    · subst hm
      simp [Ieee.Toward.cut]

theorem log2_shift {x : Nat} (hx : x ≠ 0) (k : Nat) : (x * 2 ^ k).log2 = x.log2 + k := by
  have h0 : x * 2 ^ k ≠ 0 := Nat.mul_ne_zero hx (Nat.ne_of_gt (Nat.two_pow_pos _))
  rw [Nat.log2_eq_iff h0]
  refine ⟨?_, ?_⟩
  · rw [Nat.pow_add]; exact Nat.mul_le_mul_right _ (Nat.log2_self_le hx)
  · rw [show x.log2 + k + 1 = (x.log2 + 1) + k from by omega, Nat.pow_add]; exact Nat.mul_lt_mul_of_pos_right Nat.lt_log2_self (Nat.two_pow_pos _)

/-- Formats whose exponents reach far enough. -/
structure Wide (f : Ieee.Format) : Prop where
  e : f.fractionBits + 2 ^ (f.exponentBits - 1) + 1 < 2 ^ f.exponentBits
  two : 2 ≤ 2 ^ (f.exponentBits - 1)

theorem wide32 : Wide Ieee.single := ⟨by decide, by decide⟩
theorem wide64 : Wide Ieee.double := ⟨by decide, by decide⟩

theorem word_read (f : Ieee.Format) (neg : Bool) {rung : Nat} (h : rung < f.signWeight) :
    f.word neg rung / f.signWeight % 2 = neg.toNat ∧ f.word neg rung % f.signWeight = rung := by
  have hp : 0 < f.signWeight := by omega
  cases neg
  · simp only [Ieee.Format.word, Bool.false_eq_true, if_false]
    exact ⟨by rw [Nat.div_eq_of_lt h]; rfl, Nat.mod_eq_of_lt h⟩
  · simp only [Ieee.Format.word, if_true]
    refine ⟨?_, ?_⟩
    · rw [Nat.add_div_left _ hp, Nat.div_eq_of_lt h]; rfl
    · rw [Nat.add_mod_left, Nat.mod_eq_of_lt h]

/-- A whole number of few enough digits is written as it is. -/
theorem Val.write {f : Ieee.Format} (hf : Wide f) {d : Ieee.Datum} {n : Int} (h : Val d n) (hn : n.natAbs < 2 ^ (f.fractionBits + 1)) : Val (f.read (f.write d)) n := by
  obtain ⟨neg, mag, place, rfl, hv⟩ := h
  obtain ⟨h1, h2, h3⟩ := Val.nat ⟨neg, mag, place, rfl, hv⟩
  have hbin : 0 < f.binade := Nat.two_pow_pos _
  have hsw : f.signWeight = 2 ^ f.exponentBits * f.binade := by simp only [Ieee.Format.signWeight, Ieee.Format.binade, Nat.pow_add]
  have h1e : 1 ≤ 2 ^ f.exponentBits := Nat.one_le_two_pow
  show Val (f.read (f.nearest neg mag place)) n
  by_cases hm : mag = 0
  · have hn0 : n = 0 := by
      have := hv place.natAbs (by omega)
      have hs : sgn neg mag = 0 := by subst hm; cases neg <;> simp [sgn]
      rw [hs, Int.zero_mul] at this
      rcases Int.mul_eq_zero.1 this.symm with h | h
      · exact h
      · exact absurd h (Int.ne_of_gt (pow_pos' _))
    subst hn0
    have hlt : 0 < f.signWeight := by rw [hsw]; exact Nat.mul_pos (by omega) hbin
    obtain ⟨r1, r2⟩ := word_read f neg hlt
    simp only [Ieee.Format.nearest, hm, if_true, Ieee.Format.read, r1, r2, hbin]
    refine Val.of_one (K := f.leastPlace.natAbs) (by omega) ?_
    cases (neg.toNat == 1) <;> simp [sgn]
  · have hN : n.natAbs ≠ 0 := by
      intro h0
      rcases Int.le_total 0 place with hp | hp
      · have := h1 hp; rw [h0] at this
        rcases Nat.mul_eq_zero.1 this with h | h
        · exact hm h
        · exact absurd h (Nat.ne_of_gt (Nat.two_pow_pos _))
      · have := h2 hp; rw [h0, Nat.zero_mul] at this; exact hm this
    generalize hL : n.natAbs.log2 = L
    have hL1 : L ≤ f.fractionBits := by
      have := (Nat.log2_lt hN).2 hn
      omega
    have hlo : 2 ^ L ≤ n.natAbs := by rw [← hL]; exact Nat.log2_self_le hN
    have hhi : n.natAbs < 2 ^ (L + 1) := by rw [← hL]; exact Nat.lt_log2_self
    -- the digits of what is written
    have hlog : place + (mag.log2 : Int) = (L : Int) := by
      rcases Int.le_total 0 place with hp | hp
      · have e := h1 hp
        have : n.natAbs.log2 = mag.log2 + place.toNat := by
          rw [← e, log2_shift hm]
        omega
      · have e := h2 hp
        have : mag.log2 = n.natAbs.log2 + (-place).toNat := by
          rw [e, log2_shift hN]
        omega
    have hlp : f.leastPlace = 2 - (2 ^ (f.exponentBits - 1) : Nat) - f.fractionBits := by simp [Ieee.Format.leastPlace]
    have h2e := hf.two
    generalize hlast : max (place + (mag.log2 : Int) - f.fractionBits) f.leastPlace = last
    have hlast' : last = (L : Int) - f.fractionBits := by omega
    have hkept : Ieee.Toward.even.cut neg (mag <<< (place - last).toNat) (last - place).toNat = n.natAbs * 2 ^ (f.fractionBits - L) := by
      rcases Int.le_total last place with hp | hp
      · have hz : (last - place).toNat = 0 := by omega
        have := cut_exact .even (.inl rfl) neg (mag <<< (place - last).toNat) 0 (.inr rfl)
        rw [hz]
        simp only [Nat.pow_zero, Nat.mul_one] at this
        rw [this, Nat.shiftLeft_eq]
        rcases Int.le_total 0 place with hq | hq
        · have e := h1 hq
          have : (place - last).toNat = place.toNat + (f.fractionBits - L) := by omega
          rw [this, Nat.pow_add, ← Nat.mul_assoc, e]
        · have e := h2 hq
          have : f.fractionBits - L = (-place).toNat + (place - last).toNat := by omega
          rw [this, Nat.pow_add, ← Nat.mul_assoc, ← e]
      · have hz : (place - last).toNat = 0 := by omega
        have e := h2 (by omega)
        have : (-place).toNat = (f.fractionBits - L) + (last - place).toNat := by omega
        rw [hz, Nat.shiftLeft_zero]
        have e2 : mag = (n.natAbs * 2 ^ (f.fractionBits - L)) * 2 ^ (last - place).toNat := by rw [e, this, Nat.pow_add, Nat.mul_assoc]
        have := cut_exact .even (.inl rfl) neg (n.natAbs * 2 ^ (f.fractionBits - L)) (last - place).toNat (.inl (Nat.mul_ne_zero hN (Nat.ne_of_gt (Nat.two_pow_pos _))))
        rw [← e2] at this
        exact this
    generalize hk : n.natAbs * 2 ^ (f.fractionBits - L) = kept at hkept
    have hbf : f.binade = 2 ^ f.fractionBits := rfl
    have hk1 : f.binade ≤ kept := by
      rw [← hk, hbf]
      have : f.fractionBits = L + (f.fractionBits - L) := by omega
      rw [show (2 : Nat) ^ f.fractionBits = 2 ^ L * 2 ^ (f.fractionBits - L) from by rw [← Nat.pow_add, ← this]]
      exact Nat.mul_le_mul_right _ hlo
    have hk2 : kept < 2 * f.binade := by
      rw [← hk, hbf]
      have : f.fractionBits + 1 = (L + 1) + (f.fractionBits - L) := by omega
      rw [show 2 * (2 : Nat) ^ f.fractionBits = 2 ^ (L + 1) * 2 ^ (f.fractionBits - L) from by rw [← Nat.pow_add, ← this, Nat.pow_succ, Nat.mul_comm]]
      exact Nat.mul_lt_mul_of_pos_right hhi (Nat.two_pow_pos _)
    generalize hE : (last - f.leastPlace).toNat = E
    have hE1 : E = L + 2 ^ (f.exponentBits - 1) - 2 := by omega
    have hE2 : E + 2 < 2 ^ f.exponentBits := by have := hf.e; omega
    have hinf : f.infRung = (2 ^ f.exponentBits - 1) * f.binade := rfl
    have hrung : E * f.binade + kept < f.infRung := by
      rw [hinf]
      have h3 : (E + 2) * f.binade ≤ (2 ^ f.exponentBits - 1) * f.binade := Nat.mul_le_mul_right _ (by omega)
      rw [Nat.add_mul] at h3
      omega
    have hsgn : f.infRung ≤ f.signWeight := by rw [hinf, hsw]; exact Nat.mul_le_mul_right _ (by omega)
    have hnear : f.nearest neg mag place = f.word neg (E * f.binade + kept) := by
      simp only [Ieee.Format.nearest, hm, if_false, hlast, hkept, hE]
      rw [Nat.min_eq_left (Nat.le_of_lt hrung)]
    rw [hnear]
    obtain ⟨r1, r2⟩ := word_read f neg (Nat.lt_of_lt_of_le hrung hsgn)
    have hnb : ¬ (E * f.binade + kept < f.binade) := by omega
    obtain ⟨frac, rfl⟩ := Nat.le.dest hk1
    have hrm : (E * f.binade + (f.binade + frac)) % f.binade = frac := by
      have hfr : frac < f.binade := by omega
      rw [show E * f.binade + (f.binade + frac) = frac + f.binade * (E + 1) from by rw [Nat.mul_add, Nat.mul_comm E]; omega, Nat.add_mul_mod_self_left, Nat.mod_eq_of_lt hfr]
    have hrd : (E * f.binade + (f.binade + frac)) / f.binade = E + 1 := by
      have hfr : frac < f.binade := by omega
      rw [show E * f.binade + (f.binade + frac) = frac + f.binade * (E + 1) from by rw [Nat.mul_add, Nat.mul_comm E]; omega, Nat.add_mul_div_left _ _ hbin, Nat.div_eq_of_lt hfr]
      omega
    simp only [Ieee.Format.read, r1, r2, hnb, if_false, hrung, if_true, hrm, hrd]
    have hneg : (neg.toNat == 1) = neg := by cases neg <;> rfl
    rw [hneg]
    refine Val.of_one (K := f.fractionBits) (by omega) ?_
    have hpl : (f.leastPlace + ((E + 1 - 1 : Nat) : Int) + (f.fractionBits : Int)).toNat = L := by omega
    rw [hpl, ← hk]
    have hs : ∀ a b : Nat, sgn neg (a * b) = sgn neg a * b := by intro a b; cases neg <;> simp [sgn, Int.neg_mul]
    rw [hs]
    have hsn : sgn neg n.natAbs = n := by
      have := h3 hm
      cases neg
      · simp only [Bool.false_eq_true, false_iff] at this; simp [sgn]; omega
      · simp only [true_iff] at this; simp [sgn]; omega
    rw [hsn, Int.mul_assoc]
    congr 1
    have : f.fractionBits = (f.fractionBits - L) + L := by omega
    rw [show (2 : Int) ^ f.fractionBits = 2 ^ (f.fractionBits - L) * 2 ^ L from by rw [← pow_split, ← this]]
    simp

/-! ### The model's operations -/

theorem IsF.lt {b : Nat} {n : Int} (h : IsF b n) : n.natAbs < 2 ^ (Ieee.single.fractionBits + 1) := by
  obtain ⟨_, h1, h2⟩ := h
  show n.natAbs < 16777216
  omega

theorem of_val {v : Ieee.Datum} {n : Int} (h : Val v n) (h1 : -16777216 < n) (h2 : n < 16777216) : IsF (Ieee.single.write v) n :=
  ⟨Val.write wide32 h (by show n.natAbs < 16777216; omega), h1, h2⟩

theorem isF_consts : IsF 0 0 ∧ IsF 1065353216 1 ∧ IsF 3212836864 (-1) := by
  refine ⟨⟨?_, by decide, by decide⟩, ⟨?_, by decide, by decide⟩, ⟨?_, by decide, by decide⟩⟩
  · exact Val.of_one (n := 0) (K := 149) (neg := false) (mag := 0) (place := -149) (by decide) (by decide)
  · exact Val.of_one (n := 1) (K := 23) (neg := false) (mag := 8388608) (place := -23) (by decide) (by decide)
  · exact Val.of_one (n := -1) (K := 23) (neg := true) (mag := 8388608) (place := -23) (by decide) (by decide)

section
variable {P : Program} (w : World)

theorem run_intToFloat {n : Int} (h1 : -16777216 < n) (h2 : n < 16777216) : ∃ b, (Conv.intToFloat .f32 n).run P w = .ok (.float .f32 b) w ∧ IsF b n := by
  refine ⟨_, rfl, ?_⟩
  refine of_val (v := .number (n < 0) n.natAbs 0) ?_ h1 h2
  refine Val.of_one (K := 0) (by decide) ?_
  rw [sgn_natAbs n _ (fun _ => rfl)]
  rfl

theorem run_floatToInt {b : Nat} {n : Int} (h : IsF b n) : (Conv.floatToInt .f32 b .i64).run P w = .ok (.int .i64 n) w := by
  have ht := h.1.toInt
  have h1 := h.2.1
  have h2 := h.2.2
  have hmin : IntKind.min .i64 = -9223372036854775808 := by decide
  have hmax : IntKind.max .i64 = 9223372036854775807 := by decide
  have hr : IntKind.min .i64 ≤ n ∧ n ≤ IntKind.max .i64 := by rw [hmin, hmax]; omega
  simp only [Conv.floatToInt, ht, hr, and_self, if_true, Sem.run_pure]

/-- A word of the wide format. -/
def IsD (b : Nat) (n : Int) : Prop := Val (FloatKind.f64.decode b) n

theorem run_conv_up {b : Nat} {n : Int} (h : IsF b n) : ∃ c, (Op.Complex.conv .f32 b .f64).run P w = .ok c w ∧ IsD c n := by
  obtain ⟨neg, mag, place, hd, hv⟩ := h.1
  have hw : Val (FloatKind.f64.decode (FloatKind.f64.encode (.number neg mag place))) n :=
    Val.write wide64 ⟨neg, mag, place, rfl, hv⟩ (Nat.lt_trans h.lt (by decide))
  refine ⟨_, ?_, hw⟩
  obtain ⟨n', m', p', hd', _⟩ := hw
  simp [Op.Complex.conv, Conv.floatToFloat, hd, hd', Ieee.Datum.isInfinity]

theorem run_conv_down {b : Nat} {n : Int} (h : IsD b n) (h1 : -16777216 < n) (h2 : n < 16777216) : ∃ c, (Op.Complex.conv .f64 b .f32).run P w = .ok c w ∧ IsF c n := by
  obtain ⟨neg, mag, place, hd, hv⟩ := h
  have hw : Val (FloatKind.f32.decode (FloatKind.f32.encode (.number neg mag place))) n :=
    Val.write wide32 ⟨neg, mag, place, rfl, hv⟩ (by show n.natAbs < 16777216; omega)
  refine ⟨_, ?_, hw, h1, h2⟩
  obtain ⟨n', m', p', hd', _⟩ := hw
  simp [Op.Complex.conv, Conv.floatToFloat, hd, hd', Ieee.Datum.isInfinity]

theorem run_arith_d {op : BinOp} {a b : Nat} {m n : Int} (ha : IsD a m) (hb : IsD b n) {r : Int}
    (hr : (op = .add ∧ r = m + n) ∨ (op = .sub ∧ r = m - n) ∨ (op = .mul ∧ r = m * n)) (hs : r.natAbs < 2 ^ 53) :
    ∃ c, (Op.Complex.arith op .f64 a b).run P w = .ok c w ∧ IsD c r := by
  have hs' : r.natAbs < 2 ^ (Ieee.double.fractionBits + 1) := hs
  rcases hr with ⟨rfl, rfl⟩ | ⟨rfl, rfl⟩ | ⟨rfl, rfl⟩
  · obtain ⟨d, h1, h2⟩ := Val.sum ha hb
    exact ⟨_, run_carith w (show floatBits .add .f64 a b = some (Ieee.double.write d) by
      show Ieee.Format.add Ieee.double a b = _
      rw [Ieee.Format.add]; erw [h1]; rfl), Val.write wide64 h2 hs'⟩
  · obtain ⟨d, h1, h2⟩ := Val.sum ha (Val.opposite hb)
    exact ⟨_, run_carith w (show floatBits .sub .f64 a b = some (Ieee.double.write d) by
      show Ieee.Format.sub Ieee.double a b = _
      rw [Ieee.Format.sub]; erw [h1]; rfl), Val.write wide64 (by rw [Int.sub_eq_add_neg]; exact h2) hs'⟩
  · obtain ⟨d, h1, h2⟩ := Val.product ha hb
    exact ⟨_, run_carith w (show floatBits .mul .f64 a b = some (Ieee.double.write d) by
      show Ieee.Format.mul Ieee.double a b = _
      rw [Ieee.Format.mul]; erw [h1]; rfl), Val.write wide64 h2 hs'⟩

theorem run_arith_f {op : BinOp} {a b : Nat} {m n : Int} (ha : IsF a m) (hb : IsF b n) {r : Int}
    (hr : (op = .add ∧ r = m + n) ∨ (op = .sub ∧ r = m - n)) (h1 : -16777216 < r) (h2 : r < 16777216) :
    ∃ c, (Op.Complex.arith op .f32 a b).run P w = .ok c w ∧ IsF c r := by
  rcases hr with ⟨rfl, rfl⟩ | ⟨rfl, rfl⟩
  · obtain ⟨d, e1, e2⟩ := Val.sum ha.1 hb.1
    exact ⟨_, run_carith w (show floatBits .add .f32 a b = some (Ieee.single.write d) by
      show Ieee.Format.add Ieee.single a b = _
      rw [Ieee.Format.add]; erw [e1]; rfl), of_val e2 h1 h2⟩
  · obtain ⟨d, e1, e2⟩ := Val.sum ha.1 (Val.opposite hb.1)
    exact ⟨_, run_carith w (show floatBits .sub .f32 a b = some (Ieee.single.write d) by
      show Ieee.Format.sub Ieee.single a b = _
      rw [Ieee.Format.sub]; erw [e1]; rfl), of_val (by rw [Int.sub_eq_add_neg]; exact e2) h1 h2⟩

theorem mul_small {m n : Int} (hm : m.natAbs < 16777216) (hn : n.natAbs < 16777216) : (m * n).natAbs < 281474976710656 := by
  rw [Int.natAbs_mul]
  have := Nat.mul_lt_mul'' hm hn
  simpa using this

theorem zcOp_run {op : BinOp} {T : TypeId} {a b c d : Int} {v : LV} (h : zcOp op a b c d = some (true, v)) {xa xb xc xd : Nat}
    (ha : IsF xa a) (hb : IsF xb b) (hc : IsF xc c) (hd : IsF xd d) :
    ∃ u, (binOp op T (.complex .f32 xa xb) (.complex .f32 xc xd)).run P w = .ok u w ∧ ∀ w' p β H, RepL w' p β H v u := by
  have na := ha.lt; have nb := hb.lt; have nc := hc.lt; have nd := hd.lt
  have e24 : (2 : Nat) ^ (Ieee.single.fractionBits + 1) = 16777216 := by decide
  rw [e24] at na nb nc nd
  cases op <;> simp only [zcOp, Option.some.injEq, Prod.mk.injEq, reduceCtorEq, Bool.and_eq_true, small24, decide_eq_true_eq] at h
  case add =>
    obtain ⟨⟨⟨h1, h2⟩, h3, h4⟩, rfl⟩ := h
    obtain ⟨x, r1, i1⟩ := run_arith_f (P := P) w ha hc (.inl ⟨rfl, rfl⟩) h1 h2
    obtain ⟨y, r2, i2⟩ := run_arith_f (P := P) w hb hd (.inl ⟨rfl, rfl⟩) h3 h4
    exact ⟨.complex .f32 x y, by simp [binOp, Op.complexOp, r1, r2], fun _ _ _ _ => ⟨x, y, rfl, i1, i2⟩⟩
  case sub =>
    obtain ⟨⟨⟨h1, h2⟩, h3, h4⟩, rfl⟩ := h
    obtain ⟨x, r1, i1⟩ := run_arith_f (P := P) w ha hc (.inr ⟨rfl, rfl⟩) h1 h2
    obtain ⟨y, r2, i2⟩ := run_arith_f (P := P) w hb hd (.inr ⟨rfl, rfl⟩) h3 h4
    exact ⟨.complex .f32 x y, by simp [binOp, Op.complexOp, r1, r2], fun _ _ _ _ => ⟨x, y, rfl, i1, i2⟩⟩
  case mul =>
    obtain ⟨⟨⟨h1, h2⟩, h3, h4⟩, rfl⟩ := h
    obtain ⟨ya, q1, j1⟩ := run_conv_up (P := P) w ha
    obtain ⟨yb, q2, j2⟩ := run_conv_up (P := P) w hb
    obtain ⟨yc, q3, j3⟩ := run_conv_up (P := P) w hc
    obtain ⟨yd, q4, j4⟩ := run_conv_up (P := P) w hd
    have m1 := mul_small na nc
    have m2 := mul_small nb nd
    have m3 := mul_small na nd
    have m4 := mul_small nb nc
    obtain ⟨zac, r1, k1⟩ := run_arith_d (P := P) w j1 j3 (op := .mul) (.inr (.inr ⟨rfl, rfl⟩)) (by omega)
    obtain ⟨zbd, r2, k2⟩ := run_arith_d (P := P) w j2 j4 (op := .mul) (.inr (.inr ⟨rfl, rfl⟩)) (by omega)
    obtain ⟨zad, r3, k3⟩ := run_arith_d (P := P) w j1 j4 (op := .mul) (.inr (.inr ⟨rfl, rfl⟩)) (by omega)
    obtain ⟨zbc, r4, k4⟩ := run_arith_d (P := P) w j2 j3 (op := .mul) (.inr (.inr ⟨rfl, rfl⟩)) (by omega)
    obtain ⟨zre, r5, k5⟩ := run_arith_d (P := P) w k1 k2 (op := .sub) (.inr (.inl ⟨rfl, rfl⟩)) (by omega)
    obtain ⟨zim, r6, k6⟩ := run_arith_d (P := P) w k3 k4 (op := .add) (.inl ⟨rfl, rfl⟩) (by omega)
    obtain ⟨x, r7, i1⟩ := run_conv_down (P := P) w k5 h1 h2
    obtain ⟨y, r8, i2⟩ := run_conv_down (P := P) w k6 h3 h4
    exact ⟨.complex .f32 x y, by simp [binOp, Op.complexOp, Op.Complex.product, Op.Complex.mul, Op.Complex.sub, Op.Complex.add, q1, q2, q3, q4, r1, r2, r3, r4, r5, r6, r7, r8], fun _ _ _ _ => ⟨x, y, rfl, i1, i2⟩⟩
end
end Go.Ev
