/- Decimal numerals: how they are read and written. No program in sight. -/
import Derived.Lib.ItoaNum
import Derived.Lib.AtoiAll
set_option linter.unusedSimpArgs false
namespace Go.Proofs.YtfpppijfkeidgaaGreatDoor
def isDig (c : UInt8) : Bool := decide (48 ≤ c.toNat) && decide (c.toNat ≤ 57)
def pv (a : Nat) (l : List UInt8) : Nat := l.foldl (fun a c => a * 10 + (c.toNat - 48)) a
theorem pv_cons (a : Nat) (c : UInt8) (l : List UInt8) : pv a (c :: l) = pv (a * 10 + (c.toNat - 48)) l := by unfold pv; rw [List.foldl_cons]
theorem pv_snoc (a : Nat) (l : List UInt8) (c : UInt8) : pv a (l ++ [c]) = pv a l * 10 + (c.toNat - 48) := by
 unfold pv; rw [List.foldl_append, List.foldl_cons, List.foldl_nil]
theorem pv_ge : ∀ (l : List UInt8) (a : Nat), a ≤ pv a l
 | [], a => Nat.le_refl a
 | c :: l, a => by rw [pv_cons]; have := pv_ge l (a * 10 + (c.toNat - 48)); omega
theorem pv_lt : ∀ (l : List UInt8) (a : Nat), (l.all isDig) = true → pv a l < (a + 1) * 10 ^ l.length
 | [], a, _ => by simp [pv]
 | c :: l, a, h => by
   simp only [List.all_cons, Bool.and_eq_true] at h
   have h1 := h.1
   simp only [isDig, Bool.and_eq_true, decide_eq_true_eq] at h1
   have ih := pv_lt l (a * 10 + (c.toNat - 48)) h.2
   rw [pv_cons, List.length_cons, Nat.pow_succ]
   have h2 : (a * 10 + (c.toNat - 48) + 1) * 10 ^ l.length ≤ (a + 1) * 10 * 10 ^ l.length := Nat.mul_le_mul_right _ (by omega)
   rw [Nat.mul_assoc, Nat.mul_comm 10] at h2
   omega
theorem dig_iff {c : UInt8} : isDig c = true ↔ 48 ≤ c.toNat ∧ c.toNat ≤ 57 := by simp [isDig]
theorem parse_ok : ∀ (l : List UInt8) (a : Nat), (l.all isDig) = true → pv a l < 18446744073709551616 → Lib.parseUint10 a l = .ok (pv a l)
 | [], a, _, _ => rfl
 | c :: l, a, h, hb => by
   simp only [List.all_cons, Bool.and_eq_true] at h
   have h1 := dig_iff.1 h.1
   have hg := pv_ge l (a * 10 + (c.toNat - 48))
   rw [pv_cons] at hb ⊢
   simp only [Lib.parseUint10]
   rw [if_pos h1, if_neg (by omega), if_neg (by omega)]
   exact parse_ok l _ h.2 hb
theorem ofNat_dig {c : UInt8} (h : isDig c = true) : UInt8.ofNat (48 + (c.toNat - 48)) = c := by
 have := dig_iff.1 h
 rw [show 48 + (c.toNat - 48) = c.toNat by omega]
 exact UInt8.ofNat_toNat
theorem dig_ofNat {d : Nat} (h : d < 10) : isDig (UInt8.ofNat (48 + d)) = true ∧ (UInt8.ofNat (48 + d)).toNat - 48 = d := by
 have : (UInt8.ofNat (48 + d)).toNat = 48 + d := by
  rw [UInt8.toNat_ofNat']
  omega
 rw [dig_iff, this]
 omega
theorem dd_small {u : Nat} (h : u < 10) : Lib.decDigits u = [UInt8.ofNat (48 + u)] := by rw [Lib.decDigits, dif_pos h]
theorem dd_big {u : Nat} (h : ¬ u < 10) : Lib.decDigits u = Lib.decDigits (u / 10) ++ [UInt8.ofNat (48 + u % 10)] := by rw [Lib.decDigits, dif_neg h]
theorem dd_spec (u : Nat) : (Lib.decDigits u).all isDig = true ∧ pv 0 (Lib.decDigits u) = u ∧ Lib.decDigits u ≠ [] ∧ (1 ≤ u → (Lib.decDigits u).head? ≠ some 48) := by
 induction u using Nat.strongRecOn with
 | _ u ih =>
   by_cases h : u < 10
   ·rw [dd_small h]
    have := dig_ofNat h
    refine ⟨by rw [List.all_cons, this.1]; rfl, by rw [pv_cons, this.2, Nat.zero_mul, Nat.zero_add]; rfl, by simp, fun h1 e => ?_⟩
    have e : UInt8.ofNat (48 + u) = 48 := by simpa using e
    have e2 := this.2
    rw [e] at e2
    simp at e2
    omega
   ·obtain ⟨h1, h2, h3, h4⟩ := ih (u / 10) (by omega)
    have := dig_ofNat (show u % 10 < 10 by omega)
    rw [dd_big h]
    refine ⟨by rw [List.all_append, h1, List.all_cons, this.1]; rfl, by rw [pv_snoc, h2, this.2]; omega, by simp, fun _ e => ?_⟩
    refine h4 (by omega) ?_
    rw [List.head?_append] at e
    cases hh : (Lib.decDigits (u / 10)).head? with
    | none => exact absurd (List.head?_eq_none_iff.1 hh) h3
    | some x => rw [hh] at e; simpa using e
theorem dd_unique : ∀ (n : Nat) (l : List UInt8), l.length = n → l.all isDig = true → l ≠ [] → (l.head? ≠ some 48 ∨ l.length = 1) → Lib.decDigits (pv 0 l) = l
 | 0, l, hn, _, hne, _ => absurd (List.eq_nil_of_length_eq_zero hn) hne
 | n + 1, l, hn, hd, hne, hc => by
   obtain ⟨xs, c, rfl⟩ : ∃ xs c, l = xs ++ [c] := ⟨l.dropLast, l.getLast hne, (List.dropLast_concat_getLast hne).symm⟩
   simp only [List.all_append, List.all_cons, List.all_nil, Bool.and_true, Bool.and_eq_true] at hd
   have hcd := dig_iff.1 hd.2
   rw [pv_snoc]
   cases xs with
   | nil =>
     have e : pv 0 [] = 0 := rfl
     rw [e, dd_small (by omega), Nat.zero_mul, Nat.zero_add, ofNat_dig hd.2]
     rfl
   | cons x xs =>
     have hx : x ≠ 48 := by
      rcases hc with h | h
      ·intro e; exact h (by simp [e])
      ·simp at h
     have hxd := dig_iff.1 (List.all_eq_true.1 hd.1 x (by simp))
     have hx1 : 1 ≤ x.toNat - 48 := by
      have : x.toNat ≠ 48 := fun e => hx (UInt8.toNat_inj.1 e)
      omega
     have hpos : 1 ≤ pv 0 (x :: xs) := by
      rw [pv_cons]
      have := pv_ge xs (0 * 10 + (x.toNat - 48))
      omega
     have ih := dd_unique n (x :: xs) (by simp at hn ⊢; omega) hd.1 (by simp) (.inl (by simpa using hx))
     rw [dd_big (by omega), show (pv 0 (x :: xs) * 10 + (c.toNat - 48)) / 10 = pv 0 (x :: xs) by omega, show (pv 0 (x :: xs) * 10 + (c.toNat - 48)) % 10 = c.toNat - 48 by omega, ih, ofNat_dig hd.2]
def trimS (l : List UInt8) : List UInt8 := if l.head? = some 45 then l.drop 1 else l
def numR (l : List UInt8) (d : Nat) : Option Int :=
 if trimS l = [] ∨ d < (trimS l).length ∨ ((trimS l).head? = some 48 ∧ 1 < l.length) then none
 else if (trimS l).all isDig then some (if l.head? = some 45 then -(pv 0 (trimS l) : Int) else (pv 0 (trimS l) : Int)) else none
theorem head_dig {l : List UInt8} {c : UInt8} (h : l.all isDig = true) (hc : l.head? = some c) : isDig c = true := by
 cases l with
 | nil => cases hc
 | cons x l => obtain rfl := Option.some.inj hc; exact List.all_eq_true.1 h _ (by simp)
theorem itoa_neg {m : Nat} (h : 1 ≤ m) : Lib.itoa (-(m : Int)) = 45 :: Lib.decDigits m := by
 unfold Lib.itoa
 rw [if_pos (by omega)]
 simp
theorem itoa_nat (m : Nat) : Lib.itoa (m : Int) = Lib.decDigits m := by
 unfold Lib.itoa
 rw [if_neg (by omega)]
 simp
theorem numR_iff {l : List UInt8} {d : Nat} {n : Int} : numR l d = some n ↔ l = Lib.itoa n ∧ (trimS l).length ≤ d := by
 constructor
 ·intro h
  unfold numR at h
  split at h
  ·cases h
  rename_i hn
  have h1 : trimS l ≠ [] := fun e => hn (.inl e)
  have h2 : (trimS l).length ≤ d := by
   rcases Nat.lt_or_ge d (trimS l).length with h | h
   ·exact absurd (.inr (.inl h)) hn
   ·exact h
  have h3 : ¬ ((trimS l).head? = some 48 ∧ 1 < l.length) := fun e => hn (.inr (.inr e))
  split at h
  case isFalse => cases h
  rename_i hd
  refine ⟨?_, h2⟩
  have h := Option.some.inj h
  by_cases hs : l.head? = some 45
  ·have ht : trimS l = l.drop 1 := by unfold trimS; rw [if_pos hs]
   rw [if_pos hs] at h
   obtain ⟨r, rfl⟩ : ∃ r, l = 45 :: r := by
    cases l with
    | nil => cases hs
    | cons x l => obtain rfl := Option.some.inj hs; exact ⟨l, rfl⟩
   have ht : trimS (45 :: r) = r := ht
   rw [ht] at h1 h3 hd h
   have hh : r.head? ≠ some 48 := fun e => h3 ⟨e, by cases r with | nil => exact absurd rfl h1 | cons _ _ => simp⟩
   have hu := dd_unique r.length r rfl hd h1 (.inl hh)
   have hp : 1 ≤ pv 0 r := by
    rcases Nat.eq_zero_or_pos (pv 0 r) with e | e
    ·rw [e] at hu
     rw [← hu] at hh
     exact absurd (by rw [dd_small (by omega)]; rfl) hh
    ·exact e
   rw [← h, itoa_neg hp, hu]
  ·have ht : trimS l = l := by unfold trimS; rw [if_neg hs]
   rw [if_neg hs] at h
   rw [ht] at h1 h3 hd h
   have hu := dd_unique l.length l rfl hd h1 (by
    by_cases e : l.head? = some 48
    ·right
     have : ¬ 1 < l.length := fun e2 => h3 ⟨e, e2⟩
     cases l with
     | nil => exact absurd rfl h1
     | cons _ _ => simp at this ⊢; omega
    ·exact .inl e)
   rw [← h, itoa_nat, hu]
 ·rintro ⟨rfl, hl⟩
  rcases Int.lt_or_le n 0 with hn | hn
  ·obtain ⟨m, rfl⟩ : ∃ m : Nat, n = -(m : Int) := ⟨n.natAbs, by omega⟩
   have hm : 1 ≤ m := by omega
   rw [itoa_neg hm] at hl ⊢
   obtain ⟨h1, h2, h3, h4⟩ := dd_spec m
   have ht : trimS (45 :: Lib.decDigits m) = Lib.decDigits m := rfl
   rw [ht] at hl
   unfold numR
   rw [ht, if_neg (by
    rintro (e | e | ⟨e, _⟩)
    ·exact h3 e
    ·omega
    ·exact h4 hm e), if_pos h1, if_pos (show (45 :: Lib.decDigits m).head? = some 45 from rfl), h2]
  ·obtain ⟨m, rfl⟩ : ∃ m : Nat, n = (m : Int) := ⟨n.toNat, by omega⟩
   rw [itoa_nat] at hl ⊢
   obtain ⟨h1, h2, h3, h4⟩ := dd_spec m
   have hs : (Lib.decDigits m).head? ≠ some 45 := fun e => by
    have := head_dig h1 e
    revert this; decide
   have ht : trimS (Lib.decDigits m) = Lib.decDigits m := by unfold trimS; rw [if_neg hs]
   rw [ht] at hl
   unfold numR
   rw [ht, if_neg (by
    rintro (e | e | ⟨e, e2⟩)
    ·exact h3 e
    ·omega
    ·rcases Nat.eq_zero_or_pos m with rfl | hm
     ·rw [dd_small (by omega)] at e2
      simp at e2
     ·exact h4 hm e), if_pos h1, if_neg hs, h2]
theorem atoi_cons {c : UInt8} {r : List UInt8} {u : Nat} (hp : Lib.parseMag (if c.toNat = 43 ∨ c.toNat = 45 then r else c :: r) = .ok u) (h1 : ¬ (¬ c.toNat = 45 ∧ 9223372036854775808 ≤ u)) (h2 : ¬ (c.toNat = 45 ∧ 9223372036854775808 < u)) : Lib.atoiAll (c :: r) = .ok (if c.toNat = 45 then -(u : Int) else u) := by
 simp only [Lib.atoiAll]
 rw [hp]
 simp only []
 rw [if_neg h1, if_neg h2]
theorem atoi_itoa {n : Int} (h1 : -9223372036854775808 ≤ n) (h2 : n ≤ 9223372036854775807) : Lib.atoiAll (Lib.itoa n) = .ok n := by
 rcases Int.lt_or_le n 0 with hn | hn
 ·obtain ⟨m, rfl⟩ : ∃ m : Nat, n = -(m : Int) := ⟨n.natAbs, by omega⟩
  have hm : 1 ≤ m := by omega
  obtain ⟨a1, a2, a3, a4⟩ := dd_spec m
  rw [itoa_neg hm]
  have hp : Lib.parseMag (Lib.decDigits m) = .ok m := by
   unfold Lib.parseMag
   rw [if_neg a3, parse_ok _ 0 a1 (by rw [a2]; omega), a2]
  have h45 : (45 : UInt8).toNat = 45 := rfl
  rw [atoi_cons (u := m) (by rw [if_pos (.inr h45)]; exact hp) (fun h => h.1 h45) (fun h => by omega), if_pos h45]
 ·obtain ⟨m, rfl⟩ : ∃ m : Nat, n = (m : Int) := ⟨n.toNat, by omega⟩
  obtain ⟨a1, a2, a3, a4⟩ := dd_spec m
  rw [itoa_nat]
  have hp : Lib.parseMag (Lib.decDigits m) = .ok m := by
   unfold Lib.parseMag
   rw [if_neg a3, parse_ok _ 0 a1 (by rw [a2]; omega), a2]
  cases hl : Lib.decDigits m with
  | nil => exact absurd hl a3
  | cons c r =>
    have hc := dig_iff.1 (head_dig a1 (by rw [hl]; rfl))
    rw [atoi_cons (u := m) (by rw [if_neg (by omega), ← hl]; exact hp) (fun h => by omega) (fun h => by omega), if_neg (by omega)]
def numP (l : List UInt8) (d : Nat) : Option Int := match Lib.atoiAll l with
 | .ok v => if Lib.itoa v = l ∧ (trimS l).length ≤ d then some v else none
 | _ => none
theorem numP_iff {l : List UInt8} {d : Nat} (hd : d ≤ 18) {n : Int} : numP l d = some n ↔ l = Lib.itoa n ∧ (trimS l).length ≤ d := by
 constructor
 ·intro h
  unfold numP at h
  split at h
  ·split at h
   ·rename_i hc
    obtain rfl := Option.some.inj h
    exact ⟨hc.1.symm, hc.2⟩
   ·cases h
  ·cases h
 ·rintro ⟨rfl, hl⟩
  have hb : ∀ m : Nat, (Lib.decDigits m).length ≤ 18 → m < 1000000000000000000 := fun m hm => by
   obtain ⟨a1, a2, _, _⟩ := dd_spec m
   have := pv_lt _ 0 a1
   rw [a2] at this
   have h3 : 10 ^ (Lib.decDigits m).length ≤ 10 ^ 18 := Nat.pow_le_pow_right (by omega) hm
   omega
  have hr : -9223372036854775808 ≤ n ∧ n ≤ 9223372036854775807 := by
   rcases Int.lt_or_le n 0 with hn | hn
   ·obtain ⟨m, rfl⟩ : ∃ m : Nat, n = -(m : Int) := ⟨n.natAbs, by omega⟩
    rw [itoa_neg (by omega)] at hl
    have ht : trimS (45 :: Lib.decDigits m) = Lib.decDigits m := rfl
    rw [ht] at hl
    have := hb m (by omega)
    omega
   ·obtain ⟨m, rfl⟩ : ∃ m : Nat, n = (m : Int) := ⟨n.toNat, by omega⟩
    have hs : (Lib.decDigits m).head? ≠ some 45 := fun e => by
     have := head_dig (dd_spec m).1 e
     revert this; decide
    rw [itoa_nat] at hl
    have ht : trimS (Lib.decDigits m) = Lib.decDigits m := by unfold trimS; rw [if_neg hs]
    rw [ht] at hl
    have := hb m (by omega)
    omega
  unfold numP
  rw [atoi_itoa hr.1 hr.2]
  simp only []
  rw [if_pos ⟨trivial, hl⟩]
theorem num_same (l : List UInt8) {d : Nat} (hd : d ≤ 18) : numP l d = numR l d := by
 cases h : numR l d with
 | some n => exact (numP_iff hd).2 (numR_iff.1 h)
 | none =>
   cases h2 : numP l d with
   | none => rfl
   | some n =>
     have := numR_iff.2 ((numP_iff hd).1 h2)
     rw [h] at this; cases this
end Go.Proofs.YtfpppijfkeidgaaGreatDoor
