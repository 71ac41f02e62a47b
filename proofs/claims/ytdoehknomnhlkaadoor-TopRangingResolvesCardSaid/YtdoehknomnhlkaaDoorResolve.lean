/- TopRangingResolves: its law holds. -/
import Derived.Test.YtdoehknomnhlkaaDoorAllPart
import Derived.Test.YtdoehknomnhlkaaDoorSets7
import Derived.Test.YtdoehknomnhlkaaDoorGt2
set_option linter.unusedSimpArgs false
namespace Go.Proofs.YtdoehknomnhlkaaDoor
open Go.Ev
def tn (d p e : Int) : Tn := (p, (d - e) % p, (d - e) % p + e)
def okP (p e : Int) : Prop := (1 ≤ p ∧ p ≤ 100000) ∧ 0 ≤ e ∧ e ≤ p - 1
theorem tn_ok {d p e : Int} (h : okP p e) : tErr (tn d p e) = 0 := by
 obtain ⟨h1, h2, h3⟩ := h
 have a1 := Int.emod_nonneg (d - e) (show p ≠ 0 by omega)
 have a2 := Int.emod_lt_of_pos (d - e) (show 0 < p by omega)
 unfold tErr tn
 simp only [show win p 1 100000 = true from win_iff.2 h1, show win ((d - e) % p) 0 (p - 1) = true from win_iff.2 (by omega), decide_eq_true (show (d - e) % p ≤ (d - e) % p + e by omega), decide_eq_true (show (d - e) % p + e ≤ (d - e) % p + p - 1 by omega)]
 rfl
theorem tn_fit {d p e : Int} (h : okP p e) : fitB (tn d p e) d = true := by
 obtain ⟨h1, h2, h3⟩ := h
 unfold fitB tn
 have e1 : (d - (d - e) % p) % p = e := by
  have : d - (d - e) % p = e + p * ((d - e) / p) := by have := Int.emod_add_mul_ediv (d - e) p; omega
  rw [this, Int.add_mul_emod_self_left, Int.emod_eq_of_lt h2 (by omega)]
 simp only [e1]
 exact decide_eq_true (by omega)
theorem tn_exact {d p x : Int} (h : 1 ≤ p) (hf : fitB (tn d p 0) x = true) : p ∣ x - d := by
 unfold fitB tn at hf
 have hf := of_decide_eq_true hf
 simp only [Int.sub_zero, Int.add_zero, Int.sub_self] at hf
 have a1 := Int.emod_nonneg (x - d % p) (show p ≠ 0 by omega)
 have hz : (x - d % p) % p = 0 := by omega
 have hd : p ∣ x - d % p := Int.dvd_of_emod_eq_zero hz
 have hd2 : p ∣ d - d % p := by have := Int.emod_add_mul_ediv d p; exact ⟨d / p, by omega⟩
 have := Int.dvd_sub hd hd2
 rwa [show x - d % p - (d - d % p) = x - d by omega] at this
section
variable (d : Int) (P E : List Int)
def tnL (k : Nat) : List Tn := (List.range k).map fun j => tn d (P.getD j 0) (E.getD j 0)
def exL (k : Nat) : Bool := (List.range k).all fun j => E.getD j 0 == 0
theorem tnL_succ (k : Nat) : tnL d P E (k + 1) = tnL d P E k ++ [tn d (P.getD k 0) (E.getD k 0)] := by unfold tnL; rw [List.range_succ, List.map_append]; rfl
theorem exL_succ (k : Nat) : exL E (k + 1) = (exL E k && (E.getD k 0 == 0)) := by unfold exL; rw [List.range_succ, List.all_append]; simp
theorem tnL_len (k : Nat) : (tnL d P E k).length = k := by unfold tnL; simp
variable {d P E}
theorem build (hd : 0 ≤ d ∧ d ≤ 1000000000) (prior : Int × Int) (hl : P.length ≤ 7) (he : E.length = P.length) : ∀ (m k : Nat), k + m = P.length → (∀ j, j < k → okP (P.getD j 0) (E.getD j 0)) →
 loopVal step4_0 (d, P, E, exL E k, tnL d P E k, (k : Int), prior) = some (.inl true) ∨ ((∀ j, j < P.length → okP (P.getD j 0) (E.getD j 0)) ∧ loopVal step4_0 (d, P, E, exL E k, tnL d P E k, (k : Int), prior) = some (.inr (d, exL E P.length, tnL d P E P.length, prior)))
 | 0, k, hk, hv => by
   obtain rfl : k = P.length := by omega
   exact .inr ⟨hv, loopVal_last (by simp only [step4_0, lt_cast, Nat.lt_irrefl, decide_false, cond_false])⟩
 | m + 1, k, hk, hv => by
   have hk' : k < P.length := by omega
   have hke : k < E.length := by omega
   obtain ⟨p, hp⟩ : ∃ p, P.getD k 0 = p := ⟨_, rfl⟩
   obtain ⟨e, hee⟩ : ∃ e, E.getD k 0 = e := ⟨_, rfl⟩
   cases h1 : win p 1 100000 with
   | false =>
     left
     refine loopVal_last ?_
     simp only [step4_0, lt_cast, inB_cast, hk', decide_true, cond_true, Int.toNat_natCast, hp, h1, Bool.not_false]
   | true =>
   have w1 := win_iff.1 h1
   have hw : wr (p - 1) = p - 1 := wr_id (by omega) (by omega)
   cases h2 : win e 0 (p - 1) with
   | false =>
     left
     refine loopVal_last ?_
     simp only [step4_0, lt_cast, inB_cast, hk', hke, decide_true, cond_true, Int.toNat_natCast, hp, hee, h1, hw, h2, Bool.not_false, Bool.not_true, cond_false]
   | true =>
   have w2 := win_iff.1 h2
   have hok : okP p e := ⟨w1, w2⟩
   have a1 := Int.emod_nonneg (d - e) (show p ≠ 0 by omega)
   have a2 := Int.emod_lt_of_pos (d - e) (show 0 < p by omega)
   have hm : s16 (wr (d - e), p) = some ((d - e) % p) := by
    unfold s16
    rw [wr_id (n := d - e) (by omega) (by omega)]
    exact mod_law (by omega) (by omega)
   have hln := tnL_len d P E k
   have hs : step4_0 (d, P, E, exL E k, tnL d P E k, (k : Int), prior) = some (.inl (d, P, E, exL E (k + 1), tnL d P E (k + 1), ((k + 1 : Nat) : Int), prior)) := by
    rw [tnL_succ, exL_succ]
    simp only [step4_0, lt_cast, inB_cast, hk', hke, decide_true, cond_true, Int.toNat_natCast, hp, hee, h1, hw, h2, Bool.not_true, cond_false, hm, optE_some,
     wr_id (n := (d - e) % p + e) (by omega) (by omega), room_true (b := 24) (n := (tnL d P E k).length + 1) (by omega) (by omega), wr_succ (show k < 4611686018427387904 by omega)]
    cases exL E k <;> rfl
   rw [loopVal_next hs]
   exact build hd prior hl he m (k + 1) (by omega) fun j hj => by
    by_cases hjk : j = k
    ·subst hjk; rw [hp, hee]; exact hok
    ·exact hv j (by omega)
end
theorem limE_eq {lim : Int × Int} : limE lim = 0 → win lim.1 0 1000000000 = true := fun h => win_iff.2 (by have := limE_zero h; omega)
theorem resolves_true (y : Int × (List Int) × (List Int) × Int × Int) : s4 y = some true := by
 obtain ⟨d, P, E, lo, hi⟩ := y
 unfold s4
 simp only [Bool.not_true, cond_false]
 cases hd : win d 0 1000000000 with
 | false => rfl
 | true =>
 have wd := win_iff.1 hd
 simp only [Bool.not_true, cond_false]
 by_cases h0 : P.length = 0
 ·rw [h0]; rfl
 rw [show ((P.length : Int) == 0) = false from beq_eq_false_iff_ne.2 (by omega), cond_false]
 by_cases h8 : (P.length : Int) ≥ 8
 ·rw [decide_eq_true h8]; rfl
 rw [decide_eq_false h8, cond_false]
 by_cases he : E.length = P.length
 case neg => rw [show ((E.length : Int) != (P.length : Int)) = true by rw [bne_iff_ne]; omega]; rfl
 rw [show ((E.length : Int) != (P.length : Int)) = false by rw [he]; exact bne_self_eq_false _, cond_false, limErr_eq, optE_some]
 by_cases hlim : limE (lo, hi) = 0
 case neg => rw [show (limE (lo, hi) != 0) = true by simpa using hlim]; rfl
 rw [hlim, show ((0 : Int) != 0) = false from rfl, cond_false]
 obtain ⟨l1, l2, l3, l4⟩ := limE_zero hlim
 simp only at l1 l2 l3 l4
 have hwr : wr (hi - lo) = hi - lo := wr_id (by omega) (by omega)
 rw [hwr]
 by_cases h6 : hi - lo ≥ 600
 ·rw [decide_eq_true h6]; rfl
 rw [decide_eq_false h6, cond_false]
 cases hw : win d lo hi with
 | false => rfl
 | true =>
 have ww := win_iff.1 hw
 simp only [Bool.not_true, cond_false]
 rcases build (P := P) (E := E) wd (lo, hi) (by omega) he P.length 0 (by omega) (fun j hj => by omega) with hb | ⟨hv, hb⟩
 ·have hb : loopVal step4_0 (d, P, E, true, [], 0, lo, hi) = _ := hb
  rw [hb]; rfl
 have hb : loopVal step4_0 (d, P, E, true, [], 0, lo, hi) = _ := hb
 have hlen := tnL_len d P E P.length
 have hall : ∀ t ∈ tnL d P E P.length, tErr t = 0 := fun t ht => by
  unfold tnL at ht
  obtain ⟨j, hj, rfl⟩ := List.mem_map.1 ht
  exact tn_ok (hv j (List.mem_range.1 hj))
 have hfit : fitL (tnL d P E P.length) d = true := by
  unfold fitL
  rw [List.all_eq_true]
  intro t ht
  unfold tnL at ht
  obtain ⟨j, hj, rfl⟩ := List.mem_map.1 ht
  exact tn_fit (hv j (List.mem_range.1 hj))
 have hex : exL E P.length = true → ∀ x, fitL (tnL d P E P.length) x = true → ∀ t ∈ tnL d P E P.length, t.1 ∣ x - d := fun hx x hf t ht => by
  unfold fitL at hf
  rw [List.all_eq_true] at hf
  have hf := hf t ht
  unfold tnL at ht
  obtain ⟨j, hj, rfl⟩ := List.mem_map.1 ht
  unfold exL at hx
  rw [List.all_eq_true] at hx
  have hz : E.getD j 0 = 0 := by simpa using hx j hj
  rw [hz] at hf ⊢
  exact tn_exact (hv j (List.mem_range.1 hj)).1.1 hf
 rw [hb]
 simp only [optE_some, sumE_r]
 generalize tnL d P E P.length = l at hlen hall hfit hex
 generalize exL E P.length = ex at hex
 have hc : (chkT l).2 = 0 := (chkE_zero tErr (0, 0, 0) 8 l).2 ⟨by omega, hall⟩
 have ht : tonE l (lo, hi) = 0 := by unfold tonE; rw [hc]; exact hlim
 rw [copyT l (by omega)]
 simp only [optE_some, chkT1, hc, bne_self_eq_false, cond_false, none7 l (lo, hi) d (by omega) ht ww hfit, amb_prog hc, res_good ht]
 have hone : ∀ a : Option Int, ambF l 1 = a → ex = true → (∀ v, a = some v → v > hi - lo) → cands l (lo, hi) = [(d, d)] := fun a ha hx hv => cand_one (lim := (lo, hi)) (by simp only; omega) ww hfit fun z z1 z2 zf => by
  simp only at z1 z2
  obtain ⟨k1, k2⟩ := amb_least l 1 (z - d) hall (by omega) (by omega) (Int.one_dvd _) (hex hx z zf)
  cases a with
  | none =>
    rcases k2 ha with h | h
    ·omega
    ·omega
  | some v =>
    have hdv := k1 v ha
    have hpos := (amb_facts l 1 v hall (by omega) (by omega) ha).1
    have := hv v rfl
    by_cases hz : z - d = 0
    ·omega
    ·have := Nat.le_of_dvd (by omega) (Int.natAbs_dvd_natAbs.2 hdv)
     omega
 have hin := cands_inv (l := l) (lim := (lo, hi)) (by simp only; omega)
 obtain ⟨r0, hr0, hr1⟩ := (hin.2.2 d).2 ⟨ww.1, by simp only; omega, hfit⟩
 have hpos : (cands l (lo, hi)).length ≠ 0 := fun e => by rw [List.eq_nil_of_length_eq_zero e] at hr0; cases hr0
 have hsingle : (cands l (lo, hi)).length = 1 → win d ((cands l (lo, hi)).getD 0 (0, 0)).1 ((cands l (lo, hi)).getD 0 (0, 0)).2 = true := fun e => by
  match hcs : cands l (lo, hi), e with
  | [a], _ =>
    rw [hcs] at hr0
    obtain rfl := List.mem_singleton.1 hr0
    exact win_iff.2 hr1
 unfold resE
 rw [if_neg hpos]
 have d1 : ((d == d) && ((d == d) && true)) = true := by simp
 have hwr : wr (hi - lo) = hi - lo := by
  obtain ⟨l1, l2, l3, l4⟩ := limE_zero hlim
  simp only at l1 l2 l3 l4
  exact wr_id (by omega) (by omega)
 by_cases h1 : (cands l (lo, hi)).length = 1
 ·rw [if_pos h1, hsingle h1]
  cases ha : ambF l 1 with
  | none =>
    cases ex with
    | false => rfl
    | true =>
      rw [hone none ha rfl (fun v hv => by cases hv)]
      simp only [List.getD_cons_zero, d1]
      rfl
  | some v =>
    cases ex with
    | false => rfl
    | true =>
      by_cases hgt : v > hi - lo
      ·rw [hone (some v) ha rfl (fun w hw => by obtain rfl := Option.some.inj hw; exact hgt)]
       simp only [List.getD_cons_zero, d1, hwr, decide_eq_true hgt]
       rfl
      ·simp only [hwr, decide_eq_false hgt]
       rfl
 ·rw [if_neg h1]
  cases ha : ambF l 1 with
  | none =>
    cases ex with
    | false => rfl
    | true => exact absurd (by rw [hone none ha rfl (fun v hv => by cases hv)]; rfl) h1
  | some v =>
    cases ex with
    | false => rfl
    | true =>
      by_cases hgt : v > hi - lo
      ·exact absurd (by rw [hone (some v) ha rfl (fun w hw => by obtain rfl := Option.some.inj hw; exact hgt)]; rfl) h1
      ·simp only [hwr, decide_eq_false hgt]
       rfl
end Go.Proofs.YtdoehknomnhlkaaDoor
