/- Chapter 2: packets and streams, in plain Lean. -/
import Derived.Test.YtinkhmfciealkaaPure02
set_option linter.unusedSimpArgs false
namespace Go.Proofs.Ytinkhmfciealkaa
open Go.Ev

theorem pktEq_iff {a b : Pkt} : pktEq a b = true ↔ a = b := by
  constructor
  · intro h
    simp only [pktEq, Bool.and_eq_true, beq_iff_eq, and_true] at h
    simp only [Prod.ext_iff]
    simp [h]
  · rintro rfl
    simp [pktEq]
theorem pktEq_ne {a b : Pkt} (h : a ≠ b) : pktEq a b = false := by
  cases e : pktEq a b
  · rfl
  · exact absurd (pktEq_iff.1 e) h
def okPkt (p : Pkt) : Bool := win p.1 0 1023 && (win p.2.1 1 100 && (okG 2000 p.2.2.1 && (okG 2000 p.2.2.2.1 && (okG 2000 p.2.2.2.2.1 && (okG 2000 p.2.2.2.2.2.1 && (okG 2000 p.2.2.2.2.2.2.1 && (okG 2000 p.2.2.2.2.2.2.2.1 && (okG 2000 p.2.2.2.2.2.2.2.2.1 && (okG 2000 p.2.2.2.2.2.2.2.2.2)))))))))
def samplesOf (p : Pkt) : List (Int × Int) := [p.2.2.1, p.2.2.2.1, p.2.2.2.2.1, p.2.2.2.2.2.1, p.2.2.2.2.2.2.1, p.2.2.2.2.2.2.2.1, p.2.2.2.2.2.2.2.2.1, p.2.2.2.2.2.2.2.2.2]

/-! The nearest number -/

def best (a c : Int) : Int := if a + (c - a) % 1024 - 1024 ≥ 0 ∧ a - (a + (c - a) % 1024 - 1024) < a + (c - a) % 1024 - a then a + (c - a) % 1024 - 1024 else a + (c - a) % 1024
def inR (a c : Int) : Bool := win a 0 1000000000 && win c 0 1023
theorem inR_spec {a c : Int} : inR a c = true ↔ 0 ≤ a ∧ a ≤ 1000000000 ∧ 0 ≤ c ∧ c ≤ 1023 := by
  simp only [inR, Bool.and_eq_true, win_iff]; omega
def tail88 (a t : Int) : Option Int :=
  bif decide (wr (t - 1024) ≥ 0) then (bif decide (wr (a - wr (t - 1024)) < wr (t - a)) then some (wr (t - 1024)) else some t) else some t
theorem tail88_eq {a t : Int} (_ha : 0 ≤ a) (ha' : a ≤ 1000000000) (h1 : a ≤ t) (h2 : t < a + 1024) : tail88 a t = some (if t - 1024 ≥ 0 ∧ a - (t - 1024) < t - a then t - 1024 else t) := by
  unfold tail88
  rw [wr_id (n := t - 1024) (by omega) (by omega), wr_id (n := a - (t - 1024)) (by omega) (by omega), wr_id (n := t - a) (by omega) (by omega)]
  by_cases h3 : t - 1024 ≥ 0
  · rw [decide_eq_true h3, cond_true]
    by_cases h4 : a - (t - 1024) < t - a
    · rw [decide_eq_true h4, cond_true, if_pos ⟨h3, h4⟩]
    · rw [decide_eq_false h4, cond_false, if_neg (fun h => h4 h.2)]
  · rw [decide_eq_false h3, cond_false, if_neg (fun h => h3 h.1)]
theorem nearest_law {a c : Int} (hr : inR a c = true) : (bif decide (wr (a + (wr (c - a)).tmod 1024) < a) then tail88 a (wr (wr (a + (wr (c - a)).tmod 1024) + 1024)) else tail88 a (wr (a + (wr (c - a)).tmod 1024))) = some (best a c) := by
  obtain ⟨ha, ha', hc, hc'⟩ := inR_spec.1 hr
  rw [wr_id (n := c - a) (by omega) (by omega), tmod_neg_iff (show (0 : Int) < 1024 by omega)]
  by_cases hs : c - a < 0 ∧ (c - a) % 1024 ≠ 0
  · rw [if_pos hs, wr_id (n := a + ((c - a) % 1024 - 1024)) (by omega) (by omega), decide_eq_true (by omega), cond_true, wr_id (by omega) (by omega), tail88_eq ha ha' (by omega) (by omega)]
    have e : a + ((c - a) % 1024 - 1024) + 1024 = a + (c - a) % 1024 := by omega
    rw [e]; rfl
  · rw [if_neg hs, wr_id (n := a + (c - a) % 1024) (by omega) (by omega), decide_eq_false (by omega), cond_false, tail88_eq ha ha' (by omega) (by omega)]
    rfl
theorem best_facts {a c : Int} (ha : 0 ≤ a) : 0 ≤ best a c ∧ (best a c - c) % 1024 = 0 ∧ a - 1024 < best a c ∧ best a c < a + 1024 := by
  unfold best
  split <;> omega
def sizeI (x : Int) : Int := if -x > x then -x else x
theorem sizeW_eq {x : Int} (h1 : -9000000000000000000 ≤ x) (h2 : x ≤ 9000000000000000000) : sizeW x = sizeI x := by
  unfold sizeW sizeI mx
  rw [wr_id (by omega) (by omega)]
theorem best_near {a c b : Int} (ha : 0 ≤ a) (hb : 0 ≤ b) (hm : (b - c) % 1024 = 0) : sizeI (best a c - a) ≤ sizeI (b - a) := by
  unfold best sizeI
  split <;> split <;> split <;> omega
theorem best_after {a c n : Int} (_ : 0 ≤ a) (hn : best a c < n) (hm : (n - c) % 1024 = 0) : ¬ sizeI (n - a) ≤ sizeI (best a c - a) := by
  revert hn
  unfold best sizeI
  split <;> intro hn <;> split <;> split <;> omega
def pickB (a c b n : Int) : Int := if n ≥ 0 ∧ (n - c) % 1024 = 0 ∧ sizeI (n - a) ≤ sizeI (b - a) then n else b
/-- A search through so many numbers. -/
def searchTo (a c : Int) (n0 : Int) : Nat → Int
  | 0 => c
  | k + 1 => pickB a c (searchTo a c n0 k) (n0 + k)
theorem search_facts {a c n0 : Int} (ha : 0 ≤ a) (hc : 0 ≤ c ∧ c ≤ 1023) (hn : n0 ≤ best a c) : ∀ k : Nat, (searchTo a c n0 k - c) % 1024 = 0 ∧ 0 ≤ searchTo a c n0 k ∧ (searchTo a c n0 k = c ∨ searchTo a c n0 k < n0 + k) ∧ (best a c < n0 + k → searchTo a c n0 k = best a c)
  | 0 => by simp [searchTo]; omega
  | k + 1 => by
    obtain ⟨h1, h2, h3, h4⟩ := search_facts ha hc hn k
    have hf := best_facts (c := c) ha
    simp only [searchTo]
    unfold pickB
    split
    · rename_i hp
      refine ⟨hp.2.1, hp.1, .inr (by omega), fun hb => ?_⟩
      by_cases he : n0 + (k : Int) = best a c
      · exact he
      · have h5 := h4 (by omega)
        rw [h5] at hp
        exact absurd hp.2.2 (best_after ha (by omega) hp.2.1)
    · rename_i hp
      refine ⟨h1, h2, h3.imp id (by omega), fun hb => ?_⟩
      by_cases he : n0 + (k : Int) = best a c
      · exfalso
        apply hp
        rw [he]
        exact ⟨hf.1, hf.2.1, best_near ha h2 h1⟩
      · exact h4 (by omega)

/-! Counters, maps -/

/-- The full counter of a packet. -/
def cntAt (l : List Pkt) : Nat → Int
  | 0 => (l.getD 0 pkt0).1 + 1024
  | k + 1 => best (cntAt l k) (l.getD (k + 1) pkt0).1
def cntsTo (l : List Pkt) (n : Nat) : List Int := (List.range n).map (cntAt l)
theorem cntAt_bound {l : List Pkt} (h : ∀ p ∈ l, okPkt p = true) : ∀ k, k < l.length → 0 ≤ cntAt l k ∧ cntAt l k ≤ 2047 + 1024 * k
  | 0, hk => by
    have := h _ (getD_mem (d := pkt0) hk)
    simp only [okPkt, Bool.and_eq_true, win_iff] at this
    simp only [cntAt]; omega
  | k + 1, hk => by
    have ih := cntAt_bound h k (by omega)
    have hf := best_facts (c := (l.getD (k + 1) pkt0).1) ih.1
    simp only [cntAt]; omega
theorem mapHas_put {V : Type} (n : Int) (v : V) (c : Int) : ∀ es : List (Int × V), mapHas c (mapPut n v es) = (c == n || mapHas c es)
  | [] => by simp only [mapPut, mapHas]; cases c == n <;> rfl
  | (k, u) :: es => by
    simp only [mapPut]
    by_cases h : n = k
    · subst h
      simp only [beq_self_eq_true, cond_true, mapHas]
      cases c == n <;> rfl
    · rw [show (n == k) = false by simpa using h, cond_false]
      simp only [mapHas, mapHas_put n v c es]
      cases c == k <;> cases c == n <;> rfl
theorem mapGet_put {V : Type} (n : Int) (v d : V) (c : Int) : ∀ es : List (Int × V), mapGet c d (mapPut n v es) = if c = n then v else mapGet c d es
  | [] => by
    simp only [mapPut, mapGet]
    by_cases h : c = n
    · simp [h]
    · rw [show (c == n) = false by simpa using h, if_neg h, cond_false]
  | (k, u) :: es => by
    simp only [mapPut]
    by_cases h : n = k
    · subst h
      simp only [beq_self_eq_true, cond_true, mapGet]
      by_cases hc : c = n
      · simp [hc]
      · rw [show (c == n) = false by simpa using hc, if_neg hc]; rfl
    · rw [show (n == k) = false by simpa using h, cond_false]
      simp only [mapGet, mapGet_put n v d c es]
      by_cases hk : c = k
      · subst hk
        have h' : ¬ c = n := fun e => h e.symm
        simp [h']
      · rw [show (c == k) = false by simpa using hk]; simp

/-- The packets by their counters, after so many of them. -/
def esTo (l : List Pkt) : Nat → List (Int × Pkt)
  | 0 => []
  | k + 1 => bif mapHas (cntAt l k) (esTo l k) then esTo l k else mapPut (cntAt l k) (l.getD k pkt0) (esTo l k)
def clashTo (l : List Pkt) : Nat → Bool
  | 0 => false
  | k + 1 => clashTo l k || (mapHas (cntAt l k) (esTo l k) && !(pktEq (mapGet (cntAt l k) pkt0 (esTo l k)) (l.getD k pkt0)))
/-- The first packet with a counter, among so many. -/
def firstIdx (l : List Pkt) (c : Int) : Nat → Option Nat
  | 0 => none
  | k + 1 => match firstIdx l c k with
    | some j => some j
    | none => if cntAt l k = c then some k else none
theorem firstIdx_some {l : List Pkt} {c : Int} : ∀ {k j : Nat}, firstIdx l c k = some j → j < k ∧ cntAt l j = c ∧ ∀ i, i < j → cntAt l i ≠ c
  | 0, _, h => by cases h
  | k + 1, j, h => by
    simp only [firstIdx] at h
    cases hf : firstIdx l c k with
    | some i =>
      rw [hf] at h
      obtain rfl := Option.some.inj h
      obtain ⟨h1, h2, h3⟩ := firstIdx_some hf
      exact ⟨by omega, h2, h3⟩
    | none =>
      rw [hf] at h
      simp only [] at h
      split at h
      · rename_i hc
        obtain rfl := Option.some.inj h
        refine ⟨by omega, hc, fun i hi e => ?_⟩
        have : ∀ {k : Nat}, firstIdx l c k = none → ∀ i, i < k → cntAt l i ≠ c := by
          intro k
          induction k with
          | zero => intro _ i hi; omega
          | succ k ih =>
            intro hn i hi
            simp only [firstIdx] at hn
            cases hf : firstIdx l c k with
            | some i => rw [hf] at hn; cases hn
            | none =>
              rw [hf] at hn
              simp only [] at hn
              split at hn
              · cases hn
              · rename_i hc
                by_cases e : i = k
                · rw [e]; exact hc
                · exact ih hf i (by omega)
        exact this hf i hi e
      · cases h
theorem firstIdx_none {l : List Pkt} {c : Int} : ∀ {k : Nat}, firstIdx l c k = none → ∀ i, i < k → cntAt l i ≠ c
  | 0, _, i, hi => by omega
  | k + 1, hn, i, hi => by
    simp only [firstIdx] at hn
    cases hf : firstIdx l c k with
    | some i => rw [hf] at hn; cases hn
    | none =>
      rw [hf] at hn
      simp only [] at hn
      split at hn
      · cases hn
      · rename_i hc
        by_cases e : i = k
        · rw [e]; exact hc
        · exact firstIdx_none hf i (by omega)
theorem firstIdx_isSome {l : List Pkt} {c : Int} {k : Nat} : (firstIdx l c k).isSome = true ↔ ∃ i, i < k ∧ cntAt l i = c := by
  constructor
  · intro h
    obtain ⟨j, hj⟩ := Option.isSome_iff_exists.1 h
    obtain ⟨h1, h2, _⟩ := firstIdx_some hj
    exact ⟨j, h1, h2⟩
  · rintro ⟨i, h1, h2⟩
    cases hf : firstIdx l c k with
    | some j => rfl
    | none => exact absurd h2 (firstIdx_none hf i h1)
theorem es_has (l : List Pkt) (c : Int) : ∀ k, mapHas c (esTo l k) = (firstIdx l c k).isSome
  | 0 => rfl
  | k + 1 => by
    have h1 := es_has l c k
    have h2 := es_has l (cntAt l k) k
    simp only [esTo, firstIdx]
    cases hh : mapHas (cntAt l k) (esTo l k)
    · rw [cond_false, mapHas_put, h1]
      cases hf : firstIdx l c k with
      | some j => simp
      | none =>
        by_cases hc : cntAt l k = c
        · simp [hc]
        · rw [if_neg hc, show (c == cntAt l k) = false by simpa using fun e : c = cntAt l k => hc e.symm]; rfl
    · rw [cond_true, h1]
      cases hf : firstIdx l c k with
      | some j => rfl
      | none =>
        by_cases hc : cntAt l k = c
        · rw [hh] at h2; subst hc; rw [hf] at h2; cases h2
        · rw [if_neg hc]
theorem es_get (l : List Pkt) (c : Int) : ∀ k, mapGet c pkt0 (esTo l k) = match firstIdx l c k with | some j => l.getD j pkt0 | none => pkt0
  | 0 => rfl
  | k + 1 => by
    have h1 := es_get l c k
    have h2 := es_has l (cntAt l k) k
    simp only [esTo, firstIdx]
    cases hh : mapHas (cntAt l k) (esTo l k)
    · rw [cond_false, mapGet_put, h1]
      cases hf : firstIdx l c k with
      | some j =>
        have : c ≠ cntAt l k := fun e => by
          subst e; rw [hh, hf] at h2; cases h2
        rw [if_neg this]
      | none =>
        by_cases hc : cntAt l k = c
        · simp [hc]
        · rw [if_neg (fun e => hc e.symm), if_neg hc]
    · rw [cond_true, h1]
      cases hf : firstIdx l c k with
      | some j => rfl
      | none =>
        by_cases hc : cntAt l k = c
        · rw [hh] at h2; subst hc; rw [hf] at h2; cases h2
        · rw [if_neg hc]

/-! The greatest and the least -/

def maxTo (x : List Int) : Nat → Int
  | 0 => x.getD 0 0
  | k + 1 => mx (maxTo x k) (x.getD (k + 1) 0)
def minTo (x : List Int) : Nat → Int
  | 0 => x.getD 0 0
  | k + 1 => mn (minTo x k) (x.getD (k + 1) 0)
def maxL (x : List Int) : Int := maxTo x (x.length - 1)
def minL (x : List Int) : Int := minTo x (x.length - 1)
theorem maxTo_facts (x : List Int) : ∀ k, (∀ j, j ≤ k → x.getD j 0 ≤ maxTo x k) ∧ ∃ j, j ≤ k ∧ maxTo x k = x.getD j 0
  | 0 => ⟨fun j hj => by rw [show j = 0 by omega]; exact Int.le_refl _, 0, Nat.le_refl _, rfl⟩
  | k + 1 => by
    obtain ⟨h1, j, h2, h3⟩ := maxTo_facts x k
    simp only [maxTo]
    constructor
    · intro i hi
      by_cases e : i = k + 1
      · subst e; unfold mx; split <;> omega
      · have := h1 i (by omega); unfold mx; split <;> omega
    · unfold mx
      split
      · exact ⟨k + 1, Nat.le_refl _, rfl⟩
      · exact ⟨j, by omega, h3⟩
theorem minTo_facts (x : List Int) : ∀ k, (∀ j, j ≤ k → minTo x k ≤ x.getD j 0) ∧ ∃ j, j ≤ k ∧ minTo x k = x.getD j 0
  | 0 => ⟨fun j hj => by rw [show j = 0 by omega]; exact Int.le_refl _, 0, Nat.le_refl _, rfl⟩
  | k + 1 => by
    obtain ⟨h1, j, h2, h3⟩ := minTo_facts x k
    simp only [minTo]
    constructor
    · intro i hi
      by_cases e : i = k + 1
      · subst e; unfold mn; split <;> omega
      · have := h1 i (by omega); unfold mn; split <;> omega
    · unfold mn
      split
      · exact ⟨k + 1, Nat.le_refl _, rfl⟩
      · exact ⟨j, by omega, h3⟩
theorem cntsTo_length (l : List Pkt) (n : Nat) : (cntsTo l n).length = n := by simp [cntsTo]
theorem cntsTo_get (l : List Pkt) {n k : Nat} (h : k < n) : (cntsTo l n).getD k 0 = cntAt l k := range_getD _ _ h
theorem cntsTo_take (l : List Pkt) {n k : Nat} (h : k ≤ n) : (cntsTo l n).take k = cntsTo l k := by
  unfold cntsTo
  rw [← List.map_take, List.take_range, Nat.min_eq_left h]
theorem cnts_succ (l : List Pkt) (k : Nat) : cntsTo l k ++ [cntAt l k] = cntsTo l (k + 1) := range_map_succ (cntAt l) k

/-- The error of packets. -/
def pktsE (l : List Pkt) : Int :=
  if l.length = 0 then 10 else if 30 < l.length then 8 else if l.all okPkt = true then
    (if 40 ≤ maxL (cntsTo l l.length) - minL (cntsTo l l.length) then 8 else if clashTo l l.length = true then 13 else 0) else 2
/-- The record of packets. -/
def recOf (l : List Pkt) : List (Int × Pkt) × List Int := (esTo l l.length, cntsTo l l.length)
def openR (l : List Pkt) : Option (List (Int × Pkt) × List Int) × Int :=
  if l.length = 0 then (none, 10) else if 30 < l.length then (none, 8) else if l.all okPkt = true then (some (recOf l), pktsE l) else (none, 2)
theorem spread {l : List Pkt} (h : ∀ p ∈ l, okPkt p = true) (h0 : 0 < l.length) (h1 : l.length ≤ 30) : 0 ≤ minL (cntsTo l l.length) ∧ minL (cntsTo l l.length) ≤ maxL (cntsTo l l.length) ∧ maxL (cntsTo l l.length) ≤ 40000 := by
  have hl := cntsTo_length l l.length
  obtain ⟨a1, i, a2, a3⟩ := maxTo_facts (cntsTo l l.length) ((cntsTo l l.length).length - 1)
  obtain ⟨b1, j, b2, b3⟩ := minTo_facts (cntsTo l l.length) ((cntsTo l l.length).length - 1)
  have c1 := cntAt_bound h i (by omega)
  have c2 := cntAt_bound h j (by omega)
  have d1 := cntsTo_get l (show i < l.length by omega)
  have d2 := cntsTo_get l (show j < l.length by omega)
  have := b1 i (by omega)
  unfold maxL minL
  omega
end Go.Proofs.Ytinkhmfciealkaa
