/- Packets of samples that are lost, doubled and reordered: the stream that is put together. -/
import Derived.Test.YtcdpgjlaajdfmaaGreatDoorG21
import Derived.Test.YtcdpgjlaajdfmaaGreatDoorPktStr
set_option linter.unusedSimpArgs false
set_option linter.unusedVariables false
set_option maxRecDepth 100000
namespace Go.Proofs.YtcdpgjlaajdfmaaGreatDoor
open Go.Ev
theorem dT {p : Prop} [Decidable p] (h : p) : decide p = true := decide_eq_true h
theorem dF {p : Prop} [Decidable p] (h : ¬ p) : decide p = false := decide_eq_false h
theorem beqT {a b : Int} (h : a = b) : (a == b) = true := by simp [h]
theorem beqF {a b : Int} (h : a ≠ b) : (a == b) = false := by simp [h]
theorem inT {i : Int} {n : Nat} (h : 0 ≤ i) (h2 : i < (n : Int)) : inBounds i n = true := by
 obtain ⟨k, rfl⟩ : ∃ k : Nat, i = (k : Int) := ⟨i.toNat, by omega⟩
 exact inB_cast.trans (decide_eq_true (by omega))
theorem roomT {b n : Nat} (h : n * b ≤ 140737488355328) (h2 : n ≤ 140737488355328) : room b n = true := room_true h h2
theorem succ_cast (k : Nat) : ((k + 1 : Nat) : Int) = (k : Int) + 1 := rfl
theorem getDm {α : Type} {l : List α} {d : α} {k : Nat} (h : k < l.length) : l.getD k d ∈ l := by
 rw [List.getD_eq_getElem?_getD, List.getElem?_eq_getElem h]
 exact List.getElem_mem h
theorem snoc_getD {α : Type} (a : List α) (x d : α) : (a ++ [x]).getD a.length d = x := by simp
theorem snoc_set {α : Type} (a : List α) (x y : α) : (a ++ [x]).set a.length y = a ++ [y] := by simp
theorem nil_or_snoc {α : Type} (l : List α) : l = [] ∨ ∃ a x, l = a ++ [x] := by
 cases h : l.reverse with
 | nil => exact .inl (by simpa using h)
 | cons x t => exact .inr ⟨t.reverse, x, by rw [← List.reverse_reverse l, h]; simp⟩
theorem first_z (l : List Int) (hl : l.length ≤ 1000) : s61 l = some (firstE l) := by
 have h := loop_scan (step := step61_0) (st := fun k => (l, (l.length : Int), (k : Int))) (hit := fun k => (fun x => bif x != 0 then some (Sum.inl x : Int ⊕ Unit) else none) (l.getD k 0)) (n := l.length) (e := .inr ())
  (fun k hk => by
    simp only [step61_0, lt_cast, inB_cast, hk, decide_true, cond_true, Int.toNat_natCast, wr_succ (show k < 4611686018427387904 by omega)]
    cases h : l.getD k 0 != 0 <;> simp [h])
  (by simp only [step61_0, lt_cast, Nat.lt_irrefl, decide_false, cond_false]) l.length 0 (by omega)
 rw [scan_list0 (fun x => bif x != 0 then some (Sum.inl x : Int ⊕ Unit) else none) (.inr ()) l 0, scanL_first] at h
 unfold s61
 have h' : loopVal step61_0 (l, (l.length : Int), 0) = _ := h
 simp only [h', optE_some]
 cases hf : firstE l != 0
 ·simp [sumE, cond_false]
  have : firstE l = 0 := by simpa using hf
  exact this.symm
 ·simp [sumE]
theorem mod_z {n m : Int} (h : 0 < m) (h2 : m < 4611686018427387904) : s16 (n, m) = some (n % m) := mod_law h h2
def smpAt (S : List (Int × Int)) (k j : Int) : Int × Int := S.getD (k * 8 + j).toNat (0, 0)
def pkOf (X : Int) (S : List (Int × Int)) (k : Int) : Pk := ((X + k) % 1024, 1 + k, smpAt S k 0, smpAt S k 1, smpAt S k 2, smpAt S k 3, smpAt S k 4, smpAt S k 5, smpAt S k 6, (smpAt S k 7).1, (smpAt S k 7).2)
def pk0 : Pk := (0, 0, (0, 0), (0, 0), (0, 0), (0, 0), (0, 0), (0, 0), (0, 0), 0, 0)
def samplesOf (p : Pk) : List (Int × Int) := [p.2.2.1, p.2.2.2.1, p.2.2.2.2.1, p.2.2.2.2.2.1, p.2.2.2.2.2.2.1, p.2.2.2.2.2.2.2.1, p.2.2.2.2.2.2.2.2.1, p.2.2.2.2.2.2.2.2.2]
def Part (S : List (Int × Int)) (k : Int) : Prop := 0 ≤ k ∧ k * 8 + 8 ≤ (S.length : Int)
theorem smp_ok {S : List (Int × Int)} (hok : ∀ g ∈ S, okS g = true) {k j : Int} (hk : Part S k) (h0 : 0 ≤ j) (h8 : j < 8) : okS (smpAt S k j) = true := by
 obtain ⟨h1, h2⟩ := hk
 exact hok _ (getDm (by omega))
theorem pk_ok {X : Int} {S : List (Int × Int)} (hS : S.length ≤ 96) (hok : ∀ g ∈ S, okS g = true) {k : Int} (hk : Part S k) : pE (pkOf X S k) = 0 := by
 have w1 : win ((X + k) % 1024) 0 1023 = true := win_iff.2 (by omega)
 have w2 : win (1 + k) 1 100 = true := win_iff.2 (by unfold Part at hk; omega)
 have e7 : ((smpAt S k 7).1, (smpAt S k 7).2) = smpAt S k 7 := rfl
 simp only [pE, pkOf, w1, w2, e7, smp_ok hok hk (j := 0) (by omega) (by omega), smp_ok hok hk (j := 1) (by omega) (by omega), smp_ok hok hk (j := 2) (by omega) (by omega), smp_ok hok hk (j := 3) (by omega) (by omega), smp_ok hok hk (j := 4) (by omega) (by omega), smp_ok hok hk (j := 5) (by omega) (by omega), smp_ok hok hk (j := 6) (by omega) (by omega), smp_ok hok hk (j := 7) (by omega) (by omega), Bool.and_self, cond_true]
theorem inP_of {p : Pk} (h : pE p = 0) : inP p := by
 have ht := pE_ok h
 intro x hx
 simp only [nums, List.mem_cons, List.not_mem_nil, or_false] at hx
 unfold inI
 rcases hx with rfl | rfl | rfl | rfl | rfl | rfl | rfl | rfl | rfl | rfl | rfl | rfl | rfl | rfl | rfl | rfl | rfl | rfl <;> omega
theorem parse_z {p : Pk} (ht : pE p = 0) : s7 (joinS (nums p)) = some (p, 0) := by
 have hp := inP_of ht
 have hsz : (joinS (nums p)).size ≤ 1000 := by
  unfold joinS
  rw [strL_len]
  have := join_len ((nums p).map Lib.itoa) (fun x hx => by
   obtain ⟨n, hn, rfl⟩ := List.mem_map.1 hx
   exact itoa_len (hp n hn).1 (hp n hn).2)
  rw [List.length_map] at this
  simp only [nums, List.length_cons, List.length_nil] at this
  exact Nat.le_trans this (by omega)
 rw [s7_eq _ hsz, pkt_back ht]
structure Route (X : Int) (S : List (Int × Int)) (ks : List Int) : Prop where
 hX : 0 ≤ X ∧ X ≤ 1023
 hS : S.length ≤ 96
 hok : ∀ g ∈ S, okS g = true
 hk : ∀ k ∈ ks, Part S k
 h0 : 0 < ks.length
 h30 : ks.length ≤ 30
theorem near_z {c n d : Int} (hn : 1000 ≤ n) (hn2 : n ≤ 5000) (hd : -20 ≤ d ∧ d ≤ 20) (hc : 0 ≤ c ∧ c ≤ 1023) (he : (c - n - d) % 1024 = 0) : s83 (n, c) = some (n + d) := by
 have ht := tmod_neg_iff (n := c - n) (m := 1024) (by omega)
 have key : ((c - n).tmod 1024 = d ∧ 0 ≤ d) ∨ ((c - n).tmod 1024 = d - 1024 ∧ 0 ≤ d) ∨ ((c - n).tmod 1024 = d ∧ d < 0) ∨ ((c - n).tmod 1024 = d + 1024 ∧ d < 0) := by
  split at ht <;> omega
 simp only [s83]
 rw [wr_id (n := c - n) (by omega) (by omega)]
 by_cases hq : n + d - 1024 ≥ 0 <;> rcases key with ⟨h, hz⟩ | ⟨h, hz⟩ | ⟨h, hz⟩ | ⟨h, hz⟩ <;> rw [h] <;> simp (disch := omega) only [wr_id, dT, dF, cond_true, cond_false] <;> congr 1 <;> omega
def baseC (X : Int) (ks : List Int) : Int := (X + ks.getD 0 0) % 1024 + 1024 - ks.getD 0 0
theorem mapHas_put {V : Type} (n : Int) (v : V) (c : Int) : ∀ es : List (Int × V), mapHas c (mapPut n v es) = (c == n || mapHas c es)
 | [] => by simp only [mapPut, mapHas]; cases c == n <;> rfl
 | (k, u) :: es => by
   simp only [mapPut]
   by_cases h : n = k
   ·subst h
    simp only [beq_self_eq_true, cond_true, mapHas]
    cases c == n <;> rfl
   ·rw [show (n == k) = false by simpa using h, cond_false]
    simp only [mapHas, mapHas_put n v c es]
    cases c == k <;> cases c == n <;> rfl
theorem mapGet_put {V : Type} (n : Int) (v d : V) (c : Int) : ∀ es : List (Int × V), mapGet c d (mapPut n v es) = if c = n then v else mapGet c d es
 | [] => by
   simp only [mapPut, mapGet]
   by_cases h : c = n
   ·simp [h]
   ·rw [show (c == n) = false by simpa using h, if_neg h, cond_false]
 | (k, u) :: es => by
   simp only [mapPut]
   by_cases h : n = k
   ·subst h
    simp only [beq_self_eq_true, cond_true, mapGet]
    by_cases hc : c = n
    ·simp [hc]
    ·rw [show (c == n) = false by simpa using hc, if_neg hc]; rfl
   ·rw [show (n == k) = false by simpa using h, cond_false]
    simp only [mapGet, mapGet_put n v d c es]
    by_cases hk : c = k
    ·subst hk
     have h' : ¬ c = n := fun e => h e.symm
     simp [h']
    ·rw [show (c == k) = false by simpa using hk]; simp
def esT (B X : Int) (S : List (Int × Int)) (ks : List Int) : Nat → List (Int × Pk)
 | 0 => []
 | i + 1 => bif mapHas (B + ks.getD i 0) (esT B X S ks i) then esT B X S ks i else mapPut (B + ks.getD i 0) (pkOf X S (ks.getD i 0)) (esT B X S ks i)
theorem mem_take_succ {ks : List Int} {i : Nat} (hi : i < ks.length) (n : Int) : n ∈ ks.take (i + 1) ↔ n ∈ ks.take i ∨ n = ks.getD i 0 := by
 rw [← take_succ_getD ks 0 hi, List.mem_append, List.mem_singleton]
theorem es_has (B X : Int) (S : List (Int × Int)) (ks : List Int) (n : Int) : ∀ i, i ≤ ks.length → mapHas n (esT B X S ks i) = decide (n - B ∈ ks.take i)
 | 0, _ => by simp [esT, mapHas]
 | i + 1, hi => by
   have ih := es_has B X S ks n i (by omega)
   have ih2 := es_has B X S ks (B + ks.getD i 0) i (by omega)
   rw [show B + ks.getD i 0 - B = ks.getD i 0 by omega] at ih2
   have hm := mem_take_succ (ks := ks) (i := i) (by omega) (n - B)
   simp only [esT]
   by_cases h : ks.getD i 0 ∈ ks.take i
   ·rw [ih2, decide_eq_true h, cond_true, ih]
    have : n - B ∈ ks.take (i + 1) ↔ n - B ∈ ks.take i := hm.trans ⟨fun e => e.elim id fun e => e ▸ h, .inl⟩
    simp only [this]
   ·rw [ih2, decide_eq_false h, cond_false, mapHas_put, ih]
    by_cases hn : n = B + ks.getD i 0
    ·rw [beqT hn, Bool.true_or, decide_eq_true (hm.2 (.inr (by omega)))]
    ·rw [beqF hn, Bool.false_or]
     have : n - B ∈ ks.take (i + 1) ↔ n - B ∈ ks.take i := hm.trans ⟨fun e => e.elim id fun e => absurd (by omega) hn, .inl⟩
     simp only [this]
theorem es_get (B X : Int) (S : List (Int × Int)) (ks : List Int) (n : Int) : ∀ i, i ≤ ks.length → mapGet n pk0 (esT B X S ks i) = if n - B ∈ ks.take i then pkOf X S (n - B) else pk0
 | 0, _ => by simp [esT, mapGet]
 | i + 1, hi => by
   have ih := es_get B X S ks n i (by omega)
   have ih2 := es_has B X S ks (B + ks.getD i 0) i (by omega)
   rw [show B + ks.getD i 0 - B = ks.getD i 0 by omega] at ih2
   have hm := mem_take_succ (ks := ks) (i := i) (by omega) (n - B)
   simp only [esT]
   by_cases h : ks.getD i 0 ∈ ks.take i
   ·rw [ih2, decide_eq_true h, cond_true, ih]
    have : n - B ∈ ks.take (i + 1) ↔ n - B ∈ ks.take i := hm.trans ⟨fun e => e.elim id fun e => e ▸ h, .inl⟩
    simp only [this]
   ·rw [ih2, decide_eq_false h, cond_false, mapGet_put, ih]
    by_cases hn : n = B + ks.getD i 0
    ·rw [if_pos hn, if_pos (hm.2 (.inr (by omega))), show n - B = ks.getD i 0 by omega]
    ·rw [if_neg hn]
     have : n - B ∈ ks.take (i + 1) ↔ n - B ∈ ks.take i := hm.trans ⟨fun e => e.elim id fun e => absurd (by omega) hn, .inl⟩
     simp only [this]
theorem map_getD {X : Int} {S : List (Int × Int)} {ks : List Int} {i : Nat} (h : i < ks.length) (d : Pk) : (ks.map (pkOf X S)).getD i d = pkOf X S (ks.getD i 0) := by
 rw [List.getD_eq_getElem?_getD, List.getElem?_map, List.getElem?_eq_getElem h, List.getD_eq_getElem?_getD, List.getElem?_eq_getElem h]
 rfl
theorem part_b {X : Int} {S : List (Int × Int)} {ks : List Int} (R : Route X S ks) {i : Nat} (h : i < ks.length) : Part S (ks.getD i 0) ∧ 0 ≤ ks.getD i 0 ∧ ks.getD i 0 ≤ 11 := by
 have h1 := R.hk _ (getDm (d := 0) h)
 have h2 := R.hS
 refine ⟨h1, ?_⟩
 unfold Part at h1
 omega
def prevC (B : Int) (ks : List Int) : Nat → Int
 | 0 => 0
 | i + 1 => B + ks.getD i 0
theorem base_b {X : Int} {S : List (Int × Int)} {ks : List Int} (R : Route X S ks) : 1013 ≤ baseC X ks ∧ baseC X ks ≤ 2047 ∧ (X - baseC X ks) % 1024 = 0 := by
 have := (part_b R R.h0).2
 unfold baseC
 omega
theorem open_step {X : Int} {S : List (Int × Int)} {ks : List Int} (R : Route X S ks) {i : Nat} (hi : i < ks.length) :
 step47_0 (false, prevC (baseC X ks) ks i, ks.map (pkOf X S), ((ks.map (pkOf X S)).length : Int), (i : Int), (esT (baseC X ks) X S ks i, (ks.take i).map (baseC X ks + ·)))
  = some (.inl (false, prevC (baseC X ks) ks (i + 1), ks.map (pkOf X S), ((ks.map (pkOf X S)).length : Int), ((i + 1 : Nat) : Int), (esT (baseC X ks) X S ks (i + 1), (ks.take (i + 1)).map (baseC X ks + ·)))) := by
 obtain ⟨b1, b2, b3⟩ := base_b R
 obtain ⟨p1, p2, p3⟩ := part_b R hi
 have h30 := R.h30
 have hlen : ((ks.take i).map (baseC X ks + ·)).length = i := by rw [List.length_map, List.length_take]; omega
 have hck : s40 (pkOf X S (ks.getD i 0)) = some 0 := by rw [check_z, pk_ok R.hS R.hok p1]
 have hh := es_has (baseC X ks) X S ks (baseC X ks + ks.getD i 0) i (by omega)
 have hg := es_get (baseC X ks) X S ks (baseC X ks + ks.getD i 0) i (by omega)
 rw [show baseC X ks + ks.getD i 0 - baseC X ks = ks.getD i 0 by omega] at hh hg
 have hroom : room 8 (i + 1) = true := room_true (by omega) (by omega)
 have hsnoc := take_map_succ (baseC X ks + ·) ks 0 hi
 have hlm : decide ((i : Int) < ((ks.map (pkOf X S)).length : Int)) = true := decide_eq_true (by rw [List.length_map]; omega)
 have hin : inBounds (i : Int) (ks.map (pkOf X S)).length = true := inT (by omega) (by rw [List.length_map]; omega)
 have hf : (pkOf X S (ks.getD i 0)).1 = (X + ks.getD i 0) % 1024 := rfl
 have hes : esT (baseC X ks) X S ks (i + 1) = bif mapHas (baseC X ks + ks.getD i 0) (esT (baseC X ks) X S ks i) then esT (baseC X ks) X S ks i else mapPut (baseC X ks + ks.getD i 0) (pkOf X S (ks.getD i 0)) (esT (baseC X ks) X S ks i) := rfl
 have hws : wr ((i : Int) + 1) = ((i + 1 : Nat) : Int) := wr_succ (by omega)
 simp only [step47_0, hlm, hin, Int.toNat_natCast, map_getD hi, hck, optE_some, bne_self_eq_false, cond_true, cond_false, hlen, hroom, hws]
 cases i with
 | zero =>
   have e : wr ((pkOf X S (ks.getD 0 0)).1 + 1024) = baseC X ks + ks.getD 0 0 := by
    rw [hf, wr_id (by omega) (by omega)]; unfold baseC; omega
   have ez : ((0 : Nat) : Int) = 0 := rfl
   have hno : mapHas (baseC X ks + ks.getD 0 0) (esT (baseC X ks) X S ks 0) = false := rfl
   simp only [e, ez, beq_self_eq_true, cond_true, hes, hno, cond_false, Bool.not_false, ← hsnoc, prevC]
 | succ i =>
   obtain ⟨q1, q2, q3⟩ := part_b R (i := i) (by omega)
   have hne : ((((i + 1 : Nat) : Int)) == 0) = false := beqF (by omega)
   have hu : s83 (prevC (baseC X ks) ks (i + 1), (pkOf X S (ks.getD (i + 1) 0)).1) = some (baseC X ks + ks.getD (i + 1) 0) := by
    have := near_z (n := baseC X ks + ks.getD i 0) (c := (pkOf X S (ks.getD (i + 1) 0)).1) (d := ks.getD (i + 1) 0 - ks.getD i 0) (by omega) (by omega) (by omega) (by rw [hf]; omega) (by rw [hf]; omega)
    rw [show baseC X ks + ks.getD i 0 + (ks.getD (i + 1) 0 - ks.getD i 0) = baseC X ks + ks.getD (i + 1) 0 by omega] at this
    exact this
   simp only [hne, cond_false, hu, optE_some, hes]
   rw [← hsnoc]
   by_cases hm : ks.getD (i + 1) 0 ∈ ks.take (i + 1)
   ·rw [if_pos hm] at hg
    have hg' : mapGet (baseC X ks + ks.getD (i + 1) 0) (0, 0, (0, 0), (0, 0), (0, 0), (0, 0), (0, 0), (0, 0), (0, 0), 0, 0) (esT (baseC X ks) X S ks (i + 1)) = pkOf X S (ks.getD (i + 1) 0) := hg
    rw [decide_eq_true hm] at hh
    simp only [hh, hg', cond_true, cond_false, Bool.not_true, beq_self_eq_true, Bool.and_self, prevC]
   ·rw [decide_eq_false hm] at hh
    simp only [hh, cond_true, cond_false, Bool.not_false, prevC]
def maxTo (x : List Int) : Nat → Int
 | 0 => x.getD 0 0
 | k + 1 => mx (maxTo x k) (x.getD (k + 1) 0)
def minTo (x : List Int) : Nat → Int
 | 0 => x.getD 0 0
 | k + 1 => mn (minTo x k) (x.getD (k + 1) 0)
def hiK (x : List Int) : Int := maxTo x (x.length - 1)
def loK (x : List Int) : Int := minTo x (x.length - 1)
theorem maxTo_facts (x : List Int) : ∀ k, (∀ j, j ≤ k → x.getD j 0 ≤ maxTo x k) ∧ ∃ j, j ≤ k ∧ maxTo x k = x.getD j 0
 | 0 => ⟨fun j hj => by rw [show j = 0 by omega]; exact Int.le_refl _, 0, Nat.le_refl _, rfl⟩
 | k + 1 => by
   obtain ⟨h1, j, h2, h3⟩ := maxTo_facts x k
   simp only [maxTo]
   constructor
   ·intro i hi
    by_cases e : i = k + 1
    ·subst e; unfold mx; split <;> omega
    ·have := h1 i (by omega); unfold mx; split <;> omega
   ·unfold mx
    split
    ·exact ⟨k + 1, Nat.le_refl _, rfl⟩
    ·exact ⟨j, by omega, h3⟩
theorem minTo_facts (x : List Int) : ∀ k, (∀ j, j ≤ k → minTo x k ≤ x.getD j 0) ∧ ∃ j, j ≤ k ∧ minTo x k = x.getD j 0
 | 0 => ⟨fun j hj => by rw [show j = 0 by omega]; exact Int.le_refl _, 0, Nat.le_refl _, rfl⟩
 | k + 1 => by
   obtain ⟨h1, j, h2, h3⟩ := minTo_facts x k
   simp only [minTo]
   constructor
   ·intro i hi
    by_cases e : i = k + 1
    ·subst e; unfold mn; split <;> omega
    ·have := h1 i (by omega); unfold mn; split <;> omega
   ·unfold mn
    split
    ·exact ⟨k + 1, Nat.le_refl _, rfl⟩
    ·exact ⟨j, by omega, h3⟩
theorem mapB_getD {B : Int} {ks : List Int} {i : Nat} (h : i < ks.length) : (ks.map (B + ·)).getD i 0 = B + ks.getD i 0 := by
 rw [List.getD_eq_getElem?_getD, List.getElem?_map, List.getElem?_eq_getElem h, List.getD_eq_getElem?_getD, List.getElem?_eq_getElem h]
 rfl
theorem mx_add (B a b : Int) : mx (B + a) (B + b) = B + mx a b := by unfold mx; split <;> split <;> omega
theorem mn_add (B a b : Int) : mn (B + a) (B + b) = B + mn a b := by unfold mn; split <;> split <;> omega
theorem max_z {B : Int} {ks : List Int} (h : 0 < ks.length) (h2 : ks.length ≤ 1000) : s60 (ks.map (B + ·)) = some (B + hiK ks) := by
 have hlen : (ks.map (B + ·)).length = ks.length := List.length_map _
 have hl := loop_for (step := step60_0) (st := fun k => (ks.map (B + ·), B + maxTo ks k, (k : Int) + 1)) (n := ks.length - 1) (e := B + hiK ks)
  (fun k hk => by
    have e : (((k : Int) + 1).toNat) = k + 1 := by omega
    simp (disch := omega) only [step60_0, hlen, dT, inT, cond_true, e, mapB_getD, mx_add, maxTo, wr_id, succ_cast]) (by
    simp (disch := omega) only [step60_0, hlen, dF, cond_false, hiK]) 0 (by omega)
 simp only [maxTo, Int.natCast_zero, Int.zero_add] at hl
 simp (disch := omega) only [s60, hlen, dF, inT, cond_true, cond_false, mapB_getD, hl, optE_some]
theorem min_z {B : Int} {ks : List Int} (h : 0 < ks.length) (h2 : ks.length ≤ 1000) : s84 (ks.map (B + ·)) = some (B + loK ks) := by
 have hlen : (ks.map (B + ·)).length = ks.length := List.length_map _
 have hl := loop_for (step := step84_0) (st := fun k => (ks.map (B + ·), B + minTo ks k, (k : Int) + 1)) (n := ks.length - 1) (e := B + loK ks)
  (fun k hk => by
    have e : (((k : Int) + 1).toNat) = k + 1 := by omega
    simp (disch := omega) only [step84_0, hlen, dT, inT, cond_true, e, mapB_getD, mn_add, minTo, wr_id, succ_cast]) (by
    simp (disch := omega) only [step84_0, hlen, dF, cond_false, loK]) 0 (by omega)
 simp only [minTo, Int.natCast_zero, Int.zero_add] at hl
 simp (disch := omega) only [s84, hlen, dF, inT, cond_true, cond_false, mapB_getD, hl, optE_some]
theorem last_z {es : List (Int × Pk)} {B : Int} {ks : List Int} (h : 0 < ks.length) (h2 : ks.length ≤ 1000) : s49 (es, ks.map (B + ·)) = some (B + hiK ks) := by
 simp only [s49, max_z h h2, optE_some]
theorem low_z {es : List (Int × Pk)} {B : Int} {ks : List Int} (h : 0 < ks.length) (h2 : ks.length ≤ 1000) : s48 (es, ks.map (B + ·)) = some (B + loK ks) := by
 simp only [s48, min_z h h2, optE_some]
theorem ends_b {X : Int} {S : List (Int × Int)} {ks : List Int} (R : Route X S ks) : 0 ≤ loK ks ∧ loK ks ≤ hiK ks ∧ hiK ks ≤ 11 ∧ Part S (loK ks) ∧ Part S (hiK ks) ∧ loK ks ∈ ks ∧ hiK ks ∈ ks ∧ ∀ k ∈ ks, loK ks ≤ k ∧ k ≤ hiK ks := by
 have h0 := R.h0
 obtain ⟨a1, j, a2, a3⟩ := minTo_facts ks (ks.length - 1)
 obtain ⟨c1, i, c2, c3⟩ := maxTo_facts ks (ks.length - 1)
 obtain ⟨p1, p2, p3⟩ := part_b R (i := j) (by omega)
 obtain ⟨q1, q2, q3⟩ := part_b R (i := i) (by omega)
 have d1 := a1 i c2
 have m1 : loK ks ∈ ks := by unfold loK; rw [a3]; exact getDm (by omega)
 have m2 : hiK ks ∈ ks := by unfold hiK; rw [c3]; exact getDm (by omega)
 refine ⟨?_, ?_, ?_, R.hk _ m1, R.hk _ m2, m1, m2, fun k hk => ?_⟩
 ·unfold loK; omega
 ·unfold loK hiK; omega
 ·unfold hiK; omega
 ·obtain ⟨t, ht, rfl⟩ := List.mem_iff_getElem.1 hk
  have e : ks.getD t 0 = ks[t] := by rw [List.getD_eq_getElem?_getD, List.getElem?_eq_getElem ht]; rfl
  have u1 := a1 t (by omega)
  have u2 := c1 t (by omega)
  unfold loK hiK
  omega
theorem open_z {X : Int} {S : List (Int × Int)} {ks : List Int} (R : Route X S ks) : s47 (ks.map (pkOf X S)) = some (some (esT (baseC X ks) X S ks ks.length, ks.map (baseC X ks + ·)), 0) := by
 have h0 := R.h0
 have h30 := R.h30
 obtain ⟨b1, b2, b3⟩ := base_b R
 obtain ⟨e1, e2, e3, e4⟩ := ends_b R
 have hl := loop_for (step := step47_0) (st := fun k => (false, prevC (baseC X ks) ks k, ks.map (pkOf X S), ((ks.map (pkOf X S)).length : Int), (k : Int), (esT (baseC X ks) X S ks k, (ks.take k).map (baseC X ks + ·)))) (n := ks.length) (e := .inr (false, (esT (baseC X ks) X S ks ks.length, ks.map (baseC X ks + ·))))
  (fun k hk => open_step R hk) (by
    have : decide ((ks.length : Int) < ((ks.map (pkOf X S)).length : Int)) = false := decide_eq_false (by rw [List.length_map]; omega)
    simp only [step47_0, this, cond_false, List.take_length]) 0 (by omega)
 have hl : loopVal step47_0 (false, 0, ks.map (pkOf X S), ((ks.map (pkOf X S)).length : Int), 0, ([], [])) = _ := hl
 have d1 : decide (((ks.map (pkOf X S)).length : Int) > 0) = true := decide_eq_true (by rw [List.length_map]; omega)
 have d2 : decide (((ks.map (pkOf X S)).length : Int) ≤ 30) = true := decide_eq_true (by rw [List.length_map]; omega)
 have d3 : decide (baseC X ks + hiK ks - (baseC X ks + loK ks) < 40) = true := decide_eq_true (by omega)
 have w : wr (baseC X ks + hiK ks - (baseC X ks + loK ks)) = baseC X ks + hiK ks - (baseC X ks + loK ks) := wr_id (by omega) (by omega)
 have u : ∀ e : Int, unl true e = 0 := fun _ => rfl
 have f2 : firstE [0, 0] = 0 := rfl
 unfold s47
 simp only [unless_z, d1, d2, u, optE_some]
 rw [first_z _ (by simp)]
 simp only [f2, optE_some, bne_self_eq_false, cond_false, hl, sumE, last_z h0 (show ks.length ≤ 1000 by omega), low_z h0 (show ks.length ≤ 1000 by omega), unless_z, w, d3, u, Bool.not_false]
 rw [first_z _ (by simp)]
 simp only [f2, optE_some]
def missT (B lo : Int) (ks : List Int) : Nat → List Int
 | 0 => []
 | k + 1 => bif decide (lo + k ∈ ks) then missT B lo ks k else missT B lo ks k ++ [B + lo + k]
theorem missT_length (B lo : Int) (ks : List Int) : ∀ k, (missT B lo ks k).length ≤ k
 | 0 => Nat.le_refl _
 | k + 1 => by
   have := missT_length B lo ks k
   simp only [missT]
   cases decide (lo + (k : Int) ∈ ks) <;> simp <;> omega
theorem missT_mem {B lo : Int} {ks : List Int} {n : Int} : ∀ {k : Nat}, n ∈ missT B lo ks k → B + lo ≤ n ∧ n < B + lo + k
 | 0, h => by cases h
 | k + 1, h => by
   simp only [missT] at h
   cases hd : decide (lo + (k : Int) ∈ ks) with
   | true =>
     rw [hd, cond_true] at h
     have := missT_mem h
     omega
   | false =>
     rw [hd, cond_false] at h
     rcases List.mem_append.1 h with h | h
     ·have := missT_mem h
      omega
     ·rw [List.mem_singleton] at h; omega
def gapStep (gs : List (Int × Int)) (t : Int) : List (Int × Int) :=
 match gs.getLast? with
 | some x => if x.2 + 1 = t * 8 then gs.dropLast ++ [(x.1, (t + 1) * 8 - 1)] else gs ++ [(t * 8, (t + 1) * 8 - 1)]
 | none => gs ++ [(t * 8, (t + 1) * 8 - 1)]
theorem gapStep_nil (t : Int) : gapStep [] t = [(t * 8, (t + 1) * 8 - 1)] := rfl
theorem gapStep_snoc (a : List (Int × Int)) (x : Int × Int) (t : Int) : gapStep (a ++ [x]) t = if x.2 + 1 = t * 8 then a ++ [(x.1, (t + 1) * 8 - 1)] else a ++ [x] ++ [(t * 8, (t + 1) * 8 - 1)] := by
 simp [gapStep]
def Bnd (gs : List (Int × Int)) (n : Nat) : Prop := gs.length ≤ n ∧ ∀ g ∈ gs, 0 ≤ g.1 ∧ g.1 ≤ g.2 ∧ g.2 ≤ 1000
theorem Bnd.step {gs : List (Int × Int)} {n : Nat} (h : Bnd gs n) {t : Int} (h0 : 0 ≤ t) (h1 : t ≤ 100) : Bnd (gapStep gs t) (n + 1) := by
 obtain ⟨a1, a2⟩ := h
 rcases nil_or_snoc gs with rfl | ⟨a, x, rfl⟩
 ·rw [gapStep_nil]
  refine ⟨by simp, fun g hg => ?_⟩
  obtain rfl := List.mem_singleton.1 hg
  simp only; omega
 ·rw [gapStep_snoc]
  have hx := a2 x (by simp)
  simp only [List.length_append, List.length_singleton] at a1
  split
  ·rename_i he
   refine ⟨by simp; omega, fun g hg => ?_⟩
   rcases List.mem_append.1 hg with hg | hg
   ·exact a2 g (List.mem_append_left _ hg)
   ·obtain rfl := List.mem_singleton.1 hg
    simp only; omega
  ·refine ⟨by simp; omega, fun g hg => ?_⟩
   rcases List.mem_append.1 hg with hg | hg
   ·exact a2 g hg
   ·obtain rfl := List.mem_singleton.1 hg
    simp only; omega
def inGap (gs : List (Int × Int)) (n : Int) : Bool := gs.any fun g => win n g.1 g.2
theorem inGap_step {gs : List (Int × Int)} {m : Nat} (h : Bnd gs m) (t n : Int) : inGap (gapStep gs t) n = (inGap gs n || win n (t * 8) (t * 8 + 7)) := by
 have e8 : (t + 1) * 8 - 1 = t * 8 + 7 := by omega
 rcases nil_or_snoc gs with rfl | ⟨a, x, rfl⟩
 ·rw [gapStep_nil, e8]; simp [inGap]
 ·have hx := h.2 x (by simp)
  rw [gapStep_snoc, e8]
  split
  ·rename_i he
   simp only [inGap, List.any_append, List.any_cons, List.any_nil, Bool.or_false]
   rw [Bool.or_assoc]
   congr 1
   rw [Bool.eq_iff_iff, Bool.or_eq_true, win_iff, win_iff, win_iff]
   omega
  ·simp only [inGap, List.any_append, List.any_cons, List.any_nil, Bool.or_false]
def gapsT (lo : Int) (ks : List Int) : Nat → List (Int × Int)
 | 0 => []
 | k + 1 => bif decide (lo + k ∈ ks) then gapsT lo ks k else gapStep (gapsT lo ks k) k
theorem gapsT_bnd (lo : Int) (ks : List Int) : ∀ k, k ≤ 100 → Bnd (gapsT lo ks k) k
 | 0, _ => ⟨Nat.le_refl _, fun g hg => by cases hg⟩
 | k + 1, hk => by
   have ih := gapsT_bnd lo ks k (by omega)
   simp only [gapsT]
   cases decide (lo + (k : Int) ∈ ks)
   ·exact ih.step (by omega) (by omega)
   ·exact ⟨Nat.le_succ_of_le ih.1, ih.2⟩
theorem gapsT_in (lo : Int) (ks : List Int) (n : Nat) : ∀ k, k ≤ 100 → inGap (gapsT lo ks k) n = (decide (n / 8 < k) && !decide (lo + ((n / 8 : Nat) : Int) ∈ ks))
 | 0, _ => by simp [gapsT, inGap]
 | k + 1, hk => by
   have ih := gapsT_in lo ks n k (by omega)
   have hb := gapsT_bnd lo ks k (by omega)
   simp only [gapsT]
   by_cases h : lo + (k : Int) ∈ ks
   ·rw [decide_eq_true h, cond_true, ih]
    by_cases e : n / 8 = k
    ·rw [e, decide_eq_true h]; simp
    ·have : n / 8 < k + 1 ↔ n / 8 < k := by omega
     simp only [this]
   ·rw [decide_eq_false h, cond_false, inGap_step hb, ih]
    by_cases e : n / 8 = k
    ·have w : win (n : Int) ((k : Int) * 8) ((k : Int) * 8 + 7) = true := win_iff.2 (by omega)
     rw [w, e, decide_eq_false h, decide_eq_true (show k < k + 1 by omega)]; simp
    ·have w : win (n : Int) ((k : Int) * 8) ((k : Int) * 8 + 7) = false := by
      cases hw : win (n : Int) ((k : Int) * 8) ((k : Int) * 8 + 7)
      ·rfl
      ·have := win_iff.1 hw; omega
     have : n / 8 < k + 1 ↔ n / 8 < k := by omega
     rw [w, Bool.or_false]
     simp only [this]
theorem gaps_fold (B lo : Int) (ks : List Int) : ∀ k, (missT B lo ks k).foldl (fun gs n => gapStep gs (n - (B + lo))) [] = gapsT lo ks k
 | 0 => rfl
 | k + 1 => by
   simp only [missT, gapsT]
   cases decide (lo + (k : Int) ∈ ks)
   ·simp only [cond_false, List.foldl_append, List.foldl_cons, List.foldl_nil, gaps_fold B lo ks k]
    rw [show B + lo + (k : Int) - (B + lo) = (k : Int) by omega]
   ·exact gaps_fold B lo ks k
theorem fold_bnd {lo : Int} : ∀ {ms : List Int}, (∀ n ∈ ms, lo ≤ n ∧ n ≤ lo + 100) → ∀ {gs : List (Int × Int)} {n : Nat}, Bnd gs n → Bnd (ms.foldl (fun gs n => gapStep gs (n - lo)) gs) (n + ms.length)
 | [], _, gs, n, h => h
 | m :: ms, hm, gs, n, h => by
   have h1 := hm m (List.mem_cons_self ..)
   have h2 := fold_bnd (lo := lo) (ms := ms) (fun k hk => hm k (List.mem_cons_of_mem _ hk)) (h.step (t := m - lo) (by omega) (by omega))
   simp only [List.foldl_cons, List.length_cons]
   rw [show n + (ms.length + 1) = n + 1 + ms.length by omega]
   exact h2
theorem gap_prog {gs : List (Int × Int)} {n : Nat} (h : Bnd gs n) (hn : n ≤ 1000) {t : Int} (h0 : 0 ≤ t) (h1 : t ≤ 100) {α : Type} (f : List (Int × Int) → α) :
 (bif decide ((gs.length : Int) > 0) then
   bif inBounds (wr ((gs.length : Int) - 1)) gs.length then
    bif (wr ((gs.getD (wr ((gs.length : Int) - 1)).toNat (0, 0)).2 + 1)) == (wr (t * 8)) then
     bif inBounds (wr ((gs.length : Int) - 1)) gs.length then
      some (f (gs.set (wr ((gs.length : Int) - 1)).toNat ((gs.getD (wr ((gs.length : Int) - 1)).toNat (0, 0)).1, wr ((wr ((wr (t + 1)) * 8)) - 1))))
     else none
    else
     bif room 16 (gs.length + 1) then
      some (f (gs ++ [(wr (t * 8), wr ((wr ((wr (t + 1)) * 8)) - 1))]))
     else none
   else none
 else
  bif room 16 (gs.length + 1) then
   some (f (gs ++ [(wr (t * 8), wr ((wr ((wr (t + 1)) * 8)) - 1))]))
  else none) = some (f (gapStep gs t)) := by
 obtain ⟨a1, a2⟩ := h
 rcases nil_or_snoc gs with rfl | ⟨a, x, rfl⟩
 ·rw [gapStep_nil]
  simp only [List.length_nil, List.nil_append]
  simp (disch := omega) only [wr_id, dT, dF, inT, roomT, cond_true, cond_false]
 ·have hx := a2 x (by simp)
  have e : (((a ++ [x]).length : Int) - 1) = (a.length : Int) := by simp
  have e2 : (a ++ [x]).length = a.length + 1 := by simp
  simp only [e]
  simp (disch := omega) only [wr_id, dT, dF, inT, roomT, cond_true, cond_false, Int.toNat_natCast, snoc_getD, snoc_set]
  rw [gapStep_snoc]
  by_cases he : x.2 + 1 = t * 8
  ·rw [if_pos he]; simp (disch := omega) only [wr_id, beqT, cond_true]
  ·rw [if_neg he]; simp (disch := omega) only [wr_id, beqF, cond_false]
def pkAt (X : Int) (S : List (Int × Int)) (ks : List Int) (k : Int) : Pk := if k ∈ ks then pkOf X S k else pk0
def sampT (X : Int) (S : List (Int × Int)) (ks : List Int) (lo : Int) : Nat → List (Int × Int)
 | 0 => []
 | k + 1 => sampT X S ks lo k ++ samplesOf (pkAt X S ks (lo + k))
theorem sampT_length (X : Int) (S : List (Int × Int)) (ks : List Int) (lo : Int) : ∀ k, (sampT X S ks lo k).length = 8 * k
 | 0 => rfl
 | k + 1 => by
   simp only [sampT, List.length_append, sampT_length X S ks lo k, samplesOf, List.length_cons, List.length_nil]; omega
theorem samples_get (X : Int) (S : List (Int × Int)) (k : Int) (j : Nat) (hj : j < 8) : (samplesOf (pkOf X S k)).getD j (0, 0) = S.getD (k * 8 + (j : Int)).toNat (0, 0) := by
 match j, hj with
 | 0, _ => rfl
 | 1, _ => rfl
 | 2, _ => rfl
 | 3, _ => rfl
 | 4, _ => rfl
 | 5, _ => rfl
 | 6, _ => rfl
 | 7, _ => rfl
theorem sampT_get {X : Int} {S : List (Int × Int)} {ks : List Int} {lo : Int} (hlo : 0 ≤ lo) {n : Nat} : ∀ K, n < 8 * K → lo + ((n / 8 : Nat) : Int) ∈ ks → (sampT X S ks lo K).getD n (0, 0) = S.getD (8 * lo.toNat + n) (0, 0)
 | 0, h, _ => by omega
 | K + 1, h, hm => by
   have hs := sampT_length X S ks lo K
   simp only [sampT]
   by_cases e : n < 8 * K
   ·rw [List.getD_eq_getElem?_getD, List.getElem?_append_left (by omega), ← List.getD_eq_getElem?_getD]
    exact sampT_get hlo K e hm
   ·have eK : n / 8 = K := by omega
    rw [List.getD_eq_getElem?_getD, List.getElem?_append_right (by omega), ← List.getD_eq_getElem?_getD, hs]
    rw [eK] at hm
    unfold pkAt
    rw [if_pos hm, samples_get X S _ _ (by omega)]
    congr 1
    omega
def spanK (ks : List Int) : Nat := (hiK ks - loK ks + 1).toNat
def strOf (X : Int) (S : List (Int × Int)) (ks : List Int) : Int × List (Int × Int) × List (Int × Int) := (baseC X ks + loK ks, sampT X S ks (loK ks) (spanK ks), gapsT (loK ks) ks (spanK ks))
theorem asm_z {X : Int} {S : List (Int × Int)} {ks : List Int} (R : Route X S ks) : s17 (ks.map (pkOf X S)) = some (strOf X S ks, 0) := by
 have h0 := R.h0
 have h30 := R.h30
 obtain ⟨b1, b2, b3⟩ := base_b R
 obtain ⟨e1, e2, e3, e4⟩ := ends_b R
 have hsp : (spanK ks : Int) = hiK ks - loK ks + 1 := by unfold spanK; omega
 have hi : ∀ es : List (Int × Pk), s49 (es, ks.map (baseC X ks + ·)) = some (baseC X ks + hiK ks) := fun es => last_z h0 (by omega)
 have lo : ∀ es : List (Int × Pk), s48 (es, ks.map (baseC X ks + ·)) = some (baseC X ks + loK ks) := fun es => low_z h0 (by omega)
 generalize hB : baseC X ks = B at *
 have hl := loop_for (step := step17_0) (st := fun k => ((esT B X S ks ks.length, ks.map (B + ·)), B + loK ks + (k : Int), (0, [], []), (B + loK ks, sampT X S ks (loK ks) k, []))) (n := spanK ks) (e := ((esT B X S ks ks.length, ks.map (B + ·)), (0, [], []), (B + loK ks, sampT X S ks (loK ks) (spanK ks), [])))
  (fun k hk => by
    have hs := sampT_length X S ks (loK ks) k
    have hg := es_get B X S ks (B + loK ks + (k : Int)) ks.length (Nat.le_refl _)
    rw [List.take_length, show B + loK ks + (k : Int) - B = loK ks + (k : Int) by omega] at hg
    have hg' : mapGet (B + loK ks + (k : Int)) (0, 0, (0, 0), (0, 0), (0, 0), (0, 0), (0, 0), (0, 0), (0, 0), 0, 0) (esT B X S ks ks.length) = pkAt X S ks (loK ks + (k : Int)) := hg
    simp only [step17_0, hi, optE_some, hg']
    simp (disch := omega) only [dT, roomT, wr_id, cond_true, succ_cast, sampT, Int.add_assoc, samplesOf]) (by
    simp only [step17_0, hi, optE_some]
    simp (disch := omega) only [dF, cond_false]) 0 (by omega)
 simp only [Int.natCast_zero, Int.add_zero, sampT] at hl
 have hm2 := loop_for (step := step50_0) (st := fun k => ((esT B X S ks ks.length, ks.map (B + ·)), missT B (loK ks) ks k, B + loK ks + (k : Int))) (n := spanK ks) (e := missT B (loK ks) ks (spanK ks))
  (fun k hk => by
    have hs := missT_length B (loK ks) ks k
    have hh := es_has B X S ks (B + loK ks + (k : Int)) ks.length (Nat.le_refl _)
    rw [List.take_length, show B + loK ks + (k : Int) - B = loK ks + (k : Int) by omega] at hh
    simp only [step50_0, hi, optE_some, hh]
    simp (disch := omega) only [dT, roomT, wr_id, cond_true, succ_cast, missT]
    cases decide (loK ks + (k : Int) ∈ ks) <;> simp only [Bool.not_true, Bool.not_false, cond_true, cond_false, Int.add_assoc]) (by
    simp only [step50_0, hi, optE_some]
    simp (disch := omega) only [dF, cond_false]) 0 (by omega)
 simp only [Int.natCast_zero, Int.add_zero, missT] at hm2
 have hmiss : s50 (esT B X S ks ks.length, ks.map (B + ·)) = some (missT B (loK ks) ks (spanK ks)) := by
  simp only [s50, lo, optE_some, hm2]
 generalize hM : missT B (loK ks) ks (spanK ks) = M at *
 have hMl : M.length ≤ 40 := by rw [← hM]; exact Nat.le_trans (missT_length B (loK ks) ks (spanK ks)) (by omega)
 have hMm : ∀ n ∈ M, B + loK ks ≤ n ∧ n ≤ B + loK ks + 100 := fun n hn => by
  rw [← hM] at hn
  have := missT_mem hn
  omega
 have hl2 := loop_for (step := step17_2) (st := fun k => (M, (M.length : Int), (k : Int), (0, [], []), (B + loK ks, sampT X S ks (loK ks) (spanK ks), (M.take k).foldl (fun gs n => gapStep gs (n - (B + loK ks))) []))) (n := M.length) (e := ((0, [], []), (B + loK ks, sampT X S ks (loK ks) (spanK ks), gapsT (loK ks) ks (spanK ks))))
  (fun k hk => by
    have hmem := hMm _ (getDm (d := 0) hk)
    have hb : Bnd ((M.take k).foldl (fun gs n => gapStep gs (n - (B + loK ks))) []) (0 + (M.take k).length) := fold_bnd (fun n hn => hMm n (List.mem_of_mem_take hn)) ⟨Nat.le_refl _, fun g hg => by cases hg⟩
    rw [List.length_take] at hb
    have hp := gap_prog hb (by omega) (t := M.getD k 0 - (B + loK ks)) (by omega) (by omega) (fun gs => (Sum.inl (M, (M.length : Int), ((k + 1 : Nat) : Int), ((0 : Int), ([] : List (Int × Int)), ([] : List (Int × Int))), (B + loK ks, sampT X S ks (loK ks) (spanK ks), gs)) : ((List Int) × Int × Int × (Int × (List (Int × Int)) × List (Int × Int)) × (Int × (List (Int × Int)) × (List (Int × Int)))) ⊕ ((Int × (List (Int × Int)) × List (Int × Int)) × (Int × (List (Int × Int)) × (List (Int × Int))))))
    rw [← take_succ_getD _ 0 hk, List.foldl_append, List.foldl_cons, List.foldl_nil, ← hp]
    have e1 : wr (M.getD k 0 - (B + loK ks)) = M.getD k 0 - (B + loK ks) := wr_id (by omega) (by omega)
    simp only [step17_2, Int.toNat_natCast, e1, wr_succ (show k < 4611686018427387904 by omega), inB_cast, lt_cast, decide_eq_true hk, cond_true]) (by
    have := gaps_fold B (loK ks) ks (spanK ks)
    rw [hM] at this
    simp only [step17_2, lt_cast, decide_eq_false (Nat.lt_irrefl _), cond_false, List.take_length, this]) 0 (by omega)
 simp only [Int.natCast_zero, List.take_zero, List.foldl_nil] at hl2
 have ho := open_z R
 rw [hB] at ho
 simp only [s17, ho, optE_some, bne_self_eq_false, cond_false, lo, hl, hmiss, hl2, strOf, hB]
end Go.Proofs.YtcdpgjlaajdfmaaGreatDoor
