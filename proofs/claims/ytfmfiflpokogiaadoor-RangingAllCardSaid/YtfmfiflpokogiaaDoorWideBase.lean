import Derived.Test.YtfmfiflpokogiaaDoorSearch
import Derived.Test.YtfmfiflpokogiaaDoorGc3
set_option linter.unusedSimpArgs false
namespace Go.Proofs.YtfmfiflpokogiaaDoor
open Go.Ev
def dval : List Int → Int
 | [] => 0
 | d :: l => d + 1000000000 * dval l
def Dig (l : List Int) : Prop := ∀ d ∈ l, 0 ≤ d ∧ d < 1000000000
def trim : List Int → List Int
 | [] => []
 | d :: l => match trim l with
   | [] => if d = 0 then [] else [d]
   | e :: t => d :: e :: t
theorem trim_cons (d : Int) (l : List Int) : trim (d :: l) = if trim l = [] then (if d = 0 then [] else [d]) else d :: trim l := by
 have : trim (d :: l) = (match trim l with | [] => if d = 0 then [] else [d] | e :: t => d :: e :: t) := rfl
 rw [this]
 cases trim l with
 | nil => simp
 | cons e t => simp
theorem trim_zero : ∀ l : List Int, trim (l ++ [0]) = trim l
 | [] => rfl
 | d :: l => by rw [List.cons_append, trim_cons, trim_cons, trim_zero l]
theorem trim_snoc {d : Int} (hd : d ≠ 0) : ∀ l : List Int, trim (l ++ [d]) = l ++ [d]
 | [] => by simp [trim, hd]
 | e :: l => by rw [List.cons_append, trim_cons, trim_snoc hd l, if_neg (by simp)]
theorem dval_trim : ∀ l : List Int, dval (trim l) = dval l
 | [] => rfl
 | d :: l => by
   have ih := dval_trim l
   rw [trim_cons]
   split
   ·rename_i h
    rw [h] at ih
    split
    ·rename_i hd; simp only [dval] at ih ⊢; omega
    ·simp only [dval] at ih ⊢; omega
   ·simp only [dval, ih]
theorem trim_len : ∀ l : List Int, (trim l).length ≤ l.length
 | [] => Nat.le_refl _
 | d :: l => by
   have ih := trim_len l
   rw [trim_cons]
   split
   ·split <;> simp
   ·simp only [List.length_cons]; omega
theorem dig_trim : ∀ {l : List Int}, Dig l → Dig (trim l)
 | [], _ => fun _ h => by cases h
 | d :: l, h => by
   have ih := dig_trim (l := l) fun x hx => h x (List.mem_cons_of_mem _ hx)
   rw [trim_cons]
   intro x hx
   split at hx
   ·split at hx
    ·cases hx
    ·obtain rfl := List.mem_singleton.1 hx; exact h _ List.mem_cons_self
   ·rcases List.mem_cons.1 hx with rfl | hx
    ·exact h _ List.mem_cons_self
    ·exact ih x hx
theorem trim_trim : ∀ l : List Int, trim (trim l) = trim l
 | [] => rfl
 | d :: l => by
   have ih := trim_trim l
   rw [trim_cons]
   split
   ·split
    ·rfl
    ·rename_i h; simp [trim, h]
   ·rename_i h
    rw [trim_cons, ih, if_neg h]
theorem trim_take : ∀ l : List Int, l.take (trim l).length = trim l
 | [] => rfl
 | d :: l => by
   have ih := trim_take l
   rw [trim_cons]
   split
   ·split <;> simp
   ·rw [List.length_cons, List.take_succ_cons, ih]
theorem trim_drop : ∀ {l : List Int} (i : Nat), trim l = l → trim (l.drop i) = l.drop i
 | [], i, _ => by simp [trim]
 | d :: l, 0, h => h
 | d :: l, i + 1, h => by
   rw [List.drop_succ_cons]
   refine trim_drop i ?_
   rw [trim_cons] at h
   split at h
   ·rename_i h0
    split at h
    ·cases h
    ·obtain ⟨_, rfl⟩ := List.cons.inj h; rfl
   ·exact (List.cons.inj h).2
theorem dval_nonneg : ∀ {l : List Int}, Dig l → 0 ≤ dval l
 | [], _ => Int.le_refl _
 | d :: l, h => by
   have ih := dval_nonneg (l := l) fun x hx => h x (List.mem_cons_of_mem _ hx)
   have := (h d List.mem_cons_self).1
   simp only [dval]; omega
theorem dval_zero : ∀ {l : List Int}, Dig l → trim l = l → dval l = 0 → l = []
 | [], _, _, _ => rfl
 | d :: l, h, ht, h0 => by
   have hl : Dig l := fun x hx => h x (List.mem_cons_of_mem _ hx)
   have hd := h d List.mem_cons_self
   have hn := dval_nonneg hl
   simp only [dval] at h0
   have := dval_zero hl (trim_drop 1 ht) (by omega)
   subst this
   have : d = 0 := by omega
   subst this
   simp [trim] at ht
theorem dig_drop {l : List Int} (i : Nat) (h : Dig l) : Dig (l.drop i) := fun x hx => h x (List.mem_of_mem_drop hx)
theorem dval_drop (l : List Int) (i : Nat) : dval (l.drop i) = l.getD i 0 + 1000000000 * dval (l.drop (i + 1)) := by
 by_cases h : i < l.length
 ·rw [getD_drop l 0 h]; rfl
 ·rw [List.drop_eq_nil_of_le (by omega), List.drop_eq_nil_of_le (by omega), List.getD_eq_getElem?_getD, List.getElem?_eq_none (by omega)]; rfl
theorem dig_getD {l : List Int} (h : Dig l) (i : Nat) : 0 ≤ l.getD i 0 ∧ l.getD i 0 < 1000000000 := by
 rw [List.getD_eq_getElem?_getD]
 cases hi : l[i]? with
 | none => simp
 | some x => exact h x (List.mem_of_getElem? hi)
theorem dig_snoc {l : List Int} (h : Dig l) {d : Int} (hd : 0 ≤ d ∧ d < 1000000000) : Dig (l ++ [d]) := fun x hx => by
 rcases List.mem_append.1 hx with hx | hx
 ·exact h x hx
 ·obtain rfl := List.mem_singleton.1 hx; exact hd
theorem dig_nil : Dig [] := fun _ h => by cases h
theorem dig_cons {d : Int} {l : List Int} (hd : 0 ≤ d ∧ d < 1000000000) (h : Dig l) : Dig (d :: l) := fun x hx => by
 rcases List.mem_cons.1 hx with rfl | hx
 ·exact hd
 ·exact h x hx
theorem dig_set {l : List Int} (h : Dig l) (i : Nat) {d : Int} (hd : 0 ≤ d ∧ d < 1000000000) : Dig (l.set i d) := fun x hx => by
 rcases List.mem_or_eq_of_mem_set hx with hx | rfl
 ·exact h x hx
 ·exact hd
theorem inb_nat {i n : Nat} (h : i < n) : inBounds (i : Int) n = true := by
 simp [inBounds, h]
theorem trim_loop (l : List Int) (hl : l.length ≤ 10000) : ∀ k, k ≤ l.length → trim (l.take k) = trim l → loopVal step132_0 (l, (k : Int)) = some (l, ((trim l).length : Int)) := by
 intro k
 induction k with
 | zero =>
   intro _ h
   have h0 : trim l = [] := by rw [← h]; rfl
   rw [h0]
   exact loopVal_last (by simp [step132_0])
 | succ k ih =>
   intro hk h
   have e1 : ((k + 1 : Nat) : Int) - 1 = (k : Int) := by omega
   have hb := inb_nat (show k < l.length by omega)
   have hstep : step132_0 (l, ((k + 1 : Nat) : Int)) = bif (l.getD k 0 == 0) then some (.inl (l, (k : Int))) else some (.inr (l, ((k + 1 : Nat) : Int))) := by
    simp only [step132_0]
    rw [decide_eq_true (show ((k + 1 : Nat) : Int) > 0 by omega), cond_true, e1, wr_id (n := (k : Int)) (by omega) (by omega), hb, cond_true, Int.toNat_natCast]
   have hs := take_succ_getD l 0 (show k < l.length by omega)
   by_cases hz : l.getD k 0 = 0
   ·rw [loopVal_next (hstep.trans (by rw [hz]; rfl))]
    refine ih (by omega) ?_
    rw [← h, ← hs, hz, trim_zero]
   ·rw [show (l.getD k 0 == 0) = false by simpa using hz, cond_false] at hstep
    rw [loopVal_last hstep]
    have : trim l = l.take (k + 1) := by rw [← h, ← hs, trim_snoc hz]
    rw [this, List.length_take]
    congr 3
    omega
theorem s132_eq (l : List Int) (hl : l.length ≤ 10000) : s132 l = some (trim l) := by
 unfold s132
 have hle := trim_len l
 simp only [trim_loop l hl l.length (Nat.le_refl _) (by rw [List.take_length]), optE_some]
 rw [decide_eq_true (show (0 : Int) ≤ ((trim l).length : Int) by omega), decide_eq_true (show ((trim l).length : Int) ≤ (l.length : Int) by omega)]
 simp only [Bool.and_self, cond_true, Int.toNat_natCast, trim_take]
theorem s124_eq (sign : Int) (l : List Int) (hl : l.length ≤ 10000) : s124 (sign, l) = some (if trim l = [] then 0 else sign, trim l) := by
 unfold s124
 simp only [s132_eq l hl, optE_some]
 by_cases h : trim l = []
 ·rw [h, if_pos rfl]; rfl
 ·rw [if_neg h]
  have : ((trim l).length : Int) ≠ 0 := fun e => h (List.eq_nil_of_length_eq_zero (by omega))
  rw [show (((trim l).length : Int) == 0) = false by simpa using this]
  rfl
def sgI (n : Int) : Int := if n < 0 then -1 else if n = 0 then 0 else 1
def abI (n : Int) : Int := if n < 0 then -n else n
structure IsW (w : Int × List Int) (n : Int) (k : Nat) : Prop where
 sign : w.1 = sgI n
 dig : Dig w.2
 trim : trim w.2 = w.2
 val : dval w.2 = abI n
 len : w.2.length ≤ k
theorem IsW.of {sg : Int} {l : List Int} {n : Int} {k : Nat} (hd : Dig l) (hv : dval l = abI n) (hk : l.length ≤ k) (hs : n ≠ 0 → sg = sgI n) : IsW (if Go.Proofs.YtfmfiflpokogiaaDoor.trim l = [] then 0 else sg, Go.Proofs.YtfmfiflpokogiaaDoor.trim l) n k := by
 have hz : Go.Proofs.YtfmfiflpokogiaaDoor.trim l = [] ↔ n = 0 := by
  constructor
  ·intro h
   have := dval_trim l
   rw [h, hv] at this
   simp only [dval, abI] at this
   split at this <;> omega
  ·intro h
   refine dval_zero (dig_trim hd) (trim_trim l) ?_
   rw [dval_trim, hv, h]; rfl
 refine ⟨?_, dig_trim hd, trim_trim l, by rw [dval_trim, hv], Nat.le_trans (trim_len l) hk⟩
 show (if _ then _ else _) = _
 by_cases h : n = 0
 ·rw [if_pos (hz.2 h), h]; rfl
 ·rw [if_neg (fun e => h (hz.1 e)), hs h]
theorem IsW.more {w : Int × List Int} {n : Int} {k m : Nat} (h : IsW w n k) (hm : k ≤ m) : IsW w n m := ⟨h.sign, h.dig, h.trim, h.val, Nat.le_trans h.len hm⟩
theorem wideOf_loop (sign : Int) (t2 : Int × List Int) : ∀ (k : Nat) (n : Int) (l : List Int), 0 ≤ n → n < 1000000000 ^ k → n < 9223372036854775808 → l.length + k ≤ 10000 → ∃ ds, loopVal step92_0 (n, sign, l, t2) = some (sign, l ++ ds, t2) ∧ dval ds = n ∧ Dig ds ∧ ds.length ≤ k
 | 0, n, l, h0, h1, _, _ => by
   have : n = 0 := by rw [Int.pow_zero] at h1; omega
   subst this
   exact ⟨[], loopVal_last (by simp [step92_0]), rfl, dig_nil, Nat.le_refl _⟩
 | k + 1, n, l, h0, h1, h2, hl => by
   by_cases hz : n = 0
   ·subst hz
    exact ⟨[], loopVal_last (by simp [step92_0]), rfl, dig_nil, by simp⟩
   ·have hlt : n / 1000000000 < 1000000000 ^ k := by
     rw [Int.pow_succ] at h1
     omega
    obtain ⟨ds, g1, g2, g3, g4⟩ := wideOf_loop sign t2 k (n / 1000000000) (l ++ [n % 1000000000]) (by omega) hlt (by omega) (by simp; omega)
    refine ⟨n % 1000000000 :: ds, ?_, ?_, dig_cons (by omega) g3, by simp only [List.length_cons]; omega⟩
    ·rw [loopVal_next (y := (n / 1000000000, sign, l ++ [n % 1000000000], t2)), g1, List.append_assoc]
     ·rfl
     ·simp only [step92_0]
      rw [decide_eq_true (show n > 0 by omega), cond_true, Int.tdiv_eq_ediv_of_nonneg h0, Int.tmod_eq_emod_of_nonneg h0, wr_id (n := n / 1000000000) (by omega) (by omega), room_true (by omega) (by omega)]
      rfl
    ·simp only [dval, g2]; omega
theorem s92_eq {n : Int} (h1 : -9223372036854775807 ≤ n) (h2 : n ≤ 9223372036854775807) : ∃ w, s92 n = some w ∧ IsW w n 3 := by
 have hp : (1000000000 : Int) ^ 3 = 1000000000000000000000000000 := by decide
 unfold s92
 by_cases hn : n < 0
 ·obtain ⟨ds, g1, g2, g3, g4⟩ := wideOf_loop (-1) (0, []) 3 (-n) [] (by omega) (by omega) (by omega) (by simp)
  rw [decide_eq_true hn, cond_true, wr_id (n := -n) (by omega) (by omega), g1]
  simp only [optE_some, List.nil_append]
  rw [s124_eq _ _ (by omega)]
  exact ⟨_, rfl, .of g3 (by rw [g2]; simp [abI, hn]) g4 (fun _ => by simp [sgI, hn])⟩
 ·obtain ⟨ds, g1, g2, g3, g4⟩ := wideOf_loop 1 (0, []) 3 n [] (by omega) (by omega) (by omega) (by simp)
  rw [decide_eq_false hn, cond_false, g1]
  simp only [optE_some, List.nil_append]
  rw [s124_eq _ _ (by omega)]
  exact ⟨_, rfl, .of g3 (by rw [g2]; simp [abI, hn]) g4 (fun h => by simp [sgI, hn, h])⟩
theorem s140_eq (l : List Int) (i : Nat) : s140 (l, (i : Int)) = some (l.getD i 0) := by
 unfold s140
 by_cases h : i < l.length
 ·simp only [decide_eq_true (show (i : Int) < (l.length : Int) by omega), cond_true, inb_nat h, Int.toNat_natCast]
 ·simp only [decide_eq_false (show ¬ (i : Int) < (l.length : Int) by omega), cond_false]
  rw [List.getD_eq_getElem?_getD, List.getElem?_eq_none (by omega)]; rfl
theorem add_step (a b out : List Int) (carry : Int) (i : Nat) (ha : Dig a) (hb : Dig b) (hc : 0 ≤ carry ∧ carry ≤ 1) (hi : i ≤ 5000) (ho : out.length ≤ 10000) : step137_0 (a, b, out, carry, (i : Int)) =
 if i < a.length ∨ i < b.length ∨ 0 < carry then some (.inl (a, b, out ++ [(a.getD i 0 + b.getD i 0 + carry) % 1000000000], (a.getD i 0 + b.getD i 0 + carry) / 1000000000, ((i + 1 : Nat) : Int))) else some (.inr out) := by
 have h1 := dig_getD ha i
 have h2 := dig_getD hb i
 have e1 : wr (a.getD i 0 + b.getD i 0) = a.getD i 0 + b.getD i 0 := wr_id (by omega) (by omega)
 have e2 : wr (a.getD i 0 + b.getD i 0 + carry) = a.getD i 0 + b.getD i 0 + carry := wr_id (by omega) (by omega)
 have e3 : Int.tmod (a.getD i 0 + b.getD i 0 + carry) 1000000000 = (a.getD i 0 + b.getD i 0 + carry) % 1000000000 := Int.tmod_eq_emod_of_nonneg (by omega)
 have e4 : Int.tdiv (a.getD i 0 + b.getD i 0 + carry) 1000000000 = (a.getD i 0 + b.getD i 0 + carry) / 1000000000 := Int.tdiv_eq_ediv_of_nonneg (by omega)
 have e5 : wr ((a.getD i 0 + b.getD i 0 + carry) / 1000000000) = (a.getD i 0 + b.getD i 0 + carry) / 1000000000 := wr_id (by omega) (by omega)
 have e6 : wr ((i : Int) + 1) = ((i + 1 : Nat) : Int) := by rw [wr_id (by omega) (by omega)]; rfl
 have e7 : room 8 (out.length + 1) = true := room_true (by omega) (by omega)
 simp only [step137_0, s140_eq, optE_some, e1, e2, e3, e4, e5, e6, e7, cond_true]
 by_cases c1 : i < a.length
 ·rw [decide_eq_true (show (i : Int) < (a.length : Int) by omega), cond_true, if_pos (.inl c1)]
 ·rw [decide_eq_false (show ¬ (i : Int) < (a.length : Int) by omega), cond_false]
  by_cases c2 : i < b.length
  ·rw [decide_eq_true (show (i : Int) < (b.length : Int) by omega), cond_true, if_pos (.inr (.inl c2))]
  ·rw [decide_eq_false (show ¬ (i : Int) < (b.length : Int) by omega), cond_false]
   by_cases c3 : 0 < carry
   ·rw [decide_eq_true (show carry > 0 by omega), cond_true, if_pos (.inr (.inr c3))]
   ·rw [decide_eq_false (show ¬ carry > 0 by omega), cond_false, if_neg (by omega)]
theorem add_loop (a b : List Int) (ha : Dig a) (hb : Dig b) (n : Nat) (han : a.length ≤ n) (hbn : b.length ≤ n) (hn : n ≤ 1000) : ∀ (m i : Nat) (out : List Int) (carry : Int), i + m = n + 1 → (0 ≤ carry ∧ carry ≤ 1) → (i = n + 1 → carry = 0) → out.length = i →
 ∃ ds, loopVal step137_0 (a, b, out, carry, (i : Int)) = some (out ++ ds) ∧ dval ds = dval (a.drop i) + dval (b.drop i) + carry ∧ Dig ds ∧ ds.length ≤ m := by
 intro m
 induction m with
 | zero =>
   intro i out carry hi hc h0 ho
   have hs := add_step a b out carry i ha hb hc (by omega) (by omega)
   have hc0 := h0 (by omega)
   rw [if_neg (by omega)] at hs
   refine ⟨[], by rw [loopVal_last hs, List.append_nil], ?_, dig_nil, Nat.le_refl _⟩
   rw [List.drop_eq_nil_of_le (by omega), List.drop_eq_nil_of_le (by omega), hc0]; rfl
 | succ m ih =>
   intro i out carry hi hc h0 ho
   have hs := add_step a b out carry i ha hb hc (by omega) (by omega)
   by_cases hm : i < a.length ∨ i < b.length ∨ 0 < carry
   ·rw [if_pos hm] at hs
    have h1 := dig_getD ha i
    have h2 := dig_getD hb i
    obtain ⟨ds, g1, g2, g3, g4⟩ := ih (i + 1) (out ++ [(a.getD i 0 + b.getD i 0 + carry) % 1000000000]) ((a.getD i 0 + b.getD i 0 + carry) / 1000000000) (by omega) (by omega) (fun e => by
     have : a.getD i 0 = 0 := by rw [List.getD_eq_getElem?_getD, List.getElem?_eq_none (by omega)]; rfl
     have : b.getD i 0 = 0 := by rw [List.getD_eq_getElem?_getD, List.getElem?_eq_none (by omega)]; rfl
     omega) (by simp [ho])
    refine ⟨(a.getD i 0 + b.getD i 0 + carry) % 1000000000 :: ds, by rw [loopVal_next hs, g1, List.append_assoc]; rfl, ?_, dig_cons (by omega) g3, by simp only [List.length_cons]; omega⟩
    have d1 := dval_drop a i
    have d2 := dval_drop b i
    simp only [dval, g2]
    omega
   ·rw [if_neg hm] at hs
    refine ⟨[], by rw [loopVal_last hs, List.append_nil], ?_, dig_nil, by simp⟩
    rw [List.drop_eq_nil_of_le (by omega), List.drop_eq_nil_of_le (by omega)]
    simp only [dval]; omega
theorem s137_eq {a b : List Int} {n : Nat} (ha : Dig a) (hb : Dig b) (han : a.length ≤ n) (hbn : b.length ≤ n) (hn : n ≤ 1000) : ∃ ds, s137 (a, b) = some ds ∧ dval ds = dval a + dval b ∧ Dig ds ∧ ds.length ≤ n + 1 := by
 obtain ⟨ds, g1, g2, g3, g4⟩ := add_loop a b ha hb n han hbn hn (n + 1) 0 [] 0 (by omega) (by omega) (by omega) rfl
 refine ⟨ds, ?_, by simpa using g2, g3, g4⟩
 have g1' : loopVal step137_0 (a, b, [], 0, 0) = _ := g1
 unfold s137
 simp only [g1', optE_some, List.nil_append]
theorem less_down {a b : List Int} (ha : Dig a) (hb : Dig b) : ∀ i, dval (a.drop i) < dval (b.drop i) → dval a < dval b
 | 0, h => by simpa using h
 | i + 1, h => less_down ha hb i (by
   have h1 := dig_getD ha i
   have h2 := dig_getD hb i
   have d1 := dval_drop a i
   have d2 := dval_drop b i
   omega)
theorem longer {a b : List Int} (ha : Dig a) (hb : Dig b) (tb : trim b = b) (h : a.length < b.length) : dval a < dval b := by
 refine less_down ha hb a.length ?_
 rw [List.drop_eq_nil_of_le (Nat.le_refl _)]
 have h0 := dval_nonneg (dig_drop a.length hb)
 have : dval (b.drop a.length) ≠ 0 := fun e => by
  have := dval_zero (dig_drop a.length hb) (trim_drop a.length tb) e
  have := congrArg List.length this
  simp at this
  omega
 simp only [dval]
 omega
def cmpI (m n : Int) : Int := if m < n then -1 else if m = n then 0 else 1
theorem cmp_loop {a b : List Int} (ha : Dig a) (hb : Dig b) (hl : a.length = b.length) (hn : a.length ≤ 1000) : ∀ k, k ≤ a.length → a.drop k = b.drop k → loopVal step138_0 (a, b, (k : Int) - 1) = some (if dval a = dval b then .inr () else .inl (cmpI (dval a) (dval b))) := by
 intro k
 induction k with
 | zero =>
   intro _ h
   simp only [List.drop_zero] at h
   subst h
   rw [if_pos rfl]
   exact loopVal_last (by simp [step138_0])
 | succ k ih =>
   intro hk h
   have e1 : ((k + 1 : Nat) : Int) - 1 = (k : Int) := by omega
   have e2 : wr ((k : Int) - 1) = (k : Int) - 1 := wr_id (by omega) (by omega)
   have d1 := dval_drop a k
   have d2 := dval_drop b k
   rw [h] at d1
   rw [e1]
   have hstep : step138_0 (a, b, (k : Int)) = bif decide (a.getD k 0 < b.getD k 0) then some (.inr (.inl (-1))) else bif decide (a.getD k 0 > b.getD k 0) then some (.inr (.inl 1)) else some (.inl (a, b, (k : Int) - 1)) := by
    simp only [step138_0]
    rw [decide_eq_true (show (k : Int) ≥ 0 by omega), cond_true, inb_nat (show k < a.length by omega), inb_nat (show k < b.length by omega), Int.toNat_natCast, e2]
    simp only [cond_true]
   by_cases c1 : a.getD k 0 < b.getD k 0
   ·rw [decide_eq_true c1, cond_true] at hstep
    have hlt := less_down ha hb k (by omega)
    rw [loopVal_last hstep, if_neg (by omega), cmpI, if_pos hlt]
   ·by_cases c2 : a.getD k 0 > b.getD k 0
    ·rw [decide_eq_false c1, decide_eq_true c2, cond_true, cond_false] at hstep
     have hlt := less_down hb ha k (by omega)
     rw [loopVal_last hstep, if_neg (by omega), cmpI, if_neg (by omega), if_neg (by omega)]
    ·rw [decide_eq_false c1, decide_eq_false c2, cond_false, cond_false] at hstep
     rw [loopVal_next hstep]
     refine ih (by omega) ?_
     rw [getD_drop a 0 (by omega), getD_drop b 0 (by omega), h, show a.getD k 0 = b.getD k 0 by omega]
theorem s138_eq {a b : List Int} (ha : Dig a) (hb : Dig b) (ta : trim a = a) (tb : trim b = b) (hn : a.length ≤ 1000) : s138 (a, b) = some (cmpI (dval a) (dval b)) := by
 unfold s138
 by_cases hl : a.length = b.length
 ·have := cmp_loop ha hb hl hn a.length (Nat.le_refl _) (by rw [List.drop_eq_nil_of_le (Nat.le_refl _), List.drop_eq_nil_of_le (by omega)])
  simp only []
  rw [show ((a.length : Int) != (b.length : Int)) = false by simp [hl], cond_false, wr_id (n := (a.length : Int) - 1) (by omega) (by omega), this]
  by_cases c : dval a = dval b
  ·rw [if_pos c, cmpI, if_neg (by omega), if_pos c]; rfl
  ·rw [if_neg c]; rfl
 ·simp only []
  rw [show ((a.length : Int) != (b.length : Int)) = true by simp; omega, cond_true]
  by_cases c : a.length < b.length
  ·have := longer ha hb tb c
   rw [decide_eq_true (show (a.length : Int) < (b.length : Int) by omega), cond_true, cmpI, if_pos this]
  ·have := longer hb ha ta (show b.length < a.length by omega)
   rw [decide_eq_false (show ¬ (a.length : Int) < (b.length : Int) by omega), cond_false, cmpI, if_neg (by omega), if_neg (by omega)]
theorem sub_loop (a b : List Int) (ha : Dig a) (hb : Dig b) (hn : a.length ≤ 1000) : ∀ (m i : Nat) (out : List Int) (borrow : Int), i + m = a.length → (0 ≤ borrow ∧ borrow ≤ 1) → out.length = i → dval (b.drop i) + borrow ≤ dval (a.drop i) →
 ∃ ds, loopVal step139_0 (a, b, out, borrow, (i : Int)) = some (out ++ ds) ∧ dval ds = dval (a.drop i) - dval (b.drop i) - borrow ∧ Dig ds ∧ ds.length = m := by
 intro m
 induction m with
 | zero =>
   intro i out borrow hi hc ho h
   have hz : dval (a.drop i) = 0 := by rw [List.drop_eq_nil_of_le (by omega)]; rfl
   have h0 := dval_nonneg (dig_drop i hb)
   refine ⟨[], ?_, by simp only [dval]; omega, dig_nil, rfl⟩
   rw [List.append_nil]
   refine loopVal_last ?_
   simp only [step139_0]
   rw [decide_eq_false (by omega), cond_false]
 | succ m ih =>
   intro i out borrow hi hc ho h
   have h1 := dig_getD ha i
   have h2 := dig_getD hb i
   have d1 := dval_drop a i
   have d2 := dval_drop b i
   have e1 : wr (a.getD i 0 - b.getD i 0) = a.getD i 0 - b.getD i 0 := wr_id (by omega) (by omega)
   have e2 : wr (a.getD i 0 - b.getD i 0 - borrow) = a.getD i 0 - b.getD i 0 - borrow := wr_id (by omega) (by omega)
   have e3 : wr (a.getD i 0 - b.getD i 0 - borrow + 1000000000) = a.getD i 0 - b.getD i 0 - borrow + 1000000000 := wr_id (by omega) (by omega)
   have e6 : wr ((i : Int) + 1) = ((i + 1 : Nat) : Int) := by rw [wr_id (by omega) (by omega)]; rfl
   have e7 : room 8 (out.length + 1) = true := room_true (by omega) (by omega)
   have hstep : step139_0 (a, b, out, borrow, (i : Int)) = bif decide (a.getD i 0 - b.getD i 0 - borrow < 0) then some (.inl (a, b, out ++ [a.getD i 0 - b.getD i 0 - borrow + 1000000000], 1, ((i + 1 : Nat) : Int))) else some (.inl (a, b, out ++ [a.getD i 0 - b.getD i 0 - borrow], 0, ((i + 1 : Nat) : Int))) := by
    simp only [step139_0, s140_eq, optE_some, Int.toNat_natCast, e1, e2, e3, e6, e7, cond_true]
    rw [decide_eq_true (show (i : Int) < (a.length : Int) by omega), cond_true, inb_nat (show i < a.length by omega), cond_true]
   by_cases c : a.getD i 0 - b.getD i 0 - borrow < 0
   ·rw [decide_eq_true c, cond_true] at hstep
    obtain ⟨ds, g1, g2, g3, g4⟩ := ih (i + 1) (out ++ [a.getD i 0 - b.getD i 0 - borrow + 1000000000]) 1 (by omega) (by omega) (by simp [ho]) (by omega)
    exact ⟨(a.getD i 0 - b.getD i 0 - borrow + 1000000000) :: ds, by rw [loopVal_next hstep, g1, List.append_assoc]; rfl, by simp only [dval, g2]; omega, dig_cons (by omega) g3, by simp only [List.length_cons]; omega⟩
   ·rw [decide_eq_false c, cond_false] at hstep
    obtain ⟨ds, g1, g2, g3, g4⟩ := ih (i + 1) (out ++ [a.getD i 0 - b.getD i 0 - borrow]) 0 (by omega) (by omega) (by simp [ho]) (by omega)
    exact ⟨(a.getD i 0 - b.getD i 0 - borrow) :: ds, by rw [loopVal_next hstep, g1, List.append_assoc]; rfl, by simp only [dval, g2]; omega, dig_cons (by omega) g3, by simp only [List.length_cons]; omega⟩
theorem getD_set (l : List Int) (i j : Nat) (d : Int) : (l.set i d).getD j 0 = if i = j ∧ j < l.length then d else l.getD j 0 := by
 rw [List.getD_eq_getElem?_getD, List.getD_eq_getElem?_getD, List.getElem?_set]
 by_cases h : i = j
 ·subst h
  by_cases h2 : i < l.length
  ·simp [h2]
  ·simp [h2]
 ·simp [h]
theorem mul_step (a b t4 : Int × List Int) (out : List Int) (carry : Int) (i k : Nat) (ha : Dig a.2) (hb : Dig b.2) (ho : Dig out) (hi : i < a.2.length) (hk : k < b.2.length) (hl : i + k < out.length) (hn : out.length ≤ 5000) (hc : 0 ≤ carry ∧ carry < 1000000000) :
 step93_2 (out, (i : Int), carry, (k : Int), a, b, t4) = some (.inl (out.set (i + k) ((out.getD (i + k) 0 + a.2.getD i 0 * b.2.getD k 0 + carry) % 1000000000), (i : Int), (out.getD (i + k) 0 + a.2.getD i 0 * b.2.getD k 0 + carry) / 1000000000, ((k + 1 : Nat) : Int), a, b, t4)) := by
 have h1 := dig_getD ha i
 have h2 := dig_getD hb k
 have h3 := dig_getD ho (i + k)
 have p1 := Int.mul_nonneg h1.1 h2.1
 have p2 : a.2.getD i 0 * b.2.getD k 0 ≤ 999999999 * 999999999 := Int.mul_le_mul (by omega) (by omega) h2.1 (by omega)
 have e0 : wr ((i : Int) + (k : Int)) = ((i + k : Nat) : Int) := by rw [wr_id (by omega) (by omega)]; rfl
 have e1 : wr (a.2.getD i 0 * b.2.getD k 0) = a.2.getD i 0 * b.2.getD k 0 := wr_id (by omega) (by omega)
 have e2 : wr (out.getD (i + k) 0 + a.2.getD i 0 * b.2.getD k 0) = out.getD (i + k) 0 + a.2.getD i 0 * b.2.getD k 0 := wr_id (by omega) (by omega)
 have e3 : wr (out.getD (i + k) 0 + a.2.getD i 0 * b.2.getD k 0 + carry) = out.getD (i + k) 0 + a.2.getD i 0 * b.2.getD k 0 + carry := wr_id (by omega) (by omega)
 have e4 : Int.tmod (out.getD (i + k) 0 + a.2.getD i 0 * b.2.getD k 0 + carry) 1000000000 = (out.getD (i + k) 0 + a.2.getD i 0 * b.2.getD k 0 + carry) % 1000000000 := Int.tmod_eq_emod_of_nonneg (by omega)
 have e5 : Int.tdiv (out.getD (i + k) 0 + a.2.getD i 0 * b.2.getD k 0 + carry) 1000000000 = (out.getD (i + k) 0 + a.2.getD i 0 * b.2.getD k 0 + carry) / 1000000000 := Int.tdiv_eq_ediv_of_nonneg (by omega)
 have e6 : wr ((out.getD (i + k) 0 + a.2.getD i 0 * b.2.getD k 0 + carry) / 1000000000) = (out.getD (i + k) 0 + a.2.getD i 0 * b.2.getD k 0 + carry) / 1000000000 := wr_id (by omega) (by omega)
 have e7 : wr ((k : Int) + 1) = ((k + 1 : Nat) : Int) := by rw [wr_id (by omega) (by omega)]; rfl
 simp only [step93_2, e0, Int.toNat_natCast, e1, e2, e3, e4, e5, e6, e7, inb_nat hi, inb_nat hk, inb_nat hl, cond_true]
 rw [decide_eq_true (show (k : Int) < (b.2.length : Int) by omega), cond_true]
theorem mul_inner (a b t4 : Int × List Int) (i : Nat) (ha : Dig a.2) (hb : Dig b.2) (hi : i < a.2.length) : ∀ (m k : Nat) (out : List Int) (carry : Int), k + m = b.2.length → Dig out → i + b.2.length < out.length → out.length ≤ 5000 → (0 ≤ carry ∧ carry < 1000000000) →
 ∃ out' carry', loopVal step93_2 (out, (i : Int), carry, (k : Int), a, b, t4) = some (out', (i : Int), carry', a, b, t4) ∧ out'.length = out.length ∧ Dig out' ∧ (0 ≤ carry' ∧ carry' < 1000000000) ∧ (∀ j, j < i + k → out'.getD j 0 = out.getD j 0) ∧ (∀ j, i + b.2.length ≤ j → out'.getD j 0 = out.getD j 0) ∧
  dval ((out'.set (i + b.2.length) (out'.getD (i + b.2.length) 0 + carry')).drop (i + k)) = dval (out.drop (i + k)) + a.2.getD i 0 * dval (b.2.drop k) + carry := by
 intro m
 induction m with
 | zero =>
   intro k out carry hk ho hl hn hc
   have hk' : k = b.2.length := by omega
   subst hk'
   refine ⟨out, carry, loopVal_last (by simp [step93_2]), rfl, ho, hc, fun _ _ => rfl, fun _ _ => rfl, ?_⟩
   rw [dval_drop, getD_set, if_pos ⟨rfl, hl⟩, List.drop_set_of_lt (by omega), dval_drop out (i + b.2.length), List.drop_eq_nil_of_le (Nat.le_refl b.2.length)]
   simp only [dval, Int.mul_zero]
   omega
 | succ m ih =>
   intro k out carry hk ho hl hn hc
   have h1 := dig_getD ha i
   have h2 := dig_getD hb k
   have h3 := dig_getD ho (i + k)
   have p1 := Int.mul_nonneg h1.1 h2.1
   have p2 : a.2.getD i 0 * b.2.getD k 0 ≤ 999999999 * 999999999 := Int.mul_le_mul (by omega) (by omega) h2.1 (by omega)
   have hs := mul_step a b t4 out carry i k ha hb ho hi (by omega) (by omega) hn hc
   obtain ⟨d, hd⟩ : ∃ d, (out.getD (i + k) 0 + a.2.getD i 0 * b.2.getD k 0 + carry) % 1000000000 = d := ⟨_, rfl⟩
   obtain ⟨c, hc'⟩ : ∃ c, (out.getD (i + k) 0 + a.2.getD i 0 * b.2.getD k 0 + carry) / 1000000000 = c := ⟨_, rfl⟩
   rw [hd, hc'] at hs
   obtain ⟨out', carry', g1, g2, g3, g4, g5, g6, g7⟩ := ih (k + 1) (out.set (i + k) d) c (by omega) (dig_set ho _ (by omega)) (by rw [List.length_set]; exact hl) (by rw [List.length_set]; exact hn) (by omega)
   refine ⟨out', carry', by rw [loopVal_next hs, g1], by rw [g2, List.length_set], g3, g4, fun j hj => ?_, fun j hj => ?_, ?_⟩
   ·rw [g5 j (by omega), getD_set, if_neg (by omega)]
   ·rw [g6 j hj, getD_set, if_neg (by omega)]
   ·have hx : i + (k + 1) = i + k + 1 := by omega
    rw [hx] at g5 g7
    rw [dval_drop, g7, getD_set, if_neg (by omega), g5 (i + k) (by omega), getD_set, if_pos ⟨rfl, by omega⟩, List.drop_set_of_lt (by omega), dval_drop out (i + k), dval_drop b.2 k, Int.mul_add (a.2.getD i 0)]
    have e : a.2.getD i 0 * (1000000000 * dval (b.2.drop (k + 1))) = 1000000000 * (a.2.getD i 0 * dval (b.2.drop (k + 1))) := by rw [← Int.mul_assoc, Int.mul_comm (a.2.getD i 0) 1000000000, Int.mul_assoc]
    rw [e]
    omega
theorem mul_outer (a b t4 : Int × List Int) (ha : Dig a.2) (hb : Dig b.2) : ∀ (m i : Nat) (out : List Int), i + m = a.2.length → Dig out → out.length = a.2.length + b.2.length + 1 → out.length ≤ 5000 → (∀ j, i + b.2.length ≤ j → out.getD j 0 = 0) →
 ∃ out', loopVal step93_0 (out, (i : Int), a, b, t4) = some (out', a, b, t4) ∧ out'.length = out.length ∧ Dig out' ∧ (∀ j, j < i → out'.getD j 0 = out.getD j 0) ∧ dval (out'.drop i) = dval (out.drop i) + dval (a.2.drop i) * dval b.2 := by
 intro m
 induction m with
 | zero =>
   intro i out hi ho hl hn hz
   refine ⟨out, loopVal_last ?_, rfl, ho, fun _ _ => rfl, ?_⟩
   ·simp only [step93_0]
    rw [decide_eq_false (by omega), cond_false]
   ·rw [List.drop_eq_nil_of_le (show a.2.length ≤ i by omega)]
    simp only [dval, Int.zero_mul, Int.add_zero]
 | succ m ih =>
   intro i out hi ho hl hn hz
   obtain ⟨o1, c1, g1, g2, g3, g4, g5, g6, g7⟩ := mul_inner a b t4 i ha hb (by omega) b.2.length 0 out 0 (by omega) ho (by omega) hn (by omega)
   have hz1 : o1.getD (i + b.2.length) 0 = 0 := by rw [g6 _ (Nat.le_refl _)]; exact hz _ (Nat.le_refl _)
   rw [hz1, Int.zero_add] at g7
   have ho2 := dig_set g3 (i + b.2.length) g4
   obtain ⟨out', k1, k2, k3, k4, k5⟩ := ih (i + 1) (o1.set (i + b.2.length) c1) (by omega) ho2 (by rw [List.length_set]; omega) (by rw [List.length_set]; omega) (fun j hj => by
    rw [getD_set, if_neg (by omega), g6 j (by omega)]; exact hz j (by omega))
   have e0 : wr ((i : Int) + (b.2.length : Int)) = ((i + b.2.length : Nat) : Int) := by rw [wr_id (by omega) (by omega)]; rfl
   have e1 : wr ((i : Int) + 1) = ((i + 1 : Nat) : Int) := by rw [wr_id (by omega) (by omega)]; rfl
   have e2 : wr c1 = c1 := wr_id (by omega) (by omega)
   have hstep : step93_0 (out, (i : Int), a, b, t4) = some (.inl (o1.set (i + b.2.length) c1, ((i + 1 : Nat) : Int), a, b, t4)) := by
    have g1' : loopVal step93_2 (out, (i : Int), 0, 0, a, b, t4) = _ := g1
    simp only [step93_0, g1', optE_some, e0, Int.toNat_natCast, e1]
    rw [decide_eq_true (show (i : Int) < (a.2.length : Int) by omega), cond_true, inb_nat (show i + b.2.length < o1.length by omega), cond_true, cond_true, hz1, Int.zero_add, e2]
   refine ⟨out', by rw [loopVal_next hstep, k1], by rw [k2, List.length_set]; exact g2, k3, fun j hj => ?_, ?_⟩
   ·rw [k4 j (by omega), getD_set, if_neg (by omega), g5 j (by omega)]
   ·simp only [Nat.add_zero] at g7
    rw [dval_drop, k4 i (by omega), k5, dval_drop a.2 i, Int.add_mul]
    have e3 := dval_drop (o1.set (i + b.2.length) c1) i
    have e4 : 1000000000 * dval (a.2.drop (i + 1)) * dval b.2 = 1000000000 * (dval (a.2.drop (i + 1)) * dval b.2) := Int.mul_assoc _ _ _
    rw [e4]
    simp only [List.drop_zero] at g7
    omega
theorem abI_nat (n : Int) : abI n = (n.natAbs : Int) := by unfold abI; split <;> omega
theorem sgI_sign (n : Int) : sgI n = n.sign := by
 unfold sgI
 split
 ·exact (Int.sign_eq_neg_one_of_neg (by assumption)).symm
 ·split
  ·rename_i h; subst h; rfl
  ·exact (Int.sign_eq_one_of_pos (by omega)).symm
theorem abI_mul (m n : Int) : abI (m * n) = abI m * abI n := by rw [abI_nat, abI_nat, abI_nat, Int.natAbs_mul]; rfl
theorem sgI_mul (m n : Int) : sgI (m * n) = sgI m * sgI n := by rw [sgI_sign, sgI_sign, sgI_sign, Int.sign_mul]
theorem sgI_bd (n : Int) : -1 ≤ sgI n ∧ sgI n ≤ 1 := by unfold sgI; split <;> (try split) <;> omega
theorem dval_rep : ∀ n, dval (List.replicate n 0) = 0
 | 0 => rfl
 | n + 1 => by rw [List.replicate_succ]; simp only [dval, dval_rep n]; rfl
theorem s93_eq {a b : Int × List Int} {m n : Int} {k l : Nat} (ha : IsW a m k) (hb : IsW b n l) (hk : k + l ≤ 1000) : ∃ w, s93 (a, b) = some w ∧ IsW w (m * n) (k + l + 1) := by
 have hla := ha.len
 have hlb := hb.len
 obtain ⟨out, g1, g2, g3, _, g5⟩ := mul_outer a b (0, []) ha.dig hb.dig a.2.length 0 (List.replicate (a.2.length + b.2.length + 1) 0) (by omega) (fun x hx => by rw [(List.mem_replicate.1 hx).2]; omega) (by simp) (by simp; omega) (fun j _ => by
  rw [List.getD_eq_getElem?_getD, List.getElem?_replicate]; split <;> rfl)
 have g1' : loopVal step93_0 (List.replicate (a.2.length + b.2.length + 1) 0, 0, a, b, (0, [])) = _ := g1
 have e0 : wr ((a.2.length : Int) + (b.2.length : Int)) = ((a.2.length + b.2.length : Nat) : Int) := by rw [wr_id (by omega) (by omega)]; rfl
 have e1 : wr (((a.2.length + b.2.length : Nat) : Int) + 1) = ((a.2.length + b.2.length + 1 : Nat) : Int) := by rw [wr_id (by omega) (by omega)]; rfl
 have sa := sgI_bd m
 have sb := sgI_bd n
 have e2 : wr (a.1 * b.1) = sgI (m * n) := by
  rw [ha.sign, hb.sign, ← sgI_mul]
  have := sgI_bd (m * n)
  exact wr_id (by omega) (by omega)
 simp only [List.drop_zero, dval_rep, Int.zero_add] at g5
 refine ⟨_, ?_, IsW.of (sg := sgI (m * n)) (l := out) g3 (by rw [g5, ha.val, hb.val, abI_mul]) (by rw [g2, List.length_replicate]; omega) (fun _ => rfl)⟩
 unfold s93
 simp only [e0, e1, Int.toNat_natCast, g1', optE_some, e2]
 rw [s124_eq _ _ (by rw [g2, List.length_replicate]; omega)]
 rw [room_true (by omega) (by omega), decide_eq_true (show (0 : Int) ≤ ((a.2.length + b.2.length + 1 : Nat) : Int) by omega)]
 simp [optE_some]
theorem s139_eq {a b : List Int} (ha : Dig a) (hb : Dig b) (hn : a.length ≤ 1000) (h : dval b ≤ dval a) : ∃ ds, s139 (a, b) = some (trim ds) ∧ dval ds = dval a - dval b ∧ Dig ds ∧ ds.length = a.length := by
 obtain ⟨ds, g1, g2, g3, g4⟩ := sub_loop a b ha hb hn a.length 0 [] 0 (by omega) (by omega) rfl (by simpa using h)
 have g1' : loopVal step139_0 (a, b, [], 0, 0) = _ := g1
 refine ⟨ds, ?_, by simpa using g2, g3, g4⟩
 unfold s139
 simp only [g1', optE_some, List.nil_append, s132_eq ds (by omega)]
theorem IsW.zero {w : Int × List Int} {n : Int} {k : Nat} (h : IsW w n k) : (w.1 == 0) = decide (n = 0) := by
 rw [h.sign]
 unfold sgI
 by_cases c : n < 0
 ·rw [if_pos c, decide_eq_false (by omega)]; rfl
 ·rw [if_neg c]
  by_cases d : n = 0
  ·rw [if_pos d, decide_eq_true d]; rfl
  ·rw [if_neg d, decide_eq_false d]; rfl
theorem abI_of (n : Int) : (n < 0 ∧ sgI n = -1 ∧ abI n = -n) ∨ (n = 0 ∧ sgI n = 0 ∧ abI n = 0) ∨ (0 < n ∧ sgI n = 1 ∧ abI n = n) := by
 unfold sgI abI
 by_cases h : n < 0
 ·exact .inl ⟨h, by rw [if_pos h], by rw [if_pos h]⟩
 ·by_cases h0 : n = 0
  ·subst h0; exact .inr (.inl ⟨rfl, rfl, rfl⟩)
  ·exact .inr (.inr ⟨by omega, by rw [if_neg h, if_neg h0], by rw [if_neg h]⟩)
theorem s133_eq {a b : Int × List Int} {m n : Int} {k : Nat} (ha : IsW a m k) (hb : IsW b n k) (hk : k ≤ 999) : ∃ w, s133 (a, b) = some w ∧ IsW w (m + n) (k + 1) := by
 have la := ha.len
 have lb := hb.len
 have va := ha.val
 have vb := hb.val
 unfold s133
 simp only [ha.zero, hb.zero]
 by_cases m0 : m = 0
 ·rw [decide_eq_true m0, cond_true]
  exact ⟨b, rfl, by rw [m0, Int.zero_add]; exact hb.more (by omega)⟩
 by_cases n0 : n = 0
 ·rw [decide_eq_false m0, decide_eq_true n0, cond_true, cond_false]
  exact ⟨a, rfl, by rw [n0, Int.add_zero]; exact ha.more (by omega)⟩
 rw [decide_eq_false m0, decide_eq_false n0, cond_false, cond_false, ha.sign, hb.sign]
 by_cases hs : sgI m = sgI n
 ·rw [hs, beq_self_eq_true, cond_true]
  obtain ⟨ds, g1, g2, g3, g4⟩ := s137_eq ha.dig hb.dig la lb (by omega)
  simp only [g1, optE_some]
  rw [s124_eq _ _ (by omega)]
  refine ⟨_, rfl, IsW.of g3 ?_ g4 fun _ => ?_⟩
  ·rw [g2, va, vb]
   have h1 := abI_of m
   have h2 := abI_of n
   have h3 := abI_of (m + n)
   omega
  ·have h1 := abI_of m
   have h2 := abI_of n
   have h3 := abI_of (m + n)
   omega
 ·rw [show (sgI m == sgI n) = false by simpa using hs, cond_false, s138_eq ha.dig hb.dig ha.trim hb.trim (by omega)]
  simp only [optE_some]
  have h1 := abI_of m
  have h2 := abI_of n
  have h3 := abI_of (m + n)
  by_cases c : dval a.2 < dval b.2
  ·obtain ⟨ds, g1, g2, g3, g4⟩ := s139_eq hb.dig ha.dig (by omega) (Int.le_of_lt c)
   rw [cmpI, if_pos c, g1]
   simp only [optE_some]
   rw [s124_eq _ _ (by have := trim_len ds; omega), trim_trim]
   refine ⟨_, rfl, ?_⟩
   have := IsW.of (sg := sgI n) (l := ds) (n := m + n) (k := k + 1) g3 (by rw [g2, va, vb]; rw [va, vb] at c; omega) (by omega) (fun _ => by rw [va, vb] at c; omega)
   simpa using this
  ·by_cases e : dval a.2 = dval b.2
   ·rw [cmpI, if_neg c, if_pos e]
    have h0 : m + n = 0 := by rw [va, vb] at e; omega
    refine ⟨(0, []), rfl, by rw [h0]; rfl, dig_nil, rfl, by rw [h0]; rfl, by simp⟩
   ·obtain ⟨ds, g1, g2, g3, g4⟩ := s139_eq ha.dig hb.dig (by omega) (by omega)
    rw [cmpI, if_neg c, if_neg e, g1]
    simp only [optE_some]
    rw [s124_eq _ _ (by have := trim_len ds; omega), trim_trim]
    refine ⟨_, rfl, ?_⟩
    have := IsW.of (sg := sgI m) (l := ds) (n := m + n) (k := k + 1) g3 (by rw [g2, va, vb]; rw [va, vb] at c e; omega) (by omega) (fun _ => by rw [va, vb] at c e; omega)
    simpa using this
theorem s94_eq {a b : Int × List Int} {m n : Int} {k : Nat} (ha : IsW a m k) (hb : IsW b n k) (hk : k ≤ 999) : s94 (a, b) = some (cmpI m n) := by
 have hneg : IsW (wr (-b.1), b.2) (-n) k := by
  have h2 := abI_of n
  have h3 := abI_of (-n)
  refine ⟨?_, hb.dig, hb.trim, by rw [hb.val]; omega, hb.len⟩
  show wr (-b.1) = _
  rw [hb.sign, wr_id (by omega) (by omega)]; omega
 obtain ⟨w, g1, g2⟩ := s133_eq ha hneg hk
 unfold s94 s125 s134
 simp only [optE_some, g1]
 rw [g2.sign]
 congr 1
 have h3 := abI_of (m + -n)
 unfold cmpI
 split
 ·omega
 ·split <;> omega
end Go.Proofs.YtfmfiflpokogiaaDoor
