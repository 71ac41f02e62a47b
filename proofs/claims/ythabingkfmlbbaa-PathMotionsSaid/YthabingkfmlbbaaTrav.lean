/- What the program computes: windows, and the least travels by them. -/
import Derived.Test.YthabingkfmlbbaaMul64
import Derived.Test.YthabingkfmlbbaaMotion
set_option linter.unusedSimpArgs false
set_option linter.unusedVariables false
set_option maxRecDepth 100000
namespace Go.Proofs.Ythabingkfmlbbaa
open Go.Ev
theorem dT {p : Prop} [Decidable p] (h : p) : decide p = true := decide_eq_true h
theorem dF {p : Prop} [Decidable p] (h : ¬ p) : decide p = false := decide_eq_false h
theorem inT {i : Int} {n : Nat} (h : 0 ≤ i) (h2 : i < (n : Int)) : inBounds i n = true := by
 obtain ⟨k, rfl⟩ : ∃ k : Nat, i = (k : Int) := ⟨i.toNat, by omega⟩
 exact inB_cast.trans (decide_eq_true (by omega))
theorem rep_loop (x : Int) : ∀ (m n : Nat) (r : List Int), r.length = m → 1 ≤ n ∨ m = 0 → n + m ≤ 1000000 → loopVal step62_0 (List.replicate n x ++ r, (n : Int)) = some (List.replicate (n + m) x) := by
 intro m
 induction m using Nat.strongRecOn with
 | _ m ih =>
   intro n r hr hn hb
   have hlen : (List.replicate n x ++ r).length = n + m := by simp [hr]
   by_cases hm : m = 0
   ·subst hm
    have : r = [] := List.eq_nil_of_length_eq_zero hr
    subst this
    refine loopVal_last ?_
    simp only [step62_0, List.append_nil, List.length_replicate, Nat.add_zero, lt_cast, Nat.lt_irrefl, decide_false, cond_false]
   ·have hn1 : 1 ≤ n := by omega
    have t1 : (List.replicate n x ++ r).take n = List.replicate n x := by
     rw [List.take_append_of_le_length (by simp), List.take_of_length_le (by simp)]
    have t2 : (((List.replicate n x ++ r).drop 0).take (n - 0)).take (n + m - n) = List.replicate (min n m) x := by
     rw [List.drop_zero, Nat.sub_zero, t1, List.take_replicate, Nat.add_sub_cancel_left, Nat.min_comm]
    have t3 : min (((List.replicate n x ++ r).drop 0).take (n - 0)).length (n + m - n) = min n m := by
     rw [List.drop_zero, Nat.sub_zero, t1, List.length_replicate, Nat.add_sub_cancel_left]
    have t4 : (List.replicate n x ++ r).drop (n + min n m) = r.drop (min n m) := by
     have e : (List.replicate n x ++ r).drop n = r := by
      have := List.drop_append_length (l₁ := List.replicate n x) (l₂ := r)
      rwa [List.length_replicate] at this
     rw [← List.drop_drop, e]
    have hs : step62_0 (List.replicate n x ++ r, (n : Int)) = some (.inl (List.replicate (n + min n m) x ++ r.drop (min n m), ((n + min n m : Nat) : Int))) := by
     simp only [step62_0, hlen, lt_cast, dT (show n < n + m by omega), dT (show 0 < n + m by omega), dT (show (0 : Int) ≤ (n : Int) by omega), dT (show (n : Int) ≤ ((n + m : Nat) : Int) by omega), dT (show ((n + m : Nat) : Int) ≤ ((n + m : Nat) : Int) by omega), Bool.and_self, cond_true, Int.toNat_natCast, t1, t2, t3, t4]
     rw [wr_id (by omega) (by omega), ← List.replicate_append_replicate]
     rfl
    rw [loopVal_next hs]
    have := ih (m - min n m) (by omega) (n + min n m) (r.drop (min n m)) (by rw [List.length_drop]; omega) (by omega) (by omega)
    rw [this]
    congr 2
    omega
theorem repeat_z (n : Nat) (hn : n ≤ 1000000) : s62 ([1152921504606846976], (n : Int)) = some (List.replicate n NEV) := by
 obtain ⟨hi, lo, h1, h2, h3, h4⟩ := mul64 (x := 1) (y := (n : Int)) (by omega) (by omega)
 rw [Int.one_mul] at h2
 obtain rfl : hi = 0 := by omega
 obtain rfl : lo = (n : Int) := by omega
 have hm : s75 (1, (n : Int)) = some (0, (n : Int)) := by
  simp only [s75, h1, optE_some]
 have w1 : IntKind.u64.wrap (([1152921504606846976] : List Int).length : Int) = 1 := by decide
 have w2 : IntKind.u64.wrap (n : Int) = n := u64_id (by omega) (by omega)
 have w3 : wr (n : Int) = n := wr_id (by omega) (by omega)
 have hroom : room 8 n = true := room_true (by omega) (by omega)
 have hl : loopVal step62_0 ((((List.replicate n (0 : Int)).take 0) ++ ([1152921504606846976] : List Int).take n) ++ ((List.replicate n (0 : Int)).drop (0 + min 1 n)), ((min 1 n : Nat) : Int)) = some (List.replicate n NEV) := by
  cases n with
  | zero => exact rep_loop NEV 0 0 [] rfl (.inr rfl) (by omega)
  | succ n =>
    have e1 : min 1 (n + 1) = 1 := by omega
    have e2 : ([1152921504606846976] : List Int).take (n + 1) = [1152921504606846976] := by simp
    have e3 : (List.replicate (n + 1) (0 : Int)).drop (0 + 1) = List.replicate n 0 := by simp
    rw [e1, e2, e3, List.take_zero, List.nil_append]
    have := rep_loop NEV n 1 (List.replicate n 0) (by simp) (.inl (by omega)) (by omega)
    rw [show 1 + n = n + 1 by omega] at this
    exact this
 have hl' : loopVal step62_0 ((((List.replicate n (0 : Int)).take 0) ++ ([1152921504606846976] : List Int).take n) ++ ((List.replicate n (0 : Int)).drop (0 + min ([1152921504606846976] : List Int).length n)), ((min ([1152921504606846976] : List Int).length n : Nat) : Int)) = some (List.replicate n NEV) := hl
 simp only [s62, w1, w2, hm, optE_some, dF (show ¬ ((n : Int) < 0) by omega), dF (show ¬ ((0 : Int) > 0) by omega), dF (show ¬ ((n : Int) > 9223372036854775807) by omega), cond_false, w3, dT (show (0 : Int) ≤ (n : Int) by omega), dT (rfl : (n : Int) = (n : Int)), Int.toNat_natCast, hroom, Bool.and_self, cond_true, List.length_replicate]
 first
  | (rw [hl']; rfl)
  | (simp only [hl', optE_some])
def Asc (l : List Int) : Prop := ∀ i j, i < j → j < l.length → l.getD i 0 ≤ l.getD j 0
theorem asc_le {l : List Int} (h : Asc l) {i j : Nat} (hij : i ≤ j) (hj : j < l.length) : l.getD i 0 ≤ l.getD j 0 := by
 rcases Nat.lt_or_ge i j with h1 | h1
 ·exact h i j h1 hj
 ·have : i = j := by omega
  rw [this]; exact Int.le_refl _
theorem least_nat (g : Nat → Bool) : ∀ n, ∃ m, m ≤ n ∧ (∀ k, k < m → g k = false) ∧ (m = n ∨ g m = true)
 | 0 => ⟨0, Nat.le_refl _, fun k h => by omega, .inl rfl⟩
 | n + 1 => by
   obtain ⟨m, h1, h2, h3⟩ := least_nat g n
   rcases h3 with rfl | h3
   ·cases hg : g m with
    | true => exact ⟨m, by omega, h2, .inr hg⟩
    | false => exact ⟨m + 1, Nat.le_refl _, fun k hk => by
       by_cases e : k = m
       ·rw [e]; exact hg
       ·exact h2 k (by omega), .inl rfl⟩
   ·exact ⟨m, by omega, h2, .inr h3⟩
theorem search_z {l : List Int} (h : Asc l) (hl : l.length ≤ 1000000) (x : Int) : ∃ m : Nat, m ≤ l.length ∧ s31 (l, x) = some (m : Int) ∧ ∀ k, k < l.length → (m ≤ k ↔ x ≤ l.getD k 0) := by
 obtain ⟨m, h1, h2, h3⟩ := least_nat (fun k => decide (l.getD k 0 ≥ x)) l.length
 have key : ∀ k, k < l.length → (m ≤ k ↔ x ≤ l.getD k 0) := fun k hk => by
  constructor
  ·intro hmk
   rcases h3 with h3 | h3
   ·omega
   ·have := of_decide_eq_true h3
    have := asc_le h hmk hk
    omega
  ·intro hx
   by_cases hmk : m ≤ k
   ·exact hmk
   ·have := of_decide_eq_false (h2 k (by omega))
    omega
 refine ⟨m, h1, ?_, key⟩
 have := search_law (step := step32_0) (st := fun i j => ((l, x, ()), (i : Int), (j : Int))) (g := fun k => decide (l.getD k 0 ≥ x)) (n := l.length)
  (fun i j hij hj => by
    simp only [step32_0, lt_cast, hij, decide_true, cond_true, half_mid (show i + j < 4611686018427387904 by omega), inB_cast, show (i + j) / 2 < l.length by omega, Int.toNat_natCast, wr_succ (show (i + j) / 2 < 4611686018427387904 by omega)]
    cases decide (l.getD ((i + j) / 2) 0 ≥ x) <;> rfl)
  (fun i _ => by simp only [step32_0, lt_cast, Nat.lt_irrefl, decide_false, cond_false]) (m := m) h1 h2 (fun k hk hkn => decide_eq_true ((key k hkn).1 hk))
 have this : loopVal step32_0 ((l, x, ()), 0, (l.length : Int)) = some (m : Int) := this
 simp only [s31, this, optE_some]
def cst (W : List Nat) : List Int := W.map fun i : Nat => (i : Int)
theorem cst_len (W : List Nat) : (cst W).length = W.length := List.length_map _
theorem cst_get (W : List Nat) (k : Nat) : (cst W).getD k 0 = ((W.getD k 0 : Nat) : Int) := by
 unfold cst
 rw [List.getD_eq_getElem?_getD, List.getElem?_map, List.getD_eq_getElem?_getD]
 cases W[k]? <;> rfl
theorem cst_snoc (W : List Nat) (i : Nat) : cst W ++ [(i : Int)] = cst (W ++ [i]) := by simp [cst]
theorem snoc_len {α : Type} (W : List α) (i : α) : (W ++ [i]).length = W.length + 1 := by simp
theorem snoc_last (W : List Nat) (i : Nat) : (W ++ [i]).getD W.length 0 = i := by simp
theorem cst_take_last (W : List Nat) (i : Nat) : (cst (W ++ [i])).take W.length = cst W := by simp [cst]
def Fit (N : Nat) (W : List Nat) : Prop := (∀ i ∈ W, i < N) ∧ W.length ≤ 1000000
theorem Fit.init {N : Nat} {W : List Nat} {i : Nat} (h : Fit N (W ++ [i])) : Fit N W ∧ i < N := ⟨⟨fun k hk => h.1 k (List.mem_append_left _ hk), by have := h.2; simp at this; omega⟩, h.1 i (by simp)⟩
theorem Fit.tail {N : Nat} {W : List Nat} {i : Nat} (h : Fit N (i :: W)) : Fit N W ∧ i < N := ⟨⟨fun k hk => h.1 k (List.mem_cons_of_mem _ hk), by have := h.2; simp at this; omega⟩, h.1 i List.mem_cons_self⟩
theorem pop_loop {σ E : Type} {step : σ → Option (σ ⊕ E)} (st : List Nat → σ) (e : List Nat → E) (v : Nat → Int) (x : Int) (N : Nat)
 (h0 : step (st []) = some (.inr (e []))) (h1 : ∀ W i, Fit N (W ++ [i]) → x ≤ v i → step (st (W ++ [i])) = some (.inl (st W))) (h2 : ∀ W i, Fit N (W ++ [i]) → v i < x → step (st (W ++ [i])) = some (.inr (e (W ++ [i])))) :
 ∀ (n : Nat) (W : List Nat), W.length = n → Fit N W → (W.Pairwise fun i j => i < j ∧ v i < v j) → loopVal step (st W) = some (e (popW v x W)) := by
 intro n
 induction n with
 | zero =>
   intro W hW _ _
   have : W = [] := List.eq_nil_of_length_eq_zero hW
   subst this
   exact loopVal_last h0
 | succ n ih =>
   intro W hW hf hs
   obtain ⟨U, i, rfl⟩ : ∃ U i, W = U ++ [i] := ⟨W.dropLast, W.getLast (by intro e; rw [e] at hW; cases hW), (List.dropLast_concat_getLast _).symm⟩
   rw [pop_last hs]
   by_cases hv : v i < x
   ·rw [if_pos hv]; exact loopVal_last (h2 U i hf hv)
   ·rw [if_neg hv, loopVal_next (h1 U i hf (by omega))]
    exact ih U (by simp at hW; exact hW) hf.init.1 (List.pairwise_append.1 hs).1
theorem since_loop {σ E : Type} {step : σ → Option (σ ⊕ E)} (st : List Nat → σ) (e : List Nat → E) (s : Nat) (N : Nat)
 (h0 : step (st []) = some (.inr (e []))) (h1 : ∀ W i, Fit N (i :: W) → i < s → step (st (i :: W)) = some (.inl (st W))) (h2 : ∀ W i, Fit N (i :: W) → s ≤ i → step (st (i :: W)) = some (.inr (e (i :: W)))) :
 ∀ (W : List Nat), Fit N W → (W.Pairwise fun i j : Nat => i < j) → loopVal step (st W) = some (e (sinceW s W))
 | [], _, _ => loopVal_last h0
 | i :: W, hf, hs => by
   rw [since_cons hs]
   by_cases hv : s ≤ i
   ·rw [if_pos hv]; exact loopVal_last (h2 W i hf hv)
   ·rw [if_neg hv, loopVal_next (h1 W i hf (by omega))]
    exact since_loop st e s N h0 h1 h2 W hf.tail.1 (List.pairwise_cons.1 hs).2
theorem win_len {v : Nat → Int} : ∀ {W : List Nat} {lo hi : Nat}, (∀ i ∈ W, lo ≤ i ∧ i < hi) → (W.Pairwise fun i j => i < j ∧ v i < v j) → W.length ≤ hi - lo
 | [], _, _, _, _ => Nat.zero_le _
 | i :: W, lo, hi, h, hs => by
   have h1 := h i List.mem_cons_self
   have := win_len (W := W) (lo := i + 1) (hi := hi) (fun k hk => by
    have a := h k (List.mem_cons_of_mem _ hk)
    have b := (List.pairwise_cons.1 hs).1 k hk
    omega) (List.pairwise_cons.1 hs).2
   simp only [List.length_cons]
   omega
theorem Win.fit {v : Nat → Int} {lo hi N : Nat} {W : List Nat} (h : Win v lo hi W) (hN : hi ≤ N) (hN2 : N ≤ 1000000) : Fit N W := ⟨fun i hi' => by have := h.range i hi'; omega, by have := win_len h.range h.sort; omega⟩
abbrev Stg := List Int × List Int
structure StOk (s : Stg) : Prop where
 asc : Asc s.1
 len : s.2.length = s.1.length
 few : s.1.length ≤ 50000
 at_ : ∀ j, j < s.1.length → -20000 ≤ s.1.getD j 0 ∧ s.1.getD j 0 ≤ 20000
 rest : ∀ j, j < s.1.length → 0 ≤ s.2.getD j 0 ∧ s.2.getD j 0 ≤ 1152921504606846976
def upV (s : Stg) (j : Nat) : Int := s.2.getD j 0 + s.1.getD j 0
def dnV (s : Stg) (j : Nat) : Int := s.2.getD j 0 - s.1.getD j 0
section
variable {s : Stg} (S : StOk s) (rate : Int) (out : List Int) (b i p : Int) (l : List Int) (n k : Int)
include S
theorem push_above (U : List Int) {a : Nat} (ha : a < s.1.length) {W : List Nat} {lo : Nat} (hW : Win (upV s) lo a W) :
 loopVal step65_0a ((a : Int), (s, ()), rate, s, out, (s, ()), (s, ()), (a : Int), b, i, p, l, n, k, cst W, U) = some ((a : Int), rate, s, out, (s, ()), (s, ()), (a : Int), b, i, p, l, n, k, cst (popW (upV s) (upV s a) W), U) := by
 have h1 := S.at_ a ha
 have h2 := S.rest a ha
 have hN := S.few
 have hl := S.len
 exact pop_loop (fun W => ((a : Int), (s, ()), rate, s, out, (s, ()), (s, ()), (a : Int), b, i, p, l, n, k, cst W, U)) (fun W => ((a : Int), rate, s, out, (s, ()), (s, ()), (a : Int), b, i, p, l, n, k, cst W, U)) (upV s) (upV s a) s.1.length
  (by simp only [step65_0a, cst_len, List.length_nil, Int.natCast_zero, dF (show ¬ ((0 : Int) > 0) by omega), cond_false])
  (fun W j hf hv => by
    have hj := hf.init.2
    have hb := hf.2
    rw [snoc_len] at hb
    have q1 := S.at_ j hj
    have q2 := S.rest j hj
    have w1 : wr (((W.length + 1 : Nat) : Int) - 1) = (W.length : Int) := by rw [wr_id (by omega) (by omega)]; omega
    simp only [step65_0a, cst_len, snoc_len, dT (show ((W.length + 1 : Nat) : Int) > 0 by omega), w1, inT (show (0 : Int) ≤ (W.length : Int) by omega) (show (W.length : Int) < ((W.length + 1 : Nat) : Int) by omega), cst_get, Int.toNat_natCast, snoc_last, inT (show (0 : Int) ≤ (j : Int) by omega) (show (j : Int) < (s.1.length : Int) by omega), inT (show (0 : Int) ≤ (j : Int) by omega) (show (j : Int) < (s.2.length : Int) by omega), inT (show (0 : Int) ≤ (a : Int) by omega) (show (a : Int) < (s.1.length : Int) by omega), inT (show (0 : Int) ≤ (a : Int) by omega) (show (a : Int) < (s.2.length : Int) by omega), cond_true]
    unfold upV at hv
    rw [wr_id (n := s.2.getD j 0 + s.1.getD j 0) (by omega) (by omega), wr_id (n := s.2.getD a 0 + s.1.getD a 0) (by omega) (by omega), dT (show s.2.getD j 0 + s.1.getD j 0 ≥ s.2.getD a 0 + s.1.getD a 0 by omega)]
    simp only [dT (show 0 < W.length + 1 by omega), dT (show (0 : Int) ≤ (W.length : Int) by omega), dT (show (W.length : Int) ≤ ((W.length + 1 : Nat) : Int) by omega), Bool.and_self, cond_true, List.drop_zero, Nat.sub_zero, cst_take_last])
  (fun W j hf hv => by
    have hj := hf.init.2
    have hb := hf.2
    rw [snoc_len] at hb
    have q1 := S.at_ j hj
    have q2 := S.rest j hj
    have w1 : wr (((W.length + 1 : Nat) : Int) - 1) = (W.length : Int) := by rw [wr_id (by omega) (by omega)]; omega
    simp only [step65_0a, cst_len, snoc_len, dT (show ((W.length + 1 : Nat) : Int) > 0 by omega), w1, inT (show (0 : Int) ≤ (W.length : Int) by omega) (show (W.length : Int) < ((W.length + 1 : Nat) : Int) by omega), cst_get, Int.toNat_natCast, snoc_last, inT (show (0 : Int) ≤ (j : Int) by omega) (show (j : Int) < (s.1.length : Int) by omega), inT (show (0 : Int) ≤ (j : Int) by omega) (show (j : Int) < (s.2.length : Int) by omega), inT (show (0 : Int) ≤ (a : Int) by omega) (show (a : Int) < (s.1.length : Int) by omega), inT (show (0 : Int) ≤ (a : Int) by omega) (show (a : Int) < (s.2.length : Int) by omega), cond_true]
    unfold upV at hv
    rw [wr_id (n := s.2.getD j 0 + s.1.getD j 0) (by omega) (by omega), wr_id (n := s.2.getD a 0 + s.1.getD a 0) (by omega) (by omega), dF (show ¬ (s.2.getD j 0 + s.1.getD j 0 ≥ s.2.getD a 0 + s.1.getD a 0) by omega)]
    simp only [cond_false])
  W.length W rfl (hW.fit (by omega) (by omega)) hW.sort
theorem push_below (A : List Int) (a : Int) {b : Nat} (hb' : b < s.1.length) {W : List Nat} {lo : Nat} (hW : Win (dnV s) lo b W) :
 loopVal step65_0b ((b : Int), (s, ()), rate, s, out, (s, ()), (s, ()), a, (b : Int), i, p, l, n, k, cst W, A) = some ((b : Int), rate, s, out, (s, ()), (s, ()), a, (b : Int), i, p, l, n, k, cst (popW (dnV s) (dnV s b) W), A) := by
 have h1 := S.at_ b hb'
 have h2 := S.rest b hb'
 have hN := S.few
 have hl := S.len
 exact pop_loop (fun W => ((b : Int), (s, ()), rate, s, out, (s, ()), (s, ()), a, (b : Int), i, p, l, n, k, cst W, A)) (fun W => ((b : Int), rate, s, out, (s, ()), (s, ()), a, (b : Int), i, p, l, n, k, cst W, A)) (dnV s) (dnV s b) s.1.length
  (by simp only [step65_0b, cst_len, List.length_nil, Int.natCast_zero, dF (show ¬ ((0 : Int) > 0) by omega), cond_false])
  (fun W j hf hv => by
    have hj := hf.init.2
    have hb := hf.2
    rw [snoc_len] at hb
    have q1 := S.at_ j hj
    have q2 := S.rest j hj
    have w1 : wr (((W.length + 1 : Nat) : Int) - 1) = (W.length : Int) := by rw [wr_id (by omega) (by omega)]; omega
    simp only [step65_0b, cst_len, snoc_len, dT (show ((W.length + 1 : Nat) : Int) > 0 by omega), w1, inT (show (0 : Int) ≤ (W.length : Int) by omega) (show (W.length : Int) < ((W.length + 1 : Nat) : Int) by omega), cst_get, Int.toNat_natCast, snoc_last, inT (show (0 : Int) ≤ (j : Int) by omega) (show (j : Int) < (s.1.length : Int) by omega), inT (show (0 : Int) ≤ (j : Int) by omega) (show (j : Int) < (s.2.length : Int) by omega), inT (show (0 : Int) ≤ (b : Int) by omega) (show (b : Int) < (s.1.length : Int) by omega), inT (show (0 : Int) ≤ (b : Int) by omega) (show (b : Int) < (s.2.length : Int) by omega), cond_true]
    unfold dnV at hv
    rw [wr_id (n := s.2.getD j 0 - s.1.getD j 0) (by omega) (by omega), wr_id (n := s.2.getD b 0 - s.1.getD b 0) (by omega) (by omega), dT (show s.2.getD j 0 - s.1.getD j 0 ≥ s.2.getD b 0 - s.1.getD b 0 by omega)]
    simp only [dT (show 0 < W.length + 1 by omega), dT (show (0 : Int) ≤ (W.length : Int) by omega), dT (show (W.length : Int) ≤ ((W.length + 1 : Nat) : Int) by omega), Bool.and_self, cond_true, List.drop_zero, Nat.sub_zero, cst_take_last])
  (fun W j hf hv => by
    have hj := hf.init.2
    have hb := hf.2
    rw [snoc_len] at hb
    have q1 := S.at_ j hj
    have q2 := S.rest j hj
    have w1 : wr (((W.length + 1 : Nat) : Int) - 1) = (W.length : Int) := by rw [wr_id (by omega) (by omega)]; omega
    simp only [step65_0b, cst_len, snoc_len, dT (show ((W.length + 1 : Nat) : Int) > 0 by omega), w1, inT (show (0 : Int) ≤ (W.length : Int) by omega) (show (W.length : Int) < ((W.length + 1 : Nat) : Int) by omega), cst_get, Int.toNat_natCast, snoc_last, inT (show (0 : Int) ≤ (j : Int) by omega) (show (j : Int) < (s.1.length : Int) by omega), inT (show (0 : Int) ≤ (j : Int) by omega) (show (j : Int) < (s.2.length : Int) by omega), inT (show (0 : Int) ≤ (b : Int) by omega) (show (b : Int) < (s.1.length : Int) by omega), inT (show (0 : Int) ≤ (b : Int) by omega) (show (b : Int) < (s.2.length : Int) by omega), cond_true]
    unfold dnV at hv
    rw [wr_id (n := s.2.getD j 0 - s.1.getD j 0) (by omega) (by omega), wr_id (n := s.2.getD b 0 - s.1.getD b 0) (by omega) (by omega), dF (show ¬ (s.2.getD j 0 - s.1.getD j 0 ≥ s.2.getD b 0 - s.1.getD b 0) by omega)]
    simp only [cond_false])
  W.length W rfl (hW.fit (by omega) (by omega)) hW.sort
end
theorem cst_cons (W : List Nat) (i : Nat) : cst (i :: W) = (i : Int) :: cst W := rfl
section
variable {s : Stg} (S : StOk s) (rate : Int) (out : List Int) (a b i p : Int) (l : List Int) (n k : Int)
theorem since_above (U : List Int) (q : Nat) {N : Nat} {W : List Nat} (hW : Fit N W) (hs : W.Pairwise fun i j : Nat => i < j) :
 loopVal step66_0 ((q : Int), rate, s, out, (s, ()), (s, ()), a, b, i, p, l, n, k, cst W, U) = some (rate, s, out, (s, ()), (s, ()), a, b, i, p, l, n, k, cst (sinceW q W), U) :=
 since_loop (fun W => ((q : Int), rate, s, out, (s, ()), (s, ()), a, b, i, p, l, n, k, cst W, U)) (fun W => (rate, s, out, (s, ()), (s, ()), a, b, i, p, l, n, k, cst W, U)) q N
  (by simp only [step66_0, cst_len, List.length_nil, Int.natCast_zero, dF (show ¬ ((0 : Int) > 0) by omega), cond_false])
  (fun W j hf hv => by
    have hl : (cst (j :: W)).length = W.length + 1 := by rw [cst_len, List.length_cons]
    have hg : (cst (j :: W)).getD 0 0 = (j : Int) := rfl
    have ht : ((cst (j :: W)).drop 1).take (((W.length + 1 : Nat) : Int).toNat - 1) = cst W := by
     rw [cst_cons, List.drop_one, List.tail_cons, Int.toNat_natCast, Nat.add_sub_cancel, List.take_of_length_le (by rw [cst_len]; exact Nat.le_refl _)]
    simp only [step66_0, hl, hg, ht, dT (show ((W.length + 1 : Nat) : Int) > 0 by omega), inT (show (0 : Int) ≤ 0 by omega) (show (0 : Int) < ((W.length + 1 : Nat) : Int) by omega), dT (show (j : Int) < (q : Int) by omega), dT (show 0 < W.length + 1 by omega), dT (show (1 : Int) ≤ ((W.length + 1 : Nat) : Int) by omega), dT (show ((W.length + 1 : Nat) : Int) ≤ ((W.length + 1 : Nat) : Int) by omega), Bool.and_self, cond_true])
  (fun W j hf hv => by
    have hl : (cst (j :: W)).length = W.length + 1 := by rw [cst_len, List.length_cons]
    have hg : (cst (j :: W)).getD 0 0 = (j : Int) := rfl
    simp only [step66_0, hl, hg, dT (show ((W.length + 1 : Nat) : Int) > 0 by omega), inT (show (0 : Int) ≤ 0 by omega) (show (0 : Int) < ((W.length + 1 : Nat) : Int) by omega), dF (show ¬ (j : Int) < (q : Int) by omega), cond_true, cond_false])
  W hW hs
theorem since_below (A : List Int) (q : Nat) {N : Nat} {W : List Nat} (hW : Fit N W) (hs : W.Pairwise fun i j : Nat => i < j) :
 loopVal step66_0a ((q : Int), rate, s, out, (s, ()), (s, ()), a, b, i, p, l, n, k, cst W, A) = some (rate, s, out, (s, ()), (s, ()), a, b, i, p, l, n, k, A, cst (sinceW q W)) :=
 since_loop (fun W => ((q : Int), rate, s, out, (s, ()), (s, ()), a, b, i, p, l, n, k, cst W, A)) (fun W => (rate, s, out, (s, ()), (s, ()), a, b, i, p, l, n, k, A, cst W)) q N
  (by simp only [step66_0a, cst_len, List.length_nil, Int.natCast_zero, dF (show ¬ ((0 : Int) > 0) by omega), cond_false])
  (fun W j hf hv => by
    have hl : (cst (j :: W)).length = W.length + 1 := by rw [cst_len, List.length_cons]
    have hg : (cst (j :: W)).getD 0 0 = (j : Int) := rfl
    have ht : ((cst (j :: W)).drop 1).take (((W.length + 1 : Nat) : Int).toNat - 1) = cst W := by
     rw [cst_cons, List.drop_one, List.tail_cons, Int.toNat_natCast, Nat.add_sub_cancel, List.take_of_length_le (by rw [cst_len]; exact Nat.le_refl _)]
    simp only [step66_0a, hl, hg, ht, dT (show ((W.length + 1 : Nat) : Int) > 0 by omega), inT (show (0 : Int) ≤ 0 by omega) (show (0 : Int) < ((W.length + 1 : Nat) : Int) by omega), dT (show (j : Int) < (q : Int) by omega), dT (show 0 < W.length + 1 by omega), dT (show (1 : Int) ≤ ((W.length + 1 : Nat) : Int) by omega), dT (show ((W.length + 1 : Nat) : Int) ≤ ((W.length + 1 : Nat) : Int) by omega), Bool.and_self, cond_true])
  (fun W j hf hv => by
    have hl : (cst (j :: W)).length = W.length + 1 := by rw [cst_len, List.length_cons]
    have hg : (cst (j :: W)).getD 0 0 = (j : Int) := rfl
    simp only [step66_0a, hl, hg, dT (show ((W.length + 1 : Nat) : Int) > 0 by omega), inT (show (0 : Int) ≤ 0 by omega) (show (0 : Int) < ((W.length + 1 : Nat) : Int) by omega), dF (show ¬ (j : Int) < (q : Int) by omega), cond_true, cond_false])
  W hW hs
end
section
variable {s : Stg} (S : StOk s) {rate : Int} (hr : 0 ≤ rate ∧ rate ≤ 40000) (out : List Int) (i : Int) {p : Int} (hp : -20000 ≤ p ∧ p ≤ 20000) (l : List Int) (n k : Int)
include S hr hp
theorem above_loop (b : Int) (U : List Int) {lo : Nat} : ∀ (m a : Nat) (W : List Nat), a + m = s.1.length → lo ≤ a → Win (upV s) lo a W → (∀ j, j < a → s.1.getD j 0 ≤ p + rate) →
 ∃ a' W', loopVal step44_2 (rate, s, out, (s, ()), (s, ()), (a : Int), b, i, p, l, n, k, cst W, U) = some (rate, s, out, (s, ()), (s, ()), ((a' : Nat) : Int), b, i, p, l, n, k, cst W', U) ∧ lo ≤ a' ∧ a' ≤ s.1.length ∧ Win (upV s) lo a' W' ∧ ∀ j, j < s.1.length → (j < a' ↔ s.1.getD j 0 ≤ p + rate) := by
 intro m
 have hN := S.few
 have wp : wr (p + rate) = p + rate := wr_id (by omega) (by omega)
 induction m with
 | zero =>
   intro a W ha hlo hW hb
   obtain rfl : a = s.1.length := by omega
   refine ⟨s.1.length, W, loopVal_last ?_, hlo, Nat.le_refl _, hW, fun j hj => ⟨fun _ => hb j hj, fun _ => hj⟩⟩
   simp only [step44_2, lt_cast, Nat.lt_irrefl, decide_false, cond_false]
 | succ m ih =>
   intro a W ha hlo hW hb
   have ha' : a < s.1.length := by omega
   by_cases hc : s.1.getD a 0 ≤ p + rate
   ·have hpush := push_above S rate out b i p l n k U ha' hW
    have hw2 := hW.push hlo
    have hlen := (hw2.fit (N := s.1.length) (by omega) (by omega)).2
    rw [snoc_len] at hlen
    have hs : step44_2 (rate, s, out, (s, ()), (s, ()), (a : Int), b, i, p, l, n, k, cst W, U) = some (.inl (rate, s, out, (s, ()), (s, ()), ((a + 1 : Nat) : Int), b, i, p, l, n, k, cst (popW (upV s) (upV s a) W ++ [a]), U)) := by
     simp only [step44_2, lt_cast, dT ha', cond_true, inB_cast, Int.toNat_natCast, wp, dT hc, hpush, optE_some, cst_len, room_true (b := 8) (n := (popW (upV s) (upV s a) W).length + 1) (by omega) (by omega), cst_snoc, wr_succ (show a < 4611686018427387904 by omega)]
    rw [loopVal_next hs]
    exact ih (a + 1) _ (by omega) (by omega) hw2 (fun j hj => by
     by_cases e : j = a
     ·rw [e]; exact hc
     ·exact hb j (by omega))
   ·refine ⟨a, W, loopVal_last ?_, hlo, by omega, hW, fun j hj => ⟨fun h => hb j h, fun h => ?_⟩⟩
    ·simp only [step44_2, lt_cast, dT ha', cond_true, inB_cast, Int.toNat_natCast, wp, dF hc, cond_false]
    ·rcases Nat.lt_or_ge j a with h' | h'
     ·exact h'
     ·have := asc_le S.asc h' hj
      omega
omit hr hp in
theorem below_loop (a : Int) (A : List Int) {lo : Nat} : ∀ (m b : Nat) (W : List Nat), b + m = s.1.length → lo ≤ b → Win (dnV s) lo b W → (∀ j, j < b → s.1.getD j 0 ≤ p) →
 ∃ b' W', loopVal step44_4 (rate, s, out, (s, ()), (s, ()), a, (b : Int), i, p, l, n, k, A, cst W) = some (rate, s, out, (s, ()), (s, ()), a, ((b' : Nat) : Int), i, p, l, n, k, A, cst W') ∧ lo ≤ b' ∧ b' ≤ s.1.length ∧ Win (dnV s) lo b' W' ∧ ∀ j, j < s.1.length → (j < b' ↔ s.1.getD j 0 ≤ p) := by
 intro m
 have hN := S.few
 induction m with
 | zero =>
   intro b W hb0 hlo hW hb
   obtain rfl : b = s.1.length := by omega
   refine ⟨s.1.length, W, loopVal_last ?_, hlo, Nat.le_refl _, hW, fun j hj => ⟨fun _ => hb j hj, fun _ => hj⟩⟩
   simp only [step44_4, lt_cast, Nat.lt_irrefl, decide_false, cond_false]
 | succ m ih =>
   intro b W hb0 hlo hW hb
   have hb' : b < s.1.length := by omega
   by_cases hc : s.1.getD b 0 ≤ p
   ·have hpush := push_below S rate out i p l n k A a hb' hW
    have hw2 := hW.push hlo
    have hlen := (hw2.fit (N := s.1.length) (by omega) (by omega)).2
    rw [snoc_len] at hlen
    have hs : step44_4 (rate, s, out, (s, ()), (s, ()), a, (b : Int), i, p, l, n, k, A, cst W) = some (.inl (rate, s, out, (s, ()), (s, ()), a, ((b + 1 : Nat) : Int), i, p, l, n, k, A, cst (popW (dnV s) (dnV s b) W ++ [b]))) := by
     simp only [step44_4, lt_cast, dT hb', cond_true, inB_cast, Int.toNat_natCast, dT hc, hpush, optE_some, cst_len, room_true (b := 8) (n := (popW (dnV s) (dnV s b) W).length + 1) (by omega) (by omega), cst_snoc, wr_succ (show b < 4611686018427387904 by omega)]
    rw [loopVal_next hs]
    exact ih (b + 1) _ (by omega) (by omega) hw2 (fun j hj => by
     by_cases e : j = b
     ·rw [e]; exact hc
     ·exact hb j (by omega))
   ·refine ⟨b, W, loopVal_last ?_, hlo, by omega, hW, fun j hj => ⟨fun h => hb j h, fun h => ?_⟩⟩
    ·simp only [step44_4, lt_cast, dT hb', cond_true, inB_cast, Int.toNat_natCast, dF hc, cond_false]
    ·rcases Nat.lt_or_ge j b with h' | h'
     ·exact h'
     ·have := asc_le S.asc h' hj
      omega
end
def outL (l : List Int) (k : Nat) : List Int := l.take k ++ List.replicate (l.length - k) NEV
theorem outL_len (l : List Int) {k : Nat} (h : k ≤ l.length) : (outL l k).length = l.length := by unfold outL; simp; omega
theorem outL_get (l : List Int) {k : Nat} (h : k < l.length) : (outL l k).getD k 0 = NEV := by
 unfold outL
 rw [List.getD_eq_getElem?_getD, List.getElem?_append_right (by simp; omega), List.length_take, Nat.min_eq_left (by omega), Nat.sub_self, List.getElem?_replicate, if_pos (by omega)]
 rfl
theorem outL_set (l : List Int) {k : Nat} (h : k < l.length) : (outL l k).set k (l.getD k 0) = outL l (k + 1) := by
 unfold outL
 rw [List.set_append_right _ _ (by rw [List.length_take]; omega), List.length_take, Nat.min_eq_left (by omega), Nat.sub_self, ← take_succ_getD l 0 h, List.append_assoc]
 congr 1
 rw [show l.length - k = (l.length - (k + 1)) + 1 by omega, List.replicate_succ]
 rfl
theorem set_same (l : List Int) {k : Nat} (h : k < l.length) (e : l.getD k 0 = NEV) : outL l k = outL l (k + 1) := by
 rw [← outL_set l h, e]
 have := outL_get l h
 apply List.ext_getElem
 ·simp
 ·intro j h1 h2
  rw [List.getElem_set]
  split
  ·rename_i hj
   subst hj
   rw [List.getD_eq_getElem?_getD, List.getElem?_eq_getElem h1] at this
   exact this
  ·rfl
section
variable {s : Stg} (S : StOk s) {rate : Int} (hr : 0 ≤ rate ∧ rate ≤ 40000) {f : List Int} (hf : Asc f) (hfl : f.length ≤ 1000000) (hfb : ∀ i, i < f.length → -20000 ≤ f.getD i 0 ∧ f.getD i 0 ≤ 20000)
include S hr hf hfl hfb
theorem outer_loop : ∀ (m i a b sa sb : Nat) (W U : List Nat), i + m = f.length → sa ≤ a → a ≤ s.1.length → sb ≤ b → b ≤ s.1.length → Win (upV s) sa a W → Win (dnV s) sb b U →
 (∀ j, j < a → i < f.length → s.1.getD j 0 ≤ f.getD i 0 + rate) → (∀ j, j < b → i < f.length → s.1.getD j 0 ≤ f.getD i 0) →
 (∀ j, j < s.1.length → i < f.length → f.getD i 0 ≤ s.1.getD j 0 → sa ≤ j) → (∀ j, j < s.1.length → i < f.length → f.getD i 0 - rate ≤ s.1.getD j 0 → sb ≤ j) →
 loopVal step44_0 (rate, s, outL (f.map (bestV s.1 s.2 rate)) i, (s, ()), (s, ()), (a : Int), (b : Int), f, (f.length : Int), (i : Int), cst W, cst U) = some (f.map (bestV s.1 s.2 rate)) := by
 intro m
 have hN := S.few
 have hsl := S.len
 have hfm : (f.map (bestV s.1 s.2 rate)).length = f.length := List.length_map _
 induction m with
 | zero =>
   intro i a b sa sb W U hi _ _ _ _ _ _ _ _ _ _
   obtain rfl : i = f.length := by omega
   refine loopVal_last ?_
   have : outL (f.map (bestV s.1 s.2 rate)) f.length = f.map (bestV s.1 s.2 rate) := by
    unfold outL
    rw [hfm, Nat.sub_self, List.take_of_length_le (by rw [hfm]; exact Nat.le_refl _)]
    simp
   simp only [step44_0, lt_cast, Nat.lt_irrefl, decide_false, cond_false, this]
 | succ m ih =>
   intro i a b sa sb W U hi hsa ha hsb hb hW hU h1 h2 h3 h4
   have hi' : i < f.length := by omega
   obtain ⟨p, hp⟩ : ∃ p, f.getD i 0 = p := ⟨_, rfl⟩
   have hpb := hfb i hi'
   have hfv : (f.map (bestV s.1 s.2 rate)).getD i 0 = bestV s.1 s.2 rate p := by rw [mapV_get hi', hp]
   rw [hp] at hpb
   obtain ⟨a', W1, e1, c1, c2, c3, c4⟩ := above_loop S hr (outL (f.map (bestV s.1 s.2 rate)) i) (i : Int) hpb f (f.length : Int) (i : Int) (b : Int) (cst U) (s.1.length - a) a W (by omega) hsa hW (fun j hj => by rw [← hp]; exact h1 j hj hi')
   obtain ⟨q, g1, g2, g3⟩ := search_z S.asc (by omega) p
   have hsaq : sa ≤ q := by
    rcases Nat.lt_or_ge q s.1.length with hq | hq
    ·exact h3 q hq hi' (by rw [hp]; exact (g3 q hq).1 (Nat.le_refl _))
    ·omega
   have e3 := since_above (s := s) rate (outL (f.map (bestV s.1 s.2 rate)) i) ((a' : Nat) : Int) (b : Int) (i : Int) p f (f.length : Int) (i : Int) (cst U) q (c3.fit (N := s.1.length) c2 (by omega)) (c3.sort.imp fun h => h.1)
   have hW2 := c3.since hsaq
   obtain ⟨b', U1, e4, d1, d2, d3, d4⟩ := below_loop S (rate := rate) (outL (f.map (bestV s.1 s.2 rate)) i) (i : Int) (p := p) f (f.length : Int) (i : Int) ((a' : Nat) : Int) (cst (sinceW q W1)) (s.1.length - b) b U (by omega) hsb hU (fun j hj => by rw [← hp]; exact h2 j hj hi')
   have wpr : wr (p - rate) = p - rate := wr_id (by omega) (by omega)
   obtain ⟨q', k1, k2, k3⟩ := search_z S.asc (by omega) (p - rate)
   have hsbq : sb ≤ q' := by
    rcases Nat.lt_or_ge q' s.1.length with hq | hq
    ·exact h4 q' hq hi' (by rw [hp]; exact (k3 q' hq).1 (Nat.le_refl _))
    ·omega
   have e6 := since_below (s := s) rate (outL (f.map (bestV s.1 s.2 rate)) i) ((a' : Nat) : Int) ((b' : Nat) : Int) (i : Int) p f (f.length : Int) (i : Int) (cst (sinceW q W1)) q' (d3.fit (N := s.1.length) d2 (by omega)) (d3.sort.imp fun h => h.1)
   have hU2 := d3.since hsbq
   have hbest := windows_best (p := p) hr.1 hsl c2 d2 g3 c4 k3 d4 hW2 hU2
   have hqa : q ≤ a' := by
    rcases Nat.lt_or_ge a' q with h | h
    ·have hq1 : a' < s.1.length := by omega
     have x1 := (c4 a' hq1)
     have x2 := (g3 a' hq1)
     have y1 : ¬ s.1.getD a' 0 ≤ p + rate := fun h => by have := x1.2 h; omega
     have y2 : ¬ p ≤ s.1.getD a' 0 := fun h' => by have := x2.2 h'; omega
     omega
    ·exact h
   have hqb : q' ≤ b' := by
    rcases Nat.lt_or_ge b' q' with h | h
    ·have hq1 : b' < s.1.length := by omega
     have x1 := (d4 b' hq1)
     have x2 := (k3 b' hq1)
     have y1 : ¬ s.1.getD b' 0 ≤ p := fun h => by have := x1.2 h; omega
     have y2 : ¬ p - rate ≤ s.1.getD b' 0 := fun h' => by have := x2.2 h'; omega
     omega
    ·exact h
   have hstep : step44_0 (rate, s, outL (f.map (bestV s.1 s.2 rate)) i, (s, ()), (s, ()), (a : Int), (b : Int), f, (f.length : Int), (i : Int), cst W, cst U) = some (.inl (rate, s, outL (f.map (bestV s.1 s.2 rate)) (i + 1), (s, ()), (s, ()), ((a' : Nat) : Int), ((b' : Nat) : Int), f, (f.length : Int), ((i + 1 : Nat) : Int), cst (sinceW q W1), cst (sinceW q' U1))) := by
    have hol : (outL (f.map (bestV s.1 s.2 rate)) i).length = f.length := by rw [outL_len _ (by rw [hfm]; omega), hfm]
    have hog := outL_get (f.map (bestV s.1 s.2 rate)) (k := i) (by rw [hfm]; exact hi')
    have hos := outL_set (f.map (bestV s.1 s.2 rate)) (k := i) (by rw [hfm]; exact hi')
    rw [hfv] at hos
    simp only [step44_0, lt_cast, dT hi', cond_true, inB_cast, Int.toNat_natCast, hp, e1, g2, e3, e4, wpr, k2, e6, optE_some, cst_len, hol, wr_succ (show i < 4611686018427387904 by omega)]
    generalize hWn : sinceW q W1 = W2 at hbest hW2 ⊢
    generalize hUn : sinceW q' U1 = U2 at hbest hU2 ⊢
    cases W2 with
    | nil =>
      cases U2 with
      | nil =>
        simp only [List.head?_nil] at hbest
        rw [set_same _ (by rw [hfm]; exact hi') (by rw [hfv, hbest])]
        simp only [List.length_nil, Int.natCast_zero, dF (show ¬ ((0 : Int) > 0) by omega), cond_false]
      | cons y U2 =>
        have hy := (hU2.range y List.mem_cons_self).2
        have hy1 := S.at_ y (by omega)
        have hy2 := S.rest y (by omega)
        simp only [List.head?_nil, List.head?_cons] at hbest
        rw [hbest] at hos
        simp only [List.length_nil, List.length_cons, Int.natCast_zero, dF (show ¬ ((0 : Int) > 0) by omega), cond_false, dT (show ((U2.length + 1 : Nat) : Int) > 0 by omega), inT (show (0 : Int) ≤ 0 by omega) (show (0 : Int) < ((U2.length + 1 : Nat) : Int) by omega), show (cst (y :: U2)).getD 0 0 = (y : Int) from rfl, inT (show (0 : Int) ≤ (y : Int) by omega) (show (y : Int) < (s.1.length : Int) by omega), inT (show (0 : Int) ≤ (y : Int) by omega) (show (y : Int) < (s.2.length : Int) by omega), cond_true, Int.toNat_natCast, hog]
        rw [wr_id (n := s.2.getD y 0 - s.1.getD y 0) (by omega) (by omega), wr_id (n := s.2.getD y 0 - s.1.getD y 0 + p) (by omega) (by omega), hos]
    | cons z W2 =>
      have hz := (hW2.range z List.mem_cons_self).2
      have hz1 := S.at_ z (by omega)
      have hz2 := S.rest z (by omega)
      cases U2 with
      | nil =>
        simp only [List.head?_nil, List.head?_cons] at hbest
        rw [hbest] at hos
        simp only [List.length_nil, List.length_cons, Int.natCast_zero, dF (show ¬ ((0 : Int) > 0) by omega), cond_false, dT (show ((W2.length + 1 : Nat) : Int) > 0 by omega), inT (show (0 : Int) ≤ 0 by omega) (show (0 : Int) < ((W2.length + 1 : Nat) : Int) by omega), show (cst (z :: W2)).getD 0 0 = (z : Int) from rfl, inT (show (0 : Int) ≤ (z : Int) by omega) (show (z : Int) < (s.1.length : Int) by omega), inT (show (0 : Int) ≤ (z : Int) by omega) (show (z : Int) < (s.2.length : Int) by omega), cond_true, Int.toNat_natCast, hog]
        rw [wr_id (n := s.2.getD z 0 + s.1.getD z 0) (by omega) (by omega), wr_id (n := s.2.getD z 0 + s.1.getD z 0 - p) (by omega) (by omega), hos]
      | cons y U2 =>
        have hy := (hU2.range y List.mem_cons_self).2
        have hy1 := S.at_ y (by omega)
        have hy2 := S.rest y (by omega)
        simp only [List.head?_cons] at hbest
        rw [hbest] at hos
        have hset : ∀ v : Int, ((outL (f.map (bestV s.1 s.2 rate)) i).set i v).length = f.length := fun v => by rw [List.length_set, hol]
        have hget : ∀ v : Int, ((outL (f.map (bestV s.1 s.2 rate)) i).set i v).getD i 0 = v := fun v => by
         rw [List.getD_eq_getElem?_getD, List.getElem?_set_self (by rw [hol]; exact hi')]; rfl
        have hss : ∀ v v' : Int, ((outL (f.map (bestV s.1 s.2 rate)) i).set i v).set i v' = (outL (f.map (bestV s.1 s.2 rate)) i).set i v' := fun v v' => List.set_set ..
        simp only [List.length_cons, dT (show ((W2.length + 1 : Nat) : Int) > 0 by omega), dT (show ((U2.length + 1 : Nat) : Int) > 0 by omega), inT (show (0 : Int) ≤ 0 by omega) (show (0 : Int) < ((W2.length + 1 : Nat) : Int) by omega), inT (show (0 : Int) ≤ 0 by omega) (show (0 : Int) < ((U2.length + 1 : Nat) : Int) by omega), show (cst (z :: W2)).getD 0 0 = (z : Int) from rfl, show (cst (y :: U2)).getD 0 0 = (y : Int) from rfl, inT (show (0 : Int) ≤ (z : Int) by omega) (show (z : Int) < (s.1.length : Int) by omega), inT (show (0 : Int) ≤ (z : Int) by omega) (show (z : Int) < (s.2.length : Int) by omega), inT (show (0 : Int) ≤ (y : Int) by omega) (show (y : Int) < (s.1.length : Int) by omega), inT (show (0 : Int) ≤ (y : Int) by omega) (show (y : Int) < (s.2.length : Int) by omega), cond_true, Int.toNat_natCast, hog, hset, hget, hss, dT hi']
        rw [wr_id (n := s.2.getD z 0 + s.1.getD z 0) (by omega) (by omega), wr_id (n := s.2.getD z 0 + s.1.getD z 0 - p) (by omega) (by omega), wr_id (n := s.2.getD y 0 - s.1.getD y 0) (by omega) (by omega), wr_id (n := s.2.getD y 0 - s.1.getD y 0 + p) (by omega) (by omega), hos]
   rw [loopVal_next hstep]
   have up : i + 1 < f.length → p ≤ f.getD (i + 1) 0 := fun h => by rw [← hp]; exact hf i (i + 1) (by omega) h
   refine ih (i + 1) a' b' q q' (sinceW q W1) (sinceW q' U1) (by omega) hqa c2 hqb d2 hW2 hU2 (fun j hj h => ?_) (fun j hj h => ?_) (fun j hj h h' => ?_) (fun j hj h h' => ?_)
   ·have := (c4 j (by omega)).1 hj
    have := up h; omega
   ·have := (d4 j (by omega)).1 hj
    have := up h; omega
   ·exact (g3 j hj).2 (by have := up h; omega)
   ·exact (k3 j hj).2 (by have := up h; omega)
theorem travels_z : s44 (f, s, rate) = some (f.map (bestV s.1 s.2 rate)) := by
 have h := outer_loop S hr hf hfl hfb f.length 0 0 0 0 0 [] [] (by omega) (Nat.le_refl _) (by omega) (Nat.le_refl _) (by omega) .nil .nil (fun j hj => by omega) (fun j hj => by omega) (fun j _ _ _ => Nat.zero_le _) (fun j _ _ _ => Nat.zero_le _)
 have e : outL (f.map (bestV s.1 s.2 rate)) 0 = List.replicate f.length NEV := by
  unfold outL; simp
 rw [e] at h
 have h : loopVal step44_0 (rate, s, List.replicate f.length NEV, (s, ()), (s, ()), 0, 0, f, (f.length : Int), 0, [], []) = _ := h
 simp only [s44, repeat_z f.length hfl, optE_some, h]
end
end Go.Proofs.Ythabingkfmlbbaa
