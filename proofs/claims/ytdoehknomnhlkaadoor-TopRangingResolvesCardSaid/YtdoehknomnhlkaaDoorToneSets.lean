/- The sets of tones without a common candidate: the program's search and the reference's are the same walk over all sets. -/
import Derived.Test.YtdoehknomnhlkaaDoorCandLaw
import Derived.Test.YtdoehknomnhlkaaDoorGr0
import Derived.Test.YtdoehknomnhlkaaDoorGt0
set_option linter.unusedSimpArgs false
namespace Go.Proofs.YtdoehknomnhlkaaDoor
open Go.Ev
def fitS (l : List Tn) (s : List Int) (d : Int) : Bool := s.all fun i => fitAt l d i.toNat
def anyD (lim : Int × Int) (p : Int → Bool) : Bool := (List.range (cnt lim)).any fun k => p (lim.1 + (k : Int))
def anyF (l : List Tn) (lim : Int × Int) (s : List Int) : Bool := anyD lim (fitS l s)
theorem occF_len (l : List Tn) : ∀ (m : Nat) (d : Int) (oc : List Bool), (occF l m d oc).length = oc.length
 | 0, _, _ => rfl
 | m + 1, d, oc => by rw [occF, occF_len l m (d + 1)]; simp
theorem occs_len (l : List Tn) (lim : Int × Int) : (occs l lim).length = 256 := by unfold occs; rw [occF_len, List.length_replicate]
theorem occF_at (l : List Tn) : ∀ (m : Nat) (d : Int) (oc : List Bool) (j : Nat), oc.length = 256 → j < 256 → (occF l m d oc).getD j false = (oc.getD j false || (List.range m).any fun k => maskOf l (d + (k : Int)) == j)
 | 0, d, oc, j, ho, hj => by simp [occF]
 | m + 1, d, oc, j, ho, hj => by
   rw [occF, occF_at l m (d + 1) _ j (by simp [ho]) hj, List.range_succ_eq_map, List.any_cons, List.any_map]
   have h1 : (oc.set (maskOf l d) true).getD j false = (oc.getD j false || (maskOf l d == j)) := by
    rw [List.getD_eq_getElem?_getD, List.getD_eq_getElem?_getD, List.getElem?_set]
    by_cases h : maskOf l d = j
    ·rw [if_pos h, if_pos (by omega), h]; simp
    ·rw [if_neg h, beq_eq_false_iff_ne.2 h, Bool.or_false]
   rw [h1, Bool.or_assoc]
   congr 2
   ·simp
   ·congr 1
    funext k
    simp only [Function.comp, Nat.succ_eq_add_one]
    rw [show d + 1 + (k : Int) = d + ((k + 1 : Nat) : Int) by omega]
theorem hit_any {l : List Tn} (hl : l.length ≤ 8) (lim : Int × Int) {m : Nat} (hm : m < 256) : hitB (occs l lim) (m : Int) = anyD lim fun d => (maskOf l d &&& m) == m := by
 rw [Bool.eq_iff_iff]
 unfold hitB anyD
 simp only [List.any_eq_true, List.mem_range, beq_iff_eq]
 have hz : ∀ j, (List.replicate 256 false).getD j false = false := fun j => by
  rw [List.getD_eq_getElem?_getD, List.getElem?_replicate]
  split <;> rfl
 have hand : ∀ j : Nat, j < 256 → (andI .i64 (j : Int) (m : Int) == (m : Int)) = ((j &&& m) == m) := fun j hj => by
  rw [and_nat (by omega) (by omega), Bool.eq_iff_iff, beq_iff_eq, beq_iff_eq]
  omega
 constructor
 ·rintro ⟨j, hj, h⟩
  unfold hitAt at h
  rw [Bool.and_eq_true, hand j hj, beq_iff_eq] at h
  obtain ⟨h1, h2⟩ := h
  unfold occs at h1
  rw [occF_at l _ _ _ j List.length_replicate hj, hz, Bool.false_or, List.any_eq_true] at h1
  obtain ⟨k, hk, h3⟩ := h1
  rw [List.mem_range] at hk
  rw [beq_iff_eq] at h3
  exact ⟨k, hk, by rw [h3]; exact h2⟩
 ·rintro ⟨k, hk, h⟩
  have hj := mask_lt l (lim.1 + (k : Int)) hl
  refine ⟨maskOf l (lim.1 + (k : Int)), hj, ?_⟩
  unfold hitAt
  rw [Bool.and_eq_true, hand _ hj, beq_iff_eq]
  refine ⟨?_, h⟩
  unfold occs
  rw [occF_at l _ _ _ _ List.length_replicate hj, hz, Bool.false_or, List.any_eq_true]
  exact ⟨k, List.mem_range.2 hk, by simp⟩
theorem mask_sub {l : List Tn} {d : Int} {m : Nat} {s : List Int} (hm : m < 2 ^ l.length) (hs : ∀ i, i < l.length → m.testBit i = s.contains (i : Int)) (hin : ∀ i ∈ s, 0 ≤ i ∧ i < (l.length : Int)) : ((maskOf l d &&& m) == m) = fitS l s d := by
 have hb : ∀ i, (maskOf l d).testBit i = (decide (i < l.length) && fitAt l d i) := fun i => mk_bit (fitAt l d) i l.length
 rw [Bool.eq_iff_iff, beq_iff_eq]
 unfold fitS
 rw [List.all_eq_true]
 constructor
 ·intro h i hi
  obtain ⟨h0, h1⟩ := hin i hi
  have hlt : i.toNat < l.length := by omega
  have hc : m.testBit i.toNat = true := by
   rw [hs _ hlt, Int.toNat_of_nonneg h0]
   simpa using hi
  have := congrArg (fun x => Nat.testBit x i.toNat) h
  simp only [Nat.testBit_and, hc, Bool.and_true] at this
  rw [hb] at this
  simp only [Bool.and_eq_true] at this
  exact this.2
 ·intro h
  apply Nat.eq_of_testBit_eq
  intro i
  rw [Nat.testBit_and]
  cases hc : m.testBit i with
  | false => rw [Bool.and_false]
  | true =>
    rw [Bool.and_true, hb]
    have hlt : i < l.length := by
     rcases Nat.lt_or_ge i l.length with h1 | h1
     ·exact h1
     ·have h2 : 2 ^ l.length ≤ 2 ^ i := Nat.pow_le_pow_right (by omega) h1
      rw [Nat.testBit_lt_two_pow (Nat.lt_of_lt_of_le hm h2)] at hc
      cases hc
    have hm2 : (i : Int) ∈ s := by
     have := hs i hlt
     rw [hc] at this
     simpa using this.symm
    have := h _ hm2
    rw [Int.toNat_natCast] at this
    rw [this, decide_eq_true hlt]; rfl
def okL (l : List Tn) (left : List Int) (d : Int) : Bool := (List.range l.length).all fun i => left.contains (i : Int) || fitAt l d i
def anyL (l : List Tn) (lim : Int × Int) (left : List Int) : Bool := anyD lim (okL l left)
theorem has_eq (l : List Int) (n : Int) (hl : l.length ≤ 1000) : s48 (l, n) = some (l.contains n) := by
 unfold s48
 have h := loop_scan (step := step48_0) (st := fun k => (l, n, (k : Int))) (hit := fun k => (fun x => bif x == n then some (Sum.inl true : Bool ⊕ Unit) else none) (l.getD k 0)) (n := l.length) (e := .inr ())
  (fun k hk => by
    simp only [step48_0, lt_cast, inB_cast, hk, decide_true, cond_true, Int.toNat_natCast, wr_succ (show k < 4611686018427387904 by omega)]
    cases h : l.getD k 0 == n <;> simp [h])
  (by simp only [step48_0, lt_cast, Nat.lt_irrefl, decide_false, cond_false]) l.length 0 (by omega)
 rw [scan_list0 (fun x => bif x == n then some (Sum.inl true : Bool ⊕ Unit) else none) (.inr ()) l 0, scanL_const (b := Sum.inl true) (fun t _ => by cases t == n <;> simp)] at h
 have h' : loopVal step48_0 (l, n, 0) = _ := h
 dsimp only
 rw [h']
 have e : (l.all fun x => (bif x == n then some (Sum.inl true : Bool ⊕ Unit) else none).isNone) = !l.contains n := by
  rw [List.contains_eq_any_beq, List.not_any_eq_all_not]
  congr 1; funext t
  rw [show (n == t) = (t == n) from by rw [Bool.eq_iff_iff, beq_iff_eq, beq_iff_eq]; exact ⟨Eq.symm, Eq.symm⟩]
  cases t == n <;> rfl
 rw [e]
 cases l.contains n <;> rfl
theorem fits_left {l : List Tn} (hl : l.length ≤ 1000) (hv : ∀ t ∈ l, tErr t = 0) {left : List Int} (hleft : left.length ≤ 1000) {d : Int} (hd : 0 ≤ d ∧ d ≤ 1000000000) : s32 (l, d, left) = some (okL l left d) := by
 unfold s32
 dsimp only
 have key : ∀ (n k : Nat), k + n = l.length → loopVal step32_0 (l, d, left, (k : Int)) = some (bif (List.range' k n).all (fun i => left.contains (i : Int) || fitAt l d i) then .inr () else .inl false) := by
  intro n
  induction n with
  | zero =>
    intro k hk
    obtain rfl : k = l.length := by omega
    exact loopVal_last (by simp only [step32_0, lt_cast, Nat.lt_irrefl, decide_false, cond_false]; rfl)
  | succ n ih =>
    intro k hk
    have hk' : k < l.length := by omega
    have ht := tErr_ok (hv _ (getD_mem ((0, 0, 0) : Tn) hk'))
    have hm : s16 (wr (d - (l.getD k (0, 0, 0)).2.1), (l.getD k (0, 0, 0)).1) = some ((d - (l.getD k (0, 0, 0)).2.1) % (l.getD k (0, 0, 0)).1) := by
     unfold s16
     rw [wr_id (n := d - (l.getD k (0, 0, 0)).2.1) (by omega) (by omega)]
     exact mod_law (by omega) (by omega)
    rw [show List.range' k (n + 1) = k :: List.range' (k + 1) n from rfl, List.all_cons]
    cases hc : left.contains (k : Int) with
    | true =>
      rw [Bool.true_or, Bool.true_and]
      refine (loopVal_next (y := (l, d, left, ((k + 1 : Nat) : Int))) ?_).trans (ih (k + 1) (by omega))
      simp only [step32_0, lt_cast, inB_cast, hk', decide_true, cond_true, has_eq left _ hleft, hc, optE_some, Bool.not_true, cond_false, wr_succ (show k < 4611686018427387904 by omega)]
    | false =>
      rw [Bool.false_or]
      have hw : wr ((l.getD k (0, 0, 0)).2.2 - (l.getD k (0, 0, 0)).2.1) = (l.getD k (0, 0, 0)).2.2 - (l.getD k (0, 0, 0)).2.1 := wr_id (by omega) (by omega)
      cases hf : fitAt l d k with
      | true =>
        rw [Bool.true_and]
        refine (loopVal_next (y := (l, d, left, ((k + 1 : Nat) : Int))) ?_).trans (ih (k + 1) (by omega))
        have hf' : ¬ ((d - (l.getD k (0, 0, 0)).2.1) % (l.getD k (0, 0, 0)).1 > (l.getD k (0, 0, 0)).2.2 - (l.getD k (0, 0, 0)).2.1) := by have := of_decide_eq_true hf; omega
        simp only [step32_0, lt_cast, inB_cast, hk', decide_true, cond_true, Int.toNat_natCast, has_eq left _ hleft, hc, optE_some, Bool.not_false, hm, hw, decide_eq_false hf', cond_false, wr_succ (show k < 4611686018427387904 by omega)]
      | false =>
        rw [Bool.false_and]
        refine loopVal_last ?_
        have hf' : (d - (l.getD k (0, 0, 0)).2.1) % (l.getD k (0, 0, 0)).1 > (l.getD k (0, 0, 0)).2.2 - (l.getD k (0, 0, 0)).2.1 := by have := of_decide_eq_false hf; omega
        simp only [step32_0, lt_cast, inB_cast, hk', decide_true, cond_true, Int.toNat_natCast, has_eq left _ hleft, hc, optE_some, Bool.not_false, hm, hw, decide_eq_true hf']
        rfl
 have h0 := key l.length 0 (by omega)
 have h0 : loopVal step32_0 (l, d, left, 0) = _ := h0
 rw [h0]
 unfold okL
 rw [List.range_eq_range']
 cases (List.range' 0 l.length).all (fun i => left.contains (i : Int) || fitAt l d i) <;> rfl
theorem ref_loop {l : List Tn} (hl : l.length ≤ 1000) (hv : ∀ t ∈ l, tErr t = 0) {left : List Int} (hleft : left.length ≤ 1000) (size i : Int) (all : List (List Int)) (lo hi : Int) (h0 : 0 ≤ lo) (h1 : hi ≤ 1000000000) : ∀ (m : Nat) (d : Int), lo ≤ d → d + m = hi + 1 →
 loopVal step10_4 (l, size, all, i, left, false, d, (lo, hi)) = some (l, size, all, i, (List.range m).any (fun k => okL l left (d + (k : Int))), (lo, hi))
 | 0, d, hd, hm => by
   refine loopVal_last ?_
   simp only [step10_4, decide_eq_false (show ¬ d ≤ hi by omega), cond_false]
   rfl
 | m + 1, d, hd, hm => by
   have hs : step10_4 (l, size, all, i, left, false, d, (lo, hi)) = some (.inl (l, size, all, i, left, okL l left d, d + 1, (lo, hi))) := by
    simp only [step10_4, decide_eq_true (show d ≤ hi by omega), cond_true, Bool.not_false, fits_left hl hv hleft (show 0 ≤ d ∧ d ≤ 1000000000 by omega), optE_some, wr_id (n := d + 1) (by omega) (by omega)]
   rw [loopVal_next hs, List.range_succ_eq_map, List.any_cons, List.any_map]
   have e0 : okL l left (d + ((0 : Nat) : Int)) = okL l left d := by simp
   rw [e0]
   cases hk : okL l left d with
   | true =>
     rw [Bool.true_or]
     refine loopVal_last ?_
     simp only [step10_4, Bool.not_true, cond_false, Bool.cond_self]
   | false =>
     rw [Bool.false_or, ref_loop hl hv hleft size i all lo hi h0 h1 m (d + 1) (by omega) (by omega)]
     congr 7
     funext k
     simp only [Function.comp, Nat.succ_eq_add_one]
     rw [show d + 1 + (k : Int) = d + ((k + 1 : Nat) : Int) by omega]
theorem ref_eq {l : List Tn} {lim : Int × Int} (h : tonE l lim = 0) (left : List Int) (hleft : left.length ≤ 1000) (size i : Int) (all : List (List Int)) :
 loopVal step10_4 (l, size, all, i, left, false, lim.1, lim) = some (l, size, all, i, anyL l lim left, lim) := by
 obtain ⟨h1, h2, h3, h4, h5, h6⟩ := tonE_zero h
 exact ref_loop (by omega) h2 hleft size i all lim.1 lim.2 h3 h5 (cnt lim) lim.1 (by omega) (by unfold cnt; omega)
theorem stepA_eq : step10_4a = step10_4 := rfl
theorem ref_eqA {l : List Tn} {lim : Int × Int} (h : tonE l lim = 0) (left : List Int) (hleft : left.length ≤ 1000) (size i : Int) (all : List (List Int)) :
 loopVal step10_4a (l, size, all, i, left, false, lim.1, lim) = some (l, size, all, i, anyL l lim left, lim) := by rw [stepA_eq]; exact ref_eq h left hleft size i all
theorem okL_fit {l : List Tn} {left s : List Int} {d : Int} (hc : ∀ i, i < l.length → left.contains (i : Int) = !s.contains (i : Int)) (hin : ∀ i ∈ s, 0 ≤ i ∧ i < (l.length : Int)) : okL l left d = fitS l s d := by
 rw [Bool.eq_iff_iff]
 unfold okL fitS
 simp only [List.all_eq_true, List.mem_range, Bool.or_eq_true]
 constructor
 ·intro h i hi
  obtain ⟨h0, h1⟩ := hin i hi
  have hlt : i.toNat < l.length := by omega
  have := h i.toNat hlt
  rw [hc _ hlt, Int.toNat_of_nonneg h0] at this
  have hm : s.contains i = true := by simpa using hi
  rw [hm] at this
  simpa using this
 ·intro h i hi
  rw [hc i hi]
  cases hm : s.contains (i : Int) with
  | false => exact .inl rfl
  | true =>
    right
    have := h _ (by simpa using hm)
    rwa [Int.toNat_natCast] at this
def chainO (f : List Int → Bool) : List (List Int) → Option ((List Int) × Int)
 | [] => some ([], 12)
 | s :: r => bif f s then chainO f r else some (s, 0)
def chainR (f : List Int → Bool) : List (List Int) → Option ((List Int) × Bool)
 | [] => some ([], false)
 | s :: r => bif !f s then some (s, true) else chainR f r
def pickO : Option (List Int) → (List Int) × Int
 | some s => (s, 0)
 | none => ([], 12)
def pickR : Option (List Int) → (List Int) × Bool
 | some s => (s, true)
 | none => ([], false)
theorem chainO_eq {f g : List Int → Bool} : ∀ {L : List (List Int)}, (∀ s ∈ L, f s = g s) → chainO f L = some (pickO (L.find? fun s => !g s))
 | [], _ => rfl
 | s :: r, h => by
   rw [chainO, h s (by simp), List.find?_cons]
   cases g s with
   | true => exact chainO_eq fun x hx => h x (by simp [hx])
   | false => rfl
theorem chainR_eq {f g : List Int → Bool} : ∀ {L : List (List Int)}, (∀ s ∈ L, f s = g s) → chainR f L = some (pickR (L.find? fun s => !g s))
 | [], _ => rfl
 | s :: r, h => by
   rw [chainR, h s (by simp), List.find?_cons]
   cases g s with
   | true => exact chainR_eq fun x hx => h x (by simp [hx])
   | false => rfl
def maskS (s : List Int) : Nat := s.foldl (fun a i => a + 2 ^ i.toNat) 0
def leftOf (n : Nat) (s : List Int) : List Int := ((List.range n).map fun (i : Nat) => (i : Int)).filter fun i => !s.contains i
def Good (n : Nat) (L : List (List Int)) : Prop := ∀ s ∈ L, maskS s < 2 ^ n ∧ (∀ i, i < n → (maskS s).testBit i = s.contains (i : Int)) ∧ (∀ i ∈ s, 0 ≤ i ∧ i < (n : Int)) ∧ (∀ i, i < n → (leftOf n s).contains (i : Int) = !s.contains (i : Int))
instance (n : Nat) (L : List (List Int)) : Decidable (Good n L) := by unfold Good; infer_instance
theorem hit_good {l : List Tn} (lim : Int × Int) (hl : l.length ≤ 8) {L : List (List Int)} (hg : Good l.length L) : ∀ s ∈ L, hitB (occs l lim) (maskS s : Int) = anyF l lim s := fun s hs => by
 obtain ⟨h1, h2, h3, _⟩ := hg s hs
 have hp : 2 ^ l.length ≤ 2 ^ 8 := Nat.pow_le_pow_right (by omega) hl
 rw [hit_any hl lim (show maskS s < 256 by omega)]
 unfold anyF anyD
 congr 1; funext k
 exact mask_sub h1 h2 h3
theorem ref_good {l : List Tn} (lim : Int × Int) {L : List (List Int)} (hg : Good l.length L) : ∀ s ∈ L, anyL l lim (leftOf l.length s) = anyF l lim s := fun s hs => by
 obtain ⟨_, _, h3, h4⟩ := hg s hs
 unfold anyL anyF anyD
 congr 1; funext k
 exact okL_fit h4 h3
theorem any_nil {l : List Tn} {lim : Int × Int} (h : tonE l lim = 0) : anyF l lim [] = true := by
 obtain ⟨_, _, h3, h4, h5, h6⟩ := tonE_zero h
 unfold anyF anyD
 rw [List.any_eq_true]
 exact ⟨0, List.mem_range.2 (by unfold cnt; omega), rfl⟩
theorem win_of {l : List Tn} {lim : Int × Int} (h : tonE l lim = 0) : win lim.1 0 1000000000 = true := by obtain ⟨_, _, h3, h4, h5, _⟩ := tonE_zero h; exact win_iff.2 (by omega)
theorem win2_of {l : List Tn} {lim : Int × Int} (h : tonE l lim = 0) : win lim.2 0 1000000000 = true := by obtain ⟨_, _, h3, h4, h5, _⟩ := tonE_zero h; exact win_iff.2 (by omega)
theorem ord_of {l : List Tn} {lim : Int × Int} (h : tonE l lim = 0) : decide (lim.1 ≤ lim.2) = true := by obtain ⟨_, _, h3, h4, h5, _⟩ := tonE_zero h; exact decide_eq_true h4
theorem span_of {l : List Tn} {lim : Int × Int} (h : tonE l lim = 0) : decide (wr (lim.2 - lim.1) < 100000) = true := by
 obtain ⟨_, _, h3, h4, h5, h6⟩ := tonE_zero h
 rw [wr_id (by omega) (by omega)]
 exact decide_eq_true h6
theorem chk_of {l : List Tn} {lim : Int × Int} (h : tonE l lim = 0) : ((chkT l).2 == 0) = true := by
 by_cases hc : (chkT l).2 = 0
 ·rw [hc]; rfl
 ·have hb : ((chkT l).2 != 0) = true := by simpa using hc
  unfold tonE at h
  rw [hb, cond_true] at h
  exact absurd h hc
theorem hit0 {l : List Tn} {lim : Int × Int} (h : tonE l lim = 0) : hitB (occs l lim) 0 = true := by
 obtain ⟨h1, _, h3, h4, h5, h6⟩ := tonE_zero h
 have e := hit_any (l := l) (by omega) lim (show (0 : Nat) < 256 by omega)
 have e2 : hitB (occs l lim) ((0 : Nat) : Int) = true := by
  rw [e]
  unfold anyD
  rw [List.any_eq_true]
  exact ⟨0, List.mem_range.2 (by unfold cnt; omega), by simp⟩
 exact e2
theorem chain_nil {f : List Int → Bool} {r : List (List Int)} (h : f [] = true) : chainO f ([] :: r) = chainO f r := by rw [chainO, h]; rfl
theorem unl_ok (e : Int) : (unl true e == 0) = true := rfl
theorem he_of {l : List Tn} {lim : Int × Int} (h : tonE l lim = 0) : (bif (chkT l).2 != 0 then (chkT l).2 else limE lim) = 0 := h
def subs0 : List (List Int) := [[]]
theorem good0 : Good 0 subs0 := by decide +kernel
theorem prog0 {lim : Int × Int} (h : tonE ([] : List Tn) lim = 0) : p7n0 lim = chainO (fun s => hitB (occs ([] : List Tn) lim) (maskS s : Int)) subs0 := by
 have hw := win_of h
 have hp : padV 256 .bool (occs ([] : List Tn) lim) = occs ([] : List Tn) lim := padV_self (occs_len _ _)
 unfold p7n0
 simp only [chkT1, inEnd, optE_some, hw, win2_of h, ord_of h, span_of h, chk_of h, unl_ok, cond_true, sweep_eqB h, onlyAt_eq, hp, hit0 h]
 refine Eq.trans ?_ (chain_nil (f := fun s => hitB (occs ([] : List Tn) lim) (maskS s : Int)) (r := subs0.tail) (hit0 h)).symm
 rfl
theorem refs0 {lim : Int × Int} : p10n0 lim = chainR (fun s => anyL ([] : List Tn) lim (leftOf 0 s)) subs0.tail := rfl
def subs1 : List (List Int) := [[], [0]]
theorem good1 : Good 1 subs1 := by decide +kernel
theorem prog1 {t0 : Tn} {lim : Int × Int} (h : tonE ([t0] : List Tn) lim = 0) : p7n1 (t0, lim) = chainO (fun s => hitB (occs ([t0] : List Tn) lim) (maskS s : Int)) subs1 := by
 have hw := win_of h
 have hp : padV 256 .bool (occs ([t0] : List Tn) lim) = occs ([t0] : List Tn) lim := padV_self (occs_len _ _)
 unfold p7n1
 simp only [chkT1, inEnd, optE_some, hw, win2_of h, ord_of h, span_of h, chk_of h, unl_ok, cond_true, sweep_eqB h, onlyAt_eq, hp, hit0 h]
 refine Eq.trans ?_ (chain_nil (f := fun s => hitB (occs ([t0] : List Tn) lim) (maskS s : Int)) (r := subs1.tail) (hit0 h)).symm
 rfl
theorem refs1 {t0 : Tn} {lim : Int × Int} (h : tonE ([t0] : List Tn) lim = 0) : p10n1 (t0, lim) = chainR (fun s => anyL ([t0] : List Tn) lim (leftOf 1 s)) subs1.tail := by
 unfold p10n1
 simp (disch := decide) only [ref_eq h, ref_eqA h, optE_some]
 rfl
def subs2 : List (List Int) := [[], [0], [1], [0, 1]]
theorem good2 : Good 2 subs2 := by decide +kernel
theorem prog2 {t0 t1 : Tn} {lim : Int × Int} (h : tonE ([t0, t1] : List Tn) lim = 0) : p7n2 (t0, t1, lim) = chainO (fun s => hitB (occs ([t0, t1] : List Tn) lim) (maskS s : Int)) subs2 := by
 have hw := win_of h
 have hp : padV 256 .bool (occs ([t0, t1] : List Tn) lim) = occs ([t0, t1] : List Tn) lim := padV_self (occs_len _ _)
 unfold p7n2
 simp only [chkT1, inEnd, optE_some, hw, win2_of h, ord_of h, span_of h, chk_of h, unl_ok, cond_true, sweep_eqB h, onlyAt_eq, hp, hit0 h]
 refine Eq.trans ?_ (chain_nil (f := fun s => hitB (occs ([t0, t1] : List Tn) lim) (maskS s : Int)) (r := subs2.tail) (hit0 h)).symm
 rfl
theorem refs2 {t0 t1 : Tn} {lim : Int × Int} (h : tonE ([t0, t1] : List Tn) lim = 0) : p10n2 (t0, t1, lim) = chainR (fun s => anyL ([t0, t1] : List Tn) lim (leftOf 2 s)) subs2.tail := by
 unfold p10n2
 simp (disch := decide) only [ref_eq h, ref_eqA h, optE_some]
 rfl
def subs3 : List (List Int) := [[], [0], [1], [2], [0, 1], [0, 2], [1, 2], [0, 1, 2]]
theorem good3 : Good 3 subs3 := by decide +kernel
theorem prog3 {t0 t1 t2 : Tn} {lim : Int × Int} (h : tonE ([t0, t1, t2] : List Tn) lim = 0) : p7n3 (t0, t1, t2, lim) = chainO (fun s => hitB (occs ([t0, t1, t2] : List Tn) lim) (maskS s : Int)) subs3 := by
 have hw := win_of h
 have hp : padV 256 .bool (occs ([t0, t1, t2] : List Tn) lim) = occs ([t0, t1, t2] : List Tn) lim := padV_self (occs_len _ _)
 unfold p7n3
 simp only [chkT1, inEnd, optE_some, hw, win2_of h, ord_of h, span_of h, chk_of h, unl_ok, cond_true, sweep_eqB h, onlyAt_eq, hp, hit0 h]
 refine Eq.trans ?_ (chain_nil (f := fun s => hitB (occs ([t0, t1, t2] : List Tn) lim) (maskS s : Int)) (r := subs3.tail) (hit0 h)).symm
 rfl
theorem refs3 {t0 t1 t2 : Tn} {lim : Int × Int} (h : tonE ([t0, t1, t2] : List Tn) lim = 0) : p10n3 (t0, t1, t2, lim) = chainR (fun s => anyL ([t0, t1, t2] : List Tn) lim (leftOf 3 s)) subs3.tail := by
 unfold p10n3
 simp (disch := decide) only [ref_eq h, ref_eqA h, optE_some]
 rfl
def subs4 : List (List Int) := [[], [0], [1], [2], [3], [0, 1], [0, 2], [0, 3], [1, 2], [1, 3], [2, 3], [0, 1, 2], [0, 1, 3], [0, 2, 3], [1, 2, 3], [0, 1, 2, 3]]
theorem good4 : Good 4 subs4 := by decide +kernel
theorem prog4 {t0 t1 t2 t3 : Tn} {lim : Int × Int} (h : tonE ([t0, t1, t2, t3] : List Tn) lim = 0) : p7n4 (t0, t1, t2, t3, lim) = chainO (fun s => hitB (occs ([t0, t1, t2, t3] : List Tn) lim) (maskS s : Int)) subs4 := by
 have hw := win_of h
 have hp : padV 256 .bool (occs ([t0, t1, t2, t3] : List Tn) lim) = occs ([t0, t1, t2, t3] : List Tn) lim := padV_self (occs_len _ _)
 unfold p7n4
 simp only [chkT1, inEnd, optE_some, hw, win2_of h, ord_of h, span_of h, chk_of h, unl_ok, cond_true, sweep_eqB h, onlyAt_eq, hp, hit0 h]
 refine Eq.trans ?_ (chain_nil (f := fun s => hitB (occs ([t0, t1, t2, t3] : List Tn) lim) (maskS s : Int)) (r := subs4.tail) (hit0 h)).symm
 rfl
theorem refs4 {t0 t1 t2 t3 : Tn} {lim : Int × Int} (h : tonE ([t0, t1, t2, t3] : List Tn) lim = 0) : p10n4 (t0, t1, t2, t3, lim) = chainR (fun s => anyL ([t0, t1, t2, t3] : List Tn) lim (leftOf 4 s)) subs4.tail := by
 unfold p10n4
 simp (disch := decide) only [ref_eq h, ref_eqA h, optE_some]
 rfl
def subs5 : List (List Int) := [[], [0], [1], [2], [3], [4], [0, 1], [0, 2], [0, 3], [0, 4], [1, 2], [1, 3], [1, 4], [2, 3], [2, 4], [3, 4], [0, 1, 2], [0, 1, 3], [0, 1, 4], [0, 2, 3], [0, 2, 4], [0, 3, 4], [1, 2, 3], [1, 2, 4], [1, 3, 4], [2, 3, 4], [0, 1, 2, 3], [0, 1, 2, 4], [0, 1, 3, 4], [0, 2, 3, 4], [1, 2, 3, 4], [0, 1, 2, 3, 4]]
theorem good5 : Good 5 subs5 := by decide +kernel
theorem prog5 {t0 t1 t2 t3 t4 : Tn} {lim : Int × Int} (h : tonE ([t0, t1, t2, t3, t4] : List Tn) lim = 0) : p7n5 (t0, t1, t2, t3, t4, lim) = chainO (fun s => hitB (occs ([t0, t1, t2, t3, t4] : List Tn) lim) (maskS s : Int)) subs5 := by
 have hw := win_of h
 have hp : padV 256 .bool (occs ([t0, t1, t2, t3, t4] : List Tn) lim) = occs ([t0, t1, t2, t3, t4] : List Tn) lim := padV_self (occs_len _ _)
 unfold p7n5
 simp only [chkT1, inEnd, optE_some, hw, win2_of h, ord_of h, span_of h, chk_of h, unl_ok, cond_true, sweep_eqB h, onlyAt_eq, hp, hit0 h]
 refine Eq.trans ?_ (chain_nil (f := fun s => hitB (occs ([t0, t1, t2, t3, t4] : List Tn) lim) (maskS s : Int)) (r := subs5.tail) (hit0 h)).symm
 rfl
theorem refs5 {t0 t1 t2 t3 t4 : Tn} {lim : Int × Int} (h : tonE ([t0, t1, t2, t3, t4] : List Tn) lim = 0) : p10n5 (t0, t1, t2, t3, t4, lim) = chainR (fun s => anyL ([t0, t1, t2, t3, t4] : List Tn) lim (leftOf 5 s)) subs5.tail := by
 unfold p10n5
 simp (disch := decide) only [ref_eq h, ref_eqA h, optE_some]
 rfl
end Go.Proofs.YtdoehknomnhlkaaDoor
