import Derived.Test.YtfmfiflpokogiaaDoorGc4
import Derived.Test.YtfmfiflpokogiaaDoorMasks
import Derived.Test.YtfmfiflpokogiaaDoorTones
set_option linter.unusedSimpArgs false
namespace Go.Proofs.YtfmfiflpokogiaaDoor
open Go.Ev
abbrev Tn := Int × Int × Int
def fitB (t : Tn) (d : Int) : Bool := decide ((d - t.2.1) % t.1 ≤ t.2.2 - t.2.1)
def fitAt (l : List Tn) (d : Int) (i : Nat) : Bool := fitB (l.getD i (0, 0, 0)) d
def fitL (l : List Tn) (d : Int) : Bool := l.all fun t => fitB t d
theorem fits_eq {t : Tn} (ht : tErr t = 0) {d : Int} (hd : 0 ≤ d ∧ d ≤ 1000000000) : s122 (t, d) = some (fitB t d) := by
 obtain ⟨h1, h2, h3, h4⟩ := tErr_ok ht
 unfold s122 fitB
 dsimp only
 rw [show (t.1 == 0) = false by simp; omega]
 simp only [Bool.not_false, cond_true]
 rw [wr_id (n := d - t.2.1) (by omega) (by omega), wr_id (n := d - t.2.1 + t.1) (by omega) (by omega), wr_id (n := t.2.2 - t.2.1) (by omega) (by omega)]
 rw [Int.tmod_eq_emod_of_nonneg (by omega), Int.add_emod_right]
theorem has_nil (n : Int) : s96 ([], n) = some false := by
 show optE (loopVal step96_0 ([], n, 0)) _ _ = _
 rw [loopVal_last (e := .inr ()) (by simp [step96_0])]
 rfl
theorem fits_ref {l : List Tn} (hl : l.length ≤ 1000) (hv : ∀ t ∈ l, tErr t = 0) {d : Int} (hd : -4000000000000000000 ≤ d ∧ d ≤ 4000000000000000000) : s47 (l, d, []) = some (fitL l d) := by
 unfold s47
 dsimp only
 have h := loop_scan (step := step47_0) (st := fun k => (l, d, [], (k : Int))) (n := l.length)
  (hit := fun k => bif fitB (l.getD k (0, 0, 0)) d then none else some (Sum.inl false)) (e := .inr ()) (fun k hk => by
    have ht := tErr_ok (hv _ (getD_mem ((0, 0, 0) : Tn) hk))
    have hm : s64 (wr (d - (l.getD k (0, 0, 0)).2.1), (l.getD k (0, 0, 0)).1) = some ((d - (l.getD k (0, 0, 0)).2.1) % (l.getD k (0, 0, 0)).1) := by
     unfold s64
     rw [wr_id (n := d - (l.getD k (0, 0, 0)).2.1) (by omega) (by omega)]
     exact mod_law (by omega) (by omega)
    simp only [step47_0, lt_cast, inB_cast, hk, decide_true, cond_true, Int.toNat_natCast, has_nil, optE_some, Bool.not_false, hm, wr_succ (show k < 4611686018427387904 by omega)]
    unfold fitB
    obtain ⟨t, e⟩ : ∃ t, l.getD k (0, 0, 0) = t := ⟨_, rfl⟩
    simp only [e] at ht ⊢
    rw [wr_id (n := t.2.2 - t.2.1) (by omega) (by omega)]
    by_cases hc : (d - t.2.1) % t.1 ≤ t.2.2 - t.2.1
    ·rw [decide_eq_true hc, decide_eq_false (by omega)]; rfl
    ·rw [decide_eq_false hc, decide_eq_true (by omega)]; rfl) (by simp only [step47_0, lt_cast, Nat.lt_irrefl, decide_false, cond_false]) l.length 0 (by omega)
 rw [show ((0 : Nat) : Int) = 0 from rfl, scan_list0 (fun t => bif fitB t d then none else some (Sum.inl false)) (.inr ()) l (0, 0, 0)] at h
 rw [h, scanL_const (b := Sum.inl false) (fun t _ => by cases fitB t d <;> simp)]
 unfold fitL
 have e : (l.all fun x => (bif fitB x d then (none : Option (Bool ⊕ Unit)) else some (Sum.inl false)).isNone) = l.all fun t => fitB t d := by
  congr 1; funext t; cases fitB t d <;> rfl
 rw [e]
 cases l.all fun t => fitB t d <;> rfl
theorem fitL_iff {l : List Tn} {d : Int} : fitL l d = true ↔ ∀ i, i < l.length → fitAt l d i = true := by
 unfold fitL fitAt
 rw [List.all_eq_true]
 constructor
 ·intro h i hi; exact h _ (getD_mem ((0, 0, 0) : Tn) hi)
 ·intro h t ht
  obtain ⟨i, hi, e⟩ := List.getElem_of_mem ht
  have := h i hi
  rwa [List.getD_eq_getElem?_getD, List.getElem?_eq_getElem hi, Option.getD_some, e] at this
def maskOf (l : List Tn) (d : Int) : Nat := mk (fitAt l d) l.length
theorem mask_lt (l : List Tn) (d : Int) (hl : l.length ≤ 8) : maskOf l d < 256 := by
 have h1 := mk_lt (fitAt l d) l.length
 have h2 : 2 ^ l.length ≤ 2 ^ 8 := Nat.pow_le_pow_right (by omega) hl
 unfold maskOf
 omega
theorem mask_full (l : List Tn) (d : Int) : maskOf l d + 1 = 2 ^ l.length ↔ fitL l d = true := by
 rw [fitL_iff]; exact mk_full _ _
def addR (rs : List (Int × Int)) (d : Int) : List (Int × Int) :=
 if rs.length = 0 then rs ++ [(d, d)]
 else if (rs.getD (rs.length - 1) (0, 0)).2 + 1 = d then rs.set (rs.length - 1) ((rs.getD (rs.length - 1) (0, 0)).1, d) else rs ++ [(d, d)]
def candF (l : List Tn) : Nat → Int → List (Int × Int) → List (Int × Int)
 | 0, _, rs => rs
 | m + 1, d, rs => candF l m (d + 1) (if fitL l d = true then addR rs d else rs)
def occF (l : List Tn) : Nat → Int → List Bool → List Bool
 | 0, _, oc => oc
 | m + 1, d, oc => occF l m (d + 1) (oc.set (maskOf l d) true)
theorem putV_set {oc : List Bool} (h : oc.length = 256) {m : Nat} (hm : m < 256) : putV 256 1 (1 + ((m : Nat) : Int).toNat * 1) true oc = oc.set m true := by
 unfold putV
 rw [Int.toNat_natCast]
 apply List.ext_getElem?
 intro i
 rw [List.getElem?_map, List.getElem?_set]
 by_cases hi : i < 256
 ·rw [List.getElem?_range hi]
  by_cases e : m = i
  ·subst e
   simp [show m < oc.length by omega]
  ·rw [if_neg e]
   have : Nat.beq (1 + i) (1 + m * 1) = false := by
    cases hb : Nat.beq (1 + i) (1 + m * 1) with
    | false => rfl
    | true => have := Nat.eq_of_beq_eq_true hb; omega
   simp only [Option.map_some, this, cond_false, List.getD_eq_getElem?_getD, List.getElem?_eq_getElem (show i < oc.length by omega), Option.getD_some]
 ·rw [List.getElem?_eq_none (by simp; omega), if_neg (by omega), List.getElem?_eq_none (by omega)]; rfl
theorem add_len (rs : List (Int × Int)) (d : Int) : (addR rs d).length ≤ rs.length + 1 := by
 unfold addR
 split
 ·simp
 ·split <;> simp
theorem add_ok {rs : List (Int × Int)} {d : Int} (hd : 0 ≤ d ∧ d ≤ 1000000000) (h : ∀ r ∈ rs, 0 ≤ r.2 ∧ r.2 ≤ 1000000000) : ∀ r ∈ addR rs d, 0 ≤ r.2 ∧ r.2 ≤ 1000000000 := by
 intro r hr
 unfold addR at hr
 split at hr
 ·rcases List.mem_append.1 hr with hr | hr
  ·exact h r hr
  ·rw [List.mem_singleton.1 hr]; exact hd
 ·split at hr
  ·rcases List.mem_or_eq_of_mem_set hr with hr | hr
   ·exact h r hr
   ·rw [hr]; exact hd
  ·rcases List.mem_append.1 hr with hr | hr
   ·exact h r hr
   ·rw [List.mem_singleton.1 hr]; exact hd
theorem add_prog {rs : List (Int × Int)} {d : Int} (hl : rs.length ≤ 1000000) (h : ∀ r ∈ rs, 0 ≤ r.2 ∧ r.2 ≤ 1000000000) {β : Type} (K : List (Int × Int) → Option β) :
 (bif decide ((rs.length : Int) > 0) then
   bif inBounds (wr ((rs.length : Int) - 1)) rs.length then
    bif (wr ((rs.getD (wr ((rs.length : Int) - 1)).toNat (0, 0)).2 + 1)) == d then
     bif inBounds (wr ((rs.length : Int) - 1)) rs.length then
      K (rs.set (wr ((rs.length : Int) - 1)).toNat ((rs.getD (wr ((rs.length : Int) - 1)).toNat (0, 0)).1, d))
     else none
    else
     bif room 16 (rs.length + 1) then K (rs ++ [(d, d)]) else none
   else none
 else
  bif room 16 (rs.length + 1) then K (rs ++ [(d, d)]) else none) = K (addR rs d) := by
 rw [room_true (b := 16) (n := rs.length + 1) (by omega) (by omega)]
 unfold addR
 by_cases h0 : rs.length = 0
 ·rw [decide_eq_false (by omega), if_pos h0]; rfl
 ·have e1 : wr ((rs.length : Int) - 1) = ((rs.length - 1 : Nat) : Int) := by rw [wr_id (by omega) (by omega)]; omega
  have e2 : inBounds ((rs.length - 1 : Nat) : Int) rs.length = true := by rw [inB_cast]; exact decide_eq_true (by omega)
  have hb := h _ (getD_mem (0, 0) (show rs.length - 1 < rs.length by omega))
  rw [decide_eq_true (show (rs.length : Int) > 0 by omega), if_neg h0, e1, e2, Int.toNat_natCast, wr_id (n := (rs.getD (rs.length - 1) (0, 0)).2 + 1) (by omega) (by omega)]
  by_cases hc : (rs.getD (rs.length - 1) (0, 0)).2 + 1 = d
  ·rw [if_pos hc, show ((rs.getD (rs.length - 1) (0, 0)).2 + 1 == d) = true by simpa using hc]; rfl
  ·rw [if_neg hc, show ((rs.getD (rs.length - 1) (0, 0)).2 + 1 == d) = false by simpa using hc]; rfl
theorem add_ref {rs : List (Int × Int)} {d : Int} (hd : 0 ≤ d ∧ d ≤ 1000000000) (hl : rs.length ≤ 1000000) (h : ∀ r ∈ rs, 0 ≤ r.2 ∧ r.2 ≤ 1000000000) {β : Type} (K : List (Int × Int) → Option β) :
 (bif decide ((wr ((rs.length : Int) - 1)) ≥ 0) then
   bif inBounds (wr ((rs.length : Int) - 1)) rs.length then
    bif (rs.getD (wr ((rs.length : Int) - 1)).toNat (0, 0)).2 == (wr (d - 1)) then
     bif inBounds (wr ((rs.length : Int) - 1)) rs.length then
      K (rs.set (wr ((rs.length : Int) - 1)).toNat ((rs.getD (wr ((rs.length : Int) - 1)).toNat (0, 0)).1, d))
     else none
    else
     bif room 16 (rs.length + 1) then K (rs ++ [(d, d)]) else none
   else none
 else
  bif room 16 (rs.length + 1) then K (rs ++ [(d, d)]) else none) = K (addR rs d) := by
 rw [room_true (b := 16) (n := rs.length + 1) (by omega) (by omega)]
 unfold addR
 by_cases h0 : rs.length = 0
 ·rw [wr_id (n := (rs.length : Int) - 1) (by omega) (by omega), decide_eq_false (by omega), if_pos h0]; rfl
 ·have e1 : wr ((rs.length : Int) - 1) = ((rs.length - 1 : Nat) : Int) := by rw [wr_id (by omega) (by omega)]; omega
  have e2 : inBounds ((rs.length - 1 : Nat) : Int) rs.length = true := by rw [inB_cast]; exact decide_eq_true (by omega)
  have hb := h _ (getD_mem (0, 0) (show rs.length - 1 < rs.length by omega))
  rw [e1, decide_eq_true (show ((rs.length - 1 : Nat) : Int) ≥ 0 by omega), if_neg h0, e2, Int.toNat_natCast, wr_id (n := d - 1) (by omega) (by omega)]
  by_cases hc : (rs.getD (rs.length - 1) (0, 0)).2 + 1 = d
  ·rw [if_pos hc, show ((rs.getD (rs.length - 1) (0, 0)).2 == d - 1) = true from beq_iff_eq.2 (by omega)]; rfl
  ·rw [if_neg hc, show ((rs.getD (rs.length - 1) (0, 0)).2 == d - 1) = false from beq_eq_false_iff_ne.2 (by omega)]; rfl
theorem full_test {l : List Tn} (hl : l.length ≤ 8) {d : Int} : ((wr ((maskOf l d : Int) + 1)) == (shlI .i64 1 (l.length : Int))) = fitL l d := by
 have h1 := mask_lt l d hl
 rw [wr_id (by omega) (by omega), shl_nat (by omega)]
 have h2 := mask_full l d
 cases hf : fitL l d with
 | true => have := h2.2 hf; rw [← this]; simp
 | false =>
   have : ¬ maskOf l d + 1 = 2 ^ l.length := fun e => by have := h2.1 e; rw [hf] at this; cases this
   generalize 2 ^ l.length = q at this
   simp only [beq_eq_false_iff_ne, ne_eq]
   omega
section
variable {l : List Tn} (hl : l.length ≤ 8) (hv : ∀ t ∈ l, tErr t = 0)
include hl hv
theorem mask_step {d : Int} (hd : 0 ≤ d ∧ d ≤ 1000000000) {k : Nat} (hk : k < l.length) : s122 (l.getD k (0, 0, 0), d) = some (fitAt l d k) ∧
 (fitAt l d k = true → orI .i64 ((mk (fitAt l d) k : Nat) : Int) (shlI .i64 1 (k : Int)) = ((mk (fitAt l d) (k + 1) : Nat) : Int)) ∧ (fitAt l d k = false → mk (fitAt l d) (k + 1) = mk (fitAt l d) k) := by
 refine ⟨fits_eq (hv _ (getD_mem ((0, 0, 0) : Tn) hk)) hd, fun h => ?_, fun h => ?_⟩
 ·have h1 := mk_lt (fitAt l d) k
  have h2 : 2 ^ k ≤ 2 ^ 8 := Nat.pow_le_pow_right (by omega) (by omega)
  rw [shl_nat (by omega), or_nat (by omega) (by omega), mk, if_pos h]
 ·rw [mk, h]; rfl
theorem mask_loop {d : Int} (hd : 0 ≤ d ∧ d ≤ 1000000000) (lim : Int × Int) (rs : List (Int × Int)) {oc : List Bool} (ho : oc.length = 256) :
 loopVal step87_2 (l, d, 0, l, (l.length : Int), 0, lim, (rs, oc)) = some (l, d, (maskOf l d : Int), lim, (rs, oc)) := by
 refine loop_for (step := step87_2) (st := fun k => (l, d, ((mk (fitAt l d) k : Nat) : Int), l, (l.length : Int), (k : Int), lim, (rs, oc))) (n := l.length) (fun k hk => ?_) ?_ 0 (by omega)
 ·obtain ⟨h1, h2, h3⟩ := mask_step hl hv hd hk
  have hp : padV 256 .bool oc = oc := padV_self ho
  cases hf : fitAt l d k with
  | true => simp only [step87_2, lt_cast, inB_cast, hk, decide_true, cond_true, Int.toNat_natCast, h1, hf, optE_some, decide_eq_true (show (0 : Int) ≤ (k : Int) by omega), h2 hf, hp, wr_succ (show k < 4611686018427387904 by omega)]
  | false => simp only [step87_2, lt_cast, inB_cast, hk, decide_true, cond_true, cond_false, Int.toNat_natCast, h1, hf, optE_some, h3 hf, hp, wr_succ (show k < 4611686018427387904 by omega)]
 ·simp only [step87_2, lt_cast, Nat.lt_irrefl, decide_false, cond_false, show padV 256 .bool oc = oc from padV_self ho]
  rfl
theorem mask_loopR {d : Int} (hd : 0 ≤ d ∧ d ≤ 1000000000) (lim : Int × Int) (rs : List (Int × Int)) {oc : List Bool} (ho : oc.length = 256) (z : Int × Int) :
 loopVal step87_2a (l, d, 0, l, (l.length : Int), 0, lim, (rs, oc), z) = some (l, d, (maskOf l d : Int), lim, (rs, oc), z) := by
 refine loop_for (step := step87_2a) (st := fun k => (l, d, ((mk (fitAt l d) k : Nat) : Int), l, (l.length : Int), (k : Int), lim, (rs, oc), z)) (n := l.length) (fun k hk => ?_) ?_ 0 (by omega)
 ·obtain ⟨h1, h2, h3⟩ := mask_step hl hv hd hk
  have hp : padV 256 .bool oc = oc := padV_self ho
  cases hf : fitAt l d k with
  | true => simp only [step87_2a, lt_cast, inB_cast, hk, decide_true, cond_true, Int.toNat_natCast, h1, hf, optE_some, decide_eq_true (show (0 : Int) ≤ (k : Int) by omega), h2 hf, hp, wr_succ (show k < 4611686018427387904 by omega)]
  | false => simp only [step87_2a, lt_cast, inB_cast, hk, decide_true, cond_true, cond_false, Int.toNat_natCast, h1, hf, optE_some, h3 hf, hp, wr_succ (show k < 4611686018427387904 by omega)]
 ·simp only [step87_2a, lt_cast, Nat.lt_irrefl, decide_false, cond_false, show padV 256 .bool oc = oc from padV_self ho]
  rfl
theorem sweep_loop (lo hi : Int) (h0 : 0 ≤ lo) (h1 : hi ≤ 1000000000) : ∀ (m : Nat) (d : Int) (rs : List (Int × Int)) (oc : List Bool), lo ≤ d → d + m = hi + 1 → rs.length + m ≤ 1000000 → (∀ r ∈ rs, 0 ≤ r.2 ∧ r.2 ≤ 1000000000) → oc.length = 256 →
 loopVal step87_0 (l, d, (lo, hi), (rs, oc)) = some (candF l m d rs, occF l m d oc)
 | 0, d, rs, oc, hd, hm, hr, hk, ho => by
   rw [loopVal_last (e := (rs, oc))]
   ·rfl
   ·simp only [step87_0, decide_eq_false (show ¬ d ≤ hi by omega), cond_false, show padV 256 .bool oc = oc from padV_self ho]
 | m + 1, d, rs, oc, hd, hm, hr, hk, ho => by
   have hdr : 0 ≤ d ∧ d ≤ 1000000000 := by omega
   have hmk := mask_lt l d hl
   have hs : step87_0 (l, d, (lo, hi), (rs, oc)) = some (.inl (l, d + 1, (lo, hi), (if fitL l d = true then addR rs d else rs, oc.set (maskOf l d) true))) := by
    have hb : (Nat.ble 1 (1 + ((maskOf l d : Nat) : Int).toNat * 1) && Nat.blt (1 + ((maskOf l d : Nat) : Int).toNat * 1) 257) = true := by
     rw [Int.toNat_natCast, Bool.and_eq_true]
     exact ⟨Nat.ble_eq_true_of_le (by omega), Nat.ble_eq_true_of_le (by omega)⟩
    have hp : padV 256 .bool oc = oc := padV_self ho
    simp only [step87_0, decide_eq_true (show d ≤ hi by omega), cond_true, hp, mask_loop hl hv hdr (lo, hi) rs ho, optE_some, show inBounds ((maskOf l d : Nat) : Int) 256 = true by rw [inB_cast]; exact decide_eq_true hmk, hb,
     decide_eq_true (show (0 : Int) ≤ (l.length : Int) by omega), full_test hl, wr_id (n := d + 1) (by omega) (by omega), putV_set ho hmk]
    cases hf : fitL l d with
    | false => simp only [cond_false, Bool.false_eq_true, if_false]
    | true =>
      simp only [cond_true, if_true]
      exact add_prog (d := d) (K := fun rs' => some (Sum.inl (l, d + 1, (lo, hi), (rs', oc.set (maskOf l d) true)))) (by omega) hk
   rw [loopVal_next hs, sweep_loop lo hi h0 h1 m (d + 1) _ _ (by omega) (by omega) (by have := add_len rs d; split <;> omega) (by split; exact add_ok hdr hk; exact hk) (by simp [ho])]
   rfl
theorem sweep_loopR (lo hi : Int) (z : Int × Int) (h0 : 0 ≤ lo) (h1 : hi ≤ 1000000000) : ∀ (m : Nat) (d : Int) (rs : List (Int × Int)) (oc : List Bool), lo ≤ d → d + m = hi + 1 → rs.length + m ≤ 1000000 → (∀ r ∈ rs, 0 ≤ r.2 ∧ r.2 ≤ 1000000000) → oc.length = 256 →
 loopVal step87_0a (l, d, (lo, hi), (rs, oc), z) = some ((candF l m d rs, occF l m d oc), z)
 | 0, d, rs, oc, hd, hm, hr, hk, ho => by
   rw [loopVal_last (e := ((rs, oc), z))]
   ·rfl
   ·simp only [step87_0a, decide_eq_false (show ¬ d ≤ hi by omega), cond_false, show padV 256 .bool oc = oc from padV_self ho]
 | m + 1, d, rs, oc, hd, hm, hr, hk, ho => by
   have hdr : 0 ≤ d ∧ d ≤ 1000000000 := by omega
   have hmk := mask_lt l d hl
   have hs : step87_0a (l, d, (lo, hi), (rs, oc), z) = some (.inl (l, d + 1, (lo, hi), (if fitL l d = true then addR rs d else rs, oc.set (maskOf l d) true), z)) := by
    have hb : (Nat.ble 1 (1 + ((maskOf l d : Nat) : Int).toNat * 1) && Nat.blt (1 + ((maskOf l d : Nat) : Int).toNat * 1) 257) = true := by
     rw [Int.toNat_natCast, Bool.and_eq_true]
     exact ⟨Nat.ble_eq_true_of_le (by omega), Nat.ble_eq_true_of_le (by omega)⟩
    have hp : padV 256 .bool oc = oc := padV_self ho
    simp only [step87_0a, decide_eq_true (show d ≤ hi by omega), cond_true, hp, mask_loopR hl hv hdr (lo, hi) rs ho, optE_some, show inBounds ((maskOf l d : Nat) : Int) 256 = true by rw [inB_cast]; exact decide_eq_true hmk, hb,
     decide_eq_true (show (0 : Int) ≤ (l.length : Int) by omega), full_test hl, wr_id (n := d + 1) (by omega) (by omega), putV_set ho hmk]
    cases hf : fitL l d with
    | false => simp only [cond_false, Bool.false_eq_true, if_false]
    | true =>
      simp only [cond_true, if_true]
      exact add_prog (d := d) (K := fun rs' => some (Sum.inl (l, d + 1, (lo, hi), (rs', oc.set (maskOf l d) true), z))) (by omega) hk
   rw [loopVal_next hs, sweep_loopR lo hi z h0 h1 m (d + 1) _ _ (by omega) (by omega) (by have := add_len rs d; split <;> omega) (by split; exact add_ok hdr hk; exact hk) (by simp [ho])]
   rfl
theorem cand_ref (lo hi : Int) (h0 : 0 ≤ lo) (h1 : hi ≤ 1000000000) : ∀ (m : Nat) (d : Int) (rs : List (Int × Int)), lo ≤ d → d + m = hi + 1 → rs.length + m ≤ 1000000 → (∀ r ∈ rs, 0 ≤ r.2 ∧ r.2 ≤ 1000000000) →
 loopVal step40_0 (l, rs, d, (lo, hi)) = some (candF l m d rs)
 | 0, d, rs, hd, hm, hr, hk => by
   rw [loopVal_last (e := rs)]
   ·rfl
   ·simp only [step40_0, decide_eq_false (show ¬ d ≤ hi by omega), cond_false]
 | m + 1, d, rs, hd, hm, hr, hk => by
   have hdr : 0 ≤ d ∧ d ≤ 1000000000 := by omega
   have hs : step40_0 (l, rs, d, (lo, hi)) = some (.inl (l, if fitL l d = true then addR rs d else rs, d + 1, (lo, hi))) := by
    simp only [step40_0, decide_eq_true (show d ≤ hi by omega), cond_true, fits_ref (show l.length ≤ 1000 by omega) hv (d := d) (by omega), optE_some, wr_id (n := d + 1) (by omega) (by omega)]
    cases hf : fitL l d with
    | false => simp only [Bool.not_false, cond_true, Bool.false_eq_true, if_false]
    | true =>
      simp only [Bool.not_true, cond_false, if_true]
      exact add_ref (d := d) (K := fun rs' => some (Sum.inl (l, rs', d + 1, (lo, hi)))) hdr (by omega) hk
   rw [loopVal_next hs, cand_ref lo hi h0 h1 m (d + 1) _ (by omega) (by omega) (by have := add_len rs d; split <;> omega) (by split; exact add_ok hdr hk; exact hk)]
   rfl
end
end Go.Proofs.YtfmfiflpokogiaaDoor
