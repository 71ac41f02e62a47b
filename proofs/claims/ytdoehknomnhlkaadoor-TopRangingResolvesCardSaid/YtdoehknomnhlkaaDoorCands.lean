/- The candidates of tones: what the sweep gives, and the reference. -/
import Derived.Test.YtdoehknomnhlkaaDoorGc4
import Derived.Test.YtdoehknomnhlkaaDoorToneBase
set_option linter.unusedSimpArgs false
namespace Go.Proofs.YtdoehknomnhlkaaDoor
open Go.Ev
abbrev Tn := Int × Int × Int
def fitB (t : Tn) (d : Int) : Bool := decide ((d - t.2.1) % t.1 ≤ t.2.2 - t.2.1)
def fitAt (l : List Tn) (d : Int) (i : Nat) : Bool := fitB (l.getD i (0, 0, 0)) d
def fitL (l : List Tn) (d : Int) : Bool := l.all fun t => fitB t d
theorem fits_eq {t : Tn} (ht : tErr t = 0) {d : Int} (hd : 0 ≤ d ∧ d ≤ 1000000000) : s43 (t, d) = some (fitB t d) := by
 obtain ⟨h1, h2, h3, h4⟩ := tErr_ok ht
 unfold s43 fitB
 dsimp only
 rw [show (t.1 == 0) = false by simp; omega]
 simp only [Bool.not_false, cond_true]
 rw [wr_id (n := d - t.2.1) (by omega) (by omega), wr_id (n := d - t.2.1 + t.1) (by omega) (by omega), wr_id (n := t.2.2 - t.2.1) (by omega) (by omega)]
 rw [Int.tmod_eq_emod_of_nonneg (by omega), Int.add_emod_right]
theorem fitL_iff {l : List Tn} {d : Int} : fitL l d = true ↔ ∀ i, i < l.length → fitAt l d i = true := by
 unfold fitL fitAt
 rw [List.all_eq_true]
 constructor
 ·intro h i hi; exact h _ (getD_mem ((0, 0, 0) : Tn) hi)
 ·intro h t ht
  obtain ⟨i, hi, e⟩ := List.getElem_of_mem ht
  have := h i hi
  rwa [List.getD_eq_getElem?_getD, List.getElem?_eq_getElem hi, Option.getD_some, e] at this
def maskOf (l : List Tn) (d : Int) : Nat := mk (fitAt l d) l.length
theorem mask_lt (l : List Tn) (d : Int) (hl : l.length ≤ 8) : maskOf l d < 256 := by
 have h1 := mk_lt (fitAt l d) l.length
 have h2 : 2 ^ l.length ≤ 2 ^ 8 := Nat.pow_le_pow_right (by omega) hl
 unfold maskOf
 omega
theorem mask_full (l : List Tn) (d : Int) : maskOf l d + 1 = 2 ^ l.length ↔ fitL l d = true := by
 rw [fitL_iff]; exact mk_full _ _
def addR (rs : List (Int × Int)) (d : Int) : List (Int × Int) :=
 if rs.length = 0 then rs ++ [(d, d)]
 else if (rs.getD (rs.length - 1) (0, 0)).2 + 1 = d then rs.set (rs.length - 1) ((rs.getD (rs.length - 1) (0, 0)).1, d) else rs ++ [(d, d)]
def candF (l : List Tn) : Nat → Int → List (Int × Int) → List (Int × Int)
 | 0, _, rs => rs
 | m + 1, d, rs => candF l m (d + 1) (if fitL l d = true then addR rs d else rs)
def occF (l : List Tn) : Nat → Int → List Bool → List Bool
 | 0, _, oc => oc
 | m + 1, d, oc => occF l m (d + 1) (oc.set (maskOf l d) true)
theorem putV_eq : ∀ (n base m : Nat) (xs : List Bool), xs.length = n → putV n base (base + m) true xs = xs.set m true
 | 0, base, m, xs, h => by rw [List.eq_nil_of_length_eq_zero h]; rfl
 | n + 1, base, m, [], h => by simp at h
 | n + 1, base, 0, x :: xs, h => by
   rw [putV, List.set_cons_zero, List.tail_cons, show Nat.beq base (base + 0) = true from Nat.beq_refl base]
   have key : ∀ (n b o : Nat) (ys : List Bool), ys.length = n → o < b → putV n b o true ys = ys := by
    intro n
    induction n with
    | zero => intro b o ys hy _; rw [List.eq_nil_of_length_eq_zero hy]; rfl
    | succ n ih =>
      intro b o ys hy ho
      cases ys with
      | nil => simp at hy
      | cons y ys =>
        have hb : Nat.beq b o = false := by
         cases hq : Nat.beq b o with
         | false => rfl
         | true => have := Nat.eq_of_beq_eq_true hq; omega
        rw [putV, hb, cond_false, List.headD_cons, List.tail_cons, ih (b + 1) o ys (by simpa using hy) (by omega)]
   rw [key n (base + 1) (base + 0) xs (by simpa using h) (by omega)]
   rfl
 | n + 1, base, m + 1, x :: xs, h => by
   have hb : Nat.beq base (base + (m + 1)) = false := by
    cases hq : Nat.beq base (base + (m + 1)) with
    | false => rfl
    | true => have := Nat.eq_of_beq_eq_true hq; omega
   rw [putV, hb, cond_false, List.headD_cons, List.tail_cons, List.set_cons_succ, show base + (m + 1) = (base + 1) + m by omega, putV_eq n (base + 1) m xs (by simpa using h)]
theorem putV_set {oc : List Bool} (h : oc.length = 256) {m : Nat} (_ : m < 256) : putV 256 1 (1 + ((m : Nat) : Int).toNat * 1) true oc = oc.set m true := by
 rw [Int.toNat_natCast, Nat.mul_one]
 exact putV_eq 256 1 m oc h
theorem add_len (rs : List (Int × Int)) (d : Int) : (addR rs d).length ≤ rs.length + 1 := by
 unfold addR
 split
 ·simp
 ·split <;> simp
theorem add_ok {rs : List (Int × Int)} {d : Int} (hd : 0 ≤ d ∧ d ≤ 1000000000) (h : ∀ r ∈ rs, 0 ≤ r.2 ∧ r.2 ≤ 1000000000) : ∀ r ∈ addR rs d, 0 ≤ r.2 ∧ r.2 ≤ 1000000000 := by
 intro r hr
 unfold addR at hr
 split at hr
 ·rcases List.mem_append.1 hr with hr | hr
  ·exact h r hr
  ·rw [List.mem_singleton.1 hr]; exact hd
 ·split at hr
  ·rcases List.mem_or_eq_of_mem_set hr with hr | hr
   ·exact h r hr
   ·rw [hr]; exact hd
  ·rcases List.mem_append.1 hr with hr | hr
   ·exact h r hr
   ·rw [List.mem_singleton.1 hr]; exact hd
theorem add_prog {rs : List (Int × Int)} {d : Int} (hl : rs.length ≤ 1000000) (h : ∀ r ∈ rs, 0 ≤ r.2 ∧ r.2 ≤ 1000000000) {β : Type} (K : List (Int × Int) → Option β) :
 (bif decide ((rs.length : Int) > 0) then
   bif inBounds (wr ((rs.length : Int) - 1)) rs.length then
    bif (wr ((rs.getD (wr ((rs.length : Int) - 1)).toNat (0, 0)).2 + 1)) == d then
     bif inBounds (wr ((rs.length : Int) - 1)) rs.length then
      K (rs.set (wr ((rs.length : Int) - 1)).toNat ((rs.getD (wr ((rs.length : Int) - 1)).toNat (0, 0)).1, d))
     else none
    else
     bif room 16 (rs.length + 1) then K (rs ++ [(d, d)]) else none
   else none
 else
  bif room 16 (rs.length + 1) then K (rs ++ [(d, d)]) else none) = K (addR rs d) := by
 rw [room_true (b := 16) (n := rs.length + 1) (by omega) (by omega)]
 unfold addR
 by_cases h0 : rs.length = 0
 ·rw [decide_eq_false (by omega), if_pos h0]; rfl
 ·have e1 : wr ((rs.length : Int) - 1) = ((rs.length - 1 : Nat) : Int) := by rw [wr_id (by omega) (by omega)]; omega
  have e2 : inBounds ((rs.length - 1 : Nat) : Int) rs.length = true := by rw [inB_cast]; exact decide_eq_true (by omega)
  have hb := h _ (getD_mem (0, 0) (show rs.length - 1 < rs.length by omega))
  rw [decide_eq_true (show (rs.length : Int) > 0 by omega), if_neg h0, e1, e2, Int.toNat_natCast, wr_id (n := (rs.getD (rs.length - 1) (0, 0)).2 + 1) (by omega) (by omega)]
  by_cases hc : (rs.getD (rs.length - 1) (0, 0)).2 + 1 = d
  ·rw [if_pos hc, show ((rs.getD (rs.length - 1) (0, 0)).2 + 1 == d) = true by simpa using hc]; rfl
  ·rw [if_neg hc, show ((rs.getD (rs.length - 1) (0, 0)).2 + 1 == d) = false by simpa using hc]; rfl
theorem full_test {l : List Tn} (hl : l.length ≤ 8) {d : Int} : ((wr ((maskOf l d : Int) + 1)) == (shlI .i64 1 (l.length : Int))) = fitL l d := by
 have h1 := mask_lt l d hl
 rw [wr_id (by omega) (by omega), shl_nat (by omega)]
 have h2 := mask_full l d
 cases hf : fitL l d with
 | true => have := h2.2 hf; rw [← this]; simp
 | false =>
   have : ¬ maskOf l d + 1 = 2 ^ l.length := fun e => by have := h2.1 e; rw [hf] at this; cases this
   generalize 2 ^ l.length = q at this
   simp only [beq_eq_false_iff_ne, ne_eq]
   omega
section
variable {l : List Tn} (hl : l.length ≤ 8) (hv : ∀ t ∈ l, tErr t = 0)
include hl hv
theorem mask_step {d : Int} (hd : 0 ≤ d ∧ d ≤ 1000000000) {k : Nat} (hk : k < l.length) : s43 (l.getD k (0, 0, 0), d) = some (fitAt l d k) ∧
 (fitAt l d k = true → orI .i64 ((mk (fitAt l d) k : Nat) : Int) (shlI .i64 1 (k : Int)) = ((mk (fitAt l d) (k + 1) : Nat) : Int)) ∧ (fitAt l d k = false → mk (fitAt l d) (k + 1) = mk (fitAt l d) k) := by
 refine ⟨fits_eq (hv _ (getD_mem ((0, 0, 0) : Tn) hk)) hd, fun h => ?_, fun h => ?_⟩
 ·have h1 := mk_lt (fitAt l d) k
  have h2 : 2 ^ k ≤ 2 ^ 8 := Nat.pow_le_pow_right (by omega) (by omega)
  rw [shl_nat (by omega), or_nat (by omega) (by omega), mk, if_pos h]
 ·rw [mk, h]; rfl
theorem mask_loop {d : Int} (hd : 0 ≤ d ∧ d ≤ 1000000000) (lim : Int × Int) (rs : List (Int × Int)) {oc : List Bool} (ho : oc.length = 256) :
 loopVal step26_2 (l, d, 0, l, (l.length : Int), 0, lim, (rs, oc)) = some (l, d, (maskOf l d : Int), lim, (rs, oc)) := by
 refine loop_for (step := step26_2) (st := fun k => (l, d, ((mk (fitAt l d) k : Nat) : Int), l, (l.length : Int), (k : Int), lim, (rs, oc))) (n := l.length) (fun k hk => ?_) ?_ 0 (by omega)
 ·obtain ⟨h1, h2, h3⟩ := mask_step hl hv hd hk
  have hp : padV 256 .bool oc = oc := padV_self ho
  cases hf : fitAt l d k with
  | true => simp only [step26_2, lt_cast, inB_cast, hk, decide_true, cond_true, Int.toNat_natCast, h1, hf, optE_some, decide_eq_true (show (0 : Int) ≤ (k : Int) by omega), h2 hf, hp, wr_succ (show k < 4611686018427387904 by omega)]
  | false => simp only [step26_2, lt_cast, inB_cast, hk, decide_true, cond_true, cond_false, Int.toNat_natCast, h1, hf, optE_some, h3 hf, hp, wr_succ (show k < 4611686018427387904 by omega)]
 ·simp only [step26_2, lt_cast, Nat.lt_irrefl, decide_false, cond_false, show padV 256 .bool oc = oc from padV_self ho]
  rfl
theorem mask_loopR {d : Int} (hd : 0 ≤ d ∧ d ≤ 1000000000) (lim : Int × Int) (rs : List (Int × Int)) {oc : List Bool} (ho : oc.length = 256) (z : Int × Int) :
 loopVal step26_2a (l, d, 0, l, (l.length : Int), 0, lim, (rs, oc), z) = some (l, d, (maskOf l d : Int), lim, (rs, oc), z) := by
 refine loop_for (step := step26_2a) (st := fun k => (l, d, ((mk (fitAt l d) k : Nat) : Int), l, (l.length : Int), (k : Int), lim, (rs, oc), z)) (n := l.length) (fun k hk => ?_) ?_ 0 (by omega)
 ·obtain ⟨h1, h2, h3⟩ := mask_step hl hv hd hk
  have hp : padV 256 .bool oc = oc := padV_self ho
  cases hf : fitAt l d k with
  | true => simp only [step26_2a, lt_cast, inB_cast, hk, decide_true, cond_true, Int.toNat_natCast, h1, hf, optE_some, decide_eq_true (show (0 : Int) ≤ (k : Int) by omega), h2 hf, hp, wr_succ (show k < 4611686018427387904 by omega)]
  | false => simp only [step26_2a, lt_cast, inB_cast, hk, decide_true, cond_true, cond_false, Int.toNat_natCast, h1, hf, optE_some, h3 hf, hp, wr_succ (show k < 4611686018427387904 by omega)]
 ·simp only [step26_2a, lt_cast, Nat.lt_irrefl, decide_false, cond_false, show padV 256 .bool oc = oc from padV_self ho]
  rfl
theorem sweep_loop (lo hi : Int) (h0 : 0 ≤ lo) (h1 : hi ≤ 1000000000) : ∀ (m : Nat) (d : Int) (rs : List (Int × Int)) (oc : List Bool), lo ≤ d → d + m = hi + 1 → rs.length + m ≤ 1000000 → (∀ r ∈ rs, 0 ≤ r.2 ∧ r.2 ≤ 1000000000) → oc.length = 256 →
 loopVal step26_0 (l, d, (lo, hi), (rs, oc)) = some (candF l m d rs, occF l m d oc)
 | 0, d, rs, oc, hd, hm, hr, hk, ho => by
   rw [loopVal_last (e := (rs, oc))]
   ·rfl
   ·simp only [step26_0, decide_eq_false (show ¬ d ≤ hi by omega), cond_false, show padV 256 .bool oc = oc from padV_self ho]
 | m + 1, d, rs, oc, hd, hm, hr, hk, ho => by
   have hdr : 0 ≤ d ∧ d ≤ 1000000000 := by omega
   have hmk := mask_lt l d hl
   have hs : step26_0 (l, d, (lo, hi), (rs, oc)) = some (.inl (l, d + 1, (lo, hi), (if fitL l d = true then addR rs d else rs, oc.set (maskOf l d) true))) := by
    have hb : (Nat.ble 1 (1 + ((maskOf l d : Nat) : Int).toNat * 1) && Nat.blt (1 + ((maskOf l d : Nat) : Int).toNat * 1) 257) = true := by
     rw [Int.toNat_natCast, Bool.and_eq_true]
     exact ⟨Nat.ble_eq_true_of_le (by omega), Nat.ble_eq_true_of_le (by omega)⟩
    have hp : padV 256 .bool oc = oc := padV_self ho
    simp only [step26_0, decide_eq_true (show d ≤ hi by omega), cond_true, hp, mask_loop hl hv hdr (lo, hi) rs ho, optE_some, show inBounds ((maskOf l d : Nat) : Int) 256 = true by rw [inB_cast]; exact decide_eq_true hmk, hb,
     decide_eq_true (show (0 : Int) ≤ (l.length : Int) by omega), full_test hl, wr_id (n := d + 1) (by omega) (by omega), putV_set ho hmk]
    cases hf : fitL l d with
    | false => simp only [cond_false, Bool.false_eq_true, if_false]
    | true =>
      simp only [cond_true, if_true]
      exact add_prog (d := d) (K := fun rs' => some (Sum.inl (l, d + 1, (lo, hi), (rs', oc.set (maskOf l d) true)))) (by omega) hk
   rw [loopVal_next hs, sweep_loop lo hi h0 h1 m (d + 1) _ _ (by omega) (by omega) (by have := add_len rs d; split <;> omega) (by split; exact add_ok hdr hk; exact hk) (by simp [ho])]
   rfl
theorem sweep_loopR (lo hi : Int) (z : Int × Int) (h0 : 0 ≤ lo) (h1 : hi ≤ 1000000000) : ∀ (m : Nat) (d : Int) (rs : List (Int × Int)) (oc : List Bool), lo ≤ d → d + m = hi + 1 → rs.length + m ≤ 1000000 → (∀ r ∈ rs, 0 ≤ r.2 ∧ r.2 ≤ 1000000000) → oc.length = 256 →
 loopVal step26_0a (l, d, (lo, hi), (rs, oc), z) = some ((candF l m d rs, occF l m d oc), z)
 | 0, d, rs, oc, hd, hm, hr, hk, ho => by
   rw [loopVal_last (e := ((rs, oc), z))]
   ·rfl
   ·simp only [step26_0a, decide_eq_false (show ¬ d ≤ hi by omega), cond_false, show padV 256 .bool oc = oc from padV_self ho]
 | m + 1, d, rs, oc, hd, hm, hr, hk, ho => by
   have hdr : 0 ≤ d ∧ d ≤ 1000000000 := by omega
   have hmk := mask_lt l d hl
   have hs : step26_0a (l, d, (lo, hi), (rs, oc), z) = some (.inl (l, d + 1, (lo, hi), (if fitL l d = true then addR rs d else rs, oc.set (maskOf l d) true), z)) := by
    have hb : (Nat.ble 1 (1 + ((maskOf l d : Nat) : Int).toNat * 1) && Nat.blt (1 + ((maskOf l d : Nat) : Int).toNat * 1) 257) = true := by
     rw [Int.toNat_natCast, Bool.and_eq_true]
     exact ⟨Nat.ble_eq_true_of_le (by omega), Nat.ble_eq_true_of_le (by omega)⟩
    have hp : padV 256 .bool oc = oc := padV_self ho
    simp only [step26_0a, decide_eq_true (show d ≤ hi by omega), cond_true, hp, mask_loopR hl hv hdr (lo, hi) rs ho, optE_some, show inBounds ((maskOf l d : Nat) : Int) 256 = true by rw [inB_cast]; exact decide_eq_true hmk, hb,
     decide_eq_true (show (0 : Int) ≤ (l.length : Int) by omega), full_test hl, wr_id (n := d + 1) (by omega) (by omega), putV_set ho hmk]
    cases hf : fitL l d with
    | false => simp only [cond_false, Bool.false_eq_true, if_false]
    | true =>
      simp only [cond_true, if_true]
      exact add_prog (d := d) (K := fun rs' => some (Sum.inl (l, d + 1, (lo, hi), (rs', oc.set (maskOf l d) true), z))) (by omega) hk
   rw [loopVal_next hs, sweep_loopR lo hi z h0 h1 m (d + 1) _ _ (by omega) (by omega) (by have := add_len rs d; split <;> omega) (by split; exact add_ok hdr hk; exact hk) (by simp [ho])]
   rfl
theorem mask_loopB {d : Int} (hd : 0 ≤ d ∧ d ≤ 1000000000) (l' : List Tn) (lim : Int × Int) (rs : List (Int × Int)) {oc : List Bool} (ho : oc.length = 256) (z : List Int) (z' : Int) :
 loopVal step26_2b (l, d, 0, l, (l.length : Int), 0, l', lim, (rs, oc), z, z') = some (l, d, (maskOf l d : Int), l', lim, (rs, oc), z, z') := by
 refine loop_for (step := step26_2b) (st := fun k => (l, d, ((mk (fitAt l d) k : Nat) : Int), l, (l.length : Int), (k : Int), l', lim, (rs, oc), z, z')) (n := l.length) (fun k hk => ?_) ?_ 0 (by omega)
 ·obtain ⟨h1, h2, h3⟩ := mask_step hl hv hd hk
  have hp : padV 256 .bool oc = oc := padV_self ho
  cases hf : fitAt l d k with
  | true => simp only [step26_2b, lt_cast, inB_cast, hk, decide_true, cond_true, Int.toNat_natCast, h1, hf, optE_some, decide_eq_true (show (0 : Int) ≤ (k : Int) by omega), h2 hf, hp, wr_succ (show k < 4611686018427387904 by omega)]
  | false => simp only [step26_2b, lt_cast, inB_cast, hk, decide_true, cond_true, cond_false, Int.toNat_natCast, h1, hf, optE_some, h3 hf, hp, wr_succ (show k < 4611686018427387904 by omega)]
 ·simp only [step26_2b, lt_cast, Nat.lt_irrefl, decide_false, cond_false, show padV 256 .bool oc = oc from padV_self ho]
  rfl
theorem sweep_loopB (l' : List Tn) (lo hi : Int) (z : List Int) (z' : Int) (h0 : 0 ≤ lo) (h1 : hi ≤ 1000000000) : ∀ (m : Nat) (d : Int) (rs : List (Int × Int)) (oc : List Bool), lo ≤ d → d + m = hi + 1 → rs.length + m ≤ 1000000 → (∀ r ∈ rs, 0 ≤ r.2 ∧ r.2 ≤ 1000000000) → oc.length = 256 →
 loopVal step26_0b (l, d, l', (lo, hi), (rs, oc), z, z') = some (l', (candF l m d rs, occF l m d oc), z, z')
 | 0, d, rs, oc, hd, hm, hr, hk, ho => by
   rw [loopVal_last (e := (l', (rs, oc), z, z'))]
   ·rfl
   ·simp only [step26_0b, decide_eq_false (show ¬ d ≤ hi by omega), cond_false, show padV 256 .bool oc = oc from padV_self ho]
 | m + 1, d, rs, oc, hd, hm, hr, hk, ho => by
   have hdr : 0 ≤ d ∧ d ≤ 1000000000 := by omega
   have hmk := mask_lt l d hl
   have hs : step26_0b (l, d, l', (lo, hi), (rs, oc), z, z') = some (.inl (l, d + 1, l', (lo, hi), (if fitL l d = true then addR rs d else rs, oc.set (maskOf l d) true), z, z')) := by
    have hb : (Nat.ble 1 (1 + ((maskOf l d : Nat) : Int).toNat * 1) && Nat.blt (1 + ((maskOf l d : Nat) : Int).toNat * 1) 257) = true := by
     rw [Int.toNat_natCast, Bool.and_eq_true]
     exact ⟨Nat.ble_eq_true_of_le (by omega), Nat.ble_eq_true_of_le (by omega)⟩
    have hp : padV 256 .bool oc = oc := padV_self ho
    simp only [step26_0b, decide_eq_true (show d ≤ hi by omega), cond_true, hp, mask_loopB hl hv hdr l' (lo, hi) rs ho z z', optE_some, show inBounds ((maskOf l d : Nat) : Int) 256 = true by rw [inB_cast]; exact decide_eq_true hmk, hb,
     decide_eq_true (show (0 : Int) ≤ (l.length : Int) by omega), full_test hl, wr_id (n := d + 1) (by omega) (by omega), putV_set ho hmk]
    cases hf : fitL l d with
    | false => simp only [cond_false, Bool.false_eq_true, if_false]
    | true =>
      simp only [cond_true, if_true]
      exact add_prog (d := d) (K := fun rs' => some (Sum.inl (l, d + 1, l', (lo, hi), (rs', oc.set (maskOf l d) true), z, z'))) (by omega) hk
   rw [loopVal_next hs, sweep_loopB l' lo hi z z' h0 h1 m (d + 1) _ _ (by omega) (by omega) (by have := add_len rs d; split <;> omega) (by split; exact add_ok hdr hk; exact hk) (by simp [ho])]
   rfl
end
end Go.Proofs.YtdoehknomnhlkaaDoor
