import Derived.Test.YthckjfbhdjjnkaaDoorGd11
import Derived.Test.YthckjfbhdjjnkaaDoorValuesLaw
import Derived.Test.YthckjfbhdjjnkaaDoorSeqMath
set_option linter.unusedSimpArgs false
namespace Go.Proofs.YthckjfbhdjjnkaaDoor
open Go.Ev
def rM (r : Int × Int × Int) : Int := ((2 ^ r.1.toNat - 1 : Nat) : Int)
def rE (r : Int × Int × Int) : Int := bif win r.1 1 8 && (win r.2.1 1 (rM r) && win r.2.2 1 (rM r)) then (bif r.2.1 % 2 == 0 then 3 else 0) else 2
theorem rE_ok {r : Int × Int × Int} (h : rE r = 0) : ∃ d t s : Nat, r = ((d : Int), (t : Int), (s : Int)) ∧ 1 ≤ d ∧ d ≤ 8 ∧ t < 2 ^ d ∧ t % 2 = 1 ∧ 1 ≤ s ∧ s < 2 ^ d := by
 obtain ⟨d, t, s⟩ := r
 unfold rE rM at h
 dsimp only at h
 cases h1 : win d 1 8 with
 | false => rw [h1] at h; simp at h
 | true =>
 cases h2 : win t 1 ((2 ^ d.toNat - 1 : Nat) : Int) with
 | false => rw [h1, h2] at h; simp at h
 | true =>
 cases h3 : win s 1 ((2 ^ d.toNat - 1 : Nat) : Int) with
 | false => rw [h1, h2, h3] at h; simp at h
 | true =>
 rw [h1, h2, h3] at h
 have a1 := win_iff.1 h1
 have a2 := win_iff.1 h2
 have a3 := win_iff.1 h3
 cases h4 : t % 2 == 0 with
 | true => rw [h4] at h; simp at h
 | false =>
 have h4 : ¬ t % 2 = 0 := by simpa using h4
 have hp := Nat.two_pow_pos d.toNat
 refine ⟨d.toNat, t.toNat, s.toNat, ?_, by omega, by omega, by omega, by omega, by omega, by omega⟩
 rw [Int.toNat_of_nonneg (by omega), Int.toNat_of_nonneg (by omega), Int.toNat_of_nonneg (by omega)]
theorem s52_eq (r : Int × Int × Int) : s52 r = some (rE r) := by
 unfold s52 rE
 simp only [s28_eq, optE_some]
 cases h1 : win r.1 1 8 with
 | false => rfl
 | true =>
 have a1 := win_iff.1 h1
 rw [shl_pow a1.1 a1.2, decide_eq_true (show 0 ≤ r.1 by omega)]
 show _ = some (bif win r.2.1 1 (rM r) && win r.2.2 1 (rM r) then _ else _)
 simp only [Bool.not_true, cond_false, cond_true]
 show (bif !(win r.2.1 1 (rM r)) then some 2 else bif !(win r.2.2 1 (rM r)) then some 2 else _) = _
 cases h2 : win r.2.1 1 (rM r) with
 | false => rfl
 | true =>
 cases h3 : win r.2.2 1 (rM r) with
 | false => rfl
 | true =>
 have a2 := win_iff.1 h2
 rw [Int.tmod_eq_emod_of_nonneg (show 0 ≤ r.2.1 by omega)]
 cases r.2.1 % 2 == 0 <;> rfl
theorem s102_eq (r : Int × Int × Int) : s102 r = some ((r, r.2.2), rE r) := by
 unfold s102 rE
 simp only [s79_eq, s82_eq, optE_some]
 cases h1 : win r.1 1 8 with
 | false => rfl
 | true =>
 have a1 := win_iff.1 h1
 rw [shl_pow a1.1 a1.2, decide_eq_true (show 0 ≤ r.1 by omega)]
 simp only [Bool.not_true, cond_false, cond_true, Bool.true_and]
 change (bif win r.2.1 1 (rM r) then optE (s80 [unl (win r.2.2 1 (rM r)) 2, _]) _ _ else _) = _
 rw [s80_eq _ (by simp), s80_eq _ (by simp)]
 cases h2 : win r.2.1 1 (rM r) with
 | false => rfl
 | true =>
 cases h3 : win r.2.2 1 (rM r) with
 | false => rfl
 | true =>
 have a2 := win_iff.1 h2
 have hp := pow_le (d := r.1.toNat) (by omega)
 have hM : rM r < 256 := by unfold rM; have := Nat.two_pow_pos r.1.toNat; omega
 have e : andI .i64 r.2.1 1 = r.2.1 % 2 := by
  have := low_bit (x := r.2.1.toNat) (by omega)
  rw [Int.toNat_of_nonneg (by omega)] at this
  rw [this]; omega
 rw [e]
 simp only [optE_some]
 by_cases h4 : r.2.1 % 2 = 0
 ·rw [h4]; rfl
 ·have h5 : r.2.1 % 2 = 1 := by omega
  rw [h5]; rfl
section
variable {d t s : Nat}
theorem ones_small : ∀ n : Nat, n < 256 → s127 (n : Int) = some (pc 8 n : Int) := by decide +kernel
theorem ones_eq {x t : Nat} (hx : x < 256) (ht : t < 256) : s127 (IntKind.u64.wrap (andI .i64 (x : Int) (t : Int))) = some (pc 8 (x &&& t) : Int) := by
 rw [andI_nat (by omega) (by omega), u64_nat (and_lt hx), ones_small _ (and_lt hx)]
def seqL (d t s n : Nat) : List Int := (List.range n).map fun k => ((itr d t s k % 2 : Nat) : Int)
theorem seqL_len (d t s n : Nat) : (seqL d t s n).length = n := by simp [seqL]
theorem seqL_at (d t s : Nat) {n k : Nat} (h : k < n) : (seqL d t s n).getD k 0 = ((itr d t s k % 2 : Nat) : Int) := by
 simp [seqL, List.getD_eq_getElem?_getD, List.getElem?_map, List.getElem?_range h]
theorem s49_bad (r : Int × Int × Int) (c : Int) (h : firstE [rE r, unl (win c 0 600) 2] ≠ 0) : s49 (r, c) = some ([], firstE [rE r, unl (win c 0 600) 2]) := by
 unfold s49
 simp only [s102_eq, s79_eq, s82_eq, optE_some]
 rw [s80_eq _ (by simp), optE_some, bne_iff_ne.2 h]
 rfl
theorem s49_eq {c : Int} {n : Nat} (hr : rE ((d : Int), (t : Int), (s : Int)) = 0) (hc : c = (n : Int)) (hn : n ≤ 600) (h1 : 1 ≤ d) (h8 : d ≤ 8) (ht : t < 2 ^ d) (hs : s < 2 ^ d) : s49 (((d : Int), (t : Int), (s : Int)), c) = some (seqL d t s n, 0) := by
 subst hc
 unfold s49
 have hp := pow_le h8
 simp only [s102_eq, s79_eq, s82_eq, optE_some, hr, win_iff.2 (show (0 : Int) ≤ (n : Int) ∧ (n : Int) ≤ 600 by omega)]
 rw [s80_eq _ (by simp)]
 have hl := loop_for (step := step49_0) (st := fun k => (seqL d t s k, (n : Int), (k : Int), (((d : Int), (t : Int), (s : Int)), (itr d t s k : Int)))) (n := n) (e := seqL d t s n)
  (fun k hk => by
    have hi := itr_lt t h1 hs k
    simp only [step49_0, lt_cast, hk, decide_true, cond_true, wr_succ (show k < 4611686018427387904 by omega)]
    rw [ones_eq (by omega) (by omega), wr_id (n := (d : Int) - 1) (by omega) (by omega), decide_eq_true (show (0 : Int) ≤ (d : Int) - 1 by omega), room_true (by rw [seqL_len]; omega) (by rw [seqL_len]; omega), optE_some, ← wr_id (n := (d : Int) - 1) (by omega) (by omega), fed_eq h1 h8 hi, low_bit (by omega)]
    simp only [cond_true]
    have := range_map_succ (fun k => ((itr d t s k % 2 : Nat) : Int)) k
    unfold seqL
    rw [this]
    rfl)
  (by simp only [step49_0, lt_cast, Nat.lt_irrefl, decide_false, cond_false]) 0 (by omega)
 have hl : loopVal step49_0 ([], (n : Int), 0, (((d : Int), (t : Int), (s : Int)), (s : Int))) = some (seqL d t s n) := hl
 simp only [optE_some, hl]
 rfl
theorem s50_bad {r : Int × Int × Int} (h : rE r ≠ 0) : s50 r = some (0, rE r) := by
 unfold s50
 simp only [s102_eq, optE_some]
 rw [bne_iff_ne.2 h]
 rfl
theorem ne_int {a b : Nat} : ((a : Int) != (b : Int)) = decide (a ≠ b) := ne_cast a b
theorem s50_eq {p : Nat} (hr : rE ((d : Int), (t : Int), (s : Int)) = 0) (h1 : 1 ≤ d) (h8 : d ≤ 8) (ht : t < 2 ^ d) (hs : s < 2 ^ d) (p1 : 1 ≤ p) (p2 : p ≤ 2 ^ d - 1) (p3 : itr d t s p = s) (p4 : ∀ k, 1 ≤ k → k < p → itr d t s k ≠ s) : s50 ((d : Int), (t : Int), (s : Int)) = some ((p : Int), 0) := by
 unfold s50
 have hp := pow_le h8
 simp only [s102_eq, optE_some, hr]
 have hl := loop_for (step := step50_0) (st := fun k => (((1 + k : Nat) : Int), ((d : Int), (t : Int), (s : Int)), (((d : Int), (t : Int), (s : Int)), (itr d t s (1 + k) : Int)))) (n := p - 1) (e := (p : Int))
  (fun k hk => by
    have hi := itr_lt t h1 hs (1 + k)
    simp only [step50_0, ne_int]
    rw [decide_eq_true (p4 (1 + k) (by omega) (by omega)), ones_eq (by omega) (by omega), wr_id (n := (d : Int) - 1) (by omega) (by omega), decide_eq_true (show (0 : Int) ≤ (d : Int) - 1 by omega), optE_some, ← wr_id (n := (d : Int) - 1) (by omega) (by omega), fed_eq h1 h8 hi, wr_succ (by omega)]
    rfl)
  (by
    simp only [step50_0, ne_int]
    rw [show 1 + (p - 1) = p by omega, p3, decide_eq_false (fun h => h rfl)]
    rfl) 0 (by omega)
 have hl : loopVal step50_0 (1, ((d : Int), (t : Int), (s : Int)), (((d : Int), (t : Int), (s : Int)), (stp d t s : Int))) = some (p : Int) := hl
 rw [ones_eq (by omega) (by omega), wr_id (n := (d : Int) - 1) (by omega) (by omega), decide_eq_true (show (0 : Int) ≤ (d : Int) - 1 by omega), optE_some, ← wr_id (n := (d : Int) - 1) (by omega) (by omega), fed_eq h1 h8 hs, hl]
 rfl
theorem s128_eq {x : Nat} (hx : x < 256) (h8 : d ≤ 8) : s128 ((x : Int), (d : Int)) = some (low d x) := by
 unfold s128
 dsimp only
 rw [decide_eq_true (show (0 : Int) ≤ (d : Int) by omega), decide_eq_true (show (d : Int) = (d : Int) from rfl), Int.toNat_natCast, room_true (by omega) (by omega)]
 have hl := loop_for (step := step128_0) (st := fun k => (((x / 2 ^ k : Nat) : Int), List.replicate (d - k) (0 : Int) ++ low k x, (d : Int) - 1 - (k : Int))) (n := d) (e := low d x)
  (fun k hk => by
    have e1 : (d : Int) - 1 - (k : Int) = ((d - 1 - k : Nat) : Int) := by omega
    have e2 : x / 2 ^ k ≤ x := Nat.div_le_self _ _
    have e3 : Int.tdiv ((x / 2 ^ k : Nat) : Int) 2 = ((x / 2 ^ (k + 1) : Nat) : Int) := by
     rw [Nat.pow_succ, ← Nat.div_div_eq_div_mul]
     generalize x / 2 ^ k = y
     rw [Int.tdiv_eq_ediv_of_nonneg (by omega)]
     omega
    have e4 : Int.tmod ((x / 2 ^ k : Nat) : Int) 2 = ((x / 2 ^ k % 2 : Nat) : Int) := by
     generalize x / 2 ^ k = y
     rw [Int.tmod_eq_emod_of_nonneg (by omega)]; omega
    have e5 : x / 2 ^ (k + 1) ≤ x := Nat.div_le_self _ _
    have e6 : wr ((x / 2 ^ (k + 1) : Nat) : Int) = ((x / 2 ^ (k + 1) : Nat) : Int) := by
     generalize x / 2 ^ (k + 1) = y at e5 ⊢
     exact wr_id (by omega) (by omega)
    have e7 : wr (((d - 1 - k : Nat) : Int) - 1) = ((d - 1 - k : Nat) : Int) - 1 := wr_id (by omega) (by omega)
    simp only [step128_0]
    rw [e1, decide_eq_true (show ((d - 1 - k : Nat) : Int) ≥ 0 by omega), inB_cast, decide_eq_true (by simp [low_len]; omega), e3, e4, e6, e7, Int.toNat_natCast, low_set d k x hk]
    simp only [cond_true]
    rw [show ((d - 1 - k : Nat) : Int) - 1 = (d : Int) - 1 - ((k + 1 : Nat) : Int) by omega])
  (by
    simp only [step128_0]
    rw [decide_eq_false (by omega), Nat.sub_self]
    rfl) 0 (by omega)
 have hl : loopVal step128_0 (((x / 1 : Nat) : Int), List.replicate d (0 : Int) ++ [], (d : Int) - 1 - 0) = some (low d x) := hl
 rw [Nat.div_one, List.append_nil, Int.sub_zero] at hl
 rw [wr_id (by omega) (by omega), hl]
 rfl
theorem s104_eq {x : Nat} {r : Int × Int × Int} (e : r = ((d : Int), (t : Int), (s : Int))) (h1 : 1 ≤ d) (h8 : d ≤ 8) (ht : t < 2 ^ d) (hx : x < 2 ^ d) : s104 (r, (x : Int)) = some (stp d t x : Int) := by
 subst e
 unfold s104
 dsimp only
 have hp := pow_le h8
 have ha : x &&& t < 2 ^ d := Nat.lt_of_le_of_lt Nat.and_le_left hx
 rw [andI_nat (by omega) (by omega), s128_eq (by omega) h8]
 have hl := loop_for (step := step104_0) (st := fun k => ((x : Int), low d (x &&& t), ((low d (x &&& t)).take k).foldl (· + ·) 0, (k : Int), ((d : Int), (t : Int), (s : Int)))) (n := d) (e := ((x : Int), (pc 8 (x &&& t) : Int), ((d : Int), (t : Int), (s : Int))))
  (fun k hk => by
    have a := low_part d h8 (x &&& t) (by omega) (k + 1) (by omega)
    have b := foldl_take_succ (· + ·) (0 : Int) (low d (x &&& t)) 0 (show k < (low d (x &&& t)).length by rw [low_len]; omega)
    simp only [step104_0, lt_cast, inB_cast, low_len, hk, decide_true, cond_true, Int.toNat_natCast, wr_succ (show k < 4611686018427387904 by omega)]
    rw [b, wr_id (by omega) (by omega)])
  (by
    simp only [step104_0, lt_cast, low_len, Nat.lt_irrefl, decide_false, cond_false]
    rw [List.take_of_length_le (by rw [low_len]; exact Nat.le_refl _), low_sum d h8 _ (by omega) ha]) 0 (by omega)
 have hl : loopVal step104_0 ((x : Int), low d (x &&& t), 0, 0, ((d : Int), (t : Int), (s : Int))) = some ((x : Int), (pc 8 (x &&& t) : Int), ((d : Int), (t : Int), (s : Int))) := hl
 simp only [optE_some, hl]
 have hb := Nat.mod_lt (pc 8 (x &&& t)) (show 0 < 2 by omega)
 have e1 : Int.tmod (pc 8 (x &&& t) : Int) 2 = ((pc 8 (x &&& t) % 2 : Nat) : Int) := by rw [Int.tmod_eq_emod_of_nonneg (by omega)]; omega
 have e2 : Int.tdiv (x : Int) 2 = ((x / 2 : Nat) : Int) := by rw [Int.tdiv_eq_ediv_of_nonneg (by omega)]; omega
 have e3 : wr ((d : Int) - 1) = (d : Int) - 1 := wr_id (by omega) (by omega)
 have hlt := stp_lt t h1 hx
 have e4 : ((x / 2 : Nat) : Int) + ((pc 8 (x &&& t) % 2 * 2 ^ (d - 1) : Nat) : Int) = (stp d t x : Int) := by unfold stp; omega
 rw [e1, shl_bit hb h1 h8, e2, e3, decide_eq_true (show (0 : Int) ≤ (d : Int) - 1 by omega), wr_id (n := ((x / 2 : Nat) : Int)) (by omega) (by omega), e4, wr_id (by omega) (by omega)]
 rfl
theorem s53_eq {p : Nat} (h1 : 1 ≤ d) (h8 : d ≤ 8) (ht : t < 2 ^ d) (hs : s < 2 ^ d) (p1 : 1 ≤ p) (p2 : p ≤ 2 ^ d - 1) (p3 : itr d t s p = s) (p4 : ∀ k, 1 ≤ k → k < p → itr d t s k ≠ s) : s53 ((d : Int), (t : Int), (s : Int)) = some (p : Int) := by
 unfold s53
 have hp := pow_le h8
 have hl := loop_for (step := step53_0) (st := fun k => ((itr d t s (1 + k) : Int), ((1 + k : Nat) : Int), ((d : Int), (t : Int), (s : Int)))) (n := p - 1) (e := (p : Int))
  (fun k hk => by
    have hi := itr_lt t h1 hs (1 + k)
    simp only [step53_0, ne_int]
    rw [decide_eq_true (p4 (1 + k) (by omega) (by omega)), s104_eq rfl h1 h8 ht hi, optE_some, wr_succ (by omega)]
    rfl)
  (by
    simp only [step53_0, ne_int]
    rw [show 1 + (p - 1) = p by omega, p3, decide_eq_false (fun h => h rfl)]
    rfl) 0 (by omega)
 have hl : loopVal step53_0 ((stp d t s : Int), 1, ((d : Int), (t : Int), (s : Int))) = some (p : Int) := hl
 rw [s104_eq rfl h1 h8 ht hs, optE_some, hl]
 rfl
theorem s54_eq {c : Int} {n : Nat} (hc : c = (n : Int)) (hn : n ≤ 600) (h1 : 1 ≤ d) (h8 : d ≤ 8) (ht : t < 2 ^ d) (hs : s < 2 ^ d) : s54 (((d : Int), (t : Int), (s : Int)), c) = some (seqL d t s n) := by
 subst hc
 unfold s54
 dsimp only
 have hp := pow_le h8
 have hl := loop_for (step := step54_0) (st := fun k => ((n : Int), seqL d t s k, (itr d t s k : Int), (k : Int), ((d : Int), (t : Int), (s : Int)))) (n := n) (e := seqL d t s n)
  (fun k hk => by
    have hi := itr_lt t h1 hs k
    simp only [step54_0, lt_cast, hk, decide_true, cond_true, wr_succ (show k < 4611686018427387904 by omega)]
    rw [s104_eq rfl h1 h8 ht hi, room_true (by rw [seqL_len]; omega) (by rw [seqL_len]; omega), optE_some, Int.tmod_eq_emod_of_nonneg (by omega)]
    simp only [cond_true]
    have := range_map_succ (fun k => ((itr d t s k % 2 : Nat) : Int)) k
    unfold seqL
    rw [← this]
    rfl)
  (by simp only [step54_0, lt_cast, Nat.lt_irrefl, decide_false, cond_false]) 0 (by omega)
 have hl : loopVal step54_0 ((n : Int), [], (s : Int), 0, ((d : Int), (t : Int), (s : Int))) = some (seqL d t s n) := hl
 rw [hl]
 rfl
def rndG (d t s : Nat) (l : List Int) (k : Nat) : Int := l.getD k 0 * (1 - 2 * ((itr d t s k % 2 : Nat) : Int))
def rnd (d t s : Nat) (l : List Int) (n : Nat) : List Int := (List.range n).map (rndG d t s l)
theorem rnd_len (d t s : Nat) (l : List Int) (n : Nat) : (rnd d t s l n).length = n := by simp [rnd]
theorem rnd_at (d t s : Nat) (l : List Int) {n k : Nat} (h : k < n) : (rnd d t s l n).getD k 0 = rndG d t s l k := by
 simp [rnd, List.getD_eq_getElem?_getD, List.getElem?_map, List.getElem?_range h]
theorem okH_iff {x : Int} : okH x = true ↔ -7 ≤ x ∧ x ≤ 7 := by unfold okH; exact win_iff
theorem hE_at {l : List Int} (h : hE l = 0) {k : Nat} (hk : k < l.length) : -7 ≤ l.getD k 0 ∧ l.getD k 0 ≤ 7 := by
 refine okH_iff.1 ((hE_ok h).2 _ ?_)
 rw [List.getD_eq_getElem?_getD, List.getElem?_eq_getElem hk]
 exact List.getElem_mem hk
theorem s51_bad (r : Int × Int × Int) (l : List Int) (hl : l.length ≤ 1000000) (h : firstE [rE r, hE l] ≠ 0) : s51 (r, l) = some ([], firstE [rE r, hE l]) := by
 unfold s51
 simp only [s102_eq, s85_eq l hl, optE_some]
 rw [s80_eq _ (by simp), optE_some, bne_iff_ne.2 h]
 rfl
theorem s51_eq {l : List Int} (hr : rE ((d : Int), (t : Int), (s : Int)) = 0) (hh : hE l = 0) (h1 : 1 ≤ d) (h8 : d ≤ 8) (ht : t < 2 ^ d) (hs : s < 2 ^ d) : s51 (((d : Int), (t : Int), (s : Int)), l) = some (rnd d t s l l.length, 0) := by
 unfold s51
 have hp := pow_le h8
 have hn := (hE_ok hh).1
 simp only [s102_eq, s85_eq l (by omega), optE_some, hr, hh]
 rw [s80_eq _ (by simp)]
 have hc : cloneF l = some l := by unfold cloneF; rw [decide_eq_true (by omega)]; rfl
 have hl := loop_for (step := step51_0) (st := fun k => (rnd d t s l k ++ l.drop k, (l.length : Int), (k : Int), (((d : Int), (t : Int), (s : Int)), (itr d t s k : Int)))) (n := l.length) (e := rnd d t s l l.length)
  (fun k hk => by
    have hi := itr_lt t h1 hs k
    have hv := hE_at hh hk
    have hd := getD_drop l 0 hk
    have hlen : (rnd d t s l k ++ l.drop k).length = l.length := by simp [rnd_len]; omega
    have hget : (rnd d t s l k ++ l.drop k).getD k 0 = l.getD k 0 := by
     rw [hd, List.getD_eq_getElem?_getD, List.getElem?_append_right (by rw [rnd_len]; exact Nat.le_refl _), rnd_len, Nat.sub_self]
     rfl
    have hnext : rnd d t s l k ++ [rndG d t s l k] = rnd d t s l (k + 1) := range_map_succ (rndG d t s l) k
    simp only [step51_0, lt_cast, inB_cast, hlen, hk, decide_true, cond_true, Int.toNat_natCast, wr_succ (show k < 4611686018427387904 by omega), hget]
    rw [ones_eq (by omega) (by omega), wr_id (n := (d : Int) - 1) (by omega) (by omega), decide_eq_true (show (0 : Int) ≤ (d : Int) - 1 by omega), optE_some, ← wr_id (n := (d : Int) - 1) (by omega) (by omega), fed_eq h1 h8 hi, low_bit (by omega), wr_id (n := -(l.getD k 0)) (by omega) (by omega)]
    simp only [cond_true]
    have hb := Nat.mod_lt (itr d t s k) (show 0 < 2 by omega)
    rw [← hnext, List.append_assoc, hd]
    by_cases e : itr d t s k % 2 = 1
    ·have g : rndG d t s l k = -(l.getD k 0) := by unfold rndG; rw [e]; omega
     rw [e, g]
     simp only [List.set_append, rnd_len, Nat.lt_irrefl, if_false, Nat.sub_self]
     rfl
    ·have e : itr d t s k % 2 = 0 := by omega
     have g : rndG d t s l k = l.getD k 0 := by unfold rndG; rw [e]; omega
     rw [e, g]
     rfl)
  (by
    simp only [step51_0, lt_cast, Nat.lt_irrefl, decide_false, cond_false]
    rw [List.drop_eq_nil_of_le (Nat.le_refl _), List.append_nil]) 0 (by omega)
 have hl : loopVal step51_0 (l, (l.length : Int), 0, (((d : Int), (t : Int), (s : Int)), (s : Int))) = some (rnd d t s l l.length) := hl
 simp only [optE_some, hc, hl]
 rfl
theorem s55_eq {l : List Int} (hh : hE l = 0) (h1 : 1 ≤ d) (h8 : d ≤ 8) (ht : t < 2 ^ d) (hs : s < 2 ^ d) : s55 (((d : Int), (t : Int), (s : Int)), l) = some (rnd d t s l l.length) := by
 unfold s55
 dsimp only
 have hn := (hE_ok hh).1
 rw [s54_eq rfl hn h1 h8 ht hs]
 have hl := loop_for (step := step55_0) (st := fun k => (l, seqL d t s l.length, rnd d t s l k, (k : Int))) (n := l.length) (e := rnd d t s l l.length)
  (fun k hk => by
    have hv := hE_at hh hk
    have hb := Nat.mod_lt (itr d t s k) (show 0 < 2 by omega)
    have hnext : rnd d t s l k ++ [rndG d t s l k] = rnd d t s l (k + 1) := range_map_succ (rndG d t s l) k
    simp only [step55_0, lt_cast, inB_cast, seqL_len, hk, decide_true, cond_true, Int.toNat_natCast, wr_succ (show k < 4611686018427387904 by omega), seqL_at d t s hk]
    have g : rndG d t s l k = -(l.getD k 0) ∨ rndG d t s l k = l.getD k 0 := by
     unfold rndG
     have e : itr d t s k % 2 = 1 ∨ itr d t s k % 2 = 0 := by omega
     rcases e with e | e
     ·rw [e]; left; omega
     ·rw [e]; right; omega
    rw [wr_id (n := 2 * _) (by omega) (by omega), wr_id (n := 1 - _) (by omega) (by omega), room_true (by rw [rnd_len]; omega) (by rw [rnd_len]; omega)]
    simp only [cond_true]
    change some (Sum.inl (_, _, rnd d t s l k ++ [wr (rndG d t s l k)], _)) = _
    rw [wr_id (by omega) (by omega), hnext])
  (by simp only [step55_0, lt_cast, Nat.lt_irrefl, decide_false, cond_false]) 0 (by omega)
 have hl : loopVal step55_0 (l, seqL d t s l.length, [], 0) = some (rnd d t s l l.length) := hl
 simp only [optE_some, hl]
end
end Go.Proofs.YthckjfbhdjjnkaaDoor
