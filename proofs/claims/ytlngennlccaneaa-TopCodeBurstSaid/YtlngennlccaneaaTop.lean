/- Bursts are spread: whatever the input is, the answer is true. -/
import Derived.Test.YtlngennlccaneaaTurn
set_option linter.unusedSimpArgs false
set_option linter.unusedVariables false
set_option maxRecDepth 100000
namespace Go.Proofs.Ytlngennlccaneaa
open Go.Ev
theorem s14_self {l : List Int} (hl : l.length < 1000) : s14 (l, l) = some true := by
 have key : loopVal step14_0 (l, l, 0) = some (.inr ()) := by
  refine of_loop (step := step14_0) (n := l.length) (I := fun n y => y = (l, l, (n : Int))) (fun n y hn hy => ?_) (fun y hy => ?_) rfl
  ·subst hy
   refine ⟨_, ?_, rfl⟩
   simp only [step14_0, decide_eq_true (by omega : (n : Int) < (l.length : Int)), inB hn, bne_self_eq_false, cond_true, cond_false, wrS (by omega : n < 1000000)]
  ·subst hy
   refine ⟨_, ?_, rfl⟩
   simp only [step14_0, decide_eq_false (Int.lt_irrefl _), cond_false]
 show (bif (l.length : Int) != (l.length : Int) then some false else optE (loopVal step14_0 (l, l, 0)) _ _) = _
 rw [bne_self_eq_false, key]; rfl
theorem s15_law (a b : Wd) : s15 (lstW a, lstW b) = some ((diffP 15 a b).length : Int) := by
 have key : loopVal step15_0 (lstW a, lstW b, 0, 0) = some ((diffP 15 a b).length : Int) := by
  refine of_loop (step := step15_0) (n := 15) (I := fun n y => y = (lstW a, lstW b, ((diffP n a b).length : Int), (n : Int))) (fun n y hn hy => ?_) (fun y hy => ?_) rfl
  ·subst hy
   have hl := diffP_len n a b
   refine ⟨(lstW a, lstW b, ((diffP (n + 1) a b).length : Int), ((n + 1 : Nat) : Int)), ?_, rfl⟩
   have hla : n < (lstW a).length := hn
   have hlb : n < (lstW b).length := hn
   rw [diffP_succ]
   by_cases h : a n ≠ b n
   ·rw [if_pos h, List.length_append]
    simp only [step15_0, decide_eq_true (by omega : (n : Int) < ((lstW a).length : Int)), inB hla, inB hlb, Int.toNat_natCast, lst_get a hn, lst_get b hn, vI_bne, decide_eq_true h, cond_true, wrS (by omega : n < 1000000), wrS (by omega : (diffP n a b).length < 1000000), List.length_singleton]
   ·rw [if_neg h, List.append_nil]
    simp only [step15_0, decide_eq_true (by omega : (n : Int) < ((lstW a).length : Int)), inB hla, inB hlb, Int.toNat_natCast, lst_get a hn, lst_get b hn, vI_bne, decide_eq_false h, cond_true, cond_false, wrS (by omega : n < 1000000)]
  ·subst hy
   exact ⟨_, rfl, rfl⟩
 show optE (loopVal step15_0 (lstW a, lstW b, 0, 0)) _ _ = _
 rw [key]; rfl
theorem s6_law {l : List Int} (hl : l.length < 1000) : ∃ r, s6 l = some r ∧ (r ≠ 0 ∨ r = 0 ∧ Els l) := by
 have key : ∃ e, loopVal step6_0 (l, 0) = some e ∧ (e = .inl 2 ∨ e = .inr () ∧ Els l) := by
  refine loop_inv (step := step6_0) (n := l.length) (I := fun n y => y = (l, (n : Int)) ∧ ∀ k, k < n → 0 ≤ l.getD k 0 ∧ l.getD k 0 ≤ 15) (fun n y hn hy => ?_) (fun y hy => ?_) l.length 0 (by omega) _ ⟨rfl, fun k hk => by omega⟩
  ·obtain ⟨rfl, hz⟩ := hy
   have e21 : s21 (l.getD n 0) = some (decide (0 ≤ l.getD n 0 ∧ l.getD n 0 ≤ 15)) := by
    by_cases a : 0 ≤ l.getD n 0
    ·by_cases b : l.getD n 0 ≤ 15
     ·simp only [s21, s20, decide_eq_true a, decide_eq_true b, cond_true, optE, decide_eq_true (And.intro a b)]
     ·simp only [s21, s20, decide_eq_true a, decide_eq_false b, cond_true, optE, decide_eq_false (fun h : 0 ≤ l.getD n 0 ∧ l.getD n 0 ≤ 15 => b h.2)]
    ·simp only [s21, s20, decide_eq_false a, cond_false, optE, decide_eq_false (fun h : 0 ≤ l.getD n 0 ∧ l.getD n 0 ≤ 15 => a h.1)]
   by_cases h : 0 ≤ l.getD n 0 ∧ l.getD n 0 ≤ 15
   ·left
    refine ⟨(l, ((n + 1 : Nat) : Int)), ?_, rfl, fun k hk => ?_⟩
    ·simp only [step6_0, decide_eq_true (by omega : (n : Int) < (l.length : Int)), inB hn, Int.toNat_natCast, e21, decide_eq_true h, optE, Bool.not_true, cond_true, cond_false, wrS (by omega : n < 1000000)]
    ·by_cases e : k = n
     ·rw [e]; exact h
     ·exact hz k (by omega)
   ·right
    refine ⟨.inl 2, ?_, .inl rfl⟩
    simp only [step6_0, decide_eq_true (by omega : (n : Int) < (l.length : Int)), inB hn, Int.toNat_natCast, e21, decide_eq_false h, optE, Bool.not_false, cond_true]
  ·obtain ⟨rfl, hz⟩ := hy
   refine ⟨.inr (), ?_, .inr ⟨rfl, fun x hx => ?_⟩⟩
   ·simp only [step6_0, decide_eq_false (Int.lt_irrefl _), cond_false]
   ·obtain ⟨k, hk, rfl⟩ := List.getElem_of_mem hx
    have := hz k hk
    rw [List.getD_eq_getElem?_getD, List.getElem?_eq_getElem hk] at this
    exact this
 obtain ⟨e, he, hc⟩ := key
 have hs : s6 l = optE (loopVal step6_0 (l, 0)) (fun e1 => sumE e1 (fun e2 => some e2) (fun _ => some 0)) none := rfl
 rw [hs, he]
 rcases hc with rfl | ⟨rfl, h⟩
 ·exact ⟨2, rfl, .inl (by decide)⟩
 ·exact ⟨0, rfl, .inr ⟨rfl, h⟩⟩
theorem s6_ok {l : List Int} (hl : l.length < 1000) (he : Els l) : s6 l = some 0 := by
 have key : loopVal step6_0 (l, 0) = some (.inr ()) := by
  refine of_loop (step := step6_0) (n := l.length) (I := fun n y => y = (l, (n : Int))) (fun n y hn hy => ?_) (fun y hy => ?_) rfl
  ·subst hy
   obtain ⟨a, b⟩ := he _ (getD_memI hn)
   refine ⟨_, ?_, rfl⟩
   simp only [step6_0, decide_eq_true (by omega : (n : Int) < (l.length : Int)), inB hn, Int.toNat_natCast, s21, s20, decide_eq_true a, decide_eq_true b, cond_true, optE, Bool.not_true, cond_false, wrS (by omega : n < 1000000)]
  ·subst hy
   refine ⟨_, ?_, rfl⟩
   simp only [step6_0, decide_eq_false (Int.lt_irrefl _), cond_false]
 have hs : s6 l = optE (loopVal step6_0 (l, 0)) (fun e1 => sumE e1 (fun e2 => some e2) (fun _ => some 0)) none := rfl
 rw [hs, key]; rfl
theorem s9_lst (c : Wd) : s9 (lstW c) = some 0 := by
 show (bif ((lstW c).length : Int) != 15 then some 10 else optE (s6 (lstW c)) (fun r1 => some r1) none) = _
 have e : (((lstW c).length : Int) != 15) = false := rfl
 rw [e, s6_ok (by rw [lst_len]; omega) (lst_els c)]; rfl
def WL (f : Nat → Wd) (n : Nat) : List Int := (List.range (n * 15)).map fun t => vI (f (t / 15) (t % 15))
theorem WL_len (f : Nat → Wd) (n : Nat) : (WL f n).length = n * 15 := by simp [WL]
theorem WL_get (f : Nat → Wd) {n t : Nat} (h : t < n * 15) : (WL f n).getD t 0 = vI (f (t / 15) (t % 15)) := getD_range (fun t => vI (f (t / 15) (t % 15))) 0 h
theorem WL_congr {f g : Nat → Wd} {n : Nat} (h : ∀ j, j < n → ∀ p, p < 15 → f j p = g j p) : WL f n = WL g n := List.map_congr_left fun t ht => by
 have := List.mem_range.1 ht
 rw [h (t / 15) (by omega) (t % 15) (by omega)]
theorem range_split (m k : Nat) {α : Type} (f : Nat → α) : (List.range (m + k)).map f = (List.range m).map f ++ (List.range k).map fun i => f (m + i) := by
 rw [List.range_add, List.map_append, List.map_map]; rfl
theorem WL_succ (f : Nat → Wd) (n : Nat) : WL f (n + 1) = WL f n ++ lstW (f n) := by
 unfold WL lstW
 rw [show (n + 1) * 15 = n * 15 + 15 by omega, range_split]
 congr 1
 refine List.map_congr_left fun i hi => ?_
 have := List.mem_range.1 hi
 rw [show (n * 15 + i) / 15 = n by omega, show (n * 15 + i) % 15 = i by omega]
theorem WL_part (f : Nat → Wd) {n i : Nat} (h : i < n) : ((WL f n).take ((i + 1) * 15)).drop (i * 15) = lstW (f i) := by
 have e : WL f n = WL f i ++ lstW (f i) ++ ((List.range ((n - (i + 1)) * 15)).map fun t => vI (f (((i + 1) * 15 + t) / 15) (((i + 1) * 15 + t) % 15))) := by
  rw [← WL_succ]
  unfold WL
  rw [show n * 15 = (i + 1) * 15 + (n - (i + 1)) * 15 by omega, range_split]
 rw [e, List.take_left' (by rw [List.length_append, WL_len, lst_len]; omega), List.drop_left' (WL_len f i)]
theorem places_le {n j a m h : Nat} (hn : 1 ≤ n) (hn4 : n ≤ 4) (hm : m ≤ n * h) {L : List Nat} (hL : L.Nodup) (hp : ∀ p ∈ L, a ≤ p * n + j ∧ p * n + j < a + m) : L.length ≤ h := by
 have := nodup_le (m := List.range' ((a - j + n - 1) / n) h) hL fun p hpL => by
  obtain ⟨h1, h2⟩ := hp p hpL
  rw [List.mem_range'_1]
  have : n = 1 ∨ n = 2 ∨ n = 3 ∨ n = 4 := by omega
  rcases this with rfl | rfl | rfl | rfl <;> omega
 rw [List.length_range'] at this
 exact this
section
variable {n h : Nat} (hn : 1 ≤ n) (hn4 : n ≤ 4) (f : Nat → Wd) (a m : Nat) (ch : Nat → G)
def got (n : Nat) (f : Nat → Wd) (a m : Nat) (ch : Nat → G) (k : Nat) : G := if a ≤ k ∧ k < a + m then ga (f (k % n) (k / n)) (ch (k - a)) else f (k % n) (k / n)
def ownW (n : Nat) (f : Nat → Wd) (a m : Nat) (ch : Nat → G) (j : Nat) : Wd := fun p => got n f a m ch (p * n + j)
include hn hn4
theorem own_diff (hm : m ≤ n * h) {j : Nat} (hj : j < n) : (diffP 15 (ownW n f a m ch j) (f j)).length ≤ h := by
 refine places_le (j := j) (a := a) hn hn4 hm (diffP_nodup _ _ _) fun p hp => ?_
 obtain ⟨_, h2⟩ := diffP_mem.1 hp
 by_cases e : a ≤ p * n + j ∧ p * n + j < a + m
 ·exact e
 ·exfalso
  apply h2
  show (if a ≤ p * n + j ∧ p * n + j < a + m then _ else f ((p * n + j) % n) ((p * n + j) / n)) = f j p
  rw [if_neg e, Nat.add_comm, Nat.add_mul_mod_self_right, Nat.mod_eq_of_lt hj, Nat.add_mul_div_right _ _ (by omega), Nat.div_eq_of_lt hj, Nat.zero_add]
theorem mixed_get {k : Nat} (hk : k < 15 * n) : (turnL (WL f n) n 15).getD k 0 = vI (f (k % n) (k / n)) := by
 rw [turnL_get _ hk]
 unfold turnF
 have h1 : k % n < n := Nat.mod_lt _ (by omega)
 have h2 : k / n < 15 := Nat.div_lt_of_lt_mul (by rw [Nat.mul_comm]; exact hk)
 generalize k % n = u at h1 ⊢
 generalize k / n = v at h2 ⊢
 rw [WL_get f (by omega : u * 15 + v < n * 15), show (u * 15 + v) / 15 = u by omega, show (u * 15 + v) % 15 = v by omega]
omit hn hn4 in
theorem back_eq {l : List Int} (hl : ∀ k, k < 15 * n → l.getD k 0 = vI (got n f a m ch k)) : turnL l 15 n = WL (ownW n f a m ch) n := by
 unfold turnL WL
 refine List.map_congr_left fun t ht => ?_
 have ht := List.mem_range.1 ht
 unfold turnF
 have h1 : t / 15 < n := Nat.div_lt_of_lt_mul (by rw [Nat.mul_comm]; exact ht)
 have h2 : t % 15 < 15 := Nat.mod_lt _ (by omega)
 have h3 : t % 15 * n + t / 15 < 15 * n := by
  have : (t % 15 + 1) * n ≤ 15 * n := Nat.mul_le_mul_right _ h2
  rw [Nat.add_mul, Nat.one_mul] at this
  omega
 rw [hl _ h3]; rfl
end
end Go.Proofs.Ytlngennlccaneaa
