import Derived.Test.YthckjfbhdjjnkaaDoorGd9
import Derived.Test.YthckjfbhdjjnkaaDoorSpaceMath
set_option linter.unusedSimpArgs false
namespace Go.Proofs.YthckjfbhdjjnkaaDoor
open Go.Ev
theorem getD_range2 (f : Nat → Int) {n k : Nat} (h : k < n) : ((List.range n).map f).getD k 0 = f k := by
 rw [List.getD_eq_getElem?_getD, List.getElem?_map, List.getElem?_range h]
 rfl
theorem spF_2 (m a : List Int) (e : Int) (hm : m.length ≤ 100) (ha : ∀ i, i < a.length → 0 ≤ a.getD i 0 ∧ a.getD i 0 ≤ 100) : ∀ (k : Nat) (out : Int × Int), k ≤ a.length → k ≤ 100 → ((∀ i : Nat, i < k → (m.length : Int) - ((i : Int) + 1) - a.getD i 0 ≤ wr (2 * e) → (spF m a e k out).2 ≤ (i : Int) + 1) ∧ (((spF m a e k out).2 = out.2) ∨ (1 ≤ (spF m a e k out).2 ∧ (spF m a e k out).2 ≤ k)))
 | 0, out, _, _ => ⟨fun i h => by omega, .inl rfl⟩
 | k + 1, out, hk, hk2 => by
   obtain ⟨h1, h2⟩ := spF_2 m a e hm ha k (nxS m a e (k : Int) out) (by omega) (by omega)
   have hak := ha k (by omega)
   have e1 : wr ((k : Int) + 1) = (k : Int) + 1 := wr_id (by omega) (by omega)
   have e2 : wr ((wr ((m.length : Int) - (wr ((k : Int) + 1)))) - a.getD k 0) = (m.length : Int) - ((k : Int) + 1) - a.getD k 0 := by rw [e1, wr_id (n := (m.length : Int) - ((k : Int) + 1)) (by omega) (by omega), wr_id (by omega) (by omega)]
   have hx : (nxS m a e (k : Int) out).2 = if (m.length : Int) - ((k : Int) + 1) - a.getD k 0 ≤ wr (2 * e) then (k : Int) + 1 else out.2 := by
    unfold nxS
    rw [Int.toNat_natCast, e2, e1]
   rw [hx] at h2
   show _ ∧ ((spF m a e k (nxS m a e (k : Int) out)).2 = out.2 ∨ (1 ≤ (spF m a e k (nxS m a e (k : Int) out)).2 ∧ (spF m a e k (nxS m a e (k : Int) out)).2 ≤ ((k + 1 : Nat) : Int)))
   refine ⟨fun i hi hc => ?_, ?_⟩
   ·show (spF m a e k (nxS m a e (k : Int) out)).2 ≤ (i : Int) + 1
    by_cases ei : i = k
    ·subst ei
     rw [if_pos hc] at h2
     rcases h2 with h2 | h2 <;> omega
    ·exact h1 i (by omega) hc
   ·by_cases g : (m.length : Int) - ((k : Int) + 1) - a.getD k 0 ≤ wr (2 * e)
    ·rw [if_pos g] at h2
     rcases h2 with h2 | h2
     ·right; omega
     ·right; omega
    ·rw [if_neg g] at h2
     rcases h2 with h2 | h2
     ·exact .inl h2
     ·right; omega
theorem spacing_val (m a : List Int) (e : Int) (ha : a.length ≤ 1000) : ∀ (k : Nat) (out : Int × Int), k ≤ a.length → loopVal (strip Lp23_0 step118_0) ((k : Int) - 1, a, (0, 0), out, m, e) = some ((0, 0), spF m a e k out, m, e)
 | 0, out, _ => by
   refine loopVal_last (strip_some (i := Lp23_0) (r := .inr _) ?_)
   simp only [step118_0]
   rfl
 | k + 1, out, hk => by
   have h1 := spacing_val m a e ha k (nxS m a e (k : Int) out) (by omega)
   have e0 : ((k + 1 : Nat) : Int) - 1 = (k : Int) := by omega
   have e1 : wr ((k : Int) - 1) = (k : Int) - 1 := wr_id (by omega) (by omega)
   rw [e0]
   rw [loopVal_next (strip_some (i := Lp23_0) (r := .inl ((k : Int) - 1, a, (0, 0), nxS m a e (k : Int) out, m, e)) ?_)]
   ·exact h1
   ·simp only [step118_0, inB_cast, decide_eq_true (show (k : Int) ≥ 0 by omega), decide_eq_true (show k < a.length by omega), cond_true, e1]
    unfold nxS
    by_cases g1 : (a.getD (k : Int).toNat 0) ≤ wr (2 * e) <;> by_cases g2 : (wr ((wr ((m.length : Int) - (wr ((k : Int) + 1)))) - (a.getD (k : Int).toNat 0))) ≤ wr (2 * e) <;> simp only [g1, g2, decide_true, decide_false, cond_true, cond_false, if_true, if_false]
def spV (m : List Int) (e : Int) : Int × Int := spF m (misV m) e (misV m).length ((m.length : Int), (m.length : Int))
theorem spacingOf_eq {m : List Int} (h : mE m = 0) {e : Int} (he : win e 0 32 = true) : s23 (m, e) = some (spV m e, 0) := by
 obtain ⟨h1, h2, h3⟩ := mE_ok h
 have hlen : (misV m).length ≤ 1000 := by simp [misV]; omega
 have r1 := spacing_val m (misV m) e hlen (misV m).length ((m.length : Int), (m.length : Int)) (Nat.le_refl _)
 have e0 : wr (((misV m).length : Int) - 1) = ((misV m).length : Int) - 1 := wr_id (by omega) (by omega)
 unfold s23
 simp only [s81_eq m (by omega), s79_eq, s82_eq, optE_some]
 rw [s80_eq _ (by simp), h, he]
 have hf : firstE [0, unl true 2] = 0 := rfl
 simp only [hf, optE_some, bne_self_eq_false, cond_false, mism_a h2 h3, e0, onlyAt_eq, r1]
 rfl
theorem misV_at (m : List Int) {i : Nat} (h : i < m.length - 1) : (misV m).getD i 0 = misN m (i + 1) (m.length - (i + 1)) := by
 unfold misV
 exact getD_range2 _ h
def mk0 : Mark := (0, 0, false, 0, 0)
theorem markAt_at {m l : List Int} {e : Int} {p : Nat} {x : Mark} (h : markAt m l e p = some x) : x.2.1 = (p : Int) := by
 unfold markAt at h
 split at h
 ·rw [← Option.some.inj h]
 ·split at h
  ·rw [← Option.some.inj h]
  ·cases h
theorem getD_l {a b : List Mark} {i : Nat} (h : i < a.length) : (a ++ b).getD i mk0 = a.getD i mk0 := by
 rw [List.getD_eq_getElem?_getD, List.getD_eq_getElem?_getD, List.getElem?_append_left h]
theorem getD_e {a : List Mark} {x : Mark} : (a ++ [x]).getD a.length mk0 = x := by
 rw [List.getD_eq_getElem?_getD, List.getElem?_append_right (Nat.le_refl _), Nat.sub_self]
 rfl
theorem findV_props (m l : List Int) (e : Int) : ∀ c, (∀ i, i < (findV m l e c).length → ∃ p, p < c ∧ markAt m l e p = some ((findV m l e c).getD i mk0)) ∧ ∀ i k, k < i → i < (findV m l e c).length → ((findV m l e c).getD k mk0).2.1 < ((findV m l e c).getD i mk0).2.1
 | 0 => ⟨fun i h => by simp [findV] at h, fun i k _ h => by simp [findV] at h⟩
 | c + 1 => by
   obtain ⟨h1, h2⟩ := findV_props m l e c
   rw [findV_succ]
   cases hm : markAt m l e c with
   | none =>
     simp only [List.append_nil]
     exact ⟨fun i hi => by obtain ⟨p, g1, g2⟩ := h1 i hi; exact ⟨p, by omega, g2⟩, h2⟩
   | some x =>
     simp only [List.length_append, List.length_singleton]
     refine ⟨fun i hi => ?_, fun i k hki hi => ?_⟩
     ·by_cases g : i < (findV m l e c).length
      ·rw [getD_l g]
       obtain ⟨p, g1, g2⟩ := h1 i g
       exact ⟨p, by omega, g2⟩
      ·obtain rfl : i = (findV m l e c).length := by omega
       rw [getD_e]
       exact ⟨c, by omega, hm⟩
     ·by_cases g : i < (findV m l e c).length
      ·rw [getD_l g, getD_l (by omega)]
       exact h2 i k hki g
      ·obtain rfl : i = (findV m l e c).length := by omega
       rw [getD_e, getD_l hki, markAt_at hm]
       obtain ⟨p, g1, g2⟩ := h1 k hki
       rw [markAt_at g2]
       omega
theorem markAt_kind {m l : List Int} {e : Int} {p : Nat} {x : Mark} (h : markAt m l e p = some x) : (x = (0, (p : Int), false, (wrongN m l p m.length).1, 0) ∧ (wrongN m l p m.length).1 ≤ e) ∨ (x = (0, (p : Int), true, (wrongN m l p m.length).2, 0) ∧ ¬ (wrongN m l p m.length).1 ≤ e ∧ (wrongN m l p m.length).2 ≤ e) := by
 unfold markAt at h
 split at h
 ·rename_i g; exact .inl ⟨(Option.some.inj h).symm, g⟩
 ·rename_i g
  split at h
  ·rename_i g2; exact .inr ⟨(Option.some.inj h).symm, g, g2⟩
  ·cases h
theorem spV_in {m : List Int} (hm : mE m = 0) (e : Int) : (1 ≤ (spV m e).1 ∧ (spV m e).1 ≤ m.length) ∧ 1 ≤ (spV m e).2 ∧ (spV m e).2 ≤ m.length := by
 obtain ⟨h1, h2, h3⟩ := mE_ok hm
 have hlen : (misV m).length = m.length - 1 := by simp [misV]
 have hin : ∀ i, i < (misV m).length → 0 ≤ (misV m).getD i 0 ∧ (misV m).getD i 0 ≤ 100 := fun i hi => by
  rw [misV_at m (by omega)]
  have := misN_in m (i + 1) (m.length - (i + 1))
  omega
 have a1 := (spF_1 m (misV m) e (misV m).length ((m.length : Int), (m.length : Int)) (by omega)).2
 have a2 := (spF_2 m (misV m) e (by omega) hin (misV m).length ((m.length : Int), (m.length : Int)) (Nat.le_refl _) (by omega)).2
 unfold spV
 simp only [] at a1 a2
 constructor
 ·rcases a1 with a1 | a1 <;> omega
 ·rcases a2 with a2 | a2 <;> omega
theorem space_ok {m l : List Int} {e : Int} (hm : mE m = 0) (he : 0 ≤ e ∧ e ≤ 32) {p q : Nat} {x y : Mark} (hp : markAt m l e p = some x) (hq : markAt m l e q = some y) (hqp : q < p) :
 ¬ ((p : Int) - (q : Int) < if x.2.2.1 = y.2.2.1 then (spV m e).1 else (spV m e).2) := by
 intro hlt
 obtain ⟨h1, h2, h3⟩ := mE_ok hm
 obtain ⟨⟨_, s1⟩, _, s2⟩ := spV_in hm e
 have hlen : (misV m).length = m.length - 1 := by simp [misV]
 have hin : ∀ i, i < (misV m).length → 0 ≤ (misV m).getD i 0 ∧ (misV m).getD i 0 ≤ 100 := fun i hi => by
  rw [misV_at m (by omega)]
  have := misN_in m (i + 1) (m.length - (i + 1))
  omega
 obtain ⟨d, rfl⟩ : ∃ d, p = q + d := ⟨p - q, by omega⟩
 have hdM : d < m.length := by split at hlt <;> omega
 have hw : wr (2 * e) = 2 * e := wr_id (by omega) (by omega)
 have hmis : (misV m).getD (d - 1) 0 = (cntB (fun j => decide (¬ m.getD (d + j) 0 = m.getD j 0)) (m.length - d) : Int) := by
  rw [misV_at m (by omega), show d - 1 + 1 = d by omega]
  exact misN_cnt m d _
 have a1 := (spF_1 m (misV m) e (misV m).length ((m.length : Int), (m.length : Int)) (by omega)).1 (d - 1) (by omega)
 have a2 := (spF_2 m (misV m) e (by omega) hin (misV m).length ((m.length : Int), (m.length : Int)) (Nat.le_refl _) (by omega)).1 (d - 1) (by omega)
 rw [hmis, hw] at a1 a2
 have wp := wrongN_cnt m l (q + d) m.length (by omega) h3
 have wq := wrongN_cnt m l q m.length (by omega) h3
 have o11 := over_11 (m := m) (l := l) (a := q) (d := d) (M := m.length) (by omega)
 have o22 := over_22 (m := m) (l := l) (a := q) (d := d) (M := m.length) (by omega)
 have o12 := over_12 (m := m) (l := l) (a := q) (d := d) (M := m.length) (by omega)
 have o21 := over_21 (m := m) (l := l) (a := q) (d := d) (M := m.length) (by omega)
 have kp := markAt_kind hp
 have kq := markAt_kind hq
 rw [wp] at kp
 rw [wq] at kq
 unfold spV at hlt s1 s2
 rcases kp with ⟨rfl, kp⟩ | ⟨rfl, _, kp⟩ <;> rcases kq with ⟨rfl, kq⟩ | ⟨rfl, _, kq⟩
 ·simp only [if_true] at hlt kp kq
  have := a1 (by omega)
  omega
 ·simp only [Bool.false_eq_true, if_false] at hlt kp kq
  have := a2 (by omega)
  omega
 ·simp only [Bool.true_eq_false, if_false] at hlt kp kq
  have := a2 (by omega)
  omega
 ·simp only [if_true] at hlt kp kq
  have := a1 (by omega)
  omega
end Go.Proofs.YthckjfbhdjjnkaaDoor
