/- The machine: how far it has come, and what holds on its way. -/
import Derived.Test.YthckjfbhdjjnkaaMachMath
set_option linter.unusedSimpArgs false
namespace Go.Proofs.Ythckjfbhdjjnkaa
open Go.Ev
section
variable {r : Rule} {l : List Int}
@[reducible] def pk (r : Rule) (l : List Int) (s : St) : List Int × Int × Int × Int × Int × Int × List Int × List Mark × Int × Int × Int × Int × Bool :=
  (r.1, r.2.1, r.2.2.1, r.2.2.2.1, r.2.2.2.2.1, r.2.2.2.2.2, l, s.1, s.2.1, s.2.2.1, s.2.2.2.1, s.2.2.2.2.1, s.2.2.2.2.2)
theorem wrongAt_pk (_ : r.1.length ≤ 1000) (hl : l.length ≤ 1000) (s : St) {p : Int} (h0 : 0 ≤ p) (hp : p + (r.1.length : Int) ≤ (l.length : Int)) : s102 (pk r l s, p) = some (wI r l s.2.2.2.2.2 p) := by
 obtain ⟨k, rfl⟩ := Int.eq_ofNat_of_zero_le h0
 unfold s102
 have := wrong_a (m := r.1) (l := l) (a := k) hl (by omega)
 simp only [pk, this, optE_some]
 unfold wI
 cases s.2.2.2.2.2 <;> rfl
def meas (l : List Int) (p : Nat) (s : St) : Nat := match p with
 | 0 => (2 * ((l.length : Int) + 2 - s.2.1) + 1).toNat
 | 1 => (2 * ((l.length : Int) + 2 - s.2.2.1)).toNat
 | 2 => (2 * ((l.length : Int) + 2 - s.2.2.1)).toNat
 | _ => 0
theorem meas_e0 (s : St) : meas l 0 s = (2 * ((l.length : Int) + 2 - s.2.1) + 1).toNat := rfl
theorem meas_e1 (s : St) : meas l 1 s = (2 * ((l.length : Int) + 2 - s.2.2.1)).toNat := rfl
theorem meas_e2 (s : St) : meas l 2 s = (2 * ((l.length : Int) + 2 - s.2.2.1)).toNat := rfl
def mk1 : Mark := (0, 0, false, 0, 0)
def Link (n len : Nat) (ms : List Mark) : Prop := ∀ i, 0 < i → i < ms.length → (ms.getD i mk1).1 = 0 ∨ (ms.getD i mk1).1 = 4 ∨ (0 ≤ (ms.getD (i - 1) mk1).2.1 ∧ (ms.getD (i - 1) mk1).2.1 + (n : Int) ≤ (ms.getD i mk1).2.1 ∧ (ms.getD i mk1).2.1 ≤ (len : Int))
structure Good (r : Rule) (l : List Int) (p : Nat) (s : St) : Prop where
 fr : 0 ≤ s.2.1 ∧ s.2.1 ≤ (l.length : Int)
 la : p = 1 ∨ p = 2 → 0 ≤ s.2.2.1 ∧ s.2.2.1 + (r.1.length : Int) ≤ (l.length : Int)
 co : p = 1 → 1 ≤ s.2.2.2.1 ∧ s.2.2.2.1 < r.2.2.2.1
 mi : p = 2 → 0 ≤ s.2.2.2.2.1 ∧ s.2.2.2.2.1 ≤ r.2.2.2.2.1
 ms : s.1.length + meas l p s ≤ 5000
 link : Link r.1.length l.length s.1
 last : p = 1 ∨ p = 2 → 0 < s.1.length ∧ (s.1.getD (s.1.length - 1) mk1).2.1 = s.2.2.1
theorem getD_snoc {α : Type} (ms : List α) (m d : α) (i : Nat) : (ms ++ [m]).getD i d = if i < ms.length then ms.getD i d else if i = ms.length then m else d := by
 rw [List.getD_eq_getElem?_getD, List.getD_eq_getElem?_getD]
 by_cases h : i < ms.length
 ·rw [if_pos h, List.getElem?_append_left h]
 ·rw [if_neg h, List.getElem?_append_right (by omega)]
  by_cases h2 : i = ms.length
  ·rw [if_pos h2, h2, Nat.sub_self]; rfl
  ·rw [if_neg h2, List.getElem?_eq_none (by simp; omega)]; rfl
theorem link_add {n len : Nat} {ms : List Mark} {m : Mark} (h : Link n len ms) (hm : 0 < ms.length → m.1 = 0 ∨ m.1 = 4 ∨ (0 ≤ (ms.getD (ms.length - 1) mk1).2.1 ∧ (ms.getD (ms.length - 1) mk1).2.1 + (n : Int) ≤ m.2.1 ∧ m.2.1 ≤ (len : Int))) : Link n len (ms ++ [m]) := by
 intro i h0 hi
 simp only [getD_snoc]
 rw [List.length_append, List.length_singleton] at hi
 by_cases h2 : i < ms.length
 ·rw [if_pos h2, if_pos (show i - 1 < ms.length by omega)]
  exact h i h0 h2
 ·have : i = ms.length := by omega
  subst this
  rw [if_neg (Nat.lt_irrefl _), if_pos rfl, if_pos (by omega)]
  exact hm h0
theorem last_add (ms : List Mark) (m : Mark) : 0 < (ms ++ [m]).length ∧ ((ms ++ [m]).getD ((ms ++ [m]).length - 1) mk1).2.1 = m.2.1 := by
 refine ⟨by simp, ?_⟩
 rw [getD_snoc, List.length_append, List.length_singleton, Nat.add_sub_cancel, if_neg (Nat.lt_irrefl _), if_pos rfl]
theorem meas_pos {p : Nat} {s : St} (h : Good r l p s) (hp : p ≤ 2) : 0 < meas l p s := by
 have h1 := h.fr; have h2 := h.la
 match p, hp with
 | 0, _ => rw [meas_e0]; omega
 | 1, _ => have := h2 (.inl rfl); rw [meas_e1]; omega
 | 2, _ => have := h2 (.inr rfl); rw [meas_e2]; omega
theorem meas_0 : meas l 0 st0 = 2 * l.length + 5 := by
 show (2 * ((l.length : Int) + 2 - 0) + 1).toNat = _
 omega
theorem good_0 (_ : Fit r) (hl : l.length ≤ 1000) : Good r l 0 st0 :=
 ⟨⟨Int.le_refl _, by show (0 : Int) ≤ _; omega⟩, fun h => by omega, fun h => by omega, fun h => by omega, by rw [meas_0]; show 0 + _ ≤ _; omega, fun i h0 hi => absurd hi (by show ¬ i < 0; omega), fun h => by omega⟩
theorem expD_in (h : Fit r) {v : Bool} {x d : Int} (hd : expD r l v x = some d) : -r.2.2.2.2.2 ≤ d ∧ d ≤ r.2.2.2.2.2 := by
 have hs := h.slip
 obtain ⟨j, _, hj, hh⟩ := firstAt_some hd
 unfold hitD at hh
 have : (j : Int) ≤ r.2.2.2.2.2 := by omega
 split at hh
 ·obtain rfl := Option.some.inj hh; omega
 ·split at hh
  ·obtain rfl := Option.some.inj hh; omega
  ·cases hh
theorem aft_or (r : Rule) (c : Int) : (aft r c = 1 ∧ c < r.2.2.2.1) ∨ aft r c = 2 := by
 unfold aft
 by_cases g : c ≥ r.2.2.2.1
 ·exact .inr (if_pos g)
 ·exact .inl ⟨if_neg g, by omega⟩
theorem good_next (h : Fit r) (_ : l.length ≤ 1000) {p : Nat} {s : St} (hg : Good r l p s) (hp : p ≤ 2) : ∃ p' s', nxt r l p s = some (p', s') ∧ p' ≤ 3 ∧ Good r l p' s' ∧ meas l p' s' < meas l p s := by
 obtain ⟨ms, fr, la, co, mi, v⟩ := s
 have f1 := h.slip; have f2 := h.far; have f3 := h.most; have f4 := h.len; have f5 := h.fly; have f6 := h.ver
 have hfr := hg.fr
 have hms := hg.ms
 have hlink := hg.link
 simp only at hfr hms hlink
 have hend : ∀ q, 0 < meas l q (ms, fr, la, co, mi, v) → ms.length + meas l q (ms, fr, la, co, mi, v) ≤ 5000 → Good r l 3 (ms, fr, la, co, mi, v) ∧ meas l 3 (ms, fr, la, co, mi, v) < meas l q (ms, fr, la, co, mi, v) := fun q hq hq2 =>
  ⟨⟨hfr, fun h => by omega, fun h => by omega, fun h => by omega, by show ms.length + 0 ≤ 5000; omega, hlink, fun h => by omega⟩, hq⟩
 match p, hp with
 | 0, _ =>
   have hpos := meas_pos hg (by omega)
   cases hf : findFrom r l fr.toNat with
   | none =>
     obtain ⟨g1, g2⟩ := hend 0 hpos hms
     exact ⟨3, _, by simp only [nxt, hf], by omega, g1, g2⟩
   | some m =>
     obtain ⟨k, k1, k2, k3⟩ := firstAt_some hf
     have hk : k + r.1.length ≤ l.length := by unfold places at k2; omega
     have hat : m.2.1 = (k : Int) ∧ m.1 = 0 := by
      unfold markAt at k3
      split at k3
      ·obtain rfl := Option.some.inj k3; exact ⟨rfl, rfl⟩
      ·split at k3
       ·obtain rfl := Option.some.inj k3; exact ⟨rfl, rfl⟩
       ·cases k3
     have hla : ∀ q, q = 1 ∨ q = 2 → meas l q (ms ++ [m], fr, m.2.1, 1, 0, m.2.2.1) < meas l 0 (ms, fr, la, co, mi, v) := by
      intro q hq
      rcases hq with rfl | rfl <;> (simp only [meas_e0, meas_e1, meas_e2]; omega)
     have hq : aft r 1 = 1 ∨ aft r 1 = 2 := (aft_or r 1).imp And.left id
     have hm' := hla _ hq
     refine ⟨aft r 1, _, by simp only [nxt, hf], by rcases hq with h | h <;> omega, ⟨hfr, fun _ => ⟨by simp only; omega, by simp only; omega⟩, fun e => ⟨by simp only; omega, ?_⟩, fun _ => ⟨by simp only; omega, by simp only; omega⟩, ?_, ?_, fun _ => ?_⟩, hm'⟩
     ·rcases aft_or r 1 with ⟨_, h⟩ | h
      ·exact h
      ·omega
     ·simp only [List.length_append, List.length_singleton]; omega
     ·exact link_add hlink fun _ => .inl hat.2
     ·exact last_add ms m
 | 1, _ =>
   have hpos := meas_pos hg (by omega)
   have hla := hg.la (.inl rfl)
   have hco := hg.co rfl
   have hlast := hg.last (.inl rfl)
   simp only at hla hco hlast
   by_cases ho : over r l la
   ·obtain ⟨g1, g2⟩ := hend 1 hpos hms
    exact ⟨3, _, by simp only [nxt, if_pos ho], by omega, g1, g2⟩
   ·have ho' : ¬ la + r.2.1 + r.2.2.2.2.2 + (r.1.length : Int) > (l.length : Int) := ho
    cases hf : expD r l v (la + r.2.1) with
    | none =>
      have hm' : meas l 0 (ms ++ [((4 : Int), la + r.2.1, v, wI r l v (la + r.2.1), (0 : Int))], la + 1, la, co, mi, v) < meas l 1 (ms, fr, la, co, mi, v) := by simp only [meas_e0, meas_e1, meas_e2]; omega
      refine ⟨0, _, by simp only [nxt, if_neg ho, hf], by omega, ⟨⟨by simp only; omega, by simp only; omega⟩, fun h => by omega, fun h => by omega, fun h => by omega, ?_, link_add hlink fun _ => .inr (.inl rfl), fun h => by omega⟩, hm'⟩
      simp only [List.length_append, List.length_singleton]; omega
    | some d =>
      have hd := expD_in h hf
      have hla2 : ∀ q, q = 1 ∨ q = 2 → meas l q (ms ++ [((1 : Int), la + r.2.1 + d, v, wI r l v (la + r.2.1 + d), d)], fr, la + r.2.1 + d, co + 1, 0, v) < meas l 1 (ms, fr, la, co, mi, v) := by
       intro q hq
       rcases hq with rfl | rfl <;> (simp only [meas_e0, meas_e1, meas_e2]; omega)
      have hq : aft r (co + 1) = 1 ∨ aft r (co + 1) = 2 := (aft_or r (co + 1)).imp And.left id
      have hm' := hla2 _ hq
      refine ⟨aft r (co + 1), _, by simp only [nxt, if_neg ho, hf], by rcases hq with h | h <;> omega, ⟨hfr, fun _ => ⟨by simp only; omega, by simp only; omega⟩, fun e => ⟨by simp only; omega, ?_⟩, fun _ => ⟨by simp only; omega, by simp only; omega⟩, ?_, ?_, fun _ => last_add ms _⟩, hm'⟩
      ·rcases aft_or r (co + 1) with ⟨_, h⟩ | h
       ·exact h
       ·omega
      ·simp only [List.length_append, List.length_singleton]; omega
      ·refine link_add hlink fun _ => .inr (.inr ?_)
       rw [hlast.2]
       exact ⟨hla.1, by simp only; omega, by simp only; omega⟩
 | 2, _ =>
   have hpos := meas_pos hg (by omega)
   have hla := hg.la (.inr rfl)
   have hmi := hg.mi rfl
   have hlast := hg.last (.inr rfl)
   simp only at hla hmi hlast
   by_cases ho : over r l la
   ·obtain ⟨g1, g2⟩ := hend 2 hpos hms
    exact ⟨3, _, by simp only [nxt, if_pos ho], by omega, g1, g2⟩
   ·have ho' : ¬ la + r.2.1 + r.2.2.2.2.2 + (r.1.length : Int) > (l.length : Int) := ho
    cases hf : expD r l v (la + r.2.1) with
    | none =>
      by_cases g : mi + 1 > r.2.2.2.2.1
      ·have hm' : meas l 0 (ms ++ [((4 : Int), la + r.2.1, v, wI r l v (la + r.2.1), (0 : Int))], la + r.2.1, la, co, mi + 1, v) < meas l 2 (ms, fr, la, co, mi, v) := by simp only [meas_e0, meas_e1, meas_e2]; omega
       refine ⟨0, _, by simp only [nxt, if_neg ho, hf, if_pos g], by omega, ⟨⟨by simp only; omega, by simp only; omega⟩, fun h => by omega, fun h => by omega, fun h => by omega, ?_, link_add hlink fun _ => .inr (.inl rfl), fun h => by omega⟩, hm'⟩
       simp only [List.length_append, List.length_singleton]; omega
      ·have hm' : meas l 2 (ms ++ [((3 : Int), la + r.2.1, v, wI r l v (la + r.2.1), (0 : Int))], fr, la + r.2.1, co, mi + 1, v) < meas l 2 (ms, fr, la, co, mi, v) := by simp only [meas_e0, meas_e1, meas_e2]; omega
       refine ⟨2, _, by simp only [nxt, if_neg ho, hf, if_neg g], by omega, ⟨hfr, fun _ => ⟨by simp only; omega, by simp only; omega⟩, fun e => by omega, fun _ => ⟨by simp only; omega, by simp only; omega⟩, ?_, ?_, fun _ => last_add ms _⟩, hm'⟩
       ·simp only [List.length_append, List.length_singleton]; omega
       ·refine link_add hlink fun _ => .inr (.inr ?_)
        rw [hlast.2]
        exact ⟨hla.1, by simp only; omega, by simp only; omega⟩
    | some d =>
      have hd := expD_in h hf
      have hm' : meas l 2 (ms ++ [((2 : Int), la + r.2.1 + d, v, wI r l v (la + r.2.1 + d), d)], fr, la + r.2.1 + d, co, 0, v) < meas l 2 (ms, fr, la, co, mi, v) := by simp only [meas_e0, meas_e1, meas_e2]; omega
      refine ⟨2, _, by simp only [nxt, if_neg ho, hf], by omega, ⟨hfr, fun _ => ⟨by simp only; omega, by simp only; omega⟩, fun e => by omega, fun _ => ⟨by simp only; omega, by simp only; omega⟩, ?_, ?_, fun _ => last_add ms _⟩, hm'⟩
      ·simp only [List.length_append, List.length_singleton]; omega
      ·refine link_add hlink fun _ => .inr (.inr ?_)
       rw [hlast.2]
       exact ⟨hla.1, by simp only; omega, by simp only; omega⟩
theorem mach_good (h : Fit r) (hl : l.length ≤ 1000) : ∀ (f p : Nat) (s : St), p ≤ 3 → Good r l p s → (mach r l f p s).1.length ≤ 5000 ∧ Link r.1.length l.length (mach r l f p s).1
 | 0, p, s, _, hg => ⟨by have := hg.ms; show s.1.length ≤ _; omega, hg.link⟩
 | f + 1, p, s, hp, hg => by
   by_cases h2 : p ≤ 2
   ·obtain ⟨p', s', hn, hp', hg', _⟩ := good_next h hl hg h2
    rw [show mach r l (f + 1) p s = mach r l f p' s' by rw [mach, hn]]
    exact mach_good h hl f p' s' hp' hg'
   ·have : p = 3 := by omega
    subst this
    exact ⟨by have := hg.ms; show s.1.length ≤ _; omega, hg.link⟩
theorem marksV_good (h : Fit r) (hl : l.length ≤ 1000) : (marksV r l).length ≤ 5000 ∧ Link r.1.length l.length (marksV r l) := mach_good h hl _ 0 st0 (by omega) (good_0 h hl)
end
end Go.Proofs.Ythckjfbhdjjnkaa
