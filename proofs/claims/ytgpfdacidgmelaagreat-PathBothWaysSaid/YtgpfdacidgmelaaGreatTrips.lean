/- Chapter 1: round trips; PathTrips. -/
import Derived.Test.YtgpfdacidgmelaaGreatReceived
import Derived.Test.YtgpfdacidgmelaaGreatGb6
set_option linter.unusedSimpArgs false
namespace Go.Proofs.YtgpfdacidgmelaaGreat
open Go.Ev

theorem bothE_swap {a b : Tr} (h : bothE a b = 0) : bothE b a = 0 := by
  obtain ⟨h1, h2⟩ := bothE_zero h
  unfold bothE
  rw [h1, h2]; rfl
/-- When a signal is received, whatever the time. -/
inductive RecvAt (a b : Tr) (t : Int) : (Int × Int) → Int → Prop
  | ok (x : Int × Int) (h : Recv a b t x) (ht : timesE t a b = 0) (r : s26 (a, b, t) = some (x, true)) : RecvAt a b t x 0
  | none (h : arrT a b t (lastT b) = false) (ht : timesE t a b = 0) (r : s26 (a, b, t) = some ((0, 0), false)) : RecvAt a b t (0, 0) 12
  | time (ht : timesE t a b ≠ 0) : RecvAt a b t (0, 0) (timesE t a b)
theorem recv_all {a b : Tr} (hb : bothE a b = 0) (t : Int) : ∃ x e, s24 (a, b, t) = some (x, e) ∧ RecvAt a b t x e := by
  by_cases ht : timesE t a b = 0
  · rcases recv_same (pair_of hb ht) with ⟨h, p, r⟩ | ⟨x, h, p, r⟩
    · exact ⟨_, _, receivedAt_ok hb ht p, .none h ht r⟩
    · exact ⟨_, _, receivedAt_ok hb ht p, .ok x h ht r⟩
  · exact ⟨_, _, receivedAt_times hb ht, .time ht⟩

theorem trip_step {a b : Tr} (hb : bothE a b = 0) {l : List Int} {i : Nat} (hi : i < 2) (hl : l.length = 2) {out : List (Int × Int)} (ho : out.length = 2) {x : Int × Int} {e : Int} (hr : RecvAt b a (l.getD i 0) x e) :
    step23_0 (l, (i : Int), a, b, (0, 0), out) = bif e != 0 then some (.inr (.inl (e, (0, 0)))) else some (.inl (l, ((i + 1 : Nat) : Int), a, b, (0, 0), out.set i x)) := by
  have hv := bothE_zero hb
  have hte := s17_eq (valid_of hv.2) (valid_of hv.1) (l.getD i 0)
  rw [show (bif tErr (l.getD i 0) b != 0 then tErr (l.getD i 0) b else tErr (l.getD i 0) a) = timesE (l.getD i 0) b a from rfl] at hte
  have hi2 : inBounds (i : Int) 2 = true := inb_nat hi
  have hil : inBounds (i : Int) l.length = true := inb_nat (by omega)
  have hdec : decide ((i : Int) < 2) = true := decide_eq_true (by omega)
  simp only [step23_0, hdec, hil, hi2, cond_true, Int.toNat_natCast, hte, optE_some, ho, decide_true, Bool.and_self, wr_succ (show i < 4611686018427387904 by omega)]
  cases hr with
  | ok x h ht r => simp only [ht, show ((0 : Int) != 0) = false from rfl, cond_false, r, optE_some, Bool.not_true]
  | none h ht r => simp only [ht, show ((0 : Int) != 0) = false from rfl, cond_false, r, optE_some, Bool.not_false, cond_true]; rfl
  | time ht => simp only [ne_true ht, cond_true]

theorem trip_same {a b : Tr} (hb : bothE a b = 0) (t : Int) : ∃ r, s22 (a, b, t) = some r ∧ s23 (a, b, t) = some r := by
  have hv := bothE_zero hb
  have hte := s17_eq (valid_of hv.1) (valid_of hv.2) t
  rw [show (bif tErr t a != 0 then tErr t a else tErr t b) = timesE t a b from rfl] at hte
  obtain ⟨x, e, h1, h2⟩ := recv_all hb t
  unfold s22 s23
  simp only [h1, hte, optE_some]
  cases h2 with
  | time ht =>
    simp only [ne_true ht, cond_true]
    exact ⟨_, rfl, rfl⟩
  | none h ht r =>
    simp only [ht, r, optE_some, show ((0 : Int) != 0) = false from rfl, show ((12 : Int) != 0) = true from rfl, cond_false, cond_true, Bool.not_false]
    exact ⟨_, rfl, rfl⟩
  | ok x h ht r =>
    simp only [ht, r, optE_some, show ((0 : Int) != 0) = false from rfl, cond_false, Bool.not_true]
    obtain ⟨y, f, k1, k2⟩ := recv_all (bothE_swap hb) x.1
    obtain ⟨z, g, k3, k4⟩ := recv_all (bothE_swap hb) x.2
    simp only [k1, k3, optE_some]
    rw [s65_eq _ (by simp), firstE_two]
    simp only [optE_some]
    have s1 : step23_0 ([x.1, x.2], 0, a, b, (0, 0), [(0, 0), (0, 0)]) = _ := trip_step hb (l := [x.1, x.2]) (i := 0) (by omega) rfl (out := [(0, 0), (0, 0)]) rfl k2
    have s2 := trip_step hb (l := [x.1, x.2]) (i := 1) (by omega) rfl (out := [y, (0, 0)]) rfl k4
    have s3 : step23_0 ([x.1, x.2], ((1 + 1 : Nat) : Int), a, b, (0, 0), [y, z]) = some (.inr (.inr ((0, 0), [y, z]))) := by
      simp only [step23_0]; rfl
    by_cases hf : f = 0
    · rw [ne_false hf, cond_false] at s1
      have s1' : step23_0 ([x.1, x.2], 0, a, b, (0, 0), [(0, 0), (0, 0)]) = some (.inl ([x.1, x.2], ((0 + 1 : Nat) : Int), a, b, (0, 0), [y, (0, 0)])) := s1
      by_cases hg : g = 0
      · rw [ne_false hg, cond_false] at s2
        have s2' : step23_0 ([x.1, x.2], ((0 + 1 : Nat) : Int), a, b, (0, 0), [y, (0, 0)]) = some (.inl ([x.1, x.2], ((1 + 1 : Nat) : Int), a, b, (0, 0), [y, z])) := s2
        refine ⟨((y.1, z.2), 0), by simp only [ne_false hf, ne_false hg, cond_false], ?_⟩
        rw [loopVal_next s1', loopVal_next s2', loopVal_last s3]
        rfl
      · rw [ne_true hg, cond_true] at s2
        have s2' : step23_0 ([x.1, x.2], ((0 + 1 : Nat) : Int), a, b, (0, 0), [y, (0, 0)]) = some (.inr (.inl (g, (0, 0)))) := s2
        refine ⟨((0, 0), g), by simp only [ne_false hf, ne_true hg, cond_false, cond_true], ?_⟩
        rw [loopVal_next s1', loopVal_last s2']
        rfl
    · rw [ne_true hf, cond_true] at s1
      refine ⟨((0, 0), f), by simp only [ne_true hf, cond_true], ?_⟩
      rw [loopVal_last s1]
      rfl
theorem trip_both {a b : Tr} (hb : bothE a b ≠ 0) (t : Int) : s22 (a, b, t) = some ((0, 0), bothE a b) := by
  unfold s22
  simp only [receivedAt_both hb, optE_some, ne_true hb, cond_true]

theorem trips_true (x : Tr × Tr × Int) : s5 x = some true := by
  obtain ⟨a, b, t⟩ := x
  unfold s5
  simp only [Bool.not_true, cond_false, s12_eq, optE_some]
  by_cases fa : a.1.length ≤ 14
  case neg => rw [decide_eq_false fa]; rfl
  by_cases fb : b.1.length ≤ 14
  case neg => rw [decide_eq_false fb, Bool.and_false]; rfl
  rw [decide_eq_true fa, decide_eq_true fb]
  have hbe := s16_eq a b
  rw [show (bif (trkE a).2 != 0 then (trkE a).2 else (trkE b).2) = bothE a b from rfl] at hbe
  simp only [Bool.and_self, Bool.not_true, cond_false, few_copy fa, few_copy fb, optE_some, hbe]
  by_cases h : bothE a b = 0
  case neg =>
    simp only [trip_both h, optE_some, ne_true h, cond_true, beq_self_eq_true]
    rfl
  obtain ⟨r, r1, r2⟩ := trip_same h t
  simp only [h, r1, r2, optE_some, show ((0 : Int) != 0) = false from rfl, cond_false, cond_true, beq_self_eq_true, Bool.and_self]
end Go.Proofs.YtgpfdacidgmelaaGreat
