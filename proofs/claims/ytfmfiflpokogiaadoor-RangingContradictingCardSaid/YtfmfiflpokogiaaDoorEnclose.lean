import Derived.Test.YtfmfiflpokogiaaDoorRefMost
set_option linter.unusedSimpArgs false
namespace Go.Proofs.YtfmfiflpokogiaaDoor
open Go.Ev
theorem mc_ok {t g h : Hf} (ht : DOk t) (hg : HOk g) (hh : HOk h) {same : Bool} : ∀ f, mc t g h same = some f → FOk f := fun f hf => by
 have d1 := dt_facts hg.d hh.d
 have d2 := dt_facts ht hh.d
 have d3 := dt_facts hg.d ht
 obtain ⟨n1, n2, n3⟩ := nrm_facts d1 d2 d3
 unfold mc at hf
 generalize nrm (dt g h) (dt t h) (dt g t) = x at *
 have m1 := mulB (a := x.2.1) (b := g.2.2) (A := 2000) (B := 100000) (by omega) (by have := hg.2.2; omega)
 have m2 := mulB (a := x.2.2) (b := h.2.2) (A := 2000) (B := 100000) (by omega) (by have := hh.2.2; omega)
 split at hf
 ·split at hf
  ·rename_i hc
   obtain rfl := Option.some.inj hf
   have q1 := ab_of t.1; have q2 := ab_of t.2.1; have q3 := ab_of g.1; have q4 := ab_of g.2.1
   obtain ⟨t1, t2⟩ := ht
   have hgd := hg.d
   obtain ⟨g1, g2⟩ := hgd
   have m3 := mulB (a := ab t.1 + ab t.2.1) (b := g.2.2) (A := 1001) (B := 100000) (by omega) (by have := hg.2.2; omega)
   have hpos : 0 < ab g.1 + ab g.2.1 := by
    rcases hg.1 with h | h | ⟨_, h⟩ <;> omega
   exact lowF_ok (by omega) (by omega)
  ·cases hf
 ·split at hf
  ·cases hf
  ·obtain rfl := Option.some.inj hf
   exact lowF_ok (by omega) (by omega)
theorem tkF_ok {st c : Option Fr} (h1 : ∀ f, st = some f → FOk f) (h2 : ∀ f, c = some f → FOk f) : ∀ f, tkF st c = some f → FOk f := fun f hf => by
 cases c with
 | none => exact h1 f hf
 | some c =>
   cases st with
   | none => exact h2 f hf
   | some o =>
     have ht : tkF (some o) (some c) = bif decide (c.1 * o.2 < o.1 * c.2) then some c else some o := rfl
     rw [ht] at hf
     cases hb : decide (c.1 * o.2 < o.1 * c.2) with
     | true => rw [hb] at hf; exact h2 f hf
     | false => rw [hb] at hf; exact h1 f hf
section
variable {H : List Hf} (hH : ∀ h ∈ H, HOk h) (hlen : H.length ≤ 1000) {a b : Int} (ht : DOk (a, b, 0)) {t6 : Int × Int}
include hH hlen ht
theorem step111 {st : Option Fr} (hst : ∀ f, st = some f → FOk f) {i j : Nat} (hi : i < H.length) (hj : j < H.length) :
 step111_2 (H, a, b, (encM st).1, (i : Int), (j : Int), t6, (encM st).2, (a, b, 0)) = some (.inl (H, a, b, (encM (tkF st (mc (a, b, 0) (H.getD i hf0) (H.getD j hf0) (i == j)))).1, (i : Int), ((j + 1 : Nat) : Int), t6, (encM (tkF st (mc (a, b, 0) (H.getD i hf0) (H.getD j hf0) (i == j)))).2, (a, b, 0))) := by
 have kg := hH _ (getD_mem hf0 hi)
 have kh := hH _ (getD_mem hf0 hj)
 obtain ⟨g, hg'⟩ : ∃ f : Hf, H.getD i hf0 = f := ⟨_, rfl⟩
 obtain ⟨h, hh'⟩ : ∃ f : Hf, H.getD j hf0 = f := ⟨_, rfl⟩
 have hg2 : H.getD i (0, 0, 0) = g := hg'
 have hh2 : H.getD j (0, 0, 0) = h := hh'
 rw [hg'] at kg; rw [hh'] at kh
 rw [hg', hh']
 have gd := kg.d; have hd := kh.d
 have t1 : -1 ≤ a ∧ a ≤ 1 := ht.1
 have t2 : -1000 ≤ b ∧ b ≤ 1000 := ht.2
 have z1 := gd.1; have z2 := gd.2
 have hij : ((i : Int) != (j : Int)) = !(i == j) := by
  by_cases e : i = j
  ·subst e; simp
  ·rw [ne_cast, decide_eq_true (show i ≠ j from e), show (i == j) = false from beq_false_of_ne e]
   rfl
 simp only [step111_2, hg2, hh2, lt_cast, inB_cast, hi, hj, decide_true, cond_true, Int.toNat_natCast, det_eq gd hd, det_eq (g := (a, b, 0)) ⟨t1, t2⟩ hd, det_eq (h := (a, b, 0)) gd ⟨t1, t2⟩, optE_some, wr_succ (show j < 4611686018427387904 by omega),
  size_ab (n := g.1) (by omega), size_ab (n := g.2.1) (by omega), size_ab (n := a) (by omega), size_ab (n := b) (by omega), hij]
 have d1 := dt_facts gd hd
 have d2 := dt_facts (g := (a, b, 0)) ⟨t1, t2⟩ hd
 have d3 := dt_facts (h := (a, b, 0)) gd ⟨t1, t2⟩
 have q1 := ab_of a; have q2 := ab_of b; have q3 := ab_of g.1; have q4 := ab_of g.2.1
 have m1 := mulB (a := g.1) (b := a) (A := 1) (B := 1) (by omega) (by omega)
 have m2 := mulB (a := g.2.1) (b := b) (A := 1000) (B := 1000) (by omega) (by omega)
 have m3 := mulB (a := ab a + ab b) (b := g.2.2) (A := 1001) (B := 100000) (by omega) (by have := kg.2.2; omega)
 have m4 := mulB (a := dt (a, b, 0) h) (b := g.2.2) (A := 2000) (B := 100000) (by omega) (by have := kg.2.2; omega)
 have m5 := mulB (a := dt g (a, b, 0)) (b := h.2.2) (A := 2000) (B := 100000) (by omega) (by have := kh.2.2; omega)
 have hpos : 0 < ab g.1 + ab g.2.1 := by rcases kg.1 with h | h | ⟨_, h⟩ <;> omega
 have alone : (nrm (dt g h) (dt (a, b, 0) h) (dt g (a, b, 0))).1 = 0 →
  (bif !(i == j) then some (.inl (H, a, b, (encM st).1, (i : Int), ((j + 1 : Nat) : Int), t6, (encM st).2, ((a, b, 0) : Hf)))
    else bif dt g (a, b, 0) != 0 then some (.inl (H, a, b, (encM st).1, (i : Int), ((j + 1 : Nat) : Int), t6, (encM st).2, ((a, b, 0) : Hf)))
    else bif decide (wr (wr (g.1 * a) + wr (g.2.1 * b)) ≤ 0) then some (.inl (H, a, b, (encM st).1, (i : Int), ((j + 1 : Nat) : Int), t6, (encM st).2, ((a, b, 0) : Hf)))
    else bif decide (wr (ab a + ab b) < 0) then some (.inl (H, a, b, (encM st).1, (i : Int), ((j + 1 : Nat) : Int), t6, (encM st).2, ((a, b, 0) : Hf)))
    else optE (s70 (wr (wr (ab a + ab b) * g.2.2), wr (ab g.1 + ab g.2.1))) (fun r9 => bif !(encM st).1 then some (.inl (H, a, b, true, (i : Int), ((j + 1 : Nat) : Int), t6, r9, ((a, b, 0) : Hf)))
     else optE (s131 (r9, (encM st).2)) (fun r10 => bif decide (r10 < 0) then some (.inl (H, a, b, true, (i : Int), ((j + 1 : Nat) : Int), t6, r9, ((a, b, 0) : Hf))) else some (.inl (H, a, b, (encM st).1, (i : Int), ((j + 1 : Nat) : Int), t6, (encM st).2, ((a, b, 0) : Hf)))) none) none) =
  some (.inl (H, a, b, (encM (tkF st (mc (a, b, 0) g h (i == j)))).1, (i : Int), ((j + 1 : Nat) : Int), t6, (encM (tkF st (mc (a, b, 0) g h (i == j)))).2, (a, b, 0)) : _ ⊕ (List Hf × Int × Int × Bool × Int × (Int × Int) × (Int × Int) × Int × Int × Int)) := fun h0 => by
  have hm : mc (a, b, 0) g h (i == j) = if (i == j) = true ∧ dt g (a, b, 0) = 0 ∧ 0 < g.1 * a + g.2.1 * b then some (lowF ((ab a + ab b) * g.2.2) (ab g.1 + ab g.2.1)) else none := by
   unfold mc; rw [if_pos h0]
  rw [hm, wr_id (n := g.1 * a) (by omega) (by omega), wr_id (n := g.2.1 * b) (by omega) (by omega), wr_id (n := g.1 * a + g.2.1 * b) (by omega) (by omega), wr_id (n := ab a + ab b) (by omega) (by omega), wr_id (n := ab g.1 + ab g.2.1) (by omega) (by omega), wr_id (n := (ab a + ab b) * g.2.2) (by omega) (by omega),
   lowest2 (n := (ab a + ab b) * g.2.2) (d := ab g.1 + ab g.2.1) (by omega) (by omega) (by omega) (by omega), decide_eq_false (show ¬ ab a + ab b < 0 by omega), optE_some]
  by_cases h1 : (i == j) = true
  ·rw [h1]
   by_cases h2 : dt g (a, b, 0) = 0
   ·rw [show (dt g (a, b, 0) != 0) = false by simpa using h2]
    by_cases h3 : 0 < g.1 * a + g.2.1 * b
    ·rw [decide_eq_false (show ¬ g.1 * a + g.2.1 * b ≤ 0 by omega), if_pos ⟨rfl, h2, h3⟩]
     simp only [Bool.not_true, cond_false]
     exact takeM_enc (fun o => (Sum.inl (H, a, b, o.1, (i : Int), ((j + 1 : Nat) : Int), t6, o.2, (a, b, 0)) : _ ⊕ _)) hst (lowF_ok (by omega) (by omega))
    ·rw [decide_eq_true (show g.1 * a + g.2.1 * b ≤ 0 by omega), if_neg (fun h => h3 h.2.2)]; rfl
   ·rw [show (dt g (a, b, 0) != 0) = true by simpa using h2, if_neg (fun h => h2 h.2.1)]; rfl
  ·rw [show (i == j) = false by simpa using h1, if_neg (fun h => by cases h.1)]; rfl
 have two : ∀ D P Q : Int, nrm (dt g h) (dt (a, b, 0) h) (dt g (a, b, 0)) = (D, P, Q) → 0 < D ∧ D ≤ 2000 → -2000 ≤ P ∧ P ≤ 2000 → -2000 ≤ Q ∧ Q ≤ 2000 →
  (bif decide (P < 0) then some (.inl (H, a, b, (encM st).1, (i : Int), ((j + 1 : Nat) : Int), t6, (encM st).2, ((a, b, 0) : Hf)))
    else bif decide (Q < 0) then some (.inl (H, a, b, (encM st).1, (i : Int), ((j + 1 : Nat) : Int), t6, (encM st).2, ((a, b, 0) : Hf)))
    else optE (s70 (wr (wr (P * g.2.2) + wr (Q * h.2.2)), D)) (fun r9 => bif !(encM st).1 then some (.inl (H, a, b, true, (i : Int), ((j + 1 : Nat) : Int), t6, r9, ((a, b, 0) : Hf)))
     else optE (s131 (r9, (encM st).2)) (fun r10 => bif decide (r10 < 0) then some (.inl (H, a, b, true, (i : Int), ((j + 1 : Nat) : Int), t6, r9, ((a, b, 0) : Hf))) else some (.inl (H, a, b, (encM st).1, (i : Int), ((j + 1 : Nat) : Int), t6, (encM st).2, ((a, b, 0) : Hf)))) none) none) =
  some (.inl (H, a, b, (encM (tkF st (mc (a, b, 0) g h (i == j)))).1, (i : Int), ((j + 1 : Nat) : Int), t6, (encM (tkF st (mc (a, b, 0) g h (i == j)))).2, (a, b, 0)) : _ ⊕ (List Hf × Int × Int × Bool × Int × (Int × Int) × (Int × Int) × Int × Int × Int)) := fun D P Q hn hD hP hQ => by
  have hm : mc (a, b, 0) g h (i == j) = if P < 0 ∨ Q < 0 then none else some (lowF (P * g.2.2 + Q * h.2.2) D) := by
   unfold mc
   rw [hn, if_neg (by simp only; omega)]
  have p1 := mulB (a := P) (b := g.2.2) (A := 2000) (B := 100000) (by omega) (by have := kg.2.2; omega)
  have p2 := mulB (a := Q) (b := h.2.2) (A := 2000) (B := 100000) (by omega) (by have := kh.2.2; omega)
  rw [hm, wr_id (n := P * g.2.2) (by omega) (by omega), wr_id (n := Q * h.2.2) (by omega) (by omega), wr_id (n := P * g.2.2 + Q * h.2.2) (by omega) (by omega), lowest2 (n := P * g.2.2 + Q * h.2.2) (d := D) (by omega) (by omega) (by omega) (by omega), optE_some]
  by_cases h1 : P < 0
  ·rw [decide_eq_true h1, if_pos (.inl h1)]; rfl
  ·rw [decide_eq_false h1]
   by_cases h2 : Q < 0
   ·rw [decide_eq_true h2, if_pos (.inr h2)]; rfl
   ·rw [decide_eq_false h2, if_neg (by omega)]
    simp only [cond_false]
    exact takeM_enc (fun o => (Sum.inl (H, a, b, o.1, (i : Int), ((j + 1 : Nat) : Int), t6, o.2, (a, b, 0)) : _ ⊕ _)) hst (lowF_ok (by omega) (by omega))
 by_cases hd0 : dt g h < 0
 ·have hn : nrm (dt g h) (dt (a, b, 0) h) (dt g (a, b, 0)) = (-dt g h, -dt (a, b, 0) h, -dt g (a, b, 0)) := if_pos hd0
  rw [decide_eq_true hd0, cond_true, wr_id (n := -dt g h) (by omega) (by omega), wr_id (n := -dt (a, b, 0) h) (by omega) (by omega), wr_id (n := -dt g (a, b, 0)) (by omega) (by omega), show (-dt g h == 0) = false by simp; omega, cond_false]
  exact two _ _ _ hn (by omega) (by omega) (by omega)
 ·have hn : nrm (dt g h) (dt (a, b, 0) h) (dt g (a, b, 0)) = (dt g h, dt (a, b, 0) h, dt g (a, b, 0)) := if_neg hd0
  rw [decide_eq_false hd0, cond_false]
  by_cases h0 : dt g h = 0
  ·rw [show (dt g h == 0) = true by simpa using h0, cond_true]
   exact alone (by rw [hn]; exact h0)
  ·rw [show (dt g h == 0) = false by simpa using h0, cond_false]
   exact two _ _ _ hn (by omega) (by omega) (by omega)
theorem loop111 {i : Nat} (hi : i < H.length) : ∀ (m j : Nat) (st : Option Fr), j + m = H.length → (∀ f, st = some f → FOk f) →
 ∃ st', st' = (List.range' j m).foldl (fun st j => tkF st (mc (a, b, 0) (H.getD i hf0) (H.getD j hf0) (i == j))) st ∧ (∀ f, st' = some f → FOk f) ∧
  loopVal step111_2 (H, a, b, (encM st).1, (i : Int), (j : Int), t6, (encM st).2, (a, b, 0)) = some (H, a, b, (encM st').1, (i : Int), t6, (encM st').2, (a, b, 0)) := by
 intro m
 induction m with
 | zero =>
   intro j st hj hst
   obtain rfl : j = H.length := by omega
   exact ⟨st, rfl, hst, loopVal_last (by simp [step111_2])⟩
 | succ m ih =>
   intro j st hj hst
   have hj' : j < H.length := by omega
   have hnext := tkF_ok hst (mc_ok (t := (a, b, 0)) ht (hH _ (getD_mem hf0 hi)) (hH _ (getD_mem hf0 hj')) (same := i == j))
   obtain ⟨st', e, h1, h2⟩ := ih (j + 1) _ (by omega) hnext
   refine ⟨st', ?_, h1, ?_⟩
   ·rw [e, List.range'_succ, List.foldl_cons]
   ·rw [loopVal_next (step111 hH hlen ht hst hi hj')]
    exact h2
theorem loop111o : ∀ (m i : Nat) (st : Option Fr), i + m = H.length → (∀ f, st = some f → FOk f) →
 ∃ st', st' = (List.range' i m).foldl (fun st i => (List.range' 0 H.length).foldl (fun st j => tkF st (mc (a, b, 0) (H.getD i hf0) (H.getD j hf0) (i == j))) st) st ∧ (∀ f, st' = some f → FOk f) ∧
  loopVal step111_0 (H, a, b, (encM st).1, (i : Int), t6, (encM st).2, (a, b, 0)) = some ((encM st').1, t6, (encM st').2) := by
 intro m
 induction m with
 | zero =>
   intro i st hi hst
   obtain rfl : i = H.length := by omega
   exact ⟨st, rfl, hst, loopVal_last (by simp [step111_0])⟩
 | succ m ih =>
   intro i st hi hst
   have hi' : i < H.length := by omega
   obtain ⟨s1, e1, k1, l1⟩ := loop111 hH hlen ht (t6 := t6) hi' H.length 0 st (by omega) hst
   obtain ⟨s2, e2, k2, l2⟩ := ih (i + 1) s1 (by omega) k1
   refine ⟨s2, ?_, k2, ?_⟩
   ·rw [e2, List.range'_succ, List.foldl_cons, ← e1]
   ·have hs : step111_0 (H, a, b, (encM st).1, (i : Int), t6, (encM st).2, (a, b, 0)) = some (.inl (H, a, b, (encM s1).1, ((i + 1 : Nat) : Int), t6, (encM s1).2, (a, b, 0))) := by
     rw [show ((0 : Nat) : Int) = 0 from rfl] at l1
     simp only [step111_0, lt_cast, hi', decide_true, cond_true, l1, optE_some, wr_succ (show i < 4611686018427387904 by omega)]
    rw [loopVal_next hs]
    exact l2
end
def mcL (t : Hf) (H : List Hf) : List (Option Fr) := (List.range' 0 H.length).flatMap fun i => (List.range' 0 H.length).map fun j => mc t (H.getD i hf0) (H.getD j hf0) (i == j)
theorem most_eq {H : List Hf} (hH : ∀ h ∈ H, HOk h) (hlen : H.length ≤ 1000) {a b : Int} (ht : DOk (a, b, 0)) :
 (∀ f, (mcL (a, b, 0) H).foldl tkF none = some f → FOk f) ∧ s111 (H, a, b) = some ((encM ((mcL (a, b, 0) H).foldl tkF none)).2, (encM ((mcL (a, b, 0) H).foldl tkF none)).1) := by
 obtain ⟨st', e, k, h⟩ := loop111o hH hlen ht (t6 := (0, 0)) H.length 0 none (by omega) (fun f h => by cases h)
 have he : (mcL (a, b, 0) H).foldl tkF none = st' := by
  rw [e]
  unfold mcL
  rw [List.foldl_flatMap]
  congr 1
  funext st i
  rw [List.foldl_map]
 rw [he]
 refine ⟨k, ?_⟩
 rw [show ((0 : Nat) : Int) = 0 from rfl] at h
 unfold s111
 simp only [encM] at h
 simp only [h, optE_some]
 rfl
end Go.Proofs.YtfmfiflpokogiaaDoor
