/- The loop of symbol.run, as symbol.Marks meets it, is the machine. -/
import Derived.Test.YthckjfbhdjjnkaaMachine
set_option linter.unusedSimpArgs false
namespace Go.Proofs.Ythckjfbhdjjnkaa
open Go.Ev
section
variable {r : Rule} {l : List Int}
theorem found_loopa (h : Fit r) (hl : l.length ≤ 1000) (s : St) (hms : s.1.length ≤ 100000) : ∀ (d k : Nat), places r.1 l - k = d → k ≤ l.length →
 loopVal (strip Lp61_0 step89_0) ((k : Int), (), (), pk r l s, ()) = some (match firstAt (markAt r.1 l r.2.2.1) d k with
  | some m => bif decide (1 ≥ r.2.2.2.1) then .inl ((), pk r l (s.1 ++ [m], s.2.1, m.2.1, 1, 0, m.2.2.1), ()) else .inr (.inl ((), pk r l (s.1 ++ [m], s.2.1, m.2.1, 1, 0, m.2.2.1), ()))
  | none => .inr (.inr ((), pk r l s, ()))) := by
 have c1 : ∀ a b : Nat, decide (((a : Nat) : Int) ≤ (b : Int)) = decide (a ≤ b) := fun a b => by simp
 intro d
 induction d with
 | zero =>
   intro k hk hkl
   have hend : ¬ k + r.1.length ≤ l.length := by unfold places at hk; omega
   have f4 := h.len
   have e1 : wr ((k : Int) + (r.1.length : Int)) = ((k + r.1.length : Nat) : Int) := by rw [wr_id (by omega) (by omega)]; omega
   refine loopVal_last (strip_some (i := Lp61_0) (r := .inr _) ?_)
   simp only [step89_0, pk, e1, c1]
   rw [decide_eq_false hend, cond_false]
   rfl
 | succ d ih =>
   intro k hk hkl
   have hlt : k + r.1.length ≤ l.length := by unfold places at hk; omega
   have f4 := h.len
   have e1 : wr ((k : Int) + (r.1.length : Int)) = ((k + r.1.length : Nat) : Int) := by rw [wr_id (by omega) (by omega)]; omega
   have e2 := wr_succ (show k < 4611686018427387904 by omega)
   have hroom := room_true (b := 40) (n := s.1.length + 1) (by omega) (by omega)
   have ha := wrong_a (m := r.1) (l := l) (a := k) hl hlt
   by_cases g1 : (wrongN r.1 l k r.1.length).1 ≤ r.2.2.1
   ·have hm : markAt r.1 l r.2.2.1 k = some (0, (k : Int), false, (wrongN r.1 l k r.1.length).1, 0) := if_pos g1
    simp only [firstAt, hm]
    refine loopVal_last (strip_some (i := Lp61_0) (r := .inr _) ?_)
    simp only [step89_0, pk, e1, c1, ha, optE_some, decide_eq_true hlt, cond_true, cond_false, decide_eq_false (show ¬ (wrongN r.1 l k r.1.length).1 > r.2.2.1 by omega), decide_eq_true g1, hroom]
    cases decide (1 ≥ r.2.2.2.1) <;> rfl
   ·by_cases g2 : (wrongN r.1 l k r.1.length).2 ≤ r.2.2.1
    ·have hm : markAt r.1 l r.2.2.1 k = some (0, (k : Int), true, (wrongN r.1 l k r.1.length).2, 0) := by unfold markAt; rw [if_neg g1, if_pos g2]
     simp only [firstAt, hm]
     refine loopVal_last (strip_some (i := Lp61_0) (r := .inr _) ?_)
     simp only [step89_0, pk, e1, c1, ha, optE_some, decide_eq_true hlt, cond_true, cond_false, decide_eq_true (show (wrongN r.1 l k r.1.length).1 > r.2.2.1 by omega), decide_eq_true g2, hroom]
     cases decide (1 ≥ r.2.2.2.1) <;> rfl
    ·have hm : markAt r.1 l r.2.2.1 k = none := by unfold markAt; rw [if_neg g1, if_neg g2]
     simp only [firstAt, hm]
     refine (loopVal_next (strip_some (i := Lp61_0) (r := .inl (((k + 1 : Nat) : Int), (), (), pk r l s, ())) ?_)).trans (ih (k + 1) (by omega) (by omega))
     simp only [step89_0, pk, e1, c1, ha, optE_some, decide_eq_true hlt, cond_true, cond_false, decide_eq_true (show (wrongN r.1 l k r.1.length).1 > r.2.2.1 by omega), decide_eq_false g2, e2]
theorem step0_a (h : Fit r) (hl : l.length ≤ 1000) {s : St} (hg : Good r l 0 s) : step44_0a_0 (pk r l s) = (match nxt r l 0 s with | some (p, t) => some (.inl (p, pk r l t)) | none => some (.inr (pk r l s))) := by
 obtain ⟨ms, fr, la, co, mi, v⟩ := s
 have h1 := hg.fr
 simp only at h1
 obtain ⟨k, rfl⟩ := Int.eq_ofNat_of_zero_le h1.1
 have hms := hg.ms
 have hf := found_loopa h hl (ms, (k : Int), la, co, mi, v) (by simp only at hms ⊢; omega) _ k rfl (by omega)
 simp only [step44_0a_0, onlyAt_eq, nxt]
 simp only [pk] at hf ⊢
 rw [hf]
 show optE (some (match firstAt (markAt r.1 l r.2.2.1) (places r.1 l - k) k with | some m => _ | none => _)) _ _ = _
 have hff : findFrom r l (Int.toNat (k : Int)) = firstAt (markAt r.1 l r.2.2.1) (places r.1 l - k) k := rfl
 rw [hff]
 cases firstAt (markAt r.1 l r.2.2.1) (places r.1 l - k) k with
 | none => rfl
 | some m =>
   by_cases g : (1 : Int) ≥ r.2.2.2.1
   ·simp only [decide_eq_true g, cond_true, optE_some, sumE, aft, if_pos g]
   ·simp only [decide_eq_false g, cond_false, optE_some, sumE, aft, if_neg g]
theorem expect1_a (h : Fit r) (hl : l.length ≤ 1000) (s : St) {kind x : Int} (hms : s.1.length ≤ 100000) (h0 : r.2.2.2.2.2 ≤ x) (h1 : x + r.2.2.2.2.2 + (r.1.length : Int) ≤ (l.length : Int)) :
 loopVal step98_0 (kind, x, r.2.2.2.2.2 + 1, 0, pk r l s) = some (match expD r l s.2.2.2.2.2 x with
  | some d => .inl (true, true, pk r l (s.1 ++ [(kind, x + d, s.2.2.2.2.2, wI r l s.2.2.2.2.2 (x + d), d)], s.2.1, x + d, s.2.2.2.1, 0, s.2.2.2.2.2))
  | none => .inr (pk r l s)) := by
 obtain ⟨ms, fr, la, co, mi, v⟩ := s
 have f1 := h.slip; have f4 := h.len
 obtain ⟨S, hS⟩ := Int.eq_ofNat_of_zero_le f1.1
 have hr : r.1.length ≤ 1000 := by omega
 have hroom := room_true (b := 40) (n := ms.length + 1) (by simp only at hms; omega) (by simp only at hms; omega)
 have k1 := loop_scan (step := step98_0) (st := fun k => (kind, x, r.2.2.2.2.2 + 1, (k : Int), pk r l (ms, fr, la, co, mi, v))) (n := S + 1)
  (hit := fun k => (hitD r l v x k).map fun d => .inl (true, true, pk r l (ms ++ [(kind, x + d, v, wI r l v (x + d), d)], fr, x + d, co, 0, v))) (e := .inr (pk r l (ms, fr, la, co, mi, v)))
  (fun k hk => by
    have hw1 := wrongAt_pk (r := r) (l := l) hr hl (ms, fr, la, co, mi, v) (p := x - (k : Int)) (by omega) (by omega)
    have hw2 := wrongAt_pk (r := r) (l := l) hr hl (ms, fr, la, co, mi, v) (p := x + (k : Int)) (by omega) (by omega)
    have e1 : wr (-(k : Int)) = -(k : Int) := wr_id (by omega) (by omega)
    have e2 : wr (x + -(k : Int)) = x - (k : Int) := by rw [wr_id (by omega) (by omega)]; omega
    have e3 : wr (x + (k : Int)) = x + (k : Int) := wr_id (by omega) (by omega)
    have e4 := wr_succ (show k < 4611686018427387904 by omega)
    have e5 : x + -(k : Int) = x - (k : Int) := by omega
    simp only [pk] at hw1 hw2 ⊢
    simp only [step98_0, decide_eq_true (show (k : Int) < r.2.2.2.2.2 + 1 by omega), cond_true, e1, e2, e3, e4, hw1, hw2, optE_some]
    unfold hitD
    by_cases g1 : wI r l v (x - (k : Int)) ≤ r.2.2.1
    ·rw [decide_eq_true g1, if_pos g1, cond_true, hroom, cond_true]
     simp only [Option.map_some, e5]
    ·rw [decide_eq_false g1, if_neg g1, cond_false]
     by_cases g2 : wI r l v (x + (k : Int)) ≤ r.2.2.1
     ·rw [decide_eq_true g2, if_pos g2, cond_true, hroom, cond_true]
      rfl
     ·rw [decide_eq_false g2, if_neg g2, cond_false]
      rfl)
  (by
    simp only [step98_0, pk]
    rw [decide_eq_false (by omega), cond_false]) (S + 1) 0 (by omega)
 rw [scan_first] at k1
 have hn : r.2.2.2.2.2.toNat + 1 = S + 1 := by rw [hS]; rfl
 have k1 : loopVal step98_0 (kind, x, r.2.2.2.2.2 + 1, 0, pk r l (ms, fr, la, co, mi, v)) = _ := k1
 simp only [expD, hn]
 rw [k1]
 cases firstAt (hitD r l v x) (S + 1) 0 <;> rfl
theorem expect2_a (h : Fit r) (hl : l.length ≤ 1000) (s : St) {kind x : Int} (hms : s.1.length ≤ 100000) (h0 : r.2.2.2.2.2 ≤ x) (h1 : x + r.2.2.2.2.2 + (r.1.length : Int) ≤ (l.length : Int)) :
 loopVal step98_0a (kind, x, r.2.2.2.2.2 + 1, 0, pk r l s) = some (match expD r l s.2.2.2.2.2 x with
  | some d => .inl (true, true, pk r l (s.1 ++ [(kind, x + d, s.2.2.2.2.2, wI r l s.2.2.2.2.2 (x + d), d)], s.2.1, x + d, s.2.2.2.1, 0, s.2.2.2.2.2))
  | none => .inr (pk r l s)) := by
 obtain ⟨ms, fr, la, co, mi, v⟩ := s
 have f1 := h.slip; have f4 := h.len
 obtain ⟨S, hS⟩ := Int.eq_ofNat_of_zero_le f1.1
 have hr : r.1.length ≤ 1000 := by omega
 have hroom := room_true (b := 40) (n := ms.length + 1) (by simp only at hms; omega) (by simp only at hms; omega)
 have k1 := loop_scan (step := step98_0a) (st := fun k => (kind, x, r.2.2.2.2.2 + 1, (k : Int), pk r l (ms, fr, la, co, mi, v))) (n := S + 1)
  (hit := fun k => (hitD r l v x k).map fun d => .inl (true, true, pk r l (ms ++ [(kind, x + d, v, wI r l v (x + d), d)], fr, x + d, co, 0, v))) (e := .inr (pk r l (ms, fr, la, co, mi, v)))
  (fun k hk => by
    have hw1 := wrongAt_pk (r := r) (l := l) hr hl (ms, fr, la, co, mi, v) (p := x - (k : Int)) (by omega) (by omega)
    have hw2 := wrongAt_pk (r := r) (l := l) hr hl (ms, fr, la, co, mi, v) (p := x + (k : Int)) (by omega) (by omega)
    have e1 : wr (-(k : Int)) = -(k : Int) := wr_id (by omega) (by omega)
    have e2 : wr (x + -(k : Int)) = x - (k : Int) := by rw [wr_id (by omega) (by omega)]; omega
    have e3 : wr (x + (k : Int)) = x + (k : Int) := wr_id (by omega) (by omega)
    have e4 := wr_succ (show k < 4611686018427387904 by omega)
    have e5 : x + -(k : Int) = x - (k : Int) := by omega
    simp only [pk] at hw1 hw2 ⊢
    simp only [step98_0a, decide_eq_true (show (k : Int) < r.2.2.2.2.2 + 1 by omega), cond_true, e1, e2, e3, e4, hw1, hw2, optE_some]
    unfold hitD
    by_cases g1 : wI r l v (x - (k : Int)) ≤ r.2.2.1
    ·rw [decide_eq_true g1, if_pos g1, cond_true, hroom, cond_true]
     simp only [Option.map_some, e5]
    ·rw [decide_eq_false g1, if_neg g1, cond_false]
     by_cases g2 : wI r l v (x + (k : Int)) ≤ r.2.2.1
     ·rw [decide_eq_true g2, if_pos g2, cond_true, hroom, cond_true]
      rfl
     ·rw [decide_eq_false g2, if_neg g2, cond_false]
      rfl)
  (by
    simp only [step98_0a, pk]
    rw [decide_eq_false (by omega), cond_false]) (S + 1) 0 (by omega)
 rw [scan_first] at k1
 have hn : r.2.2.2.2.2.toNat + 1 = S + 1 := by rw [hS]; rfl
 have k1 : loopVal step98_0a (kind, x, r.2.2.2.2.2 + 1, 0, pk r l (ms, fr, la, co, mi, v)) = _ := k1
 simp only [expD, hn]
 rw [k1]
 cases firstAt (hitD r l v x) (S + 1) 0 <;> rfl
theorem step1_a (h : Fit r) (hl : l.length ≤ 1000) {s : St} (hg : Good r l 1 s) : step44_0a_1 (pk r l s) = (match nxt r l 1 s with | some (p, t) => some (.inl (p, pk r l t)) | none => some (.inr (pk r l s))) := by
 obtain ⟨ms, fr, la, co, mi, v⟩ := s
 have hla := hg.la (.inl rfl)
 have hco := hg.co rfl
 have hms := hg.ms
 have f6 := h.ver
 have f1 := h.slip; have f2 := h.far; have f3 := h.most; have f4 := h.len
 simp only at hla hco hms
 have hr : r.1.length ≤ 1000 := by omega
 have e1 : wr (la + r.2.1) = la + r.2.1 := wr_id (by omega) (by omega)
 have e2 : wr (la + r.2.1 + r.2.2.2.2.2) = la + r.2.1 + r.2.2.2.2.2 := wr_id (by omega) (by omega)
 have e3 : wr (la + r.2.1 + r.2.2.2.2.2 + (r.1.length : Int)) = la + r.2.1 + r.2.2.2.2.2 + (r.1.length : Int) := wr_id (by omega) (by omega)
 have e4 : wr (r.2.2.2.2.2 + 1) = r.2.2.2.2.2 + 1 := wr_id (by omega) (by omega)
 have e5 : wr (la + 1) = la + 1 := wr_id (by omega) (by omega)
 have e6 : wr (co + 1) = co + 1 := wr_id (by omega) (by omega)
 have hroom := room_true (b := 40) (n := ms.length + 1) (by omega) (by omega)
 by_cases ho : over r l la
 ·have ho' : la + r.2.1 + r.2.2.2.2.2 + (r.1.length : Int) > (l.length : Int) := ho
  simp only [step44_0a_1, nxt, if_pos ho]
  simp only [pk, e1, e2, e3, decide_eq_true ho', cond_true]
 ·have ho' : ¬ la + r.2.1 + r.2.2.2.2.2 + (r.1.length : Int) > (l.length : Int) := ho
  have hx := expect1_a h hl (ms, fr, la, co, mi, v) (kind := 1) (x := la + r.2.1) (by simp only; omega) (by omega) (by omega)
  have hw := wrongAt_pk (r := r) (l := l) hr hl (ms, fr, la, co, mi, v) (p := la + r.2.1) (by omega) (by omega)
  simp only [step44_0a_1, nxt, if_neg ho]
  simp only [pk] at hx hw ⊢
  simp only [e1, e2, e3, e4, decide_eq_false ho', cond_false, hx, optE_some]
  cases expD r l v (la + r.2.1) with
  | none => simp only [sumE, e1, hw, optE_some, hroom, cond_true, e5]
  | some d =>
    by_cases g : co + 1 ≥ r.2.2.2.1
    ·simp only [sumE, Bool.not_true, cond_false, e6, decide_eq_true g, cond_true, aft, if_pos g]
    ·simp only [sumE, Bool.not_true, cond_false, e6, decide_eq_false g, aft, if_neg g]
theorem step2_a (h : Fit r) (hl : l.length ≤ 1000) {s : St} (hg : Good r l 2 s) : step44_0a_2 (pk r l s) = (match nxt r l 2 s with | some (p, t) => some (.inl (p, pk r l t)) | none => some (.inr (pk r l s))) := by
 obtain ⟨ms, fr, la, co, mi, v⟩ := s
 have hla := hg.la (.inr rfl)
 have hmi := hg.mi rfl
 have hms := hg.ms
 have f1 := h.slip; have f2 := h.far; have f3 := h.most; have f4 := h.len; have f5 := h.fly
 simp only at hla hmi hms
 have hr : r.1.length ≤ 1000 := by omega
 have e1 : wr (la + r.2.1) = la + r.2.1 := wr_id (by omega) (by omega)
 have e2 : wr (la + r.2.1 + r.2.2.2.2.2) = la + r.2.1 + r.2.2.2.2.2 := wr_id (by omega) (by omega)
 have e3 : wr (la + r.2.1 + r.2.2.2.2.2 + (r.1.length : Int)) = la + r.2.1 + r.2.2.2.2.2 + (r.1.length : Int) := wr_id (by omega) (by omega)
 have e4 : wr (r.2.2.2.2.2 + 1) = r.2.2.2.2.2 + 1 := wr_id (by omega) (by omega)
 have e6 : wr (mi + 1) = mi + 1 := wr_id (by omega) (by omega)
 have hroom := room_true (b := 40) (n := ms.length + 1) (by omega) (by omega)
 by_cases ho : over r l la
 ·have ho' : la + r.2.1 + r.2.2.2.2.2 + (r.1.length : Int) > (l.length : Int) := ho
  simp only [step44_0a_2, nxt, if_pos ho]
  simp only [pk, e1, e2, e3, decide_eq_true ho', cond_true]
 ·have ho' : ¬ la + r.2.1 + r.2.2.2.2.2 + (r.1.length : Int) > (l.length : Int) := ho
  have hx := expect2_a h hl (ms, fr, la, co, mi, v) (kind := 2) (x := la + r.2.1) (by simp only; omega) (by omega) (by omega)
  have hw := wrongAt_pk (r := r) (l := l) hr hl (ms, fr, la, co, mi + 1, v) (p := la + r.2.1) (by omega) (by omega)
  simp only [step44_0a_2, nxt, if_neg ho]
  simp only [pk] at hx hw ⊢
  simp only [e1, e2, e3, e4, decide_eq_false ho', cond_false, hx, optE_some]
  cases expD r l v (la + r.2.1) with
  | none =>
    by_cases g : mi + 1 > r.2.2.2.2.1
    ·simp only [sumE, e1, e6, decide_eq_true g, if_pos g, hw, optE_some, hroom, cond_true]
    ·simp only [sumE, e1, e6, decide_eq_false g, if_neg g, hw, optE_some, hroom, cond_true, cond_false]
  | some d => simp only [sumE, Bool.not_true, cond_false, cond_true]
theorem run_a (h : Fit r) (hl : l.length ≤ 1000) : ∀ (N p : Nat) (s : St), p ≤ 3 → Good r l p s → meas l p s ≤ N → loopVal (stepF S44_0a) (p, pk r l s) = some (pk r l (mach r l (N + 1) p s))
 | N, 3, s, _, _, _ => by
   rw [loopVal_last (show stepF S44_0a (3, pk r l s) = some (.inr (pk r l s)) from rfl)]
   rfl
 | 0, p + 4, s, hp, _, _ => by omega
 | 0, 0, s, _, hg, hm => absurd hm (by have := meas_pos hg (by omega); omega)
 | 0, 1, s, _, hg, hm => absurd hm (by have := meas_pos hg (by omega); omega)
 | 0, 2, s, _, hg, hm => absurd hm (by have := meas_pos hg (by omega); omega)
 | N + 1, 0, s, _, hg, hm => by
   have hs : stepF S44_0a (0, pk r l s) = _ := step0_a h hl hg
   obtain ⟨p', s', hn, hp', hg', hm'⟩ := good_next h hl hg (by omega)
   rw [hn] at hs
   rw [loopVal_next hs, run_a h hl N p' s' hp' hg' (by omega)]
   show _ = some ((pk r l (mach r l (N + 1 + 1) 0 s)))
   rw [show mach r l (N + 1 + 1) 0 s = mach r l (N + 1) p' s' by rw [mach, hn]]
 | N + 1, 1, s, _, hg, hm => by
   have hs : stepF S44_0a (1, pk r l s) = _ := step1_a h hl hg
   obtain ⟨p', s', hn, hp', hg', hm'⟩ := good_next h hl hg (by omega)
   rw [hn] at hs
   rw [loopVal_next hs, run_a h hl N p' s' hp' hg' (by omega)]
   show _ = some ((pk r l (mach r l (N + 1 + 1) 1 s)))
   rw [show mach r l (N + 1 + 1) 1 s = mach r l (N + 1) p' s' by rw [mach, hn]]
 | N + 1, 2, s, _, hg, hm => by
   have hs : stepF S44_0a (2, pk r l s) = _ := step2_a h hl hg
   obtain ⟨p', s', hn, hp', hg', hm'⟩ := good_next h hl hg (by omega)
   rw [hn] at hs
   rw [loopVal_next hs, run_a h hl N p' s' hp' hg' (by omega)]
   show _ = some ((pk r l (mach r l (N + 1 + 1) 2 s)))
   rw [show mach r l (N + 1 + 1) 2 s = mach r l (N + 1) p' s' by rw [mach, hn]]
 | N + 1, p + 4, s, hp, _, _ => by omega
theorem runs_a (h : Fit r) (hl : l.length ≤ 1000) : loopVal (stepF S44_0a) (0, pk r l st0) = some (pk r l (mach r l (2 * l.length + 8) 0 st0)) :=
 run_a h hl (2 * l.length + 7) 0 st0 (by omega) (good_0 h hl) (by have := meas_0 (l := l); omega)
end
end Go.Proofs.Ythckjfbhdjjnkaa
