/- The reference's marks and frames are those of the machine. -/
import Derived.Test.YthckjfbhdjjnkaaFrameLaw
set_option linter.unusedSimpArgs false
namespace Go.Proofs.Ythckjfbhdjjnkaa
open Go.Ev
section
variable {r : Rule} {l : List Int}
theorem refWrong (h : Fit r) (hl : l.length ≤ 1000) (v : Bool) {p : Int} (h0 : 0 ≤ p) (hp : p + (r.1.length : Int) ≤ (l.length : Int)) : s64 (r, l, p, v) = some (wI r l v p) := by
 have f4 := h.len
 obtain ⟨k, rfl⟩ := Int.eq_ofNat_of_zero_le h0
 unfold s64
 have := wrong_b (m := r.1) (l := l) (a := k) hl (by omega)
 simp only [this, optE_some]
 unfold wI
 cases v <;> rfl
theorem refFound (hl : l.length ≤ 1000) {k : Nat} (hp : k + r.1.length ≤ l.length) : (match markAt r.1 l r.2.2.1 k with | some m => s62 (r, l, (k : Int)) = some (m, true) | none => ∃ m, s62 (r, l, (k : Int)) = some (m, false)) := by
 have hw := wrong_b (m := r.1) (l := l) (a := k) hl hp
 by_cases g1 : (wrongN r.1 l k r.1.length).1 ≤ r.2.2.1
 ·have hm : markAt r.1 l r.2.2.1 k = some (0, (k : Int), false, (wrongN r.1 l k r.1.length).1, 0) := if_pos g1
  rw [hm]
  unfold s62
  simp only [hw, optE_some, decide_eq_true g1, cond_true]
 ·by_cases g2 : (wrongN r.1 l k r.1.length).2 ≤ r.2.2.1
  ·have hm : markAt r.1 l r.2.2.1 k = some (0, (k : Int), true, (wrongN r.1 l k r.1.length).2, 0) := by unfold markAt; rw [if_neg g1, if_pos g2]
   rw [hm]
   unfold s62
   simp only [hw, optE_some, decide_eq_false g1, cond_false, decide_eq_true g2]
  ·have hm : markAt r.1 l r.2.2.1 k = none := by unfold markAt; rw [if_neg g1, if_neg g2]
   rw [hm]
   refine ⟨(0, (k : Int), true, (wrongN r.1 l k r.1.length).2, 0), ?_⟩
   unfold s62
   simp only [hw, optE_some, decide_eq_false g1, cond_false, decide_eq_false g2]
theorem refSearch (h : Fit r) (hl : l.length ≤ 1000) (t : Mark) : ∀ (d k : Nat), places r.1 l - k = d → k ≤ l.length →
 loopVal step46_0 (l, (k : Int), r, t) = some (match firstAt (markAt r.1 l r.2.2.1) d k with | some m => .inl (true, m) | none => .inr t) := by
 have c1 : ∀ a b : Nat, decide (((a : Nat) : Int) ≤ (b : Int)) = decide (a ≤ b) := fun a b => by simp
 have f4 := h.len
 intro d
 induction d with
 | zero =>
   intro k hk hkl
   have hend : ¬ k + r.1.length ≤ l.length := by unfold places at hk; omega
   have e1 : wr ((k : Int) + (r.1.length : Int)) = ((k + r.1.length : Nat) : Int) := by rw [wr_id (by omega) (by omega)]; omega
   refine loopVal_last ?_
   simp only [step46_0, e1, c1]
   rw [decide_eq_false hend, cond_false]
   rfl
 | succ d ih =>
   intro k hk hkl
   have hlt : k + r.1.length ≤ l.length := by unfold places at hk; omega
   have e1 : wr ((k : Int) + (r.1.length : Int)) = ((k + r.1.length : Nat) : Int) := by rw [wr_id (by omega) (by omega)]; omega
   have e2 := wr_succ (show k < 4611686018427387904 by omega)
   have hf := refFound (r := r) hl hlt
   cases hm : markAt r.1 l r.2.2.1 k with
   | some m =>
     rw [hm] at hf
     have hf : s62 (r, l, (k : Int)) = some (m, true) := hf
     simp only [firstAt, hm]
     refine loopVal_last ?_
     simp only [step46_0, e1, c1, hf, optE_some, decide_eq_true hlt, cond_true]
   | none =>
     rw [hm] at hf
     obtain ⟨m, hf⟩ : ∃ m, s62 (r, l, (k : Int)) = some (m, false) := hf
     simp only [firstAt, hm]
     refine (loopVal_next (y := (l, ((k + 1 : Nat) : Int), r, t)) ?_).trans (ih (k + 1) (by omega) (by omega))
     simp only [step46_0, e1, c1, hf, optE_some, decide_eq_true hlt, cond_true, cond_false, e2]
theorem refSearch_eq (h : Fit r) (hl : l.length ≤ 1000) {fr : Int} (h0 : 0 ≤ fr) (h1 : fr ≤ (l.length : Int)) : s46 (r, l, fr) = some (match findFrom r l fr.toNat with | some m => (m, true) | none => ((0, 0, false, 0, 0), false)) := by
 obtain ⟨k, rfl⟩ := Int.eq_ofNat_of_zero_le h0
 unfold s46
 have hs := refSearch h hl (0, 0, false, 0, 0) _ k rfl (by omega)
 have hff : findFrom r l (Int.toNat (k : Int)) = firstAt (markAt r.1 l r.2.2.1) (places r.1 l - k) k := rfl
 rw [hff]
 simp only [hs, optE_some]
 cases firstAt (markAt r.1 l r.2.2.1) (places r.1 l - k) k <;> rfl
theorem refExp (h : Fit r) (hl : l.length ≤ 1000) (v : Bool) {x : Int} (h0 : r.2.2.2.2.2 ≤ x) (h1 : x + r.2.2.2.2.2 + (r.1.length : Int) ≤ (l.length : Int)) : s63 (r, l, x, v) = some (match expD r l v x with | some d => (d, true) | none => (0, false)) := by
 have f1 := h.slip; have f4 := h.len
 obtain ⟨S, hS⟩ := Int.eq_ofNat_of_zero_le f1.1
 have hw0 := refWrong h hl v (p := x) (by omega) (by omega)
 unfold s63 expD
 rw [show r.2.2.2.2.2.toNat + 1 = S + 1 by rw [hS]; rfl]
 unfold firstAt
 have e0 : x - ((0 : Nat) : Int) = x := by omega
 have e1 : x + ((0 : Nat) : Int) = x := by omega
 simp only [hw0, optE_some]
 by_cases g : wI r l v x ≤ r.2.2.1
 ·have : hitD r l v x 0 = some 0 := by unfold hitD; rw [e0, if_pos g]; rfl
  rw [this, decide_eq_true g, cond_true]
 ·have : hitD r l v x 0 = none := by unfold hitD; rw [e0, e1, if_neg g, if_neg g]
  rw [this, decide_eq_false g, cond_false]
  have key : ∀ d k, k + d = S + 1 → 1 ≤ k → loopVal step63_0 (l, x, v, (k : Int), r) = some (match firstAt (hitD r l v x) d k with | some d => .inl (d, true) | none => .inr ()) := by
   intro d
   induction d with
   | zero =>
     intro k hk _
     refine loopVal_last ?_
     simp only [step63_0]
     rw [decide_eq_false (by omega), cond_false]
     rfl
   | succ d ih =>
     intro k hk hk1
     have hw1 := refWrong h hl v (p := x - (k : Int)) (by omega) (by omega)
     have hw2 := refWrong h hl v (p := x + (k : Int)) (by omega) (by omega)
     have e1 : wr (-(k : Int)) = -(k : Int) := wr_id (by omega) (by omega)
     have e2 : wr (x - (k : Int)) = x - (k : Int) := wr_id (by omega) (by omega)
     have e3 : wr (x + (k : Int)) = x + (k : Int) := wr_id (by omega) (by omega)
     have e4 := wr_succ (show k < 4611686018427387904 by omega)
     by_cases g1 : wI r l v (x - (k : Int)) ≤ r.2.2.1
     ·have : hitD r l v x k = some (-(k : Int)) := if_pos g1
      simp only [firstAt, this]
      refine loopVal_last ?_
      simp only [step63_0, decide_eq_true (show (k : Int) ≤ r.2.2.2.2.2 by omega), cond_true, e1, e2, hw1, optE_some, decide_eq_true g1]
     ·by_cases g2 : wI r l v (x + (k : Int)) ≤ r.2.2.1
      ·have : hitD r l v x k = some (k : Int) := by unfold hitD; rw [if_neg g1, if_pos g2]
       simp only [firstAt, this]
       refine loopVal_last ?_
       simp only [step63_0, decide_eq_true (show (k : Int) ≤ r.2.2.2.2.2 by omega), cond_true, cond_false, e2, e3, hw1, hw2, optE_some, decide_eq_false g1, decide_eq_true g2]
      ·have : hitD r l v x k = none := by unfold hitD; rw [if_neg g1, if_neg g2]
       simp only [firstAt, this]
       refine (loopVal_next (y := (l, x, v, ((k + 1 : Nat) : Int), r)) ?_).trans (ih (k + 1) (by omega) (by omega))
       simp only [step63_0, decide_eq_true (show (k : Int) ≤ r.2.2.2.2.2 by omega), cond_true, cond_false, e2, e3, e4, hw1, hw2, optE_some, decide_eq_false g1, decide_eq_false g2]
  have k1 : loopVal step63_0 (l, x, v, 1, r) = _ := key S 1 (by omega) (by omega)
  rw [k1]
  simp only [optE_some, Nat.zero_add]
  cases firstAt (hitD r l v x) S 1 <;> rfl
theorem mach_3 (f : Nat) (s : St) : mach r l f 3 s = s := by cases f <;> rfl
theorem mach_next {f p p' : Nat} {s s' : St} (h : nxt r l p s = some (p', s')) : mach r l (f + 1) p s = mach r l f p' s' := by rw [mach, h]
theorem refFollow (h : Fit r) (hl : l.length ≤ 1000) (pre : List Mark) (first : Mark) : ∀ (N : Nat) (o : List Mark) (fr la co mi : Int), Good r l (aft r co) (pre ++ o, fr, la, co, mi, first.2.2.1) → meas l (aft r co) (pre ++ o, fr, la, co, mi, first.2.2.1) ≤ N → 1 ≤ co ∧ co ≤ 5 → 0 ≤ mi ∧ mi ≤ 5 →
 ∃ (k : Nat) (nx : Int) (more : List Mark), loopVal step47_0 (l, o, la, co, mi, r, first) = some (nx, more) ∧
  ((nx = -1 ∧ k ≤ meas l (aft r co) (pre ++ o, fr, la, co, mi, first.2.2.1) ∧ (pre ++ more).length ≤ 5000 ∧ ∀ f, (mach r l (k + f) (aft r co) (pre ++ o, fr, la, co, mi, first.2.2.1)).1 = pre ++ more) ∨
   (0 ≤ nx ∧ ∃ s' : St, Good r l 0 s' ∧ s'.1 = pre ++ more ∧ s'.2.1 = nx ∧ k + meas l 0 s' ≤ meas l (aft r co) (pre ++ o, fr, la, co, mi, first.2.2.1) ∧ 1 ≤ k ∧ ∀ f, mach r l (k + f) (aft r co) (pre ++ o, fr, la, co, mi, first.2.2.1) = mach r l f 0 s')) := by
 intro N
 induction N with
 | zero =>
   intro o fr la co mi hg hm _ _
   have := meas_pos hg (by rcases aft_or r co with ⟨h, _⟩ | h <;> omega)
   omega
 | succ N ih =>
   intro o fr la co mi hg hm hco hmi
   have f1 := h.slip; have f2 := h.far; have f3 := h.most; have f4 := h.len; have f5 := h.fly; have f6 := h.ver
   have hp12 : aft r co = 1 ∨ aft r co = 2 := (aft_or r co).imp And.left id
   have hla := hg.la hp12
   have hms := hg.ms
   have hpos := meas_pos hg (by omega)
   simp only at hla hms
   rw [List.length_append] at hms
   have e1 : wr (la + r.2.1) = la + r.2.1 := wr_id (by omega) (by omega)
   have e2 : wr (la + r.2.1 + r.2.2.2.2.2) = la + r.2.1 + r.2.2.2.2.2 := wr_id (by omega) (by omega)
   have e3 : wr (la + r.2.1 + r.2.2.2.2.2 + (r.1.length : Int)) = la + r.2.1 + r.2.2.2.2.2 + (r.1.length : Int) := wr_id (by omega) (by omega)
   have e5 : wr (la + 1) = la + 1 := wr_id (by omega) (by omega)
   have e6 : wr (co + 1) = co + 1 := wr_id (by omega) (by omega)
   have e7 : wr (mi + 1) = mi + 1 := wr_id (by omega) (by omega)
   have hroom := room_true (b := 40) (n := o.length + 1) (by omega) (by omega)
   obtain ⟨p', s', hn, hp', hg', hlt⟩ := good_next h hl hg (by omega)
   by_cases ho : over r l la
   ·have ho' : la + r.2.1 + r.2.2.2.2.2 + (r.1.length : Int) > (l.length : Int) := ho
    refine ⟨1, -1, o, loopVal_last ?_, .inl ⟨rfl, hpos, by rw [List.length_append]; omega, fun f => ?_⟩⟩
    ·simp only [step47_0, e1, e2, e3, decide_eq_true ho', cond_true]
    ·have hx : nxt r l (aft r co) (pre ++ o, fr, la, co, mi, first.2.2.1) = some (3, (pre ++ o, fr, la, co, mi, first.2.2.1)) := by
      rcases hp12 with e | e <;> rw [e] <;> simp only [nxt, if_pos ho]
     rw [Nat.add_comm, mach_next hx, mach_3]
   ·have ho' : ¬ la + r.2.1 + r.2.2.2.2.2 + (r.1.length : Int) > (l.length : Int) := ho
    have hx := refExp h hl first.2.2.1 (x := la + r.2.1) (by omega) (by omega)
    have hw := refWrong h hl first.2.2.1 (p := la + r.2.1) (by omega) (by omega)
    cases hf : expD r l first.2.2.1 (la + r.2.1) with
    | some d =>
      have hd := expD_in h hf
      rw [hf] at hx
      have hx : s63 (r, l, la + r.2.1, first.2.2.1) = some (d, true) := hx
      have hw2 := refWrong h hl first.2.2.1 (p := la + r.2.1 + d) (by omega) (by omega)
      have e8 : wr (la + r.2.1 + d) = la + r.2.1 + d := wr_id (by omega) (by omega)
      by_cases hc : co < r.2.2.2.1
      ·have hp : aft r co = 1 := if_neg (by omega)
       have hn2 : nxt r l (aft r co) (pre ++ o, fr, la, co, mi, first.2.2.1) = some (aft r (co + 1), (pre ++ (o ++ [(1, la + r.2.1 + d, first.2.2.1, wI r l first.2.2.1 (la + r.2.1 + d), d)]), fr, la + r.2.1 + d, co + 1, 0, first.2.2.1)) := by
        rw [hp]; simp only [nxt, if_neg ho, hf, List.append_assoc]
       rw [hn2] at hn
       obtain ⟨rfl, rfl⟩ := Prod.mk.inj (Option.some.inj hn)
       obtain ⟨k, nx, more, g1, g2⟩ := ih (o ++ [(1, la + r.2.1 + d, first.2.2.1, wI r l first.2.2.1 (la + r.2.1 + d), d)]) fr (la + r.2.1 + d) (co + 1) 0 hg' (by omega) (by omega) (by omega)
       refine ⟨k + 1, nx, more, (loopVal_next ?_).trans g1, ?_⟩
       ·simp only [step47_0, e1, e2, e3, decide_eq_false ho', cond_false, hx, optE_some, cond_true, decide_eq_true hc, e8, hw2, hroom, e6]
       ·rcases g2 with ⟨a, b, c, d'⟩ | ⟨a, s2, b1, b2, b3, b4, b5, b6⟩
        ·exact .inl ⟨a, by omega, c, fun f => by rw [show k + 1 + f = (k + f) + 1 by omega, mach_next hn2]; exact d' f⟩
        ·exact .inr ⟨a, s2, b1, b2, b3, by omega, by omega, fun f => by rw [show k + 1 + f = (k + f) + 1 by omega, mach_next hn2]; exact b6 f⟩
      ·have hp : aft r co = 2 := if_pos (by omega)
       have hn2 : nxt r l (aft r co) (pre ++ o, fr, la, co, mi, first.2.2.1) = some (aft r co, (pre ++ (o ++ [(2, la + r.2.1 + d, first.2.2.1, wI r l first.2.2.1 (la + r.2.1 + d), d)]), fr, la + r.2.1 + d, co, 0, first.2.2.1)) := by
        rw [hp]; simp only [nxt, if_neg ho, hf, List.append_assoc]
       rw [hn2] at hn
       obtain ⟨rfl, rfl⟩ := Prod.mk.inj (Option.some.inj hn)
       obtain ⟨k, nx, more, g1, g2⟩ := ih (o ++ [(2, la + r.2.1 + d, first.2.2.1, wI r l first.2.2.1 (la + r.2.1 + d), d)]) fr (la + r.2.1 + d) co 0 hg' (by omega) (by omega) (by omega)
       refine ⟨k + 1, nx, more, (loopVal_next ?_).trans g1, ?_⟩
       ·simp only [step47_0, e1, e2, e3, decide_eq_false ho', cond_false, hx, optE_some, cond_true, decide_eq_false hc, e8, hw2, hroom]
       ·rcases g2 with ⟨a, b, c, d'⟩ | ⟨a, s2, b1, b2, b3, b4, b5, b6⟩
        ·exact .inl ⟨a, by omega, c, fun f => by rw [show k + 1 + f = (k + f) + 1 by omega, mach_next hn2]; exact d' f⟩
        ·exact .inr ⟨a, s2, b1, b2, b3, by omega, by omega, fun f => by rw [show k + 1 + f = (k + f) + 1 by omega, mach_next hn2]; exact b6 f⟩
    | none =>
      rw [hf] at hx
      have hx : s63 (r, l, la + r.2.1, first.2.2.1) = some (0, false) := hx
      by_cases hc : co < r.2.2.2.1
      ·have hp : aft r co = 1 := if_neg (by omega)
       have hn2 : nxt r l (aft r co) (pre ++ o, fr, la, co, mi, first.2.2.1) = some (0, (pre ++ (o ++ [(4, la + r.2.1, first.2.2.1, wI r l first.2.2.1 (la + r.2.1), 0)]), la + 1, la, co, mi, first.2.2.1)) := by
        rw [hp]; simp only [nxt, if_neg ho, hf, List.append_assoc]
       rw [hn2] at hn
       obtain ⟨rfl, rfl⟩ := Prod.mk.inj (Option.some.inj hn)
       refine ⟨1, la + 1, _, loopVal_last ?_, .inr ⟨by omega, _, hg', rfl, rfl, by omega, by omega, fun f => by rw [Nat.add_comm, mach_next hn2]⟩⟩
       simp only [step47_0, e1, e2, e3, decide_eq_false ho', cond_false, hx, optE_some, hw, decide_eq_true hc, cond_true, hroom, e5]
      ·have hp : aft r co = 2 := if_pos (by omega)
       by_cases g : mi + 1 > r.2.2.2.2.1
       ·have hn2 : nxt r l (aft r co) (pre ++ o, fr, la, co, mi, first.2.2.1) = some (0, (pre ++ (o ++ [(4, la + r.2.1, first.2.2.1, wI r l first.2.2.1 (la + r.2.1), 0)]), la + r.2.1, la, co, mi + 1, first.2.2.1)) := by
         rw [hp]; simp only [nxt, if_neg ho, hf, if_pos g, List.append_assoc]
        rw [hn2] at hn
        obtain ⟨rfl, rfl⟩ := Prod.mk.inj (Option.some.inj hn)
        refine ⟨1, la + r.2.1, _, loopVal_last ?_, .inr ⟨by omega, _, hg', rfl, rfl, by omega, by omega, fun f => by rw [Nat.add_comm, mach_next hn2]⟩⟩
        simp only [step47_0, e1, e2, e3, e7, decide_eq_false ho', cond_false, hx, optE_some, hw, decide_eq_false hc, decide_eq_true g, cond_true, hroom]
       ·have hn2 : nxt r l (aft r co) (pre ++ o, fr, la, co, mi, first.2.2.1) = some (aft r co, (pre ++ (o ++ [(3, la + r.2.1, first.2.2.1, wI r l first.2.2.1 (la + r.2.1), 0)]), fr, la + r.2.1, co, mi + 1, first.2.2.1)) := by
         rw [hp]; simp only [nxt, if_neg ho, hf, if_neg g, List.append_assoc]
        rw [hn2] at hn
        obtain ⟨rfl, rfl⟩ := Prod.mk.inj (Option.some.inj hn)
        obtain ⟨k, nx, more, g1, g2⟩ := ih (o ++ [(3, la + r.2.1, first.2.2.1, wI r l first.2.2.1 (la + r.2.1), 0)]) fr (la + r.2.1) co (mi + 1) hg' (by omega) (by omega) (by omega)
        refine ⟨k + 1, nx, more, (loopVal_next ?_).trans g1, ?_⟩
        ·simp only [step47_0, e1, e2, e3, e7, decide_eq_false ho', cond_false, hx, optE_some, hw, decide_eq_false hc, decide_eq_false g, cond_true, hroom]
        ·rcases g2 with ⟨a, b, c, d'⟩ | ⟨a, s2, b1, b2, b3, b4, b5, b6⟩
         ·exact .inl ⟨a, by omega, c, fun f => by rw [show k + 1 + f = (k + f) + 1 by omega, mach_next hn2]; exact d' f⟩
         ·exact .inr ⟨a, s2, b1, b2, b3, by omega, by omega, fun f => by rw [show k + 1 + f = (k + f) + 1 by omega, mach_next hn2]; exact b6 f⟩
theorem refMarks_loop (h : Fit r) (hl : l.length ≤ 1000) : ∀ (N : Nat) (s : St), Good r l 0 s → meas l 0 s ≤ N → ∃ (k : Nat) (ms : List Mark), loopVal step24_0 (l, s.1, s.2.1, r) = some ms ∧ k ≤ meas l 0 s + 1 ∧ ∀ f, (mach r l (k + f) 0 s).1 = ms := by
 intro N
 induction N with
 | zero => intro s hg hm; have := meas_pos hg (by omega); omega
 | succ N ih =>
   intro s hg hm
   obtain ⟨p', s', hn, hp', hg', hlt⟩ := good_next h hl hg (by omega)
   obtain ⟨ms, fr, la, co, mi, v⟩ := s
   have hfr := hg.fr
   have hms := hg.ms
   have hpos := meas_pos hg (by omega)
   simp only at hfr hms
   have f6 := h.ver
   have hs := refSearch_eq h hl hfr.1 hfr.2
   cases hf : findFrom r l fr.toNat with
   | none =>
     rw [hf] at hs
     have hs : s46 (r, l, fr) = some ((0, 0, false, 0, 0), false) := hs
     refine ⟨1, ms, loopVal_last ?_, by omega, fun f => ?_⟩
     ·simp only [step24_0, hs, optE_some, Bool.not_false, cond_true]
     ·have hx : nxt r l 0 (ms, fr, la, co, mi, v) = some (3, (ms, fr, la, co, mi, v)) := by simp only [nxt, hf]
      rw [Nat.add_comm, mach_next hx, mach_3]
   | some m =>
     rw [hf] at hs
     have hs : s46 (r, l, fr) = some (m, true) := hs
     have hn2 : nxt r l 0 (ms, fr, la, co, mi, v) = some (aft r 1, (ms ++ [m], fr, m.2.1, 1, 0, m.2.2.1)) := by simp only [nxt, hf]
     rw [hn2] at hn
     obtain ⟨rfl, rfl⟩ := Prod.mk.inj (Option.some.inj hn)
     obtain ⟨k, nx, more, g1, g2⟩ := refFollow h hl (ms ++ [m]) m _ [] fr m.2.1 1 0 (by rw [List.append_nil]; exact hg') (Nat.le_refl _) (by omega) (by omega)
     rw [List.append_nil] at g2
     have hfo : s47 (r, l, m) = some (nx, more) := by unfold s47; simp only [g1, optE_some]
     have hms' := hg'.ms
     simp only [List.length_append, List.length_singleton] at hms'
     have hroom := room_true (b := 40) (n := ms.length + 1) (by omega) (by omega)
     rcases g2 with ⟨a, b, c, d⟩ | ⟨a, s2, b1, b2, b3, b4, b5, b6⟩
     ·have hroom2 := room_true (b := 40) (n := (ms ++ [m]).length + more.length) (by rw [← List.length_append]; omega) (by rw [← List.length_append]; omega)
      refine ⟨k + 1, ms ++ [m] ++ more, loopVal_last ?_, by omega, fun f => by rw [show k + 1 + f = (k + f) + 1 by omega, mach_next hn2]; exact d f⟩
      simp only [step24_0, hs, optE_some, Bool.not_true, cond_false, hroom, cond_true, hfo, hroom2, decide_eq_true (show nx < 0 by omega)]
     ·have hms2 := b1.ms
      rw [b2] at hms2
      have hroom2 := room_true (b := 40) (n := (ms ++ [m]).length + more.length) (by rw [← List.length_append]; omega) (by rw [← List.length_append]; omega)
      obtain ⟨k2, ms2, c1, c2, c3⟩ := ih s2 b1 (by omega)
      rw [b2, b3] at c1
      refine ⟨1 + k + k2, ms2, (loopVal_next ?_).trans c1, by omega, fun f => by rw [show 1 + k + k2 + f = (k + (k2 + f)) + 1 by omega, mach_next hn2, b6]; exact c3 f⟩
      simp only [step24_0, hs, optE_some, Bool.not_true, cond_false, hroom, cond_true, hfo, hroom2, decide_eq_false (show ¬ nx < 0 by omega)]
theorem refMarks_eq (h : Fit r) (hl : l.length ≤ 1000) : s24 (r, l) = some (marksV r l) := by
 obtain ⟨k, ms, h1, h2, h3⟩ := refMarks_loop h hl _ st0 (good_0 h hl) (Nat.le_refl _)
 rw [meas_0] at h2
 have h1 : loopVal step24_0 (l, [], 0, r) = some ms := h1
 have h4 := h3 (2 * l.length + 8 - k)
 rw [show k + (2 * l.length + 8 - k) = 2 * l.length + 8 by omega] at h4
 unfold s24
 simp only [h1, optE_some]
 rw [← h4]
 rfl
theorem refInner (hin : ∀ k, -7 ≤ l.getD k 0 ∧ l.getD k 0 ≤ 7) (hl : l.length ≤ 1000) (ms : List Mark) (out : List Frame) (i : Int) (a b : Mark) (f1 : Int) (f2 : Bool) (f3 : Int) {A B : Nat} (hA : A ≤ B) (hB : B ≤ l.length) (hb : b.2.1 = (B : Int)) :
 loopVal step26_2 (l, ms, out, i, (A : Int), r, a, b, (f1, f2, f3, [])) = some (l, ms, out, i, r, (f1, f2, f3, bif a.2.2.1 then negL ((l.take B).drop A) else (l.take B).drop A)) := by
 let xs := (l.take B).drop A
 have hxl : xs.length = B - A := by show ((l.take B).drop A).length = _; rw [List.length_drop, List.length_take]; omega
 have hx : ∀ j, j < B - A → l.getD (A + j) 0 = xs.getD j 0 := by
  intro j hj
  show _ = ((l.take B).drop A).getD j 0
  rw [List.getD_eq_getElem?_getD, List.getD_eq_getElem?_getD, List.getElem?_drop, List.getElem?_take, if_pos (by omega)]
 cases hv : a.2.2.1 with
 | true =>
   have h1 := loop_for (step := step26_2) (st := fun j => (l, ms, out, i, ((A + j : Nat) : Int), r, a, b, (f1, f2, f3, (xs.take j).map fun x => -x))) (n := B - A) (e := (l, ms, out, i, r, (f1, f2, f3, negL xs)))
    (fun j hj => by
      have e1 : wr (-(l.getD (A + j) 0)) = -(l.getD (A + j) 0) := by have := hin (A + j); exact wr_id (by omega) (by omega)
      have hroom := room_true (b := 8) (n := ((xs.take j).map fun x => -x).length + 1) (by simp; omega) (by simp; omega)
      simp only [step26_2, hb, lt_cast, inB_cast, Int.toNat_natCast, decide_eq_true (show A + j < B by omega), decide_eq_true (show A + j < l.length by omega), cond_true, hv, hroom, e1, wr_succ (show A + j < 4611686018427387904 by omega)]
      rw [hx j hj, take_map_succ (fun x => -x) xs 0 (by omega)]
      rfl)
    (by
      simp only [step26_2, hb, lt_cast]
      rw [show A + (B - A) = B by omega, decide_eq_false (Nat.lt_irrefl _), cond_false, ← hxl, List.take_length]
      rfl) 0 (by omega)
   exact h1
 | false =>
   have h1 := loop_for (step := step26_2) (st := fun j => (l, ms, out, i, ((A + j : Nat) : Int), r, a, b, (f1, f2, f3, xs.take j))) (n := B - A) (e := (l, ms, out, i, r, (f1, f2, f3, xs)))
    (fun j hj => by
      have hroom := room_true (b := 8) (n := (xs.take j).length + 1) (by simp; omega) (by simp; omega)
      simp only [step26_2, hb, lt_cast, inB_cast, Int.toNat_natCast, decide_eq_true (show A + j < B by omega), decide_eq_true (show A + j < l.length by omega), cond_true, cond_false, hv, hroom, wr_succ (show A + j < 4611686018427387904 by omega)]
      rw [hx j hj, take_succ_getD xs 0 (by omega)]
      rfl)
    (by
      simp only [step26_2, hb, lt_cast]
      rw [show A + (B - A) = B by omega, decide_eq_false (Nat.lt_irrefl _), cond_false, ← hxl, List.take_length]) 0 (by omega)
   exact h1
theorem refFrames_loop (hh : hE l = 0) (hr : r.1.length ≤ 32) (ms : List Mark) (hm : ms.length ≤ 5000) (hk : Link r.1.length l.length ms) : loopVal step26_0 (l, ms, [], 1, r) = some (frN r.1.length l ms ms.length) := by
 obtain ⟨hl, hin⟩ := hE_in hh
 by_cases h0 : ms.length = 0
 ·refine loopVal_last ?_
  simp only [step26_0, h0]
  rfl
 have h1 := loop_for (step := step26_0) (st := fun k => (l, ms, frN r.1.length l ms (k + 1), ((k + 1 : Nat) : Int), r)) (n := ms.length - 1) (e := frN r.1.length l ms ms.length)
  (fun k hk' => by
    have hlt : k + 1 < ms.length := by omega
    have e4 := wr_succ (show k + 1 < 4611686018427387904 by omega)
    have hfl := frN_len r.1.length l ms (k + 1)
    have hroom := room_true (b := 48) (n := (frN r.1.length l ms (k + 1)).length + 1) (by omega) (by omega)
    have d0 : ∀ j : Nat, ms.getD j (0, 0, false, 0, 0) = ms.getD j mk1 := fun _ => rfl
    have e5 : wr (((k + 1 : Nat) : Int) - 1) = (k : Int) := by rw [wr_id (by omega) (by omega)]; omega
    simp only [step26_0, lt_cast, inB_cast, decide_eq_true hlt, cond_true, e5, decide_eq_true (show k < ms.length by omega), Int.toNat_natCast, e4, d0]
    rw [frN_succ r.1.length l ms (k + 1)]
    unfold frm
    rw [if_neg (by omega), Nat.add_sub_cancel]
    by_cases g0 : (ms.getD (k + 1) mk1).1 = 0
    ·rw [if_pos g0, List.append_nil, beq_iff_eq.2 g0, cond_true]
    ·rw [if_neg g0, beq_eq_false_iff_ne.2 g0, cond_false]
     by_cases g4 : (ms.getD (k + 1) mk1).1 = 4
     ·rw [if_pos g4, List.append_nil, beq_iff_eq.2 g4, cond_true]
     ·rw [if_neg g4, beq_eq_false_iff_ne.2 g4, cond_false]
      have hlk := (hk (k + 1) (by omega) hlt).resolve_left g0 |>.resolve_left g4
      rw [Nat.add_sub_cancel] at hlk
      have e6 : wr ((ms.getD k mk1).2.1 + (r.1.length : Int)) = (((ms.getD k mk1).2.1 + (r.1.length : Int)).toNat : Int) := by rw [wr_id (by omega) (by omega)]; omega
      have hin2 := refInner (r := r) hin (by omega) ms (frN r.1.length l ms (k + 1)) ((k + 1 : Nat) : Int) (ms.getD k mk1) (ms.getD (k + 1) mk1) (ms.getD k mk1).2.1 (ms.getD k mk1).2.2.1 (ms.getD (k + 1) mk1).2.2.2.2 (A := ((ms.getD k mk1).2.1 + (r.1.length : Int)).toNat) (B := (ms.getD (k + 1) mk1).2.1.toNat) (by omega) (by omega) (by omega)
      simp only [e6, hin2, optE_some, hroom, cond_true, e4]
      rfl)
  (by
    simp only [step26_0, lt_cast]
    rw [show ms.length - 1 + 1 = ms.length by omega, decide_eq_false (Nat.lt_irrefl _), cond_false]) 0 (by omega)
 exact h1
theorem refFrames_eq (h : bE r l = 0) : s26 (r, l) = some (framesV r l) := by
 obtain ⟨hf, hh⟩ := bE_fit h
 have hl := (hE_in hh).1
 have hr := hf.len
 have hg := marksV_good hf (l := l) (by omega)
 unfold s26
 simp only [refMarks_eq hf (show l.length ≤ 1000 by omega), optE_some, refFrames_loop (r := r) hh hr.2 _ hg.1 hg.2]
 rfl
end
end Go.Proofs.Ythckjfbhdjjnkaa
