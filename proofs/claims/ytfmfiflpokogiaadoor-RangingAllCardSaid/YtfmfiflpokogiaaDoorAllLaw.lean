import Derived.Test.YtfmfiflpokogiaaDoorGc5
import Derived.Test.YtfmfiflpokogiaaDoorCandLaw
set_option linter.unusedSimpArgs false
namespace Go.Proofs.YtfmfiflpokogiaaDoor
open Go.Ev
def Inv1 (l : List Tn) (lo d : Int) (rs : List (Int × Int)) : Prop :=
 (∀ r ∈ rs, lo ≤ r.1 ∧ r.1 ≤ r.2 ∧ r.2 < d) ∧ rs.Pairwise (fun r s => r.2 + 1 < s.1) ∧ ∀ x : Int, (∃ r ∈ rs, r.1 ≤ x ∧ x ≤ r.2) ↔ (lo ≤ x ∧ x < d ∧ fitL l x = true)
theorem addR_nil (d : Int) : addR [] d = [(d, d)] := rfl
theorem addR_app (t : List (Int × Int)) (a b d : Int) : addR (t ++ [(a, b)]) d = if b + 1 = d then t ++ [(a, d)] else t ++ [(a, b)] ++ [(d, d)] := by
 unfold addR
 have h1 : (t ++ [(a, b)]).length = t.length + 1 := by simp
 have h2 : (t ++ [(a, b)]).getD t.length (0, 0) = (a, b) := by
  rw [List.getD_eq_getElem?_getD, List.getElem?_append_right (Nat.le_refl _), Nat.sub_self]; rfl
 rw [if_neg (by omega), h1, Nat.add_sub_cancel, h2]
 by_cases h : b + 1 = d
 ·rw [if_pos h, if_pos h, List.set_append_right _ _ (Nat.le_refl _), Nat.sub_self]; rfl
 ·rw [if_neg h, if_neg h]
theorem inv_add {l : List Tn} {lo d : Int} {rs : List (Int × Int)} (hlo : lo ≤ d) (hf : fitL l d = true) (h : Inv1 l lo d rs) : Inv1 l lo (d + 1) (addR rs d) := by
 obtain ⟨h1, h2, h3⟩ := h
 rcases List.eq_nil_or_concat rs with rfl | ⟨t, ⟨a, b⟩, rfl⟩
 ·rw [addR_nil]
  refine ⟨fun r hr => ?_, List.pairwise_singleton _ _, fun x => ?_⟩
  ·rw [List.mem_singleton.1 hr]; exact ⟨hlo, Int.le_refl _, by simp only; omega⟩
  ·have h3 := h3 x
   simp only [List.not_mem_nil, false_and, exists_false, false_iff] at h3
   constructor
   ·rintro ⟨r, hr, g1, g2⟩
    rw [List.mem_singleton.1 hr] at g1 g2
    simp only at g1 g2
    obtain rfl : x = d := by omega
    exact ⟨hlo, by omega, hf⟩
   ·rintro ⟨g1, g2, g3⟩
    have : ¬ x < d := fun hc => h3 ⟨g1, hc, g3⟩
    exact ⟨(d, d), List.mem_singleton.2 rfl, by simp only; omega, by simp only; omega⟩
 ·rw [List.concat_eq_append] at h1 h2 h3 ⊢
  rw [addR_app]
  obtain ⟨p1, _, p3⟩ := List.pairwise_append.1 h2
  have hab := h1 (a, b) (by simp)
  simp only at hab
  have p3 : ∀ r ∈ t, r.2 + 1 < a := fun r hr => p3 r hr (a, b) (by simp)
  by_cases h : b + 1 = d
  ·rw [if_pos h]
   refine ⟨fun r hr => ?_, List.pairwise_append.2 ⟨p1, List.pairwise_singleton _ _, fun r hr s hs => ?_⟩, fun x => ?_⟩
   ·rcases List.mem_append.1 hr with hr | hr
    ·have := h1 r (List.mem_append_left _ hr); omega
    ·rw [List.mem_singleton.1 hr]; simp only; omega
   ·rw [List.mem_singleton.1 hs]; exact p3 r hr
   ·have h3 := h3 x
    constructor
    ·rintro ⟨r, hr, g1, g2⟩
     rcases List.mem_append.1 hr with hr | hr
     ·obtain ⟨k1, k2, k3⟩ := h3.1 ⟨r, List.mem_append_left _ hr, g1, g2⟩
      exact ⟨k1, by omega, k3⟩
     ·rw [List.mem_singleton.1 hr] at g1 g2
      simp only at g1 g2
      by_cases hx : x = d
      ·rw [hx]; exact ⟨hlo, by omega, hf⟩
      ·obtain ⟨k1, k2, k3⟩ := h3.1 ⟨(a, b), by simp, by simp only; omega, by simp only; omega⟩
       exact ⟨k1, by omega, k3⟩
    ·rintro ⟨g1, g2, g3⟩
     by_cases hx : x = d
     ·exact ⟨(a, d), by simp, by simp only; omega, by simp only; omega⟩
     ·obtain ⟨r, hr, k1, k2⟩ := h3.2 ⟨g1, by omega, g3⟩
      rcases List.mem_append.1 hr with hr | hr
      ·exact ⟨r, List.mem_append_left _ hr, k1, k2⟩
      ·rw [List.mem_singleton.1 hr] at k1 k2
       simp only at k1 k2
       exact ⟨(a, d), by simp, k1, by simp only; omega⟩
  ·rw [if_neg h]
   refine ⟨fun r hr => ?_, List.pairwise_append.2 ⟨h2, List.pairwise_singleton _ _, fun r hr s hs => ?_⟩, fun x => ?_⟩
   ·rcases List.mem_append.1 hr with hr | hr
    ·have := h1 r hr; omega
    ·rw [List.mem_singleton.1 hr]; simp only; omega
   ·rw [List.mem_singleton.1 hs]
    rcases List.mem_append.1 hr with hr | hr
    ·have := p3 r hr; simp only; omega
    ·rw [List.mem_singleton.1 hr]; simp only; omega
   ·have h3 := h3 x
    constructor
    ·rintro ⟨r, hr, g1, g2⟩
     rcases List.mem_append.1 hr with hr | hr
     ·obtain ⟨k1, k2, k3⟩ := h3.1 ⟨r, hr, g1, g2⟩
      exact ⟨k1, by omega, k3⟩
     ·rw [List.mem_singleton.1 hr] at g1 g2
      simp only at g1 g2
      obtain rfl : x = d := by omega
      exact ⟨hlo, by omega, hf⟩
    ·rintro ⟨g1, g2, g3⟩
     by_cases hx : x = d
     ·exact ⟨(d, d), by simp, by simp only; omega, by simp only; omega⟩
     ·obtain ⟨r, hr, k1, k2⟩ := h3.2 ⟨g1, by omega, g3⟩
      exact ⟨r, List.mem_append_left _ hr, k1, k2⟩
theorem inv_skip {l : List Tn} {lo d : Int} {rs : List (Int × Int)} (hf : fitL l d = false) (h : Inv1 l lo d rs) : Inv1 l lo (d + 1) rs := by
 obtain ⟨h1, h2, h3⟩ := h
 refine ⟨fun r hr => by have := h1 r hr; omega, h2, fun x => (h3 x).trans ⟨fun ⟨g1, g2, g3⟩ => ⟨g1, by omega, g3⟩, fun ⟨g1, g2, g3⟩ => ⟨g1, ?_, g3⟩⟩⟩
 have : x ≠ d := fun e => by rw [e, hf] at g3; cases g3
 omega
theorem inv_cand {l : List Tn} {lo : Int} : ∀ (m : Nat) (d : Int) (rs : List (Int × Int)), lo ≤ d → Inv1 l lo d rs → Inv1 l lo (d + m) (candF l m d rs)
 | 0, d, rs, _, h => by rw [show d + ((0 : Nat) : Int) = d by omega]; exact h
 | m + 1, d, rs, hd, h => by
   have e : d + ((m + 1 : Nat) : Int) = (d + 1) + (m : Int) := by omega
   rw [e, candF]
   refine inv_cand m (d + 1) _ (by omega) ?_
   cases hf : fitL l d with
   | true => rw [if_pos rfl]; exact inv_add hd hf h
   | false => rw [if_neg (by simp)]; exact inv_skip hf h
theorem cands_inv {l : List Tn} {lim : Int × Int} (h : lim.1 ≤ lim.2) : Inv1 l lim.1 (lim.2 + 1) (cands l lim) := by
 have := inv_cand (l := l) (lo := lim.1) (cnt lim) lim.1 [] (Int.le_refl _) ⟨by simp, List.Pairwise.nil, fun x => by simp; omega⟩
 rwa [show lim.1 + (cnt lim : Int) = lim.2 + 1 by unfold cnt; omega] at this
theorem amb_facts : ∀ (l : List Tn) (out a : Int), (∀ t ∈ l, tErr t = 0) → 1 ≤ out → out ≤ 1000000000000000 → ambF l out = some a → (1 ≤ a ∧ a ≤ 1000000000000000) ∧ out ∣ a ∧ ∀ t ∈ l, t.1 ∣ a
 | [], out, a, _, h1, h2, h => by
   obtain rfl := Option.some.inj h
   exact ⟨⟨h1, h2⟩, Int.dvd_refl _, by simp⟩
 | t :: l, out, a, hv, h1, h2, h => by
   unfold ambF at h
   split at h
   ·cases h
   ·rename_i hgt
    obtain ⟨t1, _, _, _⟩ := tErr_ok (hv t (by simp))
    obtain ⟨g1, g2, g3, g4⟩ := by_facts (out := out) t1
    have h0 := Int.mul_le_mul h1 g3 (by omega) (by omega)
    obtain ⟨k1, k2, k3⟩ := amb_facts l _ a (fun t ht => hv t (List.mem_cons_of_mem _ ht)) (by omega) (by omega) h
    refine ⟨k1, Int.dvd_trans (Int.dvd_mul_right _ _) k2, fun s hs => ?_⟩
    rcases List.mem_cons.1 hs with rfl | hs
    ·refine Int.dvd_trans ?_ k2
     obtain ⟨q, hq⟩ := gcd_dvd_l out s.1
     have hr := Int.mul_ediv_cancel' (gcd_dvd_r out s.1)
     refine ⟨q, ?_⟩
     generalize ((Nat.gcd out.natAbs s.1.natAbs : Nat) : Int) = g at *
     generalize s.1 / g = p at *
     rw [hq, ← hr]
     grind
    ·exact k3 s hs
theorem fit_shift {l : List Tn} {a : Int} (h : ∀ t ∈ l, t.1 ∣ a) (x k : Int) : fitL l (x + a * k) = fitL l x := by
 unfold fitL
 rw [Bool.eq_iff_iff, List.all_eq_true, List.all_eq_true]
 have e : ∀ t ∈ l, fitB t (x + a * k) = fitB t x := fun t ht => by
  obtain ⟨c, hc⟩ := h t ht
  unfold fitB
  have : x + a * k - t.2.1 = (x - t.2.1) + t.1 * (c * k) := by rw [hc]; grind
  rw [this, Int.add_mul_emod_self_left]
 exact ⟨fun g t ht => by rw [← e t ht]; exact g t ht, fun g t ht => by rw [e t ht]; exact g t ht⟩
theorem amb_prog {l : List Tn} (hc : (chkT l).2 = 0) : s43 l = some (match ambF l 1 with | none => (0, 8) | some a => (a, 0)) := by
 have hv := (chkE_zero tErr (0, 0, 0) 8 l).1 hc
 have h1 := amb1 l (by omega) hv.2 l.length 0 1 (by omega) (by omega) (by omega)
 rw [show ((0 : Nat) : Int) = 0 from rfl] at h1
 unfold s43
 simp only [chkT1, optE_some, hc, bne_self_eq_false, cond_false, h1, List.drop_zero]
 cases ambF l 1 <;> rfl
def inR (x : Int) (r : Int × Int) : Bool := win x r.1 r.2
theorem any_take {α : Type} (p : α → Bool) (l : List α) (d : α) {k : Nat} (h : k < l.length) : (l.take (k + 1)).any p = ((l.take k).any p || p (l.getD k d)) := by
 rw [← take_succ_getD l d h, List.any_append]; simp
theorem loop9a {l : List Tn} {c fewer : List (Int × Int)} {f a g : Int} {lim x0 : Int × Int} (hc : c.length ≤ 1000000) (h1 : ∀ r ∈ c, lim.1 ≤ r.1 ∧ r.1 ≤ r.2 ∧ r.2 < lim.2 + 1) (h2 : c.Pairwise (fun r s => r.2 + 1 < s.1)) (hlim : 0 ≤ lim.1 ∧ lim.2 ≤ 1000000000) :
 loopVal step9_0 (l, c, fewer, f, a, g, false, 0, lim, x0) = some (.inr (l, fewer, f, a, g, c.any (inR x0.1), x0)) := by
 refine loop_for (step := step9_0) (st := fun k => (l, c, fewer, f, a, g, (c.take k).any (inR x0.1), (k : Int), lim, x0)) (n := c.length) (fun k hk => ?_) ?_ 0 (by omega)
 ·have hr := h1 _ (getD_mem ((0, 0) : Int × Int) hk)
  have hnx : (bif (c.take k).any (inR x0.1) then some (Sum.inl (l, c, fewer, f, a, g, true, ((k + 1 : Nat) : Int), lim, x0)) else some (Sum.inl (l, c, fewer, f, a, g, win x0.1 (c.getD k (0, 0)).1 (c.getD k (0, 0)).2, ((k + 1 : Nat) : Int), lim, x0))) =
   some (Sum.inl (l, c, fewer, f, a, g, (c.take (k + 1)).any (inR x0.1), ((k + 1 : Nat) : Int), lim, x0) : _ ⊕ (Bool ⊕ (List Tn × List (Int × Int) × Int × Int × Int × Bool × (Int × Int)))) := by
   rw [any_take (inR x0.1) c (0, 0) hk]
   cases (c.take k).any (inR x0.1) <;> rfl
  simp only [step9_0, lt_cast, inB_cast, hk, decide_true, cond_true, Int.toNat_natCast, decide_eq_false (show ¬ (c.getD k (0, 0)).1 > (c.getD k (0, 0)).2 by omega), cond_false,
   show win (c.getD k (0, 0)).1 lim.1 lim.2 = true from win_iff.2 (by omega), show win (c.getD k (0, 0)).2 lim.1 lim.2 = true from win_iff.2 (by omega), Bool.not_true, wr_succ (show k < 4611686018427387904 by omega)]
  by_cases h0 : k = 0
  ·subst h0
   simp only [decide_eq_false (show ¬ ((0 : Nat) : Int) > 0 by omega), cond_false]
   exact hnx
  ·obtain ⟨j, rfl⟩ : ∃ j, k = j + 1 := ⟨k - 1, by omega⟩
   have hj : j < c.length := by omega
   have hp : (c.getD j (0, 0)).2 + 1 < (c.getD (j + 1) (0, 0)).1 := by
    have := List.pairwise_iff_getElem.1 h2 j (j + 1) hj hk (by omega)
    rwa [List.getD_eq_getElem?_getD, List.getElem?_eq_getElem hj, List.getD_eq_getElem?_getD, List.getElem?_eq_getElem hk]
   have hr2 := h1 _ (getD_mem ((0, 0) : Int × Int) hj)
   have e1 : wr (((j + 1 : Nat) : Int) - 1) = (j : Int) := by rw [wr_id (by omega) (by omega)]; omega
   simp only [decide_eq_true (show ((j + 1 : Nat) : Int) > 0 by omega), cond_true, e1, inB_cast, hj, decide_true, Int.toNat_natCast, wr_id (n := (c.getD j (0, 0)).2 + 1) (by omega) (by omega),
    decide_eq_false (show ¬ (c.getD (j + 1) (0, 0)).1 ≤ (c.getD j (0, 0)).2 + 1 by omega), cond_false]
   exact hnx
 ·simp only [step9_0, lt_cast, Nat.lt_irrefl, decide_false, cond_false, List.take_length]
theorem loop9b {l : List Tn} {fewer : List (Int × Int)} {a g : Int} {x0 : Int × Int} (hc : fewer.length ≤ 1000000) :
 loopVal step9_2 (l, fewer, a, g, false, 0, x0) = some (l, a, g, fewer.any (inR x0.1), x0) := by
 refine loop_for (step := step9_2) (st := fun k => (l, fewer, a, g, (fewer.take k).any (inR x0.1), (k : Int), x0)) (n := fewer.length) (fun k hk => ?_) ?_ 0 (by omega)
 ·rw [any_take (inR x0.1) fewer (0, 0) hk]
  simp only [step9_2, lt_cast, inB_cast, hk, decide_true, cond_true, Int.toNat_natCast, wr_succ (show k < 4611686018427387904 by omega)]
  cases (fewer.take k).any (inR x0.1) <;> rfl
 ·simp only [step9_2, lt_cast, Nat.lt_irrefl, decide_false, cond_false, List.take_length]
theorem loop9c {l : List Tn} {a : Int} {x0 : Int × Int} (hl : l.length ≤ 1000) (hv : ∀ t ∈ l, tErr t = 0) (h : ∀ t ∈ l, t.1 ∣ a) :
 loopVal step9_4 (l, a, 0, x0) = some (.inr (l, a, x0)) := by
 refine loop_for (step := step9_4) (st := fun k => (l, a, (k : Int), x0)) (n := l.length) (fun k hk => ?_) ?_ 0 (by omega)
 ·have ht := tErr_ok (hv _ (getD_mem ((0, 0, 0) : Tn) hk))
  have hm : Int.tmod a (l.getD k (0, 0, 0)).1 = 0 := Int.tmod_eq_zero_of_dvd (h _ (getD_mem ((0, 0, 0) : Tn) hk))
  simp only [step9_4, lt_cast, inB_cast, hk, decide_true, cond_true, Int.toNat_natCast, show ((l.getD k (0, 0, 0)).1 == 0) = false from beq_eq_false_iff_ne.2 (by omega), Bool.not_false, hm, bne_self_eq_false, cond_false, wr_succ (show k < 4611686018427387904 by omega)]
 ·simp only [step9_4, lt_cast, Nat.lt_irrefl, decide_false, cond_false]
theorem any_fit {l : List Tn} {lim : Int × Int} (h : lim.1 ≤ lim.2) {x : Int} (hx : lim.1 ≤ x ∧ x ≤ lim.2) : (cands l lim).any (inR x) = fitL l x := by
 obtain ⟨_, _, h3⟩ := cands_inv (l := l) h
 have h3 := h3 x
 rw [Bool.eq_iff_iff, List.any_eq_true]
 constructor
 ·rintro ⟨r, hr, hw⟩
  exact (h3.1 ⟨r, hr, win_iff.1 hw⟩).2.2
 ·intro hf
  obtain ⟨r, hr, hw⟩ := h3.2 ⟨hx.1, by omega, hf⟩
  exact ⟨r, hr, win_iff.2 hw⟩
theorem mulC {a b A B : Int} (ha : -A ≤ a ∧ a ≤ A) (hb : -B ≤ b ∧ b ≤ B) : -(A * B) ≤ a * b ∧ a * b ≤ A * B := by
 have h : (a * b).natAbs ≤ (A * B).natAbs := by
  rw [Int.natAbs_mul, Int.natAbs_mul]
  exact Nat.mul_le_mul (by omega) (by omega)
 have h2 : 0 ≤ A * B := Int.mul_nonneg (by omega) (by omega)
 omega
theorem all_true (y : List Tn × (Int × Int) × (Int × Int)) : s9 y = some true := by
 obtain ⟨l, lim, x0⟩ := y
 unfold s9
 simp only [Bool.not_true, cond_false]
 by_cases hl0 : (l.length : Int) = 0
 ·rw [show ((l.length : Int) == 0) = true from beq_iff_eq.2 hl0]; rfl
 rw [show ((l.length : Int) == 0) = false from beq_eq_false_iff_ne.2 hl0, cond_false]
 by_cases hl8 : (l.length : Int) ≥ 8
 ·rw [decide_eq_true hl8]; rfl
 rw [decide_eq_false hl8, cond_false]
 obtain ⟨b, hb, _⟩ := span_eq lim 600
 simp only [hb, optE_some]
 cases b with
 | false => rfl
 | true =>
 simp only [Bool.not_true, cond_false, tonesErr_eq, optE_some]
 by_cases he : tonE l lim = 0
 case neg => rw [show (tonE l lim != 0) = true by simpa using he]; rfl
 rw [show (tonE l lim != 0) = false by simpa using he, cond_false]
 obtain ⟨t1, t2, t3, t4, t5, t6⟩ := tonE_zero he
 cases hw1 : win x0.1 lim.1 lim.2 with
 | false => rfl
 | true =>
 cases hw2 : win x0.2 (-1000) 1000 with
 | false => rfl
 | true =>
 have g1 := win_iff.1 hw1
 have g2 := win_iff.1 hw2
 have hc0 : (chkT l).2 = 0 := (chkE_zero tErr (0, 0, 0) 8 l).2 ⟨by omega, t2⟩
 have hd2 : ∀ t ∈ l.drop 1, tErr t = 0 := fun t ht => t2 t (List.mem_of_mem_drop ht)
 have hc1 : (chkT (l.drop 1)).2 = 0 := (chkE_zero tErr (0, 0, 0) 8 (l.drop 1)).2 ⟨by rw [List.length_drop]; omega, hd2⟩
 have he0 : limE lim = 0 := by unfold tonE at he; rw [hc0] at he; exact he
 have he1 : tonE (l.drop 1) lim = 0 := by unfold tonE; rw [hc1]; exact he0
 have hlen := cands_len he
 have hlen1 := cands_len he1
 have hin := any_fit (l := l) t4 (x := x0.1) (by omega)
 have hin1 := any_fit (l := l.drop 1) t4 (x := x0.1) (by omega)
 have hmono : fitL l x0.1 = true → fitL (l.drop 1) x0.1 = true := fun h => by
  unfold fitL at h ⊢
  rw [List.all_eq_true] at h ⊢
  exact fun t ht => h t (List.mem_of_mem_drop ht)
 obtain ⟨i1, i2, _⟩ := cands_inv (l := l) t4
 have hfit := fits_ref (show l.length ≤ 1000 by omega) t2 (d := x0.1) (by omega)
 have fin : ∀ (r : Int × Int), s43 l = some r → (bif r.2 != 0 then some (r.2 == 8) else bif !(win r.1 1 1000000000000000) then some false else optE (loopVal step9_4 (l, r.1, 0, x0)) (fun e29 => sumE e29 (fun e30 => some e30) (fun e31 => optE (s47 (e31.1, wr (e31.2.2.1 + (wr (e31.2.1 * e31.2.2.2))), [])) (fun r32 => optE (s47 (e31.1, e31.2.2.1, [])) (fun r33 => some (r32 == r33)) none) none)) none) = some true := by
  intro r hr
  rw [amb_prog hc0] at hr
  obtain rfl := Option.some.inj hr
  cases ha : ambF l 1 with
  | none => rfl
  | some a =>
    obtain ⟨k1, _, k3⟩ := amb_facts l 1 a t2 (by omega) (by omega) ha
    have hmul := mulC (a := a) (b := x0.2) (A := 1000000000000000) (B := 1000) (by omega) (by omega)
    simp only [bne_self_eq_false, cond_false, show win a 1 1000000000000000 = true from win_iff.2 k1, Bool.not_true, loop9c (show l.length ≤ 1000 by omega) t2 k3, optE_some, sumE_r]
    rw [wr_id (n := a * x0.2) (by omega) (by omega), wr_id (n := x0.1 + a * x0.2) (by omega) (by omega), fits_ref (show l.length ≤ 1000 by omega) t2 (d := x0.1 + a * x0.2) (by omega), hfit, fit_shift k3]
    simp [optE_some]
 obtain ⟨r8, hr8⟩ : ∃ r, s43 l = some r := ⟨_, amb_prog hc0⟩
 have fin := fin r8 hr8
 simp only [Bool.not_true, cond_false, copyT l (by omega), copyT (l.drop 1) (by rw [List.length_drop]; omega), optE_some, cand_good he, cand_good he1, decide_eq_true (show 1 ≤ (l.length : Int) by omega), cond_true, hr8]
 by_cases c1 : ((cands l lim).length : Int) > 50
 ·rw [decide_eq_true c1]
  exact fin
 ·rw [decide_eq_false c1]
  simp only [cond_false, beq_self_eq_true, cond_true, loop9a (l := l) (x0 := x0) (show (cands l lim).length ≤ 1000000 by omega) i1 i2 ⟨t3, t5⟩, optE_some, sumE_r, hfit, hin, Bool.not_true]
  by_cases c2 : ((cands (l.drop 1) lim).length : Int) > 50
  ·rw [decide_eq_true c2]
   exact fin
  ·rw [decide_eq_false c2]
   simp only [cond_false, beq_self_eq_true, cond_true, loop9b (show (cands (l.drop 1) lim).length ≤ 1000000 by omega), optE_some, hin1]
   cases hf : fitL l x0.1 with
   | false =>
     simp only [cond_false]
     exact fin
   | true =>
     simp only [cond_true, hmono hf, Bool.not_true, cond_false]
     exact fin
end Go.Proofs.YtfmfiflpokogiaaDoor
