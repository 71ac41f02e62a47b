/- Chapter 2: streams: what the functions compute, continued. -/
import Derived.Test.YtinkhmfciealkaaPure02i
set_option linter.unusedSimpArgs false
set_option linter.unusedVariables false
set_option maxRecDepth 100000
namespace Go.Proofs.Ytinkhmfciealkaa
open Go.Ev

/-! Gaps -/

def gapStep (gs : List (Int × Int)) (t : Int) : List (Int × Int) :=
  match gs.getLast? with
  | some x => if x.2 + 1 = t * 8 then gs.dropLast ++ [(x.1, (t + 1) * 8 - 1)] else gs ++ [(t * 8, (t + 1) * 8 - 1)]
  | none => gs ++ [(t * 8, (t + 1) * 8 - 1)]
theorem gapStep_nil (t : Int) : gapStep [] t = [(t * 8, (t + 1) * 8 - 1)] := rfl
theorem gapStep_snoc (a : List (Int × Int)) (x : Int × Int) (t : Int) : gapStep (a ++ [x]) t = if x.2 + 1 = t * 8 then a ++ [(x.1, (t + 1) * 8 - 1)] else a ++ [x] ++ [(t * 8, (t + 1) * 8 - 1)] := by
  simp [gapStep]
theorem snoc_getD {α : Type} (a : List α) (x d : α) : (a ++ [x]).getD a.length d = x := by simp
theorem snoc_set {α : Type} (a : List α) (x y : α) : (a ++ [x]).set a.length y = a ++ [y] := by simp
theorem nil_or_snoc {α : Type} (l : List α) : l = [] ∨ ∃ a x, l = a ++ [x] := by
  cases h : l.reverse with
  | nil => exact .inl (by simpa using h)
  | cons x t => exact .inr ⟨t.reverse, x, by rw [← List.reverse_reverse l, h]; simp⟩
/-- All gaps lie where samples may lie. -/
def Bnd (gs : List (Int × Int)) (n : Nat) : Prop := gs.length ≤ n ∧ ∀ g ∈ gs, 0 ≤ g.1 ∧ g.1 ≤ g.2 ∧ g.2 ≤ 1000
theorem Bnd.step {gs : List (Int × Int)} {n : Nat} (h : Bnd gs n) {t : Int} (h0 : 0 ≤ t) (h1 : t ≤ 100) : Bnd (gapStep gs t) (n + 1) := by
  obtain ⟨a1, a2⟩ := h
  rcases nil_or_snoc gs with rfl | ⟨a, x, rfl⟩
  · rw [gapStep_nil]
    refine ⟨by simp, fun g hg => ?_⟩
    obtain rfl := List.mem_singleton.1 hg
    simp only; omega
  · rw [gapStep_snoc]
    have hx := a2 x (by simp)
    simp only [List.length_append, List.length_singleton] at a1
    split
    · rename_i he
      refine ⟨by simp; omega, fun g hg => ?_⟩
      rcases List.mem_append.1 hg with hg | hg
      · exact a2 g (List.mem_append_left _ hg)
      · obtain rfl := List.mem_singleton.1 hg
        simp only; omega
    · refine ⟨by simp; omega, fun g hg => ?_⟩
      rcases List.mem_append.1 hg with hg | hg
      · exact a2 g hg
      · obtain rfl := List.mem_singleton.1 hg
        simp only; omega
/-- The gaps of so many counters. -/
def gapsTo (l : List Pkt) (lo : Int) : Nat → List (Int × Int)
  | 0 => []
  | k + 1 => bif decide (lo + k ∈ cntsTo l l.length) then gapsTo l lo k else gapStep (gapsTo l lo k) k
theorem gapsTo_bnd (l : List Pkt) (lo : Int) : ∀ k, k ≤ 100 → Bnd (gapsTo l lo k) k
  | 0, _ => ⟨Nat.le_refl _, fun g hg => by cases hg⟩
  | k + 1, hk => by
    have ih := gapsTo_bnd l lo k (by omega)
    simp only [gapsTo]
    cases decide (lo + (k : Int) ∈ cntsTo l l.length)
    · exact ih.step (by omega) (by omega)
    · exact ⟨Nat.le_succ_of_le ih.1, ih.2⟩
theorem gaps_fold (l : List Pkt) (lo : Int) : ∀ k, (missTo l lo k).foldl (fun gs n => gapStep gs (n - lo)) [] = gapsTo l lo k
  | 0 => rfl
  | k + 1 => by
    simp only [missTo, gapsTo]
    cases decide (lo + (k : Int) ∈ cntsTo l l.length)
    · simp only [cond_false, List.foldl_append, List.foldl_cons, List.foldl_nil, gaps_fold l lo k]
      rw [show lo + (k : Int) - lo = (k : Int) by omega]
    · exact gaps_fold l lo k
theorem fold_bnd {lo : Int} : ∀ {ms : List Int}, (∀ n ∈ ms, lo ≤ n ∧ n ≤ lo + 100) → ∀ {gs : List (Int × Int)} {n : Nat}, Bnd gs n → Bnd (ms.foldl (fun gs n => gapStep gs (n - lo)) gs) (n + ms.length)
  | [], _, gs, n, h => h
  | m :: ms, hm, gs, n, h => by
    have h1 := hm m (List.mem_cons_self ..)
    have h2 := fold_bnd (lo := lo) (ms := ms) (fun k hk => hm k (List.mem_cons_of_mem _ hk)) (h.step (t := m - lo) (by omega) (by omega))
    simp only [List.foldl_cons, List.length_cons]
    rw [show n + (ms.length + 1) = n + 1 + ms.length by omega]
    exact h2
theorem missTo_mem {l : List Pkt} {lo n : Int} : ∀ {k : Nat}, n ∈ missTo l lo k ↔ lo ≤ n ∧ n < lo + k ∧ n ∉ cntsTo l l.length
  | 0 => by simp [missTo]; omega
  | k + 1 => by
    have ih := missTo_mem (l := l) (lo := lo) (n := n) (k := k)
    simp only [missTo]
    by_cases h : lo + (k : Int) ∈ cntsTo l l.length
    · rw [decide_eq_true h, cond_true, ih]
      constructor
      · rintro ⟨h1, h2, h3⟩; exact ⟨h1, by omega, h3⟩
      · rintro ⟨h1, h2, h3⟩
        refine ⟨h1, ?_, h3⟩
        have : n ≠ lo + k := fun e => h3 (e ▸ h)
        omega
    · rw [decide_eq_false h, cond_false, List.mem_append, ih, List.mem_singleton]
      constructor
      · rintro (⟨h1, h2, h3⟩ | rfl)
        · exact ⟨h1, by omega, h3⟩
        · exact ⟨by omega, by omega, h⟩
      · rintro ⟨h1, h2, h3⟩
        by_cases e : n = lo + k
        · exact .inr e
        · exact .inl ⟨h1, by omega, h3⟩

/-! Samples -/

def sampTo (l : List Pkt) (lo : Int) : Nat → List (Int × Int)
  | 0 => []
  | k + 1 => sampTo l lo k ++ samplesOf (mapGet (lo + k) pkt0 (esTo l l.length))
theorem sampTo_length (l : List Pkt) (lo : Int) : ∀ k, (sampTo l lo k).length = 8 * k
  | 0 => rfl
  | k + 1 => by
    simp only [sampTo, List.length_append, sampTo_length l lo k, samplesOf, List.length_cons, List.length_nil]; omega
def streamOf (l : List Pkt) : Int × List (Int × Int) × List (Int × Int) := (loC l, sampTo l (loC l) (spanC l), gapsTo l (loC l) (spanC l))
theorem gap_prog {gs : List (Int × Int)} {n : Nat} (h : Bnd gs n) (hn : n ≤ 1000) {t : Int} (h0 : 0 ≤ t) (h1 : t ≤ 100) {α : Type} (f : List (Int × Int) → α) :
    (bif decide ((gs.length : Int) > 0) then
      bif inBounds (wr ((gs.length : Int) - 1)) gs.length then
        bif (wr ((gs.getD (wr ((gs.length : Int) - 1)).toNat (0, 0)).2 + 1)) == (wr (t * 8)) then
          bif inBounds (wr ((gs.length : Int) - 1)) gs.length then
            some (f (gs.set (wr ((gs.length : Int) - 1)).toNat ((gs.getD (wr ((gs.length : Int) - 1)).toNat (0, 0)).1, wr ((wr ((wr (t + 1)) * 8)) - 1))))
          else none
        else
          bif room 16 (gs.length + 1) then
            some (f (gs ++ [(wr (t * 8), wr ((wr ((wr (t + 1)) * 8)) - 1))]))
          else none
      else none
    else
      bif room 16 (gs.length + 1) then
        some (f (gs ++ [(wr (t * 8), wr ((wr ((wr (t + 1)) * 8)) - 1))]))
      else none) = some (f (gapStep gs t)) := by
  obtain ⟨a1, a2⟩ := h
  rcases nil_or_snoc gs with rfl | ⟨a, x, rfl⟩
  · rw [gapStep_nil]
    simp only [List.length_nil, List.nil_append]
    walk []
  · have hx := a2 x (by simp)
    have e : (((a ++ [x]).length : Int) - 1) = (a.length : Int) := by simp
    have e2 : (a ++ [x]).length = a.length + 1 := by simp
    simp only [e]
    walk [snoc_getD, snoc_set]
    rw [gapStep_snoc]
    by_cases he : x.2 + 1 = t * 8
    · rw [if_pos he]; walk []
    · rw [if_neg he]; walk []
theorem gap_ref {gs : List (Int × Int)} {n : Nat} (h : Bnd gs n) (hn : n ≤ 1000) {t : Int} (h0 : 0 ≤ t) (h1 : t ≤ 100) {α : Type} (f : List (Int × Int) → α) :
    (bif decide ((wr ((gs.length : Int) - 1)) ≥ 0) then
      bif inBounds (wr ((gs.length : Int) - 1)) gs.length then
        bif (gs.getD (wr ((gs.length : Int) - 1)).toNat (0, 0)).2 == (wr ((wr (t * 8)) - 1)) then
          bif inBounds (wr ((gs.length : Int) - 1)) gs.length then
            some (f (gs.set (wr ((gs.length : Int) - 1)).toNat ((gs.getD (wr ((gs.length : Int) - 1)).toNat (0, 0)).1, wr ((wr ((wr (t * 8)) + 8)) - 1))))
          else none
        else
          bif room 16 (gs.length + 1) then
            some (f (gs ++ [(wr (t * 8), wr ((wr ((wr (t * 8)) + 8)) - 1))]))
          else none
      else none
    else
      bif room 16 (gs.length + 1) then
        some (f (gs ++ [(wr (t * 8), wr ((wr ((wr (t * 8)) + 8)) - 1))]))
      else none) = some (f (gapStep gs t)) := by
  obtain ⟨a1, a2⟩ := h
  have e8 : t * 8 + 8 - 1 = (t + 1) * 8 - 1 := by omega
  rcases nil_or_snoc gs with rfl | ⟨a, x, rfl⟩
  · rw [gapStep_nil]
    simp only [List.length_nil, List.nil_append]
    walk [Int.natCast_zero, e8]
  · have hx := a2 x (by simp)
    have e : (((a ++ [x]).length : Int) - 1) = (a.length : Int) := by simp
    have e2 : (a ++ [x]).length = a.length + 1 := by simp
    simp only [e]
    walk [snoc_getD, snoc_set, e8]
    rw [gapStep_snoc]
    by_cases he : x.2 + 1 = t * 8
    · rw [if_pos he]; walk []
    · rw [if_neg he]; walk []
theorem s67_eq (l : List Pkt) : s67 l = some (if pktsE l = 0 then (streamOf l, 0) else ((0, [], []), pktsE l)) := by
  simp only [s67, s117_eq, optE]
  have h2 := openR_snd l
  by_cases h : pktsE l = 0
  · rw [openR_zero h, if_pos h]
    obtain ⟨g1, g2, g3, g4, g5⟩ := pktsE_zero h
    obtain ⟨f1, f2, f3, f4, f5⟩ := span_facts h
    have hlen := cntsTo_length l l.length
    have hi : s122 (recOf l) = some (hiC l) := s122_eq (r := recOf l) (by simp only [recOf]; omega) (by simp only [recOf]; omega)
    have lo : s121 (recOf l) = some (loC l) := s121_eq (r := recOf l) (by simp only [recOf]; omega) (by simp only [recOf]; omega)
    have hl := loop_for (step := step67_0) (st := fun k => (recOf l, loC l + (k : Int), (0, [], []), (loC l, sampTo l (loC l) k, []))) (n := spanC l) (e := (recOf l, (0, [], []), (loC l, sampTo l (loC l) (spanC l), [])))
      (fun k hk => by
        have hs := sampTo_length l (loC l) k
        simp only [step67_0, hi]
        walk [show (recOf l).1 = esTo l l.length from rfl, sampTo, Int.add_assoc]
        rfl) (by
        simp only [step67_0, hi]
        walk []) 0 (by omega)
    simp only [Int.natCast_zero, Int.add_zero, sampTo] at hl
    have hm : (missOf l).length ≤ 40 := Nat.le_trans (missTo_length l (loC l) (spanC l)) f5
    have hl2 := loop_for (step := step67_2) (st := fun k => (missOf l, ((missOf l).length : Int), (k : Int), (0, [], []), (loC l, sampTo l (loC l) (spanC l), ((missOf l).take k).foldl (fun gs n => gapStep gs (n - loC l)) []))) (n := (missOf l).length) (e := ((0, [], []), streamOf l))
      (fun k hk => by
        have hmem := (missTo_mem (k := spanC l)).1 (getD_in hk : (missOf l).getD k 0 ∈ missOf l)
        have hb : Bnd (((missOf l).take k).foldl (fun gs n => gapStep gs (n - loC l)) []) (0 + ((missOf l).take k).length) := fold_bnd (fun n hn => by
          have := (missTo_mem (k := spanC l)).1 (List.mem_of_mem_take hn : n ∈ missOf l)
          omega) ⟨Nat.le_refl _, fun g hg => by cases hg⟩
        rw [List.length_take] at hb
        have hp := gap_prog hb (by omega) (t := (missOf l).getD k 0 - loC l) (by omega) (by omega) (fun gs => (Sum.inl (missOf l, ((missOf l).length : Int), ((k + 1 : Nat) : Int), ((0 : Int), ([] : List (Int × Int)), ([] : List (Int × Int))), (loC l, sampTo l (loC l) (spanC l), gs)) : ((List Int) × Int × Int × (Int × (List (Int × Int)) × List (Int × Int)) × (Int × (List (Int × Int)) × (List (Int × Int)))) ⊕ ((Int × (List (Int × Int)) × List (Int × Int)) × (Int × (List (Int × Int)) × (List (Int × Int))))))
        rw [← take_succ_getD _ 0 hk, List.foldl_append, List.foldl_cons, List.foldl_nil, ← hp]
        have e1 : wr ((missOf l).getD k 0 - loC l) = (missOf l).getD k 0 - loC l := wr_id (by omega) (by omega)
        simp only [step67_2, Int.toNat_natCast, e1, wr_succ (show k < 4611686018427387904 by omega), inB_cast, lt_cast, decide_eq_true hk, cond_true]) (by
        simp only [step67_2]
        walk [List.take_length]
        rw [missOf, gaps_fold]
        rfl) 0 (by omega)
    simp only [Int.natCast_zero, List.take_zero, List.foldl_nil] at hl2
    simp only [optE, lo, hl, s120_eq h, hl2]
    rfl
  · rw [if_neg h]
    have hb : (pktsE l != 0) = true := by simpa using h
    cases ho : (openR l).1 <;> simp only [optE, h2, hb, cond_true]
end Go.Proofs.Ytinkhmfciealkaa
