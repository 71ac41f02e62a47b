/- Linear equations over the field of 16 elements, by elimination. -/
import Derived.Test.YtlngennlccaneaaGf
set_option linter.unusedSimpArgs false
set_option linter.unusedVariables false
namespace Go.Proofs.Ytlngennlccaneaa
abbrev Mx := Nat → Nat → G
def dotW (W : Nat) (r y : Nat → G) : G := sumG (List.range W) fun i => gm (r i) (y i)
theorem dotW_scale (W : Nat) (r y : Nat → G) (c : G) : dotW W (fun i => gm (r i) c) y = gm (dotW W r y) c := by
 unfold dotW
 rw [gm_comm, sumG_gm]
 refine sumG_congr fun i _ => ?_
 show gm (gm (r i) c) (y i) = gm c (gm (r i) (y i))
 rw [gm_comm (r i) c, gm_assoc]
theorem dotW_elim (W : Nat) (r p y : Nat → G) (c : G) : dotW W (fun i => ga (r i) (gm (p i) c)) y = ga (dotW W r y) (gm (dotW W p y) c) := by
 rw [← dotW_scale]
 unfold dotW
 rw [← sumG_ga]
 exact sumG_congr fun i _ => ga_gm _ _ _
theorem dotW_congr {W : Nat} {r r' y : Nat → G} (h : ∀ i, i < W → r i = r' i) : dotW W r y = dotW W r' y :=
 sumG_congr fun i hi => by rw [h i (List.mem_range.1 hi)]
structure StepR (k R W : Nat) (M M' : Mx) (q : Nat) : Prop where
 lo : k ≤ q
 hi : q < R
 piv : M q k ≠ 0
 row : ∀ i, i < W → M' k i = gm (M q i) (gi (M q k))
 at_ : ∀ i, i < W → q ≠ k → M' q i = ga (M k i) (gm (M' k i) (M k k))
 oth : ∀ j, j < R → j ≠ k → j ≠ q → ∀ i, i < W → M' j i = ga (M j i) (gm (M' k i) (M j k))
def NoPiv (k R : Nat) (M : Mx) : Prop := ∀ j, k ≤ j → j < R → M j k = 0
def UnitTo (k R : Nat) (M : Mx) : Prop := k ≤ R ∧ ∀ i, i < k → ∀ j, j < R → M j i = if j = i then 1 else 0
theorem gi_ne : ∀ a : G, a ≠ 0 → gi a ≠ 0 := by decide
section
variable {k R W : Nat} {M M' : Mx} {q : Nat}
theorem StepR.sol (h : StepR k R W M M' q) (y : Nat → G) : (∀ j, j < R → dotW W (M' j) y = 0) ↔ ∀ j, j < R → dotW W (M j) y = 0 := by
 have hk : dotW W (M' k) y = gm (dotW W (M q) y) (gi (M q k)) := by rw [dotW_congr h.row, dotW_scale]
 have hq : q ≠ k → dotW W (M' q) y = ga (dotW W (M k) y) (gm (dotW W (M' k) y) (M k k)) := fun hn => by
  rw [dotW_congr (fun i hi => h.at_ i hi hn), dotW_elim]
 have ho : ∀ j, j < R → j ≠ k → j ≠ q → dotW W (M' j) y = ga (dotW W (M j) y) (gm (dotW W (M' k) y) (M j k)) := fun j hj h1 h2 => by
  rw [dotW_congr (h.oth j hj h1 h2), dotW_elim]
 have hlo := h.lo; have hhi := h.hi
 constructor
 ·intro hs
  have h0 := hs k (by omega)
  have hMq : dotW W (M q) y = 0 := by
   rw [hk] at h0
   rcases gm_eq_zero _ _ h0 with h' | h'
   ·exact h'
   ·exact absurd h' (gi_ne _ h.piv)
  intro j hj
  by_cases h1 : j = q
  ·rw [h1]; exact hMq
  by_cases h2 : j = k
  ·subst h2
   have := hs q hhi
   rw [hq (fun e => h1 e.symm), h0, zero_gm, ga_zero] at this
   exact this
  ·have := hs j hj
   rw [ho j hj h2 h1, h0, zero_gm, ga_zero] at this
   exact this
 ·intro hs
  have h0 : dotW W (M' k) y = 0 := by rw [hk, hs q hhi, zero_gm]
  intro j hj
  by_cases h2 : j = k
  ·rw [h2]; exact h0
  by_cases h1 : j = q
  ·rw [h1, hq (fun e => h2 (h1.trans e)), h0, zero_gm, ga_zero]; exact hs k (by omega)
  ·rw [ho j hj h2 h1, h0, zero_gm, ga_zero]; exact hs j hj
theorem StepR.unit (h : StepR k R W M M' q) (hW : k < W) (hu : UnitTo k R M) : UnitTo (k + 1) R M' := by
 have hlo := h.lo; have hhi := h.hi
 obtain ⟨u1, u2⟩ := hu
 refine ⟨by omega, fun i hi j hj => ?_⟩
 by_cases hik : i = k
 ·subst hik
  have hkk : M' i i = 1 := by rw [h.row i hW, gm_gi _ h.piv]
  by_cases h2 : j = i
  ·rw [h2, if_pos rfl]; exact hkk
  ·rw [if_neg h2]
   by_cases h1 : j = q
   ·rw [h1, h.at_ i hW (fun e => h2 (h1.trans e)), hkk, one_gm, ga_self]
   ·rw [h.oth j hj h2 h1 i hW, hkk, one_gm, ga_self]
 ·have hi' : i < k := by omega
  have hqi : M q i = 0 := by rw [u2 i hi' q hhi, if_neg (by omega)]
  have hki : M' k i = 0 := by rw [h.row i (by omega), hqi, zero_gm]
  by_cases h2 : j = k
  ·rw [h2, hki, if_neg (by omega)]
  ·by_cases h1 : j = q
   ·rw [h1, h.at_ i (by omega) (fun e => h2 (h1.trans e)), hki, zero_gm, ga_zero, u2 i hi' k (by omega), if_neg (by omega), if_neg (by omega)]
   ·rw [h.oth j hj h2 h1 i (by omega), hki, zero_gm, ga_zero, u2 i hi' j hj]
theorem noPiv_kernel {U : Nat} (hk : k < U) (hu : UnitTo k R M) (h : NoPiv k R M) : ∃ y : Nat → G, y U = 0 ∧ y k = 1 ∧ ∀ j, j < R → dotW (U + 1) (M j) y = 0 := by
 obtain ⟨u1, u2⟩ := hu
 refine ⟨fun i => if i < k then M i k else if i = k then 1 else 0, by dsimp only; rw [if_neg (by omega), if_neg (by omega)], by dsimp only; rw [if_neg (by omega), if_pos rfl], fun j hj => ?_⟩
 have hn := List.nodup_range (n := U + 1)
 have e : dotW (U + 1) (M j) (fun i => if i < k then M i k else if i = k then 1 else 0) = ga (sumG (List.range (U + 1)) fun i => if i < k then gm (M j i) (M i k) else 0) (sumG (List.range (U + 1)) fun i => if i = k then M j k else 0) := by
  unfold dotW
  rw [← sumG_ga]
  refine sumG_congr fun i _ => ?_
  dsimp only
  by_cases h1 : i < k
  ·rw [if_pos h1, if_pos h1, if_neg (by omega), ga_zero]
  ·rw [if_neg h1, if_neg h1]
   by_cases h2 : i = k
   ·rw [if_pos h2, if_pos h2, gm_one, zero_ga, h2]
   ·rw [if_neg h2, if_neg h2, gm_zero, ga_zero]
 rw [e, sumG_one (f := fun i => if i = k then M j k else 0) (a := k) hn (List.mem_range.2 (by omega)) (fun x _ hx => if_neg hx), if_pos rfl]
 by_cases hjk : j < k
 ·rw [sumG_one (f := fun i => if i < k then gm (M j i) (M i k) else 0) (a := j) hn (List.mem_range.2 (by omega)) (fun x _ hx => by
   by_cases h1 : x < k
   ·rw [if_pos h1, u2 x h1 j hj, if_neg (fun e => hx e.symm), zero_gm]
   ·rw [if_neg h1]), if_pos hjk, u2 j hjk j hj, if_pos rfl, one_gm, ga_self]
 ·rw [sumG_zero (fun x _ => by
   by_cases h1 : x < k
   ·rw [if_pos h1, u2 x h1 j hj, if_neg (by omega), zero_gm]
   ·rw [if_neg h1]), zero_ga, h j (by omega) hj]
end
inductive Steps (R W : Nat) : Nat → Mx → Mx → Prop where
  | nil {M : Mx} : Steps R W 0 M M
  | snoc {k : Nat} {M N N' : Mx} {q : Nat} : Steps R W k M N → StepR k R W N N' q → Steps R W (k + 1) M N'
theorem Steps.sol {R W k : Nat} {M N : Mx} (h : Steps R W k M N) (y : Nat → G) : (∀ j, j < R → dotW W (N j) y = 0) ↔ ∀ j, j < R → dotW W (M j) y = 0 := by
 induction h with
 | nil => exact Iff.rfl
 | snoc _ hs ih => exact (hs.sol y).trans ih
theorem Steps.unit {R W k : Nat} {M N : Mx} (h : Steps R W k M N) (hk : k ≤ W) : UnitTo k R N := by
 induction h with
 | nil => exact ⟨Nat.zero_le _, fun i hi => by omega⟩
 | snoc _ hs ih => exact hs.unit (by omega) (ih (by omega))
def SolvesM (R U : Nat) (M : Mx) (x : Nat → G) : Prop := ∀ j, j < R → dotW U (M j) x = M j U
def Triv (R U : Nat) (M : Mx) : Prop := ∀ x : Nat → G, (∀ j, j < R → dotW U (M j) x = 0) → ∀ i, i < U → x i = 0
theorem dotW_last {U : Nat} (r y : Nat → G) : dotW (U + 1) r y = ga (dotW U r y) (gm (r U) (y U)) := by
 unfold dotW
 rw [List.range_succ]
 generalize List.range U = l
 induction l with
 | nil => simp only [List.nil_append, sumG_cons, sumG_nil, ga_zero, zero_ga]
 | cons x l ih => rw [List.cons_append, sumG_cons, sumG_cons, ih, ga_assoc]
theorem dotW_congr2 {W : Nat} {r y y' : Nat → G} (h : ∀ i, i < W → y i = y' i) : dotW W r y = dotW W r y' :=
 sumG_congr fun i hi => by rw [h i (List.mem_range.1 hi)]
def withOne (U : Nat) (x : Nat → G) (c : G) : Nat → G := fun i => if i = U then c else x i
theorem with_lt {U i : Nat} (x : Nat → G) (c : G) (h : i < U) : withOne U x c i = x i := if_neg (by omega)
theorem with_U (U : Nat) (x : Nat → G) (c : G) : withOne U x c U = c := if_pos rfl
theorem solves_iff {R U : Nat} {M : Mx} {x : Nat → G} : SolvesM R U M x ↔ ∀ j, j < R → dotW (U + 1) (M j) (withOne U x 1) = 0 := by
 refine forall_congr' fun j => forall_congr' fun _ => ?_
 rw [dotW_last, dotW_congr2 (y' := x) (fun i hi => with_lt x 1 hi), with_U, gm_one, ga_eq_zero]
theorem hom_iff {R U : Nat} {M : Mx} {x : Nat → G} : (∀ j, j < R → dotW U (M j) x = 0) ↔ ∀ j, j < R → dotW (U + 1) (M j) (withOne U x 0) = 0 := by
 refine forall_congr' fun j => forall_congr' fun _ => ?_
 rw [dotW_last, dotW_congr2 (y' := x) (fun i hi => with_lt x 0 hi), with_U, gm_zero, ga_zero]
theorem unit_solves {R U : Nat} {N : Mx} (hu : UnitTo U R N) (x : Nat → G) : SolvesM R U N x ↔ (∀ i, i < U → x i = N i U) ∧ ∀ j, U ≤ j → j < R → N j U = 0 := by
 have hd : ∀ j, j < R → dotW U (N j) x = if j < U then x j else 0 := fun j hj => by
  unfold dotW
  by_cases h : j < U
  ·rw [if_pos h, sumG_one (a := j) List.nodup_range (List.mem_range.2 h) (fun i hi hne => by
    rw [hu.2 i (List.mem_range.1 hi) j hj, if_neg (fun e => hne e.symm), zero_gm]), hu.2 j h j hj, if_pos rfl, one_gm]
  ·rw [if_neg h]
   exact sumG_zero fun i hi => by
    have := List.mem_range.1 hi
    rw [hu.2 i this j hj, if_neg (by omega), zero_gm]
 constructor
 ·intro h
  refine ⟨fun i hi => ?_, fun j h1 h2 => ?_⟩
  ·have := h i (by have := hu.1; omega)
   rwa [hd i (by have := hu.1; omega), if_pos hi] at this
  ·have := h j h2
   rw [hd j h2, if_neg (by omega)] at this
   exact this.symm
 ·rintro ⟨h1, h2⟩ j hj
  rw [hd j hj]
  by_cases h : j < U
  ·rw [if_pos h]; exact h1 j h
  ·rw [if_neg h]; exact (h2 j (by omega) hj).symm
theorem solve_sound {R U : Nat} {M N : Mx} (h : Steps R (U + 1) U M N) (hz : ∀ j, U ≤ j → j < R → N j U = 0) : SolvesM R U M fun i => N i U := by
 have := (unit_solves (h.unit (by omega)) fun i => N i U).2 ⟨fun _ _ => rfl, hz⟩
 exact solves_iff.2 ((h.sol _).1 (solves_iff.1 this))
theorem solve_piv {R U k : Nat} {M N : Mx} (h : Steps R (U + 1) k M N) (hk : k < U) (ht : Triv R U M) : ¬ NoPiv k R N := fun hn => by
 obtain ⟨y, y1, y2, y3⟩ := noPiv_kernel hk (h.unit (by omega)) hn
 have h1 := (h.sol y).1 y3
 have e : ∀ i, i < U + 1 → y i = withOne U y 0 i := fun i hi => by
  unfold withOne
  by_cases hu : i = U
  ·rw [if_pos hu, hu, y1]
  ·rw [if_neg hu]
 have h2 : ∀ j, j < R → dotW (U + 1) (M j) (withOne U y 0) = 0 := fun j hj => by rw [← dotW_congr2 e]; exact h1 j hj
 have := ht y (hom_iff.2 h2) k hk
 rw [y2] at this
 exact absurd this (by decide)
theorem solve_complete {R U : Nat} {M N : Mx} (h : Steps R (U + 1) U M N) {x : Nat → G} (hx : SolvesM R U M x) : (∀ i, i < U → x i = N i U) ∧ ∀ j, U ≤ j → j < R → N j U = 0 :=
 (unit_solves (h.unit (by omega)) x).1 (solves_iff.2 ((h.sol _).2 (solves_iff.1 hx)))
end Go.Proofs.Ytlngennlccaneaa
