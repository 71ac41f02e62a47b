/- The innermost loop of the search for tones without a candidate: does a mask lie in one that occurs? -/
import Derived.Test.YtdoehknomnhlkaaDoorLoops
set_option linter.unusedSimpArgs false
namespace Go.Proofs.YtdoehknomnhlkaaDoor
open Go.Ev
def hitAt (arr : List Bool) (mask : Int) (m : Nat) : Bool := arr.getD m false && ((andI .i64 (m : Int) mask) == mask)
def hitB (arr : List Bool) (mask : Int) : Bool := (List.range 256).any (hitAt arr mask)
theorem br_guard {E : Type} {g : Bool} {x : Out E} {e : E} (h : (Out.br g x .no).at' = some e) : g = true ∧ x.at' = some e := by
 cases g with
 | false => cases h
 | true => exact ⟨rfl, h⟩
theorem br_val {E : Type} {g : Bool} {a b e : E} (h : (Out.br g (.done a) (.done b)).at' = some e) : (bif g then a else b) = e := by
 cases g with
 | false => exact Option.some.inj h
 | true => exact Option.some.inj h
def boolsSh : Nat → Sh
 | 0 => .bool
 | n + 1 => .pair .bool (boolsSh n)
def swSh : Sh := .pair (.slice (.agg (.pair (.int .i64) (.int .i64)))) (boolsSh 255)
abbrev SwT : Type := swSh.T
def boolsL : (n : Nat) → (boolsSh n).T → List Bool
 | 0, b => [b]
 | n + 1, x => x.1 :: boolsL n x.2
def mkBools : (n : Nat) → List Bool → (boolsSh n).T
 | 0, l => l.headD false
 | n + 1, l => (l.headD false, mkBools n l.tail)
def occL (s : SwT) : List Bool := boolsL 255 s.2
theorem boolsL_mk : ∀ (n : Nat) (l : List Bool), boolsL n (mkBools n l) = padV (n + 1) .bool l
 | 0, _ => rfl
 | n + 1, l => congrArg (l.headD false :: ·) (boolsL_mk n l.tail)
theorem occL_mk (rs : List (Int × Int)) (l : List Bool) (h : l.length = 256) : occL (rs, mkBools 255 l) = l := (boolsL_mk 255 l).trans (padV_self h)
theorem guard2 {i : Int} {n : Nat} (h : (i == 0 && Nat.beq n 256) = true) : i = 0 ∧ n = 256 := by
 simp only [Bool.and_eq_true, beq_iff_eq, Nat.beq_eq] at h
 exact h
theorem guard3 {i : Int} {m n : Nat} (h : (i == 0 && (Nat.beq m 256 && Nat.beq n 256)) = true) : i = 0 ∧ m = 256 ∧ n = 256 := by
 simp only [Bool.and_eq_true, beq_iff_eq, Nat.beq_eq] at h
 exact h
theorem and_split {a b : Bool} (h : (a && b) = true) : a = true ∧ b = true := by simpa using h
theorem hit_loop {D A B : Type} (lp : LpI) (step : D → Option (LpI × (D ⊕ (A ⊕ B)))) (mk : Int → D) (arr : List Bool) (mask : Int) (a : A) (b : B)
 (h : ∀ i : Int, step (mk i) = bif decide (i < 256) then bif inBounds i 256 then bif arr.getD i.toNat false then bif (andI .i64 i mask) == mask then some (lp, .inr (.inl a)) else some (lp, .inl (mk (wr (i + 1)))) else some (lp, .inl (mk (wr (i + 1)))) else none else some (lp, .inr (.inr b))) :
 loopVal (strip lp step) (mk 0) = some (bif hitB arr mask then .inl a else .inr b) := by
 have key : ∀ (n k : Nat), k + n = 256 → loopVal (strip lp step) (mk (k : Int)) = some (bif (List.range' k n).any (hitAt arr mask) then .inl a else .inr b) := by
  intro n
  induction n with
  | zero =>
    intro k hk
    obtain rfl : k = 256 := by omega
    refine loopVal_last (strip_some (i := lp) (r := .inr _) ?_)
    rw [h]
    rfl
  | succ n ih =>
    intro k hk
    have e1 : decide ((k : Int) < 256) = true := decide_eq_true (by omega)
    have e2 : inBounds (k : Int) 256 = true := by rw [inB_cast]; exact decide_eq_true (by omega)
    have e3 : wr ((k : Int) + 1) = ((k + 1 : Nat) : Int) := wr_succ (by omega)
    rw [show List.range' k (n + 1) = k :: List.range' (k + 1) n from rfl, List.any_cons]
    cases hh : hitAt arr mask k with
    | true =>
      refine loopVal_last (strip_some (i := lp) (r := .inr _) ?_)
      rw [h]
      unfold hitAt at hh
      simp only [Bool.and_eq_true] at hh
      simp only [e1, e2, Int.toNat_natCast, hh.1, hh.2, cond_true, Bool.true_or]
    | false =>
      rw [Bool.false_or]
      refine (loopVal_next (strip_some (i := lp) (r := .inl (mk ((k + 1 : Nat) : Int))) ?_)).trans (ih (k + 1) (by omega))
      rw [h]
      unfold hitAt at hh
      simp only [e1, e2, Int.toNat_natCast, cond_true, e3]
      cases h1 : arr.getD k false with
      | false => rfl
      | true =>
        rw [h1, Bool.true_and] at hh
        rw [hh]
        rfl
 have h0 := key 256 0 (by omega)
 unfold hitB
 rw [List.range_eq_range']
 exact h0
theorem bifS {R : Type} {b : Bool} {p q : Option R} {r : R} (h : (bif b then p else q) = some r) : (b = true ∧ p = some r) ∨ (b = false ∧ q = some r) := by
 cases b with
 | true => exact .inl ⟨rfl, h⟩
 | false => exact .inr ⟨rfl, h⟩
theorem optS {A R : Type} {o : Option A} {f : A → Option R} {r : R} (h : optE o f none = some r) : ∃ v, o = some v ∧ f v = some r := by
 cases o with
 | none => cases h
 | some v => exact ⟨v, rfl, h⟩
theorem loop_keep {σ E α : Type} (step : σ → Option (σ ⊕ E)) (π : σ → α) (ρ : E → α) (h1 : ∀ x y, step x = some (.inl y) → π y = π x) (h2 : ∀ x e, step x = some (.inr e) → ρ e = π x) : ∀ x e, loopVal step x = some e → ρ e = π x := by
 intro x e h
 obtain ⟨n, hn⟩ := loopVal_iff.1 h
 clear h
 induction n generalizing x with
 | zero => cases hn
 | succ n ih =>
   simp only [iter] at hn
   cases hs : step x with
   | none => rw [hs] at hn; cases hn
   | some r =>
     rw [hs] at hn
     cases r with
     | inl y => exact (ih y hn).trans (h1 x y hs)
     | inr d =>
       obtain rfl := Option.some.inj hn
       exact h2 x d hs
end Go.Proofs.YtdoehknomnhlkaaDoor
