/- The reference's search for the nearest number. -/
import Derived.Test.YtinkhmfciealkaaUnwrap
set_option linter.unusedSimpArgs false
namespace Go.Proofs.Ytinkhmfciealkaa
open Go.Ev

theorem eq75 (x : Int) : evalK Try.prog RV nothing 0 1 75 [i x, i 1024] some = bif decide (x.tmod 1024 < 0) then some (ri (wr (x.tmod 1024 + 1024))) else some (ri (x.tmod 1024)) := by kernel_rfl
theorem m75 (x : Int) : Meets Try.prog 75 [i x, i 1024] (ri (x % 1024)) := ran 1 0 (by
  rw [eq75]
  have ht := tmod_1024 x
  by_cases hs : 0 ≤ x
  · rw [if_pos hs] at ht
    have : decide (x.tmod 1024 < 0) = false := decide_eq_false (by omega)
    rw [this, cond_false, ht]
  · rw [if_neg hs] at ht
    by_cases hz : -x % 1024 = 0
    · have : decide (x.tmod 1024 < 0) = false := decide_eq_false (by omega)
      rw [this, cond_false, ht]
      have e : -(-x % 1024) = x % 1024 := by omega
      rw [e]
    · have : decide (x.tmod 1024 < 0) = true := decide_eq_true (by omega)
      rw [this, cond_true, ht, wr_id (by omega) (by omega)]
      have e : -(-x % 1024) + 1024 = x % 1024 := by omega
      rw [e])

theorem eq46 (x : Int) : evalK Try.prog RV nothing 0 1 46 [i x] some = some (ri (if wr (-x) > x then wr (-x) else x)) := by kernel_rfl
theorem m46 (x : Int) : Meets Try.prog 46 [i x] (ri (if wr (-x) > x then wr (-x) else x)) := ran 1 0 (eq46 x)

def K5 : Know := ⟨fun f args => match f, args with
  | 75, [.l (.int .i64 x), .l (.int .i64 m)] => if m = 1024 then some (.done (ri (x % 1024))) else none
  | 46, [.l (.int .i64 x)] => some (.done (ri (if wr (-x) > x then wr (-x) else x)))
  | _, _ => none, fun _ _ => none⟩

theorem K5_ok : KnowOk Try.prog K5 := fns_ok fun f args g rv h hg => by
  split at h
  · split at h
    · rename_i hm
      subst hm
      obtain rfl := Option.some.inj h; obtain rfl := Option.some.inj hg; exact m75 _
    · cases h
  · obtain rfl := Option.some.inj h; obtain rfl := Option.some.inj hg; exact m46 _
  · cases h

/-- The loop's body. -/
noncomputable def body22 : Code := match (Try.prog.funcs[22]?).bind (·.body) with
  | some c => ((loopsIn 0 c).getD 0 (0, .skip)).2
  | none => .skip

/-- The state at the loop's head. -/
def I22 (a c b n : Int) : PS := PS.of 38 [(0, .c (i a)), (1, .c (i c)), (5, .c (i b)), (6, .c (i n))] []

def size (x : Int) : Int := if wr (-x) > x then wr (-x) else x

theorem round22 (a c b n : Int) : exec Try.prog (Ex × PS) (evalK Try.prog (Ex × PS) K5 0 1) (fun _ => none) 0 0 body22 (I22 a c b n) (fun ex s => some (ex, s.mask [0, 1, 5, 6] [])) =
    bif decide (n ≤ wr (a + 2048)) then
      (bif decide (n ≥ 0) then
        (bif wr (n - c) % 1024 == 0 then
          (bif decide (size (wr (n - a)) ≤ size (wr (b - a))) then some (.normal, I22 a c n (wr (n + 1))) else some (.normal, I22 a c b (wr (n + 1))))
        else some (.normal, I22 a c b (wr (n + 1))))
      else some (.normal, I22 a c b (wr (n + 1))))
    else some (.exit 0, I22 a c b n) := by kernel_rfl

def pickB (a c b n : Int) : Int := if n ≥ 0 ∧ (n - c) % 1024 = 0 ∧ size (n - a) ≤ size (b - a) then n else b
def search (a c : Int) : Nat → Int → Int → Int
  | 0, b, _ => b
  | k + 1, b, n => search a c k (pickB a c b n) (n + 1)

/-- One round, as the loop rule wants it. -/
theorem runs22 {a c b n : Int} {ex : Ex} {s' : PS} (h : exec Try.prog (Ex × PS) (evalK Try.prog (Ex × PS) K5 0 1) (fun _ => none) 0 0 body22 (I22 a c b n) (fun ex s => some (ex, s.mask [0, 1, 5, 6] [])) = some (ex, s')) :
    RunsTo Try.prog body22 (I22 a c b n) ex s' := by
  obtain ⟨ex', t, h1, h2⟩ := exec_ok noSpecial mixed (evalK_ok noSpecial mixed K5_ok 1) body22 0 _ _ _ (fun _ _ _ F hF => by cases hF) h
  obtain ⟨rfl, rfl⟩ := Prod.mk.inj (Option.some.inj h1)
  exact RunsTo.masked (by simp) (by simp) h2

theorem loop22 {a c : Int} (hr : inR a c = true) : ∀ (k : Nat) (b n : Int), (k : Int) = a + 2049 - n → -2048 ≤ n → 0 ≤ b → b ≤ 2000000000 → LoopTo Try.prog body22 (I22 a c b n) (.exit 0) (I22 a c (search a c k b n) (a + 2049)) := by
  obtain ⟨r1, r2, r3, r4⟩ := inR_spec hr
  intro k
  induction k with
  | zero =>
    intro b n hk hn hb hb'
    have hn' : n = a + 2049 := by omega
    subst hn'
    refine LoopTo.last (runs22 ?_) (by simp)
    rw [round22, wr_id (n := a + 2048) (by omega) (by omega)]
    have : decide (a + 2049 ≤ a + 2048) = false := decide_eq_false (by omega)
    rw [this]; rfl
  | succ k ih =>
    intro b n hk hn hb hb'
    have hbn : 0 ≤ pickB a c b n ∧ pickB a c b n ≤ 2000000000 := by
      unfold pickB
      split
      · rename_i h; exact ⟨h.1, by omega⟩
      · exact ⟨hb, hb'⟩
    refine LoopTo.next (s1 := I22 a c (pickB a c b n) (n + 1)) (runs22 ?_) (ih (pickB a c b n) (n + 1) (by omega) (by omega) hbn.1 hbn.2)
    rw [round22, wr_id (n := a + 2048) (by omega) (by omega), wr_id (n := n + 1) (by omega) (by omega), wr_id (n := n - c) (by omega) (by omega), wr_id (n := n - a) (by omega) (by omega), wr_id (n := b - a) (by omega) (by omega)]
    have h1 : decide (n ≤ a + 2048) = true := decide_eq_true (by omega)
    rw [h1, cond_true]
    by_cases g1 : n ≥ 0
    · rw [decide_eq_true g1, cond_true]
      by_cases g2 : (n - c) % 1024 = 0
      · have : ((n - c) % 1024 == 0) = true := by simp [g2]
        rw [this, cond_true]
        by_cases g3 : size (n - a) ≤ size (b - a)
        · rw [decide_eq_true g3, cond_true]
          have : pickB a c b n = n := if_pos ⟨g1, g2, g3⟩
          rw [this]
        · rw [decide_eq_false g3, cond_false]
          have : pickB a c b n = b := if_neg (fun h => g3 h.2.2)
          rw [this]
      · have : ((n - c) % 1024 == 0) = false := by simp [g2]
        rw [this, cond_false]
        have : pickB a c b n = b := if_neg (fun h => g2 h.2.1)
        rw [this]
    · rw [decide_eq_false g1, cond_false]
      have : pickB a c b n = b := if_neg (fun h => g1 h.1)
      rw [this]
end Go.Proofs.Ytinkhmfciealkaa
