/- A counter unwrapped, in both texts. -/
import Derived.Test.YtinkhmfciealkaaSmall
import Derived.Test.YtinkhmfciealkaaMask
set_option linter.unusedSimpArgs false
namespace Go.Proofs.Ytinkhmfciealkaa
open Go.Ev

def wr (n : Int) : Int := IntKind.i64.wrap n

def tail88 (a t : Int) : Option RV :=
  bif decide (wr (t - 1024) ≥ 0) then (bif decide (wr (a - wr (t - 1024)) < wr (t - a)) then some (ri (wr (t - 1024))) else some (ri t)) else some (ri t)

theorem eq88 (a c : Int) : evalK Try.prog RV nothing 0 1 88 [i a, i c] some =
    bif decide (wr (a + (wr (c - a)).tmod 1024) < a) then tail88 a (wr (wr (a + (wr (c - a)).tmod 1024) + 1024)) else tail88 a (wr (a + (wr (c - a)).tmod 1024)) := by kernel_rfl
theorem wr_id {n : Int} (h1 : -9223372036854775808 ≤ n) (h2 : n < 9223372036854775808) : wr n = n := by
  unfold wr
  simp [IntKind.wrap, IntKind.signed, IntKind.bits]
  omega

/-- The number nearest to 'a', not below 0, that is 'c' modulo 1024; of two the greater. -/
def best (a c : Int) : Int := if a + (c - a) % 1024 - 1024 ≥ 0 ∧ a - (a + (c - a) % 1024 - 1024) < a + (c - a) % 1024 - a then a + (c - a) % 1024 - 1024 else a + (c - a) % 1024

theorem tmod_1024 (x : Int) : x.tmod 1024 = if 0 ≤ x then x % 1024 else -((-x) % 1024) := by
  split
  · rename_i h; exact Int.tmod_eq_emod_of_nonneg h
  · rename_i h
    have h1 : (-x).tmod 1024 = (-x) % 1024 := Int.tmod_eq_emod_of_nonneg (by omega)
    rw [Int.neg_tmod] at h1
    omega

theorem tail88_eq {a t : Int} (ha : 0 ≤ a) (ha' : a ≤ 1000000000) (h1 : a ≤ t) (h2 : t < a + 1024) : tail88 a t = some (ri (if t - 1024 ≥ 0 ∧ a - (t - 1024) < t - a then t - 1024 else t)) := by
  unfold tail88
  rw [wr_id (n := t - 1024) (by omega) (by omega), wr_id (n := a - (t - 1024)) (by omega) (by omega), wr_id (n := t - a) (by omega) (by omega)]
  by_cases h3 : t - 1024 ≥ 0
  · rw [decide_eq_true h3, cond_true]
    by_cases h4 : a - (t - 1024) < t - a
    · rw [decide_eq_true h4, cond_true, if_pos ⟨h3, h4⟩]
    · rw [decide_eq_false h4, cond_false, if_neg (fun h => h4 h.2)]
  · rw [decide_eq_false h3, cond_false, if_neg (fun h => h3 h.1)]

theorem m88 {a c : Int} (ha : 0 ≤ a) (ha' : a ≤ 1000000000) (hc : 0 ≤ c) (hc' : c ≤ 1023) : Meets Try.prog 88 [i a, i c] (ri (best a c)) := ran 1 0 (by
  rw [eq88, wr_id (n := c - a) (by omega) (by omega)]
  have ht := tmod_1024 (c - a)
  by_cases hs : 0 ≤ c - a
  · rw [if_pos hs] at ht
    rw [ht, wr_id (n := a + (c - a) % 1024) (by omega) (by omega)]
    have : decide (a + (c - a) % 1024 < a) = false := by simp; omega
    rw [this, cond_false, tail88_eq ha ha' (by omega) (by omega)]
    rfl
  · rw [if_neg hs] at ht
    rw [ht, wr_id (n := a + -(-(c - a) % 1024)) (by omega) (by omega)]
    by_cases hz : -(c - a) % 1024 = 0
    · have : decide (a + -(-(c - a) % 1024) < a) = false := by simp; omega
      rw [this, cond_false, tail88_eq ha ha' (by omega) (by omega)]
      have e : a + -(-(c - a) % 1024) = a + (c - a) % 1024 := by omega
      rw [e]; rfl
    · have : decide (a + -(-(c - a) % 1024) < a) = true := by simp; omega
      rw [this, cond_true, wr_id (by omega) (by omega), tail88_eq ha ha' (by omega) (by omega)]
      have e : a + -(-(c - a) % 1024) + 1024 = a + (c - a) % 1024 := by omega
      rw [e]; rfl)

def inR (a c : Int) : Bool := win a 0 1000000000 && win c 0 1023
theorem inR_spec {a c : Int} (h : inR a c = true) : 0 ≤ a ∧ a ≤ 1000000000 ∧ 0 ≤ c ∧ c ≤ 1023 := by
  simp only [inR, win, Bool.and_eq_true, decide_eq_true_eq] at h
  omega

def K4 : Know := ⟨fun f args => match f, args with
  | 87, [.l (.int .i64 a), .l (.int .i64 b), .l (.int .i64 c)] => some (.br (win a b c) (.done (rb true)) (.done (rb false)))
  | 88, [.l (.int .i64 a), .l (.int .i64 c)] => some (.br (inR a c) (.done (ri (best a c))) .no)
  | _, _ => none, fun _ _ => none⟩

theorem K4_ok : KnowOk Try.prog K4 := fns_ok fun f args g rv h hg => by
  split at h
  · rename_i a b c
    obtain rfl := Option.some.inj h
    have := mWithin 87 (.inl rfl) a b c
    change Meets Try.prog 87 [i a, i b, i c] (rb (win a b c)) at this
    cases hw : win a b c <;> simp only [Out.at', hw, cond_true, cond_false] at hg <;> obtain rfl := Option.some.inj hg <;> rw [hw] at this <;> exact this
  · rename_i a c
    obtain rfl := Option.some.inj h
    cases hw : inR a c <;> simp only [Out.at', hw, cond_true, cond_false] at hg
    · cases hg
    · obtain rfl := Option.some.inj hg
      obtain ⟨h1, h2, h3, h4⟩ := inR_spec hw
      exact m88 h1 h2 h3 h4
  · cases h

def r2 (n e : Int) : RV := ⟨.tup [.l (.int .i64 n), .l (.int .i64 e)], .free⟩

theorem eq18 (a c : Int) : evalK Try.prog RV K4 0 1 18 [i a, i c] some = bif win a 0 1000000000 then (bif win c 0 1023 then (bif inR a c then some (r2 (best a c) 0) else none) else some (r2 0 2)) else some (r2 0 2) := by kernel_rfl

theorem m18 (a c : Int) : Meets Try.prog 18 [i a, i c] (if inR a c then r2 (best a c) 0 else r2 0 2) := meets_of_eval (n := 1) (U := 0) noSpecial mixed K4_ok (by
  rw [eq18]
  cases h : inR a c
  · simp only [inR] at h
    cases h1 : win a 0 1000000000 <;> cases h2 : win c 0 1023 <;> simp only [h1, h2] at h <;> first | rfl | cases h
  · have h' := h
    simp only [inR, Bool.and_eq_true] at h'
    rw [h'.1, h'.2]; rfl)
end Go.Proofs.Ytinkhmfciealkaa
