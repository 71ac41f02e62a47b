/- The search finds the nearest number. -/
import Derived.Test.YtinkhmfciealkaaUnwrap2
set_option linter.unusedSimpArgs false
namespace Go.Proofs.Ytinkhmfciealkaa
open Go.Ev

theorem size_eq {x : Int} (h1 : -9000000000000000000 ≤ x) (h2 : x ≤ 9000000000000000000) : size x = if -x > x then -x else x := by
  unfold size
  rw [wr_id (by omega) (by omega)]

theorem best_facts {a c : Int} (ha : 0 ≤ a) : 0 ≤ best a c ∧ (best a c - c) % 1024 = 0 ∧ a - 1024 < best a c ∧ best a c < a + 1024 := by
  unfold best
  split <;> omega

theorem best_near {a c b : Int} (ha : 0 ≤ a) (ha' : a ≤ 1000000000) (hb : 0 ≤ b) (hb' : b ≤ 2000000000) (hm : (b - c) % 1024 = 0) : size (best a c - a) ≤ size (b - a) := by
  have h := best_facts (c := c) ha
  rw [size_eq (by omega) (by omega), size_eq (by omega) (by omega)]
  unfold best
  split <;> split <;> split <;> omega

theorem best_after {a c n : Int} (ha : 0 ≤ a) (ha' : a ≤ 1000000000) (hn : best a c < n) (hn' : n ≤ 2000000000) (hm : (n - c) % 1024 = 0) : ¬ size (n - a) ≤ size (best a c - a) := by
  have h := best_facts (c := c) ha
  rw [size_eq (by omega) (by omega), size_eq (by omega) (by omega)]
  revert hn
  unfold best
  split <;> intro hn <;> split <;> split <;> omega

theorem search_stay {a c : Int} (hr : inR a c = true) : ∀ (k : Nat) (n : Int), best a c < n → n + k ≤ 2000000000 → search a c k (best a c) n = best a c
  | 0, _, _, _ => rfl
  | k + 1, n, h, hk => by
    obtain ⟨r1, r2, r3, r4⟩ := inR_spec hr
    have : pickB a c (best a c) n = best a c := if_neg fun hp => best_after r1 r2 h (by omega) hp.2.1 hp.2.2
    rw [search, this]
    exact search_stay hr k (n + 1) (by omega) (by omega)

theorem search_best {a c : Int} (hr : inR a c = true) : ∀ (k : Nat) (b n : Int), 0 ≤ b → b ≤ 2000000000 → (b - c) % 1024 = 0 → n ≤ best a c → best a c < n + k → n + k ≤ 2000000000 → search a c k b n = best a c
  | 0, b, n, _, _, _, h1, h2, _ => by omega
  | k + 1, b, n, hb, hb', hm, h1, h2, h3 => by
    obtain ⟨r1, r2, r3, r4⟩ := inR_spec hr
    have hf := best_facts (c := c) r1
    rw [search]
    by_cases he : n = best a c
    · have : pickB a c b n = best a c := by
        unfold pickB
        rw [he, if_pos ⟨hf.1, hf.2.1, best_near r1 r2 hb hb' hm⟩]
      rw [this]
      exact search_stay hr k (n + 1) (by omega) (by omega)
    · have hp : 0 ≤ pickB a c b n ∧ pickB a c b n ≤ 2000000000 ∧ (pickB a c b n - c) % 1024 = 0 := by
        unfold pickB
        split
        · rename_i h; exact ⟨h.1, by omega, h.2.1⟩
        · exact ⟨hb, hb', hm⟩
      exact search_best hr k _ (n + 1) hp.1 hp.2.1 hp.2.2 (by omega) (by omega) (by omega)
end Go.Proofs.Ytinkhmfciealkaa
