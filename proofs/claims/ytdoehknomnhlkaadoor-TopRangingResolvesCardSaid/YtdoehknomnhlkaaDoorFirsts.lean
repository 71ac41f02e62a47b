/- The choice of the first error, where there is none: the loop of 'first' told as a test of each element. -/
import Derived.Test.YtdoehknomnhlkaaDoorGc3
import Derived.Test.YtdoehknomnhlkaaDoorRounds
set_option linter.unusedSimpArgs false
namespace Go.Proofs.YtdoehknomnhlkaaDoor
open Go.Ev
def zerosO {α : Type} : List Int → Out α → Out α
 | [], o => o
 | x :: r, o => .br (x == 0) (zerosO r o) .no
theorem zerosO_at {α : Type} {o : Out α} {y : α} : ∀ {l : List Int}, (zerosO l o).at' = some y → o.at' = some y ∧ ∀ x ∈ l, x = 0
 | [], h => ⟨h, fun _ hx => by cases hx⟩
 | a :: r, h => by
   obtain ⟨h1, h2⟩ := br_guard h
   obtain ⟨h3, h4⟩ := zerosO_at h2
   refine ⟨h3, fun x hx => ?_⟩
   rcases List.mem_cons.1 hx with rfl | hx
   ·simpa using h1
   ·exact h4 x hx
noncomputable def F33z : T33_0.D → Out (ExT X33_0) := fun (l, n, i) => .br (i == 0 && (n == (l.length : Int) && Nat.ble l.length 9)) (zerosO l (.done (.inr ()))) .no
theorem hF33z : ∀ x y, (F33z x).at' = some y → loopVal step33_0 x = some y := by
 rintro ⟨l, n, i⟩ y h
 obtain ⟨hg, hv⟩ := br_guard h
 obtain ⟨h0, hg2⟩ := and_split hg
 obtain ⟨hn, hl⟩ := and_split hg2
 have h0 : i = 0 := by simpa using h0
 have hn : n = (l.length : Int) := by simpa using hn
 have hl : l.length ≤ 9 := Nat.le_of_ble_eq_true hl
 subst h0; subst hn
 obtain ⟨hy, hz⟩ := zerosO_at hv
 have hy : (Sum.inr () : Int ⊕ Unit) = y := Option.some.inj hy
 subst hy
 have key : ∀ (m k : Nat), k + m = l.length → loopVal step33_0 (l, (l.length : Int), (k : Int)) = some (.inr ()) := by
  intro m
  induction m with
  | zero =>
    intro k hk
    obtain rfl : k = l.length := by omega
    exact loopVal_last (by simp only [step33_0, lt_cast, Nat.lt_irrefl, decide_false, cond_false])
  | succ m ih =>
    intro k hk
    have hk' : k < l.length := by omega
    have he : l.getD k 0 = 0 := by
     rw [List.getD_eq_getElem?_getD, List.getElem?_eq_getElem hk', Option.getD_some]
     exact hz _ (List.getElem_mem hk')
    refine (loopVal_next (y := (l, (l.length : Int), ((k + 1 : Nat) : Int))) ?_).trans (ih (k + 1) (by omega))
    simp only [step33_0, lt_cast, inB_cast, hk', decide_true, cond_true, Int.toNat_natCast, he, bne_self_eq_false, cond_false, wr_succ (show k < 4611686018427387904 by omega)]
 exact key l.length 0 (by omega)
theorem lo33z : ItemOk Tryd.prog (.loopO 33 0 T33_0 X33_0 F33z) := item_loopO lp33_0 hF33z
end Go.Proofs.YtdoehknomnhlkaaDoor
