/- Chapter 1: the function that the model answers by itself, and how calls are made. -/
import Derived.Test.YtgpfdacidgmelaaGreatBase
import Derived.Laws.Externs
set_option linter.unusedSimpArgs false
namespace Go.Proofs.YtgpfdacidgmelaaGreat
open Go.Ev

/-- A sum of words, and its carry. -/
def add64E : List LV → Option (Bool × SV)
  | [.int .u64 x, .int .u64 y, .int .u64 c] => some (decide (0 ≤ x) && (decide (0 ≤ y) && (decide (0 ≤ c) && decide (c ≤ 1))),
      .tup [.l (.int .u64 ((x + y + c) % 18446744073709551616)), .l (.int .u64 ((x + y + c) / 18446744073709551616))])
  | _ => none

def own1 (g : Nat) : Bool := Nat.beq g 153 || Nat.beq g 154
def frz1 (g : Nat) : Bool := Nat.beq g 158
def md1 : Ev.Mode := ⟨own1, own1, frz1, fun g => bif Nat.beq g 161 then some add64E else none⟩

theorem ext1 : ExtsOk Tryz.prog md1 := fun g e xs sv hg he w p β H vals hr => by
  have hg : (bif Nat.beq g 161 then some add64E else none) = some e := hg
  cases hb : Nat.beq g 161 with
  | false => rw [hb] at hg; cases hg
  | true =>
    rw [hb] at hg
    obtain rfl := Option.some.inj hg
    obtain rfl := Nat.eq_of_beq_eq_true hb
    unfold add64E at he
    split at he
    · rename_i x y c
      obtain ⟨h1, rfl⟩ := Prod.mk.inj (Option.some.inj he)
      simp only [Bool.and_eq_true, decide_eq_true_eq] at h1
      obtain ⟨v1, vs1, rfl, r1, hr⟩ := hr.uncons
      obtain ⟨v2, vs2, rfl, r2, hr⟩ := hr.uncons
      obtain ⟨v3, vs3, rfl, r3, hr⟩ := hr.uncons
      have : vs3 = [] := List.eq_nil_of_length_eq_zero hr.1.symm
      subst this
      simp only [RepL] at r1 r2 r3
      subst r1; subst r2; subst r3
      refine ⟨_, by rw [run_callFunc_extern Tryz.func161 (by kernel_rfl) (by kernel_rfl) (by kernel_rfl) (e := add64Entry) (by kernel_rfl)]
                    show ((add64Entry #[.int .u64 x, .int .u64 y, .int .u64 c]).run _ w).andThen _ = _
                    rw [run_add64 x y c (by omega) (by omega) (by omega) (by omega)]; rfl, ?_⟩
      exact ⟨_, rfl, repCs_cons (repC_l (c := .int .u64 _) rfl) (repCs_cons (repC_l (c := .int .u64 _) rfl) repCs_nil)⟩
    · cases he
end Go.Proofs.YtgpfdacidgmelaaGreat
