/- Chapter 4, strings: how calls are made. -/
import Derived.Test.YthabingkfmlbbaaBase
import Derived.Laws.Externs
set_option linter.unusedSimpArgs false
namespace Go.Proofs.Ythabingkfmlbbaa
open Go.Ev
abbrev zI : Sh := .int .i64
abbrev zF : Sh := .pair zI (.pair zI (.pair zI zI))
abbrev zP : Sh := .pair zI zI
def add64E : List LV → Option (Bool × SV)
 | [.int .u64 x, .int .u64 y, .int .u64 c] => some (decide (0 ≤ x) && (decide (0 ≤ y) && (decide (0 ≤ c) && decide (c ≤ 1))),
     .tup [.l (.int .u64 ((x + y + c) % 18446744073709551616)), .l (.int .u64 ((x + y + c) / 18446744073709551616))])
 | _ => none
instance decTr : DecidableEq (List (Int × Int × Int × Int) × Int) := inferInstance
instance decTr2 : DecidableEq ((List (Int × Int × Int × Int) × Int) × (List (Int × Int × Int × Int) × Int) × Int) := inferInstance
def own5 (g : Nat) : Bool := Nat.beq g 33 || Nat.beq g 65 || Nat.beq g 66
def cut5 (g : Nat) : Bool := Nat.beq g 65 || Nat.beq g 66
def frz5 (g : Nat) : Bool := Nat.beq g 99999
def keep5 (g : Nat) : Option (List Nat) := bif Nat.beq g 32 then some [1, 5, 6, 7, 20] else bif Nat.beq g 44 then some [2, 4, 7, 8, 9, 10, 11, 12, 13, 14, 15, 22, 23, 24, 84, 85, 89, 94, 102, 103, 107, 112] else bif Nat.beq g 61 then some [0, 1, 5, 7, 8, 16] else bif Nat.beq g 65 then some [0, 1, 2, 11, 23, 26] else bif Nat.beq g 71 then some [1, 4, 5, 10, 11, 14, 20] else bif Nat.beq g 77 then some [1, 2, 8, 9, 13, 15, 19] else none
def md5 : Ev.Mode := { inl := own5, cut := cut5, frz := frz5, ext := fun g => bif Nat.beq g 81 then some add64E else none, keep := keep5 }
theorem ext5 : ExtsOk Try.prog md5 := ⟨fun g e xs sv hg he w p β H vals hr => (by
 have hg : (bif Nat.beq g 81 then some add64E else none) = some e := hg
 cases hb : Nat.beq g 81 with
 | false => rw [hb] at hg; cases hg
 | true =>
   rw [hb] at hg
   obtain rfl := Option.some.inj hg
   obtain rfl := Nat.eq_of_beq_eq_true hb
   unfold add64E at he
   split at he
   ·rename_i x y c
    obtain ⟨h1, rfl⟩ := Prod.mk.inj (Option.some.inj he)
    simp only [Bool.and_eq_true, decide_eq_true_eq] at h1
    obtain ⟨v1, vs1, rfl, r1, hr⟩ := hr.uncons
    obtain ⟨v2, vs2, rfl, r2, hr⟩ := hr.uncons
    obtain ⟨v3, vs3, rfl, r3, hr⟩ := hr.uncons
    have : vs3 = [] := List.eq_nil_of_length_eq_zero hr.1.symm
    subst this
    simp only [RepL] at r1 r2 r3
    subst r1; subst r2; subst r3
    refine ⟨_, by rw [run_callFunc_extern Try.func81 (by kernel_rfl) (by kernel_rfl) (by kernel_rfl) (e := add64Entry) (by kernel_rfl)]
                  show ((add64Entry #[.int .u64 x, .int .u64 y, .int .u64 c]).run _ w).andThen _ = _
                  rw [run_add64 x y c (by omega) (by omega) (by omega) (by omega)]; rfl, ?_⟩
    exact ⟨_, rfl, repCs_cons (repC_l (c := .int .u64 _) rfl) (repCs_cons (repC_l (c := .int .u64 _) rfl) repCs_nil)⟩
   ·cases he), trivial⟩
def md5s : Ev.Mode := { inl := own5, cut := cut5, frz := frz5, ext := fun g => bif Nat.beq g 81 then some add64E else none, strict := true, keep := keep5 }
theorem ext5s : ExtsOk Try.prog md5s := ⟨fun g e xs sv hg => ext5.1 g e xs sv hg, trivial⟩
end Go.Proofs.Ythabingkfmlbbaa
