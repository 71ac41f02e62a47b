import Derived.Test.YtdoehknomnhlkaaGreatDoorBase
import Derived.Laws.Externs
set_option linter.unusedSimpArgs false
namespace Go.Proofs.YtdoehknomnhlkaaGreatDoor
open Go.Ev
abbrev zI : Sh := .int .i64
abbrev zA : Sh := .agg (.pair zI (.pair zI (.pair zI (.pair zI zI))))
abbrev zS : Sh := .slice zA
abbrev zF : Sh := .pair zI (.pair zI (.pair zI zI))
abbrev zP : Sh := .pair zI zI
def add64E : List LV → Option (Bool × SV)
 | [.int .u64 x, .int .u64 y, .int .u64 c] => some (decide (0 ≤ x) && (decide (0 ≤ y) && (decide (0 ≤ c) && decide (c ≤ 1))),
     .tup [.l (.int .u64 ((x + y + c) % 18446744073709551616)), .l (.int .u64 ((x + y + c) / 18446744073709551616))])
 | _ => none
instance decTr : DecidableEq (List (Int × Int × Int × Int) × Int) := inferInstance
instance decTr2 : DecidableEq ((List (Int × Int × Int × Int) × Int) × (List (Int × Int × Int × Int) × Int) × Int) := inferInstance
def own5 (g : Nat) : Bool := Nat.beq g 87 || Nat.beq g 103 || Nat.beq g 104 || Nat.beq g 105 || Nat.beq g 118 || Nat.beq g 149 || Nat.beq g 185 || Nat.beq g 186 || Nat.beq g 189 || Nat.beq g 194 || Nat.beq g 215 || Nat.beq g 216 || Nat.beq g 224 || Nat.beq g 253 || Nat.beq g 254 || Nat.beq g 255 || Nat.beq g 258 || Nat.beq g 287 || Nat.beq g 288 || Nat.beq g 305 || Nat.beq g 306 || Nat.beq g 323 || Nat.beq g 324 || Nat.beq g 337 || Nat.beq g 339 || Nat.beq g 340 || Nat.beq g 348 || Nat.beq g 349 || Nat.beq g 350
def cut5 (g : Nat) : Bool := Nat.beq g 216 || Nat.beq g 323 || Nat.beq g 324
def frz5 (g : Nat) : Bool := Nat.beq g 99999
def md5 : Ev.Mode := ⟨own5, cut5, frz5, fun g => bif Nat.beq g 351 then some add64E else none, false⟩
theorem ext5 : ExtsOk Tryz.prog md5 := fun g e xs sv hg he w p β H vals hr => by
 have hg : (bif Nat.beq g 351 then some add64E else none) = some e := hg
 cases hb : Nat.beq g 351 with
 | false => rw [hb] at hg; cases hg
 | true =>
   rw [hb] at hg
   obtain rfl := Option.some.inj hg
   obtain rfl := Nat.eq_of_beq_eq_true hb
   unfold add64E at he
   split at he
   ·rename_i x y c
    obtain ⟨h1, rfl⟩ := Prod.mk.inj (Option.some.inj he)
    simp only [Bool.and_eq_true, decide_eq_true_eq] at h1
    obtain ⟨v1, vs1, rfl, r1, hr⟩ := hr.uncons
    obtain ⟨v2, vs2, rfl, r2, hr⟩ := hr.uncons
    obtain ⟨v3, vs3, rfl, r3, hr⟩ := hr.uncons
    have : vs3 = [] := List.eq_nil_of_length_eq_zero hr.1.symm
    subst this
    simp only [RepL] at r1 r2 r3
    subst r1; subst r2; subst r3
    refine ⟨_, by rw [run_callFunc_extern Tryz.func351 (by kernel_rfl) (by kernel_rfl) (by kernel_rfl) (e := add64Entry) (by kernel_rfl)]
                  show ((add64Entry #[.int .u64 x, .int .u64 y, .int .u64 c]).run _ w).andThen _ = _
                  rw [run_add64 x y c (by omega) (by omega) (by omega) (by omega)]; rfl, ?_⟩
    exact ⟨_, rfl, repCs_cons (repC_l (c := .int .u64 _) rfl) (repCs_cons (repC_l (c := .int .u64 _) rfl) repCs_nil)⟩
   ·cases he
def md5s : Ev.Mode := ⟨own5, cut5, frz5, fun g => bif Nat.beq g 351 then some add64E else none, true⟩
theorem ext5s : ExtsOk Tryz.prog md5s := fun g e xs sv hg => ext5 g e xs sv hg
end Go.Proofs.YtdoehknomnhlkaaGreatDoor
