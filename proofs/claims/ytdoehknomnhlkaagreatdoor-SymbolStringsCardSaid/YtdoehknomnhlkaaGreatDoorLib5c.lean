import Derived.Test.YtdoehknomnhlkaaGreatDoorWordsLaw
set_option linter.unusedSimpArgs false
namespace Go.Proofs.YtdoehknomnhlkaaGreatDoor
open Go.Ev
def itoaTab (n : Int) : Option ByteArray := bif decide (n = 7) then some (ByteArray.mk #[55]) else bif decide (n = -7) then some (ByteArray.mk #[45, 55]) else bif decide (n = 0) then some (ByteArray.mk #[48]) else none
theorem itoa7 : Lib.itoa 7 = [55] := by
 have := itoa_nat 7
 rw [show ((7 : Nat) : Int) = 7 from rfl] at this
 rw [this, dd_small (by omega)]; rfl
theorem itoa7n : Lib.itoa (-7) = [45, 55] := by
 have := itoa_neg (m := 7) (by omega)
 rw [show -((7 : Nat) : Int) = -7 from rfl] at this
 rw [this, dd_small (by omega)]; rfl
theorem itoa0 : Lib.itoa 0 = [48] := by
 have := itoa_nat 0
 rw [show ((0 : Nat) : Int) = 0 from rfl] at this
 rw [this, dd_small (by omega)]; rfl
theorem itoaTab_eq {n : Int} {y : ByteArray} (h : itoaTab n = some y) : itoaF n = some y := by
 unfold itoaTab at h
 cases h1 : decide (n = 7) with
 | true =>
   rw [h1] at h
   obtain rfl := of_decide_eq_true h1
   obtain rfl := Option.some.inj h
   rw [itoaF_eq (by omega) (by omega)]
   unfold decS; rw [itoa7]; rfl
 | false =>
 rw [h1, cond_false] at h
 cases h2 : decide (n = -7) with
 | true =>
   rw [h2] at h
   obtain rfl := of_decide_eq_true h2
   obtain rfl := Option.some.inj h
   rw [itoaF_eq (by omega) (by omega)]
   unfold decS; rw [itoa7n]; rfl
 | false =>
 rw [h2, cond_false] at h
 cases h3 : decide (n = 0) with
 | true =>
   rw [h3] at h
   obtain rfl := of_decide_eq_true h3
   obtain rfl := Option.some.inj h
   rw [itoaF_eq (by omega) (by omega)]
   unfold decS; rw [itoa0]; rfl
 | false => rw [h3] at h; cases h
theorem itoaTab_ok : ItemOk Tryz.prog (.fn 88 [.d (.int .i64)] [.d .str] itoaTab) := fun x y hxy => itoa_ok x y (itoaTab_eq hxy)
def joinTab (x : List ByteArray × ByteArray) : Option ByteArray := bif decide (x.1.map (·.data.toList) = [[55], [45, 55], [48]]) && decide (x.2.data.toList = [32]) then some (ByteArray.mk #[55, 32, 45, 55, 32, 48]) else none
theorem joinTab_eq {x : List ByteArray × ByteArray} {y : ByteArray} (h : joinTab x = some y) : joinF x = some y := by
 obtain ⟨xs, sep⟩ := x
 unfold joinTab at h
 cases hc : decide (xs.map (·.data.toList) = [[55], [45, 55], [48]]) && decide (sep.data.toList = [32]) with
 | false => rw [hc] at h; cases h
 | true =>
 rw [hc, cond_true] at h
 obtain rfl := Option.some.inj h
 simp only [Bool.and_eq_true, decide_eq_true_eq] at hc
 obtain ⟨hc1, hc2⟩ := hc
 have hl : xs.length = 3 := by have := congrArg List.length hc1; simpa using this
 have hj : joinL xs sep = [55, 32, 45, 55, 32, 48] := by unfold joinL; rw [hc1, hc2]; rfl
 rw [joinF_eq _ _ (by omega) (by rw [hj]; decide), hj]
 rfl
theorem joinTab_ok : ItemOk Tryz.prog (.fn 89 [.d (.slice .str), .d .str] [.d .str] joinTab) := fun x y hxy => join_ok x y (joinTab_eq hxy)
noncomputable def K0c : List Ev.Item := [.fn 88 [.d (.int .i64)] [.d .str] itoaTab, .fn 89 [.d (.slice .str), .d .str] [.d .str] joinTab]
theorem K0c_ok : ∀ q ∈ K0c, ItemOk Tryz.prog q := items_cons itoaTab_ok (items_cons joinTab_ok items_nil)
end Go.Proofs.YtdoehknomnhlkaaGreatDoor
