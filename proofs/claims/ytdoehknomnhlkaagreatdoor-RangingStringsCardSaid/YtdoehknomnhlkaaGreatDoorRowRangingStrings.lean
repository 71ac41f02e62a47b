import Derived.Test.YtdoehknomnhlkaaGreatDoorMeasStr
import Derived.Test.YtdoehknomnhlkaaGreatDoorFacts5
import Derived.Test.YtdoehknomnhlkaaGreatDoorTie
import Derived.Test.YtdoehknomnhlkaaGreatDoorCards
import Derived.WalkKit
import Derived.ProofKit
import Derived.OpenShut
import Derived.JoinedCond
import Derived.SevenTiedAt
set_option linter.unusedSimpArgs false
namespace Go.Proofs.YtdoehknomnhlkaaGreatDoor
open Go.Ev Go.ChangeShapes Go.WideShapes Go.ChangeAt Go.RowKit
theorem rangingStringsLaw : ∀ cs, Typed [(.agg (.pair (.int .i64) (.pair (.int .i64) (.pair (.int .i64) (.pair (.int .i64) (.int .i64)))))), .str] cs → Meets Tryz.prog 6 cs saysTrue := law_of_spec (shs := [(.agg (.pair (.int .i64) (.pair (.int .i64) (.pair (.int .i64) (.pair (.int .i64) (.int .i64)))))), .str]) i6 (fun x h => meas_true x.1 x.2 ⟨inI_of h.1.1, inI_of h.1.2.1, inI_of h.1.2.2.1, inI_of h.1.2.2.2.1, inI_of h.1.2.2.2.2⟩)
set_option maxRecDepth 100000 in
theorem rangingStringsLifted (os : Os) (started : os.Started) (H : Type) (enc : TypeId × Value → H) :
 ReturnsInHanded {} Tryz.checked os 6 .any (fun w args => (Rows.rangingStringsSpec.pre enc Tryz.prog Tryz.f6 Rows.rangingStringsRow.domain false w args ∧ laidMet Tryz.prog spLaid w) ∧ sizedMet enc Tryz.prog Tryz.f6 (OpenSpec.ofChange Rows.rangingStringsSpec) false w args)
  (Rows.rangingStringsSpec.post enc Tryz.prog Tryz.f6 false true false false) := by
 refine returnsShaped (C := Tryz.checked) (X := fun w _ => laidMet Tryz.prog spLaid w) (fun _ _ _ hh h => h.of_heap hh) own started (by kernel_rfl) Tryz.func6
  (ChangeSpec.witness_at (enc := enc) (C := Tryz.checked) (os := os) (X := fun w _ => laidMet Tryz.prog spLaid w) false (laidWorld os) #[.agg #[.int .i64 0, .int .i64 0, .int .i64 0, .int .i64 0, .int .i64 0], .string ByteArray.empty] 8 rfl (by kernel_rfl) (by kernel_rfl) (by kernel_rfl) (by kernel_rfl) (by kernel_rfl) (laidWorld_met os _)) ?_
 intro W base args ds gs before hval hW hsh hL
 refine contract_of_law (shs := [(.agg (.pair (.int .i64) (.pair (.int .i64) (.pair (.int .i64) (.pair (.int .i64) (.int .i64)))))), .str]) (tb := 4) laid (by kernel_rfl) (by kernel_rfl) rfl (by kernel_rfl) (by kernel_rfl) rfl (fun ds h => ?_) rangingStringsLaw (globsOf_laid hL hsh) hval hW
 match ds, h with
 | [_, _], _ => rfl
set_option maxRecDepth 100000
theorem rangingStringsFact0 : (Rows.rangingStringsRow.wf (OpenSpec.ofChange Rows.rangingStringsSpec)) = true := by kernel_rfl
theorem rangingStringsFact1 : (laidOutB Tryz.prog) = true := laid
theorem rangingStringsFact2 : (mapsRowed Tryz.prog) = true := fMaps
theorem rangingStringsFact3 : (Tryz.f6.params.all (Tryz.prog.readableRec ·)) = true := by kernel_rfl
theorem rangingStringsFact4 : (namedTie Tryz.prog Rows.rangingStringsRow.named Rows.rangingStringsSpec.vars) = true := by kernel_rfl
theorem rangingStringsFact5 : ((Rows.rangingStringsRow.stops == [])) = true := by kernel_rfl
theorem rangingStringsFact6 : ((Tryz.prog.stops == [])) = true := by rw [fStops]; rfl
theorem rangingStringsFact7 : ((Rows.rangingStringsRow.knobs == [])) = true := by kernel_rfl
theorem rangingStringsFact8 : ((Tryz.prog.stopKnobs == [])) = true := by rw [fKnobs]; rfl
theorem rangingStringsFact9 : ((Rows.rangingStringsRow.inPlace == Tryz.prog.inPlace 6)) = true := by kernel_rfl
theorem rangingStringsFact10 : ((Rows.rangingStringsRow.unfollowed == Tryz.prog.unfollowed 6)) = true := by kernel_rfl
theorem rangingStringsFact11 : ((Rows.rangingStringsRow.recurses == Tryz.prog.recurses 6)) = true := by kernel_rfl
theorem rangingStringsFact12 : ((Rows.rangingStringsRow.named == Tryz.prog.varsNamed 6)) = true := by kernel_rfl
theorem rangingStringsFact13 : ((Rows.rangingStringsRow.maps == (Tryz.f6.params.toList ++ Rows.rangingStringsSpec.plain.varTypes Tryz.prog).any (Tryz.prog.mapsRec ·))) = true := by kernel_rfl
theorem rangingStringsFact14 : ((Rows.rangingStringsRow.ifaces == (Tryz.f6.params.toList ++ Rows.rangingStringsSpec.plain.varTypes Tryz.prog).any (Tryz.prog.ifacesRec ·))) = true := by kernel_rfl
theorem rangingStringsFact15 : ((Rows.rangingStringsRow.mapsOut == Tryz.prog.mapsAmong Tryz.f6.resultTypes.toList)) = true := by kernel_rfl
theorem rangingStringsFact16 : ((Rows.rangingStringsRow.loops == (Tryz.f6.params.toList ++ Rows.rangingStringsSpec.plain.varTypes Tryz.prog).any (Tryz.prog.loopsFrom ·))) = true := by kernel_rfl
theorem rangingStringsFact17 : ((Rows.rangingStringsRow.wideKeys == (Tryz.f6.params.toList ++ Rows.rangingStringsSpec.plain.varTypes Tryz.prog ++ Tryz.f6.resultTypes.toList).any (Tryz.prog.wideKeysFrom ·))) = true := by kernel_rfl
theorem rangingStringsFact18 : (Rows.rangingStringsSpec.vars.all (Tryz.prog.varReadable ·)) = true := by kernel_rfl
theorem rangingStringsFact19 : (Tryz.f6.resultTypes.all (fun t => Tryz.prog.readableRec t && decide (t < Tryz.prog.types.size))) = true := by kernel_rfl
theorem rangingStringsFact20 : ((Rows.rangingStringsRow.ifacesOut == Tryz.f6.resultTypes.toList.any (Tryz.prog.ifacesRec ·))) = true := by kernel_rfl
theorem rangingStringsFact21 : ((Rows.rangingStringsRow.loopsOut == Tryz.f6.resultTypes.toList.any (Tryz.prog.loopsFrom ·))) = true := by kernel_rfl
theorem rangingStringsFact22 : ((Rows.rangingStringsRow.plainKeys == Tryz.prog.plainKeys)) = true := by kernel_rfl
theorem rangingStringsFact23 : (Rows.rangingStringsRow.shortTexts.isNone) = true := by kernel_rfl
theorem rangingStringsFact24 : (Tryz.prog.stopsHeard) = true := fHeard
theorem rangingStringsFact25 : (Tryz.prog.mayEnter) = true := fEnter
theorem rangingStringsFact26 : ((Rows.rangingStringsRow.lifted == Tryz.prog.liftsFinal)) = true := by kernel_rfl
theorem rangingStringsFact27 : ((Tryz.prog.make == some Rows.rangingStringsRow.make)) = true := by kernel_rfl
theorem rangingStringsFacts : joinedFacts Tryz.prog 6 Tryz.f6 Rows.rangingStringsSpec Rows.rangingStringsRow = true := by
 unfold joinedFacts
 rw [rangingStringsFact0, rangingStringsFact1, rangingStringsFact2, rangingStringsFact3, rangingStringsFact4, rangingStringsFact5, rangingStringsFact6, rangingStringsFact7, rangingStringsFact8, rangingStringsFact9, rangingStringsFact10, rangingStringsFact11, rangingStringsFact12, rangingStringsFact13, rangingStringsFact14, rangingStringsFact15, rangingStringsFact16, rangingStringsFact17, rangingStringsFact18, rangingStringsFact19, rangingStringsFact20, rangingStringsFact21, rangingStringsFact22, rangingStringsFact23, rangingStringsFact24, rangingStringsFact25, rangingStringsFact26, rangingStringsFact27]
 kernel_rfl
theorem rangingStringsNamed : Tryz.prog.funcNamed "cassegrain/cassegrainlaw07.RangingStrings" = some 6 := by kernel_rfl
theorem rangingStrings_holds : Rows.RangingStringsSaid :=
 OpenClaim.holds_of_wide 6 Tryz.f6 rfl rfl rfl rfl rfl rfl rfl ⟨rfl, rfl, rfl, rfl, rfl⟩ rfl rfl rfl rfl rfl rangingStringsNamed Tryz.func6 rangingStringsFacts
  (of_decide_eq_true (by kernel_rfl)) (by unfold Func.isWrapper; first | (rw [if_pos (by decide +kernel)]; kernel_rfl) | (rw [if_neg (by decide +kernel)]; exact ⟨rfl, rfl⟩))
  (fun os started H enc _ => rangingStringsLifted os started H enc)
theorem rangingStringsParams : (Tryz.f6.params.toList.all fun t => !Tryz.prog.wantsStandIn t) = true := by kernel_rfl
theorem rangingStringsWf : Rows.rangingStringsRow.wfByText (OpenSpec.ofChange Rows.rangingStringsSpec) = true := by kernel_rfl
theorem rangingStringsGoes : false = Rows.rangingStringsRow.goesBy Tryz.pinned.checked.prog := by kernel_rfl
theorem rangingStrings_card : Rows.RangingStringsCardSaid :=
 Claim7.holds_tied_plain_at .later [] [.data, .data, .data, .data, .sentinel, .sentinel, .data, .widerDeep, .pinned] true (true, "c5119c5f6dad273ce700befe837f5a28e87e3deafe0e06913fa7e94917cb8d26") true
  rangingStrings_holds (fun _ h => by cases h) rangingStringsWf (fun _ h => by cases h) rangingStrings_row_tie rfl ⟨rfl, rfl⟩ fMain rfl
  (fun f fn hf hfn => by
    obtain rfl : f = 6 := Option.some.inj (rangingStringsNamed.symm.trans hf) |>.symm
    obtain rfl : fn = Tryz.f6 := (Option.some.inj (Tryz.func6.symm.trans hfn)).symm
    exact ⟨fLooks, fun j t ht => by
     have := List.all_eq_true.1 rangingStringsParams t (by rw [Array.mem_toList_iff]; exact Array.mem_of_getElem? ht)
     show Tryz.prog.wantsStandIn t = false
     simpa using this⟩)
  rangingStringsGoes
#print axioms rangingStrings_card
end Go.Proofs.YtdoehknomnhlkaaGreatDoor
