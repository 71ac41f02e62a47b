import Derived.Test.YtdoehknomnhlkaaGreatDoorToneStr
import Derived.Test.YtdoehknomnhlkaaGreatDoorFacts5
import Derived.Test.YtdoehknomnhlkaaGreatDoorTie
import Derived.Test.YtdoehknomnhlkaaGreatDoorCards
import Derived.WalkKit
import Derived.ProofKit
import Derived.OpenShut
import Derived.JoinedCond
import Derived.SevenTiedAt
set_option linter.unusedSimpArgs false
namespace Go.Proofs.YtdoehknomnhlkaaGreatDoor
open Go.Ev Go.ChangeShapes Go.WideShapes Go.ChangeAt Go.RowKit
theorem rangingToneStringsLaw : ∀ cs, Typed [(.agg (.pair (.int .i64) (.pair (.int .i64) (.int .i64)))), .str] cs → Meets Tryz.prog 4 cs saysTrue := law_of_spec (shs := [(.agg (.pair (.int .i64) (.pair (.int .i64) (.int .i64)))), .str]) i4 (fun x h => tone_true x.1 x.2 (inI_of h.1.1) (inI_of h.1.2.1) (inI_of h.1.2.2))
set_option maxRecDepth 100000 in
theorem rangingToneStringsLifted (os : Os) (started : os.Started) (H : Type) (enc : TypeId × Value → H) :
 ReturnsInHanded {} Tryz.checked os 4 .any (fun w args => (Rows.rangingToneStringsSpec.pre enc Tryz.prog Tryz.f4 Rows.rangingToneStringsRow.domain false w args ∧ laidMet Tryz.prog spLaid w) ∧ sizedMet enc Tryz.prog Tryz.f4 (OpenSpec.ofChange Rows.rangingToneStringsSpec) false w args)
  (Rows.rangingToneStringsSpec.post enc Tryz.prog Tryz.f4 false true false false) := by
 refine returnsShaped (C := Tryz.checked) (X := fun w _ => laidMet Tryz.prog spLaid w) (fun _ _ _ hh h => h.of_heap hh) own started (by kernel_rfl) Tryz.func4
  (ChangeSpec.witness_at (enc := enc) (C := Tryz.checked) (os := os) (X := fun w _ => laidMet Tryz.prog spLaid w) false (laidWorld os) #[.agg #[.int .i64 0, .int .i64 0, .int .i64 0], .string ByteArray.empty] 8 rfl (by kernel_rfl) (by kernel_rfl) (by kernel_rfl) (by kernel_rfl) (by kernel_rfl) (laidWorld_met os _)) ?_
 intro W base args ds gs before hval hW hsh hL
 refine contract_of_law (shs := [(.agg (.pair (.int .i64) (.pair (.int .i64) (.int .i64)))), .str]) (tb := 4) laid (by kernel_rfl) (by kernel_rfl) rfl (by kernel_rfl) (by kernel_rfl) rfl (fun ds h => ?_) rangingToneStringsLaw (globsOf_laid hL hsh) hval hW
 match ds, h with
 | [_, _], _ => rfl
set_option maxRecDepth 100000
theorem rangingToneStringsFact0 : (Rows.rangingToneStringsRow.wf (OpenSpec.ofChange Rows.rangingToneStringsSpec)) = true := by kernel_rfl
theorem rangingToneStringsFact1 : (laidOutB Tryz.prog) = true := laid
theorem rangingToneStringsFact2 : (mapsRowed Tryz.prog) = true := fMaps
theorem rangingToneStringsFact3 : (Tryz.f4.params.all (Tryz.prog.readableRec ·)) = true := by kernel_rfl
theorem rangingToneStringsFact4 : (namedTie Tryz.prog Rows.rangingToneStringsRow.named Rows.rangingToneStringsSpec.vars) = true := by kernel_rfl
theorem rangingToneStringsFact5 : ((Rows.rangingToneStringsRow.stops == [])) = true := by kernel_rfl
theorem rangingToneStringsFact6 : ((Tryz.prog.stops == [])) = true := by rw [fStops]; rfl
theorem rangingToneStringsFact7 : ((Rows.rangingToneStringsRow.knobs == [])) = true := by kernel_rfl
theorem rangingToneStringsFact8 : ((Tryz.prog.stopKnobs == [])) = true := by rw [fKnobs]; rfl
theorem rangingToneStringsFact9 : ((Rows.rangingToneStringsRow.inPlace == Tryz.prog.inPlace 4)) = true := by kernel_rfl
theorem rangingToneStringsFact10 : ((Rows.rangingToneStringsRow.unfollowed == Tryz.prog.unfollowed 4)) = true := by kernel_rfl
theorem rangingToneStringsFact11 : ((Rows.rangingToneStringsRow.recurses == Tryz.prog.recurses 4)) = true := by kernel_rfl
theorem rangingToneStringsFact12 : ((Rows.rangingToneStringsRow.named == Tryz.prog.varsNamed 4)) = true := by kernel_rfl
theorem rangingToneStringsFact13 : ((Rows.rangingToneStringsRow.maps == (Tryz.f4.params.toList ++ Rows.rangingToneStringsSpec.plain.varTypes Tryz.prog).any (Tryz.prog.mapsRec ·))) = true := by kernel_rfl
theorem rangingToneStringsFact14 : ((Rows.rangingToneStringsRow.ifaces == (Tryz.f4.params.toList ++ Rows.rangingToneStringsSpec.plain.varTypes Tryz.prog).any (Tryz.prog.ifacesRec ·))) = true := by kernel_rfl
theorem rangingToneStringsFact15 : ((Rows.rangingToneStringsRow.mapsOut == Tryz.prog.mapsAmong Tryz.f4.resultTypes.toList)) = true := by kernel_rfl
theorem rangingToneStringsFact16 : ((Rows.rangingToneStringsRow.loops == (Tryz.f4.params.toList ++ Rows.rangingToneStringsSpec.plain.varTypes Tryz.prog).any (Tryz.prog.loopsFrom ·))) = true := by kernel_rfl
theorem rangingToneStringsFact17 : ((Rows.rangingToneStringsRow.wideKeys == (Tryz.f4.params.toList ++ Rows.rangingToneStringsSpec.plain.varTypes Tryz.prog ++ Tryz.f4.resultTypes.toList).any (Tryz.prog.wideKeysFrom ·))) = true := by kernel_rfl
theorem rangingToneStringsFact18 : (Rows.rangingToneStringsSpec.vars.all (Tryz.prog.varReadable ·)) = true := by kernel_rfl
theorem rangingToneStringsFact19 : (Tryz.f4.resultTypes.all (fun t => Tryz.prog.readableRec t && decide (t < Tryz.prog.types.size))) = true := by kernel_rfl
theorem rangingToneStringsFact20 : ((Rows.rangingToneStringsRow.ifacesOut == Tryz.f4.resultTypes.toList.any (Tryz.prog.ifacesRec ·))) = true := by kernel_rfl
theorem rangingToneStringsFact21 : ((Rows.rangingToneStringsRow.loopsOut == Tryz.f4.resultTypes.toList.any (Tryz.prog.loopsFrom ·))) = true := by kernel_rfl
theorem rangingToneStringsFact22 : ((Rows.rangingToneStringsRow.plainKeys == Tryz.prog.plainKeys)) = true := by kernel_rfl
theorem rangingToneStringsFact23 : (Rows.rangingToneStringsRow.shortTexts.isNone) = true := by kernel_rfl
theorem rangingToneStringsFact24 : (Tryz.prog.stopsHeard) = true := fHeard
theorem rangingToneStringsFact25 : (Tryz.prog.mayEnter) = true := fEnter
theorem rangingToneStringsFact26 : ((Rows.rangingToneStringsRow.lifted == Tryz.prog.liftsFinal)) = true := by kernel_rfl
theorem rangingToneStringsFact27 : ((Tryz.prog.make == some Rows.rangingToneStringsRow.make)) = true := by kernel_rfl
theorem rangingToneStringsFacts : joinedFacts Tryz.prog 4 Tryz.f4 Rows.rangingToneStringsSpec Rows.rangingToneStringsRow = true := by
 unfold joinedFacts
 rw [rangingToneStringsFact0, rangingToneStringsFact1, rangingToneStringsFact2, rangingToneStringsFact3, rangingToneStringsFact4, rangingToneStringsFact5, rangingToneStringsFact6, rangingToneStringsFact7, rangingToneStringsFact8, rangingToneStringsFact9, rangingToneStringsFact10, rangingToneStringsFact11, rangingToneStringsFact12, rangingToneStringsFact13, rangingToneStringsFact14, rangingToneStringsFact15, rangingToneStringsFact16, rangingToneStringsFact17, rangingToneStringsFact18, rangingToneStringsFact19, rangingToneStringsFact20, rangingToneStringsFact21, rangingToneStringsFact22, rangingToneStringsFact23, rangingToneStringsFact24, rangingToneStringsFact25, rangingToneStringsFact26, rangingToneStringsFact27]
 kernel_rfl
theorem rangingToneStringsNamed : Tryz.prog.funcNamed "cassegrain/cassegrainlaw07.RangingToneStrings" = some 4 := by kernel_rfl
theorem rangingToneStrings_holds : Rows.RangingToneStringsSaid :=
 OpenClaim.holds_of_wide 4 Tryz.f4 rfl rfl rfl rfl rfl rfl rfl ⟨rfl, rfl, rfl, rfl, rfl⟩ rfl rfl rfl rfl rfl rangingToneStringsNamed Tryz.func4 rangingToneStringsFacts
  (of_decide_eq_true (by kernel_rfl)) (by unfold Func.isWrapper; first | (rw [if_pos (by decide +kernel)]; kernel_rfl) | (rw [if_neg (by decide +kernel)]; exact ⟨rfl, rfl⟩))
  (fun os started H enc _ => rangingToneStringsLifted os started H enc)
theorem rangingToneStringsParams : (Tryz.f4.params.toList.all fun t => !Tryz.prog.wantsStandIn t) = true := by kernel_rfl
theorem rangingToneStringsWf : Rows.rangingToneStringsRow.wfByText (OpenSpec.ofChange Rows.rangingToneStringsSpec) = true := by kernel_rfl
theorem rangingToneStringsGoes : false = Rows.rangingToneStringsRow.goesBy Tryz.pinned.checked.prog := by kernel_rfl
theorem rangingToneStrings_card : Rows.RangingToneStringsCardSaid :=
 Claim7.holds_tied_plain_at .later [] [.data, .data, .data, .data, .sentinel, .sentinel, .data, .pinned] true (true, "c5119c5f6dad273ce700befe837f5a28e87e3deafe0e06913fa7e94917cb8d26") true
  rangingToneStrings_holds (fun _ h => by cases h) rangingToneStringsWf (fun _ h => by cases h) rangingToneStrings_row_tie rfl ⟨rfl, rfl⟩ fMain rfl
  (fun f fn hf hfn => by
    obtain rfl : f = 4 := Option.some.inj (rangingToneStringsNamed.symm.trans hf) |>.symm
    obtain rfl : fn = Tryz.f4 := (Option.some.inj (Tryz.func4.symm.trans hfn)).symm
    exact ⟨fLooks, fun j t ht => by
     have := List.all_eq_true.1 rangingToneStringsParams t (by rw [Array.mem_toList_iff]; exact Array.mem_of_getElem? ht)
     show Tryz.prog.wantsStandIn t = false
     simpa using this⟩)
  rangingToneStringsGoes
#print axioms rangingToneStrings_card
end Go.Proofs.YtdoehknomnhlkaaGreatDoor
