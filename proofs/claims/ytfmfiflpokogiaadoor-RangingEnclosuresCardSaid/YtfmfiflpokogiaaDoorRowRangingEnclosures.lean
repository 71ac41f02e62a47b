/- RangingEnclosures: the statement holds for every input; condition: the package-level variable reads as listed, which the card ties to the program's text. -/
import Derived.Test.YtfmfiflpokogiaaDoorEnclLaw
import Derived.Test.YtfmfiflpokogiaaDoorFacts7
import Derived.Test.YtfmfiflpokogiaaDoorTie
import Derived.Test.YtfmfiflpokogiaaDoorCards
import Derived.WalkKit
import Derived.ProofKit
import Derived.OpenShut
import Derived.JoinedCond
import Derived.SevenTiedAt
set_option linter.unusedSimpArgs false
namespace Go.Proofs.YtfmfiflpokogiaaDoor
open Go.Ev Go.ChangeShapes Go.WideShapes Go.ChangeAt Go.RowKit

theorem rangingEnclosuresLaw : ∀ cs, Typed [(.slice (.agg (.pair (.int .i64) (.pair (.int .i64) (.pair (.int .i64) (.pair (.int .i64) (.int .i64))))))), (.int .i64)] cs → Meets Tryd.prog 5 cs saysTrue := law_of_spec (shs := [(.slice (.agg (.pair (.int .i64) (.pair (.int .i64) (.pair (.int .i64) (.pair (.int .i64) (.int .i64))))))), (.int .i64)]) i5 (fun x _ => enclosures_true x)

set_option maxRecDepth 100000 in
theorem rangingEnclosuresLifted (os : Os) (started : os.Started) (H : Type) (enc : TypeId × Value → H) :
    ReturnsInHanded {} Tryd.checked os 5 .any (fun w args => (Rows.rangingEnclosuresSpec.pre enc Tryd.prog Tryd.f5 Rows.rangingEnclosuresRow.domain false w args ∧ laidMet Tryd.prog spLaid w) ∧ sizedMet enc Tryd.prog Tryd.f5 (OpenSpec.ofChange Rows.rangingEnclosuresSpec) false w args)
      (Rows.rangingEnclosuresSpec.post enc Tryd.prog Tryd.f5 false true false false) := by
  refine returnsInHanded_of_change_and (C := Tryd.checked) (X := fun w _ => laidMet Tryd.prog spLaid w) (fun _ _ _ hh h => h.of_heap hh) own started (by kernel_rfl) Tryd.func5
    (ChangeSpec.witness_at (enc := enc) (C := Tryd.checked) (os := os) (X := fun w _ => laidMet Tryd.prog spLaid w) false (laidWorld os) #[.slice none 0 0, .int .i64 0] 8 rfl (by kernel_rfl) (by kernel_rfl) (by kernel_rfl) (by kernel_rfl) (by kernel_rfl) (laidWorld_met os _)) ?_
  intro W base args ds gs before hval hW _ _ hL _
  refine contract_of_law (shs := [(.slice (.agg (.pair (.int .i64) (.pair (.int .i64) (.pair (.int .i64) (.pair (.int .i64) (.int .i64))))))), (.int .i64)]) (tb := 4) laid (by kernel_rfl) (by kernel_rfl) rfl (by kernel_rfl) (by kernel_rfl) rfl (fun ds h => ?_) rangingEnclosuresLaw (globsOf_laid hL) hval hW
  match ds, h with
  | [_, _], _ => rfl

set_option maxRecDepth 100000
theorem rangingEnclosuresFact0 : (Rows.rangingEnclosuresRow.wf (OpenSpec.ofChange Rows.rangingEnclosuresSpec)) = true := by kernel_rfl
theorem rangingEnclosuresFact1 : (laidOutB Tryd.prog) = true := laid
theorem rangingEnclosuresFact2 : (mapsRowed Tryd.prog) = true := fMaps
theorem rangingEnclosuresFact3 : (Tryd.f5.params.all (Tryd.prog.readableRec ·)) = true := by kernel_rfl
theorem rangingEnclosuresFact4 : (namedTie Tryd.prog Rows.rangingEnclosuresRow.named Rows.rangingEnclosuresSpec.vars) = true := by kernel_rfl
theorem rangingEnclosuresFact5 : ((Rows.rangingEnclosuresRow.stops == [])) = true := by kernel_rfl
theorem rangingEnclosuresFact6 : ((Tryd.prog.stops == [])) = true := by rw [fStops]; rfl
theorem rangingEnclosuresFact7 : ((Rows.rangingEnclosuresRow.knobs == [])) = true := by kernel_rfl
theorem rangingEnclosuresFact8 : ((Tryd.prog.stopKnobs == [])) = true := by rw [fKnobs]; rfl
theorem rangingEnclosuresFact9 : ((Rows.rangingEnclosuresRow.inPlace == Tryd.prog.inPlace 5)) = true := by kernel_rfl
theorem rangingEnclosuresFact10 : ((Rows.rangingEnclosuresRow.unfollowed == Tryd.prog.unfollowed 5)) = true := by kernel_rfl
theorem rangingEnclosuresFact11 : ((Rows.rangingEnclosuresRow.recurses == Tryd.prog.recurses 5)) = true := by kernel_rfl
theorem rangingEnclosuresFact12 : ((Rows.rangingEnclosuresRow.named == Tryd.prog.varsNamed 5)) = true := by kernel_rfl
theorem rangingEnclosuresFact13 : ((Rows.rangingEnclosuresRow.maps == (Tryd.f5.params.toList ++ Rows.rangingEnclosuresSpec.plain.varTypes Tryd.prog).any (Tryd.prog.mapsRec ·))) = true := by kernel_rfl
theorem rangingEnclosuresFact14 : ((Rows.rangingEnclosuresRow.ifaces == (Tryd.f5.params.toList ++ Rows.rangingEnclosuresSpec.plain.varTypes Tryd.prog).any (Tryd.prog.ifacesRec ·))) = true := by kernel_rfl
theorem rangingEnclosuresFact15 : ((Rows.rangingEnclosuresRow.mapsOut == Tryd.prog.mapsAmong Tryd.f5.resultTypes.toList)) = true := by kernel_rfl
theorem rangingEnclosuresFact16 : ((Rows.rangingEnclosuresRow.loops == (Tryd.f5.params.toList ++ Rows.rangingEnclosuresSpec.plain.varTypes Tryd.prog).any (Tryd.prog.loopsFrom ·))) = true := by kernel_rfl
theorem rangingEnclosuresFact17 : ((Rows.rangingEnclosuresRow.wideKeys == (Tryd.f5.params.toList ++ Rows.rangingEnclosuresSpec.plain.varTypes Tryd.prog ++ Tryd.f5.resultTypes.toList).any (Tryd.prog.wideKeysFrom ·))) = true := by kernel_rfl
theorem rangingEnclosuresFact18 : (Rows.rangingEnclosuresSpec.vars.all (Tryd.prog.varReadable ·)) = true := by kernel_rfl
theorem rangingEnclosuresFact19 : (Tryd.f5.resultTypes.all (fun t => Tryd.prog.readableRec t && decide (t < Tryd.prog.types.size))) = true := by kernel_rfl
theorem rangingEnclosuresFact20 : ((Rows.rangingEnclosuresRow.ifacesOut == Tryd.f5.resultTypes.toList.any (Tryd.prog.ifacesRec ·))) = true := by kernel_rfl
theorem rangingEnclosuresFact21 : ((Rows.rangingEnclosuresRow.loopsOut == Tryd.f5.resultTypes.toList.any (Tryd.prog.loopsFrom ·))) = true := by kernel_rfl
theorem rangingEnclosuresFact22 : ((Rows.rangingEnclosuresRow.plainKeys == Tryd.prog.plainKeys)) = true := by kernel_rfl
theorem rangingEnclosuresFact23 : (Rows.rangingEnclosuresRow.shortTexts.isNone) = true := by kernel_rfl
theorem rangingEnclosuresFact24 : (Tryd.prog.stopsHeard) = true := fHeard
theorem rangingEnclosuresFact25 : (Tryd.prog.mayEnter) = true := fEnter
theorem rangingEnclosuresFact26 : ((Rows.rangingEnclosuresRow.lifted == Tryd.prog.liftsFinal)) = true := by kernel_rfl
theorem rangingEnclosuresFact27 : ((Tryd.prog.make == some Rows.rangingEnclosuresRow.make)) = true := by kernel_rfl
theorem rangingEnclosuresFacts : joinedFacts Tryd.prog 5 Tryd.f5 Rows.rangingEnclosuresSpec Rows.rangingEnclosuresRow = true := by
  unfold joinedFacts
  rw [rangingEnclosuresFact0, rangingEnclosuresFact1, rangingEnclosuresFact2, rangingEnclosuresFact3, rangingEnclosuresFact4, rangingEnclosuresFact5, rangingEnclosuresFact6, rangingEnclosuresFact7, rangingEnclosuresFact8, rangingEnclosuresFact9, rangingEnclosuresFact10, rangingEnclosuresFact11, rangingEnclosuresFact12, rangingEnclosuresFact13, rangingEnclosuresFact14, rangingEnclosuresFact15, rangingEnclosuresFact16, rangingEnclosuresFact17, rangingEnclosuresFact18, rangingEnclosuresFact19, rangingEnclosuresFact20, rangingEnclosuresFact21, rangingEnclosuresFact22, rangingEnclosuresFact23, rangingEnclosuresFact24, rangingEnclosuresFact25, rangingEnclosuresFact26, rangingEnclosuresFact27]
  kernel_rfl

theorem rangingEnclosuresNamed : Tryd.prog.funcNamed "cassegrain/cassegrainlaw07.RangingEnclosures" = some 5 := by kernel_rfl
theorem rangingEnclosures_holds : Rows.RangingEnclosuresSaid :=
  OpenClaim.holds_of_wide 5 Tryd.f5 rfl rfl rfl rfl rfl rfl rfl ⟨rfl, rfl, rfl, rfl, rfl⟩ rfl rfl rfl rfl rfl rangingEnclosuresNamed Tryd.func5 rangingEnclosuresFacts
    (of_decide_eq_true (by kernel_rfl)) (by unfold Func.isWrapper; first | (rw [if_pos (by decide +kernel)]; kernel_rfl) | (rw [if_neg (by decide +kernel)]; exact ⟨rfl, rfl⟩))
    (fun os started H enc _ => rangingEnclosuresLifted os started H enc)

theorem rangingEnclosuresParams : (Tryd.f5.params.toList.all fun t => !Tryd.prog.wantsStandIn t) = true := by kernel_rfl
theorem rangingEnclosuresWf : Rows.rangingEnclosuresRow.wfByText (OpenSpec.ofChange Rows.rangingEnclosuresSpec) = true := by kernel_rfl
theorem rangingEnclosuresGoes : false = Rows.rangingEnclosuresRow.goesBy Tryd.pinned.checked.prog := by kernel_rfl
theorem rangingEnclosures_card : Rows.RangingEnclosuresCardSaid :=
  Claim7.holds_tied_plain_at .later [] [.data] true (true, "b9a990e41395d9caa781e6d6f13123fc7fc88690115b0761975b0f7740f8aa07") false
    rangingEnclosures_holds (fun _ h => by cases h) rangingEnclosuresWf (fun _ h => by cases h) rangingEnclosures_row_tie rfl ⟨rfl, rfl⟩ fMain rfl
    (fun f fn hf hfn => by
      obtain rfl : f = 5 := Option.some.inj (rangingEnclosuresNamed.symm.trans hf) |>.symm
      obtain rfl : fn = Tryd.f5 := (Option.some.inj (Tryd.func5.symm.trans hfn)).symm
      exact ⟨fLooks, fun j t ht => by
        have := List.all_eq_true.1 rangingEnclosuresParams t (by rw [Array.mem_toList_iff]; exact Array.mem_of_getElem? ht)
        show Tryd.prog.wantsStandIn t = false
        simpa using this⟩)
    rangingEnclosuresGoes
#print axioms rangingEnclosures_card
end Go.Proofs.YtfmfiflpokogiaaDoor
