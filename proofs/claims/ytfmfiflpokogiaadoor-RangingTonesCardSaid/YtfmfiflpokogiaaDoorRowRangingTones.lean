/- RangingTones: the statement holds for every input; condition: the package-level variable reads as listed, which the card ties to the program's text. -/
import Derived.Test.YtfmfiflpokogiaaDoorTones
import Derived.Test.YtfmfiflpokogiaaDoorFacts7
import Derived.Test.YtfmfiflpokogiaaDoorTie
import Derived.Test.YtfmfiflpokogiaaDoorCards
import Derived.WalkKit
import Derived.ProofKit
import Derived.OpenShut
import Derived.JoinedCond
import Derived.SevenTiedAt
set_option linter.unusedSimpArgs false
namespace Go.Proofs.YtfmfiflpokogiaaDoor
open Go.Ev Go.ChangeShapes Go.WideShapes Go.ChangeAt Go.RowKit

theorem rangingTonesLaw : ∀ cs, Typed [(.slice (.agg (.pair (.int .i64) (.pair (.int .i64) (.int .i64)))))] cs → Meets Tryd.prog 8 cs saysTrue := law_of_spec (shs := [(.slice (.agg (.pair (.int .i64) (.pair (.int .i64) (.int .i64)))))]) i8 (fun x _ => tones_true x)

set_option maxRecDepth 100000 in
theorem rangingTonesLifted (os : Os) (started : os.Started) (H : Type) (enc : TypeId × Value → H) :
    ReturnsInHanded {} Tryd.checked os 8 .any (fun w args => (Rows.rangingTonesSpec.pre enc Tryd.prog Tryd.f8 Rows.rangingTonesRow.domain false w args ∧ laidMet Tryd.prog spLaid w) ∧ sizedMet enc Tryd.prog Tryd.f8 (OpenSpec.ofChange Rows.rangingTonesSpec) false w args)
      (Rows.rangingTonesSpec.post enc Tryd.prog Tryd.f8 false true false false) := by
  refine returnsInHanded_of_change_and (C := Tryd.checked) (X := fun w _ => laidMet Tryd.prog spLaid w) (fun _ _ _ hh h => h.of_heap hh) own started (by kernel_rfl) Tryd.func8
    (ChangeSpec.witness_at (enc := enc) (C := Tryd.checked) (os := os) (X := fun w _ => laidMet Tryd.prog spLaid w) false (laidWorld os) #[.slice none 0 0] 8 rfl (by kernel_rfl) (by kernel_rfl) (by kernel_rfl) (by kernel_rfl) (by kernel_rfl) (laidWorld_met os _)) ?_
  intro W base args ds gs before hval hW _ _ hL _
  refine contract_of_law (shs := [(.slice (.agg (.pair (.int .i64) (.pair (.int .i64) (.int .i64)))))]) (tb := 4) laid (by kernel_rfl) (by kernel_rfl) rfl (by kernel_rfl) (by kernel_rfl) rfl (fun ds h => ?_) rangingTonesLaw (globsOf_laid hL) hval hW
  match ds, h with
  | [_], _ => rfl

set_option maxRecDepth 100000
theorem rangingTonesFact0 : (Rows.rangingTonesRow.wf (OpenSpec.ofChange Rows.rangingTonesSpec)) = true := by kernel_rfl
theorem rangingTonesFact1 : (laidOutB Tryd.prog) = true := laid
theorem rangingTonesFact2 : (mapsRowed Tryd.prog) = true := fMaps
theorem rangingTonesFact3 : (Tryd.f8.params.all (Tryd.prog.readableRec ·)) = true := by kernel_rfl
theorem rangingTonesFact4 : (namedTie Tryd.prog Rows.rangingTonesRow.named Rows.rangingTonesSpec.vars) = true := by kernel_rfl
theorem rangingTonesFact5 : ((Rows.rangingTonesRow.stops == [])) = true := by kernel_rfl
theorem rangingTonesFact6 : ((Tryd.prog.stops == [])) = true := by rw [fStops]; rfl
theorem rangingTonesFact7 : ((Rows.rangingTonesRow.knobs == [])) = true := by kernel_rfl
theorem rangingTonesFact8 : ((Tryd.prog.stopKnobs == [])) = true := by rw [fKnobs]; rfl
theorem rangingTonesFact9 : ((Rows.rangingTonesRow.inPlace == Tryd.prog.inPlace 8)) = true := by kernel_rfl
theorem rangingTonesFact10 : ((Rows.rangingTonesRow.unfollowed == Tryd.prog.unfollowed 8)) = true := by kernel_rfl
theorem rangingTonesFact11 : ((Rows.rangingTonesRow.recurses == Tryd.prog.recurses 8)) = true := by kernel_rfl
theorem rangingTonesFact12 : ((Rows.rangingTonesRow.named == Tryd.prog.varsNamed 8)) = true := by kernel_rfl
theorem rangingTonesFact13 : ((Rows.rangingTonesRow.maps == (Tryd.f8.params.toList ++ Rows.rangingTonesSpec.plain.varTypes Tryd.prog).any (Tryd.prog.mapsRec ·))) = true := by kernel_rfl
theorem rangingTonesFact14 : ((Rows.rangingTonesRow.ifaces == (Tryd.f8.params.toList ++ Rows.rangingTonesSpec.plain.varTypes Tryd.prog).any (Tryd.prog.ifacesRec ·))) = true := by kernel_rfl
theorem rangingTonesFact15 : ((Rows.rangingTonesRow.mapsOut == Tryd.prog.mapsAmong Tryd.f8.resultTypes.toList)) = true := by kernel_rfl
theorem rangingTonesFact16 : ((Rows.rangingTonesRow.loops == (Tryd.f8.params.toList ++ Rows.rangingTonesSpec.plain.varTypes Tryd.prog).any (Tryd.prog.loopsFrom ·))) = true := by kernel_rfl
theorem rangingTonesFact17 : ((Rows.rangingTonesRow.wideKeys == (Tryd.f8.params.toList ++ Rows.rangingTonesSpec.plain.varTypes Tryd.prog ++ Tryd.f8.resultTypes.toList).any (Tryd.prog.wideKeysFrom ·))) = true := by kernel_rfl
theorem rangingTonesFact18 : (Rows.rangingTonesSpec.vars.all (Tryd.prog.varReadable ·)) = true := by kernel_rfl
theorem rangingTonesFact19 : (Tryd.f8.resultTypes.all (fun t => Tryd.prog.readableRec t && decide (t < Tryd.prog.types.size))) = true := by kernel_rfl
theorem rangingTonesFact20 : ((Rows.rangingTonesRow.ifacesOut == Tryd.f8.resultTypes.toList.any (Tryd.prog.ifacesRec ·))) = true := by kernel_rfl
theorem rangingTonesFact21 : ((Rows.rangingTonesRow.loopsOut == Tryd.f8.resultTypes.toList.any (Tryd.prog.loopsFrom ·))) = true := by kernel_rfl
theorem rangingTonesFact22 : ((Rows.rangingTonesRow.plainKeys == Tryd.prog.plainKeys)) = true := by kernel_rfl
theorem rangingTonesFact23 : (Rows.rangingTonesRow.shortTexts.isNone) = true := by kernel_rfl
theorem rangingTonesFact24 : (Tryd.prog.stopsHeard) = true := fHeard
theorem rangingTonesFact25 : (Tryd.prog.mayEnter) = true := fEnter
theorem rangingTonesFact26 : ((Rows.rangingTonesRow.lifted == Tryd.prog.liftsFinal)) = true := by kernel_rfl
theorem rangingTonesFact27 : ((Tryd.prog.make == some Rows.rangingTonesRow.make)) = true := by kernel_rfl
theorem rangingTonesFacts : joinedFacts Tryd.prog 8 Tryd.f8 Rows.rangingTonesSpec Rows.rangingTonesRow = true := by
  unfold joinedFacts
  rw [rangingTonesFact0, rangingTonesFact1, rangingTonesFact2, rangingTonesFact3, rangingTonesFact4, rangingTonesFact5, rangingTonesFact6, rangingTonesFact7, rangingTonesFact8, rangingTonesFact9, rangingTonesFact10, rangingTonesFact11, rangingTonesFact12, rangingTonesFact13, rangingTonesFact14, rangingTonesFact15, rangingTonesFact16, rangingTonesFact17, rangingTonesFact18, rangingTonesFact19, rangingTonesFact20, rangingTonesFact21, rangingTonesFact22, rangingTonesFact23, rangingTonesFact24, rangingTonesFact25, rangingTonesFact26, rangingTonesFact27]
  kernel_rfl

theorem rangingTonesNamed : Tryd.prog.funcNamed "cassegrain/cassegrainlaw07.RangingTones" = some 8 := by kernel_rfl
theorem rangingTones_holds : Rows.RangingTonesSaid :=
  OpenClaim.holds_of_wide 8 Tryd.f8 rfl rfl rfl rfl rfl rfl rfl ⟨rfl, rfl, rfl, rfl, rfl⟩ rfl rfl rfl rfl rfl rangingTonesNamed Tryd.func8 rangingTonesFacts
    (of_decide_eq_true (by kernel_rfl)) (by unfold Func.isWrapper; first | (rw [if_pos (by decide +kernel)]; kernel_rfl) | (rw [if_neg (by decide +kernel)]; exact ⟨rfl, rfl⟩))
    (fun os started H enc _ => rangingTonesLifted os started H enc)

theorem rangingTonesParams : (Tryd.f8.params.toList.all fun t => !Tryd.prog.wantsStandIn t) = true := by kernel_rfl
theorem rangingTonesWf : Rows.rangingTonesRow.wfByText (OpenSpec.ofChange Rows.rangingTonesSpec) = true := by kernel_rfl
theorem rangingTonesGoes : false = Rows.rangingTonesRow.goesBy Tryd.pinned.checked.prog := by kernel_rfl
theorem rangingTones_card : Rows.RangingTonesCardSaid :=
  Claim7.holds_tied_plain_at .later [] [.data] true (true, "b9a990e41395d9caa781e6d6f13123fc7fc88690115b0761975b0f7740f8aa07") false
    rangingTones_holds (fun _ h => by cases h) rangingTonesWf (fun _ h => by cases h) rangingTones_row_tie rfl ⟨rfl, rfl⟩ fMain rfl
    (fun f fn hf hfn => by
      obtain rfl : f = 8 := Option.some.inj (rangingTonesNamed.symm.trans hf) |>.symm
      obtain rfl : fn = Tryd.f8 := (Option.some.inj (Tryd.func8.symm.trans hfn)).symm
      exact ⟨fLooks, fun j t ht => by
        have := List.all_eq_true.1 rangingTonesParams t (by rw [Array.mem_toList_iff]; exact Array.mem_of_getElem? ht)
        show Tryd.prog.wantsStandIn t = false
        simpa using this⟩)
    rangingTonesGoes
#print axioms rangingTones_card
end Go.Proofs.YtfmfiflpokogiaaDoor
