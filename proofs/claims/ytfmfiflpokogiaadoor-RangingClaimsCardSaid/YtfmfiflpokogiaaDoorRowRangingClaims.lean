/- RangingClaims: the statement holds for every input; condition: the package-level variable reads as listed, which the card ties to the program's text. -/
import Derived.Test.YtfmfiflpokogiaaDoorClaimLaw
import Derived.Test.YtfmfiflpokogiaaDoorFacts7
import Derived.Test.YtfmfiflpokogiaaDoorTie
import Derived.Test.YtfmfiflpokogiaaDoorCards
import Derived.WalkKit
import Derived.ProofKit
import Derived.OpenShut
import Derived.JoinedCond
import Derived.SevenTiedAt
set_option linter.unusedSimpArgs false
namespace Go.Proofs.YtfmfiflpokogiaaDoor
open Go.Ev Go.ChangeShapes Go.WideShapes Go.ChangeAt Go.RowKit

theorem rangingClaimsLaw : ∀ cs, Typed [(.slice (.agg (.pair (.int .i64) (.pair (.int .i64) (.pair (.int .i64) (.pair (.int .i64) (.int .i64))))))), (.agg (.pair (.pair (.int .i64) .bool) (.pair (.pair (.int .i64) (.int .i64)) (.pair (.slice (.agg (.pair (.int .i64) (.pair .bool (.int .i64))))) (.int .i64)))))] cs → Meets Tryd.prog 14 cs saysTrue := law_of_spec (shs := [(.slice (.agg (.pair (.int .i64) (.pair (.int .i64) (.pair (.int .i64) (.pair (.int .i64) (.int .i64))))))), (.agg (.pair (.pair (.int .i64) .bool) (.pair (.pair (.int .i64) (.int .i64)) (.pair (.slice (.agg (.pair (.int .i64) (.pair .bool (.int .i64))))) (.int .i64)))))]) i14 (fun x _ => claims_true x)

set_option maxRecDepth 100000 in
theorem rangingClaimsLifted (os : Os) (started : os.Started) (H : Type) (enc : TypeId × Value → H) :
    ReturnsInHanded {} Tryd.checked os 14 .any (fun w args => (Rows.rangingClaimsSpec.pre enc Tryd.prog Tryd.f14 Rows.rangingClaimsRow.domain false w args ∧ laidMet Tryd.prog spLaid w) ∧ sizedMet enc Tryd.prog Tryd.f14 (OpenSpec.ofChange Rows.rangingClaimsSpec) false w args)
      (Rows.rangingClaimsSpec.post enc Tryd.prog Tryd.f14 false true false false) := by
  refine returnsInHanded_of_change_and (C := Tryd.checked) (X := fun w _ => laidMet Tryd.prog spLaid w) (fun _ _ _ hh h => h.of_heap hh) own started (by kernel_rfl) Tryd.func14
    (ChangeSpec.witness_at (enc := enc) (C := Tryd.checked) (os := os) (X := fun w _ => laidMet Tryd.prog spLaid w) false (laidWorld os) #[.slice none 0 0, .agg #[.int .i64 0, .bool false, .int .i64 0, .int .i64 0, .slice none 0 0, .int .i64 0]] 8 rfl (by kernel_rfl) (by kernel_rfl) (by kernel_rfl) (by kernel_rfl) (by kernel_rfl) (laidWorld_met os _)) ?_
  intro W base args ds gs before hval hW _ _ hL _
  refine contract_of_law (shs := [(.slice (.agg (.pair (.int .i64) (.pair (.int .i64) (.pair (.int .i64) (.pair (.int .i64) (.int .i64))))))), (.agg (.pair (.pair (.int .i64) .bool) (.pair (.pair (.int .i64) (.int .i64)) (.pair (.slice (.agg (.pair (.int .i64) (.pair .bool (.int .i64))))) (.int .i64)))))]) (tb := 4) laid (by kernel_rfl) (by kernel_rfl) rfl (by kernel_rfl) (by kernel_rfl) rfl (fun ds h => ?_) rangingClaimsLaw (globsOf_laid hL) hval hW
  match ds, h with
  | [_, _], _ => rfl

set_option maxRecDepth 100000
theorem rangingClaimsFact0 : (Rows.rangingClaimsRow.wf (OpenSpec.ofChange Rows.rangingClaimsSpec)) = true := by kernel_rfl
theorem rangingClaimsFact1 : (laidOutB Tryd.prog) = true := laid
theorem rangingClaimsFact2 : (mapsRowed Tryd.prog) = true := fMaps
theorem rangingClaimsFact3 : (Tryd.f14.params.all (Tryd.prog.readableRec ·)) = true := by kernel_rfl
theorem rangingClaimsFact4 : (namedTie Tryd.prog Rows.rangingClaimsRow.named Rows.rangingClaimsSpec.vars) = true := by kernel_rfl
theorem rangingClaimsFact5 : ((Rows.rangingClaimsRow.stops == [])) = true := by kernel_rfl
theorem rangingClaimsFact6 : ((Tryd.prog.stops == [])) = true := by rw [fStops]; rfl
theorem rangingClaimsFact7 : ((Rows.rangingClaimsRow.knobs == [])) = true := by kernel_rfl
theorem rangingClaimsFact8 : ((Tryd.prog.stopKnobs == [])) = true := by rw [fKnobs]; rfl
theorem rangingClaimsFact9 : ((Rows.rangingClaimsRow.inPlace == Tryd.prog.inPlace 14)) = true := by kernel_rfl
theorem rangingClaimsFact10 : ((Rows.rangingClaimsRow.unfollowed == Tryd.prog.unfollowed 14)) = true := by kernel_rfl
theorem rangingClaimsFact11 : ((Rows.rangingClaimsRow.recurses == Tryd.prog.recurses 14)) = true := by kernel_rfl
theorem rangingClaimsFact12 : ((Rows.rangingClaimsRow.named == Tryd.prog.varsNamed 14)) = true := by kernel_rfl
theorem rangingClaimsFact13 : ((Rows.rangingClaimsRow.maps == (Tryd.f14.params.toList ++ Rows.rangingClaimsSpec.plain.varTypes Tryd.prog).any (Tryd.prog.mapsRec ·))) = true := by kernel_rfl
theorem rangingClaimsFact14 : ((Rows.rangingClaimsRow.ifaces == (Tryd.f14.params.toList ++ Rows.rangingClaimsSpec.plain.varTypes Tryd.prog).any (Tryd.prog.ifacesRec ·))) = true := by kernel_rfl
theorem rangingClaimsFact15 : ((Rows.rangingClaimsRow.mapsOut == Tryd.prog.mapsAmong Tryd.f14.resultTypes.toList)) = true := by kernel_rfl
theorem rangingClaimsFact16 : ((Rows.rangingClaimsRow.loops == (Tryd.f14.params.toList ++ Rows.rangingClaimsSpec.plain.varTypes Tryd.prog).any (Tryd.prog.loopsFrom ·))) = true := by kernel_rfl
theorem rangingClaimsFact17 : ((Rows.rangingClaimsRow.wideKeys == (Tryd.f14.params.toList ++ Rows.rangingClaimsSpec.plain.varTypes Tryd.prog ++ Tryd.f14.resultTypes.toList).any (Tryd.prog.wideKeysFrom ·))) = true := by kernel_rfl
theorem rangingClaimsFact18 : (Rows.rangingClaimsSpec.vars.all (Tryd.prog.varReadable ·)) = true := by kernel_rfl
theorem rangingClaimsFact19 : (Tryd.f14.resultTypes.all (fun t => Tryd.prog.readableRec t && decide (t < Tryd.prog.types.size))) = true := by kernel_rfl
theorem rangingClaimsFact20 : ((Rows.rangingClaimsRow.ifacesOut == Tryd.f14.resultTypes.toList.any (Tryd.prog.ifacesRec ·))) = true := by kernel_rfl
theorem rangingClaimsFact21 : ((Rows.rangingClaimsRow.loopsOut == Tryd.f14.resultTypes.toList.any (Tryd.prog.loopsFrom ·))) = true := by kernel_rfl
theorem rangingClaimsFact22 : ((Rows.rangingClaimsRow.plainKeys == Tryd.prog.plainKeys)) = true := by kernel_rfl
theorem rangingClaimsFact23 : (Rows.rangingClaimsRow.shortTexts.isNone) = true := by kernel_rfl
theorem rangingClaimsFact24 : (Tryd.prog.stopsHeard) = true := fHeard
theorem rangingClaimsFact25 : (Tryd.prog.mayEnter) = true := fEnter
theorem rangingClaimsFact26 : ((Rows.rangingClaimsRow.lifted == Tryd.prog.liftsFinal)) = true := by kernel_rfl
theorem rangingClaimsFact27 : ((Tryd.prog.make == some Rows.rangingClaimsRow.make)) = true := by kernel_rfl
theorem rangingClaimsFacts : joinedFacts Tryd.prog 14 Tryd.f14 Rows.rangingClaimsSpec Rows.rangingClaimsRow = true := by
  unfold joinedFacts
  rw [rangingClaimsFact0, rangingClaimsFact1, rangingClaimsFact2, rangingClaimsFact3, rangingClaimsFact4, rangingClaimsFact5, rangingClaimsFact6, rangingClaimsFact7, rangingClaimsFact8, rangingClaimsFact9, rangingClaimsFact10, rangingClaimsFact11, rangingClaimsFact12, rangingClaimsFact13, rangingClaimsFact14, rangingClaimsFact15, rangingClaimsFact16, rangingClaimsFact17, rangingClaimsFact18, rangingClaimsFact19, rangingClaimsFact20, rangingClaimsFact21, rangingClaimsFact22, rangingClaimsFact23, rangingClaimsFact24, rangingClaimsFact25, rangingClaimsFact26, rangingClaimsFact27]
  kernel_rfl

theorem rangingClaimsNamed : Tryd.prog.funcNamed "cassegrain/cassegrainlaw07.RangingClaims" = some 14 := by kernel_rfl
theorem rangingClaims_holds : Rows.RangingClaimsSaid :=
  OpenClaim.holds_of_wide 14 Tryd.f14 rfl rfl rfl rfl rfl rfl rfl ⟨rfl, rfl, rfl, rfl, rfl⟩ rfl rfl rfl rfl rfl rangingClaimsNamed Tryd.func14 rangingClaimsFacts
    (of_decide_eq_true (by kernel_rfl)) (by unfold Func.isWrapper; first | (rw [if_pos (by decide +kernel)]; kernel_rfl) | (rw [if_neg (by decide +kernel)]; exact ⟨rfl, rfl⟩))
    (fun os started H enc _ => rangingClaimsLifted os started H enc)

theorem rangingClaimsParams : (Tryd.f14.params.toList.all fun t => !Tryd.prog.wantsStandIn t) = true := by kernel_rfl
theorem rangingClaimsWf : Rows.rangingClaimsRow.wfByText (OpenSpec.ofChange Rows.rangingClaimsSpec) = true := by kernel_rfl
theorem rangingClaimsGoes : false = Rows.rangingClaimsRow.goesBy Tryd.pinned.checked.prog := by kernel_rfl
theorem rangingClaims_card : Rows.RangingClaimsCardSaid :=
  Claim7.holds_tied_plain_at .later [] [.data] true (true, "b9a990e41395d9caa781e6d6f13123fc7fc88690115b0761975b0f7740f8aa07") false
    rangingClaims_holds (fun _ h => by cases h) rangingClaimsWf (fun _ h => by cases h) rangingClaims_row_tie rfl ⟨rfl, rfl⟩ fMain rfl
    (fun f fn hf hfn => by
      obtain rfl : f = 14 := Option.some.inj (rangingClaimsNamed.symm.trans hf) |>.symm
      obtain rfl : fn = Tryd.f14 := (Option.some.inj (Tryd.func14.symm.trans hfn)).symm
      exact ⟨fLooks, fun j t ht => by
        have := List.all_eq_true.1 rangingClaimsParams t (by rw [Array.mem_toList_iff]; exact Array.mem_of_getElem? ht)
        show Tryd.prog.wantsStandIn t = false
        simpa using this⟩)
    rangingClaimsGoes
#print axioms rangingClaims_card
end Go.Proofs.YtfmfiflpokogiaaDoor
