import Derived.Test.YtdoehknomnhlkaaGreatDoorPathStr
import Derived.Test.YtdoehknomnhlkaaGreatDoorFacts5
import Derived.Test.YtdoehknomnhlkaaGreatDoorTie
import Derived.Test.YtdoehknomnhlkaaGreatDoorCards
import Derived.WalkKit
import Derived.ProofKit
import Derived.OpenShut
import Derived.JoinedCond
import Derived.SevenTiedAt
set_option linter.unusedSimpArgs false
namespace Go.Proofs.YtdoehknomnhlkaaGreatDoor
open Go.Ev Go.ChangeShapes Go.WideShapes Go.ChangeAt Go.RowKit
theorem pathStringsLaw : ∀ cs, Typed [(.agg (.pair (.slice (.agg (.pair (.int .i64) (.pair (.int .i64) (.pair (.int .i64) (.int .i64)))))) (.int .i64))), .str] cs → Meets Tryz.prog 7 cs saysTrue := law_of_spec (shs := [(.agg (.pair (.slice (.agg (.pair (.int .i64) (.pair (.int .i64) (.pair (.int .i64) (.int .i64)))))) (.int .i64))), .str]) i7 (fun x h => path_true x.1 x.2 (inI_of h.1.2) fun k hk => by obtain ⟨i, hi⟩ := List.mem_iff_getElem?.1 hk; have := h.1.1.2 i k hi; exact ⟨inI_of this.1, inI_of this.2.1, inI_of this.2.2.1, inI_of this.2.2.2⟩)
set_option maxRecDepth 100000 in
theorem pathStringsLifted (os : Os) (started : os.Started) (H : Type) (enc : TypeId × Value → H) :
 ReturnsInHanded {} Tryz.checked os 7 .any (fun w args => (Rows.pathStringsSpec.pre enc Tryz.prog Tryz.f7 Rows.pathStringsRow.domain false w args ∧ laidMet Tryz.prog spLaid w) ∧ sizedMet enc Tryz.prog Tryz.f7 (OpenSpec.ofChange Rows.pathStringsSpec) false w args)
  (Rows.pathStringsSpec.post enc Tryz.prog Tryz.f7 false true false false) := by
 refine returnsShaped (C := Tryz.checked) (X := fun w _ => laidMet Tryz.prog spLaid w) (fun _ _ _ hh h => h.of_heap hh) own started (by kernel_rfl) Tryz.func7
  (ChangeSpec.witness_at (enc := enc) (C := Tryz.checked) (os := os) (X := fun w _ => laidMet Tryz.prog spLaid w) false (laidWorld os) #[.agg #[.slice none 0 0, .int .i64 0], .string ByteArray.empty] 8 rfl (by kernel_rfl) (by kernel_rfl) (by kernel_rfl) (by kernel_rfl) (by kernel_rfl) (laidWorld_met os _)) ?_
 intro W base args ds gs before hval hW hsh hL
 refine contract_of_law (shs := [(.agg (.pair (.slice (.agg (.pair (.int .i64) (.pair (.int .i64) (.pair (.int .i64) (.int .i64)))))) (.int .i64))), .str]) (tb := 4) laid (by kernel_rfl) (by kernel_rfl) rfl (by kernel_rfl) (by kernel_rfl) rfl (fun ds h => ?_) pathStringsLaw (globsOf_laid hL hsh) hval hW
 match ds, h with
 | [_, _], _ => rfl
set_option maxRecDepth 100000
theorem pathStringsFact0 : (Rows.pathStringsRow.wf (OpenSpec.ofChange Rows.pathStringsSpec)) = true := by kernel_rfl
theorem pathStringsFact1 : (laidOutB Tryz.prog) = true := laid
theorem pathStringsFact2 : (mapsRowed Tryz.prog) = true := fMaps
theorem pathStringsFact3 : (Tryz.f7.params.all (Tryz.prog.readableRec ·)) = true := by kernel_rfl
theorem pathStringsFact4 : (namedTie Tryz.prog Rows.pathStringsRow.named Rows.pathStringsSpec.vars) = true := by kernel_rfl
theorem pathStringsFact5 : ((Rows.pathStringsRow.stops == [])) = true := by kernel_rfl
theorem pathStringsFact6 : ((Tryz.prog.stops == [])) = true := by rw [fStops]; rfl
theorem pathStringsFact7 : ((Rows.pathStringsRow.knobs == [])) = true := by kernel_rfl
theorem pathStringsFact8 : ((Tryz.prog.stopKnobs == [])) = true := by rw [fKnobs]; rfl
theorem pathStringsFact9 : ((Rows.pathStringsRow.inPlace == Tryz.prog.inPlace 7)) = true := by kernel_rfl
theorem pathStringsFact10 : ((Rows.pathStringsRow.unfollowed == Tryz.prog.unfollowed 7)) = true := by kernel_rfl
theorem pathStringsFact11 : ((Rows.pathStringsRow.recurses == Tryz.prog.recurses 7)) = true := by kernel_rfl
theorem pathStringsFact12 : ((Rows.pathStringsRow.named == Tryz.prog.varsNamed 7)) = true := by kernel_rfl
theorem pathStringsFact13 : ((Rows.pathStringsRow.maps == (Tryz.f7.params.toList ++ Rows.pathStringsSpec.plain.varTypes Tryz.prog).any (Tryz.prog.mapsRec ·))) = true := by kernel_rfl
theorem pathStringsFact14 : ((Rows.pathStringsRow.ifaces == (Tryz.f7.params.toList ++ Rows.pathStringsSpec.plain.varTypes Tryz.prog).any (Tryz.prog.ifacesRec ·))) = true := by kernel_rfl
theorem pathStringsFact15 : ((Rows.pathStringsRow.mapsOut == Tryz.prog.mapsAmong Tryz.f7.resultTypes.toList)) = true := by kernel_rfl
theorem pathStringsFact16 : ((Rows.pathStringsRow.loops == (Tryz.f7.params.toList ++ Rows.pathStringsSpec.plain.varTypes Tryz.prog).any (Tryz.prog.loopsFrom ·))) = true := by kernel_rfl
theorem pathStringsFact17 : ((Rows.pathStringsRow.wideKeys == (Tryz.f7.params.toList ++ Rows.pathStringsSpec.plain.varTypes Tryz.prog ++ Tryz.f7.resultTypes.toList).any (Tryz.prog.wideKeysFrom ·))) = true := by kernel_rfl
theorem pathStringsFact18 : (Rows.pathStringsSpec.vars.all (Tryz.prog.varReadable ·)) = true := by kernel_rfl
theorem pathStringsFact19 : (Tryz.f7.resultTypes.all (fun t => Tryz.prog.readableRec t && decide (t < Tryz.prog.types.size))) = true := by kernel_rfl
theorem pathStringsFact20 : ((Rows.pathStringsRow.ifacesOut == Tryz.f7.resultTypes.toList.any (Tryz.prog.ifacesRec ·))) = true := by kernel_rfl
theorem pathStringsFact21 : ((Rows.pathStringsRow.loopsOut == Tryz.f7.resultTypes.toList.any (Tryz.prog.loopsFrom ·))) = true := by kernel_rfl
theorem pathStringsFact22 : ((Rows.pathStringsRow.plainKeys == Tryz.prog.plainKeys)) = true := by kernel_rfl
theorem pathStringsFact23 : (Rows.pathStringsRow.shortTexts.isNone) = true := by kernel_rfl
theorem pathStringsFact24 : (Tryz.prog.stopsHeard) = true := fHeard
theorem pathStringsFact25 : (Tryz.prog.mayEnter) = true := fEnter
theorem pathStringsFact26 : ((Rows.pathStringsRow.lifted == Tryz.prog.liftsFinal)) = true := by kernel_rfl
theorem pathStringsFact27 : ((Tryz.prog.make == some Rows.pathStringsRow.make)) = true := by kernel_rfl
theorem pathStringsFacts : joinedFacts Tryz.prog 7 Tryz.f7 Rows.pathStringsSpec Rows.pathStringsRow = true := by
 unfold joinedFacts
 rw [pathStringsFact0, pathStringsFact1, pathStringsFact2, pathStringsFact3, pathStringsFact4, pathStringsFact5, pathStringsFact6, pathStringsFact7, pathStringsFact8, pathStringsFact9, pathStringsFact10, pathStringsFact11, pathStringsFact12, pathStringsFact13, pathStringsFact14, pathStringsFact15, pathStringsFact16, pathStringsFact17, pathStringsFact18, pathStringsFact19, pathStringsFact20, pathStringsFact21, pathStringsFact22, pathStringsFact23, pathStringsFact24, pathStringsFact25, pathStringsFact26, pathStringsFact27]
 kernel_rfl
theorem pathStringsNamed : Tryz.prog.funcNamed "cassegrain/cassegrainlaw01.PathStrings" = some 7 := by kernel_rfl
theorem pathStrings_holds : Rows.PathStringsSaid :=
 OpenClaim.holds_of_wide 7 Tryz.f7 rfl rfl rfl rfl rfl rfl rfl ⟨rfl, rfl, rfl, rfl, rfl⟩ rfl rfl rfl rfl rfl pathStringsNamed Tryz.func7 pathStringsFacts
  (of_decide_eq_true (by kernel_rfl)) (by unfold Func.isWrapper; first | (rw [if_pos (by decide +kernel)]; kernel_rfl) | (rw [if_neg (by decide +kernel)]; exact ⟨rfl, rfl⟩))
  (fun os started H enc _ => pathStringsLifted os started H enc)
theorem pathStringsParams : (Tryz.f7.params.toList.all fun t => !Tryz.prog.wantsStandIn t) = true := by kernel_rfl
theorem pathStringsWf : Rows.pathStringsRow.wfByText (OpenSpec.ofChange Rows.pathStringsSpec) = true := by kernel_rfl
theorem pathStringsGoes : false = Rows.pathStringsRow.goesBy Tryz.pinned.checked.prog := by kernel_rfl
theorem pathStrings_card : Rows.PathStringsCardSaid :=
 Claim7.holds_tied_plain_at .later [] [.data, .data, .data, .data, .sentinel, .sentinel, .pinned] true (true, "c5119c5f6dad273ce700befe837f5a28e87e3deafe0e06913fa7e94917cb8d26") true
  pathStrings_holds (fun _ h => by cases h) pathStringsWf (fun _ h => by cases h) pathStrings_row_tie rfl ⟨rfl, rfl⟩ fMain rfl
  (fun f fn hf hfn => by
    obtain rfl : f = 7 := Option.some.inj (pathStringsNamed.symm.trans hf) |>.symm
    obtain rfl : fn = Tryz.f7 := (Option.some.inj (Tryz.func7.symm.trans hfn)).symm
    exact ⟨fLooks, fun j t ht => by
     have := List.all_eq_true.1 pathStringsParams t (by rw [Array.mem_toList_iff]; exact Array.mem_of_getElem? ht)
     show Tryz.prog.wantsStandIn t = false
     simpa using this⟩)
  pathStringsGoes
#print axioms pathStrings_card
end Go.Proofs.YtdoehknomnhlkaaGreatDoor
