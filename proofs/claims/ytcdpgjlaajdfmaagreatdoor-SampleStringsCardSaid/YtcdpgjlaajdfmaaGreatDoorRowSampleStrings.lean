/- SampleStrings: the statement holds for every input; condition: the package-level variables read as listed, which the card ties to the program's text. -/
import Derived.Test.YtcdpgjlaajdfmaaGreatDoorPktStr
import Derived.Test.YtcdpgjlaajdfmaaGreatDoorFacts5
import Derived.Test.YtcdpgjlaajdfmaaGreatDoorTie
import Derived.Test.YtcdpgjlaajdfmaaGreatDoorCards
import Derived.WalkKit
import Derived.ProofKit
import Derived.OpenShut
import Derived.JoinedCond
import Derived.SevenTiedAt
set_option linter.unusedSimpArgs false
namespace Go.Proofs.YtcdpgjlaajdfmaaGreatDoor
open Go.Ev Go.ChangeShapes Go.WideShapes Go.ChangeAt Go.RowKit
theorem sampleStringsLaw : ∀ cs, Typed [(.agg (.pair (.int .i64) (.pair (.int .i64) (.pair (.pair (.int .i64) (.int .i64)) (.pair (.pair (.int .i64) (.int .i64)) (.pair (.pair (.int .i64) (.int .i64)) (.pair (.pair (.int .i64) (.int .i64)) (.pair (.pair (.int .i64) (.int .i64)) (.pair (.pair (.int .i64) (.int .i64)) (.pair (.pair (.int .i64) (.int .i64)) (.pair (.int .i64) (.int .i64)))))))))))), .str] cs → Meets Tryz.prog 3 cs saysTrue := law_of_spec (shs := [(.agg (.pair (.int .i64) (.pair (.int .i64) (.pair (.pair (.int .i64) (.int .i64)) (.pair (.pair (.int .i64) (.int .i64)) (.pair (.pair (.int .i64) (.int .i64)) (.pair (.pair (.int .i64) (.int .i64)) (.pair (.pair (.int .i64) (.int .i64)) (.pair (.pair (.int .i64) (.int .i64)) (.pair (.pair (.int .i64) (.int .i64)) (.pair (.int .i64) (.int .i64)))))))))))), .str]) i3 (fun x h => strings_true x.1 x.2 (fun y hy => by
 simp only [nums, List.mem_cons, List.not_mem_nil, or_false] at hy
 rcases hy with rfl | rfl | rfl | rfl | rfl | rfl | rfl | rfl | rfl | rfl | rfl | rfl | rfl | rfl | rfl | rfl | rfl | rfl
 ·exact inI_of h.1.1
 ·exact inI_of h.1.2.1
 ·exact inI_of h.1.2.2.1.1
 ·exact inI_of h.1.2.2.1.2
 ·exact inI_of h.1.2.2.2.1.1
 ·exact inI_of h.1.2.2.2.1.2
 ·exact inI_of h.1.2.2.2.2.1.1
 ·exact inI_of h.1.2.2.2.2.1.2
 ·exact inI_of h.1.2.2.2.2.2.1.1
 ·exact inI_of h.1.2.2.2.2.2.1.2
 ·exact inI_of h.1.2.2.2.2.2.2.1.1
 ·exact inI_of h.1.2.2.2.2.2.2.1.2
 ·exact inI_of h.1.2.2.2.2.2.2.2.1.1
 ·exact inI_of h.1.2.2.2.2.2.2.2.1.2
 ·exact inI_of h.1.2.2.2.2.2.2.2.2.1.1
 ·exact inI_of h.1.2.2.2.2.2.2.2.2.1.2
 ·exact inI_of h.1.2.2.2.2.2.2.2.2.2.1
 ·exact inI_of h.1.2.2.2.2.2.2.2.2.2.2))
set_option maxRecDepth 100000 in
theorem sampleStringsLifted (os : Os) (started : os.Started) (H : Type) (enc : TypeId × Value → H) :
 ReturnsInHanded {} Tryz.checked os 3 .any (fun w args => (Rows.sampleStringsSpec.pre enc Tryz.prog Tryz.f3 Rows.sampleStringsRow.domain false w args ∧ laidMet Tryz.prog spLaid w) ∧ sizedMet enc Tryz.prog Tryz.f3 (OpenSpec.ofChange Rows.sampleStringsSpec) false w args)
  (Rows.sampleStringsSpec.post enc Tryz.prog Tryz.f3 false true false false) := by
 refine returnsShaped (C := Tryz.checked) (X := fun w _ => laidMet Tryz.prog spLaid w) (fun _ _ _ hh h => h.of_heap hh) own started (by kernel_rfl) Tryz.func3
  (ChangeSpec.witness_at (enc := enc) (C := Tryz.checked) (os := os) (X := fun w _ => laidMet Tryz.prog spLaid w) false (laidWorld os) #[.agg #[.int .i64 0, .int .i64 0, .int .i64 0, .int .i64 0, .int .i64 0, .int .i64 0, .int .i64 0, .int .i64 0, .int .i64 0, .int .i64 0, .int .i64 0, .int .i64 0, .int .i64 0, .int .i64 0, .int .i64 0, .int .i64 0, .int .i64 0, .int .i64 0], .string ByteArray.empty] 8 rfl (by kernel_rfl) (by kernel_rfl) (by kernel_rfl) (by kernel_rfl) (by kernel_rfl) (laidWorld_met os _)) ?_
 intro W base args ds gs before hval hW hsh hL
 refine contract_of_law (shs := [(.agg (.pair (.int .i64) (.pair (.int .i64) (.pair (.pair (.int .i64) (.int .i64)) (.pair (.pair (.int .i64) (.int .i64)) (.pair (.pair (.int .i64) (.int .i64)) (.pair (.pair (.int .i64) (.int .i64)) (.pair (.pair (.int .i64) (.int .i64)) (.pair (.pair (.int .i64) (.int .i64)) (.pair (.pair (.int .i64) (.int .i64)) (.pair (.int .i64) (.int .i64)))))))))))), .str]) (tb := 4) laid (by kernel_rfl) (by kernel_rfl) rfl (by kernel_rfl) (by kernel_rfl) rfl (fun ds h => ?_) sampleStringsLaw (globsOf_laid hL hsh) hval hW
 match ds, h with
 | [_, _], _ => rfl
set_option maxRecDepth 100000
theorem sampleStringsFact0 : (Rows.sampleStringsRow.wf (OpenSpec.ofChange Rows.sampleStringsSpec)) = true := by kernel_rfl
theorem sampleStringsFact1 : (laidOutB Tryz.prog) = true := laid
theorem sampleStringsFact2 : (mapsRowed Tryz.prog) = true := fMaps
theorem sampleStringsFact3 : (Tryz.f3.params.all (Tryz.prog.readableRec ·)) = true := by kernel_rfl
theorem sampleStringsFact4 : (namedTie Tryz.prog Rows.sampleStringsRow.named Rows.sampleStringsSpec.vars) = true := by kernel_rfl
theorem sampleStringsFact5 : ((Rows.sampleStringsRow.stops == [])) = true := by kernel_rfl
theorem sampleStringsFact6 : ((Tryz.prog.stops == [])) = true := by rw [fStops]; rfl
theorem sampleStringsFact7 : ((Rows.sampleStringsRow.knobs == [])) = true := by kernel_rfl
theorem sampleStringsFact8 : ((Tryz.prog.stopKnobs == [])) = true := by rw [fKnobs]; rfl
theorem sampleStringsFact9 : ((Rows.sampleStringsRow.inPlace == Tryz.prog.inPlace 3)) = true := by kernel_rfl
theorem sampleStringsFact10 : ((Rows.sampleStringsRow.unfollowed == Tryz.prog.unfollowed 3)) = true := by kernel_rfl
theorem sampleStringsFact11 : ((Rows.sampleStringsRow.recurses == Tryz.prog.recurses 3)) = true := by kernel_rfl
theorem sampleStringsFact12 : ((Rows.sampleStringsRow.named == Tryz.prog.varsNamed 3)) = true := by kernel_rfl
theorem sampleStringsFact13 : ((Rows.sampleStringsRow.maps == (Tryz.f3.params.toList ++ Rows.sampleStringsSpec.plain.varTypes Tryz.prog).any (Tryz.prog.mapsRec ·))) = true := by kernel_rfl
theorem sampleStringsFact14 : ((Rows.sampleStringsRow.ifaces == (Tryz.f3.params.toList ++ Rows.sampleStringsSpec.plain.varTypes Tryz.prog).any (Tryz.prog.ifacesRec ·))) = true := by kernel_rfl
theorem sampleStringsFact15 : ((Rows.sampleStringsRow.mapsOut == Tryz.prog.mapsAmong Tryz.f3.resultTypes.toList)) = true := by kernel_rfl
theorem sampleStringsFact16 : ((Rows.sampleStringsRow.loops == (Tryz.f3.params.toList ++ Rows.sampleStringsSpec.plain.varTypes Tryz.prog).any (Tryz.prog.loopsFrom ·))) = true := by kernel_rfl
theorem sampleStringsFact17 : ((Rows.sampleStringsRow.wideKeys == (Tryz.f3.params.toList ++ Rows.sampleStringsSpec.plain.varTypes Tryz.prog ++ Tryz.f3.resultTypes.toList).any (Tryz.prog.wideKeysFrom ·))) = true := by kernel_rfl
theorem sampleStringsFact18 : (Rows.sampleStringsSpec.vars.all (Tryz.prog.varReadable ·)) = true := by kernel_rfl
theorem sampleStringsFact19 : (Tryz.f3.resultTypes.all (fun t => Tryz.prog.readableRec t && decide (t < Tryz.prog.types.size))) = true := by kernel_rfl
theorem sampleStringsFact20 : ((Rows.sampleStringsRow.ifacesOut == Tryz.f3.resultTypes.toList.any (Tryz.prog.ifacesRec ·))) = true := by kernel_rfl
theorem sampleStringsFact21 : ((Rows.sampleStringsRow.loopsOut == Tryz.f3.resultTypes.toList.any (Tryz.prog.loopsFrom ·))) = true := by kernel_rfl
theorem sampleStringsFact22 : ((Rows.sampleStringsRow.plainKeys == Tryz.prog.plainKeys)) = true := by kernel_rfl
theorem sampleStringsFact23 : (Rows.sampleStringsRow.shortTexts.isNone) = true := by kernel_rfl
theorem sampleStringsFact24 : (Tryz.prog.stopsHeard) = true := fHeard
theorem sampleStringsFact25 : (Tryz.prog.mayEnter) = true := fEnter
theorem sampleStringsFact26 : ((Rows.sampleStringsRow.lifted == Tryz.prog.liftsFinal)) = true := by kernel_rfl
theorem sampleStringsFact27 : ((Tryz.prog.make == some Rows.sampleStringsRow.make)) = true := by kernel_rfl
theorem sampleStringsFacts : joinedFacts Tryz.prog 3 Tryz.f3 Rows.sampleStringsSpec Rows.sampleStringsRow = true := by
 unfold joinedFacts
 rw [sampleStringsFact0, sampleStringsFact1, sampleStringsFact2, sampleStringsFact3, sampleStringsFact4, sampleStringsFact5, sampleStringsFact6, sampleStringsFact7, sampleStringsFact8, sampleStringsFact9, sampleStringsFact10, sampleStringsFact11, sampleStringsFact12, sampleStringsFact13, sampleStringsFact14, sampleStringsFact15, sampleStringsFact16, sampleStringsFact17, sampleStringsFact18, sampleStringsFact19, sampleStringsFact20, sampleStringsFact21, sampleStringsFact22, sampleStringsFact23, sampleStringsFact24, sampleStringsFact25, sampleStringsFact26, sampleStringsFact27]
 kernel_rfl
theorem sampleStringsNamed : Tryz.prog.funcNamed "cassegrain/cassegrainlaw02.SampleStrings" = some 3 := by kernel_rfl
theorem sampleStrings_holds : Rows.SampleStringsSaid :=
 OpenClaim.holds_of_wide 3 Tryz.f3 rfl rfl rfl rfl rfl rfl rfl ⟨rfl, rfl, rfl, rfl, rfl⟩ rfl rfl rfl rfl rfl sampleStringsNamed Tryz.func3 sampleStringsFacts
  (of_decide_eq_true (by kernel_rfl)) (by unfold Func.isWrapper; first | (rw [if_pos (by decide +kernel)]; kernel_rfl) | (rw [if_neg (by decide +kernel)]; exact ⟨rfl, rfl⟩))
  (fun os started H enc _ => sampleStringsLifted os started H enc)
theorem sampleStringsParams : (Tryz.f3.params.toList.all fun t => !Tryz.prog.wantsStandIn t) = true := by kernel_rfl
theorem sampleStringsWf : Rows.sampleStringsRow.wfByText (OpenSpec.ofChange Rows.sampleStringsSpec) = true := by kernel_rfl
theorem sampleStringsGoes : false = Rows.sampleStringsRow.goesBy Tryz.pinned.checked.prog := by kernel_rfl
theorem sampleStrings_card : Rows.SampleStringsCardSaid :=
 Claim7.holds_tied_plain_at .later [] [.data, .data, .data, .data, .sentinel, .sentinel, .pinned] true (true, "5cecdf3dc3e5583d1b9d2917316ac0785569ac78b043339a2187ea529e59e5e0") true
  sampleStrings_holds (fun _ h => by cases h) sampleStringsWf (fun _ h => by cases h) sampleStrings_row_tie rfl ⟨rfl, rfl⟩ fMain rfl
  (fun f fn hf hfn => by
    obtain rfl : f = 3 := Option.some.inj (sampleStringsNamed.symm.trans hf) |>.symm
    obtain rfl : fn = Tryz.f3 := (Option.some.inj (Tryz.func3.symm.trans hfn)).symm
    exact ⟨fLooks, fun j t ht => by
     have := List.all_eq_true.1 sampleStringsParams t (by rw [Array.mem_toList_iff]; exact Array.mem_of_getElem? ht)
     show Tryz.prog.wantsStandIn t = false
     simpa using this⟩)
  sampleStringsGoes
#print axioms sampleStrings_card
end Go.Proofs.YtcdpgjlaajdfmaaGreatDoor
