/- SamplePackets: the row. -/
import Derived.Test.YtinkhmfciealkaaPackets
import Derived.WalkKit
import Derived.ProofKit
import Derived.OpenShut
import Derived.JoinedCond
set_option linter.unusedSimpArgs false
namespace Go.Proofs.Ytinkhmfciealkaa
open Go.Ev Go.ChangeShapes Go.WideShapes Go.ChangeAt Go.RowKit

def shGauss : Sh := .pair (.int .i64) (.int .i64)
def shPacket : Sh := .agg (.pair (.int .i64) (.pair (.int .i64) (.pair shGauss (.pair shGauss (.pair shGauss (.pair shGauss (.pair shGauss (.pair shGauss (.pair shGauss shGauss)))))))))
def shNum : Sh := .int .i64

theorem typed3 {s1 s2 s3 : Sh} : ∀ {cs : List CV}, Typed [s1, s2, s3] cs → ∃ (x : s1.T) (y : s2.T) (z : s3.T), cs = [s1.cv x, s2.cv y, s3.cv z]
  | [_, _, _], ⟨⟨x, e1, _⟩, ⟨y, e2, _⟩, ⟨z, e3, _⟩, _⟩ => ⟨x, y, z, by rw [e1, e2, e3]⟩

theorem packetCv (x : shPacket.T) : shPacket.cv x = packet x.1 x.2.1 x.2.2.1 x.2.2.2.1 x.2.2.2.2.1 x.2.2.2.2.2.1 x.2.2.2.2.2.2.1 x.2.2.2.2.2.2.2.1 x.2.2.2.2.2.2.2.2.1 x.2.2.2.2.2.2.2.2.2 := rfl

set_option maxRecDepth 100000 in
theorem packetsLaw (cs : List CV) (h : Typed [shPacket, shNum, shNum] cs) : Meets Try.prog 3 cs saysTrue := by
  obtain ⟨x, y, z, e⟩ := typed3 h
  rw [e, packetCv]
  exact m3 _ _ y z _ _ _ _ _ _ _ _

set_option maxRecDepth 100000 in
theorem packetsLifted (os : Os) (started : os.Started) (H : Type) (enc : TypeId × Value → H) :
    ReturnsInHanded {} Try.checked os 3 .any (Rows.samplePacketsSpec.pre6 enc Try.prog Try.f3 Rows.samplePacketsRow.domain false) (Rows.samplePacketsSpec.post enc Try.prog Try.f3 false true false false) := by
  refine returnsInHanded_of_change (C := Try.checked) own started (by kernel_rfl) Try.func3
    (ChangeSpec.witness6 (enc := enc) (C := Try.checked) false ⟨#[], #[.agg (Array.replicate 18 (.int .i64 0)), .int .i64 0, .int .i64 0], []⟩ 8 (by kernel_rfl) (by kernel_rfl) (by kernel_rfl) (by kernel_rfl)) ?_
  intro W base args ds gs before hval hW _ _
  refine contract_of_law (shs := [shPacket, shNum, shNum]) (tb := 4) laid (by kernel_rfl) (by kernel_rfl) rfl (by kernel_rfl) (by kernel_rfl) rfl (fun ds h => ?_) packetsLaw hval hW
  match ds, h with
  | [_, _, _], _ => rfl

theorem samplePackets_holds : Rows.SamplePacketsSaid :=
  OpenClaim.holds_of_wide 3 Try.f3 rfl rfl rfl rfl rfl rfl rfl ⟨rfl, rfl, rfl, rfl, rfl⟩ rfl rfl rfl rfl rfl (by kernel_rfl) Try.func3 (by kernel_rfl)
    (of_decide_eq_true (by kernel_rfl)) (by unfold Func.isWrapper; first | (rw [if_pos (by decide +kernel)]; kernel_rfl) | (rw [if_neg (by decide +kernel)]; exact ⟨rfl, rfl⟩))
    (fun os started H enc _ => packetsLifted os started H enc)
#print axioms samplePackets_holds
end Go.Proofs.Ytinkhmfciealkaa
