/- What the package-level variables hold, and a world in which they hold it. -/
import Derived.Test.YthckjfbhdjjnkaaDoorSeat
import Derived.Test.YthckjfbhdjjnkaaDoorLib4
import Derived.Test.YthckjfbhdjjnkaaDoorRows
import Derived.ChangeSame
import Derived.ChangeVars
import Derived.ChangeArms
import Derived.JoinedOf
import Derived.RowKit
import Derived.Lay
import Derived.Stop.LaidErr
set_option linter.unusedSimpArgs false
set_option maxRecDepth 100000
namespace Go.Proofs.YthckjfbhdjjnkaaDoor
open Go.Ev Go.ChangeShapes Go.WideShapes Go.RowKit
theorem pwType : (Tryd.prog.globals[0]?).map (·.type) = some 192 := by kernel_rfl
theorem pwArr : Tryd.prog.underlying 192 = some (.array 20 175) := by kernel_rfl
theorem pwInt : Tryd.prog.underlying 175 = some (.int .u64) := by kernel_rfl
theorem pwCells1 : Tryd.prog.cellsOf 175 = 1 := by kernel_rfl
theorem pwCells : Tryd.prog.cellsOf 192 = 20 := by kernel_rfl
abbrev spLaid : List (String × DataW Unit) := [("math/bits.deBruijn32tab", Rows.laid_math_bits_deBruijn32tab), ("math/bits.deBruijn64tab", Rows.laid_math_bits_deBruijn64tab), ("internal/strconv.uint64pow10", Rows.laid_internal_strconv_uint64pow10)]
theorem pwData : (Rows.laid_internal_strconv_uint64pow10 : DataW Unit) = Lib.tabData .u64 Lib.pow10Tab := by kernel_rfl
theorem pwRep' {w : World} {p : Nat → Prop} : ∀ (n : Nat) (a : Int), RepT w p (pwSh n) (pwT n a) (pwVals n a)
 | 0, a => by
   show RepT w p (.int .u64) a [.int .u64 a]
   simp only [RepT]
 | n + 1, a => by
   show RepT w p (.pair (.int .u64) (pwSh n)) (a, pwT n (a * 10)) (.int .u64 a :: pwVals n (a * 10))
   simp only [RepT]
   exact ⟨[.int .u64 a], pwVals n (a * 10), rfl, rfl, pwRep' n (a * 10)⟩
theorem globsOf_laid {W : World} (h : laidMet Tryd.prog spLaid W) : GlobsOk W fun b => b < W.heap.size := by
 refine ⟨fun g sh x hg => ?_, fun g hg => by simp [globI] at hg⟩
 have h1 : laidMet Tryd.prog [("internal/strconv.uint64pow10", Lib.tabData .u64 Lib.pow10Tab)] W := by rw [← pwData]; exact h.tail.tail
 have ht := Lib.tabIs_of_head pwName pwType pwArr pwInt pwCells1 pwCells h1
 have hg0 : globs 0 = some ⟨pwSh 19, pwT 19 1⟩ := by kernel_rfl
 unfold Lib.TabIs World.var? at ht
 rw [pwName] at ht
 simp only [Option.bind_some] at ht
 split at ht
 ·rename_i cs T fr hh
  have ht := Option.some.inj ht
  obtain rfl : g = 0 := by
   unfold globs at hg
   cases hb : Nat.beq g 0 with
   | false => rw [hb] at hg; cases hg
   | true => exact Nat.eq_of_beq_eq_true hb
  have e := Option.some.inj (hg0.symm.trans hg)
  cases e
  have hcs : cs = (pwVals 19 1).toArray := by rw [ht]; rfl
  refine ⟨⟨0, 0, pwVals 19 1, rfl, ?_, pwRep' 19 1, fun j _ => ?_⟩, cs, T, fr, hh, by rw [hcs]; rfl⟩
  ·rcases Nat.eq_zero_or_pos W.heap.size with h | h
   ·rw [Array.getElem?_eq_none (by omega)] at hh; cases hh
   ·exact h
  ·rw [Nat.zero_add]
   simp only [World.cell?, hh, hcs]
   simp
 ·cases ht
noncomputable def laidWorld (os : Os) : World := World.laidAll Tryd.prog os spLaid
theorem laidWorld_met (os : Os) (args : Array Value) : laidMet Tryd.prog spLaid ((laidWorld os).forCall (fun _ _ => 0) ⟨#[], args, []⟩).memory :=
 laidMet_laidAll args (by kernel_rfl) (by kernel_rfl)
end Go.Proofs.YthckjfbhdjjnkaaDoor
