/- What the package-level variable holds, and a world in which it holds it. -/
import Derived.Test.YtdoehknomnhlkaaDoorSeat
import Derived.Test.YtdoehknomnhlkaaDoorRows
import Derived.ChangeSame
import Derived.ChangeVars
import Derived.ChangeArms
import Derived.JoinedOf
import Derived.RowKit
import Derived.Handed
import Derived.Lay
import Derived.LaidLaws
set_option maxRecDepth 100000
set_option linter.unusedSimpArgs false
namespace Go.Proofs.YtdoehknomnhlkaaDoor
open Go.Ev Go.ChangeShapes Go.WideShapes Go.RowKit
theorem spName : Tryd.prog.globalNamed "cassegrain/ranging.speeds" = some 0 := by kernel_rfl
theorem spType : (Tryd.prog.globals[0]?).map (·.type) = some 112 := by kernel_rfl
theorem spCells : Tryd.prog.cellsOf 112 = 4 := by kernel_rfl
theorem spCells1 : Tryd.prog.cellsOf 87 = 2 := by kernel_rfl
theorem spCells3 : Tryd.prog.cellsOf 3 = 1 := by kernel_rfl
theorem sp_int {H : Type} {enc : TypeId × Value → H} {P : Program} {w : World} {base : Nat} {sp : Nat → Bool} {held : Bool} {fuel : Nat} {t : TypeId} {k : IntKind} {c : Value} {y : DataW H × List MemPlace}
 (ht : P.underlying t = some (.int k)) (h : DataW.trod enc P w base sp held fuel t [c] = some y) : ∃ n, c = .int k n ∧ y = (.lit (.int k n), []) := by
 cases fuel with
 | zero => simp [DataW.trod] at h
 | succ fuel =>
   cases c <;> simp [DataW.trod, ht] at h
   rename_i k' n
   obtain ⟨⟨rfl, _⟩, rfl⟩ := h
   exact ⟨n, rfl, rfl⟩
theorem sp_vec {H : Type} {enc : TypeId × Value → H} {w : World} {base : Nat} {sp : Nat → Bool} {held : Bool} {fuel : Nat} {c d : Value} {y : DataW H × List MemPlace}
 (h : DataW.trod enc Tryd.prog w base sp held fuel 87 [c, d] = some y) : ∃ m n, c = .int .i64 m ∧ d = .int .i64 n ∧ y = (.agg [.lit (.int .i64 m), .lit (.int .i64 n)], []) := by
 obtain ⟨y0, y1, n, rfl, hl, h0, h1⟩ := trod_struct2 Tryd.underlying87 h
 rw [show Tryd.prog.cellsOf 3 = 1 from spCells3] at h0 h1
 obtain ⟨a, rfl, rfl⟩ := sp_int Tryd.underlying3 h0
 obtain ⟨b, rfl, rfl⟩ := sp_int Tryd.underlying3 h1
 exact ⟨a, b, rfl, rfl, rfl⟩
def spArray : Array Value := #[.int .i64 0, .int .i64 (-1), .int .i64 0, .int .i64 1]
abbrev spLaid : List (String × DataW Unit) := [("cassegrain/ranging.speeds", Rows.laid_cassegrain_ranging_speeds)]
theorem spOf_laid {W : World} (h : laidMet Tryd.prog spLaid W) : W.var? Tryd.prog "cassegrain/ranging.speeds" = some spArray := by
 obtain ⟨ps, ⟨g, t, cs, fuel, p, q, hg, ht, hvar, hd, _, _⟩, _⟩ := h
 obtain rfl := Option.some.inj (spName.symm.trans hg)
 obtain rfl := Option.some.inj (spType.symm.trans ht)
 rw [hvar]
 congr 1
 obtain ⟨l⟩ := cs
 cases fuel with
 | zero => simp [DataW.trod] at hd
 | succ fuel =>
   simp only [DataW.trod, Tryd.underlying112, spCells, spCells1] at hd
   split at hd
   ·rename_i hl
    obtain ⟨c0, c1, c2, c3, rfl⟩ : ∃ c0 c1 c2 c3, l = [c0, c1, c2, c3] := by
     match l, hl with
     | [a, b, c, d], _ => exact ⟨a, b, c, d, rfl⟩
    have e : List.range 2 = [0, 1] := rfl
    rw [e] at hd
    simp only [Option.map_eq_some_iff, List.mapM_cons, List.mapM_nil, Option.bind_eq_bind, Option.bind_eq_some_iff, Option.pure_def, Option.some.injEq] at hd
    obtain ⟨xs, ⟨y0, h0, _, ⟨y1, h1, _, rfl, rfl⟩, rfl⟩, hx⟩ := hd
    obtain ⟨m0, n0, rfl, rfl, rfl⟩ := sp_vec h0
    obtain ⟨m1, n1, rfl, rfl, rfl⟩ := sp_vec h1
    simp [Rows.laid_cassegrain_ranging_speeds] at hx
    obtain ⟨⟨⟨rfl, rfl⟩, rfl, rfl⟩, _⟩ := hx
    rfl
   ·cases hd
theorem glob_of {W : World} {n : String} {g : Nat} {sh : Sh} {x : sh.T} {us : List Value} (hn : Tryd.prog.globalNamed n = some g) (hv : W.var? Tryd.prog n = some us.toArray) (hr : RepT W (fun b => b < W.heap.size) sh x us) (hs : us.length = sh.size) :
 RepL W (fun b => b < W.heap.size) (fun _ => none) (fun _ => .free) (.iptr sh x 0) (.pointer (some ⟨g, 0, none⟩)) ∧ ∃ cs T fr, W.heap[g]? = some (.cells cs T fr) ∧ cs.size = sh.size := by
 unfold World.var? at hv
 rw [hn] at hv
 simp only [Option.bind_some] at hv
 split at hv
 ·rename_i cs T fr hh
  obtain rfl := Option.some.inj hv
  refine ⟨⟨g, 0, us, rfl, ?_, hr, fun j _ => ?_⟩, _, T, fr, hh, by rw [← hs]; rfl⟩
  ·show g < W.heap.size
   obtain ⟨h1, _⟩ := Array.getElem?_eq_some_iff.1 hh
   exact h1
  ·rw [Nat.zero_add]
   simp only [World.cell?, hh]
   simp
 ·cases hv
theorem globsOf_laid {W : World} (h : laidMet Tryd.prog spLaid W) : GlobsOk W fun b => b < W.heap.size := by
 have hsp := spOf_laid h
 refine ⟨fun g sh x hg => ?_, fun g hg => ?_⟩
 ·cases hb3 : Nat.beq g 0 with
  | true =>
    obtain rfl := Nat.eq_of_beq_eq_true hb3
    have e := Option.some.inj ((show globs 0 = some ⟨.pair (.int .i64) (.pair (.int .i64) (.pair (.int .i64) (.int .i64))), ((0 : Int), (-1 : Int), (0 : Int), (1 : Int))⟩ by kernel_rfl).symm.trans hg)
    cases e
    exact glob_of spName hsp ⟨[.int .i64 0], [.int .i64 (-1), .int .i64 0, .int .i64 1], rfl, rfl, [.int .i64 (-1)], [.int .i64 0, .int .i64 1], rfl, rfl, [.int .i64 0], [.int .i64 1], rfl, rfl, rfl⟩ rfl
  | false =>
  unfold globs at hg
  simp only [hb3, cond_false, reduceCtorEq] at hg
 ·cases hg
noncomputable def laidWorld (os : Os) : World :=
 { World.holding Tryd.prog os ⟨#[], #[], []⟩ with heap := (World.holding Tryd.prog os ⟨#[], #[], []⟩).heap.modify 0 fun
    | .cells _ t frozen => .cells spArray t frozen
    | o => o }
theorem laidWorld_row (os : Os) (args : Array Value) : ((laidWorld os).forCall (fun _ _ => 0) ⟨#[], args, []⟩).memory.heap[0]? = some (.cells spArray 112 (0, 0)) := by kernel_rfl
set_option maxRecDepth 100000 in
theorem laidWorld_met (os : Os) (args : Array Value) : laidMet Tryd.prog spLaid ((laidWorld os).forCall (fun _ _ => 0) ⟨#[], args, []⟩).memory :=
 ⟨_, ⟨0, 112, spArray, 8, [], [], by kernel_rfl, by kernel_rfl, by kernel_rfl, by kernel_rfl, rfl, rfl⟩, by decide, fun b off h => by
   have h' : MemPlace.cell b off ∈ [MemPlace.cell 0 0, .cell 0 1, .cell 0 2, .cell 0 3] := h
   have hb : b = 0 := by
    simp at h'
    omega
   subst hb
   refine ⟨⟨_, _, laidWorld_row os args⟩, fun u v hc => ?_⟩
   simp only [World.cell?, laidWorld_row os args] at hc
   simp at h'
   rcases h' with rfl | rfl | rfl | rfl <;> simp [spArray] at hc⟩
end Go.Proofs.YtdoehknomnhlkaaDoor
