/- What the package-level variables hold, and a world in which they hold it. -/
import Derived.Test.YtcdpgjlaajdfmaaGreatDoorSeat
import Derived.Test.YtcdpgjlaajdfmaaGreatDoorLib5
import Derived.Test.YtcdpgjlaajdfmaaGreatDoorRows
import Derived.ChangeSame
import Derived.ChangeVars
import Derived.ChangeArms
import Derived.JoinedOf
import Derived.RowKit
import Derived.Handed
import Derived.Lay
import Derived.LaidLaws
import Derived.Stop.LaidErr
import Derived.Shelf.Vars
set_option linter.unusedSimpArgs false
set_option maxRecDepth 100000
namespace Go.Proofs.YtcdpgjlaajdfmaaGreatDoor
open Go.Ev Go.ChangeShapes Go.WideShapes Go.RowKit
section
variable {H : Type} {enc : TypeId × Value → H}
theorem returnsShaped {a : Assume} {C : Checked} {os : Os} {f : FuncId} {fn : Func} {s : ChangeSpec} {conds : List PathCond} {apart fresh handsOn again : Bool} {X : World → Array Value → Prop}
 (hX : ∀ (w w' : World) (args : Array Value), w.heap = w'.heap → X w args → X w' args)
 (own : ownKnob C.prog.godebug = none) (started : os.Started) (noInit : C.prog.inits.idxOf? f = none) (hfn : C.prog.funcs[f]? = some fn)
 (witness : ∃ (w : World) (tape : Tape) (i : Input), w.os = os ∧ (w.forCall tape i).Shaped C.prog ∧ i.vars = [] ∧ Input.okWide C.prog (w.forCall tape i) .any w.heap.size f i ∧
   ((s.pre enc C.prog fn conds apart (w.forCall tape i).memory i.args ∧ X (w.forCall tape i).memory i.args) ∧ sizedMet enc C.prog fn (OpenSpec.ofChange s) apart (w.forCall tape i).memory i.args) ∧ a.holds C.prog (lone (Frame.enter C.prog f i.args .normal) [] (w.forCall tape i)))
 (contract : ∀ (W : World) (base : Nat) (args : Array Value) (ds gs : List (DataW H)) (before : List MemPlace),
   (∀ (j : Nat) t v, fn.params[j]? = some t → args[j]? = some v → Value.okWide C.prog W .any base t v) →
   DataW.Whole enc C.prog fn.params.toList s.vars apart W args.toList ds gs before →
   W.ShapedOpen C.prog → X W args →
   Calls C.prog f args W fun e W' => ∃ v, e = .returned v ∧ s.post enc C.prog fn apart fresh handsOn again W args v W') :
 ReturnsInHanded a C os f .any (fun w args => (s.pre enc C.prog fn conds apart w args ∧ X w args) ∧ sizedMet enc C.prog fn (OpenSpec.ofChange s) apart w args) (s.post enc C.prog fn apart fresh handsOn again) := by
 refine returnsInHanded_of_calls own started noInit witness ?_
 intro w tape i _ hsh _ hok hpre _
 obtain ⟨_, _, _, fn', hfn', _, _, _, _, hval⟩ := hok
 have e : fn' = fn := Option.some.inj (hfn'.symm.trans hfn)
 subst e
 obtain ⟨⟨⟨ds, gs, before, hw, _⟩, hx⟩, _⟩ := hpre
 have hw' := DataW.Whole.of_heap (w' := w.forCall tape i) (by rfl) hw
 refine (contract (w.forCall tape i) w.heap.size i.args ds gs before hval hw' hsh (hX _ _ _ (by rfl) hx)).mono fun e W' ⟨v, he, hp⟩ => ?_
 subst he
 exact ChangeSpec.post_blind hp
end
theorem glob_of {W : World} {n : String} {g : Nat} {sh : Sh} {x : sh.T} {us : List Value} (hn : Tryz.prog.globalNamed n = some g) (hv : W.var? Tryz.prog n = some us.toArray) (hr : RepT W (fun b => b < W.heap.size) sh x us) (hs : us.length = sh.size) :
 RepL W (fun b => b < W.heap.size) (fun _ => none) (fun _ => .free) (.iptr sh x 0) (.pointer (some ⟨g, 0, none⟩)) ∧ ∃ cs T fr, W.heap[g]? = some (.cells cs T fr) ∧ cs.size = sh.size := by
 unfold World.var? at hv
 rw [hn] at hv
 simp only [Option.bind_some] at hv
 split at hv
 ·rename_i cs T fr hh
  obtain rfl := Option.some.inj hv
  refine ⟨⟨g, 0, us, rfl, ?_, hr, fun j _ => ?_⟩, _, T, fr, hh, by rw [← hs]; rfl⟩
  ·show g < W.heap.size
   obtain ⟨h1, _⟩ := Array.getElem?_eq_some_iff.1 hh
   exact h1
  ·rw [Nat.zero_add]
   simp only [World.cell?, hh]
   simp
 ·cases hv
theorem pwType : (Tryz.prog.globals[2]?).map (·.type) = some 183 := by kernel_rfl
theorem pwArr : Tryz.prog.underlying 183 = some (.array 20 163) := by kernel_rfl
theorem pwInt : Tryz.prog.underlying 163 = some (.int .u64) := by kernel_rfl
theorem pwCells1 : Tryz.prog.cellsOf 163 = 1 := by kernel_rfl
theorem pwCells : Tryz.prog.cellsOf 183 = 20 := by kernel_rfl
theorem pwData : (Rows.laid_internal_strconv_uint64pow10 : DataW Unit) = Lib.tabData .u64 Lib.pow10Tab := by kernel_rfl
abbrev spLaid : List (String × DataW Unit) := [("math/bits.deBruijn32tab", Rows.laid_math_bits_deBruijn32tab), ("math/bits.deBruijn64tab", Rows.laid_math_bits_deBruijn64tab), ("internal/strconv.uint64pow10", Rows.laid_internal_strconv_uint64pow10), ("unicode/utf8.acceptRanges", Rows.laid_unicode_utf8_acceptRanges), ("strconv.ErrRange", Rows.laid_strconv_ErrRange), ("strconv.ErrSyntax", Rows.laid_strconv_ErrSyntax), ("unicode/utf8.first", Rows.laid_unicode_utf8_first)]
theorem pwRep' {w : World} {p : Nat → Prop} : ∀ (n : Nat) (a : Int), RepT w p (pwSh n) (pwT n a) (pwVals n a)
 | 0, a => by
   show RepT w p (.int .u64) a [.int .u64 a]
   simp only [RepT]
 | n + 1, a => by
   show RepT w p (.pair (.int .u64) (pwSh n)) (a, pwT n (a * 10)) (.int .u64 a :: pwVals n (a * 10))
   simp only [RepT]
   exact ⟨[.int .u64 a], pwVals n (a * 10), rfl, rfl, pwRep' n (a * 10)⟩
theorem errStar : "*" ++ "errors.errorString" = "*errors.errorString" := by decide
theorem errRow (u : TypeId) (h : Tryz.prog.typeName? 3 u = some "*errors.errorString") : u = 189 :=
 typeName_ptr_named (nm := "errors.errorString") (by rw [errStar]; kernel_rfl) (by kernel_rfl) (by decide) u (by rw [errStar]; exact h)
theorem synName : Tryz.prog.globalNamed "strconv.ErrSyntax" = some 0 := by kernel_rfl
theorem synType : (Tryz.prog.globals[0]?).map (·.type) = some 89 := by kernel_rfl
theorem rngName : Tryz.prog.globalNamed "strconv.ErrRange" = some 1 := by kernel_rfl
theorem rngType : (Tryz.prog.globals[1]?).map (·.type) = some 89 := by kernel_rfl
theorem errIface : Tryz.prog.underlying 89 = some (.interface #[("Error", 133)]) := by kernel_rfl
theorem errPtr : Tryz.prog.underlying 189 = some (.pointer 191) := by kernel_rfl
theorem errStruct : ∃ f, Tryz.prog.underlying 191 = some (.struct #[f]) ∧ f.type = 9 ∧ f.offset = 0 := ⟨_, Tryz.underlying191, rfl, rfl⟩
theorem errStr : Tryz.prog.underlying 9 = some .string := by kernel_rfl
theorem errCells : Tryz.prog.cellsOf 191 = 1 := by kernel_rfl
theorem strCells : Tryz.prog.cellsOf 9 = 1 := by kernel_rfl
theorem errRep {w : World} {p : Nat → Prop} (t : TypeId) (v : Value) : RepT w p .err true [.iface t v] := by
 simp only [RepT]
 exact ⟨.iface t v, rfl, t, v, rfl⟩
theorem globsOf_laid {W : World} (h : laidMet Tryz.prog spLaid W) (hsh : W.ShapedOpen Tryz.prog) : GlobsOk W fun b => b < W.heap.size := by
 obtain ⟨f, hf1, hf2, hf3⟩ := errStruct
 have hp : W.var? Tryz.prog "internal/strconv.uint64pow10" = some (pwVals 19 1).toArray := by
  have h1 : laidMet Tryz.prog (("internal/strconv.uint64pow10", Rows.laid_internal_strconv_uint64pow10) :: spLaid.drop 3) W := h.tail.tail
  rw [pwData] at h1
  have ht := Lib.tabIs_of_head pwName pwType pwArr pwInt pwCells1 pwCells h1
  exact ht
 obtain ⟨ar, _, hr, _, _, _⟩ := laid_sentinel h.tail.tail.tail.tail rngName rngType errIface errRow errPtr hf1 hf2 hf3 errStr errCells strCells
 obtain ⟨ay, _, hs, _, _, _⟩ := laid_sentinel h.tail.tail.tail.tail.tail synName synType errIface errRow errPtr hf1 hf2 hf3 errStr errCells strCells
 refine ⟨fun g sh x hg => ?_, fun g hg => ?_⟩
 ·skip
  cases hb0 : Nat.beq g 2 with
  | true =>
    obtain rfl := Nat.eq_of_beq_eq_true hb0
    have e := Option.some.inj ((show globs 2 = some ⟨pwSh 19, pwT 19 1⟩ by kernel_rfl).symm.trans hg)
    cases e
    exact glob_of pwName hp (pwRep' 19 1) rfl
  | false =>
  cases hb1 : Nat.beq g 0 with
  | true =>
    obtain rfl := Nat.eq_of_beq_eq_true hb1
    have e := Option.some.inj ((show globs 0 = some ⟨.err, true⟩ by kernel_rfl).symm.trans hg)
    cases e
    exact glob_of synName hs (errRep _ _) rfl
  | false =>
  cases hb2 : Nat.beq g 1 with
  | true =>
    obtain rfl := Nat.eq_of_beq_eq_true hb2
    have e := Option.some.inj ((show globs 1 = some ⟨.err, true⟩ by kernel_rfl).symm.trans hg)
    cases e
    exact glob_of rngName hr (errRep _ _) rfl
  | false =>
  unfold globs at hg
  simp only [hb0, hb1, hb2, cond_false, reduceCtorEq] at hg
 ·obtain rfl : 3 = g := (Nat.eq_of_beq_eq_true hg).symm
  obtain ⟨m, hm⟩ := cell_of_shapedOpen_int (g := 3) (zero := #[.int .i64 0]) hsh (of_decide_eq_true (by kernel_rfl)) (by kernel_rfl) rfl (by kernel_rfl) (by kernel_rfl) Tryz.underlying3
  refine ⟨?_, m, hm⟩
  show 3 < W.heap.size
  unfold World.cell? at hm
  split at hm
  ·rename_i hh
   obtain ⟨h1, _⟩ := Array.getElem?_eq_some_iff.1 hh
   exact h1
  ·cases hm
noncomputable def laidWorld (os : Os) : World := World.laidAll Tryz.prog os spLaid
theorem laidWorld_met (os : Os) (args : Array Value) : laidMet Tryz.prog spLaid ((laidWorld os).forCall (fun _ _ => 0) ⟨#[], args, []⟩).memory :=
 laidMet_laidAll args (by kernel_rfl) (by kernel_rfl)
end Go.Proofs.YtcdpgjlaajdfmaaGreatDoor
