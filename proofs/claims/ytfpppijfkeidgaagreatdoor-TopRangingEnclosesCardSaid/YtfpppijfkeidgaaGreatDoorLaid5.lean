/- What the package-level variables hold, and a world in which they hold it. -/
import Derived.Test.YtfpppijfkeidgaaGreatDoorSeat
import Derived.Test.YtfpppijfkeidgaaGreatDoorLib5
import Derived.Test.YtfpppijfkeidgaaGreatDoorRows
import Derived.ChangeSame
import Derived.ChangeVars
import Derived.ChangeArms
import Derived.JoinedOf
import Derived.RowKit
import Derived.Handed
import Derived.Lay
import Derived.LaidLaws
import Derived.Stop.LaidErr
import Derived.Shelf.Vars
set_option linter.unusedSimpArgs false
set_option maxRecDepth 100000
namespace Go.Proofs.YtfpppijfkeidgaaGreatDoor
open Go.Ev Go.ChangeShapes Go.WideShapes Go.RowKit
section
variable {H : Type} {enc : TypeId × Value → H}
theorem returnsShaped {a : Assume} {C : Checked} {os : Os} {f : FuncId} {fn : Func} {s : ChangeSpec} {conds : List PathCond} {apart fresh handsOn again : Bool} {X : World → Array Value → Prop}
 (hX : ∀ (w w' : World) (args : Array Value), w.heap = w'.heap → X w args → X w' args)
 (own : ownKnob C.prog.godebug = none) (started : os.Started) (noInit : C.prog.inits.idxOf? f = none) (hfn : C.prog.funcs[f]? = some fn)
 (witness : ∃ (w : World) (tape : Tape) (i : Input), w.os = os ∧ (w.forCall tape i).Shaped C.prog ∧ i.vars = [] ∧ Input.okWide C.prog (w.forCall tape i) .any w.heap.size f i ∧
   ((s.pre enc C.prog fn conds apart (w.forCall tape i).memory i.args ∧ X (w.forCall tape i).memory i.args) ∧ sizedMet enc C.prog fn (OpenSpec.ofChange s) apart (w.forCall tape i).memory i.args) ∧ a.holds C.prog (lone (Frame.enter C.prog f i.args .normal) [] (w.forCall tape i)))
 (contract : ∀ (W : World) (base : Nat) (args : Array Value) (ds gs : List (DataW H)) (before : List MemPlace),
   (∀ (j : Nat) t v, fn.params[j]? = some t → args[j]? = some v → Value.okWide C.prog W .any base t v) →
   DataW.Whole enc C.prog fn.params.toList s.vars apart W args.toList ds gs before →
   W.ShapedOpen C.prog → X W args →
   Calls C.prog f args W fun e W' => ∃ v, e = .returned v ∧ s.post enc C.prog fn apart fresh handsOn again W args v W') :
 ReturnsInHanded a C os f .any (fun w args => (s.pre enc C.prog fn conds apart w args ∧ X w args) ∧ sizedMet enc C.prog fn (OpenSpec.ofChange s) apart w args) (s.post enc C.prog fn apart fresh handsOn again) := by
 refine returnsInHanded_of_calls own started noInit witness ?_
 intro w tape i _ hsh _ hok hpre _
 obtain ⟨_, _, _, fn', hfn', _, _, _, _, hval⟩ := hok
 have e : fn' = fn := Option.some.inj (hfn'.symm.trans hfn)
 subst e
 obtain ⟨⟨⟨ds, gs, before, hw, _⟩, hx⟩, _⟩ := hpre
 have hw' := DataW.Whole.of_heap (w' := w.forCall tape i) (by rfl) hw
 refine (contract (w.forCall tape i) w.heap.size i.args ds gs before hval hw' hsh (hX _ _ _ (by rfl) hx)).mono fun e W' ⟨v, he, hp⟩ => ?_
 subst he
 exact ChangeSpec.post_blind hp
end
theorem glob_of {W : World} {n : String} {g : Nat} {sh : Sh} {x : sh.T} {us : List Value} (hn : Tryz.prog.globalNamed n = some g) (hv : W.var? Tryz.prog n = some us.toArray) (hr : RepT W (fun b => b < W.heap.size) sh x us) (hs : us.length = sh.size) :
 RepL W (fun b => b < W.heap.size) (fun _ => none) (fun _ => .free) (.iptr sh x 0) (.pointer (some ⟨g, 0, none⟩)) ∧ ∃ cs T fr, W.heap[g]? = some (.cells cs T fr) ∧ cs.size = sh.size := by
 unfold World.var? at hv
 rw [hn] at hv
 simp only [Option.bind_some] at hv
 split at hv
 ·rename_i cs T fr hh
  obtain rfl := Option.some.inj hv
  refine ⟨⟨g, 0, us, rfl, ?_, hr, fun j _ => ?_⟩, _, T, fr, hh, by rw [← hs]; rfl⟩
  ·show g < W.heap.size
   obtain ⟨h1, _⟩ := Array.getElem?_eq_some_iff.1 hh
   exact h1
  ·rw [Nat.zero_add]
   simp only [World.cell?, hh]
   simp
 ·cases hv
theorem pwType : (Tryz.prog.globals[5]?).map (·.type) = some 210 := by kernel_rfl
theorem pwArr : Tryz.prog.underlying 210 = some (.array 20 154) := by kernel_rfl
theorem pwInt : Tryz.prog.underlying 154 = some (.int .u64) := by kernel_rfl
theorem pwCells1 : Tryz.prog.cellsOf 154 = 1 := by kernel_rfl
theorem pwCells : Tryz.prog.cellsOf 210 = 20 := by kernel_rfl
theorem pwData : (Rows.laid_internal_strconv_uint64pow10 : DataW Unit) = Lib.tabData .u64 Lib.pow10Tab := by kernel_rfl
abbrev spLaid : List (String × DataW Unit) := [("math/bits.deBruijn32tab", Rows.laid_math_bits_deBruijn32tab), ("math/bits.deBruijn64tab", Rows.laid_math_bits_deBruijn64tab), ("internal/strconv.uint64pow10", Rows.laid_internal_strconv_uint64pow10), ("unicode/utf8.acceptRanges", Rows.laid_unicode_utf8_acceptRanges), ("strconv.ErrRange", Rows.laid_strconv_ErrRange), ("strconv.ErrSyntax", Rows.laid_strconv_ErrSyntax), ("cassegrain/ranging.speeds", Rows.laid_cassegrain_ranging_speeds), ("cassegrain/ranging.words", Rows.laid_cassegrain_ranging_words), ("unicode/utf8.first", Rows.laid_unicode_utf8_first)]
theorem pwRep' {w : World} {p : Nat → Prop} : ∀ (n : Nat) (a : Int), RepT w p (pwSh n) (pwT n a) (pwVals n a)
 | 0, a => by
   show RepT w p (.int .u64) a [.int .u64 a]
   simp only [RepT]
 | n + 1, a => by
   show RepT w p (.pair (.int .u64) (pwSh n)) (a, pwT n (a * 10)) (.int .u64 a :: pwVals n (a * 10))
   simp only [RepT]
   exact ⟨[.int .u64 a], pwVals n (a * 10), rfl, rfl, pwRep' n (a * 10)⟩
theorem errStar : "*" ++ "errors.errorString" = "*errors.errorString" := by decide
theorem errRow (u : TypeId) (h : Tryz.prog.typeName? 3 u = some "*errors.errorString") : u = 206 :=
 typeName_ptr_named (nm := "errors.errorString") (by rw [errStar]; kernel_rfl) (by kernel_rfl) (by decide) u (by rw [errStar]; exact h)
theorem synName : Tryz.prog.globalNamed "strconv.ErrSyntax" = some 3 := by kernel_rfl
theorem synType : (Tryz.prog.globals[3]?).map (·.type) = some 138 := by kernel_rfl
theorem rngName : Tryz.prog.globalNamed "strconv.ErrRange" = some 4 := by kernel_rfl
theorem rngType : (Tryz.prog.globals[4]?).map (·.type) = some 138 := by kernel_rfl
theorem errIface : Tryz.prog.underlying 138 = some (.interface #[("Error", 167)]) := by kernel_rfl
theorem errPtr : Tryz.prog.underlying 206 = some (.pointer 208) := by kernel_rfl
theorem errStruct : ∃ f, Tryz.prog.underlying 208 = some (.struct #[f]) ∧ f.type = 9 ∧ f.offset = 0 := ⟨_, Tryz.underlying208, rfl, rfl⟩
theorem errStr : Tryz.prog.underlying 9 = some .string := by kernel_rfl
theorem errCells : Tryz.prog.cellsOf 208 = 1 := by kernel_rfl
theorem strCells : Tryz.prog.cellsOf 9 = 1 := by kernel_rfl
theorem errRep {w : World} {p : Nat → Prop} (t : TypeId) (v : Value) : RepT w p .err true [.iface t v] := by
 simp only [RepT]
 exact ⟨.iface t v, rfl, t, v, rfl⟩
theorem spName : Tryz.prog.globalNamed "cassegrain/ranging.speeds" = some 1 := by kernel_rfl
theorem spType : (Tryz.prog.globals[1]?).map (·.type) = some 106 := by kernel_rfl
theorem spCells : Tryz.prog.cellsOf 106 = 4 := by kernel_rfl
theorem spCells1 : Tryz.prog.cellsOf 105 = 2 := by kernel_rfl
theorem spCells3 : Tryz.prog.cellsOf 3 = 1 := by kernel_rfl
theorem sp_int {H : Type} {enc : TypeId × Value → H} {P : Program} {w : World} {base : Nat} {sp : Nat → Bool} {held : Bool} {fuel : Nat} {t : TypeId} {k : IntKind} {c : Value} {y : DataW H × List MemPlace}
 (ht : P.underlying t = some (.int k)) (h : DataW.trod enc P w base sp held fuel t [c] = some y) : ∃ n, c = .int k n ∧ y = (.lit (.int k n), []) := by
 cases fuel with
 | zero => simp [DataW.trod] at h
 | succ fuel =>
   cases c <;> simp [DataW.trod, ht] at h
   rename_i k' n
   obtain ⟨⟨rfl, _⟩, rfl⟩ := h
   exact ⟨n, rfl, rfl⟩
theorem sp_vec {H : Type} {enc : TypeId × Value → H} {w : World} {base : Nat} {sp : Nat → Bool} {held : Bool} {fuel : Nat} {c d : Value} {y : DataW H × List MemPlace}
 (h : DataW.trod enc Tryz.prog w base sp held fuel 105 [c, d] = some y) : ∃ m n, c = .int .i64 m ∧ d = .int .i64 n ∧ y = (.agg [.lit (.int .i64 m), .lit (.int .i64 n)], []) := by
 obtain ⟨y0, y1, n, rfl, hl, h0, h1⟩ := trod_struct2 Tryz.underlying105 h
 rw [show Tryz.prog.cellsOf 3 = 1 from spCells3] at h0 h1
 obtain ⟨a, rfl, rfl⟩ := sp_int Tryz.underlying3 h0
 obtain ⟨b, rfl, rfl⟩ := sp_int Tryz.underlying3 h1
 exact ⟨a, b, rfl, rfl, rfl⟩
def spArray : Array Value := #[.int .i64 0, .int .i64 (-1), .int .i64 0, .int .i64 1]
theorem spOf_laid {W : World} {rest : List (String × DataW Unit)} (h : laidMet Tryz.prog (("cassegrain/ranging.speeds", Rows.laid_cassegrain_ranging_speeds) :: rest) W) : W.var? Tryz.prog "cassegrain/ranging.speeds" = some spArray := by
 obtain ⟨ps, ⟨g, t, cs, fuel, p, q, hg, ht, hvar, hd, _, _⟩, _⟩ := h
 obtain rfl := Option.some.inj (spName.symm.trans hg)
 obtain rfl := Option.some.inj (spType.symm.trans ht)
 rw [hvar]
 congr 1
 obtain ⟨l⟩ := cs
 cases fuel with
 | zero => simp [DataW.trod] at hd
 | succ fuel =>
   simp only [DataW.trod, Tryz.underlying106, spCells, spCells1] at hd
   split at hd
   ·rename_i hl
    obtain ⟨c0, c1, c2, c3, rfl⟩ : ∃ c0 c1 c2 c3, l = [c0, c1, c2, c3] := by
     match l, hl with
     | [a, b, c, d], _ => exact ⟨a, b, c, d, rfl⟩
    have e : List.range 2 = [0, 1] := rfl
    rw [e] at hd
    simp only [Option.map_eq_some_iff, List.mapM_cons, List.mapM_nil, Option.bind_eq_bind, Option.bind_eq_some_iff, Option.pure_def, Option.some.injEq] at hd
    obtain ⟨xs, ⟨y0, h0, _, ⟨y1, h1, _, rfl, rfl⟩, rfl⟩, hx⟩ := hd
    obtain ⟨m0, n0, rfl, rfl, rfl⟩ := sp_vec h0
    obtain ⟨m1, n1, rfl, rfl, rfl⟩ := sp_vec h1
    simp [Rows.laid_cassegrain_ranging_speeds] at hx
    obtain ⟨⟨⟨rfl, rfl⟩, rfl, rfl⟩, _⟩ := hx
    rfl
   ·cases hd
theorem wdName : Tryz.prog.globalNamed "cassegrain/ranging.words" = some 0 := by kernel_rfl
theorem wdType : (Tryz.prog.globals[0]?).map (·.type) = some 91 := by kernel_rfl
theorem wdArr : Tryz.prog.underlying 91 = some (.array 2 9) := by kernel_rfl
theorem wdCells : Tryz.prog.cellsOf 91 = 2 := by kernel_rfl
theorem wd_str {H : Type} {enc : TypeId × Value → H} {P : Program} {w : World} {base : Nat} {sp : Nat → Bool} {held : Bool} {fuel : Nat} {t : TypeId} {c : Value} {y : DataW H × List MemPlace}
 (ht : P.underlying t = some .string) (h : DataW.trod enc P w base sp held fuel t [c] = some y) : ∃ b, c = .string b ∧ y = (.lit (.string b.data.toList), []) := by
 cases fuel with
 | zero => simp [DataW.trod] at h
 | succ fuel =>
   cases c <;> simp [DataW.trod, ht] at h
   rename_i b
   obtain ⟨_, rfl⟩ := h
   exact ⟨b, rfl, rfl⟩
def wdArray : Array Value := #[.string (ByteArray.mk #[97, 116]), .string (ByteArray.mk #[102, 114, 111, 109])]
theorem wdOf_laid {W : World} {rest : List (String × DataW Unit)} (h : laidMet Tryz.prog (("cassegrain/ranging.words", Rows.laid_cassegrain_ranging_words) :: rest) W) : W.var? Tryz.prog "cassegrain/ranging.words" = some wdArray := by
 obtain ⟨ps, ⟨g, t, cs, fuel, p, q, hg, ht, hvar, hd, _, _⟩, _⟩ := h
 obtain rfl := Option.some.inj (wdName.symm.trans hg)
 obtain rfl := Option.some.inj (wdType.symm.trans ht)
 rw [hvar]
 congr 1
 obtain ⟨l⟩ := cs
 cases fuel with
 | zero => simp [DataW.trod] at hd
 | succ fuel =>
   simp only [DataW.trod, wdArr, wdCells, strCells] at hd
   split at hd
   ·rename_i hl
    obtain ⟨c0, c1, rfl⟩ : ∃ c0 c1, l = [c0, c1] := by
     match l, hl with
     | [a, b], _ => exact ⟨a, b, rfl⟩
    have e : List.range 2 = [0, 1] := rfl
    rw [e] at hd
    simp only [Option.map_eq_some_iff, List.mapM_cons, List.mapM_nil, Option.bind_eq_bind, Option.bind_eq_some_iff, Option.pure_def, Option.some.injEq] at hd
    obtain ⟨xs, ⟨y0, h0, _, ⟨y1, h1, _, rfl, rfl⟩, rfl⟩, hx⟩ := hd
    obtain ⟨s0, rfl, rfl⟩ := wd_str errStr h0
    obtain ⟨s1, rfl, rfl⟩ := wd_str errStr h1
    simp [Rows.laid_cassegrain_ranging_words] at hx
    obtain ⟨⟨e0, e1⟩, _⟩ := hx
    have q0 : s0 = ByteArray.mk #[97, 116] := str_ext e0
    have q1 : s1 = ByteArray.mk #[102, 114, 111, 109] := str_ext e1
    rw [q0, q1]
    rfl
   ·cases hd
theorem globsOf_laid {W : World} (h : laidMet Tryz.prog spLaid W) (hsh : W.ShapedOpen Tryz.prog) : GlobsOk W fun b => b < W.heap.size := by
 obtain ⟨f, hf1, hf2, hf3⟩ := errStruct
 have hp : W.var? Tryz.prog "internal/strconv.uint64pow10" = some (pwVals 19 1).toArray := by
  have h1 : laidMet Tryz.prog (("internal/strconv.uint64pow10", Rows.laid_internal_strconv_uint64pow10) :: spLaid.drop 3) W := h.tail.tail
  rw [pwData] at h1
  have ht := Lib.tabIs_of_head pwName pwType pwArr pwInt pwCells1 pwCells h1
  exact ht
 obtain ⟨ar, _, hr, _, _, _⟩ := laid_sentinel h.tail.tail.tail.tail rngName rngType errIface errRow errPtr hf1 hf2 hf3 errStr errCells strCells
 obtain ⟨ay, _, hs, _, _, _⟩ := laid_sentinel h.tail.tail.tail.tail.tail synName synType errIface errRow errPtr hf1 hf2 hf3 errStr errCells strCells
 have hsp := spOf_laid h.tail.tail.tail.tail.tail.tail
 have hwd := wdOf_laid h.tail.tail.tail.tail.tail.tail.tail
 refine ⟨fun g sh x hg => ?_, fun g hg => ?_⟩
 ·skip
  cases hb0 : Nat.beq g 5 with
  | true =>
    obtain rfl := Nat.eq_of_beq_eq_true hb0
    have e := Option.some.inj ((show globs 5 = some ⟨pwSh 19, pwT 19 1⟩ by kernel_rfl).symm.trans hg)
    cases e
    exact glob_of pwName hp (pwRep' 19 1) rfl
  | false =>
  cases hb1 : Nat.beq g 3 with
  | true =>
    obtain rfl := Nat.eq_of_beq_eq_true hb1
    have e := Option.some.inj ((show globs 3 = some ⟨.err, true⟩ by kernel_rfl).symm.trans hg)
    cases e
    exact glob_of synName hs (errRep _ _) rfl
  | false =>
  cases hb2 : Nat.beq g 4 with
  | true =>
    obtain rfl := Nat.eq_of_beq_eq_true hb2
    have e := Option.some.inj ((show globs 4 = some ⟨.err, true⟩ by kernel_rfl).symm.trans hg)
    cases e
    exact glob_of rngName hr (errRep _ _) rfl
  | false =>
  cases hb3 : Nat.beq g 1 with
  | true =>
    obtain rfl := Nat.eq_of_beq_eq_true hb3
    have e := Option.some.inj ((show globs 1 = some ⟨.pair (.int .i64) (.pair (.int .i64) (.pair (.int .i64) (.int .i64))), ((0 : Int), (-1 : Int), (0 : Int), (1 : Int))⟩ by kernel_rfl).symm.trans hg)
    cases e
    exact glob_of spName hsp ⟨[.int .i64 0], [.int .i64 (-1), .int .i64 0, .int .i64 1], rfl, rfl, [.int .i64 (-1)], [.int .i64 0, .int .i64 1], rfl, rfl, [.int .i64 0], [.int .i64 1], rfl, rfl, rfl⟩ rfl
  | false =>
  cases hb4 : Nat.beq g 0 with
  | true =>
    obtain rfl := Nat.eq_of_beq_eq_true hb4
    have e := Option.some.inj ((show globs 0 = some ⟨.pair .str .str, (ByteArray.mk #[97, 116], ByteArray.mk #[102, 114, 111, 109])⟩ by kernel_rfl).symm.trans hg)
    cases e
    exact glob_of wdName hwd ⟨[.string _], [.string _], rfl, rfl, rfl⟩ rfl
  | false =>
  unfold globs at hg
  simp only [hb0, hb1, hb2, hb3, hb4, cond_false, reduceCtorEq] at hg
 ·obtain rfl : 2 = g := (Nat.eq_of_beq_eq_true hg).symm
  obtain ⟨m, hm⟩ := cell_of_shapedOpen_int (g := 2) (zero := #[.int .i64 0]) hsh (of_decide_eq_true (by kernel_rfl)) (by kernel_rfl) rfl (by kernel_rfl) (by kernel_rfl) Tryz.underlying3
  refine ⟨?_, m, hm⟩
  show 2 < W.heap.size
  unfold World.cell? at hm
  split at hm
  ·rename_i hh
   obtain ⟨h1, _⟩ := Array.getElem?_eq_some_iff.1 hh
   exact h1
  ·cases hm
noncomputable def laidWorld (os : Os) : World := World.laidAll Tryz.prog os spLaid
theorem laidWorld_met (os : Os) (args : Array Value) : laidMet Tryz.prog spLaid ((laidWorld os).forCall (fun _ _ => 0) ⟨#[], args, []⟩).memory :=
 laidMet_laidAll args (by kernel_rfl) (by kernel_rfl)
end Go.Proofs.YtfpppijfkeidgaaGreatDoor
