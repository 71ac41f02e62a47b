/- From a law on typed data to the row's contract. -/
import Derived.Test.YtinkhmfciealkaaReads
set_option linter.unusedSimpArgs false
namespace Go.Ev
open Go.RowKit Go.ChangeShapes Go.WideShapes Go.ChangeAt

/-- Values of these shapes, within their kinds' ranges. -/
def Typed : List Sh → List CV → Prop
  | [], [] => True
  | s :: ss, c :: cs => (∃ y : s.T, c = s.cv y ∧ s.ok y) ∧ Typed ss cs
  | _, _ => False

/-- What the laws give back. -/
def saysTrue : RV := ⟨.c (.l (.bool true)), .free⟩

theorem args_rep {H : Type} {enc : TypeId × Value → H} {P : Program} {w : World} {r : Reach} {base : Nat} (hl : laidOutB P = true) : ∀ {ts : List TypeId} {shs : List Sh} {vs : List Value} {ds : List (DataW H)} {ps : List MemPlace},
    DataW.TrodAll enc P w 0 (fun _ => true) true ts vs ds ps → (∀ (j : Nat) t v, ts[j]? = some t → vs[j]? = some v → Value.okWide P w r base t v) → ts.map (shapeOf P) = shs.map some → shs.all Sh.plain = true →
    (ts.all fun t => P.readableRec t && decide (t < P.types.size)) = true → ∃ cs, Typed shs cs ∧ RepCs w (fun b => b < w.heap.size) (fun _ => none) (fun _ => .free) cs vs
  | [], shs, vs, ds, ps, h, _, hs, _, _ => by
    obtain ⟨rfl, _, _⟩ := trodAll_nil h
    cases shs with
    | nil => exact ⟨[], trivial, repCs_nil⟩
    | cons s shs => cases hs
  | t :: ts, shs, vs, ds, ps, h, hv, hs, hpl, ht => by
    obtain ⟨v, vs, d, ds, p, q, rfl, rfl, rfl, h1, h2⟩ := trodAll_cons h
    cases shs with
    | nil => cases hs
    | cons s shs =>
      simp only [List.map_cons, List.cons.injEq] at hs
      simp only [List.all_cons, Bool.and_eq_true, decide_eq_true_eq] at hpl ht
      obtain ⟨y, hy, hyo⟩ := value_rep hl h1 (hv 0 t v rfl rfl) hs.1 hpl.1 ht.1.2
      obtain ⟨cs, g1, g2⟩ := args_rep hl h2 (fun j t' v' a b => hv (j + 1) t' v' (by simpa using a) (by simpa using b)) hs.2 hpl.2 ht.2
      exact ⟨s.cv y :: cs, ⟨⟨y, rfl, hyo⟩, g1⟩, repCs_cons hy g2⟩

/-- THE CONTRACT OF A LAW, out of what it is on typed data. -/
theorem contract_of_law {H : Type} {enc : TypeId × Value → H} {P : Program} {f : Func} {g : FuncId} {s : ChangeSpec} {apart fresh handsOn again : Bool} {tb : TypeId} {shs : List Sh}
    (hl : laidOutB P = true) (hread : (f.params.toList.all fun t => P.readableRec t && decide (t < P.types.size)) = true) (hsh : f.params.toList.map (shapeOf P) = shs.map some) (hpl : shs.all Sh.plain = true)
    (hres : f.resultTypes = #[tb]) (hbool : P.underlying tb = some .bool) (hvars : s.vars = []) (hfn : ∀ ds : List (DataW H), ds.length = shs.length → s.fn H ds = { results := [.lit (.bool true)], args := ds })
    (law : ∀ cs, Typed shs cs → Meets P g cs saysTrue)
    {W : World} {base : Nat} {args : Array Value} {ds gs : List (DataW H)} {before : List MemPlace} (hval : ∀ (j : Nat) t v, f.params[j]? = some t → args[j]? = some v → Value.okWide P W .any base t v)
    (hW : DataW.Whole enc P f.params.toList s.vars apart W args.toList ds gs before) :
    Calls P g args W fun e W' => ∃ v, e = .returned v ∧ s.post enc P f apart fresh handsOn again W args v W' := by
  have hW' := hW
  obtain ⟨p, q, hA, _⟩ := hW
  have hlen : ∀ {ts : List TypeId} {vs : List Value} {ds : List (DataW H)} {ps : List MemPlace}, DataW.TrodAll enc P W 0 (fun _ => true) true ts vs ds ps → ds.length = ts.length := by
    intro ts
    induction ts with
    | nil => intro vs ds ps h; obtain ⟨_, rfl, _⟩ := trodAll_nil h; rfl
    | cons t ts ih =>
      intro vs ds ps h
      obtain ⟨v, vs, d, ds, p, q, rfl, rfl, rfl, _, h2⟩ := trodAll_cons h
      simp [ih h2]
  obtain ⟨cs, h1, h2⟩ := args_rep hl hA (fun j t v a b => hval j t v (by rwa [Array.getElem?_toList] at a) (by rwa [Array.getElem?_toList] at b)) hsh hpl hread
  refine (law cs h1 W _ args (fun b h => h) h2).mono fun e W' ⟨v, he, hb, p', β, _, hn, hr, hv⟩ => ?_
  refine ⟨v, he, ?_⟩
  obtain rfl : v = .bool true := hv
  have hl1 := hlen hA
  have hl2 := congrArg List.length hsh
  simp only [List.length_map] at hl2
  exact post_true hl hread hres hbool hvars (hfn ds (by rw [hl1]; exact hl2)) hW' hb
end Go.Ev
