/- Small functions of numbers. -/
import Derived.Test.YtinkhmfciealkaaSeat
set_option linter.unusedSimpArgs false
namespace Go.Proofs.Ytinkhmfciealkaa
open Go.Ev

def i (n : Int) : CV := .l (.int .i64 n)
def rb (b : Bool) : RV := ⟨.c (.l (.bool b)), .free⟩
def ri (n : Int) : RV := ⟨.c (.l (.int .i64 n)), .free⟩

theorem ran {f : FuncId} {args : List CV} {rv : RV} (n U : Nat) (h : evalK Try.prog RV nothing U n f args some = some rv) : Meets Try.prog f args rv := meets_of_eval noSpecial mixed nothing_ok h

theorem eqWithin (f : FuncId) (hf : f = 87 ∨ f = 21) (a b c : Int) : evalK Try.prog RV nothing 0 1 f [i a, i b, i c] some = bif decide (b ≤ a) then some (rb (decide (a ≤ c))) else some (rb false) := by
  rcases hf with rfl | rfl <;> kernel_rfl
theorem mWithin (f : FuncId) (hf : f = 87 ∨ f = 21) (a b c : Int) : Meets Try.prog f [i a, i b, i c] (rb (decide (b ≤ a) && decide (a ≤ c))) := ran 1 0 (by
  rw [eqWithin f hf]; cases decide (b ≤ a) <;> rfl)

theorem eqUnless (b : Bool) (e : Int) : evalK Try.prog RV nothing 0 1 90 [.l (.bool b), i e] some = bif b then some (ri 0) else some (ri e) := by kernel_rfl
theorem mUnless (b : Bool) (e : Int) : Meets Try.prog 90 [.l (.bool b), i e] (ri (if b then 0 else e)) := ran 1 0 (by
  rw [eqUnless]; cases b <;> rfl)

/-- Between two numbers. -/
def win (a b c : Int) : Bool := decide (b ≤ a) && decide (a ≤ c)
/-- Are both parts within a bound? -/
def okG (m : Int) (g : Int × Int) : Bool := win g.1 (-m) m && win g.2 (-m) m

def K1 : Know := ⟨fun f args => match f, args with
  | 87, [.l (.int .i64 a), .l (.int .i64 b), .l (.int .i64 c)] => some (.done (rb (win a b c)))
  | 21, [.l (.int .i64 a), .l (.int .i64 b), .l (.int .i64 c)] => some (.done (rb (win a b c)))
  | 90, [.l (.bool b), .l (.int .i64 e)] => some (.done (ri (if b then 0 else e)))
  | _, _ => none, fun _ _ => none⟩

theorem K1_ok : KnowOk Try.prog K1 := fns_ok fun f args g rv h hg => by
  split at h
  · obtain rfl := Option.some.inj h; obtain rfl := Option.some.inj hg; exact mWithin 87 (.inl rfl) _ _ _
  · obtain rfl := Option.some.inj h; obtain rfl := Option.some.inj hg; exact mWithin 21 (.inr rfl) _ _ _
  · obtain rfl := Option.some.inj h; obtain rfl := Option.some.inj hg; exact mUnless _ _
  · cases h

theorem ran1 {f : FuncId} {args : List CV} {rv : RV} (n U : Nat) (h : evalK Try.prog RV K1 U n f args some = some rv) : Meets Try.prog f args rv := meets_of_eval noSpecial mixed K1_ok h

def gauss (g : Int × Int) : CV := .agg [.int .i64 g.1, .int .i64 g.2]

theorem eqSample (x y : Int) : evalK Try.prog RV K1 0 2 89 [.agg [.int .i64 x, .int .i64 y]] some = bif win x (-2000) 2000 then some (rb (win y (-2000) 2000)) else some (rb false) := by kernel_rfl
theorem mSample (x y : Int) : Meets Try.prog 89 [.agg [.int .i64 x, .int .i64 y]] (rb (okG 2000 (x, y))) := ran1 2 0 (by
  rw [eqSample]; unfold okG; dsimp only; cases win x (-2000) 2000 <;> rfl)

theorem eqGaussErr (x y : Int) : evalK Try.prog RV K1 0 1 49 [.agg [.int .i64 x, .int .i64 y], i 2000] some = bif !(win x (-2000) 2000) then some (ri 2) else bif !(win y (-2000) 2000) then some (ri 2) else some (ri 0) := by kernel_rfl
theorem mGaussErr (x y : Int) : Meets Try.prog 49 [.agg [.int .i64 x, .int .i64 y], i 2000] (ri (if okG 2000 (x, y) then 0 else 2)) := ran1 1 0 (by
  rw [eqGaussErr]; unfold okG; dsimp only; cases win x (-2000) 2000 <;> cases win y (-2000) 2000 <;> rfl)
end Go.Proofs.Ytinkhmfciealkaa
