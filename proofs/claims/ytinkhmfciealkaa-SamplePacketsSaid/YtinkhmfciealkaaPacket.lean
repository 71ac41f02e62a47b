/- A packet's check, in both texts. -/
import Derived.Test.YtinkhmfciealkaaSmall
set_option linter.unusedSimpArgs false
namespace Go.Proofs.Ytinkhmfciealkaa
open Go.Ev

def K2 : Know := ⟨fun f args => match f, args with
  | 87, [.l (.int .i64 a), .l (.int .i64 b), .l (.int .i64 c)] => some (.done (rb (win a b c)))
  | 21, [.l (.int .i64 a), .l (.int .i64 b), .l (.int .i64 c)] => some (.done (rb (win a b c)))
  | 90, [.l (.bool b), .l (.int .i64 e)] => some (.done (ri (if b then 0 else e)))
  | 89, [.agg [.int .i64 x, .int .i64 y]] => some (.done (rb (okG 2000 (x, y))))
  | _, _ => none, fun _ _ => none⟩

theorem K2_ok : KnowOk Try.prog K2 := fns_ok fun f args g rv h hg => by
  split at h
  · obtain rfl := Option.some.inj h; obtain rfl := Option.some.inj hg; exact mWithin 87 (.inl rfl) _ _ _
  · obtain rfl := Option.some.inj h; obtain rfl := Option.some.inj hg; exact mWithin 21 (.inr rfl) _ _ _
  · obtain rfl := Option.some.inj h; obtain rfl := Option.some.inj hg; exact mUnless _ _
  · obtain rfl := Option.some.inj h; obtain rfl := Option.some.inj hg; exact mSample _ _
  · cases h

theorem ran2 {f : FuncId} {args : List CV} {rv : RV} (n U : Nat) (h : evalK Try.prog RV K2 U n f args some = some rv) : Meets Try.prog f args rv := meets_of_eval noSpecial mixed K2_ok h

/-- A packet: two numbers and eight points. -/
def packet (a b : Int) (g0 g1 g2 g3 g4 g5 g6 g7 : Int × Int) : CV := .agg [.int .i64 a, .int .i64 b, .int .i64 g0.1, .int .i64 g0.2, .int .i64 g1.1, .int .i64 g1.2, .int .i64 g2.1, .int .i64 g2.2, .int .i64 g3.1, .int .i64 g3.2,
  .int .i64 g4.1, .int .i64 g4.2, .int .i64 g5.1, .int .i64 g5.2, .int .i64 g6.1, .int .i64 g6.2, .int .i64 g7.1, .int .i64 g7.2]

def chain : List Bool → Option RV
  | [] => none
  | [b] => some (ri (if b then 0 else 2))
  | b :: r => bif b then chain r else some (ri 2)

theorem chain_all : ∀ {l : List Bool}, l ≠ [] → chain l = some (ri (if l.all id then 0 else 2))
  | [], h => absurd rfl h
  | [b], _ => by cases b <;> rfl
  | b :: c :: l, _ => by
    have := chain_all (l := c :: l) (by simp)
    simp only [chain]
    cases b
    · rfl
    · simp only [cond_true, this]
      congr 1

/-- What both texts ask of a packet. -/
def goodPacket (a b : Int) (gs : List (Int × Int)) : List Bool := win a 0 1023 :: win b 1 100 :: gs.map (okG 2000)

theorem eqCheck (a b : Int) (g0 g1 g2 g3 g4 g5 g6 g7 : Int × Int) : evalK Try.prog RV K2 9 1 19 [packet a b g0 g1 g2 g3 g4 g5 g6 g7] some = chain (goodPacket a b [g0, g1, g2, g3, g4, g5, g6, g7]) := by kernel_rfl
theorem mCheck (a b : Int) (g0 g1 g2 g3 g4 g5 g6 g7 : Int × Int) : Meets Try.prog 19 [packet a b g0 g1 g2 g3 g4 g5 g6 g7] (ri (if (goodPacket a b [g0, g1, g2, g3, g4, g5, g6, g7]).all id then 0 else 2)) := ran2 1 9 (by
  rw [eqCheck, chain_all (by simp [goodPacket])])

def K3 : Know := ⟨fun f args => match f, args with
  | 21, [.l (.int .i64 a), .l (.int .i64 b), .l (.int .i64 c)] => some (.br (win a b c) (.done (rb true)) (.done (rb false)))
  | 49, [.agg [.int .i64 x, .int .i64 y], .l (.int .i64 m)] => if m = 2000 then some (.br (okG 2000 (x, y)) (.done (ri 0)) (.done (ri 2))) else none
  | _, _ => none, fun _ _ => none⟩

theorem K3_ok : KnowOk Try.prog K3 := fns_ok fun f args g rv h hg => by
  split at h
  · rename_i a b c
    obtain rfl := Option.some.inj h
    have := mWithin 21 (.inr rfl) a b c
    change Meets Try.prog 21 [i a, i b, i c] (rb (win a b c)) at this
    cases hw : win a b c <;> simp only [Out.at', hw, cond_true, cond_false] at hg <;> obtain rfl := Option.some.inj hg <;> rw [hw] at this <;> exact this
  · rename_i x y m
    split at h
    · rename_i hm
      subst hm
      obtain rfl := Option.some.inj h
      have := mGaussErr x y
      cases hw : okG 2000 (x, y) <;> simp only [Out.at', hw, cond_true, cond_false] at hg <;> obtain rfl := Option.some.inj hg <;> rw [hw] at this <;> exact this
    · cases h
  · cases h

theorem ran3 {f : FuncId} {args : List CV} {rv : RV} (n U : Nat) (h : evalK Try.prog RV K3 U n f args some = some rv) : Meets Try.prog f args rv := meets_of_eval noSpecial mixed K3_ok h

def chain0 : List Bool → Option RV
  | [] => some (ri 0)
  | b :: r => bif b then chain0 r else some (ri 2)

theorem chain0_all : ∀ (l : List Bool), chain0 l = some (ri (if l.all id then 0 else 2))
  | [] => rfl
  | b :: l => by
    have := chain0_all l
    simp only [chain0]
    cases b
    · rfl
    · simp only [cond_true, this]
      congr 1

theorem eqErr (a b : Int) (g0 g1 g2 g3 g4 g5 g6 g7 : Int × Int) : evalK Try.prog RV K3 9 1 20 [packet a b g0 g1 g2 g3 g4 g5 g6 g7] some = chain0 (goodPacket a b [g0, g1, g2, g3, g4, g5, g6, g7]) := by kernel_rfl
theorem mErr (a b : Int) (g0 g1 g2 g3 g4 g5 g6 g7 : Int × Int) : Meets Try.prog 20 [packet a b g0 g1 g2 g3 g4 g5 g6 g7] (ri (if (goodPacket a b [g0, g1, g2, g3, g4, g5, g6, g7]).all id then 0 else 2)) := ran3 1 9 (by
  rw [eqErr, chain0_all])
end Go.Proofs.Ytinkhmfciealkaa
