/- SamplePackets. -/
import Derived.Test.YtinkhmfciealkaaUnwrap4
import Derived.Test.YtinkhmfciealkaaPacket
set_option linter.unusedSimpArgs false
namespace Go.Proofs.Ytinkhmfciealkaa
open Go.Ev

theorem eq17 : evalK Try.prog RV nothing 64 12 17 [] some = some (rb true) := by kernel_rfl
theorem m17 : Meets Try.prog 17 [] (rb true) := ran 12 64 eq17

def codeOf (a b : Int) (gs : List (Int × Int)) : Int := if (goodPacket a b gs).all id then 0 else 2

def K7 : Know := ⟨fun f args => match f, args with
  | 17, [] => some (.done (rb true))
  | 18, [.l (.int .i64 a), .l (.int .i64 c)] => some (.br (inR a c) (.done (r2 (best a c) 0)) (.done (r2 0 2)))
  | 19, [.agg [.int .i64 a, .int .i64 b, .int .i64 x0, .int .i64 y0, .int .i64 x1, .int .i64 y1, .int .i64 x2, .int .i64 y2, .int .i64 x3, .int .i64 y3, .int .i64 x4, .int .i64 y4, .int .i64 x5, .int .i64 y5, .int .i64 x6, .int .i64 y6, .int .i64 x7, .int .i64 y7]] =>
    some (.done (ri (codeOf a b [(x0, y0), (x1, y1), (x2, y2), (x3, y3), (x4, y4), (x5, y5), (x6, y6), (x7, y7)])))
  | 20, [.agg [.int .i64 a, .int .i64 b, .int .i64 x0, .int .i64 y0, .int .i64 x1, .int .i64 y1, .int .i64 x2, .int .i64 y2, .int .i64 x3, .int .i64 y3, .int .i64 x4, .int .i64 y4, .int .i64 x5, .int .i64 y5, .int .i64 x6, .int .i64 y6, .int .i64 x7, .int .i64 y7]] =>
    some (.done (ri (codeOf a b [(x0, y0), (x1, y1), (x2, y2), (x3, y3), (x4, y4), (x5, y5), (x6, y6), (x7, y7)])))
  | 21, [.l (.int .i64 a), .l (.int .i64 b), .l (.int .i64 c)] => some (.br (win a b c) (.done (rb true)) (.done (rb false)))
  | 22, [.l (.int .i64 a), .l (.int .i64 c)] => some (.br (inR a c) (.done (ri (best a c))) .no)
  | _, _ => none, fun _ _ => none⟩

theorem K7_ok : KnowOk Try.prog K7 := fns_ok fun f args g rv h hg => by
  split at h
  · obtain rfl := Option.some.inj h; obtain rfl := Option.some.inj hg; exact m17
  · rename_i a c
    obtain rfl := Option.some.inj h
    have := m18 a c
    cases hw : inR a c <;> simp only [Out.at', hw, cond_true, cond_false] at hg <;> obtain rfl := Option.some.inj hg <;> rw [hw] at this <;> exact this
  · obtain rfl := Option.some.inj h; obtain rfl := Option.some.inj hg; exact mCheck _ _ (_, _) (_, _) (_, _) (_, _) (_, _) (_, _) (_, _) (_, _)
  · obtain rfl := Option.some.inj h; obtain rfl := Option.some.inj hg; exact mErr _ _ (_, _) (_, _) (_, _) (_, _) (_, _) (_, _) (_, _) (_, _)
  · rename_i a b c
    obtain rfl := Option.some.inj h
    have := mWithin 21 (.inr rfl) a b c
    change Meets Try.prog 21 [i a, i b, i c] (rb (win a b c)) at this
    cases hw : win a b c <;> simp only [Out.at', hw, cond_true, cond_false] at hg <;> obtain rfl := Option.some.inj hg <;> rw [hw] at this <;> exact this
  · rename_i a c
    obtain rfl := Option.some.inj h
    cases hw : inR a c <;> simp only [Out.at', hw, cond_true, cond_false] at hg
    · cases hg
    · obtain rfl := Option.some.inj hg; exact m22 hw
  · cases h

theorem eq3 (a b near c : Int) (g0 g1 g2 g3 g4 g5 g6 g7 : Int × Int) : evalK Try.prog RV K7 0 1 3 [packet a b g0 g1 g2 g3 g4 g5 g6 g7, i near, i c] some =
    bif inR near c then
      (bif codeOf a b [g0, g1, g2, g3, g4, g5, g6, g7] != codeOf a b [g0, g1, g2, g3, g4, g5, g6, g7] then some (rb false) else
        bif win near 0 1000000000 then (bif win c 0 1023 then (bif inR near c then some (rb (best near c == best near c)) else none) else some (rb false)) else some (rb false))
    else
      (bif codeOf a b [g0, g1, g2, g3, g4, g5, g6, g7] != codeOf a b [g0, g1, g2, g3, g4, g5, g6, g7] then some (rb false) else
        bif win near 0 1000000000 then (bif win c 0 1023 then some (rb false) else some (rb true)) else some (rb true)) := by kernel_rfl

theorem m3 (a b near c : Int) (g0 g1 g2 g3 g4 g5 g6 g7 : Int × Int) : Meets Try.prog 3 [packet a b g0 g1 g2 g3 g4 g5 g6 g7, i near, i c] saysTrue := meets_of_eval (n := 1) (U := 0) noSpecial mixed K7_ok (by
  rw [eq3]
  have he : (codeOf a b [g0, g1, g2, g3, g4, g5, g6, g7] != codeOf a b [g0, g1, g2, g3, g4, g5, g6, g7]) = false := by simp
  have hb : (best near c == best near c) = true := by simp
  rw [he, hb]
  simp only [cond_false]
  cases h1 : win near 0 1000000000 <;> cases h2 : win c 0 1023 <;> simp [inR, h1, h2] <;> rfl)
end Go.Proofs.Ytinkhmfciealkaa
