/- Chapter 1: PathSeen, the law. -/
import Derived.Test.YthabingkfmlbbaaGreatSeen
set_option linter.unusedSimpArgs false
namespace Go.Proofs.YthabingkfmlbbaaGreat
open Go.Ev
structure At (s : Si) (a b : Tr) (time : Int) (g : Gp) : Prop where
 site : SiteOk s
 ea : (trkE a).2 = 0
 eb : (trkE b).2 = 0
 ta : tErr time a = 0
 tb : tErr time b = 0
 ok : GpOk g
 gap : s49 (a, time, b, time) = some g
theorem s13_eq {s : Si} {a b : Tr} {time : Int} {g : Gp} (A : At s a b time g) : s13 ((s, a, b), time) = some (answer s g, 0) := by
 have Va := valid_of A.ea
 have Vb := valid_of A.eb
 have e59 : s29 [a, b] = some 0 := by rw [s29_eq _ (by simp)]; simp only [List.map_cons, List.map_nil, firstE_two, A.ea, A.eb]; rfl
 have e60 : s30 (time, [a, b]) = some 0 := by
  rw [s30_eq _ _ (by simp) (fun p hp => by rcases List.mem_cons.1 hp with rfl | hp; exact Va; rcases List.mem_cons.1 hp with rfl | hp; exact Vb; cases hp)]
  simp only [List.map_cons, List.map_nil, firstE_two, A.ta, A.tb]; rfl
 have e72 : s37 (s, a, b) = some 0 := by
  unfold s37
  simp only [s66_eq A.site, e59, optE_some]
  rw [s46_eq _ (by simp)]
  rfl
 unfold s13
 simp only [e72, e60, s38_eq A.site A.ok A.gap, optE_some, show ((0 : Int) != 0) = false from rfl, cond_false]
theorem s14_eq {s : Si} {a b : Tr} (hs : s.2.length ≤ 1000) (ha : a.1.length ≤ 1000) (hb : b.1.length ≤ 1000) : s14 (s, a, b) = some (s, a, b) := by
 have h74 : s39 s = some s := by
  obtain ⟨u, cs⟩ := s
  cases cs with
  | nil => rfl
  | cons c cs =>
    have hr : room 40 (cs.length + 1) = true := room_true (by simp at hs; omega) (by simp at hs; omega)
    simp only [s39, listE, hr, cond_true]
 unfold s14
 simp only [h74, copy_ok ha, copy_ok hb, optE_some]
end Go.Proofs.YthabingkfmlbbaaGreat
