/- All positions at which a marker is found. -/
import Derived.Test.YthckjfbhdjjnkaaMarkersLaw
set_option linter.unusedSimpArgs false
namespace Go.Proofs.Ythckjfbhdjjnkaa
open Go.Ev
abbrev Mark := Int × Int × Bool × Int × Int
def markAt (m l : List Int) (e : Int) (k : Nat) : Option Mark :=
 if (wrongN m l k m.length).1 ≤ e then some (0, (k : Int), false, (wrongN m l k m.length).1, 0) else if (wrongN m l k m.length).2 ≤ e then some (0, (k : Int), true, (wrongN m l k m.length).2, 0) else none
def places (m l : List Int) : Nat := l.length + 1 - m.length
theorem marks_self (s : List Mark) (h : s.length ≤ 1000000) : s23 (s, s) = some true := by
 unfold s23
 have h1 := loop_for (step := step23_0) (st := fun k => (s, s, (k : Int))) (n := s.length) (e := .inr ()) (fun k hk => by
  simp only [step23_0, lt_cast, inB_cast, hk, decide_true, cond_true, Int.toNat_natCast, beq_self_eq_true, Bool.and_true, Bool.not_true, cond_false, wr_succ (show k < 4611686018427387904 by omega)]) (by simp only [step23_0, lt_cast, Nat.lt_irrefl, decide_false, cond_false]) 0 (by omega)
 rw [show ((0 : Nat) : Int) = 0 from rfl] at h1
 simp only [bne_self_eq_false, cond_false, h1, optE_some, sumE_r]
def bE (r : Rule) (l : List Int) : Int := firstE [rE r, hE l]
theorem rE_ok {r : Rule} (h : rE r = 0) : mE r.1 = 0 := firstE_zero.1 h (mE r.1) (by simp)
end Go.Proofs.Ythckjfbhdjjnkaa
