/- Chapter 1: PathSeen. -/
import Derived.Test.YthabingkfmlbbaaGreatView2
set_option linter.unusedSimpArgs false
namespace Go.Proofs.YthabingkfmlbbaaGreat
open Go.Ev
theorem answer_cases (s : Si) (g : Gp) : answer s g = 0 ∨ answer s g = 1 ∨ answer s g = 2 := by
 unfold answer
 cases sure s g <;> cases never s g <;> simp
theorem answer_yes {s : Si} {g : Gp} : answer s g = 2 ↔ sure s g = true := by
 unfold answer
 cases sure s g <;> cases never s g <;> simp
theorem s95_100 (n : Int) : s95 (n, 100) = some (win n (-100) 100) := by
 unfold s95
 simp only [optE_some, s48_eq]
 rfl
def axR (v : Int × Int × Int) : Bool := win v.1 (-100) 100 && (win v.2.1 (-100) 100 && win v.2.2 (-100) 100)
def zeroB (v : Int × Int × Int) : Bool := (v.1 == 0) && ((v.2.1 == 0) && ((v.2.2 == 0) && true))
theorem s52_eq (v : Int × Int × Int) : s52 v = some (axR v) := by
 unfold s52 axR
 simp only [s27_eq, optE_some]
 cases win v.1 (-100) 100 <;> cases win v.2.1 (-100) 100 <;> rfl
theorem axR_ok {v : Int × Int × Int} (h : axR v = true) : AxOk v := by
 simp only [axR, Bool.and_eq_true, win_iff] at h
 exact ⟨h.1, h.2.1, h.2.2⟩
theorem zeroB_iff {v : Int × Int × Int} : zeroB v = true ↔ (v.1 = 0 ∧ v.2.1 = 0 ∧ v.2.2 = 0) := by simp [zeroB]
theorem s87_eq {v : Int × Int × Int} (h : AxOk v) (hz : ¬ (v.1 = 0 ∧ v.2.1 = 0 ∧ v.2.2 = 0)) : s87 v = some 0 := by
 have h1 := win_iff.2 h.x
 have h2 := win_iff.2 h.y
 have h3 := win_iff.2 h.z
 have h4 : zeroB v = false := by cases hb : zeroB v; rfl; exact absurd (zeroB_iff.1 hb) hz
 unfold zeroB at h4
 unfold s87
 simp only [s88, s106, s95_100, optE_some, h1, h2, h3, cond_true, s47_eq, h4, Bool.not_false, unl]
 rw [s46_eq _ (by simp)]
 rfl
def coneE (c : Co) : Int := bif !(axR c.1) then 2 else bif zeroB c.1 then 11 else bif !(win c.2.2 1 100) then 2 else bif !(win c.2.1 0 c.2.2) then 2 else 0
theorem coneE_ok {c : Co} (h : coneE c = 0) : ConeOk c ∧ ¬ (c.1.1 = 0 ∧ c.1.2.1 = 0 ∧ c.1.2.2 = 0) := by
 unfold coneE at h
 cases h1 : axR c.1
 ·rw [h1] at h; simp at h
 ·cases h2 : zeroB c.1
  ·cases h3 : win c.2.2 1 100
   ·rw [h1, h2, h3] at h; simp at h
   ·cases h4 : win c.2.1 0 c.2.2
    ·rw [h1, h2, h3, h4] at h; simp at h
    ·exact ⟨⟨axR_ok h1, win_iff.1 h3, win_iff.1 h4⟩, fun hz => by rw [zeroB_iff.2 hz] at h2; cases h2⟩
  ·rw [h1, h2] at h; simp at h
theorem s25_eq {s : Si} (hl : s.2.length ≤ 1000) : ∃ r, s25 s = some r ∧ (r.2 = 0 → SiteOk s) := by
 have hloop := loop_scan (step := step25_0) (st := fun k => ((k : Int), s)) (hit := fun k => bif coneE (s.2.getD k ((0, 0, 0), 0, 0)) != 0 then some (Sum.inl ((k : Int), coneE (s.2.getD k ((0, 0, 0), 0, 0)))) else none) (n := s.2.length) (e := .inr ())
  (fun k hk => by
    obtain ⟨c, hcc⟩ : ∃ c, s.2.getD k ((0, 0, 0), 0, 0) = c := ⟨_, rfl⟩
    simp only [step25_0, lt_cast, inB_cast, hk, decide_true, cond_true, Int.toNat_natCast, s52_eq, s27_eq, optE_some, wr_succ (show k < 4611686018427387904 by omega), hcc]
    unfold coneE
    cases h1 : axR c.1
    ·rfl
    ·have h2' : ((c.1.1 == 0) && ((c.1.2.1 == 0) && ((c.1.2.2 == 0) && true))) = zeroB c.1 := rfl
     rw [h2']
     cases zeroB c.1
     ·cases win c.2.2 1 100
      ·rfl
      ·cases win c.2.1 0 c.2.2 <;> rfl
     ·rfl)
  (by simp only [step25_0, lt_cast, Nat.lt_irrefl, decide_false, cond_false]) s.2.length 0 (by omega)
 have hloop : loopVal step25_0 (0, s) = _ := hloop
 unfold s25
 simp only [s52_eq, optE_some, hloop]
 have h2' : ((s.1.1 == 0) && ((s.1.2.1 == 0) && ((s.1.2.2 == 0) && true))) = zeroB s.1 := rfl
 rw [h2']
 cases h1 : axR s.1
 ·exact ⟨(0, 2), rfl, fun h => by cases h⟩
 ·cases h2 : zeroB s.1
  ·by_cases h3 : s.2.length > 4
   ·rw [decide_eq_true (show (s.2.length : Int) > 4 by omega)]
    exact ⟨(0, 8), rfl, fun h => by cases h⟩
   ·rw [decide_eq_false (show ¬ (s.2.length : Int) > 4 by omega)]
    rcases scan_cases (fun k => bif coneE (s.2.getD k ((0, 0, 0), 0, 0)) != 0 then some (Sum.inl ((k : Int), coneE (s.2.getD k ((0, 0, 0), 0, 0))) : (Int × Int) ⊕ Unit) else none) (.inr ()) s.2.length 0 with ⟨hs, hn⟩ | ⟨j, x, _, hj, hx, hs⟩
    ·rw [hs]
     refine ⟨(0, 0), rfl, fun _ => ?_⟩
     have hc : ∀ c ∈ s.2, coneE c = 0 := by
      intro c hc
      obtain ⟨k, hk, rfl⟩ := List.getElem_of_mem hc
      have := hn k (by omega) (by omega)
      rw [List.getD_eq_getElem?_getD, List.getElem?_eq_getElem hk] at this
      simp only [Option.getD_some] at this
      cases he : coneE s.2[k] != 0
      ·simpa using he
      ·rw [he] at this; cases this
     exact ⟨axR_ok h1, (fun hz => by rw [zeroB_iff.2 hz] at h2; cases h2), (by omega), fun c hc' => (coneE_ok (hc c hc')).1, fun c hc' => (coneE_ok (hc c hc')).2⟩
    ·rw [hs]
     cases he : coneE (s.2.getD j ((0, 0, 0), 0, 0)) != 0
     ·rw [he] at hx; cases hx
     ·rw [he] at hx
      obtain rfl := Option.some.inj hx
      exact ⟨_, rfl, fun h => by simp only [] at h; rw [h] at he; cases he⟩
  ·exact ⟨(0, 11), rfl, fun h => by cases h⟩
theorem s66_eq {s : Si} (S : SiteOk s) : s66 s = some (0, 0) := by
 have hm := S.most
 have hloop := loop_for (step := step66_0) (st := fun k => (s.2, (s.2.length : Int), (k : Int))) (n := s.2.length) (e := .inr ())
  (fun k hk => by
    have hmem : s.2.getD k ((0, 0, 0), 0, 0) ∈ s.2 := by rw [List.getD_eq_getElem?_getD, List.getElem?_eq_getElem hk]; exact List.getElem_mem hk
    have C := S.cone _ hmem
    have Z := S.conez _ hmem
    simp only [step66_0, lt_cast, inB_cast, hk, decide_true, cond_true, Int.toNat_natCast, s87_eq C.axis Z, s48_eq, s47_eq, optE_some, win_iff.2 C.den, win_iff.2 C.num, unl, wr_succ (show k < 4611686018427387904 by omega)]
    rw [s46_eq _ (by simp)]
    rfl)
  (by simp only [step66_0, lt_cast, Nat.lt_irrefl, decide_false, cond_false]) 0 (by omega)
 have hloop : loopVal step66_0 (s.2, (s.2.length : Int), 0) = _ := hloop
 unfold s66
 simp only [s87_eq S.up S.upz, s47_eq, optE_some, decide_eq_true (show (s.2.length : Int) ≤ 4 by omega), unl, cond_true]
 rw [s46_eq _ (by simp)]
 simp only [optE_some, firstE, show ((0 : Int) != 0) = false from rfl, cond_false, hloop, sumE_r]
end Go.Proofs.YthabingkfmlbbaaGreat
