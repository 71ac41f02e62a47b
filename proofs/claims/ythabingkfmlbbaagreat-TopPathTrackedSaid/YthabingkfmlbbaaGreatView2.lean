/- Chapter 1: what a site sees, at a time. -/
import Derived.Test.YthabingkfmlbbaaGreatView
set_option linter.unusedSimpArgs false
namespace Go.Proofs.YthabingkfmlbbaaGreat
open Go.Ev
abbrev Co := (Int × Int × Int) × Int × Int
abbrev Si := (Int × Int × Int) × List Co
abbrev Vw := Si × Tr × Tr
structure ConeOk (c : Co) : Prop where
 axis : AxOk c.1
 den : 1 ≤ c.2.2 ∧ c.2.2 ≤ 100
 num : 0 ≤ c.2.1 ∧ c.2.1 ≤ c.2.2
def hid (c : Co) (p q : Int) : Bool := decide (p > 0) && decide (q * (c.2.1 * dot c.1 c.1) < p * p * c.2.2)
theorem self_dot {w : Int × Int × Int} (h : AxOk w) : 0 ≤ dot w w ∧ dot w w ≤ 30000 ∧ s89 (w, w) = some (dot w w) := by
 obtain ⟨hx, hy, hz⟩ := h
 have kx := sq_bound (a := w.1) (m := 100) (by omega) (by omega)
 have ky := sq_bound (a := w.2.1) (m := 100) (by omega) (by omega)
 have kz := sq_bound (a := w.2.2) (m := 100) (by omega) (by omega)
 refine ⟨by unfold dot; omega, by unfold dot; omega, ?_⟩
 unfold s89 dot
 simp only []
 rw [wr_id (n := w.1 * w.1) (by omega) (by omega), wr_id (n := w.2.1 * w.2.1) (by omega) (by omega), wr_id (n := w.2.2 * w.2.2) (by omega) (by omega), wr_id (n := w.1 * w.1 + w.2.1 * w.2.1) (by omega) (by omega), wr_id (by omega) (by omega)]
theorem s68_eq {c : Co} (h : ConeOk c) {p q : Int} (hp1 : -70000000000000000 ≤ p) (hp2 : p ≤ 70000000000000000) (hq : 0 ≤ q) (hq2 : q ≤ 130000000000000000000000000000) : s68 (c, p, W q) = some (hid c p q) := by
 obtain ⟨a1, a2, a3⟩ := self_dot h.axis
 obtain ⟨n1, n2⟩ := h.num
 obtain ⟨e1, e2⟩ := h.den
 have k1 := Int.mul_nonneg n1 a1
 have k2 : c.2.1 * dot c.1 c.1 ≤ 100 * 30000 := Int.mul_le_mul (by omega) a2 a1 (by omega)
 have q1 := Int.mul_nonneg hq k1
 have q2 : q * (c.2.1 * dot c.1 c.1) ≤ 130000000000000000000000000000 * 3000000 := Int.mul_le_mul hq2 (by omega) k1 (by omega)
 have p1 := sq_bound (a := p) (m := 70000000000000000) (by omega) hp2
 have r1 : p * p * c.2.2 ≤ (70000000000000000 * 70000000000000000) * 100 := Int.mul_le_mul p1.2 e2 (by omega) (by omega)
 have r0 := Int.mul_nonneg p1.1 (show 0 ≤ c.2.2 by omega)
 unfold s68 hid
 simp only [s88, optE_some]
 by_cases hp : p > 0
 ·simp only [decide_eq_true hp, cond_true, a3, optE_some, Bool.true_and]
  rw [wr_id (n := c.2.1 * dot c.1 c.1) (by omega) (by omega), s91_eq hq k1 (by omega) (by omega), s79_eq (by omega) (by omega)]
  simp only [optE_some]
  rw [s91_eq p1.1 (by omega) (by omega) (by omega)]
  simp only [optE_some, s78_eq]
 ·simp only [decide_eq_false hp, cond_false, Bool.false_and]
def loA (g : Gp) (w : Int × Int × Int) : Int := dot w g.1.1 - off g w
def hiA (g : Gp) (w : Int × Int × Int) : Int := dot w g.1.1 + off g w
def sure (s : Si) (g : Gp) : Bool := decide (loA g s.1 ≥ 0) && s.2.all fun c => !hid c (hiA g c.1) (near g)
def never (s : Si) (g : Gp) : Bool := decide (hiA g s.1 < 0) || s.2.any fun c => hid c (loA g c.1) (far g)
def answer (s : Si) (g : Gp) : Int := bif sure s g then 2 else bif never s g then 0 else 1
theorem big_ok {g : Gp} (G : GpOk g) : near g ≤ 130000000000000000000000000000 ∧ far g ≤ 130000000000000000000000000000 := by
 have n := s69_eq G
 have f := s70_eq G
 have k := big_bound G.den.1 G.den.2
 omega
theorem loop73 {cs : List Co} {g : Gp} (G : GpOk g) (hc : ∀ c ∈ cs, ConeOk c) (hl : cs.length ≤ 1000) (s0 n0 : Bool) :
 loopVal step38_0 (s0, n0, cs, (cs.length : Int), 0, g) = some (s0 && cs.all (fun c => !hid c (hiA g c.1) (near g)), n0 || cs.any (fun c => hid c (loA g c.1) (far g))) := by
 have h := loop_for (step := step38_0) (st := fun k => (s0 && (cs.take k).all (fun c => !hid c (hiA g c.1) (near g)), n0 || (cs.take k).any (fun c => hid c (loA g c.1) (far g)), cs, (cs.length : Int), (k : Int), g)) (n := cs.length)
  (e := (s0 && cs.all (fun c => !hid c (hiA g c.1) (near g)), n0 || cs.any (fun c => hid c (loA g c.1) (far g))))
  (fun k hk => by
    have hm : cs.getD k ((0, 0, 0), 0, 0) ∈ cs := by rw [List.getD_eq_getElem?_getD, List.getElem?_eq_getElem hk]; exact List.getElem_mem hk
    have C := hc _ hm
    obtain ⟨b1, b2, _⟩ := dot_bd C.axis G
    obtain ⟨a1, a2, a3⟩ := s67_eq C.axis G
    obtain ⟨n1, n2, _⟩ := s69_eq G
    obtain ⟨f1, f2, _⟩ := s70_eq G
    obtain ⟨g1, g2⟩ := big_ok G
    have h1 := s68_eq C (p := hiA g (cs.getD k ((0, 0, 0), 0, 0)).1) (q := near g) (by unfold hiA; omega) (by unfold hiA; omega) n2 g1
    have h2 := s68_eq C (p := loA g (cs.getD k ((0, 0, 0), 0, 0)).1) (q := far g) (by unfold loA; omega) (by unfold loA; omega) f2 g2
    have t1 : (cs.take (k + 1)).all (fun c => !hid c (hiA g c.1) (near g)) = ((cs.take k).all (fun c => !hid c (hiA g c.1) (near g)) && !hid (cs.getD k ((0, 0, 0), 0, 0)) (hiA g (cs.getD k ((0, 0, 0), 0, 0)).1) (near g)) := by
     rw [← take_succ_getD cs ((0, 0, 0), 0, 0) hk, List.all_append]; simp only [List.all_cons, List.all_nil, Bool.and_true]
    have t2 : (cs.take (k + 1)).any (fun c => hid c (loA g c.1) (far g)) = ((cs.take k).any (fun c => hid c (loA g c.1) (far g)) || hid (cs.getD k ((0, 0, 0), 0, 0)) (loA g (cs.getD k ((0, 0, 0), 0, 0)).1) (far g)) := by
     rw [← take_succ_getD cs ((0, 0, 0), 0, 0) hk, List.any_append]; simp only [List.any_cons, List.any_nil, Bool.or_false]
    rw [t1, t2, ← Bool.and_assoc, ← Bool.or_assoc]
    generalize (s0 && (cs.take k).all (fun c => !hid c (hiA g c.1) (near g))) = x
    generalize (n0 || (cs.take k).any (fun c => hid c (loA g c.1) (far g))) = y
    unfold loA at h2
    unfold hiA at h1
    unfold loA hiA
    simp only [step38_0, lt_cast, inB_cast, hk, decide_true, cond_true, Int.toNat_natCast, a1, n1, f1, h1, h2, optE_some, wr_succ (show k < 4611686018427387904 by omega)]
    cases x <;> cases y <;> rfl)
  (by simp only [step38_0, lt_cast, Nat.lt_irrefl, decide_false, cond_false, List.take_length]) 0 (by omega)
 simpa using h
structure SiteOk (s : Si) : Prop where
 up : AxOk s.1
 upz : ¬ (s.1.1 = 0 ∧ s.1.2.1 = 0 ∧ s.1.2.2 = 0)
 most : s.2.length ≤ 4
 cone : ∀ c ∈ s.2, ConeOk c
 conez : ∀ c ∈ s.2, ¬ (c.1.1 = 0 ∧ c.1.2.1 = 0 ∧ c.1.2.2 = 0)
theorem s38_eq {s : Si} {a b : Tr} {time : Int} {g : Gp} (S : SiteOk s) (G : GpOk g) (h : s49 (a, time, b, time) = some g) : s38 ((s, a, b), time) = some (answer s g) := by
 obtain ⟨a1, _⟩ := s67_eq S.up G
 have hl := loop73 G S.cone (by have := S.most; omega) (decide (dot s.1 g.1.1 - off g s.1 ≥ 0)) (decide (dot s.1 g.1.1 + off g s.1 < 0))
 unfold s38
 simp only [h, optE_some, a1, hl]
 show (bif sure s g then some 2 else bif never s g then some 0 else some 1) = some (answer s g)
 unfold answer
 cases sure s g <;> cases never s g <;> rfl
end Go.Proofs.YthabingkfmlbbaaGreat
