/- What is tracked is seen. -/
import Derived.Test.YthabingkfmlbbaaGreatRate
import Derived.Test.YthabingkfmlbbaaGreatSeenLaw
set_option linter.unusedSimpArgs false
set_option linter.unusedVariables false
set_option maxRecDepth 100000
namespace Go.Proofs.YthabingkfmlbbaaGreat
open Go.Ev
theorem mx_ge (a b : Int) : a ≤ mx a b ∧ b ≤ mx a b ∧ (mx a b = a ∨ mx a b = b) := by
 unfold mx; split <;> omega
abbrev Bx := (Int × Int) × (Int × Int) × Int × Int
def hiT (u : Int) (f t : Int × Int) : Int := mx (u * (t.1 - f.2)) (u * (t.2 - f.1))
def SdOk (s : Int × Int) : Prop := (-1001001 ≤ s.1 ∧ s.1 ≤ 1001001) ∧ -1001001 ≤ s.2 ∧ s.2 ≤ 1001001
theorem mul_bd {u x : Int} (h1 : -100 ≤ u) (h2 : u ≤ 100) (h3 : -2002002 ≤ x) (h4 : x ≤ 2002002) : -200200200 ≤ u * x ∧ u * x ≤ 200200200 := by
 have a := sz_spec u
 have b := sz_spec x
 have c := prod_bound (p := sz u) (q := sz x) (m := 2002002) (by omega) (by omega) (by omega) (by omega)
 have c2 : sz u * sz x ≤ 100 * sz x := Int.mul_le_mul_of_nonneg_right (by omega) (by omega)
 have e : u * x = sz u * sz x ∨ u * x = -(sz u * sz x) := by
  rcases a.2.1 with h | h <;> rcases b.2.1 with h' | h'
  ·left; rw [h, h']
  ·right; rw [h, h', Int.mul_neg, Int.neg_neg]
  ·right; rw [h, h', Int.neg_mul, Int.neg_neg]
  ·left; rw [h, h', Int.neg_mul_neg]
 rcases e with h | h <;> omega
theorem hiT_bd {u : Int} {f t : Int × Int} (h1 : -100 ≤ u) (h2 : u ≤ 100) (hf : SdOk f) (ht : SdOk t) : -200200200 ≤ hiT u f t ∧ hiT u f t ≤ 200200200 := by
 obtain ⟨⟨a1, a2⟩, a3, a4⟩ := hf
 obtain ⟨⟨b1, b2⟩, b3, b4⟩ := ht
 have m1 := mul_bd (u := u) (x := t.1 - f.2) h1 h2 (by omega) (by omega)
 have m2 := mul_bd (u := u) (x := t.2 - f.1) h1 h2 (by omega) (by omega)
 have := mx_ge (u * (t.1 - f.2)) (u * (t.2 - f.1))
 unfold hiT; omega
theorem prod_step {ps : List Int} {fr to : List (Int × Int)} (l1 : ps.length = 3) (l2 : fr.length = 3) (l3 : to.length = 3) (z o : Int × Int) {k : Nat} (hk : k < 3) {u : Int} {f t : Int × Int} (hu : ps.getD k 0 = u) (hf : fr.getD k (0, 0) = f) (ht : to.getD k (0, 0) = t)
 (h1 : -100 ≤ u) (h2 : u ≤ 100) (Hf : SdOk f) (Ht : SdOk t) (ho : -1000000000 ≤ o.2 ∧ o.2 ≤ 1000000000) : ∃ o1, step15_0 (ps, fr, to, (k : Int), z, o) = some (.inl (ps, fr, to, ((k + 1 : Nat) : Int), z, (o1, o.2 + hiT u f t))) := by
 have hb := hiT_bd h1 h2 Hf Ht
 obtain ⟨⟨a1, a2⟩, a3, a4⟩ := Hf
 obtain ⟨⟨b1, b2⟩, b3, b4⟩ := Ht
 have m1 := mul_bd (u := u) (x := t.1 - f.2) h1 h2 (by omega) (by omega)
 have m2 := mul_bd (u := u) (x := t.2 - f.1) h1 h2 (by omega) (by omega)
 have w1 : wr (t.1 - f.2) = t.1 - f.2 := wr_id (by omega) (by omega)
 have w2 : wr (t.2 - f.1) = t.2 - f.1 := wr_id (by omega) (by omega)
 have w3 : wr (u * (t.1 - f.2)) = u * (t.1 - f.2) := wr_id (by omega) (by omega)
 have w4 : wr (u * (t.2 - f.1)) = u * (t.2 - f.1) := wr_id (by omega) (by omega)
 have w5 : wr (o.2 + mx (u * (t.1 - f.2)) (u * (t.2 - f.1))) = o.2 + hiT u f t := wr_id (by have : mx (u * (t.1 - f.2)) (u * (t.2 - f.1)) = hiT u f t := rfl; omega) (by have : mx (u * (t.1 - f.2)) (u * (t.2 - f.1)) = hiT u f t := rfl; omega)
 refine ⟨wr (o.1 + mn (u * (t.1 - f.2)) (u * (t.2 - f.1))), ?_⟩
 simp only [step15_0, dT (show (k : Int) < 3 by omega), cond_true, inB_cast, l1, l2, l3, dT hk, Int.toNat_natCast, hu, hf, ht, w1, w2, w3, w4, w5, wr_succ (show k < 4611686018427387904 by omega)]
def BxOk (b : Bx) : Prop := SdOk b.1 ∧ SdOk b.2.1 ∧ SdOk b.2.2
theorem pathProduct_z {u : Int × Int × Int} (hu : AxOk u) {p q : Bx} (hp : BxOk p) (hq : BxOk q) : ∃ o1, s15 (u, p, q) = some (o1, hiT u.1 p.1 q.1 + hiT u.2.1 p.2.1 q.2.1 + hiT u.2.2 p.2.2 q.2.2) := by
 have b1 := hiT_bd hu.x.1 hu.x.2 hp.1 hq.1
 have b2 := hiT_bd hu.y.1 hu.y.2 hp.2.1 hq.2.1
 have b3 := hiT_bd hu.z.1 hu.z.2 hp.2.2 hq.2.2
 obtain ⟨c0, e0⟩ := prod_step (ps := [u.1, u.2.1, u.2.2]) (fr := [p.1, p.2.1, p.2.2]) (to := [q.1, q.2.1, q.2.2]) rfl rfl rfl (0, 0) (0, 0) (k := 0) (by omega) rfl rfl rfl hu.x.1 hu.x.2 hp.1 hq.1 ⟨by show -1000000000 ≤ (0 : Int); omega, by show (0 : Int) ≤ 1000000000; omega⟩
 obtain ⟨c1, e1⟩ := prod_step (ps := [u.1, u.2.1, u.2.2]) (fr := [p.1, p.2.1, p.2.2]) (to := [q.1, q.2.1, q.2.2]) rfl rfl rfl (0, 0) (c0, 0 + hiT u.1 p.1 q.1) (k := 1) (by omega) rfl rfl rfl hu.y.1 hu.y.2 hp.2.1 hq.2.1 ⟨by show -1000000000 ≤ 0 + hiT u.1 p.1 q.1; omega, by show 0 + hiT u.1 p.1 q.1 ≤ 1000000000; omega⟩
 obtain ⟨c2, e2⟩ := prod_step (ps := [u.1, u.2.1, u.2.2]) (fr := [p.1, p.2.1, p.2.2]) (to := [q.1, q.2.1, q.2.2]) rfl rfl rfl (0, 0) (c1, 0 + hiT u.1 p.1 q.1 + hiT u.2.1 p.2.1 q.2.1) (k := 2) (by omega) rfl rfl rfl hu.z.1 hu.z.2 hp.2.2 hq.2.2 ⟨by show -1000000000 ≤ 0 + hiT u.1 p.1 q.1 + hiT u.2.1 p.2.1 q.2.1; omega, by show 0 + hiT u.1 p.1 q.1 + hiT u.2.1 p.2.1 q.2.1 ≤ 1000000000; omega⟩
 have e3 : step15_0 ([u.1, u.2.1, u.2.2], [p.1, p.2.1, p.2.2], [q.1, q.2.1, q.2.2], ((2 + 1 : Nat) : Int), (0, 0), (c2, 0 + hiT u.1 p.1 q.1 + hiT u.2.1 p.2.1 q.2.1 + hiT u.2.2 p.2.2 q.2.2)) = some (.inr ((0, 0), (c2, 0 + hiT u.1 p.1 q.1 + hiT u.2.1 p.2.1 q.2.1 + hiT u.2.2 p.2.2 q.2.2))) := by
  simp only [step15_0, dF (show ¬ ((2 + 1 : Nat) : Int) < 3 by omega), cond_false]
 have hl : loopVal step15_0 ([u.1, u.2.1, u.2.2], [p.1, p.2.1, p.2.2], [q.1, q.2.1, q.2.2], ((0 : Nat) : Int), (0, 0), (0, 0)) = some ((0, 0), (c2, 0 + hiT u.1 p.1 q.1 + hiT u.2.1 p.2.1 q.2.1 + hiT u.2.2 p.2.2 q.2.2)) := by
  exact (loopVal_next e0).trans ((loopVal_next e1).trans ((loopVal_next e2).trans (loopVal_last e3)))
 have hl : loopVal step15_0 ([u.1, u.2.1, u.2.2], [p.1, p.2.1, p.2.2], [q.1, q.2.1, q.2.2], 0, (0, 0), (0, 0)) = _ := hl
 refine ⟨c2, ?_⟩
 simp only [s15, hl, optE_some, Int.zero_add]
theorem side_ok {n m d : Int} (hm : 1 ≤ m) (h : -(1000000 * m) ≤ n ∧ n ≤ 1000000 * m) (hm2 : m ≤ 10000) (hd : 0 ≤ d ∧ d ≤ 1000) : SdOk (lowOf n m d, highOf n m d) := by
 obtain ⟨e1, e2, h1, h2, h3⟩ := low_eq hm h hm2 hd
 unfold SdOk
 rw [e1, e2]
 show (-1001001 ≤ n / m - d ∧ n / m - d ≤ 1001001) ∧ -1001001 ≤ -((-n) / m) + d ∧ -((-n) / m) + d ≤ 1001001
 omega
theorem side_le {u n m n' m' d d' : Int} (hm : 1 ≤ m) (h : -(1000000 * m) ≤ n ∧ n ≤ 1000000 * m) (hm2 : m ≤ 10000) (hd : 0 ≤ d ∧ d ≤ 1000) (hm' : 1 ≤ m') (h' : -(1000000 * m') ≤ n' ∧ n' ≤ 1000000 * m') (hm2' : m' ≤ 10000) (hd' : 0 ≤ d' ∧ d' ≤ 1000) :
 u * (n' * m - n * m') ≤ (m * m') * hiT u (lowOf n m d, highOf n m d) (lowOf n' m' d', highOf n' m' d') := by
 obtain ⟨e1, e2, _⟩ := low_eq hm h hm2 hd
 obtain ⟨e1', e2', _⟩ := low_eq hm' h' hm2' hd'
 have hD : 0 ≤ m * m' := Int.mul_nonneg (by omega) (by omega)
 have f1 : n / m * m ≤ n := Int.ediv_mul_le n (by omega)
 have f2 : (-n) / m * m ≤ -n := Int.ediv_mul_le (-n) (by omega)
 have f1' : n' / m' * m' ≤ n' := Int.ediv_mul_le n' (by omega)
 have f2' : (-n') / m' * m' ≤ -n' := Int.ediv_mul_le (-n') (by omega)
 obtain ⟨a, ha⟩ : ∃ a, n / m = a := ⟨_, rfl⟩
 obtain ⟨b, hb⟩ : ∃ b, (-n) / m = b := ⟨_, rfl⟩
 obtain ⟨a', ha'⟩ : ∃ a, n' / m' = a := ⟨_, rfl⟩
 obtain ⟨b', hb'⟩ : ∃ b, (-n') / m' = b := ⟨_, rfl⟩
 rw [ha] at f1 e1; rw [hb] at f2 e2; rw [ha'] at f1' e1'; rw [hb'] at f2' e2'
 have g1 : a * m * m' ≤ n * m' := Int.mul_le_mul_of_nonneg_right f1 (by omega)
 have g2 : b * m * m' ≤ -n * m' := Int.mul_le_mul_of_nonneg_right f2 (by omega)
 have g1' : a' * m' * m ≤ n' * m := Int.mul_le_mul_of_nonneg_right f1' (by omega)
 have g2' : b' * m' * m ≤ -n' * m := Int.mul_le_mul_of_nonneg_right f2' (by omega)
 have c1 : a * m * m' = a * (m * m') := Int.mul_assoc _ _ _
 have c2 : b * m * m' = b * (m * m') := Int.mul_assoc _ _ _
 have c1' : a' * m' * m = a' * (m * m') := by rw [Int.mul_assoc, Int.mul_comm m' m]
 have c2' : b' * m' * m = b' * (m * m') := by rw [Int.mul_assoc, Int.mul_comm m' m]
 rw [c1] at g1; rw [c2, Int.neg_mul] at g2; rw [c1'] at g1'; rw [c2', Int.neg_mul] at g2'
 have lo : ((a' - d') - (-b + d)) * (m * m') ≤ n' * m - n * m' := by
  have : ((a' - d') - (-b + d)) * (m * m') ≤ (a' + b) * (m * m') := Int.mul_le_mul_of_nonneg_right (by omega) hD
  rw [Int.add_mul] at this
  omega
 have hi : n' * m - n * m' ≤ ((-b' + d') - (a - d)) * (m * m') := by
  have : (-b' + -a) * (m * m') ≤ ((-b' + d') - (a - d)) * (m * m') := Int.mul_le_mul_of_nonneg_right (by omega) hD
  rw [Int.add_mul, Int.neg_mul, Int.neg_mul] at this
  omega
 unfold hiT
 rw [e1, e2, e1', e2']
 show u * (n' * m - n * m') ≤ (m * m') * mx (u * ((a' - d') - (-b + d))) (u * ((-b' + d') - (a - d)))
 obtain ⟨m1, m2, _⟩ := mx_ge (u * ((a' - d') - (-b + d))) (u * ((-b' + d') - (a - d)))
 by_cases hu : 0 ≤ u
 ·have k1 : u * (n' * m - n * m') ≤ u * (((-b' + d') - (a - d)) * (m * m')) := Int.mul_le_mul_of_nonneg_left hi hu
  have k2 : (m * m') * (u * ((-b' + d') - (a - d))) ≤ (m * m') * mx (u * ((a' - d') - (-b + d))) (u * ((-b' + d') - (a - d))) := Int.mul_le_mul_of_nonneg_left m2 hD
  have k3 : u * (((-b' + d') - (a - d)) * (m * m')) = (m * m') * (u * ((-b' + d') - (a - d))) := by rw [← Int.mul_assoc, Int.mul_comm]
  omega
 ·have k1 : u * (n' * m - n * m') ≤ u * (((a' - d') - (-b + d)) * (m * m')) := Int.mul_le_mul_of_nonpos_left (by omega) lo
  have k2 : (m * m') * (u * ((a' - d') - (-b + d))) ≤ (m * m') * mx (u * ((a' - d') - (-b + d))) (u * ((-b' + d') - (a - d))) := Int.mul_le_mul_of_nonneg_left m1 hD
  have k3 : u * (((a' - d') - (-b + d)) * (m * m')) = (m * m') * (u * ((a' - d') - (-b + d))) := by rw [← Int.mul_assoc, Int.mul_comm]
  omega
theorem box_bd {r : Pt} (hr : PtOk r) {d : Int} (hd : 0 ≤ d ∧ d ≤ 1000) : BxOk (boxOf r d) :=
 ⟨side_ok hr.den.1 hr.x hr.den.2 hd, side_ok hr.den.1 hr.y hr.den.2 hd, side_ok hr.den.1 hr.z hr.den.2 hd⟩
theorem seen_up {u : Int × Int × Int} (hu : AxOk u) {p q : Pt} (hp : PtOk p) (hq : PtOk q) {d d' : Int} (hd : 0 ≤ d ∧ d ≤ 1000) (hd' : 0 ≤ d' ∧ d' ≤ 1000) (h : 0 ≤ loA (gap p q (d + d')) u) :
 0 ≤ hiT u.1 (boxOf p d).1 (boxOf q d').1 + hiT u.2.1 (boxOf p d).2.1 (boxOf q d').2.1 + hiT u.2.2 (boxOf p d).2.2 (boxOf q d').2.2 := by
 have G := gap_ok hp hq (e := d + d') (by omega)
 obtain ⟨_, ho, _⟩ := s67_eq hu G
 have hdot : 0 ≤ dot u (gap p q (d + d')).1.1 := by unfold loA at h; omega
 have a1 := side_le (u := u.1) hp.den.1 hp.x hp.den.2 hd hq.den.1 hq.x hq.den.2 hd'
 have a2 := side_le (u := u.2.1) hp.den.1 hp.y hp.den.2 hd hq.den.1 hq.y hq.den.2 hd'
 have a3 := side_le (u := u.2.2) hp.den.1 hp.z hp.den.2 hd hq.den.1 hq.z hq.den.2 hd'
 have e : dot u (gap p q (d + d')).1.1 = u.1 * (q.1.1 * p.2 - p.1.1 * q.2) + u.2.1 * (q.1.2.1 * p.2 - p.1.2.1 * q.2) + u.2.2 * (q.1.2.2 * p.2 - p.1.2.2 * q.2) := rfl
 have hD := (dens hp hq).1
 have a1 : u.1 * (q.1.1 * p.2 - p.1.1 * q.2) ≤ (p.2 * q.2) * hiT u.1 (boxOf p d).1 (boxOf q d').1 := a1
 have a2 : u.2.1 * (q.1.2.1 * p.2 - p.1.2.1 * q.2) ≤ (p.2 * q.2) * hiT u.2.1 (boxOf p d).2.1 (boxOf q d').2.1 := a2
 have a3 : u.2.2 * (q.1.2.2 * p.2 - p.1.2.2 * q.2) ≤ (p.2 * q.2) * hiT u.2.2 (boxOf p d).2.2 (boxOf q d').2.2 := a3
 obtain ⟨T, hT⟩ : ∃ T, hiT u.1 (boxOf p d).1 (boxOf q d').1 + hiT u.2.1 (boxOf p d).2.1 (boxOf q d').2.1 + hiT u.2.2 (boxOf p d).2.2 (boxOf q d').2.2 = T := ⟨_, rfl⟩
 have hm : (p.2 * q.2) * T = (p.2 * q.2) * hiT u.1 (boxOf p d).1 (boxOf q d').1 + (p.2 * q.2) * hiT u.2.1 (boxOf p d).2.1 (boxOf q d').2.1 + (p.2 * q.2) * hiT u.2.2 (boxOf p d).2.2 (boxOf q d').2.2 := by rw [← hT, Int.mul_add, Int.mul_add]
 rw [hT]
 rcases Int.lt_or_le T 0 with hn | hn
 ·have : (p.2 * q.2) * T < 0 := Int.mul_neg_of_pos_of_neg (by omega) hn
  omega
 ·exact hn
theorem quarter_z (x y : Int) : ∃ q, s12 (x, y) = some q ∧ 0 ≤ q ∧ q < 4 := by
 have hs : ∀ n, s36 n = some (mx n (wr (-n))) := fun n => rfl
 simp only [s12, hs, optE_some]
 cases decide (mx x (wr (-x)) ≥ mx y (wr (-y)))
 ·cases decide (y > 0)
  ·exact ⟨3, rfl, by omega, by omega⟩
  ·exact ⟨1, rfl, by omega, by omega⟩
 ·cases decide (x ≥ 0)
  ·exact ⟨2, rfl, by omega, by omega⟩
  ·exact ⟨0, rfl, by omega, by omega⟩
end Go.Proofs.YthabingkfmlbbaaGreat
