/- Chapter 1: PathEnclosed. -/
import Derived.Test.YtgpfdacidgmelaaEnclosed
set_option linter.unusedSimpArgs false
namespace Go.Proofs.Ytgpfdacidgmelaa
open Go.Ev

theorem s22_eq (p : Tr) : s22 p = some (decide (p.1.length ≤ 14)) := by
  unfold s22
  congr 1
  by_cases h : p.1.length ≤ 14
  · rw [decide_eq_true h, decide_eq_true (by omega)]
  · rw [decide_eq_false h, decide_eq_false (by omega)]
theorem s29_eq (a b : Tr) : s29 (a, b) = some (decide (a.1.length ≤ 14) && decide (b.1.length ≤ 14)) := by
  unfold s29
  simp only [s22_eq, optE_some]
  cases decide (a.1.length ≤ 14) <;> rfl
theorem s31_eq (p : Tr) : s31 p = some (trkE p).2 := by unfold s31; simp only [s26_eq, optE_some]
theorem s30_eq (a b : Tr) : s30 (a, b) = some (bif (trkE a).2 != 0 then (trkE a).2 else (trkE b).2) := by
  unfold s30
  simp only [s31_eq, optE_some]
  cases (trkE a).2 != 0 <;> rfl
theorem s32_eq {a b : Tr} (Va : Valid a) (Vb : Valid b) (time : Int) : s32 (a, b, time) = some (bif tErr time a != 0 then tErr time a else tErr time b) := by
  unfold s32
  simp only [s27_eq Va, s27_eq Vb, optE_some]
  cases tErr time a != 0 <;> rfl
theorem both_zero {x y : Int} : ((bif x != 0 then x else y) != 0) = false ↔ x = 0 ∧ y = 0 := by
  cases h : x != 0
  · have : x = 0 := by simpa using h
    subst this; simp
  · have : x ≠ 0 := by simpa using h
    simp [this]

/-- A range of distances is within bounds. -/
def okR (r : Int × Int) : Prop := (0 ≤ r.1 ∧ r.1 ≤ 10000000) ∧ r.1 ≤ r.2 ∧ r.2 ≤ 10000000
theorem okR_of {n f d : Int} {r : Int × Int} (hd : 1 ≤ d) (h1 : IsLo n d r.1) (h2 : IsHi f d r.2) (h : n ≤ f) : okR r := by
  obtain ⟨a1, a2, a3, a4⟩ := h1
  obtain ⟨b1, b2, b3, b4⟩ := h2
  refine ⟨⟨a1, by omega⟩, le_of_root hd b1 (by omega), by omega⟩

theorem loop6_0 {t1 t2 : Int} {l : List (Int × Int)} {t7 t10 : Tr} {t11 t13 t15 t17 t19 t21 : Int × Int} (hl : l.length ≤ 1000) (h : ∀ k, k < l.length → okR (l.getD k (0, 0))) :
    loopVal step6_0 (t1, t2, l, 0, t7, t10, t11, t13, t15, t17, t19, t21) = some (.inr (t1, t2, t7, t10, t11, t13, t15, t17, t19, t21)) :=
  loop_for (step := step6_0) (st := fun k => (t1, t2, l, (k : Int), t7, t10, t11, t13, t15, t17, t19, t21)) (n := l.length)
    (fun k hk => by
      obtain ⟨h1, h2⟩ := h k hk
      simp only [step6_0, lt_cast, inB_cast, hk, decide_true, cond_true, Int.toNat_natCast, s33_eq, optE_some, win_iff.2 h1, win_iff.2 h2, Bool.not_true, cond_false, wr_succ (show k < 4611686018427387904 by omega)])
    (by simp only [step6_0, lt_cast, Nat.lt_irrefl, decide_false, cond_false]) 0 (by omega)

theorem loop6_2 {m : Int} {one two : List (Int × Int)} {a : Tr} (h1 : one.length = 3) (h2 : two.length = 3)
    (h : ∀ k, k < 3 → (two.getD k (0, 0)).1 = wr ((one.getD k (0, 0)).1 - m) ∧ (two.getD k (0, 0)).2 = wr ((one.getD k (0, 0)).2 + m) ∧ win (wr ((one.getD k (0, 0)).2 - (one.getD k (0, 0)).1)) (wr (2 * a.2)) (wr (wr (2 * a.2) + 1)) = true) :
    loopVal step6_2 (m, one, two, 0, a) = some (.inr ()) :=
  loop_for (step := step6_2) (st := fun k => (m, one, two, (k : Int), a)) (n := 3)
    (fun k hk => by
      obtain ⟨g1, g2, g3⟩ := h k hk
      have e3 : decide ((k : Int) < 3) = true := decide_eq_true (by omega)
      simp only [step6_2, e3, inB_cast, h1, h2, hk, decide_true, cond_true, Int.toNat_natCast, g1, g2, s33_eq, g3, optE_some, bne_self_eq_false, Bool.not_true, cond_false, wr_succ (show k < 4611686018427387904 by omega)])
    (by rfl) 0 (by omega)

theorem enclosed_true (x : (Tr × Tr × Tr) × Int × Int) : s6 x = some true := by
  obtain ⟨⟨a, b, c⟩, time, more⟩ := x
  unfold s6
  simp only [Bool.not_true, cond_false, s29_eq, s22_eq, s30_eq, s31_eq, optE_some]
  by_cases fa : a.1.length ≤ 14
  case neg => rw [decide_eq_false fa]; rfl
  by_cases fb : b.1.length ≤ 14
  case neg => rw [decide_eq_false fb, Bool.and_false]; rfl
  by_cases fc : c.1.length ≤ 14
  case neg => rw [decide_eq_true fa, decide_eq_true fb, decide_eq_false fc]; rfl
  rw [decide_eq_true fa, decide_eq_true fb, decide_eq_true fc]
  simp only [Bool.and_self, Bool.not_true, cond_false]
  cases hab : (bif (trkE a).2 != 0 then (trkE a).2 else (trkE b).2) != 0
  case true => rfl
  obtain ⟨ha, hb⟩ := both_zero.1 hab
  simp only [cond_false]
  cases hc' : (trkE c).2 != 0
  case true => rfl
  have hc : (trkE c).2 = 0 := by simpa using hc'
  have Va := valid_of ha
  have Vb := valid_of hb
  have Vc := valid_of hc
  simp only [cond_false, s32_eq Va Vb, s27_eq Vc, optE_some]
  cases hab : (bif tErr time a != 0 then tErr time a else tErr time b) != 0
  case true => rfl
  obtain ⟨ta, tb⟩ := both_zero.1 hab
  simp only [cond_false]
  cases hc' : tErr time c != 0
  case true => rfl
  have tc : tErr time c = 0 := by simpa using hc'
  have hda := Va.doubt
  have hdb := Vb.doubt
  have hdc := Vc.doubt
  rw [wr_id (n := 1000 - a.2) (by omega) (by omega)]
  simp only [cond_false, s33_eq, optE_some]
  cases hm' : win more 0 (1000 - a.2)
  case false => rfl
  have hm := win_iff.1 hm'
  have hw : wr (a.2 + more) = a.2 + more := wr_id (by omega) (by omega)
  simp only [Bool.not_true, cond_false, copy_ok (p := a) (by omega), copy_ok (p := b) (by omega), copy_ok (p := c) (by omega), optE_some, hw]
  have hwide := trk_doubt ha (e := a.2 + more) (by omega)
  have Vw := valid_of hwide
  have tw : tErr time (a.1, a.2 + more) = 0 := ta
  rw [copy_ok (p := (a.1, a.2 + more)) (by show a.1.length ≤ 1000; omega)]
  obtain ⟨p, p1, _, pk, m, pm, pe⟩ := at_ok Va (time := time) (win_iff.1 (unl_zero (by omega) ta))
  obtain ⟨q, q1, _, qk, _⟩ := at_ok Vb (time := time) (win_iff.1 (unl_zero (by omega) tb))
  obtain ⟨r, r1, _, rk, _⟩ := at_ok Vc (time := time) (win_iff.1 (unl_zero (by omega) tc))
  obtain ⟨p', w1, _, _, m', wm, we⟩ := at_ok Vw (time := time) (win_iff.1 (unl_zero (by omega) tw))
  have hpp : p' = p := by rw [we, pe, pm.uniq wm]
  rw [hpp] at w1
  obtain ⟨p2, p3⟩ := pk.den
  obtain ⟨q2, q3⟩ := qk.den
  obtain ⟨r2, r3⟩ := rk.den
  obtain ⟨X, x1, x2, x3⟩ := dist_ok ha hb ta tb p1 q1 pk qk
  obtain ⟨Y, y1, y2, y3⟩ := dist_ok hb ha tb ta q1 p1 qk pk
  obtain ⟨Z, z1, z2, z3⟩ := dist_ok ha hc ta tc p1 r1 pk rk
  obtain ⟨V, v1, v2, v3⟩ := dist_ok hc hb tc tb r1 q1 rk qk
  obtain ⟨U, u1, u2, u3⟩ := dist_ok hwide hb tw tb w1 q1 pk qk
  obtain ⟨O, o1, o2, o3⟩ := dist_ok ha ha ta ta p1 p1 pk pk
  have dpq := (dens pk qk).1
  have dpr := (dens pk rk).1
  have drq := (dens rk qk).1
  have dpp := (dens pk pk).1
  -- the same either way
  rw [Int.mul_comm q.2 p.2, (near_sym p q _).1, Int.add_comm b.2 a.2] at y2
  rw [Int.mul_comm q.2 p.2, (near_sym p q _).2, Int.add_comm b.2 a.2] at y3
  have xy : Y = X := Prod.ext (Int.le_antisymm (y2.mono dpq x2 (Int.le_refl _)) (x2.mono dpq y2 (Int.le_refl _))) (Int.le_antisymm (y3.mono dpq x3 (Int.le_refl _)) (x3.mono dpq y3 (Int.le_refl _)))
  -- the triangle
  have nx := near_real (p := p) (q := q) (e := a.2 + b.2) (by omega) (by omega)
  have nz := near_real (p := p) (q := r) (e := a.2 + c.2) (by omega) (by omega)
  have nv := near_real (p := r) (q := q) (e := c.2 + b.2) (by omega) (by omega)
  have nu := near_real (p := p) (q := q) (e := a.2 + more + b.2) (by omega) (by omega)
  have no := near_real (p := p) (q := p) (e := a.2 + a.2) (by omega) (by omega)
  have tri : X.1 ≤ Z.2 + V.2 := triangle p2 q2 r2 z3.1 v3.1 (Int.le_trans x2.2.2.1 nx.1) (Int.le_trans nz.2 z3.2.2.1) (Int.le_trans nv.2 v3.2.2.1)
  -- a greater doubt
  have mo := near_mono (p := p) (q := q) (e := a.2 + b.2) (e' := a.2 + more + b.2) (by omega) (by omega) (by omega)
  have ux1 : U.1 ≤ X.1 := IsLo.mono dpq u2 x2 mo.1
  have ux2 : X.2 ≤ U.2 := IsHi.mono dpq x3 u3 mo.2
  -- of a track from itself
  have hself : far (gap p p (a.2 + a.2)) = 3 * (((2 * a.2) * (p.2 * p.2)) * ((2 * a.2) * (p.2 * p.2))) ∧ real p p = 0 := by
    unfold far far1 gap real
    simp only [Int.sub_self]
    have e0 : sz 0 = 0 := by decide
    simp only [e0, Int.zero_add]
    constructor
    · rw [show a.2 + a.2 = 2 * a.2 by omega]; omega
    · rfl
  have own1 : O.1 = 0 := by
    obtain ⟨g1, g2, g3, g4⟩ := o2
    rw [hself.2] at no
    rcases (show 1 ≤ O.1 ∨ O.1 = 0 by omega) with h | h
    · have h1 := root_mono (r := 1) (s := O.1) dpp (by omega) h
      have h2 := Int.mul_pos (show 0 < 1 * (p.2 * p.2) by omega) (show 0 < 1 * (p.2 * p.2) by omega)
      omega
    · exact h
  have hs4 : ((4 * a.2) * (p.2 * p.2)) * ((4 * a.2) * (p.2 * p.2)) = 4 * (((2 * a.2) * (p.2 * p.2)) * ((2 * a.2) * (p.2 * p.2))) := by grind
  have hs0 := sq_nonneg ((2 * a.2) * (p.2 * p.2))
  have own2 : 2 * a.2 ≤ O.2 := by
    have := o3.2.2.1
    rw [hself.1] at this
    exact le_of_root dpp o3.1 (by omega)
  have own3 : O.2 ≤ 4 * a.2 := by
    rcases (show 4 * a.2 < O.2 ∨ O.2 ≤ 4 * a.2 by omega) with h | h
    · have h1 := o3.2.2.2 (by omega)
      rw [hself.1] at h1
      have h2 := root_mono (r := 4 * a.2) (s := O.2 - 1) dpp (by omega) (by omega)
      omega
    · exact h
  -- the boxes
  have b1 := box_val ha ta p1 pk
  have b2 := box_val hwide tw w1 pk
  have bx := low_eq (n := p.1.1) (m := p.2) (d := a.2) p2 pk.x p3 hda
  have by' := low_eq (n := p.1.2.1) (m := p.2) (d := a.2) p2 pk.y p3 hda
  have bz := low_eq (n := p.1.2.2) (m := p.2) (d := a.2) p2 pk.z p3 hda
  have cx := low_eq (n := p.1.1) (m := p.2) (d := a.2 + more) p2 pk.x p3 (by omega)
  have cy := low_eq (n := p.1.2.1) (m := p.2) (d := a.2 + more) p2 pk.y p3 (by omega)
  have cz := low_eq (n := p.1.2.2) (m := p.2) (d := a.2 + more) p2 pk.z p3 (by omega)
  have row : ∀ {f g : Int}, (-1000000 ≤ f ∧ f ≤ 1000000) → 0 ≤ g - f → g - f ≤ 1 → f - (a.2 + more) = wr (f - a.2 - more) ∧ g + (a.2 + more) = wr (g + a.2 + more) ∧ win (wr (g + a.2 - (f - a.2))) (wr (2 * a.2)) (wr (wr (2 * a.2) + 1)) = true := by
    intro f g hf h0 h1
    rw [wr_id (n := f - a.2 - more) (by omega) (by omega), wr_id (n := g + a.2 + more) (by omega) (by omega), wr_id (n := g + a.2 - (f - a.2)) (by omega) (by omega), wr_id (n := 2 * a.2) (by omega) (by omega), wr_id (n := 2 * a.2 + 1) (by omega) (by omega)]
    exact ⟨by omega, by omega, win_iff.2 (by omega)⟩
  have l2 := loop6_2 (m := more) (one := [(boxOf p a.2).1, (boxOf p a.2).2.1, (boxOf p a.2).2.2]) (two := [(boxOf p (a.2 + more)).1, (boxOf p (a.2 + more)).2.1, (boxOf p (a.2 + more)).2.2]) (a := a) rfl rfl (fun k hk => by
    match k, hk with
    | 0, _ => show lowOf p.1.1 p.2 (a.2 + more) = wr (lowOf p.1.1 p.2 a.2 - more) ∧ highOf p.1.1 p.2 (a.2 + more) = wr (highOf p.1.1 p.2 a.2 + more) ∧ win (wr (highOf p.1.1 p.2 a.2 - lowOf p.1.1 p.2 a.2)) (wr (2 * a.2)) (wr (wr (2 * a.2) + 1)) = true
              rw [bx.1, bx.2.1, cx.1, cx.2.1]; exact row bx.2.2.1 bx.2.2.2.1 bx.2.2.2.2
    | 1, _ => show lowOf p.1.2.1 p.2 (a.2 + more) = wr (lowOf p.1.2.1 p.2 a.2 - more) ∧ highOf p.1.2.1 p.2 (a.2 + more) = wr (highOf p.1.2.1 p.2 a.2 + more) ∧ win (wr (highOf p.1.2.1 p.2 a.2 - lowOf p.1.2.1 p.2 a.2)) (wr (2 * a.2)) (wr (wr (2 * a.2) + 1)) = true
              rw [by'.1, by'.2.1, cy.1, cy.2.1]; exact row by'.2.2.1 by'.2.2.2.1 by'.2.2.2.2
    | 2, _ => show lowOf p.1.2.2 p.2 (a.2 + more) = wr (lowOf p.1.2.2 p.2 a.2 - more) ∧ highOf p.1.2.2 p.2 (a.2 + more) = wr (highOf p.1.2.2 p.2 a.2 + more) ∧ win (wr (highOf p.1.2.2 p.2 a.2 - lowOf p.1.2.2 p.2 a.2)) (wr (2 * a.2)) (wr (wr (2 * a.2) + 1)) = true
              rw [bz.1, bz.2.1, cz.1, cz.2.1]; exact row bz.2.2.1 bz.2.2.2.1 bz.2.2.2.2)
  have l1 := loop6_0 (t1 := time) (t2 := more) (l := [X, Z, V, U, O]) (t7 := a) (t10 := (a.1, a.2 + more)) (t11 := X) (t13 := X) (t15 := Z) (t17 := V) (t19 := U) (t21 := O) (by simp) (fun k hk => by
    match k, hk with
    | 0, _ => exact okR_of dpq x2 x3 (Int.le_trans nx.1 nx.2)
    | 1, _ => exact okR_of dpr z2 z3 (Int.le_trans nz.1 nz.2)
    | 2, _ => exact okR_of drq v2 v3 (Int.le_trans nv.1 nv.2)
    | 3, _ => exact okR_of dpq u2 u3 (Int.le_trans nu.1 nu.2)
    | 4, _ => exact okR_of dpp o2 o3 (Int.le_trans no.1 no.2))
  have hz3 := z3.2.1
  have hv3 := v3.2.1
  have hz0 := z3.1
  have hv0 := v3.1
  rw [xy] at y1
  simp only [x1, y1, z1, v1, u1, o1, optE_some, show ((0 : Int) != 0) = false from rfl, cond_false, l1, sumE_r, beq_self_eq_true, Bool.and_self, Bool.not_true, copy_ok (p := a) (by omega), copy_ok (p := (a.1, a.2 + more)) (show a.1.length ≤ 1000 by omega), b1, b2, l2]
  rw [wr_id (n := Z.2 + V.2) (by omega) (by omega), wr_id (n := 2 * a.2) (by omega) (by omega), wr_id (n := 4 * a.2) (by omega) (by omega), decide_eq_false (show ¬ X.1 > Z.2 + V.2 by omega), decide_eq_false (show ¬ U.1 > X.1 by omega), decide_eq_false (show ¬ U.2 < X.2 by omega),
    decide_eq_false (show ¬ O.2 < 2 * a.2 by omega), decide_eq_false (show ¬ O.2 > 4 * a.2 by omega), own1]
  rfl
end Go.Proofs.Ytgpfdacidgmelaa
