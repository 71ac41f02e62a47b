/- Chapter 1: sites, and what they see, by the reference; PathSites. -/
import Derived.Test.YtgpfdacidgmelaaGreatSignal
import Derived.Test.YtgpfdacidgmelaaGreatSeen
set_option linter.unusedSimpArgs false
namespace Go.Proofs.YtgpfdacidgmelaaGreat
open Go.Ev

/-! Errors -/
def dirE (v : Int × Int × Int) : Int := bif !(axR v) then 2 else bif zeroB v then 11 else 0
def hitC (l : List Co) (k : Nat) : Option ((Int × Int) ⊕ Unit) := bif coneE (l.getD k ((0, 0, 0), 0, 0)) != 0 then some (.inl ((k : Int), coneE (l.getD k ((0, 0, 0), 0, 0)))) else none
def siteE (s : Si) : Int × Int :=
  bif !(axR s.1) then (0, 2) else bif zeroB s.1 then (0, 11) else bif decide (4 < s.2.length) then (0, 8) else match scan (hitC s.2) (.inr ()) s.2.length 0 with | .inl x => x | .inr _ => (0, 0)

theorem dir_eq (v : Int × Int × Int) : s79 v = some (dirE v) := by
  unfold s79 dirE axR
  simp only [s116, s114, s115_100, optE_some, s66_eq]
  have hz : ((v.1 == 0) && ((v.2.1 == 0) && ((v.2.2 == 0) && true))) = zeroB v := rfl
  rw [hz]
  cases win v.1 (-100) 100
  · simp only [cond_false, optE_some]
    rw [s65_eq _ (by simp)]; rfl
  · cases win v.2.1 (-100) 100
    · simp only [cond_false, cond_true, optE_some]
      rw [s65_eq _ (by simp)]; rfl
    · simp only [cond_true, optE_some]
      rw [s65_eq _ (by simp)]
      cases win v.2.2 (-100) 100
      · rfl
      · cases zeroB v <;> rfl
theorem cone_first (c : Co) : firstE [dirE c.1, unl (win c.2.2 1 100 && win c.2.1 0 c.2.2) 2] = coneE c := by
  rw [firstE_two]
  unfold dirE coneE
  cases axR c.1
  · rfl
  · cases zeroB c.1
    · cases win c.2.2 1 100
      · rfl
      · cases win c.2.1 0 c.2.2 <;> rfl
    · rfl
theorem siteP_loop (l : List Co) (hl : l.length ≤ 1000) : loopVal step34_0 (l, (l.length : Int), 0) = some (scan (hitC l) (.inr ()) l.length 0) :=
  loop_scan (step := step34_0) (st := fun k => (l, (l.length : Int), (k : Int))) (hit := hitC l) (n := l.length) (e := .inr ())
    (fun k hk => by
      obtain ⟨c, hcc⟩ : ∃ c, l.getD k ((0, 0, 0), 0, 0) = c := ⟨_, rfl⟩
      have hf := cone_first c
      simp only [step34_0, lt_cast, inB_cast, hk, decide_true, cond_true, Int.toNat_natCast, dir_eq, s80_eq, s66_eq, optE_some, wr_succ (show k < 4611686018427387904 by omega), hcc, hitC]
      cases h1 : win c.2.2 1 100
      · rw [h1, Bool.false_and] at hf
        simp only [cond_false]
        rw [s65_eq _ (by simp), hf]
        simp only [optE_some]
        cases coneE c != 0 <;> rfl
      · rw [h1, Bool.true_and] at hf
        simp only [cond_true]
        rw [s65_eq _ (by simp), hf]
        simp only [optE_some]
        cases coneE c != 0 <;> rfl)
    (by simp only [step34_0, lt_cast, Nat.lt_irrefl, decide_false, cond_false]) l.length 0 (by omega)
theorem siteR_loop (s : Si) (hl : s.2.length ≤ 1000) : loopVal step38_0 (0, s) = some (scan (hitC s.2) (.inr ()) s.2.length 0) :=
  loop_scan (step := step38_0) (st := fun k => ((k : Int), s)) (hit := hitC s.2) (n := s.2.length) (e := .inr ())
    (fun k hk => by
      obtain ⟨c, hcc⟩ : ∃ c, s.2.getD k ((0, 0, 0), 0, 0) = c := ⟨_, rfl⟩
      simp only [step38_0, lt_cast, inB_cast, hk, decide_true, cond_true, Int.toNat_natCast, s83_eq, s28_eq, optE_some, wr_succ (show k < 4611686018427387904 by omega), hcc, hitC]
      unfold coneE
      cases h1 : axR c.1
      · rfl
      · have h2' : ((c.1.1 == 0) && ((c.1.2.1 == 0) && ((c.1.2.2 == 0) && true))) = zeroB c.1 := rfl
        rw [h2']
        cases zeroB c.1
        · cases win c.2.2 1 100
          · rfl
          · cases win c.2.1 0 c.2.2 <;> rfl
        · rfl)
    (by simp only [step38_0, lt_cast, Nat.lt_irrefl, decide_false, cond_false]) s.2.length 0 (by omega)

theorem siteP (s : Si) (hl : s.2.length ≤ 1000) : s34 s = some (siteE s) := by
  unfold s34 siteE
  simp only [dir_eq, s66_eq, optE_some]
  rw [s65_eq _ (by simp), firstE_two]
  simp only [optE_some]
  unfold dirE
  cases axR s.1
  · rfl
  · cases zeroB s.1
    · by_cases h : 4 < s.2.length
      · rw [decide_eq_true h, decide_eq_false (show ¬ (s.2.length : Int) ≤ 4 by omega)]; rfl
      · rw [decide_eq_false h, decide_eq_true (show (s.2.length : Int) ≤ 4 by omega)]
        simp only [Bool.not_true, cond_false, show ((0 : Int) != 0) = false from rfl, unl, cond_true, siteP_loop s.2 hl, optE_some]
        cases scan (hitC s.2) (.inr ()) s.2.length 0 <;> rfl
    · rfl
theorem siteR (s : Si) (hl : s.2.length ≤ 1000) : s38 s = some (siteE s) := by
  unfold s38 siteE
  simp only [s83_eq, optE_some, siteR_loop s hl]
  have h2' : ((s.1.1 == 0) && ((s.1.2.1 == 0) && ((s.1.2.2 == 0) && true))) = zeroB s.1 := rfl
  rw [h2']
  cases axR s.1
  · rfl
  · cases zeroB s.1
    · by_cases h : 4 < s.2.length
      · rw [decide_eq_true h, decide_eq_true (show (s.2.length : Int) > 4 by omega)]; rfl
      · rw [decide_eq_false h, decide_eq_false (show ¬ (s.2.length : Int) > 4 by omega)]
        simp only [Bool.not_true, cond_false]
        cases scan (hitC s.2) (.inr ()) s.2.length 0 <;> rfl
    · rfl
theorem site_ok {s : Si} (hl : s.2.length ≤ 1000) (h : (siteE s).2 = 0) : SiteOk s := by
  obtain ⟨r, h1, h2⟩ := s38_eq hl
  rw [siteR s hl] at h1
  obtain rfl := Option.some.inj h1
  exact h2 h

def viewE (s : Si) (a b : Tr) : Int := bif (siteE s).2 != 0 then (siteE s).2 else bothE a b
theorem viewR {s : Si} (hl : s.2.length ≤ 1000) (a b : Tr) : s39 (s, a, b) = some (viewE s a b) := by
  have hbe := s16_eq a b
  rw [show (bif (trkE a).2 != 0 then (trkE a).2 else (trkE b).2) = bothE a b from rfl] at hbe
  unfold s39 viewE
  simp only [siteR s hl, hbe, optE_some]
  cases (siteE s).2 != 0 <;> rfl
theorem viewP {s : Si} (hl : s.2.length ≤ 1000) (a b : Tr) : s81 (s, a, b) = some (viewE s a b) := by
  unfold s81 viewE
  simp only [siteP s hl, trackErr2, optE_some]
  rw [s65_eq _ (by simp), firstE_two]
  rfl
theorem viewE_zero {s : Si} {a b : Tr} (h : viewE s a b = 0) : (siteE s).2 = 0 ∧ bothE a b = 0 := by
  refine both_zero.1 ?_
  unfold viewE at h
  rw [h]; rfl

/-! What is seen -/
theorem refDot {w : Int × Int × Int} (h : AxOk w) {g : Gp} (G : GpOk g) : s85 (w, g.1.1) = some (dot w g.1.1) := (dot_bd h G).2.2
theorem refSpread {w : Int × Int × Int} (h : AxOk w) : s86 w = some (siz w) ∧ 0 ≤ siz w ∧ siz w ≤ 300 := by
  obtain ⟨hx, hy, hz⟩ := h
  obtain ⟨x1, x2, _⟩ := sz_spec w.1
  obtain ⟨y1, y2, _⟩ := sz_spec w.2.1
  obtain ⟨z1, z2, _⟩ := sz_spec w.2.2
  have e : ∀ n : Int, -100 ≤ n → n ≤ 100 → s93 n = some (sz n) := fun n h1 h2 => by
    unfold s93
    rw [wr_id (n := -n) (by omega) (by omega)]; rfl
  refine ⟨?_, by unfold siz; omega, by unfold siz; omega⟩
  unfold s86
  simp only [e w.1 hx.1 hx.2, e w.2.1 hy.1 hy.2, e w.2.2 hz.1 hz.2, optE_some]
  rw [wr_id (n := sz w.1 + sz w.2.1) (by omega) (by omega), wr_id (by omega) (by omega)]
  rfl
theorem refHides {c : Co} (h : ConeOk c) {p q : Int} (hp1 : -70000000000000000 ≤ p) (hp2 : p ≤ 70000000000000000) {w : Int × List Int} (hw : IsW w q 10) : s87 (c, p, w) = some (hid c p q) := by
  obtain ⟨a1, a2, a3⟩ := self_dot h.axis
  obtain ⟨n1, n2⟩ := h.num
  obtain ⟨e1, e2⟩ := h.den
  have k1 := Int.mul_nonneg n1 a1
  have k2 : c.2.1 * dot c.1 c.1 ≤ 100 * 30000 := Int.mul_le_mul (by omega) a2 a1 (by omega)
  have hsq : s122 c.1 = some (dot c.1 c.1) := by
    have : s122 c.1 = optE (s146 (c.1, c.1)) (fun r => some r) none := rfl
    rw [this, a3]; rfl
  obtain ⟨u, u1, u2⟩ := s78_eq (n := p) (by omega) (by omega)
  obtain ⟨v, v1, v2⟩ := s108_eq (n := c.2.2) (by omega) (by omega)
  obtain ⟨x, x1, x2⟩ := s113_eq u2 v2 (by omega)
  obtain ⟨y, y1, y2⟩ := s108_eq (n := c.2.1 * dot c.1 c.1) (by omega) (by omega)
  obtain ⟨z, z1, z2⟩ := s113_eq hw y2 (by omega)
  unfold s87 hid
  simp only [u1, v1, x1, hsq, optE_some, wr_id (n := c.2.1 * dot c.1 c.1) (by omega) (by omega), y1, z1]
  by_cases hp : p > 0
  · rw [decide_eq_true hp, cond_true, s77_eq (k := 14) (x2.more (by omega)) (z2.more (by omega)) (by omega)]
    simp only [optE_some, cmpI_gt, Bool.true_and]
  · rw [decide_eq_false hp, cond_false, Bool.false_and]

theorem ref_loop {s : Si} (S : SiteOk s) (a b : Tr) {g : Gp} (G : GpOk g) {u w : Int × List Int} (hu : IsW u (near g) 10) (hw : IsW w (far g) 10) (y0 n0 : Bool) :
    loopVal step40_0 (g.2 * g.1.2, y0, n0, 0, (s, a, b), g.1, u, w) = some (y0 && s.2.all (fun c => !hid c (hiA g c.1) (near g)), n0 || s.2.any (fun c => hid c (loA g c.1) (far g))) := by
  have hm := S.most
  have h := loop_for (step := step40_0) (st := fun k => (g.2 * g.1.2, y0 && (s.2.take k).all (fun c => !hid c (hiA g c.1) (near g)), n0 || (s.2.take k).any (fun c => hid c (loA g c.1) (far g)), (k : Int), (s, a, b), g.1, u, w)) (n := s.2.length)
    (e := (y0 && s.2.all (fun c => !hid c (hiA g c.1) (near g)), n0 || s.2.any (fun c => hid c (loA g c.1) (far g))))
    (fun k hk => by
      have hmem : s.2.getD k ((0, 0, 0), 0, 0) ∈ s.2 := by rw [List.getD_eq_getElem?_getD, List.getElem?_eq_getElem hk]; exact List.getElem_mem hk
      have C := S.cone _ hmem
      obtain ⟨b1, b2, _⟩ := dot_bd C.axis G
      obtain ⟨_, a2, a3⟩ := s118_eq C.axis G
      have h1 := refHides C (p := hiA g (s.2.getD k ((0, 0, 0), 0, 0)).1) (by unfold hiA; omega) (by unfold hiA; omega) hu
      have h2 := refHides C (p := loA g (s.2.getD k ((0, 0, 0), 0, 0)).1) (by unfold loA; omega) (by unfold loA; omega) hw
      have t1 : (s.2.take (k + 1)).all (fun c => !hid c (hiA g c.1) (near g)) = ((s.2.take k).all (fun c => !hid c (hiA g c.1) (near g)) && !hid (s.2.getD k ((0, 0, 0), 0, 0)) (hiA g (s.2.getD k ((0, 0, 0), 0, 0)).1) (near g)) := by
        rw [← take_succ_getD s.2 ((0, 0, 0), 0, 0) hk, List.all_append]; simp only [List.all_cons, List.all_nil, Bool.and_true]
      have t2 : (s.2.take (k + 1)).any (fun c => hid c (loA g c.1) (far g)) = ((s.2.take k).any (fun c => hid c (loA g c.1) (far g)) || hid (s.2.getD k ((0, 0, 0), 0, 0)) (loA g (s.2.getD k ((0, 0, 0), 0, 0)).1) (far g)) := by
        rw [← take_succ_getD s.2 ((0, 0, 0), 0, 0) hk, List.any_append]; simp only [List.any_cons, List.any_nil, Bool.or_false]
      rw [t1, t2, ← Bool.and_assoc, ← Bool.or_assoc]
      generalize (y0 && (s.2.take k).all (fun c => !hid c (hiA g c.1) (near g))) = x
      generalize (n0 || (s.2.take k).any (fun c => hid c (loA g c.1) (far g))) = y
      obtain ⟨sp1, sp2, sp3⟩ := refSpread C.axis
      have eo : g.2 * g.1.2 * siz (s.2.getD k ((0, 0, 0), 0, 0)).1 = off g (s.2.getD k ((0, 0, 0), 0, 0)).1 := Int.mul_right_comm _ _ _
      have e1 : wr (g.2 * g.1.2 * siz (s.2.getD k ((0, 0, 0), 0, 0)).1) = off g (s.2.getD k ((0, 0, 0), 0, 0)).1 := by rw [eo, wr_id (by omega) (by omega)]
      have e2 : wr (dot (s.2.getD k ((0, 0, 0), 0, 0)).1 g.1.1 + off g (s.2.getD k ((0, 0, 0), 0, 0)).1) = hiA g (s.2.getD k ((0, 0, 0), 0, 0)).1 := by rw [wr_id (by omega) (by omega)]; rfl
      have e3 : wr (dot (s.2.getD k ((0, 0, 0), 0, 0)).1 g.1.1 - off g (s.2.getD k ((0, 0, 0), 0, 0)).1) = loA g (s.2.getD k ((0, 0, 0), 0, 0)).1 := by rw [wr_id (by omega) (by omega)]; rfl
      simp only [step40_0, lt_cast, inB_cast, hk, decide_true, cond_true, Int.toNat_natCast, refDot C.axis G, sp1, optE_some, e1, e2, e3, h1, h2, wr_succ (show k < 4611686018427387904 by omega)]
      cases x <;> cases y <;> rfl)
    (by simp only [step40_0, lt_cast, Nat.lt_irrefl, decide_false, cond_false, List.take_length]) 0 (by omega)
  simpa using h

/-- The answer by the reference. -/
theorem ref_sees {s : Si} (S : SiteOk s) {a b : Tr} (hab : bothE a b = 0) {t : Int} (ht : timesE t a b = 0) : ∃ g, GpOk g ∧ s63 (a, t, b, t) = some g ∧ s40 ((s, a, b), t) = some (answer s g) := by
  obtain ⟨ha, hb⟩ := bothE_zero hab
  obtain ⟨ta, tb⟩ := timesE_zero ht
  have Va := valid_of ha
  have Vb := valid_of hb
  have da := Va.doubt
  have db := Vb.doubt
  obtain ⟨p, p1, p2, pk, _⟩ := at_ok Va (time := t) (tErr_of.1 ta)
  obtain ⟨q, q1, q2, qk, _⟩ := at_ok Vb (time := t) (tErr_of.1 tb)
  have G := gap_ok pk qk (e := a.2 + b.2) (by omega)
  have hbt := s84_eq p2 q2 pk qk (a.2 + b.2)
  obtain ⟨u, w, k1, k2, k3⟩ := s69_eq p2 q2 pk qk da db
  have hpb := s63_eq p1 q1 pk qk da db
  have hg2 : (gap p q (a.2 + b.2)).2 = a.2 + b.2 := rfl
  refine ⟨_, G, hpb, ?_⟩
  generalize gap p q (a.2 + b.2) = g at hbt k2 k3 G hg2 ⊢
  obtain ⟨d1, d2⟩ := G.den
  obtain ⟨b1, b2⟩ := G.by'
  obtain ⟨c1, c2, _⟩ := dot_bd S.up G
  obtain ⟨_, a2, a3⟩ := s118_eq S.up G
  obtain ⟨sp1, sp2, sp3⟩ := refSpread S.up
  have e1 : wr (a.2 + b.2) = g.2 := by rw [hg2, wr_id (by omega) (by omega)]
  have e2 : wr (g.2 * g.1.2) = g.2 * g.1.2 := wr_id (by omega) (by omega)
  have eo : g.2 * g.1.2 * siz s.1 = off g s.1 := Int.mul_right_comm _ _ _
  have e3 : wr (g.2 * g.1.2 * siz s.1) = off g s.1 := by rw [eo, wr_id (by omega) (by omega)]
  have e4 : wr (dot s.1 g.1.1 - off g s.1) = loA g s.1 := by rw [wr_id (by omega) (by omega)]; rfl
  have e5 : wr (dot s.1 g.1.1 + off g s.1) = hiA g s.1 := by rw [wr_id (by omega) (by omega)]; rfl
  have hl := ref_loop S a b G k2 k3 (decide (loA g s.1 ≥ 0)) (decide (hiA g s.1 < 0))
  unfold s40
  simp only [hbt, k1, refDot S.up G, sp1, optE_some, e1, e2, e3, e4, e5, hl]
  show (bif never s g then some 0 else bif sure s g then some 2 else some 1) = some (answer s g)
  unfold answer
  cases hn : never s g
  · cases sure s g <;> rfl
  · rw [excl S G hn]; rfl

theorem see_view {s : Si} (hl : s.2.length ≤ 1000) {a b : Tr} (h : viewE s a b ≠ 0) (t : Int) : s36 ((s, a, b), t) = some (0, viewE s a b) := by
  unfold s36
  simp only [viewP hl, optE_some, ne_true h, cond_true]
theorem see_times {s : Si} (hl : s.2.length ≤ 1000) {a b : Tr} (h : viewE s a b = 0) {t : Int} (ht : timesE t a b ≠ 0) : s36 ((s, a, b), t) = some (0, timesE t a b) := by
  obtain ⟨ha, hb⟩ := bothE_zero (viewE_zero h).2
  unfold s36
  simp only [viewP hl, optE_some, ne_false h, cond_false, timeErr2 (valid_of ha) (valid_of hb), ne_true ht, cond_true]
theorem see_ok {s : Si} (hl : s.2.length ≤ 1000) {a b : Tr} (h : viewE s a b = 0) {t : Int} (ht : timesE t a b = 0) : ∃ n, s36 ((s, a, b), t) = some (n, 0) ∧ s82 ((s, a, b), t) = some n ∧ s40 ((s, a, b), t) = some n := by
  obtain ⟨hs, hab⟩ := viewE_zero h
  obtain ⟨ha, hb⟩ := bothE_zero hab
  have S := site_ok hl hs
  obtain ⟨g, G, h1, h2⟩ := ref_sees S hab ht
  have h3 := s82_eq S G h1
  refine ⟨answer s g, ?_, h3, h2⟩
  unfold s36
  simp only [viewP hl, optE_some, ne_false h, cond_false, timeErr2 (valid_of ha) (valid_of hb), ne_false ht, h3]

theorem copySite {s : Si} (hs : s.2.length ≤ 1000) : s35 s = some s := by
  obtain ⟨u, cs⟩ := s
  cases cs with
  | nil => rfl
  | cons c cs =>
    have hr : room 40 (cs.length + 1) = true := room_true (by simp at hs; omega) (by simp at hs; omega)
    simp only [s35, listE, hr, cond_true]
theorem copyView {s : Si} {a b : Tr} (hs : s.2.length ≤ 1000) (ha : a.1.length ≤ 1000) (hb : b.1.length ≤ 1000) : s37 (s, a, b) = some (s, a, b) := by
  unfold s37
  simp only [copySite hs, copy_ok ha, copy_ok hb, optE_some]
theorem viewL (s : Si) (a b : Tr) : s33 (s, a, b) = some ((decide (a.1.length ≤ 14) && decide (b.1.length ≤ 14)) && decide (s.2.length ≤ 6)) := by
  unfold s33
  simp only [s12_eq, optE_some]
  have : decide ((s.2.length : Int) ≤ 6) = decide (s.2.length ≤ 6) := by
    by_cases h : s.2.length ≤ 6
    · rw [decide_eq_true h, decide_eq_true (by omega)]
    · rw [decide_eq_false h, decide_eq_false (by omega)]
  rw [this]
  cases (decide (a.1.length ≤ 14) && decide (b.1.length ≤ 14)) <;> rfl

theorem sites_true (x : Vw × Int) : s8 x = some true := by
  obtain ⟨⟨s, a, b⟩, t⟩ := x
  unfold s8
  simp only [Bool.not_true, cond_false, viewL, optE_some]
  cases hf : (decide (a.1.length ≤ 14) && decide (b.1.length ≤ 14)) && decide (s.2.length ≤ 6)
  case false => rfl
  simp only [Bool.and_eq_true, decide_eq_true_eq] at hf
  obtain ⟨⟨fa, fb⟩, fs⟩ := hf
  have hl : s.2.length ≤ 1000 := by omega
  simp only [Bool.not_true, cond_false, copySite hl, copyView hl (show a.1.length ≤ 1000 by omega) (show b.1.length ≤ 1000 by omega), siteP s hl, siteR s hl, viewR hl, optE_some, bne_self_eq_false]
  by_cases h : viewE s a b = 0
  case neg =>
    simp only [see_view hl h, optE_some, eq_false' h, ne_true h, cond_true, cond_false, beq_self_eq_true]
  obtain ⟨ha, hb⟩ := bothE_zero (viewE_zero h).2
  simp only [h, s17_eq (valid_of ha) (valid_of hb), show ((0 : Int) == 0) = true from rfl, cond_true, optE_some]
  have hte : (bif tErr t a != 0 then tErr t a else tErr t b) = timesE t a b := rfl
  rw [hte]
  by_cases ht : timesE t a b = 0
  case neg =>
    simp only [see_times hl h ht, optE_some, ne_true ht, cond_true, beq_self_eq_true]
  obtain ⟨n, n1, _, n2⟩ := see_ok hl h ht
  simp only [n1, n2, ht, optE_some, show ((0 : Int) != 0) = false from rfl, cond_false, show ((0 : Int) == 0) = true from rfl, cond_true, beq_self_eq_true]
end Go.Proofs.YtgpfdacidgmelaaGreat
