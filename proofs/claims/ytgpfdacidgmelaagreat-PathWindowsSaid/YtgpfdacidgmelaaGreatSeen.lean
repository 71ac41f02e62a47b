/- Chapter 1: PathSeen. -/
import Derived.Test.YtgpfdacidgmelaaGreatView2
set_option linter.unusedSimpArgs false
namespace Go.Proofs.YtgpfdacidgmelaaGreat
open Go.Ev

/-! The law of the answers -/

theorem hid_mono {c : Co} (C : ConeOk c) {p p' q q' : Int} (hp : p ≤ p') (hq : q' ≤ q) (h : hid c p q = true) : hid c p' q' = true := by
  unfold hid at h ⊢
  simp only [Bool.and_eq_true, decide_eq_true_eq] at h ⊢
  obtain ⟨h1, h2⟩ := h
  have k1 := Int.mul_nonneg C.num.1 (self_dot C.axis).1
  have a1 := Int.mul_le_mul_of_nonneg_right hq k1
  have a2 := sq_mono (a := p) (b := p') (by omega) hp
  have a3 := Int.mul_le_mul_of_nonneg_right a2 (show 0 ≤ c.2.2 by have := C.den; omega)
  exact ⟨by omega, by omega⟩

theorem answer_cases (s : Si) (g : Gp) : answer s g = 0 ∨ answer s g = 1 ∨ answer s g = 2 := by
  unfold answer
  cases sure s g <;> cases never s g <;> simp
theorem answer_yes {s : Si} {g : Gp} : answer s g = 2 ↔ sure s g = true := by
  unfold answer
  cases sure s g <;> cases never s g <;> simp
theorem answer_no {s : Si} {g : Gp} : answer s g = 0 ↔ sure s g = false ∧ never s g = true := by
  unfold answer
  cases sure s g <;> cases never s g <;> simp

theorem excl {s : Si} {g : Gp} (S : SiteOk s) (G : GpOk g) (h : never s g = true) : sure s g = false := by
  unfold never at h
  unfold sure
  rw [Bool.or_eq_true] at h
  rcases h with h | h
  · have := (s118_eq S.up G).2.1
    have h := of_decide_eq_true h
    rw [decide_eq_false (by unfold loA; unfold hiA at h; omega), Bool.false_and]
  · rw [List.any_eq_true] at h
    obtain ⟨c, hc, hh⟩ := h
    have C := S.cone c hc
    have n := near_far G
    have o := (s118_eq C.axis G).2.1
    have := hid_mono C (p' := hiA g c.1) (q' := near g) (by unfold loA hiA; omega) n hh
    rw [Bool.and_eq_false_iff]
    right
    rw [List.all_eq_false]
    exact ⟨c, hc, by rw [this]; simp⟩
theorem answer_no' {s : Si} {g : Gp} (S : SiteOk s) (G : GpOk g) : answer s g = 0 ↔ never s g = true := by
  rw [answer_no]
  exact ⟨fun h => h.2, fun h => ⟨excl S G h, h⟩⟩

theorem off_mono {w : Int × Int × Int} (_h : AxOk w) {p q : Pt} (hd : 0 ≤ p.2 * q.2) {e e' : Int} (he : e' ≤ e) : off (gap p q e') w ≤ off (gap p q e) w := by
  have hs : 0 ≤ siz w := by
    have := sz_spec w.1; have := sz_spec w.2.1; have := sz_spec w.2.2
    unfold siz; omega
  exact Int.mul_le_mul_of_nonneg_right (Int.mul_le_mul_of_nonneg_right he hs) hd

theorem sure_mono {s : Si} (S : SiteOk s) {p q : Pt} (hd : 0 ≤ p.2 * q.2) {e e' : Int} (h0 : 0 ≤ e') (he : e' ≤ e) (h : sure s (gap p q e) = true) : sure s (gap p q e') = true := by
  unfold sure at h ⊢
  rw [Bool.and_eq_true] at h ⊢
  have nm := near_mono (p := p) (q := q) hd he h0
  have dd : ∀ w, dot w (gap p q e').1.1 = dot w (gap p q e).1.1 := fun _ => rfl
  refine ⟨decide_eq_true ?_, ?_⟩
  · have := off_mono S.up hd he
    have h := of_decide_eq_true h.1
    unfold loA at h ⊢
    rw [dd]; omega
  · rw [List.all_eq_true] at h ⊢
    intro c hc
    have := h.2 c hc
    have C := S.cone c hc
    have o := off_mono C.axis hd he
    cases hh : hid c (hiA (gap p q e') c.1) (near (gap p q e')) with
    | false => rfl
    | true =>
      have := hid_mono C (p' := hiA (gap p q e) c.1) (q' := near (gap p q e)) (by unfold hiA; rw [dd]; omega) nm.1 hh
      have h2 := h.2 c hc
      rw [this] at h2; cases h2
theorem never_mono {s : Si} (S : SiteOk s) {p q : Pt} (hd : 0 ≤ p.2 * q.2) {e e' : Int} (h0 : 0 ≤ e') (he : e' ≤ e) (h : never s (gap p q e) = true) : never s (gap p q e') = true := by
  unfold never at h ⊢
  rw [Bool.or_eq_true] at h ⊢
  have nm := near_mono (p := p) (q := q) hd he h0
  have dd : ∀ w, dot w (gap p q e').1.1 = dot w (gap p q e).1.1 := fun _ => rfl
  rcases h with h | h
  · left
    have := off_mono S.up hd he
    have h := of_decide_eq_true h
    refine decide_eq_true ?_
    unfold hiA at h ⊢
    rw [dd]; omega
  · right
    rw [List.any_eq_true] at h ⊢
    obtain ⟨c, hc, hh⟩ := h
    have C := S.cone c hc
    have o := off_mono C.axis hd he
    exact ⟨c, hc, hid_mono C (by unfold loA; rw [dd]; omega) nm.2 hh⟩

/-- A site without its cones, one that looks down, one with a cone less. -/
def openS (s : Si) : Si := (s.1, [])
def downS (s : Si) : Si := ((-s.1.1, -s.1.2.1, -s.1.2.2), [])
def fewerS (s : Si) : Si := (s.1, s.2.drop 1)
theorem openS_ok {s : Si} (S : SiteOk s) : SiteOk (openS s) := ⟨S.up, S.upz, by simp [openS], fun c hc => by simp [openS] at hc, fun c hc => by simp [openS] at hc⟩
theorem downS_ok {s : Si} (S : SiteOk s) : SiteOk (downS s) := by
  obtain ⟨⟨hx, hy, hz⟩, hn, _⟩ := S
  refine ⟨⟨by simp only [downS]; omega, by simp only [downS]; omega, by simp only [downS]; omega⟩, fun h => hn ?_, by simp [downS], fun c hc => by simp [downS] at hc, fun c hc => by simp [downS] at hc⟩
  simp only [downS] at h
  omega
theorem fewerS_ok {s : Si} (S : SiteOk s) : SiteOk (fewerS s) :=
  ⟨S.up, S.upz, by have := S.most; simp only [fewerS, List.length_drop]; omega, fun c hc => S.cone c (List.mem_of_mem_drop hc), fun c hc => S.conez c (List.mem_of_mem_drop hc)⟩
theorem open_no {s : Si} {g : Gp} (S : SiteOk s) (G : GpOk g) (h : answer (openS s) g = 0) : answer s g = 0 ∧ answer (downS s) g = 2 := by
  rw [answer_no' (openS_ok S) G] at h
  simp only [never, openS, List.any_nil, Bool.or_false] at h
  constructor
  · rw [answer_no' S G]; unfold never; rw [Bool.or_eq_true]; exact .inl h
  · rw [answer_yes]
    have h := of_decide_eq_true h
    have e1 : siz (downS s).1 = siz s.1 := by simp only [downS, siz, sz_neg]
    have e2 : dot (downS s).1 g.1.1 = -dot s.1 g.1.1 := by simp only [downS, dot, Int.neg_mul]; omega
    have e3 : off g (downS s).1 = off g s.1 := by unfold off; rw [e1]
    unfold sure
    have : loA g (downS s).1 ≥ 0 := by unfold loA; rw [e2, e3]; unfold hiA at h; omega
    rw [decide_eq_true this]; rfl
theorem yes_open {s : Si} {g : Gp} (h : answer s g = 2) : answer (openS s) g = 2 := by
  rw [answer_yes] at h ⊢
  unfold sure at h
  rw [Bool.and_eq_true] at h
  simp only [sure, openS, List.all_nil, Bool.and_true]
  exact h.1
theorem yes_fewer {s : Si} {g : Gp} (h : answer s g = 2) : answer (fewerS s) g = 2 := by
  rw [answer_yes] at h ⊢
  unfold sure at h ⊢
  rw [Bool.and_eq_true] at h ⊢
  refine ⟨h.1, ?_⟩
  rw [List.all_eq_true] at h ⊢
  exact fun c hc => h.2 c (List.mem_of_mem_drop hc)
theorem fewer_no {s : Si} {g : Gp} (S : SiteOk s) (G : GpOk g) (h : answer (fewerS s) g = 0) : answer s g = 0 := by
  rw [answer_no' (fewerS_ok S) G] at h
  rw [answer_no' S G]
  unfold never at h ⊢
  rw [Bool.or_eq_true] at h ⊢
  rcases h with h | h
  · exact .inl h
  · right
    rw [List.any_eq_true] at h ⊢
    obtain ⟨c, hc, hh⟩ := h
    exact ⟨c, List.mem_of_mem_drop hc, hh⟩

/-! Errors of sites -/

theorem s115_100 (n : Int) : s115 (n, 100) = some (win n (-100) 100) := by
  unfold s115
  simp only [optE_some, s80_eq]
  rfl
def axR (v : Int × Int × Int) : Bool := win v.1 (-100) 100 && (win v.2.1 (-100) 100 && win v.2.2 (-100) 100)
def zeroB (v : Int × Int × Int) : Bool := (v.1 == 0) && ((v.2.1 == 0) && ((v.2.2 == 0) && true))
theorem s83_eq (v : Int × Int × Int) : s83 v = some (axR v) := by
  unfold s83 axR
  simp only [s28_eq, optE_some]
  cases win v.1 (-100) 100 <;> cases win v.2.1 (-100) 100 <;> rfl
theorem axR_ok {v : Int × Int × Int} (h : axR v = true) : AxOk v := by
  simp only [axR, Bool.and_eq_true, win_iff] at h
  exact ⟨h.1, h.2.1, h.2.2⟩
theorem axR_of {v : Int × Int × Int} (h : AxOk v) : axR v = true := by
  simp only [axR, Bool.and_eq_true, win_iff]
  exact ⟨h.x, h.y, h.z⟩
theorem zeroB_iff {v : Int × Int × Int} : zeroB v = true ↔ (v.1 = 0 ∧ v.2.1 = 0 ∧ v.2.2 = 0) := by simp [zeroB]
theorem s79_eq {v : Int × Int × Int} (h : AxOk v) (hz : ¬ (v.1 = 0 ∧ v.2.1 = 0 ∧ v.2.2 = 0)) : s79 v = some 0 := by
  have h1 := win_iff.2 h.x
  have h2 := win_iff.2 h.y
  have h3 := win_iff.2 h.z
  have h4 : zeroB v = false := by cases hb : zeroB v; rfl; exact absurd (zeroB_iff.1 hb) hz
  unfold zeroB at h4
  unfold s79
  simp only [s116, s114, s115_100, optE_some, h1, h2, h3, cond_true, s66_eq, h4, Bool.not_false, unl]
  rw [s65_eq _ (by simp)]
  rfl
def coneE (c : Co) : Int := bif !(axR c.1) then 2 else bif zeroB c.1 then 11 else bif !(win c.2.2 1 100) then 2 else bif !(win c.2.1 0 c.2.2) then 2 else 0
theorem coneE_ok {c : Co} (h : coneE c = 0) : ConeOk c ∧ ¬ (c.1.1 = 0 ∧ c.1.2.1 = 0 ∧ c.1.2.2 = 0) := by
  unfold coneE at h
  cases h1 : axR c.1
  · rw [h1] at h; simp at h
  · cases h2 : zeroB c.1
    · cases h3 : win c.2.2 1 100
      · rw [h1, h2, h3] at h; simp at h
      · cases h4 : win c.2.1 0 c.2.2
        · rw [h1, h2, h3, h4] at h; simp at h
        · exact ⟨⟨axR_ok h1, win_iff.1 h3, win_iff.1 h4⟩, fun hz => by rw [zeroB_iff.2 hz] at h2; cases h2⟩
    · rw [h1, h2] at h; simp at h
theorem s38_eq {s : Si} (hl : s.2.length ≤ 1000) : ∃ r, s38 s = some r ∧ (r.2 = 0 → SiteOk s) := by
  have hloop := loop_scan (step := step38_0) (st := fun k => ((k : Int), s)) (hit := fun k => bif coneE (s.2.getD k ((0, 0, 0), 0, 0)) != 0 then some (Sum.inl ((k : Int), coneE (s.2.getD k ((0, 0, 0), 0, 0)))) else none) (n := s.2.length) (e := .inr ())
    (fun k hk => by
      obtain ⟨c, hcc⟩ : ∃ c, s.2.getD k ((0, 0, 0), 0, 0) = c := ⟨_, rfl⟩
      simp only [step38_0, lt_cast, inB_cast, hk, decide_true, cond_true, Int.toNat_natCast, s83_eq, s28_eq, optE_some, wr_succ (show k < 4611686018427387904 by omega), hcc]
      unfold coneE
      cases h1 : axR c.1
      · rfl
      · have h2' : ((c.1.1 == 0) && ((c.1.2.1 == 0) && ((c.1.2.2 == 0) && true))) = zeroB c.1 := rfl
        rw [h2']
        cases zeroB c.1
        · cases win c.2.2 1 100
          · rfl
          · cases win c.2.1 0 c.2.2 <;> rfl
        · rfl)
    (by simp only [step38_0, lt_cast, Nat.lt_irrefl, decide_false, cond_false]) s.2.length 0 (by omega)
  have hloop : loopVal step38_0 (0, s) = _ := hloop
  unfold s38
  simp only [s83_eq, optE_some, hloop]
  have h2' : ((s.1.1 == 0) && ((s.1.2.1 == 0) && ((s.1.2.2 == 0) && true))) = zeroB s.1 := rfl
  rw [h2']
  cases h1 : axR s.1
  · exact ⟨(0, 2), rfl, fun h => by cases h⟩
  · cases h2 : zeroB s.1
    · by_cases h3 : s.2.length > 4
      · rw [decide_eq_true (show (s.2.length : Int) > 4 by omega)]
        exact ⟨(0, 8), rfl, fun h => by cases h⟩
      · rw [decide_eq_false (show ¬ (s.2.length : Int) > 4 by omega)]
        rcases scan_cases (fun k => bif coneE (s.2.getD k ((0, 0, 0), 0, 0)) != 0 then some (Sum.inl ((k : Int), coneE (s.2.getD k ((0, 0, 0), 0, 0))) : (Int × Int) ⊕ Unit) else none) (.inr ()) s.2.length 0 with ⟨hs, hn⟩ | ⟨j, x, _, hj, hx, hs⟩
        · rw [hs]
          refine ⟨(0, 0), rfl, fun _ => ?_⟩
          have hc : ∀ c ∈ s.2, coneE c = 0 := by
            intro c hc
            obtain ⟨k, hk, rfl⟩ := List.getElem_of_mem hc
            have := hn k (by omega) (by omega)
            rw [List.getD_eq_getElem?_getD, List.getElem?_eq_getElem hk] at this
            simp only [Option.getD_some] at this
            cases he : coneE s.2[k] != 0
            · simpa using he
            · rw [he] at this; cases this
          exact ⟨axR_ok h1, (fun hz => by rw [zeroB_iff.2 hz] at h2; cases h2), (by omega), fun c hc' => (coneE_ok (hc c hc')).1, fun c hc' => (coneE_ok (hc c hc')).2⟩
        · rw [hs]
          cases he : coneE (s.2.getD j ((0, 0, 0), 0, 0)) != 0
          · rw [he] at hx; cases hx
          · rw [he] at hx
            obtain rfl := Option.some.inj hx
            exact ⟨_, rfl, fun h => by simp only [] at h; rw [h] at he; cases he⟩
    · exact ⟨(0, 11), rfl, fun h => by cases h⟩

theorem s34_eq {s : Si} (S : SiteOk s) : s34 s = some (0, 0) := by
  have hm := S.most
  have hloop := loop_for (step := step34_0) (st := fun k => (s.2, (s.2.length : Int), (k : Int))) (n := s.2.length) (e := .inr ())
    (fun k hk => by
      have hmem : s.2.getD k ((0, 0, 0), 0, 0) ∈ s.2 := by rw [List.getD_eq_getElem?_getD, List.getElem?_eq_getElem hk]; exact List.getElem_mem hk
      have C := S.cone _ hmem
      have Z := S.conez _ hmem
      simp only [step34_0, lt_cast, inB_cast, hk, decide_true, cond_true, Int.toNat_natCast, s79_eq C.axis Z, s80_eq, s66_eq, optE_some, win_iff.2 C.den, win_iff.2 C.num, unl, wr_succ (show k < 4611686018427387904 by omega)]
      rw [s65_eq _ (by simp)]
      rfl)
    (by simp only [step34_0, lt_cast, Nat.lt_irrefl, decide_false, cond_false]) 0 (by omega)
  have hloop : loopVal step34_0 (s.2, (s.2.length : Int), 0) = _ := hloop
  unfold s34
  simp only [s79_eq S.up S.upz, s66_eq, optE_some, decide_eq_true (show (s.2.length : Int) ≤ 4 by omega), unl, cond_true]
  rw [s65_eq _ (by simp)]
  simp only [optE_some, firstE, show ((0 : Int) != 0) = false from rfl, cond_false, hloop, sumE_r]
end Go.Proofs.YtgpfdacidgmelaaGreat
