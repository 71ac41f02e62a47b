/- Which measurements are possible: those that do not contradict each other. -/
import Derived.Test.YtfpppijfkeidgaaGreatDoorPlane
import Derived.Test.YtfpppijfkeidgaaGreatDoorClaimLaw
set_option linter.unusedSimpArgs false
namespace Go.Proofs.YtfpppijfkeidgaaGreatDoor
open Go.Ev
def hv (r : Rw) : Hf := (r.1.1, r.1.2, r.2.1)
def RHOk (R : List Rw) : Prop := ∀ r ∈ R, HOk (hv r)
theorem rwOk_of {r : Rw} (h : HOk (hv r)) : RwOk r := by
 obtain ⟨h1, h2, h3⟩ := h
 unfold hv at *
 simp only at *
 refine ⟨⟨by rcases h1 with h | h | h <;> omega, h2⟩, h3⟩
theorem hf_hok {m : Msr} (hm : mErr m = 0) (up : Bool) : HOk (hf m up) := by
 obtain ⟨f1, f2, f3⟩ := hf_facts hm up
 obtain ⟨k1, k2, _, k4, _⟩ := mErr_ok.1 hm
 refine ⟨?_, f2, f3⟩
 unfold hf
 by_cases h : m.1 = 1
 ·have := k4 h
  cases up
  ·simp [h]; omega
  ·simp [h]; omega
 ·cases up <;> simp [h]
theorem rws_mem : ∀ (l : List Msr) (i : Nat) (r : Rw), r ∈ rwsF i l → ∃ m ∈ l, ∃ up, hv r = hf m up
 | [], _, _, h => by cases h
 | m :: l, i, r, h => by
   simp only [rwsF, List.mem_cons] at h
   rcases h with rfl | rfl | h
   ·exact ⟨m, by simp, true, rfl⟩
   ·exact ⟨m, by simp, false, rfl⟩
   ·obtain ⟨n, h1, h2⟩ := rws_mem l (i + 1) r h
    exact ⟨n, by simp [h1], h2⟩
theorem rws_ok {l : List Msr} (hv' : ∀ m ∈ l, mErr m = 0) (i : Nat) : RHOk (rwsF i l) := fun r hr => by
 obtain ⟨m, hm, up, e⟩ := rws_mem l i r hr
 rw [e]
 exact hf_hok (hv' m hm) up
def hvs (l : List Msr) : List Hf := l.flatMap fun m => [hf m true, hf m false]
theorem rws_hvs : ∀ (l : List Msr) (i : Nat), (rwsF i l).map hv = hvs l
 | [], _ => rfl
 | m :: l, i => by
   simp only [rwsF, List.map_cons, rws_hvs l (i + 1)]
   rfl
def candL (f : Vc) (R : List Rw) : List (Option Cd) := (List.range R.length).flatMap fun i => oneC f (R.getD i rw0) :: (R.take i).map fun s => pairC f s (R.getD i rw0)
theorem bestF_range (f : Vc) (R : List Rw) : ∀ (n i : Nat) (st : Option Cd), bestF f R n i st = ((List.range' i n).flatMap fun i => oneC f (R.getD i rw0) :: (R.take i).map fun s => pairC f s (R.getD i rw0)).foldl takeC st
 | 0, _, _ => rfl
 | n + 1, i, st => by
   rw [bestF, bestF_range f R n (i + 1), List.range'_succ, List.flatMap_cons, List.foldl_append, List.foldl_cons, List.foldl_map]
   rfl
theorem takeC_tk : takeC = tk (fun c : Cd => c.2.2) (fun c => c.2.1) := by
 funext st c
 cases c with
 | none => rfl
 | some c => cases st <;> rfl
theorem best_fold (f : Vc) (R : List Rw) : bestF f R R.length 0 none = (candL f R).foldl (tk (fun c : Cd => c.2.2) (fun c => c.2.1)) none := by
 rw [bestF_range, ← takeC_tk, ← List.range_eq_range']
 rfl
theorem cand_mem {f : Vc} {R : List Rw} {c : Cd} : some c ∈ candL f R ↔ ∃ i, i < R.length ∧ (oneC f (R.getD i rw0) = some c ∨ ∃ j, j < i ∧ pairC f (R.getD j rw0) (R.getD i rw0) = some c) := by
 unfold candL
 simp only [List.mem_flatMap, List.mem_range, List.mem_cons, List.mem_map]
 constructor
 ·rintro ⟨i, hi, h | ⟨s, hs, h⟩⟩
  ·exact ⟨i, hi, .inl h.symm⟩
  ·obtain ⟨j, hj, rfl⟩ := List.mem_iff_getElem.1 hs
   rw [List.length_take] at hj
   refine ⟨i, hi, .inr ⟨j, by omega, ?_⟩⟩
   rw [List.getElem_take] at h
   rw [List.getD_eq_getElem?_getD (l := R) (i := j), List.getElem?_eq_getElem (by omega)]
   exact h
 ·rintro ⟨i, hi, h | ⟨j, hj, h⟩⟩
  ·exact ⟨i, hi, .inl h.symm⟩
  ·refine ⟨i, hi, .inr ⟨R.getD j rw0, ?_, h⟩⟩
   rw [List.getD_eq_getElem?_getD, List.getElem?_eq_getElem (by omega), Option.getD_some]
   exact List.mem_take_iff_getElem.2 ⟨j, by omega, rfl⟩
theorem addT_facts {r : Rw} {w : Int} {c : Cd} (hw : 0 ≤ w) : (addT r w c).2.1 = c.2.1 ∧ (addT r w c).2.2 = c.2.2 + w * r.2.1 := by
 unfold addT
 split
 ·exact ⟨rfl, rfl⟩
 ·rename_i h
  have : w = 0 := by omega
  subst this
  simp
theorem pairC_some {f : Vc} {s r : Rw} {c : Cd} (h : pairC f s r = some c) : ∃ D P Q, nrm (crs s.1 r.1) (crs f r.1) (crs s.1 f) = (D, P, Q) ∧ 0 < D ∧ 0 ≤ P ∧ 0 ≤ Q ∧ c = addT r Q (addT s P ([], D, 0)) ∧ c.2.1 = D ∧ c.2.2 = P * s.2.1 + Q * r.2.1 := by
 unfold pairC at h
 have hn : 0 ≤ (nrm (crs s.1 r.1) (crs f r.1) (crs s.1 f)).1 := by unfold nrm; split <;> simp only <;> omega
 generalize hg : nrm (crs s.1 r.1) (crs f r.1) (crs s.1 f) = t at *
 obtain ⟨D, P, Q⟩ := t
 split at h
 ·cases h
 ·rename_i hc
  simp only [not_or] at hc
  simp only at hn
  obtain rfl := Option.some.inj h
  obtain ⟨e1, e2⟩ := addT_facts (r := s) (c := (([], D, 0) : Cd)) (show 0 ≤ P by omega)
  obtain ⟨e3, e4⟩ := addT_facts (r := r) (c := addT s P (([], D, 0) : Cd)) (show 0 ≤ Q by omega)
  refine ⟨D, P, Q, rfl, by omega, by omega, by omega, rfl, by rw [e3, e1], by rw [e4, e2]; simp⟩
theorem pairC_of {f : Vc} {s r : Rw} {D P Q : Int} (h : nrm (crs s.1 r.1) (crs f r.1) (crs s.1 f) = (D, P, Q)) (h1 : 0 < D) (h2 : 0 ≤ P) (h3 : 0 ≤ Q) : ∃ c, pairC f s r = some c ∧ c.2.1 = D ∧ c.2.2 = P * s.2.1 + Q * r.2.1 := by
 have : ∃ c, pairC f s r = some c := by
  unfold pairC
  rw [h]
  rw [if_neg (by simp only; omega)]
  exact ⟨_, rfl⟩
 obtain ⟨c, hc⟩ := this
 obtain ⟨D', P', Q', e, _, _, _, _, e1, e2⟩ := pairC_some hc
 rw [h] at e
 obtain ⟨rfl, rfl, rfl⟩ : D = D' ∧ P = P' ∧ Q = Q' := by injection e with a b; injection b with b c; exact ⟨a, b, c⟩
 exact ⟨c, hc, e1, e2⟩
theorem cand_pos {f : Vc} {R : List Rw} {c : Cd} (h : some c ∈ candL f R) : 0 < c.2.1 := by
 obtain ⟨i, _, h | ⟨j, _, h⟩⟩ := cand_mem.1 h
 ·unfold oneC at h
  split at h
  ·obtain rfl := Option.some.inj h; assumption
  ·cases h
 ·obtain ⟨D, P, Q, _, h1, _, _, _, h2, _⟩ := pairC_some h
  omega
theorem ix_of {R : List Rw} {r : Rw} (h : r ∈ R) : ∃ i, i < R.length ∧ R.getD i rw0 = r := by
 obtain ⟨i, hi, e⟩ := List.mem_iff_getElem.1 h
 exact ⟨i, hi, by rw [List.getD_eq_getElem?_getD, List.getElem?_eq_getElem hi]; exact e⟩
theorem dir_one {r : Rw} (sg : Int) (hsg : sg = 1 ∨ sg = -1) : oneC (0, sg) r = if r.1.1 = 0 ∧ 0 < sg * r.1.2 then some ([(r.2.2.1, r.2.2.2, 1)], sg * r.1.2, r.2.1) else none := by
 have ha : alg r.1 (0, sg) = if r.1.1 = 0 ∧ 0 < sg * r.1.2 then sg * r.1.2 else 0 := by
  unfold alg crs
  simp only [Int.zero_mul, Int.sub_zero, Int.mul_zero, Int.zero_add, ne_eq, not_true_eq_false, if_false]
  rcases hsg with rfl | rfl
  ·simp only [Int.mul_one, Int.one_mul, Int.tdiv_one]
   by_cases h : r.1.1 = 0 ∧ 0 < r.1.2
   ·rw [if_pos h, if_neg (by omega)]
   ·rw [if_neg h]
    by_cases h2 : ¬ r.1.1 = 0 ∨ r.1.2 ≤ 0
    ·rw [if_pos h2]
    ·exfalso; omega
  ·have e : Int.tdiv r.1.2 (-1) = -1 * r.1.2 := by rw [Int.tdiv_neg, Int.tdiv_one]; omega
   rw [e]
   by_cases h : r.1.1 = 0 ∧ 0 < -1 * r.1.2
   ·rw [if_pos h, if_neg (by omega)]
   ·rw [if_neg h]
    by_cases h2 : ¬ r.1.1 * -1 = 0 ∨ r.1.2 * -1 ≤ 0
    ·rw [if_pos h2]
    ·exfalso; omega
 unfold oneC
 rw [ha]
 by_cases h : r.1.1 = 0 ∧ 0 < sg * r.1.2
 ·rw [if_pos h, if_pos (by simpa using h.2)]
  rw [if_pos h]
 ·rw [if_neg h, if_neg h, if_neg (by omega)]
theorem dir_pair {s r : Rw} (hs : HOk (hv s)) (hr : HOk (hv r)) {c : Cd} (sg : Int) (hsg : sg = 1 ∨ sg = -1) (h : pairC (0, sg) s r = some c) :
 (r.1.1 = 0 ∧ 0 < sg * r.1.2 ∧ c.2.2 * (sg * r.1.2) = r.2.1 * c.2.1) ∨ (s.1.1 = 0 ∧ 0 < sg * s.1.2 ∧ c.2.2 * (sg * s.1.2) = s.2.1 * c.2.1) ∨
 (∃ u w, (u = s ∧ w = r ∨ u = r ∧ w = s) ∧ u.1.1 = 1 ∧ w.1.1 = -1 ∧ 0 < sg * (u.1.2 + w.1.2) ∧ c.2.2 * (sg * (u.1.2 + w.1.2)) = (u.2.1 + w.2.1) * c.2.1) := by
 obtain ⟨D, P, Q, hn, h1, h2, h3, _, e1, e2⟩ := pairC_some h
 have hc1 : crs (0, sg) r.1 = -(sg * r.1.1) := by unfold crs; simp only; grind
 have hc2 : crs s.1 (0, sg) = sg * s.1.1 := by unfold crs; simp only; grind
 have hc3 : crs s.1 r.1 = s.1.1 * r.1.2 - r.1.1 * s.1.2 := rfl
 rw [hc1, hc2, hc3] at hn
 rw [e1, e2]
 have hs1 := hs.1
 have hr1 := hr.1
 simp only [hv] at hs1 hr1
 have hd : s.1.1 * r.1.2 - r.1.1 * s.1.2 < 0 ∧ D = -(s.1.1 * r.1.2 - r.1.1 * s.1.2) ∧ P = sg * r.1.1 ∧ Q = -(sg * s.1.1) ∨ 0 ≤ s.1.1 * r.1.2 - r.1.1 * s.1.2 ∧ D = s.1.1 * r.1.2 - r.1.1 * s.1.2 ∧ P = -(sg * r.1.1) ∧ Q = sg * s.1.1 := by
  unfold nrm at hn
  split at hn
  ·rename_i hlt
   injection hn with a b; injection b with b c
   exact .inl ⟨hlt, a.symm, by omega, c.symm⟩
  ·rename_i hlt
   injection hn with a b; injection b with b c
   exact .inr ⟨by omega, a.symm, b.symm, c.symm⟩
 rcases hs1 with hs1 | hs1 | ⟨hs1, hs2⟩ <;> rcases hr1 with hr1 | hr1 | ⟨hr1, hr2⟩ <;> rw [hs1, hr1] at hd
 ·exfalso; rcases hsg with rfl | rfl <;> omega
 ·right; right
  refine ⟨s, r, .inl ⟨rfl, rfl⟩, hs1, hr1, ?_⟩
  rcases hsg with rfl | rfl
  ·obtain ⟨d1, d2, d3, d4⟩ | ⟨d1, d2, d3, d4⟩ := hd
   ·omega
   ·rw [d2, d3, d4]; refine ⟨by omega, by grind⟩
  ·obtain ⟨d1, d2, d3, d4⟩ | ⟨d1, d2, d3, d4⟩ := hd
   ·rw [d2, d3, d4]; refine ⟨by omega, by grind⟩
   ·omega
 ·left
  refine ⟨hr1, ?_⟩
  rcases hsg with rfl | rfl
  ·obtain ⟨d1, d2, d3, d4⟩ | ⟨d1, d2, d3, d4⟩ := hd
   ·omega
   ·rw [d2, d3, d4]; refine ⟨by omega, by grind⟩
  ·obtain ⟨d1, d2, d3, d4⟩ | ⟨d1, d2, d3, d4⟩ := hd
   ·rw [d2, d3, d4]; refine ⟨by omega, by grind⟩
   ·omega
 ·right; right
  refine ⟨r, s, .inr ⟨rfl, rfl⟩, hr1, hs1, ?_⟩
  rcases hsg with rfl | rfl
  ·obtain ⟨d1, d2, d3, d4⟩ | ⟨d1, d2, d3, d4⟩ := hd
   ·rw [d2, d3, d4]; refine ⟨by omega, by grind⟩
   ·omega
  ·obtain ⟨d1, d2, d3, d4⟩ | ⟨d1, d2, d3, d4⟩ := hd
   ·omega
   ·rw [d2, d3, d4]; refine ⟨by omega, by grind⟩
 ·exfalso; rcases hsg with rfl | rfl <;> omega
 ·left
  refine ⟨hr1, ?_⟩
  rcases hsg with rfl | rfl
  ·obtain ⟨d1, d2, d3, d4⟩ | ⟨d1, d2, d3, d4⟩ := hd
   ·rw [d2, d3, d4]; refine ⟨by omega, by grind⟩
   ·omega
  ·obtain ⟨d1, d2, d3, d4⟩ | ⟨d1, d2, d3, d4⟩ := hd
   ·omega
   ·rw [d2, d3, d4]; refine ⟨by omega, by grind⟩
 ·right; left
  refine ⟨hs1, ?_⟩
  rcases hsg with rfl | rfl
  ·obtain ⟨d1, d2, d3, d4⟩ | ⟨d1, d2, d3, d4⟩ := hd
   ·rw [d2, d3, d4]; refine ⟨by omega, by grind⟩
   ·omega
  ·obtain ⟨d1, d2, d3, d4⟩ | ⟨d1, d2, d3, d4⟩ := hd
   ·omega
   ·rw [d2, d3, d4]; refine ⟨by omega, by grind⟩
 ·right; left
  refine ⟨hs1, ?_⟩
  rcases hsg with rfl | rfl
  ·obtain ⟨d1, d2, d3, d4⟩ | ⟨d1, d2, d3, d4⟩ := hd
   ·omega
   ·rw [d2, d3, d4]; refine ⟨by omega, by grind⟩
  ·obtain ⟨d1, d2, d3, d4⟩ | ⟨d1, d2, d3, d4⟩ := hd
   ·rw [d2, d3, d4]; refine ⟨by omega, by grind⟩
   ·omega
 ·exfalso; omega
theorem cand_up {R : List Rw} (hR : RHOk R) {c : Cd} (h : some c ∈ candL (0, 1) R) : UpB (R.map hv) c.2.2 c.2.1 := by
 refine ⟨cand_pos h, ?_⟩
 obtain ⟨i, hi, h | ⟨j, hj, h⟩⟩ := cand_mem.1 h
 ·have hm := getD_mem rw0 hi
  rw [dir_one 1 (.inl rfl)] at h
  split at h
  ·rename_i hc
   obtain rfl := Option.some.inj h
   exact .inl ⟨hv (R.getD i rw0), List.mem_map.2 ⟨_, hm, rfl⟩, hc.1, by simp only [hv]; omega, by simp only [hv]; rw [Int.one_mul]⟩
  ·cases h
 ·have hm := getD_mem rw0 hi
  have hm2 := getD_mem rw0 (show j < R.length by omega)
  rcases dir_pair (hR _ hm2) (hR _ hm) 1 (.inl rfl) h with ⟨g1, g2, g3⟩ | ⟨g1, g2, g3⟩ | ⟨u, w, huw, g1, g2, g3, g4⟩
  ·rw [Int.one_mul] at g2 g3
   exact .inl ⟨_, List.mem_map.2 ⟨_, hm, rfl⟩, g1, g2, g3⟩
  ·rw [Int.one_mul] at g2 g3
   exact .inl ⟨_, List.mem_map.2 ⟨_, hm2, rfl⟩, g1, g2, g3⟩
  ·rw [Int.one_mul] at g3 g4
   have hu : u ∈ R ∧ w ∈ R := by rcases huw with ⟨rfl, rfl⟩ | ⟨rfl, rfl⟩; exact ⟨hm2, hm⟩; exact ⟨hm, hm2⟩
   exact .inr ⟨hv u, List.mem_map.2 ⟨_, hu.1, rfl⟩, hv w, List.mem_map.2 ⟨_, hu.2, rfl⟩, g1, g2, g3, g4⟩
theorem cand_lo {R : List Rw} (hR : RHOk R) {c : Cd} (h : some c ∈ candL (0, -1) R) : LoB (R.map hv) c.2.2 c.2.1 := by
 refine ⟨cand_pos h, ?_⟩
 obtain ⟨i, hi, h | ⟨j, hj, h⟩⟩ := cand_mem.1 h
 ·have hm := getD_mem rw0 hi
  rw [dir_one (-1) (.inr rfl)] at h
  split at h
  ·rename_i hc
   obtain rfl := Option.some.inj h
   exact .inl ⟨hv (R.getD i rw0), List.mem_map.2 ⟨_, hm, rfl⟩, hc.1, by simp only [hv]; omega, by simp only [hv]; grind⟩
  ·cases h
 ·have hm := getD_mem rw0 hi
  have hm2 := getD_mem rw0 (show j < R.length by omega)
  rcases dir_pair (hR _ hm2) (hR _ hm) (-1) (.inr rfl) h with ⟨g1, g2, g3⟩ | ⟨g1, g2, g3⟩ | ⟨u, w, huw, g1, g2, g3, g4⟩
  ·exact .inl ⟨_, List.mem_map.2 ⟨_, hm, rfl⟩, g1, by simp only [hv]; omega, by simp only [hv]; rw [← g3]; grind⟩
  ·exact .inl ⟨_, List.mem_map.2 ⟨_, hm2, rfl⟩, g1, by simp only [hv]; omega, by simp only [hv]; rw [← g3]; grind⟩
  ·have hu : u ∈ R ∧ w ∈ R := by rcases huw with ⟨rfl, rfl⟩ | ⟨rfl, rfl⟩; exact ⟨hm2, hm⟩; exact ⟨hm, hm2⟩
   exact .inr ⟨hv u, List.mem_map.2 ⟨_, hu.1, rfl⟩, hv w, List.mem_map.2 ⟨_, hu.2, rfl⟩, g1, g2, by simp only [hv]; omega, by simp only [hv]; rw [← g4]; grind⟩
theorem one_cand {R : List Rw} {r : Rw} (hr : r ∈ R) (sg : Int) (hsg : sg = 1 ∨ sg = -1) (h1 : r.1.1 = 0) (h2 : 0 < sg * r.1.2) : ∃ c, some c ∈ candL (0, sg) R ∧ c.2.1 = sg * r.1.2 ∧ c.2.2 = r.2.1 := by
 obtain ⟨i, hi, e⟩ := ix_of hr
 refine ⟨([(r.2.2.1, r.2.2.2, 1)], sg * r.1.2, r.2.1), cand_mem.2 ⟨i, hi, .inl ?_⟩, rfl, rfl⟩
 rw [e, dir_one sg hsg, if_pos ⟨h1, h2⟩]
theorem two_cand {R : List Rw} {u w : Rw} (hu : u ∈ R) (hw : w ∈ R) (sg : Int) (hsg : sg = 1 ∨ sg = -1) (h1 : u.1.1 = 1) (h2 : w.1.1 = -1) (h3 : 0 < sg * (u.1.2 + w.1.2)) : ∃ c, some c ∈ candL (0, sg) R ∧ c.2.1 = sg * (u.1.2 + w.1.2) ∧ c.2.2 = u.2.1 + w.2.1 := by
 obtain ⟨i, hi, ei⟩ := ix_of hu
 obtain ⟨j, hj, ej⟩ := ix_of hw
 rcases Nat.lt_trichotomy i j with h | h | h
 ·have hn : nrm (crs u.1 w.1) (crs (0, sg) w.1) (crs u.1 (0, sg)) = (sg * (u.1.2 + w.1.2), 1, 1) := by
   have c1 : crs u.1 w.1 = u.1.2 + w.1.2 := by unfold crs; rw [h1, h2]; omega
   have c2 : crs (0, sg) w.1 = sg := by unfold crs; rw [h2]; simp only; omega
   have c3 : crs u.1 (0, sg) = sg := by unfold crs; rw [h1]; simp only; omega
   rw [c1, c2, c3]
   unfold nrm
   rcases hsg with rfl | rfl
   ·rw [if_neg (by omega), Int.one_mul]
   ·rw [if_pos (by omega)]; simp
  obtain ⟨c, g1, g2, g3⟩ := pairC_of hn h3 (by omega) (by omega)
  exact ⟨c, cand_mem.2 ⟨j, hj, .inr ⟨i, h, by rw [ei, ej]; exact g1⟩⟩, g2, by omega⟩
 ·subst h
  rw [ei] at ej
  subst ej
  omega
 ·have hn : nrm (crs w.1 u.1) (crs (0, sg) u.1) (crs w.1 (0, sg)) = (sg * (u.1.2 + w.1.2), 1, 1) := by
   have c1 : crs w.1 u.1 = -(u.1.2 + w.1.2) := by unfold crs; rw [h1, h2]; omega
   have c2 : crs (0, sg) u.1 = -sg := by unfold crs; rw [h1]; simp only; omega
   have c3 : crs w.1 (0, sg) = -sg := by unfold crs; rw [h2]; simp only; omega
   rw [c1, c2, c3]
   unfold nrm
   rcases hsg with rfl | rfl
   ·rw [if_pos (by omega)]; simp
   ·rw [if_neg (by omega)]; simp
  obtain ⟨c, g1, g2, g3⟩ := pairC_of hn h3 (by omega) (by omega)
  exact ⟨c, cand_mem.2 ⟨i, hi, .inr ⟨j, h, by rw [ei, ej]; exact g1⟩⟩, g2, by omega⟩
end Go.Proofs.YtfpppijfkeidgaaGreatDoor
set_option linter.unusedSimpArgs false
namespace Go.Proofs.YtfpppijfkeidgaaGreatDoor
open Go.Ev
def agr (r s : Rw) : Bool := bif r.1.1 != 0 then decide (-s.2.1 ≤ r.2.1) else decide (-s.2.1 * ab r.1.2 ≤ r.2.1 * ab s.1.2)
def badF (r s : Rw) : Bool := (crs r.1 s.1 == 0) && ((r.1.1 == -s.1.1) && (decide (alg r.1 (-s.1.1, -s.1.2) > 0) && !agr r s))
theorem agree_eq {r s : Rw} (hr : RwOk r) (hs : RwOk s) : s66 (r, s) = some (agr r s) := by
 obtain ⟨⟨r1, r2⟩, r3⟩ := hr
 obtain ⟨⟨s1, s2⟩, s3⟩ := hs
 have q1 := ab_of r.1.2
 have q2 := ab_of s.1.2
 have m1 := mulB (a := -s.2.1) (b := ab r.1.2) (A := 100000) (B := 1000) (by omega) (by omega)
 have m2 := mulB (a := r.2.1) (b := ab s.1.2) (A := 100000) (B := 1000) (by omega) (by omega)
 have e1 : s72 r.1.2 = some (ab r.1.2) := by rw [size_eq, mx_abs (by omega) (by omega)]; rfl
 have e2 : s72 s.1.2 = some (ab s.1.2) := by rw [size_eq, mx_abs (by omega) (by omega)]; rfl
 unfold s66 agr
 simp only [e1, e2, optE_some]
 rw [wr_id (n := -s.2.1) (by omega) (by omega), wr_id (n := -s.2.1 * ab r.1.2) (by omega) (by omega), wr_id (n := r.2.1 * ab s.1.2) (by omega) (by omega)]
 cases r.1.1 != 0 <;> rfl
theorem opp_ok {v : Vc} (h : VOk v) : VOk (-v.1, -v.2) := by
 obtain ⟨h1, h2⟩ := h
 exact ⟨by simp only; omega, by simp only; omega⟩
theorem step77 {all a : List Rw} {b c : Int} {L : List Rw} {r : Rw} (hr : RwOk r) (hL : ∀ s ∈ L, RwOk s) (hlen : L.length ≤ 1000) {k : Nat} (hk : k < L.length) :
 step41_2 (all, a, b, c, L, (L.length : Int), (k : Int), r) = bif badF r (L.getD k rw0) then some (.inr (.inl false)) else some (.inl (all, a, b, c, L, (L.length : Int), ((k + 1 : Nat) : Int), r)) := by
 have hs := hL _ (getD_mem rw0 hk)
 obtain ⟨s, hn⟩ : ∃ s : Rw, L.getD k rw0 = s := ⟨_, rfl⟩
 have hn' : L.getD k ((0, 0), 0, 0, false) = s := hn
 rw [hn] at hs ⊢
 have ho := opp_eq s.1 (by have := hs.1.1; omega) (by have := hs.1.2; omega)
 have hx : wr (-s.1.1) = -s.1.1 := by have := hs.1.1; exact wr_id (by omega) (by omega)
 simp only [step41_2, hn', lt_cast, inB_cast, hk, decide_true, cond_true, Int.toNat_natCast, crs_eq hr.1 hs.1, ho, alg_eq hr.1 (opp_ok hs.1), agree_eq hr hs, hx, optE_some, wr_succ (show k < 4611686018427387904 by omega)]
 unfold badF
 cases crs r.1 s.1 == 0 <;> cases r.1.1 == -s.1.1 <;> cases decide (alg r.1 (-s.1.1, -s.1.2) > 0) <;> cases agr r s <;> rfl
theorem loop77 {all a : List Rw} {b c : Int} {L : List Rw} {r : Rw} (hr : RwOk r) (hL : ∀ s ∈ L, RwOk s) (hlen : L.length ≤ 1000) :
 loopVal step41_2 (all, a, b, c, L, (L.length : Int), 0, r) = some (if L.any (badF r) = true then .inl false else .inr (all, a, b, c)) := by
 have h1 := loop_scan (step := step41_2) (st := fun k => (all, a, b, c, L, (L.length : Int), (k : Int), r)) (n := L.length)
  (hit := fun k => bif badF r (L.getD k rw0) then some (Sum.inl false) else none) (e := .inr (all, a, b, c))
  (fun k hk => by
    rw [step77 hr hL hlen hk]
    cases badF r (L.getD k rw0) <;> rfl) (by simp [step41_2]) L.length 0 (by omega)
 rw [show ((0 : Nat) : Int) = 0 from rfl] at h1
 rw [h1, scan_list0 (fun s : Rw => bif badF r s then some (Sum.inl false : Bool ⊕ (List Rw × List Rw × Int × Int)) else none) (.inr (all, a, b, c)) L rw0, scanL_const (b := .inl false) (fun s _ => by cases badF r s <;> simp)]
 congr 1
 by_cases h : L.any (badF r) = true
 ·rw [if_pos h, if_neg]
  intro ha
  rw [List.any_eq_true] at h
  obtain ⟨s, hs, hb⟩ := h
  have := List.all_eq_true.1 ha s hs
  rw [hb] at this
  simp at this
 ·rw [if_neg h, if_pos]
  rw [List.all_eq_true]
  intro s hs
  cases hb : badF r s with
  | false => rfl
  | true => exact absurd (List.any_eq_true.2 ⟨s, hs, hb⟩) h
def Bad (R : List Rw) : Prop := ∃ i, i < R.length ∧ (R.take i).any (badF (R.getD i rw0)) = true
theorem loop77o {R : List Rw} (hR : ∀ s ∈ R, RwOk s) (hlen : R.length ≤ 1000) :
 (Bad R ∧ loopVal step41_0 (R, R, (R.length : Int), 0) = some (.inl false)) ∨ (¬ Bad R ∧ loopVal step41_0 (R, R, (R.length : Int), 0) = some (.inr R)) := by
 have h1 := loop_scan (step := step41_0) (st := fun k => (R, R, (R.length : Int), (k : Int))) (n := R.length)
  (hit := fun k => bif (R.take k).any (badF (R.getD k rw0)) then some (Sum.inl false) else none) (e := .inr R)
  (fun k hk => by
    have hr := hR _ (getD_mem rw0 hk)
    obtain ⟨r, hn⟩ : ∃ r : Rw, R.getD k rw0 = r := ⟨_, rfl⟩
    have hn' : R.getD k ((0, 0), 0, 0, false) = r := hn
    have hin := loop77 (all := R) (a := R) (b := (R.length : Int)) (c := (k : Int)) (L := R.take k) (r := r) (by rw [hn] at hr; exact hr) (fun s hs => hR s (List.mem_of_mem_take hs)) (by rw [List.length_take]; omega)
    simp only [step41_0, hn', hn, lt_cast, inB_cast, hk, decide_true, cond_true, Int.toNat_natCast, decide_eq_true (show (0 : Int) ≤ (k : Int) by omega), decide_eq_true (show (k : Int) ≤ (R.length : Int) by omega), Bool.and_self, hin, optE_some]
    cases (R.take k).any (badF r) with
    | true => rfl
    | false => simp only [Bool.false_eq_true, if_false, sumE_r, cond_false, wr_succ (show k < 4611686018427387904 by omega)]) (by simp [step41_0]) R.length 0 (by omega)
 rw [show ((0 : Nat) : Int) = 0 from rfl] at h1
 rcases scan_cases (fun k => bif (R.take k).any (badF (R.getD k rw0)) then some (Sum.inl false : Bool ⊕ List Rw) else none) (.inr R) R.length 0 with ⟨h2, h3⟩ | ⟨j, x, _, h3, h4, h5⟩
 ·right
  refine ⟨?_, by rw [h1, h2]⟩
  rintro ⟨i, hi, hb⟩
  have := h3 i (by omega) (by omega)
  rw [hb] at this
  cases this
 ·left
  cases hb : (R.take j).any (badF (R.getD j rw0)) with
  | false => rw [hb] at h4; cases h4
  | true =>
    rw [hb] at h4
    obtain rfl := Option.some.inj h4
    exact ⟨⟨j, by omega, hb⟩, by rw [h1, h5]⟩
theorem bad_contra {R : List Rw} (hR : RHOk R) (h : Bad R) : Contra (R.map hv) := by
 obtain ⟨i, hi, hb⟩ := h
 obtain ⟨s, hs, hb⟩ := List.any_eq_true.1 hb
 have hr := getD_mem rw0 hi
 generalize R.getD i rw0 = r at *
 have hsR : s ∈ R := List.mem_of_mem_take hs
 have kr := hR r hr
 have ks := hR s hsR
 unfold badF at hb
 simp only [Bool.and_eq_true, beq_iff_eq, decide_eq_true_eq, Bool.not_eq_true'] at hb
 obtain ⟨b1, b2, b3, b4⟩ := hb
 refine .inl ⟨hv r, List.mem_map.2 ⟨r, hr, rfl⟩, hv s, List.mem_map.2 ⟨s, hsR, rfl⟩, ?_, ?_, ?_⟩
 ·unfold dt hv; unfold crs at b1; simp only; rw [Int.mul_comm r.1.2]; omega
 ·unfold alg at b3
  split at b3
  ·omega
  ·rename_i hc
   simp only [not_or] at hc
   have := hc.2
   simp only [hv] at this ⊢
   rw [Int.mul_neg, Int.mul_neg] at this
   omega
 ·have q1 := ab_of r.1.1; have q2 := ab_of s.1.1; have q3 := ab_of r.1.2; have q4 := ab_of s.1.2
  have kr1 := kr.1
  have ks1 := ks.1
  simp only [hv] at kr1 ks1 ⊢
  unfold agr at b4
  unfold crs at b1
  by_cases h0 : r.1.1 = 0
  ·rw [show (r.1.1 != 0) = false by simpa using h0, cond_false, decide_eq_false_iff_not] at b4
   have h0' : s.1.1 = 0 := by omega
   rw [h0, h0', show ab 0 = 0 from rfl]
   rw [Int.neg_mul] at b4
   have e1 : (0 + ab s.1.2) * r.2.1 = r.2.1 * ab s.1.2 := by grind
   have e2 : (0 + ab r.1.2) * s.2.1 = s.2.1 * ab r.1.2 := by grind
   omega
  ·rw [show (r.1.1 != 0) = true by simpa using h0, cond_true, decide_eq_false_iff_not] at b4
   have hab : ab r.1.1 = 1 ∧ ab s.1.1 = 1 ∧ ab s.1.2 = ab r.1.2 := by
    rcases kr1 with k | k | ⟨k, _⟩
    ·have ks' : s.1.1 = -1 := by omega
     rw [k, ks'] at b1
     refine ⟨by omega, by omega, by omega⟩
    ·have ks' : s.1.1 = 1 := by omega
     rw [k, ks'] at b1
     refine ⟨by omega, by omega, by omega⟩
    ·exact absurd k h0
   rw [hab.1, hab.2.1, hab.2.2, ← Int.mul_add]
   exact Int.mul_neg_of_pos_of_neg (by omega) (by omega)
theorem not_bad {R : List Rw} (h : ¬ Bad R) {u w : Rw} (hu : u ∈ R) (hw : w ∈ R) (h1 : u.1.1 = 1) (h2 : w.1.1 = -1) (h3 : u.1.2 + w.1.2 = 0) : 0 ≤ u.2.1 + w.2.1 := by
 rcases Int.lt_or_le (u.2.1 + w.2.1) 0 with hlt | hle
 ·exfalso
  have key : ∀ r s : Rw, r.1.1 * s.1.1 = -1 → r.1.1 = -s.1.1 → r.1.2 = -s.1.2 → (r.1.1 = 1 ∨ r.1.1 = -1) → r.2.1 + s.2.1 < 0 → badF r s = true := fun r s k1 k2 k3 k4 k5 => by
   unfold badF
   have c0 : crs r.1 s.1 = 0 := by unfold crs; rw [k2, k3]; grind
   have sq : 0 ≤ s.1.2 * s.1.2 := by rcases Int.le_total 0 s.1.2 with h | h; exact Int.mul_nonneg h h; exact Int.mul_nonneg_of_nonpos_of_nonpos h h
   have ha : alg r.1 (-s.1.1, -s.1.2) = 1 := by
    have c1 : crs r.1 (-s.1.1, -s.1.2) = 0 := by unfold crs; simp only; rw [k2, k3]; grind
    unfold alg
    rw [c1, if_neg, if_pos, ← k2]
    ·exact Int.tdiv_self (by rcases k4 with k | k <;> omega)
    ·simp only; rcases k4 with k | k <;> omega
    ·simp only [ne_eq, not_true_eq_false, false_or]
     have e1 : r.1.1 * -s.1.1 = 1 := by rw [Int.mul_neg]; omega
     have e2 : r.1.2 * -s.1.2 = s.1.2 * s.1.2 := by rw [k3]; grind
     omega
   have hg : agr r s = false := by
    unfold agr
    rw [show (r.1.1 != 0) = true by rcases k4 with k | k <;> simp [k], cond_true]
    exact decide_eq_false (by omega)
   rw [c0, ha, hg, k2]
   simp
  obtain ⟨i, hi, ei⟩ := ix_of hu
  obtain ⟨j, hj, ej⟩ := ix_of hw
  have mem_take : ∀ {a b : Nat}, a < b → b < R.length → R.getD a rw0 ∈ R.take b := fun {a b} hab hb => by
   rw [List.getD_eq_getElem?_getD, List.getElem?_eq_getElem (by omega), Option.getD_some]
   exact List.mem_take_iff_getElem.2 ⟨a, by omega, rfl⟩
  rcases Nat.lt_trichotomy i j with hij | hij | hij
  ·refine h ⟨j, hj, List.any_eq_true.2 ⟨u, by rw [← ei]; exact mem_take hij hj, ?_⟩⟩
   rw [ej]
   exact key w u (by rw [h1, h2]; rfl) (by omega) (by omega) (.inr h2) (by omega)
  ·subst hij
   rw [ei] at ej
   subst ej
   omega
  ·refine h ⟨i, hi, List.any_eq_true.2 ⟨w, by rw [← ej]; exact mem_take hij hi, ?_⟩⟩
   rw [ei]
   exact key u w (by rw [h1, h2]; rfl) (by omega) (by omega) (.inl h1) (by omega)
 ·exact hle
theorem best_min (f : Vc) (R : List Rw) : (bestF f R R.length 0 none = none ∧ ∀ c, some c ∉ candL f R) ∨ ∃ c, bestF f R R.length 0 none = some c ∧ some c ∈ candL f R ∧ ∀ d, some d ∈ candL f R → c.2.2 * d.2.1 ≤ d.2.2 * c.2.1 := by
 rw [best_fold]
 rcases tk_spec (fun c : Cd => c.2.2) (fun c => c.2.1) (candL f R) none (fun c hc => cand_pos hc) (fun c h => by cases h) with ⟨h1, _, h3⟩ | ⟨c, h1, h2, _, h4⟩
 ·exact .inl ⟨h1, h3⟩
 ·exact .inr ⟨c, h1, h2.elim (fun h => by cases h) id, h4⟩
def Cons (R : List Rw) : Prop := ∀ c d, bestF (0, -1) R R.length 0 none = some c → bestF (0, 1) R R.length 0 none = some d → -c.2.2 * d.2.1 ≤ d.2.2 * c.2.1
theorem cons_contra {R : List Rw} (hR : RHOk R) (h : ¬ Cons R) : Contra (R.map hv) := by
 unfold Cons at h
 have : ∃ c d, bestF (0, -1) R R.length 0 none = some c ∧ bestF (0, 1) R R.length 0 none = some d ∧ ¬ (-c.2.2 * d.2.1 ≤ d.2.2 * c.2.1) := by
  refine Classical.byContradiction fun hn => h fun c d hc hd => Classical.byContradiction fun hx => hn ⟨c, d, hc, hd, hx⟩
 obtain ⟨c, d, hc, hd, hx⟩ := this
 rcases best_min (0, -1) R with ⟨h1, _⟩ | ⟨c', h1, h2, _⟩
 ·rw [h1] at hc; cases hc
 ·rw [h1] at hc
  obtain rfl := Option.some.inj hc
  rcases best_min (0, 1) R with ⟨g1, _⟩ | ⟨d', g1, g2, _⟩
  ·rw [g1] at hd; cases hd
  ·rw [g1] at hd
   obtain rfl := Option.some.inj hd
   refine conflict (cand_up hR g2) (cand_lo hR h2) ?_
   rw [Int.neg_mul] at hx
   omega
theorem poss_feas {R : List Rw} (hR : RHOk R) (hb : ¬ Bad R) (hc : Cons R) : Feas (R.map hv) := by
 have hok : ∀ h ∈ R.map hv, HOk h := fun h hh => by obtain ⟨r, hr, rfl⟩ := List.mem_map.1 hh; exact hR r hr
 have hV : ∃ V D : Int, 0 < D ∧ (∀ d, some d ∈ candL (0, 1) R → V * d.2.1 ≤ d.2.2 * D) ∧ ∀ c, some c ∈ candL (0, -1) R → -c.2.2 * D ≤ V * c.2.1 := by
  rcases best_min (0, 1) R with ⟨g1, g2⟩ | ⟨d, g1, g2, g3⟩
  ·rcases best_min (0, -1) R with ⟨h1, h2⟩ | ⟨c, h1, h2, h3⟩
   ·exact ⟨0, 1, by omega, fun d hd => absurd hd (g2 d), fun c hc => absurd hc (h2 c)⟩
   ·refine ⟨-c.2.2, c.2.1, cand_pos h2, fun d hd => absurd hd (g2 d), fun c' hc' => ?_⟩
    have := h3 c' hc'
    rw [Int.neg_mul, Int.neg_mul]; omega
  ·refine ⟨d.2.2, d.2.1, cand_pos g2, fun d' hd' => g3 d' hd', fun c' hc' => ?_⟩
   rcases best_min (0, -1) R with ⟨h1, h2⟩ | ⟨c, h1, h2, h3⟩
   ·exact absurd hc' (h2 c')
   ·have e1 := hc c d h1 g1
    have e2 := h3 c' hc'
    have p1 := cand_pos h2
    have p2 := cand_pos hc'
    have p3 := cand_pos g2
    have z1 := Int.mul_le_mul_of_nonneg_right e1 (show 0 ≤ c'.2.1 by omega)
    have z2 := Int.mul_le_mul_of_nonneg_right e2 (show 0 ≤ d.2.1 by omega)
    refine Int.le_of_mul_le_mul_right ?_ p1
    have a1 : -c'.2.2 * d.2.1 * c.2.1 = -(c'.2.2 * c.2.1 * d.2.1) := by grind
    have a2 : -c.2.2 * d.2.1 * c'.2.1 = -(c.2.2 * c'.2.1 * d.2.1) := by grind
    have a3 : d.2.2 * c.2.1 * c'.2.1 = d.2.2 * c'.2.1 * c.2.1 := by grind
    omega
 obtain ⟨V, D, hD, up, lo⟩ := hV
 refine fm hok hD (V := V) (fun h hh h0 => ?_) (fun u hu hu1 w hw hw1 => ?_)
 ·obtain ⟨r, hr, rfl⟩ := List.mem_map.1 hh
  have hne := (hR r hr).1
  simp only [hv] at h0 hne ⊢
  rcases Int.lt_trichotomy r.1.2 0 with h | h | h
  ·obtain ⟨c, c1, c2, c3⟩ := one_cand hr (-1) (.inr rfl) h0 (by omega)
   have := lo c c1
   rw [c2, c3] at this
   have e1 : V * (-1 * r.1.2) = -(r.1.2 * V) := by grind
   rw [Int.neg_mul] at this
   omega
  ·rcases hne with h | h | h <;> omega
  ·obtain ⟨c, c1, c2, c3⟩ := one_cand hr 1 (.inl rfl) h0 (by omega)
   have := up c c1
   rw [c2, c3, Int.one_mul] at this
   rw [Int.mul_comm]; omega
 ·obtain ⟨u, hu', rfl⟩ := List.mem_map.1 hu
  obtain ⟨w, hw', rfl⟩ := List.mem_map.1 hw
  simp only [hv] at hu1 hw1 ⊢
  rcases Int.lt_trichotomy (u.1.2 + w.1.2) 0 with h | h | h
  ·obtain ⟨c, c1, c2, c3⟩ := two_cand hu' hw' (-1) (.inr rfl) hu1 hw1 (by omega)
   have := lo c c1
   rw [c2, c3] at this
   have e1 : V * (-1 * (u.1.2 + w.1.2)) = -((u.1.2 + w.1.2) * V) := by grind
   rw [Int.neg_mul] at this
   omega
  ·have := not_bad hb hu' hw' hu1 hw1 h
   rw [h, Int.zero_mul]
   exact Int.mul_nonneg this (by omega)
  ·obtain ⟨c, c1, c2, c3⟩ := two_cand hu' hw' 1 (.inl rfl) hu1 hw1 (by omega)
   have := up c c1
   rw [c2, c3, Int.one_mul] at this
   rw [Int.mul_comm]; omega
theorem poss_iff {R : List Rw} (hR : RHOk R) : (¬ Bad R ∧ Cons R) ↔ ¬ Contra (R.map hv) := by
 constructor
 ·rintro ⟨h1, h2⟩
  exact feas_not (fun h hh => by obtain ⟨r, hr, rfl⟩ := List.mem_map.1 hh; exact hR r hr) (poss_feas hR h1 h2)
 ·intro h
  exact ⟨fun hb => h (bad_contra hR hb), Classical.byContradiction fun hc => h (cons_contra hR hc)⟩
theorem possible_eq (l : List Msr) (hl : l.length ≤ 100) (hv' : ∀ m ∈ l, mErr m = 0) : ∃ b, s41 l = some b ∧ (b = true ↔ ¬ Contra (hvs l)) := by
 have hR := rws_ok hv' 0
 have hRw : ∀ r ∈ rwsF 0 l, RwOk r := fun r hr => rwOk_of (hR r hr)
 have hlen : (rwsF 0 l).length ≤ 1000 := by rw [rwsF_len]; omega
 have hiff := poss_iff hR
 rw [rws_hvs] at hiff
 unfold s41
 simp only [rows_eq l (by omega) hv', optE_some]
 rcases loop77o hRw hlen with ⟨h1, h2⟩ | ⟨h1, h2⟩
 ·rw [h2]
  refine ⟨false, rfl, (fun h => by cases h), fun h => absurd h1 (hiff.2 h).1⟩
 ·rw [h2]
  obtain ⟨s1, e1, k1, b1⟩ := best_eq (f := (0, -1)) ⟨by simp, by simp⟩ hRw hlen
  obtain ⟨s2, e2, k2, b2⟩ := best_eq (f := (0, 1)) ⟨by simp, by simp⟩ hRw hlen
  simp only [optE_some, sumE_r, b1, b2]
  cases hs1 : s1 with
  | none =>
    refine ⟨true, rfl, fun _ => hiff.1 ⟨h1, fun c d hc => ?_⟩, fun _ => rfl⟩
    rw [← e1, hs1] at hc; cases hc
  | some c =>
    cases hs2 : s2 with
    | none =>
      refine ⟨true, rfl, fun _ => hiff.1 ⟨h1, fun c d _ hd => ?_⟩, fun _ => rfl⟩
      rw [← e2, hs2] at hd; cases hd
    | some d =>
      obtain ⟨q1, q2⟩ := k1 c hs1
      obtain ⟨q3, q4⟩ := k2 d hs2
      have m1 := mulB (a := -c.2.2) (b := d.2.1) (A := 400000000) (B := 2000) (by omega) (by omega)
      have m2 := mulB (a := d.2.2) (b := c.2.1) (A := 400000000) (B := 2000) (by omega) (by omega)
      simp only [encC, Bool.not_true, cond_false]
      show ∃ b, some (decide (wr (wr (-c.2.2) * d.2.1) ≤ wr (d.2.2 * c.2.1))) = some b ∧ (b = true ↔ ¬ Contra (hvs l))
      rw [wr_id (n := -c.2.2) (by omega) (by omega), wr_id (n := -c.2.2 * d.2.1) (by omega) (by omega), wr_id (n := d.2.2 * c.2.1) (by omega) (by omega)]
      refine ⟨_, rfl, ?_⟩
      rw [decide_eq_true_eq]
      constructor
      ·intro h
       refine hiff.1 ⟨h1, fun c' d' hc hd => ?_⟩
       rw [← e1, hs1] at hc
       rw [← e2, hs2] at hd
       obtain rfl := Option.some.inj hc
       obtain rfl := Option.some.inj hd
       exact h
      ·intro h
       exact (hiff.2 h).2 c d (by rw [← e1, hs1]) (by rw [← e2, hs2])
end Go.Proofs.YtfpppijfkeidgaaGreatDoor
