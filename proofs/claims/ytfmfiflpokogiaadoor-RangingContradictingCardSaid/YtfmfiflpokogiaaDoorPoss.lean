import Derived.Test.YtfmfiflpokogiaaDoorPlane
import Derived.Test.YtfmfiflpokogiaaDoorClaimLaw
set_option linter.unusedSimpArgs false
namespace Go.Proofs.YtfmfiflpokogiaaDoor
open Go.Ev
def hv (r : Rw) : Hf := (r.1.1, r.1.2, r.2.1)
def RHOk (R : List Rw) : Prop := ∀ r ∈ R, HOk (hv r)
theorem rwOk_of {r : Rw} (h : HOk (hv r)) : RwOk r := by
 obtain ⟨h1, h2, h3⟩ := h
 unfold hv at *
 simp only at *
 refine ⟨⟨by rcases h1 with h | h | h <;> omega, h2⟩, h3⟩
theorem hf_hok {m : Msr} (hm : mErr m = 0) (up : Bool) : HOk (hf m up) := by
 obtain ⟨f1, f2, f3⟩ := hf_facts hm up
 obtain ⟨k1, k2, _, k4, _⟩ := mErr_ok.1 hm
 refine ⟨?_, f2, f3⟩
 unfold hf
 by_cases h : m.1 = 1
 ·have := k4 h
  cases up
  ·simp [h]; omega
  ·simp [h]; omega
 ·cases up <;> simp [h]
theorem rws_mem : ∀ (l : List Msr) (i : Nat) (r : Rw), r ∈ rwsF i l → ∃ m ∈ l, ∃ up, hv r = hf m up
 | [], _, _, h => by cases h
 | m :: l, i, r, h => by
   simp only [rwsF, List.mem_cons] at h
   rcases h with rfl | rfl | h
   ·exact ⟨m, by simp, true, rfl⟩
   ·exact ⟨m, by simp, false, rfl⟩
   ·obtain ⟨n, h1, h2⟩ := rws_mem l (i + 1) r h
    exact ⟨n, by simp [h1], h2⟩
theorem rws_ok {l : List Msr} (hv' : ∀ m ∈ l, mErr m = 0) (i : Nat) : RHOk (rwsF i l) := fun r hr => by
 obtain ⟨m, hm, up, e⟩ := rws_mem l i r hr
 rw [e]
 exact hf_hok (hv' m hm) up
def hvs (l : List Msr) : List Hf := l.flatMap fun m => [hf m true, hf m false]
theorem rws_hvs : ∀ (l : List Msr) (i : Nat), (rwsF i l).map hv = hvs l
 | [], _ => rfl
 | m :: l, i => by
   simp only [rwsF, List.map_cons, rws_hvs l (i + 1)]
   rfl
def candL (f : Vc) (R : List Rw) : List (Option Cd) := (List.range R.length).flatMap fun i => oneC f (R.getD i rw0) :: (R.take i).map fun s => pairC f s (R.getD i rw0)
theorem bestF_range (f : Vc) (R : List Rw) : ∀ (n i : Nat) (st : Option Cd), bestF f R n i st = ((List.range' i n).flatMap fun i => oneC f (R.getD i rw0) :: (R.take i).map fun s => pairC f s (R.getD i rw0)).foldl takeC st
 | 0, _, _ => rfl
 | n + 1, i, st => by
   rw [bestF, bestF_range f R n (i + 1), List.range'_succ, List.flatMap_cons, List.foldl_append, List.foldl_cons, List.foldl_map]
   rfl
theorem takeC_tk : takeC = tk (fun c : Cd => c.2.2) (fun c => c.2.1) := by
 funext st c
 cases c with
 | none => rfl
 | some c => cases st <;> rfl
theorem best_fold (f : Vc) (R : List Rw) : bestF f R R.length 0 none = (candL f R).foldl (tk (fun c : Cd => c.2.2) (fun c => c.2.1)) none := by
 rw [bestF_range, ← takeC_tk, ← List.range_eq_range']
 rfl
theorem cand_mem {f : Vc} {R : List Rw} {c : Cd} : some c ∈ candL f R ↔ ∃ i, i < R.length ∧ (oneC f (R.getD i rw0) = some c ∨ ∃ j, j < i ∧ pairC f (R.getD j rw0) (R.getD i rw0) = some c) := by
 unfold candL
 simp only [List.mem_flatMap, List.mem_range, List.mem_cons, List.mem_map]
 constructor
 ·rintro ⟨i, hi, h | ⟨s, hs, h⟩⟩
  ·exact ⟨i, hi, .inl h.symm⟩
  ·obtain ⟨j, hj, rfl⟩ := List.mem_iff_getElem.1 hs
   rw [List.length_take] at hj
   refine ⟨i, hi, .inr ⟨j, by omega, ?_⟩⟩
   rw [List.getElem_take] at h
   rw [List.getD_eq_getElem?_getD (l := R) (i := j), List.getElem?_eq_getElem (by omega)]
   exact h
 ·rintro ⟨i, hi, h | ⟨j, hj, h⟩⟩
  ·exact ⟨i, hi, .inl h.symm⟩
  ·refine ⟨i, hi, .inr ⟨R.getD j rw0, ?_, h⟩⟩
   rw [List.getD_eq_getElem?_getD, List.getElem?_eq_getElem (by omega), Option.getD_some]
   exact List.mem_take_iff_getElem.2 ⟨j, by omega, rfl⟩
theorem addT_facts {r : Rw} {w : Int} {c : Cd} (hw : 0 ≤ w) : (addT r w c).2.1 = c.2.1 ∧ (addT r w c).2.2 = c.2.2 + w * r.2.1 := by
 unfold addT
 split
 ·exact ⟨rfl, rfl⟩
 ·rename_i h
  have : w = 0 := by omega
  subst this
  simp
theorem pairC_some {f : Vc} {s r : Rw} {c : Cd} (h : pairC f s r = some c) : ∃ D P Q, nrm (crs s.1 r.1) (crs f r.1) (crs s.1 f) = (D, P, Q) ∧ 0 < D ∧ 0 ≤ P ∧ 0 ≤ Q ∧ c = addT r Q (addT s P ([], D, 0)) ∧ c.2.1 = D ∧ c.2.2 = P * s.2.1 + Q * r.2.1 := by
 unfold pairC at h
 have hn : 0 ≤ (nrm (crs s.1 r.1) (crs f r.1) (crs s.1 f)).1 := by unfold nrm; split <;> simp only <;> omega
 generalize hg : nrm (crs s.1 r.1) (crs f r.1) (crs s.1 f) = t at *
 obtain ⟨D, P, Q⟩ := t
 split at h
 ·cases h
 ·rename_i hc
  simp only [not_or] at hc
  simp only at hn
  obtain rfl := Option.some.inj h
  obtain ⟨e1, e2⟩ := addT_facts (r := s) (c := (([], D, 0) : Cd)) (show 0 ≤ P by omega)
  obtain ⟨e3, e4⟩ := addT_facts (r := r) (c := addT s P (([], D, 0) : Cd)) (show 0 ≤ Q by omega)
  refine ⟨D, P, Q, rfl, by omega, by omega, by omega, rfl, by rw [e3, e1], by rw [e4, e2]; simp⟩
theorem pairC_of {f : Vc} {s r : Rw} {D P Q : Int} (h : nrm (crs s.1 r.1) (crs f r.1) (crs s.1 f) = (D, P, Q)) (h1 : 0 < D) (h2 : 0 ≤ P) (h3 : 0 ≤ Q) : ∃ c, pairC f s r = some c ∧ c.2.1 = D ∧ c.2.2 = P * s.2.1 + Q * r.2.1 := by
 have : ∃ c, pairC f s r = some c := by
  unfold pairC
  rw [h]
  rw [if_neg (by simp only; omega)]
  exact ⟨_, rfl⟩
 obtain ⟨c, hc⟩ := this
 obtain ⟨D', P', Q', e, _, _, _, _, e1, e2⟩ := pairC_some hc
 rw [h] at e
 obtain ⟨rfl, rfl, rfl⟩ : D = D' ∧ P = P' ∧ Q = Q' := by injection e with a b; injection b with b c; exact ⟨a, b, c⟩
 exact ⟨c, hc, e1, e2⟩
theorem cand_pos {f : Vc} {R : List Rw} {c : Cd} (h : some c ∈ candL f R) : 0 < c.2.1 := by
 obtain ⟨i, _, h | ⟨j, _, h⟩⟩ := cand_mem.1 h
 ·unfold oneC at h
  split at h
  ·obtain rfl := Option.some.inj h; assumption
  ·cases h
 ·obtain ⟨D, P, Q, _, h1, _, _, _, h2, _⟩ := pairC_some h
  omega
theorem ix_of {R : List Rw} {r : Rw} (h : r ∈ R) : ∃ i, i < R.length ∧ R.getD i rw0 = r := by
 obtain ⟨i, hi, e⟩ := List.mem_iff_getElem.1 h
 exact ⟨i, hi, by rw [List.getD_eq_getElem?_getD, List.getElem?_eq_getElem hi]; exact e⟩
theorem dir_one {r : Rw} (sg : Int) (hsg : sg = 1 ∨ sg = -1) : oneC (0, sg) r = if r.1.1 = 0 ∧ 0 < sg * r.1.2 then some ([(r.2.2.1, r.2.2.2, 1)], sg * r.1.2, r.2.1) else none := by
 have ha : alg r.1 (0, sg) = if r.1.1 = 0 ∧ 0 < sg * r.1.2 then sg * r.1.2 else 0 := by
  unfold alg crs
  simp only [Int.zero_mul, Int.sub_zero, Int.mul_zero, Int.zero_add, ne_eq, not_true_eq_false, if_false]
  rcases hsg with rfl | rfl
  ·simp only [Int.mul_one, Int.one_mul, Int.tdiv_one]
   by_cases h : r.1.1 = 0 ∧ 0 < r.1.2
   ·rw [if_pos h, if_neg (by omega)]
   ·rw [if_neg h]
    by_cases h2 : ¬ r.1.1 = 0 ∨ r.1.2 ≤ 0
    ·rw [if_pos h2]
    ·exfalso; omega
  ·have e : Int.tdiv r.1.2 (-1) = -1 * r.1.2 := by rw [Int.tdiv_neg, Int.tdiv_one]; omega
   rw [e]
   by_cases h : r.1.1 = 0 ∧ 0 < -1 * r.1.2
   ·rw [if_pos h, if_neg (by omega)]
   ·rw [if_neg h]
    by_cases h2 : ¬ r.1.1 * -1 = 0 ∨ r.1.2 * -1 ≤ 0
    ·rw [if_pos h2]
    ·exfalso; omega
 unfold oneC
 rw [ha]
 by_cases h : r.1.1 = 0 ∧ 0 < sg * r.1.2
 ·rw [if_pos h, if_pos (by simpa using h.2)]
  rw [if_pos h]
 ·rw [if_neg h, if_neg h, if_neg (by omega)]
theorem dir_pair {s r : Rw} (hs : HOk (hv s)) (hr : HOk (hv r)) {c : Cd} (sg : Int) (hsg : sg = 1 ∨ sg = -1) (h : pairC (0, sg) s r = some c) :
 (r.1.1 = 0 ∧ 0 < sg * r.1.2 ∧ c.2.2 * (sg * r.1.2) = r.2.1 * c.2.1) ∨ (s.1.1 = 0 ∧ 0 < sg * s.1.2 ∧ c.2.2 * (sg * s.1.2) = s.2.1 * c.2.1) ∨
 (∃ u w, (u = s ∧ w = r ∨ u = r ∧ w = s) ∧ u.1.1 = 1 ∧ w.1.1 = -1 ∧ 0 < sg * (u.1.2 + w.1.2) ∧ c.2.2 * (sg * (u.1.2 + w.1.2)) = (u.2.1 + w.2.1) * c.2.1) := by
 obtain ⟨D, P, Q, hn, h1, h2, h3, _, e1, e2⟩ := pairC_some h
 have hc1 : crs (0, sg) r.1 = -(sg * r.1.1) := by unfold crs; simp only; grind
 have hc2 : crs s.1 (0, sg) = sg * s.1.1 := by unfold crs; simp only; grind
 have hc3 : crs s.1 r.1 = s.1.1 * r.1.2 - r.1.1 * s.1.2 := rfl
 rw [hc1, hc2, hc3] at hn
 rw [e1, e2]
 have hs1 := hs.1
 have hr1 := hr.1
 simp only [hv] at hs1 hr1
 have hd : s.1.1 * r.1.2 - r.1.1 * s.1.2 < 0 ∧ D = -(s.1.1 * r.1.2 - r.1.1 * s.1.2) ∧ P = sg * r.1.1 ∧ Q = -(sg * s.1.1) ∨ 0 ≤ s.1.1 * r.1.2 - r.1.1 * s.1.2 ∧ D = s.1.1 * r.1.2 - r.1.1 * s.1.2 ∧ P = -(sg * r.1.1) ∧ Q = sg * s.1.1 := by
  unfold nrm at hn
  split at hn
  ·rename_i hlt
   injection hn with a b; injection b with b c
   exact .inl ⟨hlt, a.symm, by omega, c.symm⟩
  ·rename_i hlt
   injection hn with a b; injection b with b c
   exact .inr ⟨by omega, a.symm, b.symm, c.symm⟩
 rcases hs1 with hs1 | hs1 | ⟨hs1, hs2⟩ <;> rcases hr1 with hr1 | hr1 | ⟨hr1, hr2⟩ <;> rw [hs1, hr1] at hd
 ·exfalso; rcases hsg with rfl | rfl <;> omega
 ·right; right
  refine ⟨s, r, .inl ⟨rfl, rfl⟩, hs1, hr1, ?_⟩
  rcases hsg with rfl | rfl
  ·obtain ⟨d1, d2, d3, d4⟩ | ⟨d1, d2, d3, d4⟩ := hd
   ·omega
   ·rw [d2, d3, d4]; refine ⟨by omega, by grind⟩
  ·obtain ⟨d1, d2, d3, d4⟩ | ⟨d1, d2, d3, d4⟩ := hd
   ·rw [d2, d3, d4]; refine ⟨by omega, by grind⟩
   ·omega
 ·left
  refine ⟨hr1, ?_⟩
  rcases hsg with rfl | rfl
  ·obtain ⟨d1, d2, d3, d4⟩ | ⟨d1, d2, d3, d4⟩ := hd
   ·omega
   ·rw [d2, d3, d4]; refine ⟨by omega, by grind⟩
  ·obtain ⟨d1, d2, d3, d4⟩ | ⟨d1, d2, d3, d4⟩ := hd
   ·rw [d2, d3, d4]; refine ⟨by omega, by grind⟩
   ·omega
 ·right; right
  refine ⟨r, s, .inr ⟨rfl, rfl⟩, hr1, hs1, ?_⟩
  rcases hsg with rfl | rfl
  ·obtain ⟨d1, d2, d3, d4⟩ | ⟨d1, d2, d3, d4⟩ := hd
   ·rw [d2, d3, d4]; refine ⟨by omega, by grind⟩
   ·omega
  ·obtain ⟨d1, d2, d3, d4⟩ | ⟨d1, d2, d3, d4⟩ := hd
   ·omega
   ·rw [d2, d3, d4]; refine ⟨by omega, by grind⟩
 ·exfalso; rcases hsg with rfl | rfl <;> omega
 ·left
  refine ⟨hr1, ?_⟩
  rcases hsg with rfl | rfl
  ·obtain ⟨d1, d2, d3, d4⟩ | ⟨d1, d2, d3, d4⟩ := hd
   ·rw [d2, d3, d4]; refine ⟨by omega, by grind⟩
   ·omega
  ·obtain ⟨d1, d2, d3, d4⟩ | ⟨d1, d2, d3, d4⟩ := hd
   ·omega
   ·rw [d2, d3, d4]; refine ⟨by omega, by grind⟩
 ·right; left
  refine ⟨hs1, ?_⟩
  rcases hsg with rfl | rfl
  ·obtain ⟨d1, d2, d3, d4⟩ | ⟨d1, d2, d3, d4⟩ := hd
   ·rw [d2, d3, d4]; refine ⟨by omega, by grind⟩
   ·omega
  ·obtain ⟨d1, d2, d3, d4⟩ | ⟨d1, d2, d3, d4⟩ := hd
   ·omega
   ·rw [d2, d3, d4]; refine ⟨by omega, by grind⟩
 ·right; left
  refine ⟨hs1, ?_⟩
  rcases hsg with rfl | rfl
  ·obtain ⟨d1, d2, d3, d4⟩ | ⟨d1, d2, d3, d4⟩ := hd
   ·omega
   ·rw [d2, d3, d4]; refine ⟨by omega, by grind⟩
  ·obtain ⟨d1, d2, d3, d4⟩ | ⟨d1, d2, d3, d4⟩ := hd
   ·rw [d2, d3, d4]; refine ⟨by omega, by grind⟩
   ·omega
 ·exfalso; omega
theorem cand_up {R : List Rw} (hR : RHOk R) {c : Cd} (h : some c ∈ candL (0, 1) R) : UpB (R.map hv) c.2.2 c.2.1 := by
 refine ⟨cand_pos h, ?_⟩
 obtain ⟨i, hi, h | ⟨j, hj, h⟩⟩ := cand_mem.1 h
 ·have hm := getD_mem rw0 hi
  rw [dir_one 1 (.inl rfl)] at h
  split at h
  ·rename_i hc
   obtain rfl := Option.some.inj h
   exact .inl ⟨hv (R.getD i rw0), List.mem_map.2 ⟨_, hm, rfl⟩, hc.1, by simp only [hv]; omega, by simp only [hv]; rw [Int.one_mul]⟩
  ·cases h
 ·have hm := getD_mem rw0 hi
  have hm2 := getD_mem rw0 (show j < R.length by omega)
  rcases dir_pair (hR _ hm2) (hR _ hm) 1 (.inl rfl) h with ⟨g1, g2, g3⟩ | ⟨g1, g2, g3⟩ | ⟨u, w, huw, g1, g2, g3, g4⟩
  ·rw [Int.one_mul] at g2 g3
   exact .inl ⟨_, List.mem_map.2 ⟨_, hm, rfl⟩, g1, g2, g3⟩
  ·rw [Int.one_mul] at g2 g3
   exact .inl ⟨_, List.mem_map.2 ⟨_, hm2, rfl⟩, g1, g2, g3⟩
  ·rw [Int.one_mul] at g3 g4
   have hu : u ∈ R ∧ w ∈ R := by rcases huw with ⟨rfl, rfl⟩ | ⟨rfl, rfl⟩; exact ⟨hm2, hm⟩; exact ⟨hm, hm2⟩
   exact .inr ⟨hv u, List.mem_map.2 ⟨_, hu.1, rfl⟩, hv w, List.mem_map.2 ⟨_, hu.2, rfl⟩, g1, g2, g3, g4⟩
theorem cand_lo {R : List Rw} (hR : RHOk R) {c : Cd} (h : some c ∈ candL (0, -1) R) : LoB (R.map hv) c.2.2 c.2.1 := by
 refine ⟨cand_pos h, ?_⟩
 obtain ⟨i, hi, h | ⟨j, hj, h⟩⟩ := cand_mem.1 h
 ·have hm := getD_mem rw0 hi
  rw [dir_one (-1) (.inr rfl)] at h
  split at h
  ·rename_i hc
   obtain rfl := Option.some.inj h
   exact .inl ⟨hv (R.getD i rw0), List.mem_map.2 ⟨_, hm, rfl⟩, hc.1, by simp only [hv]; omega, by simp only [hv]; grind⟩
  ·cases h
 ·have hm := getD_mem rw0 hi
  have hm2 := getD_mem rw0 (show j < R.length by omega)
  rcases dir_pair (hR _ hm2) (hR _ hm) (-1) (.inr rfl) h with ⟨g1, g2, g3⟩ | ⟨g1, g2, g3⟩ | ⟨u, w, huw, g1, g2, g3, g4⟩
  ·exact .inl ⟨_, List.mem_map.2 ⟨_, hm, rfl⟩, g1, by simp only [hv]; omega, by simp only [hv]; rw [← g3]; grind⟩
  ·exact .inl ⟨_, List.mem_map.2 ⟨_, hm2, rfl⟩, g1, by simp only [hv]; omega, by simp only [hv]; rw [← g3]; grind⟩
  ·have hu : u ∈ R ∧ w ∈ R := by rcases huw with ⟨rfl, rfl⟩ | ⟨rfl, rfl⟩; exact ⟨hm2, hm⟩; exact ⟨hm, hm2⟩
   exact .inr ⟨hv u, List.mem_map.2 ⟨_, hu.1, rfl⟩, hv w, List.mem_map.2 ⟨_, hu.2, rfl⟩, g1, g2, by simp only [hv]; omega, by simp only [hv]; rw [← g4]; grind⟩
theorem one_cand {R : List Rw} {r : Rw} (hr : r ∈ R) (sg : Int) (hsg : sg = 1 ∨ sg = -1) (h1 : r.1.1 = 0) (h2 : 0 < sg * r.1.2) : ∃ c, some c ∈ candL (0, sg) R ∧ c.2.1 = sg * r.1.2 ∧ c.2.2 = r.2.1 := by
 obtain ⟨i, hi, e⟩ := ix_of hr
 refine ⟨([(r.2.2.1, r.2.2.2, 1)], sg * r.1.2, r.2.1), cand_mem.2 ⟨i, hi, .inl ?_⟩, rfl, rfl⟩
 rw [e, dir_one sg hsg, if_pos ⟨h1, h2⟩]
theorem two_cand {R : List Rw} {u w : Rw} (hu : u ∈ R) (hw : w ∈ R) (sg : Int) (hsg : sg = 1 ∨ sg = -1) (h1 : u.1.1 = 1) (h2 : w.1.1 = -1) (h3 : 0 < sg * (u.1.2 + w.1.2)) : ∃ c, some c ∈ candL (0, sg) R ∧ c.2.1 = sg * (u.1.2 + w.1.2) ∧ c.2.2 = u.2.1 + w.2.1 := by
 obtain ⟨i, hi, ei⟩ := ix_of hu
 obtain ⟨j, hj, ej⟩ := ix_of hw
 rcases Nat.lt_trichotomy i j with h | h | h
 ·have hn : nrm (crs u.1 w.1) (crs (0, sg) w.1) (crs u.1 (0, sg)) = (sg * (u.1.2 + w.1.2), 1, 1) := by
   have c1 : crs u.1 w.1 = u.1.2 + w.1.2 := by unfold crs; rw [h1, h2]; omega
   have c2 : crs (0, sg) w.1 = sg := by unfold crs; rw [h2]; simp only; omega
   have c3 : crs u.1 (0, sg) = sg := by unfold crs; rw [h1]; simp only; omega
   rw [c1, c2, c3]
   unfold nrm
   rcases hsg with rfl | rfl
   ·rw [if_neg (by omega), Int.one_mul]
   ·rw [if_pos (by omega)]; simp
  obtain ⟨c, g1, g2, g3⟩ := pairC_of hn h3 (by omega) (by omega)
  exact ⟨c, cand_mem.2 ⟨j, hj, .inr ⟨i, h, by rw [ei, ej]; exact g1⟩⟩, g2, by omega⟩
 ·subst h
  rw [ei] at ej
  subst ej
  omega
 ·have hn : nrm (crs w.1 u.1) (crs (0, sg) u.1) (crs w.1 (0, sg)) = (sg * (u.1.2 + w.1.2), 1, 1) := by
   have c1 : crs w.1 u.1 = -(u.1.2 + w.1.2) := by unfold crs; rw [h1, h2]; omega
   have c2 : crs (0, sg) u.1 = -sg := by unfold crs; rw [h1]; simp only; omega
   have c3 : crs w.1 (0, sg) = -sg := by unfold crs; rw [h2]; simp only; omega
   rw [c1, c2, c3]
   unfold nrm
   rcases hsg with rfl | rfl
   ·rw [if_pos (by omega)]; simp
   ·rw [if_neg (by omega)]; simp
  obtain ⟨c, g1, g2, g3⟩ := pairC_of hn h3 (by omega) (by omega)
  exact ⟨c, cand_mem.2 ⟨i, hi, .inr ⟨j, h, by rw [ei, ej]; exact g1⟩⟩, g2, by omega⟩
end Go.Proofs.YtfmfiflpokogiaaDoor
