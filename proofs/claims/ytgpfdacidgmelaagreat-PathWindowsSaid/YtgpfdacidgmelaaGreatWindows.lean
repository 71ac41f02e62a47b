/- Chapter 1: windows; PathWindows. -/
import Derived.Test.YtgpfdacidgmelaaGreatSites
import Derived.Test.YtgpfdacidgmelaaGreatGb5
set_option linter.unusedSimpArgs false
namespace Go.Proofs.YtgpfdacidgmelaaGreat
open Go.Ev

abbrev Wn := Int × Int × Int
theorem getD_set' {α : Type} (l : List α) (d : α) (i j : Nat) (y : α) : (l.set i y).getD j d = if i = j ∧ j < l.length then y else l.getD j d := by
  rw [List.getD_eq_getElem?_getD, List.getD_eq_getElem?_getD, List.getElem?_set]
  by_cases h : i = j
  · subst h
    by_cases h2 : i < l.length
    · simp [h2]
    · simp [h2]
  · simp [h]
theorem getD_snoc {α : Type} (l : List α) (d y : α) (j : Nat) : (l ++ [y]).getD j d = if j < l.length then l.getD j d else if j = l.length then y else d := by
  rw [List.getD_eq_getElem?_getD, List.getD_eq_getElem?_getD]
  by_cases h : j < l.length
  · rw [if_pos h, List.getElem?_append_left h]
  · rw [if_neg h, List.getElem?_append_right (by omega)]
    by_cases e : j = l.length
    · rw [if_pos e]; simp [e]
    · rw [if_neg e, List.getElem?_eq_none (by simp; omega)]; rfl

/-- One more answer. -/
def wst (out : List Wn) (r : Int) (i : Nat) : List Wn :=
  if 0 < out.length ∧ (out.getD (out.length - 1) (0, 0, 0)).1 = r then out.set (out.length - 1) ((out.getD (out.length - 1) (0, 0, 0)).1, (out.getD (out.length - 1) (0, 0, 0)).2.1, (i : Int)) else out ++ [(r, (i : Int), (i : Int))]
def wins (f : Nat → Int) : Nat → List Wn
  | 0 => []
  | k + 1 => wst (wins f k) (f k) k

structure Runs (f : Nat → Int) (out : List Wn) (k : Nat) : Prop where
  len : out.length ≤ k
  pos : 0 < k → 0 < out.length
  first : ∀ j, j < out.length → (out.getD j (0, 0, 0)).2.1 = if j = 0 then 0 else (out.getD (j - 1) (0, 0, 0)).2.2 + 1
  ord : ∀ j, j < out.length → 0 ≤ (out.getD j (0, 0, 0)).2.1 ∧ (out.getD j (0, 0, 0)).2.1 ≤ (out.getD j (0, 0, 0)).2.2 ∧ (out.getD j (0, 0, 0)).2.2 < (k : Int)
  last : ∀ j, j + 1 = out.length → (out.getD j (0, 0, 0)).2.2 = (k : Int) - 1
  ans : ∀ j, j < out.length → ∀ m : Nat, (out.getD j (0, 0, 0)).2.1 ≤ (m : Int) → (m : Int) ≤ (out.getD j (0, 0, 0)).2.2 → f m = (out.getD j (0, 0, 0)).1
  diff : ∀ j, 0 < j → j < out.length → (out.getD j (0, 0, 0)).1 ≠ (out.getD (j - 1) (0, 0, 0)).1

theorem runs_step {f : Nat → Int} {out : List Wn} {k : Nat} (h : Runs f out k) : Runs f (wst out (f k) k) (k + 1) := by
  unfold wst
  split
  · rename_i hc
    obtain ⟨h0, h1⟩ := hc
    have hl := h.len
    have hlast := h.last (out.length - 1) (by omega)
    have ho := h.ord (out.length - 1) (by omega)
    obtain ⟨w, hw⟩ : ∃ w, out.getD (out.length - 1) (0, 0, 0) = w := ⟨_, rfl⟩
    rw [hw] at h1 hlast ho ⊢
    have hg : ∀ j, (out.set (out.length - 1) (w.1, w.2.1, (k : Int))).getD j (0, 0, 0) = if j = out.length - 1 then (w.1, w.2.1, (k : Int)) else out.getD j (0, 0, 0) := by
      intro j
      rw [getD_set']
      by_cases e : j = out.length - 1
      · rw [if_pos e, if_pos ⟨e.symm, by omega⟩]
      · rw [if_neg e, if_neg (fun x => e x.1.symm)]
    refine ⟨by rw [List.length_set]; omega, fun _ => by rw [List.length_set]; exact h0, fun j hj => ?_, fun j hj => ?_, fun j hj => ?_, fun j hj m m1 m2 => ?_, fun j hj0 hj => ?_⟩
    · rw [List.length_set] at hj
      rw [hg, hg (j - 1)]
      have := h.first j hj
      by_cases e : j = out.length - 1
      · rw [if_pos e]
        subst e
        rw [hw] at this
        by_cases z : out.length - 1 = 0
        · rw [if_pos z] at this ⊢; exact this
        · rw [if_neg z] at this ⊢; rw [if_neg (show ¬ out.length - 1 - 1 = out.length - 1 by omega)]; exact this
      · rw [if_neg e, if_neg (show ¬ j - 1 = out.length - 1 by omega)]; exact this
    · rw [List.length_set] at hj
      rw [hg]
      have := h.ord j hj
      by_cases e : j = out.length - 1
      · rw [if_pos e]
        simp only []
        omega
      · rw [if_neg e]; omega
    · rw [List.length_set] at hj
      rw [hg, if_pos (by omega)]
      simp only []
      omega
    · rw [List.length_set] at hj
      rw [hg] at m1 m2 ⊢
      by_cases e : j = out.length - 1
      · rw [if_pos e] at m1 m2 ⊢
        simp only [] at m1 m2 ⊢
        by_cases em : m = k
        · rw [em]; exact h1.symm
        · have := h.ans (out.length - 1) (by omega) m (by rw [hw]; omega) (by rw [hw]; omega)
          rw [hw] at this
          exact this
      · rw [if_neg e] at m1 m2 ⊢
        exact h.ans j hj m m1 m2
    · rw [List.length_set] at hj
      rw [hg, hg (j - 1)]
      have := h.diff j hj0 hj
      rw [if_neg (show ¬ j - 1 = out.length - 1 by omega)]
      by_cases e : j = out.length - 1
      · rw [if_pos e]
        subst e
        rw [hw] at this
        exact this
      · rw [if_neg e]; exact this
  · rename_i hc
    have hl := h.len
    have hg := getD_snoc out (0, 0, 0) (f k, (k : Int), (k : Int))
    refine ⟨by simp; omega, fun _ => by simp, fun j hj => ?_, fun j hj => ?_, fun j hj => ?_, fun j hj m m1 m2 => ?_, fun j hj0 hj => ?_⟩
    · simp only [List.length_append, List.length_cons, List.length_nil] at hj
      rw [hg, hg (j - 1)]
      by_cases e : j < out.length
      · rw [if_pos e]
        have := h.first j e
        by_cases z : j = 0
        · rw [if_pos z] at this ⊢; exact this
        · rw [if_neg z] at this ⊢; rw [if_pos (by omega)]; exact this
      · rw [if_neg e, if_pos (by omega)]
        simp only []
        by_cases z : j = 0
        · rw [if_pos z]
          have : k = 0 := by
            by_cases hk : k = 0
            · exact hk
            · have := h.pos (by omega); omega
          omega
        · rw [if_neg z, if_pos (by omega)]
          have := h.last (j - 1) (by omega)
          omega
    · simp only [List.length_append, List.length_cons, List.length_nil] at hj
      rw [hg]
      by_cases e : j < out.length
      · rw [if_pos e]; have := h.ord j e; omega
      · rw [if_neg e, if_pos (by omega)]; simp only []; omega
    · simp only [List.length_append, List.length_cons, List.length_nil] at hj
      rw [hg, if_neg (by omega), if_pos (by omega)]
      simp only []; omega
    · simp only [List.length_append, List.length_cons, List.length_nil] at hj
      rw [hg] at m1 m2 ⊢
      by_cases e : j < out.length
      · rw [if_pos e] at m1 m2 ⊢
        exact h.ans j e m m1 m2
      · rw [if_neg e, if_pos (show j = out.length by omega)] at m1 m2 ⊢
        simp only [] at m1 m2 ⊢
        have : m = k := by omega
        rw [this]
    · simp only [List.length_append, List.length_cons, List.length_nil] at hj
      rw [hg, hg (j - 1), if_pos (show j - 1 < out.length by omega)]
      by_cases e : j < out.length
      · rw [if_pos e]; exact h.diff j hj0 e
      · rw [if_neg e, if_pos (by omega)]
        simp only []
        intro he
        refine hc ⟨by omega, ?_⟩
        rw [show out.length - 1 = j - 1 by omega]
        exact he.symm
theorem runs_ok (f : Nat → Int) : ∀ k, Runs f (wins f k) k
  | 0 => ⟨by simp [wins], fun h => by omega, fun j h => by simp [wins] at h, fun j h => by simp [wins] at h, fun j h => by simp [wins] at h, fun j h => by simp [wins] at h, fun j _ h => by simp [wins] at h⟩
  | k + 1 => runs_step (runs_ok f k)

/-! The loops -/
abbrev Gd := Int × Int × Int
theorem wstep_body {out : List Wn} {r : Int} {k : Nat} (hk : k ≤ 1000) (hl : out.length ≤ k) :
    (bif decide (0 < out.length) then
        bif inBounds (wr ((out.length : Int) - 1)) out.length then
          bif (out.getD (wr ((out.length : Int) - 1)).toNat (0, 0, 0)).1 == r then
            bif inBounds (wr ((out.length : Int) - 1)) out.length then
              some (out.set (wr ((out.length : Int) - 1)).toNat ((out.getD (wr ((out.length : Int) - 1)).toNat (0, 0, 0)).1, (out.getD (wr ((out.length : Int) - 1)).toNat (0, 0, 0)).2.1, (k : Int)))
            else none
          else
            bif room 24 (out.length + 1) then some (out ++ [(r, (k : Int), (k : Int))]) else none
        else none
      else
        bif room 24 (out.length + 1) then some (out ++ [(r, (k : Int), (k : Int))]) else none) = some (wst out r k) := by
  have hr : room 24 (out.length + 1) = true := room_true (by omega) (by omega)
  unfold wst
  by_cases h : 0 < out.length
  · have e : wr ((out.length : Int) - 1) = ((out.length - 1 : Nat) : Int) := by rw [wr_id (by omega) (by omega)]; omega
    rw [decide_eq_true h, cond_true, e, inb_nat (show out.length - 1 < out.length by omega), Int.toNat_natCast, cond_true, cond_true, hr]
    by_cases c : (out.getD (out.length - 1) (0, 0, 0)).1 = r
    · rw [if_pos ⟨h, c⟩, show ((out.getD (out.length - 1) (0, 0, 0)).1 == r) = true by simpa using c]; rfl
    · rw [if_neg (fun x => c x.2), show ((out.getD (out.length - 1) (0, 0, 0)).1 == r) = false by simpa using c]; rfl
  · rw [decide_eq_false h, cond_false, hr, if_neg (fun x => h x.1)]; rfl

theorem winP_loop {v : Vw} {g : Gd} {f : Nat → Int} {n : Nat} (hn : n ≤ 200) (hg : g.2.2 = (n : Int)) (hv : ∀ k : Nat, k < n → s82 (v, wr (g.1 + wr ((k : Int) * g.2.1))) = some (f k)) :
    loopVal step41_0 ([], g.2.2, 0, v, g) = some (wins f n) :=
  loop_for (step := step41_0) (st := fun k => (wins f k, g.2.2, (k : Int), v, g)) (n := n)
    (fun k hk => by
      have hb := wstep_body (out := wins f k) (r := f k) (k := k) (by omega) (runs_ok f k).len
      have hd : decide (wr (((wins f k).length : Int) - 1) ≥ 0) = decide (0 < (wins f k).length) := by
        have := (runs_ok f k).len
        rw [wr_id (n := ((wins f k).length : Int) - 1) (by omega) (by omega)]
        by_cases h : 0 < (wins f k).length
        · rw [decide_eq_true h, decide_eq_true (by omega)]
        · rw [decide_eq_false h, decide_eq_false (by omega)]
      simp only [step41_0, hg, lt_cast, hk, decide_true, cond_true, hv k hk, optE_some, wr_succ (show k < 4611686018427387904 by omega), hd]
      simp only [wins]
      revert hb
      cases decide (0 < (wins f k).length)
      · cases room 24 ((wins f k).length + 1)
        · intro hb; cases hb
        · intro hb; have := Option.some.inj hb; simp only [cond_false, cond_true, this]
      · cases inBounds (wr (((wins f k).length : Int) - 1)) (wins f k).length
        · intro hb; cases hb
        · cases (((wins f k).getD (wr (((wins f k).length : Int) - 1)).toNat (0, 0, 0)).1 == f k)
          · cases room 24 ((wins f k).length + 1)
            · intro hb; cases hb
            · intro hb; have := Option.some.inj hb; simp only [cond_false, cond_true, this]
          · intro hb; have := Option.some.inj hb; simp only [cond_false, cond_true, this])
    (by simp only [step41_0, hg, lt_cast, Nat.lt_irrefl, decide_false, cond_false]) 0 (by omega)
theorem winR_loop {v : Vw} {g : Gd} {f : Nat → Int} {n : Nat} (hn : n ≤ 200) (hg : g.2.2 = (n : Int)) (hv : ∀ k : Nat, k < n → s40 (v, wr (g.1 + wr ((k : Int) * g.2.1))) = some (f k)) :
    loopVal step44_0 ([], 0, v, g) = some (wins f n) :=
  loop_for (step := step44_0) (st := fun k => (wins f k, (k : Int), v, g)) (n := n)
    (fun k hk => by
      have hd : decide (((wins f k).length : Int) > 0) = decide (0 < (wins f k).length) := by by_cases h : 0 < (wins f k).length <;> simp [h]
      have hb := wstep_body (out := wins f k) (r := f k) (k := k) (by omega) (runs_ok f k).len
      simp only [step44_0, hg, lt_cast, hk, decide_true, cond_true, hv k hk, optE_some, wr_succ (show k < 4611686018427387904 by omega), hd]
      simp only [wins]
      revert hb
      cases decide (0 < (wins f k).length)
      · cases room 24 ((wins f k).length + 1)
        · intro hb; cases hb
        · intro hb; have := Option.some.inj hb; simp only [cond_false, cond_true, this]
      · cases inBounds (wr (((wins f k).length : Int) - 1)) (wins f k).length
        · intro hb; cases hb
        · cases (((wins f k).getD (wr (((wins f k).length : Int) - 1)).toNat (0, 0, 0)).1 == f k)
          · cases room 24 ((wins f k).length + 1)
            · intro hb; cases hb
            · intro hb; have := Option.some.inj hb; simp only [cond_false, cond_true, this]
          · intro hb; have := Option.some.inj hb; simp only [cond_false, cond_true, this])
    (by simp only [step44_0, hg, lt_cast, Nat.lt_irrefl, decide_false, cond_false]) 0 (by omega)

theorem same_wins (a : List Wn) (hl : a.length ≤ 1000) : s43 (a, a) = some true := by
  have h := loop_for (step := step43_0) (st := fun k => (a, a, (k : Int))) (n := a.length) (e := .inr ())
    (fun k hk => by
      simp only [step43_0, lt_cast, inB_cast, hk, decide_true, cond_true, Int.toNat_natCast, beq_self_eq_true, Bool.and_self, Bool.not_true, cond_false, wr_succ (show k < 4611686018427387904 by omega)])
    (by simp only [step43_0, lt_cast, Nat.lt_irrefl, decide_false, cond_false]) 0 (by omega)
  have h' : loopVal step43_0 (a, a, 0) = _ := h
  unfold s43
  simp only [bne_self_eq_false, cond_false, h', optE_some]
  rfl

/-! The errors of a grid -/
def gridE (a b : Tr) (g : Gd) : Int := bif !(win g.2.1 1 10000 && win g.2.2 1 200) then 2 else bif timesE g.1 a b != 0 then timesE g.1 a b else timesE (wr (g.1 + wr (wr (g.2.2 - 1) * g.2.1))) a b
theorem gridR {s : Si} {a b : Tr} (Va : Valid a) (Vb : Valid b) (g : Gd) : s42 ((s, a, b), g) = some (gridE a b g) := by
  have ht : ∀ t, s17 (a, b, t) = some (timesE t a b) := fun t => s17_eq Va Vb t
  unfold s42 gridE
  simp only [s28_eq, optE_some, ht]
  cases win g.2.1 1 10000
  · rfl
  · cases win g.2.2 1 200
    · rfl
    · simp only [Bool.not_true, cond_false, Bool.and_self]
      cases timesE g.1 a b != 0 <;> rfl

theorem windows_view {s : Si} (hl : s.2.length ≤ 1000) {a b : Tr} (h : viewE s a b ≠ 0) (g : Gd) : s41 ((s, a, b), g) = some ([], viewE s a b) := by
  unfold s41
  simp only [viewP hl, optE_some, s80_eq, s66_eq]
  cases win g.2.1 1 10000
  · simp only [cond_false]
    rw [s65_eq _ (by simp), firstE_two, ne_true h]
    simp only [cond_true, optE_some, ne_true h]
  · simp only [cond_true]
    rw [s65_eq _ (by simp), firstE_two, ne_true h]
    simp only [cond_true, optE_some, ne_true h]
theorem windows_grid {s : Si} (hl : s.2.length ≤ 1000) {a b : Tr} (h : viewE s a b = 0) {g : Gd} (hg : gridE a b g ≠ 0) : s41 ((s, a, b), g) = some ([], gridE a b g) := by
  obtain ⟨ha, hb⟩ := bothE_zero (viewE_zero h).2
  have ec : wr (g.2.1 * wr (g.2.2 - 1)) = wr (wr (g.2.2 - 1) * g.2.1) := by rw [Int.mul_comm]
  unfold gridE at hg ⊢
  unfold s41
  simp only [viewP hl, h, optE_some, s80_eq, s66_eq, timeErr2 (valid_of ha) (valid_of hb), ec]
  cases w1 : win g.2.1 1 10000
  · simp only [cond_false]
    rw [s65_eq _ (by simp), firstE_two]
    rfl
  · rw [w1] at hg
    simp only [cond_true]
    rw [s65_eq _ (by simp), firstE_two]
    cases w2 : win g.2.2 1 200
    · rfl
    · rw [w2] at hg
      simp only [Bool.and_self, Bool.not_true, cond_false, show ((0 : Int) != 0) = false from rfl, unl, cond_true, optE_some] at hg ⊢
      cases t0 : timesE g.1 a b != 0
      · rw [t0] at hg
        simp only [cond_false] at hg ⊢
        rw [ne_true hg]; rfl
      · simp only [cond_true]
/-- The times of a valid grid. -/
theorem grid_time {a b : Tr} (Va : Valid a) {g : Gd} (h : gridE a b g = 0) : (1 ≤ g.2.2 ∧ g.2.2 ≤ 200) ∧ ∀ k : Nat, (k : Int) < g.2.2 → timesE (wr (g.1 + wr ((k : Int) * g.2.1))) a b = 0 ∧ wr (g.1 + wr ((k : Int) * g.2.1)) = g.1 + (k : Int) * g.2.1 := by
  unfold gridE at h
  cases w1 : win g.2.1 1 10000
  · rw [w1] at h; cases h
  cases w2 : win g.2.2 1 200
  · rw [w1, w2] at h; cases h
  rw [w1, w2] at h
  simp only [Bool.and_self, Bool.not_true, cond_false] at h
  have b1 := win_iff.1 w1
  have b2 := win_iff.1 w2
  cases t0 : timesE g.1 a b != 0
  case true => rw [t0, cond_true] at h; rw [h] at t0; cases t0
  rw [t0, cond_false] at h
  have t0' : timesE g.1 a b = 0 := by simpa using t0
  obtain ⟨x1, x2⟩ := timesE_zero t0'
  obtain ⟨y1, y2⟩ := timesE_zero h
  have s1 := span_ok Va
  have x1 := tErr_of.1 x1
  have x2 := tErr_of.1 x2
  have p0 := prod_bound (p := g.2.2 - 1) (q := g.2.1) (m := 10000) (by omega) (by omega) (by omega) (by omega)
  have e1 : wr (g.1 + wr (wr (g.2.2 - 1) * g.2.1)) = g.1 + (g.2.2 - 1) * g.2.1 := by
    rw [wr_id (n := g.2.2 - 1) (by omega) (by omega), wr_id (n := (g.2.2 - 1) * g.2.1) (by omega) (by omega), wr_id (by omega) (by omega)]
  rw [e1] at y1 y2
  have y1 := tErr_of.1 y1
  have y2 := tErr_of.1 y2
  refine ⟨b2, fun k hk => ?_⟩
  have pk := prod_bound (p := (k : Int)) (q := g.2.1) (m := 10000) (by omega) (by omega) (by omega) (by omega)
  have pm : (k : Int) * g.2.1 ≤ (g.2.2 - 1) * g.2.1 := Int.mul_le_mul_of_nonneg_right (by omega) (by omega)
  have e2 : wr (g.1 + wr ((k : Int) * g.2.1)) = g.1 + (k : Int) * g.2.1 := by
    rw [wr_id (n := (k : Int) * g.2.1) (by omega) (by omega), wr_id (by omega) (by omega)]
  refine ⟨?_, e2⟩
  rw [e2]
  have z1 := tErr_of.2 (show firstT a ≤ g.1 + (k : Int) * g.2.1 ∧ g.1 + (k : Int) * g.2.1 ≤ lastT a by omega)
  have z2 := tErr_of.2 (show firstT b ≤ g.1 + (k : Int) * g.2.1 ∧ g.1 + (k : Int) * g.2.1 ≤ lastT b by omega)
  unfold timesE
  rw [z1, z2]; rfl

/-! The law's loops -/
theorem inner_ok {s : Si} {a b : Tr} (hs : s.2.length ≤ 1000) (ha : a.1.length ≤ 1000) (hb : b.1.length ≤ 1000) {g : Gd} {f : Nat → Int} {n : Nat} (hn : n ≤ 200) (hv : ∀ k : Nat, k < n → s36 ((s, a, b), wr (g.1 + wr ((k : Int) * g.2.1))) = some (f k, 0))
    {W : List Wn} (R : Runs f W n) {j : Nat} (hj : j < W.length) : loopVal step9_2 (W, (j : Int), (W.getD j (0, 0, 0)).2.1, (s, a, b), g) = some (.inr (W, (j : Int), (s, a, b), g)) := by
  have ho := R.ord j hj
  obtain ⟨p, hp⟩ : ∃ p : Nat, (W.getD j (0, 0, 0)).2.1 = (p : Int) := ⟨(W.getD j (0, 0, 0)).2.1.toNat, by omega⟩
  obtain ⟨q, hq⟩ : ∃ q : Nat, (W.getD j (0, 0, 0)).2.2 = (q : Int) := ⟨(W.getD j (0, 0, 0)).2.2.toNat, by omega⟩
  rw [hp, hq] at ho
  have h := loop_for (step := step9_2) (st := fun m => (W, (j : Int), ((p + m : Nat) : Int), (s, a, b), g)) (n := q + 1 - p) (e := .inr (W, (j : Int), (s, a, b), g))
    (fun m hm => by
      have hans := R.ans j hj (p + m) (by omega) (by omega)
      simp only [step9_2, inb_nat hj, cond_true, Int.toNat_natCast, hq]
      rw [decide_eq_true (show ((p + m : Nat) : Int) ≤ (q : Int) by omega), cond_true, copyView hs ha hb]
      simp only [optE_some, hv (p + m) (by omega), bne_self_eq_false, cond_false, hans, wr_succ (show p + m < 4611686018427387904 by omega)]
      rfl)
    (by
      simp only [step9_2, inb_nat hj, cond_true, Int.toNat_natCast, hq]
      rw [decide_eq_false (show ¬ ((p + (q + 1 - p) : Nat) : Int) ≤ (q : Int) by omega), cond_false]) 0 (by omega)
  rw [hp]
  exact h
theorem outer_ok {s : Si} {a b : Tr} (hs : s.2.length ≤ 1000) (ha : a.1.length ≤ 1000) (hb : b.1.length ≤ 1000) {g : Gd} {f : Nat → Int} {n : Nat} (hn : n ≤ 200) (hn1 : 1 ≤ n) (hg : g.2.2 = (n : Int)) (hv : ∀ k : Nat, k < n → s36 ((s, a, b), wr (g.1 + wr ((k : Int) * g.2.1))) = some (f k, 0))
    {W : List Wn} (R : Runs f W n) : loopVal step9_0 (W, 0, 0, (s, a, b), g) = some (.inr (g.2.2, g)) := by
  have hl := R.len
  have hp := R.pos (by omega)
  have hz := R.last (W.length - 1) (by omega)
  have h := loop_for (step := step9_0) (st := fun j => (W, (if j = 0 then 0 else (W.getD (j - 1) (0, 0, 0)).2.2 + 1), (j : Int), (s, a, b), g)) (n := W.length) (e := .inr (g.2.2, g))
    (fun j hj => by
      have h1 := R.first j hj
      have h2 := R.ord j hj
      have h3 := R.diff j
      have hi := inner_ok hs ha hb hn hv R hj
      have e1 : wr (g.2.2 - 1) = (n : Int) - 1 := by rw [hg, wr_id (by omega) (by omega)]
      have hw : win (W.getD j (0, 0, 0)).2.2 (W.getD j (0, 0, 0)).2.1 ((n : Int) - 1) = true := win_iff.2 (by omega)
      have e2 : wr ((W.getD j (0, 0, 0)).2.2 + 1) = (W.getD j (0, 0, 0)).2.2 + 1 := wr_id (by omega) (by omega)
      simp only [step9_0, lt_cast, hj, decide_true, cond_true, inb_nat hj, Int.toNat_natCast, ← h1, bne_self_eq_false, cond_false, e1, s28_eq, hw, optE_some, Bool.not_true, hi, sumE_r, e2, wr_succ (show j < 4611686018427387904 by omega)]
      rw [if_neg (show ¬ j + 1 = 0 by omega), Nat.add_sub_cancel]
      by_cases z : 0 < j
      · have e3 : wr ((j : Int) - 1) = ((j - 1 : Nat) : Int) := by rw [wr_id (by omega) (by omega)]; omega
        rw [decide_eq_true (show (j : Int) > 0 by omega), cond_true, e3, inb_nat (show j - 1 < W.length by omega), cond_true, Int.toNat_natCast, show ((W.getD j (0, 0, 0)).1 == (W.getD (j - 1) (0, 0, 0)).1) = false by simpa using h3 z hj, cond_false]
      · rw [decide_eq_false (show ¬ (j : Int) > 0 by omega), cond_false])
    (by
      simp only [step9_0, lt_cast, Nat.lt_irrefl, decide_false, cond_false]
      rw [if_neg (by omega), hz, hg]
      congr 4
      omega) 0 (by omega)
  exact h

theorem windows_true (x : Vw × Gd) : s9 x = some true := by
  obtain ⟨⟨s, a, b⟩, g⟩ := x
  unfold s9
  simp only [Bool.not_true, cond_false, viewL, s28_eq, optE_some]
  cases hf : (decide (a.1.length ≤ 14) && decide (b.1.length ≤ 14)) && decide (s.2.length ≤ 6)
  case false => rfl
  simp only [Bool.and_eq_true, decide_eq_true_eq] at hf
  obtain ⟨⟨fa, fb⟩, fs⟩ := hf
  have hl : s.2.length ≤ 1000 := by omega
  have la : a.1.length ≤ 1000 := by omega
  have lb : b.1.length ≤ 1000 := by omega
  simp only [Bool.not_true, cond_false]
  cases win g.2.2 41 200
  case true => rfl
  simp only [cond_false, copyView hl la lb, viewR hl, optE_some]
  by_cases h : viewE s a b = 0
  case neg =>
    simp only [windows_view hl h, optE_some, eq_false' h, ne_true h, cond_true, cond_false, beq_self_eq_true]
    rfl
  obtain ⟨ha, hb⟩ := bothE_zero (viewE_zero h).2
  simp only [h, gridR (valid_of ha) (valid_of hb), show ((0 : Int) == 0) = true from rfl, cond_true, optE_some]
  by_cases hg : gridE a b g = 0
  case neg =>
    simp only [windows_grid hl h hg, optE_some, ne_true hg, cond_true, beq_self_eq_true]
    rfl
  obtain ⟨hc, ht⟩ := grid_time (valid_of ha) hg
  obtain ⟨n, hn⟩ : ∃ n : Nat, g.2.2 = (n : Int) := ⟨g.2.2.toNat, by omega⟩
  have hsee : ∀ k : Nat, k < n → ∃ r, s36 ((s, a, b), wr (g.1 + wr ((k : Int) * g.2.1))) = some (r, 0) ∧ s82 ((s, a, b), wr (g.1 + wr ((k : Int) * g.2.1))) = some r ∧ s40 ((s, a, b), wr (g.1 + wr ((k : Int) * g.2.1))) = some r := fun k hk => see_ok hl h (ht k (by omega)).1
  obtain ⟨f, hf⟩ : ∃ f : Nat → Int, ∀ k, k < n → s36 ((s, a, b), wr (g.1 + wr ((k : Int) * g.2.1))) = some (f k, 0) ∧ s82 ((s, a, b), wr (g.1 + wr ((k : Int) * g.2.1))) = some (f k) ∧ s40 ((s, a, b), wr (g.1 + wr ((k : Int) * g.2.1))) = some (f k) :=
    ⟨fun k => ((s40 ((s, a, b), wr (g.1 + wr ((k : Int) * g.2.1)))).getD 0), fun k hk => by
      obtain ⟨r, r1, r2, r3⟩ := hsee k hk
      simp only [r3, Option.getD_some]
      exact ⟨r1, r2, trivial⟩⟩
  have R := runs_ok f n
  have hlen := R.len
  have hpos := R.pos (by omega)
  have hP : s41 ((s, a, b), g) = some (wins f n, 0) := by
    have g0 : timesE g.1 a b = 0 := by
      have := (ht 0 (by omega))
      rw [this.2] at this
      simpa using this.1
    have gl := ht (n - 1) (by omega)
    have ec : wr (g.2.1 * wr (g.2.2 - 1)) = wr (((n - 1 : Nat) : Int) * g.2.1) := by
      rw [Int.mul_comm, hn, wr_id (n := (n : Int) - 1) (by omega) (by omega)]
      congr 2
      omega
    have w1 : win g.2.1 1 10000 = true := by
      unfold gridE at hg
      cases w1 : win g.2.1 1 10000
      · rw [w1] at hg; cases hg
      · rfl
    have w2 : win g.2.2 1 200 = true := win_iff.2 hc
    unfold s41
    simp only [viewP hl, h, optE_some, s80_eq, s66_eq, timeErr2 (valid_of ha) (valid_of hb), ec, w1, w2, cond_true]
    rw [s65_eq _ (by simp), firstE_two]
    simp only [show ((0 : Int) != 0) = false from rfl, cond_false, unl, cond_true, optE_some, g0, gl.1, winP_loop (by omega) hn (fun k hk => (hf k hk).2.1)]
  have hR : s44 ((s, a, b), g) = some (wins f n) := by
    unfold s44
    simp only [winR_loop (by omega) hn (fun k hk => (hf k hk).2.2), optE_some]
  have ho := outer_ok hl la lb (by omega) (by omega) hn (fun k hk => (hf k hk).1) R
  simp only [hg, show ((0 : Int) != 0) = false from rfl, cond_false, hP, hR, optE_some, same_wins (wins f n) (by omega), ho, sumE_r, Bool.not_true]
  rw [show (((wins f n).length : Int) == 0) = false by rw [beq_eq_false_iff_ne]; omega, decide_eq_false (show ¬ ((wins f n).length : Int) > g.2.2 by omega)]
  simp
end Go.Proofs.YtgpfdacidgmelaaGreat
