import Derived.Test.YtfmfiflpokogiaaDoorPoss2
set_option linter.unusedSimpArgs false
namespace Go.Proofs.YtfmfiflpokogiaaDoor
open Go.Ev
theorem hvs_len : ∀ l : List Msr, (hvs l).length = 2 * l.length
 | [] => rfl
 | m :: l => by
   have := hvs_len l
   simp only [hvs, List.flatMap_cons, List.length_append, List.length_cons, List.length_nil] at this ⊢
   omega
theorem hvs_cons (m : Msr) (l : List Msr) : hvs (m :: l) = [hf m true, hf m false] ++ hvs l := rfl
theorem hvs_ok {l : List Msr} (hv' : ∀ m ∈ l, mErr m = 0) : ∀ h ∈ hvs l, HOk h := fun h hh => by
 rw [← rws_hvs l 0] at hh
 obtain ⟨r, hr, rfl⟩ := List.mem_map.1 hh
 exact rws_ok hv' 0 r hr
theorem halves_loop (l : List Msr) (hl : l.length ≤ 1000) (hv' : ∀ m ∈ l, mErr m = 0) : ∀ (n k : Nat) (out : List Hf), k + n = l.length → out.length = 2 * k →
 loopVal step109_0 (l, out, (k : Int)) = some (out ++ hvs (l.drop k)) := by
 intro n
 induction n with
 | zero =>
   intro k out hk _
   obtain rfl : k = l.length := by omega
   rw [List.drop_length]
   exact loopVal_last (by simp [step109_0, hvs])
 | succ n ih =>
   intro k out hk ho
   have hk' : k < l.length := by omega
   have hm := hv' _ (getD_mem (0, 0, 0, 0, 0) hk')
   rw [getD_drop l (0, 0, 0, 0, 0) hk', hvs_cons]
   obtain ⟨m, hn⟩ : ∃ m : Msr, l.getD k (0, 0, 0, 0, 0) = m := ⟨_, rfl⟩
   rw [hn] at hm ⊢
   have hs : step109_0 (l, out, (k : Int)) = some (.inl (l, out ++ [hf m true, hf m false], ((k + 1 : Nat) : Int))) := by
    simp only [step109_0, hn, lt_cast, inB_cast, hk', decide_true, cond_true, Int.toNat_natCast, half_eq hm, optE_some, wr_succ (show k < 4611686018427387904 by omega), room_true (b := 24) (n := out.length + 2) (by omega) (by omega)]
   rw [loopVal_next hs, ih (k + 1) _ (by omega) (by simp [ho]; omega), List.append_assoc]
theorem halves_eq (l : List Msr) (hl : l.length ≤ 1000) (hv' : ∀ m ∈ l, mErr m = 0) : s109 l = some (hvs l) := by
 have h := halves_loop l hl hv' l.length 0 [] (by omega) rfl
 rw [show ((0 : Nat) : Int) = 0 from rfl, List.drop_zero, List.nil_append] at h
 unfold s109
 simp only [h, optE_some]
def DOk (g : Hf) : Prop := (-1 ≤ g.1 ∧ g.1 ≤ 1) ∧ (-1000 ≤ g.2.1 ∧ g.2.1 ≤ 1000)
theorem HOk.d {g : Hf} (h : HOk g) : DOk g := ⟨by rcases h.1 with h | h | h <;> omega, h.2.1⟩
theorem dt_facts {g h : Hf} (hg : DOk g) (hh : DOk h) : -2000 ≤ dt g h ∧ dt g h ≤ 2000 := by
 obtain ⟨g1, g2⟩ := hg
 obtain ⟨h1, h2⟩ := hh
 have e1 := mulB (a := g.1) (b := h.2.1) (A := 1) (B := 1000) (by omega) (by omega)
 have e2 := mulB (a := g.2.1) (b := h.1) (A := 1000) (B := 1) (by omega) (by omega)
 unfold dt
 omega
theorem det_eq {g h : Hf} (hg : DOk g) (hh : DOk h) : s130 (g, h) = some (dt g h) := by
 obtain ⟨d1, d2⟩ := dt_facts hg hh
 obtain ⟨g1, g2⟩ := hg
 obtain ⟨h1, h2⟩ := hh
 have e1 := mulB (a := g.1) (b := h.2.1) (A := 1) (B := 1000) (by omega) (by omega)
 have e2 := mulB (a := g.2.1) (b := h.1) (A := 1000) (B := 1) (by omega) (by omega)
 show some (wr (wr (g.1 * h.2.1) - wr (g.2.1 * h.1))) = some (dt g h)
 unfold dt at d1 d2 ⊢
 rw [wr_id (n := g.1 * h.2.1) (by omega) (by omega), wr_id (n := g.2.1 * h.1) (by omega) (by omega), wr_id (by omega) (by omega)]
theorem size_ab {n : Int} (h : -1000000 ≤ n ∧ n ≤ 1000000) : s120 n = some (ab n) := by
 show some (mx n (wr (-n))) = some (ab n)
 rw [mx_abs (by omega) (by omega)]
 rfl
def tripB (f g h : Hf) : Bool := decide (0 ≤ dt g h) && (decide (0 ≤ dt h f) && (decide (0 ≤ dt f g) && (decide (0 < dt g h + dt h f + dt f g) && decide (dt g h * f.2.2 + dt h f * g.2.2 + dt f g * h.2.2 < 0))))
theorem tripB_iff {f g h : Hf} : tripB f g h = true ↔ Trip f g h := by
 unfold tripB Trip
 simp only [Bool.and_eq_true, decide_eq_true_eq]
def pairB (g h : Hf) : Bool := (dt g h == 0) && (decide (g.1 * h.1 + g.2.1 * h.2.1 < 0) && decide ((ab h.1 + ab h.2.1) * g.2.2 + (ab g.1 + ab g.2.1) * h.2.2 < 0))
theorem pairB_iff {g h : Hf} : pairB g h = true ↔ Pair2 g h := by
 unfold pairB Pair2
 simp only [Bool.and_eq_true, decide_eq_true_eq, beq_iff_eq]
abbrev hf0 : Hf := (0, 0, 0)
theorem any_scan {H : List Hf} {E : Type} (p : Hf → Bool) (e : E) (b : E) : scan (fun k => bif p (H.getD k hf0) then some b else none) e H.length 0 = if H.any p = true then b else e := by
 rw [scan_list0 (fun h : Hf => bif p h then some b else none) e H hf0, scanL_const (b := b) (fun h _ => by cases p h <;> simp)]
 by_cases h : H.any p = true
 ·rw [if_pos h, if_neg]
  intro ha
  obtain ⟨x, hx, hb⟩ := List.any_eq_true.1 h
  have := List.all_eq_true.1 ha x hx
  rw [hb] at this
  simp at this
 ·rw [if_neg h, if_pos]
  rw [List.all_eq_true]
  intro x hx
  cases hb : p x with
  | false => rfl
  | true => exact absurd (List.any_eq_true.2 ⟨x, hx, hb⟩) h
section
variable {H : List Hf} (hH : ∀ h ∈ H, HOk h) (hlen : H.length ≤ 1000)
include hH hlen
theorem step110c {i j k : Nat} (hi : i < H.length) (hj : j < H.length) (hk : k < H.length) : step110_4 (H, (i : Int), (j : Int), (k : Int)) =
 bif tripB (H.getD i hf0) (H.getD j hf0) (H.getD k hf0) then some (.inr (.inl true)) else some (.inl (H, (i : Int), (j : Int), ((k + 1 : Nat) : Int))) := by
 have kf := hH _ (getD_mem hf0 hi)
 have kg := hH _ (getD_mem hf0 hj)
 have kh := hH _ (getD_mem hf0 hk)
 obtain ⟨f, hf'⟩ : ∃ f : Hf, H.getD i hf0 = f := ⟨_, rfl⟩
 obtain ⟨g, hg'⟩ : ∃ f : Hf, H.getD j hf0 = f := ⟨_, rfl⟩
 obtain ⟨h, hh'⟩ : ∃ f : Hf, H.getD k hf0 = f := ⟨_, rfl⟩
 have hf2 : H.getD i (0, 0, 0) = f := hf'
 have hg2 : H.getD j (0, 0, 0) = g := hg'
 have hh2 : H.getD k (0, 0, 0) = h := hh'
 rw [hf'] at kf; rw [hg'] at kg; rw [hh'] at kh
 rw [hf', hg', hh']
 simp only [step110_4, hf2, hg2, hh2, lt_cast, inB_cast, hi, hj, hk, decide_true, cond_true, Int.toNat_natCast, det_eq kg.d kh.d, det_eq kh.d kf.d, det_eq kf.d kg.d, optE_some, wr_succ (show k < 4611686018427387904 by omega)]
 have d1 := dt_facts kg.d kh.d
 have d2 := dt_facts kh.d kf.d
 have d3 := dt_facts kf.d kg.d
 have m1 := mulB (a := dt g h) (b := f.2.2) (A := 2000) (B := 100000) (by omega) (by have := kf.2.2; omega)
 have m2 := mulB (a := dt h f) (b := g.2.2) (A := 2000) (B := 100000) (by omega) (by have := kg.2.2; omega)
 have m3 := mulB (a := dt f g) (b := h.2.2) (A := 2000) (B := 100000) (by omega) (by have := kh.2.2; omega)
 rw [wr_id (n := dt g h + dt h f) (by omega) (by omega), wr_id (n := dt g h + dt h f + dt f g) (by omega) (by omega), wr_id (n := dt g h * f.2.2) (by omega) (by omega), wr_id (n := dt h f * g.2.2) (by omega) (by omega), wr_id (n := dt f g * h.2.2) (by omega) (by omega),
  wr_id (n := dt g h * f.2.2 + dt h f * g.2.2) (by omega) (by omega), wr_id (n := dt g h * f.2.2 + dt h f * g.2.2 + dt f g * h.2.2) (by omega) (by omega)]
 unfold tripB
 rw [show decide (dt g h ≥ 0) = decide (0 ≤ dt g h) from rfl, show decide (dt h f ≥ 0) = decide (0 ≤ dt h f) from rfl, show decide (dt f g ≥ 0) = decide (0 ≤ dt f g) from rfl, show decide (dt g h + dt h f + dt f g > 0) = decide (0 < dt g h + dt h f + dt f g) from rfl]
 cases decide (0 ≤ dt g h) <;> cases decide (0 ≤ dt h f) <;> cases decide (0 ≤ dt f g) <;> cases decide (0 < dt g h + dt h f + dt f g) <;> cases decide (dt g h * f.2.2 + dt h f * g.2.2 + dt f g * h.2.2 < 0) <;> rfl
theorem loop110c {i j : Nat} (hi : i < H.length) (hj : j < H.length) : loopVal step110_4 (H, (i : Int), (j : Int), 0) =
 some (if H.any (tripB (H.getD i hf0) (H.getD j hf0)) = true then .inl true else .inr (H, (i : Int), (j : Int))) := by
 have h1 := loop_scan (step := step110_4) (st := fun k => (H, (i : Int), (j : Int), (k : Int))) (n := H.length)
  (hit := fun k => bif tripB (H.getD i hf0) (H.getD j hf0) (H.getD k hf0) then some (Sum.inl true) else none) (e := .inr (H, (i : Int), (j : Int)))
  (fun k hk => by
    rw [step110c hH hlen hi hj hk]
    cases tripB (H.getD i hf0) (H.getD j hf0) (H.getD k hf0) <;> rfl) (by simp [step110_4]) H.length 0 (by omega)
 rw [show ((0 : Nat) : Int) = 0 from rfl] at h1
 rw [h1, any_scan (E := Bool ⊕ (List Hf × Int × Int)) (tripB (H.getD i hf0) (H.getD j hf0)) (.inr (H, (i : Int), (j : Int))) (.inl true)]
def midB (H : List Hf) (f g : Hf) : Bool := pairB f g || H.any (tripB f g)
theorem step110b {i j : Nat} (hi : i < H.length) (hj : j < H.length) : step110_2 (H, (i : Int), (j : Int)) =
 bif midB H (H.getD i hf0) (H.getD j hf0) then some (.inr (.inl true)) else some (.inl (H, (i : Int), ((j + 1 : Nat) : Int))) := by
 have h4 := loop110c hH hlen hi hj
 have kg := hH _ (getD_mem hf0 hi)
 have kh := hH _ (getD_mem hf0 hj)
 obtain ⟨g, hg'⟩ : ∃ f : Hf, H.getD i hf0 = f := ⟨_, rfl⟩
 obtain ⟨h, hh'⟩ : ∃ f : Hf, H.getD j hf0 = f := ⟨_, rfl⟩
 have hg2 : H.getD i (0, 0, 0) = g := hg'
 have hh2 : H.getD j (0, 0, 0) = h := hh'
 rw [hg'] at kg h4; rw [hh'] at kh h4
 rw [hg', hh']
 have z1 := kg.d; have z2 := kh.d
 simp only [step110_2, hg2, hh2, lt_cast, inB_cast, hi, hj, decide_true, cond_true, Int.toNat_natCast, det_eq kg.d kh.d, optE_some, size_ab (n := h.1) (by have := z2.1; omega), size_ab (n := h.2.1) (by have := z2.2; omega), size_ab (n := g.1) (by have := z1.1; omega), size_ab (n := g.2.1) (by have := z1.2; omega), h4]
 have q1 := ab_of g.1; have q2 := ab_of g.2.1; have q3 := ab_of h.1; have q4 := ab_of h.2.1
 obtain ⟨g1, g2⟩ := z1
 obtain ⟨h1, h2⟩ := z2
 have m1 := mulB (a := g.1) (b := h.1) (A := 1) (B := 1) (by omega) (by omega)
 have m2 := mulB (a := g.2.1) (b := h.2.1) (A := 1000) (B := 1000) (by omega) (by omega)
 have m3 := mulB (a := ab h.1 + ab h.2.1) (b := g.2.2) (A := 2000) (B := 100000) (by omega) (by have := kg.2.2; omega)
 have m4 := mulB (a := ab g.1 + ab g.2.1) (b := h.2.2) (A := 2000) (B := 100000) (by omega) (by have := kh.2.2; omega)
 rw [wr_id (n := g.1 * h.1) (by omega) (by omega), wr_id (n := g.2.1 * h.2.1) (by omega) (by omega), wr_id (n := g.1 * h.1 + g.2.1 * h.2.1) (by omega) (by omega), wr_id (n := ab h.1 + ab h.2.1) (by omega) (by omega), wr_id (n := ab g.1 + ab g.2.1) (by omega) (by omega),
  wr_id (n := (ab h.1 + ab h.2.1) * g.2.2) (by omega) (by omega), wr_id (n := (ab g.1 + ab g.2.1) * h.2.2) (by omega) (by omega), wr_id (n := (ab h.1 + ab h.2.1) * g.2.2 + (ab g.1 + ab g.2.1) * h.2.2) (by omega) (by omega)]
 unfold midB pairB
 cases dt g h == 0 <;> cases decide (g.1 * h.1 + g.2.1 * h.2.1 < 0) <;> cases decide ((ab h.1 + ab h.2.1) * g.2.2 + (ab g.1 + ab g.2.1) * h.2.2 < 0) <;> cases H.any (tripB g h) <;>
  simp only [Bool.false_and, Bool.true_and, Bool.and_true, Bool.and_false, Bool.false_or, Bool.true_or, cond_true, cond_false, if_true, Bool.false_eq_true, if_false, sumE_l, sumE_r, wr_succ (show j < 4611686018427387904 by omega)]
theorem loop110b {i : Nat} (hi : i < H.length) : loopVal step110_2 (H, (i : Int), 0) = some (if H.any (midB H (H.getD i hf0)) = true then .inl true else .inr (H, (i : Int))) := by
 have h1 := loop_scan (step := step110_2) (st := fun k => (H, (i : Int), (k : Int))) (n := H.length)
  (hit := fun k => bif midB H (H.getD i hf0) (H.getD k hf0) then some (Sum.inl true) else none) (e := .inr (H, (i : Int)))
  (fun k hk => by
    rw [step110b hH hlen hi hk]
    cases midB H (H.getD i hf0) (H.getD k hf0) <;> rfl) (by simp [step110_2]) H.length 0 (by omega)
 rw [show ((0 : Nat) : Int) = 0 from rfl] at h1
 rw [h1, any_scan (E := Bool ⊕ (List Hf × Int)) (midB H (H.getD i hf0)) (.inr (H, (i : Int))) (.inl true)]
theorem contradict_eq : ∃ b, s110 H = some b ∧ (b = true ↔ Contra H) := by
 have h1 := loop_scan (step := step110_0) (st := fun k => (H, (k : Int))) (n := H.length)
  (hit := fun k => bif H.any (midB H (H.getD k hf0)) then some (Sum.inl true) else none) (e := .inr ())
  (fun k hk => by
    simp only [step110_0, lt_cast, hk, decide_true, cond_true, loop110b hH hlen hk, optE_some]
    cases H.any (midB H (H.getD k hf0)) with
    | true => rfl
    | false => simp only [Bool.false_eq_true, if_false, sumE_r, cond_false, wr_succ (show k < 4611686018427387904 by omega)]) (by simp [step110_0]) H.length 0 (by omega)
 rw [show ((0 : Nat) : Int) = 0 from rfl, any_scan (E := Bool ⊕ Unit) (fun f => H.any (midB H f)) (.inr ()) (.inl true)] at h1
 have key : H.any (fun f => H.any (midB H f)) = true ↔ Contra H := by
  simp only [List.any_eq_true, midB, Bool.or_eq_true]
  constructor
  ·rintro ⟨f, hf, g, hg, h | ⟨h, hh, ht⟩⟩
   ·exact .inl ⟨f, hf, g, hg, pairB_iff.1 h⟩
   ·exact .inr ⟨f, hf, g, hg, h, hh, tripB_iff.1 ht⟩
  ·rintro (⟨f, hf, g, hg, h⟩ | ⟨f, hf, g, hg, h, hh, ht⟩)
   ·exact ⟨f, hf, g, hg, .inl (pairB_iff.2 h)⟩
   ·exact ⟨f, hf, g, hg, .inr ⟨h, hh, tripB_iff.2 ht⟩⟩
 unfold s110
 rw [h1]
 by_cases h : H.any (fun f => H.any (midB H f)) = true
 ·rw [if_pos h]
  exact ⟨true, rfl, fun _ => key.1 h, fun _ => rfl⟩
 ·rw [if_neg h]
  exact ⟨false, rfl, (fun h => by cases h), fun hc => absurd (key.2 hc) h⟩
end
def mc (t g h : Hf) (same : Bool) : Option Fr :=
 if (nrm (dt g h) (dt t h) (dt g t)).1 = 0 then (if same = true ∧ dt g t = 0 ∧ 0 < g.1 * t.1 + g.2.1 * t.2.1 then some (lowF ((ab t.1 + ab t.2.1) * g.2.2) (ab g.1 + ab g.2.1)) else none)
 else if (nrm (dt g h) (dt t h) (dt g t)).2.1 < 0 ∨ (nrm (dt g h) (dt t h) (dt g t)).2.2 < 0 then none
 else some (lowF ((nrm (dt g h) (dt t h) (dt g t)).2.1 * g.2.2 + (nrm (dt g h) (dt t h) (dt g t)).2.2 * h.2.2) (nrm (dt g h) (dt t h) (dt g t)).1)
def FOk (f : Fr) : Prop := (-400000000 ≤ f.1 ∧ f.1 ≤ 400000000) ∧ (1 ≤ f.2 ∧ f.2 ≤ 2000)
theorem lowF_ok {n d : Int} (hd : 1 ≤ d ∧ d ≤ 2000) (hn : -400000000 ≤ n ∧ n ≤ 400000000) : FOk (lowF n d) := by
 have h1 := lowF_den (n := n) (show 0 < d by omega)
 have hg := gcd_pos (a := n) (show 0 < d by omega)
 have h2 := div_size (a := n) hg
 refine ⟨?_, by omega⟩
 show -400000000 ≤ n / ((Nat.gcd n.natAbs d.natAbs : Nat) : Int) ∧ n / ((Nat.gcd n.natAbs d.natAbs : Nat) : Int) ≤ 400000000
 omega
def encM : Option Fr → Bool × Fr
 | none => (false, (0, 0))
 | some f => (true, f)
abbrev tkF : Option Fr → Option Fr → Option Fr := tk (fun f : Fr => f.1) (fun f => f.2)
theorem cmp_lt0 {a b : Fr} (ha : FOk a) (hb : FOk b) : ∃ n, s131 (a, b) = some n ∧ decide (n < 0) = decide (a.1 * b.2 < b.1 * a.2) := by
 obtain ⟨a1, a2⟩ := ha
 obtain ⟨b1, b2⟩ := hb
 have m1 := mulB (a := a.1) (b := b.2) (A := 400000000) (B := 2000) (by omega) (by omega)
 have m2 := mulB (a := b.1) (b := a.2) (A := 400000000) (B := 2000) (by omega) (by omega)
 unfold s131
 dsimp only
 rw [wr_id (n := a.1 * b.2) (by omega) (by omega), wr_id (n := b.1 * a.2) (by omega) (by omega)]
 by_cases h : a.1 * b.2 < b.1 * a.2
 ·rw [decide_eq_true h]; exact ⟨-1, rfl, rfl⟩
 ·rw [decide_eq_false h]
  by_cases h2 : a.1 * b.2 > b.1 * a.2
  ·rw [decide_eq_true h2]; exact ⟨1, rfl, rfl⟩
  ·rw [decide_eq_false h2]; exact ⟨0, rfl, rfl⟩
theorem takeM_enc {σ : Type} (F : Bool × Fr → σ) {st : Option Fr} {c : Fr} (hs : ∀ f, st = some f → FOk f) (hc : FOk c) :
 (bif !(encM st).1 then some (F (true, c)) else optE (s131 (c, (encM st).2)) (fun r => bif decide (r < 0) then some (F (true, c)) else some (F (encM st))) none) = some (F (encM (tkF st (some c)))) := by
 cases st with
 | none => rfl
 | some o =>
   obtain ⟨n, e1, e2⟩ := cmp_lt0 hc (hs o rfl)
   have ht : tkF (some o) (some c) = bif decide (c.1 * o.2 < o.1 * c.2) then some c else some o := rfl
   rw [ht]
   simp only [encM, Bool.not_true, cond_false, e1, optE_some, e2]
   cases decide (c.1 * o.2 < o.1 * c.2) <;> rfl
end Go.Proofs.YtfmfiflpokogiaaDoor
