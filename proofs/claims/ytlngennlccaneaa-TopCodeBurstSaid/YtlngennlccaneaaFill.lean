/- What filling in computes: the word of the code, if there is one. -/
import Derived.Test.YtlngennlccaneaaSv1
set_option linter.unusedSimpArgs false
set_option linter.unusedVariables false
set_option maxRecDepth 100000
namespace Go.Proofs.Ytlngennlccaneaa
open Go.Ev
theorem of_loop {σ E : Type} {step : σ → Option (σ ⊕ E)} {I : Nat → σ → Prop} {n : Nat} {e : E} {x : σ} (h : ∀ k x, k < n → I k x → ∃ y, step x = some (.inl y) ∧ I (k + 1) y) (hl : ∀ x, I n x → ∃ e', step x = some (.inr e') ∧ e' = e) (hx : I 0 x) : loopVal step x = some e := by
 obtain ⟨e', h1, h2⟩ := loop_inv (Q := fun e' => e' = e) (fun k x hk hx => .inl (h k x hk hx)) hl n 0 (by omega) x hx
 rw [h1, h2]
def intL (E : List Nat) : List Int := E.map fun p : Nat => (p : Int)
theorem intL_len (E : List Nat) : (intL E).length = E.length := by simp [intL]
theorem intL_get {E : List Nat} {k : Nat} (h : k < E.length) : (intL E).getD k 0 = ((E.getD k 0 : Nat) : Int) := by
 unfold intL
 rw [List.getD_eq_getElem?_getD, List.getElem?_map, List.getElem?_eq_getElem h, List.getD_eq_getElem?_getD, List.getElem?_eq_getElem h]; rfl
def z15 : W15 := (0, 0, 0, 0, 0, 0, 0, 0, 0, 0, 0, 0, 0, 0, 0)
theorem lst_set (w : Wd) (p : Nat) (a : G) : (lstW w).set p (vI a) = lstW fun i => if i = p then a else w i := rowL_set w a
def setN (E : List Nat) (x : Nat → G) (w : Wd) : Nat → Wd
 | 0 => w
 | n + 1 => fun p => if p = E.getD n 0 then x n else setN E x w n p
theorem setN_out {E : List Nat} {x : Nat → G} {w : Wd} {p : Nat} : ∀ {n : Nat}, n ≤ E.length → p ∉ E → setN E x w n p = w p
 | 0, _, _ => rfl
 | n + 1, h, hp => by
   show (if p = E.getD n 0 then x n else setN E x w n p) = _
   rw [if_neg (fun e => hp (by rw [e]; exact getD_mem (by omega))), setN_out (by omega) hp]
theorem setN_in {E : List Nat} (hn : E.Nodup) {x : Nat → G} {w : Wd} : ∀ {n : Nat}, n ≤ E.length → ∀ k, k < n → setN E x w n (E.getD k 0) = x k
 | 0, _, k, hk => by omega
 | n + 1, h, k, hk => by
   show (if E.getD k 0 = E.getD n 0 then x n else setN E x w n (E.getD k 0)) = _
   by_cases e : k = n
   ·rw [e, if_pos rfl]
   ·rw [if_neg (fun e' => e (getD_inj hn (by omega) (by omega) e')), setN_in hn (by omega) k (by omega)]
noncomputable def fillTail (e3 : List (List Int) × List Int × List Nat × List Int × W15) : Option (W15 × Bool) :=
 optE (loopVal step41_0 (e3.1, e3.2.2.1, (e3.2.1.length : Int), (e3.2.1.length : Int), 0, e3.2.1, e3.2.2.2.1, e3.2.2.2.2)) (fun e4 =>
  sumE e4 (fun e5 =>
   bif !e5.2.1 then
    some (z15, false)
   else
    optE (loopVal step31_6 (e5.1, e5.2.2.1, (e5.2.2.1.length : Int), 0, e5.2.2.2.1, e5.2.2.2.2)) (fun e7 => bif decide (e7.1.length * 1 = 15) then some (pad15 e7.1, true) else none) none) (fun e6 =>
   optE (loopVal step41_8 (e6.1, e6.2.2.1, [], e6.2.1, (e6.2.1.length : Int), 0, e6.2.2.2.1, e6.2.2.2.2.1, e6.2.2.2.2.2)) (fun e8 =>
    sumE e8 (fun e9 =>
     bif !e9.2.1 then
      some (z15, false)
     else
      optE (loopVal step31_6 (e9.1, e9.2.2.1, (e9.2.2.1.length : Int), 0, e9.2.2.2.1, e9.2.2.2.2)) (fun e11 => bif decide (e11.1.length * 1 = 15) then some (pad15 e11.1, true) else none) none) (fun e10 =>
     optE (loopVal step31_6a (e10.1, e10.2.1, (e10.2.1.length : Int), 0, e10.2.2.1, e10.2.2.2)) (fun e12 => bif decide (e12.1.length * 1 = 15) then some (pad15 e12.1, true) else none) none))
    none))
  none
theorem s31_eq (w : W15) (half : Int) (er : List Int) : s31 (w, half, er) = optE (loopVal step31_0 (half, er, er, (er.length : Int), 0, l15 w, z15)) (fun e1 =>
 bif decide (e1.2.2.1.length * 1 = 15) then
  optE (s38 (pad15 e1.2.2.1, e1.1)) (fun r2 =>
   optE (loopVal step31_2 ([], e1.2.1, [], r2, (r2.length : Int), 0, e1.2.2.1, e1.2.2.2)) (fun e3 => fillTail e3) none) none
 else none) none := rfl
section
variable {E : List Nat} (hp : ∀ p ∈ E, p < 15)
include hp
theorem zero_loop (w : Wd) (half : Int) (z : W15) (hl : E.length < 1000) : loopVal step31_0 (half, intL E, intL E, ((intL E).length : Int), 0, lstW w, z) = some (half, intL E, lstW (zeroAt E w), z) := by
 refine of_loop (step := step31_0) (n := E.length) (I := fun n x => x = (half, intL E, intL E, ((intL E).length : Int), (n : Int), lstW (setN E (fun _ => 0) w n), z)) (fun n x hn hx => ?_) (fun x hx => ?_) rfl
 ·subst hx
  have hq := hp _ (getD_mem hn)
  refine ⟨_, ?_, rfl⟩
  have e1 : (lstW (setN E (fun _ => 0) w n)).set (E.getD n 0) 0 = lstW (setN E (fun _ => 0) w (n + 1)) := lst_set (setN E (fun _ => 0) w n) (E.getD n 0) 0
  simp only [step31_0, decide_eq_true (by rw [intL_len]; omega : (n : Int) < ((intL E).length : Int)), inB (by rw [intL_len]; exact hn : n < (intL E).length), Int.toNat_natCast, intL_get hn, inB hq, lst_len, decide_true, Bool.and_self, cond_true, e1, wrS (by omega : n < 1000000)]
 ·subst hx
  refine ⟨_, ?_, rfl⟩
  have e1 : lstW (zeroAt E w) = lstW (setN E (fun _ => 0) w E.length) := lst_congr fun p _ => by
   by_cases hm : p ∈ E
   ·have hk : ∃ k, k < E.length ∧ E.getD k 0 = p := by
     obtain ⟨k, hk, e⟩ := List.getElem_of_mem hm
     exact ⟨k, hk, by rw [List.getD_eq_getElem?_getD, List.getElem?_eq_getElem hk, Option.getD_some, e]⟩
    show (if p ∈ E then 0 else w p) = _
    rw [if_pos hm]
    have key : ∀ n, n ≤ E.length → (∃ k, k < n ∧ E.getD k 0 = p) → setN E (fun _ => 0) w n p = 0 := by
     intro n
     induction n with
     | zero => rintro _ ⟨k, h, _⟩; omega
     | succ n ih =>
       rintro hn ⟨k, h1, h2⟩
       show (if p = E.getD n 0 then 0 else setN E (fun _ => 0) w n p) = 0
       by_cases e : p = E.getD n 0
       ·rw [if_pos e]
       ·rw [if_neg e]
        refine ih (by omega) ⟨k, ?_, h2⟩
        by_cases e2 : k = n
        ·subst e2; exact absurd h2.symm e
        ·omega
    exact (key _ (Nat.le_refl _) hk).symm
   ·show (if p ∈ E then 0 else w p) = _
    rw [if_neg hm, setN_out (Nat.le_refl _) hm]
  rw [e1]
  simp only [step31_0, intL_len, decide_eq_false (Int.lt_irrefl _), cond_false]
theorem pow_loop (pool : List (List Int)) (rows : List Nat) (j : Nat) (hj : j < 1000) (s : Int) (t31 : List Int) (t32 t33 : Int) (w : List Int) (z : W15) (hl : E.length < 1000) :
 loopVal step31_4 (pool, intL E, rows, (j : Int), s, [], t31, t32, t33, intL E, ((intL E).length : Int), 0, w, z) = some (pool, intL E, rows, s, rowL E.length (fun k => gp (loc (E.getD k 0)) (j + 1)), t31, t32, t33, w, z) := by
 refine of_loop (step := step31_4) (n := E.length) (I := fun n x => x = (pool, intL E, rows, (j : Int), s, rowL n (fun k => gp (loc (E.getD k 0)) (j + 1)), t31, t32, t33, intL E, ((intL E).length : Int), (n : Int), w, z)) (fun n x hn hx => ?_) (fun x hx => ?_) rfl
 ·subst hx
  have hq := hp _ (getD_mem hn)
  refine ⟨_, ?_, rfl⟩
  have e1 : (14 : Int) - ((E.getD n 0 : Nat) : Int) = ((14 - E.getD n 0 : Nat) : Int) := by omega
  have e2 : ((j + 1 : Nat) : Int) * ((14 - E.getD n 0 : Nat) : Int) = (((j + 1) * (14 - E.getD n 0) : Nat) : Int) := (Int.natCast_mul _ _).symm
  have e3 : (j + 1) * (14 - E.getD n 0) < 4000000000000000000 := by
   have : (j + 1) * (14 - E.getD n 0) ≤ 1000 * 14 := Nat.mul_le_mul (by omega) (by omega)
   omega
  have e4 : rowL n (fun k => gp (loc (E.getD k 0)) (j + 1)) ++ [vI (gp 2 ((j + 1) * (14 - E.getD n 0)))] = rowL (n + 1) (fun k => gp (loc (E.getD k 0)) (j + 1)) := by
   rw [← loc_pow]; exact range_map_succ (fun k => vI (gp (loc (E.getD k 0)) (j + 1))) n
  simp only [step31_4, decide_eq_true (by rw [intL_len]; omega : (n : Int) < ((intL E).length : Int)), inB (by rw [intL_len]; exact hn : n < (intL E).length), Int.toNat_natCast, intL_get hn, wrS (by omega : j < 1000000), e1, wr_nat (by omega : 14 - E.getD n 0 < 4000000000000000000), e2, wr_nat e3, pow_vI, optE, rowL_len, room_ok (by omega : n + 1 < 10000) (by omega : 8 ≤ 1000), cond_true, e4, wrS (by omega : n < 1000000)]
 ·subst hx
  refine ⟨_, ?_, rfl⟩
  simp only [step31_4, intL_len, decide_eq_false (Int.lt_irrefl _), cond_false]
theorem eq_loop (w : Wd) {h : Nat} (hh : h ≤ 3) (z : W15) (hl : E.length < 1000) :
 ∃ e, loopVal step31_2 ([], intL E, [], syndL (zeroAt E w) h, ((syndL (zeroAt E w) h).length : Int), 0, lstW (zeroAt E w), z) = some e ∧ ∃ p r, e = (p, intL E, r, lstW (zeroAt E w), z) ∧ Rep p r (2 * h) (E.length + 1) (eraM E w) := by
 have hsl : (syndL (zeroAt E w) h).length = 2 * h := by simp [syndL]
 refine loop_inv (n := 2 * h) (I := fun n x => ∃ p r, x = (p, intL E, r, syndL (zeroAt E w) h, ((syndL (zeroAt E w) h).length : Int), (n : Int), lstW (zeroAt E w), z) ∧ Rep p r n (E.length + 1) (eraM E w)) (fun n x hn hx => .inl ?_) (fun x hx => ?_) (2 * h) 0 (by omega) _ ⟨[], [], rfl, Rep.nil⟩
 ·obtain ⟨p, r, rfl, hr⟩ := hx
  have hg : (syndL (zeroAt E w) h).getD n 0 = vI (synd (zeroAt E w) (n + 1)) := getD_range (fun j => vI (synd (zeroAt E w) (j + 1))) 0 hn
  have e4 : rowL E.length (fun k => gp (loc (E.getD k 0)) (n + 1)) ++ [vI (synd (zeroAt E w) (n + 1))] = rowL (E.length + 1) (eraM E w n) := by
   have h1 : rowL E.length (fun k => gp (loc (E.getD k 0)) (n + 1)) = rowL E.length (eraM E w n) := rowL_congr fun k hk => by
    show _ = if k < E.length then gp (loc (E.getD k 0)) (n + 1) else synd (zeroAt E w) (n + 1)
    rw [if_pos hk]
   have h2 : synd (zeroAt E w) (n + 1) = eraM E w n E.length := by
    show _ = if E.length < E.length then gp (loc (E.getD E.length 0)) (n + 1) else synd (zeroAt E w) (n + 1)
    rw [if_neg (Nat.lt_irrefl _)]
   rw [h1, h2]
   exact range_map_succ (fun k => vI (eraM E w n k)) E.length
  refine ⟨(p ++ [rowL (E.length + 1) (eraM E w n)], intL E, r ++ [p.length], syndL (zeroAt E w) h, ((syndL (zeroAt E w) h).length : Int), ((n + 1 : Nat) : Int), lstW (zeroAt E w), z), ?_, _, _, rfl, (hr.snoc (eraM E w n)).congr fun j _ i _ => ?_⟩
  ·simp only [step31_2, decide_eq_true (by rw [hsl]; omega : (n : Int) < ((syndL (zeroAt E w) h).length : Int)), inB (by rw [hsl]; exact hn : n < (syndL (zeroAt E w) h).length), Int.toNat_natCast, hg, pow_loop hp p r n (by omega) _ _ _ _ _ z hl, optE, rowL_len, hr.len, room_ok (by omega : E.length + 1 < 10000) (by omega : 8 ≤ 1000), room_ok (by omega : n + 1 < 10000) (by omega : 24 ≤ 1000), cond_true, e4, wrS (by omega : n < 1000000)]
  ·by_cases e : j = n
   ·rw [if_pos e, e]
   ·rw [if_neg e]
 ·obtain ⟨p, r, rfl, hr⟩ := hx
  refine ⟨(p, intL E, r, lstW (zeroAt E w), z), ?_, p, r, rfl, hr⟩
  simp only [step31_2, hsl, decide_eq_false (Int.lt_irrefl _), cond_false]
theorem put_loop (w : Wd) (x : Nat → G) (z : W15) (hl : E.length < 1000) : loopVal step31_6a (rowL E.length x, intL E, ((intL E).length : Int), 0, lstW w, z) = some (lstW (setN E x w E.length), z) := by
 refine of_loop (step := step31_6a) (n := E.length) (I := fun n y => y = (rowL E.length x, intL E, ((intL E).length : Int), (n : Int), lstW (setN E x w n), z)) (fun n y hn hy => ?_) (fun y hy => ?_) rfl
 ·subst hy
  have hq := hp _ (getD_mem hn)
  refine ⟨_, ?_, rfl⟩
  have e1 : (lstW (setN E x w n)).set (E.getD n 0) (vI (x n)) = lstW (setN E x w (n + 1)) := lst_set (setN E x w n) (E.getD n 0) (x n)
  simp only [step31_6a, decide_eq_true (by rw [intL_len]; omega : (n : Int) < ((intL E).length : Int)), inB (by rw [intL_len]; exact hn : n < (intL E).length), rowL_len, inB hn, rowL_get x hn, Int.toNat_natCast, intL_get hn, inB hq, lst_len, decide_true, Bool.and_self, cond_true, e1, wrS (by omega : n < 1000000)]
 ·subst hy
  refine ⟨_, ?_, rfl⟩
  simp only [step31_6a, intL_len, decide_eq_false (Int.lt_irrefl _), cond_false]
theorem fill_law (hn : E.Nodup) {h : Nat} (h1 : 1 ≤ h) (h3 : h ≤ 3) (hl : E.length ≤ 2 * h) (w : Wd) :
 ∃ r, s31 (tupW w, (h : Int), intL E) = some r ∧ ((r.2 = false ∧ E.length < 2 * h ∧ ¬ ∃ c, IsCode h c ∧ ∀ p, p < 15 → p ∉ E → c p = w p) ∨
  ∃ out, r = (tupW out, true) ∧ IsCode h out ∧ ∀ p, p < 15 → p ∉ E → out p = w p) := by
 obtain ⟨e3, he3, p, r, rfl, hr⟩ := eq_loop hp w h3 z15 (by omega)
 have hd : decide ((lstW (zeroAt E w)).length * 1 = 15) = true := rfl
 rw [s31_eq, l15_tup, zero_loop hp w _ _ (by omega)]
 simp only [optE, hd, cond_true, pad_lst]
 rw [synds_vI _ h3]
 simp only []
 rw [he3]
 simp only [fillTail, intL_len]
 have htriv := era_triv (h := h) hn hp (w := w) hl
 obtain ⟨e4, he4, hc⟩ := S41_0 hr (by omega) (by omega) (by omega) (intL E) (lstW (zeroAt E w)) z15
 rw [he4]
 rcases hc with ⟨rfl, k, N, hk, hs, hnp⟩ | ⟨p', r', N, rfl, hr', hs⟩
 ·exact absurd hnp (solve_piv hs hk htriv)
 ·have hUR := (hs.unit (by omega)).1
  obtain ⟨e5, he5, hc5⟩ := S41_8 hr' hUR (by omega) (intL E) (lstW (zeroAt E w)) z15
  simp only [optE, sumE, hr'.len, he5]
  rcases hc5 with ⟨rfl, j, j1, j2, j3⟩ | ⟨rfl, hz⟩
  ·refine ⟨(z15, false), rfl, .inl ⟨rfl, by omega, ?_⟩⟩
   rintro ⟨c, hc, hcw⟩
   exact j3 ((solve_complete hs (fill_solves hn hp hc hcw)).2 j j1 j2)
  ·simp only [intL_len]
   have hput := put_loop hp (zeroAt E w) (fun i => N i E.length) z15 (by omega)
   rw [intL_len] at hput
   rw [hput]
   have hd2 : decide ((lstW (setN E (fun i => N i E.length) (zeroAt E w) E.length)).length * 1 = 15) = true := rfl
   simp only [hd2, cond_true, pad_lst]
   have ho : ∀ p, p < 15 → p ∉ E → setN E (fun i => N i E.length) (zeroAt E w) E.length p = w p := fun p _ hm => by
    rw [setN_out (Nat.le_refl _) hm]
    show (if p ∈ E then 0 else w p) = _
    rw [if_neg hm]
   exact ⟨_, rfl, .inr ⟨_, rfl, fill_sound hn hp (solve_sound hs hz) ho (fun k hk => setN_in hn (Nat.le_refl _) k hk), ho⟩⟩
end
end Go.Proofs.Ytlngennlccaneaa
