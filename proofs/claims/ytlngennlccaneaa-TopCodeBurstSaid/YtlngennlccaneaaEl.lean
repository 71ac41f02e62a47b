/- Elements, words: what the printed functions compute of them. -/
import Derived.Test.YtlngennlccaneaaGt4
import Derived.Test.YtlngennlccaneaaLoops
import Derived.Test.YtlngennlccaneaaRs
set_option linter.unusedSimpArgs false
set_option linter.unusedVariables false
set_option maxRecDepth 100000
namespace Go.Proofs.Ytlngennlccaneaa
open Go.Ev
def vI (a : G) : Int := (a.1 : Int)
theorem xor_vI : ∀ a b : G, xorI .i64 (vI a) (vI b) = vI (ga a b) := by decide +kernel
theorem vI_zero {a : G} : vI a = 0 ↔ a = 0 := by
 constructor
 ·intro h
  have : a.1 = 0 := by have h : (a.1 : Int) = 0 := h; omega
  exact Fin.ext this
 ·rintro rfl; rfl
theorem vI_inj {a b : G} : vI a = vI b ↔ a = b := by
 constructor
 ·intro h
  have : a.1 = b.1 := by have h : (a.1 : Int) = b.1 := h; omega
  exact Fin.ext this
 ·rintro rfl; rfl
theorem vI_bne (a b : G) : (vI a != vI b) = decide (a ≠ b) := by
 by_cases h : a = b
 ·subst h; simp
 ·have : vI a ≠ vI b := fun e => h (vI_inj.1 e)
  simp [h, this]
theorem vI_bne0 (a : G) : (vI a != 0) = decide (a ≠ 0) := vI_bne a 0
theorem wr_nat {n : Nat} (h : n < 4000000000000000000) : wr (n : Int) = n := wr_id (by omega) (by omega)
theorem inB {i n : Nat} (h : i < n) : inBounds (i : Int) n = true := by
 simp only [inBounds, Bool.and_eq_true, decide_eq_true_eq]; omega
theorem room_ok {b n : Nat} (h : n < 10000) (hb : b ≤ 1000) : room b n = true := by
 have h1 : n * b ≤ 10000 * 1000 := Nat.mul_le_mul (by omega) hb
 simp only [room, Bool.and_eq_true, decide_eq_true_eq]; omega
theorem prod_iter : ∀ a b : G, iter step37_0 6 (vI a, vI b, 0) = some (vI (gm a b)) := by decide +kernel
theorem prod_vI (a b : G) : s37 (vI a, vI b) = some (vI (gm a b)) := by
 show optE (loopVal step37_0 (vI a, vI b, 0)) _ _ = _
 rw [loopVal_iff.2 ⟨6, prod_iter a b⟩]; rfl
theorem gp_15 : ∀ q r, gp 2 (15 * q + r) = gp 2 r
 | 0, r => by rw [Nat.mul_zero, Nat.zero_add]
 | q + 1, r => by
   rw [show 15 * (q + 1) + r = 15 + (15 * q + r) by omega, gp_add, show gp 2 15 = 1 by decide +kernel, one_gm, gp_15 q r]
theorem gp_mod (n : Nat) : gp 2 (n % 15) = gp 2 n := by
 conv => rhs; rw [← Nat.div_add_mod n 15]
 exact (gp_15 _ _).symm
theorem gp_mul (a : G) (m n : Nat) : gp (gp a m) n = gp a (m * n) := by
 induction n with
 | zero => rfl
 | succ n ih =>
   show gm (gp a m) (gp (gp a m) n) = _
   rw [ih, Nat.mul_succ, gp_add a (m * n) m, gm_comm]
theorem pow_vI (n : Nat) : s40 (n : Int) = some (vI (gp 2 n)) := by
 show optE (loopVal step40_0 (1, Int.tmod (n : Int) 15, 0)) _ _ = _
 have e : Int.tmod (n : Int) 15 = ((n % 15 : Nat) : Int) := rfl
 rw [e]
 have hlt : n % 15 < 15 := Nat.mod_lt _ (by omega)
 have key := loop_for (step := step40_0) (st := fun k => (vI (gp 2 k), ((n % 15 : Nat) : Int), (k : Int))) (n := n % 15) (e := vI (gp 2 (n % 15)))
  (fun k hk => by
    show (bif decide ((k : Int) < ((n % 15 : Nat) : Int)) then optE (s37 (vI (gp 2 k), vI 2)) _ _ else _) = _
    rw [decide_eq_true (by omega : (k : Int) < ((n % 15 : Nat) : Int)), prod_vI, gm_comm]
    show some (Sum.inl (vI (gp 2 (k + 1)), _, wr ((k : Int) + 1))) = _
    rw [show ((k : Int) + 1) = ((k + 1 : Nat) : Int) by omega, wr_nat (by omega)])
  (by
    show (bif decide (((n % 15 : Nat) : Int) < ((n % 15 : Nat) : Int)) then _ else some (Sum.inr (vI (gp 2 (n % 15))))) = _
    rw [decide_eq_false (by omega)]; rfl) 0 (Nat.zero_le _)
 have key : loopVal step40_0 (1, ((n % 15 : Nat) : Int), 0) = _ := key
 rw [key, gp_mod]; rfl
def hitI (a : G) (k : Nat) : Option (Int ⊕ Unit) := if gm a (Fin.ofNat 16 (k + 1)) = 1 then some (.inl ((k + 1 : Nat) : Int)) else none
theorem inv_scan : ∀ a : G, a ≠ 0 → scan (hitI a) (.inr ()) 15 0 = .inl (vI (gi a)) := by decide +kernel
theorem inv_vI {a : G} (h : a ≠ 0) : s47 (vI a) = some (vI (gi a)) := by
 show optE (loopVal step47_0 (vI a, 1)) _ _ = _
 have key := loop_scan (step := step47_0) (st := fun k => (vI a, ((k + 1 : Nat) : Int))) (hit := hitI a) (n := 15) (e := .inr ())
  (fun k hk => by
    show (bif decide (((k + 1 : Nat) : Int) < 16) then optE (s37 (vI a, ((k + 1 : Nat) : Int))) _ _ else _) = _
    have e : ((k + 1 : Nat) : Int) = vI (Fin.ofNat 16 (k + 1)) := by
     show _ = (((k + 1) % 16 : Nat) : Int)
     rw [Nat.mod_eq_of_lt (by omega)]
    rw [decide_eq_true (by omega : ((k + 1 : Nat) : Int) < 16)]
    conv => lhs; rw [e]
    rw [prod_vI]
    show (bif vI (gm a (Fin.ofNat 16 (k + 1))) == 1 then _ else _) = _
    unfold hitI
    by_cases h1 : gm a (Fin.ofNat 16 (k + 1)) = 1
    ·rw [if_pos h1, h1]
     show some (Sum.inr (Sum.inl (vI (Fin.ofNat 16 (k + 1))))) = _
     rw [← e]
    ·rw [if_neg h1]
     have : (vI (gm a (Fin.ofNat 16 (k + 1))) == 1) = false := beq_eq_false_iff_ne.2 fun e => h1 ((vI_inj (b := 1)).1 e)
     rw [this]
     show some (Sum.inl (vI a, wr (vI (Fin.ofNat 16 (k + 1)) + 1))) = _
     rw [← e, show ((k + 1 : Nat) : Int) + 1 = ((k + 1 + 1 : Nat) : Int) by omega, wr_nat (by omega)])
  (by rfl) 15 0 rfl
 have key : loopVal step47_0 (vI a, 1) = _ := key
 rw [key, inv_scan a h]; rfl
theorem loc_vI {p : Nat} (h : p < 15) : s48 (p : Int) = some (vI (loc p)) := by
 show optE (s40 (wr (14 - (p : Int)))) _ _ = _
 rw [show (14 : Int) - p = ((14 - p : Nat) : Int) by omega, wr_nat (by omega), pow_vI]; rfl
abbrev W15 := Int × Int × Int × Int × Int × Int × Int × Int × Int × Int × Int × Int × Int × Int × Int
def tupW (w : Wd) : W15 := (vI (w 0), vI (w 1), vI (w 2), vI (w 3), vI (w 4), vI (w 5), vI (w 6), vI (w 7), vI (w 8), vI (w 9), vI (w 10), vI (w 11), vI (w 12), vI (w 13), vI (w 14))
def lstW (w : Wd) : List Int := (List.range 15).map fun i => vI (w i)
def l15 (t : W15) : List Int := [t.1, t.2.1, t.2.2.1, t.2.2.2.1, t.2.2.2.2.1, t.2.2.2.2.2.1, t.2.2.2.2.2.2.1, t.2.2.2.2.2.2.2.1, t.2.2.2.2.2.2.2.2.1, t.2.2.2.2.2.2.2.2.2.1, t.2.2.2.2.2.2.2.2.2.2.1, t.2.2.2.2.2.2.2.2.2.2.2.1, t.2.2.2.2.2.2.2.2.2.2.2.2.1, t.2.2.2.2.2.2.2.2.2.2.2.2.2.1, t.2.2.2.2.2.2.2.2.2.2.2.2.2.2]
def pad15 (l : List Int) : W15 := ((padV 15 (.int .i64) l).getD 0 0, (padV 15 (.int .i64) l).getD 1 0, (padV 15 (.int .i64) l).getD 2 0, (padV 15 (.int .i64) l).getD 3 0, (padV 15 (.int .i64) l).getD 4 0, (padV 15 (.int .i64) l).getD 5 0, (padV 15 (.int .i64) l).getD 6 0, (padV 15 (.int .i64) l).getD 7 0, (padV 15 (.int .i64) l).getD 8 0, (padV 15 (.int .i64) l).getD 9 0, (padV 15 (.int .i64) l).getD 10 0, (padV 15 (.int .i64) l).getD 11 0, (padV 15 (.int .i64) l).getD 12 0, (padV 15 (.int .i64) l).getD 13 0, (padV 15 (.int .i64) l).getD 14 0)
theorem l15_tup (w : Wd) : l15 (tupW w) = lstW w := rfl
theorem pad_lst (w : Wd) : pad15 (lstW w) = tupW w := rfl
theorem lst_len (w : Wd) : (lstW w).length = 15 := rfl
theorem getD_range {α : Type} (f : Nat → α) (d : α) {n i : Nat} (h : i < n) : ((List.range n).map f).getD i d = f i := by
 rw [List.getD_eq_getElem?_getD, List.getElem?_map, List.getElem?_range h]; rfl
theorem lst_get (w : Wd) {i : Nat} (h : i < 15) : (lstW w).getD i 0 = vI (w i) := getD_range _ _ h
theorem lst_congr {w w' : Wd} (h : ∀ p, p < 15 → w p = w' p) : lstW w = lstW w' := List.map_congr_left fun i hi => by rw [h i (List.mem_range.1 hi)]
theorem sumG_append {α : Type} (l m : List α) (f : α → G) : sumG (l ++ m) f = ga (sumG l f) (sumG m f) := by
 induction l with
 | nil => exact (zero_ga _).symm
 | cons x l ih => rw [List.cons_append, sumG_cons, sumG_cons, ih, ga_assoc]
theorem sumG_succ (n : Nat) (f : Nat → G) : sumG (List.range (n + 1)) f = ga (sumG (List.range n) f) (f n) := by
 rw [List.range_succ, sumG_append]; congr 1; exact ga_zero _
theorem loc_pow (p j : Nat) : gp (loc p) j = gp 2 (j * (14 - p)) := by unfold loc; rw [gp_mul, Nat.mul_comm]
theorem synd_vI (w : Wd) {j : Nat} (hj : j < 1000) : s46 (tupW w, (j : Int)) = some (vI (synd w j)) := by
 show optE (loopVal step46_0 ((j : Int), 0, tupW w, 0)) _ _ = _
 have key := loop_for (step := step46_0) (st := fun k => ((j : Int), vI (sumG (List.range k) fun p => gm (w p) (gp (loc p) j)), tupW w, (k : Int))) (n := 15) (e := vI (synd w j))
  (fun k hk => by
    show (bif decide ((k : Int) < 15) then bif inBounds (k : Int) 15 then optE (s40 (wr ((j : Int) * wr (14 - (k : Int))))) (fun r1 => optE (s37 ((l15 (tupW w)).getD (k : Int).toNat 0, r1)) (fun r2 => some (Sum.inl ((j : Int), xorI .i64 (vI (sumG (List.range k) fun p => gm (w p) (gp (loc p) j))) r2, tupW w, wr ((k : Int) + 1)))) none) none else none else _) = _
    rw [decide_eq_true (by omega : (k : Int) < 15), inB hk, show (14 : Int) - k = ((14 - k : Nat) : Int) by omega, wr_nat (by omega), ← Int.natCast_mul, wr_nat (by
     have : j * (14 - k) ≤ 1000 * 14 := Nat.mul_le_mul (by omega) (by omega)
     omega), pow_vI, l15_tup, Int.toNat_natCast, lst_get w hk]
    simp only [cond_true, optE]
    rw [prod_vI]
    simp only []
    rw [xor_vI, ← loc_pow, ← sumG_succ, show (k : Int) + 1 = ((k + 1 : Nat) : Int) by omega, wr_nat (by omega)])
  rfl 0 (Nat.zero_le _)
 have key : loopVal step46_0 ((j : Int), 0, tupW w, 0) = _ := key
 rw [key]; rfl
def syndL (w : Wd) (h : Nat) : List Int := (List.range (2 * h)).map fun j => vI (synd w (j + 1))
theorem synds_vI (w : Wd) {h : Nat} (hh : h ≤ 3) : s38 (tupW w, (h : Int)) = some (syndL w h) := by
 show optE (loopVal step38_0 ((h : Int), [], 1, tupW w)) _ _ = _
 have e2 : wr (2 * (h : Int)) = ((2 * h : Nat) : Int) := by rw [show 2 * (h : Int) = ((2 * h : Nat) : Int) by omega, wr_nat (by omega)]
 have key := loop_for (step := step38_0) (st := fun k => ((h : Int), (List.range k).map (fun j => vI (synd w (j + 1))), ((k + 1 : Nat) : Int), tupW w)) (n := 2 * h) (e := syndL w h)
  (fun k hk => by
    show (bif decide (((k + 1 : Nat) : Int) ≤ wr (2 * (h : Int))) then optE (s46 (tupW w, ((k + 1 : Nat) : Int))) (fun r1 => bif room 8 (((List.range k).map (fun j => vI (synd w (j + 1)))).length + 1) then some (Sum.inl ((h : Int), (List.range k).map (fun j => vI (synd w (j + 1))) ++ [r1], wr (((k + 1 : Nat) : Int) + 1), tupW w)) else none) none else _) = _
    rw [e2, decide_eq_true (by omega), synd_vI w (by omega), room_ok (by rw [List.length_map, List.length_range]; omega) (by omega)]
    simp only [cond_true, optE]
    rw [range_map_succ (fun j => vI (synd w (j + 1))), show ((k + 1 : Nat) : Int) + 1 = ((k + 1 + 1 : Nat) : Int) by omega, wr_nat (by omega)])
  (by
    show (bif decide (((2 * h + 1 : Nat) : Int) ≤ wr (2 * (h : Int))) then _ else some (Sum.inr (syndL w h))) = _
    rw [e2, decide_eq_false (by omega)]; rfl) 0 (Nat.zero_le _)
 have key : loopVal step38_0 ((h : Int), [], 1, tupW w) = _ := key
 rw [key]; rfl
end Go.Proofs.Ytlngennlccaneaa
