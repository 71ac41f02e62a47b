/- Blocks: encoding, decoding, filling in. -/
import Derived.Test.YtlngennlccaneaaDec
set_option linter.unusedSimpArgs false
set_option linter.unusedVariables false
set_option maxRecDepth 100000
namespace Go.Proofs.Ytlngennlccaneaa
open Go.Ev
theorem s23_ok {h : Nat} (h1 : 1 ≤ h) (h3 : h ≤ 3) : s23 (h : Int) = some 0 := by
 simp only [s23, s30, s29, decide_eq_true (by omega : (1 : Int) ≤ (h : Int)), decide_eq_true (by omega : (h : Int) ≤ 3), cond_true, optE]
def Els (l : List Int) : Prop := ∀ x ∈ l, 0 ≤ x ∧ x ≤ 15
theorem getD_memI {l : List Int} {k : Nat} (h : k < l.length) : l.getD k 0 ∈ l := by
 rw [List.getD_eq_getElem?_getD, List.getElem?_eq_getElem h]; exact List.getElem_mem h
theorem s36_ok {l : List Int} (hl : l.length < 1000) (he : Els l) : s36 (l, 0, 15) = some 0 := by
 have key : loopVal step55_0 (l, (0, 15, ()), (l.length : Int), 0) = some (.inr ()) := by
  refine of_loop (step := step55_0) (n := l.length) (I := fun n y => y = (l, (0, 15, ()), (l.length : Int), (n : Int))) (fun n y hn hy => ?_) (fun y hy => ?_) rfl
  ·subst hy
   obtain ⟨a, b⟩ := he _ (getD_memI hn)
   refine ⟨_, ?_, rfl⟩
   simp only [step55_0, decide_eq_true (by omega : (n : Int) < (l.length : Int)), inB hn, Int.toNat_natCast, s30, decide_eq_true a, decide_eq_true b, cond_true, optE, Bool.not_true, cond_false, wrS (by omega : n < 1000000)]
  ·subst hy
   refine ⟨_, ?_, rfl⟩
   simp only [step55_0, decide_eq_false (Int.lt_irrefl _), cond_false]
 show optE (loopVal step55_0 (l, (0, 15, ()), (l.length : Int), 0)) _ _ = _
 rw [key]; rfl
theorem s22_2 : s22 [0, 0] = some 0 := by
 show optE (loopVal step22_0 ([0, 0], 2, 0)) _ _ = _
 rw [loopVal_iff.2 ⟨3, (rfl : iter step22_0 3 ([0, 0], 2, 0) = some (.inr ()))⟩]; rfl
theorem s22_3 : s22 [0, 0, 0] = some 0 := by
 show optE (loopVal step22_0 ([0, 0, 0], 3, 0)) _ _ = _
 rw [loopVal_iff.2 ⟨4, (rfl : iter step22_0 4 ([0, 0, 0], 3, 0) = some (.inr ()))⟩]; rfl
theorem s24_ok {l : List Int} {n : Nat} (hn : l.length = n) (hl : n < 1000) (he : Els l) : s24 (l, (n : Int)) = some 0 := by
 subst hn
 simp only [s24, s29, beq_self_eq_true, cond_true, optE, s36_ok hl he, s22_2]
theorem lst_els (w : Wd) : Els (lstW w) := fun x hx => by
 obtain ⟨i, _, rfl⟩ := List.mem_map.1 hx
 have := (w i).2
 show 0 ≤ ((w i).1 : Int) ∧ ((w i).1 : Int) ≤ 15
 omega
theorem s24_15 (w : Wd) : s24 (lstW w, 15) = some 0 := s24_ok (n := 15) rfl (by omega) (lst_els w)
def unI (l : List Int) (p : Nat) : G := Fin.ofNat 16 (l.getD p 0).toNat
theorem vI_unI {x : Int} (h0 : 0 ≤ x) (h1 : x ≤ 15) : vI (Fin.ofNat 16 x.toNat) = x := by
 show ((x.toNat % 16 : Nat) : Int) = x
 rw [Nat.mod_eq_of_lt (by omega)]; omega
theorem els_row {l : List Int} (he : Els l) : l = rowL l.length (unI l) := by
 apply List.ext_getElem
 ·rw [rowL_len]
 ·intro i h1 h2
  have e1 : l.getD i 0 = l[i] := by rw [List.getD_eq_getElem?_getD, List.getElem?_eq_getElem h1]; rfl
  have e2 : (rowL l.length (unI l))[i] = vI (unI l i) := by simp [rowL]
  rw [e2]
  obtain ⟨a, b⟩ := he _ (List.getElem_mem h1)
  unfold unI
  rw [e1, vI_unI a b]
theorem enc_law {h : Nat} (h1 : 1 ≤ h) (h3 : h ≤ 3) {data : List Int} (hl : data.length = 15 - 2 * h) (he : Els data) : ∃ c, IsCode h c ∧ s7 ((h : Int), data) = some (lstW c, 0) := by
 let E : Nat → List Nat := fun n => (List.range n).map fun i => i + (15 - 2 * h)
 have hE : ∀ n, (E n).length = n := fun n => by simp [E]
 have hEn : (E (2 * h)).Nodup := by
  rw [List.nodup_iff_pairwise_ne, List.pairwise_map]
  exact List.nodup_range.imp fun a b => by omega
 have hEp : ∀ p ∈ E (2 * h), p < 15 := fun p hp => by
  obtain ⟨i, hi, rfl⟩ := List.mem_map.1 hp
  have := List.mem_range.1 hi
  omega
 let w : Wd := fun p => if p < 15 - 2 * h then unI data p else 0
 have hw : (data.take 15) ++ ([0, 0, 0, 0, 0, 0, 0, 0, 0, 0, 0, 0, 0, 0, 0].drop (0 + (min data.length 15))) = lstW w := by
  have e := els_row he
  rw [hl] at e
  show _ = lstW fun p => if p < 15 - 2 * h then unI data p else 0
  generalize unI data = a at e ⊢
  rw [e]
  have : h = 1 ∨ h = 2 ∨ h = 3 := by omega
  rcases this with rfl | rfl | rfl <;> rfl
 have key : loopVal step25_0 ((h : Int), [], (data.length : Int), z15, lstW w) = some ((h : Int), intL (E (2 * h)), z15, lstW w) := by
  refine of_loop (step := step25_0) (n := 2 * h) (I := fun n y => y = ((h : Int), intL (E n), ((n + (15 - 2 * h) : Nat) : Int), z15, lstW w)) (fun n y hn hy => ?_) (fun y hy => ?_) (by rw [hl, Nat.zero_add]; rfl)
  ·subst hy
   refine ⟨_, ?_, rfl⟩
   have e1 : intL (E (n + 1)) = intL (E n) ++ [((n + (15 - 2 * h) : Nat) : Int)] := by
    show intL ((List.range (n + 1)).map _) = _
    rw [List.range_succ, List.map_append]
    simp [intL, E]
   rw [e1]
   have e2 : wr (((n + (15 - 2 * h) : Nat) : Int) + 1) = ((n + 1 + (15 - 2 * h) : Nat) : Int) := by rw [wrS (by omega)]; congr 1; omega
   simp only [step25_0, decide_eq_true (by omega : ((n + (15 - 2 * h) : Nat) : Int) < 15), intL_len, hE, room_ok (by omega : n + 1 < 10000) (by omega : 8 ≤ 1000), cond_true, e2]
  ·subst hy
   refine ⟨_, ?_, rfl⟩
   simp only [step25_0, decide_eq_false (by omega : ¬ ((2 * h + (15 - 2 * h) : Nat) : Int) < 15), cond_false]
 obtain ⟨r, hr, hc⟩ := fill_law hEp hEn h1 h3 (by rw [hE]; omega) w
 have e2 : wr (15 - wr (2 * (h : Int))) = ((15 - 2 * h : Nat) : Int) := by
  rw [show 2 * (h : Int) = ((2 * h : Nat) : Int) by omega, wr_nat (by omega), show (15 : Int) - ((2 * h : Nat) : Int) = ((15 - 2 * h : Nat) : Int) by omega, wr_nat (by omega)]
 have hd : decide ((lstW w).length * 1 = 15) = true := rfl
 rcases hc with ⟨_, hlt, _⟩ | ⟨out, rfl, ho, _⟩
 ·rw [hE] at hlt; omega
 refine ⟨out, ho, ?_⟩
 have h25 : s25 ((h : Int), data) = some (tupW out) := by
  show optE (loopVal step25_0 ((h : Int), [], (data.length : Int), z15, (data.take 15) ++ ([0, 0, 0, 0, 0, 0, 0, 0, 0, 0, 0, 0, 0, 0, 0].drop (0 + (min data.length 15))))) (fun e1 => bif decide (e1.2.2.2.length * 1 = 15) then optE (s31 (pad15 e1.2.2.2, e1.1, e1.2.1)) (fun r2 => some r2.1) none else none) none = _
  rw [hw, key]
  simp only [optE, hd, cond_true, pad_lst, hr]
 show optE (s23 (h : Int)) (fun r1 => optE (s24 (data, wr (15 - wr (2 * (h : Int))))) (fun r2 => optE (s22 [r1, r2]) (fun r3 => bif r3 != 0 then some ([], r3) else optE (s25 ((h : Int), data)) (fun r4 => some (l15 r4, 0)) none) none) none) none = _
 rw [s23_ok h1 h3, e2, s24_ok hl (by omega) he, h25]
 simp only [optE]
 rw [s22_2]
 rfl
theorem diffP_sorted (w c : Wd) : (diffP 15 w c).Pairwise (· < ·) := List.pairwise_lt_range.filter _
section
variable {w c : Wd} {h : Nat} (h1 : 1 ≤ h) (h3 : h ≤ 3) (hc : IsCode h c) (hd : (diffP 15 w c).length ≤ h)
include h1 h3 hc hd
theorem decb_law : s13 ((h : Int), lstW w) = some (lstW c, ((diffP 15 w c).length : Int), 0) := by
 show optE (s23 (h : Int)) (fun r1 => optE (s24 (lstW w, 15)) (fun r2 => optE (s22 [r1, r2]) (fun r3 => bif r3 != 0 then some ([], 0, r3) else bif decide (15 ≤ (lstW w).length) then optE (s28 (pad15 (lstW w), (h : Int))) (fun r4 => bif !r4.2.2 then some ([], 0, 27) else some (l15 r4.1, r4.2.1, 0)) none else none) none) none) none = _
 rw [s23_ok h1 h3, s24_15, pad_lst, dec_law h1 h3 hc hd]
 simp only [optE]
 rw [s22_2]
 rfl
theorem fillb_law : s16 ((h : Int), lstW w, intL (diffP 15 w c)) = some (lstW c, 0) := by
 have hs := diffP_sorted w c
 have hp : ∀ p ∈ diffP 15 w c, p < 15 := fun p hp => (diffP_mem.1 hp).1
 generalize hE : diffP 15 w c = E at hs hp hd
 have key : loopVal step16_0 ((h : Int), lstW w, intL E, (-1), intL E, ((intL E).length : Int), 0) = some (.inr ((h : Int), lstW w, intL E)) := by
  refine of_loop (step := step16_0) (n := E.length) (I := fun n y => y = ((h : Int), lstW w, intL E, (if n = 0 then -1 else ((E.getD (n - 1) 0 : Nat) : Int)), intL E, ((intL E).length : Int), (n : Int))) (fun n y hn hy => ?_) (fun y hy => ?_) rfl
  ·subst hy
   refine ⟨((h : Int), lstW w, intL E, ((E.getD n 0 : Nat) : Int), intL E, ((intL E).length : Int), ((n + 1 : Nat) : Int)), ?_, by rw [if_neg (by omega), Nat.add_sub_cancel]⟩
   have hq := hp _ (getD_mem hn)
   have hgt : ((E.getD n 0 : Nat) : Int) > (if n = 0 then -1 else ((E.getD (n - 1) 0 : Nat) : Int)) := by
    by_cases h0 : n = 0
    ·rw [if_pos h0]; omega
    ·rw [if_neg h0]
     have := List.pairwise_iff_getElem.1 hs (n - 1) n (by omega) hn (by omega)
     rw [List.getD_eq_getElem?_getD, List.getElem?_eq_getElem hn, List.getD_eq_getElem?_getD, List.getElem?_eq_getElem (show n - 1 < E.length by omega)]
     simp only [Option.getD_some]
     omega
   simp only [step16_0, intL_len, decide_eq_true (by omega : (n : Int) < (E.length : Int)), inB hn, Int.toNat_natCast, intL_get hn, s30, s29, decide_eq_true (by omega : (0 : Int) ≤ ((E.getD n 0 : Nat) : Int)), decide_eq_true (by omega : ((E.getD n 0 : Nat) : Int) ≤ 14), decide_eq_true hgt, cond_true, optE, s22_2, bne_self_eq_false, cond_false, wrS (by omega : n < 1000000)]
  ·subst hy
   refine ⟨_, ?_, rfl⟩
   simp only [step16_0, intL_len, decide_eq_false (Int.lt_irrefl _), cond_false]
 have hf := (dec_at h1 h3 hc (by rw [hE]; exact hd)).2
 rw [hE] at hf
 have e2 : wr (2 * (h : Int)) = ((2 * h : Nat) : Int) := by rw [show 2 * (h : Int) = ((2 * h : Nat) : Int) by omega, wr_nat (by omega)]
 show optE (s23 (h : Int)) (fun r1 => optE (s24 (lstW w, 15)) (fun r2 => optE (s29 (decide (((intL E).length : Int) ≤ wr (2 * (h : Int))), 8)) (fun r3 => optE (s22 [r1, r2, r3]) (fun r4 => bif r4 != 0 then some ([], r4) else
  optE (loopVal step16_0 ((h : Int), lstW w, intL E, (-1), intL E, ((intL E).length : Int), 0)) (fun e5 => sumE e5 (fun e6 => some e6) (fun e7 => bif decide (15 ≤ e7.2.1.length) then optE (s31 (pad15 e7.2.1, e7.1, e7.2.2)) (fun r8 => bif !r8.2 then some ([], 27) else some (l15 r8.1, 0)) none else none)) none) none) none) none) none = _
 rw [s23_ok h1 h3, s24_15, e2, intL_len, decide_eq_true (by omega : (E.length : Int) ≤ ((2 * h : Nat) : Int))]
 rw [intL_len] at key
 simp only [optE, s29, cond_true]
 rw [s22_3]
 simp only [bne_self_eq_false, cond_false]
 rw [key]
 simp only [sumE, lst_len, pad_lst, hf]
 rfl
end
end Go.Proofs.Ytlngennlccaneaa
