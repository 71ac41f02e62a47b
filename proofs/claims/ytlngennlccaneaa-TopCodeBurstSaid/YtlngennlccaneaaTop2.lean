/- Bursts are spread: the loops, and the answer. -/
import Derived.Test.YtlngennlccaneaaTop
set_option linter.unusedSimpArgs false
set_option linter.unusedVariables false
set_option maxRecDepth 100000
namespace Go.Proofs.Ytlngennlccaneaa
open Go.Ev
theorem s5_law (half : Int) : (∃ r, s5 half = some r ∧ r ≠ 0) ∨ ∃ h : Nat, half = (h : Int) ∧ 1 ≤ h ∧ h ≤ 3 ∧ s5 half = some 0 := by
 by_cases a : 1 ≤ half
 ·by_cases b : half ≤ 3
  ·right
   refine ⟨half.toNat, by omega, by omega, by omega, ?_⟩
   simp only [s5, s20, decide_eq_true a, decide_eq_true b, cond_true, optE, Bool.not_true, cond_false]
  ·left
   refine ⟨2, ?_, by decide⟩
   simp only [s5, s20, decide_eq_true a, decide_eq_false b, cond_true, optE, Bool.not_false]
 ·left
  refine ⟨2, ?_, by decide⟩
  simp only [s5, s20, decide_eq_false a, cond_false, optE, Bool.not_false, cond_true]
theorem els_get {l : List Int} (he : Els l) {i : Nat} (h : i < l.length) : l.getD i 0 = vI (unI l i) := by
 obtain ⟨a, b⟩ := he _ (getD_memI h)
 unfold unI
 rw [vI_unI a b]
section
variable {h : Nat} (h1 : 1 ≤ h) (h3 : h ≤ 3) (data : List (List Int)) (hd : data.length ≤ 4) (x0 : Int × List Int)
include h1 h3 hd
theorem words_loop : ∃ e, loopVal step3_0 ((h : Int), data, [], [], 0, x0) = some e ∧ (e = .inl true ∨ ∃ f : Nat → Wd, (∀ j, j < data.length → IsCode h (f j)) ∧ e = .inr ((h : Int), data, WL f data.length, [], x0)) := by
 refine loop_inv (step := step3_0) (n := data.length) (I := fun n x => ∃ f : Nat → Wd, (∀ j, j < n → IsCode h (f j)) ∧ x = ((h : Int), data, WL f n, [], (n : Int), x0)) (fun n x hn hx => ?_) (fun x hx => ?_) data.length 0 (by omega) _ ⟨fun _ _ => 0, fun j hj => by omega, rfl⟩
 ·obtain ⟨f, hf, rfl⟩ := hx
  have e2 : wr (15 - wr (2 * (h : Int))) = ((15 - 2 * h : Nat) : Int) := by
   rw [show 2 * (h : Int) = ((2 * h : Nat) : Int) by omega, wr_nat (by omega), show (15 : Int) - ((2 * h : Nat) : Int) = ((15 - 2 * h : Nat) : Int) by omega, wr_nat (by omega)]
  have hlt : decide ((n : Int) < (data.length : Int)) = true := decide_eq_true (by omega)
  generalize hg : data.getD n [] = d
  by_cases hl : d.length = 15 - 2 * h
  ·have hne : ((d.length : Int) != ((15 - 2 * h : Nat) : Int)) = false := by rw [hl]; exact bne_self_eq_false _
   obtain ⟨r, hr, hc⟩ := s6_law (l := d) (by omega)
   rcases hc with hr0 | ⟨rfl, hels⟩
   ·right
    refine ⟨.inl true, ?_, .inl rfl⟩
    have hr1 : (r != 0) = true := bne_iff_ne.2 hr0
    simp only [step3_0, hlt, inB hn, Int.toNat_natCast, hg, e2, hne, hr, optE, hr1, cond_true, cond_false]
   ·left
    obtain ⟨c, hc, h7⟩ := enc_law h1 h3 hl hels
    have hW : WL f n ++ lstW c = WL (fun j => if j = n then c else f j) (n + 1) := by
     rw [WL_succ, if_pos rfl]
     congr 1
     exact WL_congr fun j hj p _ => by rw [if_neg (by omega)]
    refine ⟨((h : Int), data, WL (fun j => if j = n then c else f j) (n + 1), [], ((n + 1 : Nat) : Int), x0), ?_, _, fun j hj => ?_, rfl⟩
    ·rw [← hW]
     have hroom : room 8 ((WL f n).length + (lstW c).length) = true := room_ok (by rw [WL_len, lst_len]; omega) (by omega)
     simp only [step3_0, hlt, inB hn, Int.toNat_natCast, hg, e2, hne, hr, optE, bne_self_eq_false, s8_ok (by omega : d.length < 9000), h7, s9_lst, hroom, cond_true, cond_false, wrS (by omega : n < 1000000)]
    ·by_cases e : j = n
     ·rw [if_pos e]; exact hc
     ·rw [if_neg e]; exact hf j (by omega)
  ·right
   refine ⟨.inl true, ?_, .inl rfl⟩
   have hne : ((d.length : Int) != ((15 - 2 * h : Nat) : Int)) = true := bne_iff_ne.2 (by omega)
   simp only [step3_0, hlt, inB hn, Int.toNat_natCast, hg, e2, hne, cond_true]
 ·obtain ⟨f, hf, rfl⟩ := hx
  refine ⟨.inr ((h : Int), data, WL f data.length, [], x0), ?_, .inr ⟨f, hf, rfl⟩⟩
  simp only [step3_0, decide_eq_false (Int.lt_irrefl _), cond_false]
end
theorem burst_loop (h : Int) (data : List (List Int)) (words : List Int) (x : Int) {ch : List Int} (he : Els ch) {n a : Nat} (hn : 1 ≤ n) (hn4 : n ≤ 4) (ha : a + ch.length ≤ 15 * n) (f : Nat → Wd) :
 loopVal step3_2 (h, data, words, [], turnL (WL f n) n 15, (a : Int), 0, (x, ch)) = some (h, data, words, (List.range (15 * n)).map fun k => vI (got n f a ch.length (unI ch) k)) := by
 have hml : (turnL (WL f n) n 15).length = 15 * n := turnL_len _ _ _
 refine of_loop (step := step3_2) (n := 15 * n) (I := fun k y => y = (h, data, words, (List.range k).map (fun k => vI (got n f a ch.length (unI ch) k)), turnL (WL f n) n 15, (a : Int), (k : Int), (x, ch))) (fun k y hk hy => ?_) (fun y hy => ?_) rfl
 ·subst hy
  have hlt : decide ((k : Int) < ((turnL (WL f n) n 15).length : Int)) = true := decide_eq_true (by rw [hml]; omega)
  have hin : inBounds (k : Int) (turnL (WL f n) n 15).length = true := inB (by rw [hml]; exact hk)
  have hw : wr ((a : Int) + (ch.length : Int)) = ((a + ch.length : Nat) : Int) := by rw [← Int.natCast_add, wr_nat (by omega)]
  have hmg := mixed_get hn hn4 f hk
  have hroom : room 8 (((List.range k).map fun k => vI (got n f a ch.length (unI ch) k)).length + 1) = true := room_ok (by rw [List.length_map, List.length_range]; omega) (by omega)
  refine ⟨(h, data, words, (List.range (k + 1)).map (fun k => vI (got n f a ch.length (unI ch) k)), turnL (WL f n) n 15, (a : Int), ((k + 1 : Nat) : Int), (x, ch)), ?_, rfl⟩
  rw [← range_map_succ (fun k => vI (got n f a ch.length (unI ch) k))]
  by_cases c1 : a ≤ k
  ·by_cases c2 : k < a + ch.length
   ·have hk2 : wr ((k : Int) - (a : Int)) = ((k - a : Nat) : Int) := by rw [show (k : Int) - (a : Int) = ((k - a : Nat) : Int) by omega, wr_nat (by omega)]
    have hgot : got n f a ch.length (unI ch) k = ga (f (k % n) (k / n)) (unI ch (k - a)) := if_pos ⟨c1, c2⟩
    rw [hgot]
    simp only [step3_2, hlt, hin, decide_eq_true (by omega : (k : Int) ≥ (a : Int)), hw, decide_eq_true (by omega : (k : Int) < ((a + ch.length : Nat) : Int)), hk2, inB (by omega : k - a < ch.length), hroom, Int.toNat_natCast, hmg, els_get he (by omega : k - a < ch.length), xor_vI, cond_true, wrS (by omega : k < 1000000)]
   ·have hgot : got n f a ch.length (unI ch) k = f (k % n) (k / n) := if_neg (fun e => c2 e.2)
    rw [hgot]
    simp only [step3_2, hlt, hin, decide_eq_true (by omega : (k : Int) ≥ (a : Int)), hw, decide_eq_false (by omega : ¬ (k : Int) < ((a + ch.length : Nat) : Int)), hroom, Int.toNat_natCast, hmg, cond_true, cond_false, wrS (by omega : k < 1000000)]
  ·have hgot : got n f a ch.length (unI ch) k = f (k % n) (k / n) := if_neg (fun e => c1 e.1)
   rw [hgot]
   simp only [step3_2, hlt, hin, decide_eq_false (by omega : ¬ (k : Int) ≥ (a : Int)), hroom, Int.toNat_natCast, hmg, cond_true, cond_false, wrS (by omega : k < 1000000)]
 ·subst hy
  refine ⟨_, ?_, rfl⟩
  simp only [step3_2, hml, decide_eq_false (Int.lt_irrefl _), cond_false]
theorem wrong_loop (h : Int) (data : List (List Int)) (words back : List Int) (i : Int) (w c : Wd) :
 loopVal step3_6 (h, data, words, back, i, lstW w, lstW c, [], 0) = some (h, data, words, back, i, lstW w, lstW c, intL (diffP 15 w c)) := by
 refine of_loop (step := step3_6) (n := 15) (I := fun n y => y = (h, data, words, back, i, lstW w, lstW c, intL (diffP n w c), (n : Int))) (fun n y hn hy => ?_) (fun y hy => ?_) rfl
 ·subst hy
  have hl := diffP_len n w c
  have hla : n < (lstW w).length := hn
  have hlb : n < (lstW c).length := hn
  refine ⟨(h, data, words, back, i, lstW w, lstW c, intL (diffP (n + 1) w c), ((n + 1 : Nat) : Int)), ?_, rfl⟩
  rw [diffP_succ]
  by_cases e : w n ≠ c n
  ·rw [if_pos e]
   have e2 : intL (diffP n w c ++ [n]) = intL (diffP n w c) ++ [(n : Int)] := by simp [intL]
   have hroom : room 8 ((intL (diffP n w c)).length + 1) = true := room_ok (by rw [intL_len]; omega) (by omega)
   rw [e2]
   simp only [step3_6, decide_eq_true (by omega : (n : Int) < ((lstW w).length : Int)), inB hla, inB hlb, Int.toNat_natCast, lst_get w hn, lst_get c hn, vI_bne, decide_eq_true e, hroom, cond_true, wrS (by omega : n < 1000000)]
  ·rw [if_neg e, List.append_nil]
   simp only [step3_6, decide_eq_true (by omega : (n : Int) < ((lstW w).length : Int)), inB hla, inB hlb, Int.toNat_natCast, lst_get w hn, lst_get c hn, vI_bne, decide_eq_false e, cond_true, cond_false, wrS (by omega : n < 1000000)]
 ·subst hy
  exact ⟨_, rfl, rfl⟩
theorem words_back {h : Nat} (h1 : 1 ≤ h) (h3 : h ≤ 3) (data : List (List Int)) (hd : data.length ≤ 4) (f g : Nat → Wd) (hf : ∀ j, j < data.length → IsCode h (f j)) (hg : ∀ j, j < data.length → (diffP 15 (g j) (f j)).length ≤ h) :
 loopVal step3_4 ((h : Int), data, WL f data.length, WL g data.length, 0) = some (.inr ()) := by
 refine of_loop (step := step3_4) (n := data.length) (I := fun n y => y = ((h : Int), data, WL f data.length, WL g data.length, (n : Int))) (fun n y hn hy => ?_) (fun y hy => ?_) rfl
 ·subst hy
  refine ⟨_, ?_, rfl⟩
  have w1 : wr ((n : Int) * 15) = ((n * 15 : Nat) : Int) := by rw [show (n : Int) * 15 = ((n * 15 : Nat) : Int) by omega, wr_nat (by omega)]
  have w2 : wr (((n + 1 : Nat) : Int) * 15) = (((n + 1) * 15 : Nat) : Int) := by rw [show ((n + 1 : Nat) : Int) * 15 = (((n + 1) * 15 : Nat) : Int) by omega, wr_nat (by omega)]
  have g1 : ∀ u : Nat → Wd, ((decide ((0 : Int) ≤ ((n * 15 : Nat) : Int))) && ((decide (((n * 15 : Nat) : Int) ≤ (((n + 1) * 15 : Nat) : Int))) && (decide ((((n + 1) * 15 : Nat) : Int) ≤ ((WL u data.length).length : Int))))) = true := fun u => by
   rw [WL_len]
   simp only [Bool.and_eq_true, decide_eq_true_eq]; omega
  have hw := decb_law h1 h3 (hf n hn) (hg n hn)
  have hfill := fillb_law h1 h3 (hf n hn) (hg n hn)
  have hls : ∀ u : Wd, (lstW u).length < 9000 := fun u => by rw [lst_len]; omega
  have hls2 : ∀ u : Wd, (lstW u).length < 1000 := fun u => by rw [lst_len]; omega
  simp only [step3_4, decide_eq_true (by omega : (n : Int) < (data.length : Int)), wrS (by omega : n < 1000000), w1, w2, g1, Int.toNat_natCast, WL_part _ hn, s8_ok (hls _), optE, hw, bne_self_eq_false, s14_self (hls2 _), Bool.not_true, s15_law, wrong_loop, hfill, cond_true, cond_false]
 ·subst hy
  refine ⟨_, ?_, rfl⟩
  simp only [step3_4, decide_eq_false (Int.lt_irrefl _), cond_false]
theorem mod_some {n : Int} {m : Nat} (h : 0 < m) (hm : m < 1000000) : ∃ a : Nat, a < m ∧ s11 (n, (m : Int)) = some (a : Int) := by
 refine ⟨(n % (m : Int)).toNat, ?_, ?_⟩
 ·have := Int.emod_lt_of_pos n (show (0 : Int) < m by omega)
  have := Int.emod_nonneg n (show (m : Int) ≠ 0 by omega)
  omega
 ·have := Int.emod_nonneg n (show (m : Int) ≠ 0 by omega)
  rw [show (((n % (m : Int)).toNat : Nat) : Int) = n % (m : Int) by omega]
  exact mod_law (n := n) (m := (m : Int)) (by omega) (by omega)
theorem top_law (half : Int) (data : List (List Int)) (x0 : Int × List Int) : s3 (half, data, x0) = some true := by
 obtain ⟨fr, ch⟩ := x0
 rcases s5_law half with ⟨r, hr, hr0⟩ | ⟨h, rfl, h1, h3, hr⟩
 ·have hr1 : (r != 0) = true := bne_iff_ne.2 hr0
  simp only [s3, Bool.not_true, cond_false, hr, optE, hr1, cond_true]
 by_cases hd0 : data.length = 0
 ·have e : ((data.length : Int) == 0) = true := by rw [hd0]; rfl
  simp only [s3, Bool.not_true, cond_false, hr, optE, bne_self_eq_false, e, cond_true]
 have e0 : ((data.length : Int) == 0) = false := beq_eq_false_iff_ne.2 (by omega)
 by_cases hd4 : data.length > 4
 ·simp only [s3, Bool.not_true, cond_false, hr, optE, bne_self_eq_false, e0, decide_eq_true (by omega : (data.length : Int) > 4), cond_true]
 have e4 : decide ((data.length : Int) > 4) = false := decide_eq_false (by omega)
 have hle : data.length * h ≤ 4 * 3 := Nat.mul_le_mul (by omega) h3
 have ewr : wr ((data.length : Int) * (h : Int)) = ((data.length * h : Nat) : Int) := by rw [← Int.natCast_mul, wr_nat (by omega)]
 by_cases hch : ch.length > data.length * h
 ·simp only [s3, Bool.not_true, cond_false, hr, optE, bne_self_eq_false, e0, e4, ewr, decide_eq_true (by omega : (ch.length : Int) > ((data.length * h : Nat) : Int)), cond_true]
 have e5 : decide ((ch.length : Int) > ((data.length * h : Nat) : Int)) = false := decide_eq_false (by omega)
 obtain ⟨r2, hr2, hc2⟩ := s6_law (l := ch) (by omega)
 rcases hc2 with hr20 | ⟨rfl, hels⟩
 ·have hr21 : (r2 != 0) = true := bne_iff_ne.2 hr20
  simp only [s3, Bool.not_true, cond_false, hr, optE, bne_self_eq_false, e0, e4, ewr, e5, hr2, hr21, cond_true]
 obtain ⟨e, he, hc⟩ := words_loop h1 h3 data (by omega) (fr, ch)
 rcases hc with rfl | ⟨f, hf, rfl⟩
 ·simp only [s3, Bool.not_true, cond_false, hr, optE, bne_self_eq_false, e0, e4, ewr, e5, hr2, he, sumE]
 have hn1 : 1 ≤ data.length := by omega
 have hn4 : data.length ≤ 4 := by omega
 have hwl : (WL f data.length).length = data.length * 15 := WL_len _ _
 have hint := inter_law (l := WL f data.length) (n := data.length) (cols := 15) hwl (by omega) (by omega) (by omega) (by rw [hwl]; omega)
 have hml : (turnL (WL f data.length) data.length 15).length = 15 * data.length := turnL_len _ _ _
 have hmels : Els (turnL (WL f data.length) data.length 15) := fun x hx => by
  obtain ⟨k, hk, rfl⟩ := List.getElem_of_mem hx
  rw [hml] at hk
  have := mixed_get hn1 hn4 f hk
  rw [List.getD_eq_getElem?_getD, List.getElem?_eq_getElem (by rw [hml]; exact hk), Option.getD_some] at this
  rw [this]
  have := (f (k % data.length) (k / data.length)).2
  show 0 ≤ ((f (k % data.length) (k / data.length)).1 : Int) ∧ ((f (k % data.length) (k / data.length)).1 : Int) ≤ 15
  omega
 have hlen1 : (((turnL (WL f data.length) data.length 15).length : Int) != ((WL f data.length).length : Int)) = false := by
  rw [hml, hwl, Nat.mul_comm]; exact bne_self_eq_false _
 have hby : wr (wr (((turnL (WL f data.length) data.length 15).length : Int) - (ch.length : Int)) + 1) = ((15 * data.length - ch.length + 1 : Nat) : Int) := by
  rw [hml, show ((15 * data.length : Nat) : Int) - (ch.length : Int) = ((15 * data.length - ch.length : Nat) : Int) by omega, wr_nat (by omega), wrS (by omega)]
 obtain ⟨a, ha, hmod⟩ := mod_some (n := fr) (m := 15 * data.length - ch.length + 1) (by omega) (by omega)
 have hburst := burst_loop (h : Int) data (WL f data.length) fr hels hn1 hn4 (show a + ch.length ≤ 15 * data.length by omega) f
 generalize hall : ((List.range (15 * data.length)).map fun k => vI (got data.length f a ch.length (unI ch) k)) = all at hburst
 have hal : all.length = data.length * 15 := by rw [← hall, List.length_map, List.length_range, Nat.mul_comm]
 have hag : ∀ k, k < 15 * data.length → all.getD k 0 = vI (got data.length f a ch.length (unI ch) k) := fun k hk => by rw [← hall]; exact getD_range (fun k => vI (got data.length f a ch.length (unI ch) k)) 0 hk
 have hdei := deinter_law (l := all) (n := data.length) (cols := 15) hal (by omega) (by omega) (by omega) (by omega) (by omega)
 rw [back_eq f a ch.length (unI ch) hag] at hdei
 have hlen2 : (((WL (ownW data.length f a ch.length (unI ch)) data.length).length : Int) != ((WL f data.length).length : Int)) = false := by
  rw [WL_len, WL_len]; exact bne_self_eq_false _
 have hback := words_back h1 h3 data hn4 f (ownW data.length f a ch.length (unI ch)) hf fun j hj => own_diff hn1 hn4 f a ch.length (unI ch) (by omega) hj
 simp only [s3, Bool.not_true, cond_false, hr, optE, bne_self_eq_false, e0, e4, ewr, e5, hr2, he, sumE, s8_ok (by rw [hwl]; omega : (WL f data.length).length < 9000), hint, hlen1, s6_ok (by rw [hml]; omega) hmels, hby, hmod, hburst, hdei, hlen2, hback]
end Go.Proofs.Ytlngennlccaneaa
