import Derived.Test.YtdoehknomnhlkaaGreatDoorSoftBase
set_option linter.unusedSimpArgs false
namespace Go.Proofs.YtdoehknomnhlkaaGreatDoor
open Go.Ev
theorem s23_len (l : List Int) : (s23 l = some true ∧ l.length ≤ 602) ∨ s23 l = some false := by
 unfold s23
 by_cases h1 : (l.length : Int) ≤ 120
 ·rw [decide_eq_true h1]; exact .inl ⟨rfl, by omega⟩
 ·rw [decide_eq_false h1, cond_false]
  by_cases h2 : (l.length : Int) > 600
  ·rw [decide_eq_true h2, cond_true]
   by_cases h3 : (l.length : Int) ≤ 602
   ·rw [decide_eq_true h3]; exact .inl ⟨rfl, by omega⟩
   ·rw [decide_eq_false h3]; exact .inr rfl
  ·rw [decide_eq_false h2]; exact .inr rfl
def bitC (n : Int) : UInt8 := bif win n 0 1 then UInt8.ofNat (48 + n).toNat else 63
def bitS (l : List Int) : ByteArray := strL (l.map bitC)
theorem bitC_on {n : Int} (h : win n 0 1 = true) : IntKind.u8.wrap (wr (48 + n)) = ((bitC n).toNat : Int) := by
 have hn := win_iff.1 h
 unfold bitC
 rw [h, cond_true, wr_id (by omega) (by omega), u8_id (by omega) (by omega), UInt8.toNat_ofNat']
 omega
theorem bitC_off {n : Int} (h : win n 0 1 = false) : (63 : Int) = ((bitC n).toNat : Int) := by
 unfold bitC
 rw [h, cond_false]; rfl
theorem s114_eq (n : Int) : s114 n = some (win n 0 1) := by
 unfold s114
 simp only [s193_eq, optE_some]
theorem bytesStr_map (l : List UInt8) : bytesStr (l.map fun c => (c.toNat : Int)) = strL l := str_ext (by
 show (l.map fun c => (c.toNat : Int)).map (fun n => UInt8.ofNat n.toNat) = l
 rw [List.map_map]
 have : ((fun n : Int => UInt8.ofNat n.toNat) ∘ fun c : UInt8 => (c.toNat : Int)) = id := funext fun c => by
  show UInt8.ofNat ((c.toNat : Int)).toNat = c
  rw [Int.toNat_natCast]
  exact UInt8.ofNat_toNat
 rw [this, List.map_id])
theorem s24_eq (l : List Int) (hl : l.length ≤ 1000000) : s24 l = some (bitS l) := by
 unfold s24
 have h1 := loop_for (step := step24_0) (st := fun k => ((l.take k).map (fun n => ((bitC n).toNat : Int)), l, (l.length : Int), (k : Int))) (n := l.length) (e := l.map (fun n => ((bitC n).toNat : Int)))
  (fun k hk => by
    have hroom : room 1 (((l.take k).map (fun n => ((bitC n).toNat : Int))).length + 1) = true := room_true (by simp; omega) (by simp; omega)
    simp only [step24_0, lt_cast, inB_cast, hk, decide_true, cond_true, Int.toNat_natCast, s114_eq, optE_some, wr_succ (show k < 4611686018427387904 by omega), hroom]
    rw [← take_map_succ (fun n => ((bitC n).toNat : Int)) l 0 hk]
    cases hw : win (l.getD k 0) 0 1 with
    | true => rw [cond_true, bitC_on hw]
    | false => rw [cond_false, ← bitC_off hw]) (by simp only [step24_0, lt_cast, Nat.lt_irrefl, decide_false, cond_false, List.take_length]) 0 (by omega)
 have h1 : loopVal step24_0 ([], l, (l.length : Int), 0) = _ := h1
 rw [decide_eq_true (show (0 : Int) ≤ (l.length : Int) by omega), Int.toNat_natCast, room_true (by omega) (by omega), h1]
 show some (bytesStr (l.map (fun n => ((bitC n).toNat : Int)))) = _
 unfold bitS
 rw [← bytesStr_map, List.map_map]
 rfl
theorem dec_bit {n : Int} (h : win n 0 1 = true) : decS n = strL [bitC n] := by
 have hn := win_iff.1 h
 obtain ⟨m, rfl⟩ : ∃ m : Nat, n = (m : Int) := ⟨n.toNat, by omega⟩
 unfold decS bitC
 rw [itoa_nat, dd_small (by omega), h, cond_true, show ((48 : Int) + (m : Int)).toNat = 48 + m by omega]
theorem s31_eq (l : List Int) (hl : l.length ≤ 1000000) : s31 l = some (bitS l) := by
 unfold s31
 have h1 := loop_for (step := step31_0) (st := fun k => (l, strL ((l.take k).map bitC), (k : Int))) (n := l.length) (e := bitS l)
  (fun k hk => by
    have hz : (strL ((l.take k).map bitC)).size = k := by rw [strL_len]; simp; omega
    simp only [step31_0, lt_cast, inB_cast, hk, decide_true, cond_true, Int.toNat_natCast, s51_eq, optE_some, wr_succ (show k < 4611686018427387904 by omega)]
    rw [← take_map_succ bitC l 0 hk, ← strL_app]
    cases hw : win (l.getD k 0) 0 1 with
    | true =>
      have hn := win_iff.1 hw
      rw [cond_true, s96_eq (by omega) (by omega), dec_bit hw]
      simp only [optE_some, hz, strL_len]
      rw [decide_eq_true (by simp; omega), cond_true]
    | false =>
      have h63 : strL [bitC (l.getD k 0)] = ByteArray.mk #[63] := by unfold bitC; rw [hw]; rfl
      have hs : (ByteArray.mk #[63]).size = 1 := rfl
      rw [cond_false, h63, hz, hs, decide_eq_true (by omega), cond_true]) (by simp only [step31_0, lt_cast, Nat.lt_irrefl, decide_false, cond_false, List.take_length]; rfl) 0 (by omega)
 have h1 : loopVal step31_0 (l, ByteArray.mk #[], 0) = _ := h1
 rw [h1]
 rfl
def bv (x : Int) : Int := wr (IntKind.u8.wrap (x - 48))
def bhit (x : Int) : Option ((List Int × Int) ⊕ List Int) := bif x != 48 then (bif x != 49 then some (.inl ([], 7)) else none) else none
def bitR (bs : List Int) : List Int × Int := match scanL bhit (.inr (bs.map bv)) bs with
 | .inl r => r
 | .inr out => (out, 0)
theorem strBytes_len (s : ByteArray) : (strBytes s).length = s.size := by unfold strBytes; rw [List.length_map, ← sizeW]
theorem s27_eq (s : ByteArray) : s27 s = some (if 600 < s.size then ([], 8) else bitR (strBytes s)) := by
 unfold s27
 by_cases h6 : 600 < s.size
 ·rw [if_pos h6, decide_eq_true (by omega)]; rfl
 rw [if_neg h6, decide_eq_false (by omega), cond_false, decide_eq_true (by omega), cond_true]
 have hl := strBytes_len s
 have h1 := loop_scan (step := step27_0) (st := fun k => (((strBytes s).take k).map bv, strBytes s, ((strBytes s).length : Int), (k : Int))) (n := (strBytes s).length) (hit := fun k => bhit ((strBytes s).getD k 0)) (e := .inr ((strBytes s).map bv))
  (fun k hk => by
    have hroom : room 8 ((((strBytes s).take k).map bv).length + 1) = true := room_true (by simp; omega) (by simp; omega)
    simp only [step27_0, lt_cast, inB_cast, hk, decide_true, cond_true, Int.toNat_natCast, hroom, wr_succ (show k < 4611686018427387904 by omega)]
    rw [← take_map_succ bv (strBytes s) 0 hk]
    unfold bhit
    cases (strBytes s).getD k 0 != 48 <;> cases (strBytes s).getD k 0 != 49 <;> rfl) (by simp only [step27_0, lt_cast, Nat.lt_irrefl, decide_false, cond_false, List.take_length]) (strBytes s).length 0 (by omega)
 rw [scan_list0 bhit _ (strBytes s) 0] at h1
 have h1 : loopVal step27_0 ([], strBytes s, ((strBytes s).length : Int), 0) = _ := h1
 rw [h1]
 simp only [optE_some]
 unfold bitR
 cases scanL bhit (Sum.inr ((strBytes s).map bv)) (strBytes s) <;> rfl
theorem strBytes_getD (s : ByteArray) (k : Nat) : (strBytes s).getD k 0 = ((s.data.toList.getD k 0).toNat : Int) := by
 unfold strBytes
 rw [List.getD_eq_getElem?_getD, List.getElem?_map, List.getD_eq_getElem?_getD]
 cases s.data.toList[k]? <;> rfl
theorem s29_eq (s : ByteArray) : s29 s = some (if 600 < s.size then ([], 8) else bitR (strBytes s)) := by
 unfold s29
 by_cases h6 : 600 < s.size
 ·rw [if_pos h6, decide_eq_true (by omega)]; rfl
 rw [if_neg h6, decide_eq_false (by omega), cond_false]
 have hl := strBytes_len s
 have h1 := loop_scan (step := step29_0) (st := fun k => (s, ((strBytes s).take k).map bv, (k : Int))) (n := s.size) (hit := fun k => bhit ((strBytes s).getD k 0)) (e := .inr ((strBytes s).map bv))
  (fun k hk => by
    have hroom : room 8 ((((strBytes s).take k).map bv).length + 1) = true := room_true (by simp; omega) (by simp; omega)
    simp only [step29_0, lt_cast, inB_cast, hk, decide_true, cond_true, Int.toNat_natCast, hroom, wr_succ (show k < 4611686018427387904 by omega), ← strBytes_getD]
    rw [← take_map_succ bv (strBytes s) 0 (by omega)]
    unfold bhit
    cases (strBytes s).getD k 0 != 48 <;> cases (strBytes s).getD k 0 != 49 <;> rfl) (by
    simp only [step29_0, lt_cast, Nat.lt_irrefl, decide_false, cond_false]
    rw [List.take_of_length_le (by omega)]) s.size 0 (by omega)
 rw [← hl, scan_list0 bhit _ (strBytes s) 0] at h1
 have h1 : loopVal step29_0 (s, [], 0) = _ := h1
 rw [h1]
 simp only [optE_some]
 unfold bitR
 cases scanL bhit (Sum.inr ((strBytes s).map bv)) (strBytes s) <;> rfl
theorem bits_back {l : List Int} (h : ∀ x ∈ l, x = 0 ∨ x = 1) : bitR (strBytes (bitS l)) = (l, 0) := by
 have hb : strBytes (bitS l) = l.map fun n => 48 + n := by
  unfold strBytes bitS
  rw [strL_toList, List.map_map]
  refine List.map_congr_left fun x hx => ?_
  rcases h x hx with rfl | rfl <;> rfl
 unfold bitR
 rw [hb, scanL_none]
 ·show ((l.map fun n => 48 + n).map bv, 0) = (l, 0)
  rw [List.map_map]
  have : l.map (bv ∘ fun n => 48 + n) = l.map id := List.map_congr_left fun x hx => by
   rcases h x hx with rfl | rfl <;> rfl
  rw [this, List.map_id]
 ·intro y hy
  obtain ⟨x, hx, rfl⟩ := List.mem_map.1 hy
  rcases h x hx with rfl | rfl <;> rfl
theorem s34_eq (l : List Int) (hl : l.length ≤ 1000000) : ∃ b, s34 l = some b ∧ (b = true → ∀ x ∈ l, x = 0 ∨ x = 1) := by
 unfold s34
 have h1 := loop_scan (step := step34_0) (st := fun k => (l, (k : Int))) (n := l.length) (hit := fun k => bif !((fun x : Int => !(x != 0 && x != 1)) (l.getD k 0)) then some (Sum.inl false) else none) (e := Sum.inr ())
  (fun k hk => by
    simp only [step34_0, lt_cast, inB_cast, hk, decide_true, cond_true, Int.toNat_natCast, wr_succ (show k < 4611686018427387904 by omega)]
    cases l.getD k 0 != 0 <;> cases l.getD k 0 != 1 <;> rfl) (by simp only [step34_0, lt_cast, Nat.lt_irrefl, decide_false, cond_false]) l.length 0 (by omega)
 rw [scan_list0 (fun x : Int => bif !(!(x != 0 && x != 1)) then some (Sum.inl false : Bool ⊕ Unit) else none) _ l 0] at h1
 have h1 : loopVal step34_0 (l, 0) = _ := h1
 rw [h1]
 simp only [optE_some]
 by_cases ha : ∀ x ∈ l, x = 0 ∨ x = 1
 ·rw [scanL_none (fun x hx => by rcases ha x hx with rfl | rfl <;> rfl)]
  exact ⟨true, rfl, fun _ => ha⟩
 ·rw [scanL_const (b := .inl false) (fun x _ => by cases x != 0 <;> cases x != 1 <;> simp)]
  split
  ·rename_i hh
   exfalso
   apply ha
   intro x hx
   have := List.all_eq_true.1 hh x hx
   by_cases h0 : x = 0
   ·exact .inl h0
   by_cases h1 : x = 1
   ·exact .inr h1
   rw [bne_iff_ne.2 h0, bne_iff_ne.2 h1] at this
   cases this
  ·exact ⟨false, rfl, fun h => by cases h⟩
def softS (l : List Int) : ByteArray := strL (Lib.join (l.map Lib.itoa) [32])
theorem s26_eq (l : List Int) (hl : l.length ≤ 1000000) (hi : ∀ x ∈ l, inI x) : s26 l = some (softS l) := by
 unfold s26
 have h1 := loop_for (step := step26_0) (st := fun k => ((l.take k).map decS, l, (l.length : Int), (k : Int))) (n := l.length) (e := l.map decS)
  (fun k hk => by
    have hroom : room 16 (((l.take k).map decS).length + 1) = true := room_true (by simp; omega) (by simp; omega)
    have hx := hi _ (getD_mem hk)
    simp only [step26_0, lt_cast, inB_cast, hk, decide_true, cond_true, Int.toNat_natCast, itoaF_eq hx.1 hx.2, optE_some, wr_succ (show k < 4611686018427387904 by omega), hroom]
    rw [← take_map_succ decS l 0 hk]) (by simp only [step26_0, lt_cast, Nat.lt_irrefl, decide_false, cond_false, List.take_length]) 0 (by omega)
 have h1 : loopVal step26_0 ([], l, (l.length : Int), 0) = _ := h1
 have hj : joinL (l.map decS) (ByteArray.mk #[32]) = Lib.join (l.map Lib.itoa) [32] := by
  unfold joinL
  rw [List.map_map]
  rfl
 rw [h1]
 simp only [optE_some]
 rw [joinF_eq _ _ (by simp; omega) (by
  rw [hj]
  have := join_len (l.map Lib.itoa) (fun x hx => by
   obtain ⟨n, hn, rfl⟩ := List.mem_map.1 hx
   exact itoa_len (hi n hn).1 (hi n hn).2)
  simp at this; omega), hj]
 rfl
theorem s32_eq (l : List Int) (hl : l.length ≤ 1000000) (hi : ∀ x ∈ l, inI x) : s32 l = some (softS l) := by
 unfold s32
 have hlen : ∀ k, k ≤ l.length → (Lib.join ((l.take k).map Lib.itoa) [32]).length ≤ 21 * k := fun k hk => by
  have := join_len ((l.take k).map Lib.itoa) (fun x hx => by
   obtain ⟨n, hn, rfl⟩ := List.mem_map.1 hx
   have := hi n (List.mem_of_mem_take hn)
   exact itoa_len this.1 this.2)
  rw [List.length_map, List.length_take, Nat.min_eq_left hk] at this
  exact this
 have h1 := loop_for (step := step32_0) (st := fun k => (l, strL (Lib.join ((l.take k).map Lib.itoa) [32]), (k : Int))) (n := l.length) (e := softS l)
  (fun k hk => by
    have hx := hi _ (getD_mem hk)
    have hz : (strL (Lib.join ((l.take k).map Lib.itoa) [32])).size ≤ 21 * k := by rw [strL_len]; exact hlen k (by omega)
    have hd : (decS (l.getD k 0)).size ≤ 20 := by unfold decS; rw [strL_len]; exact itoa_len hx.1 hx.2
    have hsp : (ByteArray.mk #[32]).size = 1 := rfl
    simp only [step32_0, lt_cast, inB_cast, hk, decide_true, cond_true, Int.toNat_natCast, s96_eq hx.1 hx.2, optE_some, wr_succ (show k < 4611686018427387904 by omega)]
    rw [← take_map_succ Lib.itoa l 0 hk]
    by_cases h0 : k = 0
    ·subst h0
     rw [decide_eq_false (show ¬ (((0 : Nat) : Int) > 0) by omega), cond_false, decide_eq_true (by omega), cond_true]
     have : strL (Lib.join ((l.take 0).map Lib.itoa) [32]) ++ decS (l.getD 0 0) = strL (Lib.join ((l.take 0).map Lib.itoa ++ [Lib.itoa (l.getD 0 0)]) [32]) := by
      rw [List.take_zero, List.map_nil, List.nil_append, Lib.join_one, Lib.join_nil]
      exact str_ext (by rw [app_toList]; rfl)
     rw [this]
    ·have hne : (l.take k).map Lib.itoa ≠ [] := by
      intro e
      have := congrArg List.length e
      rw [List.length_map, List.length_take, Nat.min_eq_left (by omega)] at this
      exact h0 this
     rw [decide_eq_true (show ((k : Nat) : Int) > 0 by omega), cond_true, hsp, decide_eq_true (by omega), cond_true]
     have e1 : strL (Lib.join ((l.take k).map Lib.itoa) [32]) ++ ByteArray.mk #[32] = strL (Lib.join ((l.take k).map Lib.itoa) [32] ++ [32]) := strL_app _ [32]
     have hz2 : (strL (Lib.join ((l.take k).map Lib.itoa) [32] ++ [32])).size ≤ 21 * k + 1 := by
      rw [strL_len, List.length_append]
      have := hlen k (by omega)
      simp only [List.length_cons, List.length_nil]; omega
     rw [e1, decide_eq_true (by omega), cond_true, join_snoc _ _ hne]
     rw [show decS (l.getD k 0) = strL (Lib.itoa (l.getD k 0)) from rfl, strL_app]) (by simp only [step32_0, lt_cast, Nat.lt_irrefl, decide_false, cond_false, List.take_length]; rfl) 0 (by omega)
 have h1 : loopVal step32_0 (l, ByteArray.mk #[], 0) = _ := h1
 rw [h1]
 rfl
def softW (w : ByteArray) : Option Int := numR w.data.toList 1
def sval (w : ByteArray) : Int := (softW w).getD 0
def softR (ws : List ByteArray) : List Int × Int := if ws.all (fun w => (softW w).isSome) = true then (bif hE (ws.map sval) != 0 then ([], hE (ws.map sval)) else (ws.map sval, 0)) else ([], 7)
theorem s115_eq (a b : Int) : s115 (a, b) = some (win a (wr (-b)) b) := by
 unfold s115
 simp only [s193_eq, optE_some]
theorem scanW {E : Type} {e b : E} (ws : List ByteArray) : scanL (fun w => if (softW w).isSome = true then none else some b) e ws = if ws.all (fun w => (softW w).isSome) = true then e else b := by
 rw [scanL_const (b := b) (fun x _ => by cases (softW x).isSome <;> simp)]
 have : (ws.all fun x => (if (softW x).isSome = true then none else some b : Option E).isNone) = ws.all (fun w => (softW w).isSome) := by
  congr 1
  funext x
  cases (softW x).isSome <;> rfl
 rw [this]
theorem hE_nil : hE [] = 0 := rfl
def softP (s : ByteArray) : List Int × Int := if s.data.toList = [] then ([], 0) else softR (wordsOf s)
theorem s28_eq (s : ByteArray) (hs : s.size ≤ 100000) : s28 s = some (softP s) := by
 unfold s28 softP
 have hsp := splitF_eq s 32 (by omega)
 have hwl := wordsOf_len s
 rw [hsp]
 simp only [optE_some]
 change optE (loopVal step28_0 (s, [], wordsOf s, ((wordsOf s).length : Int), 0)) _ none = _
 by_cases h0 : s.data.toList = []
 ·rw [if_pos h0]
  have hw : wordsOf s = [strL []] := by unfold wordsOf; rw [h0]; rfl
  have h1 : loopVal step28_0 (s, [], wordsOf s, ((wordsOf s).length : Int), 0) = some (.inl []) := loopVal_last (by
   have hd : decide (s.data.toList = (ByteArray.mk #[]).data.toList) = true := decide_eq_true h0
   rw [hw]
   simp only [step28_0, hd, cond_true]
   rfl)
  rw [h1]
  simp only [optE_some, sumE, s116_eq [] (by simp)]
  rfl
 rw [if_neg h0]
 have hd : decide (s.data.toList = (ByteArray.mk #[]).data.toList) = false := decide_eq_false h0
 have h1 := loop_scan (step := step28_0) (st := fun k => (s, ((wordsOf s).take k).map sval, wordsOf s, ((wordsOf s).length : Int), (k : Int))) (n := (wordsOf s).length) (hit := fun k => (fun w => if (softW w).isSome = true then none else some (.inr ([], 7))) ((wordsOf s).getD k ByteArray.empty)) (e := .inl ((wordsOf s).map sval))
  (fun k hk => by
    have hroom : room 8 ((((wordsOf s).take k).map sval).length + 1) = true := room_true (by simp; omega) (by simp; omega)
    have hsz := wordsOf_size (getDW_mem hk)
    rw [← take_map_succ sval (wordsOf s) ByteArray.empty hk]
    simp only [step28_0, lt_cast, inB_cast, hk, decide_true, cond_true, Int.toNat_natCast, hroom, hd, cond_false, wr_succ (show k < 4611686018427387904 by omega)]
    rcases word_cases ((wordsOf s).getD k ByteArray.empty) (by omega) with ⟨v, a1, a2, a3, a4⟩ | ⟨v, a1, a4⟩
    ·have a4 := a4 1 (by omega)
     rw [a1]
     simp only [optE_some, cond_false, itoaF_eq a2 a3, decS_list, s115_eq]
     rw [show wr (-9) = -9 from wr_id (by omega) (by omega)]
     by_cases hq : Lib.itoa v = ((wordsOf s).getD k ByteArray.empty).data.toList
     ·show (bif !(decide (Lib.itoa v = ((wordsOf s).getD k ByteArray.empty).data.toList)) then _ else _) = _
      rw [decide_eq_true hq]
      simp only [Bool.not_true, cond_false]
      cases hw : win v (-9) 9 with
      | true =>
        have hb := win_iff.1 hw
        have ht : (trimS ((wordsOf s).getD k ByteArray.empty).data.toList).length ≤ 1 := by rw [← hq]; exact trim_itoa (by omega) (by omega) (by omega)
        rw [if_pos ⟨hq, ht⟩] at a4
        have e1 : softW ((wordsOf s).getD k ByteArray.empty) = some v := a4
        simp only [e1, sval, Bool.not_true, cond_false, Option.isSome_some, if_true, Option.getD_some]
      | false =>
        have ht : ¬ (trimS ((wordsOf s).getD k ByteArray.empty).data.toList).length ≤ 1 := by
         rw [← hq]; intro h
         have := pow_len h
         have : win v (-9) 9 = true := win_iff.2 (by omega)
         rw [this] at hw; cases hw
        rw [if_neg (fun e => ht e.2)] at a4
        have e1 : softW ((wordsOf s).getD k ByteArray.empty) = none := a4
        rw [e1]
        rfl
     ·show (bif !(decide (Lib.itoa v = ((wordsOf s).getD k ByteArray.empty).data.toList)) then _ else _) = _
      rw [decide_eq_false hq]
      rw [if_neg (fun e => hq e.1)] at a4
      have e1 : softW ((wordsOf s).getD k ByteArray.empty) = none := a4
      rw [e1]
      rfl
    ·have a4 := a4 1 (by omega)
     have e1 : softW ((wordsOf s).getD k ByteArray.empty) = none := a4
     rw [a1, e1]
     rfl) (by simp only [step28_0, lt_cast, Nat.lt_irrefl, decide_false, cond_false, List.take_length]) (wordsOf s).length 0 (by omega)
 rw [scan_list0 (fun w => if (softW w).isSome = true then none else some (Sum.inr ([], 7) : List Int ⊕ (List Int × Int))) _ (wordsOf s) ByteArray.empty, scanW] at h1
 have h1 : loopVal step28_0 (s, [], wordsOf s, ((wordsOf s).length : Int), 0) = _ := h1
 rw [h1]
 simp only [optE_some]
 unfold softR
 by_cases ha : (wordsOf s).all (fun w => (softW w).isSome) = true
 ·rw [if_pos ha, if_pos ha]
  simp only [sumE, s116_eq _ (show ((wordsOf s).map sval).length ≤ 1000000 by simp; omega), optE_some]
  cases hE ((wordsOf s).map sval) != 0 <;> rfl
 ·rw [if_neg ha, if_neg ha]
  rfl
theorem s30_eq (s : ByteArray) (hs : s.size ≤ 100000) : s30 s = some (softP s) := by
 unfold s30 softP
 by_cases h0 : s.data.toList = []
 ·rw [if_pos h0, decide_eq_true (show s.data.toList = (ByteArray.mk #[]).data.toList from h0)]; rfl
 rw [if_neg h0, decide_eq_false (show ¬ s.data.toList = (ByteArray.mk #[]).data.toList from h0), cond_false]
 have hsp := s94_eq s 32 (by omega)
 have hsp : s94 (s, 32) = some (wordsOf s) := hsp
 have hwl := wordsOf_len s
 rw [hsp]
 simp only [optE_some]
 have h1 := loop_scan (step := step30_0) (st := fun k => (((wordsOf s).take k).map sval, wordsOf s, (k : Int))) (n := (wordsOf s).length) (hit := fun k => (fun w => if (softW w).isSome = true then none else some (.inl ([], 7))) ((wordsOf s).getD k ByteArray.empty)) (e := .inr ((wordsOf s).map sval))
  (fun k hk => by
    have hroom : room 8 ((((wordsOf s).take k).map sval).length + 1) = true := room_true (by simp; omega) (by simp; omega)
    have hsz := wordsOf_size (getDW_mem hk)
    rw [← take_map_succ sval (wordsOf s) ByteArray.empty hk]
    have hn := s95_eq ((wordsOf s).getD k ByteArray.empty) 1 (by omega) (by omega)
    rw [show ((1 : Nat) : Int) = 1 from rfl] at hn
    simp only [step30_0, lt_cast, inB_cast, hk, decide_true, cond_true, Int.toNat_natCast, hroom, hn, optE_some, wr_succ (show k < 4611686018427387904 by omega)]
    unfold numS sval softW
    cases numR ((wordsOf s).getD k ByteArray.empty).data.toList 1 <;> rfl) (by simp only [step30_0, lt_cast, Nat.lt_irrefl, decide_false, cond_false, List.take_length]) (wordsOf s).length 0 (by omega)
 rw [scan_list0 (fun w => if (softW w).isSome = true then none else some (Sum.inl ([], 7) : (List Int × Int) ⊕ List Int)) _ (wordsOf s) ByteArray.empty, scanW] at h1
 have h1 : loopVal step30_0 ([], wordsOf s, 0) = _ := h1
 rw [h1]
 simp only [optE_some]
 unfold softR
 by_cases ha : (wordsOf s).all (fun w => (softW w).isSome) = true
 ·rw [if_pos ha, if_pos ha]
  simp only [sumE, s35_eq _ (show ((wordsOf s).map sval).length ≤ 1000000 by simp; omega), optE_some]
  cases hE ((wordsOf s).map sval) != 0 <;> rfl
 ·rw [if_neg ha, if_neg ha]
  rfl
theorem soft_back {l : List Int} (h : hE l = 0) : softP (softS l) = (l, 0) := by
 have hok := hE_ok h
 cases l with
 | nil => rfl
 | cons x l =>
   have hne : (softS (x :: l)).data.toList ≠ [] := by
    unfold softS
    rw [strL_toList, List.map_cons, Lib.join_cons]
    intro e
    exact itoa_ne x (List.append_eq_nil_iff.1 e).1
   have hw : wordsOf (softS (x :: l)) = (x :: l).map decS := by
    unfold wordsOf softS
    rw [strL_toList, List.map_cons, cutL_join _ _ (itoa_space x) (fun y hy => by obtain ⟨n, _, rfl⟩ := List.mem_map.1 hy; exact itoa_space n)]
    simp [decS]
   have hn : ∀ y ∈ x :: l, softW (decS y) = some y := fun y hy => by
    have := win_iff.1 (hok.2 y hy)
    unfold softW
    rw [decS_list]
    exact numR_own (trim_itoa (by omega) (by omega) (by omega))
   unfold softP
   rw [if_neg hne, hw]
   unfold softR
   have hv : ((x :: l).map decS).map sval = x :: l := by
    rw [List.map_map]
    have : (x :: l).map (sval ∘ decS) = (x :: l).map id := List.map_congr_left fun y hy => by
     show (softW (decS y)).getD 0 = y
     rw [hn y hy]; rfl
    rw [this, List.map_id]
   rw [if_pos (List.all_eq_true.2 fun w hw => by
    obtain ⟨y, hy, rfl⟩ := List.mem_map.1 hw
    rw [hn y hy]; rfl), hv, h]
   rfl
theorem bitR_len (bs : List Int) : (bitR bs).1.length ≤ bs.length := by
 unfold bitR
 rw [scanL_const (b := .inl ([], 7)) (fun x _ => by unfold bhit; cases x != 48 <;> cases x != 49 <;> simp)]
 split
 ·rename_i h
  split at h
  ·cases h
  ·obtain rfl := Sum.inl.inj h
   exact Nat.zero_le _
 ·rename_i h
  split at h
  ·obtain rfl := Sum.inr.inj h
   simp
  ·cases h
theorem softR_len (ws : List ByteArray) : (softR ws).1.length ≤ ws.length := by
 unfold softR
 split
 ·cases hE (ws.map sval) != 0
  ·simp
  ·simp
 ·simp
theorem softP_len (s : ByteArray) : (softP s).1.length ≤ s.size + 1 := by
 unfold softP
 split
 ·simp
 ·exact Nat.le_trans (softR_len _) (wordsOf_len s)
theorem k1_law {k : Option Bool} {n : Int} (h : k = some true) : (bif decide (n > 300) then bif decide (n ≤ 600) then some true else k else k) = some true := by
 cases decide (n > 300)
 ·exact h
 ·cases decide (n ≤ 600)
  ·exact h
  ·rfl
theorem strings_true (l : List Int) (s : ByteArray) (hi : ∀ x ∈ l, inI x) : s5 (l, s) = some true := by
 unfold s5
 show optE (s23 l) _ none = some true
 rcases s23_len l with ⟨hf, hl⟩ | hf
 case inr => rw [hf]; rfl
 rw [hf, optE_some, Bool.not_true, cond_false]
 dsimp only
 refine k1_law ?_
 by_cases hs : (s.size : Int) > 602
 ·rw [decide_eq_true hs]; rfl
 have hb : s.size ≤ 602 := by omega
 have h1 := bitR_len (strBytes s)
 have h2 := strBytes_len s
 have h3 := softP_len s
 have hp : (if 600 < s.size then ([], 8) else bitR (strBytes s) : List Int × Int).1.length ≤ 1000000 := by
  split
  ·simp
  ·omega
 have hin : ∀ l : List Int, l.length ≤ 1000000 → s33 (l, l) = some true := ints_self
 simp only [decide_eq_false hs, cond_false, copy_eq l (by omega), s24_eq l (by omega), s31_eq l (by omega), s26_eq l (by omega) hi, s32_eq l (by omega) hi, s27_eq s, s29_eq s, s28_eq s (by omega), s30_eq s (by omega), optE_some, decide_true, Bool.not_true, bne_self_eq_false, hin _ hp, hin _ (show (softP s).1.length ≤ 1000000 by omega), s35_eq l (by omega)]
 obtain ⟨b, hb1, hb2⟩ := s34_eq l (by omega)
 rw [hb1, optE_some]
 have last : (bif hE l != 0 then some true else optE (s28 (softS l)) (fun r18 => bif r18.2 == 0 then optE (s33 (r18.1, l)) (fun r19 => some r19) none else some false) none) = some true := by
  by_cases he : hE l = 0
  ·have hz : (softS l).size ≤ 100000 := by
    unfold softS
    rw [strL_len]
    have := join_len (l.map Lib.itoa) (fun x hx => by
     obtain ⟨n, hn, rfl⟩ := List.mem_map.1 hx
     exact itoa_len (hi n hn).1 (hi n hn).2)
    rw [List.length_map] at this
    omega
   rw [he, s28_eq _ hz, soft_back he]
   simp only [bne_self_eq_false, cond_false, optE_some, beq_self_eq_true, cond_true, hin l (by omega)]
  ·rw [bne_iff_ne.2 he]; rfl
 cases b with
 | false => exact last
 | true =>
   by_cases h6 : (l.length : Int) ≤ 600
   ·have hz : (bitS l).size = l.length := by unfold bitS; rw [strL_len, List.length_map]
    have hq : s27 (bitS l) = some (l, 0) := by
     rw [s27_eq, if_neg (by omega), bits_back (hb2 rfl)]
    simp only [cond_true, decide_eq_true h6, hq, optE_some, bne_self_eq_false, cond_false, hin l (by omega), Bool.not_true]
    exact last
   ·simp only [cond_true, decide_eq_false h6, cond_false]
    exact last
end Go.Proofs.YtdoehknomnhlkaaGreatDoor
