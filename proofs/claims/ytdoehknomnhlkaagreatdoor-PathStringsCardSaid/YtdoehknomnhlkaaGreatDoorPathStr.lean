import Derived.Test.YtdoehknomnhlkaaGreatDoorTrack5
import Derived.Test.YtdoehknomnhlkaaGreatDoorStrBase
set_option linter.unusedSimpArgs false
namespace Go.Proofs.YtdoehknomnhlkaaGreatDoor
open Go.Ev
theorem s130_eq (p : Tr) : s130 [p] = some (trkE p).2 := by
 unfold s130
 have hd : decide ((0 : Int) < (([p] : List Tr).length : Int)) = true := rfl
 have hin : inBounds 0 ([p] : List Tr).length = true := rfl
 have hg : ([p] : List Tr).getD (0 : Int).toNat ([], 0) = p := rfl
 by_cases h : (trkE p).2 = 0
 ·have h1 : loopVal step130_0 ([p], (([p] : List Tr).length : Int), 0) = some (.inr ()) := by
   rw [loopVal_next (y := ([p], (([p] : List Tr).length : Int), wr (0 + 1))) (by
    simp only [step130_0, hd, hin, hg, cond_true, s207_eq, optE_some, h, bne_self_eq_false, cond_false])]
   exact loopVal_last rfl
  rw [h1, h]
  rfl
 ·have h1 : loopVal step130_0 ([p], (([p] : List Tr).length : Int), 0) = some (.inl (trkE p).2) := loopVal_last (by
   simp only [step130_0, hd, hin, hg, cond_true, s207_eq, optE_some, bne_iff_ne.2 h])
  rw [h1]
  rfl
theorem s49_eq (p : Tr) : s49 p = some (trkE p).2 := by
 unfold s49
 rw [s131_eq]
 rfl
def pW (d : Nat) (below : Bool) (w : ByteArray) : Option Int := match numR w.data.toList d with
 | some v => bif below || decide (v ≥ 0) then some v else none
 | none => none
theorem s128_eq (w : ByteArray) (d : Nat) (hd : d ≤ 18) (below : Bool) (hw : w.size ≤ 1000000) : ∃ v b, s128 (w, (d : Int), below) = some (v, b) ∧ ((b = true ∧ pW d below w = some v) ∨ (b = false ∧ pW d below w = none)) := by
 unfold s128 pW
 dsimp only
 simp only [trimF_eq, optE_some]
 rcases word_cases w hw with ⟨v, a1, a2, a3, a4⟩ | ⟨v, a1, a4⟩
 ·have a4 := a4 d hd
  rw [a1, a4]
  simp only [optE_some, Bool.not_false, cond_true, itoaF_eq a2 a3]
  by_cases hq : Lib.itoa v = w.data.toList
  ·rw [decide_eq_true (show (decS v).data.toList = w.data.toList from hq), cond_true]
   rw [strL_len]
   by_cases ht : (trimS w.data.toList).length ≤ d
   ·rw [if_pos ⟨hq, ht⟩, decide_eq_true (show ((trimS w.data.toList).length : Int) ≤ (d : Int) by omega)]
    cases below with
    | true => exact ⟨v, true, rfl, .inl ⟨rfl, rfl⟩⟩
    | false =>
      by_cases hv : v ≥ 0
      ·rw [decide_eq_true hv]
       exact ⟨v, true, rfl, .inl ⟨rfl, by show (bif false || decide (v ≥ 0) then some v else none) = some v; rw [decide_eq_true hv]; rfl⟩⟩
      ·rw [decide_eq_false hv]
       exact ⟨v, false, rfl, .inr ⟨rfl, by show (bif false || decide (v ≥ 0) then some v else none) = none; rw [decide_eq_false hv]; rfl⟩⟩
   ·rw [if_neg (fun e => ht e.2), decide_eq_false (show ¬ ((trimS w.data.toList).length : Int) ≤ (d : Int) by omega)]
    cases below with
    | true => exact ⟨v, false, rfl, .inr ⟨rfl, rfl⟩⟩
    | false => cases decide (v ≥ 0) <;> exact ⟨v, false, rfl, .inr ⟨rfl, rfl⟩⟩
  ·rw [decide_eq_false (show ¬ (decS v).data.toList = w.data.toList from hq), if_neg (fun e => hq e.1)]
   exact ⟨v, false, rfl, .inr ⟨rfl, rfl⟩⟩
 ·rw [a1, a4 d hd]
  exact ⟨v, false, rfl, .inr ⟨rfl, rfl⟩⟩
def w0 (s : ByteArray) (k : Nat) : ByteArray := (wordsOf s).getD k ByteArray.empty
theorem w0_size {s : ByteArray} (k : Nat) (h : k < (wordsOf s).length) : (w0 s k).size ≤ s.size := wordsOf_size (getDW_mem h)
def kW (w : ByteArray) : Option Kn := if (wordsOf w).length = 4 then (match pW 13 false (w0 w 0) with
 | none => none
 | some a => match pW 7 true (w0 w 1) with
   | none => none
   | some b => match pW 7 true (w0 w 2) with
     | none => none
     | some c => match pW 7 true (w0 w 3) with
       | none => none
       | some e => some (a, b, c, e)) else none
theorem s129_eq (w : ByteArray) (hw : w.size ≤ 100000) : ∃ k b, s129 w = some (k, b) ∧ ((b = true ∧ kW w = some k) ∨ (b = false ∧ kW w = none)) := by
 unfold s129 kW
 have hsp : splitF (w, ByteArray.mk #[32]) = some (wordsOf w) := splitF_eq w 32 (by omega)
 rw [hsp]
 simp only [optE_some]
 by_cases h4 : (wordsOf w).length = 4
 case neg =>
  rw [if_neg h4, show ((((wordsOf w).length : Nat) : Int) != 4) = true by rw [bne_iff_ne]; omega]
  exact ⟨_, false, rfl, .inr ⟨rfl, rfl⟩⟩
 rw [if_pos h4, show ((((wordsOf w).length : Nat) : Int) != 4) = false by rw [h4]; rfl]
 have hb : ∀ k : Nat, k < 4 → inBounds (k : Int) (wordsOf w).length = true := fun k hk => by rw [inB_cast, h4]; exact decide_eq_true hk
 have hb0 : inBounds 0 (wordsOf w).length = true := hb 0 (by omega)
 have hb1 : inBounds 1 (wordsOf w).length = true := hb 1 (by omega)
 have hb2 : inBounds 2 (wordsOf w).length = true := hb 2 (by omega)
 have hb3 : inBounds 3 (wordsOf w).length = true := hb 3 (by omega)
 have g0 : (wordsOf w).getD 0 ByteArray.empty = w0 w 0 := rfl
 have g1 : (wordsOf w).getD 1 ByteArray.empty = w0 w 1 := rfl
 have g2 : (wordsOf w).getD 2 ByteArray.empty = w0 w 2 := rfl
 have g3 : (wordsOf w).getD 3 ByteArray.empty = w0 w 3 := rfl
 simp only [hb0, hb1, hb2, hb3, cond_true, cond_false, g0, g1, g2, g3]
 have z0 := w0_size (s := w) 0 (by omega)
 have z1 := w0_size (s := w) 1 (by omega)
 have z2 := w0_size (s := w) 2 (by omega)
 have z3 := w0_size (s := w) 3 (by omega)
 obtain ⟨v0, b0, e0, c0⟩ := s128_eq (w0 w 0) 13 (by omega) false (by omega)
 obtain ⟨v1, b1, e1, c1⟩ := s128_eq (w0 w 1) 7 (by omega) true (by omega)
 obtain ⟨v2, b2, e2, c2⟩ := s128_eq (w0 w 2) 7 (by omega) true (by omega)
 obtain ⟨v3, b3, e3, c3⟩ := s128_eq (w0 w 3) 7 (by omega) true (by omega)
 have e0 : s128 (w0 w 0, 13, false) = some (v0, b0) := e0
 have e1 : s128 (w0 w 1, 7, true) = some (v1, b1) := e1
 have e2 : s128 (w0 w 2, 7, true) = some (v2, b2) := e2
 have e3 : s128 (w0 w 3, 7, true) = some (v3, b3) := e3
 rw [e0, e1, e2, e3]
 simp only [optE_some]
 rcases c0 with ⟨rfl, c0⟩ | ⟨rfl, c0⟩
 case inr => rw [c0]; exact ⟨_, false, rfl, .inr ⟨rfl, rfl⟩⟩
 rw [c0]
 rcases c1 with ⟨rfl, c1⟩ | ⟨rfl, c1⟩
 case inr => rw [c1]; exact ⟨_, false, rfl, .inr ⟨rfl, rfl⟩⟩
 rw [c1]
 rcases c2 with ⟨rfl, c2⟩ | ⟨rfl, c2⟩
 case inr => rw [c2]; exact ⟨_, false, rfl, .inr ⟨rfl, rfl⟩⟩
 rw [c2]
 rcases c3 with ⟨rfl, c3⟩ | ⟨rfl, c3⟩
 case inr => rw [c3]; exact ⟨_, false, rfl, .inr ⟨rfl, rfl⟩⟩
 rw [c3]
 exact ⟨_, true, rfl, .inl ⟨rfl, rfl⟩⟩
def piecesOf (s : ByteArray) : List ByteArray := (cutL 59 s.data.toList).map strL
theorem piecesOf_size {s w : ByteArray} (h : w ∈ piecesOf s) : w.size ≤ s.size := by
 unfold piecesOf at h
 obtain ⟨x, hx, rfl⟩ := List.mem_map.1 h
 rw [strL_len, sizeW]
 exact pieces_size hx
theorem piecesOf_len (s : ByteArray) : (piecesOf s).length ≤ s.size + 1 := by
 unfold piecesOf; rw [List.length_map, sizeW]; exact cutL_len 59 _
theorem piecesOf_pos (s : ByteArray) : 1 ≤ (piecesOf s).length := by
 unfold piecesOf
 rw [List.length_map]
 cases h : cutL 59 s.data.toList with
 | nil => exact absurd h (cutL_ne _ _)
 | cons x r => simp
def kv (w : ByteArray) : Kn := (kW w).getD (0, 0, 0, 0)
def trackV (p : Tr) : Tr × Int := bif (trkE p).2 != 0 then (([], 0), (trkE p).2) else (p, 0)
def trackP (s : ByteArray) : Tr × Int := if 60000 < s.size then (([], 0), 8) else match pW 13 false ((piecesOf s).getD 0 ByteArray.empty) with
 | none => (([], 0), 7)
 | some d => if ((piecesOf s).drop 1).all (fun w => (kW w).isSome) = true then trackV (((piecesOf s).drop 1).map kv, d) else (([], 0), 7)
theorem getD_drop1 (l : List ByteArray) (k : Nat) : (l.drop 1).getD k ByteArray.empty = l.getD (k + 1) ByteArray.empty := by
 rw [List.getD_eq_getElem?_getD, List.getD_eq_getElem?_getD, List.getElem?_drop, Nat.add_comm]
theorem scanKW {E : Type} {e b : E} (ws : List ByteArray) : scanL (fun w => if (kW w).isSome = true then none else some b) e ws = if ws.all (fun w => (kW w).isSome) = true then e else b := by
 rw [scanL_const (b := b) (fun x _ => by cases (kW x).isSome <;> simp)]
 have : (ws.all fun x => (if (kW x).isSome = true then none else some b : Option E).isNone) = ws.all (fun w => (kW w).isSome) := by
  congr 1
  funext x
  cases (kW x).isSome <;> rfl
 rw [this]
theorem s45_eq (s : ByteArray) (hs : s.size ≤ 100000) : s45 s = some (trackP s) := by
 unfold s45 trackP
 by_cases h6 : 60000 < s.size
 ·rw [if_pos h6, decide_eq_true (by omega)]; rfl
 rw [if_neg h6, decide_eq_false (by omega), cond_false]
 have hsp : splitF (s, ByteArray.mk #[59]) = some (piecesOf s) := splitF_eq s 59 (by omega)
 rw [hsp]
 simp only [optE_some]
 have hl := piecesOf_len s
 have hp := piecesOf_pos s
 have hm : ∀ k, k < (piecesOf s).length → ((piecesOf s).getD k ByteArray.empty).size ≤ s.size := fun k hk => piecesOf_size (getDW_mem hk)
 have z0 := hm 0 (by omega)
 obtain ⟨v, b, e0, c0⟩ := s128_eq ((piecesOf s).getD 0 ByteArray.empty) 13 (by omega) false (by omega)
 have e0 : s128 ((piecesOf s).getD 0 ByteArray.empty, 13, false) = some (v, b) := e0
 have hin0 : inBounds 0 (piecesOf s).length = true := by rw [show (0 : Int) = ((0 : Nat) : Int) from rfl, inB_cast]; exact decide_eq_true (by omega)
 have hd0 : decide ((0 : Int) < ((piecesOf s).length : Int)) = true := decide_eq_true (by omega)
 rcases c0 with ⟨rfl, c0⟩ | ⟨rfl, c0⟩
 case inr =>
  have h1 : loopVal step45_0 (piecesOf s, ((piecesOf s).length : Int), 0, ([], 0), ([], 0)) = some (.inl (7, ([], 0))) := loopVal_last (by
   simp only [step45_0, hd0, hin0, cond_true]
   show (optE (s128 ((piecesOf s).getD 0 ByteArray.empty, 13, false)) _ none) = _
   rw [e0]
   rfl)
  rw [h1, c0]
  rfl
 rw [c0]
 have hn : loopVal step45_0 (piecesOf s, ((piecesOf s).length : Int), 0, ([], 0), ([], 0)) = loopVal step45_0 (piecesOf s, ((piecesOf s).length : Int), 1, ([], 0), ([], v)) := loopVal_next (by
  simp only [step45_0, hd0, hin0, cond_true]
  show (optE (s128 ((piecesOf s).getD 0 ByteArray.empty, 13, false)) _ none) = _
  rw [e0]
  rfl)
 rw [hn]
 have hlen : ((piecesOf s).drop 1).length = (piecesOf s).length - 1 := List.length_drop
 have h1 := loop_scan (step := step45_0) (st := fun k => (piecesOf s, ((piecesOf s).length : Int), ((k + 1 : Nat) : Int), ([], 0), ((((piecesOf s).drop 1).take k).map kv, v))) (n := ((piecesOf s).drop 1).length)
  (hit := fun k => (fun w => if (kW w).isSome = true then none else some (.inl (7, ([], 0)))) (((piecesOf s).drop 1).getD k ByteArray.empty)) (e := .inr (([], 0), (((piecesOf s).drop 1).map kv, v)))
  (fun k hk => by
    have hk1 : k + 1 < (piecesOf s).length := by omega
    have hroom : room 32 (((((piecesOf s).drop 1).take k).map kv).length + 1) = true := room_true (by simp; omega) (by simp; omega)
    have hne : (((k + 1 : Nat) : Int) == 0) = false := by rw [beq_eq_false_iff_ne]; omega
    have hz := hm (k + 1) hk1
    rw [← take_map_succ kv ((piecesOf s).drop 1) ByteArray.empty hk, getD_drop1]
    simp only [step45_0, lt_cast, inB_cast, hk1, decide_true, cond_true, Int.toNat_natCast, hroom, hne, cond_false, wr_succ (show k + 1 < 4611686018427387904 by omega)]
    obtain ⟨q, b, e, c⟩ := s129_eq ((piecesOf s).getD (k + 1) ByteArray.empty) (by omega)
    rw [e]
    unfold kv
    rcases c with ⟨rfl, c⟩ | ⟨rfl, c⟩
    ·rw [c]; rfl
    ·rw [c]; rfl) (by
    simp only [step45_0, lt_cast]
    rw [decide_eq_false (by omega), cond_false, List.take_length]) ((piecesOf s).drop 1).length 0 (by omega)
 rw [scan_list0 (fun w => if (kW w).isSome = true then none else some (Sum.inl (7, ([], 0)) : (Int × Tr) ⊕ (Tr × Tr))) _ ((piecesOf s).drop 1) ByteArray.empty, scanKW] at h1
 have h1 : loopVal step45_0 (piecesOf s, ((piecesOf s).length : Int), 1, ([], 0), ([], v)) = _ := h1
 rw [h1]
 simp only [optE_some]
 by_cases ha : ((piecesOf s).drop 1).all (fun w => (kW w).isSome) = true
 ·rw [if_pos ha, if_pos ha]
  simp only [sumE_r, s130_eq, optE_some]
  unfold trackV
  cases (trkE (((piecesOf s).drop 1).map kv, v)).2 != 0 <;> rfl
 ·rw [if_neg ha, if_neg ha]
  rfl
theorem numS_pW (d : Nat) (w : ByteArray) : (pW d true w = none ∧ (numS w d).2 = false) ∨ (pW d true w = some (numS w d).1 ∧ (numS w d).2 = true) := by
 unfold pW numS
 cases numR w.data.toList d with
 | none => exact .inl ⟨rfl, rfl⟩
 | some v => exact .inr ⟨rfl, rfl⟩
theorem numS_pW0 (d : Nat) (w : ByteArray) : (pW d false w = none ∧ ((numS w d).2 = false ∨ ((numS w d).2 = true ∧ decide ((numS w d).1 < 0) = true))) ∨ (pW d false w = some (numS w d).1 ∧ (numS w d).2 = true ∧ decide ((numS w d).1 < 0) = false) := by
 unfold pW numS
 cases numR w.data.toList d with
 | none => exact .inl ⟨rfl, .inl rfl⟩
 | some v =>
   by_cases hv : v < 0
   ·exact .inl ⟨by simp only [decide_eq_false (show ¬ v ≥ 0 by omega), Bool.or_self, cond_false], .inr ⟨rfl, decide_eq_true hv⟩⟩
   ·exact .inr ⟨by simp only [decide_eq_true (show v ≥ 0 by omega), Bool.or_true, cond_true], rfl, decide_eq_false hv⟩
theorem refKnot (parts : List ByteArray) (i : Int) (w : ByteArray) (hw : w.size ≤ 100000) (t2 p : Tr) (h4 : (wordsOf w).length = 4) :
 loopVal step46_2 (parts, i, wordsOf w, 0, t2, p, [0, 0, 0, 0]) = some (match kW w with
  | none => .inl (7, ([], 0))
  | some k => .inr (parts, i, t2, p, [k.1, k.2.1, k.2.2.1, k.2.2.2])) := by
 have hb : ∀ k : Nat, k < 4 → inBounds (k : Int) (wordsOf w).length = true := fun k hk => by rw [inB_cast, h4]; exact decide_eq_true hk
 have hb0 : inBounds 0 (wordsOf w).length = true := hb 0 (by omega)
 have hb1 : inBounds 1 (wordsOf w).length = true := hb 1 (by omega)
 have hb2 : inBounds 2 (wordsOf w).length = true := hb 2 (by omega)
 have hb3 : inBounds 3 (wordsOf w).length = true := hb 3 (by omega)
 have z0 := w0_size (s := w) 0 (by omega)
 have z1 := w0_size (s := w) 1 (by omega)
 have z2 := w0_size (s := w) 2 (by omega)
 have z3 := w0_size (s := w) 3 (by omega)
 have n0 : s95 (w0 w 0, 13) = some (numS (w0 w 0) 13) := s95_eq _ 13 (by omega) (by omega)
 have n1 : s95 (w0 w 1, 7) = some (numS (w0 w 1) 7) := s95_eq _ 7 (by omega) (by omega)
 have n2 : s95 (w0 w 2, 7) = some (numS (w0 w 2) 7) := s95_eq _ 7 (by omega) (by omega)
 have n3 : s95 (w0 w 3, 7) = some (numS (w0 w 3) 7) := s95_eq _ 7 (by omega) (by omega)
 unfold kW
 rw [if_pos h4]
 have st0 : ∀ n : List Int, step46_2 (parts, i, wordsOf w, 0, t2, p, n) = (bif inBounds 0 (wordsOf w).length then optE (s95 (w0 w 0, 13)) (fun r6 => bif !r6.2 then some (.inr (.inl (7, ([], 0)))) else bif decide (r6.1 < 0) then some (.inr (.inl (7, ([], 0)))) else bif (inBounds 0 4) && (decide (n.length = 4)) then some (.inl (parts, i, wordsOf w, wr (0 + 1), t2, p, n.set 0 r6.1)) else none) none else none) := fun n => rfl
 have st1 : ∀ n : List Int, step46_2 (parts, i, wordsOf w, 1, t2, p, n) = (bif inBounds 1 (wordsOf w).length then optE (s95 (w0 w 1, 7)) (fun r6 => bif !r6.2 then some (.inr (.inl (7, ([], 0)))) else bif (inBounds 1 4) && (decide (n.length = 4)) then some (.inl (parts, i, wordsOf w, wr (1 + 1), t2, p, n.set 1 r6.1)) else none) none else none) := fun n => rfl
 have st2 : ∀ n : List Int, step46_2 (parts, i, wordsOf w, 2, t2, p, n) = (bif inBounds 2 (wordsOf w).length then optE (s95 (w0 w 2, 7)) (fun r6 => bif !r6.2 then some (.inr (.inl (7, ([], 0)))) else bif (inBounds 2 4) && (decide (n.length = 4)) then some (.inl (parts, i, wordsOf w, wr (2 + 1), t2, p, n.set 2 r6.1)) else none) none else none) := fun n => rfl
 have st3 : ∀ n : List Int, step46_2 (parts, i, wordsOf w, 3, t2, p, n) = (bif inBounds 3 (wordsOf w).length then optE (s95 (w0 w 3, 7)) (fun r6 => bif !r6.2 then some (.inr (.inl (7, ([], 0)))) else bif (inBounds 3 4) && (decide (n.length = 4)) then some (.inl (parts, i, wordsOf w, wr (3 + 1), t2, p, n.set 3 r6.1)) else none) none else none) := fun n => rfl
 rcases numS_pW0 13 (w0 w 0) with ⟨h, e | ⟨e, f⟩⟩ | ⟨h, e, f⟩
 ·rw [h]
  exact loopVal_last (by rw [st0, hb0, n0]; simp only [cond_true, optE_some, e, Bool.not_false])
 ·rw [h]
  exact loopVal_last (by rw [st0, hb0, n0]; simp only [cond_true, optE_some, e, f, Bool.not_true, cond_false])
 rw [h]
 rw [loopVal_next (y := (parts, i, wordsOf w, 1, t2, p, [(numS (w0 w 0) 13).1, 0, 0, 0])) (by
  rw [st0, hb0, n0]; simp only [cond_true, optE_some, e, f, Bool.not_true, cond_false]; rfl)]
 rcases numS_pW 7 (w0 w 1) with ⟨h, e⟩ | ⟨h, e⟩
 ·rw [h]
  exact loopVal_last (by rw [st1, hb1, n1]; simp only [cond_true, optE_some, e, Bool.not_false])
 rw [h]
 rw [loopVal_next (y := (parts, i, wordsOf w, 2, t2, p, [(numS (w0 w 0) 13).1, (numS (w0 w 1) 7).1, 0, 0])) (by
  rw [st1, hb1, n1]; simp only [cond_true, optE_some, e, Bool.not_true, cond_false]; rfl)]
 rcases numS_pW 7 (w0 w 2) with ⟨h, e⟩ | ⟨h, e⟩
 ·rw [h]
  exact loopVal_last (by rw [st2, hb2, n2]; simp only [cond_true, optE_some, e, Bool.not_false])
 rw [h]
 rw [loopVal_next (y := (parts, i, wordsOf w, 3, t2, p, [(numS (w0 w 0) 13).1, (numS (w0 w 1) 7).1, (numS (w0 w 2) 7).1, 0])) (by
  rw [st2, hb2, n2]; simp only [cond_true, optE_some, e, Bool.not_true, cond_false]; rfl)]
 rcases numS_pW 7 (w0 w 3) with ⟨h, e⟩ | ⟨h, e⟩
 ·rw [h]
  exact loopVal_last (by rw [st3, hb3, n3]; simp only [cond_true, optE_some, e, Bool.not_false])
 rw [h]
 rw [loopVal_next (y := (parts, i, wordsOf w, 4, t2, p, [(numS (w0 w 0) 13).1, (numS (w0 w 1) 7).1, (numS (w0 w 2) 7).1, (numS (w0 w 3) 7).1])) (by
  rw [st3, hb3, n3]; simp only [cond_true, optE_some, e, Bool.not_true, cond_false]; rfl)]
 exact loopVal_last rfl
theorem kW_len {w : ByteArray} (h : ¬ (wordsOf w).length = 4) : kW w = none := by unfold kW; rw [if_neg h]
theorem s46_eq (s : ByteArray) (hs : s.size ≤ 100000) : s46 s = some (trackP s) := by
 unfold s46 trackP
 by_cases h6 : 60000 < s.size
 ·rw [if_pos h6, decide_eq_true (by omega)]; rfl
 rw [if_neg h6, decide_eq_false (by omega), cond_false]
 have hsp : s94 (s, 59) = some (piecesOf s) := s94_eq s 59 (by omega)
 rw [hsp]
 simp only [optE_some]
 have hl := piecesOf_len s
 have hp := piecesOf_pos s
 have hm : ∀ k, k < (piecesOf s).length → ((piecesOf s).getD k ByteArray.empty).size ≤ s.size := fun k hk => piecesOf_size (getDW_mem hk)
 have z0 := hm 0 (by omega)
 have hin0 : inBounds 0 (piecesOf s).length = true := by rw [show (0 : Int) = ((0 : Nat) : Int) from rfl, inB_cast]; exact decide_eq_true (by omega)
 have n0 : s95 ((piecesOf s).getD 0 ByteArray.empty, 13) = some (numS ((piecesOf s).getD 0 ByteArray.empty) 13) := s95_eq _ 13 (by omega) (by omega)
 rw [hin0, cond_true, n0]
 simp only [optE_some]
 rcases numS_pW0 13 ((piecesOf s).getD 0 ByteArray.empty) with ⟨h, e | ⟨e, f⟩⟩ | ⟨h, e, f⟩
 ·rw [h]; simp only [e, Bool.not_false, cond_true]
 ·rw [h]; simp only [e, f, Bool.not_true, cond_false, cond_true]
 rw [h]
 simp only [e, f, Bool.not_true, cond_false]
 generalize (numS ((piecesOf s).getD 0 ByteArray.empty) 13).1 = v
 have hlen : ((piecesOf s).drop 1).length = (piecesOf s).length - 1 := List.length_drop
 have h1 := loop_scan (step := step46_0) (st := fun k => (piecesOf s, ((k + 1 : Nat) : Int), ([], 0), ((((piecesOf s).drop 1).take k).map kv, v))) (n := ((piecesOf s).drop 1).length)
  (hit := fun k => (fun w => if (kW w).isSome = true then none else some (.inl (7, ([], 0)))) (((piecesOf s).drop 1).getD k ByteArray.empty)) (e := .inr (([], 0), (((piecesOf s).drop 1).map kv, v)))
  (fun k hk => by
    have hk1 : k + 1 < (piecesOf s).length := by omega
    have hroom : room 32 (((((piecesOf s).drop 1).take k).map kv).length + 1) = true := room_true (by simp; omega) (by simp; omega)
    have hz := hm (k + 1) hk1
    rw [← take_map_succ kv ((piecesOf s).drop 1) ByteArray.empty hk, getD_drop1]
    have hc : s94 ((piecesOf s).getD (k + 1) ByteArray.empty, 32) = some (wordsOf ((piecesOf s).getD (k + 1) ByteArray.empty)) := s94_eq _ 32 (by omega)
    simp only [step46_0, lt_cast, inB_cast, hk1, decide_true, cond_true, Int.toNat_natCast, hc, optE_some]
    by_cases h4 : (wordsOf ((piecesOf s).getD (k + 1) ByteArray.empty)).length = 4
    case neg =>
     rw [kW_len h4, show ((((wordsOf ((piecesOf s).getD (k + 1) ByteArray.empty)).length : Nat) : Int) != 4) = true by rw [bne_iff_ne]; omega]
     rfl
    rw [show ((((wordsOf ((piecesOf s).getD (k + 1) ByteArray.empty)).length : Nat) : Int) != 4) = false by rw [h4]; rfl, cond_false, refKnot _ _ _ (by omega) _ _ h4]
    simp only [optE_some]
    unfold kv
    cases kW ((piecesOf s).getD (k + 1) ByteArray.empty) with
    | none => rfl
    | some q =>
      simp only [sumE_r, hroom, cond_true, wr_succ (show k + 1 < 4611686018427387904 by omega)]
      show (bif room 32 (((((piecesOf s).drop 1).take k).map kv).length + 1) then _ else _) = _
      rw [hroom]
      rfl) (by
    simp only [step46_0, lt_cast]
    rw [decide_eq_false (by omega), cond_false, List.take_length]) ((piecesOf s).drop 1).length 0 (by omega)
 rw [scan_list0 (fun w => if (kW w).isSome = true then none else some (Sum.inl (7, ([], 0)) : (Int × Tr) ⊕ (Tr × Tr))) _ ((piecesOf s).drop 1) ByteArray.empty, scanKW] at h1
 have h1 : loopVal step46_0 (piecesOf s, 1, ([], 0), ([], v)) = _ := h1
 rw [h1]
 simp only [optE_some]
 by_cases ha : ((piecesOf s).drop 1).all (fun w => (kW w).isSome) = true
 ·rw [if_pos ha, if_pos ha]
  simp only [sumE_r, s49_eq, optE_some]
  unfold trackV
  cases (trkE (((piecesOf s).drop 1).map kv, v)).2 != 0 <;> rfl
 ·rw [if_neg ha, if_neg ha]
  rfl
def inK (k : Kn) : Prop := inI k.1 ∧ inI k.2.1 ∧ inI k.2.2.1 ∧ inI k.2.2.2
def nums4 (k : Kn) : List Int := [k.1, k.2.1, k.2.2.1, k.2.2.2]
def j4 (k : Kn) : List UInt8 := Lib.join ((nums4 k).map Lib.itoa) [32]
def trackL (p : Tr) : List UInt8 := Lib.join (Lib.itoa p.2 :: p.1.map j4) [59]
theorem nums4_in {k : Kn} (h : inK k) : ∀ x ∈ nums4 k, inI x := fun x hx => by
 unfold nums4 at hx
 simp only [List.mem_cons, List.not_mem_nil, or_false] at hx
 rcases hx with rfl | rfl | rfl | rfl
 ·exact h.1
 ·exact h.2.1
 ·exact h.2.2.1
 ·exact h.2.2.2
theorem j4_len {k : Kn} (h : inK k) : (j4 k).length ≤ 84 := by
 have := join_len ((nums4 k).map Lib.itoa) (fun x hx => by
  obtain ⟨n, hn, rfl⟩ := List.mem_map.1 hx
  have := nums4_in h n hn
  exact itoa_len this.1 this.2)
 rw [List.length_map] at this
 exact this
theorem getDK_mem {l : List Kn} {k : Nat} (h : k < l.length) : l.getD k (0, 0, 0, 0) ∈ l := by
 rw [List.getD_eq_getElem?_getD, List.getElem?_eq_getElem h]
 exact List.getElem_mem h
theorem wr0 {k : Nat} (h : k < 4611686018427387904) : wr ((k : Int) + 1) = ((k + 1 : Nat) : Int) := wr_succ h
theorem fmtKnot (w : List ByteArray) (t14 : List Kn) (t15 t16 : Int) (l : List Int) (hl : l.length ≤ 1000) (hi : ∀ x ∈ l, inI x) :
 loopVal step43_2 (w, [], t14, t15, t16, l, (l.length : Int), 0) = some (w, l.map decS, t14, t15, t16) := by
 have h1 := loop_for (step := step43_2) (st := fun k => (w, (l.take k).map decS, t14, t15, t16, l, (l.length : Int), (k : Int))) (n := l.length) (e := (w, l.map decS, t14, t15, t16))
  (fun k hk => by
    have hroom : room 16 (((l.take k).map decS).length + 1) = true := room_true (by simp; omega) (by simp; omega)
    have hx := hi _ (getD_mem hk)
    simp only [step43_2, lt_cast, inB_cast, hk, decide_true, cond_true, Int.toNat_natCast, itoaF_eq hx.1 hx.2, optE_some, wr_succ (show k < 4611686018427387904 by omega), hroom]
    rw [← take_map_succ decS l 0 hk]) (by simp only [step43_2, lt_cast, Nat.lt_irrefl, decide_false, cond_false, List.take_length]) 0 (by omega)
 exact h1
theorem s43_eq (p : Tr) (hl : p.1.length ≤ 1000) (hd : inI p.2) (hi : ∀ k ∈ p.1, inK k) : s43 p = some (strL (trackL p)) := by
 unfold s43
 rw [itoaF_eq hd.1 hd.2]
 simp only [optE_some]
 have h1 := loop_for (step := step43_0) (st := fun k => (decS p.2 :: (p.1.take k).map (fun q => strL (j4 q)), p.1, (p.1.length : Int), (k : Int))) (n := p.1.length) (e := decS p.2 :: p.1.map (fun q => strL (j4 q)))
  (fun k hk => by
    have hroom : room 16 ((decS p.2 :: (p.1.take k).map (fun q => strL (j4 q))).length + 1) = true := room_true (by simp; omega) (by simp; omega)
    have hx := hi _ (getDK_mem hk)
    have hf := fmtKnot (decS p.2 :: (p.1.take k).map (fun q => strL (j4 q))) p.1 (p.1.length : Int) (k : Int) (nums4 (p.1.getD k (0, 0, 0, 0))) (by unfold nums4; simp) (nums4_in hx)
    have hf : loopVal step43_2 (decS p.2 :: (p.1.take k).map (fun q => strL (j4 q)), [], p.1, (p.1.length : Int), (k : Int), [(p.1.getD k (0, 0, 0, 0)).1, (p.1.getD k (0, 0, 0, 0)).2.1, (p.1.getD k (0, 0, 0, 0)).2.2.1, (p.1.getD k (0, 0, 0, 0)).2.2.2], 4, 0) = _ := hf
    have hj : joinF ((nums4 (p.1.getD k (0, 0, 0, 0))).map decS, ByteArray.mk #[32]) = some (strL (j4 (p.1.getD k (0, 0, 0, 0)))) := joinF_nums _ (by unfold nums4; simp) (nums4_in hx)
    simp only [step43_0, lt_cast, inB_cast, hk, decide_true, cond_true, Int.toNat_natCast, hf, optE_some, hj, wr_succ (show k < 4611686018427387904 by omega), hroom]
    rw [← take_map_succ (fun q => strL (j4 q)) p.1 (0, 0, 0, 0) hk]
    rfl) (by simp only [step43_0, lt_cast, Nat.lt_irrefl, decide_false, cond_false, List.take_length]) 0 (by omega)
 have h1 : loopVal step43_0 ([decS p.2], p.1, (p.1.length : Int), 0) = _ := h1
 have hj : joinL (decS p.2 :: p.1.map (fun q => strL (j4 q))) (ByteArray.mk #[59]) = trackL p := by
  unfold joinL trackL
  rw [List.map_cons, List.map_map]
  rfl
 rw [h1]
 simp only [optE_some]
 rw [joinF_eq _ _ (by simp; omega) (by
  rw [hj]
  have := join_lenM (c := 59) (m := 84) (Lib.itoa p.2 :: p.1.map j4) (fun x hx => by
   rcases List.mem_cons.1 hx with rfl | hx
   ·have := itoa_len hd.1 hd.2; omega
   ·obtain ⟨q, hq, rfl⟩ := List.mem_map.1 hx
    exact j4_len (hi q hq))
  rw [List.length_cons, List.length_map] at this
  show (trackL p).length ≤ _
  unfold trackL
  omega), hj]
 rfl
theorem decS_def (n : Int) : decS n = strL (Lib.itoa n) := rfl
theorem j4_eq (k : Kn) : j4 k = Lib.itoa k.1 ++ [32] ++ Lib.itoa k.2.1 ++ [32] ++ Lib.itoa k.2.2.1 ++ [32] ++ Lib.itoa k.2.2.2 := by
 unfold j4 nums4
 rw [List.map_cons, Lib.join_cons]
 simp [Lib.joinTail]
theorem s47_eq (p : Tr) (hl : p.1.length ≤ 1000) (hd : inI p.2) (hi : ∀ k ∈ p.1, inK k) : s47 p = some (strL (trackL p)) := by
 unfold s47
 rw [s96_eq hd.1 hd.2]
 simp only [optE_some]
 have hlen : ∀ k, (Lib.join (Lib.itoa p.2 :: (p.1.take k).map j4) [59]).length ≤ 85 * (p.1.length + 1) := fun k => by
  have := join_lenM (c := 59) (m := 84) (Lib.itoa p.2 :: (p.1.take k).map j4) (fun x hx => by
   rcases List.mem_cons.1 hx with rfl | hx
   ·have := itoa_len hd.1 hd.2; omega
   ·obtain ⟨q, hq, rfl⟩ := List.mem_map.1 hx
    exact j4_len (hi q (List.mem_of_mem_take hq)))
  rw [List.length_cons, List.length_map, List.length_take] at this
  have h2 : min k p.1.length ≤ p.1.length := Nat.min_le_right _ _
  omega
 have h1 := loop_for (step := step47_0) (st := fun k => (strL (Lib.join (Lib.itoa p.2 :: (p.1.take k).map j4) [59]), (k : Int), p)) (n := p.1.length) (e := strL (trackL p))
  (fun k hk => by
    have hx := hi _ (getDK_mem hk)
    have hz := hlen k
    rw [← take_map_succ j4 p.1 (0, 0, 0, 0) hk, ← List.cons_append, join_snoc _ _ (by simp), j4_eq]
    obtain ⟨⟨a1, a2⟩, ⟨b1, b2⟩, ⟨c1, c2⟩, d1, d2⟩ := hx
    have la := itoa_len a1 a2
    have lb := itoa_len b1 b2
    have lc := itoa_len c1 c2
    have ld := itoa_len d1 d2
    have e59 : ByteArray.mk #[59] = strL [59] := rfl
    have e32 : ByteArray.mk #[32] = strL [32] := rfl
    simp only [step47_0, lt_cast, inB_cast, hk, decide_true, cond_true, Int.toNat_natCast, s96_eq a1 a2, s96_eq b1 b2, s96_eq c1 c2, s96_eq d1 d2, optE_some, e59, e32, decS_def, strL_app, strL_len, List.length_append, List.length_cons, List.length_nil, wr_succ (show k < 4611686018427387904 by omega)]
    rw [decide_eq_true (by omega), cond_true, decide_eq_true (by omega), cond_true, decide_eq_true (by omega), cond_true, decide_eq_true (by omega), cond_true, decide_eq_true (by omega), cond_true, decide_eq_true (by omega), cond_true, decide_eq_true (by omega), cond_true, decide_eq_true (by omega), cond_true]
    simp only [List.append_assoc]) (by simp only [step47_0, lt_cast, Nat.lt_irrefl, decide_false, cond_false, List.take_length]; rfl) 0 (by omega)
 have e0 : strL (Lib.join (Lib.itoa p.2 :: (p.1.take 0).map j4) [59]) = decS p.2 := by rw [List.take_zero, List.map_nil, Lib.join_one]; rfl
 rw [e0] at h1
 have h1 : loopVal step47_0 (decS p.2, 0, p) = _ := h1
 rw [h1]
 rfl
theorem pW_own {v : Int} {d : Nat} {below : Bool} (hd : 1 ≤ d) (h1 : -(10 ^ d : Nat) < v) (h2 : v < (10 ^ d : Nat)) (hb : below = false → 0 ≤ v) : pW d below (decS v) = some v := by
 unfold pW
 rw [decS_list, numR_own (trim_itoa hd h1 h2)]
 cases below with
 | true => rfl
 | false =>
   show (bif false || decide (v ≥ 0) then some v else none) = some v
   rw [decide_eq_true (hb rfl)]
   rfl
theorem kW_own {k : Kn} (h : kR k = true) : kW (strL (j4 k)) = some k := by
 obtain ⟨⟨a1, a2⟩, ⟨b1, b2⟩, ⟨c1, c2⟩, d1, d2⟩ := kR_spec h
 have hw : wordsOf (strL (j4 k)) = [decS k.1, decS k.2.1, decS k.2.2.1, decS k.2.2.2] := words_join k.1 [k.2.1, k.2.2.1, k.2.2.2]
 unfold kW w0
 rw [hw]
 simp only [List.length_cons, List.length_nil, if_true, List.getD_cons_zero, List.getD_cons_succ]
 rw [pW_own (by omega) (by omega) (by omega) (fun _ => a1), pW_own (by omega) (by omega) (by omega) (fun e => by cases e), pW_own (by omega) (by omega) (by omega) (fun e => by cases e), pW_own (by omega) (by omega) (by omega) (fun e => by cases e)]
theorem itoa_semi (n : Int) : (59 : UInt8) ∉ Lib.itoa n := fun h => by
 rcases itoa_mem h with e | e
 ·cases e
 ·revert e; decide
theorem j4_semi (k : Kn) : (59 : UInt8) ∉ j4 k := fun h => by
 unfold j4 at h
 rcases mem_join h with e | ⟨x, hx, e⟩
 ·cases e
 ·obtain ⟨n, _, rfl⟩ := List.mem_map.1 hx
  exact itoa_semi n e
theorem track_back {p : Tr} (h : (trkE p).2 = 0) : trackP (strL (trackL p)) = (p, 0) := by
 have hv := valid_of h
 have hk : ∀ k ∈ p.1, kR k = true := fun k hk => by
  obtain ⟨i, hi, rfl⟩ := List.mem_iff_getElem.1 hk
  have := hv.knot i hi
  rwa [List.getD_eq_getElem?_getD, List.getElem?_eq_getElem hi] at this
 have hin : ∀ k ∈ p.1, inK k := fun k hq => by
  obtain ⟨⟨a1, a2⟩, ⟨b1, b2⟩, ⟨c1, c2⟩, d1, d2⟩ := kR_spec (hk k hq)
  refine ⟨⟨by omega, by omega⟩, ⟨by omega, by omega⟩, ⟨by omega, by omega⟩, by omega, by omega⟩
 have hd := hv.doubt
 have hm := hv.most
 have hp : piecesOf (strL (trackL p)) = decS p.2 :: p.1.map (fun q => strL (j4 q)) := by
  unfold piecesOf trackL
  rw [strL_toList, cutL_join _ _ (itoa_semi _) (fun y hy => by obtain ⟨q, _, rfl⟩ := List.mem_map.1 hy; exact j4_semi q), List.map_cons, List.map_map]
  rfl
 have hz : ¬ 60000 < (strL (trackL p)).size := by
  have := join_lenM (c := 59) (m := 84) (Lib.itoa p.2 :: p.1.map j4) (fun x hx => by
   rcases List.mem_cons.1 hx with rfl | hx
   ·have := itoa_len (n := p.2) (by omega) (by omega); omega
   ·obtain ⟨q, hq, rfl⟩ := List.mem_map.1 hx
    exact j4_len (hin q hq))
  rw [List.length_cons, List.length_map] at this
  rw [strL_len]
  unfold trackL
  omega
 unfold trackP
 rw [if_neg hz, hp, List.getD_cons_zero, pW_own (by omega) (by omega) (by omega) (fun _ => hd.1)]
 have hdr : (decS p.2 :: p.1.map (fun q => strL (j4 q))).drop 1 = p.1.map (fun q => strL (j4 q)) := rfl
 rw [hdr]
 have ha : (p.1.map (fun q => strL (j4 q))).all (fun w => (kW w).isSome) = true := List.all_eq_true.2 fun w hw => by
  obtain ⟨q, hq, rfl⟩ := List.mem_map.1 hw
  rw [kW_own (hk q hq)]; rfl
 have hmap : (p.1.map (fun q => strL (j4 q))).map kv = p.1 := by
  rw [List.map_map]
  have : p.1.map (kv ∘ fun q => strL (j4 q)) = p.1.map id := List.map_congr_left fun q hq => by
   show (kW (strL (j4 q))).getD (0, 0, 0, 0) = q
   rw [kW_own (hk q hq)]; rfl
  rw [this, List.map_id]
 show (if (p.1.map (fun q => strL (j4 q))).all (fun w => (kW w).isSome) = true then trackV ((p.1.map (fun q => strL (j4 q))).map kv, p.2) else _) = _
 rw [if_pos ha, hmap]
 unfold trackV
 show (bif (trkE p).2 != 0 then (([], 0), (trkE p).2) else (p, 0)) = _
 rw [h]; rfl
theorem s48_self (p : Tr) (hl : p.1.length ≤ 1000000) : s48 (p, p) = some true := by
 unfold s48
 dsimp only
 have h1 := loop_for (step := step48_0) (st := fun k => ((k : Int), p, p)) (n := p.1.length) (e := .inr ()) (fun k hk => by
  simp only [step48_0, lt_cast, inB_cast, hk, decide_true, cond_true, Int.toNat_natCast, beq_self_eq_true, Bool.and_self, Bool.not_true, cond_false, wr_succ (show k < 4611686018427387904 by omega)]) (by simp only [step48_0, lt_cast, Nat.lt_irrefl, decide_false, cond_false]) 0 (by omega)
 have h1 : loopVal step48_0 (0, p, p) = _ := h1
 simp only [bne_self_eq_false, cond_false, h1, optE_some, sumE_r]
theorem s44_eq (p : Tr) (hl : p.1.length ≤ 1000000) : s44 p = some p := by
 unfold s44
 obtain ⟨l, d⟩ := p
 cases l with
 | nil => rfl
 | cons y l =>
   show (bif room 32 (l.length + 1) then some ((y :: l, d)) else none) = _
   rw [room_true (by simp only [List.length_cons] at hl; omega) (by simp only [List.length_cons] at hl; omega)]
   rfl
theorem trackP_len (s : ByteArray) : (trackP s).1.1.length ≤ s.size + 1 := by
 unfold trackP
 split
 ·simp
 ·split
  ·simp
  ·split
   ·unfold trackV
    have := piecesOf_len s
    cases (trkE (((piecesOf s).drop 1).map kv, _)).2 != 0
    ·simp; omega
    ·simp
   ·simp
theorem k1_law {k : Option Bool} {n : Int} (h : k = some true) : (bif decide (n > 300) then bif decide (n ≤ 60000) then some true else k else k) = some true := by
 cases decide (n > 300)
 ·exact h
 ·cases decide (n ≤ 60000)
  ·exact h
  ·rfl
theorem path_true (p : Tr) (s : ByteArray) (hd : inI p.2) (hi : ∀ k ∈ p.1, inK k) : s7 (p, s) = some true := by
 unfold s7
 dsimp only
 rw [Bool.not_true, cond_false]
 have hf : s42 p = some (decide ((p.1.length : Int) ≤ 14)) := rfl
 rw [hf, optE_some]
 by_cases hl : (p.1.length : Int) ≤ 14
 case neg => rw [decide_eq_false hl]; rfl
 rw [decide_eq_true hl, Bool.not_true, cond_false]
 refine k1_law ?_
 by_cases hs : (s.size : Int) > 60010
 ·rw [decide_eq_true hs]; rfl
 have hp := trackP_len s
 simp only [decide_eq_false hs, cond_false, s44_eq p (by omega), s43_eq p (by omega) hd hi, s47_eq p (by omega) hd hi, s45_eq s (by omega), s46_eq s (by omega), optE_some, decide_true, Bool.not_true, bne_self_eq_false, s48_self _ (show (trackP s).1.1.length ≤ 1000000 by omega), s49_eq]
 by_cases ht : (trkE p).2 = 0
 ·have hz : (strL (trackL p)).size ≤ 100000 := by
   have := join_lenM (c := 59) (m := 84) (Lib.itoa p.2 :: p.1.map j4) (fun x hx => by
    rcases List.mem_cons.1 hx with rfl | hx
    ·have := itoa_len hd.1 hd.2; omega
    ·obtain ⟨q, hq, rfl⟩ := List.mem_map.1 hx
     exact j4_len (hi q hq))
   rw [List.length_cons, List.length_map] at this
   rw [strL_len]
   unfold trackL
   omega
  rw [ht, s45_eq _ hz, track_back ht]
  simp only [bne_self_eq_false, cond_false, optE_some, beq_self_eq_true, cond_true, s48_self p (by omega)]
 ·rw [bne_iff_ne.2 ht]; rfl
end Go.Proofs.YtdoehknomnhlkaaGreatDoor
