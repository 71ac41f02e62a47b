/- From samples to frames: the law. -/
import Derived.Test.YthckjfbhdjjnkaaThroughMath
set_option linter.unusedSimpArgs false
namespace Go.Proofs.Ythckjfbhdjjnkaa
open Go.Ev
theorem bits_or (l : List Int) (hl : l.length ≤ 1000) : s6 l = some false ∨ (s6 l = some true ∧ ∀ v ∈ l, v = 0 ∨ v = 1) := by
 unfold s6
 have key : ∀ d k, k + d = l.length → loopVal step6_0 (l, (k : Int)) = some (.inl false) ∨ (loopVal step6_0 (l, (k : Int)) = some (.inr ()) ∧ ∀ v ∈ l.drop k, v = 0 ∨ v = 1) := by
  intro d
  induction d with
  | zero =>
    intro k hk
    have hk : k = l.length := by omega
    subst hk
    refine .inr ⟨loopVal_last ?_, fun v hv => by rw [List.drop_length] at hv; cases hv⟩
    simp only [step6_0, lt_cast, Nat.lt_irrefl, decide_false, cond_false]
  | succ d ih =>
    intro k hk
    have hlt : k < l.length := by omega
    have e5 := wr_succ (show k < 4611686018427387904 by omega)
    have hd := getD_drop l 0 hlt
    by_cases g : l.getD k 0 = 0 ∨ l.getD k 0 = 1
    ·have hstep : step6_0 (l, (k : Int)) = some (.inl (l, ((k + 1 : Nat) : Int))) := by
      simp only [step6_0, lt_cast, inB_cast, decide_eq_true hlt, cond_true, Int.toNat_natCast, e5]
      rcases g with g | g
      ·rw [g]; rfl
      ·rw [g]; rfl
     rcases ih (k + 1) (by omega) with h | ⟨h, h2⟩
     ·left; rw [loopVal_next hstep]; exact h
     ·right
      refine ⟨by rw [loopVal_next hstep]; exact h, fun v hv => ?_⟩
      rw [hd] at hv
      rcases List.mem_cons.1 hv with rfl | hv
      ·exact g
      ·exact h2 v hv
    ·left
     refine loopVal_last ?_
     have g0 : l.getD k 0 ≠ 0 := fun h => g (.inl h)
     have g1 : l.getD k 0 ≠ 1 := fun h => g (.inr h)
     simp only [step6_0, lt_cast, inB_cast, decide_eq_true hlt, cond_true, Int.toNat_natCast, bne_iff_ne.2 g0, bne_iff_ne.2 g1]
 rcases key l.length 0 (by omega) with h | ⟨h, h2⟩
 ·left
  have h : loopVal step6_0 (l, 0) = some (.inl false) := h
  simp only [h, optE_some, sumE]
 ·right
  have h : loopVal step6_0 (l, 0) = some (.inr ()) := h
  exact ⟨by simp only [h, optE_some, sumE_r], fun v hv => h2 v hv⟩
theorem turned_eq {t : Nat} (ht : t < 4) {v : Int} (hv : -2000 ≤ v ∧ v ≤ 2000) : s9 ((v, 0), (t : Int)) = some (tv t v) := by
 unfold s9
 have e0 : wr (-0) = 0 := by decide
 have e1 : wr (-v) = -v := wr_id (by omega) (by omega)
 simp only [s8_eq (n := (t : Int)) (m := 4) (by omega) (by omega), optE_some]
 match t, ht with
 | 0, _ => rfl
 | 1, _ => show some (wr (-0), v) = _; rw [e0]; rfl
 | 2, _ => show some (wr (-v), wr (-0)) = _; rw [e0, e1]; rfl
 | 3, _ => show some ((0 : Int), wr (-v)) = _; rw [e1]; rfl
def bitV (A b : Int) : Int := A * (1 - 2 * b)
theorem bitV_or {A b : Int} (hb : b = 0 ∨ b = 1) : bitV A b = A ∨ bitV A b = -A := by
 unfold bitV
 rcases hb with rfl | rfl
 ·left; omega
 ·right; omega
theorem bitV_wr {A b : Int} (hA : 1 ≤ A ∧ A ≤ 2000) (hb : b = 0 ∨ b = 1) : wr (A * wr (1 - wr (2 * b))) = bitV A b := by
 have e1 : wr (2 * b) = 2 * b := wr_id (by omega) (by omega)
 have e2 : wr (1 - 2 * b) = 1 - 2 * b := wr_id (by omega) (by omega)
 rw [e1, e2]
 have := bitV_or (A := A) hb
 exact wr_id (by unfold bitV at this; omega) (by unfold bitV at this; omega)
theorem wantB_wr {b : Int} (hb : b = 0 ∨ b = 1) : wr (7 * wr (1 - wr (2 * b))) = bitV 7 b := bitV_wr (by omega) hb
section
variable {r : Rule} {bits : List Int} {L t : Nat} {A T : Int}
def put (f : Int → Int × Int) (bits : List Int) (A : Int) (L m : Nat) : Gs := (List.range m).map fun m => f (bitV A (bits.getD (m / L) 0))
theorem put_len (f : Int → Int × Int) (bits : List Int) (A : Int) (L m : Nat) : (put f bits A L m).length = m := by unfold put; rw [List.length_map, List.length_range]
theorem put_succ (f : Int → Int × Int) {i k : Nat} (hk : k < L) : put f bits A L (i * L + k) ++ [f (bitV A (bits.getD i 0))] = put f bits A L (i * L + (k + 1)) := by
 have h := range_map_succ (fun m => f (bitV A (bits.getD (m / L) 0))) (i * L + k)
 have e : (i * L + k) / L = i := by rw [Nat.mul_comm, Nat.mul_add_div (by omega), Nat.div_eq_of_lt hk, Nat.add_zero]
 rw [e] at h
 exact h
theorem put_all (f : Int → Int × Int) : put f bits A L (bits.length * L) = (stretch L (bits.map (bitV A))).map f := by
 unfold put stretch
 rw [List.length_map, List.map_map]
 apply List.map_congr_left
 intro m hm
 have hm := List.mem_range.1 hm
 have hlt : m / L < bits.length := Nat.div_lt_of_lt_mul (by rw [Nat.mul_comm]; exact hm)
 show f (bitV A (bits.getD (m / L) 0)) = f ((bits.map (bitV A)).getD (m / L) 0)
 rw [List.getD_eq_getElem?_getD, List.getD_eq_getElem?_getD, List.getElem?_map, List.getElem?_eq_getElem hlt]
 rfl
theorem bit_in (hb : ∀ v ∈ bits, v = 0 ∨ v = 1) {i : Nat} (hi : i < bits.length) : bits.getD i 0 = 0 ∨ bits.getD i 0 = 1 := hb _ (by rw [List.getD_eq_getElem?_getD, List.getElem?_eq_getElem hi]; exact List.getElem_mem hi)
theorem samples_inner (hb : ∀ v ∈ bits, v = 0 ∨ v = 1) (hA : 1 ≤ A ∧ A ≤ 2000) (hL : 1 ≤ L ∧ L ≤ 4) (ht : t < 4) (hT : T % 4 = (t : Int)) (hn : bits.length ≤ 100) {i : Nat} (hi : i < bits.length) (p : Int × Int × Int) :
 loopVal step3_2 (put (fun v => (v, 0)) bits A L (i * L), put (tv t) bits A L (i * L), (i : Int), 0, r, (bits, (L : Int), A, T), p) = some (put (fun v => (v, 0)) bits A L ((i + 1) * L), put (tv t) bits A L ((i + 1) * L), (i : Int), r, (bits, (L : Int), A, T), p) := by
 have hbi := bit_in hb hi
 have hvo := bitV_or (A := A) hbi
 have hiL : i * L ≤ 100 * 4 := Nat.mul_le_mul (by omega) hL.2
 have h1 := loop_for (step := step3_2) (st := fun k => (put (fun v => (v, 0)) bits A L (i * L + k), put (tv t) bits A L (i * L + k), (i : Int), (k : Int), r, (bits, (L : Int), A, T), p)) (n := L) (e := (put (fun v => (v, 0)) bits A L ((i + 1) * L), put (tv t) bits A L ((i + 1) * L), (i : Int), r, (bits, (L : Int), A, T), p))
  (fun k hk => by
    have hr1 := room_true (b := 16) (n := (put (fun v => (v, (0 : Int))) bits A L (i * L + k)).length + 1) (by rw [put_len]; omega) (by rw [put_len]; omega)
    have hr2 := room_true (b := 16) (n := (put (tv t) bits A L (i * L + k)).length + 1) (by rw [put_len]; omega) (by rw [put_len]; omega)
    have hmod : s8 (T, 4) = some (t : Int) := by rw [s8_eq (n := T) (m := 4) (by omega) (by omega), hT]
    simp only [step3_2, lt_cast, inB_cast, decide_eq_true hk, decide_eq_true hi, cond_true, hr1, hr2, hmod, optE_some, Int.toNat_natCast, bitV_wr hA hbi, turned_eq ht (show -2000 ≤ bitV A (bits.getD i 0) ∧ bitV A (bits.getD i 0) ≤ 2000 by omega), wr_succ (show k < 4611686018427387904 by omega), put_succ (fun v => (v, (0 : Int))) hk, put_succ (tv t) hk])
  (by simp only [step3_2, lt_cast, Nat.lt_irrefl, decide_false, cond_false, Nat.add_mul, Nat.one_mul]) 0 (by omega)
 exact h1
theorem samples_outer (hb : ∀ v ∈ bits, v = 0 ∨ v = 1) (hA : 1 ≤ A ∧ A ≤ 2000) (hL : 1 ≤ L ∧ L ≤ 4) (ht : t < 4) (hT : T % 4 = (t : Int)) (hn : bits.length ≤ 100) (p : Int × Int × Int) :
 loopVal step3_0 ([], [], 0, r, (bits, (L : Int), A, T), p) = some ((stretch L (bits.map (bitV A))).map (fun v => (v, 0)), (stretch L (bits.map (bitV A))).map (tv t), r, (bits, (L : Int), A, T), p) := by
 have h1 := loop_for (step := step3_0) (st := fun i => (put (fun v => (v, 0)) bits A L (i * L), put (tv t) bits A L (i * L), (i : Int), r, (bits, (L : Int), A, T), p)) (n := bits.length) (e := ((stretch L (bits.map (bitV A))).map (fun v => (v, 0)), (stretch L (bits.map (bitV A))).map (tv t), r, (bits, (L : Int), A, T), p))
  (fun i hi => by
    simp only [step3_0, lt_cast, decide_eq_true hi, cond_true, samples_inner (r := r) hb hA hL ht hT hn hi p, optE_some, wr_succ (show i < 4611686018427387904 by omega)])
  (by simp only [step3_0, lt_cast, Nat.lt_irrefl, decide_false, cond_false, put_all _]) 0 (by omega)
 have e1 : ∀ f : Int → Int × Int, put f bits A L (0 * L) = [] := fun f => by rw [Nat.zero_mul]; rfl
 rw [e1, e1] at h1
 exact h1
theorem soft_loop (hb : ∀ v ∈ bits, v = 0 ∨ v = 1) (hA : 1 ≤ A ∧ A ≤ 2000) (hL : 1 ≤ L ∧ L ≤ 4) (hn : bits.length ≤ 100) :
 loopVal step3_4 ((List.range bits.length).map (fun k => (((L : Int) * (bits.map (bitV A)).getD k 0), (0 : Int))), [], 0, r, (bits, (L : Int), A, T)) = some (.inr (bits.map (bitV 7), r, (bits, (L : Int), A, T))) := by
 obtain ⟨la0, la1, la2⟩ := LA_le hA hL
 have h1 := loop_for (step := step3_4) (st := fun k => ((List.range bits.length).map (fun k => (((L : Int) * (bits.map (bitV A)).getD k 0), (0 : Int))), (bits.take k).map (bitV 7), (k : Int), r, (bits, (L : Int), A, T))) (n := bits.length) (e := .inr (bits.map (bitV 7), r, (bits, (L : Int), A, T)))
  (fun k hk => by
    have hbk := bit_in hb hk
    have hz : ((List.range bits.length).map (fun k => (((L : Int) * (bits.map (bitV A)).getD k 0), (0 : Int)))).getD k (0, 0) = ((L : Int) * A * (1 - 2 * bits.getD k 0), 0) := by
     rw [List.getD_eq_getElem?_getD, List.getElem?_map, List.getElem?_range hk]
     show ((L : Int) * (bits.map (bitV A)).getD k 0, (0 : Int)) = _
     have : (bits.map (bitV A)).getD k 0 = bitV A (bits.getD k 0) := by
      rw [List.getD_eq_getElem?_getD, List.getD_eq_getElem?_getD, List.getElem?_map, List.getElem?_eq_getElem hk]; rfl
     rw [this]
     unfold bitV
     rw [Int.mul_assoc]
    have hF : 1 ≤ (L : Int) * A ∧ (L : Int) * A ≤ 8000 := by omega
    have e1 : wr ((L : Int) * A) = (L : Int) * A := wr_id (by omega) (by omega)
    have hzE : zE ((L : Int) * A * (1 - 2 * bits.getD k 0), 0) ((L : Int) * A) = 0 := by
     unfold zE
     have h1 : win ((L : Int) * A * (1 - 2 * bits.getD k 0)) (-1000000000000000) 1000000000000000 = true := win_iff.2 (by
      rcases hbk with h | h <;> rw [h]
      ·rw [show (1 : Int) - 2 * 0 = 1 from rfl, Int.mul_one]; omega
      ·rw [show (1 : Int) - 2 * 1 = -1 from rfl, Int.mul_neg, Int.mul_one]; omega)
     have h2 : win (0 : Int) (-1000000000000000) 1000000000000000 = true := by decide
     have h3 : win ((L : Int) * A) 1 100000 = true := win_iff.2 (by omega)
     simp only [h1, h2, h3, Bool.and_self, cond_true]
    have hroom := room_true (b := 8) (n := ((bits.take k).map (bitV 7)).length + 1) (by simp; omega) (by simp; omega)
    simp only [step3_4, List.length_map, List.length_range, lt_cast, inB_cast, decide_eq_true hk, cond_true, Int.toNat_natCast, hz, e1, s16_eq, hzE, if_pos, sv_zero, sv_bit hF hbk, optE_some, bne_self_eq_false, cond_false, wr_succ (show k < 4611686018427387904 by omega)]
    rw [List.length_map] at hroom
    rw [hroom, cond_true, ← take_map_succ (bitV 7) bits 0 hk]
    rfl)
  (by simp only [step3_4, List.length_map, List.length_range, lt_cast, Nat.lt_irrefl, decide_false, cond_false, List.take_length]) 0 (by omega)
 exact h1
theorem want_eq (hb : ∀ v ∈ bits, v = 0 ∨ v = 1) (hn : bits.length ≤ 100) : s17 bits = some (bits.map (bitV 7)) := by
 unfold s17
 have h1 := loop_for (step := step17_0) (st := fun k => (bits, (bits.take k).map (bitV 7), (k : Int))) (n := bits.length) (e := bits.map (bitV 7))
  (fun k hk => by
    have hbk := bit_in hb hk
    have hroom := room_true (b := 8) (n := ((bits.take k).map (bitV 7)).length + 1) (by simp; omega) (by simp; omega)
    simp only [step17_0, lt_cast, inB_cast, decide_eq_true hk, cond_true, Int.toNat_natCast, wantB_wr hbk, hroom, wr_succ (show k < 4611686018427387904 by omega), take_map_succ (bitV 7) bits 0 hk])
  (by simp only [step17_0, lt_cast, Nat.lt_irrefl, decide_false, cond_false, List.take_length]) 0 (by omega)
 have h1 : loopVal step17_0 (bits, [], 0) = some (bits.map (bitV 7)) := h1
 simp only [h1, optE_some]
theorem want_E (hb : ∀ v ∈ bits, v = 0 ∨ v = 1) (hn : bits.length ≤ 100) : hE (bits.map (bitV 7)) = 0 := by
 unfold hE
 rw [List.length_map, if_neg (by omega)]
 have : (bits.map (bitV 7)).all okH = true := List.all_eq_true.2 fun x hx => by
  obtain ⟨b, h1, rfl⟩ := List.mem_map.1 hx
  have := bitV_or (A := 7) (hb b h1)
  exact win_iff.2 (by omega)
 rw [this]
 rfl
end
theorem gausses_same (s : Gs) (h : s.length ≤ 1000000) : s12 (s, s) = some true := gausses_self s h
theorem frames_self (s : List Frame) (h : s.length ≤ 1000000) (hs : ∀ f ∈ s, f.2.2.2.length ≤ 1000000) : s25 (s, s) = some true := by
 unfold s25
 have h1 := loop_for (step := step25_0) (st := fun k => (s, s, (k : Int))) (n := s.length) (e := .inr ()) (fun k hk => by
  have hm : s.getD k (0, false, 0, []) ∈ s := by rw [List.getD_eq_getElem?_getD, List.getElem?_eq_getElem hk]; exact List.getElem_mem hk
  simp only [step25_0, lt_cast, inB_cast, hk, decide_true, cond_true, Int.toNat_natCast, bne_self_eq_false, cond_false, beq_self_eq_true, Bool.not_true, ints_self _ (hs _ hm), optE_some, wr_succ (show k < 4611686018427387904 by omega)]) (by simp only [step25_0, lt_cast, Nat.lt_irrefl, decide_false, cond_false]) 0 (by omega)
 rw [show ((0 : Nat) : Int) = 0 from rfl] at h1
 simp only [bne_self_eq_false, cond_false, h1, optE_some, sumE_r]
theorem frN_small (n : Nat) {l : List Int} (hl : l.length ≤ 1000) (ms : List Mark) (k : Nat) : ∀ f ∈ frN n l ms k, f.2.2.2.length ≤ 1000000 := by
 intro f hf
 obtain ⟨i, _, hi⟩ := List.mem_filterMap.1 hf
 unfold frm at hi
 split at hi
 ·cases hi
 split at hi
 ·cases hi
 split at hi
 ·cases hi
 obtain rfl := Option.some.inj hi
 unfold between
 cases (ms.getD (i - 1) mk1).2.2.1
 ·simp only [cond_false, List.length_drop, List.length_take]; omega
 ·simp only [cond_true, negL_len, List.length_drop, List.length_take]; omega
theorem through_true (r : Rule) (x : List Int × Int × Int × Int) : s3 (r, x) = some true := by
 obtain ⟨bits, L0, A, T⟩ := x
 unfold s3
 simp only [Bool.not_true, cond_false]
 by_cases h32 : r.1.length > 32
 ·rw [decide_eq_true (show (r.1.length : Int) > 32 by omega)]; rfl
 rw [decide_eq_false (show ¬ (r.1.length : Int) > 32 by omega), cond_false, s5_eq r (by omega), optE_some]
 by_cases hr : rE r = 0
 case neg => rw [bne_iff_ne.2 hr]; rfl
 have hf := fit_of hr
 rw [hr, bne_self_eq_false, cond_false]
 by_cases h0 : bits.length = 0
 ·rw [beq_iff_eq.2 (show (bits.length : Int) = 0 by omega)]; rfl
 rw [beq_eq_false_iff_ne.2 (show (bits.length : Int) ≠ 0 by omega), cond_false]
 by_cases hn : bits.length > 100
 ·rw [decide_eq_true (show (bits.length : Int) > 100 by omega)]; rfl
 rw [decide_eq_false (show ¬ (bits.length : Int) > 100 by omega), cond_false]
 rcases bits_or bits (by omega) with hb | ⟨hb0, hb⟩
 ·rw [hb]; rfl
 simp only [hb0, optE_some, Bool.not_true, cond_false, s7_eq]
 cases hLw : win L0 1 4 with
 | false => rfl
 | true =>
 cases hAw : win A 1 2000 with
 | false => rfl
 | true =>
 have hL0 := win_iff.1 hLw
 have hA := win_iff.1 hAw
 obtain ⟨L, rfl⟩ := Int.eq_ofNat_of_zero_le (show 0 ≤ L0 by omega)
 have hL : 1 ≤ L ∧ L ≤ 4 := by omega
 have hT0 : 0 ≤ T % 4 := Int.emod_nonneg _ (by omega)
 have hT4 : T % 4 < 4 := Int.emod_lt_of_pos _ (by omega)
 obtain ⟨t, hT⟩ := Int.eq_ofNat_of_zero_le hT0
 have ht : t < 4 := by omega
 have hmod : s8 (T, 4) = some (t : Int) := by rw [s8_eq (n := T) (m := 4) (by omega) (by omega), hT]
 have e1024 : wr (1024 * (t : Int)) = 1024 * (t : Int) := wr_id (by omega) (by omega)
 have hvs : ∀ v ∈ bits.map (bitV A), v = A ∨ v = -A := fun v h => by
  obtain ⟨b, h1, rfl⟩ := List.mem_map.1 h
  exact bitV_or (hb b h1)
 have hN : bits.length * L ≤ 400 := Nat.mul_le_mul (show bits.length ≤ 100 by omega) hL.2
 have hsl : (stretch L (bits.map (bitV A))).length = bits.length * L := by rw [stretch_len, List.length_map]
 have hst := stretch_all (L := L) (p := fun v => v = A ∨ v = -A) hvs
 have hst2 : ∀ v ∈ stretch L (bits.map (bitV A)), -2000 ≤ v ∧ v ≤ 2000 := fun v h => by rcases hst v h with rfl | rfl <;> omega
 have hmix := mixed_z ht (stretch L (bits.map (bitV A))) hst2 (by omega)
 have hokT : ∀ u, u < 4 → ∀ z ∈ (stretch L (bits.map (bitV A))).map (tv u), okS z = true := by
  intro u _ z hz
  obtain ⟨v, hv1, rfl⟩ := List.mem_map.1 hz
  have := hst2 v hv1
  unfold tv okS
  simp only [Bool.and_eq_true, win_iff]
  repeat' split
  all_goals constructor <;> constructor <;> simp only [] <;> omega
 have hsE : ∀ u, u < 4 → sE ((stretch L (bits.map (bitV A))).map (tv u)) = 0 := by
  intro u hu
  unfold sE
  rw [List.length_map, if_neg (by omega), List.all_eq_true.2 (hokT u hu)]
  rfl
 have heE : ∀ u, u < 4 → eE ((stretch L (bits.map (bitV A))).map (tv u)) (L : Int) = 0 := by
  intro u hu
  unfold eE
  rw [hsE u hu, win_iff.2 (show 1 ≤ (L : Int) ∧ (L : Int) ≤ 16 by omega)]
  rfl
 have hown : (stretch L (bits.map (bitV A))).map (fun v => (v, (0 : Int))) = (stretch L (bits.map (bitV A))).map (tv 0) := rfl
 have hlen2 : ∀ u, ((stretch L (bits.map (bitV A))).map (tv u)).length ≤ 400 := fun u => by rw [List.length_map]; omega
 have hbq : s13 ((stretch L (bits.map (bitV A))).map (tv t)) = some (((t % 2 : Nat) : Int), 0) := by
  rw [s13_eq _ (by have := hlen2 t; omega), if_pos (hsE t ht), quarter_eq ht hA hL.1 hvs (by rw [List.length_map]; omega)]
 have hbo : s14 ((stretch L (bits.map (bitV A))).map (tv t), (L : Int)) = some (0, 0) := by
  have hlenV : (enV ((stretch L (bits.map (bitV A))).map (tv t)) L).length = L := by simp [enV]
  have hz := best_zero ht hA hL hvs (by rw [List.length_map]; omega)
  have hib := index_best _ (show 1 ≤ (enV ((stretch L (bits.map (bitV A))).map (tv t)) L).length by omega) (by omega)
  rw [hz] at hib
  unfold s14
  simp only [s34_eq (show 1 ≤ L ∧ L ≤ 16 by omega) (heE t ht), optE_some, bne_self_eq_false, cond_false, max_best _ (show 1 ≤ (enV ((stretch L (bits.map (bitV A))).map (tv t)) L).length by omega) (by omega), hz, hib]
  rfl
 have hsum : s15 ((stretch L (bits.map (bitV A))).map (tv 0), (L : Int), 0) = some ((List.range bits.length).map (fun k => (((L : Int) * (bits.map (bitV A)).getD k 0), (0 : Int))), 0) := by
  have g1 := s41_eq (l := (stretch L (bits.map (bitV A))).map (tv 0)) (L := L) (p := 0) (by omega) (by omega) (hokT 0 (by omega)) (hlen2 0)
  rw [sums_own hL.1, List.length_map] at g1
  have g1 : s41 ((stretch L (bits.map (bitV A))).map (tv 0), (L : Int), 0) = _ := g1
  have hw : win (0 : Int) 0 (wr ((L : Int) - 1)) = true := win_iff.2 (by rw [wr_id (by omega) (by omega)]; omega)
  unfold s15
  simp only [s38_eq _ (L : Int) (show ((stretch L (bits.map (bitV A))).map (tv 0)).length ≤ 1000000 by have := hlen2 0; omega), s40_eq, s39_eq, optE_some, heE 0 (by omega), hw]
  rw [s37_eq _ (by simp)]
  simp only [optE_some, show firstE [0, unl true 2] = 0 from rfl, bne_self_eq_false, cond_false, g1]
 have hmod2 : s8 (T, 2) = some ((t % 2 : Nat) : Int) := by
  rw [s8_eq (n := T) (m := 2) (by omega) (by omega)]
  congr 1
  have : T % 4 = (t : Int) := hT
  omega
 have hbE : bE r (bits.map (bitV 7)) = 0 := firstE_zero.2 fun e he => by
  simp only [List.mem_cons, List.mem_nil_iff, or_false] at he
  rcases he with rfl | rfl
  ·exact hr
  ·exact want_E hb (by omega)
 have hwl : (bits.map (bitV 7)).length ≤ 1000 := by rw [List.length_map]; omega
 have hg := marksV_good hf hwl
 have hfrl := frN_len r.1.length (bits.map (bitV 7)) (marksV r (bits.map (bitV 7))) (marksV r (bits.map (bitV 7))).length
 simp only [hmod, optE_some, Bool.not_true, cond_false, e1024, samples_outer (r := r) hb hA hL ht hT (show bits.length ≤ 100 by omega) (1024 * (t : Int), 0, 0), copyG_eq _ (show ((stretch L (bits.map (bitV A))).map (tv t)).length ≤ 1000000 by have := hlen2 t; omega)]
 have hmix' : s10 ((1024 * (t : Int), 0, 0), (stretch L (bits.map (bitV A))).map (tv t)) = some ((stretch L (bits.map (bitV A))).map fun v => (v, 0), 0) := hmix
 simp only [hmix', optE_some, bne_self_eq_false, cond_false, gausses_same _ (show ((stretch L (bits.map (bitV A))).map fun v => (v, (0 : Int))).length ≤ 1000000 by rw [List.length_map]; omega), Bool.not_true, hbq, hbo, copyG_eq _ (show ((stretch L (bits.map (bitV A))).map fun v => (v, (0 : Int))).length ≤ 1000000 by rw [List.length_map]; omega)]
 have hsum' : s15 ((stretch L (bits.map (bitV A))).map (fun v => (v, (0 : Int))), (L : Int), 0) = _ := hsum
 simp only [hsum', optE_some, hmod2, bne_self_eq_false, cond_false, List.length_map, List.length_range, soft_loop (r := r) hb hA hL (show bits.length ≤ 100 by omega), sumE_r, want_eq hb (show bits.length ≤ 100 by omega), copyR_eq r (by omega), copy_eq (bits.map (bitV 7)) (by omega), marks_eq hbE, frames_eq hbE, ints_self (bits.map (bitV 7)) (by omega), cond_true, beq_self_eq_true, refMarks_eq hf hwl, refFrames_eq hbE, marks_self (marksV r (bits.map (bitV 7))) (by omega), frames_self (framesV r (bits.map (bitV 7))) (by unfold framesV; omega) (frN_small _ hwl _ _)]
end Go.Proofs.Ythckjfbhdjjnkaa
