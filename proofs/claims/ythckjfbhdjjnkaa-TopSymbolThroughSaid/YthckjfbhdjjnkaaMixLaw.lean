/- Samples that are turned by quarter turns, and mixed back. -/
import Derived.Test.YthckjfbhdjjnkaaRefMach
set_option linter.unusedSimpArgs false
namespace Go.Proofs.Ythckjfbhdjjnkaa
open Go.Ev
def tv (t : Nat) (v : Int) : Int × Int := if t = 0 then (v, 0) else if t = 1 then (0, v) else if t = 2 then (-v, 0) else (0, -v)
def PX (t : Nat) : Int × Int × Int := (1024 * (t : Int), 0, 0)
theorem within_z (a b c : Int) : s68 (a, b, c) = some (win a b c) := by
 unfold s68 win; cases h : decide (b ≤ a) <;> simp [h]
theorem unless_z (b : Bool) (e : Int) : s69 (b, e) = some (unl b e) := by unfold s69 unl; cases b <;> rfl
theorem first_z (l : List Int) (hl : l.length ≤ 1000) : s50 l = some (firstE l) := by
 have h := loop_scan (step := step50_0) (st := fun k => (l, (l.length : Int), (k : Int))) (hit := fun k => (fun x => bif x != 0 then some (Sum.inl x : Int ⊕ Unit) else none) (l.getD k 0)) (n := l.length) (e := .inr ())
  (fun k hk => by
    simp only [step50_0, lt_cast, inB_cast, hk, decide_true, cond_true, Int.toNat_natCast, wr_succ (show k < 4611686018427387904 by omega)]
    cases h : l.getD k 0 != 0 <;> simp [h])
  (by simp only [step50_0, lt_cast, Nat.lt_irrefl, decide_false, cond_false]) l.length 0 (by omega)
 rw [scan_list0 (fun x => bif x != 0 then some (Sum.inl x : Int ⊕ Unit) else none) (.inr ()) l 0, scanL_first] at h
 unfold s50
 have h' : loopVal step50_0 (l, (l.length : Int), 0) = _ := h
 simp only [h', optE_some]
 cases hf : firstE l != 0
 ·simp [sumE, cond_false]
  have : firstE l = 0 := by simpa using hf
  exact this.symm
 ·simp [sumE]
theorem prog_z {t : Nat} (ht : t < 4) : s51 (PX t) = some 0 := by
 unfold s51 s67 PX
 have h1 : win (1024 * (t : Int)) 0 4095 = true := win_iff.2 (by omega)
 have h2 : win (0 : Int) (-4096) 4096 = true := by decide
 simp only [within_z, h1, h2, optE_some, cond_true, unless_z]
 rfl
theorem part_z (g : Int × Int) : s71 g = some (!(okS g)) := by
 have e : wr (-2000) = -2000 := by decide
 unfold s71 s72 s84 okS
 simp only [within_z, e, optE_some]
 cases win g.1 (-2000) 2000
 ·rfl
 ·simp only [cond_true, optE_some, Bool.true_and]
theorem samples_z {l : Gs} (hok : ∀ x ∈ l, okS x = true) (hl : l.length ≤ 400) : s52 l = some 0 := by
 unfold s52
 have h1 := loop_for (step := step83_0a) (st := fun k => (l, (l.length : Int), (k : Int))) (n := l.length) (e := Sum.inr ())
  (fun k hk => by
    simp only [step83_0a, lt_cast, inB_cast, hk, decide_true, cond_true, Int.toNat_natCast, part_z, getG_ok hok hk, Bool.not_true, cond_false, optE_some, wr_succ (show k < 4611686018427387904 by omega)]) (by simp only [step83_0a, lt_cast, Nat.lt_irrefl, decide_false, cond_false]) 0 (by omega)
 rw [show ((0 : Nat) : Int) = 0 from rfl] at h1
 simp only [h1, optE_some, sumE_r, unless_z, decide_eq_true (show (l.length : Int) ≤ 400 by omega)]
 rw [first_z _ (by simp)]
 rfl
theorem signal_z {l : Gs} (hok : ∀ x ∈ l, okS x = true) (hl : l.length ≤ 400) : s53 l = some l := by
 unfold s53
 have h1 := loop_for (step := step53_0) (st := fun k => (l.take k, l, (l.length : Int), (k : Int))) (n := l.length) (e := l)
  (fun k hk => by
    obtain ⟨g1, g2⟩ := okS_iff (getG_ok hok hk)
    have hroom := room_true (b := 8) (n := (l.take k).length + 1) (by simp; omega) (by simp; omega)
    simp only [step53_0, lt_cast, inB_cast, hk, decide_true, cond_true, Int.toNat_natCast, small24_of (show -16777216 < (l.getD k (0, 0)).1 by omega) (by omega), small24_of (show -16777216 < (l.getD k (0, 0)).2 by omega) (by omega), hroom, wr_succ (show k < 4611686018427387904 by omega), take_succ_getD l (0, 0) hk]) (by simp only [step53_0, lt_cast, Nat.lt_irrefl, decide_false, cond_false, List.take_length]) 0 (by omega)
 have h1 : loopVal step53_0 ([], l, (l.length : Int), 0) = some l := h1
 simp only [h1, optE_some]
theorem out_z {l : Gs} (hl : l.length ≤ 400) : s55 l = some l := by
 unfold s55
 have h1 := loop_for (step := step55_0) (st := fun k => (l.take k, l, (l.length : Int), (k : Int))) (n := l.length) (e := l)
  (fun k hk => by
    have hroom := room_true (b := 16) (n := (l.take k).length + 1) (by simp; omega) (by simp; omega)
    simp only [step55_0, s74, lt_cast, inB_cast, hk, decide_true, cond_true, Int.toNat_natCast, optE_some, hroom, wr_succ (show k < 4611686018427387904 by omega), take_succ_getD l (0, 0) hk]) (by simp only [step55_0, lt_cast, Nat.lt_irrefl, decide_false, cond_false, List.take_length]) 0 (by omega)
 have h1 : loopVal step55_0 ([], l, (l.length : Int), 0) = some l := h1
 simp only [h1, optE_some]
theorem turns_z {t : Nat} (ht : t < 4) {k : Nat} : s54 (PX t, (k : Int)) = some (t : Int) := by
 unfold s54 s73 s85 PX
 have e0 : wr 0 = 0 := by decide
 have e1 : wr (1024 * (t : Int)) = 1024 * (t : Int) := wr_id (by omega) (by omega)
 have e2 : Int.tmod (1024 * (t : Int)) 4096 = 1024 * (t : Int) := by rw [Int.tmod_eq_emod_of_nonneg (by omega)]; omega
 simp only [Int.mul_zero, Int.add_zero, e0, e1, wr_wr, e2, decide_eq_false (show ¬ 1024 * (t : Int) < 0 by omega), cond_false, optE_some]
 have e3 : wr (1024 * (t : Int) + 512) = 1024 * (t : Int) + 512 := wr_id (by omega) (by omega)
 have e4 : Int.tdiv (1024 * (t : Int) + 512) 1024 = (t : Int) := by rw [Int.tdiv_eq_ediv_of_nonneg (by omega)]; omega
 have e5 : wr (t : Int) = (t : Int) := wr_id (by omega) (by omega)
 have e6 : Int.tmod (t : Int) 4 = (t : Int) := by rw [Int.tmod_eq_emod_of_nonneg (by omega)]; omega
 rw [e3, e4, e5, e6]
theorem back_z {t : Nat} (ht : t < 4) (v : Int) : ∃ c, s32 (t : Int) = some c ∧ (tv t v).1 * c.1 - (tv t v).2 * c.2 = v ∧ (tv t v).1 * c.2 + (tv t v).2 * c.1 = 0 := by
 match t, ht with
 | 0, _ => exact ⟨(1, 0), rfl, by show v * 1 - 0 * 0 = v; omega, by show v * 0 + 0 * 1 = 0; omega⟩
 | 1, _ => exact ⟨(0, -1), rfl, by show 0 * 0 - v * -1 = v; omega, by show 0 * -1 + v * 0 = 0; omega⟩
 | 2, _ => exact ⟨(-1, 0), rfl, by show -v * -1 - 0 * 0 = v; omega, by show -v * 0 + 0 * -1 = 0; omega⟩
 | 3, _ => exact ⟨(0, 1), rfl, by show 0 * 0 - -v * 1 = v; omega, by show 0 * 1 + -v * 0 = 0; omega⟩
theorem mixed_z {t : Nat} (ht : t < 4) (vs : List Int) (hv : ∀ v ∈ vs, -2000 ≤ v ∧ v ≤ 2000) (hl : vs.length ≤ 400) : s10 (PX t, vs.map (tv t)) = some (vs.map fun v => (v, 0), 0) := by
 have hok : ∀ x ∈ vs.map (tv t), okS x = true := by
  intro x hx
  obtain ⟨v, hv1, rfl⟩ := List.mem_map.1 hx
  have := hv v hv1
  unfold tv okS
  simp only [Bool.and_eq_true, win_iff]
  repeat' split
  all_goals constructor <;> constructor <;> simp only [] <;> omega
 have hlen : (vs.map (tv t)).length ≤ 400 := by rw [List.length_map]; exact hl
 unfold s10
 simp only [prog_z ht, samples_z hok hlen, signal_z hok hlen, optE_some]
 rw [first_z _ (by simp)]
 simp only [optE_some, show firstE [0, 0] = 0 from rfl, bne_self_eq_false, cond_false]
 have h1 := loop_for (step := step31_0) (st := fun k => (((vs.take k).map fun v => (v, (0 : Int))) ++ (vs.drop k).map (tv t), ((vs.map (tv t)).length : Int), (k : Int), PX t)) (n := vs.length) (e := vs.map fun v => (v, 0))
  (fun k hk => by
    have hlen2 : (((vs.take k).map fun v => (v, (0 : Int))) ++ (vs.drop k).map (tv t)).length = vs.length := by
     rw [List.length_append, List.length_map, List.length_map, List.length_take, List.length_drop]; omega
    have hd := getD_drop vs 0 hk
    have hget : (((vs.take k).map fun v => (v, (0 : Int))) ++ (vs.drop k).map (tv t)).getD k (0, 0) = tv t (vs.getD k 0) := by
     rw [List.getD_eq_getElem?_getD, List.getElem?_append_right (by simp; omega), List.length_map, List.length_take, Nat.min_eq_left (by omega), Nat.sub_self, hd]
     rfl
    have hset : ∀ y, (((vs.take k).map fun v => (v, (0 : Int))) ++ (vs.drop k).map (tv t)).set k y = ((vs.take k).map fun v => (v, (0 : Int))) ++ y :: (vs.drop (k + 1)).map (tv t) := by
     intro y
     rw [hd, List.set_append_right _ _ (by simp; omega), List.length_map, List.length_take, Nat.min_eq_left (by omega), Nat.sub_self]
     rfl
    obtain ⟨c, b1, b2, b3⟩ := back_z ht (vs.getD k 0)
    have hvk := hv (vs.getD k 0) (by rw [List.getD_eq_getElem?_getD, List.getElem?_eq_getElem hk]; exact List.getElem_mem hk)
    simp only [step31_0, lt_cast, inB_cast, hlen2, List.length_map, decide_eq_true hk, cond_true, turns_z ht, optE_some, b1, Int.toNat_natCast, hget, b2, b3, small24_of (show -16777216 < vs.getD k 0 by omega) (by omega), show small24 0 = true from by decide, Bool.and_self, hset, wr_succ (show k < 4611686018427387904 by omega)]
    rw [← take_map_succ (fun v => (v, (0 : Int))) vs 0 hk, List.append_assoc]
    rfl)
  (by
    simp only [step31_0, List.length_map, lt_cast, Nat.lt_irrefl, decide_false, cond_false, List.take_length, List.drop_length, List.map_nil, List.append_nil]) 0 (by omega)
 have h1 : loopVal step31_0 (vs.map (tv t), ((vs.map (tv t)).length : Int), 0, PX t) = _ := h1
 simp only [h1, optE_some, out_z (l := vs.map fun v => (v, 0)) (by rw [List.length_map]; exact hl)]
end Go.Proofs.Ythckjfbhdjjnkaa
