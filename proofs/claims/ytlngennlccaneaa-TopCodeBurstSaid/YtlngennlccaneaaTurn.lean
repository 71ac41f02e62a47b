/- Interleaving. -/
import Derived.Test.YtlngennlccaneaaBlk
set_option linter.unusedSimpArgs false
set_option linter.unusedVariables false
set_option maxRecDepth 100000
namespace Go.Proofs.Ytlngennlccaneaa
open Go.Ev
theorem s8_ok {l : List Int} (h : l.length < 9000) : s8 l = some l := by
 simp only [s8, room_ok (by omega : 0 + l.length < 10000) (by omega : 8 ≤ 1000), cond_true]
def turnF (l : List Int) (n cols : Nat) (i : Nat) : Int := l.getD ((i % n) * cols + i / n) 0
def turnL (l : List Int) (n cols : Nat) : List Int := (List.range (cols * n)).map (turnF l n cols)
theorem turnL_len (l : List Int) (n cols : Nat) : (turnL l n cols).length = cols * n := by simp [turnL]
theorem turnL_get (l : List Int) {n cols i : Nat} (h : i < cols * n) : (turnL l n cols).getD i 0 = turnF l n cols i := getD_range _ _ h
section
variable {l : List Int} {n cols : Nat} (hl : l.length = n * cols) (h0 : 0 < n) (hn : n ≤ 60) (hc : cols ≤ 60)
include hl h0 hn hc
omit h0 in
theorem turn_len : l.length ≤ 3600 := by
 have : n * cols ≤ 60 * 60 := Nat.mul_le_mul hn hc
 omega
omit hn in
theorem turn_div : wr (Int.tdiv (l.length : Int) (n : Int)) = (cols : Int) := by
 have e : Int.tdiv (l.length : Int) (n : Int) = ((l.length / n : Nat) : Int) := rfl
 rw [e, hl, Nat.mul_div_cancel_left _ h0, wr_nat (by omega)]
theorem turn_in {c : Nat} (hcc : c < cols) : loopVal step27_2 (l, (n : Int), (List.range (c * n)).map (turnF l n cols), (c : Int), (n : Int), 0) = some (l, (n : Int), (List.range ((c + 1) * n)).map (turnF l n cols), (c : Int)) := by
 have hlen := turn_len hl hn hc
 have hb : ∀ a, a < n → a * cols + c < n * cols := fun a ha => by
  have : (a + 1) * cols ≤ n * cols := Nat.mul_le_mul_right _ ha
  rw [Nat.add_mul, Nat.one_mul] at this
  omega
 have hb2 : ∀ a, a ≤ n → c * n + a ≤ 3600 := fun a ha => by
  have : (c + 1) * n ≤ 60 * 60 := Nat.mul_le_mul (by omega) hn
  rw [Nat.add_mul, Nat.one_mul] at this
  omega
 refine of_loop (step := step27_2) (n := n) (I := fun r y => y = (l, (n : Int), (List.range (c * n + r)).map (turnF l n cols), (c : Int), (n : Int), (r : Int))) (fun r y hr hy => ?_) (fun y hy => ?_) rfl
 ·subst hy
  refine ⟨_, ?_, rfl⟩
  have hbr := hb r hr
  have hb2r := hb2 r (by omega)
  have e1 : wr ((r : Int) * (cols : Int)) = ((r * cols : Nat) : Int) := by rw [← Int.natCast_mul, wr_nat (by omega)]
  have e2 : wr (((r * cols : Nat) : Int) + (c : Int)) = ((r * cols + c : Nat) : Int) := by rw [← Int.natCast_add, wr_nat (by omega)]
  have e3 : (List.range (c * n + (r + 1))).map (turnF l n cols) = (List.range (c * n + r)).map (turnF l n cols) ++ [l.getD (r * cols + c) 0] := by
   have : l.getD (r * cols + c) 0 = turnF l n cols (c * n + r) := by
    unfold turnF
    rw [Nat.add_comm (c * n) r, Nat.add_mul_mod_self_right, Nat.mod_eq_of_lt hr, Nat.add_mul_div_right _ _ h0, Nat.div_eq_of_lt hr, Nat.zero_add]
   rw [this, range_map_succ]; rfl
  rw [e3]
  simp only [step27_2, decide_eq_true (by omega : (r : Int) < (n : Int)), beq_eq_false_iff_ne.2 (by omega : (n : Int) ≠ 0), Bool.not_false, turn_div hl h0 hc, e1, e2, inB (by omega : r * cols + c < l.length), Int.toNat_natCast, List.length_map, List.length_range, room_ok (by omega : c * n + r + 1 < 10000) (by omega : 8 ≤ 1000), cond_true, wrS (by omega : r < 1000000)]
 ·subst hy
  refine ⟨_, ?_, rfl⟩
  rw [Nat.add_mul, Nat.one_mul]
  simp only [step27_2, decide_eq_false (Int.lt_irrefl _), cond_false]
theorem turn_law : s27 (l, (n : Int)) = some (turnL l n cols) := by
 have key : loopVal step27_0 (l, (n : Int), [], 0) = some (turnL l n cols) := by
  refine of_loop (step := step27_0) (n := cols) (I := fun c y => y = (l, (n : Int), (List.range (c * n)).map (turnF l n cols), (c : Int))) (fun c y hcc hy => ?_) (fun y hy => ?_) (by rw [Nat.zero_mul]; rfl)
  ·subst hy
   refine ⟨_, ?_, rfl⟩
   simp only [step27_0, decide_eq_true (by omega : (n : Int) > 0), beq_eq_false_iff_ne.2 (by omega : (n : Int) ≠ 0), Bool.not_false, turn_div hl h0 hc, decide_eq_true (by omega : (c : Int) < (cols : Int)), turn_in hl h0 hn hc hcc, cond_true, optE, wrS (by omega : c < 1000000)]
  ·subst hy
   refine ⟨_, ?_, rfl⟩
   simp only [step27_0, decide_eq_true (by omega : (n : Int) > 0), beq_eq_false_iff_ne.2 (by omega : (n : Int) ≠ 0), Bool.not_false, turn_div hl h0 hc, decide_eq_false (Int.lt_irrefl _), cond_true, cond_false]
   rfl
 show optE (loopVal step27_0 (l, (n : Int), [], 0)) _ _ = _
 rw [key]; rfl
omit hc in
theorem listErr_ok (h400 : l.length ≤ 400) : s26 (l, (n : Int)) = some 0 := by
 have e : Int.tmod (l.length : Int) (n : Int) = 0 := by
  have e : Int.tmod (l.length : Int) (n : Int) = ((l.length % n : Nat) : Int) := rfl
  rw [e, hl, Nat.mul_mod_right]; rfl
 simp only [s26, s29, s30, decide_eq_true (by omega : (l.length : Int) ≤ 400), decide_eq_true (by omega : (1 : Int) ≤ (n : Int)), decide_eq_true (by omega : (n : Int) ≤ 400), cond_true, optE, s22_2, bne_self_eq_false, cond_false, beq_eq_false_iff_ne.2 (by omega : (n : Int) ≠ 0), Bool.not_false, e, beq_self_eq_true]
theorem inter_law (h400 : l.length ≤ 400) : s10 (l, (n : Int)) = some (turnL l n cols, 0) := by
 simp only [s10, listErr_ok hl h0 hn h400, optE, bne_self_eq_false, cond_false, turn_law hl h0 hn hc]
theorem deinter_law (hc0 : 0 < cols) (h400 : l.length ≤ 400) : s12 (l, (n : Int)) = some (turnL l cols n, 0) := by
 have hl2 : l.length = cols * n := by rw [hl, Nat.mul_comm]
 simp only [s12, listErr_ok hl h0 hn h400, optE, bne_self_eq_false, cond_false, beq_eq_false_iff_ne.2 (by omega : (n : Int) ≠ 0), Bool.not_false, cond_true, turn_div hl h0 hc, turn_law hl2 hc0 hc hn]
end
end Go.Proofs.Ytlngennlccaneaa
