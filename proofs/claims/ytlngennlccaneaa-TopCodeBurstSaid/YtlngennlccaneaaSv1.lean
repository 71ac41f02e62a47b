/- Printed by solve.py: what 'solved' computes (where elements are filled in). -/
import Derived.Test.YtlngennlccaneaaRws
set_option linter.unusedSimpArgs false
set_option linter.unusedVariables false
set_option maxRecDepth 100000
namespace Go.Proofs.Ytlngennlccaneaa
open Go.Ev
section
variable {pool : List (List Int)} {rows : List Nat} {R W : Nat} {M : Mx}
theorem S49 (h : Rep pool rows R W M) {k : Nat} (hk : k < W) (hkR : k ≤ R) (hR : R < 1000) (u t t' : Int) (er : List Int) (w : List Int) (z : W15) :
 ∃ e, loopVal step49_0 (pool, (k, R - k), ((R - k : Nat) : Int), 0, rows, u, t, t', er, (k : Int), w, z) = some e ∧
  ((e = .inr (pool, rows, u, t, t', er, (k : Int), w, z) ∧ NoPiv k R M) ∨ ∃ q, k ≤ q ∧ q < R ∧ M q k ≠ 0 ∧ e = .inl (pool, ((q - k : Nat) : Int), rows, u, t, t', er, (k : Int), w, z)) := by
 refine loop_inv (n := R - k) (I := fun n x => x = (pool, (k, R - k), ((R - k : Nat) : Int), (n : Int), rows, u, t, t', er, (k : Int), w, z) ∧ ∀ j, k ≤ j → j < k + n → M j k = 0) (fun n x hn hx => ?_) (fun x hx => ?_) (R - k) 0 (by omega) _ ⟨rfl, fun j h1 h2 => by omega⟩
 ·obtain ⟨rfl, hz⟩ := hx
  have hg := h.get (j := k + n) (i := k) (by omega) hk
  have hl := h.rlen (j := k + n) (by omega)
  by_cases h0 : M (k + n) k = 0
  ·left
   refine ⟨(pool, (k, R - k), ((R - k : Nat) : Int), ((n + 1 : Nat) : Int), rows, u, t, t', er, (k : Int), w, z), ?_, rfl, fun j h1 h2 => ?_⟩
   ·simp only [step49_0, decide_eq_true (by omega : (n : Int) < ((R - k : Nat) : Int)), inB (by omega : n < R - k), Int.toNat_natCast, hl, inB hk, hg, vI_bne0, cond_true, decide_eq_false (fun e : M (k + n) k ≠ 0 => e h0), cond_false, wrS (by omega : n < 1000000)]
   ·by_cases e : j = k + n
    ·rw [e]; exact h0
    ·exact hz j h1 (by omega)
  ·right
   refine ⟨.inl (pool, (n : Int), rows, u, t, t', er, (k : Int), w, z), ?_, .inr ⟨k + n, by omega, by omega, h0, by rw [Nat.add_sub_cancel_left]⟩⟩
   simp only [step49_0, decide_eq_true (by omega : (n : Int) < ((R - k : Nat) : Int)), inB (by omega : n < R - k), Int.toNat_natCast, hl, inB hk, hg, vI_bne0, cond_true, decide_eq_true h0]
 ·obtain ⟨rfl, hz⟩ := hx
  refine ⟨.inr (pool, rows, u, t, t', er, (k : Int), w, z), ?_, .inl ⟨rfl, fun j h1 h2 => hz j h1 (by omega)⟩⟩
  simp only [step49_0, decide_eq_false (Int.lt_irrefl _), cond_false]
theorem S41_2 (h : Rep pool rows R W M) {k : Nat} (hk : k < R) (hW : W < 1000) (c : G) (u t t' : Int) (er : List Int) (w : List Int) (z : W15) :
 ∃ e, loopVal step41_2 (pool, rows, u, vI c, t, t', (W : Int), 0, er, (k : Int), w, z) = some e ∧ ∃ p, e = (p, rows, u, t, t', er, (k : Int), w, z) ∧ Rep p rows R W fun j i => if j = k then gm (M k i) c else M j i := by
 refine loop_inv (n := W) (I := fun n x => ∃ p, x = (p, rows, u, vI c, t, t', (W : Int), (n : Int), er, (k : Int), w, z) ∧ Rep p rows R W fun j i => if j = k ∧ i < n then gm (M k i) c else M j i) (fun n x hn hx => .inl ?_) (fun x hx => ?_) W 0 (by omega) _ ⟨pool, rfl, h.congr fun j _ i _ => by rw [if_neg (by omega)]⟩
 ·obtain ⟨p, rfl, hp⟩ := hx
  have hg := hp.get hk hn
  have hl := hp.rlen hk
  rw [if_neg (by omega)] at hg
  refine ⟨(p.set (rows.getD k 0) ((Ev.rowAt p (rows.getD k 0)).set n (vI (gm (M k n) c))), rows, u, vI c, t, t', (W : Int), ((n + 1 : Nat) : Int), er, (k : Int), w, z), ?_, _, rfl, (hp.put hk (i := n) (gm (M k n) c)).congr fun j _ i _ => ?_⟩
  ·simp only [step41_2, decide_eq_true (by omega : (n : Int) < (W : Int)), hp.len, inB hk, Int.toNat_natCast, hl, inB hn, hg, prod_vI, optE, cond_true, wrS (by omega : n < 1000000)]
  ·by_cases e : j = k
   ·subst e
    by_cases e2 : i = n
    ·subst e2; rw [if_pos ⟨rfl, rfl⟩, if_pos ⟨rfl, by omega⟩]
    ·rw [if_neg (fun e => e2 e.2)]
     by_cases e3 : i < n
     ·rw [if_pos ⟨rfl, e3⟩, if_pos ⟨rfl, by omega⟩]
     ·rw [if_neg (fun e => e3 e.2), if_neg (fun e => by omega)]
   ·rw [if_neg (fun e' => e e'.1), if_neg (fun e' => e e'.1), if_neg (fun e' => e e'.1)]
 ·obtain ⟨p, rfl, hp⟩ := hx
  refine ⟨(p, rows, u, t, t', er, (k : Int), w, z), ?_, p, rfl, hp.congr fun j _ i hi => ?_⟩
  ·simp only [step41_2, decide_eq_false (Int.lt_irrefl _), cond_false]
  ·by_cases e : j = k
   ·rw [if_pos ⟨e, hi⟩, if_pos e]
   ·rw [if_neg (fun e' => e e'.1), if_neg e]
theorem S41_6 (h : Rep pool rows R W M) {k j : Nat} (hk : k < R) (hj : j < R) (hjk : j ≠ k) (hW : W < 1000) (c : G) (u t t' t82 t83 : Int) (er : List Int) (w : List Int) (z : W15) :
 ∃ e, loopVal step41_6 (pool, rows, u, rows.getD j 0, vI c, t, t', t82, t83, (W : Int), 0, er, (k : Int), w, z) = some e ∧ ∃ p, e = (p, rows, u, t, t', t82, t83, er, (k : Int), w, z) ∧ Rep p rows R W fun j' i => if j' = j then ga (M j i) (gm (M k i) c) else M j' i := by
 refine loop_inv (n := W) (I := fun n x => ∃ p, x = (p, rows, u, rows.getD j 0, vI c, t, t', t82, t83, (W : Int), (n : Int), er, (k : Int), w, z) ∧ Rep p rows R W fun j' i => if j' = j ∧ i < n then ga (M j i) (gm (M k i) c) else M j' i) (fun n x hn hx => .inl ?_) (fun x hx => ?_) W 0 (by omega) _ ⟨pool, rfl, h.congr fun j _ i _ => by rw [if_neg (by omega)]⟩
 ·obtain ⟨p, rfl, hp⟩ := hx
  have hg := hp.get hk hn
  have hl := hp.rlen hk
  have hg2 := hp.get hj hn
  have hl2 := hp.rlen hj
  rw [if_neg (by omega)] at hg
  rw [if_neg (by omega)] at hg2
  refine ⟨(p.set (rows.getD j 0) ((Ev.rowAt p (rows.getD j 0)).set n (vI (ga (M j n) (gm (M k n) c)))), rows, u, rows.getD j 0, vI c, t, t', t82, t83, (W : Int), ((n + 1 : Nat) : Int), er, (k : Int), w, z), ?_, _, rfl, (hp.put hj (i := n) (ga (M j n) (gm (M k n) c))).congr fun j' _ i _ => ?_⟩
  ·simp only [step41_6, decide_eq_true (by omega : (n : Int) < (W : Int)), hp.len, inB hk, Int.toNat_natCast, hl, hl2, inB hn, hg, hg2, prod_vI, xor_vI, optE, cond_true, wrS (by omega : n < 1000000)]
  ·by_cases e : j' = j
   ·subst e
    by_cases e2 : i = n
    ·subst e2; rw [if_pos ⟨rfl, rfl⟩, if_pos ⟨rfl, by omega⟩]
    ·rw [if_neg (fun e => e2 e.2)]
     by_cases e3 : i < n
     ·rw [if_pos ⟨rfl, e3⟩, if_pos ⟨rfl, by omega⟩]
     ·rw [if_neg (fun e => e3 e.2), if_neg (fun e => by omega)]
   ·rw [if_neg (fun e' => e e'.1), if_neg (fun e' => e e'.1), if_neg (fun e' => e e'.1)]
 ·obtain ⟨p, rfl, hp⟩ := hx
  refine ⟨(p, rows, u, t, t', t82, t83, er, (k : Int), w, z), ?_, p, rfl, hp.congr fun j' _ i hi => ?_⟩
  ·simp only [step41_6, decide_eq_false (Int.lt_irrefl _), cond_false]
  ·by_cases e : j' = j
   ·rw [if_pos ⟨e, hi⟩, if_pos e]
   ·rw [if_neg (fun e' => e e'.1), if_neg e]
theorem S41_4 (h : Rep pool rows R W M) {k : Nat} (hk : k < R) (hkW : k < W) (hW : W < 1000) (hR : R < 1000) (u t t' : Int) (er : List Int) (w : List Int) (z : W15) :
 ∃ e, loopVal step41_4 (pool, rows, u, t, t', (R : Int), 0, er, (k : Int), w, z) = some e ∧ ∃ p, e = (p, rows, u, t, t', er, w, z) ∧ Rep p rows R W fun j i => if j = k then M k i else ga (M j i) (gm (M k i) (M j k)) := by
 refine loop_inv (n := R) (I := fun n x => ∃ p, x = (p, rows, u, t, t', (R : Int), (n : Int), er, (k : Int), w, z) ∧ Rep p rows R W fun j i => if j < n ∧ j ≠ k then ga (M j i) (gm (M k i) (M j k)) else M j i) (fun n x hn hx => .inl ?_) (fun x hx => ?_) R 0 (by omega) _ ⟨pool, rfl, h.congr fun j _ i _ => by rw [if_neg (by omega)]⟩
 ·obtain ⟨p, rfl, hp⟩ := hx
  have hg := hp.get hn hkW
  have hl := hp.rlen hn
  rw [if_neg (by omega)] at hg
  by_cases e : n = k
  ·subst e
   refine ⟨(p, rows, u, t, t', (R : Int), ((n + 1 : Nat) : Int), er, (n : Int), w, z), ?_, p, rfl, hp.congr fun j _ i _ => ?_⟩
   ·simp only [step41_4, decide_eq_true (by omega : (n : Int) < (R : Int)), hp.len, inB hn, Int.toNat_natCast, hl, inB hkW, bne_self_eq_false, cond_true, cond_false, wrS (by omega : n < 1000000)]
   ·by_cases e2 : j < n
    ·rw [if_pos ⟨e2, by omega⟩, if_pos ⟨by omega, by omega⟩]
    ·rw [if_neg (by omega), if_neg (by omega)]
  ·have hne : ((n : Int) != (k : Int)) = true := bne_iff_ne.2 (by omega)
   by_cases h0 : M n k = 0
   ·refine ⟨(p, rows, u, t, t', (R : Int), ((n + 1 : Nat) : Int), er, (k : Int), w, z), ?_, p, rfl, hp.congr fun j _ i _ => ?_⟩
    ·simp only [step41_4, decide_eq_true (by omega : (n : Int) < (R : Int)), hp.len, inB hn, Int.toNat_natCast, hl, inB hkW, hne, hg, vI_bne0, decide_eq_false (fun e : M n k ≠ 0 => e h0), cond_true, cond_false, wrS (by omega : n < 1000000)]
    ·by_cases e2 : j = n
     ·subst e2
      rw [if_neg (by omega), if_pos ⟨by omega, e⟩, h0, gm_zero, ga_zero]
     ·by_cases e3 : j < n ∧ j ≠ k
      ·rw [if_pos e3, if_pos ⟨by omega, e3.2⟩]
      ·rw [if_neg e3, if_neg (by omega)]
   ·obtain ⟨e1, h1, p', rfl, hp'⟩ := S41_6 hp hk hn e hW (M n k) u t t' (R : Int) (n : Int) er w z
    refine ⟨(p', rows, u, t, t', (R : Int), ((n + 1 : Nat) : Int), er, (k : Int), w, z), ?_, p', rfl, hp'.congr fun j _ i _ => ?_⟩
    ·simp only [step41_4, decide_eq_true (by omega : (n : Int) < (R : Int)), hp.len, inB hn, Int.toNat_natCast, hl, inB hkW, hne, hg, vI_bne0, decide_eq_true h0, h1, optE, cond_true, wrS (by omega : n < 1000000)]
    ·have hk2 : ¬(k < n ∧ k ≠ k) := fun e => e.2 rfl
     by_cases e2 : j = n
     ·subst e2
      rw [if_pos rfl, if_neg (by omega), if_neg hk2, if_pos ⟨by omega, e⟩]
     ·rw [if_neg e2]
      by_cases e3 : j < n ∧ j ≠ k
      ·rw [if_pos e3, if_pos ⟨by omega, e3.2⟩]
      ·rw [if_neg e3, if_neg (by omega)]
 ·obtain ⟨p, rfl, hp⟩ := hx
  refine ⟨(p, rows, u, t, t', er, w, z), ?_, p, rfl, hp.congr fun j hj i hi => ?_⟩
  ·simp only [step41_4, decide_eq_false (Int.lt_irrefl _), cond_false]
  ·by_cases e : j = k
   ·rw [if_neg (fun e' => e'.2 e), if_pos e, e]
   ·rw [if_pos ⟨hj, e⟩, if_neg e]
theorem S41_step {U k : Nat} (h : Rep pool rows R (U + 1) M) (hU : U < 500) (hR : R < 1000) (hkU : k < U) (hkR : k ≤ R) (h0 : 0 < R) (er : List Int) (w : List Int) (z : W15) :
 (step41_0 (pool, rows, (U : Int), (U : Int), (k : Int), er, w, z) = some (.inr (.inl ([], false, er, w, z))) ∧ NoPiv k R M) ∨
 ∃ p rows' q M', step41_0 (pool, rows, (U : Int), (U : Int), (k : Int), er, w, z) = some (.inl (p, rows', (U : Int), (U : Int), ((k + 1 : Nat) : Int), er, w, z)) ∧ Rep p rows' R (U + 1) M' ∧ StepR k R (U + 1) M M' q := by
 have hmn : mn (k : Int) (R : Int) = (k : Int) := by unfold mn; split <;> omega
 obtain ⟨e, he, hc⟩ := S49 h (k := k) (by omega) hkR hR (U : Int) (U : Int) (k : Int) er w z
 have hg : ((decide (0 < R)) && ((decide (0 ≤ (k : Int))) && ((decide ((k : Int) ≤ (R : Int))) && (decide ((R : Int) ≤ (R : Int)))))) = true := by
  simp only [Bool.and_eq_true, decide_eq_true_eq]; omega
 rcases hc with ⟨rfl, hn⟩ | ⟨q, q1, q2, q3, rfl⟩
 ·left
  refine ⟨?_, hn⟩
  simp only [step41_0, decide_eq_true (by omega : (k : Int) < (U : Int)), h.len, hmn, hg, Int.toNat_natCast, he, optE, sumE, cond_true]
 ·right
  have hk : k < R := by omega
  have hs := h.swap hk q2
  obtain ⟨e2, he2, p2, rfl, hp2⟩ := S41_2 hs (k := k) hk (by omega) (gi (M q k)) (U : Int) (U : Int) (k : Int) er w z
  obtain ⟨e3, he3, p3, rfl, hp3⟩ := S41_4 hp2 (k := k) hk (by omega) (by omega) hR (U : Int) (U : Int) (k : Int) er w z
  have hpiv : (if k = q then M k else if k = k then M q else M k) k = M q k := by
   by_cases e : k = q
   ·rw [if_pos e, e]
   ·rw [if_neg e, if_pos rfl]
  have hgk := hs.get hk (show k < U + 1 by omega)
  rw [hpiv] at hgk
  have hlk := hs.rlen hk
  have hlen' := hs.len
  have hwr : wr ((k : Int) + ((q - k : Nat) : Int)) = (q : Int) := by
   rw [show (k : Int) + ((q - k : Nat) : Int) = (q : Int) by omega, wr_nat (by omega)]
  refine ⟨p3, _, q, _, ?_, hp3, ?_⟩
  ·have hsl : (rows.set k (rows.getD q 0)).length = R := by rw [List.length_set, h.len]
   simp only [step41_0, decide_eq_true (by omega : (k : Int) < (U : Int)), h.len, hmn, hg, Int.toNat_natCast, he, optE, sumE, cond_true, decide_eq_false (by omega : ¬ ((q - k : Nat) : Int) < 0), cond_false, hwr, inB q2, inB hk, hsl, hlen', hlk, inB (by omega : k < U + 1), hgk, inv_vI q3, he2, he3, wrS (by omega : k < 1000000)]
  ·have sk : ∀ i, (if k = q then M k else M q) i = M q i := fun i => by
    by_cases e : k = q
    ·rw [if_pos e, e]
    ·rw [if_neg e]
   refine ⟨q1, q2, q3, fun i _ => ?_, fun i _ hqk => ?_, fun j hj h1 h2 i _ => ?_⟩
   ·simp only [↓reduceIte, sk]
   ·simp only [if_neg hqk, ↓reduceIte, sk]
   ·simp only [if_neg h1, if_neg h2, ↓reduceIte, sk]
theorem S41_0 {U : Nat} (h : Rep pool rows R (U + 1) M) (hU : U < 500) (hR : R < 1000) (h0 : 0 < R) (er : List Int) (w : List Int) (z : W15) :
 ∃ e, loopVal step41_0 (pool, rows, (U : Int), (U : Int), 0, er, w, z) = some e ∧
  ((e = .inl ([], false, er, w, z) ∧ ∃ k N, k < U ∧ Steps R (U + 1) k M N ∧ NoPiv k R N) ∨
   ∃ p rows' N, e = .inr (p, rows', (U : Int), er, w, z) ∧ Rep p rows' R (U + 1) N ∧ Steps R (U + 1) U M N) := by
 refine loop_inv (n := U) (I := fun k x => ∃ p r N, x = (p, r, (U : Int), (U : Int), (k : Int), er, w, z) ∧ Rep p r R (U + 1) N ∧ Steps R (U + 1) k M N) (fun k x hk hx => ?_) (fun x hx => ?_) U 0 (by omega) _ ⟨pool, rows, M, rfl, h, .nil⟩
 ·obtain ⟨p, r, N, rfl, hp, hs⟩ := hx
  have hu := hs.unit (by omega)
  rcases S41_step hp hU hR hk hu.1 h0 er w z with ⟨e1, e2⟩ | ⟨p', r', q, N', e1, e2, e3⟩
  ·right; exact ⟨_, e1, .inl ⟨rfl, k, N, hk, hs, e2⟩⟩
  ·left; exact ⟨_, e1, p', r', N', rfl, e2, .snoc hs e3⟩
 ·obtain ⟨p, r, N, rfl, hp, hs⟩ := hx
  refine ⟨.inr (p, r, (U : Int), er, w, z), ?_, .inr ⟨p, r, N, rfl, hp, hs⟩⟩
  simp only [step41_0, decide_eq_false (Int.lt_irrefl _), cond_false]
theorem S41_8 {U : Nat} (h : Rep pool rows R (U + 1) M) (hUR : U ≤ R) (hR : R < 1000) (er : List Int) (w : List Int) (z : W15) :
 ∃ e, loopVal step41_8 (pool, (U : Int), [], rows, (R : Int), 0, er, w, z) = some e ∧
  ((e = .inl ([], false, er, w, z) ∧ ∃ j, U ≤ j ∧ j < R ∧ M j U ≠ 0) ∨ (e = .inr (rowL U fun i => M i U, er, w, z) ∧ ∀ j, U ≤ j → j < R → M j U = 0)) := by
 refine loop_inv (n := R) (I := fun n x => x = (pool, (U : Int), rowL (min n U) (fun i => M i U), rows, (R : Int), (n : Int), er, w, z) ∧ ∀ j, U ≤ j → j < n → M j U = 0) (fun n x hn hx => ?_) (fun x hx => ?_) R 0 (by omega) _ ⟨by rw [Nat.zero_min]; rfl, fun j h1 h2 => by omega⟩
 ·obtain ⟨rfl, hz⟩ := hx
  have hg := h.get hn (show U < U + 1 by omega)
  have hl := h.rlen hn
  by_cases e : n < U
  ·left
   refine ⟨(pool, (U : Int), rowL (min (n + 1) U) (fun i => M i U), rows, (R : Int), ((n + 1 : Nat) : Int), er, w, z), ?_, rfl, fun j h1 h2 => by omega⟩
   have e1 : rowL (min (n + 1) U) (fun i => M i U) = rowL (min n U) (fun i => M i U) ++ [vI (M n U)] := by
    rw [Nat.min_eq_left (by omega), Nat.min_eq_left (by omega)]
    exact (range_map_succ (fun i => vI (M i U)) n).symm
   rw [e1]
   simp only [step41_8, decide_eq_true (by omega : (n : Int) < (R : Int)), h.len, inB hn, Int.toNat_natCast, hl, decide_eq_true (by omega : (n : Int) < (U : Int)), inB (by omega : U < U + 1), hg, cond_true, rowL_len, room_ok (by omega : min n U + 1 < 10000) (by omega : 8 ≤ 1000), wrS (by omega : n < 1000000)]
  ·by_cases h0 : M n U = 0
   ·left
    refine ⟨(pool, (U : Int), rowL (min (n + 1) U) (fun i => M i U), rows, (R : Int), ((n + 1 : Nat) : Int), er, w, z), ?_, rfl, fun j h1 h2 => ?_⟩
    ·rw [show min (n + 1) U = min n U by omega]
     simp only [step41_8, decide_eq_true (by omega : (n : Int) < (R : Int)), h.len, inB hn, Int.toNat_natCast, hl, decide_eq_false (by omega : ¬ (n : Int) < (U : Int)), inB (by omega : U < U + 1), hg, vI_bne0, decide_eq_false (fun e : M n U ≠ 0 => e h0), cond_true, cond_false, wrS (by omega : n < 1000000)]
    ·by_cases e2 : j = n
     ·rw [e2]; exact h0
     ·exact hz j h1 (by omega)
   ·right
    refine ⟨.inl ([], false, er, w, z), ?_, .inl ⟨rfl, n, by omega, hn, h0⟩⟩
    simp only [step41_8, decide_eq_true (by omega : (n : Int) < (R : Int)), h.len, inB hn, Int.toNat_natCast, hl, decide_eq_false (by omega : ¬ (n : Int) < (U : Int)), inB (by omega : U < U + 1), hg, vI_bne0, decide_eq_true h0, cond_true, cond_false]
 ·obtain ⟨rfl, hz⟩ := hx
  rw [Nat.min_eq_right hUR]
  refine ⟨.inr (rowL U (fun i => M i U), er, w, z), ?_, .inr ⟨rfl, hz⟩⟩
  simp only [step41_8, decide_eq_false (Int.lt_irrefl _), cond_false]
end
end Go.Proofs.Ytlngennlccaneaa
