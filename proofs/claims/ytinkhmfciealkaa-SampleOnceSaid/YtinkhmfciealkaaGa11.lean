/- Printed by gen.py: specifications of functions. -/
import Derived.Test.YtinkhmfciealkaaGa10
import Derived.Test.YtinkhmfciealkaaPure02b
set_option linter.unusedSimpArgs false
set_option maxRecDepth 100000
namespace Go.Proofs.Ytinkhmfciealkaa
open Go.Ev

/-! (cassegrain sample.signal).at -/
@[reducible] def T112_0 : Tmpl := ⟨32, [], [.val 0 (.slice .zc), .val 2 (.int .i64), .val 7 .zc, .val 10 (.slice .zc), .val 11 (.int .i64), .val 12 (.int .i64)]⟩
@[reducible] def X112_0 : List (Ex × Tmpl) := [(.exit 0, ⟨32, [], [.val 7 .zc]⟩)]
/-- data: s, n, sum, t10, t11, t12; ends: exit 0: sum -/
noncomputable def step112_0 : (List (Int × Int)) × Int × (Int × Int) × (List (Int × Int)) × Int × Int → Option (((List (Int × Int)) × Int × (Int × Int) × (List (Int × Int)) × Int × Int) ⊕ (Int × Int)) := fun (s, n, sum, t10, t11, t12) =>
  bif decide (t12 < t11) then
    bif inBounds t12 t10.length then
      bif decide (n ≥ t12) then
        bif inBounds (wr (n - t12)) s.length then
          bif (small24 (((t10.getD t12.toNat (0, 0)).1 * (s.getD (wr (n - t12)).toNat (0, 0)).1) - ((t10.getD t12.toNat (0, 0)).2 * (s.getD (wr (n - t12)).toNat (0, 0)).2))) && (small24 (((t10.getD t12.toNat (0, 0)).1 * (s.getD (wr (n - t12)).toNat (0, 0)).2) + ((t10.getD t12.toNat (0, 0)).2 * (s.getD (wr (n - t12)).toNat (0, 0)).1))) then
            bif (small24 (sum.1 + (((t10.getD t12.toNat (0, 0)).1 * (s.getD (wr (n - t12)).toNat (0, 0)).1) - ((t10.getD t12.toNat (0, 0)).2 * (s.getD (wr (n - t12)).toNat (0, 0)).2)))) && (small24 (sum.2 + (((t10.getD t12.toNat (0, 0)).1 * (s.getD (wr (n - t12)).toNat (0, 0)).2) + ((t10.getD t12.toNat (0, 0)).2 * (s.getD (wr (n - t12)).toNat (0, 0)).1)))) then
              some (.inl (s, n, (sum.1 + (((t10.getD t12.toNat (0, 0)).1 * (s.getD (wr (n - t12)).toNat (0, 0)).1) - ((t10.getD t12.toNat (0, 0)).2 * (s.getD (wr (n - t12)).toNat (0, 0)).2)), sum.2 + (((t10.getD t12.toNat (0, 0)).1 * (s.getD (wr (n - t12)).toNat (0, 0)).2) + ((t10.getD t12.toNat (0, 0)).2 * (s.getD (wr (n - t12)).toNat (0, 0)).1))), t10, t11, wr (t12 + 1)))
            else
              none
          else
            none
        else
          none
      else
        some (.inl (s, n, sum, t10, t11, wr (t12 + 1)))
    else
      none
  else
    some (.inr sum)
theorem one112_0 : oneLoop Try.prog 112 0 = true := by kernel_rfl
theorem lp112_0 : ItemOk Try.prog (.loop 112 0 T112_0 X112_0 (loopVal step112_0)) := item_loop (U := 9) (n := 3) noSpecial mixed Ga10K1_ok one112_0 (fun x => by kernel_rfl)
noncomputable def Ga11K1 : List Ev.Item := .loop 112 0 T112_0 X112_0 (loopVal step112_0) :: Ga10K1
theorem Ga11K1_ok : ∀ q ∈ Ga11K1, ItemOk Try.prog q := items_cons lp112_0 Ga10K1_ok
noncomputable def s112 : (List (Int × Int)) × (List (Int × Int)) × Int → Option (Int × Int) := fun (s, c, n) =>
  optE (loopVal step112_0 (s, n, (0, 0), c, (c.length : Int), 0)) (fun e1 =>
    some (e1))
    (none)
theorem i112 : ItemOk Try.prog (.fn 112 [.d (.slice .zc), .d (.slice .zc), .d (.int .i64)] [.d .zc] s112) := item_fn (U := 9) (n := 4) noSpecial mixed Ga11K1_ok (fun x => by kernel_rfl)
theorem law112 (s : List (Int × Int)) (c : List (Int × Int)) (n : Int) (hg : s.length ≤ 400 ∧ s.all (okG 2000) = true ∧ c.length ≤ 8 ∧ c.all (fun w => w.2 == 0 && win w.1 (-100) 100) = true ∧ 0 ≤ n ∧ n < (s.length : Int)) : s112 (s, c, n) = some (outTo (c.map Prod.fst) s n.toNat c.length) := by
  obtain ⟨hl, hs, hc, hw, h0, hn⟩ := hg
  have hb := out_bound (c.map Prod.fst) s (fun a ha => by
    obtain ⟨w, hw1, rfl⟩ := List.mem_map.1 ha
    have := List.all_eq_true.1 hw w hw1
    simp only [Bool.and_eq_true, win_iff] at this
    exact this.2) (fun g hg => okG_le (List.all_eq_true.1 hs g hg) (by omega)) n.toNat
  have h1 := loop_for (step := step112_0) (st := fun k => (s, n, outTo (c.map Prod.fst) s n.toNat k, c, (c.length : Int), (k : Int))) (n := c.length) (e := outTo (c.map Prod.fst) s n.toNat c.length)
    (fun k hk => by
      have hck := List.all_eq_true.1 hw _ (getD_mem (d := (0, 0)) hk)
      simp only [Bool.and_eq_true, win_iff, beq_iff_eq] at hck
      have hfk : (c.map Prod.fst).getD k 0 = (c.getD k (0, 0)).1 := map_getD Prod.fst c (0, 0) hk
      have e2 : c.getD k (0, 0) = ((c.getD k (0, 0)).1, 0) := Prod.ext rfl hck.1
      have hbk := hb k (by simp; omega)
      have hbk1 := hb (k + 1) (by simp; omega)
      simp only [step112_0, lt_cast, inB_cast, hk, decide_true, cond_true, Int.toNat_natCast, wr_succ (show k < 4611686018427387904 by omega)]
      by_cases hkn : k ≤ n.toNat
      · have hw1 : wr (n - (k : Int)) = ((n.toNat - k : Nat) : Int) := by rw [wr_id (by omega) (by omega)]; omega
        have hin : n.toNat - k < s.length := by omega
        have hsk := okG_le (List.all_eq_true.1 hs _ (getD_mem (d := (0, 0)) hin)) (by omega)
        rw [decide_eq_true (show n ≥ (k : Int) by omega), hw1, cond_true, inB_cast, decide_eq_true hin, cond_true, Int.toNat_natCast, e2]
        have hp1 := mul_bound hck.2.1 hck.2.2 hsk.1 hsk.2.1
        have hp2 := mul_bound hck.2.1 hck.2.2 hsk.2.2.1 hsk.2.2.2
        simp only [Int.zero_mul, Int.sub_zero, Int.add_zero]
        rw [show small24 ((c.getD k (0, 0)).1 * (s.getD (n.toNat - k) (0, 0)).1) = true by simp only [small24, Bool.and_eq_true, decide_eq_true_eq]; omega,
          show small24 ((c.getD k (0, 0)).1 * (s.getD (n.toNat - k) (0, 0)).2) = true by simp only [small24, Bool.and_eq_true, decide_eq_true_eq]; omega,
          show small24 ((outTo (c.map Prod.fst) s n.toNat k).1 + (c.getD k (0, 0)).1 * (s.getD (n.toNat - k) (0, 0)).1) = true by simp only [small24, Bool.and_eq_true, decide_eq_true_eq]; omega,
          show small24 ((outTo (c.map Prod.fst) s n.toNat k).2 + (c.getD k (0, 0)).1 * (s.getD (n.toNat - k) (0, 0)).2) = true by simp only [small24, Bool.and_eq_true, decide_eq_true_eq]; omega]
        simp only [Bool.and_self, cond_true, outTo, if_pos hkn, hfk]
      · rw [decide_eq_false (show ¬ n ≥ (k : Int) by omega), cond_false]
        simp only [outTo, if_neg hkn]) (by simp [step112_0]) 0 (by omega)
  rw [show ((0 : Nat) : Int) = 0 from rfl] at h1
  have hz : outTo (c.map Prod.fst) s n.toNat 0 = (0, 0) := rfl
  rw [hz] at h1
  simp only [s112, h1, optE]
noncomputable def p112 : (List (Int × Int)) × (List (Int × Int)) × (Int) → Option (Int × Int) := fun x => if x.1.length ≤ 400 ∧ x.1.all (okG 2000) = true ∧ x.2.1.length ≤ 8 ∧ x.2.1.all (fun w => w.2 == 0 && win w.1 (-100) 100) = true ∧ 0 ≤ x.2.2 ∧ x.2.2 < (x.1.length : Int) then some (outTo (x.2.1.map Prod.fst) x.1 x.2.2.toNat x.2.1.length) else none
theorem p112_pos {x : (List (Int × Int)) × (List (Int × Int)) × (Int)} (h : x.1.length ≤ 400 ∧ x.1.all (okG 2000) = true ∧ x.2.1.length ≤ 8 ∧ x.2.1.all (fun w => w.2 == 0 && win w.1 (-100) 100) = true ∧ 0 ≤ x.2.2 ∧ x.2.2 < (x.1.length : Int)) : p112 x = some (outTo (x.2.1.map Prod.fst) x.1 x.2.2.toNat x.2.1.length) := if_pos h
theorem j112 : ItemOk Try.prog (.fn 112 [.d (.slice .zc), .d (.slice .zc), .d (.int .i64)] [.d .zc] (p112)) := item_imp i112 (by
  intro x y h
  unfold p112 at h
  split at h
  · rename_i hg
    rw [← h]
    exact law112 x.1 x.2.1 x.2.2 hg
  · cases h)
noncomputable def Ga11K2 : List Ev.Item := .fn 112 [.d (.slice .zc), .d (.slice .zc), .d (.int .i64)] [.d .zc] (p112) :: Ga11K1
theorem Ga11K2_ok : ∀ q ∈ Ga11K2, ItemOk Try.prog q := items_cons j112 Ga11K1_ok

/-! cassegrain sample.floor -/
noncomputable def s113 : Int × Int → Option (Int) := fun (n, by0) =>
  bif decide (n < 0) then
    bif !(by0 == 0) then
      some (wr (-(wr (Int.tdiv (wr ((wr (by0 - 1)) - n)) by0))))
    else
      none
  else
    bif !(by0 == 0) then
      some (wr (Int.tdiv n by0))
    else
      none
theorem i113 : ItemOk Try.prog (.fn 113 [.d (.int .i64), .d (.int .i64)] [.d (.int .i64)] s113) := item_fn (U := 9) (n := 4) noSpecial mixed Ga11K2_ok (fun x => by kernel_rfl)
theorem law113 (n : Int) (d : Int) (hg : 1 ≤ d ∧ d ≤ 1000000 ∧ -1000000000 ≤ n ∧ n ≤ 1000000000) : s113 (n, d) = some (n / d) := by
  obtain ⟨h1, h2, h3, h4⟩ := hg
  have hd : (d == 0) = false := by rw [beq_eq_false_iff_ne]; omega
  simp only [s113, hd, Bool.not_false, cond_true]
  have hb := div_bound (n := n) (d := d) h1 h3 h4
  by_cases hn : n < 0
  · rw [decide_eq_true hn, cond_true, wr_id (n := d - 1) (by omega) (by omega), wr_id (n := d - 1 - n) (by omega) (by omega), Int.tdiv_eq_ediv_of_nonneg (by omega), neg_floor h1, wr_id (n := -(n / d)) (by omega) (by omega), Int.neg_neg, wr_id (by omega) (by omega)]
  · rw [decide_eq_false hn, cond_false, Int.tdiv_eq_ediv_of_nonneg (by omega), wr_id (by omega) (by omega)]
noncomputable def p113 : (Int) × (Int) → Option (Int) := fun x => if 1 ≤ x.2 ∧ x.2 ≤ 1000000 ∧ -1000000000 ≤ x.1 ∧ x.1 ≤ 1000000000 then some (x.1 / x.2) else none
theorem p113_pos {x : (Int) × (Int)} (h : 1 ≤ x.2 ∧ x.2 ≤ 1000000 ∧ -1000000000 ≤ x.1 ∧ x.1 ≤ 1000000000) : p113 x = some (x.1 / x.2) := if_pos h
theorem j113 : ItemOk Try.prog (.fn 113 [.d (.int .i64), .d (.int .i64)] [.d (.int .i64)] (p113)) := item_imp i113 (by
  intro x y h
  unfold p113 at h
  split at h
  · rename_i hg
    rw [← h]
    exact law113 x.1 x.2 hg
  · cases h)
noncomputable def Ga11K3 : List Ev.Item := .fn 113 [.d (.int .i64), .d (.int .i64)] [.d (.int .i64)] (p113) :: Ga11K2
theorem Ga11K3_ok : ∀ q ∈ Ga11K3, ItemOk Try.prog q := items_cons j113 Ga11K2_ok

/-! cassegrain sample.Decimated -/
@[reducible] def T58_0 : Tmpl := ⟨57, [(3, .ref 3 0 0 0)], [.val 2 (.int .i64), .val 9 (.slice .zc), .val 10 (.slice .zc), .own 11 55 23 (.agg (.pair (.int .i64) (.int .i64))), .val 12 (.int .i64), .cells 3 [.d (.pair (.slice (.int .i64)) (.int .i64))]]⟩
@[reducible] def X58_0 : List (Ex × Tmpl) := [(.exit 0, ⟨57, [], [.own 11 55 23 (.agg (.pair (.int .i64) (.int .i64)))]⟩)]
/-- data: by0, s, c, out, n, f; ends: exit 0: out -/
noncomputable def step58_0 : Int × (List (Int × Int)) × (List (Int × Int)) × (List (Int × Int)) × Int × ((List Int) × Int) → Option ((Int × (List (Int × Int)) × (List (Int × Int)) × (List (Int × Int)) × Int × ((List Int) × Int)) ⊕ (List (Int × Int))) := fun (by0, s, c, out, n, f) =>
  bif decide (n < (s.length : Int)) then
    optE (p112 (s, c, n)) (fun r5 =>
      optE (p113 (r5.1, f.2)) (fun r6 =>
        optE (p113 (r5.2, f.2)) (fun r7 =>
          bif room 16 (out.length + 1) then
            some (.inl (by0, s, c, out ++ [(r6, r7)], wr (n + by0), f))
          else
            none)
          (none))
        (none))
      (none)
  else
    some (.inr out)
theorem one58_0 : oneLoop Try.prog 58 0 = true := by kernel_rfl
theorem lp58_0 : ItemOk Try.prog (.loop 58 0 T58_0 X58_0 (loopVal step58_0)) := item_loop (U := 9) (n := 3) noSpecial mixed Ga11K3_ok one58_0 (fun x => by kernel_rfl)
noncomputable def Ga11K4 : List Ev.Item := .loop 58 0 T58_0 X58_0 (loopVal step58_0) :: Ga11K3
theorem Ga11K4_ok : ∀ q ∈ Ga11K4, ItemOk Try.prog q := items_cons lp58_0 Ga11K3_ok
noncomputable def s58 : ((List Int) × Int) × (List (Int × Int)) × Int → Option ((List (Int × Int)) × Int) := fun (f, x0, by0) =>
  optE (p59 f) (fun r1 =>
    optE (p106 x0) (fun r2 =>
      bif (firstE [r1, r2, unl (win by0 1 400) 2]) != 0 then
        some (([], firstE [r1, r2, unl (win by0 1 400) 2]))
      else
        optE (p107 x0) (fun r3 =>
          optE (p101 f) (fun r4 =>
            optE (loopVal step58_0 (by0, r3, r4, [], 0, f)) (fun e5 =>
              some ((e5, 0)))
              (none))
            (none))
          (none))
      (none))
    (none)
theorem i58 : ItemOk Try.prog (.fn 58 [.d (.agg (.pair (.slice (.int .i64)) (.int .i64))), .d (.slice (.agg (.pair (.int .i64) (.int .i64)))), .d (.int .i64)] [.own 23 (.agg (.pair (.int .i64) (.int .i64))), .d (.int .i64)] s58) := item_fn (U := 9) (n := 4) noSpecial mixed Ga11K4_ok (fun x => by kernel_rfl)
theorem law58 (f : List Int × Int) (x : List (Int × Int)) (b : Int) (hg : f.1.length ≤ 1000000 ∧ x.length ≤ 1000000) : s58 (f, x, b) = some (orE (firstE [filtE f, smpE x, unl (win b 1 400) 2]) [] (decim f x b.toNat)) := by
  have hp1 := p59_pos hg.1
  have hp2 := p106_pos hg.2
  simp only [s58, hp1, hp2, optE, orE]
  cases hf : firstE [filtE f, smpE x, unl (win b 1 400) 2] != 0
  · have hz := firstE_zero.1 (bne_eq_false_iff_eq.1 hf)
    have hf0 := hz (filtE f) (by simp)
    have hx0 := hz (smpE x) (by simp)
    have hb := win_iff.1 (unl_zero (by decide) (hz (unl (win b 1 400) 2) (by simp)))
    obtain ⟨f1, f2, f3, f4⟩ := filtE_zero.1 hf0
    have hx := smpE_zero.1 hx0
    have hbn : b = ((b.toNat : Nat) : Int) := by omega
    have hcs : (f.1.map fun c => (c, (0 : Int))).all (fun w => w.2 == 0 && win w.1 (-100) 100) = true := List.all_eq_true.2 fun w hw => by
      obtain ⟨c, hc, rfl⟩ := List.mem_map.1 hw
      simp only [beq_self_eq_true, Bool.true_and]
      exact win_iff.2 (f3 c hc)
    have hat : ∀ m : Nat, m < x.length → p112 (x, f.1.map (fun c => (c, (0 : Int))), (m : Int)) = some (outTo f.1 x m f.1.length) := fun m hm => by
      have := p112_pos (x := (x, f.1.map (fun c => (c, (0 : Int))), (m : Int))) ⟨hx.1, List.all_eq_true.2 hx.2, by simp; omega, hcs, by show (0 : Int) ≤ (m : Int); omega, by show (m : Int) < (x.length : Int); omega⟩
      rw [this]
      simp only [Int.toNat_natCast, List.length_map, List.map_map]
      congr 2
      simp [Function.comp_def]
    have hfl : ∀ m : Nat, m < x.length → p113 ((outTo f.1 x m f.1.length).1, f.2) = some ((outTo f.1 x m f.1.length).1 / f.2) ∧ p113 ((outTo f.1 x m f.1.length).2, f.2) = some ((outTo f.1 x m f.1.length).2 / f.2) := fun m hm => by
      have ob := out_bound f.1 x f3 (fun g hg => okG_le (hx.2 g hg) (by omega)) m f.1.length (by omega)
      exact ⟨p113_pos (x := ((outTo f.1 x m f.1.length).1, f.2)) ⟨f4.1, by show f.2 ≤ _; omega, by show _ ≤ (outTo f.1 x m f.1.length).1; omega, by show (outTo f.1 x m f.1.length).1 ≤ _; omega⟩,
        p113_pos (x := ((outTo f.1 x m f.1.length).2, f.2)) ⟨f4.1, by show f.2 ≤ _; omega, by show _ ≤ (outTo f.1 x m f.1.length).2; omega, by show (outTo f.1 x m f.1.length).2 ≤ _; omega⟩⟩
    have h1 := loop_for (step := step58_0) (st := fun k => (b, x, f.1.map (fun c => (c, (0 : Int))), (List.range k).map (fun j => filtAt f x (j * b.toNat)), ((k * b.toNat : Nat) : Int), f)) (n := (x.length + b.toNat - 1) / b.toNat) (e := decim f x b.toNat)
      (fun k hk => by
        have hk' := (decim_lt (by omega)).1 hk
        obtain ⟨g1, g2⟩ := hfl _ hk'
        simp only [step58_0, lt_cast, hk', decide_true, cond_true, hat _ hk', optE, g1, g2]
        have hkl : k ≤ k * b.toNat := Nat.le_mul_of_pos_right k (by omega)
        rw [room_true (by simp; omega) (by simp; omega)]
        have hnext : wr (((k * b.toNat : Nat) : Int) + b) = (((k + 1) * b.toNat : Nat) : Int) := by
          rw [wr_id (by omega) (by omega), Nat.add_mul, Nat.one_mul]; omega
        rw [hnext]
        have := range_map_succ (fun j => filtAt f x (j * b.toNat)) k
        simp only [filtAt] at this
        simp only [cond_true, filtAt, this]) (by
          have : ¬ ((x.length + b.toNat - 1) / b.toNat) * b.toNat < x.length := fun h => Nat.lt_irrefl _ ((decim_lt (L := x.length) (by omega)).2 h)
          simp only [step58_0, lt_cast, this, decide_false, cond_false]; rfl) 0 (Nat.zero_le _)
    simp only [List.range_zero, List.map_nil, Nat.zero_mul] at h1
    rw [show ((0 : Nat) : Int) = 0 from rfl] at h1
    simp only [cond_false, p107_pos (smp_sig hx0), p101_pos hf0, optE, h1]
  · rfl
noncomputable def p58 : (List Int × Int) × (List (Int × Int)) × (Int) → Option (List (Int × Int) × Int) := fun x => if x.1.1.length ≤ 1000000 ∧ x.2.1.length ≤ 1000000 then some (orE (firstE [filtE x.1, smpE x.2.1, unl (win x.2.2 1 400) 2]) [] (decim x.1 x.2.1 x.2.2.toNat)) else none
theorem p58_pos {x : (List Int × Int) × (List (Int × Int)) × (Int)} (h : x.1.1.length ≤ 1000000 ∧ x.2.1.length ≤ 1000000) : p58 x = some (orE (firstE [filtE x.1, smpE x.2.1, unl (win x.2.2 1 400) 2]) [] (decim x.1 x.2.1 x.2.2.toNat)) := if_pos h
theorem j58 : ItemOk Try.prog (.fn 58 [.d (.agg (.pair (.slice (.int .i64)) (.int .i64))), .d (.slice (.agg (.pair (.int .i64) (.int .i64)))), .d (.int .i64)] [.own 23 (.agg (.pair (.int .i64) (.int .i64))), .d (.int .i64)] (p58)) := item_imp i58 (by
  intro x y h
  unfold p58 at h
  split at h
  · rename_i hg
    rw [← h]
    exact law58 x.1 x.2.1 x.2.2 hg
  · cases h)
noncomputable def Ga11K5 : List Ev.Item := .fn 58 [.d (.agg (.pair (.slice (.int .i64)) (.int .i64))), .d (.slice (.agg (.pair (.int .i64) (.int .i64)))), .d (.int .i64)] [.own 23 (.agg (.pair (.int .i64) (.int .i64))), .d (.int .i64)] (p58) :: Ga11K4
theorem Ga11K5_ok : ∀ q ∈ Ga11K5, ItemOk Try.prog q := items_cons j58 Ga11K4_ok

/-! cassegrain sample.Filtered -/
noncomputable def s57 : ((List Int) × Int) × (List (Int × Int)) → Option ((List (Int × Int)) × Int) := fun (f, x0) =>
  optE (p58 (f, x0, 1)) (fun r1 =>
    some (r1))
    (none)
theorem i57 : ItemOk Try.prog (.fn 57 [.d (.agg (.pair (.slice (.int .i64)) (.int .i64))), .d (.slice (.agg (.pair (.int .i64) (.int .i64))))] [.own 23 (.agg (.pair (.int .i64) (.int .i64))), .d (.int .i64)] s57) := item_fn (U := 9) (n := 4) noSpecial mixed Ga11K5_ok (fun x => by kernel_rfl)
theorem law57 (f : List Int × Int) (x : List (Int × Int)) (hg : f.1.length ≤ 1000000 ∧ x.length ≤ 1000000) : s57 (f, x) = some (orE (firstE [filtE f, smpE x]) [] (filtL f x)) := by
  have h1 : p58 (f, x, 1) = some (orE (firstE [filtE f, smpE x, unl (win 1 1 400) 2]) [] (decim f x 1)) := p58_pos (x := (f, x, 1)) hg
  simp only [s57, h1, optE, decim_one]
  congr 1
noncomputable def p57 : (List Int × Int) × (List (Int × Int)) → Option (List (Int × Int) × Int) := fun x => if x.1.1.length ≤ 1000000 ∧ x.2.length ≤ 1000000 then some (orE (firstE [filtE x.1, smpE x.2]) [] (filtL x.1 x.2)) else none
theorem p57_pos {x : (List Int × Int) × (List (Int × Int))} (h : x.1.1.length ≤ 1000000 ∧ x.2.length ≤ 1000000) : p57 x = some (orE (firstE [filtE x.1, smpE x.2]) [] (filtL x.1 x.2)) := if_pos h
theorem j57 : ItemOk Try.prog (.fn 57 [.d (.agg (.pair (.slice (.int .i64)) (.int .i64))), .d (.slice (.agg (.pair (.int .i64) (.int .i64))))] [.own 23 (.agg (.pair (.int .i64) (.int .i64))), .d (.int .i64)] (p57)) := item_imp i57 (by
  intro x y h
  unfold p57 at h
  split at h
  · rename_i hg
    rw [← h]
    exact law57 x.1 x.2 hg
  · cases h)
noncomputable def Ga11K6 : List Ev.Item := .fn 57 [.d (.agg (.pair (.slice (.int .i64)) (.int .i64))), .d (.slice (.agg (.pair (.int .i64) (.int .i64))))] [.own 23 (.agg (.pair (.int .i64) (.int .i64))), .d (.int .i64)] (p57) :: Ga11K5
theorem Ga11K6_ok : ∀ q ∈ Ga11K6, ItemOk Try.prog q := items_cons j57 Ga11K5_ok

/-! cassegrain cassegrainref02.Filtered -/
@[reducible] def T61_2 : Tmpl := ⟨71, [(2, .ref 2 0 0 0)], [.val 1 (.slice (.agg (.pair (.int .i64) (.int .i64)))), .own 5 69 23 (.agg (.pair (.int .i64) (.int .i64))), .val 6 (.int .i64), .val 7 (.int .i64), .val 8 (.int .i64), .val 9 (.int .i64), .cells 2 [.d (.pair (.slice (.int .i64)) (.int .i64))]]⟩
@[reducible] def X61_2 : List (Ex × Tmpl) := [(.exit 2, ⟨71, [(2, .ref 2 0 0 0)], [.val 1 (.slice (.agg (.pair (.int .i64) (.int .i64)))), .own 5 69 23 (.agg (.pair (.int .i64) (.int .i64))), .val 6 (.int .i64), .val 7 (.int .i64), .val 8 (.int .i64), .cells 2 [.d (.pair (.slice (.int .i64)) (.int .i64))]]⟩)]
/-- data: t1, t5, t6, t7, t8, t9, t2; ends: exit 2: t1, t5, t6, t7, t8, t2 -/
noncomputable def step61_2 : (List (Int × Int)) × (List (Int × Int)) × Int × Int × Int × Int × ((List Int) × Int) → Option (((List (Int × Int)) × (List (Int × Int)) × Int × Int × Int × Int × ((List Int) × Int)) ⊕ ((List (Int × Int)) × (List (Int × Int)) × Int × Int × Int × ((List Int) × Int))) := fun (t1, t5, t6, t7, t8, t9, t2) =>
  bif decide (t9 < (t2.1.length : Int)) then
    bif decide (t9 ≤ t6) then
      bif inBounds t9 t2.1.length then
        bif inBounds (wr (t6 - t9)) t1.length then
          bif inBounds t9 t2.1.length then
            bif inBounds (wr (t6 - t9)) t1.length then
              some (.inl (t1, t5, t6, wr (t7 + (wr ((t2.1.getD t9.toNat 0) * (t1.getD (wr (t6 - t9)).toNat (0, 0)).1))), wr (t8 + (wr ((t2.1.getD t9.toNat 0) * (t1.getD (wr (t6 - t9)).toNat (0, 0)).2))), wr (t9 + 1), t2))
            else
              none
          else
            none
        else
          none
      else
        none
    else
      some (.inr (t1, t5, t6, t7, t8, t2))
  else
    some (.inr (t1, t5, t6, t7, t8, t2))
theorem one61_2 : oneLoop Try.prog 61 2 = true := by kernel_rfl
theorem lp61_2 : ItemOk Try.prog (.loop 61 2 T61_2 X61_2 (loopVal step61_2)) := item_loop (U := 9) (n := 3) noSpecial mixed Ga11K6_ok one61_2 (fun x => by kernel_rfl)
noncomputable def Ga11K7 : List Ev.Item := .loop 61 2 T61_2 X61_2 (loopVal step61_2) :: Ga11K6
theorem Ga11K7_ok : ∀ q ∈ Ga11K7, ItemOk Try.prog q := items_cons lp61_2 Ga11K6_ok
@[reducible] def T61_0 : Tmpl := ⟨71, [(2, .ref 2 0 0 0)], [.val 1 (.slice (.agg (.pair (.int .i64) (.int .i64)))), .own 5 69 23 (.agg (.pair (.int .i64) (.int .i64))), .val 6 (.int .i64), .cells 2 [.d (.pair (.slice (.int .i64)) (.int .i64))]]⟩
@[reducible] def X61_0 : List (Ex × Tmpl) := [(.exit 0, ⟨71, [], [.own 5 69 23 (.agg (.pair (.int .i64) (.int .i64)))]⟩)]
/-- data: t1, t5, t6, t2; ends: exit 0: t5 -/
noncomputable def step61_0 : (List (Int × Int)) × (List (Int × Int)) × Int × ((List Int) × Int) → Option (((List (Int × Int)) × (List (Int × Int)) × Int × ((List Int) × Int)) ⊕ (List (Int × Int))) := fun (t1, t5, t6, t2) =>
  bif decide (t6 < (t1.length : Int)) then
    optE (loopVal step61_2 (t1, t5, t6, 0, 0, 0, t2)) (fun e1 =>
      optE (floor97 (e1.2.2.2.1, e1.2.2.2.2.2.2)) (fun r2 =>
        optE (floor97 (e1.2.2.2.2.1, e1.2.2.2.2.2.2)) (fun r3 =>
          bif room 16 (e1.2.1.length + 1) then
            some (.inl (e1.1, e1.2.1 ++ [(r2, r3)], wr (e1.2.2.1 + 1), e1.2.2.2.2.2))
          else
            none)
          (none))
        (none))
      (none)
  else
    some (.inr t5)
theorem one61_0 : oneLoop Try.prog 61 0 = true := by kernel_rfl
theorem lp61_0 : ItemOk Try.prog (.loop 61 0 T61_0 X61_0 (loopVal step61_0)) := item_loop (U := 9) (n := 3) noSpecial mixed Ga11K7_ok one61_0 (fun x => by kernel_rfl)
noncomputable def Ga11K8 : List Ev.Item := .loop 61 0 T61_0 X61_0 (loopVal step61_0) :: Ga11K7
theorem Ga11K8_ok : ∀ q ∈ Ga11K8, ItemOk Try.prog q := items_cons lp61_0 Ga11K7_ok
noncomputable def s61 : ((List Int) × Int) × (List (Int × Int)) → Option (List (Int × Int)) := fun (a0, a1) =>
  optE (loopVal step61_0 (a1, [], 0, a0)) (fun e1 =>
    some (e1))
    (none)
theorem i61 : ItemOk Try.prog (.fn 61 [.d (.agg (.pair (.slice (.int .i64)) (.int .i64))), .d (.slice (.agg (.pair (.int .i64) (.int .i64))))] [.own 23 (.agg (.pair (.int .i64) (.int .i64)))] s61) := item_fn (U := 9) (n := 4) noSpecial mixed Ga11K8_ok (fun x => by kernel_rfl)
theorem law61 (f : List Int × Int) (x : List (Int × Int)) (hg : filtE f = 0 ∧ smpE x = 0) : s61 (f, x) = some (filtL f x) := by
  obtain ⟨f1, f2, f3, f4⟩ := filtE_zero.1 hg.1
  have hx := smpE_zero.1 hg.2
  have inner : ∀ (n : Nat) (o : List (Int × Int)), n < x.length → loopVal step61_2 (x, o, (n : Int), 0, 0, 0, f) = some (x, o, (n : Int), (outTo f.1 x n f.1.length).1, (outTo f.1 x n f.1.length).2, f) := by
    intro n o hn
    have ob := out_bound f.1 x f3 (fun g hg => okG_le (hx.2 g hg) (by omega)) n
    have h1 := loop_for (step := step61_2) (st := fun k => (x, o, (n : Int), (outTo f.1 x n k).1, (outTo f.1 x n k).2, (k : Int), f)) (n := min f.1.length (n + 1)) (e := (x, o, (n : Int), (outTo f.1 x n f.1.length).1, (outTo f.1 x n f.1.length).2, f))
      (fun k hk => by
        have hk1 : k < f.1.length := by omega
        have hk2 : k ≤ n := by omega
        have hw1 : wr ((n : Int) - (k : Int)) = ((n - k : Nat) : Int) := by rw [wr_id (by omega) (by omega)]; omega
        have hin : n - k < x.length := by omega
        have hxk := okG_le (hx.2 _ (getD_mem (d := (0, 0)) hin)) (by omega)
        have hck := f3 _ (getD_mem (d := 0) hk1)
        have hp1 := mul_bound hck.1 hck.2 hxk.1 hxk.2.1
        have hp2 := mul_bound hck.1 hck.2 hxk.2.2.1 hxk.2.2.2
        have hbk := ob k (by omega)
        have hbk1 := ob (k + 1) (by omega)
        simp only [step61_2, lt_cast, inB_cast, hw1, hk1, hin, decide_true, cond_true, Int.toNat_natCast, wr_succ (show k < 4611686018427387904 by omega)]
        rw [decide_eq_true (show (k : Int) ≤ (n : Int) by omega), cond_true, wr_id (n := f.1.getD k 0 * (x.getD (n - k) (0, 0)).1) (by omega) (by omega), wr_id (n := f.1.getD k 0 * (x.getD (n - k) (0, 0)).2) (by omega) (by omega),
          wr_id (n := (outTo f.1 x n k).1 + f.1.getD k 0 * (x.getD (n - k) (0, 0)).1) (by omega) (by omega), wr_id (n := (outTo f.1 x n k).2 + f.1.getD k 0 * (x.getD (n - k) (0, 0)).2) (by omega) (by omega)]
        simp only [outTo, if_pos hk2]) (by
          simp only [step61_2, lt_cast]
          by_cases hm : f.1.length ≤ n + 1
          · rw [Nat.min_eq_left hm]
            simp only [Nat.lt_irrefl, decide_false, cond_false]
          · rw [Nat.min_eq_right (by omega), decide_eq_true (show n + 1 < f.1.length by omega), cond_true, decide_eq_false (show ¬ ((n + 1 : Nat) : Int) ≤ (n : Int) by omega), cond_false, out_stay f.1 x n f.1.length (by omega)]) 0 (by omega)
    exact h1
  have h1 := loop_for (step := step61_0) (st := fun k => (x, (List.range k).map (filtAt f x), (k : Int), f)) (n := x.length) (e := filtL f x)
    (fun k hk => by
      have ob := out_bound f.1 x f3 (fun g hg => okG_le (hx.2 g hg) (by omega)) k f.1.length (by omega)
      have d1 := div_bound (m := 1600000) (n := (outTo f.1 x k f.1.length).1) f4.1 (by omega) (by omega)
      have d2 := div_bound (m := 1600000) (n := (outTo f.1 x k f.1.length).2) f4.1 (by omega) (by omega)
      have g1 : floor97 ((outTo f.1 x k f.1.length).1, f.2) = some ((outTo f.1 x k f.1.length).1 / f.2) := by
        unfold floor97
        rw [if_pos (by show 0 < f.2; omega), wr_id (by show _ ≤ (outTo f.1 x k f.1.length).1 / f.2; omega) (by show (outTo f.1 x k f.1.length).1 / f.2 < _; omega)]
      have g2 : floor97 ((outTo f.1 x k f.1.length).2, f.2) = some ((outTo f.1 x k f.1.length).2 / f.2) := by
        unfold floor97
        rw [if_pos (by show 0 < f.2; omega), wr_id (by show _ ≤ (outTo f.1 x k f.1.length).2 / f.2; omega) (by show (outTo f.1 x k f.1.length).2 / f.2 < _; omega)]
      simp only [step61_0, lt_cast, hk, decide_true, cond_true, inner k _ hk, optE, g1, g2, wr_succ (show k < 4611686018427387904 by omega)]
      rw [room_true (by simp; omega) (by simp; omega), cond_true]
      have := range_map_succ (filtAt f x) k
      simp only [filtAt] at this
      rw [← range_map_succ (filtAt f x) k]
      rfl) (by simp [step61_0, filtL]) 0 (by omega)
  rw [show ((0 : Nat) : Int) = 0 from rfl] at h1
  simp only [List.range_zero, List.map_nil] at h1
  simp only [s61, h1, optE]
noncomputable def p61 : (List Int × Int) × (List (Int × Int)) → Option (List (Int × Int)) := fun x => if filtE x.1 = 0 ∧ smpE x.2 = 0 then some (filtL x.1 x.2) else none
theorem p61_pos {x : (List Int × Int) × (List (Int × Int))} (h : filtE x.1 = 0 ∧ smpE x.2 = 0) : p61 x = some (filtL x.1 x.2) := if_pos h
theorem j61 : ItemOk Try.prog (.fn 61 [.d (.agg (.pair (.slice (.int .i64)) (.int .i64))), .d (.slice (.agg (.pair (.int .i64) (.int .i64))))] [.own 23 (.agg (.pair (.int .i64) (.int .i64)))] (p61)) := item_imp i61 (by
  intro x y h
  unfold p61 at h
  split at h
  · rename_i hg
    rw [← h]
    exact law61 x.1 x.2 hg
  · cases h)
noncomputable def Ga11K9 : List Ev.Item := .fn 61 [.d (.agg (.pair (.slice (.int .i64)) (.int .i64))), .d (.slice (.agg (.pair (.int .i64) (.int .i64))))] [.own 23 (.agg (.pair (.int .i64) (.int .i64)))] (p61) :: Ga11K8
theorem Ga11K9_ok : ∀ q ∈ Ga11K9, ItemOk Try.prog q := items_cons j61 Ga11K8_ok

/-! cassegrain cassegrainref02.Decimated -/
@[reducible] def T62_0 : Tmpl := ⟨28, [], [.val 2 (.int .i64), .own 7 12 23 (.agg (.pair (.int .i64) (.int .i64))), .own 8 26 23 (.agg (.pair (.int .i64) (.int .i64))), .val 9 (.int .i64)]⟩
@[reducible] def X62_0 : List (Ex × Tmpl) := [(.exit 0, ⟨28, [], [.own 8 26 23 (.agg (.pair (.int .i64) (.int .i64)))]⟩)]
/-- data: by0, all0, out, n; ends: exit 0: out -/
noncomputable def step62_0 : Int × (List (Int × Int)) × (List (Int × Int)) × Int → Option ((Int × (List (Int × Int)) × (List (Int × Int)) × Int) ⊕ (List (Int × Int))) := fun (by0, all0, out, n) =>
  bif decide (n < (all0.length : Int)) then
    bif inBounds n all0.length then
      bif room 16 (out.length + 1) then
        some (.inl (by0, all0, out ++ [(all0.getD n.toNat (0, 0))], wr (n + by0)))
      else
        none
    else
      none
  else
    some (.inr out)
theorem one62_0 : oneLoop Try.prog 62 0 = true := by kernel_rfl
theorem lp62_0 : ItemOk Try.prog (.loop 62 0 T62_0 X62_0 (loopVal step62_0)) := item_loop (U := 9) (n := 3) noSpecial mixed Ga11K9_ok one62_0 (fun x => by kernel_rfl)
noncomputable def Ga11K10 : List Ev.Item := .loop 62 0 T62_0 X62_0 (loopVal step62_0) :: Ga11K9
theorem Ga11K10_ok : ∀ q ∈ Ga11K10, ItemOk Try.prog q := items_cons lp62_0 Ga11K9_ok
noncomputable def s62 : ((List Int) × Int) × (List (Int × Int)) × Int → Option (List (Int × Int)) := fun (f, x0, by0) =>
  optE (p61 (f, x0)) (fun r1 =>
    optE (loopVal step62_0 (by0, r1, [], 0)) (fun e2 =>
      some (e2))
      (none))
    (none)
theorem i62 : ItemOk Try.prog (.fn 62 [.d (.agg (.pair (.slice (.int .i64)) (.int .i64))), .d (.slice (.agg (.pair (.int .i64) (.int .i64)))), .d (.int .i64)] [.own 23 (.agg (.pair (.int .i64) (.int .i64)))] s62) := item_fn (U := 9) (n := 4) noSpecial mixed Ga11K10_ok (fun x => by kernel_rfl)
theorem law62 (f : List Int × Int) (x : List (Int × Int)) (b : Int) (hg : (filtE f = 0 ∧ smpE x = 0) ∧ win b 1 400 = true) : s62 (f, x, b) = some (decim f x b.toNat) := by
  have hx := smpE_zero.1 hg.1.2
  have hb := win_iff.1 hg.2
  have hp : p61 (f, x) = some (filtL f x) := p61_pos (x := (f, x)) hg.1
  have hlen : (filtL f x).length = x.length := by simp [filtL]
  have h1 := loop_for (step := step62_0) (st := fun k => (b, filtL f x, (List.range k).map (fun j => filtAt f x (j * b.toNat)), ((k * b.toNat : Nat) : Int))) (n := (x.length + b.toNat - 1) / b.toNat) (e := decim f x b.toNat)
    (fun k hk => by
      have hk' := (decim_lt (by omega)).1 hk
      have hk2 : k * b.toNat < (filtL f x).length := by rw [hlen]; exact hk'
      have hkl : k ≤ k * b.toNat := Nat.le_mul_of_pos_right k (by omega)
      have hget : (filtL f x).getD (k * b.toNat) (0, 0) = filtAt f x (k * b.toNat) := range_getD _ _ hk'
      simp only [step62_0, lt_cast, inB_cast, hk2, decide_true, cond_true, Int.toNat_natCast, hget]
      rw [room_true (by simp; omega) (by simp; omega), cond_true]
      have hnext : wr (((k * b.toNat : Nat) : Int) + b) = (((k + 1) * b.toNat : Nat) : Int) := by
        rw [wr_id (by omega) (by omega), Nat.add_mul, Nat.one_mul]; omega
      rw [hnext, range_map_succ (fun j => filtAt f x (j * b.toNat)) k]) (by
        have : ¬ ((x.length + b.toNat - 1) / b.toNat) * b.toNat < (filtL f x).length := fun h => by rw [hlen] at h; exact Nat.lt_irrefl _ ((decim_lt (L := x.length) (by omega)).2 h)
        simp only [step62_0, lt_cast, this, decide_false, cond_false]; rfl) 0 (Nat.zero_le _)
  simp only [List.range_zero, List.map_nil, Nat.zero_mul] at h1
  rw [show ((0 : Nat) : Int) = 0 from rfl] at h1
  simp only [s62, hp, optE, h1]
noncomputable def p62 : (List Int × Int) × (List (Int × Int)) × (Int) → Option (List (Int × Int)) := fun x => if (filtE x.1 = 0 ∧ smpE x.2.1 = 0) ∧ win x.2.2 1 400 = true then some (decim x.1 x.2.1 x.2.2.toNat) else none
theorem p62_pos {x : (List Int × Int) × (List (Int × Int)) × (Int)} (h : (filtE x.1 = 0 ∧ smpE x.2.1 = 0) ∧ win x.2.2 1 400 = true) : p62 x = some (decim x.1 x.2.1 x.2.2.toNat) := if_pos h
theorem j62 : ItemOk Try.prog (.fn 62 [.d (.agg (.pair (.slice (.int .i64)) (.int .i64))), .d (.slice (.agg (.pair (.int .i64) (.int .i64)))), .d (.int .i64)] [.own 23 (.agg (.pair (.int .i64) (.int .i64)))] (p62)) := item_imp i62 (by
  intro x y h
  unfold p62 at h
  split at h
  · rename_i hg
    rw [← h]
    exact law62 x.1 x.2.1 x.2.2 hg
  · cases h)
noncomputable def Ga11K11 : List Ev.Item := .fn 62 [.d (.agg (.pair (.slice (.int .i64)) (.int .i64))), .d (.slice (.agg (.pair (.int .i64) (.int .i64)))), .d (.int .i64)] [.own 23 (.agg (.pair (.int .i64) (.int .i64)))] (p62) :: Ga11K10
theorem Ga11K11_ok : ∀ q ∈ Ga11K11, ItemOk Try.prog q := items_cons j62 Ga11K10_ok
end Go.Proofs.Ytinkhmfciealkaa
