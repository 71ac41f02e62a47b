/- Printed by gen.py: specifications of functions. -/
import Derived.Test.YtinkhmfciealkaaGa3
set_option linter.unusedSimpArgs false
set_option maxRecDepth 100000
namespace Go.Proofs.Ytinkhmfciealkaa
open Go.Ev

/-! cassegrain sample.Mixed -/
@[reducible] def T105_0 : Tmpl := ⟨41, [(2, .fn 103), (3, .ref 3 0 0 0)], [.own 9 21 127 .zc, .val 23 (.int .i64), .val 24 (.int .i64), .cells 3 [.d (.pair (.int .i64) (.pair (.int .i64) (.int .i64)))]]⟩
@[reducible] def X105_0 : List (Ex × Tmpl) := [(.exit 0, ⟨41, [], [.own 9 21 127 .zc]⟩)]
/-- data: s, t23, t24, p; ends: exit 0: s -/
noncomputable def step105_0 : (List (Int × Int)) × Int × Int × (Int × Int × Int) → Option (((List (Int × Int)) × Int × Int × (Int × Int × Int)) ⊕ (List (Int × Int))) := fun (s, t23, t24, p) =>
  bif decide (t24 < t23) then
    bif inBounds t24 s.length then
      optE (p103 (turnOf p t24)) (fun r3 =>
        bif (small24 (((s.getD t24.toNat (0, 0)).1 * r3.1) - ((s.getD t24.toNat (0, 0)).2 * r3.2))) && (small24 (((s.getD t24.toNat (0, 0)).1 * r3.2) + ((s.getD t24.toNat (0, 0)).2 * r3.1))) then
          bif inBounds t24 s.length then
            some (.inl (s.set t24.toNat (((s.getD t24.toNat (0, 0)).1 * r3.1) - ((s.getD t24.toNat (0, 0)).2 * r3.2), ((s.getD t24.toNat (0, 0)).1 * r3.2) + ((s.getD t24.toNat (0, 0)).2 * r3.1)), t23, wr (t24 + 1), p))
          else
            none
        else
          none)
        (none)
    else
      none
  else
    some (.inr s)
theorem one105_0 : oneLoop Try.prog 105 0 = true := by kernel_rfl
theorem lp105_0 : ItemOk Try.prog (.loop 105 0 T105_0 X105_0 (loopVal step105_0)) := item_loop (U := 9) (n := 2) noSpecial mixed Ga3K20_ok one105_0 (fun x => by kernel_rfl)
noncomputable def Ga4K1 : List Ev.Item := .loop 105 0 T105_0 X105_0 (loopVal step105_0) :: Ga3K20
theorem Ga4K1_ok : ∀ q ∈ Ga4K1, ItemOk Try.prog q := items_cons lp105_0 Ga3K20_ok
noncomputable def s44 : (Int × Int × Int) × (List (Int × Int)) → Option ((List (Int × Int)) × Int) := fun (p, x0) =>
  optE (p106 x0) (fun r1 =>
    bif (firstE [progE p, r1]) != 0 then
      some (([], firstE [progE p, r1]))
    else
      optE (p107 x0) (fun r2 =>
        optE (loopVal step105_0 (r2, (r2.length : Int), 0, p)) (fun e3 =>
          optE (p130 e3) (fun r4 =>
            some ((r4, 0)))
            (none))
          (none))
        (none))
    (none)
theorem i44 : ItemOk Try.prog (.fn 44 [.d (.agg (.pair (.int .i64) (.pair (.int .i64) (.int .i64)))), .d (.slice (.agg (.pair (.int .i64) (.int .i64))))] [.own 23 (.agg (.pair (.int .i64) (.int .i64))), .d (.int .i64)] s44) := item_fn (U := 9) (n := 4) noSpecial mixed Ga4K1_ok (fun x => by kernel_rfl)
theorem law44 (p : Int × Int × Int) (x : List (Int × Int)) (hg : x.length ≤ 1000000) : s44 (p, x) = some (orE (firstE [progE p, smpE x]) [] (mixL rotB p x)) := by
  simp only [s44, p106_pos hg, optE, orE]
  cases hf : firstE [progE p, smpE x] != 0
  · have hx := firstE_zero.1 (bne_eq_false_iff_eq.1 hf) (smpE x) (by simp)
    have hx' := smpE_zero.1 hx
    have h1 := loop_for (step := step105_0) (st := fun k => (mixTo rotB p x k, (x.length : Int), (k : Int), p)) (n := x.length) (e := mixTo rotB p x x.length)
      (fun k hk => by
        have hb := okG_le (hx'.2 (x.getD k (0, 0)) (getD_mem hk)) (by omega)
        have ht := turnOf_range p k
        have hs := small_rot (rotB_cases (turnOf p k)) hb
        simp only [step105_0, lt_cast, inB_cast, mixTo_length, hk, decide_true, cond_true, Int.toNat_natCast, wr_succ (show k < 4611686018427387904 by omega), p103_pos (show 0 ≤ turnOf p k from ht.1), optE, mixTo_get rotB p x hk]
        rw [show small24 ((x.getD k (0, 0)).1 * (rotB (turnOf p k)).1 - (x.getD k (0, 0)).2 * (rotB (turnOf p k)).2) = true from hs.1, show small24 ((x.getD k (0, 0)).1 * (rotB (turnOf p k)).2 + (x.getD k (0, 0)).2 * (rotB (turnOf p k)).1) = true from hs.2]
        simp only [Bool.and_self, cond_true]
        exact congrArg (fun s => some (Sum.inl (s, (x.length : Int), ((k + 1 : Nat) : Int), p))) (mixTo_set rotB p x hk)) (by simp [step105_0]) 0 (by omega)
    rw [show ((0 : Nat) : Int) = 0 from rfl, mixTo_zero] at h1
    simp only [cond_false, p107_pos (smp_sig hx), optE, h1]
    rw [p130_pos (by rw [mixTo_length]; exact hg)]
    rw [mixTo_all]
  · rfl
noncomputable def p44 : (Int × Int × Int) × (List (Int × Int)) → Option (List (Int × Int) × Int) := fun x => if x.2.length ≤ 1000000 then some (orE (firstE [progE x.1, smpE x.2]) [] (mixL rotB x.1 x.2)) else none
theorem p44_pos {x : (Int × Int × Int) × (List (Int × Int))} (h : x.2.length ≤ 1000000) : p44 x = some (orE (firstE [progE x.1, smpE x.2]) [] (mixL rotB x.1 x.2)) := if_pos h
theorem j44 : ItemOk Try.prog (.fn 44 [.d (.agg (.pair (.int .i64) (.pair (.int .i64) (.int .i64)))), .d (.slice (.agg (.pair (.int .i64) (.int .i64))))] [.own 23 (.agg (.pair (.int .i64) (.int .i64))), .d (.int .i64)] (p44)) := item_imp i44 (by
  intro x y h
  unfold p44 at h
  split at h
  · rename_i hg
    rw [← h]
    exact law44 x.1 x.2 hg
  · cases h)
noncomputable def Ga4K2 : List Ev.Item := .fn 44 [.d (.agg (.pair (.int .i64) (.pair (.int .i64) (.int .i64)))), .d (.slice (.agg (.pair (.int .i64) (.int .i64))))] [.own 23 (.agg (.pair (.int .i64) (.int .i64))), .d (.int .i64)] (p44) :: Ga4K1
theorem Ga4K2_ok : ∀ q ∈ Ga4K2, ItemOk Try.prog q := items_cons j44 Ga4K1_ok

/-! cassegrain sample.Unmixed -/
@[reducible] def T105_0a : Tmpl := ⟨41, [(2, .fn 109), (3, .ref 3 0 0 0)], [.own 9 21 127 .zc, .val 23 (.int .i64), .val 24 (.int .i64), .cells 3 [.d (.pair (.int .i64) (.pair (.int .i64) (.int .i64)))]]⟩
@[reducible] def X105_0a : List (Ex × Tmpl) := [(.exit 0, ⟨41, [], [.own 9 21 127 .zc]⟩)]
/-- data: s, t23, t24, p; ends: exit 0: s -/
noncomputable def step105_0a : (List (Int × Int)) × Int × Int × (Int × Int × Int) → Option (((List (Int × Int)) × Int × Int × (Int × Int × Int)) ⊕ (List (Int × Int))) := fun (s, t23, t24, p) =>
  bif decide (t24 < t23) then
    bif inBounds t24 s.length then
      optE (p109 (turnOf p t24)) (fun r3 =>
        bif (small24 (((s.getD t24.toNat (0, 0)).1 * r3.1) - ((s.getD t24.toNat (0, 0)).2 * r3.2))) && (small24 (((s.getD t24.toNat (0, 0)).1 * r3.2) + ((s.getD t24.toNat (0, 0)).2 * r3.1))) then
          bif inBounds t24 s.length then
            some (.inl (s.set t24.toNat (((s.getD t24.toNat (0, 0)).1 * r3.1) - ((s.getD t24.toNat (0, 0)).2 * r3.2), ((s.getD t24.toNat (0, 0)).1 * r3.2) + ((s.getD t24.toNat (0, 0)).2 * r3.1)), t23, wr (t24 + 1), p))
          else
            none
        else
          none)
        (none)
    else
      none
  else
    some (.inr s)
theorem one105_0a : oneLoop Try.prog 105 0 = true := by kernel_rfl
theorem lp105_0a : ItemOk Try.prog (.loop 105 0 T105_0a X105_0a (loopVal step105_0a)) := item_loop (U := 9) (n := 2) noSpecial mixed Ga4K2_ok one105_0a (fun x => by kernel_rfl)
noncomputable def Ga4K3 : List Ev.Item := .loop 105 0 T105_0a X105_0a (loopVal step105_0a) :: Ga4K2
theorem Ga4K3_ok : ∀ q ∈ Ga4K3, ItemOk Try.prog q := items_cons lp105_0a Ga4K2_ok
noncomputable def s78 : (Int × Int × Int) × (List (Int × Int)) → Option ((List (Int × Int)) × Int) := fun (p, x0) =>
  optE (p106 x0) (fun r1 =>
    bif (firstE [progE p, r1]) != 0 then
      some (([], firstE [progE p, r1]))
    else
      optE (p107 x0) (fun r2 =>
        optE (loopVal step105_0a (r2, (r2.length : Int), 0, p)) (fun e3 =>
          optE (p130 e3) (fun r4 =>
            some ((r4, 0)))
            (none))
          (none))
        (none))
    (none)
theorem i78 : ItemOk Try.prog (.fn 78 [.d (.agg (.pair (.int .i64) (.pair (.int .i64) (.int .i64)))), .d (.slice (.agg (.pair (.int .i64) (.int .i64))))] [.own 23 (.agg (.pair (.int .i64) (.int .i64))), .d (.int .i64)] s78) := item_fn (U := 9) (n := 4) noSpecial mixed Ga4K3_ok (fun x => by kernel_rfl)
theorem law78 (p : Int × Int × Int) (x : List (Int × Int)) (hg : x.length ≤ 1000000) : s78 (p, x) = some (orE (firstE [progE p, smpE x]) [] (mixL rotF p x)) := by
  simp only [s78, p106_pos hg, optE, orE]
  cases hf : firstE [progE p, smpE x] != 0
  · have hx := firstE_zero.1 (bne_eq_false_iff_eq.1 hf) (smpE x) (by simp)
    have hx' := smpE_zero.1 hx
    have h1 := loop_for (step := step105_0a) (st := fun k => (mixTo rotF p x k, (x.length : Int), (k : Int), p)) (n := x.length) (e := mixTo rotF p x x.length)
      (fun k hk => by
        have hb := okG_le (hx'.2 (x.getD k (0, 0)) (getD_mem hk)) (by omega)
        have ht := turnOf_range p k
        have hs := small_rot (rotF_cases (turnOf p k)) hb
        simp only [step105_0a, lt_cast, inB_cast, mixTo_length, hk, decide_true, cond_true, Int.toNat_natCast, wr_succ (show k < 4611686018427387904 by omega), p109_pos (show 0 ≤ turnOf p k from ht.1), optE, mixTo_get rotF p x hk]
        rw [show small24 ((x.getD k (0, 0)).1 * (rotF (turnOf p k)).1 - (x.getD k (0, 0)).2 * (rotF (turnOf p k)).2) = true from hs.1, show small24 ((x.getD k (0, 0)).1 * (rotF (turnOf p k)).2 + (x.getD k (0, 0)).2 * (rotF (turnOf p k)).1) = true from hs.2]
        simp only [Bool.and_self, cond_true]
        exact congrArg (fun s => some (Sum.inl (s, (x.length : Int), ((k + 1 : Nat) : Int), p))) (mixTo_set rotF p x hk)) (by simp [step105_0a]) 0 (by omega)
    rw [show ((0 : Nat) : Int) = 0 from rfl, mixTo_zero] at h1
    simp only [cond_false, p107_pos (smp_sig hx), optE, h1]
    rw [p130_pos (by rw [mixTo_length]; exact hg)]
    rw [mixTo_all]
  · rfl
noncomputable def p78 : (Int × Int × Int) × (List (Int × Int)) → Option (List (Int × Int) × Int) := fun x => if x.2.length ≤ 1000000 then some (orE (firstE [progE x.1, smpE x.2]) [] (mixL rotF x.1 x.2)) else none
theorem p78_pos {x : (Int × Int × Int) × (List (Int × Int))} (h : x.2.length ≤ 1000000) : p78 x = some (orE (firstE [progE x.1, smpE x.2]) [] (mixL rotF x.1 x.2)) := if_pos h
theorem j78 : ItemOk Try.prog (.fn 78 [.d (.agg (.pair (.int .i64) (.pair (.int .i64) (.int .i64)))), .d (.slice (.agg (.pair (.int .i64) (.int .i64))))] [.own 23 (.agg (.pair (.int .i64) (.int .i64))), .d (.int .i64)] (p78)) := item_imp i78 (by
  intro x y h
  unfold p78 at h
  split at h
  · rename_i hg
    rw [← h]
    exact law78 x.1 x.2 hg
  · cases h)
noncomputable def Ga4K4 : List Ev.Item := .fn 78 [.d (.agg (.pair (.int .i64) (.pair (.int .i64) (.int .i64)))), .d (.slice (.agg (.pair (.int .i64) (.int .i64))))] [.own 23 (.agg (.pair (.int .i64) (.int .i64))), .d (.int .i64)] (p78) :: Ga4K3
theorem Ga4K4_ok : ∀ q ∈ Ga4K4, ItemOk Try.prog q := items_cons j78 Ga4K3_ok

/-! cassegrain sample.SaturatedAt -/
@[reducible] def T81_0 : Tmpl := ⟨29, [], [.own 5 26 3 (.int .i64), .val 13 (.slice (.agg (.pair (.int .i64) (.int .i64)))), .val 14 (.int .i64), .val 15 (.int .i64)]⟩
@[reducible] def X81_0 : List (Ex × Tmpl) := [(.exit 0, ⟨29, [], [.own 5 26 3 (.int .i64)]⟩)]
/-- data: out, t13, t14, t15; ends: exit 0: out -/
noncomputable def step81_0 : (List Int) × (List (Int × Int)) × Int × Int → Option (((List Int) × (List (Int × Int)) × Int × Int) ⊕ (List Int)) := fun (out, t13, t14, t15) =>
  bif decide (t15 < t14) then
    bif inBounds t15 t13.length then
      bif !(okG 1999 (t13.getD t15.toNat (0, 0))) then
        bif room 8 (out.length + 1) then
          some (.inl (out ++ [t15], t13, t14, wr (t15 + 1)))
        else
          none
      else
        some (.inl (out, t13, t14, wr (t15 + 1)))
    else
      none
  else
    some (.inr out)
theorem one81_0 : oneLoop Try.prog 81 0 = true := by kernel_rfl
theorem lp81_0 : ItemOk Try.prog (.loop 81 0 T81_0 X81_0 (loopVal step81_0)) := item_loop (U := 9) (n := 3) noSpecial mixed Ga4K4_ok one81_0 (fun x => by kernel_rfl)
noncomputable def Ga4K5 : List Ev.Item := .loop 81 0 T81_0 X81_0 (loopVal step81_0) :: Ga4K4
theorem Ga4K5_ok : ∀ q ∈ Ga4K5, ItemOk Try.prog q := items_cons lp81_0 Ga4K4_ok
noncomputable def s81 : List (Int × Int) → Option ((List Int) × Int) := fun x0 =>
  optE (p106 x0) (fun r1 =>
    bif r1 != 0 then
      some (([], r1))
    else
      optE (loopVal step81_0 ([], x0, (x0.length : Int), 0)) (fun e2 =>
        some ((e2, 0)))
        (none))
    (none)
theorem i81 : ItemOk Try.prog (.fn 81 [.d (.slice (.agg (.pair (.int .i64) (.int .i64))))] [.own 3 (.int .i64), .d (.int .i64)] s81) := item_fn (U := 9) (n := 4) noSpecial mixed Ga4K5_ok (fun x => by kernel_rfl)
theorem law81 (x : List (Int × Int)) (hg : x.length ≤ 1000000) : s81 x = some (orE (smpE x) [] (satOf x)) := by
  simp only [s81, p106_pos hg, optE, orE]
  cases hf : smpE x != 0
  · have h1 := loop_for (step := step81_0) (st := fun k => (satTo x k, x, (x.length : Int), (k : Int))) (n := x.length) (e := satOf x)
      (fun k hk => by
        simp only [step81_0, lt_cast, inB_cast, hk, decide_true, cond_true, Int.toNat_natCast, wr_succ (show k < 4611686018427387904 by omega), pair_eta]
        rw [room_true (by have := satTo_length x k; omega) (by have := satTo_length x k; omega)]
        cases h : okG 1999 (x.getD k (0, 0)) <;> simp only [satTo_succ, h, Bool.not_true, Bool.not_false, cond_true, cond_false, if_true, if_false, Bool.false_eq_true]) (by simp [step81_0, satOf]) 0 (by omega)
    rw [show ((0 : Nat) : Int) = 0 from rfl] at h1
    have h0 : satTo x 0 = [] := rfl
    rw [h0] at h1
    simp only [cond_false, h1]
  · rfl
noncomputable def p81 : List (Int × Int) → Option (List Int × Int) := fun x => if x.length ≤ 1000000 then some (orE (smpE x) [] (satOf x)) else none
theorem p81_pos {x : List (Int × Int)} (h : x.length ≤ 1000000) : p81 x = some (orE (smpE x) [] (satOf x)) := if_pos h
theorem j81 : ItemOk Try.prog (.fn 81 [.d (.slice (.agg (.pair (.int .i64) (.int .i64))))] [.own 3 (.int .i64), .d (.int .i64)] (p81)) := item_imp i81 (by
  intro x y h
  unfold p81 at h
  split at h
  · rename_i hg
    rw [← h]
    exact law81 x hg
  · cases h)
noncomputable def Ga4K6 : List Ev.Item := .fn 81 [.d (.slice (.agg (.pair (.int .i64) (.int .i64))))] [.own 3 (.int .i64), .d (.int .i64)] (p81) :: Ga4K5
theorem Ga4K6_ok : ∀ q ∈ Ga4K6, ItemOk Try.prog q := items_cons j81 Ga4K5_ok

/-! cassegrain cassegrainbase.GPart -/
noncomputable def s129 : Int × Int → Option (Int) := fun a =>
  some (mx (sizeW a.1) (sizeW a.2))
theorem i129 : ItemOk Try.prog (.fn 129 [.d (.agg (.pair (.int .i64) (.int .i64)))] [.d (.int .i64)] s129) := item_fn (U := 9) (n := 4) noSpecial mixed Ga4K6_ok (fun x => by kernel_rfl)
theorem j129 : ItemOk Try.prog (.fn 129 [.d (.agg (.pair (.int .i64) (.int .i64)))] [.d (.int .i64)] (fun x => some (mx (sizeW x.1) (sizeW x.2)))) := item_imp i129 (by
  intro x y h
  rw [← h]; rfl)
noncomputable def Ga4K7 : List Ev.Item := .fn 129 [.d (.agg (.pair (.int .i64) (.int .i64)))] [.d (.int .i64)] (fun x => some (mx (sizeW x.1) (sizeW x.2))) :: Ga4K6
theorem Ga4K7_ok : ∀ q ∈ Ga4K7, ItemOk Try.prog q := items_cons j129 Ga4K6_ok

/-! cassegrain cassegrainref02.SaturatedAt -/
@[reducible] def T82_0 : Tmpl := ⟨22, [], [.val 0 (.slice (.agg (.pair (.int .i64) (.int .i64)))), .own 3 20 3 (.int .i64), .val 4 (.int .i64)]⟩
@[reducible] def X82_0 : List (Ex × Tmpl) := [(.exit 0, ⟨22, [], [.own 3 20 3 (.int .i64)]⟩)]
/-- data: x0, out, i; ends: exit 0: out -/
noncomputable def step82_0 : (List (Int × Int)) × (List Int) × Int → Option (((List (Int × Int)) × (List Int) × Int) ⊕ (List Int)) := fun (x0, out, i) =>
  bif decide (i < (x0.length : Int)) then
    bif inBounds i x0.length then
      bif (mx (sizeW (x0.getD i.toNat (0, 0)).1) (sizeW (x0.getD i.toNat (0, 0)).2)) == 2000 then
        bif room 8 (out.length + 1) then
          some (.inl (x0, out ++ [i], wr (i + 1)))
        else
          none
      else
        some (.inl (x0, out, wr (i + 1)))
    else
      none
  else
    some (.inr out)
theorem one82_0 : oneLoop Try.prog 82 0 = true := by kernel_rfl
theorem lp82_0 : ItemOk Try.prog (.loop 82 0 T82_0 X82_0 (loopVal step82_0)) := item_loop (U := 9) (n := 3) noSpecial mixed Ga4K7_ok one82_0 (fun x => by kernel_rfl)
noncomputable def Ga4K8 : List Ev.Item := .loop 82 0 T82_0 X82_0 (loopVal step82_0) :: Ga4K7
theorem Ga4K8_ok : ∀ q ∈ Ga4K8, ItemOk Try.prog q := items_cons lp82_0 Ga4K7_ok
noncomputable def s82 : List (Int × Int) → Option (List Int) := fun x0 =>
  optE (loopVal step82_0 (x0, [], 0)) (fun e1 =>
    some (e1))
    (none)
theorem i82 : ItemOk Try.prog (.fn 82 [.d (.slice (.agg (.pair (.int .i64) (.int .i64))))] [.own 3 (.int .i64)] s82) := item_fn (U := 9) (n := 4) noSpecial mixed Ga4K8_ok (fun x => by kernel_rfl)
theorem law82 (x : List (Int × Int)) (hg : smpE x = 0) : s82 x = some (satOf x) := by
  have hg' := smpE_zero.1 hg
  have h1 := loop_for (step := step82_0) (st := fun k => (x, satTo x k, (k : Int))) (n := x.length) (e := satOf x)
    (fun k hk => by
      have hb := hg'.2 (x.getD k (0, 0)) (getD_mem hk)
      simp only [step82_0, lt_cast, inB_cast, hk, decide_true, cond_true, Int.toNat_natCast, wr_succ (show k < 4611686018427387904 by omega)]
      rw [room_true (by have := satTo_length x k; omega) (by have := satTo_length x k; omega), sat_iff hb]
      cases h : okG 1999 (x.getD k (0, 0)) <;> simp only [satTo_succ, h, Bool.not_true, Bool.not_false, cond_true, cond_false, if_true, if_false, Bool.false_eq_true]) (by simp [step82_0, satOf]) 0 (by omega)
  rw [show ((0 : Nat) : Int) = 0 from rfl] at h1
  have h0 : satTo x 0 = [] := rfl
  rw [h0] at h1
  simp only [s82, h1, optE]
noncomputable def p82 : List (Int × Int) → Option (List Int) := fun x => if smpE x = 0 then some (satOf x) else none
theorem p82_pos {x : List (Int × Int)} (h : smpE x = 0) : p82 x = some (satOf x) := if_pos h
theorem j82 : ItemOk Try.prog (.fn 82 [.d (.slice (.agg (.pair (.int .i64) (.int .i64))))] [.own 3 (.int .i64)] (p82)) := item_imp i82 (by
  intro x y h
  unfold p82 at h
  split at h
  · rename_i hg
    rw [← h]
    exact law82 x hg
  · cases h)
noncomputable def Ga4K9 : List Ev.Item := .fn 82 [.d (.slice (.agg (.pair (.int .i64) (.int .i64))))] [.own 3 (.int .i64)] (p82) :: Ga4K8
theorem Ga4K9_ok : ∀ q ∈ Ga4K9, ItemOk Try.prog q := items_cons j82 Ga4K8_ok

/-! cassegrain sample.energy -/
@[reducible] def T126_0 : Tmpl := ⟨27, [], [.val 3 (.int .i64), .val 6 (.slice (.agg (.pair (.int .i64) (.int .i64)))), .val 7 (.int .i64), .val 8 (.int .i64)]⟩
@[reducible] def X126_0 : List (Ex × Tmpl) := [(.exit 0, ⟨27, [], [.val 3 (.int .i64)]⟩)]
/-- data: sum, t6, t7, t8; ends: exit 0: sum -/
noncomputable def step126_0 : Int × (List (Int × Int)) × Int × Int → Option ((Int × (List (Int × Int)) × Int × Int) ⊕ (Int)) := fun (sum, t6, t7, t8) =>
  bif decide (t8 < t7) then
    bif inBounds t8 t6.length then
      some (.inl (wr (sum + (wr ((wr ((t6.getD t8.toNat (0, 0)).1 * (t6.getD t8.toNat (0, 0)).1)) + (wr ((t6.getD t8.toNat (0, 0)).2 * (t6.getD t8.toNat (0, 0)).2))))), t6, t7, wr (t8 + 1)))
    else
      none
  else
    some (.inr sum)
theorem one126_0 : oneLoop Try.prog 126 0 = true := by kernel_rfl
theorem lp126_0 : ItemOk Try.prog (.loop 126 0 T126_0 X126_0 (loopVal step126_0)) := item_loop (U := 9) (n := 3) noSpecial mixed Ga4K9_ok one126_0 (fun x => by kernel_rfl)
noncomputable def Ga4K10 : List Ev.Item := .loop 126 0 T126_0 X126_0 (loopVal step126_0) :: Ga4K9
theorem Ga4K10_ok : ∀ q ∈ Ga4K10, ItemOk Try.prog q := items_cons lp126_0 Ga4K9_ok
noncomputable def s126 : List (Int × Int) → Option (Int) := fun x0 =>
  optE (loopVal step126_0 (0, x0, (x0.length : Int), 0)) (fun e1 =>
    some (e1))
    (none)
theorem i126 : ItemOk Try.prog (.fn 126 [.d (.slice (.agg (.pair (.int .i64) (.int .i64))))] [.d (.int .i64)] s126) := item_fn (U := 9) (n := 4) noSpecial mixed Ga4K10_ok (fun x => by kernel_rfl)
theorem law126 (x : List (Int × Int)) (hg : x.length ≤ 1000000) : s126 x = some (energyW x) := by
  have h1 := loop_for (step := step126_0) (st := fun k => ((x.take k).foldl (fun s g => wr (s + normW g)) 0, x, (x.length : Int), (k : Int))) (n := x.length) (e := energyW x)
    (fun k hk => by
      simp only [step126_0, lt_cast, inB_cast, hk, decide_true, cond_true, Int.toNat_natCast, wr_succ (show k < 4611686018427387904 by omega), ← foldl_take_succ (fun s g => wr (s + normW g)) 0 x (0, 0) hk]
      rfl) (by simp [step126_0, energyW]) 0 (by omega)
  rw [show ((0 : Nat) : Int) = 0 from rfl] at h1
  simp only [List.take_zero, List.foldl_nil] at h1
  simp only [s126, h1, optE]
noncomputable def p126 : List (Int × Int) → Option (Int) := fun x => if x.length ≤ 1000000 then some (energyW x) else none
theorem p126_pos {x : List (Int × Int)} (h : x.length ≤ 1000000) : p126 x = some (energyW x) := if_pos h
theorem j126 : ItemOk Try.prog (.fn 126 [.d (.slice (.agg (.pair (.int .i64) (.int .i64))))] [.d (.int .i64)] (p126)) := item_imp i126 (by
  intro x y h
  unfold p126 at h
  split at h
  · rename_i hg
    rw [← h]
    exact law126 x hg
  · cases h)
noncomputable def Ga4K11 : List Ev.Item := .fn 126 [.d (.slice (.agg (.pair (.int .i64) (.int .i64))))] [.d (.int .i64)] (p126) :: Ga4K10
theorem Ga4K11_ok : ∀ q ∈ Ga4K11, ItemOk Try.prog q := items_cons j126 Ga4K10_ok

/-! cassegrain sample.EnergyOf -/
noncomputable def s79 : List (Int × Int) → Option (Int × Int) := fun x0 =>
  optE (p106 x0) (fun r1 =>
    bif r1 != 0 then
      some ((0, r1))
    else
      optE (p126 x0) (fun r2 =>
        some ((r2, 0)))
        (none))
    (none)
theorem i79 : ItemOk Try.prog (.fn 79 [.d (.slice (.agg (.pair (.int .i64) (.int .i64))))] [.d (.int .i64), .d (.int .i64)] s79) := item_fn (U := 9) (n := 4) noSpecial mixed Ga4K11_ok (fun x => by kernel_rfl)
theorem law79 (x : List (Int × Int)) (hg : x.length ≤ 1000000) : s79 x = some (orE (smpE x) 0 (energyW x)) := by
  simp only [s79, p106_pos hg, p126_pos hg, optE, orE]
  cases smpE x != 0 <;> rfl
noncomputable def p79 : List (Int × Int) → Option (Int × Int) := fun x => if x.length ≤ 1000000 then some (orE (smpE x) 0 (energyW x)) else none
theorem p79_pos {x : List (Int × Int)} (h : x.length ≤ 1000000) : p79 x = some (orE (smpE x) 0 (energyW x)) := if_pos h
theorem j79 : ItemOk Try.prog (.fn 79 [.d (.slice (.agg (.pair (.int .i64) (.int .i64))))] [.d (.int .i64), .d (.int .i64)] (p79)) := item_imp i79 (by
  intro x y h
  unfold p79 at h
  split at h
  · rename_i hg
    rw [← h]
    exact law79 x hg
  · cases h)
noncomputable def Ga4K12 : List Ev.Item := .fn 79 [.d (.slice (.agg (.pair (.int .i64) (.int .i64))))] [.d (.int .i64), .d (.int .i64)] (p79) :: Ga4K11
theorem Ga4K12_ok : ∀ q ∈ Ga4K12, ItemOk Try.prog q := items_cons j79 Ga4K11_ok

/-! cassegrain cassegrainref02.EnergyOf -/
@[reducible] def T83_0 : Tmpl := ⟨19, [], [.val 0 (.slice (.agg (.pair (.int .i64) (.int .i64)))), .val 3 (.int .i64), .val 4 (.int .i64)]⟩
@[reducible] def X83_0 : List (Ex × Tmpl) := [(.exit 0, ⟨19, [], [.val 3 (.int .i64)]⟩)]
/-- data: x0, sum, n; ends: exit 0: sum -/
noncomputable def step83_0 : (List (Int × Int)) × Int × Int → Option (((List (Int × Int)) × Int × Int) ⊕ (Int)) := fun (x0, sum, n) =>
  bif decide (n < (x0.length : Int)) then
    bif inBounds n x0.length then
      some (.inl (x0, wr (sum + (normW (x0.getD n.toNat (0, 0)))), wr (n + 1)))
    else
      none
  else
    some (.inr sum)
theorem one83_0 : oneLoop Try.prog 83 0 = true := by kernel_rfl
theorem lp83_0 : ItemOk Try.prog (.loop 83 0 T83_0 X83_0 (loopVal step83_0)) := item_loop (U := 9) (n := 3) noSpecial mixed Ga4K12_ok one83_0 (fun x => by kernel_rfl)
noncomputable def Ga4K13 : List Ev.Item := .loop 83 0 T83_0 X83_0 (loopVal step83_0) :: Ga4K12
theorem Ga4K13_ok : ∀ q ∈ Ga4K13, ItemOk Try.prog q := items_cons lp83_0 Ga4K12_ok
noncomputable def s83 : List (Int × Int) → Option (Int) := fun x0 =>
  optE (loopVal step83_0 (x0, 0, 0)) (fun e1 =>
    some (e1))
    (none)
theorem i83 : ItemOk Try.prog (.fn 83 [.d (.slice (.agg (.pair (.int .i64) (.int .i64))))] [.d (.int .i64)] s83) := item_fn (U := 9) (n := 4) noSpecial mixed Ga4K13_ok (fun x => by kernel_rfl)
theorem law83 (x : List (Int × Int)) (hg : x.length ≤ 1000000) : s83 x = some (energyW x) := by
  have h1 := loop_for (step := step83_0) (st := fun k => (x, (x.take k).foldl (fun s g => wr (s + normW g)) 0, (k : Int))) (n := x.length) (e := energyW x)
    (fun k hk => by
      simp only [step83_0, lt_cast, inB_cast, hk, decide_true, cond_true, Int.toNat_natCast, wr_succ (show k < 4611686018427387904 by omega), ← foldl_take_succ (fun s g => wr (s + normW g)) 0 x (0, 0) hk]) (by simp [step83_0, energyW]) 0 (by omega)
  rw [show ((0 : Nat) : Int) = 0 from rfl] at h1
  simp only [List.take_zero, List.foldl_nil] at h1
  simp only [s83, h1, optE]
noncomputable def p83 : List (Int × Int) → Option (Int) := fun x => if x.length ≤ 1000000 then some (energyW x) else none
theorem p83_pos {x : List (Int × Int)} (h : x.length ≤ 1000000) : p83 x = some (energyW x) := if_pos h
theorem j83 : ItemOk Try.prog (.fn 83 [.d (.slice (.agg (.pair (.int .i64) (.int .i64))))] [.d (.int .i64)] (p83)) := item_imp i83 (by
  intro x y h
  unfold p83 at h
  split at h
  · rename_i hg
    rw [← h]
    exact law83 x hg
  · cases h)
noncomputable def Ga4K14 : List Ev.Item := .fn 83 [.d (.slice (.agg (.pair (.int .i64) (.int .i64))))] [.d (.int .i64)] (p83) :: Ga4K13
theorem Ga4K14_ok : ∀ q ∈ Ga4K14, ItemOk Try.prog q := items_cons j83 Ga4K13_ok

/-! cassegrain cassegrainref02.Mixed -/
@[reducible] def T84_0 : Tmpl := ⟨30, [(3, .ref 3 0 0 0)], [.val 1 (.slice (.agg (.pair (.int .i64) (.int .i64)))), .val 2 (.int .i64), .own 7 28 23 (.agg (.pair (.int .i64) (.int .i64))), .val 8 (.int .i64), .cells 3 [.d (.pair (.int .i64) (.pair (.int .i64) (.int .i64)))]]⟩
@[reducible] def X84_0 : List (Ex × Tmpl) := [(.exit 0, ⟨30, [], [.own 7 28 23 (.agg (.pair (.int .i64) (.int .i64)))]⟩)]
/-- data: x0, sign, out, n, p; ends: exit 0: out -/
noncomputable def step84_0 : (List (Int × Int)) × Int × (List (Int × Int)) × Int × (Int × Int × Int) → Option (((List (Int × Int)) × Int × (List (Int × Int)) × Int × (Int × Int × Int)) ⊕ (List (Int × Int))) := fun (x0, sign, out, n, p) =>
  bif decide (n < (x0.length : Int)) then
    bif inBounds n x0.length then
      bif room 16 (out.length + 1) then
        some (.inl (x0, sign, out ++ [(gmulW (x0.getD n.toNat (0, 0)) (rotF (wr (sign * (turnOf p n)))))], wr (n + 1), p))
      else
        none
    else
      none
  else
    some (.inr out)
theorem one84_0 : oneLoop Try.prog 84 0 = true := by kernel_rfl
theorem lp84_0 : ItemOk Try.prog (.loop 84 0 T84_0 X84_0 (loopVal step84_0)) := item_loop (U := 9) (n := 3) noSpecial mixed Ga4K14_ok one84_0 (fun x => by kernel_rfl)
noncomputable def Ga4K15 : List Ev.Item := .loop 84 0 T84_0 X84_0 (loopVal step84_0) :: Ga4K14
theorem Ga4K15_ok : ∀ q ∈ Ga4K15, ItemOk Try.prog q := items_cons lp84_0 Ga4K14_ok
noncomputable def s84 : (Int × Int × Int) × (List (Int × Int)) × Int → Option (List (Int × Int)) := fun (p, x0, sign) =>
  optE (loopVal step84_0 (x0, sign, [], 0, p)) (fun e1 =>
    some (e1))
    (none)
theorem i84 : ItemOk Try.prog (.fn 84 [.d (.agg (.pair (.int .i64) (.pair (.int .i64) (.int .i64)))), .d (.slice (.agg (.pair (.int .i64) (.int .i64)))), .d (.int .i64)] [.own 23 (.agg (.pair (.int .i64) (.int .i64)))] s84) := item_fn (U := 9) (n := 4) noSpecial mixed Ga4K15_ok (fun x => by kernel_rfl)
theorem law84 (p : Int × Int × Int) (x : List (Int × Int)) (sign : Int) (hg : smpE x = 0 ∧ (sign = 1 ∨ sign = -1)) : s84 (p, x, sign) = some (mixL (fun t => rotF (sign * t)) p x) := by
  have hg' := smpE_zero.1 hg.1
  have h1 := loop_for (step := step84_0) (st := fun k => (x, sign, (List.range k).map (fun j : Nat => cmul (x.getD j (0, 0)) (rotF (sign * turnOf p j))), (k : Int), p)) (n := x.length) (e := mixL (fun t => rotF (sign * t)) p x)
    (fun k hk => by
      have hb := okG_le (hg'.2 (x.getD k (0, 0)) (getD_mem hk)) (by omega)
      have ht := turnOf_range p k
      simp only [step84_0, lt_cast, inB_cast, hk, decide_true, cond_true, Int.toNat_natCast, wr_succ (show k < 4611686018427387904 by omega), pair_eta]
      rw [wr_id (n := sign * turnOf p k) (by rcases hg.2 with e | e <;> rw [e] <;> omega) (by rcases hg.2 with e | e <;> rw [e] <;> omega), gmul_rot (rotF_cases _) hb, room_true (by simp; omega) (by simp; omega)]
      simp only [cond_true, range_map_succ (fun j : Nat => cmul (x.getD j (0, 0)) (rotF (sign * turnOf p j)))]) (by simp [step84_0, mixL]) 0 (by omega)
  rw [show ((0 : Nat) : Int) = 0 from rfl] at h1
  simp only [List.range_zero, List.map_nil] at h1
  simp only [s84, h1, optE]
noncomputable def p84 : (Int × Int × Int) × (List (Int × Int)) × (Int) → Option (List (Int × Int)) := fun x => if smpE x.2.1 = 0 ∧ (x.2.2 = 1 ∨ x.2.2 = -1) then some (mixL (fun t => rotF (x.2.2 * t)) x.1 x.2.1) else none
theorem p84_pos {x : (Int × Int × Int) × (List (Int × Int)) × (Int)} (h : smpE x.2.1 = 0 ∧ (x.2.2 = 1 ∨ x.2.2 = -1)) : p84 x = some (mixL (fun t => rotF (x.2.2 * t)) x.1 x.2.1) := if_pos h
theorem j84 : ItemOk Try.prog (.fn 84 [.d (.agg (.pair (.int .i64) (.pair (.int .i64) (.int .i64)))), .d (.slice (.agg (.pair (.int .i64) (.int .i64)))), .d (.int .i64)] [.own 23 (.agg (.pair (.int .i64) (.int .i64)))] (p84)) := item_imp i84 (by
  intro x y h
  unfold p84 at h
  split at h
  · rename_i hg
    rw [← h]
    exact law84 x.1 x.2.1 x.2.2 hg
  · cases h)
noncomputable def Ga4K16 : List Ev.Item := .fn 84 [.d (.agg (.pair (.int .i64) (.pair (.int .i64) (.int .i64)))), .d (.slice (.agg (.pair (.int .i64) (.int .i64)))), .d (.int .i64)] [.own 23 (.agg (.pair (.int .i64) (.int .i64)))] (p84) :: Ga4K15
theorem Ga4K16_ok : ∀ q ∈ Ga4K16, ItemOk Try.prog q := items_cons j84 Ga4K15_ok
end Go.Proofs.Ytinkhmfciealkaa
