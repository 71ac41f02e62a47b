/- Printed by gen.py: specifications of functions. -/
import Derived.Test.YtdoehknomnhlkaaDoorGc4
set_option linter.unusedSimpArgs false
set_option maxRecDepth 100000
namespace Go.Proofs.YtdoehknomnhlkaaDoor
open Go.Ev
@[reducible] def T7_6Re : Tmpl := ⟨66, [(4, .ref 7004 0 0 0), (5, .ref 7005 0 0 0), (16036, .mref 8900), (32001, .ref 6004 0 0 0), (32004, .ref 7902 0 0 0), (32005, .ref 6005 0 0 0), (48001, .ref 6004 0 0 0), (48004, .ref 7902 0 0 0), (48005, .ref 6005 0 0 0), (64001, .ref 6004 0 0 0), (64004, .ref 7902 0 0 0), (64005, .ref 6005 0 0 0), (80001, .ref 6004 0 0 0), (80004, .ref 7902 0 0 0), (80005, .ref 6005 0 0 0), (112004, .ref 7004 0 0 0), (112005, .ref 7005 0 0 0), (112006, .ref 7006 0 0 0), (112066, .mref 8900), (144000004, .ref 7004 0 0 0), (144000005, .ref 7005 0 0 0), (144000006, .ref 7006 0 0 0)], [.own 9 2025 3 zI, .val 10 zI, .valv 49 256 .bool, .val 50 zI, .val 32008 zI, .val 48008 zI, .val 64008 zI, .val 80008 zI, .val 112000 (.slice (.agg (.pair zI zP))), .val 112026 zI, .val 112027 zI, .cells 7004 [.d (.slice zI)], .cells 7005 [.d zI], .cells 6004 [.own 2025 3 zI], .cells 7902 [.d zI], .cells 6005 [.clo 46 [.ref 6004, .ref 7903, .ref 6003, .ref 7902, .ref 6005]], .cells 7006 [.d (.ptr swSh)], .cells 7903 [.d zI], .cells 6003 [.hd 8900]], [37, 36, 36, 36, 36, 9, 67], some (8900, .busy)⟩
@[reducible] def X7_6Re : List (Ex × Tmpl) := [(.exit 3, ⟨66, [(16036, .mref 8900), (32001, .ref 6004 0 0 0), (32004, .ref 7902 0 0 0), (32005, .ref 6005 0 0 0), (48001, .ref 6004 0 0 0), (48004, .ref 7902 0 0 0), (48005, .ref 6005 0 0 0), (64001, .ref 6004 0 0 0), (64004, .ref 7902 0 0 0), (64005, .ref 6005 0 0 0), (80001, .ref 6004 0 0 0), (80004, .ref 7902 0 0 0), (80005, .ref 6005 0 0 0), (112004, .ref 7004 0 0 0), (112005, .ref 7005 0 0 0), (112006, .ref 7006 0 0 0), (112066, .mref 8900), (144000004, .ref 7004 0 0 0), (144000005, .ref 7005 0 0 0), (144000006, .ref 7006 0 0 0)], [.val 32008 zI, .val 48008 zI, .val 64008 zI, .val 80008 zI, .val 112000 (.slice (.agg (.pair zI zP))), .val 112026 zI, .val 112027 zI, .cells 6004 [.own 2025 3 zI], .cells 7902 [.d zI], .cells 6005 [.clo 46 [.ref 6004, .ref 7903, .ref 6003, .ref 7902, .ref 6005]], .cells 7004 [.d (.slice zI)], .cells 7005 [.d zI], .cells 7006 [.d (.ptr swSh)], .cells 7903 [.d zI], .cells 6003 [.hd 8900]], [37, 36, 36, 36, 36, 9, 67], some (8900, .busy)⟩), (.exit 6, ⟨66, [(4, .ref 7004 0 0 0), (5, .ref 7005 0 0 0), (16036, .mref 8900), (32001, .ref 6004 0 0 0), (32004, .ref 7902 0 0 0), (32005, .ref 6005 0 0 0), (48001, .ref 6004 0 0 0), (48004, .ref 7902 0 0 0), (48005, .ref 6005 0 0 0), (64001, .ref 6004 0 0 0), (64004, .ref 7902 0 0 0), (64005, .ref 6005 0 0 0), (80001, .ref 6004 0 0 0), (80004, .ref 7902 0 0 0), (80005, .ref 6005 0 0 0), (112004, .ref 7004 0 0 0), (112005, .ref 7005 0 0 0), (112006, .ref 7006 0 0 0), (112066, .mref 8900), (144000004, .ref 7004 0 0 0), (144000005, .ref 7005 0 0 0), (144000006, .ref 7006 0 0 0)], [.own 9 2025 3 zI, .val 32008 zI, .val 48008 zI, .val 64008 zI, .val 80008 zI, .val 112000 (.slice (.agg (.pair zI zP))), .val 112026 zI, .val 112027 zI, .cells 7004 [.d (.slice zI)], .cells 7005 [.d zI], .cells 6004 [.own 2025 3 zI], .cells 7902 [.d zI], .cells 6005 [.clo 46 [.ref 6004, .ref 7903, .ref 6003, .ref 7902, .ref 6005]], .cells 7006 [.d (.ptr swSh)], .cells 7903 [.d zI], .cells 6003 [.hd 8900]], [37, 36, 36, 36, 36, 9, 67], some (8900, .busy)⟩)]
noncomputable def step7_6Re : (List Int) × Int × (List Bool) × Int × Int × Int × Int × Int × (List (Int × Int × Int)) × Int × Int × (List Int) × Int × (List Int) × Int × Unit × SwT × Int × Unit → Option (LpI × (((List Int) × Int × (List Bool) × Int × Int × Int × Int × Int × (List (Int × Int × Int)) × Int × Int × (List Int) × Int × (List Int) × Int × Unit × SwT × Int × Unit) ⊕ ((Int × Int × Int × Int × (List (Int × Int × Int)) × Int × Int × (List Int) × Int × Unit × (List Int) × Int × SwT × Int × Unit) ⊕ ((List Int) × Int × Int × Int × Int × (List (Int × Int × Int)) × Int × Int × (List Int) × Int × (List Int) × Int × Unit × SwT × Int × Unit)))) := fun (_, mask, t49, t50, i, i', i'', i''', l, t112026, t112027, t7004, t7005, t6004, t7902, _, s, t7903, _) =>
 bif decide (t50 < 256) then
  bif inBounds t50 256 then
   bif (padV 256 .bool t49).getD t50.toNat false then
    bif (andI .i64 t50 mask) == mask then
     some (Lp7_0, .inr (.inl (i, i', i'', i''', l, t112026, t112027, t6004, t7902, (), t7004, t7005, s, t7903, ())))
    else
     some (Lp7_0, .inl (t6004, mask, padV 256 .bool t49, wr (t50 + 1), i, i', i'', i''', l, t112026, t112027, t7004, t7005, t6004, t7902, (), s, t7903, ()))
   else
    some (Lp7_0, .inl (t6004, mask, padV 256 .bool t49, wr (t50 + 1), i, i', i'', i''', l, t112026, t112027, t7004, t7005, t6004, t7902, (), s, t7903, ()))
  else
   none
 else
  some (Lp7_0, .inr (.inr (t6004, i, i', i'', i''', l, t112026, t112027, t7004, t7005, t6004, t7902, (), s, t7903, ())))
theorem one7_6Re : oneLoopR Lp7_0.body 6 = true := by kernel_rfl
noncomputable def F7_6Re : T7_6Re.D → Out (ExT X7_6Re) := fun (set, mask, t49, t50, i, i', i'', i''', l, t112026, t112027, t7004, t7005, t6004, t7902, t6005, s, t7903, t6003) =>
 .br (decide (set = t6004) && (t50 == 0 && Nat.beq t49.length 256)) (.br (hitB t49 mask) (.done (.inl (i, i', i'', i''', l, t112026, t112027, t6004, t7902, t6005, t7004, t7005, s, t7903, t6003))) (.done (.inr (set, i, i', i'', i''', l, t112026, t112027, t7004, t7005, t6004, t7902, t6005, s, t7903, t6003)))) .no
theorem hF7_6Re : ∀ x e, (F7_6Re x).at' = some e → loopVal (strip Lp7_0 step7_6Re) x = some e := by
 rintro ⟨set, mask, t49, t50, i, i', i'', i''', l, t112026, t112027, t7004, t7005, t6004, t7902, t6005, s, t7903, t6003⟩ e he
 obtain ⟨hg, hv⟩ := br_guard he
 obtain ⟨hd, hg2⟩ := and_split hg
 have hd : set = t6004 := of_decide_eq_true hd
 subst hd
 obtain ⟨h0, ha⟩ := guard2 hg2
 have h0 : t50 = 0 := h0
 subst h0
 have pa : padV 256 .bool t49 = t49 := padV_self ha
 have hl := hit_loop Lp7_0 step7_6Re (fun ix0 => (set, mask, t49, ix0, i, i', i'', i''', l, t112026, t112027, t7004, t7005, set, t7902, t6005, s, t7903, t6003)) t49 mask (i, i', i'', i''', l, t112026, t112027, set, t7902, t6005, t7004, t7005, s, t7903, t6003) (set, i, i', i'', i''', l, t112026, t112027, t7004, t7005, set, t7902, t6005, s, t7903, t6003) (fun ix0 => by simp only [step7_6Re, pa] <;> rfl)
 exact hl.trans (congrArg some (br_val hv))
theorem lp7_6Re : ItemOk Tryd.prog (.loopR Lp7_0 66 6 T7_6Re X7_6Re F7_6Re) := item_loopR md7 ext7 noSpecial mixed Gc4K6_ok (U := 300) (n := 16) one7_6Re (fun x => by kernel_rfl) hF7_6Re
noncomputable def Gc5K1 : List Ev.Item := .loopR Lp7_0 66 6 T7_6Re X7_6Re F7_6Re :: Gc4K6
theorem Gc5K1_ok : ∀ q ∈ Gc5K1, ItemOk Tryd.prog q := items_cons lp7_6Re Gc4K6_ok
noncomputable def p7n4 : (Int × Int × Int) × (Int × Int × Int) × (Int × Int × Int) × (Int × Int × Int) × (Int × Int) → Option ((List Int) × Int) := fun (t0, t1, t2, t3, limit) =>
 optE (s17 [t0, t1, t2, t3]) (fun r1 =>
 optE (s41 limit.1) (fun r2 =>
 bif r2 then
 optE (s41 limit.2) (fun r3 =>
 bif r1.2 == 0 then
 bif (unl r3 2) == 0 then
 bif (unl (decide (limit.1 ≤ limit.2)) 9) == 0 then
 bif (unl (decide ((wr (limit.2 - limit.1)) < 100000)) 8) == 0 then
 optE (loopVal step26_0b ([t0, t1, t2, t3], limit.1, [t0, t1, t2, t3], limit, ([], List.replicate 256 false), [], 0)) (fun e4 =>
 optE (onlyAt Lp7_0 Lp7_0 (onlyAt Lp7_0 Lp7_0 (some ()))) (fun _ =>
 bif hitB (padV 256 .bool e4.2.1.2) 0 then
 optE (onlyAt Lp7_0 Lp7_0 (onlyAt Lp7_0 Lp7_0 (some ()))) (fun _ =>
 bif hitB (padV 256 .bool e4.2.1.2) 1 then
 optE (onlyAt Lp7_0 Lp7_0 (onlyAt Lp7_0 Lp7_0 (some ()))) (fun _ =>
 bif hitB (padV 256 .bool e4.2.1.2) 2 then
 optE (onlyAt Lp7_0 Lp7_0 (onlyAt Lp7_0 Lp7_0 (some ()))) (fun _ =>
 bif hitB (padV 256 .bool e4.2.1.2) 4 then
 optE (onlyAt Lp7_0 Lp7_0 (onlyAt Lp7_0 Lp7_0 (some ()))) (fun _ =>
 bif hitB (padV 256 .bool e4.2.1.2) 8 then
 optE (onlyAt Lp7_0 Lp7_0 (onlyAt Lp7_0 Lp7_0 (some ()))) (fun _ =>
 bif hitB (padV 256 .bool e4.2.1.2) 3 then
 optE (onlyAt Lp7_0 Lp7_0 (onlyAt Lp7_0 Lp7_0 (some ()))) (fun _ =>
 bif hitB (padV 256 .bool e4.2.1.2) 5 then
 optE (onlyAt Lp7_0 Lp7_0 (onlyAt Lp7_0 Lp7_0 (some ()))) (fun _ =>
 bif hitB (padV 256 .bool e4.2.1.2) 9 then
 optE (onlyAt Lp7_0 Lp7_0 (onlyAt Lp7_0 Lp7_0 (some ()))) (fun _ =>
 bif hitB (padV 256 .bool e4.2.1.2) 6 then
 optE (onlyAt Lp7_0 Lp7_0 (onlyAt Lp7_0 Lp7_0 (some ()))) (fun _ =>
 bif hitB (padV 256 .bool e4.2.1.2) 10 then
 optE (onlyAt Lp7_0 Lp7_0 (onlyAt Lp7_0 Lp7_0 (some ()))) (fun _ =>
 bif hitB (padV 256 .bool e4.2.1.2) 12 then
 optE (onlyAt Lp7_0 Lp7_0 (onlyAt Lp7_0 Lp7_0 (some ()))) (fun _ =>
 bif hitB (padV 256 .bool e4.2.1.2) 7 then
 optE (onlyAt Lp7_0 Lp7_0 (onlyAt Lp7_0 Lp7_0 (some ()))) (fun _ =>
 bif hitB (padV 256 .bool e4.2.1.2) 11 then
 optE (onlyAt Lp7_0 Lp7_0 (onlyAt Lp7_0 Lp7_0 (some ()))) (fun _ =>
 bif hitB (padV 256 .bool e4.2.1.2) 13 then
 optE (onlyAt Lp7_0 Lp7_0 (onlyAt Lp7_0 Lp7_0 (some ()))) (fun _ =>
 bif hitB (padV 256 .bool e4.2.1.2) 14 then
 optE (onlyAt Lp7_0 Lp7_0 (onlyAt Lp7_0 Lp7_0 (some ()))) (fun _ =>
 bif hitB (padV 256 .bool e4.2.1.2) 15 then
 some (([], 12))
 else
 some (([0, 1, 2, 3], 0)))
 (none)
 else
 some (([1, 2, 3], 0)))
 (none)
 else
 some (([0, 2, 3], 0)))
 (none)
 else
 some (([0, 1, 3], 0)))
 (none)
 else
 some (([0, 1, 2], 0)))
 (none)
 else
 some (([2, 3], 0)))
 (none)
 else
 some (([1, 3], 0)))
 (none)
 else
 some (([1, 2], 0)))
 (none)
 else
 some (([0, 3], 0)))
 (none)
 else
 some (([0, 2], 0)))
 (none)
 else
 some (([0, 1], 0)))
 (none)
 else
 some (([3], 0)))
 (none)
 else
 some (([2], 0)))
 (none)
 else
 some (([1], 0)))
 (none)
 else
 some (([0], 0)))
 (none)
 else
 none)
 (none))
 (none)
 else
 none
 else
 none
 else
 none
 else
 none)
 (none)
 else
 bif r1.2 == 0 then
 none
 else
 none)
 (none))
 (none)
def f7n4 : (Int × Int × Int) × (Int × Int × Int) × (Int × Int × Int) × (Int × Int × Int) × (Int × Int) → (List (Int × Int × Int)) × (Int × Int) := fun (t0, t1, t2, t3, limit) => ([t0, t1, t2, t3], limit)
theorem h7n4 : ∀ d, evalK Tryd.prog (Pars [.own 3 zI, .d zI]) (knowM md7f Gc5K1) 300 24 7 (cvs [.d (.slice (.agg (.pair zI zP))), .d (.agg zP)] (f7n4 d)) (canonK [.own 3 zI, .d zI]) = p7n4 d := fun d => by kernel_rfl
noncomputable def s7n4 : (List (Int × Int × Int)) × (Int × Int) → Option ((List Int) × Int) := fun
 | ([t0, t1, t2, t3], limit) => p7n4 (t0, t1, t2, t3, limit)
 | _ => none
theorem q7n4 : ∀ x y, s7n4 x = some y → ∃ d, x = f7n4 d ∧ p7n4 d = some y := by
 intro x y h
 unfold s7n4 at h
 split at h
 ·exact ⟨_, rfl, h⟩
 ·cases h
theorem i7n4 : ItemOk Tryd.prog (.fn 7 [.d (.slice (.agg (.pair zI zP))), .d (.agg zP)] [.own 3 zI, .d zI] s7n4) := @item_fnP Tryd.prog md7f ext7f Gc5K1 noSpecial mixed Gc5K1_ok 7 300 24 [.d (.slice (.agg (.pair zI zP))), .d (.agg zP)] [.own 3 zI, .d zI] ((Int × Int × Int) × (Int × Int × Int) × (Int × Int × Int) × (Int × Int × Int) × (Int × Int)) f7n4 p7n4 s7n4 h7n4 q7n4
end Go.Proofs.YtdoehknomnhlkaaDoor
