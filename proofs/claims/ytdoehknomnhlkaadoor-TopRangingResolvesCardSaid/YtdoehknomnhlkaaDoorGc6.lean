/- Printed by gen.py: specifications of functions. -/
import Derived.Test.YtdoehknomnhlkaaDoorGc5
set_option linter.unusedSimpArgs false
set_option maxRecDepth 100000
namespace Go.Proofs.YtdoehknomnhlkaaDoor
open Go.Ev
@[reducible] def T7_6Rf : Tmpl := ⟨66, [(4, .ref 8004 0 0 0), (5, .ref 8005 0 0 0), (16036, .mref 9900), (32001, .ref 7004 0 0 0), (32004, .ref 8900 0 0 0), (32005, .ref 7005 0 0 0), (48001, .ref 7004 0 0 0), (48004, .ref 8900 0 0 0), (48005, .ref 7005 0 0 0), (64001, .ref 7004 0 0 0), (64004, .ref 8900 0 0 0), (64005, .ref 7005 0 0 0), (80001, .ref 7004 0 0 0), (80004, .ref 8900 0 0 0), (80005, .ref 7005 0 0 0), (96001, .ref 7004 0 0 0), (96004, .ref 8900 0 0 0), (96005, .ref 7005 0 0 0), (128004, .ref 8004 0 0 0), (128005, .ref 8005 0 0 0), (128006, .ref 8006 0 0 0), (128066, .mref 9900), (160000004, .ref 8004 0 0 0), (160000005, .ref 8005 0 0 0), (160000006, .ref 8006 0 0 0)], [.own 9 2025 3 zI, .val 10 zI, .valv 49 256 .bool, .val 50 zI, .val 32008 zI, .val 48008 zI, .val 64008 zI, .val 80008 zI, .val 96008 zI, .val 128000 (.slice (.agg (.pair zI zP))), .val 128026 zI, .val 128027 zI, .cells 8004 [.d (.slice zI)], .cells 8005 [.d zI], .cells 7004 [.own 2025 3 zI], .cells 8900 [.d zI], .cells 7005 [.clo 46 [.ref 7004, .ref 8901, .ref 7003, .ref 8900, .ref 7005]], .cells 8006 [.d (.ptr swSh)], .cells 8901 [.d zI], .cells 7003 [.hd 9900]], [37, 36, 36, 36, 36, 36, 9, 67], some (9900, .busy)⟩
@[reducible] def X7_6Rf : List (Ex × Tmpl) := [(.exit 3, ⟨66, [(16036, .mref 9900), (32001, .ref 7004 0 0 0), (32004, .ref 8900 0 0 0), (32005, .ref 7005 0 0 0), (48001, .ref 7004 0 0 0), (48004, .ref 8900 0 0 0), (48005, .ref 7005 0 0 0), (64001, .ref 7004 0 0 0), (64004, .ref 8900 0 0 0), (64005, .ref 7005 0 0 0), (80001, .ref 7004 0 0 0), (80004, .ref 8900 0 0 0), (80005, .ref 7005 0 0 0), (96001, .ref 7004 0 0 0), (96004, .ref 8900 0 0 0), (96005, .ref 7005 0 0 0), (128004, .ref 8004 0 0 0), (128005, .ref 8005 0 0 0), (128006, .ref 8006 0 0 0), (128066, .mref 9900), (160000004, .ref 8004 0 0 0), (160000005, .ref 8005 0 0 0), (160000006, .ref 8006 0 0 0)], [.val 32008 zI, .val 48008 zI, .val 64008 zI, .val 80008 zI, .val 96008 zI, .val 128000 (.slice (.agg (.pair zI zP))), .val 128026 zI, .val 128027 zI, .cells 7004 [.own 2025 3 zI], .cells 8900 [.d zI], .cells 7005 [.clo 46 [.ref 7004, .ref 8901, .ref 7003, .ref 8900, .ref 7005]], .cells 8004 [.d (.slice zI)], .cells 8005 [.d zI], .cells 8006 [.d (.ptr swSh)], .cells 8901 [.d zI], .cells 7003 [.hd 9900]], [37, 36, 36, 36, 36, 36, 9, 67], some (9900, .busy)⟩), (.exit 6, ⟨66, [(4, .ref 8004 0 0 0), (5, .ref 8005 0 0 0), (16036, .mref 9900), (32001, .ref 7004 0 0 0), (32004, .ref 8900 0 0 0), (32005, .ref 7005 0 0 0), (48001, .ref 7004 0 0 0), (48004, .ref 8900 0 0 0), (48005, .ref 7005 0 0 0), (64001, .ref 7004 0 0 0), (64004, .ref 8900 0 0 0), (64005, .ref 7005 0 0 0), (80001, .ref 7004 0 0 0), (80004, .ref 8900 0 0 0), (80005, .ref 7005 0 0 0), (96001, .ref 7004 0 0 0), (96004, .ref 8900 0 0 0), (96005, .ref 7005 0 0 0), (128004, .ref 8004 0 0 0), (128005, .ref 8005 0 0 0), (128006, .ref 8006 0 0 0), (128066, .mref 9900), (160000004, .ref 8004 0 0 0), (160000005, .ref 8005 0 0 0), (160000006, .ref 8006 0 0 0)], [.own 9 2025 3 zI, .val 32008 zI, .val 48008 zI, .val 64008 zI, .val 80008 zI, .val 96008 zI, .val 128000 (.slice (.agg (.pair zI zP))), .val 128026 zI, .val 128027 zI, .cells 8004 [.d (.slice zI)], .cells 8005 [.d zI], .cells 7004 [.own 2025 3 zI], .cells 8900 [.d zI], .cells 7005 [.clo 46 [.ref 7004, .ref 8901, .ref 7003, .ref 8900, .ref 7005]], .cells 8006 [.d (.ptr swSh)], .cells 8901 [.d zI], .cells 7003 [.hd 9900]], [37, 36, 36, 36, 36, 36, 9, 67], some (9900, .busy)⟩)]
noncomputable def step7_6Rf : (List Int) × Int × (List Bool) × Int × Int × Int × Int × Int × Int × (List (Int × Int × Int)) × Int × Int × (List Int) × Int × (List Int) × Int × Unit × SwT × Int × Unit → Option (LpI × (((List Int) × Int × (List Bool) × Int × Int × Int × Int × Int × Int × (List (Int × Int × Int)) × Int × Int × (List Int) × Int × (List Int) × Int × Unit × SwT × Int × Unit) ⊕ ((Int × Int × Int × Int × Int × (List (Int × Int × Int)) × Int × Int × (List Int) × Int × Unit × (List Int) × Int × SwT × Int × Unit) ⊕ ((List Int) × Int × Int × Int × Int × Int × (List (Int × Int × Int)) × Int × Int × (List Int) × Int × (List Int) × Int × Unit × SwT × Int × Unit)))) := fun (_, mask, t49, t50, i, i', i'', i''', i'''', l, t128026, t128027, t8004, t8005, t7004, t8900, _, s, t8901, _) =>
 bif decide (t50 < 256) then
  bif inBounds t50 256 then
   bif (padV 256 .bool t49).getD t50.toNat false then
    bif (andI .i64 t50 mask) == mask then
     some (Lp7_0, .inr (.inl (i, i', i'', i''', i'''', l, t128026, t128027, t7004, t8900, (), t8004, t8005, s, t8901, ())))
    else
     some (Lp7_0, .inl (t7004, mask, padV 256 .bool t49, wr (t50 + 1), i, i', i'', i''', i'''', l, t128026, t128027, t8004, t8005, t7004, t8900, (), s, t8901, ()))
   else
    some (Lp7_0, .inl (t7004, mask, padV 256 .bool t49, wr (t50 + 1), i, i', i'', i''', i'''', l, t128026, t128027, t8004, t8005, t7004, t8900, (), s, t8901, ()))
  else
   none
 else
  some (Lp7_0, .inr (.inr (t7004, i, i', i'', i''', i'''', l, t128026, t128027, t8004, t8005, t7004, t8900, (), s, t8901, ())))
theorem one7_6Rf : oneLoopR Lp7_0.body 6 = true := by kernel_rfl
noncomputable def F7_6Rf : T7_6Rf.D → Out (ExT X7_6Rf) := fun (set, mask, t49, t50, i, i', i'', i''', i'''', l, t128026, t128027, t8004, t8005, t7004, t8900, t7005, s, t8901, t7003) =>
 .br (decide (set = t7004) && (t50 == 0 && Nat.beq t49.length 256)) (.br (hitB t49 mask) (.done (.inl (i, i', i'', i''', i'''', l, t128026, t128027, t7004, t8900, t7005, t8004, t8005, s, t8901, t7003))) (.done (.inr (set, i, i', i'', i''', i'''', l, t128026, t128027, t8004, t8005, t7004, t8900, t7005, s, t8901, t7003)))) .no
theorem hF7_6Rf : ∀ x e, (F7_6Rf x).at' = some e → loopVal (strip Lp7_0 step7_6Rf) x = some e := by
 rintro ⟨set, mask, t49, t50, i, i', i'', i''', i'''', l, t128026, t128027, t8004, t8005, t7004, t8900, t7005, s, t8901, t7003⟩ e he
 obtain ⟨hg, hv⟩ := br_guard he
 obtain ⟨hd, hg2⟩ := and_split hg
 have hd : set = t7004 := of_decide_eq_true hd
 subst hd
 obtain ⟨h0, ha⟩ := guard2 hg2
 have h0 : t50 = 0 := h0
 subst h0
 have pa : padV 256 .bool t49 = t49 := padV_self ha
 have hl := hit_loop Lp7_0 step7_6Rf (fun ix0 => (set, mask, t49, ix0, i, i', i'', i''', i'''', l, t128026, t128027, t8004, t8005, set, t8900, t7005, s, t8901, t7003)) t49 mask (i, i', i'', i''', i'''', l, t128026, t128027, set, t8900, t7005, t8004, t8005, s, t8901, t7003) (set, i, i', i'', i''', i'''', l, t128026, t128027, t8004, t8005, set, t8900, t7005, s, t8901, t7003) (fun ix0 => by simp only [step7_6Rf, pa] <;> rfl)
 exact hl.trans (congrArg some (br_val hv))
theorem lp7_6Rf : ItemOk Tryd.prog (.loopR Lp7_0 66 6 T7_6Rf X7_6Rf F7_6Rf) := item_loopR md7 ext7 noSpecial mixed Gc5K1_ok (U := 300) (n := 15) one7_6Rf (fun x => by kernel_rfl) hF7_6Rf
noncomputable def Gc6K1 : List Ev.Item := .loopR Lp7_0 66 6 T7_6Rf X7_6Rf F7_6Rf :: Gc5K1
theorem Gc6K1_ok : ∀ q ∈ Gc6K1, ItemOk Tryd.prog q := items_cons lp7_6Rf Gc5K1_ok
noncomputable def p7n5 : (Int × Int × Int) × (Int × Int × Int) × (Int × Int × Int) × (Int × Int × Int) × (Int × Int × Int) × (Int × Int) → Option ((List Int) × Int) := fun (t0, t1, t2, t3, t4, limit) =>
 optE (s17 [t0, t1, t2, t3, t4]) (fun r1 =>
 optE (s41 limit.1) (fun r2 =>
 bif r2 then
 optE (s41 limit.2) (fun r3 =>
 bif r1.2 == 0 then
 bif (unl r3 2) == 0 then
 bif (unl (decide (limit.1 ≤ limit.2)) 9) == 0 then
 bif (unl (decide ((wr (limit.2 - limit.1)) < 100000)) 8) == 0 then
 optE (loopVal step26_0b ([t0, t1, t2, t3, t4], limit.1, [t0, t1, t2, t3, t4], limit, ([], List.replicate 256 false), [], 0)) (fun e4 =>
 optE (onlyAt Lp7_0 Lp7_0 (onlyAt Lp7_0 Lp7_0 (some ()))) (fun _ =>
 bif hitB (padV 256 .bool e4.2.1.2) 0 then
 optE (onlyAt Lp7_0 Lp7_0 (onlyAt Lp7_0 Lp7_0 (some ()))) (fun _ =>
 bif hitB (padV 256 .bool e4.2.1.2) 1 then
 optE (onlyAt Lp7_0 Lp7_0 (onlyAt Lp7_0 Lp7_0 (some ()))) (fun _ =>
 bif hitB (padV 256 .bool e4.2.1.2) 2 then
 optE (onlyAt Lp7_0 Lp7_0 (onlyAt Lp7_0 Lp7_0 (some ()))) (fun _ =>
 bif hitB (padV 256 .bool e4.2.1.2) 4 then
 optE (onlyAt Lp7_0 Lp7_0 (onlyAt Lp7_0 Lp7_0 (some ()))) (fun _ =>
 bif hitB (padV 256 .bool e4.2.1.2) 8 then
 optE (onlyAt Lp7_0 Lp7_0 (onlyAt Lp7_0 Lp7_0 (some ()))) (fun _ =>
 bif hitB (padV 256 .bool e4.2.1.2) 16 then
 optE (onlyAt Lp7_0 Lp7_0 (onlyAt Lp7_0 Lp7_0 (some ()))) (fun _ =>
 bif hitB (padV 256 .bool e4.2.1.2) 3 then
 optE (onlyAt Lp7_0 Lp7_0 (onlyAt Lp7_0 Lp7_0 (some ()))) (fun _ =>
 bif hitB (padV 256 .bool e4.2.1.2) 5 then
 optE (onlyAt Lp7_0 Lp7_0 (onlyAt Lp7_0 Lp7_0 (some ()))) (fun _ =>
 bif hitB (padV 256 .bool e4.2.1.2) 9 then
 optE (onlyAt Lp7_0 Lp7_0 (onlyAt Lp7_0 Lp7_0 (some ()))) (fun _ =>
 bif hitB (padV 256 .bool e4.2.1.2) 17 then
 optE (onlyAt Lp7_0 Lp7_0 (onlyAt Lp7_0 Lp7_0 (some ()))) (fun _ =>
 bif hitB (padV 256 .bool e4.2.1.2) 6 then
 optE (onlyAt Lp7_0 Lp7_0 (onlyAt Lp7_0 Lp7_0 (some ()))) (fun _ =>
 bif hitB (padV 256 .bool e4.2.1.2) 10 then
 optE (onlyAt Lp7_0 Lp7_0 (onlyAt Lp7_0 Lp7_0 (some ()))) (fun _ =>
 bif hitB (padV 256 .bool e4.2.1.2) 18 then
 optE (onlyAt Lp7_0 Lp7_0 (onlyAt Lp7_0 Lp7_0 (some ()))) (fun _ =>
 bif hitB (padV 256 .bool e4.2.1.2) 12 then
 optE (onlyAt Lp7_0 Lp7_0 (onlyAt Lp7_0 Lp7_0 (some ()))) (fun _ =>
 bif hitB (padV 256 .bool e4.2.1.2) 20 then
 optE (onlyAt Lp7_0 Lp7_0 (onlyAt Lp7_0 Lp7_0 (some ()))) (fun _ =>
 bif hitB (padV 256 .bool e4.2.1.2) 24 then
 optE (onlyAt Lp7_0 Lp7_0 (onlyAt Lp7_0 Lp7_0 (some ()))) (fun _ =>
 bif hitB (padV 256 .bool e4.2.1.2) 7 then
 optE (onlyAt Lp7_0 Lp7_0 (onlyAt Lp7_0 Lp7_0 (some ()))) (fun _ =>
 bif hitB (padV 256 .bool e4.2.1.2) 11 then
 optE (onlyAt Lp7_0 Lp7_0 (onlyAt Lp7_0 Lp7_0 (some ()))) (fun _ =>
 bif hitB (padV 256 .bool e4.2.1.2) 19 then
 optE (onlyAt Lp7_0 Lp7_0 (onlyAt Lp7_0 Lp7_0 (some ()))) (fun _ =>
 bif hitB (padV 256 .bool e4.2.1.2) 13 then
 optE (onlyAt Lp7_0 Lp7_0 (onlyAt Lp7_0 Lp7_0 (some ()))) (fun _ =>
 bif hitB (padV 256 .bool e4.2.1.2) 21 then
 optE (onlyAt Lp7_0 Lp7_0 (onlyAt Lp7_0 Lp7_0 (some ()))) (fun _ =>
 bif hitB (padV 256 .bool e4.2.1.2) 25 then
 optE (onlyAt Lp7_0 Lp7_0 (onlyAt Lp7_0 Lp7_0 (some ()))) (fun _ =>
 bif hitB (padV 256 .bool e4.2.1.2) 14 then
 optE (onlyAt Lp7_0 Lp7_0 (onlyAt Lp7_0 Lp7_0 (some ()))) (fun _ =>
 bif hitB (padV 256 .bool e4.2.1.2) 22 then
 optE (onlyAt Lp7_0 Lp7_0 (onlyAt Lp7_0 Lp7_0 (some ()))) (fun _ =>
 bif hitB (padV 256 .bool e4.2.1.2) 26 then
 optE (onlyAt Lp7_0 Lp7_0 (onlyAt Lp7_0 Lp7_0 (some ()))) (fun _ =>
 bif hitB (padV 256 .bool e4.2.1.2) 28 then
 optE (onlyAt Lp7_0 Lp7_0 (onlyAt Lp7_0 Lp7_0 (some ()))) (fun _ =>
 bif hitB (padV 256 .bool e4.2.1.2) 15 then
 optE (onlyAt Lp7_0 Lp7_0 (onlyAt Lp7_0 Lp7_0 (some ()))) (fun _ =>
 bif hitB (padV 256 .bool e4.2.1.2) 23 then
 optE (onlyAt Lp7_0 Lp7_0 (onlyAt Lp7_0 Lp7_0 (some ()))) (fun _ =>
 bif hitB (padV 256 .bool e4.2.1.2) 27 then
 optE (onlyAt Lp7_0 Lp7_0 (onlyAt Lp7_0 Lp7_0 (some ()))) (fun _ =>
 bif hitB (padV 256 .bool e4.2.1.2) 29 then
 optE (onlyAt Lp7_0 Lp7_0 (onlyAt Lp7_0 Lp7_0 (some ()))) (fun _ =>
 bif hitB (padV 256 .bool e4.2.1.2) 30 then
 optE (onlyAt Lp7_0 Lp7_0 (onlyAt Lp7_0 Lp7_0 (some ()))) (fun _ =>
 bif hitB (padV 256 .bool e4.2.1.2) 31 then
 some (([], 12))
 else
 some (([0, 1, 2, 3, 4], 0)))
 (none)
 else
 some (([1, 2, 3, 4], 0)))
 (none)
 else
 some (([0, 2, 3, 4], 0)))
 (none)
 else
 some (([0, 1, 3, 4], 0)))
 (none)
 else
 some (([0, 1, 2, 4], 0)))
 (none)
 else
 some (([0, 1, 2, 3], 0)))
 (none)
 else
 some (([2, 3, 4], 0)))
 (none)
 else
 some (([1, 3, 4], 0)))
 (none)
 else
 some (([1, 2, 4], 0)))
 (none)
 else
 some (([1, 2, 3], 0)))
 (none)
 else
 some (([0, 3, 4], 0)))
 (none)
 else
 some (([0, 2, 4], 0)))
 (none)
 else
 some (([0, 2, 3], 0)))
 (none)
 else
 some (([0, 1, 4], 0)))
 (none)
 else
 some (([0, 1, 3], 0)))
 (none)
 else
 some (([0, 1, 2], 0)))
 (none)
 else
 some (([3, 4], 0)))
 (none)
 else
 some (([2, 4], 0)))
 (none)
 else
 some (([2, 3], 0)))
 (none)
 else
 some (([1, 4], 0)))
 (none)
 else
 some (([1, 3], 0)))
 (none)
 else
 some (([1, 2], 0)))
 (none)
 else
 some (([0, 4], 0)))
 (none)
 else
 some (([0, 3], 0)))
 (none)
 else
 some (([0, 2], 0)))
 (none)
 else
 some (([0, 1], 0)))
 (none)
 else
 some (([4], 0)))
 (none)
 else
 some (([3], 0)))
 (none)
 else
 some (([2], 0)))
 (none)
 else
 some (([1], 0)))
 (none)
 else
 some (([0], 0)))
 (none)
 else
 none)
 (none))
 (none)
 else
 none
 else
 none
 else
 none
 else
 none)
 (none)
 else
 bif r1.2 == 0 then
 none
 else
 none)
 (none))
 (none)
def f7n5 : (Int × Int × Int) × (Int × Int × Int) × (Int × Int × Int) × (Int × Int × Int) × (Int × Int × Int) × (Int × Int) → (List (Int × Int × Int)) × (Int × Int) := fun (t0, t1, t2, t3, t4, limit) => ([t0, t1, t2, t3, t4], limit)
theorem h7n5 : ∀ d, evalK Tryd.prog (Pars [.own 3 zI, .d zI]) (knowM md7f Gc6K1) 300 24 7 (cvs [.d (.slice (.agg (.pair zI zP))), .d (.agg zP)] (f7n5 d)) (canonK [.own 3 zI, .d zI]) = p7n5 d := fun d => by kernel_rfl
noncomputable def s7n5 : (List (Int × Int × Int)) × (Int × Int) → Option ((List Int) × Int) := fun
 | ([t0, t1, t2, t3, t4], limit) => p7n5 (t0, t1, t2, t3, t4, limit)
 | _ => none
theorem q7n5 : ∀ x y, s7n5 x = some y → ∃ d, x = f7n5 d ∧ p7n5 d = some y := by
 intro x y h
 unfold s7n5 at h
 split at h
 ·exact ⟨_, rfl, h⟩
 ·cases h
theorem i7n5 : ItemOk Tryd.prog (.fn 7 [.d (.slice (.agg (.pair zI zP))), .d (.agg zP)] [.own 3 zI, .d zI] s7n5) := @item_fnP Tryd.prog md7f ext7f Gc6K1 noSpecial mixed Gc6K1_ok 7 300 24 [.d (.slice (.agg (.pair zI zP))), .d (.agg zP)] [.own 3 zI, .d zI] ((Int × Int × Int) × (Int × Int × Int) × (Int × Int × Int) × (Int × Int × Int) × (Int × Int × Int) × (Int × Int)) f7n5 p7n5 s7n5 h7n5 q7n5
end Go.Proofs.YtdoehknomnhlkaaDoor
