/- Printed by gen.py: specifications of functions. -/
import Derived.Test.YtdoehknomnhlkaaDoorGc6
set_option linter.unusedSimpArgs false
set_option maxRecDepth 100000
namespace Go.Proofs.YtdoehknomnhlkaaDoor
open Go.Ev
@[reducible] def T7_6Rg : Tmpl := ⟨66, [(4, .ref 9004 0 0 0), (5, .ref 9005 0 0 0), (16036, .mref 10900), (32001, .ref 8004 0 0 0), (32004, .ref 9902 0 0 0), (32005, .ref 8005 0 0 0), (48001, .ref 8004 0 0 0), (48004, .ref 9902 0 0 0), (48005, .ref 8005 0 0 0), (64001, .ref 8004 0 0 0), (64004, .ref 9902 0 0 0), (64005, .ref 8005 0 0 0), (80001, .ref 8004 0 0 0), (80004, .ref 9902 0 0 0), (80005, .ref 8005 0 0 0), (96001, .ref 8004 0 0 0), (96004, .ref 9902 0 0 0), (96005, .ref 8005 0 0 0), (112001, .ref 8004 0 0 0), (112004, .ref 9902 0 0 0), (112005, .ref 8005 0 0 0), (144004, .ref 9004 0 0 0), (144005, .ref 9005 0 0 0), (144006, .ref 9006 0 0 0), (144066, .mref 10900), (176000004, .ref 9004 0 0 0), (176000005, .ref 9005 0 0 0), (176000006, .ref 9006 0 0 0)], [.own 9 2025 3 zI, .val 10 zI, .valv 49 256 .bool, .val 50 zI, .val 32008 zI, .val 48008 zI, .val 64008 zI, .val 80008 zI, .val 96008 zI, .val 112008 zI, .val 144000 (.slice (.agg (.pair zI zP))), .val 144026 zI, .val 144027 zI, .cells 9004 [.d (.slice zI)], .cells 9005 [.d zI], .cells 8004 [.own 2025 3 zI], .cells 9902 [.d zI], .cells 8005 [.clo 46 [.ref 8004, .ref 9903, .ref 8003, .ref 9902, .ref 8005]], .cells 9006 [.d (.ptr swSh)], .cells 9903 [.d zI], .cells 8003 [.hd 10900]], [37, 36, 36, 36, 36, 36, 36, 9, 67], some (10900, .busy)⟩
@[reducible] def X7_6Rg : List (Ex × Tmpl) := [(.exit 3, ⟨66, [(16036, .mref 10900), (32001, .ref 8004 0 0 0), (32004, .ref 9902 0 0 0), (32005, .ref 8005 0 0 0), (48001, .ref 8004 0 0 0), (48004, .ref 9902 0 0 0), (48005, .ref 8005 0 0 0), (64001, .ref 8004 0 0 0), (64004, .ref 9902 0 0 0), (64005, .ref 8005 0 0 0), (80001, .ref 8004 0 0 0), (80004, .ref 9902 0 0 0), (80005, .ref 8005 0 0 0), (96001, .ref 8004 0 0 0), (96004, .ref 9902 0 0 0), (96005, .ref 8005 0 0 0), (112001, .ref 8004 0 0 0), (112004, .ref 9902 0 0 0), (112005, .ref 8005 0 0 0), (144004, .ref 9004 0 0 0), (144005, .ref 9005 0 0 0), (144006, .ref 9006 0 0 0), (144066, .mref 10900), (176000004, .ref 9004 0 0 0), (176000005, .ref 9005 0 0 0), (176000006, .ref 9006 0 0 0)], [.val 32008 zI, .val 48008 zI, .val 64008 zI, .val 80008 zI, .val 96008 zI, .val 112008 zI, .val 144000 (.slice (.agg (.pair zI zP))), .val 144026 zI, .val 144027 zI, .cells 8004 [.own 2025 3 zI], .cells 9902 [.d zI], .cells 8005 [.clo 46 [.ref 8004, .ref 9903, .ref 8003, .ref 9902, .ref 8005]], .cells 9004 [.d (.slice zI)], .cells 9005 [.d zI], .cells 9006 [.d (.ptr swSh)], .cells 9903 [.d zI], .cells 8003 [.hd 10900]], [37, 36, 36, 36, 36, 36, 36, 9, 67], some (10900, .busy)⟩), (.exit 6, ⟨66, [(4, .ref 9004 0 0 0), (5, .ref 9005 0 0 0), (16036, .mref 10900), (32001, .ref 8004 0 0 0), (32004, .ref 9902 0 0 0), (32005, .ref 8005 0 0 0), (48001, .ref 8004 0 0 0), (48004, .ref 9902 0 0 0), (48005, .ref 8005 0 0 0), (64001, .ref 8004 0 0 0), (64004, .ref 9902 0 0 0), (64005, .ref 8005 0 0 0), (80001, .ref 8004 0 0 0), (80004, .ref 9902 0 0 0), (80005, .ref 8005 0 0 0), (96001, .ref 8004 0 0 0), (96004, .ref 9902 0 0 0), (96005, .ref 8005 0 0 0), (112001, .ref 8004 0 0 0), (112004, .ref 9902 0 0 0), (112005, .ref 8005 0 0 0), (144004, .ref 9004 0 0 0), (144005, .ref 9005 0 0 0), (144006, .ref 9006 0 0 0), (144066, .mref 10900), (176000004, .ref 9004 0 0 0), (176000005, .ref 9005 0 0 0), (176000006, .ref 9006 0 0 0)], [.own 9 2025 3 zI, .val 32008 zI, .val 48008 zI, .val 64008 zI, .val 80008 zI, .val 96008 zI, .val 112008 zI, .val 144000 (.slice (.agg (.pair zI zP))), .val 144026 zI, .val 144027 zI, .cells 9004 [.d (.slice zI)], .cells 9005 [.d zI], .cells 8004 [.own 2025 3 zI], .cells 9902 [.d zI], .cells 8005 [.clo 46 [.ref 8004, .ref 9903, .ref 8003, .ref 9902, .ref 8005]], .cells 9006 [.d (.ptr swSh)], .cells 9903 [.d zI], .cells 8003 [.hd 10900]], [37, 36, 36, 36, 36, 36, 36, 9, 67], some (10900, .busy)⟩)]
noncomputable def step7_6Rg : (List Int) × Int × (List Bool) × Int × Int × Int × Int × Int × Int × Int × (List (Int × Int × Int)) × Int × Int × (List Int) × Int × (List Int) × Int × Unit × SwT × Int × Unit → Option (LpI × (((List Int) × Int × (List Bool) × Int × Int × Int × Int × Int × Int × Int × (List (Int × Int × Int)) × Int × Int × (List Int) × Int × (List Int) × Int × Unit × SwT × Int × Unit) ⊕ ((Int × Int × Int × Int × Int × Int × (List (Int × Int × Int)) × Int × Int × (List Int) × Int × Unit × (List Int) × Int × SwT × Int × Unit) ⊕ ((List Int) × Int × Int × Int × Int × Int × Int × (List (Int × Int × Int)) × Int × Int × (List Int) × Int × (List Int) × Int × Unit × SwT × Int × Unit)))) := fun (_, mask, t49, t50, i, i', i'', i''', i'''', i''''', l, t144026, t144027, t9004, t9005, t8004, t9902, _, s, t9903, _) =>
 bif decide (t50 < 256) then
  bif inBounds t50 256 then
   bif (padV 256 .bool t49).getD t50.toNat false then
    bif (andI .i64 t50 mask) == mask then
     some (Lp7_0, .inr (.inl (i, i', i'', i''', i'''', i''''', l, t144026, t144027, t8004, t9902, (), t9004, t9005, s, t9903, ())))
    else
     some (Lp7_0, .inl (t8004, mask, padV 256 .bool t49, wr (t50 + 1), i, i', i'', i''', i'''', i''''', l, t144026, t144027, t9004, t9005, t8004, t9902, (), s, t9903, ()))
   else
    some (Lp7_0, .inl (t8004, mask, padV 256 .bool t49, wr (t50 + 1), i, i', i'', i''', i'''', i''''', l, t144026, t144027, t9004, t9005, t8004, t9902, (), s, t9903, ()))
  else
   none
 else
  some (Lp7_0, .inr (.inr (t8004, i, i', i'', i''', i'''', i''''', l, t144026, t144027, t9004, t9005, t8004, t9902, (), s, t9903, ())))
theorem one7_6Rg : oneLoopR Lp7_0.body 6 = true := by kernel_rfl
noncomputable def F7_6Rg : T7_6Rg.D → Out (ExT X7_6Rg) := fun (set, mask, t49, t50, i, i', i'', i''', i'''', i''''', l, t144026, t144027, t9004, t9005, t8004, t9902, t8005, s, t9903, t8003) =>
 .br (decide (set = t8004) && (t50 == 0 && Nat.beq t49.length 256)) (.br (hitB t49 mask) (.done (.inl (i, i', i'', i''', i'''', i''''', l, t144026, t144027, t8004, t9902, t8005, t9004, t9005, s, t9903, t8003))) (.done (.inr (set, i, i', i'', i''', i'''', i''''', l, t144026, t144027, t9004, t9005, t8004, t9902, t8005, s, t9903, t8003)))) .no
theorem hF7_6Rg : ∀ x e, (F7_6Rg x).at' = some e → loopVal (strip Lp7_0 step7_6Rg) x = some e := by
 rintro ⟨set, mask, t49, t50, i, i', i'', i''', i'''', i''''', l, t144026, t144027, t9004, t9005, t8004, t9902, t8005, s, t9903, t8003⟩ e he
 obtain ⟨hg, hv⟩ := br_guard he
 obtain ⟨hd, hg2⟩ := and_split hg
 have hd : set = t8004 := of_decide_eq_true hd
 subst hd
 obtain ⟨h0, ha⟩ := guard2 hg2
 have h0 : t50 = 0 := h0
 subst h0
 have pa : padV 256 .bool t49 = t49 := padV_self ha
 have hl := hit_loop Lp7_0 step7_6Rg (fun ix0 => (set, mask, t49, ix0, i, i', i'', i''', i'''', i''''', l, t144026, t144027, t9004, t9005, set, t9902, t8005, s, t9903, t8003)) t49 mask (i, i', i'', i''', i'''', i''''', l, t144026, t144027, set, t9902, t8005, t9004, t9005, s, t9903, t8003) (set, i, i', i'', i''', i'''', i''''', l, t144026, t144027, t9004, t9005, set, t9902, t8005, s, t9903, t8003) (fun ix0 => by simp only [step7_6Rg, pa] <;> rfl)
 exact hl.trans (congrArg some (br_val hv))
theorem lp7_6Rg : ItemOk Tryd.prog (.loopR Lp7_0 66 6 T7_6Rg X7_6Rg F7_6Rg) := item_loopR md7 ext7 noSpecial mixed Gc6K1_ok (U := 300) (n := 14) one7_6Rg (fun x => by kernel_rfl) hF7_6Rg
noncomputable def Gc7K1 : List Ev.Item := .loopR Lp7_0 66 6 T7_6Rg X7_6Rg F7_6Rg :: Gc6K1
theorem Gc7K1_ok : ∀ q ∈ Gc7K1, ItemOk Tryd.prog q := items_cons lp7_6Rg Gc6K1_ok
noncomputable def p7n6 : (Int × Int × Int) × (Int × Int × Int) × (Int × Int × Int) × (Int × Int × Int) × (Int × Int × Int) × (Int × Int × Int) × (Int × Int) → Option ((List Int) × Int) := fun (t0, t1, t2, t3, t4, t5, limit) =>
 optE (s17 [t0, t1, t2, t3, t4, t5]) (fun r1 =>
 optE (s41 limit.1) (fun r2 =>
 bif r2 then
 optE (s41 limit.2) (fun r3 =>
 bif r1.2 == 0 then
 bif (unl r3 2) == 0 then
 bif (unl (decide (limit.1 ≤ limit.2)) 9) == 0 then
 bif (unl (decide ((wr (limit.2 - limit.1)) < 100000)) 8) == 0 then
 optE (loopVal step26_0b ([t0, t1, t2, t3, t4, t5], limit.1, [t0, t1, t2, t3, t4, t5], limit, ([], List.replicate 256 false), [], 0)) (fun e4 =>
 optE (onlyAt Lp7_0 Lp7_0 (onlyAt Lp7_0 Lp7_0 (some ()))) (fun _ =>
 bif hitB (padV 256 .bool e4.2.1.2) 0 then
 optE (onlyAt Lp7_0 Lp7_0 (onlyAt Lp7_0 Lp7_0 (some ()))) (fun _ =>
 bif hitB (padV 256 .bool e4.2.1.2) 1 then
 optE (onlyAt Lp7_0 Lp7_0 (onlyAt Lp7_0 Lp7_0 (some ()))) (fun _ =>
 bif hitB (padV 256 .bool e4.2.1.2) 2 then
 optE (onlyAt Lp7_0 Lp7_0 (onlyAt Lp7_0 Lp7_0 (some ()))) (fun _ =>
 bif hitB (padV 256 .bool e4.2.1.2) 4 then
 optE (onlyAt Lp7_0 Lp7_0 (onlyAt Lp7_0 Lp7_0 (some ()))) (fun _ =>
 bif hitB (padV 256 .bool e4.2.1.2) 8 then
 optE (onlyAt Lp7_0 Lp7_0 (onlyAt Lp7_0 Lp7_0 (some ()))) (fun _ =>
 bif hitB (padV 256 .bool e4.2.1.2) 16 then
 optE (onlyAt Lp7_0 Lp7_0 (onlyAt Lp7_0 Lp7_0 (some ()))) (fun _ =>
 bif hitB (padV 256 .bool e4.2.1.2) 32 then
 optE (onlyAt Lp7_0 Lp7_0 (onlyAt Lp7_0 Lp7_0 (some ()))) (fun _ =>
 bif hitB (padV 256 .bool e4.2.1.2) 3 then
 optE (onlyAt Lp7_0 Lp7_0 (onlyAt Lp7_0 Lp7_0 (some ()))) (fun _ =>
 bif hitB (padV 256 .bool e4.2.1.2) 5 then
 optE (onlyAt Lp7_0 Lp7_0 (onlyAt Lp7_0 Lp7_0 (some ()))) (fun _ =>
 bif hitB (padV 256 .bool e4.2.1.2) 9 then
 optE (onlyAt Lp7_0 Lp7_0 (onlyAt Lp7_0 Lp7_0 (some ()))) (fun _ =>
 bif hitB (padV 256 .bool e4.2.1.2) 17 then
 optE (onlyAt Lp7_0 Lp7_0 (onlyAt Lp7_0 Lp7_0 (some ()))) (fun _ =>
 bif hitB (padV 256 .bool e4.2.1.2) 33 then
 optE (onlyAt Lp7_0 Lp7_0 (onlyAt Lp7_0 Lp7_0 (some ()))) (fun _ =>
 bif hitB (padV 256 .bool e4.2.1.2) 6 then
 optE (onlyAt Lp7_0 Lp7_0 (onlyAt Lp7_0 Lp7_0 (some ()))) (fun _ =>
 bif hitB (padV 256 .bool e4.2.1.2) 10 then
 optE (onlyAt Lp7_0 Lp7_0 (onlyAt Lp7_0 Lp7_0 (some ()))) (fun _ =>
 bif hitB (padV 256 .bool e4.2.1.2) 18 then
 optE (onlyAt Lp7_0 Lp7_0 (onlyAt Lp7_0 Lp7_0 (some ()))) (fun _ =>
 bif hitB (padV 256 .bool e4.2.1.2) 34 then
 optE (onlyAt Lp7_0 Lp7_0 (onlyAt Lp7_0 Lp7_0 (some ()))) (fun _ =>
 bif hitB (padV 256 .bool e4.2.1.2) 12 then
 optE (onlyAt Lp7_0 Lp7_0 (onlyAt Lp7_0 Lp7_0 (some ()))) (fun _ =>
 bif hitB (padV 256 .bool e4.2.1.2) 20 then
 optE (onlyAt Lp7_0 Lp7_0 (onlyAt Lp7_0 Lp7_0 (some ()))) (fun _ =>
 bif hitB (padV 256 .bool e4.2.1.2) 36 then
 optE (onlyAt Lp7_0 Lp7_0 (onlyAt Lp7_0 Lp7_0 (some ()))) (fun _ =>
 bif hitB (padV 256 .bool e4.2.1.2) 24 then
 optE (onlyAt Lp7_0 Lp7_0 (onlyAt Lp7_0 Lp7_0 (some ()))) (fun _ =>
 bif hitB (padV 256 .bool e4.2.1.2) 40 then
 optE (onlyAt Lp7_0 Lp7_0 (onlyAt Lp7_0 Lp7_0 (some ()))) (fun _ =>
 bif hitB (padV 256 .bool e4.2.1.2) 48 then
 optE (onlyAt Lp7_0 Lp7_0 (onlyAt Lp7_0 Lp7_0 (some ()))) (fun _ =>
 bif hitB (padV 256 .bool e4.2.1.2) 7 then
 optE (onlyAt Lp7_0 Lp7_0 (onlyAt Lp7_0 Lp7_0 (some ()))) (fun _ =>
 bif hitB (padV 256 .bool e4.2.1.2) 11 then
 optE (onlyAt Lp7_0 Lp7_0 (onlyAt Lp7_0 Lp7_0 (some ()))) (fun _ =>
 bif hitB (padV 256 .bool e4.2.1.2) 19 then
 optE (onlyAt Lp7_0 Lp7_0 (onlyAt Lp7_0 Lp7_0 (some ()))) (fun _ =>
 bif hitB (padV 256 .bool e4.2.1.2) 35 then
 optE (onlyAt Lp7_0 Lp7_0 (onlyAt Lp7_0 Lp7_0 (some ()))) (fun _ =>
 bif hitB (padV 256 .bool e4.2.1.2) 13 then
 optE (onlyAt Lp7_0 Lp7_0 (onlyAt Lp7_0 Lp7_0 (some ()))) (fun _ =>
 bif hitB (padV 256 .bool e4.2.1.2) 21 then
 optE (onlyAt Lp7_0 Lp7_0 (onlyAt Lp7_0 Lp7_0 (some ()))) (fun _ =>
 bif hitB (padV 256 .bool e4.2.1.2) 37 then
 optE (onlyAt Lp7_0 Lp7_0 (onlyAt Lp7_0 Lp7_0 (some ()))) (fun _ =>
 bif hitB (padV 256 .bool e4.2.1.2) 25 then
 optE (onlyAt Lp7_0 Lp7_0 (onlyAt Lp7_0 Lp7_0 (some ()))) (fun _ =>
 bif hitB (padV 256 .bool e4.2.1.2) 41 then
 optE (onlyAt Lp7_0 Lp7_0 (onlyAt Lp7_0 Lp7_0 (some ()))) (fun _ =>
 bif hitB (padV 256 .bool e4.2.1.2) 49 then
 optE (onlyAt Lp7_0 Lp7_0 (onlyAt Lp7_0 Lp7_0 (some ()))) (fun _ =>
 bif hitB (padV 256 .bool e4.2.1.2) 14 then
 optE (onlyAt Lp7_0 Lp7_0 (onlyAt Lp7_0 Lp7_0 (some ()))) (fun _ =>
 bif hitB (padV 256 .bool e4.2.1.2) 22 then
 optE (onlyAt Lp7_0 Lp7_0 (onlyAt Lp7_0 Lp7_0 (some ()))) (fun _ =>
 bif hitB (padV 256 .bool e4.2.1.2) 38 then
 optE (onlyAt Lp7_0 Lp7_0 (onlyAt Lp7_0 Lp7_0 (some ()))) (fun _ =>
 bif hitB (padV 256 .bool e4.2.1.2) 26 then
 optE (onlyAt Lp7_0 Lp7_0 (onlyAt Lp7_0 Lp7_0 (some ()))) (fun _ =>
 bif hitB (padV 256 .bool e4.2.1.2) 42 then
 optE (onlyAt Lp7_0 Lp7_0 (onlyAt Lp7_0 Lp7_0 (some ()))) (fun _ =>
 bif hitB (padV 256 .bool e4.2.1.2) 50 then
 optE (onlyAt Lp7_0 Lp7_0 (onlyAt Lp7_0 Lp7_0 (some ()))) (fun _ =>
 bif hitB (padV 256 .bool e4.2.1.2) 28 then
 optE (onlyAt Lp7_0 Lp7_0 (onlyAt Lp7_0 Lp7_0 (some ()))) (fun _ =>
 bif hitB (padV 256 .bool e4.2.1.2) 44 then
 optE (onlyAt Lp7_0 Lp7_0 (onlyAt Lp7_0 Lp7_0 (some ()))) (fun _ =>
 bif hitB (padV 256 .bool e4.2.1.2) 52 then
 optE (onlyAt Lp7_0 Lp7_0 (onlyAt Lp7_0 Lp7_0 (some ()))) (fun _ =>
 bif hitB (padV 256 .bool e4.2.1.2) 56 then
 optE (onlyAt Lp7_0 Lp7_0 (onlyAt Lp7_0 Lp7_0 (some ()))) (fun _ =>
 bif hitB (padV 256 .bool e4.2.1.2) 15 then
 optE (onlyAt Lp7_0 Lp7_0 (onlyAt Lp7_0 Lp7_0 (some ()))) (fun _ =>
 bif hitB (padV 256 .bool e4.2.1.2) 23 then
 optE (onlyAt Lp7_0 Lp7_0 (onlyAt Lp7_0 Lp7_0 (some ()))) (fun _ =>
 bif hitB (padV 256 .bool e4.2.1.2) 39 then
 optE (onlyAt Lp7_0 Lp7_0 (onlyAt Lp7_0 Lp7_0 (some ()))) (fun _ =>
 bif hitB (padV 256 .bool e4.2.1.2) 27 then
 optE (onlyAt Lp7_0 Lp7_0 (onlyAt Lp7_0 Lp7_0 (some ()))) (fun _ =>
 bif hitB (padV 256 .bool e4.2.1.2) 43 then
 optE (onlyAt Lp7_0 Lp7_0 (onlyAt Lp7_0 Lp7_0 (some ()))) (fun _ =>
 bif hitB (padV 256 .bool e4.2.1.2) 51 then
 optE (onlyAt Lp7_0 Lp7_0 (onlyAt Lp7_0 Lp7_0 (some ()))) (fun _ =>
 bif hitB (padV 256 .bool e4.2.1.2) 29 then
 optE (onlyAt Lp7_0 Lp7_0 (onlyAt Lp7_0 Lp7_0 (some ()))) (fun _ =>
 bif hitB (padV 256 .bool e4.2.1.2) 45 then
 optE (onlyAt Lp7_0 Lp7_0 (onlyAt Lp7_0 Lp7_0 (some ()))) (fun _ =>
 bif hitB (padV 256 .bool e4.2.1.2) 53 then
 optE (onlyAt Lp7_0 Lp7_0 (onlyAt Lp7_0 Lp7_0 (some ()))) (fun _ =>
 bif hitB (padV 256 .bool e4.2.1.2) 57 then
 optE (onlyAt Lp7_0 Lp7_0 (onlyAt Lp7_0 Lp7_0 (some ()))) (fun _ =>
 bif hitB (padV 256 .bool e4.2.1.2) 30 then
 optE (onlyAt Lp7_0 Lp7_0 (onlyAt Lp7_0 Lp7_0 (some ()))) (fun _ =>
 bif hitB (padV 256 .bool e4.2.1.2) 46 then
 optE (onlyAt Lp7_0 Lp7_0 (onlyAt Lp7_0 Lp7_0 (some ()))) (fun _ =>
 bif hitB (padV 256 .bool e4.2.1.2) 54 then
 optE (onlyAt Lp7_0 Lp7_0 (onlyAt Lp7_0 Lp7_0 (some ()))) (fun _ =>
 bif hitB (padV 256 .bool e4.2.1.2) 58 then
 optE (onlyAt Lp7_0 Lp7_0 (onlyAt Lp7_0 Lp7_0 (some ()))) (fun _ =>
 bif hitB (padV 256 .bool e4.2.1.2) 60 then
 optE (onlyAt Lp7_0 Lp7_0 (onlyAt Lp7_0 Lp7_0 (some ()))) (fun _ =>
 bif hitB (padV 256 .bool e4.2.1.2) 31 then
 optE (onlyAt Lp7_0 Lp7_0 (onlyAt Lp7_0 Lp7_0 (some ()))) (fun _ =>
 bif hitB (padV 256 .bool e4.2.1.2) 47 then
 optE (onlyAt Lp7_0 Lp7_0 (onlyAt Lp7_0 Lp7_0 (some ()))) (fun _ =>
 bif hitB (padV 256 .bool e4.2.1.2) 55 then
 optE (onlyAt Lp7_0 Lp7_0 (onlyAt Lp7_0 Lp7_0 (some ()))) (fun _ =>
 bif hitB (padV 256 .bool e4.2.1.2) 59 then
 optE (onlyAt Lp7_0 Lp7_0 (onlyAt Lp7_0 Lp7_0 (some ()))) (fun _ =>
 bif hitB (padV 256 .bool e4.2.1.2) 61 then
 optE (onlyAt Lp7_0 Lp7_0 (onlyAt Lp7_0 Lp7_0 (some ()))) (fun _ =>
 bif hitB (padV 256 .bool e4.2.1.2) 62 then
 optE (onlyAt Lp7_0 Lp7_0 (onlyAt Lp7_0 Lp7_0 (some ()))) (fun _ =>
 bif hitB (padV 256 .bool e4.2.1.2) 63 then
 some (([], 12))
 else
 some (([0, 1, 2, 3, 4, 5], 0)))
 (none)
 else
 some (([1, 2, 3, 4, 5], 0)))
 (none)
 else
 some (([0, 2, 3, 4, 5], 0)))
 (none)
 else
 some (([0, 1, 3, 4, 5], 0)))
 (none)
 else
 some (([0, 1, 2, 4, 5], 0)))
 (none)
 else
 some (([0, 1, 2, 3, 5], 0)))
 (none)
 else
 some (([0, 1, 2, 3, 4], 0)))
 (none)
 else
 some (([2, 3, 4, 5], 0)))
 (none)
 else
 some (([1, 3, 4, 5], 0)))
 (none)
 else
 some (([1, 2, 4, 5], 0)))
 (none)
 else
 some (([1, 2, 3, 5], 0)))
 (none)
 else
 some (([1, 2, 3, 4], 0)))
 (none)
 else
 some (([0, 3, 4, 5], 0)))
 (none)
 else
 some (([0, 2, 4, 5], 0)))
 (none)
 else
 some (([0, 2, 3, 5], 0)))
 (none)
 else
 some (([0, 2, 3, 4], 0)))
 (none)
 else
 some (([0, 1, 4, 5], 0)))
 (none)
 else
 some (([0, 1, 3, 5], 0)))
 (none)
 else
 some (([0, 1, 3, 4], 0)))
 (none)
 else
 some (([0, 1, 2, 5], 0)))
 (none)
 else
 some (([0, 1, 2, 4], 0)))
 (none)
 else
 some (([0, 1, 2, 3], 0)))
 (none)
 else
 some (([3, 4, 5], 0)))
 (none)
 else
 some (([2, 4, 5], 0)))
 (none)
 else
 some (([2, 3, 5], 0)))
 (none)
 else
 some (([2, 3, 4], 0)))
 (none)
 else
 some (([1, 4, 5], 0)))
 (none)
 else
 some (([1, 3, 5], 0)))
 (none)
 else
 some (([1, 3, 4], 0)))
 (none)
 else
 some (([1, 2, 5], 0)))
 (none)
 else
 some (([1, 2, 4], 0)))
 (none)
 else
 some (([1, 2, 3], 0)))
 (none)
 else
 some (([0, 4, 5], 0)))
 (none)
 else
 some (([0, 3, 5], 0)))
 (none)
 else
 some (([0, 3, 4], 0)))
 (none)
 else
 some (([0, 2, 5], 0)))
 (none)
 else
 some (([0, 2, 4], 0)))
 (none)
 else
 some (([0, 2, 3], 0)))
 (none)
 else
 some (([0, 1, 5], 0)))
 (none)
 else
 some (([0, 1, 4], 0)))
 (none)
 else
 some (([0, 1, 3], 0)))
 (none)
 else
 some (([0, 1, 2], 0)))
 (none)
 else
 some (([4, 5], 0)))
 (none)
 else
 some (([3, 5], 0)))
 (none)
 else
 some (([3, 4], 0)))
 (none)
 else
 some (([2, 5], 0)))
 (none)
 else
 some (([2, 4], 0)))
 (none)
 else
 some (([2, 3], 0)))
 (none)
 else
 some (([1, 5], 0)))
 (none)
 else
 some (([1, 4], 0)))
 (none)
 else
 some (([1, 3], 0)))
 (none)
 else
 some (([1, 2], 0)))
 (none)
 else
 some (([0, 5], 0)))
 (none)
 else
 some (([0, 4], 0)))
 (none)
 else
 some (([0, 3], 0)))
 (none)
 else
 some (([0, 2], 0)))
 (none)
 else
 some (([0, 1], 0)))
 (none)
 else
 some (([5], 0)))
 (none)
 else
 some (([4], 0)))
 (none)
 else
 some (([3], 0)))
 (none)
 else
 some (([2], 0)))
 (none)
 else
 some (([1], 0)))
 (none)
 else
 some (([0], 0)))
 (none)
 else
 none)
 (none))
 (none)
 else
 none
 else
 none
 else
 none
 else
 none)
 (none)
 else
 bif r1.2 == 0 then
 none
 else
 none)
 (none))
 (none)
def f7n6 : (Int × Int × Int) × (Int × Int × Int) × (Int × Int × Int) × (Int × Int × Int) × (Int × Int × Int) × (Int × Int × Int) × (Int × Int) → (List (Int × Int × Int)) × (Int × Int) := fun (t0, t1, t2, t3, t4, t5, limit) => ([t0, t1, t2, t3, t4, t5], limit)
theorem h7n6 : ∀ d, evalK Tryd.prog (Pars [.own 3 zI, .d zI]) (knowM md7f Gc7K1) 300 24 7 (cvs [.d (.slice (.agg (.pair zI zP))), .d (.agg zP)] (f7n6 d)) (canonK [.own 3 zI, .d zI]) = p7n6 d := fun d => by kernel_rfl
noncomputable def s7n6 : (List (Int × Int × Int)) × (Int × Int) → Option ((List Int) × Int) := fun
 | ([t0, t1, t2, t3, t4, t5], limit) => p7n6 (t0, t1, t2, t3, t4, t5, limit)
 | _ => none
theorem q7n6 : ∀ x y, s7n6 x = some y → ∃ d, x = f7n6 d ∧ p7n6 d = some y := by
 intro x y h
 unfold s7n6 at h
 split at h
 ·exact ⟨_, rfl, h⟩
 ·cases h
theorem i7n6 : ItemOk Tryd.prog (.fn 7 [.d (.slice (.agg (.pair zI zP))), .d (.agg zP)] [.own 3 zI, .d zI] s7n6) := @item_fnP Tryd.prog md7f ext7f Gc7K1 noSpecial mixed Gc7K1_ok 7 300 24 [.d (.slice (.agg (.pair zI zP))), .d (.agg zP)] [.own 3 zI, .d zI] ((Int × Int × Int) × (Int × Int × Int) × (Int × Int × Int) × (Int × Int × Int) × (Int × Int × Int) × (Int × Int × Int) × (Int × Int)) f7n6 p7n6 s7n6 h7n6 q7n6
end Go.Proofs.YtdoehknomnhlkaaDoor
