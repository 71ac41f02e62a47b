/- Printed by gen.py: specifications of functions. -/
import Derived.Test.YtdoehknomnhlkaaDoorGc7
set_option linter.unusedSimpArgs false
set_option maxRecDepth 100000
namespace Go.Proofs.YtdoehknomnhlkaaDoor
open Go.Ev
@[reducible] def T7_6Rh : Tmpl := ⟨66, [(4, .ref 5004 0 0 0), (5, .ref 5005 0 0 0), (16036, .mref 6900), (32001, .ref 4004 0 0 0), (32004, .ref 5900 0 0 0), (32005, .ref 4005 0 0 0), (48001, .ref 4004 0 0 0), (48004, .ref 5900 0 0 0), (48005, .ref 4005 0 0 0), (80004, .ref 5004 0 0 0), (80005, .ref 5005 0 0 0), (80006, .ref 5006 0 0 0), (80066, .mref 6900), (112000004, .ref 5004 0 0 0), (112000005, .ref 5005 0 0 0), (112000006, .ref 5006 0 0 0)], [.own 9 2025 3 zI, .val 10 zI, .valv 49 256 .bool, .val 50 zI, .val 32008 zI, .val 48008 zI, .val 80000 (.slice (.agg (.pair zI zP))), .val 80026 zI, .val 80027 zI, .cells 5004 [.d (.slice zI)], .cells 5005 [.d zI], .cells 4004 [.own 2025 3 zI], .cells 5900 [.d zI], .cells 4005 [.clo 46 [.ref 4004, .ref 5901, .ref 4003, .ref 5900, .ref 4005]], .cells 5006 [.d (.ptr swSh)], .cells 5901 [.d zI], .cells 4003 [.hd 6900]], [37, 36, 36, 9, 67], some (6900, .busy)⟩
@[reducible] def X7_6Rh : List (Ex × Tmpl) := [(.exit 3, ⟨66, [(16036, .mref 6900), (32001, .ref 4004 0 0 0), (32004, .ref 5900 0 0 0), (32005, .ref 4005 0 0 0), (48001, .ref 4004 0 0 0), (48004, .ref 5900 0 0 0), (48005, .ref 4005 0 0 0), (80004, .ref 5004 0 0 0), (80005, .ref 5005 0 0 0), (80006, .ref 5006 0 0 0), (80066, .mref 6900), (112000004, .ref 5004 0 0 0), (112000005, .ref 5005 0 0 0), (112000006, .ref 5006 0 0 0)], [.val 32008 zI, .val 48008 zI, .val 80000 (.slice (.agg (.pair zI zP))), .val 80026 zI, .val 80027 zI, .cells 4004 [.own 2025 3 zI], .cells 5900 [.d zI], .cells 4005 [.clo 46 [.ref 4004, .ref 5901, .ref 4003, .ref 5900, .ref 4005]], .cells 5004 [.d (.slice zI)], .cells 5005 [.d zI], .cells 5006 [.d (.ptr swSh)], .cells 5901 [.d zI], .cells 4003 [.hd 6900]], [37, 36, 36, 9, 67], some (6900, .busy)⟩), (.exit 6, ⟨66, [(4, .ref 5004 0 0 0), (5, .ref 5005 0 0 0), (16036, .mref 6900), (32001, .ref 4004 0 0 0), (32004, .ref 5900 0 0 0), (32005, .ref 4005 0 0 0), (48001, .ref 4004 0 0 0), (48004, .ref 5900 0 0 0), (48005, .ref 4005 0 0 0), (80004, .ref 5004 0 0 0), (80005, .ref 5005 0 0 0), (80006, .ref 5006 0 0 0), (80066, .mref 6900), (112000004, .ref 5004 0 0 0), (112000005, .ref 5005 0 0 0), (112000006, .ref 5006 0 0 0)], [.own 9 2025 3 zI, .val 32008 zI, .val 48008 zI, .val 80000 (.slice (.agg (.pair zI zP))), .val 80026 zI, .val 80027 zI, .cells 5004 [.d (.slice zI)], .cells 5005 [.d zI], .cells 4004 [.own 2025 3 zI], .cells 5900 [.d zI], .cells 4005 [.clo 46 [.ref 4004, .ref 5901, .ref 4003, .ref 5900, .ref 4005]], .cells 5006 [.d (.ptr swSh)], .cells 5901 [.d zI], .cells 4003 [.hd 6900]], [37, 36, 36, 9, 67], some (6900, .busy)⟩)]
noncomputable def step7_6Rh : (List Int) × Int × (List Bool) × Int × Int × Int × (List (Int × Int × Int)) × Int × Int × (List Int) × Int × (List Int) × Int × Unit × SwT × Int × Unit → Option (LpI × (((List Int) × Int × (List Bool) × Int × Int × Int × (List (Int × Int × Int)) × Int × Int × (List Int) × Int × (List Int) × Int × Unit × SwT × Int × Unit) ⊕ ((Int × Int × (List (Int × Int × Int)) × Int × Int × (List Int) × Int × Unit × (List Int) × Int × SwT × Int × Unit) ⊕ ((List Int) × Int × Int × (List (Int × Int × Int)) × Int × Int × (List Int) × Int × (List Int) × Int × Unit × SwT × Int × Unit)))) := fun (_, mask, t49, t50, i, i', l, t80026, t80027, t5004, t5005, t4004, t5900, _, s, t5901, _) =>
 bif decide (t50 < 256) then
  bif inBounds t50 256 then
   bif (padV 256 .bool t49).getD t50.toNat false then
    bif (andI .i64 t50 mask) == mask then
     some (Lp7_0, .inr (.inl (i, i', l, t80026, t80027, t4004, t5900, (), t5004, t5005, s, t5901, ())))
    else
     some (Lp7_0, .inl (t4004, mask, padV 256 .bool t49, wr (t50 + 1), i, i', l, t80026, t80027, t5004, t5005, t4004, t5900, (), s, t5901, ()))
   else
    some (Lp7_0, .inl (t4004, mask, padV 256 .bool t49, wr (t50 + 1), i, i', l, t80026, t80027, t5004, t5005, t4004, t5900, (), s, t5901, ()))
  else
   none
 else
  some (Lp7_0, .inr (.inr (t4004, i, i', l, t80026, t80027, t5004, t5005, t4004, t5900, (), s, t5901, ())))
theorem one7_6Rh : oneLoopR Lp7_0.body 6 = true := by kernel_rfl
noncomputable def F7_6Rh : T7_6Rh.D → Out (ExT X7_6Rh) := fun (set, mask, t49, t50, i, i', l, t80026, t80027, t5004, t5005, t4004, t5900, t4005, s, t5901, t4003) =>
 .br (decide (set = t4004) && (t50 == 0 && Nat.beq t49.length 256)) (.br (hitB t49 mask) (.done (.inl (i, i', l, t80026, t80027, t4004, t5900, t4005, t5004, t5005, s, t5901, t4003))) (.done (.inr (set, i, i', l, t80026, t80027, t5004, t5005, t4004, t5900, t4005, s, t5901, t4003)))) .no
theorem hF7_6Rh : ∀ x e, (F7_6Rh x).at' = some e → loopVal (strip Lp7_0 step7_6Rh) x = some e := by
 rintro ⟨set, mask, t49, t50, i, i', l, t80026, t80027, t5004, t5005, t4004, t5900, t4005, s, t5901, t4003⟩ e he
 obtain ⟨hg, hv⟩ := br_guard he
 obtain ⟨hd, hg2⟩ := and_split hg
 have hd : set = t4004 := of_decide_eq_true hd
 subst hd
 obtain ⟨h0, ha⟩ := guard2 hg2
 have h0 : t50 = 0 := h0
 subst h0
 have pa : padV 256 .bool t49 = t49 := padV_self ha
 have hl := hit_loop Lp7_0 step7_6Rh (fun ix0 => (set, mask, t49, ix0, i, i', l, t80026, t80027, t5004, t5005, set, t5900, t4005, s, t5901, t4003)) t49 mask (i, i', l, t80026, t80027, set, t5900, t4005, t5004, t5005, s, t5901, t4003) (set, i, i', l, t80026, t80027, t5004, t5005, set, t5900, t4005, s, t5901, t4003) (fun ix0 => by simp only [step7_6Rh, pa] <;> rfl)
 exact hl.trans (congrArg some (br_val hv))
theorem lp7_6Rh : ItemOk Tryd.prog (.loopR Lp7_0 66 6 T7_6Rh X7_6Rh F7_6Rh) := item_loopR md7 ext7 noSpecial mixed Gc7K1_ok (U := 300) (n := 18) one7_6Rh (fun x => by kernel_rfl) hF7_6Rh
noncomputable def Gc8K1 : List Ev.Item := .loopR Lp7_0 66 6 T7_6Rh X7_6Rh F7_6Rh :: Gc7K1
theorem Gc8K1_ok : ∀ q ∈ Gc8K1, ItemOk Tryd.prog q := items_cons lp7_6Rh Gc7K1_ok
@[reducible] def T7_6Ri : Tmpl := ⟨66, [(4, .ref 7004 0 0 0), (5, .ref 7005 0 0 0), (16036, .mref 8900), (32001, .ref 6004 0 0 0), (32004, .ref 7900 0 0 0), (32005, .ref 6005 0 0 0), (48001, .ref 6004 0 0 0), (48004, .ref 7900 0 0 0), (48005, .ref 6005 0 0 0), (64001, .ref 6004 0 0 0), (64004, .ref 7900 0 0 0), (64005, .ref 6005 0 0 0), (80001, .ref 6004 0 0 0), (80004, .ref 7900 0 0 0), (80005, .ref 6005 0 0 0), (112004, .ref 7004 0 0 0), (112005, .ref 7005 0 0 0), (112006, .ref 7006 0 0 0), (112066, .mref 8900), (144000004, .ref 7004 0 0 0), (144000005, .ref 7005 0 0 0), (144000006, .ref 7006 0 0 0)], [.own 9 2025 3 zI, .val 10 zI, .valv 49 256 .bool, .val 50 zI, .val 32008 zI, .val 48008 zI, .val 64008 zI, .val 80008 zI, .val 112000 (.slice (.agg (.pair zI zP))), .val 112026 zI, .val 112027 zI, .cells 7004 [.d (.slice zI)], .cells 7005 [.d zI], .cells 6004 [.own 2025 3 zI], .cells 7900 [.d zI], .cells 6005 [.clo 46 [.ref 6004, .ref 7901, .ref 6003, .ref 7900, .ref 6005]], .cells 7006 [.d (.ptr swSh)], .cells 7901 [.d zI], .cells 6003 [.hd 8900]], [37, 36, 36, 36, 36, 9, 67], some (8900, .busy)⟩
@[reducible] def X7_6Ri : List (Ex × Tmpl) := [(.exit 3, ⟨66, [(16036, .mref 8900), (32001, .ref 6004 0 0 0), (32004, .ref 7900 0 0 0), (32005, .ref 6005 0 0 0), (48001, .ref 6004 0 0 0), (48004, .ref 7900 0 0 0), (48005, .ref 6005 0 0 0), (64001, .ref 6004 0 0 0), (64004, .ref 7900 0 0 0), (64005, .ref 6005 0 0 0), (80001, .ref 6004 0 0 0), (80004, .ref 7900 0 0 0), (80005, .ref 6005 0 0 0), (112004, .ref 7004 0 0 0), (112005, .ref 7005 0 0 0), (112006, .ref 7006 0 0 0), (112066, .mref 8900), (144000004, .ref 7004 0 0 0), (144000005, .ref 7005 0 0 0), (144000006, .ref 7006 0 0 0)], [.val 32008 zI, .val 48008 zI, .val 64008 zI, .val 80008 zI, .val 112000 (.slice (.agg (.pair zI zP))), .val 112026 zI, .val 112027 zI, .cells 6004 [.own 2025 3 zI], .cells 7900 [.d zI], .cells 6005 [.clo 46 [.ref 6004, .ref 7901, .ref 6003, .ref 7900, .ref 6005]], .cells 7004 [.d (.slice zI)], .cells 7005 [.d zI], .cells 7006 [.d (.ptr swSh)], .cells 7901 [.d zI], .cells 6003 [.hd 8900]], [37, 36, 36, 36, 36, 9, 67], some (8900, .busy)⟩), (.exit 6, ⟨66, [(4, .ref 7004 0 0 0), (5, .ref 7005 0 0 0), (16036, .mref 8900), (32001, .ref 6004 0 0 0), (32004, .ref 7900 0 0 0), (32005, .ref 6005 0 0 0), (48001, .ref 6004 0 0 0), (48004, .ref 7900 0 0 0), (48005, .ref 6005 0 0 0), (64001, .ref 6004 0 0 0), (64004, .ref 7900 0 0 0), (64005, .ref 6005 0 0 0), (80001, .ref 6004 0 0 0), (80004, .ref 7900 0 0 0), (80005, .ref 6005 0 0 0), (112004, .ref 7004 0 0 0), (112005, .ref 7005 0 0 0), (112006, .ref 7006 0 0 0), (112066, .mref 8900), (144000004, .ref 7004 0 0 0), (144000005, .ref 7005 0 0 0), (144000006, .ref 7006 0 0 0)], [.own 9 2025 3 zI, .val 32008 zI, .val 48008 zI, .val 64008 zI, .val 80008 zI, .val 112000 (.slice (.agg (.pair zI zP))), .val 112026 zI, .val 112027 zI, .cells 7004 [.d (.slice zI)], .cells 7005 [.d zI], .cells 6004 [.own 2025 3 zI], .cells 7900 [.d zI], .cells 6005 [.clo 46 [.ref 6004, .ref 7901, .ref 6003, .ref 7900, .ref 6005]], .cells 7006 [.d (.ptr swSh)], .cells 7901 [.d zI], .cells 6003 [.hd 8900]], [37, 36, 36, 36, 36, 9, 67], some (8900, .busy)⟩)]
noncomputable def step7_6Ri : (List Int) × Int × (List Bool) × Int × Int × Int × Int × Int × (List (Int × Int × Int)) × Int × Int × (List Int) × Int × (List Int) × Int × Unit × SwT × Int × Unit → Option (LpI × (((List Int) × Int × (List Bool) × Int × Int × Int × Int × Int × (List (Int × Int × Int)) × Int × Int × (List Int) × Int × (List Int) × Int × Unit × SwT × Int × Unit) ⊕ ((Int × Int × Int × Int × (List (Int × Int × Int)) × Int × Int × (List Int) × Int × Unit × (List Int) × Int × SwT × Int × Unit) ⊕ ((List Int) × Int × Int × Int × Int × (List (Int × Int × Int)) × Int × Int × (List Int) × Int × (List Int) × Int × Unit × SwT × Int × Unit)))) := fun (_, mask, t49, t50, i, i', i'', i''', l, t112026, t112027, t7004, t7005, t6004, t7900, _, s, t7901, _) =>
 bif decide (t50 < 256) then
  bif inBounds t50 256 then
   bif (padV 256 .bool t49).getD t50.toNat false then
    bif (andI .i64 t50 mask) == mask then
     some (Lp7_0, .inr (.inl (i, i', i'', i''', l, t112026, t112027, t6004, t7900, (), t7004, t7005, s, t7901, ())))
    else
     some (Lp7_0, .inl (t6004, mask, padV 256 .bool t49, wr (t50 + 1), i, i', i'', i''', l, t112026, t112027, t7004, t7005, t6004, t7900, (), s, t7901, ()))
   else
    some (Lp7_0, .inl (t6004, mask, padV 256 .bool t49, wr (t50 + 1), i, i', i'', i''', l, t112026, t112027, t7004, t7005, t6004, t7900, (), s, t7901, ()))
  else
   none
 else
  some (Lp7_0, .inr (.inr (t6004, i, i', i'', i''', l, t112026, t112027, t7004, t7005, t6004, t7900, (), s, t7901, ())))
theorem one7_6Ri : oneLoopR Lp7_0.body 6 = true := by kernel_rfl
noncomputable def F7_6Ri : T7_6Ri.D → Out (ExT X7_6Ri) := fun (set, mask, t49, t50, i, i', i'', i''', l, t112026, t112027, t7004, t7005, t6004, t7900, t6005, s, t7901, t6003) =>
 .br (decide (set = t6004) && (t50 == 0 && Nat.beq t49.length 256)) (.br (hitB t49 mask) (.done (.inl (i, i', i'', i''', l, t112026, t112027, t6004, t7900, t6005, t7004, t7005, s, t7901, t6003))) (.done (.inr (set, i, i', i'', i''', l, t112026, t112027, t7004, t7005, t6004, t7900, t6005, s, t7901, t6003)))) .no
theorem hF7_6Ri : ∀ x e, (F7_6Ri x).at' = some e → loopVal (strip Lp7_0 step7_6Ri) x = some e := by
 rintro ⟨set, mask, t49, t50, i, i', i'', i''', l, t112026, t112027, t7004, t7005, t6004, t7900, t6005, s, t7901, t6003⟩ e he
 obtain ⟨hg, hv⟩ := br_guard he
 obtain ⟨hd, hg2⟩ := and_split hg
 have hd : set = t6004 := of_decide_eq_true hd
 subst hd
 obtain ⟨h0, ha⟩ := guard2 hg2
 have h0 : t50 = 0 := h0
 subst h0
 have pa : padV 256 .bool t49 = t49 := padV_self ha
 have hl := hit_loop Lp7_0 step7_6Ri (fun ix0 => (set, mask, t49, ix0, i, i', i'', i''', l, t112026, t112027, t7004, t7005, set, t7900, t6005, s, t7901, t6003)) t49 mask (i, i', i'', i''', l, t112026, t112027, set, t7900, t6005, t7004, t7005, s, t7901, t6003) (set, i, i', i'', i''', l, t112026, t112027, t7004, t7005, set, t7900, t6005, s, t7901, t6003) (fun ix0 => by simp only [step7_6Ri, pa] <;> rfl)
 exact hl.trans (congrArg some (br_val hv))
theorem lp7_6Ri : ItemOk Tryd.prog (.loopR Lp7_0 66 6 T7_6Ri X7_6Ri F7_6Ri) := item_loopR md7 ext7 noSpecial mixed Gc8K1_ok (U := 300) (n := 16) one7_6Ri (fun x => by kernel_rfl) hF7_6Ri
noncomputable def Gc8K2 : List Ev.Item := .loopR Lp7_0 66 6 T7_6Ri X7_6Ri F7_6Ri :: Gc8K1
theorem Gc8K2_ok : ∀ q ∈ Gc8K2, ItemOk Tryd.prog q := items_cons lp7_6Ri Gc8K1_ok
@[reducible] def T7_6Rj : Tmpl := ⟨66, [(4, .ref 9004 0 0 0), (5, .ref 9005 0 0 0), (16036, .mref 10900), (32001, .ref 8004 0 0 0), (32004, .ref 9900 0 0 0), (32005, .ref 8005 0 0 0), (48001, .ref 8004 0 0 0), (48004, .ref 9900 0 0 0), (48005, .ref 8005 0 0 0), (64001, .ref 8004 0 0 0), (64004, .ref 9900 0 0 0), (64005, .ref 8005 0 0 0), (80001, .ref 8004 0 0 0), (80004, .ref 9900 0 0 0), (80005, .ref 8005 0 0 0), (96001, .ref 8004 0 0 0), (96004, .ref 9900 0 0 0), (96005, .ref 8005 0 0 0), (112001, .ref 8004 0 0 0), (112004, .ref 9900 0 0 0), (112005, .ref 8005 0 0 0), (144004, .ref 9004 0 0 0), (144005, .ref 9005 0 0 0), (144006, .ref 9006 0 0 0), (144066, .mref 10900), (176000004, .ref 9004 0 0 0), (176000005, .ref 9005 0 0 0), (176000006, .ref 9006 0 0 0)], [.own 9 2025 3 zI, .val 10 zI, .valv 49 256 .bool, .val 50 zI, .val 32008 zI, .val 48008 zI, .val 64008 zI, .val 80008 zI, .val 96008 zI, .val 112008 zI, .val 144000 (.slice (.agg (.pair zI zP))), .val 144026 zI, .val 144027 zI, .cells 9004 [.d (.slice zI)], .cells 9005 [.d zI], .cells 8004 [.own 2025 3 zI], .cells 9900 [.d zI], .cells 8005 [.clo 46 [.ref 8004, .ref 9901, .ref 8003, .ref 9900, .ref 8005]], .cells 9006 [.d (.ptr swSh)], .cells 9901 [.d zI], .cells 8003 [.hd 10900]], [37, 36, 36, 36, 36, 36, 36, 9, 67], some (10900, .busy)⟩
@[reducible] def X7_6Rj : List (Ex × Tmpl) := [(.exit 3, ⟨66, [(16036, .mref 10900), (32001, .ref 8004 0 0 0), (32004, .ref 9900 0 0 0), (32005, .ref 8005 0 0 0), (48001, .ref 8004 0 0 0), (48004, .ref 9900 0 0 0), (48005, .ref 8005 0 0 0), (64001, .ref 8004 0 0 0), (64004, .ref 9900 0 0 0), (64005, .ref 8005 0 0 0), (80001, .ref 8004 0 0 0), (80004, .ref 9900 0 0 0), (80005, .ref 8005 0 0 0), (96001, .ref 8004 0 0 0), (96004, .ref 9900 0 0 0), (96005, .ref 8005 0 0 0), (112001, .ref 8004 0 0 0), (112004, .ref 9900 0 0 0), (112005, .ref 8005 0 0 0), (144004, .ref 9004 0 0 0), (144005, .ref 9005 0 0 0), (144006, .ref 9006 0 0 0), (144066, .mref 10900), (176000004, .ref 9004 0 0 0), (176000005, .ref 9005 0 0 0), (176000006, .ref 9006 0 0 0)], [.val 32008 zI, .val 48008 zI, .val 64008 zI, .val 80008 zI, .val 96008 zI, .val 112008 zI, .val 144000 (.slice (.agg (.pair zI zP))), .val 144026 zI, .val 144027 zI, .cells 8004 [.own 2025 3 zI], .cells 9900 [.d zI], .cells 8005 [.clo 46 [.ref 8004, .ref 9901, .ref 8003, .ref 9900, .ref 8005]], .cells 9004 [.d (.slice zI)], .cells 9005 [.d zI], .cells 9006 [.d (.ptr swSh)], .cells 9901 [.d zI], .cells 8003 [.hd 10900]], [37, 36, 36, 36, 36, 36, 36, 9, 67], some (10900, .busy)⟩), (.exit 6, ⟨66, [(4, .ref 9004 0 0 0), (5, .ref 9005 0 0 0), (16036, .mref 10900), (32001, .ref 8004 0 0 0), (32004, .ref 9900 0 0 0), (32005, .ref 8005 0 0 0), (48001, .ref 8004 0 0 0), (48004, .ref 9900 0 0 0), (48005, .ref 8005 0 0 0), (64001, .ref 8004 0 0 0), (64004, .ref 9900 0 0 0), (64005, .ref 8005 0 0 0), (80001, .ref 8004 0 0 0), (80004, .ref 9900 0 0 0), (80005, .ref 8005 0 0 0), (96001, .ref 8004 0 0 0), (96004, .ref 9900 0 0 0), (96005, .ref 8005 0 0 0), (112001, .ref 8004 0 0 0), (112004, .ref 9900 0 0 0), (112005, .ref 8005 0 0 0), (144004, .ref 9004 0 0 0), (144005, .ref 9005 0 0 0), (144006, .ref 9006 0 0 0), (144066, .mref 10900), (176000004, .ref 9004 0 0 0), (176000005, .ref 9005 0 0 0), (176000006, .ref 9006 0 0 0)], [.own 9 2025 3 zI, .val 32008 zI, .val 48008 zI, .val 64008 zI, .val 80008 zI, .val 96008 zI, .val 112008 zI, .val 144000 (.slice (.agg (.pair zI zP))), .val 144026 zI, .val 144027 zI, .cells 9004 [.d (.slice zI)], .cells 9005 [.d zI], .cells 8004 [.own 2025 3 zI], .cells 9900 [.d zI], .cells 8005 [.clo 46 [.ref 8004, .ref 9901, .ref 8003, .ref 9900, .ref 8005]], .cells 9006 [.d (.ptr swSh)], .cells 9901 [.d zI], .cells 8003 [.hd 10900]], [37, 36, 36, 36, 36, 36, 36, 9, 67], some (10900, .busy)⟩)]
noncomputable def step7_6Rj : (List Int) × Int × (List Bool) × Int × Int × Int × Int × Int × Int × Int × (List (Int × Int × Int)) × Int × Int × (List Int) × Int × (List Int) × Int × Unit × SwT × Int × Unit → Option (LpI × (((List Int) × Int × (List Bool) × Int × Int × Int × Int × Int × Int × Int × (List (Int × Int × Int)) × Int × Int × (List Int) × Int × (List Int) × Int × Unit × SwT × Int × Unit) ⊕ ((Int × Int × Int × Int × Int × Int × (List (Int × Int × Int)) × Int × Int × (List Int) × Int × Unit × (List Int) × Int × SwT × Int × Unit) ⊕ ((List Int) × Int × Int × Int × Int × Int × Int × (List (Int × Int × Int)) × Int × Int × (List Int) × Int × (List Int) × Int × Unit × SwT × Int × Unit)))) := fun (_, mask, t49, t50, i, i', i'', i''', i'''', i''''', l, t144026, t144027, t9004, t9005, t8004, t9900, _, s, t9901, _) =>
 bif decide (t50 < 256) then
  bif inBounds t50 256 then
   bif (padV 256 .bool t49).getD t50.toNat false then
    bif (andI .i64 t50 mask) == mask then
     some (Lp7_0, .inr (.inl (i, i', i'', i''', i'''', i''''', l, t144026, t144027, t8004, t9900, (), t9004, t9005, s, t9901, ())))
    else
     some (Lp7_0, .inl (t8004, mask, padV 256 .bool t49, wr (t50 + 1), i, i', i'', i''', i'''', i''''', l, t144026, t144027, t9004, t9005, t8004, t9900, (), s, t9901, ()))
   else
    some (Lp7_0, .inl (t8004, mask, padV 256 .bool t49, wr (t50 + 1), i, i', i'', i''', i'''', i''''', l, t144026, t144027, t9004, t9005, t8004, t9900, (), s, t9901, ()))
  else
   none
 else
  some (Lp7_0, .inr (.inr (t8004, i, i', i'', i''', i'''', i''''', l, t144026, t144027, t9004, t9005, t8004, t9900, (), s, t9901, ())))
theorem one7_6Rj : oneLoopR Lp7_0.body 6 = true := by kernel_rfl
noncomputable def F7_6Rj : T7_6Rj.D → Out (ExT X7_6Rj) := fun (set, mask, t49, t50, i, i', i'', i''', i'''', i''''', l, t144026, t144027, t9004, t9005, t8004, t9900, t8005, s, t9901, t8003) =>
 .br (decide (set = t8004) && (t50 == 0 && Nat.beq t49.length 256)) (.br (hitB t49 mask) (.done (.inl (i, i', i'', i''', i'''', i''''', l, t144026, t144027, t8004, t9900, t8005, t9004, t9005, s, t9901, t8003))) (.done (.inr (set, i, i', i'', i''', i'''', i''''', l, t144026, t144027, t9004, t9005, t8004, t9900, t8005, s, t9901, t8003)))) .no
theorem hF7_6Rj : ∀ x e, (F7_6Rj x).at' = some e → loopVal (strip Lp7_0 step7_6Rj) x = some e := by
 rintro ⟨set, mask, t49, t50, i, i', i'', i''', i'''', i''''', l, t144026, t144027, t9004, t9005, t8004, t9900, t8005, s, t9901, t8003⟩ e he
 obtain ⟨hg, hv⟩ := br_guard he
 obtain ⟨hd, hg2⟩ := and_split hg
 have hd : set = t8004 := of_decide_eq_true hd
 subst hd
 obtain ⟨h0, ha⟩ := guard2 hg2
 have h0 : t50 = 0 := h0
 subst h0
 have pa : padV 256 .bool t49 = t49 := padV_self ha
 have hl := hit_loop Lp7_0 step7_6Rj (fun ix0 => (set, mask, t49, ix0, i, i', i'', i''', i'''', i''''', l, t144026, t144027, t9004, t9005, set, t9900, t8005, s, t9901, t8003)) t49 mask (i, i', i'', i''', i'''', i''''', l, t144026, t144027, set, t9900, t8005, t9004, t9005, s, t9901, t8003) (set, i, i', i'', i''', i'''', i''''', l, t144026, t144027, t9004, t9005, set, t9900, t8005, s, t9901, t8003) (fun ix0 => by simp only [step7_6Rj, pa] <;> rfl)
 exact hl.trans (congrArg some (br_val hv))
theorem lp7_6Rj : ItemOk Tryd.prog (.loopR Lp7_0 66 6 T7_6Rj X7_6Rj F7_6Rj) := item_loopR md7 ext7 noSpecial mixed Gc8K2_ok (U := 300) (n := 14) one7_6Rj (fun x => by kernel_rfl) hF7_6Rj
noncomputable def Gc8K3 : List Ev.Item := .loopR Lp7_0 66 6 T7_6Rj X7_6Rj F7_6Rj :: Gc8K2
theorem Gc8K3_ok : ∀ q ∈ Gc8K3, ItemOk Tryd.prog q := items_cons lp7_6Rj Gc8K2_ok
@[reducible] def T7_6Rk : Tmpl := ⟨66, [(4, .ref 10004 0 0 0), (5, .ref 10005 0 0 0), (16036, .mref 11900), (32001, .ref 9004 0 0 0), (32004, .ref 10900 0 0 0), (32005, .ref 9005 0 0 0), (48001, .ref 9004 0 0 0), (48004, .ref 10900 0 0 0), (48005, .ref 9005 0 0 0), (64001, .ref 9004 0 0 0), (64004, .ref 10900 0 0 0), (64005, .ref 9005 0 0 0), (80001, .ref 9004 0 0 0), (80004, .ref 10900 0 0 0), (80005, .ref 9005 0 0 0), (96001, .ref 9004 0 0 0), (96004, .ref 10900 0 0 0), (96005, .ref 9005 0 0 0), (112001, .ref 9004 0 0 0), (112004, .ref 10900 0 0 0), (112005, .ref 9005 0 0 0), (128001, .ref 9004 0 0 0), (128004, .ref 10900 0 0 0), (128005, .ref 9005 0 0 0), (160004, .ref 10004 0 0 0), (160005, .ref 10005 0 0 0), (160006, .ref 10006 0 0 0), (160066, .mref 11900), (192000004, .ref 10004 0 0 0), (192000005, .ref 10005 0 0 0), (192000006, .ref 10006 0 0 0)], [.own 9 2025 3 zI, .val 10 zI, .valv 49 256 .bool, .val 50 zI, .val 32008 zI, .val 48008 zI, .val 64008 zI, .val 80008 zI, .val 96008 zI, .val 112008 zI, .val 128008 zI, .val 160000 (.slice (.agg (.pair zI zP))), .val 160026 zI, .val 160027 zI, .cells 10004 [.d (.slice zI)], .cells 10005 [.d zI], .cells 9004 [.own 2025 3 zI], .cells 10900 [.d zI], .cells 9005 [.clo 46 [.ref 9004, .ref 10901, .ref 9003, .ref 10900, .ref 9005]], .cells 10006 [.d (.ptr swSh)], .cells 10901 [.d zI], .cells 9003 [.hd 11900]], [37, 36, 36, 36, 36, 36, 36, 36, 9, 67], some (11900, .busy)⟩
@[reducible] def X7_6Rk : List (Ex × Tmpl) := [(.exit 3, ⟨66, [(16036, .mref 11900), (32001, .ref 9004 0 0 0), (32004, .ref 10900 0 0 0), (32005, .ref 9005 0 0 0), (48001, .ref 9004 0 0 0), (48004, .ref 10900 0 0 0), (48005, .ref 9005 0 0 0), (64001, .ref 9004 0 0 0), (64004, .ref 10900 0 0 0), (64005, .ref 9005 0 0 0), (80001, .ref 9004 0 0 0), (80004, .ref 10900 0 0 0), (80005, .ref 9005 0 0 0), (96001, .ref 9004 0 0 0), (96004, .ref 10900 0 0 0), (96005, .ref 9005 0 0 0), (112001, .ref 9004 0 0 0), (112004, .ref 10900 0 0 0), (112005, .ref 9005 0 0 0), (128001, .ref 9004 0 0 0), (128004, .ref 10900 0 0 0), (128005, .ref 9005 0 0 0), (160004, .ref 10004 0 0 0), (160005, .ref 10005 0 0 0), (160006, .ref 10006 0 0 0), (160066, .mref 11900), (192000004, .ref 10004 0 0 0), (192000005, .ref 10005 0 0 0), (192000006, .ref 10006 0 0 0)], [.val 32008 zI, .val 48008 zI, .val 64008 zI, .val 80008 zI, .val 96008 zI, .val 112008 zI, .val 128008 zI, .val 160000 (.slice (.agg (.pair zI zP))), .val 160026 zI, .val 160027 zI, .cells 9004 [.own 2025 3 zI], .cells 10900 [.d zI], .cells 9005 [.clo 46 [.ref 9004, .ref 10901, .ref 9003, .ref 10900, .ref 9005]], .cells 10004 [.d (.slice zI)], .cells 10005 [.d zI], .cells 10006 [.d (.ptr swSh)], .cells 10901 [.d zI], .cells 9003 [.hd 11900]], [37, 36, 36, 36, 36, 36, 36, 36, 9, 67], some (11900, .busy)⟩), (.exit 6, ⟨66, [(4, .ref 10004 0 0 0), (5, .ref 10005 0 0 0), (16036, .mref 11900), (32001, .ref 9004 0 0 0), (32004, .ref 10900 0 0 0), (32005, .ref 9005 0 0 0), (48001, .ref 9004 0 0 0), (48004, .ref 10900 0 0 0), (48005, .ref 9005 0 0 0), (64001, .ref 9004 0 0 0), (64004, .ref 10900 0 0 0), (64005, .ref 9005 0 0 0), (80001, .ref 9004 0 0 0), (80004, .ref 10900 0 0 0), (80005, .ref 9005 0 0 0), (96001, .ref 9004 0 0 0), (96004, .ref 10900 0 0 0), (96005, .ref 9005 0 0 0), (112001, .ref 9004 0 0 0), (112004, .ref 10900 0 0 0), (112005, .ref 9005 0 0 0), (128001, .ref 9004 0 0 0), (128004, .ref 10900 0 0 0), (128005, .ref 9005 0 0 0), (160004, .ref 10004 0 0 0), (160005, .ref 10005 0 0 0), (160006, .ref 10006 0 0 0), (160066, .mref 11900), (192000004, .ref 10004 0 0 0), (192000005, .ref 10005 0 0 0), (192000006, .ref 10006 0 0 0)], [.own 9 2025 3 zI, .val 32008 zI, .val 48008 zI, .val 64008 zI, .val 80008 zI, .val 96008 zI, .val 112008 zI, .val 128008 zI, .val 160000 (.slice (.agg (.pair zI zP))), .val 160026 zI, .val 160027 zI, .cells 10004 [.d (.slice zI)], .cells 10005 [.d zI], .cells 9004 [.own 2025 3 zI], .cells 10900 [.d zI], .cells 9005 [.clo 46 [.ref 9004, .ref 10901, .ref 9003, .ref 10900, .ref 9005]], .cells 10006 [.d (.ptr swSh)], .cells 10901 [.d zI], .cells 9003 [.hd 11900]], [37, 36, 36, 36, 36, 36, 36, 36, 9, 67], some (11900, .busy)⟩)]
noncomputable def step7_6Rk : (List Int) × Int × (List Bool) × Int × Int × Int × Int × Int × Int × Int × Int × (List (Int × Int × Int)) × Int × Int × (List Int) × Int × (List Int) × Int × Unit × SwT × Int × Unit → Option (LpI × (((List Int) × Int × (List Bool) × Int × Int × Int × Int × Int × Int × Int × Int × (List (Int × Int × Int)) × Int × Int × (List Int) × Int × (List Int) × Int × Unit × SwT × Int × Unit) ⊕ ((Int × Int × Int × Int × Int × Int × Int × (List (Int × Int × Int)) × Int × Int × (List Int) × Int × Unit × (List Int) × Int × SwT × Int × Unit) ⊕ ((List Int) × Int × Int × Int × Int × Int × Int × Int × (List (Int × Int × Int)) × Int × Int × (List Int) × Int × (List Int) × Int × Unit × SwT × Int × Unit)))) := fun (_, mask, t49, t50, i, i', i'', i''', i'''', i''''', i'''''', l, t160026, t160027, t10004, t10005, t9004, t10900, _, s, t10901, _) =>
 bif decide (t50 < 256) then
  bif inBounds t50 256 then
   bif (padV 256 .bool t49).getD t50.toNat false then
    bif (andI .i64 t50 mask) == mask then
     some (Lp7_0, .inr (.inl (i, i', i'', i''', i'''', i''''', i'''''', l, t160026, t160027, t9004, t10900, (), t10004, t10005, s, t10901, ())))
    else
     some (Lp7_0, .inl (t9004, mask, padV 256 .bool t49, wr (t50 + 1), i, i', i'', i''', i'''', i''''', i'''''', l, t160026, t160027, t10004, t10005, t9004, t10900, (), s, t10901, ()))
   else
    some (Lp7_0, .inl (t9004, mask, padV 256 .bool t49, wr (t50 + 1), i, i', i'', i''', i'''', i''''', i'''''', l, t160026, t160027, t10004, t10005, t9004, t10900, (), s, t10901, ()))
  else
   none
 else
  some (Lp7_0, .inr (.inr (t9004, i, i', i'', i''', i'''', i''''', i'''''', l, t160026, t160027, t10004, t10005, t9004, t10900, (), s, t10901, ())))
theorem one7_6Rk : oneLoopR Lp7_0.body 6 = true := by kernel_rfl
noncomputable def F7_6Rk : T7_6Rk.D → Out (ExT X7_6Rk) := fun (set, mask, t49, t50, i, i', i'', i''', i'''', i''''', i'''''', l, t160026, t160027, t10004, t10005, t9004, t10900, t9005, s, t10901, t9003) =>
 .br (decide (set = t9004) && (t50 == 0 && Nat.beq t49.length 256)) (.br (hitB t49 mask) (.done (.inl (i, i', i'', i''', i'''', i''''', i'''''', l, t160026, t160027, t9004, t10900, t9005, t10004, t10005, s, t10901, t9003))) (.done (.inr (set, i, i', i'', i''', i'''', i''''', i'''''', l, t160026, t160027, t10004, t10005, t9004, t10900, t9005, s, t10901, t9003)))) .no
theorem hF7_6Rk : ∀ x e, (F7_6Rk x).at' = some e → loopVal (strip Lp7_0 step7_6Rk) x = some e := by
 rintro ⟨set, mask, t49, t50, i, i', i'', i''', i'''', i''''', i'''''', l, t160026, t160027, t10004, t10005, t9004, t10900, t9005, s, t10901, t9003⟩ e he
 obtain ⟨hg, hv⟩ := br_guard he
 obtain ⟨hd, hg2⟩ := and_split hg
 have hd : set = t9004 := of_decide_eq_true hd
 subst hd
 obtain ⟨h0, ha⟩ := guard2 hg2
 have h0 : t50 = 0 := h0
 subst h0
 have pa : padV 256 .bool t49 = t49 := padV_self ha
 have hl := hit_loop Lp7_0 step7_6Rk (fun ix0 => (set, mask, t49, ix0, i, i', i'', i''', i'''', i''''', i'''''', l, t160026, t160027, t10004, t10005, set, t10900, t9005, s, t10901, t9003)) t49 mask (i, i', i'', i''', i'''', i''''', i'''''', l, t160026, t160027, set, t10900, t9005, t10004, t10005, s, t10901, t9003) (set, i, i', i'', i''', i'''', i''''', i'''''', l, t160026, t160027, t10004, t10005, set, t10900, t9005, s, t10901, t9003) (fun ix0 => by simp only [step7_6Rk, pa] <;> rfl)
 exact hl.trans (congrArg some (br_val hv))
theorem lp7_6Rk : ItemOk Tryd.prog (.loopR Lp7_0 66 6 T7_6Rk X7_6Rk F7_6Rk) := item_loopR md7 ext7 noSpecial mixed Gc8K3_ok (U := 300) (n := 13) one7_6Rk (fun x => by kernel_rfl) hF7_6Rk
noncomputable def Gc8K4 : List Ev.Item := .loopR Lp7_0 66 6 T7_6Rk X7_6Rk F7_6Rk :: Gc8K3
theorem Gc8K4_ok : ∀ q ∈ Gc8K4, ItemOk Tryd.prog q := items_cons lp7_6Rk Gc8K3_ok
@[reducible] def T7_0 : Tmpl := ⟨66, [(4, .ref 4 0 0 0), (5, .ref 5 0 0 0), (6, .ref 6 0 0 0), (26, .int .i64 8)], [.lst 0 7 (.agg (.pair zI zP)), .cells 4 [.d (.slice zI)], .cells 5 [.d zI], .cells 6 [.d (.ptr swSh)]], [], none⟩
@[reducible] def X7_0 : List (Ex × Tmpl) := [(.ret, ⟨66, [(4, .ref 4 0 0 0), (5, .ref 5 0 0 0)], [.cells 4 [.own 902 3 zI], .cells 5 [.d zI]], [], none⟩), (.exit 0, ⟨66, [(4, .ref 4 0 0 0), (5, .ref 5 0 0 0)], [.cells 4 [.d (.slice zI)], .cells 5 [.d zI]], [], none⟩)]
noncomputable def step7_0_0 : (List (Int × Int × Int)) × (List Int) × Int × SwT → Option ((Nat × ((List (Int × Int × Int)) × (List Int) × Int × SwT)) ⊕ (((List Int) × Int) ⊕ ((List Int) × Int))) := fun (l, t4, t5, s) =>
 optE (onlyAt Lp7_0 Lp7_0 (onlyAt Lp7_0 Lp7_0 (some ()))) (fun _ =>
  bif hitB (occL s) 0 then
   some (.inl (1, (padV 7 (.agg (.pair zI zP)) l, t4, t5, s)))
  else
   none)
  (none)
noncomputable def step7_0_1 : (List (Int × Int × Int)) × (List Int) × Int × SwT → Option ((Nat × ((List (Int × Int × Int)) × (List Int) × Int × SwT)) ⊕ (((List Int) × Int) ⊕ ((List Int) × Int))) := fun (l, t4, t5, s) =>
 optE (onlyAt Lp7_0 Lp7_0 (onlyAt Lp7_0 Lp7_0 (some ()))) (fun _ =>
  bif hitB (occL s) 1 then
   optE (onlyAt Lp7_0 Lp7_0 (onlyAt Lp7_0 Lp7_0 (some ()))) (fun _ =>
    bif hitB (occL s) 2 then
     optE (onlyAt Lp7_0 Lp7_0 (onlyAt Lp7_0 Lp7_0 (some ()))) (fun _ =>
      bif hitB (occL s) 4 then
       optE (onlyAt Lp7_0 Lp7_0 (onlyAt Lp7_0 Lp7_0 (some ()))) (fun _ =>
        bif hitB (occL s) 8 then
         optE (onlyAt Lp7_0 Lp7_0 (onlyAt Lp7_0 Lp7_0 (some ()))) (fun _ =>
          bif hitB (occL s) 16 then
           optE (onlyAt Lp7_0 Lp7_0 (onlyAt Lp7_0 Lp7_0 (some ()))) (fun _ =>
            bif hitB (occL s) 32 then
             optE (onlyAt Lp7_0 Lp7_0 (onlyAt Lp7_0 Lp7_0 (some ()))) (fun _ =>
              bif hitB (occL s) 64 then
               some (.inl (2, (padV 7 (.agg (.pair zI zP)) l, t4, t5, s)))
              else
               some (.inr (.inl ([6], 0))))
              (none)
            else
             some (.inr (.inl ([5], 0))))
            (none)
          else
           some (.inr (.inl ([4], 0))))
          (none)
        else
         some (.inr (.inl ([3], 0))))
        (none)
      else
       some (.inr (.inl ([2], 0))))
      (none)
    else
     some (.inr (.inl ([1], 0))))
    (none)
  else
   some (.inr (.inl ([0], 0))))
  (none)
noncomputable def step7_0_2 : (List (Int × Int × Int)) × (List Int) × Int × SwT → Option ((Nat × ((List (Int × Int × Int)) × (List Int) × Int × SwT)) ⊕ (((List Int) × Int) ⊕ ((List Int) × Int))) := fun (l, t4, t5, s) =>
 optE (onlyAt Lp7_0 Lp7_0 (onlyAt Lp7_0 Lp7_0 (some ()))) (fun _ =>
  bif hitB (occL s) 3 then
   optE (onlyAt Lp7_0 Lp7_0 (onlyAt Lp7_0 Lp7_0 (some ()))) (fun _ =>
    bif hitB (occL s) 5 then
     optE (onlyAt Lp7_0 Lp7_0 (onlyAt Lp7_0 Lp7_0 (some ()))) (fun _ =>
      bif hitB (occL s) 9 then
       optE (onlyAt Lp7_0 Lp7_0 (onlyAt Lp7_0 Lp7_0 (some ()))) (fun _ =>
        bif hitB (occL s) 17 then
         optE (onlyAt Lp7_0 Lp7_0 (onlyAt Lp7_0 Lp7_0 (some ()))) (fun _ =>
          bif hitB (occL s) 33 then
           optE (onlyAt Lp7_0 Lp7_0 (onlyAt Lp7_0 Lp7_0 (some ()))) (fun _ =>
            bif hitB (occL s) 65 then
             optE (onlyAt Lp7_0 Lp7_0 (onlyAt Lp7_0 Lp7_0 (some ()))) (fun _ =>
              bif hitB (occL s) 6 then
               optE (onlyAt Lp7_0 Lp7_0 (onlyAt Lp7_0 Lp7_0 (some ()))) (fun _ =>
                bif hitB (occL s) 10 then
                 optE (onlyAt Lp7_0 Lp7_0 (onlyAt Lp7_0 Lp7_0 (some ()))) (fun _ =>
                  bif hitB (occL s) 18 then
                   optE (onlyAt Lp7_0 Lp7_0 (onlyAt Lp7_0 Lp7_0 (some ()))) (fun _ =>
                    bif hitB (occL s) 34 then
                     optE (onlyAt Lp7_0 Lp7_0 (onlyAt Lp7_0 Lp7_0 (some ()))) (fun _ =>
                      bif hitB (occL s) 66 then
                       optE (onlyAt Lp7_0 Lp7_0 (onlyAt Lp7_0 Lp7_0 (some ()))) (fun _ =>
                        bif hitB (occL s) 12 then
                         optE (onlyAt Lp7_0 Lp7_0 (onlyAt Lp7_0 Lp7_0 (some ()))) (fun _ =>
                          bif hitB (occL s) 20 then
                           optE (onlyAt Lp7_0 Lp7_0 (onlyAt Lp7_0 Lp7_0 (some ()))) (fun _ =>
                            bif hitB (occL s) 36 then
                             optE (onlyAt Lp7_0 Lp7_0 (onlyAt Lp7_0 Lp7_0 (some ()))) (fun _ =>
                              bif hitB (occL s) 68 then
                               optE (onlyAt Lp7_0 Lp7_0 (onlyAt Lp7_0 Lp7_0 (some ()))) (fun _ =>
                                bif hitB (occL s) 24 then
                                 optE (onlyAt Lp7_0 Lp7_0 (onlyAt Lp7_0 Lp7_0 (some ()))) (fun _ =>
                                  bif hitB (occL s) 40 then
                                   optE (onlyAt Lp7_0 Lp7_0 (onlyAt Lp7_0 Lp7_0 (some ()))) (fun _ =>
                                    bif hitB (occL s) 72 then
                                     optE (onlyAt Lp7_0 Lp7_0 (onlyAt Lp7_0 Lp7_0 (some ()))) (fun _ =>
                                      bif hitB (occL s) 48 then
                                       optE (onlyAt Lp7_0 Lp7_0 (onlyAt Lp7_0 Lp7_0 (some ()))) (fun _ =>
                                        bif hitB (occL s) 80 then
                                         optE (onlyAt Lp7_0 Lp7_0 (onlyAt Lp7_0 Lp7_0 (some ()))) (fun _ =>
                                          bif hitB (occL s) 96 then
                                           some (.inl (3, (padV 7 (.agg (.pair zI zP)) l, t4, t5, s)))
                                          else
                                           some (.inr (.inl ([5, 6], 0))))
                                          (none)
                                        else
                                         some (.inr (.inl ([4, 6], 0))))
                                        (none)
                                      else
                                       some (.inr (.inl ([4, 5], 0))))
                                      (none)
                                    else
                                     some (.inr (.inl ([3, 6], 0))))
                                    (none)
                                  else
                                   some (.inr (.inl ([3, 5], 0))))
                                  (none)
                                else
                                 some (.inr (.inl ([3, 4], 0))))
                                (none)
                              else
                               some (.inr (.inl ([2, 6], 0))))
                              (none)
                            else
                             some (.inr (.inl ([2, 5], 0))))
                            (none)
                          else
                           some (.inr (.inl ([2, 4], 0))))
                          (none)
                        else
                         some (.inr (.inl ([2, 3], 0))))
                        (none)
                      else
                       some (.inr (.inl ([1, 6], 0))))
                      (none)
                    else
                     some (.inr (.inl ([1, 5], 0))))
                    (none)
                  else
                   some (.inr (.inl ([1, 4], 0))))
                  (none)
                else
                 some (.inr (.inl ([1, 3], 0))))
                (none)
              else
               some (.inr (.inl ([1, 2], 0))))
              (none)
            else
             some (.inr (.inl ([0, 6], 0))))
            (none)
          else
           some (.inr (.inl ([0, 5], 0))))
          (none)
        else
         some (.inr (.inl ([0, 4], 0))))
        (none)
      else
       some (.inr (.inl ([0, 3], 0))))
      (none)
    else
     some (.inr (.inl ([0, 2], 0))))
    (none)
  else
   some (.inr (.inl ([0, 1], 0))))
  (none)
noncomputable def step7_0_3 : (List (Int × Int × Int)) × (List Int) × Int × SwT → Option ((Nat × ((List (Int × Int × Int)) × (List Int) × Int × SwT)) ⊕ (((List Int) × Int) ⊕ ((List Int) × Int))) := fun (l, t4, t5, s) =>
 optE (onlyAt Lp7_0 Lp7_0 (onlyAt Lp7_0 Lp7_0 (some ()))) (fun _ =>
  bif hitB (occL s) 7 then
   optE (onlyAt Lp7_0 Lp7_0 (onlyAt Lp7_0 Lp7_0 (some ()))) (fun _ =>
    bif hitB (occL s) 11 then
     optE (onlyAt Lp7_0 Lp7_0 (onlyAt Lp7_0 Lp7_0 (some ()))) (fun _ =>
      bif hitB (occL s) 19 then
       optE (onlyAt Lp7_0 Lp7_0 (onlyAt Lp7_0 Lp7_0 (some ()))) (fun _ =>
        bif hitB (occL s) 35 then
         optE (onlyAt Lp7_0 Lp7_0 (onlyAt Lp7_0 Lp7_0 (some ()))) (fun _ =>
          bif hitB (occL s) 67 then
           optE (onlyAt Lp7_0 Lp7_0 (onlyAt Lp7_0 Lp7_0 (some ()))) (fun _ =>
            bif hitB (occL s) 13 then
             optE (onlyAt Lp7_0 Lp7_0 (onlyAt Lp7_0 Lp7_0 (some ()))) (fun _ =>
              bif hitB (occL s) 21 then
               optE (onlyAt Lp7_0 Lp7_0 (onlyAt Lp7_0 Lp7_0 (some ()))) (fun _ =>
                bif hitB (occL s) 37 then
                 optE (onlyAt Lp7_0 Lp7_0 (onlyAt Lp7_0 Lp7_0 (some ()))) (fun _ =>
                  bif hitB (occL s) 69 then
                   optE (onlyAt Lp7_0 Lp7_0 (onlyAt Lp7_0 Lp7_0 (some ()))) (fun _ =>
                    bif hitB (occL s) 25 then
                     optE (onlyAt Lp7_0 Lp7_0 (onlyAt Lp7_0 Lp7_0 (some ()))) (fun _ =>
                      bif hitB (occL s) 41 then
                       optE (onlyAt Lp7_0 Lp7_0 (onlyAt Lp7_0 Lp7_0 (some ()))) (fun _ =>
                        bif hitB (occL s) 73 then
                         optE (onlyAt Lp7_0 Lp7_0 (onlyAt Lp7_0 Lp7_0 (some ()))) (fun _ =>
                          bif hitB (occL s) 49 then
                           optE (onlyAt Lp7_0 Lp7_0 (onlyAt Lp7_0 Lp7_0 (some ()))) (fun _ =>
                            bif hitB (occL s) 81 then
                             optE (onlyAt Lp7_0 Lp7_0 (onlyAt Lp7_0 Lp7_0 (some ()))) (fun _ =>
                              bif hitB (occL s) 97 then
                               optE (onlyAt Lp7_0 Lp7_0 (onlyAt Lp7_0 Lp7_0 (some ()))) (fun _ =>
                                bif hitB (occL s) 14 then
                                 optE (onlyAt Lp7_0 Lp7_0 (onlyAt Lp7_0 Lp7_0 (some ()))) (fun _ =>
                                  bif hitB (occL s) 22 then
                                   optE (onlyAt Lp7_0 Lp7_0 (onlyAt Lp7_0 Lp7_0 (some ()))) (fun _ =>
                                    bif hitB (occL s) 38 then
                                     optE (onlyAt Lp7_0 Lp7_0 (onlyAt Lp7_0 Lp7_0 (some ()))) (fun _ =>
                                      bif hitB (occL s) 70 then
                                       optE (onlyAt Lp7_0 Lp7_0 (onlyAt Lp7_0 Lp7_0 (some ()))) (fun _ =>
                                        bif hitB (occL s) 26 then
                                         optE (onlyAt Lp7_0 Lp7_0 (onlyAt Lp7_0 Lp7_0 (some ()))) (fun _ =>
                                          bif hitB (occL s) 42 then
                                           optE (onlyAt Lp7_0 Lp7_0 (onlyAt Lp7_0 Lp7_0 (some ()))) (fun _ =>
                                            bif hitB (occL s) 74 then
                                             optE (onlyAt Lp7_0 Lp7_0 (onlyAt Lp7_0 Lp7_0 (some ()))) (fun _ =>
                                              bif hitB (occL s) 50 then
                                               optE (onlyAt Lp7_0 Lp7_0 (onlyAt Lp7_0 Lp7_0 (some ()))) (fun _ =>
                                                bif hitB (occL s) 82 then
                                                 optE (onlyAt Lp7_0 Lp7_0 (onlyAt Lp7_0 Lp7_0 (some ()))) (fun _ =>
                                                  bif hitB (occL s) 98 then
                                                   optE (onlyAt Lp7_0 Lp7_0 (onlyAt Lp7_0 Lp7_0 (some ()))) (fun _ =>
                                                    bif hitB (occL s) 28 then
                                                     optE (onlyAt Lp7_0 Lp7_0 (onlyAt Lp7_0 Lp7_0 (some ()))) (fun _ =>
                                                      bif hitB (occL s) 44 then
                                                       optE (onlyAt Lp7_0 Lp7_0 (onlyAt Lp7_0 Lp7_0 (some ()))) (fun _ =>
                                                        bif hitB (occL s) 76 then
                                                         optE (onlyAt Lp7_0 Lp7_0 (onlyAt Lp7_0 Lp7_0 (some ()))) (fun _ =>
                                                          bif hitB (occL s) 52 then
                                                           optE (onlyAt Lp7_0 Lp7_0 (onlyAt Lp7_0 Lp7_0 (some ()))) (fun _ =>
                                                            bif hitB (occL s) 84 then
                                                             optE (onlyAt Lp7_0 Lp7_0 (onlyAt Lp7_0 Lp7_0 (some ()))) (fun _ =>
                                                              bif hitB (occL s) 100 then
                                                               optE (onlyAt Lp7_0 Lp7_0 (onlyAt Lp7_0 Lp7_0 (some ()))) (fun _ =>
                                                                bif hitB (occL s) 56 then
                                                                 optE (onlyAt Lp7_0 Lp7_0 (onlyAt Lp7_0 Lp7_0 (some ()))) (fun _ =>
                                                                  bif hitB (occL s) 88 then
                                                                   optE (onlyAt Lp7_0 Lp7_0 (onlyAt Lp7_0 Lp7_0 (some ()))) (fun _ =>
                                                                    bif hitB (occL s) 104 then
                                                                     optE (onlyAt Lp7_0 Lp7_0 (onlyAt Lp7_0 Lp7_0 (some ()))) (fun _ =>
                                                                      bif hitB (occL s) 112 then
                                                                       some (.inl (4, (padV 7 (.agg (.pair zI zP)) l, t4, t5, s)))
                                                                      else
                                                                       some (.inr (.inl ([4, 5, 6], 0))))
                                                                      (none)
                                                                    else
                                                                     some (.inr (.inl ([3, 5, 6], 0))))
                                                                    (none)
                                                                  else
                                                                   some (.inr (.inl ([3, 4, 6], 0))))
                                                                  (none)
                                                                else
                                                                 some (.inr (.inl ([3, 4, 5], 0))))
                                                                (none)
                                                              else
                                                               some (.inr (.inl ([2, 5, 6], 0))))
                                                              (none)
                                                            else
                                                             some (.inr (.inl ([2, 4, 6], 0))))
                                                            (none)
                                                          else
                                                           some (.inr (.inl ([2, 4, 5], 0))))
                                                          (none)
                                                        else
                                                         some (.inr (.inl ([2, 3, 6], 0))))
                                                        (none)
                                                      else
                                                       some (.inr (.inl ([2, 3, 5], 0))))
                                                      (none)
                                                    else
                                                     some (.inr (.inl ([2, 3, 4], 0))))
                                                    (none)
                                                  else
                                                   some (.inr (.inl ([1, 5, 6], 0))))
                                                  (none)
                                                else
                                                 some (.inr (.inl ([1, 4, 6], 0))))
                                                (none)
                                              else
                                               some (.inr (.inl ([1, 4, 5], 0))))
                                              (none)
                                            else
                                             some (.inr (.inl ([1, 3, 6], 0))))
                                            (none)
                                          else
                                           some (.inr (.inl ([1, 3, 5], 0))))
                                          (none)
                                        else
                                         some (.inr (.inl ([1, 3, 4], 0))))
                                        (none)
                                      else
                                       some (.inr (.inl ([1, 2, 6], 0))))
                                      (none)
                                    else
                                     some (.inr (.inl ([1, 2, 5], 0))))
                                    (none)
                                  else
                                   some (.inr (.inl ([1, 2, 4], 0))))
                                  (none)
                                else
                                 some (.inr (.inl ([1, 2, 3], 0))))
                                (none)
                              else
                               some (.inr (.inl ([0, 5, 6], 0))))
                              (none)
                            else
                             some (.inr (.inl ([0, 4, 6], 0))))
                            (none)
                          else
                           some (.inr (.inl ([0, 4, 5], 0))))
                          (none)
                        else
                         some (.inr (.inl ([0, 3, 6], 0))))
                        (none)
                      else
                       some (.inr (.inl ([0, 3, 5], 0))))
                      (none)
                    else
                     some (.inr (.inl ([0, 3, 4], 0))))
                    (none)
                  else
                   some (.inr (.inl ([0, 2, 6], 0))))
                  (none)
                else
                 some (.inr (.inl ([0, 2, 5], 0))))
                (none)
              else
               some (.inr (.inl ([0, 2, 4], 0))))
              (none)
            else
             some (.inr (.inl ([0, 2, 3], 0))))
            (none)
          else
           some (.inr (.inl ([0, 1, 6], 0))))
          (none)
        else
         some (.inr (.inl ([0, 1, 5], 0))))
        (none)
      else
       some (.inr (.inl ([0, 1, 4], 0))))
      (none)
    else
     some (.inr (.inl ([0, 1, 3], 0))))
    (none)
  else
   some (.inr (.inl ([0, 1, 2], 0))))
  (none)
noncomputable def step7_0_4 : (List (Int × Int × Int)) × (List Int) × Int × SwT → Option ((Nat × ((List (Int × Int × Int)) × (List Int) × Int × SwT)) ⊕ (((List Int) × Int) ⊕ ((List Int) × Int))) := fun (l, t4, t5, s) =>
 optE (onlyAt Lp7_0 Lp7_0 (onlyAt Lp7_0 Lp7_0 (some ()))) (fun _ =>
  bif hitB (occL s) 15 then
   optE (onlyAt Lp7_0 Lp7_0 (onlyAt Lp7_0 Lp7_0 (some ()))) (fun _ =>
    bif hitB (occL s) 23 then
     optE (onlyAt Lp7_0 Lp7_0 (onlyAt Lp7_0 Lp7_0 (some ()))) (fun _ =>
      bif hitB (occL s) 39 then
       optE (onlyAt Lp7_0 Lp7_0 (onlyAt Lp7_0 Lp7_0 (some ()))) (fun _ =>
        bif hitB (occL s) 71 then
         optE (onlyAt Lp7_0 Lp7_0 (onlyAt Lp7_0 Lp7_0 (some ()))) (fun _ =>
          bif hitB (occL s) 27 then
           optE (onlyAt Lp7_0 Lp7_0 (onlyAt Lp7_0 Lp7_0 (some ()))) (fun _ =>
            bif hitB (occL s) 43 then
             optE (onlyAt Lp7_0 Lp7_0 (onlyAt Lp7_0 Lp7_0 (some ()))) (fun _ =>
              bif hitB (occL s) 75 then
               optE (onlyAt Lp7_0 Lp7_0 (onlyAt Lp7_0 Lp7_0 (some ()))) (fun _ =>
                bif hitB (occL s) 51 then
                 optE (onlyAt Lp7_0 Lp7_0 (onlyAt Lp7_0 Lp7_0 (some ()))) (fun _ =>
                  bif hitB (occL s) 83 then
                   optE (onlyAt Lp7_0 Lp7_0 (onlyAt Lp7_0 Lp7_0 (some ()))) (fun _ =>
                    bif hitB (occL s) 99 then
                     optE (onlyAt Lp7_0 Lp7_0 (onlyAt Lp7_0 Lp7_0 (some ()))) (fun _ =>
                      bif hitB (occL s) 29 then
                       optE (onlyAt Lp7_0 Lp7_0 (onlyAt Lp7_0 Lp7_0 (some ()))) (fun _ =>
                        bif hitB (occL s) 45 then
                         optE (onlyAt Lp7_0 Lp7_0 (onlyAt Lp7_0 Lp7_0 (some ()))) (fun _ =>
                          bif hitB (occL s) 77 then
                           optE (onlyAt Lp7_0 Lp7_0 (onlyAt Lp7_0 Lp7_0 (some ()))) (fun _ =>
                            bif hitB (occL s) 53 then
                             optE (onlyAt Lp7_0 Lp7_0 (onlyAt Lp7_0 Lp7_0 (some ()))) (fun _ =>
                              bif hitB (occL s) 85 then
                               optE (onlyAt Lp7_0 Lp7_0 (onlyAt Lp7_0 Lp7_0 (some ()))) (fun _ =>
                                bif hitB (occL s) 101 then
                                 optE (onlyAt Lp7_0 Lp7_0 (onlyAt Lp7_0 Lp7_0 (some ()))) (fun _ =>
                                  bif hitB (occL s) 57 then
                                   optE (onlyAt Lp7_0 Lp7_0 (onlyAt Lp7_0 Lp7_0 (some ()))) (fun _ =>
                                    bif hitB (occL s) 89 then
                                     optE (onlyAt Lp7_0 Lp7_0 (onlyAt Lp7_0 Lp7_0 (some ()))) (fun _ =>
                                      bif hitB (occL s) 105 then
                                       optE (onlyAt Lp7_0 Lp7_0 (onlyAt Lp7_0 Lp7_0 (some ()))) (fun _ =>
                                        bif hitB (occL s) 113 then
                                         optE (onlyAt Lp7_0 Lp7_0 (onlyAt Lp7_0 Lp7_0 (some ()))) (fun _ =>
                                          bif hitB (occL s) 30 then
                                           optE (onlyAt Lp7_0 Lp7_0 (onlyAt Lp7_0 Lp7_0 (some ()))) (fun _ =>
                                            bif hitB (occL s) 46 then
                                             optE (onlyAt Lp7_0 Lp7_0 (onlyAt Lp7_0 Lp7_0 (some ()))) (fun _ =>
                                              bif hitB (occL s) 78 then
                                               optE (onlyAt Lp7_0 Lp7_0 (onlyAt Lp7_0 Lp7_0 (some ()))) (fun _ =>
                                                bif hitB (occL s) 54 then
                                                 optE (onlyAt Lp7_0 Lp7_0 (onlyAt Lp7_0 Lp7_0 (some ()))) (fun _ =>
                                                  bif hitB (occL s) 86 then
                                                   optE (onlyAt Lp7_0 Lp7_0 (onlyAt Lp7_0 Lp7_0 (some ()))) (fun _ =>
                                                    bif hitB (occL s) 102 then
                                                     optE (onlyAt Lp7_0 Lp7_0 (onlyAt Lp7_0 Lp7_0 (some ()))) (fun _ =>
                                                      bif hitB (occL s) 58 then
                                                       optE (onlyAt Lp7_0 Lp7_0 (onlyAt Lp7_0 Lp7_0 (some ()))) (fun _ =>
                                                        bif hitB (occL s) 90 then
                                                         optE (onlyAt Lp7_0 Lp7_0 (onlyAt Lp7_0 Lp7_0 (some ()))) (fun _ =>
                                                          bif hitB (occL s) 106 then
                                                           optE (onlyAt Lp7_0 Lp7_0 (onlyAt Lp7_0 Lp7_0 (some ()))) (fun _ =>
                                                            bif hitB (occL s) 114 then
                                                             optE (onlyAt Lp7_0 Lp7_0 (onlyAt Lp7_0 Lp7_0 (some ()))) (fun _ =>
                                                              bif hitB (occL s) 60 then
                                                               optE (onlyAt Lp7_0 Lp7_0 (onlyAt Lp7_0 Lp7_0 (some ()))) (fun _ =>
                                                                bif hitB (occL s) 92 then
                                                                 optE (onlyAt Lp7_0 Lp7_0 (onlyAt Lp7_0 Lp7_0 (some ()))) (fun _ =>
                                                                  bif hitB (occL s) 108 then
                                                                   optE (onlyAt Lp7_0 Lp7_0 (onlyAt Lp7_0 Lp7_0 (some ()))) (fun _ =>
                                                                    bif hitB (occL s) 116 then
                                                                     optE (onlyAt Lp7_0 Lp7_0 (onlyAt Lp7_0 Lp7_0 (some ()))) (fun _ =>
                                                                      bif hitB (occL s) 120 then
                                                                       some (.inl (5, (padV 7 (.agg (.pair zI zP)) l, t4, t5, s)))
                                                                      else
                                                                       some (.inr (.inl ([3, 4, 5, 6], 0))))
                                                                      (none)
                                                                    else
                                                                     some (.inr (.inl ([2, 4, 5, 6], 0))))
                                                                    (none)
                                                                  else
                                                                   some (.inr (.inl ([2, 3, 5, 6], 0))))
                                                                  (none)
                                                                else
                                                                 some (.inr (.inl ([2, 3, 4, 6], 0))))
                                                                (none)
                                                              else
                                                               some (.inr (.inl ([2, 3, 4, 5], 0))))
                                                              (none)
                                                            else
                                                             some (.inr (.inl ([1, 4, 5, 6], 0))))
                                                            (none)
                                                          else
                                                           some (.inr (.inl ([1, 3, 5, 6], 0))))
                                                          (none)
                                                        else
                                                         some (.inr (.inl ([1, 3, 4, 6], 0))))
                                                        (none)
                                                      else
                                                       some (.inr (.inl ([1, 3, 4, 5], 0))))
                                                      (none)
                                                    else
                                                     some (.inr (.inl ([1, 2, 5, 6], 0))))
                                                    (none)
                                                  else
                                                   some (.inr (.inl ([1, 2, 4, 6], 0))))
                                                  (none)
                                                else
                                                 some (.inr (.inl ([1, 2, 4, 5], 0))))
                                                (none)
                                              else
                                               some (.inr (.inl ([1, 2, 3, 6], 0))))
                                              (none)
                                            else
                                             some (.inr (.inl ([1, 2, 3, 5], 0))))
                                            (none)
                                          else
                                           some (.inr (.inl ([1, 2, 3, 4], 0))))
                                          (none)
                                        else
                                         some (.inr (.inl ([0, 4, 5, 6], 0))))
                                        (none)
                                      else
                                       some (.inr (.inl ([0, 3, 5, 6], 0))))
                                      (none)
                                    else
                                     some (.inr (.inl ([0, 3, 4, 6], 0))))
                                    (none)
                                  else
                                   some (.inr (.inl ([0, 3, 4, 5], 0))))
                                  (none)
                                else
                                 some (.inr (.inl ([0, 2, 5, 6], 0))))
                                (none)
                              else
                               some (.inr (.inl ([0, 2, 4, 6], 0))))
                              (none)
                            else
                             some (.inr (.inl ([0, 2, 4, 5], 0))))
                            (none)
                          else
                           some (.inr (.inl ([0, 2, 3, 6], 0))))
                          (none)
                        else
                         some (.inr (.inl ([0, 2, 3, 5], 0))))
                        (none)
                      else
                       some (.inr (.inl ([0, 2, 3, 4], 0))))
                      (none)
                    else
                     some (.inr (.inl ([0, 1, 5, 6], 0))))
                    (none)
                  else
                   some (.inr (.inl ([0, 1, 4, 6], 0))))
                  (none)
                else
                 some (.inr (.inl ([0, 1, 4, 5], 0))))
                (none)
              else
               some (.inr (.inl ([0, 1, 3, 6], 0))))
              (none)
            else
             some (.inr (.inl ([0, 1, 3, 5], 0))))
            (none)
          else
           some (.inr (.inl ([0, 1, 3, 4], 0))))
          (none)
        else
         some (.inr (.inl ([0, 1, 2, 6], 0))))
        (none)
      else
       some (.inr (.inl ([0, 1, 2, 5], 0))))
      (none)
    else
     some (.inr (.inl ([0, 1, 2, 4], 0))))
    (none)
  else
   some (.inr (.inl ([0, 1, 2, 3], 0))))
  (none)
noncomputable def step7_0_5 : (List (Int × Int × Int)) × (List Int) × Int × SwT → Option ((Nat × ((List (Int × Int × Int)) × (List Int) × Int × SwT)) ⊕ (((List Int) × Int) ⊕ ((List Int) × Int))) := fun (l, t4, t5, s) =>
 optE (onlyAt Lp7_0 Lp7_0 (onlyAt Lp7_0 Lp7_0 (some ()))) (fun _ =>
  bif hitB (occL s) 31 then
   optE (onlyAt Lp7_0 Lp7_0 (onlyAt Lp7_0 Lp7_0 (some ()))) (fun _ =>
    bif hitB (occL s) 47 then
     optE (onlyAt Lp7_0 Lp7_0 (onlyAt Lp7_0 Lp7_0 (some ()))) (fun _ =>
      bif hitB (occL s) 79 then
       optE (onlyAt Lp7_0 Lp7_0 (onlyAt Lp7_0 Lp7_0 (some ()))) (fun _ =>
        bif hitB (occL s) 55 then
         optE (onlyAt Lp7_0 Lp7_0 (onlyAt Lp7_0 Lp7_0 (some ()))) (fun _ =>
          bif hitB (occL s) 87 then
           optE (onlyAt Lp7_0 Lp7_0 (onlyAt Lp7_0 Lp7_0 (some ()))) (fun _ =>
            bif hitB (occL s) 103 then
             optE (onlyAt Lp7_0 Lp7_0 (onlyAt Lp7_0 Lp7_0 (some ()))) (fun _ =>
              bif hitB (occL s) 59 then
               optE (onlyAt Lp7_0 Lp7_0 (onlyAt Lp7_0 Lp7_0 (some ()))) (fun _ =>
                bif hitB (occL s) 91 then
                 optE (onlyAt Lp7_0 Lp7_0 (onlyAt Lp7_0 Lp7_0 (some ()))) (fun _ =>
                  bif hitB (occL s) 107 then
                   optE (onlyAt Lp7_0 Lp7_0 (onlyAt Lp7_0 Lp7_0 (some ()))) (fun _ =>
                    bif hitB (occL s) 115 then
                     optE (onlyAt Lp7_0 Lp7_0 (onlyAt Lp7_0 Lp7_0 (some ()))) (fun _ =>
                      bif hitB (occL s) 61 then
                       optE (onlyAt Lp7_0 Lp7_0 (onlyAt Lp7_0 Lp7_0 (some ()))) (fun _ =>
                        bif hitB (occL s) 93 then
                         optE (onlyAt Lp7_0 Lp7_0 (onlyAt Lp7_0 Lp7_0 (some ()))) (fun _ =>
                          bif hitB (occL s) 109 then
                           optE (onlyAt Lp7_0 Lp7_0 (onlyAt Lp7_0 Lp7_0 (some ()))) (fun _ =>
                            bif hitB (occL s) 117 then
                             optE (onlyAt Lp7_0 Lp7_0 (onlyAt Lp7_0 Lp7_0 (some ()))) (fun _ =>
                              bif hitB (occL s) 121 then
                               optE (onlyAt Lp7_0 Lp7_0 (onlyAt Lp7_0 Lp7_0 (some ()))) (fun _ =>
                                bif hitB (occL s) 62 then
                                 optE (onlyAt Lp7_0 Lp7_0 (onlyAt Lp7_0 Lp7_0 (some ()))) (fun _ =>
                                  bif hitB (occL s) 94 then
                                   optE (onlyAt Lp7_0 Lp7_0 (onlyAt Lp7_0 Lp7_0 (some ()))) (fun _ =>
                                    bif hitB (occL s) 110 then
                                     optE (onlyAt Lp7_0 Lp7_0 (onlyAt Lp7_0 Lp7_0 (some ()))) (fun _ =>
                                      bif hitB (occL s) 118 then
                                       optE (onlyAt Lp7_0 Lp7_0 (onlyAt Lp7_0 Lp7_0 (some ()))) (fun _ =>
                                        bif hitB (occL s) 122 then
                                         optE (onlyAt Lp7_0 Lp7_0 (onlyAt Lp7_0 Lp7_0 (some ()))) (fun _ =>
                                          bif hitB (occL s) 124 then
                                           some (.inl (6, (padV 7 (.agg (.pair zI zP)) l, t4, t5, s)))
                                          else
                                           some (.inr (.inl ([2, 3, 4, 5, 6], 0))))
                                          (none)
                                        else
                                         some (.inr (.inl ([1, 3, 4, 5, 6], 0))))
                                        (none)
                                      else
                                       some (.inr (.inl ([1, 2, 4, 5, 6], 0))))
                                      (none)
                                    else
                                     some (.inr (.inl ([1, 2, 3, 5, 6], 0))))
                                    (none)
                                  else
                                   some (.inr (.inl ([1, 2, 3, 4, 6], 0))))
                                  (none)
                                else
                                 some (.inr (.inl ([1, 2, 3, 4, 5], 0))))
                                (none)
                              else
                               some (.inr (.inl ([0, 3, 4, 5, 6], 0))))
                              (none)
                            else
                             some (.inr (.inl ([0, 2, 4, 5, 6], 0))))
                            (none)
                          else
                           some (.inr (.inl ([0, 2, 3, 5, 6], 0))))
                          (none)
                        else
                         some (.inr (.inl ([0, 2, 3, 4, 6], 0))))
                        (none)
                      else
                       some (.inr (.inl ([0, 2, 3, 4, 5], 0))))
                      (none)
                    else
                     some (.inr (.inl ([0, 1, 4, 5, 6], 0))))
                    (none)
                  else
                   some (.inr (.inl ([0, 1, 3, 5, 6], 0))))
                  (none)
                else
                 some (.inr (.inl ([0, 1, 3, 4, 6], 0))))
                (none)
              else
               some (.inr (.inl ([0, 1, 3, 4, 5], 0))))
              (none)
            else
             some (.inr (.inl ([0, 1, 2, 5, 6], 0))))
            (none)
          else
           some (.inr (.inl ([0, 1, 2, 4, 6], 0))))
          (none)
        else
         some (.inr (.inl ([0, 1, 2, 4, 5], 0))))
        (none)
      else
       some (.inr (.inl ([0, 1, 2, 3, 6], 0))))
      (none)
    else
     some (.inr (.inl ([0, 1, 2, 3, 5], 0))))
    (none)
  else
   some (.inr (.inl ([0, 1, 2, 3, 4], 0))))
  (none)
noncomputable def step7_0_6 : (List (Int × Int × Int)) × (List Int) × Int × SwT → Option ((Nat × ((List (Int × Int × Int)) × (List Int) × Int × SwT)) ⊕ (((List Int) × Int) ⊕ ((List Int) × Int))) := fun (l, t4, t5, s) =>
 optE (onlyAt Lp7_0 Lp7_0 (onlyAt Lp7_0 Lp7_0 (some ()))) (fun _ =>
  bif hitB (occL s) 63 then
   optE (onlyAt Lp7_0 Lp7_0 (onlyAt Lp7_0 Lp7_0 (some ()))) (fun _ =>
    bif hitB (occL s) 95 then
     optE (onlyAt Lp7_0 Lp7_0 (onlyAt Lp7_0 Lp7_0 (some ()))) (fun _ =>
      bif hitB (occL s) 111 then
       optE (onlyAt Lp7_0 Lp7_0 (onlyAt Lp7_0 Lp7_0 (some ()))) (fun _ =>
        bif hitB (occL s) 119 then
         optE (onlyAt Lp7_0 Lp7_0 (onlyAt Lp7_0 Lp7_0 (some ()))) (fun _ =>
          bif hitB (occL s) 123 then
           optE (onlyAt Lp7_0 Lp7_0 (onlyAt Lp7_0 Lp7_0 (some ()))) (fun _ =>
            bif hitB (occL s) 125 then
             optE (onlyAt Lp7_0 Lp7_0 (onlyAt Lp7_0 Lp7_0 (some ()))) (fun _ =>
              bif hitB (occL s) 126 then
               some (.inl (7, (padV 7 (.agg (.pair zI zP)) l, t4, t5, s)))
              else
               some (.inr (.inl ([1, 2, 3, 4, 5, 6], 0))))
              (none)
            else
             some (.inr (.inl ([0, 2, 3, 4, 5, 6], 0))))
            (none)
          else
           some (.inr (.inl ([0, 1, 3, 4, 5, 6], 0))))
          (none)
        else
         some (.inr (.inl ([0, 1, 2, 4, 5, 6], 0))))
        (none)
      else
       some (.inr (.inl ([0, 1, 2, 3, 5, 6], 0))))
      (none)
    else
     some (.inr (.inl ([0, 1, 2, 3, 4, 6], 0))))
    (none)
  else
   some (.inr (.inl ([0, 1, 2, 3, 4, 5], 0))))
  (none)
noncomputable def step7_0_7 : (List (Int × Int × Int)) × (List Int) × Int × SwT → Option ((Nat × ((List (Int × Int × Int)) × (List Int) × Int × SwT)) ⊕ (((List Int) × Int) ⊕ ((List Int) × Int))) := fun (l, t4, t5, s) =>
 optE (onlyAt Lp7_0 Lp7_0 (onlyAt Lp7_0 Lp7_0 (some ()))) (fun _ =>
  bif hitB (occL s) 127 then
   some (.inl (8, (padV 7 (.agg (.pair zI zP)) l, t4, t5, s)))
  else
   some (.inr (.inl ([0, 1, 2, 3, 4, 5, 6], 0))))
  (none)
noncomputable def step7_0_8 : (List (Int × Int × Int)) × (List Int) × Int × SwT → Option ((Nat × ((List (Int × Int × Int)) × (List Int) × Int × SwT)) ⊕ (((List Int) × Int) ⊕ ((List Int) × Int))) := fun (_, t4, t5, _) =>
 some (.inr (.inr (t4, t5)))
@[reducible] def C7_0 : List (List (Nat × LV)) := [[(27, .int .i64 0)], [(27, .int .i64 1)], [(27, .int .i64 2)], [(27, .int .i64 3)], [(27, .int .i64 4)], [(27, .int .i64 5)], [(27, .int .i64 6)], [(27, .int .i64 7)], [(27, .int .i64 8)]]
noncomputable def S7_0 : List (T7_0.D → Option ((Nat × T7_0.D) ⊕ ExT X7_0)) := [step7_0_0, step7_0_1, step7_0_2, step7_0_3, step7_0_4, step7_0_5, step7_0_6, step7_0_7, step7_0_8]
noncomputable def step7_0 : Nat × ((List (Int × Int × Int)) × (List Int) × Int × SwT) → Option ((Nat × ((List (Int × Int × Int)) × (List Int) × Int × SwT)) ⊕ (((List Int) × Int) ⊕ ((List Int) × Int))) := stepF S7_0
theorem one7_0 : oneLoop Tryd.prog 7 0 = true := by kernel_rfl
theorem r7_0_0 : RoundF Tryd.prog md7 Gc8K4 7 0 300 23 T7_0 C7_0 X7_0 [(27, .int .i64 0)] step7_0_0 := fun x => by kernel_rfl
theorem r7_0_1 : RoundF Tryd.prog md7 Gc8K4 7 0 300 23 T7_0 C7_0 X7_0 [(27, .int .i64 1)] step7_0_1 := fun x => by kernel_rfl
theorem r7_0_2 : RoundF Tryd.prog md7 Gc8K4 7 0 300 23 T7_0 C7_0 X7_0 [(27, .int .i64 2)] step7_0_2 := fun x => by kernel_rfl
theorem r7_0_3 : RoundF Tryd.prog md7 Gc8K4 7 0 300 23 T7_0 C7_0 X7_0 [(27, .int .i64 3)] step7_0_3 := fun x => by kernel_rfl
theorem r7_0_4 : RoundF Tryd.prog md7 Gc8K4 7 0 300 23 T7_0 C7_0 X7_0 [(27, .int .i64 4)] step7_0_4 := fun x => by kernel_rfl
theorem r7_0_5 : RoundF Tryd.prog md7 Gc8K4 7 0 300 23 T7_0 C7_0 X7_0 [(27, .int .i64 5)] step7_0_5 := fun x => by kernel_rfl
theorem r7_0_6 : RoundF Tryd.prog md7 Gc8K4 7 0 300 23 T7_0 C7_0 X7_0 [(27, .int .i64 6)] step7_0_6 := fun x => by kernel_rfl
theorem r7_0_7 : RoundF Tryd.prog md7 Gc8K4 7 0 300 23 T7_0 C7_0 X7_0 [(27, .int .i64 7)] step7_0_7 := fun x => by kernel_rfl
theorem r7_0_8 : RoundF Tryd.prog md7 Gc8K4 7 0 300 23 T7_0 C7_0 X7_0 [(27, .int .i64 8)] step7_0_8 := fun x => by kernel_rfl
theorem lp7_0 : ItemOk Tryd.prog (.loop 7 0 (fam T7_0 [(27, .int .i64 0)]) X7_0 (fun x => loopVal (stepF S7_0) (0, x))) := item_loopF md7 ext7 (U := 300) (n := 23) noSpecial mixed Gc8K4_ok one7_0 (AllF.cons r7_0_0 (AllF.cons r7_0_1 (AllF.cons r7_0_2 (AllF.cons r7_0_3 (AllF.cons r7_0_4 (AllF.cons r7_0_5 (AllF.cons r7_0_6 (AllF.cons r7_0_7 (AllF.cons r7_0_8 AllF.nil))))))))) 0 _ rfl
noncomputable def Gc8K5 : List Ev.Item := .loop 7 0 (fam T7_0 [(27, .int .i64 0)]) X7_0 (fun x => loopVal (stepF S7_0) (0, x)) :: Gc8K4
theorem Gc8K5_ok : ∀ q ∈ Gc8K5, ItemOk Tryd.prog q := items_cons lp7_0 Gc8K4_ok
noncomputable def p7n7 : (Int × Int × Int) × (Int × Int × Int) × (Int × Int × Int) × (Int × Int × Int) × (Int × Int × Int) × (Int × Int × Int) × (Int × Int × Int) × (Int × Int) → Option ((List Int) × Int) := fun (t0, t1, t2, t3, t4, t5, t6, limit) =>
 optE (s17 [t0, t1, t2, t3, t4, t5, t6]) (fun r1 =>
 optE (s41 limit.1) (fun r2 =>
 bif r2 then
 optE (s41 limit.2) (fun r3 =>
 bif r1.2 == 0 then
 bif (unl r3 2) == 0 then
 bif (unl (decide (limit.1 ≤ limit.2)) 9) == 0 then
 bif (unl (decide ((wr (limit.2 - limit.1)) < 100000)) 8) == 0 then
 optE (loopVal step26_0b ([t0, t1, t2, t3, t4, t5, t6], limit.1, [t0, t1, t2, t3, t4, t5, t6], limit, ([], List.replicate 256 false), [], 0)) (fun e4 =>
 optE ((fun x => loopVal (stepF S7_0) (0, x)) ([t0, t1, t2, t3, t4, t5, t6], [], 0, (e4.2.1.1, mkBools 255 e4.2.1.2))) (fun e5 =>
 sumE e5 (fun e6 =>
 some (e6)) (fun _ =>
 some (([], 12))))
 (none))
 (none)
 else
 none
 else
 none
 else
 none
 else
 none)
 (none)
 else
 bif r1.2 == 0 then
 none
 else
 none)
 (none))
 (none)
def f7n7 : (Int × Int × Int) × (Int × Int × Int) × (Int × Int × Int) × (Int × Int × Int) × (Int × Int × Int) × (Int × Int × Int) × (Int × Int × Int) × (Int × Int) → (List (Int × Int × Int)) × (Int × Int) := fun (t0, t1, t2, t3, t4, t5, t6, limit) => ([t0, t1, t2, t3, t4, t5, t6], limit)
theorem h7n7 : ∀ d, evalK Tryd.prog (Pars [.own 3 zI, .d zI]) (knowM md7f Gc8K5) 300 24 7 (cvs [.d (.slice (.agg (.pair zI zP))), .d (.agg zP)] (f7n7 d)) (canonK [.own 3 zI, .d zI]) = p7n7 d := fun d => by kernel_rfl
noncomputable def s7n7 : (List (Int × Int × Int)) × (Int × Int) → Option ((List Int) × Int) := fun
 | ([t0, t1, t2, t3, t4, t5, t6], limit) => p7n7 (t0, t1, t2, t3, t4, t5, t6, limit)
 | _ => none
theorem q7n7 : ∀ x y, s7n7 x = some y → ∃ d, x = f7n7 d ∧ p7n7 d = some y := by
 intro x y h
 unfold s7n7 at h
 split at h
 ·exact ⟨_, rfl, h⟩
 ·cases h
theorem i7n7 : ItemOk Tryd.prog (.fn 7 [.d (.slice (.agg (.pair zI zP))), .d (.agg zP)] [.own 3 zI, .d zI] s7n7) := @item_fnP Tryd.prog md7f ext7f Gc8K5 noSpecial mixed Gc8K5_ok 7 300 24 [.d (.slice (.agg (.pair zI zP))), .d (.agg zP)] [.own 3 zI, .d zI] ((Int × Int × Int) × (Int × Int × Int) × (Int × Int × Int) × (Int × Int × Int) × (Int × Int × Int) × (Int × Int × Int) × (Int × Int × Int) × (Int × Int)) f7n7 p7n7 s7n7 h7n7 q7n7
noncomputable def o7n1 : (List (Int × Int × Int)) × (Int × Int) → Option ((List Int) × Int) := fun x => optE (s7n0 x) some (s7n1 x)
theorem io7n1 : ItemOk Tryd.prog (.fn 7 [.d (.slice (.agg (.pair zI zP))), .d (.agg zP)] [.own 3 zI, .d zI] o7n1) := item_or i7n0 i7n1
noncomputable def o7n2 : (List (Int × Int × Int)) × (Int × Int) → Option ((List Int) × Int) := fun x => optE (o7n1 x) some (s7n2 x)
theorem io7n2 : ItemOk Tryd.prog (.fn 7 [.d (.slice (.agg (.pair zI zP))), .d (.agg zP)] [.own 3 zI, .d zI] o7n2) := item_or io7n1 i7n2
noncomputable def o7n3 : (List (Int × Int × Int)) × (Int × Int) → Option ((List Int) × Int) := fun x => optE (o7n2 x) some (s7n3 x)
theorem io7n3 : ItemOk Tryd.prog (.fn 7 [.d (.slice (.agg (.pair zI zP))), .d (.agg zP)] [.own 3 zI, .d zI] o7n3) := item_or io7n2 i7n3
noncomputable def o7n4 : (List (Int × Int × Int)) × (Int × Int) → Option ((List Int) × Int) := fun x => optE (o7n3 x) some (s7n4 x)
theorem io7n4 : ItemOk Tryd.prog (.fn 7 [.d (.slice (.agg (.pair zI zP))), .d (.agg zP)] [.own 3 zI, .d zI] o7n4) := item_or io7n3 i7n4
noncomputable def o7n5 : (List (Int × Int × Int)) × (Int × Int) → Option ((List Int) × Int) := fun x => optE (o7n4 x) some (s7n5 x)
theorem io7n5 : ItemOk Tryd.prog (.fn 7 [.d (.slice (.agg (.pair zI zP))), .d (.agg zP)] [.own 3 zI, .d zI] o7n5) := item_or io7n4 i7n5
noncomputable def o7n6 : (List (Int × Int × Int)) × (Int × Int) → Option ((List Int) × Int) := fun x => optE (o7n5 x) some (s7n6 x)
theorem io7n6 : ItemOk Tryd.prog (.fn 7 [.d (.slice (.agg (.pair zI zP))), .d (.agg zP)] [.own 3 zI, .d zI] o7n6) := item_or io7n5 i7n6
noncomputable def o7n7 : (List (Int × Int × Int)) × (Int × Int) → Option ((List Int) × Int) := fun x => optE (o7n6 x) some (s7n7 x)
theorem io7n7 : ItemOk Tryd.prog (.fn 7 [.d (.slice (.agg (.pair zI zP))), .d (.agg zP)] [.own 3 zI, .d zI] o7n7) := item_or io7n6 i7n7
end Go.Proofs.YtdoehknomnhlkaaDoor
