/- Printed by gen.py: specifications of functions. -/
import Derived.Test.YthckjfbhdjjnkaaDoorGd11
set_option linter.unusedSimpArgs false
set_option maxRecDepth 100000
namespace Go.Proofs.YthckjfbhdjjnkaaDoor
open Go.Ev
noncomputable def s163 : ((List Int) × Int × Int × Int × Int × Int × (List Int) × (List (Int × Int × Bool × Int × Int)) × Int × Int × Int × Int × Bool) × Int → Option (Int) := fun (r0, at0) =>
 optE (s86 (r0.1, r0.2.2.2.2.2.2.1, at0)) (fun r1 =>
  bif r0.2.2.2.2.2.2.2.2.2.2.2.2 then
   some (r1.2)
  else
   some (r1.1))
  (none)
theorem i163 : ItemOk Tryd.prog (.fn 163 [.tgt (.pair (.slice zI) (.pair zI (.pair zI (.pair zI (.pair zI (.pair zI (.pair (.slice zI) (.pair (.slice (.agg (.pair zI (.pair zI (.pair .bool zP))))) (.pair zI (.pair zI (.pair zI (.pair zI .bool)))))))))))), .d zI] [.d zI] s163) := item_fnM md4 ext4 (U := 9) (n := 12) noSpecial mixed Gd10K23_ok (fun x => by kernel_rfl)
noncomputable def Gd12K1 : List Ev.Item := .fn 163 [.tgt (.pair (.slice zI) (.pair zI (.pair zI (.pair zI (.pair zI (.pair zI (.pair (.slice zI) (.pair (.slice (.agg (.pair zI (.pair zI (.pair .bool zP))))) (.pair zI (.pair zI (.pair zI (.pair zI .bool)))))))))))), .d zI] [.d zI] s163 :: Gd10K23
theorem Gd12K1_ok : ∀ q ∈ Gd12K1, ItemOk Tryd.prog q := items_cons i163 Gd10K23_ok
@[reducible] def T100_0 : Tmpl := ⟨24, [(6, .nilptr)], [], [21], none⟩
@[reducible] def X100_0 : List (Ex × Tmpl) := [(.exit 0, ⟨24, [(6, .nilptr)], [], [21], none⟩)]
noncomputable def step100_0_0 : Unit → Option ((Nat × (Unit)) ⊕ (Unit)) := fun (_) =>
 none
noncomputable def step100_0_1 : Unit → Option ((Nat × (Unit)) ⊕ (Unit)) := fun (_) =>
 none
noncomputable def step100_0_2 : Unit → Option ((Nat × (Unit)) ⊕ (Unit)) := fun (_) =>
 none
noncomputable def step100_0_3 : Unit → Option ((Nat × (Unit)) ⊕ (Unit)) := fun (_) =>
 some (.inr ())
@[reducible] def C100_0 : List (List (Nat × LV)) := [[(8, .fn 125)], [(8, .fn 148)], [(8, .fn 147)], [(8, .nilfn)]]
noncomputable def S100_0 : List (T100_0.D → Option ((Nat × T100_0.D) ⊕ ExT X100_0)) := [step100_0_0, step100_0_1, step100_0_2, step100_0_3]
theorem one100_0 : oneLoop Tryd.prog 100 0 = true := by kernel_rfl
theorem r100_0_0 : RoundF Tryd.prog md4 Gd12K1 100 0 9 10 T100_0 C100_0 X100_0 [(8, .fn 125)] step100_0_0 := fun x => by kernel_rfl
theorem r100_0_1 : RoundF Tryd.prog md4 Gd12K1 100 0 9 10 T100_0 C100_0 X100_0 [(8, .fn 148)] step100_0_1 := fun x => by kernel_rfl
theorem r100_0_2 : RoundF Tryd.prog md4 Gd12K1 100 0 9 10 T100_0 C100_0 X100_0 [(8, .fn 147)] step100_0_2 := fun x => by kernel_rfl
theorem r100_0_3 : RoundF Tryd.prog md4 Gd12K1 100 0 9 10 T100_0 C100_0 X100_0 [(8, .nilfn)] step100_0_3 := fun x => by kernel_rfl
theorem lp100_0 : ItemOk Tryd.prog (.loop 100 0 (fam T100_0 [(8, .fn 125)]) X100_0 (fun x => loopVal (stepF S100_0) (0, x))) := item_loopF md4 ext4 (U := 9) (n := 10) noSpecial mixed Gd12K1_ok one100_0 (AllF.cons r100_0_0 (AllF.cons r100_0_1 (AllF.cons r100_0_2 (AllF.cons r100_0_3 AllF.nil)))) 0 _ rfl
noncomputable def Gd12K2 : List Ev.Item := .loop 100 0 (fam T100_0 [(8, .fn 125)]) X100_0 (fun x => loopVal (stepF S100_0) (0, x)) :: Gd12K1
theorem Gd12K2_ok : ∀ q ∈ Gd12K2, ItemOk Tryd.prog q := items_cons lp100_0 Gd12K1_ok
@[reducible] def T121_0a : Tmpl := ⟨66, [(0, .mref 2901), (2, .ref 1900 0 0 0), (16002, .ref 1002 0 0 0), (16039, .mref 2901), (32006, .ref 2900 0 0 0), (48016001, .ref 1001 0 0 0), (48016002, .ref 1002 0 0 0)], [.val 4 zI, .cells 1900 [.rf 2900 0 0 0], .cells 1002 [.nf], .cells 2900 [.d (.slice zI), .d zI, .d zI, .d zI, .d zI, .d zI, .d (.slice zI), .own 2903 52 (.agg (.pair zI (.pair zI (.pair .bool zP)))), .d zI, .d zI, .d zI, .d zI, .d .bool], .cells 1001 [.rf 2900 0 0 0]], [40, 24, 21], some (2901, .ready)⟩
@[reducible] def X121_0a : List (Ex × Tmpl) := [(.ret, ⟨66, [(16002, .ref 1002 0 0 0), (16039, .mref 2901), (32006, .ref 2900 0 0 0), (48016001, .ref 1001 0 0 0), (48016002, .ref 1002 0 0 0)], [.cells 1002 [.fc 147], .cells 2900 [.d (.slice zI), .d zI, .d zI, .d zI, .d zI, .d zI, .d (.slice zI), .own 900 52 (.agg (.pair zI (.pair zI (.pair .bool zP)))), .d zI, .d zI, .d zI, .d zI, .d .bool], .cells 1001 [.rf 2900 0 0 0]], [40, 24, 21], some (2901, .done none)⟩), (.ret, ⟨66, [(16002, .ref 1002 0 0 0), (16039, .mref 2901), (32006, .ref 2900 0 0 0), (48016001, .ref 1001 0 0 0), (48016002, .ref 1002 0 0 0)], [.cells 1002 [.fc 148], .cells 2900 [.d (.slice zI), .d zI, .d zI, .d zI, .d zI, .d zI, .d (.slice zI), .own 900 52 (.agg (.pair zI (.pair zI (.pair .bool zP)))), .d zI, .d zI, .d zI, .d zI, .d .bool], .cells 1001 [.rf 2900 0 0 0]], [40, 24, 21], some (2901, .done none)⟩), (.exit 0, ⟨66, [(16002, .ref 1002 0 0 0), (16039, .mref 2901), (32006, .ref 2900 0 0 0), (48016001, .ref 1001 0 0 0), (48016002, .ref 1002 0 0 0)], [.cells 1002 [.nf], .cells 2900 [.d (.slice zI), .d zI, .d zI, .d zI, .d zI, .d zI, .d (.slice zI), .own 2903 52 (.agg (.pair zI (.pair zI (.pair .bool zP)))), .d zI, .d zI, .d zI, .d zI, .d .bool], .cells 1001 [.rf 2900 0 0 0]], [40, 24, 21], some (2901, .ready)⟩)]
noncomputable def Lp125_0 : LpI := lpOf Tryd.prog 125 0 false
noncomputable def step121_0a : Int × Unit × Unit × ((List Int) × Int × Int × Int × Int × Int × (List Int) × (List (Int × Int × Bool × Int × Int)) × Int × Int × Int × Int × Bool) × Unit → Option (LpI × ((Int × Unit × Unit × ((List Int) × Int × Int × Int × Int × Int × (List Int) × (List (Int × Int × Bool × Int × Int)) × Int × Int × Int × Int × Bool) × Unit) ⊕ ((Unit × ((List Int) × Int × Int × Int × Int × Int × (List Int) × (List (Int × Int × Bool × Int × Int)) × Int × Int × Int × Int × Bool) × Unit) ⊕ (Unit × ((List Int) × Int × Int × Int × Int × Int × (List Int) × (List (Int × Int × Bool × Int × Int)) × Int × Int × Int × Int × Bool) × Unit) ⊕ (Unit × ((List Int) × Int × Int × Int × Int × Int × (List Int) × (List (Int × Int × Bool × Int × Int)) × Int × Int × Int × Int × Bool) × Unit)))) := fun (at0, _, _, r0, _) =>
 bif decide ((wr (at0 + (r0.1.length : Int))) ≤ (r0.2.2.2.2.2.2.1.length : Int)) then
  optE (s86 (r0.1, r0.2.2.2.2.2.2.1, at0)) (fun r6 =>
   bif decide (r6.1 > r0.2.2.1) then
    bif decide (r6.2 ≤ r0.2.2.1) then
     bif room 40 (r0.2.2.2.2.2.2.2.1.length + 1) then
      bif decide (1 ≥ r0.2.2.2.1) then
       some (Lp125_0, .inr (.inl ((), (r0.1, r0.2.1, r0.2.2.1, r0.2.2.2.1, r0.2.2.2.2.1, r0.2.2.2.2.2.1, r0.2.2.2.2.2.2.1, r0.2.2.2.2.2.2.2.1 ++ [(0, at0, true, r6.2, 0)], r0.2.2.2.2.2.2.2.2.1, at0, 1, 0, true), ())))
      else
       some (Lp125_0, .inr (.inr (.inl ((), (r0.1, r0.2.1, r0.2.2.1, r0.2.2.2.1, r0.2.2.2.2.1, r0.2.2.2.2.2.1, r0.2.2.2.2.2.2.1, r0.2.2.2.2.2.2.2.1 ++ [(0, at0, true, r6.2, 0)], r0.2.2.2.2.2.2.2.2.1, at0, 1, 0, true), ()))))
     else
      none
    else
     some (Lp125_0, .inl (wr (at0 + 1), (), (), r0, ()))
   else
    bif decide (r6.1 ≤ r0.2.2.1) then
     bif room 40 (r0.2.2.2.2.2.2.2.1.length + 1) then
      bif decide (1 ≥ r0.2.2.2.1) then
       some (Lp125_0, .inr (.inl ((), (r0.1, r0.2.1, r0.2.2.1, r0.2.2.2.1, r0.2.2.2.2.1, r0.2.2.2.2.2.1, r0.2.2.2.2.2.2.1, r0.2.2.2.2.2.2.2.1 ++ [(0, at0, false, r6.1, 0)], r0.2.2.2.2.2.2.2.2.1, at0, 1, 0, false), ())))
      else
       some (Lp125_0, .inr (.inr (.inl ((), (r0.1, r0.2.1, r0.2.2.1, r0.2.2.2.1, r0.2.2.2.2.1, r0.2.2.2.2.2.1, r0.2.2.2.2.2.2.1, r0.2.2.2.2.2.2.2.1 ++ [(0, at0, false, r6.1, 0)], r0.2.2.2.2.2.2.2.2.1, at0, 1, 0, false), ()))))
     else
      none
    else
     some (Lp125_0, .inl (wr (at0 + 1), (), (), r0, ())))
   (none)
 else
  some (Lp125_0, .inr (.inr (.inr ((), r0, ()))))
theorem one121_0a : oneLoop Tryd.prog 121 0 = true := by kernel_rfl
theorem lp121_0a : ItemOk Tryd.prog (.loopI 121 0 Lp125_0 T121_0a X121_0a (loopVal (strip Lp125_0 step121_0a))) := item_loopI md4 ext4 (U := 9) (n := 8) noSpecial mixed Gd12K2_ok one121_0a (fun x => by kernel_rfl)
noncomputable def Gd12K3 : List Ev.Item := .loopI 121 0 Lp125_0 T121_0a X121_0a (loopVal (strip Lp125_0 step121_0a)) :: Gd12K2
theorem Gd12K3_ok : ∀ q ∈ Gd12K3, ItemOk Tryd.prog q := items_cons lp121_0a Gd12K2_ok
@[reducible] def T155_0 : Tmpl := ⟨85, [(0, .ref 2900 0 0 0), (16000, .ref 2900 0 0 0), (32006, .ref 2900 0 0 0)], [.val 1 zI, .val 6 zI, .val 45 zI, .val 46 zI, .cells 2900 [.d (.slice zI), .d zI, .d zI, .d zI, .d zI, .d zI, .d (.slice zI), .own 2903 52 (.agg (.pair zI (.pair zI (.pair .bool zP)))), .d zI, .d zI, .d zI, .d zI, .d .bool]], [32, 24, 21], none⟩
@[reducible] def X155_0 : List (Ex × Tmpl) := [(.ret, ⟨85, [(16000, .ref 2900 0 0 0), (32006, .ref 2900 0 0 0)], [.val 4 .bool, .val 5 .bool, .cells 2900 [.d (.slice zI), .d zI, .d zI, .d zI, .d zI, .d zI, .d (.slice zI), .own 900 52 (.agg (.pair zI (.pair zI (.pair .bool zP)))), .d zI, .d zI, .d zI, .d zI, .d .bool]], [32, 24, 21], none⟩), (.exit 0, ⟨85, [(16000, .ref 2900 0 0 0), (32006, .ref 2900 0 0 0)], [.cells 2900 [.d (.slice zI), .d zI, .d zI, .d zI, .d zI, .d zI, .d (.slice zI), .own 2903 52 (.agg (.pair zI (.pair zI (.pair .bool zP)))), .d zI, .d zI, .d zI, .d zI, .d .bool]], [32, 24, 21], none⟩)]
noncomputable def step155_0 : Int × Int × Int × Int × ((List Int) × Int × Int × Int × Int × Int × (List Int) × (List (Int × Int × Bool × Int × Int)) × Int × Int × Int × Int × Bool) → Option ((Int × Int × Int × Int × ((List Int) × Int × Int × Int × Int × Int × (List Int) × (List (Int × Int × Bool × Int × Int)) × Int × Int × Int × Int × Bool)) ⊕ ((Bool × Bool × ((List Int) × Int × Int × Int × Int × Int × (List Int) × (List (Int × Int × Bool × Int × Int)) × Int × Int × Int × Int × Bool)) ⊕ (((List Int) × Int × Int × Int × Int × Int × (List Int) × (List (Int × Int × Bool × Int × Int)) × Int × Int × Int × Int × Bool)))) := fun (kind, next, t45, t46, r0) =>
 bif decide (t46 < t45) then
  optE (s163 (r0, wr (next + (wr (-t46))))) (fun r14 =>
   bif decide (r14 ≤ r0.2.2.1) then
    optE (s163 (r0, wr (next + (wr (-t46))))) (fun r15 =>
     bif room 40 (r0.2.2.2.2.2.2.2.1.length + 1) then
      some (.inr (.inl (true, true, (r0.1, r0.2.1, r0.2.2.1, r0.2.2.2.1, r0.2.2.2.2.1, r0.2.2.2.2.2.1, r0.2.2.2.2.2.2.1, r0.2.2.2.2.2.2.2.1 ++ [(kind, wr (next + (wr (-t46))), r0.2.2.2.2.2.2.2.2.2.2.2.2, r15, wr (-t46))], r0.2.2.2.2.2.2.2.2.1, wr (next + (wr (-t46))), r0.2.2.2.2.2.2.2.2.2.2.1, 0, r0.2.2.2.2.2.2.2.2.2.2.2.2))))
     else
      none)
     (none)
   else
    optE (s163 (r0, wr (next + t46))) (fun r16 =>
     bif decide (r16 ≤ r0.2.2.1) then
      optE (s163 (r0, wr (next + t46))) (fun r17 =>
       bif room 40 (r0.2.2.2.2.2.2.2.1.length + 1) then
        some (.inr (.inl (true, true, (r0.1, r0.2.1, r0.2.2.1, r0.2.2.2.1, r0.2.2.2.2.1, r0.2.2.2.2.2.1, r0.2.2.2.2.2.2.1, r0.2.2.2.2.2.2.2.1 ++ [(kind, wr (next + t46), r0.2.2.2.2.2.2.2.2.2.2.2.2, r17, t46)], r0.2.2.2.2.2.2.2.2.1, wr (next + t46), r0.2.2.2.2.2.2.2.2.2.2.1, 0, r0.2.2.2.2.2.2.2.2.2.2.2.2))))
       else
        none)
       (none)
     else
      some (.inl (kind, next, t45, wr (t46 + 1), r0)))
     (none))
   (none)
 else
  some (.inr (.inr r0))
theorem one155_0 : oneLoop Tryd.prog 155 0 = true := by kernel_rfl
theorem lp155_0 : ItemOk Tryd.prog (.loop 155 0 T155_0 X155_0 (loopVal step155_0)) := item_loopM md4 ext4 (U := 9) (n := 8) noSpecial mixed Gd12K3_ok one155_0 (fun x => by kernel_rfl)
noncomputable def Gd12K4 : List Ev.Item := .loop 155 0 T155_0 X155_0 (loopVal step155_0) :: Gd12K3
theorem Gd12K4_ok : ∀ q ∈ Gd12K4, ItemOk Tryd.prog q := items_cons lp155_0 Gd12K3_ok
@[reducible] def T155_0a : Tmpl := ⟨85, [(0, .ref 2900 0 0 0), (16000, .ref 2900 0 0 0), (32006, .ref 2900 0 0 0)], [.val 1 zI, .val 6 zI, .val 45 zI, .val 46 zI, .cells 2900 [.d (.slice zI), .d zI, .d zI, .d zI, .d zI, .d zI, .d (.slice zI), .own 2903 52 (.agg (.pair zI (.pair zI (.pair .bool zP)))), .d zI, .d zI, .d zI, .d zI, .d .bool]], [53, 24, 21], none⟩
@[reducible] def X155_0a : List (Ex × Tmpl) := [(.ret, ⟨85, [(16000, .ref 2900 0 0 0), (32006, .ref 2900 0 0 0)], [.val 4 .bool, .val 5 .bool, .cells 2900 [.d (.slice zI), .d zI, .d zI, .d zI, .d zI, .d zI, .d (.slice zI), .own 900 52 (.agg (.pair zI (.pair zI (.pair .bool zP)))), .d zI, .d zI, .d zI, .d zI, .d .bool]], [53, 24, 21], none⟩), (.exit 0, ⟨85, [(16000, .ref 2900 0 0 0), (32006, .ref 2900 0 0 0)], [.cells 2900 [.d (.slice zI), .d zI, .d zI, .d zI, .d zI, .d zI, .d (.slice zI), .own 2903 52 (.agg (.pair zI (.pair zI (.pair .bool zP)))), .d zI, .d zI, .d zI, .d zI, .d .bool]], [53, 24, 21], none⟩)]
noncomputable def step155_0a : Int × Int × Int × Int × ((List Int) × Int × Int × Int × Int × Int × (List Int) × (List (Int × Int × Bool × Int × Int)) × Int × Int × Int × Int × Bool) → Option ((Int × Int × Int × Int × ((List Int) × Int × Int × Int × Int × Int × (List Int) × (List (Int × Int × Bool × Int × Int)) × Int × Int × Int × Int × Bool)) ⊕ ((Bool × Bool × ((List Int) × Int × Int × Int × Int × Int × (List Int) × (List (Int × Int × Bool × Int × Int)) × Int × Int × Int × Int × Bool)) ⊕ (((List Int) × Int × Int × Int × Int × Int × (List Int) × (List (Int × Int × Bool × Int × Int)) × Int × Int × Int × Int × Bool)))) := fun (kind, next, t45, t46, r0) =>
 bif decide (t46 < t45) then
  optE (s163 (r0, wr (next + (wr (-t46))))) (fun r19 =>
   bif decide (r19 ≤ r0.2.2.1) then
    optE (s163 (r0, wr (next + (wr (-t46))))) (fun r20 =>
     bif room 40 (r0.2.2.2.2.2.2.2.1.length + 1) then
      some (.inr (.inl (true, true, (r0.1, r0.2.1, r0.2.2.1, r0.2.2.2.1, r0.2.2.2.2.1, r0.2.2.2.2.2.1, r0.2.2.2.2.2.2.1, r0.2.2.2.2.2.2.2.1 ++ [(kind, wr (next + (wr (-t46))), r0.2.2.2.2.2.2.2.2.2.2.2.2, r20, wr (-t46))], r0.2.2.2.2.2.2.2.2.1, wr (next + (wr (-t46))), r0.2.2.2.2.2.2.2.2.2.2.1, 0, r0.2.2.2.2.2.2.2.2.2.2.2.2))))
     else
      none)
     (none)
   else
    optE (s163 (r0, wr (next + t46))) (fun r21 =>
     bif decide (r21 ≤ r0.2.2.1) then
      optE (s163 (r0, wr (next + t46))) (fun r22 =>
       bif room 40 (r0.2.2.2.2.2.2.2.1.length + 1) then
        some (.inr (.inl (true, true, (r0.1, r0.2.1, r0.2.2.1, r0.2.2.2.1, r0.2.2.2.2.1, r0.2.2.2.2.2.1, r0.2.2.2.2.2.2.1, r0.2.2.2.2.2.2.2.1 ++ [(kind, wr (next + t46), r0.2.2.2.2.2.2.2.2.2.2.2.2, r22, t46)], r0.2.2.2.2.2.2.2.2.1, wr (next + t46), r0.2.2.2.2.2.2.2.2.2.2.1, 0, r0.2.2.2.2.2.2.2.2.2.2.2.2))))
       else
        none)
       (none)
     else
      some (.inl (kind, next, t45, wr (t46 + 1), r0)))
     (none))
   (none)
 else
  some (.inr (.inr r0))
theorem one155_0a : oneLoop Tryd.prog 155 0 = true := by kernel_rfl
theorem lp155_0a : ItemOk Tryd.prog (.loop 155 0 T155_0a X155_0a (loopVal step155_0a)) := item_loopM md4 ext4 (U := 9) (n := 8) noSpecial mixed Gd12K4_ok one155_0a (fun x => by kernel_rfl)
noncomputable def Gd12K5 : List Ev.Item := .loop 155 0 T155_0a X155_0a (loopVal step155_0a) :: Gd12K4
theorem Gd12K5_ok : ∀ q ∈ Gd12K5, ItemOk Tryd.prog q := items_cons lp155_0a Gd12K4_ok
@[reducible] def T100_0a : Tmpl := ⟨24, [(6, .ref 900 0 0 0)], [.cells 900 [.d (.slice zI), .d zI, .d zI, .d zI, .d zI, .d zI, .d (.slice zI), .own 903 52 (.agg (.pair zI (.pair zI (.pair .bool zP)))), .d zI, .d zI, .d zI, .d zI, .d .bool]], [21], none⟩
@[reducible] def X100_0a : List (Ex × Tmpl) := [(.exit 0, ⟨24, [(6, .ref 900 0 0 0)], [.cells 900 [.d (.slice zI), .d zI, .d zI, .d zI, .d zI, .d zI, .d (.slice zI), .own 903 52 (.agg (.pair zI (.pair zI (.pair .bool zP)))), .d zI, .d zI, .d zI, .d zI, .d .bool]], [21], none⟩)]
noncomputable def step100_0a_0 : ((List Int) × Int × Int × Int × Int × Int × (List Int) × (List (Int × Int × Bool × Int × Int)) × Int × Int × Int × Int × Bool) → Option ((Nat × (((List Int) × Int × Int × Int × Int × Int × (List Int) × (List (Int × Int × Bool × Int × Int)) × Int × Int × Int × Int × Bool))) ⊕ (((List Int) × Int × Int × Int × Int × Int × (List Int) × (List (Int × Int × Bool × Int × Int)) × Int × Int × Int × Int × Bool))) := fun (r0) =>
 optE (onlyAt Lp125_0 Lp125_0 <| loopVal (strip Lp125_0 step121_0a) (r0.2.2.2.2.2.2.2.2.1, (), (), r0, ())) (fun e5 =>
  sumE e5 (fun e6 =>
   some (.inl (2, e6.2.1))) (fun e7 =>
   sumE e7 (fun e8 =>
    some (.inl (1, e8.2.1))) (fun e9 =>
    some (.inl (3, e9.2.1)))))
  (none)
noncomputable def step100_0a_1 : ((List Int) × Int × Int × Int × Int × Int × (List Int) × (List (Int × Int × Bool × Int × Int)) × Int × Int × Int × Int × Bool) → Option ((Nat × (((List Int) × Int × Int × Int × Int × Int × (List Int) × (List (Int × Int × Bool × Int × Int)) × Int × Int × Int × Int × Bool))) ⊕ (((List Int) × Int × Int × Int × Int × Int × (List Int) × (List (Int × Int × Bool × Int × Int)) × Int × Int × Int × Int × Bool))) := fun (r0) =>
 bif decide ((wr ((wr ((wr (r0.2.2.2.2.2.2.2.2.2.1 + r0.2.1)) + r0.2.2.2.2.2.1)) + (r0.1.length : Int))) > (r0.2.2.2.2.2.2.1.length : Int)) then
  some (.inl (3, r0))
 else
  optE (loopVal step155_0 (1, wr (r0.2.2.2.2.2.2.2.2.2.1 + r0.2.1), wr (r0.2.2.2.2.2.1 + 1), 0, r0)) (fun e5 =>
   sumE e5 (fun e6 =>
    bif !e6.2.1 then
     some (.inl (3, e6.2.2))
    else
     bif !e6.1 then
      optE (s163 (e6.2.2, wr (e6.2.2.2.2.2.2.2.2.2.2.2.1 + e6.2.2.2.1))) (fun r8 =>
       bif room 40 (e6.2.2.2.2.2.2.2.2.2.1.length + 1) then
        some (.inl (0, (e6.2.2.1, e6.2.2.2.1, e6.2.2.2.2.1, e6.2.2.2.2.2.1, e6.2.2.2.2.2.2.1, e6.2.2.2.2.2.2.2.1, e6.2.2.2.2.2.2.2.2.1, e6.2.2.2.2.2.2.2.2.2.1 ++ [(4, wr (e6.2.2.2.2.2.2.2.2.2.2.2.1 + e6.2.2.2.1), e6.2.2.2.2.2.2.2.2.2.2.2.2.2.2, r8, 0)], wr (e6.2.2.2.2.2.2.2.2.2.2.2.1 + 1), e6.2.2.2.2.2.2.2.2.2.2.2.1, e6.2.2.2.2.2.2.2.2.2.2.2.2.1, e6.2.2.2.2.2.2.2.2.2.2.2.2.2.1, e6.2.2.2.2.2.2.2.2.2.2.2.2.2.2)))
       else
        none)
       (none)
     else
      bif decide ((wr (e6.2.2.2.2.2.2.2.2.2.2.2.2.1 + 1)) ≥ e6.2.2.2.2.2.1) then
       some (.inl (2, (e6.2.2.1, e6.2.2.2.1, e6.2.2.2.2.1, e6.2.2.2.2.2.1, e6.2.2.2.2.2.2.1, e6.2.2.2.2.2.2.2.1, e6.2.2.2.2.2.2.2.2.1, e6.2.2.2.2.2.2.2.2.2.1, e6.2.2.2.2.2.2.2.2.2.2.1, e6.2.2.2.2.2.2.2.2.2.2.2.1, wr (e6.2.2.2.2.2.2.2.2.2.2.2.2.1 + 1), e6.2.2.2.2.2.2.2.2.2.2.2.2.2.1, e6.2.2.2.2.2.2.2.2.2.2.2.2.2.2)))
      else
       some (.inl (1, (e6.2.2.1, e6.2.2.2.1, e6.2.2.2.2.1, e6.2.2.2.2.2.1, e6.2.2.2.2.2.2.1, e6.2.2.2.2.2.2.2.1, e6.2.2.2.2.2.2.2.2.1, e6.2.2.2.2.2.2.2.2.2.1, e6.2.2.2.2.2.2.2.2.2.2.1, e6.2.2.2.2.2.2.2.2.2.2.2.1, wr (e6.2.2.2.2.2.2.2.2.2.2.2.2.1 + 1), e6.2.2.2.2.2.2.2.2.2.2.2.2.2.1, e6.2.2.2.2.2.2.2.2.2.2.2.2.2.2)))) (fun e7 =>
    optE (s163 (e7, wr (e7.2.2.2.2.2.2.2.2.2.1 + e7.2.1))) (fun r9 =>
     bif room 40 (e7.2.2.2.2.2.2.2.1.length + 1) then
      some (.inl (0, (e7.1, e7.2.1, e7.2.2.1, e7.2.2.2.1, e7.2.2.2.2.1, e7.2.2.2.2.2.1, e7.2.2.2.2.2.2.1, e7.2.2.2.2.2.2.2.1 ++ [(4, wr (e7.2.2.2.2.2.2.2.2.2.1 + e7.2.1), e7.2.2.2.2.2.2.2.2.2.2.2.2, r9, 0)], wr (e7.2.2.2.2.2.2.2.2.2.1 + 1), e7.2.2.2.2.2.2.2.2.2.1, e7.2.2.2.2.2.2.2.2.2.2.1, e7.2.2.2.2.2.2.2.2.2.2.2.1, e7.2.2.2.2.2.2.2.2.2.2.2.2)))
     else
      none)
     (none)))
   (none)
noncomputable def step100_0a_2 : ((List Int) × Int × Int × Int × Int × Int × (List Int) × (List (Int × Int × Bool × Int × Int)) × Int × Int × Int × Int × Bool) → Option ((Nat × (((List Int) × Int × Int × Int × Int × Int × (List Int) × (List (Int × Int × Bool × Int × Int)) × Int × Int × Int × Int × Bool))) ⊕ (((List Int) × Int × Int × Int × Int × Int × (List Int) × (List (Int × Int × Bool × Int × Int)) × Int × Int × Int × Int × Bool))) := fun (r0) =>
 bif decide ((wr ((wr ((wr (r0.2.2.2.2.2.2.2.2.2.1 + r0.2.1)) + r0.2.2.2.2.2.1)) + (r0.1.length : Int))) > (r0.2.2.2.2.2.2.1.length : Int)) then
  some (.inl (3, r0))
 else
  optE (loopVal step155_0a (2, wr (r0.2.2.2.2.2.2.2.2.2.1 + r0.2.1), wr (r0.2.2.2.2.2.1 + 1), 0, r0)) (fun e5 =>
   sumE e5 (fun e6 =>
    bif !e6.2.1 then
     some (.inl (3, e6.2.2))
    else
     bif e6.1 then
      some (.inl (2, e6.2.2))
     else
      bif decide ((wr (e6.2.2.2.2.2.2.2.2.2.2.2.2.2.1 + 1)) > e6.2.2.2.2.2.2.1) then
       optE (s163 ((e6.2.2.1, e6.2.2.2.1, e6.2.2.2.2.1, e6.2.2.2.2.2.1, e6.2.2.2.2.2.2.1, e6.2.2.2.2.2.2.2.1, e6.2.2.2.2.2.2.2.2.1, e6.2.2.2.2.2.2.2.2.2.1, e6.2.2.2.2.2.2.2.2.2.2.1, e6.2.2.2.2.2.2.2.2.2.2.2.1, e6.2.2.2.2.2.2.2.2.2.2.2.2.1, wr (e6.2.2.2.2.2.2.2.2.2.2.2.2.2.1 + 1), e6.2.2.2.2.2.2.2.2.2.2.2.2.2.2), wr (e6.2.2.2.2.2.2.2.2.2.2.2.1 + e6.2.2.2.1))) (fun r8 =>
        bif room 40 (e6.2.2.2.2.2.2.2.2.2.1.length + 1) then
         some (.inl (0, (e6.2.2.1, e6.2.2.2.1, e6.2.2.2.2.1, e6.2.2.2.2.2.1, e6.2.2.2.2.2.2.1, e6.2.2.2.2.2.2.2.1, e6.2.2.2.2.2.2.2.2.1, e6.2.2.2.2.2.2.2.2.2.1 ++ [(4, wr (e6.2.2.2.2.2.2.2.2.2.2.2.1 + e6.2.2.2.1), e6.2.2.2.2.2.2.2.2.2.2.2.2.2.2, r8, 0)], wr (e6.2.2.2.2.2.2.2.2.2.2.2.1 + e6.2.2.2.1), e6.2.2.2.2.2.2.2.2.2.2.2.1, e6.2.2.2.2.2.2.2.2.2.2.2.2.1, wr (e6.2.2.2.2.2.2.2.2.2.2.2.2.2.1 + 1), e6.2.2.2.2.2.2.2.2.2.2.2.2.2.2)))
        else
         none)
        (none)
      else
       optE (s163 ((e6.2.2.1, e6.2.2.2.1, e6.2.2.2.2.1, e6.2.2.2.2.2.1, e6.2.2.2.2.2.2.1, e6.2.2.2.2.2.2.2.1, e6.2.2.2.2.2.2.2.2.1, e6.2.2.2.2.2.2.2.2.2.1, e6.2.2.2.2.2.2.2.2.2.2.1, e6.2.2.2.2.2.2.2.2.2.2.2.1, e6.2.2.2.2.2.2.2.2.2.2.2.2.1, wr (e6.2.2.2.2.2.2.2.2.2.2.2.2.2.1 + 1), e6.2.2.2.2.2.2.2.2.2.2.2.2.2.2), wr (e6.2.2.2.2.2.2.2.2.2.2.2.1 + e6.2.2.2.1))) (fun r9 =>
        bif room 40 (e6.2.2.2.2.2.2.2.2.2.1.length + 1) then
         some (.inl (2, (e6.2.2.1, e6.2.2.2.1, e6.2.2.2.2.1, e6.2.2.2.2.2.1, e6.2.2.2.2.2.2.1, e6.2.2.2.2.2.2.2.1, e6.2.2.2.2.2.2.2.2.1, e6.2.2.2.2.2.2.2.2.2.1 ++ [(3, wr (e6.2.2.2.2.2.2.2.2.2.2.2.1 + e6.2.2.2.1), e6.2.2.2.2.2.2.2.2.2.2.2.2.2.2, r9, 0)], e6.2.2.2.2.2.2.2.2.2.2.1, wr (e6.2.2.2.2.2.2.2.2.2.2.2.1 + e6.2.2.2.1), e6.2.2.2.2.2.2.2.2.2.2.2.2.1, wr (e6.2.2.2.2.2.2.2.2.2.2.2.2.2.1 + 1), e6.2.2.2.2.2.2.2.2.2.2.2.2.2.2)))
        else
         none)
        (none)) (fun e7 =>
    bif decide ((wr (e7.2.2.2.2.2.2.2.2.2.2.2.1 + 1)) > e7.2.2.2.2.1) then
     optE (s163 ((e7.1, e7.2.1, e7.2.2.1, e7.2.2.2.1, e7.2.2.2.2.1, e7.2.2.2.2.2.1, e7.2.2.2.2.2.2.1, e7.2.2.2.2.2.2.2.1, e7.2.2.2.2.2.2.2.2.1, e7.2.2.2.2.2.2.2.2.2.1, e7.2.2.2.2.2.2.2.2.2.2.1, wr (e7.2.2.2.2.2.2.2.2.2.2.2.1 + 1), e7.2.2.2.2.2.2.2.2.2.2.2.2), wr (e7.2.2.2.2.2.2.2.2.2.1 + e7.2.1))) (fun r10 =>
      bif room 40 (e7.2.2.2.2.2.2.2.1.length + 1) then
       some (.inl (0, (e7.1, e7.2.1, e7.2.2.1, e7.2.2.2.1, e7.2.2.2.2.1, e7.2.2.2.2.2.1, e7.2.2.2.2.2.2.1, e7.2.2.2.2.2.2.2.1 ++ [(4, wr (e7.2.2.2.2.2.2.2.2.2.1 + e7.2.1), e7.2.2.2.2.2.2.2.2.2.2.2.2, r10, 0)], wr (e7.2.2.2.2.2.2.2.2.2.1 + e7.2.1), e7.2.2.2.2.2.2.2.2.2.1, e7.2.2.2.2.2.2.2.2.2.2.1, wr (e7.2.2.2.2.2.2.2.2.2.2.2.1 + 1), e7.2.2.2.2.2.2.2.2.2.2.2.2)))
      else
       none)
      (none)
    else
     optE (s163 ((e7.1, e7.2.1, e7.2.2.1, e7.2.2.2.1, e7.2.2.2.2.1, e7.2.2.2.2.2.1, e7.2.2.2.2.2.2.1, e7.2.2.2.2.2.2.2.1, e7.2.2.2.2.2.2.2.2.1, e7.2.2.2.2.2.2.2.2.2.1, e7.2.2.2.2.2.2.2.2.2.2.1, wr (e7.2.2.2.2.2.2.2.2.2.2.2.1 + 1), e7.2.2.2.2.2.2.2.2.2.2.2.2), wr (e7.2.2.2.2.2.2.2.2.2.1 + e7.2.1))) (fun r11 =>
      bif room 40 (e7.2.2.2.2.2.2.2.1.length + 1) then
       some (.inl (2, (e7.1, e7.2.1, e7.2.2.1, e7.2.2.2.1, e7.2.2.2.2.1, e7.2.2.2.2.2.1, e7.2.2.2.2.2.2.1, e7.2.2.2.2.2.2.2.1 ++ [(3, wr (e7.2.2.2.2.2.2.2.2.2.1 + e7.2.1), e7.2.2.2.2.2.2.2.2.2.2.2.2, r11, 0)], e7.2.2.2.2.2.2.2.2.1, wr (e7.2.2.2.2.2.2.2.2.2.1 + e7.2.1), e7.2.2.2.2.2.2.2.2.2.2.1, wr (e7.2.2.2.2.2.2.2.2.2.2.2.1 + 1), e7.2.2.2.2.2.2.2.2.2.2.2.2)))
      else
       none)
      (none)))
   (none)
noncomputable def step100_0a_3 : ((List Int) × Int × Int × Int × Int × Int × (List Int) × (List (Int × Int × Bool × Int × Int)) × Int × Int × Int × Int × Bool) → Option ((Nat × (((List Int) × Int × Int × Int × Int × Int × (List Int) × (List (Int × Int × Bool × Int × Int)) × Int × Int × Int × Int × Bool))) ⊕ (((List Int) × Int × Int × Int × Int × Int × (List Int) × (List (Int × Int × Bool × Int × Int)) × Int × Int × Int × Int × Bool))) := fun (r0) =>
 some (.inr r0)
@[reducible] def C100_0a : List (List (Nat × LV)) := [[(8, .fn 125)], [(8, .fn 148)], [(8, .fn 147)], [(8, .nilfn)]]
noncomputable def S100_0a : List (T100_0a.D → Option ((Nat × T100_0a.D) ⊕ ExT X100_0a)) := [step100_0a_0, step100_0a_1, step100_0a_2, step100_0a_3]
theorem one100_0a : oneLoop Tryd.prog 100 0 = true := by kernel_rfl
theorem r100_0a_0 : RoundF Tryd.prog md4 Gd12K5 100 0 9 10 T100_0a C100_0a X100_0a [(8, .fn 125)] step100_0a_0 := fun x => by kernel_rfl
theorem r100_0a_1 : RoundF Tryd.prog md4 Gd12K5 100 0 9 10 T100_0a C100_0a X100_0a [(8, .fn 148)] step100_0a_1 := fun x => by kernel_rfl
theorem r100_0a_2 : RoundF Tryd.prog md4 Gd12K5 100 0 9 10 T100_0a C100_0a X100_0a [(8, .fn 147)] step100_0a_2 := fun x => by kernel_rfl
theorem r100_0a_3 : RoundF Tryd.prog md4 Gd12K5 100 0 9 10 T100_0a C100_0a X100_0a [(8, .nilfn)] step100_0a_3 := fun x => by kernel_rfl
theorem lp100_0a : ItemOk Tryd.prog (.loop 100 0 (fam T100_0a [(8, .fn 125)]) X100_0a (fun x => loopVal (stepF S100_0a) (0, x))) := item_loopF md4 ext4 (U := 9) (n := 10) noSpecial mixed Gd12K5_ok one100_0a (AllF.cons r100_0a_0 (AllF.cons r100_0a_1 (AllF.cons r100_0a_2 (AllF.cons r100_0a_3 AllF.nil)))) 0 _ rfl
noncomputable def Gd12K6 : List Ev.Item := .loop 100 0 (fam T100_0a [(8, .fn 125)]) X100_0a (fun x => loopVal (stepF S100_0a) (0, x)) :: Gd12K5
theorem Gd12K6_ok : ∀ q ∈ Gd12K6, ItemOk Tryd.prog q := items_cons lp100_0a Gd12K5_ok
noncomputable def s47 : ((List Int) × Int × Int × Int × Int × Int) × (List Int) → Option ((List (Int × Int × Bool × Int × Int)) × Int) := fun (r0, soft) =>
 optE (s18 r0) (fun r1 =>
  optE (s85 soft) (fun r2 =>
   optE (s80 [r1, r2]) (fun r3 =>
    bif r3 != 0 then
     bif r3 != 0 then
      bif r3 != 0 then
       some (([], r3))
      else
       none
     else
      optE ((fun x => loopVal (stepF S100_0) (0, x)) ()) (fun _ =>
       none)
       (none)
    else
     optE ((fun x => loopVal (stepF S100_0a) (0, x)) (r0.1, r0.2.1, r0.2.2.1, r0.2.2.2.1, r0.2.2.2.2.1, r0.2.2.2.2.2, soft, [], 0, 0, 0, 0, false)) (fun e5 =>
      some ((e5.2.2.2.2.2.2.2.1, 0)))
      (none))
    (none))
   (none))
  (none)
theorem i47 : ItemOk Tryd.prog (.fn 47 [.d (.agg (.pair (.slice zI) (.pair zI zF))), .d (.slice zI)] [.own 52 (.agg (.pair zI (.pair zI (.pair .bool zP)))), .d zI] s47) := item_fnM md4 ext4 (U := 9) (n := 12) noSpecial mixed Gd12K6_ok (fun x => by kernel_rfl)
noncomputable def Gd12K7 : List Ev.Item := .fn 47 [.d (.agg (.pair (.slice zI) (.pair zI zF))), .d (.slice zI)] [.own 52 (.agg (.pair zI (.pair zI (.pair .bool zP)))), .d zI] s47 :: Gd12K6
theorem Gd12K7_ok : ∀ q ∈ Gd12K7, ItemOk Tryd.prog q := items_cons i47 Gd12K6_ok
@[reducible] def T100_0b : Tmpl := ⟨24, [(6, .nilptr), (16002, .ref 1002 0 0 0)], [.val 16001 (.slice zI), .cells 1002 [.d (.pair (.slice zI) (.pair zI zF))]], [96], none⟩
@[reducible] def X100_0b : List (Ex × Tmpl) := [(.exit 0, ⟨24, [(6, .nilptr), (16002, .ref 1002 0 0 0)], [.val 16001 (.slice zI), .cells 1002 [.d (.pair (.slice zI) (.pair zI zF))]], [96], none⟩)]
noncomputable def step100_0b_0 : (List Int) × ((List Int) × Int × Int × Int × Int × Int) → Option ((Nat × ((List Int) × ((List Int) × Int × Int × Int × Int × Int))) ⊕ ((List Int) × ((List Int) × Int × Int × Int × Int × Int))) := fun (_, _) =>
 none
noncomputable def step100_0b_1 : (List Int) × ((List Int) × Int × Int × Int × Int × Int) → Option ((Nat × ((List Int) × ((List Int) × Int × Int × Int × Int × Int))) ⊕ ((List Int) × ((List Int) × Int × Int × Int × Int × Int))) := fun (_, _) =>
 none
noncomputable def step100_0b_2 : (List Int) × ((List Int) × Int × Int × Int × Int × Int) → Option ((Nat × ((List Int) × ((List Int) × Int × Int × Int × Int × Int))) ⊕ ((List Int) × ((List Int) × Int × Int × Int × Int × Int))) := fun (_, _) =>
 none
noncomputable def step100_0b_3 : (List Int) × ((List Int) × Int × Int × Int × Int × Int) → Option ((Nat × ((List Int) × ((List Int) × Int × Int × Int × Int × Int))) ⊕ ((List Int) × ((List Int) × Int × Int × Int × Int × Int))) := fun (soft, r0) =>
 some (.inr (soft, r0))
@[reducible] def C100_0b : List (List (Nat × LV)) := [[(8, .fn 125)], [(8, .fn 148)], [(8, .fn 147)], [(8, .nilfn)]]
noncomputable def S100_0b : List (T100_0b.D → Option ((Nat × T100_0b.D) ⊕ ExT X100_0b)) := [step100_0b_0, step100_0b_1, step100_0b_2, step100_0b_3]
theorem one100_0b : oneLoop Tryd.prog 100 0 = true := by kernel_rfl
theorem r100_0b_0 : RoundF Tryd.prog md4 Gd12K7 100 0 9 10 T100_0b C100_0b X100_0b [(8, .fn 125)] step100_0b_0 := fun x => by kernel_rfl
theorem r100_0b_1 : RoundF Tryd.prog md4 Gd12K7 100 0 9 10 T100_0b C100_0b X100_0b [(8, .fn 148)] step100_0b_1 := fun x => by kernel_rfl
theorem r100_0b_2 : RoundF Tryd.prog md4 Gd12K7 100 0 9 10 T100_0b C100_0b X100_0b [(8, .fn 147)] step100_0b_2 := fun x => by kernel_rfl
theorem r100_0b_3 : RoundF Tryd.prog md4 Gd12K7 100 0 9 10 T100_0b C100_0b X100_0b [(8, .nilfn)] step100_0b_3 := fun x => by kernel_rfl
theorem lp100_0b : ItemOk Tryd.prog (.loop 100 0 (fam T100_0b [(8, .fn 125)]) X100_0b (fun x => loopVal (stepF S100_0b) (0, x))) := item_loopF md4 ext4 (U := 9) (n := 10) noSpecial mixed Gd12K7_ok one100_0b (AllF.cons r100_0b_0 (AllF.cons r100_0b_1 (AllF.cons r100_0b_2 (AllF.cons r100_0b_3 AllF.nil)))) 0 _ rfl
noncomputable def Gd12K8 : List Ev.Item := .loop 100 0 (fam T100_0b [(8, .fn 125)]) X100_0b (fun x => loopVal (stepF S100_0b) (0, x)) :: Gd12K7
theorem Gd12K8_ok : ∀ q ∈ Gd12K8, ItemOk Tryd.prog q := items_cons lp100_0b Gd12K7_ok
@[reducible] def T121_0b : Tmpl := ⟨66, [(0, .mref 2901), (2, .ref 1900 0 0 0), (16002, .ref 1002 0 0 0), (16039, .mref 2901), (32006, .ref 2900 0 0 0), (48002, .ref 3002 0 0 0), (48016001, .ref 1001 0 0 0), (48016002, .ref 1002 0 0 0)], [.val 4 zI, .val 48001 (.slice zI), .cells 1900 [.rf 2900 0 0 0], .cells 1002 [.nf], .cells 2900 [.d (.slice zI), .d zI, .d zI, .d zI, .d zI, .d zI, .d (.slice zI), .own 2903 52 (.agg (.pair zI (.pair zI (.pair .bool zP)))), .d zI, .d zI, .d zI, .d zI, .d .bool], .cells 3002 [.d (.pair (.slice zI) (.pair zI zF))], .cells 1001 [.rf 2900 0 0 0]], [40, 24, 96], some (2901, .ready)⟩
@[reducible] def X121_0b : List (Ex × Tmpl) := [(.ret, ⟨66, [(16002, .ref 1002 0 0 0), (16039, .mref 2901), (32006, .ref 2900 0 0 0), (48002, .ref 3002 0 0 0), (48016001, .ref 1001 0 0 0), (48016002, .ref 1002 0 0 0)], [.val 48001 (.slice zI), .cells 1002 [.fc 147], .cells 2900 [.d (.slice zI), .d zI, .d zI, .d zI, .d zI, .d zI, .d (.slice zI), .own 900 52 (.agg (.pair zI (.pair zI (.pair .bool zP)))), .d zI, .d zI, .d zI, .d zI, .d .bool], .cells 3002 [.d (.pair (.slice zI) (.pair zI zF))], .cells 1001 [.rf 2900 0 0 0]], [40, 24, 96], some (2901, .done none)⟩), (.ret, ⟨66, [(16002, .ref 1002 0 0 0), (16039, .mref 2901), (32006, .ref 2900 0 0 0), (48002, .ref 3002 0 0 0), (48016001, .ref 1001 0 0 0), (48016002, .ref 1002 0 0 0)], [.val 48001 (.slice zI), .cells 1002 [.fc 148], .cells 2900 [.d (.slice zI), .d zI, .d zI, .d zI, .d zI, .d zI, .d (.slice zI), .own 900 52 (.agg (.pair zI (.pair zI (.pair .bool zP)))), .d zI, .d zI, .d zI, .d zI, .d .bool], .cells 3002 [.d (.pair (.slice zI) (.pair zI zF))], .cells 1001 [.rf 2900 0 0 0]], [40, 24, 96], some (2901, .done none)⟩), (.exit 0, ⟨66, [(16002, .ref 1002 0 0 0), (16039, .mref 2901), (32006, .ref 2900 0 0 0), (48002, .ref 3002 0 0 0), (48016001, .ref 1001 0 0 0), (48016002, .ref 1002 0 0 0)], [.val 48001 (.slice zI), .cells 1002 [.nf], .cells 2900 [.d (.slice zI), .d zI, .d zI, .d zI, .d zI, .d zI, .d (.slice zI), .own 2903 52 (.agg (.pair zI (.pair zI (.pair .bool zP)))), .d zI, .d zI, .d zI, .d zI, .d .bool], .cells 3002 [.d (.pair (.slice zI) (.pair zI zF))], .cells 1001 [.rf 2900 0 0 0]], [40, 24, 96], some (2901, .ready)⟩)]
noncomputable def step121_0b : Int × (List Int) × Unit × Unit × ((List Int) × Int × Int × Int × Int × Int × (List Int) × (List (Int × Int × Bool × Int × Int)) × Int × Int × Int × Int × Bool) × ((List Int) × Int × Int × Int × Int × Int) × Unit → Option (LpI × ((Int × (List Int) × Unit × Unit × ((List Int) × Int × Int × Int × Int × Int × (List Int) × (List (Int × Int × Bool × Int × Int)) × Int × Int × Int × Int × Bool) × ((List Int) × Int × Int × Int × Int × Int) × Unit) ⊕ (((List Int) × Unit × ((List Int) × Int × Int × Int × Int × Int × (List Int) × (List (Int × Int × Bool × Int × Int)) × Int × Int × Int × Int × Bool) × ((List Int) × Int × Int × Int × Int × Int) × Unit) ⊕ ((List Int) × Unit × ((List Int) × Int × Int × Int × Int × Int × (List Int) × (List (Int × Int × Bool × Int × Int)) × Int × Int × Int × Int × Bool) × ((List Int) × Int × Int × Int × Int × Int) × Unit) ⊕ ((List Int) × Unit × ((List Int) × Int × Int × Int × Int × Int × (List Int) × (List (Int × Int × Bool × Int × Int)) × Int × Int × Int × Int × Bool) × ((List Int) × Int × Int × Int × Int × Int) × Unit)))) := fun (at0, soft, _, _, r0, r0', _) =>
 bif decide ((wr (at0 + (r0.1.length : Int))) ≤ (r0.2.2.2.2.2.2.1.length : Int)) then
  optE (s86 (r0.1, r0.2.2.2.2.2.2.1, at0)) (fun r6 =>
   bif decide (r6.1 > r0.2.2.1) then
    bif decide (r6.2 ≤ r0.2.2.1) then
     bif room 40 (r0.2.2.2.2.2.2.2.1.length + 1) then
      bif decide (1 ≥ r0.2.2.2.1) then
       some (Lp125_0, .inr (.inl (soft, (), (r0.1, r0.2.1, r0.2.2.1, r0.2.2.2.1, r0.2.2.2.2.1, r0.2.2.2.2.2.1, r0.2.2.2.2.2.2.1, r0.2.2.2.2.2.2.2.1 ++ [(0, at0, true, r6.2, 0)], r0.2.2.2.2.2.2.2.2.1, at0, 1, 0, true), r0', ())))
      else
       some (Lp125_0, .inr (.inr (.inl (soft, (), (r0.1, r0.2.1, r0.2.2.1, r0.2.2.2.1, r0.2.2.2.2.1, r0.2.2.2.2.2.1, r0.2.2.2.2.2.2.1, r0.2.2.2.2.2.2.2.1 ++ [(0, at0, true, r6.2, 0)], r0.2.2.2.2.2.2.2.2.1, at0, 1, 0, true), r0', ()))))
     else
      none
    else
     some (Lp125_0, .inl (wr (at0 + 1), soft, (), (), r0, r0', ()))
   else
    bif decide (r6.1 ≤ r0.2.2.1) then
     bif room 40 (r0.2.2.2.2.2.2.2.1.length + 1) then
      bif decide (1 ≥ r0.2.2.2.1) then
       some (Lp125_0, .inr (.inl (soft, (), (r0.1, r0.2.1, r0.2.2.1, r0.2.2.2.1, r0.2.2.2.2.1, r0.2.2.2.2.2.1, r0.2.2.2.2.2.2.1, r0.2.2.2.2.2.2.2.1 ++ [(0, at0, false, r6.1, 0)], r0.2.2.2.2.2.2.2.2.1, at0, 1, 0, false), r0', ())))
      else
       some (Lp125_0, .inr (.inr (.inl (soft, (), (r0.1, r0.2.1, r0.2.2.1, r0.2.2.2.1, r0.2.2.2.2.1, r0.2.2.2.2.2.1, r0.2.2.2.2.2.2.1, r0.2.2.2.2.2.2.2.1 ++ [(0, at0, false, r6.1, 0)], r0.2.2.2.2.2.2.2.2.1, at0, 1, 0, false), r0', ()))))
     else
      none
    else
     some (Lp125_0, .inl (wr (at0 + 1), soft, (), (), r0, r0', ())))
   (none)
 else
  some (Lp125_0, .inr (.inr (.inr (soft, (), r0, r0', ()))))
theorem one121_0b : oneLoop Tryd.prog 121 0 = true := by kernel_rfl
theorem lp121_0b : ItemOk Tryd.prog (.loopI 121 0 Lp125_0 T121_0b X121_0b (loopVal (strip Lp125_0 step121_0b))) := item_loopI md4 ext4 (U := 9) (n := 8) noSpecial mixed Gd12K8_ok one121_0b (fun x => by kernel_rfl)
noncomputable def Gd12K9 : List Ev.Item := .loopI 121 0 Lp125_0 T121_0b X121_0b (loopVal (strip Lp125_0 step121_0b)) :: Gd12K8
theorem Gd12K9_ok : ∀ q ∈ Gd12K9, ItemOk Tryd.prog q := items_cons lp121_0b Gd12K8_ok
@[reducible] def T155_0b : Tmpl := ⟨85, [(0, .ref 2900 0 0 0), (16000, .ref 2900 0 0 0), (32006, .ref 2900 0 0 0), (48002, .ref 3002 0 0 0)], [.val 1 zI, .val 6 zI, .val 45 zI, .val 46 zI, .val 48001 (.slice zI), .cells 2900 [.d (.slice zI), .d zI, .d zI, .d zI, .d zI, .d zI, .d (.slice zI), .own 2903 52 (.agg (.pair zI (.pair zI (.pair .bool zP)))), .d zI, .d zI, .d zI, .d zI, .d .bool], .cells 3002 [.d (.pair (.slice zI) (.pair zI zF))]], [32, 24, 96], none⟩
@[reducible] def X155_0b : List (Ex × Tmpl) := [(.ret, ⟨85, [(16000, .ref 2900 0 0 0), (32006, .ref 2900 0 0 0), (48002, .ref 3002 0 0 0)], [.val 4 .bool, .val 5 .bool, .val 48001 (.slice zI), .cells 2900 [.d (.slice zI), .d zI, .d zI, .d zI, .d zI, .d zI, .d (.slice zI), .own 900 52 (.agg (.pair zI (.pair zI (.pair .bool zP)))), .d zI, .d zI, .d zI, .d zI, .d .bool], .cells 3002 [.d (.pair (.slice zI) (.pair zI zF))]], [32, 24, 96], none⟩), (.exit 0, ⟨85, [(16000, .ref 2900 0 0 0), (32006, .ref 2900 0 0 0), (48002, .ref 3002 0 0 0)], [.val 48001 (.slice zI), .cells 2900 [.d (.slice zI), .d zI, .d zI, .d zI, .d zI, .d zI, .d (.slice zI), .own 2903 52 (.agg (.pair zI (.pair zI (.pair .bool zP)))), .d zI, .d zI, .d zI, .d zI, .d .bool], .cells 3002 [.d (.pair (.slice zI) (.pair zI zF))]], [32, 24, 96], none⟩)]
noncomputable def step155_0b : Int × Int × Int × Int × (List Int) × ((List Int) × Int × Int × Int × Int × Int × (List Int) × (List (Int × Int × Bool × Int × Int)) × Int × Int × Int × Int × Bool) × ((List Int) × Int × Int × Int × Int × Int) → Option ((Int × Int × Int × Int × (List Int) × ((List Int) × Int × Int × Int × Int × Int × (List Int) × (List (Int × Int × Bool × Int × Int)) × Int × Int × Int × Int × Bool) × ((List Int) × Int × Int × Int × Int × Int)) ⊕ ((Bool × Bool × (List Int) × ((List Int) × Int × Int × Int × Int × Int × (List Int) × (List (Int × Int × Bool × Int × Int)) × Int × Int × Int × Int × Bool) × ((List Int) × Int × Int × Int × Int × Int)) ⊕ ((List Int) × ((List Int) × Int × Int × Int × Int × Int × (List Int) × (List (Int × Int × Bool × Int × Int)) × Int × Int × Int × Int × Bool) × ((List Int) × Int × Int × Int × Int × Int)))) := fun (kind, next, t45, t46, soft, r0, r0') =>
 bif decide (t46 < t45) then
  optE (s163 (r0, wr (next + (wr (-t46))))) (fun r14 =>
   bif decide (r14 ≤ r0.2.2.1) then
    optE (s163 (r0, wr (next + (wr (-t46))))) (fun r15 =>
     bif room 40 (r0.2.2.2.2.2.2.2.1.length + 1) then
      some (.inr (.inl (true, true, soft, (r0.1, r0.2.1, r0.2.2.1, r0.2.2.2.1, r0.2.2.2.2.1, r0.2.2.2.2.2.1, r0.2.2.2.2.2.2.1, r0.2.2.2.2.2.2.2.1 ++ [(kind, wr (next + (wr (-t46))), r0.2.2.2.2.2.2.2.2.2.2.2.2, r15, wr (-t46))], r0.2.2.2.2.2.2.2.2.1, wr (next + (wr (-t46))), r0.2.2.2.2.2.2.2.2.2.2.1, 0, r0.2.2.2.2.2.2.2.2.2.2.2.2), r0')))
     else
      none)
     (none)
   else
    optE (s163 (r0, wr (next + t46))) (fun r16 =>
     bif decide (r16 ≤ r0.2.2.1) then
      optE (s163 (r0, wr (next + t46))) (fun r17 =>
       bif room 40 (r0.2.2.2.2.2.2.2.1.length + 1) then
        some (.inr (.inl (true, true, soft, (r0.1, r0.2.1, r0.2.2.1, r0.2.2.2.1, r0.2.2.2.2.1, r0.2.2.2.2.2.1, r0.2.2.2.2.2.2.1, r0.2.2.2.2.2.2.2.1 ++ [(kind, wr (next + t46), r0.2.2.2.2.2.2.2.2.2.2.2.2, r17, t46)], r0.2.2.2.2.2.2.2.2.1, wr (next + t46), r0.2.2.2.2.2.2.2.2.2.2.1, 0, r0.2.2.2.2.2.2.2.2.2.2.2.2), r0')))
       else
        none)
       (none)
     else
      some (.inl (kind, next, t45, wr (t46 + 1), soft, r0, r0')))
     (none))
   (none)
 else
  some (.inr (.inr (soft, r0, r0')))
theorem one155_0b : oneLoop Tryd.prog 155 0 = true := by kernel_rfl
theorem lp155_0b : ItemOk Tryd.prog (.loop 155 0 T155_0b X155_0b (loopVal step155_0b)) := item_loopM md4 ext4 (U := 9) (n := 8) noSpecial mixed Gd12K9_ok one155_0b (fun x => by kernel_rfl)
noncomputable def Gd12K10 : List Ev.Item := .loop 155 0 T155_0b X155_0b (loopVal step155_0b) :: Gd12K9
theorem Gd12K10_ok : ∀ q ∈ Gd12K10, ItemOk Tryd.prog q := items_cons lp155_0b Gd12K9_ok
@[reducible] def T155_0c : Tmpl := ⟨85, [(0, .ref 2900 0 0 0), (16000, .ref 2900 0 0 0), (32006, .ref 2900 0 0 0), (48002, .ref 3002 0 0 0)], [.val 1 zI, .val 6 zI, .val 45 zI, .val 46 zI, .val 48001 (.slice zI), .cells 2900 [.d (.slice zI), .d zI, .d zI, .d zI, .d zI, .d zI, .d (.slice zI), .own 2903 52 (.agg (.pair zI (.pair zI (.pair .bool zP)))), .d zI, .d zI, .d zI, .d zI, .d .bool], .cells 3002 [.d (.pair (.slice zI) (.pair zI zF))]], [53, 24, 96], none⟩
@[reducible] def X155_0c : List (Ex × Tmpl) := [(.ret, ⟨85, [(16000, .ref 2900 0 0 0), (32006, .ref 2900 0 0 0), (48002, .ref 3002 0 0 0)], [.val 4 .bool, .val 5 .bool, .val 48001 (.slice zI), .cells 2900 [.d (.slice zI), .d zI, .d zI, .d zI, .d zI, .d zI, .d (.slice zI), .own 900 52 (.agg (.pair zI (.pair zI (.pair .bool zP)))), .d zI, .d zI, .d zI, .d zI, .d .bool], .cells 3002 [.d (.pair (.slice zI) (.pair zI zF))]], [53, 24, 96], none⟩), (.exit 0, ⟨85, [(16000, .ref 2900 0 0 0), (32006, .ref 2900 0 0 0), (48002, .ref 3002 0 0 0)], [.val 48001 (.slice zI), .cells 2900 [.d (.slice zI), .d zI, .d zI, .d zI, .d zI, .d zI, .d (.slice zI), .own 2903 52 (.agg (.pair zI (.pair zI (.pair .bool zP)))), .d zI, .d zI, .d zI, .d zI, .d .bool], .cells 3002 [.d (.pair (.slice zI) (.pair zI zF))]], [53, 24, 96], none⟩)]
noncomputable def step155_0c : Int × Int × Int × Int × (List Int) × ((List Int) × Int × Int × Int × Int × Int × (List Int) × (List (Int × Int × Bool × Int × Int)) × Int × Int × Int × Int × Bool) × ((List Int) × Int × Int × Int × Int × Int) → Option ((Int × Int × Int × Int × (List Int) × ((List Int) × Int × Int × Int × Int × Int × (List Int) × (List (Int × Int × Bool × Int × Int)) × Int × Int × Int × Int × Bool) × ((List Int) × Int × Int × Int × Int × Int)) ⊕ ((Bool × Bool × (List Int) × ((List Int) × Int × Int × Int × Int × Int × (List Int) × (List (Int × Int × Bool × Int × Int)) × Int × Int × Int × Int × Bool) × ((List Int) × Int × Int × Int × Int × Int)) ⊕ ((List Int) × ((List Int) × Int × Int × Int × Int × Int × (List Int) × (List (Int × Int × Bool × Int × Int)) × Int × Int × Int × Int × Bool) × ((List Int) × Int × Int × Int × Int × Int)))) := fun (kind, next, t45, t46, soft, r0, r0') =>
 bif decide (t46 < t45) then
  optE (s163 (r0, wr (next + (wr (-t46))))) (fun r19 =>
   bif decide (r19 ≤ r0.2.2.1) then
    optE (s163 (r0, wr (next + (wr (-t46))))) (fun r20 =>
     bif room 40 (r0.2.2.2.2.2.2.2.1.length + 1) then
      some (.inr (.inl (true, true, soft, (r0.1, r0.2.1, r0.2.2.1, r0.2.2.2.1, r0.2.2.2.2.1, r0.2.2.2.2.2.1, r0.2.2.2.2.2.2.1, r0.2.2.2.2.2.2.2.1 ++ [(kind, wr (next + (wr (-t46))), r0.2.2.2.2.2.2.2.2.2.2.2.2, r20, wr (-t46))], r0.2.2.2.2.2.2.2.2.1, wr (next + (wr (-t46))), r0.2.2.2.2.2.2.2.2.2.2.1, 0, r0.2.2.2.2.2.2.2.2.2.2.2.2), r0')))
     else
      none)
     (none)
   else
    optE (s163 (r0, wr (next + t46))) (fun r21 =>
     bif decide (r21 ≤ r0.2.2.1) then
      optE (s163 (r0, wr (next + t46))) (fun r22 =>
       bif room 40 (r0.2.2.2.2.2.2.2.1.length + 1) then
        some (.inr (.inl (true, true, soft, (r0.1, r0.2.1, r0.2.2.1, r0.2.2.2.1, r0.2.2.2.2.1, r0.2.2.2.2.2.1, r0.2.2.2.2.2.2.1, r0.2.2.2.2.2.2.2.1 ++ [(kind, wr (next + t46), r0.2.2.2.2.2.2.2.2.2.2.2.2, r22, t46)], r0.2.2.2.2.2.2.2.2.1, wr (next + t46), r0.2.2.2.2.2.2.2.2.2.2.1, 0, r0.2.2.2.2.2.2.2.2.2.2.2.2), r0')))
       else
        none)
       (none)
     else
      some (.inl (kind, next, t45, wr (t46 + 1), soft, r0, r0')))
     (none))
   (none)
 else
  some (.inr (.inr (soft, r0, r0')))
theorem one155_0c : oneLoop Tryd.prog 155 0 = true := by kernel_rfl
theorem lp155_0c : ItemOk Tryd.prog (.loop 155 0 T155_0c X155_0c (loopVal step155_0c)) := item_loopM md4 ext4 (U := 9) (n := 8) noSpecial mixed Gd12K10_ok one155_0c (fun x => by kernel_rfl)
noncomputable def Gd12K11 : List Ev.Item := .loop 155 0 T155_0c X155_0c (loopVal step155_0c) :: Gd12K10
theorem Gd12K11_ok : ∀ q ∈ Gd12K11, ItemOk Tryd.prog q := items_cons lp155_0c Gd12K10_ok
@[reducible] def T100_0c : Tmpl := ⟨24, [(6, .ref 900 0 0 0), (16002, .ref 1002 0 0 0)], [.val 16001 (.slice zI), .cells 900 [.d (.slice zI), .d zI, .d zI, .d zI, .d zI, .d zI, .d (.slice zI), .own 903 52 (.agg (.pair zI (.pair zI (.pair .bool zP)))), .d zI, .d zI, .d zI, .d zI, .d .bool], .cells 1002 [.d (.pair (.slice zI) (.pair zI zF))]], [96], none⟩
@[reducible] def X100_0c : List (Ex × Tmpl) := [(.exit 0, ⟨24, [(6, .ref 900 0 0 0), (16002, .ref 1002 0 0 0)], [.val 16001 (.slice zI), .cells 900 [.d (.slice zI), .d zI, .d zI, .d zI, .d zI, .d zI, .d (.slice zI), .own 903 52 (.agg (.pair zI (.pair zI (.pair .bool zP)))), .d zI, .d zI, .d zI, .d zI, .d .bool], .cells 1002 [.d (.pair (.slice zI) (.pair zI zF))]], [96], none⟩)]
noncomputable def step100_0c_0 : (List Int) × ((List Int) × Int × Int × Int × Int × Int × (List Int) × (List (Int × Int × Bool × Int × Int)) × Int × Int × Int × Int × Bool) × ((List Int) × Int × Int × Int × Int × Int) → Option ((Nat × ((List Int) × ((List Int) × Int × Int × Int × Int × Int × (List Int) × (List (Int × Int × Bool × Int × Int)) × Int × Int × Int × Int × Bool) × ((List Int) × Int × Int × Int × Int × Int))) ⊕ ((List Int) × ((List Int) × Int × Int × Int × Int × Int × (List Int) × (List (Int × Int × Bool × Int × Int)) × Int × Int × Int × Int × Bool) × ((List Int) × Int × Int × Int × Int × Int))) := fun (soft, r0, r0') =>
 optE (onlyAt Lp125_0 Lp125_0 <| loopVal (strip Lp125_0 step121_0b) (r0.2.2.2.2.2.2.2.2.1, soft, (), (), r0, r0', ())) (fun e5 =>
  sumE e5 (fun e6 =>
   some (.inl (2, (e6.1, e6.2.2.1, e6.2.2.2.1)))) (fun e7 =>
   sumE e7 (fun e8 =>
    some (.inl (1, (e8.1, e8.2.2.1, e8.2.2.2.1)))) (fun e9 =>
    some (.inl (3, (e9.1, e9.2.2.1, e9.2.2.2.1))))))
  (none)
noncomputable def step100_0c_1 : (List Int) × ((List Int) × Int × Int × Int × Int × Int × (List Int) × (List (Int × Int × Bool × Int × Int)) × Int × Int × Int × Int × Bool) × ((List Int) × Int × Int × Int × Int × Int) → Option ((Nat × ((List Int) × ((List Int) × Int × Int × Int × Int × Int × (List Int) × (List (Int × Int × Bool × Int × Int)) × Int × Int × Int × Int × Bool) × ((List Int) × Int × Int × Int × Int × Int))) ⊕ ((List Int) × ((List Int) × Int × Int × Int × Int × Int × (List Int) × (List (Int × Int × Bool × Int × Int)) × Int × Int × Int × Int × Bool) × ((List Int) × Int × Int × Int × Int × Int))) := fun (soft, r0, r0') =>
 bif decide ((wr ((wr ((wr (r0.2.2.2.2.2.2.2.2.2.1 + r0.2.1)) + r0.2.2.2.2.2.1)) + (r0.1.length : Int))) > (r0.2.2.2.2.2.2.1.length : Int)) then
  some (.inl (3, (soft, r0, r0')))
 else
  optE (loopVal step155_0b (1, wr (r0.2.2.2.2.2.2.2.2.2.1 + r0.2.1), wr (r0.2.2.2.2.2.1 + 1), 0, soft, r0, r0')) (fun e5 =>
   sumE e5 (fun e6 =>
    bif !e6.2.1 then
     some (.inl (3, e6.2.2))
    else
     bif !e6.1 then
      optE (s163 (e6.2.2.2.1, wr (e6.2.2.2.1.2.2.2.2.2.2.2.2.2.1 + e6.2.2.2.1.2.1))) (fun r8 =>
       bif room 40 (e6.2.2.2.1.2.2.2.2.2.2.2.1.length + 1) then
        some (.inl (0, (e6.2.2.1, (e6.2.2.2.1.1, e6.2.2.2.1.2.1, e6.2.2.2.1.2.2.1, e6.2.2.2.1.2.2.2.1, e6.2.2.2.1.2.2.2.2.1, e6.2.2.2.1.2.2.2.2.2.1, e6.2.2.2.1.2.2.2.2.2.2.1, e6.2.2.2.1.2.2.2.2.2.2.2.1 ++ [(4, wr (e6.2.2.2.1.2.2.2.2.2.2.2.2.2.1 + e6.2.2.2.1.2.1), e6.2.2.2.1.2.2.2.2.2.2.2.2.2.2.2.2, r8, 0)], wr (e6.2.2.2.1.2.2.2.2.2.2.2.2.2.1 + 1), e6.2.2.2.1.2.2.2.2.2.2.2.2.2.1, e6.2.2.2.1.2.2.2.2.2.2.2.2.2.2.1, e6.2.2.2.1.2.2.2.2.2.2.2.2.2.2.2.1, e6.2.2.2.1.2.2.2.2.2.2.2.2.2.2.2.2), e6.2.2.2.2)))
       else
        none)
       (none)
     else
      bif decide ((wr (e6.2.2.2.1.2.2.2.2.2.2.2.2.2.2.1 + 1)) ≥ e6.2.2.2.1.2.2.2.1) then
       some (.inl (2, (e6.2.2.1, (e6.2.2.2.1.1, e6.2.2.2.1.2.1, e6.2.2.2.1.2.2.1, e6.2.2.2.1.2.2.2.1, e6.2.2.2.1.2.2.2.2.1, e6.2.2.2.1.2.2.2.2.2.1, e6.2.2.2.1.2.2.2.2.2.2.1, e6.2.2.2.1.2.2.2.2.2.2.2.1, e6.2.2.2.1.2.2.2.2.2.2.2.2.1, e6.2.2.2.1.2.2.2.2.2.2.2.2.2.1, wr (e6.2.2.2.1.2.2.2.2.2.2.2.2.2.2.1 + 1), e6.2.2.2.1.2.2.2.2.2.2.2.2.2.2.2.1, e6.2.2.2.1.2.2.2.2.2.2.2.2.2.2.2.2), e6.2.2.2.2)))
      else
       some (.inl (1, (e6.2.2.1, (e6.2.2.2.1.1, e6.2.2.2.1.2.1, e6.2.2.2.1.2.2.1, e6.2.2.2.1.2.2.2.1, e6.2.2.2.1.2.2.2.2.1, e6.2.2.2.1.2.2.2.2.2.1, e6.2.2.2.1.2.2.2.2.2.2.1, e6.2.2.2.1.2.2.2.2.2.2.2.1, e6.2.2.2.1.2.2.2.2.2.2.2.2.1, e6.2.2.2.1.2.2.2.2.2.2.2.2.2.1, wr (e6.2.2.2.1.2.2.2.2.2.2.2.2.2.2.1 + 1), e6.2.2.2.1.2.2.2.2.2.2.2.2.2.2.2.1, e6.2.2.2.1.2.2.2.2.2.2.2.2.2.2.2.2), e6.2.2.2.2)))) (fun e7 =>
    optE (s163 (e7.2.1, wr (e7.2.1.2.2.2.2.2.2.2.2.2.1 + e7.2.1.2.1))) (fun r9 =>
     bif room 40 (e7.2.1.2.2.2.2.2.2.2.1.length + 1) then
      some (.inl (0, (e7.1, (e7.2.1.1, e7.2.1.2.1, e7.2.1.2.2.1, e7.2.1.2.2.2.1, e7.2.1.2.2.2.2.1, e7.2.1.2.2.2.2.2.1, e7.2.1.2.2.2.2.2.2.1, e7.2.1.2.2.2.2.2.2.2.1 ++ [(4, wr (e7.2.1.2.2.2.2.2.2.2.2.2.1 + e7.2.1.2.1), e7.2.1.2.2.2.2.2.2.2.2.2.2.2.2, r9, 0)], wr (e7.2.1.2.2.2.2.2.2.2.2.2.1 + 1), e7.2.1.2.2.2.2.2.2.2.2.2.1, e7.2.1.2.2.2.2.2.2.2.2.2.2.1, e7.2.1.2.2.2.2.2.2.2.2.2.2.2.1, e7.2.1.2.2.2.2.2.2.2.2.2.2.2.2), e7.2.2)))
     else
      none)
     (none)))
   (none)
noncomputable def step100_0c_2 : (List Int) × ((List Int) × Int × Int × Int × Int × Int × (List Int) × (List (Int × Int × Bool × Int × Int)) × Int × Int × Int × Int × Bool) × ((List Int) × Int × Int × Int × Int × Int) → Option ((Nat × ((List Int) × ((List Int) × Int × Int × Int × Int × Int × (List Int) × (List (Int × Int × Bool × Int × Int)) × Int × Int × Int × Int × Bool) × ((List Int) × Int × Int × Int × Int × Int))) ⊕ ((List Int) × ((List Int) × Int × Int × Int × Int × Int × (List Int) × (List (Int × Int × Bool × Int × Int)) × Int × Int × Int × Int × Bool) × ((List Int) × Int × Int × Int × Int × Int))) := fun (soft, r0, r0') =>
 bif decide ((wr ((wr ((wr (r0.2.2.2.2.2.2.2.2.2.1 + r0.2.1)) + r0.2.2.2.2.2.1)) + (r0.1.length : Int))) > (r0.2.2.2.2.2.2.1.length : Int)) then
  some (.inl (3, (soft, r0, r0')))
 else
  optE (loopVal step155_0c (2, wr (r0.2.2.2.2.2.2.2.2.2.1 + r0.2.1), wr (r0.2.2.2.2.2.1 + 1), 0, soft, r0, r0')) (fun e5 =>
   sumE e5 (fun e6 =>
    bif !e6.2.1 then
     some (.inl (3, e6.2.2))
    else
     bif e6.1 then
      some (.inl (2, e6.2.2))
     else
      bif decide ((wr (e6.2.2.2.1.2.2.2.2.2.2.2.2.2.2.2.1 + 1)) > e6.2.2.2.1.2.2.2.2.1) then
       optE (s163 ((e6.2.2.2.1.1, e6.2.2.2.1.2.1, e6.2.2.2.1.2.2.1, e6.2.2.2.1.2.2.2.1, e6.2.2.2.1.2.2.2.2.1, e6.2.2.2.1.2.2.2.2.2.1, e6.2.2.2.1.2.2.2.2.2.2.1, e6.2.2.2.1.2.2.2.2.2.2.2.1, e6.2.2.2.1.2.2.2.2.2.2.2.2.1, e6.2.2.2.1.2.2.2.2.2.2.2.2.2.1, e6.2.2.2.1.2.2.2.2.2.2.2.2.2.2.1, wr (e6.2.2.2.1.2.2.2.2.2.2.2.2.2.2.2.1 + 1), e6.2.2.2.1.2.2.2.2.2.2.2.2.2.2.2.2), wr (e6.2.2.2.1.2.2.2.2.2.2.2.2.2.1 + e6.2.2.2.1.2.1))) (fun r8 =>
        bif room 40 (e6.2.2.2.1.2.2.2.2.2.2.2.1.length + 1) then
         some (.inl (0, (e6.2.2.1, (e6.2.2.2.1.1, e6.2.2.2.1.2.1, e6.2.2.2.1.2.2.1, e6.2.2.2.1.2.2.2.1, e6.2.2.2.1.2.2.2.2.1, e6.2.2.2.1.2.2.2.2.2.1, e6.2.2.2.1.2.2.2.2.2.2.1, e6.2.2.2.1.2.2.2.2.2.2.2.1 ++ [(4, wr (e6.2.2.2.1.2.2.2.2.2.2.2.2.2.1 + e6.2.2.2.1.2.1), e6.2.2.2.1.2.2.2.2.2.2.2.2.2.2.2.2, r8, 0)], wr (e6.2.2.2.1.2.2.2.2.2.2.2.2.2.1 + e6.2.2.2.1.2.1), e6.2.2.2.1.2.2.2.2.2.2.2.2.2.1, e6.2.2.2.1.2.2.2.2.2.2.2.2.2.2.1, wr (e6.2.2.2.1.2.2.2.2.2.2.2.2.2.2.2.1 + 1), e6.2.2.2.1.2.2.2.2.2.2.2.2.2.2.2.2), e6.2.2.2.2)))
        else
         none)
        (none)
      else
       optE (s163 ((e6.2.2.2.1.1, e6.2.2.2.1.2.1, e6.2.2.2.1.2.2.1, e6.2.2.2.1.2.2.2.1, e6.2.2.2.1.2.2.2.2.1, e6.2.2.2.1.2.2.2.2.2.1, e6.2.2.2.1.2.2.2.2.2.2.1, e6.2.2.2.1.2.2.2.2.2.2.2.1, e6.2.2.2.1.2.2.2.2.2.2.2.2.1, e6.2.2.2.1.2.2.2.2.2.2.2.2.2.1, e6.2.2.2.1.2.2.2.2.2.2.2.2.2.2.1, wr (e6.2.2.2.1.2.2.2.2.2.2.2.2.2.2.2.1 + 1), e6.2.2.2.1.2.2.2.2.2.2.2.2.2.2.2.2), wr (e6.2.2.2.1.2.2.2.2.2.2.2.2.2.1 + e6.2.2.2.1.2.1))) (fun r9 =>
        bif room 40 (e6.2.2.2.1.2.2.2.2.2.2.2.1.length + 1) then
         some (.inl (2, (e6.2.2.1, (e6.2.2.2.1.1, e6.2.2.2.1.2.1, e6.2.2.2.1.2.2.1, e6.2.2.2.1.2.2.2.1, e6.2.2.2.1.2.2.2.2.1, e6.2.2.2.1.2.2.2.2.2.1, e6.2.2.2.1.2.2.2.2.2.2.1, e6.2.2.2.1.2.2.2.2.2.2.2.1 ++ [(3, wr (e6.2.2.2.1.2.2.2.2.2.2.2.2.2.1 + e6.2.2.2.1.2.1), e6.2.2.2.1.2.2.2.2.2.2.2.2.2.2.2.2, r9, 0)], e6.2.2.2.1.2.2.2.2.2.2.2.2.1, wr (e6.2.2.2.1.2.2.2.2.2.2.2.2.2.1 + e6.2.2.2.1.2.1), e6.2.2.2.1.2.2.2.2.2.2.2.2.2.2.1, wr (e6.2.2.2.1.2.2.2.2.2.2.2.2.2.2.2.1 + 1), e6.2.2.2.1.2.2.2.2.2.2.2.2.2.2.2.2), e6.2.2.2.2)))
        else
         none)
        (none)) (fun e7 =>
    bif decide ((wr (e7.2.1.2.2.2.2.2.2.2.2.2.2.2.1 + 1)) > e7.2.1.2.2.2.2.1) then
     optE (s163 ((e7.2.1.1, e7.2.1.2.1, e7.2.1.2.2.1, e7.2.1.2.2.2.1, e7.2.1.2.2.2.2.1, e7.2.1.2.2.2.2.2.1, e7.2.1.2.2.2.2.2.2.1, e7.2.1.2.2.2.2.2.2.2.1, e7.2.1.2.2.2.2.2.2.2.2.1, e7.2.1.2.2.2.2.2.2.2.2.2.1, e7.2.1.2.2.2.2.2.2.2.2.2.2.1, wr (e7.2.1.2.2.2.2.2.2.2.2.2.2.2.1 + 1), e7.2.1.2.2.2.2.2.2.2.2.2.2.2.2), wr (e7.2.1.2.2.2.2.2.2.2.2.2.1 + e7.2.1.2.1))) (fun r10 =>
      bif room 40 (e7.2.1.2.2.2.2.2.2.2.1.length + 1) then
       some (.inl (0, (e7.1, (e7.2.1.1, e7.2.1.2.1, e7.2.1.2.2.1, e7.2.1.2.2.2.1, e7.2.1.2.2.2.2.1, e7.2.1.2.2.2.2.2.1, e7.2.1.2.2.2.2.2.2.1, e7.2.1.2.2.2.2.2.2.2.1 ++ [(4, wr (e7.2.1.2.2.2.2.2.2.2.2.2.1 + e7.2.1.2.1), e7.2.1.2.2.2.2.2.2.2.2.2.2.2.2, r10, 0)], wr (e7.2.1.2.2.2.2.2.2.2.2.2.1 + e7.2.1.2.1), e7.2.1.2.2.2.2.2.2.2.2.2.1, e7.2.1.2.2.2.2.2.2.2.2.2.2.1, wr (e7.2.1.2.2.2.2.2.2.2.2.2.2.2.1 + 1), e7.2.1.2.2.2.2.2.2.2.2.2.2.2.2), e7.2.2)))
      else
       none)
      (none)
    else
     optE (s163 ((e7.2.1.1, e7.2.1.2.1, e7.2.1.2.2.1, e7.2.1.2.2.2.1, e7.2.1.2.2.2.2.1, e7.2.1.2.2.2.2.2.1, e7.2.1.2.2.2.2.2.2.1, e7.2.1.2.2.2.2.2.2.2.1, e7.2.1.2.2.2.2.2.2.2.2.1, e7.2.1.2.2.2.2.2.2.2.2.2.1, e7.2.1.2.2.2.2.2.2.2.2.2.2.1, wr (e7.2.1.2.2.2.2.2.2.2.2.2.2.2.1 + 1), e7.2.1.2.2.2.2.2.2.2.2.2.2.2.2), wr (e7.2.1.2.2.2.2.2.2.2.2.2.1 + e7.2.1.2.1))) (fun r11 =>
      bif room 40 (e7.2.1.2.2.2.2.2.2.2.1.length + 1) then
       some (.inl (2, (e7.1, (e7.2.1.1, e7.2.1.2.1, e7.2.1.2.2.1, e7.2.1.2.2.2.1, e7.2.1.2.2.2.2.1, e7.2.1.2.2.2.2.2.1, e7.2.1.2.2.2.2.2.2.1, e7.2.1.2.2.2.2.2.2.2.1 ++ [(3, wr (e7.2.1.2.2.2.2.2.2.2.2.2.1 + e7.2.1.2.1), e7.2.1.2.2.2.2.2.2.2.2.2.2.2.2, r11, 0)], e7.2.1.2.2.2.2.2.2.2.2.1, wr (e7.2.1.2.2.2.2.2.2.2.2.2.1 + e7.2.1.2.1), e7.2.1.2.2.2.2.2.2.2.2.2.2.1, wr (e7.2.1.2.2.2.2.2.2.2.2.2.2.2.1 + 1), e7.2.1.2.2.2.2.2.2.2.2.2.2.2.2), e7.2.2)))
      else
       none)
      (none)))
   (none)
noncomputable def step100_0c_3 : (List Int) × ((List Int) × Int × Int × Int × Int × Int × (List Int) × (List (Int × Int × Bool × Int × Int)) × Int × Int × Int × Int × Bool) × ((List Int) × Int × Int × Int × Int × Int) → Option ((Nat × ((List Int) × ((List Int) × Int × Int × Int × Int × Int × (List Int) × (List (Int × Int × Bool × Int × Int)) × Int × Int × Int × Int × Bool) × ((List Int) × Int × Int × Int × Int × Int))) ⊕ ((List Int) × ((List Int) × Int × Int × Int × Int × Int × (List Int) × (List (Int × Int × Bool × Int × Int)) × Int × Int × Int × Int × Bool) × ((List Int) × Int × Int × Int × Int × Int))) := fun (soft, r0, r0') =>
 some (.inr (soft, r0, r0'))
@[reducible] def C100_0c : List (List (Nat × LV)) := [[(8, .fn 125)], [(8, .fn 148)], [(8, .fn 147)], [(8, .nilfn)]]
noncomputable def S100_0c : List (T100_0c.D → Option ((Nat × T100_0c.D) ⊕ ExT X100_0c)) := [step100_0c_0, step100_0c_1, step100_0c_2, step100_0c_3]
theorem one100_0c : oneLoop Tryd.prog 100 0 = true := by kernel_rfl
theorem r100_0c_0 : RoundF Tryd.prog md4 Gd12K11 100 0 9 10 T100_0c C100_0c X100_0c [(8, .fn 125)] step100_0c_0 := fun x => by kernel_rfl
theorem r100_0c_1 : RoundF Tryd.prog md4 Gd12K11 100 0 9 10 T100_0c C100_0c X100_0c [(8, .fn 148)] step100_0c_1 := fun x => by kernel_rfl
theorem r100_0c_2 : RoundF Tryd.prog md4 Gd12K11 100 0 9 10 T100_0c C100_0c X100_0c [(8, .fn 147)] step100_0c_2 := fun x => by kernel_rfl
theorem r100_0c_3 : RoundF Tryd.prog md4 Gd12K11 100 0 9 10 T100_0c C100_0c X100_0c [(8, .nilfn)] step100_0c_3 := fun x => by kernel_rfl
theorem lp100_0c : ItemOk Tryd.prog (.loop 100 0 (fam T100_0c [(8, .fn 125)]) X100_0c (fun x => loopVal (stepF S100_0c) (0, x))) := item_loopF md4 ext4 (U := 9) (n := 10) noSpecial mixed Gd12K11_ok one100_0c (AllF.cons r100_0c_0 (AllF.cons r100_0c_1 (AllF.cons r100_0c_2 (AllF.cons r100_0c_3 AllF.nil)))) 0 _ rfl
noncomputable def Gd12K12 : List Ev.Item := .loop 100 0 (fam T100_0c [(8, .fn 125)]) X100_0c (fun x => loopVal (stepF S100_0c) (0, x)) :: Gd12K11
theorem Gd12K12_ok : ∀ q ∈ Gd12K12, ItemOk Tryd.prog q := items_cons lp100_0c Gd12K11_ok
@[reducible] def T48_2 : Tmpl := ⟨96, [(2, .ref 2 0 0 0), (6, .ref 900 0 0 0), (12, .ref 12 0 0 0)], [.val 1 (.slice zI), .own 8 93 70 (.agg (.pair zI (.pair .bool (.pair zI (.slice zI))))), .own 26 901 52 (.agg (.pair zI (.pair zI (.pair .bool zP)))), .val 27 zI, .val 28 zI, .val 75 zI, .val 76 zI, .cells 2 [.d (.pair (.slice zI) (.pair zI zF))], .cells 900 [.d (.slice zI), .d zI, .d zI, .d zI, .d zI, .d zI, .d (.slice zI), .own 901 52 (.agg (.pair zI (.pair zI (.pair .bool zP)))), .d zI, .d zI, .d zI, .d zI, .d .bool], .cells 12 [.d zI, .d .bool, .d zI, .own 69 3 zI]], [], none⟩
@[reducible] def X48_2 : List (Ex × Tmpl) := [(.exit 2, ⟨96, [(2, .ref 2 0 0 0), (6, .ref 900 0 0 0), (12, .ref 12 0 0 0)], [.val 1 (.slice zI), .own 8 93 70 (.agg (.pair zI (.pair .bool (.pair zI (.slice zI))))), .own 26 901 52 (.agg (.pair zI (.pair zI (.pair .bool zP)))), .val 27 zI, .val 28 zI, .cells 2 [.d (.pair (.slice zI) (.pair zI zF))], .cells 900 [.d (.slice zI), .d zI, .d zI, .d zI, .d zI, .d zI, .d (.slice zI), .own 901 52 (.agg (.pair zI (.pair zI (.pair .bool zP)))), .d zI, .d zI, .d zI, .d zI, .d .bool], .cells 12 [.d zI, .d .bool, .d zI, .own 69 3 zI]], [], none⟩)]
noncomputable def step48_2 : (List Int) × (List (Int × Bool × Int × List Int)) × (List (Int × Int × Bool × Int × Int)) × Int × Int × Int × Int × ((List Int) × Int × Int × Int × Int × Int) × ((List Int) × Int × Int × Int × Int × Int × (List Int) × (List (Int × Int × Bool × Int × Int)) × Int × Int × Int × Int × Bool) × (Int × Bool × Int × (List Int)) → Option (((List Int) × (List (Int × Bool × Int × List Int)) × (List (Int × Int × Bool × Int × Int)) × Int × Int × Int × Int × ((List Int) × Int × Int × Int × Int × Int) × ((List Int) × Int × Int × Int × Int × Int × (List Int) × (List (Int × Int × Bool × Int × Int)) × Int × Int × Int × Int × Bool) × (Int × Bool × Int × (List Int))) ⊕ ((List Int) × (List (Int × Bool × Int × List Int)) × (List (Int × Int × Bool × Int × Int)) × Int × Int × ((List Int) × Int × Int × Int × Int × Int) × ((List Int) × Int × Int × Int × Int × Int × (List Int) × (List (Int × Int × Bool × Int × Int)) × Int × Int × Int × Int × Bool) × (Int × Bool × Int × (List Int)))) := fun (soft, out, _, t27, t28, t75, t76, r0, x0, f) =>
 bif decide (t76 < t75) then
  bif inBounds t76 f.2.2.2.length then
   bif inBounds t76 f.2.2.2.length then
    some (.inl (soft, out, x0.2.2.2.2.2.2.2.1, t27, t28, t75, wr (t76 + 1), r0, x0, (f.1, f.2.1, f.2.2.1, f.2.2.2.set t76.toNat (wr (-(f.2.2.2.getD t76.toNat 0))))))
   else
    none
  else
   none
 else
  some (.inr (soft, out, x0.2.2.2.2.2.2.2.1, t27, t28, r0, x0, f))
theorem one48_2 : oneLoop Tryd.prog 48 2 = true := by kernel_rfl
theorem lp48_2 : ItemOk Tryd.prog (.loop 48 2 T48_2 X48_2 (loopVal step48_2)) := item_loopM md4 ext4 (U := 9) (n := 11) noSpecial mixed Gd12K12_ok one48_2 (fun x => by kernel_rfl)
noncomputable def Gd12K13 : List Ev.Item := .loop 48 2 T48_2 X48_2 (loopVal step48_2) :: Gd12K12
theorem Gd12K13_ok : ∀ q ∈ Gd12K13, ItemOk Tryd.prog q := items_cons lp48_2 Gd12K12_ok
@[reducible] def T48_0 : Tmpl := ⟨96, [(2, .ref 2 0 0 0), (6, .ref 900 0 0 0)], [.val 1 (.slice zI), .own 8 93 70 (.agg (.pair zI (.pair .bool (.pair zI (.slice zI))))), .own 26 901 52 (.agg (.pair zI (.pair zI (.pair .bool zP)))), .val 27 zI, .val 28 zI, .cells 2 [.d (.pair (.slice zI) (.pair zI zF))], .cells 900 [.d (.slice zI), .d zI, .d zI, .d zI, .d zI, .d zI, .d (.slice zI), .own 901 52 (.agg (.pair zI (.pair zI (.pair .bool zP)))), .d zI, .d zI, .d zI, .d zI, .d .bool]], [], none⟩
@[reducible] def X48_0 : List (Ex × Tmpl) := [(.exit 0, ⟨96, [], [.own 8 93 70 (.agg (.pair zI (.pair .bool (.pair zI (.slice zI)))))], [], none⟩)]
noncomputable def step48_0 : (List Int) × (List (Int × Bool × Int × List Int)) × (List (Int × Int × Bool × Int × Int)) × Int × Int × ((List Int) × Int × Int × Int × Int × Int) × ((List Int) × Int × Int × Int × Int × Int × (List Int) × (List (Int × Int × Bool × Int × Int)) × Int × Int × Int × Int × Bool) → Option (((List Int) × (List (Int × Bool × Int × List Int)) × (List (Int × Int × Bool × Int × Int)) × Int × Int × ((List Int) × Int × Int × Int × Int × Int) × ((List Int) × Int × Int × Int × Int × Int × (List Int) × (List (Int × Int × Bool × Int × Int)) × Int × Int × Int × Int × Bool)) ⊕ (List (Int × Bool × Int × List Int))) := fun (soft, out, _, t27, t28, r0, x0) =>
 bif decide (t28 < t27) then
  bif inBounds t28 x0.2.2.2.2.2.2.2.1.length then
   bif t28 == 0 then
    some (.inl (soft, out, x0.2.2.2.2.2.2.2.1, t27, wr (t28 + 1), r0, x0))
   else
    bif (x0.2.2.2.2.2.2.2.1.getD t28.toNat (0, 0, false, 0, 0)).1 == 0 then
     some (.inl (soft, out, x0.2.2.2.2.2.2.2.1, t27, wr (t28 + 1), r0, x0))
    else
     bif (x0.2.2.2.2.2.2.2.1.getD t28.toNat (0, 0, false, 0, 0)).1 == 4 then
      some (.inl (soft, out, x0.2.2.2.2.2.2.2.1, t27, wr (t28 + 1), r0, x0))
     else
      bif inBounds (wr (t28 - 1)) x0.2.2.2.2.2.2.2.1.length then
       bif (decide (0 ≤ (wr ((x0.2.2.2.2.2.2.2.1.getD (wr (t28 - 1)).toNat (0, 0, false, 0, 0)).2.1 + (r0.1.length : Int))))) && ((decide ((wr ((x0.2.2.2.2.2.2.2.1.getD (wr (t28 - 1)).toNat (0, 0, false, 0, 0)).2.1 + (r0.1.length : Int))) ≤ (x0.2.2.2.2.2.2.2.1.getD t28.toNat (0, 0, false, 0, 0)).2.1)) && (decide ((x0.2.2.2.2.2.2.2.1.getD t28.toNat (0, 0, false, 0, 0)).2.1 ≤ (soft.length : Int)))) then
        optE (cloneF ((soft.take (x0.2.2.2.2.2.2.2.1.getD t28.toNat (0, 0, false, 0, 0)).2.1.toNat).drop (wr ((x0.2.2.2.2.2.2.2.1.getD (wr (t28 - 1)).toNat (0, 0, false, 0, 0)).2.1 + (r0.1.length : Int))).toNat)) (fun r8 =>
         bif (x0.2.2.2.2.2.2.2.1.getD (wr (t28 - 1)).toNat (0, 0, false, 0, 0)).2.2.1 then
          optE (loopVal step48_2 (soft, out, x0.2.2.2.2.2.2.2.1, t27, t28, (r8.length : Int), 0, r0, x0, ((x0.2.2.2.2.2.2.2.1.getD (wr (t28 - 1)).toNat (0, 0, false, 0, 0)).2.1, (x0.2.2.2.2.2.2.2.1.getD (wr (t28 - 1)).toNat (0, 0, false, 0, 0)).2.2.1, (x0.2.2.2.2.2.2.2.1.getD t28.toNat (0, 0, false, 0, 0)).2.2.2.2, r8))) (fun e9 =>
           bif room 48 (e9.2.1.length + 1) then
            some (.inl (e9.1, e9.2.1 ++ [e9.2.2.2.2.2.2.2], e9.2.2.2.2.2.2.1.2.2.2.2.2.2.2.1, e9.2.2.2.1, wr (e9.2.2.2.2.1 + 1), e9.2.2.2.2.2.1, e9.2.2.2.2.2.2.1))
           else
            none)
           (none)
         else
          bif room 48 (out.length + 1) then
           some (.inl (soft, out ++ [((x0.2.2.2.2.2.2.2.1.getD (wr (t28 - 1)).toNat (0, 0, false, 0, 0)).2.1, (x0.2.2.2.2.2.2.2.1.getD (wr (t28 - 1)).toNat (0, 0, false, 0, 0)).2.2.1, (x0.2.2.2.2.2.2.2.1.getD t28.toNat (0, 0, false, 0, 0)).2.2.2.2, r8)], x0.2.2.2.2.2.2.2.1, t27, wr (t28 + 1), r0, x0))
          else
           none)
         (none)
       else
        none
      else
       none
  else
   none
 else
  some (.inr out)
theorem one48_0 : oneLoop Tryd.prog 48 0 = true := by kernel_rfl
theorem lp48_0 : ItemOk Tryd.prog (.loop 48 0 T48_0 X48_0 (loopVal step48_0)) := item_loopM md4 ext4 (U := 9) (n := 11) noSpecial mixed Gd12K13_ok one48_0 (fun x => by kernel_rfl)
noncomputable def Gd12K14 : List Ev.Item := .loop 48 0 T48_0 X48_0 (loopVal step48_0) :: Gd12K13
theorem Gd12K14_ok : ∀ q ∈ Gd12K14, ItemOk Tryd.prog q := items_cons lp48_0 Gd12K13_ok
noncomputable def s48 : ((List Int) × Int × Int × Int × Int × Int) × (List Int) → Option ((List (Int × Bool × Int × List Int)) × Int) := fun (r0, soft) =>
 optE (s18 r0) (fun r1 =>
  optE (s85 soft) (fun r2 =>
   optE (s80 [r1, r2]) (fun r3 =>
    bif r3 != 0 then
     bif r3 != 0 then
      bif r3 != 0 then
       some (([], r3))
      else
       none
     else
      optE ((fun x => loopVal (stepF S100_0b) (0, x)) (soft, r0)) (fun _ =>
       none)
       (none)
    else
     optE ((fun x => loopVal (stepF S100_0c) (0, x)) (soft, (r0.1, r0.2.1, r0.2.2.1, r0.2.2.2.1, r0.2.2.2.2.1, r0.2.2.2.2.2, soft, [], 0, 0, 0, 0, false), r0)) (fun e5 =>
      optE (loopVal step48_0 (e5.1, [], e5.2.1.2.2.2.2.2.2.2.1, (e5.2.1.2.2.2.2.2.2.2.1.length : Int), 0, e5.2.2, e5.2.1)) (fun e6 =>
       some ((e6, 0)))
       (none))
      (none))
    (none))
   (none))
  (none)
theorem i48 : ItemOk Tryd.prog (.fn 48 [.d (.agg (.pair (.slice zI) (.pair zI zF))), .d (.slice zI)] [.own 70 (.agg (.pair zI (.pair .bool (.pair zI (.slice zI))))), .d zI] s48) := item_fnM md4 ext4 (U := 9) (n := 12) noSpecial mixed Gd12K14_ok (fun x => by kernel_rfl)
noncomputable def Gd12K15 : List Ev.Item := .fn 48 [.d (.agg (.pair (.slice zI) (.pair zI zF))), .d (.slice zI)] [.own 70 (.agg (.pair zI (.pair .bool (.pair zI (.slice zI))))), .d zI] s48 :: Gd12K14
theorem Gd12K15_ok : ∀ q ∈ Gd12K15, ItemOk Tryd.prog q := items_cons i48 Gd12K14_ok
end Go.Proofs.YthckjfbhdjjnkaaDoor
