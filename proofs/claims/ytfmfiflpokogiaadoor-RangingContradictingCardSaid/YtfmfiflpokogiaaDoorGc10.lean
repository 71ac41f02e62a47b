import Derived.Test.YtfmfiflpokogiaaDoorGc9
set_option linter.unusedSimpArgs false
set_option maxRecDepth 100000
namespace Go.Proofs.YtfmfiflpokogiaaDoor
open Go.Ev
noncomputable def s78 : List Int → Option (List Int) := fun s =>
 bif decide (0 < s.length) then
  bif room 8 (0 + s.length) then
   some (s)
  else
   none
 else
  none
theorem i78 : ItemOk Tryd.prog (.fn 78 [.d (.slice zI)] [.own 3 zI] s78) := item_fnM md7 ext7 (U := 9) (n := 4) noSpecial mixed Gc9K3_ok (fun x => by kernel_rfl)
noncomputable def Gc10K1 : List Ev.Item := .fn 78 [.d (.slice zI)] [.own 3 zI] s78 :: Gc9K3
theorem Gc10K1_ok : ∀ q ∈ Gc10K1, ItemOk Tryd.prog q := items_cons i78 Gc9K3_ok
@[reducible] def T113_0 : Tmpl := ⟨36, [(1, .ref 2004 0 0 0), (4, .ref 3901 0 0 0), (5, .ref 2005 0 0 0), (16001, .ref 2004 0 0 0), (16004, .ref 3901 0 0 0), (16005, .ref 2005 0 0 0), (48001, .ref 3001 0 0 0), (48002, .ref 3002 0 0 0), (48003, .ref 3003 0 0 0), (48006, .int .i64 2), (48047, .mref 4900), (80000001, .ref 3001 0 0 0), (80000002, .ref 3002 0 0 0), (80000003, .ref 3003 0 0 0)], [.val 8 zI, .val 16008 zI, .cells 2004 [.ownp 1025 3 zI 1 zI], .cells 3901 [.d zI], .cells 2005 [.clo 113 [.ref 2004, .ref 3900, .ref 2003, .ref 3901, .ref 2005]], .cells 3001 [.d zS], .cells 3002 [.d (.slice zI)], .cells 3003 [.lit .i64 0], .cells 3900 [.lit .i64 2], .cells 2003 [.hd 4900]], [36, 9, 48], some (4900, .ready)⟩
@[reducible] def X113_0 : List (Ex × Tmpl) := [(.ret, ⟨36, [(7, .bool false), (16001, .ref 2004 0 0 0), (16004, .ref 3901 0 0 0), (16005, .ref 2005 0 0 0), (48001, .ref 3001 0 0 0), (48002, .ref 3002 0 0 0), (48003, .ref 3003 0 0 0), (48006, .int .i64 2), (48047, .mref 4900), (80000001, .ref 3001 0 0 0), (80000002, .ref 3002 0 0 0), (80000003, .ref 3003 0 0 0)], [.val 16008 zI, .cells 2004 [.ownp 25 3 zI 2 zP], .cells 3901 [.d zI], .cells 2005 [.clo 113 [.ref 2004, .ref 3900, .ref 2003, .ref 3901, .ref 2005]], .cells 3001 [.d zS], .cells 3002 [.own 900 3 zI], .cells 3003 [.lit .i64 0], .cells 3900 [.lit .i64 2], .cells 2003 [.hd 4900]], [36, 9, 48], some (4900, .done none)⟩), (.exit 0, ⟨36, [(16001, .ref 2004 0 0 0), (16004, .ref 3901 0 0 0), (16005, .ref 2005 0 0 0), (48001, .ref 3001 0 0 0), (48002, .ref 3002 0 0 0), (48003, .ref 3003 0 0 0), (48006, .int .i64 2), (48047, .mref 4900), (80000001, .ref 3001 0 0 0), (80000002, .ref 3002 0 0 0), (80000003, .ref 3003 0 0 0)], [.val 16008 zI, .cells 2004 [.ownp 1025 3 zI 1 zI], .cells 3901 [.d zI], .cells 2005 [.clo 113 [.ref 2004, .ref 3900, .ref 2003, .ref 3901, .ref 2005]], .cells 3001 [.d zS], .cells 3002 [.d (.slice zI)], .cells 3003 [.lit .i64 0], .cells 3900 [.lit .i64 2], .cells 2003 [.hd 4900]], [36, 9, 48], some (4900, .ready)⟩)]
noncomputable def Lp22_0 : LpI := lpOf Tryd.prog 22 0 false
noncomputable def step113_0 : Int × Int × Int × Int × Unit × (List (Int × Int × Int × Int × Int)) × (List Int) × Unit × Unit × Unit → Option (LpI × ((Int × Int × Int × Int × Unit × (List (Int × Int × Int × Int × Int)) × (List Int) × Unit × Unit × Unit) ⊕ ((Int × (Int × Int) × Int × Unit × (List (Int × Int × Int × Int × Int)) × (List Int) × Unit × Unit × Unit) ⊕ (Int × Int × Int × Unit × (List (Int × Int × Int × Int × Int)) × (List Int) × Unit × Unit × Unit)))) := fun (i, i', t2004, t3901, _, l, t3002, _, _, _) =>
 bif decide (i < t3901) then
  bif inBounds t2004 l.length then
   bif inBounds i l.length then
    optE (s77 [(l.getD t2004.toNat (0, 0, 0, 0, 0)), (l.getD i.toNat (0, 0, 0, 0, 0))]) (fun r2 =>
     bif !r2 then
      optE (s78 [t2004, i]) (fun r3 =>
       some (Lp22_0, .inr (.inl (i', (t2004, i), t3901, (), l, r3, (), (), ()))))
       (none)
     else
      some (Lp22_0, .inl (wr (i + 1), i', t2004, t3901, (), l, t3002, (), (), ())))
     (none)
   else
    none
  else
   none
 else
  some (Lp22_0, .inr (.inr (i', t2004, t3901, (), l, t3002, (), (), ())))
theorem one113_0 : oneLoop Tryd.prog 113 0 = true := by kernel_rfl
theorem lp113_0 : ItemOk Tryd.prog (.loopI 113 0 Lp22_0 T113_0 X113_0 (loopVal (strip Lp22_0 step113_0))) := item_loopI md7 ext7 (U := 9) (n := 12) noSpecial mixed Gc10K1_ok one113_0 (fun x => by kernel_rfl)
noncomputable def Gc10K2 : List Ev.Item := .loopI 113 0 Lp22_0 T113_0 X113_0 (loopVal (strip Lp22_0 step113_0)) :: Gc10K1
theorem Gc10K2_ok : ∀ q ∈ Gc10K2, ItemOk Tryd.prog q := items_cons lp113_0 Gc10K1_ok
@[reducible] def T113_0a : Tmpl := ⟨36, [(1, .ref 1004 0 0 0), (4, .ref 2901 0 0 0), (5, .ref 1005 0 0 0), (32001, .ref 2001 0 0 0), (32002, .ref 2002 0 0 0), (32003, .ref 2003 0 0 0), (32006, .int .i64 2), (32047, .mref 3900), (64000001, .ref 2001 0 0 0), (64000002, .ref 2002 0 0 0), (64000003, .ref 2003 0 0 0)], [.val 8 zI, .cells 1004 [.ownp 25 3 zI 0 .unit], .cells 2901 [.d zI], .cells 1005 [.clo 113 [.ref 1004, .ref 2900, .ref 1003, .ref 2901, .ref 1005]], .cells 2001 [.d zS], .cells 2002 [.d (.slice zI)], .cells 2003 [.lit .i64 0], .cells 2900 [.lit .i64 2], .cells 1003 [.hd 3900]], [9, 48], some (3900, .ready)⟩
@[reducible] def X113_0a : List (Ex × Tmpl) := [(.ret, ⟨36, [(7, .bool false), (32001, .ref 2001 0 0 0), (32002, .ref 2002 0 0 0), (32003, .ref 2003 0 0 0), (32006, .int .i64 2), (32047, .mref 3900), (64000001, .ref 2001 0 0 0), (64000002, .ref 2002 0 0 0), (64000003, .ref 2003 0 0 0)], [.cells 2001 [.d zS], .cells 2002 [.own 901 3 zI], .cells 2003 [.lit .i64 0]], [9, 48], some (3900, .done none)⟩), (.exit 0, ⟨36, [(32001, .ref 2001 0 0 0), (32002, .ref 2002 0 0 0), (32003, .ref 2003 0 0 0), (32006, .int .i64 2), (32047, .mref 3900), (64000001, .ref 2001 0 0 0), (64000002, .ref 2002 0 0 0), (64000003, .ref 2003 0 0 0)], [.cells 2001 [.d zS], .cells 2002 [.d (.slice zI)], .cells 2003 [.lit .i64 0]], [9, 48], some (3900, .ready)⟩)]
noncomputable def step113_0a : Int × Unit × Int × Unit × (List (Int × Int × Int × Int × Int)) × (List Int) × Unit × Unit × Unit → Option (LpI × ((Int × Unit × Int × Unit × (List (Int × Int × Int × Int × Int)) × (List Int) × Unit × Unit × Unit) ⊕ (((List (Int × Int × Int × Int × Int)) × (List Int) × Unit) ⊕ ((List (Int × Int × Int × Int × Int)) × (List Int) × Unit)))) := fun (i, _, t2901, _, l, t2002, _, _, _) =>
 bif decide (i < t2901) then
  optE (onlyAt Lp22_0 Lp22_0 <| loopVal (strip Lp22_0 step113_0) (wr (i + 1), i, i, t2901, (), l, t2002, (), (), ())) (fun e2 =>
   sumE e2 (fun e3 =>
    some (Lp22_0, .inr (.inl (e3.2.2.2.2.1, e3.2.2.2.2.2.1, ())))) (fun e4 =>
    some (Lp22_0, .inl (wr (e4.1 + 1), (), e4.2.2.1, (), e4.2.2.2.2.1, e4.2.2.2.2.2.1, (), (), ()))))
   (none)
 else
  some (Lp22_0, .inr (.inr (l, t2002, ())))
theorem one113_0a : oneLoop Tryd.prog 113 0 = true := by kernel_rfl
theorem lp113_0a : ItemOk Tryd.prog (.loopI 113 0 Lp22_0 T113_0a X113_0a (loopVal (strip Lp22_0 step113_0a))) := item_loopI md7 ext7 (U := 9) (n := 13) noSpecial mixed Gc10K2_ok one113_0a (fun x => by kernel_rfl)
noncomputable def Gc10K3 : List Ev.Item := .loopI 113 0 Lp22_0 T113_0a X113_0a (loopVal (strip Lp22_0 step113_0a)) :: Gc10K2
theorem Gc10K3_ok : ∀ q ∈ Gc10K3, ItemOk Tryd.prog q := items_cons lp113_0a Gc10K2_ok
@[reducible] def T113_0b : Tmpl := ⟨36, [(1, .ref 3004 0 0 0), (4, .ref 4901 0 0 0), (5, .ref 3005 0 0 0), (16001, .ref 3004 0 0 0), (16004, .ref 4901 0 0 0), (16005, .ref 3005 0 0 0), (32001, .ref 3004 0 0 0), (32004, .ref 4901 0 0 0), (32005, .ref 3005 0 0 0), (64001, .ref 4001 0 0 0), (64002, .ref 4002 0 0 0), (64003, .ref 4003 0 0 0), (64006, .int .i64 3), (64047, .mref 5900), (96000001, .ref 4001 0 0 0), (96000002, .ref 4002 0 0 0), (96000003, .ref 4003 0 0 0)], [.val 8 zI, .val 16008 zI, .val 32008 zI, .cells 3004 [.ownp 1025 3 zI 2 zP], .cells 4901 [.d zI], .cells 3005 [.clo 113 [.ref 3004, .ref 4900, .ref 3003, .ref 4901, .ref 3005]], .cells 4001 [.d zS], .cells 4002 [.d (.slice zI)], .cells 4003 [.lit .i64 0], .cells 4900 [.lit .i64 3], .cells 3003 [.hd 5900]], [36, 36, 9, 48], some (5900, .ready)⟩
@[reducible] def X113_0b : List (Ex × Tmpl) := [(.ret, ⟨36, [(7, .bool false), (16001, .ref 3004 0 0 0), (16004, .ref 4901 0 0 0), (16005, .ref 3005 0 0 0), (32001, .ref 3004 0 0 0), (32004, .ref 4901 0 0 0), (32005, .ref 3005 0 0 0), (64001, .ref 4001 0 0 0), (64002, .ref 4002 0 0 0), (64003, .ref 4003 0 0 0), (64006, .int .i64 3), (64047, .mref 5900), (96000001, .ref 4001 0 0 0), (96000002, .ref 4002 0 0 0), (96000003, .ref 4003 0 0 0)], [.val 16008 zI, .val 32008 zI, .cells 3004 [.ownp 25 3 zI 3 (.pair zI zP)], .cells 4901 [.d zI], .cells 3005 [.clo 113 [.ref 3004, .ref 4900, .ref 3003, .ref 4901, .ref 3005]], .cells 4001 [.d zS], .cells 4002 [.own 900 3 zI], .cells 4003 [.lit .i64 0], .cells 4900 [.lit .i64 3], .cells 3003 [.hd 5900]], [36, 36, 9, 48], some (5900, .done none)⟩), (.exit 0, ⟨36, [(16001, .ref 3004 0 0 0), (16004, .ref 4901 0 0 0), (16005, .ref 3005 0 0 0), (32001, .ref 3004 0 0 0), (32004, .ref 4901 0 0 0), (32005, .ref 3005 0 0 0), (64001, .ref 4001 0 0 0), (64002, .ref 4002 0 0 0), (64003, .ref 4003 0 0 0), (64006, .int .i64 3), (64047, .mref 5900), (96000001, .ref 4001 0 0 0), (96000002, .ref 4002 0 0 0), (96000003, .ref 4003 0 0 0)], [.val 16008 zI, .val 32008 zI, .cells 3004 [.ownp 1025 3 zI 2 zP], .cells 4901 [.d zI], .cells 3005 [.clo 113 [.ref 3004, .ref 4900, .ref 3003, .ref 4901, .ref 3005]], .cells 4001 [.d zS], .cells 4002 [.d (.slice zI)], .cells 4003 [.lit .i64 0], .cells 4900 [.lit .i64 3], .cells 3003 [.hd 5900]], [36, 36, 9, 48], some (5900, .ready)⟩)]
noncomputable def step113_0b : Int × Int × Int × (Int × Int) × Int × Unit × (List (Int × Int × Int × Int × Int)) × (List Int) × Unit × Unit × Unit → Option (LpI × ((Int × Int × Int × (Int × Int) × Int × Unit × (List (Int × Int × Int × Int × Int)) × (List Int) × Unit × Unit × Unit) ⊕ ((Int × Int × (Int × Int × Int) × Int × Unit × (List (Int × Int × Int × Int × Int)) × (List Int) × Unit × Unit × Unit) ⊕ (Int × Int × (Int × Int) × Int × Unit × (List (Int × Int × Int × Int × Int)) × (List Int) × Unit × Unit × Unit)))) := fun (i, i', i'', t3004, t4901, _, l, t4002, _, _, _) =>
 bif decide (i < t4901) then
  bif inBounds t3004.1 l.length then
   bif inBounds t3004.2 l.length then
    bif inBounds i l.length then
     optE (s77 [(l.getD t3004.1.toNat (0, 0, 0, 0, 0)), (l.getD t3004.2.toNat (0, 0, 0, 0, 0)), (l.getD i.toNat (0, 0, 0, 0, 0))]) (fun r5 =>
      bif !r5 then
       optE (s78 [t3004.1, t3004.2, i]) (fun r6 =>
        some (Lp22_0, .inr (.inl (i', i'', (t3004.1, t3004.2, i), t4901, (), l, r6, (), (), ()))))
        (none)
      else
       some (Lp22_0, .inl (wr (i + 1), i', i'', t3004, t4901, (), l, t4002, (), (), ())))
      (none)
    else
     none
   else
    none
  else
   none
 else
  some (Lp22_0, .inr (.inr (i', i'', t3004, t4901, (), l, t4002, (), (), ())))
theorem one113_0b : oneLoop Tryd.prog 113 0 = true := by kernel_rfl
theorem lp113_0b : ItemOk Tryd.prog (.loopI 113 0 Lp22_0 T113_0b X113_0b (loopVal (strip Lp22_0 step113_0b))) := item_loopI md7 ext7 (U := 9) (n := 11) noSpecial mixed Gc10K3_ok one113_0b (fun x => by kernel_rfl)
noncomputable def Gc10K4 : List Ev.Item := .loopI 113 0 Lp22_0 T113_0b X113_0b (loopVal (strip Lp22_0 step113_0b)) :: Gc10K3
theorem Gc10K4_ok : ∀ q ∈ Gc10K4, ItemOk Tryd.prog q := items_cons lp113_0b Gc10K3_ok
@[reducible] def T113_0c : Tmpl := ⟨36, [(1, .ref 2004 0 0 0), (4, .ref 3901 0 0 0), (5, .ref 2005 0 0 0), (16001, .ref 2004 0 0 0), (16004, .ref 3901 0 0 0), (16005, .ref 2005 0 0 0), (48001, .ref 3001 0 0 0), (48002, .ref 3002 0 0 0), (48003, .ref 3003 0 0 0), (48006, .int .i64 3), (48047, .mref 4900), (80000001, .ref 3001 0 0 0), (80000002, .ref 3002 0 0 0), (80000003, .ref 3003 0 0 0)], [.val 8 zI, .val 16008 zI, .cells 2004 [.ownp 1025 3 zI 1 zI], .cells 3901 [.d zI], .cells 2005 [.clo 113 [.ref 2004, .ref 3900, .ref 2003, .ref 3901, .ref 2005]], .cells 3001 [.d zS], .cells 3002 [.d (.slice zI)], .cells 3003 [.lit .i64 0], .cells 3900 [.lit .i64 3], .cells 2003 [.hd 4900]], [36, 9, 48], some (4900, .ready)⟩
@[reducible] def X113_0c : List (Ex × Tmpl) := [(.ret, ⟨36, [(7, .bool false), (16001, .ref 2004 0 0 0), (16004, .ref 3901 0 0 0), (16005, .ref 2005 0 0 0), (48001, .ref 3001 0 0 0), (48002, .ref 3002 0 0 0), (48003, .ref 3003 0 0 0), (48006, .int .i64 3), (48047, .mref 4900), (80000001, .ref 3001 0 0 0), (80000002, .ref 3002 0 0 0), (80000003, .ref 3003 0 0 0)], [.val 16008 zI, .cells 2004 [.ownp 900 3 zI 3 (.pair zI zP)], .cells 3901 [.d zI], .cells 2005 [.clo 113 [.ref 2004, .ref 3900, .ref 2003, .ref 3901, .ref 2005]], .cells 3001 [.d zS], .cells 3002 [.own 901 3 zI], .cells 3003 [.lit .i64 0], .cells 3900 [.lit .i64 3], .cells 2003 [.hd 4900]], [36, 9, 48], some (4900, .done none)⟩), (.exit 0, ⟨36, [(16001, .ref 2004 0 0 0), (16004, .ref 3901 0 0 0), (16005, .ref 2005 0 0 0), (48001, .ref 3001 0 0 0), (48002, .ref 3002 0 0 0), (48003, .ref 3003 0 0 0), (48006, .int .i64 3), (48047, .mref 4900), (80000001, .ref 3001 0 0 0), (80000002, .ref 3002 0 0 0), (80000003, .ref 3003 0 0 0)], [.val 16008 zI, .cells 2004 [.ownp 1025 3 zI 1 zI], .cells 3901 [.d zI], .cells 2005 [.clo 113 [.ref 2004, .ref 3900, .ref 2003, .ref 3901, .ref 2005]], .cells 3001 [.d zS], .cells 3002 [.d (.slice zI)], .cells 3003 [.lit .i64 0], .cells 3900 [.lit .i64 3], .cells 2003 [.hd 4900]], [36, 9, 48], some (4900, .ready)⟩)]
noncomputable def step113_0c : Int × Int × Int × Int × Unit × (List (Int × Int × Int × Int × Int)) × (List Int) × Unit × Unit × Unit → Option (LpI × ((Int × Int × Int × Int × Unit × (List (Int × Int × Int × Int × Int)) × (List Int) × Unit × Unit × Unit) ⊕ ((Int × (Int × Int × Int) × Int × Unit × (List (Int × Int × Int × Int × Int)) × (List Int) × Unit × Unit × Unit) ⊕ (Int × Int × Int × Unit × (List (Int × Int × Int × Int × Int)) × (List Int) × Unit × Unit × Unit)))) := fun (i, i', t2004, t3901, _, l, t3002, _, _, _) =>
 bif decide (i < t3901) then
  optE (onlyAt Lp22_0 Lp22_0 <| loopVal (strip Lp22_0 step113_0b) (wr (i + 1), i, i', (t2004, i), t3901, (), l, t3002, (), (), ())) (fun e5 =>
   sumE e5 (fun e6 =>
    some (Lp22_0, .inr (.inl (e6.2.1, e6.2.2.1, e6.2.2.2.1, (), e6.2.2.2.2.2.1, e6.2.2.2.2.2.2.1, (), (), ())))) (fun e7 =>
    some (Lp22_0, .inl (wr (e7.1 + 1), e7.2.1, e7.2.2.1.1, e7.2.2.2.1, (), e7.2.2.2.2.2.1, e7.2.2.2.2.2.2.1, (), (), ()))))
   (none)
 else
  some (Lp22_0, .inr (.inr (i', t2004, t3901, (), l, t3002, (), (), ())))
theorem one113_0c : oneLoop Tryd.prog 113 0 = true := by kernel_rfl
theorem lp113_0c : ItemOk Tryd.prog (.loopI 113 0 Lp22_0 T113_0c X113_0c (loopVal (strip Lp22_0 step113_0c))) := item_loopI md7 ext7 (U := 9) (n := 12) noSpecial mixed Gc10K4_ok one113_0c (fun x => by kernel_rfl)
noncomputable def Gc10K5 : List Ev.Item := .loopI 113 0 Lp22_0 T113_0c X113_0c (loopVal (strip Lp22_0 step113_0c)) :: Gc10K4
theorem Gc10K5_ok : ∀ q ∈ Gc10K5, ItemOk Tryd.prog q := items_cons lp113_0c Gc10K4_ok
@[reducible] def T113_0d : Tmpl := ⟨36, [(1, .ref 1004 0 0 0), (4, .ref 2901 0 0 0), (5, .ref 1005 0 0 0), (32001, .ref 2001 0 0 0), (32002, .ref 2002 0 0 0), (32003, .ref 2003 0 0 0), (32006, .int .i64 3), (32047, .mref 3900), (64000001, .ref 2001 0 0 0), (64000002, .ref 2002 0 0 0), (64000003, .ref 2003 0 0 0)], [.val 8 zI, .cells 1004 [.ownp 25 3 zI 0 .unit], .cells 2901 [.d zI], .cells 1005 [.clo 113 [.ref 1004, .ref 2900, .ref 1003, .ref 2901, .ref 1005]], .cells 2001 [.d zS], .cells 2002 [.d (.slice zI)], .cells 2003 [.lit .i64 0], .cells 2900 [.lit .i64 3], .cells 1003 [.hd 3900]], [9, 48], some (3900, .ready)⟩
@[reducible] def X113_0d : List (Ex × Tmpl) := [(.ret, ⟨36, [(7, .bool false), (32001, .ref 2001 0 0 0), (32002, .ref 2002 0 0 0), (32003, .ref 2003 0 0 0), (32006, .int .i64 3), (32047, .mref 3900), (64000001, .ref 2001 0 0 0), (64000002, .ref 2002 0 0 0), (64000003, .ref 2003 0 0 0)], [.cells 2001 [.d zS], .cells 2002 [.own 900 3 zI], .cells 2003 [.lit .i64 0]], [9, 48], some (3900, .done none)⟩), (.exit 0, ⟨36, [(32001, .ref 2001 0 0 0), (32002, .ref 2002 0 0 0), (32003, .ref 2003 0 0 0), (32006, .int .i64 3), (32047, .mref 3900), (64000001, .ref 2001 0 0 0), (64000002, .ref 2002 0 0 0), (64000003, .ref 2003 0 0 0)], [.cells 2001 [.d zS], .cells 2002 [.d (.slice zI)], .cells 2003 [.lit .i64 0]], [9, 48], some (3900, .ready)⟩)]
noncomputable def step113_0d : Int × Unit × Int × Unit × (List (Int × Int × Int × Int × Int)) × (List Int) × Unit × Unit × Unit → Option (LpI × ((Int × Unit × Int × Unit × (List (Int × Int × Int × Int × Int)) × (List Int) × Unit × Unit × Unit) ⊕ (((List (Int × Int × Int × Int × Int)) × (List Int) × Unit) ⊕ ((List (Int × Int × Int × Int × Int)) × (List Int) × Unit)))) := fun (i, _, t2901, _, l, t2002, _, _, _) =>
 bif decide (i < t2901) then
  optE (onlyAt Lp22_0 Lp22_0 <| loopVal (strip Lp22_0 step113_0c) (wr (i + 1), i, i, t2901, (), l, t2002, (), (), ())) (fun e5 =>
   sumE e5 (fun e6 =>
    some (Lp22_0, .inr (.inl (e6.2.2.2.2.1, e6.2.2.2.2.2.1, ())))) (fun e7 =>
    some (Lp22_0, .inl (wr (e7.1 + 1), (), e7.2.2.1, (), e7.2.2.2.2.1, e7.2.2.2.2.2.1, (), (), ()))))
   (none)
 else
  some (Lp22_0, .inr (.inr (l, t2002, ())))
theorem one113_0d : oneLoop Tryd.prog 113 0 = true := by kernel_rfl
theorem lp113_0d : ItemOk Tryd.prog (.loopI 113 0 Lp22_0 T113_0d X113_0d (loopVal (strip Lp22_0 step113_0d))) := item_loopI md7 ext7 (U := 9) (n := 13) noSpecial mixed Gc10K5_ok one113_0d (fun x => by kernel_rfl)
noncomputable def Gc10K6 : List Ev.Item := .loopI 113 0 Lp22_0 T113_0d X113_0d (loopVal (strip Lp22_0 step113_0d)) :: Gc10K5
theorem Gc10K6_ok : ∀ q ∈ Gc10K6, ItemOk Tryd.prog q := items_cons lp113_0d Gc10K5_ok
noncomputable def s22 : List (Int × Int × Int × Int × Int) → Option ((List Int) × Int) := fun l =>
 optE (s18 l) (fun r1 =>
  bif r1.2 != 0 then
   some (([], r1.2))
  else
   optE (onlyAt Lp22_0 Lp22_0 <| loopVal (strip Lp22_0 step113_0a) (0, (), (l.length : Int), (), l, [], (), (), ())) (fun e2 =>
    sumE e2 (fun e3 =>
     some ((e3.2.1, 0))) (fun e4 =>
     optE (onlyAt Lp22_0 Lp22_0 <| loopVal (strip Lp22_0 step113_0d) (0, (), (e4.1.length : Int), (), e4.1, e4.2.1, (), (), ())) (fun e5 =>
      sumE e5 (fun e6 =>
       some ((e6.2.1, 0))) (fun _ =>
       some (([], 12))))
      (none)))
    (none))
  (none)
theorem i22 : ItemOk Tryd.prog (.fn 22 [.d zS] [.own 3 zI, .d zI] s22) := item_fnM md7 ext7 (U := 9) (n := 16) noSpecial mixed Gc10K6_ok (fun x => by kernel_rfl)
noncomputable def Gc10K7 : List Ev.Item := .fn 22 [.d zS] [.own 3 zI, .d zI] s22 :: Gc10K6
theorem Gc10K7_ok : ∀ q ∈ Gc10K7, ItemOk Tryd.prog q := items_cons i22 Gc10K6_ok
noncomputable def s6 : (List (Int × Int × Int × Int × Int)) × ((Int × Int) × Int × Int) × Int → Option (Bool) := fun (l, x0, time) =>
 bif !true then
  some (false)
 else
  bif (l.length : Int) == 0 then
   some (true)
  else
   bif decide ((l.length : Int) > 6) then
    some (true)
   else
    optE (s23 l) (fun r1 =>
     bif r1 != 0 then
      some (true)
     else
      optE (s31 x0) (fun r2 =>
       bif r2 != 0 then
        some (true)
       else
        optE (s29 time) (fun r3 =>
         bif r3 != 0 then
          some (true)
         else
          optE (s32 (l, x0)) (fun r4 =>
           bif !r4 then
            some (true)
           else
            optE (s19 l) (fun r5 =>
             optE (s24 (r5, time)) (fun r6 =>
              optE (s19 l) (fun r7 =>
               optE (s27 r7) (fun r8 =>
                (fun (k1 : Unit → Option (Bool)) =>
                  bif r6.2 != 0 then
                   bif r6.2 != 22 then
                    some (false)
                   else
                    k1 ()
                  else
                   k1 ()) (fun _ =>
                  (fun (k2 : Unit → Option (Bool)) =>
                    bif r8.2 != 0 then
                     bif r8.2 != 22 then
                      some (false)
                     else
                      k2 ()
                    else
                     k2 ()) (fun _ =>
                    optE (s19 l) (fun r9 =>
                     optE (s22 r9) (fun r10 =>
                      bif r10.2 != 12 then
                       some (false)
                      else
                       bif decide (1 ≤ (l.length : Int)) then
                        optE (s19 (l.drop 1)) (fun r11 =>
                         optE (s24 (r11, time)) (fun r12 =>
                          (fun (k3 : Unit → Option (Bool)) =>
                            bif r12.2 == 0 then
                             bif r6.2 != 0 then
                              some (false)
                             else
                              k3 ()
                            else
                             k3 ()) (fun _ =>
                            (fun (k4 : Unit → Option (Bool)) =>
                              bif r12.2 != 0 then
                               bif r12.2 != 22 then
                                some (false)
                               else
                                k4 ()
                              else
                               k4 ()) (fun _ =>
                              (fun (k5 : Unit → Option (Bool)) =>
                                bif r6.2 == 0 then
                                 optE (s33 r6.1.1) (fun r13 =>
                                  bif !r13 then
                                   some (false)
                                  else
                                   optE (s33 r6.1.2) (fun r14 =>
                                    bif !r14 then
                                     some (false)
                                    else
                                     optE (s34 (r6.1.1.1, r6.1.1.2, wr ((wr (x0.1.1 * x0.2.2)) + (wr ((wr (time * x0.2.1)) * x0.1.2))), wr (x0.1.2 * x0.2.2))) (fun r15 =>
                                      bif decide (r15 > 0) then
                                       some (false)
                                      else
                                       optE (s34 (wr ((wr (x0.1.1 * x0.2.2)) + (wr ((wr (time * x0.2.1)) * x0.1.2))), wr (x0.1.2 * x0.2.2), r6.1.2.1, r6.1.2.2)) (fun r16 =>
                                        bif decide (r16 > 0) then
                                         some (false)
                                        else
                                         bif r12.2 == 0 then
                                          optE (s33 r12.1.1) (fun r17 =>
                                           bif !r17 then
                                            some (false)
                                           else
                                            optE (s33 r12.1.2) (fun r18 =>
                                             bif !r18 then
                                              some (false)
                                             else
                                              optE (s34 (r12.1.1.1, r12.1.1.2, r6.1.1.1, r6.1.1.2)) (fun r19 =>
                                               bif decide (r19 > 0) then
                                                some (false)
                                               else
                                                optE (s34 (r6.1.2.1, r6.1.2.2, r12.1.2.1, r12.1.2.2)) (fun r20 =>
                                                 bif decide (r20 > 0) then
                                                  some (false)
                                                 else
                                                  k5 ())
                                                 (none))
                                               (none))
                                             (none))
                                           (none)
                                         else
                                          k5 ())
                                        (none))
                                      (none))
                                    (none))
                                  (none)
                                else
                                 k5 ()) (fun _ =>
                                bif r8.2 != 0 then
                                 some (true)
                                else
                                 optE (s33 r8.1.1) (fun r21 =>
                                  bif r21 then
                                   optE (s33 r8.1.2) (fun r22 =>
                                    bif r22 then
                                     optE (s34 (r8.1.1.1, r8.1.1.2, x0.2.1, x0.2.2)) (fun r23 =>
                                      bif decide (r23 ≤ 0) then
                                       optE (s34 (x0.2.1, x0.2.2, r8.1.2.1, r8.1.2.2)) (fun r24 =>
                                        some (decide (r24 ≤ 0)))
                                        (none)
                                      else
                                       some (false))
                                      (none)
                                    else
                                     some (false))
                                    (none)
                                  else
                                   some (false))
                                  (none)))))
                          (none))
                         (none)
                       else
                        none)
                      (none))
                     (none))))
                (none))
               (none))
              (none))
             (none))
           (none))
         (none))
       (none))
     (none)
theorem i6 : ItemOk Tryd.prog (.fn 6 [.d zS, .d (.agg (.pair zP zP)), .d zI] [.d .bool] s6) := item_fnM md7 ext7 (U := 9) (n := 4) noSpecial mixed Gc10K7_ok (fun x => by kernel_rfl)
noncomputable def Gc10K8 : List Ev.Item := .fn 6 [.d zS, .d (.agg (.pair zP zP)), .d zI] [.d .bool] s6 :: Gc10K7
theorem Gc10K8_ok : ∀ q ∈ Gc10K8, ItemOk Tryd.prog q := items_cons i6 Gc10K7_ok
end Go.Proofs.YtfmfiflpokogiaaDoor
