import Derived.Test.YtfmfiflpokogiaaDoorGc10
set_option linter.unusedSimpArgs false
set_option maxRecDepth 100000
namespace Go.Proofs.YtfmfiflpokogiaaDoor
open Go.Ev
noncomputable def s83 : List (Int × Int × Int × Int × Int) → Option (Bool) := fun l =>
 optE (s109 l) (fun r1 =>
  optE (s110 r1) (fun r2 =>
   some (r2))
   (none))
  (none)
theorem i83 : ItemOk Tryd.prog (.fn 83 [.d zS] [.d .bool] s83) := item_fnM md7 ext7 (U := 9) (n := 4) noSpecial mixed Gc10K8_ok (fun x => by kernel_rfl)
noncomputable def Gc11K1 : List Ev.Item := .fn 83 [.d zS] [.d .bool] s83 :: Gc10K8
theorem Gc11K1_ok : ∀ q ∈ Gc11K1, ItemOk Tryd.prog q := items_cons i83 Gc10K8_ok
@[reducible] def T82_2 : Tmpl := ⟨45, [(2, .int .i64 1)], [.val 1 zI, .own 7 43 31 (.slice zI), .val 8 zI, .own 9 27 31 (.slice zI), .val 10 zI], [], none⟩
@[reducible] def X82_2 : List (Ex × Tmpl) := [(.exit 2, ⟨45, [(2, .int .i64 1)], [.val 1 zI, .own 7 43 31 (.slice zI), .val 8 zI], [], none⟩)]
noncomputable def step82_2 : Int × (List (List Int)) × Int × (List (List Int)) × Int → Option ((Int × (List (List Int)) × Int × (List (List Int)) × Int) ⊕ (Int × (List (List Int)) × Int)) := fun (count, out, i, rest, k) =>
 bif decide (k < (rest.length : Int)) then
  bif inBounds k rest.length then
   bif room 8 (1 + (rest.getD k.toNat []).length) then
    bif room 24 (out.length + 1) then
     some (.inl (count, out ++ [[i] ++ (rest.getD k.toNat [])], i, rest, wr (k + 1)))
    else
     none
   else
    none
  else
   none
 else
  some (.inr (count, out, i))
theorem one82_2 : oneLoop Tryd.prog 82 2 = true := by kernel_rfl
theorem lp82_2 : ItemOk Tryd.prog (.loop 82 2 T82_2 X82_2 (loopVal step82_2)) := item_loopM md7 ext7 (U := 4) (n := 18) noSpecial mixed Gc11K1_ok one82_2 (fun x => by kernel_rfl)
noncomputable def Gc11K2 : List Ev.Item := .loop 82 2 T82_2 X82_2 (loopVal step82_2) :: Gc11K1
theorem Gc11K2_ok : ∀ q ∈ Gc11K2, ItemOk Tryd.prog q := items_cons lp82_2 Gc11K1_ok
@[reducible] def T82_0 : Tmpl := ⟨45, [(2, .int .i64 1)], [.val 1 zI, .own 7 43 31 (.slice zI), .val 8 zI], [], none⟩
@[reducible] def X82_0 : List (Ex × Tmpl) := [(.exit 0, ⟨45, [], [.own 7 43 31 (.slice zI)], [], none⟩)]
noncomputable def step82_0 : Int × (List (List Int)) × Int → Option ((Int × (List (List Int)) × Int) ⊕ (List (List Int))) := fun (count, out, i) =>
 bif decide ((wr (i + 1)) ≤ count) then
  optE (loopVal step82_2 (count, out, i, [[]], 0)) (fun e1 =>
   some (.inl (e1.1, e1.2.1, wr (e1.2.2 + 1))))
   (none)
 else
  some (.inr out)
theorem one82_0 : oneLoop Tryd.prog 82 0 = true := by kernel_rfl
theorem lp82_0 : ItemOk Tryd.prog (.loop 82 0 T82_0 X82_0 (loopVal step82_0)) := item_loopM md7 ext7 (U := 4) (n := 18) noSpecial mixed Gc11K2_ok one82_0 (fun x => by kernel_rfl)
noncomputable def Gc11K3 : List Ev.Item := .loop 82 0 T82_0 X82_0 (loopVal step82_0) :: Gc11K2
theorem Gc11K3_ok : ∀ q ∈ Gc11K3, ItemOk Tryd.prog q := items_cons lp82_0 Gc11K2_ok
@[reducible] def T25_4 : Tmpl := ⟨54, [(4, .int .i64 1)], [.val 0 zS, .own 5 19 31 (.slice zI), .val 6 zI, .own 7 47 46 zA, .val 8 zI], [], none⟩
@[reducible] def X25_4 : List (Ex × Tmpl) := [(.exit 4, ⟨54, [(4, .int .i64 1)], [.val 0 zS, .own 5 19 31 (.slice zI), .val 6 zI, .own 7 47 46 zA], [], none⟩)]
noncomputable def step25_4 : (List (Int × Int × Int × Int × Int)) × (List (List Int)) × Int × (List (Int × Int × Int × Int × Int)) × Int → Option (((List (Int × Int × Int × Int × Int)) × (List (List Int)) × Int × (List (Int × Int × Int × Int × Int)) × Int) ⊕ ((List (Int × Int × Int × Int × Int)) × (List (List Int)) × Int × (List (Int × Int × Int × Int × Int)))) := fun (l, all0, i, part, k) =>
 bif inBounds i all0.length then
  bif decide (k < ((all0.getD i.toNat []).length : Int)) then
   bif inBounds i all0.length then
    bif inBounds k (all0.getD i.toNat []).length then
     bif inBounds ((all0.getD i.toNat []).getD k.toNat 0) l.length then
      bif room 40 (part.length + 1) then
       some (.inl (l, all0, i, part ++ [(l.getD ((all0.getD i.toNat []).getD k.toNat 0).toNat (0, 0, 0, 0, 0))], wr (k + 1)))
      else
       none
     else
      none
    else
     none
   else
    none
  else
   some (.inr (l, all0, i, part))
 else
  none
theorem one25_4 : oneLoop Tryd.prog 25 4 = true := by kernel_rfl
theorem lp25_4 : ItemOk Tryd.prog (.loop 25 4 T25_4 X25_4 (loopVal step25_4)) := item_loopM md7 ext7 (U := 4) (n := 19) noSpecial mixed Gc11K3_ok one25_4 (fun x => by kernel_rfl)
noncomputable def Gc11K4 : List Ev.Item := .loop 25 4 T25_4 X25_4 (loopVal step25_4) :: Gc11K3
theorem Gc11K4_ok : ∀ q ∈ Gc11K4, ItemOk Tryd.prog q := items_cons lp25_4 Gc11K3_ok
@[reducible] def T25_2 : Tmpl := ⟨54, [(4, .int .i64 1)], [.val 0 zS, .own 5 19 31 (.slice zI), .val 6 zI], [], none⟩
@[reducible] def X25_2 : List (Ex × Tmpl) := [(.ret, ⟨54, [], [.val 2 (.slice zI), .val 3 .bool], [], none⟩), (.exit 2, ⟨54, [(4, .int .i64 1)], [.val 0 zS], [], none⟩)]
noncomputable def step25_2 : (List (Int × Int × Int × Int × Int)) × (List (List Int)) × Int → Option (((List (Int × Int × Int × Int × Int)) × (List (List Int)) × Int) ⊕ (((List Int) × Bool) ⊕ (List (Int × Int × Int × Int × Int)))) := fun (l, all0, i) =>
 bif decide (i < (all0.length : Int)) then
  optE (loopVal step25_4 (l, all0, i, [], 0)) (fun e2 =>
   optE (s83 e2.2.2.2) (fun r3 =>
    bif r3 then
     bif inBounds e2.2.2.1 e2.2.1.length then
      some (.inr (.inl (e2.2.1.getD e2.2.2.1.toNat [], true)))
     else
      none
    else
     some (.inl (e2.1, e2.2.1, wr (e2.2.2.1 + 1))))
    (none))
   (none)
 else
  some (.inr (.inr l))
theorem one25_2 : oneLoop Tryd.prog 25 2 = true := by kernel_rfl
theorem lp25_2 : ItemOk Tryd.prog (.loop 25 2 T25_2 X25_2 (loopVal step25_2)) := item_loopM md7 ext7 (U := 4) (n := 19) noSpecial mixed Gc11K4_ok one25_2 (fun x => by kernel_rfl)
noncomputable def Gc11K5 : List Ev.Item := .loop 25 2 T25_2 X25_2 (loopVal step25_2) :: Gc11K4
theorem Gc11K5_ok : ∀ q ∈ Gc11K5, ItemOk Tryd.prog q := items_cons lp25_2 Gc11K4_ok
@[reducible] def T82_2a : Tmpl := ⟨45, [(2, .int .i64 2)], [.val 1 zI, .own 7 43 31 (.slice zI), .val 8 zI, .own 9 27 31 (.slice zI), .val 10 zI], [], none⟩
@[reducible] def X82_2a : List (Ex × Tmpl) := [(.exit 2, ⟨45, [(2, .int .i64 2)], [.val 1 zI, .own 7 43 31 (.slice zI), .val 8 zI], [], none⟩)]
noncomputable def step82_2a : Int × (List (List Int)) × Int × (List (List Int)) × Int → Option ((Int × (List (List Int)) × Int × (List (List Int)) × Int) ⊕ (Int × (List (List Int)) × Int)) := fun (count, out, i, rest, k) =>
 bif decide (k < (rest.length : Int)) then
  bif inBounds k rest.length then
   bif room 8 (1 + (rest.getD k.toNat []).length) then
    bif room 24 (out.length + 1) then
     some (.inl (count, out ++ [[i] ++ (rest.getD k.toNat [])], i, rest, wr (k + 1)))
    else
     none
   else
    none
  else
   none
 else
  some (.inr (count, out, i))
theorem one82_2a : oneLoop Tryd.prog 82 2 = true := by kernel_rfl
theorem lp82_2a : ItemOk Tryd.prog (.loop 82 2 T82_2a X82_2a (loopVal step82_2a)) := item_loopM md7 ext7 (U := 4) (n := 18) noSpecial mixed Gc11K5_ok one82_2a (fun x => by kernel_rfl)
noncomputable def Gc11K6 : List Ev.Item := .loop 82 2 T82_2a X82_2a (loopVal step82_2a) :: Gc11K5
theorem Gc11K6_ok : ∀ q ∈ Gc11K6, ItemOk Tryd.prog q := items_cons lp82_2a Gc11K5_ok
@[reducible] def T82_0a : Tmpl := ⟨45, [(2, .int .i64 2)], [.val 1 zI, .own 7 43 31 (.slice zI), .val 8 zI], [], none⟩
@[reducible] def X82_0a : List (Ex × Tmpl) := [(.exit 0, ⟨45, [], [.own 7 43 31 (.slice zI)], [], none⟩)]
noncomputable def step82_0a : Int × (List (List Int)) × Int → Option ((Int × (List (List Int)) × Int) ⊕ (List (List Int))) := fun (count, out, i) =>
 bif decide ((wr (i + 2)) ≤ count) then
  optE (loopVal step82_0 (count, [], wr (i + 1))) (fun e5 =>
   optE (loopVal step82_2a (count, out, i, e5, 0)) (fun e6 =>
    some (.inl (e6.1, e6.2.1, wr (e6.2.2 + 1))))
    (none))
   (none)
 else
  some (.inr out)
theorem one82_0a : oneLoop Tryd.prog 82 0 = true := by kernel_rfl
theorem lp82_0a : ItemOk Tryd.prog (.loop 82 0 T82_0a X82_0a (loopVal step82_0a)) := item_loopM md7 ext7 (U := 4) (n := 18) noSpecial mixed Gc11K6_ok one82_0a (fun x => by kernel_rfl)
noncomputable def Gc11K7 : List Ev.Item := .loop 82 0 T82_0a X82_0a (loopVal step82_0a) :: Gc11K6
theorem Gc11K7_ok : ∀ q ∈ Gc11K7, ItemOk Tryd.prog q := items_cons lp82_0a Gc11K6_ok
@[reducible] def T25_4a : Tmpl := ⟨54, [(4, .int .i64 2)], [.val 0 zS, .own 5 19 31 (.slice zI), .val 6 zI, .own 7 47 46 zA, .val 8 zI], [], none⟩
@[reducible] def X25_4a : List (Ex × Tmpl) := [(.exit 4, ⟨54, [(4, .int .i64 2)], [.val 0 zS, .own 5 19 31 (.slice zI), .val 6 zI, .own 7 47 46 zA], [], none⟩)]
noncomputable def step25_4a : (List (Int × Int × Int × Int × Int)) × (List (List Int)) × Int × (List (Int × Int × Int × Int × Int)) × Int → Option (((List (Int × Int × Int × Int × Int)) × (List (List Int)) × Int × (List (Int × Int × Int × Int × Int)) × Int) ⊕ ((List (Int × Int × Int × Int × Int)) × (List (List Int)) × Int × (List (Int × Int × Int × Int × Int)))) := fun (l, all0, i, part, k) =>
 bif inBounds i all0.length then
  bif decide (k < ((all0.getD i.toNat []).length : Int)) then
   bif inBounds i all0.length then
    bif inBounds k (all0.getD i.toNat []).length then
     bif inBounds ((all0.getD i.toNat []).getD k.toNat 0) l.length then
      bif room 40 (part.length + 1) then
       some (.inl (l, all0, i, part ++ [(l.getD ((all0.getD i.toNat []).getD k.toNat 0).toNat (0, 0, 0, 0, 0))], wr (k + 1)))
      else
       none
     else
      none
    else
     none
   else
    none
  else
   some (.inr (l, all0, i, part))
 else
  none
theorem one25_4a : oneLoop Tryd.prog 25 4 = true := by kernel_rfl
theorem lp25_4a : ItemOk Tryd.prog (.loop 25 4 T25_4a X25_4a (loopVal step25_4a)) := item_loopM md7 ext7 (U := 4) (n := 19) noSpecial mixed Gc11K7_ok one25_4a (fun x => by kernel_rfl)
noncomputable def Gc11K8 : List Ev.Item := .loop 25 4 T25_4a X25_4a (loopVal step25_4a) :: Gc11K7
theorem Gc11K8_ok : ∀ q ∈ Gc11K8, ItemOk Tryd.prog q := items_cons lp25_4a Gc11K7_ok
@[reducible] def T25_2a : Tmpl := ⟨54, [(4, .int .i64 2)], [.val 0 zS, .own 5 19 31 (.slice zI), .val 6 zI], [], none⟩
@[reducible] def X25_2a : List (Ex × Tmpl) := [(.ret, ⟨54, [], [.val 2 (.slice zI), .val 3 .bool], [], none⟩), (.exit 2, ⟨54, [(4, .int .i64 2)], [.val 0 zS], [], none⟩)]
noncomputable def step25_2a : (List (Int × Int × Int × Int × Int)) × (List (List Int)) × Int → Option (((List (Int × Int × Int × Int × Int)) × (List (List Int)) × Int) ⊕ (((List Int) × Bool) ⊕ (List (Int × Int × Int × Int × Int)))) := fun (l, all0, i) =>
 bif decide (i < (all0.length : Int)) then
  optE (loopVal step25_4a (l, all0, i, [], 0)) (fun e6 =>
   optE (s83 e6.2.2.2) (fun r7 =>
    bif r7 then
     bif inBounds e6.2.2.1 e6.2.1.length then
      some (.inr (.inl (e6.2.1.getD e6.2.2.1.toNat [], true)))
     else
      none
    else
     some (.inl (e6.1, e6.2.1, wr (e6.2.2.1 + 1))))
    (none))
   (none)
 else
  some (.inr (.inr l))
theorem one25_2a : oneLoop Tryd.prog 25 2 = true := by kernel_rfl
theorem lp25_2a : ItemOk Tryd.prog (.loop 25 2 T25_2a X25_2a (loopVal step25_2a)) := item_loopM md7 ext7 (U := 4) (n := 19) noSpecial mixed Gc11K8_ok one25_2a (fun x => by kernel_rfl)
noncomputable def Gc11K9 : List Ev.Item := .loop 25 2 T25_2a X25_2a (loopVal step25_2a) :: Gc11K8
theorem Gc11K9_ok : ∀ q ∈ Gc11K9, ItemOk Tryd.prog q := items_cons lp25_2a Gc11K8_ok
@[reducible] def T82_2b : Tmpl := ⟨45, [(2, .int .i64 3)], [.val 1 zI, .own 7 43 31 (.slice zI), .val 8 zI, .own 9 27 31 (.slice zI), .val 10 zI], [], none⟩
@[reducible] def X82_2b : List (Ex × Tmpl) := [(.exit 2, ⟨45, [(2, .int .i64 3)], [.val 1 zI, .own 7 43 31 (.slice zI), .val 8 zI], [], none⟩)]
noncomputable def step82_2b : Int × (List (List Int)) × Int × (List (List Int)) × Int → Option ((Int × (List (List Int)) × Int × (List (List Int)) × Int) ⊕ (Int × (List (List Int)) × Int)) := fun (count, out, i, rest, k) =>
 bif decide (k < (rest.length : Int)) then
  bif inBounds k rest.length then
   bif room 8 (1 + (rest.getD k.toNat []).length) then
    bif room 24 (out.length + 1) then
     some (.inl (count, out ++ [[i] ++ (rest.getD k.toNat [])], i, rest, wr (k + 1)))
    else
     none
   else
    none
  else
   none
 else
  some (.inr (count, out, i))
theorem one82_2b : oneLoop Tryd.prog 82 2 = true := by kernel_rfl
theorem lp82_2b : ItemOk Tryd.prog (.loop 82 2 T82_2b X82_2b (loopVal step82_2b)) := item_loopM md7 ext7 (U := 4) (n := 18) noSpecial mixed Gc11K9_ok one82_2b (fun x => by kernel_rfl)
noncomputable def Gc11K10 : List Ev.Item := .loop 82 2 T82_2b X82_2b (loopVal step82_2b) :: Gc11K9
theorem Gc11K10_ok : ∀ q ∈ Gc11K10, ItemOk Tryd.prog q := items_cons lp82_2b Gc11K9_ok
@[reducible] def T82_0b : Tmpl := ⟨45, [(2, .int .i64 3)], [.val 1 zI, .own 7 43 31 (.slice zI), .val 8 zI], [], none⟩
@[reducible] def X82_0b : List (Ex × Tmpl) := [(.exit 0, ⟨45, [], [.own 7 43 31 (.slice zI)], [], none⟩)]
noncomputable def step82_0b : Int × (List (List Int)) × Int → Option ((Int × (List (List Int)) × Int) ⊕ (List (List Int))) := fun (count, out, i) =>
 bif decide ((wr (i + 3)) ≤ count) then
  optE (loopVal step82_0a (count, [], wr (i + 1))) (fun e9 =>
   optE (loopVal step82_2b (count, out, i, e9, 0)) (fun e10 =>
    some (.inl (e10.1, e10.2.1, wr (e10.2.2 + 1))))
    (none))
   (none)
 else
  some (.inr out)
theorem one82_0b : oneLoop Tryd.prog 82 0 = true := by kernel_rfl
theorem lp82_0b : ItemOk Tryd.prog (.loop 82 0 T82_0b X82_0b (loopVal step82_0b)) := item_loopM md7 ext7 (U := 4) (n := 18) noSpecial mixed Gc11K10_ok one82_0b (fun x => by kernel_rfl)
noncomputable def Gc11K11 : List Ev.Item := .loop 82 0 T82_0b X82_0b (loopVal step82_0b) :: Gc11K10
theorem Gc11K11_ok : ∀ q ∈ Gc11K11, ItemOk Tryd.prog q := items_cons lp82_0b Gc11K10_ok
@[reducible] def T25_4b : Tmpl := ⟨54, [(4, .int .i64 3)], [.val 0 zS, .own 5 19 31 (.slice zI), .val 6 zI, .own 7 47 46 zA, .val 8 zI], [], none⟩
@[reducible] def X25_4b : List (Ex × Tmpl) := [(.exit 4, ⟨54, [(4, .int .i64 3)], [.val 0 zS, .own 5 19 31 (.slice zI), .val 6 zI, .own 7 47 46 zA], [], none⟩)]
noncomputable def step25_4b : (List (Int × Int × Int × Int × Int)) × (List (List Int)) × Int × (List (Int × Int × Int × Int × Int)) × Int → Option (((List (Int × Int × Int × Int × Int)) × (List (List Int)) × Int × (List (Int × Int × Int × Int × Int)) × Int) ⊕ ((List (Int × Int × Int × Int × Int)) × (List (List Int)) × Int × (List (Int × Int × Int × Int × Int)))) := fun (l, all0, i, part, k) =>
 bif inBounds i all0.length then
  bif decide (k < ((all0.getD i.toNat []).length : Int)) then
   bif inBounds i all0.length then
    bif inBounds k (all0.getD i.toNat []).length then
     bif inBounds ((all0.getD i.toNat []).getD k.toNat 0) l.length then
      bif room 40 (part.length + 1) then
       some (.inl (l, all0, i, part ++ [(l.getD ((all0.getD i.toNat []).getD k.toNat 0).toNat (0, 0, 0, 0, 0))], wr (k + 1)))
      else
       none
     else
      none
    else
     none
   else
    none
  else
   some (.inr (l, all0, i, part))
 else
  none
theorem one25_4b : oneLoop Tryd.prog 25 4 = true := by kernel_rfl
theorem lp25_4b : ItemOk Tryd.prog (.loop 25 4 T25_4b X25_4b (loopVal step25_4b)) := item_loopM md7 ext7 (U := 4) (n := 19) noSpecial mixed Gc11K11_ok one25_4b (fun x => by kernel_rfl)
noncomputable def Gc11K12 : List Ev.Item := .loop 25 4 T25_4b X25_4b (loopVal step25_4b) :: Gc11K11
theorem Gc11K12_ok : ∀ q ∈ Gc11K12, ItemOk Tryd.prog q := items_cons lp25_4b Gc11K11_ok
@[reducible] def T25_2b : Tmpl := ⟨54, [(4, .int .i64 3)], [.val 0 zS, .own 5 19 31 (.slice zI), .val 6 zI], [], none⟩
@[reducible] def X25_2b : List (Ex × Tmpl) := [(.ret, ⟨54, [], [.val 2 (.slice zI), .val 3 .bool], [], none⟩), (.exit 2, ⟨54, [(4, .int .i64 3)], [.val 0 zS], [], none⟩)]
noncomputable def step25_2b : (List (Int × Int × Int × Int × Int)) × (List (List Int)) × Int → Option (((List (Int × Int × Int × Int × Int)) × (List (List Int)) × Int) ⊕ (((List Int) × Bool) ⊕ (List (Int × Int × Int × Int × Int)))) := fun (l, all0, i) =>
 bif decide (i < (all0.length : Int)) then
  optE (loopVal step25_4b (l, all0, i, [], 0)) (fun e10 =>
   optE (s83 e10.2.2.2) (fun r11 =>
    bif r11 then
     bif inBounds e10.2.2.1 e10.2.1.length then
      some (.inr (.inl (e10.2.1.getD e10.2.2.1.toNat [], true)))
     else
      none
    else
     some (.inl (e10.1, e10.2.1, wr (e10.2.2.1 + 1))))
    (none))
   (none)
 else
  some (.inr (.inr l))
theorem one25_2b : oneLoop Tryd.prog 25 2 = true := by kernel_rfl
theorem lp25_2b : ItemOk Tryd.prog (.loop 25 2 T25_2b X25_2b (loopVal step25_2b)) := item_loopM md7 ext7 (U := 4) (n := 19) noSpecial mixed Gc11K12_ok one25_2b (fun x => by kernel_rfl)
noncomputable def Gc11K13 : List Ev.Item := .loop 25 2 T25_2b X25_2b (loopVal step25_2b) :: Gc11K12
theorem Gc11K13_ok : ∀ q ∈ Gc11K13, ItemOk Tryd.prog q := items_cons lp25_2b Gc11K12_ok
@[reducible] def T82_2c : Tmpl := ⟨45, [(2, .int .i64 4)], [.val 1 zI, .own 7 43 31 (.slice zI), .val 8 zI, .own 9 27 31 (.slice zI), .val 10 zI], [], none⟩
@[reducible] def X82_2c : List (Ex × Tmpl) := [(.exit 2, ⟨45, [(2, .int .i64 4)], [.val 1 zI, .own 7 43 31 (.slice zI), .val 8 zI], [], none⟩)]
noncomputable def step82_2c : Int × (List (List Int)) × Int × (List (List Int)) × Int → Option ((Int × (List (List Int)) × Int × (List (List Int)) × Int) ⊕ (Int × (List (List Int)) × Int)) := fun (count, out, i, rest, k) =>
 bif decide (k < (rest.length : Int)) then
  bif inBounds k rest.length then
   bif room 8 (1 + (rest.getD k.toNat []).length) then
    bif room 24 (out.length + 1) then
     some (.inl (count, out ++ [[i] ++ (rest.getD k.toNat [])], i, rest, wr (k + 1)))
    else
     none
   else
    none
  else
   none
 else
  some (.inr (count, out, i))
theorem one82_2c : oneLoop Tryd.prog 82 2 = true := by kernel_rfl
theorem lp82_2c : ItemOk Tryd.prog (.loop 82 2 T82_2c X82_2c (loopVal step82_2c)) := item_loopM md7 ext7 (U := 4) (n := 18) noSpecial mixed Gc11K13_ok one82_2c (fun x => by kernel_rfl)
noncomputable def Gc11K14 : List Ev.Item := .loop 82 2 T82_2c X82_2c (loopVal step82_2c) :: Gc11K13
theorem Gc11K14_ok : ∀ q ∈ Gc11K14, ItemOk Tryd.prog q := items_cons lp82_2c Gc11K13_ok
@[reducible] def T82_0c : Tmpl := ⟨45, [(2, .int .i64 4)], [.val 1 zI, .own 7 43 31 (.slice zI), .val 8 zI], [], none⟩
@[reducible] def X82_0c : List (Ex × Tmpl) := [(.exit 0, ⟨45, [], [.own 7 43 31 (.slice zI)], [], none⟩)]
noncomputable def step82_0c : Int × (List (List Int)) × Int → Option ((Int × (List (List Int)) × Int) ⊕ (List (List Int))) := fun (count, out, i) =>
 bif decide ((wr (i + 4)) ≤ count) then
  optE (loopVal step82_0b (count, [], wr (i + 1))) (fun e13 =>
   optE (loopVal step82_2c (count, out, i, e13, 0)) (fun e14 =>
    some (.inl (e14.1, e14.2.1, wr (e14.2.2 + 1))))
    (none))
   (none)
 else
  some (.inr out)
theorem one82_0c : oneLoop Tryd.prog 82 0 = true := by kernel_rfl
theorem lp82_0c : ItemOk Tryd.prog (.loop 82 0 T82_0c X82_0c (loopVal step82_0c)) := item_loopM md7 ext7 (U := 4) (n := 18) noSpecial mixed Gc11K14_ok one82_0c (fun x => by kernel_rfl)
noncomputable def Gc11K15 : List Ev.Item := .loop 82 0 T82_0c X82_0c (loopVal step82_0c) :: Gc11K14
theorem Gc11K15_ok : ∀ q ∈ Gc11K15, ItemOk Tryd.prog q := items_cons lp82_0c Gc11K14_ok
@[reducible] def T25_4c : Tmpl := ⟨54, [(4, .int .i64 4)], [.val 0 zS, .own 5 19 31 (.slice zI), .val 6 zI, .own 7 47 46 zA, .val 8 zI], [], none⟩
@[reducible] def X25_4c : List (Ex × Tmpl) := [(.exit 4, ⟨54, [(4, .int .i64 4)], [.val 0 zS, .own 5 19 31 (.slice zI), .val 6 zI, .own 7 47 46 zA], [], none⟩)]
noncomputable def step25_4c : (List (Int × Int × Int × Int × Int)) × (List (List Int)) × Int × (List (Int × Int × Int × Int × Int)) × Int → Option (((List (Int × Int × Int × Int × Int)) × (List (List Int)) × Int × (List (Int × Int × Int × Int × Int)) × Int) ⊕ ((List (Int × Int × Int × Int × Int)) × (List (List Int)) × Int × (List (Int × Int × Int × Int × Int)))) := fun (l, all0, i, part, k) =>
 bif inBounds i all0.length then
  bif decide (k < ((all0.getD i.toNat []).length : Int)) then
   bif inBounds i all0.length then
    bif inBounds k (all0.getD i.toNat []).length then
     bif inBounds ((all0.getD i.toNat []).getD k.toNat 0) l.length then
      bif room 40 (part.length + 1) then
       some (.inl (l, all0, i, part ++ [(l.getD ((all0.getD i.toNat []).getD k.toNat 0).toNat (0, 0, 0, 0, 0))], wr (k + 1)))
      else
       none
     else
      none
    else
     none
   else
    none
  else
   some (.inr (l, all0, i, part))
 else
  none
theorem one25_4c : oneLoop Tryd.prog 25 4 = true := by kernel_rfl
theorem lp25_4c : ItemOk Tryd.prog (.loop 25 4 T25_4c X25_4c (loopVal step25_4c)) := item_loopM md7 ext7 (U := 4) (n := 19) noSpecial mixed Gc11K15_ok one25_4c (fun x => by kernel_rfl)
noncomputable def Gc11K16 : List Ev.Item := .loop 25 4 T25_4c X25_4c (loopVal step25_4c) :: Gc11K15
theorem Gc11K16_ok : ∀ q ∈ Gc11K16, ItemOk Tryd.prog q := items_cons lp25_4c Gc11K15_ok
@[reducible] def T25_2c : Tmpl := ⟨54, [(4, .int .i64 4)], [.val 0 zS, .own 5 19 31 (.slice zI), .val 6 zI], [], none⟩
@[reducible] def X25_2c : List (Ex × Tmpl) := [(.ret, ⟨54, [], [.val 2 (.slice zI), .val 3 .bool], [], none⟩), (.exit 2, ⟨54, [(4, .int .i64 4)], [.val 0 zS], [], none⟩)]
noncomputable def step25_2c : (List (Int × Int × Int × Int × Int)) × (List (List Int)) × Int → Option (((List (Int × Int × Int × Int × Int)) × (List (List Int)) × Int) ⊕ (((List Int) × Bool) ⊕ (List (Int × Int × Int × Int × Int)))) := fun (l, all0, i) =>
 bif decide (i < (all0.length : Int)) then
  optE (loopVal step25_4c (l, all0, i, [], 0)) (fun e14 =>
   optE (s83 e14.2.2.2) (fun r15 =>
    bif r15 then
     bif inBounds e14.2.2.1 e14.2.1.length then
      some (.inr (.inl (e14.2.1.getD e14.2.2.1.toNat [], true)))
     else
      none
    else
     some (.inl (e14.1, e14.2.1, wr (e14.2.2.1 + 1))))
    (none))
   (none)
 else
  some (.inr (.inr l))
theorem one25_2c : oneLoop Tryd.prog 25 2 = true := by kernel_rfl
theorem lp25_2c : ItemOk Tryd.prog (.loop 25 2 T25_2c X25_2c (loopVal step25_2c)) := item_loopM md7 ext7 (U := 4) (n := 19) noSpecial mixed Gc11K16_ok one25_2c (fun x => by kernel_rfl)
noncomputable def Gc11K17 : List Ev.Item := .loop 25 2 T25_2c X25_2c (loopVal step25_2c) :: Gc11K16
theorem Gc11K17_ok : ∀ q ∈ Gc11K17, ItemOk Tryd.prog q := items_cons lp25_2c Gc11K16_ok
noncomputable def s25 : List (Int × Int × Int × Int × Int) → Option ((List Int) × Bool) := fun l =>
 bif decide (1 ≤ (mn 3 (l.length : Int))) then
  optE (loopVal step82_0 ((l.length : Int), [], 0)) (fun e1 =>
   optE (loopVal step25_2 (l, e1, 0)) (fun e2 =>
    sumE e2 (fun e3 =>
     some (e3)) (fun e4 =>
     bif decide (2 ≤ (mn 3 (e4.length : Int))) then
      optE (loopVal step82_0a ((e4.length : Int), [], 0)) (fun e5 =>
       optE (loopVal step25_2a (e4, e5, 0)) (fun e6 =>
        sumE e6 (fun e7 =>
         some (e7)) (fun e8 =>
         bif decide (3 ≤ (mn 3 (e8.length : Int))) then
          optE (loopVal step82_0b ((e8.length : Int), [], 0)) (fun e9 =>
           optE (loopVal step25_2b (e8, e9, 0)) (fun e10 =>
            sumE e10 (fun e11 =>
             some (e11)) (fun e12 =>
             bif decide (4 ≤ (mn 3 (e12.length : Int))) then
              optE (loopVal step82_0c ((e12.length : Int), [], 0)) (fun e13 =>
               optE (loopVal step25_2c (e12, e13, 0)) (fun e14 =>
                sumE e14 (fun e15 =>
                 some (e15)) (fun _ =>
                 none))
                (none))
               (none)
             else
              some (([], false))))
            (none))
           (none)
         else
          some (([], false))))
        (none))
       (none)
     else
      some (([], false))))
    (none))
   (none)
 else
  some (([], false))
theorem i25 : ItemOk Tryd.prog (.fn 25 [.d zS] [.d (.slice zI), .d .bool] s25) := item_fnM md7 ext7 (U := 4) (n := 20) noSpecial mixed Gc11K17_ok (fun x => by kernel_rfl)
noncomputable def Gc11K18 : List Ev.Item := .fn 25 [.d zS] [.d (.slice zI), .d .bool] s25 :: Gc11K17
theorem Gc11K18_ok : ∀ q ∈ Gc11K18, ItemOk Tryd.prog q := items_cons i25 Gc11K17_ok
@[reducible] def T26_0 : Tmpl := ⟨26, [], [.val 0 (.slice zI), .val 1 (.slice zI), .val 5 zI], [], none⟩
@[reducible] def X26_0 : List (Ex × Tmpl) := [(.ret, ⟨26, [], [.val 4 .bool], [], none⟩), (.exit 0, ⟨26, [], [], [], none⟩)]
noncomputable def step26_0 : (List Int) × (List Int) × Int → Option (((List Int) × (List Int) × Int) ⊕ ((Bool) ⊕ (Unit))) := fun (a, b, i) =>
 bif decide (i < (a.length : Int)) then
  bif inBounds i a.length then
   bif inBounds i b.length then
    bif (a.getD i.toNat 0) != (b.getD i.toNat 0) then
     some (.inr (.inl false))
    else
     some (.inl (a, b, wr (i + 1)))
   else
    none
  else
   none
 else
  some (.inr (.inr ()))
theorem one26_0 : oneLoop Tryd.prog 26 0 = true := by kernel_rfl
theorem lp26_0 : ItemOk Tryd.prog (.loop 26 0 T26_0 X26_0 (loopVal step26_0)) := item_loopM md7 ext7 (U := 9) (n := 3) noSpecial mixed Gc11K18_ok one26_0 (fun x => by kernel_rfl)
noncomputable def Gc11K19 : List Ev.Item := .loop 26 0 T26_0 X26_0 (loopVal step26_0) :: Gc11K18
theorem Gc11K19_ok : ∀ q ∈ Gc11K19, ItemOk Tryd.prog q := items_cons lp26_0 Gc11K18_ok
noncomputable def s26 : (List Int) × (List Int) → Option (Bool) := fun (a, b) =>
 bif (a.length : Int) != (b.length : Int) then
  some (false)
 else
  optE (loopVal step26_0 (a, b, 0)) (fun e1 =>
   sumE e1 (fun e2 =>
    some (e2)) (fun _ =>
    some (true)))
   (none)
theorem i26 : ItemOk Tryd.prog (.fn 26 [.d (.slice zI), .d (.slice zI)] [.d .bool] s26) := item_fnM md7 ext7 (U := 9) (n := 4) noSpecial mixed Gc11K19_ok (fun x => by kernel_rfl)
noncomputable def Gc11K20 : List Ev.Item := .fn 26 [.d (.slice zI), .d (.slice zI)] [.d .bool] s26 :: Gc11K19
theorem Gc11K20_ok : ∀ q ∈ Gc11K20, ItemOk Tryd.prog q := items_cons i26 Gc11K19_ok
@[reducible] def T4_2 : Tmpl := ⟨111, [], [.val 0 zS, .own 3 23 3 zI, .val 10 zI, .own 11 103 46 zA, .val 12 zI], [], none⟩
@[reducible] def X4_2 : List (Ex × Tmpl) := [(.exit 2, ⟨111, [], [.val 0 zS, .own 3 23 3 zI, .val 10 zI, .own 11 103 46 zA], [], none⟩)]
noncomputable def step4_2 : (List (Int × Int × Int × Int × Int)) × (List Int) × Int × (List (Int × Int × Int × Int × Int)) × Int → Option (((List (Int × Int × Int × Int × Int)) × (List Int) × Int × (List (Int × Int × Int × Int × Int)) × Int) ⊕ ((List (Int × Int × Int × Int × Int)) × (List Int) × Int × (List (Int × Int × Int × Int × Int)))) := fun (l, x0, i, part, k) =>
 bif decide (k < (x0.length : Int)) then
  bif k != i then
   bif inBounds k x0.length then
    bif inBounds (x0.getD k.toNat 0) l.length then
     bif room 40 (part.length + 1) then
      some (.inl (l, x0, i, part ++ [(l.getD (x0.getD k.toNat 0).toNat (0, 0, 0, 0, 0))], wr (k + 1)))
     else
      none
    else
     none
   else
    none
  else
   some (.inl (l, x0, i, part, wr (k + 1)))
 else
  some (.inr (l, x0, i, part))
theorem one4_2 : oneLoop Tryd.prog 4 2 = true := by kernel_rfl
theorem lp4_2 : ItemOk Tryd.prog (.loop 4 2 T4_2 X4_2 (loopVal step4_2)) := item_loopM md7 ext7 (U := 9) (n := 3) noSpecial mixed Gc11K20_ok one4_2 (fun x => by kernel_rfl)
noncomputable def Gc11K21 : List Ev.Item := .loop 4 2 T4_2 X4_2 (loopVal step4_2) :: Gc11K20
theorem Gc11K21_ok : ∀ q ∈ Gc11K21, ItemOk Tryd.prog q := items_cons lp4_2 Gc11K20_ok
@[reducible] def T4_0 : Tmpl := ⟨111, [], [.val 0 zS, .own 3 23 3 zI, .val 10 zI], [], none⟩
@[reducible] def X4_0 : List (Ex × Tmpl) := [(.ret, ⟨111, [], [.val 2 .bool], [], none⟩), (.exit 0, ⟨111, [], [], [], none⟩)]
noncomputable def step4_0 : (List (Int × Int × Int × Int × Int)) × (List Int) × Int → Option (((List (Int × Int × Int × Int × Int)) × (List Int) × Int) ⊕ ((Bool) ⊕ (Unit))) := fun (l, x0, i) =>
 bif decide (i < (x0.length : Int)) then
  optE (loopVal step4_2 (l, x0, i, [], 0)) (fun e9 =>
   optE (s22 e9.2.2.2) (fun r10 =>
    bif r10.2 != 12 then
     some (.inr (.inl false))
    else
     some (.inl (e9.1, e9.2.1, wr (e9.2.2.1 + 1))))
    (none))
   (none)
 else
  some (.inr (.inr ()))
theorem one4_0 : oneLoop Tryd.prog 4 0 = true := by kernel_rfl
theorem lp4_0 : ItemOk Tryd.prog (.loop 4 0 T4_0 X4_0 (loopVal step4_0)) := item_loopM md7 ext7 (U := 9) (n := 3) noSpecial mixed Gc11K21_ok one4_0 (fun x => by kernel_rfl)
noncomputable def Gc11K22 : List Ev.Item := .loop 4 0 T4_0 X4_0 (loopVal step4_0) :: Gc11K21
theorem Gc11K22_ok : ∀ q ∈ Gc11K22, ItemOk Tryd.prog q := items_cons lp4_0 Gc11K21_ok
noncomputable def s4 : List (Int × Int × Int × Int × Int) → Option (Bool) := fun l =>
 bif !true then
  some (false)
 else
  optE (s21 l) (fun r1 =>
   bif !r1 then
    some (true)
   else
    optE (s19 l) (fun r2 =>
     optE (s22 r2) (fun r3 =>
      optE (s23 l) (fun r4 =>
       bif r4 != 0 then
        bif r3.2 == r4 then
         some ((r3.1.length : Int) == 0)
        else
         some (false)
       else
        optE (s19 l) (fun r5 =>
         optE (s24 (r5, 0)) (fun r6 =>
          optE (s25 l) (fun r7 =>
           bif !r7.2 then
            bif r3.2 == 12 then
             bif (r3.1.length : Int) == 0 then
              some (r6.2 != 13)
             else
              some (false)
            else
             some (false)
           else
            bif r3.2 != 0 then
             some (false)
            else
             optE (s26 (r3.1, r7.1)) (fun r8 =>
              bif !r8 then
               some (false)
              else
               bif decide ((r3.1.length : Int) > 3) then
                some (false)
               else
                bif r6.2 != 13 then
                 some (false)
                else
                 optE (loopVal step4_0 (l, r3.1, 0)) (fun e9 =>
                  sumE e9 (fun e10 =>
                   some (e10)) (fun _ =>
                   some (true)))
                  (none))
              (none))
           (none))
          (none))
         (none))
       (none))
      (none))
     (none))
   (none)
theorem i4 : ItemOk Tryd.prog (.fn 4 [.d zS] [.d .bool] s4) := item_fnM md7 ext7 (U := 9) (n := 4) noSpecial mixed Gc11K22_ok (fun x => by kernel_rfl)
noncomputable def Gc11K23 : List Ev.Item := .fn 4 [.d zS] [.d .bool] s4 :: Gc11K22
theorem Gc11K23_ok : ∀ q ∈ Gc11K23, ItemOk Tryd.prog q := items_cons i4 Gc11K22_ok
end Go.Proofs.YtfmfiflpokogiaaDoor
