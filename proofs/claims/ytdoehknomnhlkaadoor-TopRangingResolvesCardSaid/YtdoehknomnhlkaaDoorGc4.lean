/- Printed by gen.py: specifications of functions. -/
import Derived.Test.YtdoehknomnhlkaaDoorGc3
import Derived.Test.YtdoehknomnhlkaaDoorFirsts
set_option linter.unusedSimpArgs false
set_option maxRecDepth 100000
namespace Go.Proofs.YtdoehknomnhlkaaDoor
open Go.Ev
def own7f (g : Nat) : Bool := own7 g || Nat.beq g 33
def keep7f (g : Nat) : Option (List Nat) := bif Nat.beq g 7 then some [0, 4, 5, 6, 18, 26, 27, 33, 34] else bif Nat.beq g 12 then some [4, 6, 12, 34] else bif Nat.beq g 19 then some [11] else bif Nat.beq g 21 then some [0, 1, 4, 17] else bif Nat.beq g 23 then some [1, 2, 3, 6, 26, 27] else bif Nat.beq g 26 then some [0, 3, 8, 9, 10, 19, 23, 24, 28, 45] else bif Nat.beq g 35 then some [37] else bif Nat.beq g 45 then some [] else bif Nat.beq g 46 then some [1, 4, 5, 8, 15, 29] else bif Nat.beq g 49 then some [62] else bif Nat.beq g 51 then some [4, 6, 7, 11, 12] else bif Nat.beq g 62 then some [0, 1, 2, 4, 5, 7, 12, 13, 14, 15, 16, 34, 38, 39, 40, 86] else none
def md7f : Ev.Mode := { inl := own7f, cut := cut7, frz := fun g => Nat.beq g 26, keep := keep7f }
theorem ext7f : ExtsOk Tryd.prog md7f := fun g e xs sv hg => by cases hg
noncomputable def TcK : List Ev.Item := [.loopO 33 0 T33_0 X33_0 F33z, .fn 41 [.d zI] [.d .bool] s41, .fn 17 [.d (.slice (.agg (.pair zI zP)))] [.d zI, .d zI] s17, .fn 43 [.d (.agg (.pair zI zP)), .d zI] [.d .bool] s43, .fn 34 [.d .bool, .d zI] [.d zI] (fun x => some (unl x.1 x.2)), .fn 42 [.d zI, .d zI, .d zI] [.d .bool] (fun x => some (win x.1 x.2.1 x.2.2))]
theorem TcK_ok : ∀ q ∈ TcK, ItemOk Tryd.prog q := items_cons lo33z (items_cons i41 (items_cons i17 (items_cons i43 (items_cons j34 (items_cons j42 items_nil)))))
@[reducible] def T26_2b : Tmpl := ⟨89, [(3, .ref 3 0 0 0), (9, .ref 50 0 0 0), (16004, .ref 1004 0 0 0), (16005, .ref 1005 0 0 0)], [.val 0 (.slice (.agg (.pair zI zP))), .val 10 zI, .val 11 zI, .val 59 (.slice (.agg (.pair zI zP))), .val 60 zI, .val 61 zI, .val 16000 (.slice (.agg (.pair zI zP))), .cells 3 [.d zP], .cells 50 [.own 950 24 (.agg zP), .vec 256 .bool], .cells 1004 [.d (.slice zI)], .cells 1005 [.d zI]], [66], none⟩
@[reducible] def X26_2b : List (Ex × Tmpl) := [(.exit 2, ⟨89, [(3, .ref 3 0 0 0), (9, .ref 50 0 0 0), (16004, .ref 1004 0 0 0), (16005, .ref 1005 0 0 0)], [.val 0 (.slice (.agg (.pair zI zP))), .val 10 zI, .val 11 zI, .val 16000 (.slice (.agg (.pair zI zP))), .cells 3 [.d zP], .cells 50 [.own 950 24 (.agg zP), .vec 256 .bool], .cells 1004 [.d (.slice zI)], .cells 1005 [.d zI]], [66], none⟩)]
noncomputable def step26_2b : (List (Int × Int × Int)) × Int × Int × (List (Int × Int × Int)) × Int × Int × (List (Int × Int × Int)) × (Int × Int) × ((List (Int × Int)) × (List Bool)) × (List Int) × Int → Option (((List (Int × Int × Int)) × Int × Int × (List (Int × Int × Int)) × Int × Int × (List (Int × Int × Int)) × (Int × Int) × ((List (Int × Int)) × (List Bool)) × (List Int) × Int) ⊕ ((List (Int × Int × Int)) × Int × Int × (List (Int × Int × Int)) × (Int × Int) × ((List (Int × Int)) × (List Bool)) × (List Int) × Int)) := fun (l, d, mask, t59, t60, t61, l', limit, s, t1004, t1005) =>
 bif decide (t61 < t60) then
  bif inBounds t61 t59.length then
   optE (s43 ((t59.getD t61.toNat (0, 0, 0)), d)) (fun r4 =>
    bif r4 then
     bif decide (0 ≤ t61) then
      some (.inl (l, d, orI .i64 mask (shlI .i64 1 t61), t59, t60, wr (t61 + 1), l', limit, (s.1, padV 256 .bool s.2), t1004, t1005))
     else
      none
    else
     some (.inl (l, d, mask, t59, t60, wr (t61 + 1), l', limit, (s.1, padV 256 .bool s.2), t1004, t1005)))
    (none)
  else
   none
 else
  some (.inr (l, d, mask, l', limit, (s.1, padV 256 .bool s.2), t1004, t1005))
theorem one26_2b : oneLoop Tryd.prog 26 2 = true := by kernel_rfl
theorem lp26_2b : ItemOk Tryd.prog (.loop 26 2 T26_2b X26_2b (loopVal step26_2b)) := item_loopM md7 ext7 (U := 300) (n := 22) noSpecial mixed TcK_ok one26_2b (fun x => by kernel_rfl)
def pi26_2b : (List (Int × Int × Int)) × Int × Int × (List (Int × Int × Int)) × Int × Int × (List (Int × Int × Int)) × (Int × Int) × ((List (Int × Int)) × (List Bool)) × (List Int) × Int → (List (Int × Int × Int)) × Int × (List (Int × Int × Int)) × (Int × Int) × (List Int) × Int := fun (l, d, _, _, _, _, l', limit, _, t1004, t1005) => (l, d, l', limit, t1004, t1005)
def rho26_2b : ((List (Int × Int × Int)) × Int × Int × (List (Int × Int × Int)) × (Int × Int) × ((List (Int × Int)) × (List Bool)) × (List Int) × Int) → (List (Int × Int × Int)) × Int × (List (Int × Int × Int)) × (Int × Int) × (List Int) × Int := fun (e0, e1, _, e3, e4, _, e6, e7) => (e0, e1, e3, e4, e6, e7)
theorem ka26_2b : ∀ x y, step26_2b x = some (.inl y) → pi26_2b y = pi26_2b x := by
 rintro ⟨l, d, mask, t59, t60, t61, l', limit, s, t1004, t1005⟩ y h
 dsimp only [step26_2b] at h
 rcases bifS h with ⟨_, h⟩ | ⟨_, h⟩
 ·rcases bifS h with ⟨_, h⟩ | ⟨_, h⟩
  ·obtain ⟨r4, _, h⟩ := optS h
   rcases bifS h with ⟨_, h⟩ | ⟨_, h⟩
   ·rcases bifS h with ⟨_, h⟩ | ⟨_, h⟩
    ·cases h; rfl
    ·cases h
   ·cases h; rfl
  ·cases h
 ·cases h
theorem kb26_2b : ∀ x e, step26_2b x = some (.inr e) → rho26_2b e = pi26_2b x := by
 rintro ⟨l, d, mask, t59, t60, t61, l', limit, s, t1004, t1005⟩ y h
 dsimp only [step26_2b] at h
 rcases bifS h with ⟨_, h⟩ | ⟨_, h⟩
 ·rcases bifS h with ⟨_, h⟩ | ⟨_, h⟩
  ·obtain ⟨r4, _, h⟩ := optS h
   rcases bifS h with ⟨_, h⟩ | ⟨_, h⟩
   ·rcases bifS h with ⟨_, h⟩ | ⟨_, h⟩
    ·cases h
    ·cases h
   ·cases h
  ·cases h
 ·cases h; rfl
noncomputable def F26_2b : T26_2b.D → Out (ExT X26_2b) := fun (l, d, mask, t59, t60, t61, l', limit, s, t1004, t1005) => .alt (loopVal step26_2b (l, d, mask, t59, t60, t61, l', limit, s, t1004, t1005)) (fun e => .done ((l, d, e.2.2.1, l', limit, e.2.2.2.2.2.1, t1004, t1005))) .no
theorem hO26_2b : ∀ x y, (F26_2b x).at' = some y → loopVal step26_2b x = some y := by
 rintro ⟨l, d, mask, t59, t60, t61, l', limit, s, t1004, t1005⟩ y h
 cases hv : loopVal step26_2b (l, d, mask, t59, t60, t61, l', limit, s, t1004, t1005) with
 | none =>
   have h : (Out.alt (loopVal step26_2b (l, d, mask, t59, t60, t61, l', limit, s, t1004, t1005)) _ Out.no).at' = some y := h
   rw [hv] at h; cases h
 | some e =>
   have h : (Out.alt (loopVal step26_2b (l, d, mask, t59, t60, t61, l', limit, s, t1004, t1005)) _ Out.no).at' = some y := h
   rw [hv] at h
   have k := loop_keep step26_2b pi26_2b rho26_2b ka26_2b kb26_2b _ _ hv
   obtain ⟨e0, e1, e2, e3, e4, e5, e6, e7⟩ := e
   cases k
   exact h
theorem lo26_2b : ItemOk Tryd.prog (.loopO 26 2 T26_2b X26_2b F26_2b) := item_loopO lp26_2b hO26_2b
noncomputable def Gc4K1 : List Ev.Item := .loopO 26 2 T26_2b X26_2b F26_2b :: TcK
theorem Gc4K1_ok : ∀ q ∈ Gc4K1, ItemOk Tryd.prog q := items_cons lo26_2b TcK_ok
@[reducible] def T26_0b : Tmpl := ⟨89, [(3, .ref 3 0 0 0), (9, .ref 50 0 0 0), (16004, .ref 1004 0 0 0), (16005, .ref 1005 0 0 0)], [.val 0 (.slice (.agg (.pair zI zP))), .val 10 zI, .val 16000 (.slice (.agg (.pair zI zP))), .cells 3 [.d zP], .cells 50 [.own 950 24 (.agg zP), .vec 256 .bool], .cells 1004 [.d (.slice zI)], .cells 1005 [.d zI]], [66], none⟩
@[reducible] def X26_0b : List (Ex × Tmpl) := [(.exit 0, ⟨89, [(9, .ref 50 0 0 0), (16004, .ref 1004 0 0 0), (16005, .ref 1005 0 0 0)], [.val 16000 (.slice (.agg (.pair zI zP))), .cells 50 [.own 950 24 (.agg zP), .vec 256 .bool], .cells 1004 [.d (.slice zI)], .cells 1005 [.d zI]], [66], none⟩)]
noncomputable def step26_0b : (List (Int × Int × Int)) × Int × (List (Int × Int × Int)) × (Int × Int) × ((List (Int × Int)) × (List Bool)) × (List Int) × Int → Option (((List (Int × Int × Int)) × Int × (List (Int × Int × Int)) × (Int × Int) × ((List (Int × Int)) × (List Bool)) × (List Int) × Int) ⊕ ((List (Int × Int × Int)) × ((List (Int × Int)) × (List Bool)) × (List Int) × Int)) := fun (l, d, l', limit, s, t1004, t1005) =>
 bif decide (d ≤ limit.2) then
  optE (loopVal step26_2b (l, d, 0, l, (l.length : Int), 0, l', limit, (s.1, padV 256 .bool s.2), t1004, t1005)) (fun e4 =>
   bif inBounds e4.2.2.1 256 then
    bif Nat.ble 1 (1 + e4.2.2.1.toNat * 1) && Nat.blt (1 + e4.2.2.1.toNat * 1) 257 then
     bif decide (0 ≤ (l.length : Int)) then
      bif (wr (e4.2.2.1 + 1)) == (shlI .i64 1 (l.length : Int)) then
       bif decide ((e4.2.2.2.2.2.1.1.length : Int) > 0) then
        bif inBounds (wr ((e4.2.2.2.2.2.1.1.length : Int) - 1)) e4.2.2.2.2.2.1.1.length then
         bif (wr ((e4.2.2.2.2.2.1.1.getD (wr ((e4.2.2.2.2.2.1.1.length : Int) - 1)).toNat (0, 0)).2 + 1)) == d then
          bif inBounds (wr ((e4.2.2.2.2.2.1.1.length : Int) - 1)) e4.2.2.2.2.2.1.1.length then
           some (.inl (l, wr (d + 1), l', limit, (e4.2.2.2.2.2.1.1.set (wr ((e4.2.2.2.2.2.1.1.length : Int) - 1)).toNat ((e4.2.2.2.2.2.1.1.getD (wr ((e4.2.2.2.2.2.1.1.length : Int) - 1)).toNat (0, 0)).1, d), putV 256 1 (1 + e4.2.2.1.toNat * 1) true e4.2.2.2.2.2.1.2), t1004, t1005))
          else
           none
         else
          bif room 16 (e4.2.2.2.2.2.1.1.length + 1) then
           some (.inl (l, wr (d + 1), l', limit, (e4.2.2.2.2.2.1.1 ++ [(d, d)], putV 256 1 (1 + e4.2.2.1.toNat * 1) true e4.2.2.2.2.2.1.2), t1004, t1005))
          else
           none
        else
         none
       else
        bif room 16 (e4.2.2.2.2.2.1.1.length + 1) then
         some (.inl (l, wr (d + 1), l', limit, (e4.2.2.2.2.2.1.1 ++ [(d, d)], putV 256 1 (1 + e4.2.2.1.toNat * 1) true e4.2.2.2.2.2.1.2), t1004, t1005))
        else
         none
      else
       some (.inl (l, wr (d + 1), l', limit, (e4.2.2.2.2.2.1.1, putV 256 1 (1 + e4.2.2.1.toNat * 1) true e4.2.2.2.2.2.1.2), t1004, t1005))
     else
      none
    else
     none
   else
    none)
   (none)
 else
  some (.inr (l', (s.1, padV 256 .bool s.2), t1004, t1005))
theorem one26_0b : oneLoop Tryd.prog 26 0 = true := by kernel_rfl
theorem lp26_0b : ItemOk Tryd.prog (.loop 26 0 T26_0b X26_0b (loopVal step26_0b)) := item_loopM md7 ext7 (U := 300) (n := 22) noSpecial mixed Gc4K1_ok one26_0b (fun x => by kernel_rfl)
def pi26_0b : (List (Int × Int × Int)) × Int × (List (Int × Int × Int)) × (Int × Int) × ((List (Int × Int)) × (List Bool)) × (List Int) × Int → (List (Int × Int × Int)) × (List Int) × Int := fun (_, _, l', _, _, t1004, t1005) => (l', t1004, t1005)
def rho26_0b : ((List (Int × Int × Int)) × ((List (Int × Int)) × (List Bool)) × (List Int) × Int) → (List (Int × Int × Int)) × (List Int) × Int := fun (e0, _, e2, e3) => (e0, e2, e3)
theorem ka26_0b : ∀ x y, step26_0b x = some (.inl y) → pi26_0b y = pi26_0b x := by
 rintro ⟨l, d, l', limit, s, t1004, t1005⟩ y h
 dsimp only [step26_0b] at h
 rcases bifS h with ⟨_, h⟩ | ⟨_, h⟩
 ·obtain ⟨e4, _, h⟩ := optS h
  rcases bifS h with ⟨_, h⟩ | ⟨_, h⟩
  ·rcases bifS h with ⟨_, h⟩ | ⟨_, h⟩
   ·rcases bifS h with ⟨_, h⟩ | ⟨_, h⟩
    ·rcases bifS h with ⟨_, h⟩ | ⟨_, h⟩
     ·rcases bifS h with ⟨_, h⟩ | ⟨_, h⟩
      ·rcases bifS h with ⟨_, h⟩ | ⟨_, h⟩
       ·rcases bifS h with ⟨_, h⟩ | ⟨_, h⟩
        ·rcases bifS h with ⟨_, h⟩ | ⟨_, h⟩
         ·cases h; rfl
         ·cases h
        ·rcases bifS h with ⟨_, h⟩ | ⟨_, h⟩
         ·cases h; rfl
         ·cases h
       ·cases h
      ·rcases bifS h with ⟨_, h⟩ | ⟨_, h⟩
       ·cases h; rfl
       ·cases h
     ·cases h; rfl
    ·cases h
   ·cases h
  ·cases h
 ·cases h
theorem kb26_0b : ∀ x e, step26_0b x = some (.inr e) → rho26_0b e = pi26_0b x := by
 rintro ⟨l, d, l', limit, s, t1004, t1005⟩ y h
 dsimp only [step26_0b] at h
 rcases bifS h with ⟨_, h⟩ | ⟨_, h⟩
 ·obtain ⟨e4, _, h⟩ := optS h
  rcases bifS h with ⟨_, h⟩ | ⟨_, h⟩
  ·rcases bifS h with ⟨_, h⟩ | ⟨_, h⟩
   ·rcases bifS h with ⟨_, h⟩ | ⟨_, h⟩
    ·rcases bifS h with ⟨_, h⟩ | ⟨_, h⟩
     ·rcases bifS h with ⟨_, h⟩ | ⟨_, h⟩
      ·rcases bifS h with ⟨_, h⟩ | ⟨_, h⟩
       ·rcases bifS h with ⟨_, h⟩ | ⟨_, h⟩
        ·rcases bifS h with ⟨_, h⟩ | ⟨_, h⟩
         ·cases h
         ·cases h
        ·rcases bifS h with ⟨_, h⟩ | ⟨_, h⟩
         ·cases h
         ·cases h
       ·cases h
      ·rcases bifS h with ⟨_, h⟩ | ⟨_, h⟩
       ·cases h
       ·cases h
     ·cases h
    ·cases h
   ·cases h
  ·cases h
 ·cases h; rfl
noncomputable def F26_0b : T26_0b.D → Out (ExT X26_0b) := fun (l, d, l', limit, s, t1004, t1005) => .alt (loopVal step26_0b (l, d, l', limit, s, t1004, t1005)) (fun e => .done ((l', e.2.1, t1004, t1005))) .no
theorem hO26_0b : ∀ x y, (F26_0b x).at' = some y → loopVal step26_0b x = some y := by
 rintro ⟨l, d, l', limit, s, t1004, t1005⟩ y h
 cases hv : loopVal step26_0b (l, d, l', limit, s, t1004, t1005) with
 | none =>
   have h : (Out.alt (loopVal step26_0b (l, d, l', limit, s, t1004, t1005)) _ Out.no).at' = some y := h
   rw [hv] at h; cases h
 | some e =>
   have h : (Out.alt (loopVal step26_0b (l, d, l', limit, s, t1004, t1005)) _ Out.no).at' = some y := h
   rw [hv] at h
   have k := loop_keep step26_0b pi26_0b rho26_0b ka26_0b kb26_0b _ _ hv
   obtain ⟨e0, e1, e2, e3⟩ := e
   cases k
   exact h
theorem lo26_0b : ItemOk Tryd.prog (.loopO 26 0 T26_0b X26_0b F26_0b) := item_loopO lp26_0b hO26_0b
noncomputable def Gc4K2 : List Ev.Item := .loopO 26 0 T26_0b X26_0b F26_0b :: Gc4K1
theorem Gc4K2_ok : ∀ q ∈ Gc4K2, ItemOk Tryd.prog q := items_cons lo26_0b Gc4K1_ok
@[reducible] def T7_6Ra : Tmpl := ⟨66, [(4, .ref 3004 0 0 0), (5, .ref 3005 0 0 0), (16036, .mref 4900), (48004, .ref 3004 0 0 0), (48005, .ref 3005 0 0 0), (48006, .ref 3006 0 0 0), (48066, .mref 4900), (80000004, .ref 3004 0 0 0), (80000005, .ref 3005 0 0 0), (80000006, .ref 3006 0 0 0)], [.val 9 (.slice zI), .val 10 zI, .valv 49 256 .bool, .val 50 zI, .val 48000 (.slice (.agg (.pair zI zP))), .val 48026 zI, .val 48027 zI, .cells 3004 [.d (.slice zI)], .cells 3005 [.d zI], .cells 3006 [.d (.ptr swSh)]], [37, 9, 67], some (4900, .busy)⟩
@[reducible] def X7_6Ra : List (Ex × Tmpl) := [(.exit 3, ⟨66, [(16036, .mref 4900), (48004, .ref 3004 0 0 0), (48005, .ref 3005 0 0 0), (48006, .ref 3006 0 0 0), (48066, .mref 4900), (80000004, .ref 3004 0 0 0), (80000005, .ref 3005 0 0 0), (80000006, .ref 3006 0 0 0)], [.val 48000 (.slice (.agg (.pair zI zP))), .val 48026 zI, .val 48027 zI, .cells 3004 [.d (.slice zI)], .cells 3005 [.d zI], .cells 3006 [.d (.ptr swSh)]], [37, 9, 67], some (4900, .busy)⟩), (.exit 6, ⟨66, [(4, .ref 3004 0 0 0), (5, .ref 3005 0 0 0), (16036, .mref 4900), (48004, .ref 3004 0 0 0), (48005, .ref 3005 0 0 0), (48006, .ref 3006 0 0 0), (48066, .mref 4900), (80000004, .ref 3004 0 0 0), (80000005, .ref 3005 0 0 0), (80000006, .ref 3006 0 0 0)], [.val 9 (.slice zI), .val 48000 (.slice (.agg (.pair zI zP))), .val 48026 zI, .val 48027 zI, .cells 3004 [.d (.slice zI)], .cells 3005 [.d zI], .cells 3006 [.d (.ptr swSh)]], [37, 9, 67], some (4900, .busy)⟩)]
noncomputable def Lp7_0 : LpI := lpOf Tryd.prog 7 0 false
noncomputable def step7_6Ra : (List Int) × Int × (List Bool) × Int × (List (Int × Int × Int)) × Int × Int × (List Int) × Int × SwT → Option (LpI × (((List Int) × Int × (List Bool) × Int × (List (Int × Int × Int)) × Int × Int × (List Int) × Int × SwT) ⊕ (((List (Int × Int × Int)) × Int × Int × (List Int) × Int × SwT) ⊕ ((List Int) × (List (Int × Int × Int)) × Int × Int × (List Int) × Int × SwT)))) := fun (set, mask, t49, t50, l, t48026, t48027, t3004, t3005, s) =>
 bif decide (t50 < 256) then
  bif inBounds t50 256 then
   bif (padV 256 .bool t49).getD t50.toNat false then
    bif (andI .i64 t50 mask) == mask then
     some (Lp7_0, .inr (.inl (l, t48026, t48027, t3004, t3005, s)))
    else
     some (Lp7_0, .inl (set, mask, padV 256 .bool t49, wr (t50 + 1), l, t48026, t48027, t3004, t3005, s))
   else
    some (Lp7_0, .inl (set, mask, padV 256 .bool t49, wr (t50 + 1), l, t48026, t48027, t3004, t3005, s))
  else
   none
 else
  some (Lp7_0, .inr (.inr (set, l, t48026, t48027, t3004, t3005, s)))
theorem one7_6Ra : oneLoopR Lp7_0.body 6 = true := by kernel_rfl
noncomputable def F7_6Ra : T7_6Ra.D → Out (ExT X7_6Ra) := fun (set, mask, t49, t50, l, t48026, t48027, t3004, t3005, s) =>
 .br ((t50 == 0 && Nat.beq t49.length 256)) (.br (hitB t49 mask) (.done (.inl (l, t48026, t48027, t3004, t3005, s))) (.done (.inr (set, l, t48026, t48027, t3004, t3005, s)))) .no
theorem hF7_6Ra : ∀ x e, (F7_6Ra x).at' = some e → loopVal (strip Lp7_0 step7_6Ra) x = some e := by
 rintro ⟨set, mask, t49, t50, l, t48026, t48027, t3004, t3005, s⟩ e he
 obtain ⟨hg, hv⟩ := br_guard he
 obtain ⟨h0, ha⟩ := guard2 hg
 have h0 : t50 = 0 := h0
 subst h0
 have pa : padV 256 .bool t49 = t49 := padV_self ha
 have hl := hit_loop Lp7_0 step7_6Ra (fun ix0 => (set, mask, t49, ix0, l, t48026, t48027, t3004, t3005, s)) t49 mask (l, t48026, t48027, t3004, t3005, s) (set, l, t48026, t48027, t3004, t3005, s) (fun ix0 => by simp only [step7_6Ra, pa] <;> rfl)
 exact hl.trans (congrArg some (br_val hv))
theorem lp7_6Ra : ItemOk Tryd.prog (.loopR Lp7_0 66 6 T7_6Ra X7_6Ra F7_6Ra) := item_loopR md7 ext7 noSpecial mixed Gc4K2_ok (U := 300) (n := 20) one7_6Ra (fun x => by kernel_rfl) hF7_6Ra
noncomputable def Gc4K3 : List Ev.Item := .loopR Lp7_0 66 6 T7_6Ra X7_6Ra F7_6Ra :: Gc4K2
theorem Gc4K3_ok : ∀ q ∈ Gc4K3, ItemOk Tryd.prog q := items_cons lp7_6Ra Gc4K2_ok
noncomputable def p7n0 : (Int × Int) → Option ((List Int) × Int) := fun limit =>
 optE (s17 []) (fun r1 =>
 optE (s41 limit.1) (fun r2 =>
 bif r2 then
 optE (s41 limit.2) (fun r3 =>
 bif r1.2 == 0 then
 bif (unl r3 2) == 0 then
 bif (unl (decide (limit.1 ≤ limit.2)) 9) == 0 then
 bif (unl (decide ((wr (limit.2 - limit.1)) < 100000)) 8) == 0 then
 optE (loopVal step26_0b ([], limit.1, [], limit, ([], List.replicate 256 false), [], 0)) (fun e4 =>
 optE (onlyAt Lp7_0 Lp7_0 (onlyAt Lp7_0 Lp7_0 (some ()))) (fun _ =>
 bif hitB (padV 256 .bool e4.2.1.2) 0 then
 some (([], 12))
 else
 none)
 (none))
 (none)
 else
 none
 else
 none
 else
 none
 else
 none)
 (none)
 else
 bif r1.2 == 0 then
 none
 else
 none)
 (none))
 (none)
def f7n0 : (Int × Int) → (List (Int × Int × Int)) × (Int × Int) := fun limit => ([], limit)
theorem h7n0 : ∀ d, evalK Tryd.prog (Pars [.own 3 zI, .d zI]) (knowM md7f Gc4K3) 300 24 7 (cvs [.d (.slice (.agg (.pair zI zP))), .d (.agg zP)] (f7n0 d)) (canonK [.own 3 zI, .d zI]) = p7n0 d := fun d => by kernel_rfl
noncomputable def s7n0 : (List (Int × Int × Int)) × (Int × Int) → Option ((List Int) × Int) := fun
 | ([], limit) => p7n0 limit
 | _ => none
theorem q7n0 : ∀ x y, s7n0 x = some y → ∃ d, x = f7n0 d ∧ p7n0 d = some y := by
 intro x y h
 unfold s7n0 at h
 split at h
 ·exact ⟨_, rfl, h⟩
 ·cases h
theorem i7n0 : ItemOk Tryd.prog (.fn 7 [.d (.slice (.agg (.pair zI zP))), .d (.agg zP)] [.own 3 zI, .d zI] s7n0) := @item_fnP Tryd.prog md7f ext7f Gc4K3 noSpecial mixed Gc4K3_ok 7 300 24 [.d (.slice (.agg (.pair zI zP))), .d (.agg zP)] [.own 3 zI, .d zI] ((Int × Int)) f7n0 p7n0 s7n0 h7n0 q7n0
@[reducible] def T7_6Rb : Tmpl := ⟨66, [(4, .ref 4004 0 0 0), (5, .ref 4005 0 0 0), (16036, .mref 5900), (32001, .ref 3004 0 0 0), (32004, .ref 4900 0 0 0), (32005, .ref 3005 0 0 0), (64004, .ref 4004 0 0 0), (64005, .ref 4005 0 0 0), (64006, .ref 4006 0 0 0), (64066, .mref 5900), (96000004, .ref 4004 0 0 0), (96000005, .ref 4005 0 0 0), (96000006, .ref 4006 0 0 0)], [.own 9 2025 3 zI, .val 10 zI, .valv 49 256 .bool, .val 50 zI, .val 32008 zI, .val 64000 (.slice (.agg (.pair zI zP))), .val 64026 zI, .val 64027 zI, .cells 4004 [.d (.slice zI)], .cells 4005 [.d zI], .cells 3004 [.own 2025 3 zI], .cells 4900 [.d zI], .cells 3005 [.clo 46 [.ref 3004, .ref 4901, .ref 3003, .ref 4900, .ref 3005]], .cells 4006 [.d (.ptr swSh)], .cells 4901 [.d zI], .cells 3003 [.hd 5900]], [37, 36, 9, 67], some (5900, .busy)⟩
@[reducible] def X7_6Rb : List (Ex × Tmpl) := [(.exit 3, ⟨66, [(16036, .mref 5900), (32001, .ref 3004 0 0 0), (32004, .ref 4900 0 0 0), (32005, .ref 3005 0 0 0), (64004, .ref 4004 0 0 0), (64005, .ref 4005 0 0 0), (64006, .ref 4006 0 0 0), (64066, .mref 5900), (96000004, .ref 4004 0 0 0), (96000005, .ref 4005 0 0 0), (96000006, .ref 4006 0 0 0)], [.val 32008 zI, .val 64000 (.slice (.agg (.pair zI zP))), .val 64026 zI, .val 64027 zI, .cells 3004 [.own 2025 3 zI], .cells 4900 [.d zI], .cells 3005 [.clo 46 [.ref 3004, .ref 4901, .ref 3003, .ref 4900, .ref 3005]], .cells 4004 [.d (.slice zI)], .cells 4005 [.d zI], .cells 4006 [.d (.ptr swSh)], .cells 4901 [.d zI], .cells 3003 [.hd 5900]], [37, 36, 9, 67], some (5900, .busy)⟩), (.exit 6, ⟨66, [(4, .ref 4004 0 0 0), (5, .ref 4005 0 0 0), (16036, .mref 5900), (32001, .ref 3004 0 0 0), (32004, .ref 4900 0 0 0), (32005, .ref 3005 0 0 0), (64004, .ref 4004 0 0 0), (64005, .ref 4005 0 0 0), (64006, .ref 4006 0 0 0), (64066, .mref 5900), (96000004, .ref 4004 0 0 0), (96000005, .ref 4005 0 0 0), (96000006, .ref 4006 0 0 0)], [.own 9 2025 3 zI, .val 32008 zI, .val 64000 (.slice (.agg (.pair zI zP))), .val 64026 zI, .val 64027 zI, .cells 4004 [.d (.slice zI)], .cells 4005 [.d zI], .cells 3004 [.own 2025 3 zI], .cells 4900 [.d zI], .cells 3005 [.clo 46 [.ref 3004, .ref 4901, .ref 3003, .ref 4900, .ref 3005]], .cells 4006 [.d (.ptr swSh)], .cells 4901 [.d zI], .cells 3003 [.hd 5900]], [37, 36, 9, 67], some (5900, .busy)⟩)]
noncomputable def step7_6Rb : (List Int) × Int × (List Bool) × Int × Int × (List (Int × Int × Int)) × Int × Int × (List Int) × Int × (List Int) × Int × Unit × SwT × Int × Unit → Option (LpI × (((List Int) × Int × (List Bool) × Int × Int × (List (Int × Int × Int)) × Int × Int × (List Int) × Int × (List Int) × Int × Unit × SwT × Int × Unit) ⊕ ((Int × (List (Int × Int × Int)) × Int × Int × (List Int) × Int × Unit × (List Int) × Int × SwT × Int × Unit) ⊕ ((List Int) × Int × (List (Int × Int × Int)) × Int × Int × (List Int) × Int × (List Int) × Int × Unit × SwT × Int × Unit)))) := fun (_, mask, t49, t50, i, l, t64026, t64027, t4004, t4005, t3004, t4900, _, s, t4901, _) =>
 bif decide (t50 < 256) then
  bif inBounds t50 256 then
   bif (padV 256 .bool t49).getD t50.toNat false then
    bif (andI .i64 t50 mask) == mask then
     some (Lp7_0, .inr (.inl (i, l, t64026, t64027, t3004, t4900, (), t4004, t4005, s, t4901, ())))
    else
     some (Lp7_0, .inl (t3004, mask, padV 256 .bool t49, wr (t50 + 1), i, l, t64026, t64027, t4004, t4005, t3004, t4900, (), s, t4901, ()))
   else
    some (Lp7_0, .inl (t3004, mask, padV 256 .bool t49, wr (t50 + 1), i, l, t64026, t64027, t4004, t4005, t3004, t4900, (), s, t4901, ()))
  else
   none
 else
  some (Lp7_0, .inr (.inr (t3004, i, l, t64026, t64027, t4004, t4005, t3004, t4900, (), s, t4901, ())))
theorem one7_6Rb : oneLoopR Lp7_0.body 6 = true := by kernel_rfl
noncomputable def F7_6Rb : T7_6Rb.D → Out (ExT X7_6Rb) := fun (set, mask, t49, t50, i, l, t64026, t64027, t4004, t4005, t3004, t4900, t3005, s, t4901, t3003) =>
 .br (decide (set = t3004) && (t50 == 0 && Nat.beq t49.length 256)) (.br (hitB t49 mask) (.done (.inl (i, l, t64026, t64027, t3004, t4900, t3005, t4004, t4005, s, t4901, t3003))) (.done (.inr (set, i, l, t64026, t64027, t4004, t4005, t3004, t4900, t3005, s, t4901, t3003)))) .no
theorem hF7_6Rb : ∀ x e, (F7_6Rb x).at' = some e → loopVal (strip Lp7_0 step7_6Rb) x = some e := by
 rintro ⟨set, mask, t49, t50, i, l, t64026, t64027, t4004, t4005, t3004, t4900, t3005, s, t4901, t3003⟩ e he
 obtain ⟨hg, hv⟩ := br_guard he
 obtain ⟨hd, hg2⟩ := and_split hg
 have hd : set = t3004 := of_decide_eq_true hd
 subst hd
 obtain ⟨h0, ha⟩ := guard2 hg2
 have h0 : t50 = 0 := h0
 subst h0
 have pa : padV 256 .bool t49 = t49 := padV_self ha
 have hl := hit_loop Lp7_0 step7_6Rb (fun ix0 => (set, mask, t49, ix0, i, l, t64026, t64027, t4004, t4005, set, t4900, t3005, s, t4901, t3003)) t49 mask (i, l, t64026, t64027, set, t4900, t3005, t4004, t4005, s, t4901, t3003) (set, i, l, t64026, t64027, t4004, t4005, set, t4900, t3005, s, t4901, t3003) (fun ix0 => by simp only [step7_6Rb, pa] <;> rfl)
 exact hl.trans (congrArg some (br_val hv))
theorem lp7_6Rb : ItemOk Tryd.prog (.loopR Lp7_0 66 6 T7_6Rb X7_6Rb F7_6Rb) := item_loopR md7 ext7 noSpecial mixed Gc4K3_ok (U := 300) (n := 19) one7_6Rb (fun x => by kernel_rfl) hF7_6Rb
noncomputable def Gc4K4 : List Ev.Item := .loopR Lp7_0 66 6 T7_6Rb X7_6Rb F7_6Rb :: Gc4K3
theorem Gc4K4_ok : ∀ q ∈ Gc4K4, ItemOk Tryd.prog q := items_cons lp7_6Rb Gc4K3_ok
noncomputable def p7n1 : (Int × Int × Int) × (Int × Int) → Option ((List Int) × Int) := fun (t0, limit) =>
 optE (s17 [t0]) (fun r1 =>
 optE (s41 limit.1) (fun r2 =>
 bif r2 then
 optE (s41 limit.2) (fun r3 =>
 bif r1.2 == 0 then
 bif (unl r3 2) == 0 then
 bif (unl (decide (limit.1 ≤ limit.2)) 9) == 0 then
 bif (unl (decide ((wr (limit.2 - limit.1)) < 100000)) 8) == 0 then
 optE (loopVal step26_0b ([t0], limit.1, [t0], limit, ([], List.replicate 256 false), [], 0)) (fun e4 =>
 optE (onlyAt Lp7_0 Lp7_0 (onlyAt Lp7_0 Lp7_0 (some ()))) (fun _ =>
 bif hitB (padV 256 .bool e4.2.1.2) 0 then
 optE (onlyAt Lp7_0 Lp7_0 (onlyAt Lp7_0 Lp7_0 (some ()))) (fun _ =>
 bif hitB (padV 256 .bool e4.2.1.2) 1 then
 some (([], 12))
 else
 some (([0], 0)))
 (none)
 else
 none)
 (none))
 (none)
 else
 none
 else
 none
 else
 none
 else
 none)
 (none)
 else
 bif r1.2 == 0 then
 none
 else
 none)
 (none))
 (none)
def f7n1 : (Int × Int × Int) × (Int × Int) → (List (Int × Int × Int)) × (Int × Int) := fun (t0, limit) => ([t0], limit)
theorem h7n1 : ∀ d, evalK Tryd.prog (Pars [.own 3 zI, .d zI]) (knowM md7f Gc4K4) 300 24 7 (cvs [.d (.slice (.agg (.pair zI zP))), .d (.agg zP)] (f7n1 d)) (canonK [.own 3 zI, .d zI]) = p7n1 d := fun d => by kernel_rfl
noncomputable def s7n1 : (List (Int × Int × Int)) × (Int × Int) → Option ((List Int) × Int) := fun
 | ([t0], limit) => p7n1 (t0, limit)
 | _ => none
theorem q7n1 : ∀ x y, s7n1 x = some y → ∃ d, x = f7n1 d ∧ p7n1 d = some y := by
 intro x y h
 unfold s7n1 at h
 split at h
 ·exact ⟨_, rfl, h⟩
 ·cases h
theorem i7n1 : ItemOk Tryd.prog (.fn 7 [.d (.slice (.agg (.pair zI zP))), .d (.agg zP)] [.own 3 zI, .d zI] s7n1) := @item_fnP Tryd.prog md7f ext7f Gc4K4 noSpecial mixed Gc4K4_ok 7 300 24 [.d (.slice (.agg (.pair zI zP))), .d (.agg zP)] [.own 3 zI, .d zI] ((Int × Int × Int) × (Int × Int)) f7n1 p7n1 s7n1 h7n1 q7n1
@[reducible] def T7_6Rc : Tmpl := ⟨66, [(4, .ref 5004 0 0 0), (5, .ref 5005 0 0 0), (16036, .mref 6900), (32001, .ref 4004 0 0 0), (32004, .ref 5902 0 0 0), (32005, .ref 4005 0 0 0), (48001, .ref 4004 0 0 0), (48004, .ref 5902 0 0 0), (48005, .ref 4005 0 0 0), (80004, .ref 5004 0 0 0), (80005, .ref 5005 0 0 0), (80006, .ref 5006 0 0 0), (80066, .mref 6900), (112000004, .ref 5004 0 0 0), (112000005, .ref 5005 0 0 0), (112000006, .ref 5006 0 0 0)], [.own 9 2025 3 zI, .val 10 zI, .valv 49 256 .bool, .val 50 zI, .val 32008 zI, .val 48008 zI, .val 80000 (.slice (.agg (.pair zI zP))), .val 80026 zI, .val 80027 zI, .cells 5004 [.d (.slice zI)], .cells 5005 [.d zI], .cells 4004 [.own 2025 3 zI], .cells 5902 [.d zI], .cells 4005 [.clo 46 [.ref 4004, .ref 5903, .ref 4003, .ref 5902, .ref 4005]], .cells 5006 [.d (.ptr swSh)], .cells 5903 [.d zI], .cells 4003 [.hd 6900]], [37, 36, 36, 9, 67], some (6900, .busy)⟩
@[reducible] def X7_6Rc : List (Ex × Tmpl) := [(.exit 3, ⟨66, [(16036, .mref 6900), (32001, .ref 4004 0 0 0), (32004, .ref 5902 0 0 0), (32005, .ref 4005 0 0 0), (48001, .ref 4004 0 0 0), (48004, .ref 5902 0 0 0), (48005, .ref 4005 0 0 0), (80004, .ref 5004 0 0 0), (80005, .ref 5005 0 0 0), (80006, .ref 5006 0 0 0), (80066, .mref 6900), (112000004, .ref 5004 0 0 0), (112000005, .ref 5005 0 0 0), (112000006, .ref 5006 0 0 0)], [.val 32008 zI, .val 48008 zI, .val 80000 (.slice (.agg (.pair zI zP))), .val 80026 zI, .val 80027 zI, .cells 4004 [.own 2025 3 zI], .cells 5902 [.d zI], .cells 4005 [.clo 46 [.ref 4004, .ref 5903, .ref 4003, .ref 5902, .ref 4005]], .cells 5004 [.d (.slice zI)], .cells 5005 [.d zI], .cells 5006 [.d (.ptr swSh)], .cells 5903 [.d zI], .cells 4003 [.hd 6900]], [37, 36, 36, 9, 67], some (6900, .busy)⟩), (.exit 6, ⟨66, [(4, .ref 5004 0 0 0), (5, .ref 5005 0 0 0), (16036, .mref 6900), (32001, .ref 4004 0 0 0), (32004, .ref 5902 0 0 0), (32005, .ref 4005 0 0 0), (48001, .ref 4004 0 0 0), (48004, .ref 5902 0 0 0), (48005, .ref 4005 0 0 0), (80004, .ref 5004 0 0 0), (80005, .ref 5005 0 0 0), (80006, .ref 5006 0 0 0), (80066, .mref 6900), (112000004, .ref 5004 0 0 0), (112000005, .ref 5005 0 0 0), (112000006, .ref 5006 0 0 0)], [.own 9 2025 3 zI, .val 32008 zI, .val 48008 zI, .val 80000 (.slice (.agg (.pair zI zP))), .val 80026 zI, .val 80027 zI, .cells 5004 [.d (.slice zI)], .cells 5005 [.d zI], .cells 4004 [.own 2025 3 zI], .cells 5902 [.d zI], .cells 4005 [.clo 46 [.ref 4004, .ref 5903, .ref 4003, .ref 5902, .ref 4005]], .cells 5006 [.d (.ptr swSh)], .cells 5903 [.d zI], .cells 4003 [.hd 6900]], [37, 36, 36, 9, 67], some (6900, .busy)⟩)]
noncomputable def step7_6Rc : (List Int) × Int × (List Bool) × Int × Int × Int × (List (Int × Int × Int)) × Int × Int × (List Int) × Int × (List Int) × Int × Unit × SwT × Int × Unit → Option (LpI × (((List Int) × Int × (List Bool) × Int × Int × Int × (List (Int × Int × Int)) × Int × Int × (List Int) × Int × (List Int) × Int × Unit × SwT × Int × Unit) ⊕ ((Int × Int × (List (Int × Int × Int)) × Int × Int × (List Int) × Int × Unit × (List Int) × Int × SwT × Int × Unit) ⊕ ((List Int) × Int × Int × (List (Int × Int × Int)) × Int × Int × (List Int) × Int × (List Int) × Int × Unit × SwT × Int × Unit)))) := fun (_, mask, t49, t50, i, i', l, t80026, t80027, t5004, t5005, t4004, t5902, _, s, t5903, _) =>
 bif decide (t50 < 256) then
  bif inBounds t50 256 then
   bif (padV 256 .bool t49).getD t50.toNat false then
    bif (andI .i64 t50 mask) == mask then
     some (Lp7_0, .inr (.inl (i, i', l, t80026, t80027, t4004, t5902, (), t5004, t5005, s, t5903, ())))
    else
     some (Lp7_0, .inl (t4004, mask, padV 256 .bool t49, wr (t50 + 1), i, i', l, t80026, t80027, t5004, t5005, t4004, t5902, (), s, t5903, ()))
   else
    some (Lp7_0, .inl (t4004, mask, padV 256 .bool t49, wr (t50 + 1), i, i', l, t80026, t80027, t5004, t5005, t4004, t5902, (), s, t5903, ()))
  else
   none
 else
  some (Lp7_0, .inr (.inr (t4004, i, i', l, t80026, t80027, t5004, t5005, t4004, t5902, (), s, t5903, ())))
theorem one7_6Rc : oneLoopR Lp7_0.body 6 = true := by kernel_rfl
noncomputable def F7_6Rc : T7_6Rc.D → Out (ExT X7_6Rc) := fun (set, mask, t49, t50, i, i', l, t80026, t80027, t5004, t5005, t4004, t5902, t4005, s, t5903, t4003) =>
 .br (decide (set = t4004) && (t50 == 0 && Nat.beq t49.length 256)) (.br (hitB t49 mask) (.done (.inl (i, i', l, t80026, t80027, t4004, t5902, t4005, t5004, t5005, s, t5903, t4003))) (.done (.inr (set, i, i', l, t80026, t80027, t5004, t5005, t4004, t5902, t4005, s, t5903, t4003)))) .no
theorem hF7_6Rc : ∀ x e, (F7_6Rc x).at' = some e → loopVal (strip Lp7_0 step7_6Rc) x = some e := by
 rintro ⟨set, mask, t49, t50, i, i', l, t80026, t80027, t5004, t5005, t4004, t5902, t4005, s, t5903, t4003⟩ e he
 obtain ⟨hg, hv⟩ := br_guard he
 obtain ⟨hd, hg2⟩ := and_split hg
 have hd : set = t4004 := of_decide_eq_true hd
 subst hd
 obtain ⟨h0, ha⟩ := guard2 hg2
 have h0 : t50 = 0 := h0
 subst h0
 have pa : padV 256 .bool t49 = t49 := padV_self ha
 have hl := hit_loop Lp7_0 step7_6Rc (fun ix0 => (set, mask, t49, ix0, i, i', l, t80026, t80027, t5004, t5005, set, t5902, t4005, s, t5903, t4003)) t49 mask (i, i', l, t80026, t80027, set, t5902, t4005, t5004, t5005, s, t5903, t4003) (set, i, i', l, t80026, t80027, t5004, t5005, set, t5902, t4005, s, t5903, t4003) (fun ix0 => by simp only [step7_6Rc, pa] <;> rfl)
 exact hl.trans (congrArg some (br_val hv))
theorem lp7_6Rc : ItemOk Tryd.prog (.loopR Lp7_0 66 6 T7_6Rc X7_6Rc F7_6Rc) := item_loopR md7 ext7 noSpecial mixed Gc4K4_ok (U := 300) (n := 18) one7_6Rc (fun x => by kernel_rfl) hF7_6Rc
noncomputable def Gc4K5 : List Ev.Item := .loopR Lp7_0 66 6 T7_6Rc X7_6Rc F7_6Rc :: Gc4K4
theorem Gc4K5_ok : ∀ q ∈ Gc4K5, ItemOk Tryd.prog q := items_cons lp7_6Rc Gc4K4_ok
noncomputable def p7n2 : (Int × Int × Int) × (Int × Int × Int) × (Int × Int) → Option ((List Int) × Int) := fun (t0, t1, limit) =>
 optE (s17 [t0, t1]) (fun r1 =>
 optE (s41 limit.1) (fun r2 =>
 bif r2 then
 optE (s41 limit.2) (fun r3 =>
 bif r1.2 == 0 then
 bif (unl r3 2) == 0 then
 bif (unl (decide (limit.1 ≤ limit.2)) 9) == 0 then
 bif (unl (decide ((wr (limit.2 - limit.1)) < 100000)) 8) == 0 then
 optE (loopVal step26_0b ([t0, t1], limit.1, [t0, t1], limit, ([], List.replicate 256 false), [], 0)) (fun e4 =>
 optE (onlyAt Lp7_0 Lp7_0 (onlyAt Lp7_0 Lp7_0 (some ()))) (fun _ =>
 bif hitB (padV 256 .bool e4.2.1.2) 0 then
 optE (onlyAt Lp7_0 Lp7_0 (onlyAt Lp7_0 Lp7_0 (some ()))) (fun _ =>
 bif hitB (padV 256 .bool e4.2.1.2) 1 then
 optE (onlyAt Lp7_0 Lp7_0 (onlyAt Lp7_0 Lp7_0 (some ()))) (fun _ =>
 bif hitB (padV 256 .bool e4.2.1.2) 2 then
 optE (onlyAt Lp7_0 Lp7_0 (onlyAt Lp7_0 Lp7_0 (some ()))) (fun _ =>
 bif hitB (padV 256 .bool e4.2.1.2) 3 then
 some (([], 12))
 else
 some (([0, 1], 0)))
 (none)
 else
 some (([1], 0)))
 (none)
 else
 some (([0], 0)))
 (none)
 else
 none)
 (none))
 (none)
 else
 none
 else
 none
 else
 none
 else
 none)
 (none)
 else
 bif r1.2 == 0 then
 none
 else
 none)
 (none))
 (none)
def f7n2 : (Int × Int × Int) × (Int × Int × Int) × (Int × Int) → (List (Int × Int × Int)) × (Int × Int) := fun (t0, t1, limit) => ([t0, t1], limit)
theorem h7n2 : ∀ d, evalK Tryd.prog (Pars [.own 3 zI, .d zI]) (knowM md7f Gc4K5) 300 24 7 (cvs [.d (.slice (.agg (.pair zI zP))), .d (.agg zP)] (f7n2 d)) (canonK [.own 3 zI, .d zI]) = p7n2 d := fun d => by kernel_rfl
noncomputable def s7n2 : (List (Int × Int × Int)) × (Int × Int) → Option ((List Int) × Int) := fun
 | ([t0, t1], limit) => p7n2 (t0, t1, limit)
 | _ => none
theorem q7n2 : ∀ x y, s7n2 x = some y → ∃ d, x = f7n2 d ∧ p7n2 d = some y := by
 intro x y h
 unfold s7n2 at h
 split at h
 ·exact ⟨_, rfl, h⟩
 ·cases h
theorem i7n2 : ItemOk Tryd.prog (.fn 7 [.d (.slice (.agg (.pair zI zP))), .d (.agg zP)] [.own 3 zI, .d zI] s7n2) := @item_fnP Tryd.prog md7f ext7f Gc4K5 noSpecial mixed Gc4K5_ok 7 300 24 [.d (.slice (.agg (.pair zI zP))), .d (.agg zP)] [.own 3 zI, .d zI] ((Int × Int × Int) × (Int × Int × Int) × (Int × Int)) f7n2 p7n2 s7n2 h7n2 q7n2
@[reducible] def T7_6Rd : Tmpl := ⟨66, [(4, .ref 6004 0 0 0), (5, .ref 6005 0 0 0), (16036, .mref 7900), (32001, .ref 5004 0 0 0), (32004, .ref 6900 0 0 0), (32005, .ref 5005 0 0 0), (48001, .ref 5004 0 0 0), (48004, .ref 6900 0 0 0), (48005, .ref 5005 0 0 0), (64001, .ref 5004 0 0 0), (64004, .ref 6900 0 0 0), (64005, .ref 5005 0 0 0), (96004, .ref 6004 0 0 0), (96005, .ref 6005 0 0 0), (96006, .ref 6006 0 0 0), (96066, .mref 7900), (128000004, .ref 6004 0 0 0), (128000005, .ref 6005 0 0 0), (128000006, .ref 6006 0 0 0)], [.own 9 2025 3 zI, .val 10 zI, .valv 49 256 .bool, .val 50 zI, .val 32008 zI, .val 48008 zI, .val 64008 zI, .val 96000 (.slice (.agg (.pair zI zP))), .val 96026 zI, .val 96027 zI, .cells 6004 [.d (.slice zI)], .cells 6005 [.d zI], .cells 5004 [.own 2025 3 zI], .cells 6900 [.d zI], .cells 5005 [.clo 46 [.ref 5004, .ref 6901, .ref 5003, .ref 6900, .ref 5005]], .cells 6006 [.d (.ptr swSh)], .cells 6901 [.d zI], .cells 5003 [.hd 7900]], [37, 36, 36, 36, 9, 67], some (7900, .busy)⟩
@[reducible] def X7_6Rd : List (Ex × Tmpl) := [(.exit 3, ⟨66, [(16036, .mref 7900), (32001, .ref 5004 0 0 0), (32004, .ref 6900 0 0 0), (32005, .ref 5005 0 0 0), (48001, .ref 5004 0 0 0), (48004, .ref 6900 0 0 0), (48005, .ref 5005 0 0 0), (64001, .ref 5004 0 0 0), (64004, .ref 6900 0 0 0), (64005, .ref 5005 0 0 0), (96004, .ref 6004 0 0 0), (96005, .ref 6005 0 0 0), (96006, .ref 6006 0 0 0), (96066, .mref 7900), (128000004, .ref 6004 0 0 0), (128000005, .ref 6005 0 0 0), (128000006, .ref 6006 0 0 0)], [.val 32008 zI, .val 48008 zI, .val 64008 zI, .val 96000 (.slice (.agg (.pair zI zP))), .val 96026 zI, .val 96027 zI, .cells 5004 [.own 2025 3 zI], .cells 6900 [.d zI], .cells 5005 [.clo 46 [.ref 5004, .ref 6901, .ref 5003, .ref 6900, .ref 5005]], .cells 6004 [.d (.slice zI)], .cells 6005 [.d zI], .cells 6006 [.d (.ptr swSh)], .cells 6901 [.d zI], .cells 5003 [.hd 7900]], [37, 36, 36, 36, 9, 67], some (7900, .busy)⟩), (.exit 6, ⟨66, [(4, .ref 6004 0 0 0), (5, .ref 6005 0 0 0), (16036, .mref 7900), (32001, .ref 5004 0 0 0), (32004, .ref 6900 0 0 0), (32005, .ref 5005 0 0 0), (48001, .ref 5004 0 0 0), (48004, .ref 6900 0 0 0), (48005, .ref 5005 0 0 0), (64001, .ref 5004 0 0 0), (64004, .ref 6900 0 0 0), (64005, .ref 5005 0 0 0), (96004, .ref 6004 0 0 0), (96005, .ref 6005 0 0 0), (96006, .ref 6006 0 0 0), (96066, .mref 7900), (128000004, .ref 6004 0 0 0), (128000005, .ref 6005 0 0 0), (128000006, .ref 6006 0 0 0)], [.own 9 2025 3 zI, .val 32008 zI, .val 48008 zI, .val 64008 zI, .val 96000 (.slice (.agg (.pair zI zP))), .val 96026 zI, .val 96027 zI, .cells 6004 [.d (.slice zI)], .cells 6005 [.d zI], .cells 5004 [.own 2025 3 zI], .cells 6900 [.d zI], .cells 5005 [.clo 46 [.ref 5004, .ref 6901, .ref 5003, .ref 6900, .ref 5005]], .cells 6006 [.d (.ptr swSh)], .cells 6901 [.d zI], .cells 5003 [.hd 7900]], [37, 36, 36, 36, 9, 67], some (7900, .busy)⟩)]
noncomputable def step7_6Rd : (List Int) × Int × (List Bool) × Int × Int × Int × Int × (List (Int × Int × Int)) × Int × Int × (List Int) × Int × (List Int) × Int × Unit × SwT × Int × Unit → Option (LpI × (((List Int) × Int × (List Bool) × Int × Int × Int × Int × (List (Int × Int × Int)) × Int × Int × (List Int) × Int × (List Int) × Int × Unit × SwT × Int × Unit) ⊕ ((Int × Int × Int × (List (Int × Int × Int)) × Int × Int × (List Int) × Int × Unit × (List Int) × Int × SwT × Int × Unit) ⊕ ((List Int) × Int × Int × Int × (List (Int × Int × Int)) × Int × Int × (List Int) × Int × (List Int) × Int × Unit × SwT × Int × Unit)))) := fun (_, mask, t49, t50, i, i', i'', l, t96026, t96027, t6004, t6005, t5004, t6900, _, s, t6901, _) =>
 bif decide (t50 < 256) then
  bif inBounds t50 256 then
   bif (padV 256 .bool t49).getD t50.toNat false then
    bif (andI .i64 t50 mask) == mask then
     some (Lp7_0, .inr (.inl (i, i', i'', l, t96026, t96027, t5004, t6900, (), t6004, t6005, s, t6901, ())))
    else
     some (Lp7_0, .inl (t5004, mask, padV 256 .bool t49, wr (t50 + 1), i, i', i'', l, t96026, t96027, t6004, t6005, t5004, t6900, (), s, t6901, ()))
   else
    some (Lp7_0, .inl (t5004, mask, padV 256 .bool t49, wr (t50 + 1), i, i', i'', l, t96026, t96027, t6004, t6005, t5004, t6900, (), s, t6901, ()))
  else
   none
 else
  some (Lp7_0, .inr (.inr (t5004, i, i', i'', l, t96026, t96027, t6004, t6005, t5004, t6900, (), s, t6901, ())))
theorem one7_6Rd : oneLoopR Lp7_0.body 6 = true := by kernel_rfl
noncomputable def F7_6Rd : T7_6Rd.D → Out (ExT X7_6Rd) := fun (set, mask, t49, t50, i, i', i'', l, t96026, t96027, t6004, t6005, t5004, t6900, t5005, s, t6901, t5003) =>
 .br (decide (set = t5004) && (t50 == 0 && Nat.beq t49.length 256)) (.br (hitB t49 mask) (.done (.inl (i, i', i'', l, t96026, t96027, t5004, t6900, t5005, t6004, t6005, s, t6901, t5003))) (.done (.inr (set, i, i', i'', l, t96026, t96027, t6004, t6005, t5004, t6900, t5005, s, t6901, t5003)))) .no
theorem hF7_6Rd : ∀ x e, (F7_6Rd x).at' = some e → loopVal (strip Lp7_0 step7_6Rd) x = some e := by
 rintro ⟨set, mask, t49, t50, i, i', i'', l, t96026, t96027, t6004, t6005, t5004, t6900, t5005, s, t6901, t5003⟩ e he
 obtain ⟨hg, hv⟩ := br_guard he
 obtain ⟨hd, hg2⟩ := and_split hg
 have hd : set = t5004 := of_decide_eq_true hd
 subst hd
 obtain ⟨h0, ha⟩ := guard2 hg2
 have h0 : t50 = 0 := h0
 subst h0
 have pa : padV 256 .bool t49 = t49 := padV_self ha
 have hl := hit_loop Lp7_0 step7_6Rd (fun ix0 => (set, mask, t49, ix0, i, i', i'', l, t96026, t96027, t6004, t6005, set, t6900, t5005, s, t6901, t5003)) t49 mask (i, i', i'', l, t96026, t96027, set, t6900, t5005, t6004, t6005, s, t6901, t5003) (set, i, i', i'', l, t96026, t96027, t6004, t6005, set, t6900, t5005, s, t6901, t5003) (fun ix0 => by simp only [step7_6Rd, pa] <;> rfl)
 exact hl.trans (congrArg some (br_val hv))
theorem lp7_6Rd : ItemOk Tryd.prog (.loopR Lp7_0 66 6 T7_6Rd X7_6Rd F7_6Rd) := item_loopR md7 ext7 noSpecial mixed Gc4K5_ok (U := 300) (n := 17) one7_6Rd (fun x => by kernel_rfl) hF7_6Rd
noncomputable def Gc4K6 : List Ev.Item := .loopR Lp7_0 66 6 T7_6Rd X7_6Rd F7_6Rd :: Gc4K5
theorem Gc4K6_ok : ∀ q ∈ Gc4K6, ItemOk Tryd.prog q := items_cons lp7_6Rd Gc4K5_ok
noncomputable def p7n3 : (Int × Int × Int) × (Int × Int × Int) × (Int × Int × Int) × (Int × Int) → Option ((List Int) × Int) := fun (t0, t1, t2, limit) =>
 optE (s17 [t0, t1, t2]) (fun r1 =>
 optE (s41 limit.1) (fun r2 =>
 bif r2 then
 optE (s41 limit.2) (fun r3 =>
 bif r1.2 == 0 then
 bif (unl r3 2) == 0 then
 bif (unl (decide (limit.1 ≤ limit.2)) 9) == 0 then
 bif (unl (decide ((wr (limit.2 - limit.1)) < 100000)) 8) == 0 then
 optE (loopVal step26_0b ([t0, t1, t2], limit.1, [t0, t1, t2], limit, ([], List.replicate 256 false), [], 0)) (fun e4 =>
 optE (onlyAt Lp7_0 Lp7_0 (onlyAt Lp7_0 Lp7_0 (some ()))) (fun _ =>
 bif hitB (padV 256 .bool e4.2.1.2) 0 then
 optE (onlyAt Lp7_0 Lp7_0 (onlyAt Lp7_0 Lp7_0 (some ()))) (fun _ =>
 bif hitB (padV 256 .bool e4.2.1.2) 1 then
 optE (onlyAt Lp7_0 Lp7_0 (onlyAt Lp7_0 Lp7_0 (some ()))) (fun _ =>
 bif hitB (padV 256 .bool e4.2.1.2) 2 then
 optE (onlyAt Lp7_0 Lp7_0 (onlyAt Lp7_0 Lp7_0 (some ()))) (fun _ =>
 bif hitB (padV 256 .bool e4.2.1.2) 4 then
 optE (onlyAt Lp7_0 Lp7_0 (onlyAt Lp7_0 Lp7_0 (some ()))) (fun _ =>
 bif hitB (padV 256 .bool e4.2.1.2) 3 then
 optE (onlyAt Lp7_0 Lp7_0 (onlyAt Lp7_0 Lp7_0 (some ()))) (fun _ =>
 bif hitB (padV 256 .bool e4.2.1.2) 5 then
 optE (onlyAt Lp7_0 Lp7_0 (onlyAt Lp7_0 Lp7_0 (some ()))) (fun _ =>
 bif hitB (padV 256 .bool e4.2.1.2) 6 then
 optE (onlyAt Lp7_0 Lp7_0 (onlyAt Lp7_0 Lp7_0 (some ()))) (fun _ =>
 bif hitB (padV 256 .bool e4.2.1.2) 7 then
 some (([], 12))
 else
 some (([0, 1, 2], 0)))
 (none)
 else
 some (([1, 2], 0)))
 (none)
 else
 some (([0, 2], 0)))
 (none)
 else
 some (([0, 1], 0)))
 (none)
 else
 some (([2], 0)))
 (none)
 else
 some (([1], 0)))
 (none)
 else
 some (([0], 0)))
 (none)
 else
 none)
 (none))
 (none)
 else
 none
 else
 none
 else
 none
 else
 none)
 (none)
 else
 bif r1.2 == 0 then
 none
 else
 none)
 (none))
 (none)
def f7n3 : (Int × Int × Int) × (Int × Int × Int) × (Int × Int × Int) × (Int × Int) → (List (Int × Int × Int)) × (Int × Int) := fun (t0, t1, t2, limit) => ([t0, t1, t2], limit)
theorem h7n3 : ∀ d, evalK Tryd.prog (Pars [.own 3 zI, .d zI]) (knowM md7f Gc4K6) 300 24 7 (cvs [.d (.slice (.agg (.pair zI zP))), .d (.agg zP)] (f7n3 d)) (canonK [.own 3 zI, .d zI]) = p7n3 d := fun d => by kernel_rfl
noncomputable def s7n3 : (List (Int × Int × Int)) × (Int × Int) → Option ((List Int) × Int) := fun
 | ([t0, t1, t2], limit) => p7n3 (t0, t1, t2, limit)
 | _ => none
theorem q7n3 : ∀ x y, s7n3 x = some y → ∃ d, x = f7n3 d ∧ p7n3 d = some y := by
 intro x y h
 unfold s7n3 at h
 split at h
 ·exact ⟨_, rfl, h⟩
 ·cases h
theorem i7n3 : ItemOk Tryd.prog (.fn 7 [.d (.slice (.agg (.pair zI zP))), .d (.agg zP)] [.own 3 zI, .d zI] s7n3) := @item_fnP Tryd.prog md7f ext7f Gc4K6 noSpecial mixed Gc4K6_ok 7 300 24 [.d (.slice (.agg (.pair zI zP))), .d (.agg zP)] [.own 3 zI, .d zI] ((Int × Int × Int) × (Int × Int × Int) × (Int × Int × Int) × (Int × Int)) f7n3 p7n3 s7n3 h7n3 q7n3
end Go.Proofs.YtdoehknomnhlkaaDoor
