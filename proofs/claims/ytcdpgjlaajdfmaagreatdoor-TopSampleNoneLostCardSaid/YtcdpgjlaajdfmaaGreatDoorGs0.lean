/- Printed by gen.py: specifications of functions. -/
import Derived.Test.YtcdpgjlaajdfmaaGreatDoorExts
import Derived.Test.YtcdpgjlaajdfmaaGreatDoorLib5
import Derived.Test.YtcdpgjlaajdfmaaGreatDoorVec
set_option linter.unusedSimpArgs false
set_option maxRecDepth 100000
namespace Go.Proofs.YtcdpgjlaajdfmaaGreatDoor
open Go.Ev
noncomputable def s82 : Int → Option (Int) := fun n =>
 some (mx n (wr (-n)))
theorem i82 : ItemOk Tryz.prog (.fn 82 [.d zI] [.d zI] s82) := item_fnM md5 ext5 (U := 9) (n := 12) noSpecial mixed K0_ok (fun x => by kernel_rfl)
noncomputable def Gs0K1 : List Ev.Item := .fn 82 [.d zI] [.d zI] s82 :: K0
theorem Gs0K1_ok : ∀ q ∈ Gs0K1, ItemOk Tryz.prog q := items_cons i82 K0_ok
noncomputable def s12 : Int × Int × Int → Option (Bool) := fun (n, lo, hi) =>
 bif decide (lo ≤ n) then
  some (decide (n ≤ hi))
 else
  some (false)
theorem i12 : ItemOk Tryz.prog (.fn 12 [.d zI, .d zI, .d zI] [.d .bool] s12) := item_fnM md5 ext5 (U := 9) (n := 12) noSpecial mixed Gs0K1_ok (fun x => by kernel_rfl)
noncomputable def Gs0K2 : List Ev.Item := .fn 12 [.d zI, .d zI, .d zI] [.d .bool] s12 :: Gs0K1
theorem Gs0K2_ok : ∀ q ∈ Gs0K2, ItemOk Tryz.prog q := items_cons i12 Gs0K1_ok
noncomputable def s54 : List Int → Option (List Int) := fun l =>
 bif room 8 (0 + l.length) then
  some (l)
 else
  none
theorem i54 : ItemOk Tryz.prog (.fn 54 [.d (.slice zI)] [.own 3 zI] s54) := item_fnM md5 ext5 (U := 9) (n := 12) noSpecial mixed Gs0K2_ok (fun x => by kernel_rfl)
noncomputable def Gs0K3 : List Ev.Item := .fn 54 [.d (.slice zI)] [.own 3 zI] s54 :: Gs0K2
theorem Gs0K3_ok : ∀ q ∈ Gs0K3, ItemOk Tryz.prog q := items_cons i54 Gs0K2_ok
@[reducible] def T41_0 : Tmpl := ⟨34, [], [.val 0 .str, .val 1 (.int .u8), .own 5 25 9 .str, .val 6 zI, .val 7 zI], [], none⟩
@[reducible] def X41_0 : List (Ex × Tmpl) := [(.exit 0, ⟨34, [], [.val 0 .str, .own 5 25 9 .str, .val 6 zI], [], none⟩)]
noncomputable def step41_0 : ByteArray × Int × (List ByteArray) × Int × Int → Option ((ByteArray × Int × (List ByteArray) × Int × Int) ⊕ (ByteArray × (List ByteArray) × Int)) := fun (s, at0, out, from0, i) =>
 bif decide (i < (s.size : Int)) then
  bif inBounds i s.size then
   bif ((s.data.toList.getD i.toNat 0).toNat : Int) == at0 then
    bif (decide (0 ≤ from0)) && ((decide (from0 ≤ i)) && (decide (i ≤ (s.size : Int)))) then
     bif room 16 (out.length + 1) then
      some (.inl (s, at0, out ++ [s.extract from0.toNat i.toNat], wr (i + 1), wr (i + 1)))
     else
      none
    else
     none
   else
    some (.inl (s, at0, out, from0, wr (i + 1)))
  else
   none
 else
  some (.inr (s, out, from0))
theorem one41_0 : oneLoop Tryz.prog 41 0 = true := by kernel_rfl
theorem lp41_0 : ItemOk Tryz.prog (.loop 41 0 T41_0 X41_0 (loopVal step41_0)) := item_loopM md5 ext5 (U := 9) (n := 11) noSpecial mixed Gs0K3_ok one41_0 (fun x => by kernel_rfl)
noncomputable def Gs0K6 : List Ev.Item := .loop 41 0 T41_0 X41_0 (loopVal step41_0) :: Gs0K3
theorem Gs0K6_ok : ∀ q ∈ Gs0K6, ItemOk Tryz.prog q := items_cons lp41_0 Gs0K3_ok
noncomputable def s41 : ByteArray × Int → Option (List ByteArray) := fun (s, at0) =>
 optE (loopVal step41_0 (s, at0, [], 0, 0)) (fun e1 =>
  bif (decide (0 ≤ e1.2.2)) && (decide (e1.2.2 ≤ (e1.1.size : Int))) then
   bif room 16 (e1.2.1.length + 1) then
    some (e1.2.1 ++ [e1.1.extract e1.2.2.toNat e1.1.size])
   else
    none
  else
   none)
  (none)
theorem i41 : ItemOk Tryz.prog (.fn 41 [.d .str, .d (.int .u8)] [.own 9 .str] s41) := item_fnM md5 ext5 (U := 9) (n := 12) noSpecial mixed Gs0K6_ok (fun x => by kernel_rfl)
noncomputable def Gs0K7 : List Ev.Item := .fn 41 [.d .str, .d (.int .u8)] [.own 9 .str] s41 :: Gs0K6
theorem Gs0K7_ok : ∀ q ∈ Gs0K7, ItemOk Tryz.prog q := items_cons i41 Gs0K6_ok
@[reducible] def T42_0 : Tmpl := ⟨70, [], [.val 0 .str, .val 6 zI, .val 7 zI, .val 8 zI], [], none⟩
@[reducible] def X42_0 : List (Ex × Tmpl) := [(.ret, ⟨70, [], [.val 4 zI, .val 5 .bool], [], none⟩), (.exit 0, ⟨70, [], [.val 6 zI, .val 7 zI], [], none⟩)]
noncomputable def step42_0 : ByteArray × Int × Int × Int → Option ((ByteArray × Int × Int × Int) ⊕ ((Int × Bool) ⊕ (Int × Int))) := fun (s, at0, n, i) =>
 bif decide (i < (s.size : Int)) then
  bif inBounds i s.size then
   bif decide (((s.data.toList.getD i.toNat 0).toNat : Int) < 48) then
    some (.inr (.inl (0, false)))
   else
    bif inBounds i s.size then
     bif decide (((s.data.toList.getD i.toNat 0).toNat : Int) > 57) then
      some (.inr (.inl (0, false)))
     else
      bif inBounds i s.size then
       some (.inl (s, at0, wr ((wr (10 * n)) + (wr (IntKind.u8.wrap (((s.data.toList.getD i.toNat 0).toNat : Int) - 48)))), wr (i + 1)))
      else
       none
    else
     none
  else
   none
 else
  some (.inr (.inr (at0, n)))
theorem one42_0 : oneLoop Tryz.prog 42 0 = true := by kernel_rfl
theorem lp42_0 : ItemOk Tryz.prog (.loop 42 0 T42_0 X42_0 (loopVal step42_0)) := item_loopM md5 ext5 (U := 9) (n := 11) noSpecial mixed Gs0K7_ok one42_0 (fun x => by kernel_rfl)
noncomputable def Gs0K8 : List Ev.Item := .loop 42 0 T42_0 X42_0 (loopVal step42_0) :: Gs0K7
theorem Gs0K8_ok : ∀ q ∈ Gs0K8, ItemOk Tryz.prog q := items_cons lp42_0 Gs0K7_ok
noncomputable def s42 : ByteArray × Int → Option (Int × Bool) := fun (s, digits) =>
 bif decide ((s.size : Int) > 0) then
  bif inBounds 0 s.size then
   bif ((s.data.toList.getD 0 0).toNat : Int) == 45 then
    bif (s.size : Int) == 1 then
     some ((0, false))
    else
     bif decide ((wr ((s.size : Int) - 1)) > digits) then
      some ((0, false))
     else
      bif inBounds 1 s.size then
       bif ((s.data.toList.getD 1 0).toNat : Int) == 48 then
        bif decide ((s.size : Int) > 1) then
         some ((0, false))
        else
         optE (loopVal step42_0 (s, 1, 0, 1)) (fun e1 =>
          sumE e1 (fun e2 =>
           some (e2)) (fun e3 =>
           bif e3.1 == 1 then
            some ((wr (-e3.2), true))
           else
            some ((e3.2, true))))
          (none)
       else
        optE (loopVal step42_0 (s, 1, 0, 1)) (fun e4 =>
         sumE e4 (fun e5 =>
          some (e5)) (fun e6 =>
          bif e6.1 == 1 then
           some ((wr (-e6.2), true))
          else
           some ((e6.2, true))))
         (none)
      else
       none
   else
    bif (s.size : Int) == 0 then
     some ((0, false))
    else
     bif decide ((wr ((s.size : Int) - 0)) > digits) then
      some ((0, false))
     else
      bif inBounds 0 s.size then
       bif ((s.data.toList.getD 0 0).toNat : Int) == 48 then
        bif decide ((s.size : Int) > 1) then
         some ((0, false))
        else
         optE (loopVal step42_0 (s, 0, 0, 0)) (fun e7 =>
          sumE e7 (fun e8 =>
           some (e8)) (fun e9 =>
           bif e9.1 == 1 then
            some ((wr (-e9.2), true))
           else
            some ((e9.2, true))))
          (none)
       else
        optE (loopVal step42_0 (s, 0, 0, 0)) (fun e10 =>
         sumE e10 (fun e11 =>
          some (e11)) (fun e12 =>
          bif e12.1 == 1 then
           some ((wr (-e12.2), true))
          else
           some ((e12.2, true))))
         (none)
      else
       none
  else
   none
 else
  bif (s.size : Int) == 0 then
   some ((0, false))
  else
   bif decide ((wr ((s.size : Int) - 0)) > digits) then
    some ((0, false))
   else
    bif inBounds 0 s.size then
     bif ((s.data.toList.getD 0 0).toNat : Int) == 48 then
      bif decide ((s.size : Int) > 1) then
       some ((0, false))
      else
       optE (loopVal step42_0 (s, 0, 0, 0)) (fun e13 =>
        sumE e13 (fun e14 =>
         some (e14)) (fun e15 =>
         bif e15.1 == 1 then
          some ((wr (-e15.2), true))
         else
          some ((e15.2, true))))
        (none)
     else
      optE (loopVal step42_0 (s, 0, 0, 0)) (fun e16 =>
       sumE e16 (fun e17 =>
        some (e17)) (fun e18 =>
        bif e18.1 == 1 then
         some ((wr (-e18.2), true))
        else
         some ((e18.2, true))))
       (none)
    else
     none
theorem i42 : ItemOk Tryz.prog (.fn 42 [.d .str, .d zI] [.d zI, .d .bool] s42) := item_fnM md5 ext5 (U := 9) (n := 12) noSpecial mixed Gs0K8_ok (fun x => by kernel_rfl)
noncomputable def Gs0K9 : List Ev.Item := .fn 42 [.d .str, .d zI] [.d zI, .d .bool] s42 :: Gs0K8
theorem Gs0K9_ok : ∀ q ∈ Gs0K9, ItemOk Tryz.prog q := items_cons i42 Gs0K8_ok
@[reducible] def T43_0 : Tmpl := ⟨27, [], [.val 0 zI, .val 3 .str, .val 4 .str], [], none⟩
@[reducible] def X43_0 : List (Ex × Tmpl) := [(.exit 0, ⟨27, [], [.val 3 .str, .val 4 .str], [], none⟩)]
noncomputable def step43_0 : Int × ByteArray × ByteArray → Option ((Int × ByteArray × ByteArray) ⊕ (ByteArray × ByteArray)) := fun (n, s, sign) =>
 bif n != 0 then
  optE (s82 (Int.tmod n 10)) (fun r1 =>
   bif decide ((bytesStr [IntKind.u8.wrap (wr (48 + r1))]).size + s.size ≤ 9223372036854775807) then
    some (.inl (wr (Int.tdiv n 10), (bytesStr [IntKind.u8.wrap (wr (48 + r1))]) ++ s, sign))
   else
    none)
   (none)
 else
  some (.inr (s, sign))
theorem one43_0 : oneLoop Tryz.prog 43 0 = true := by kernel_rfl
theorem lp43_0 : ItemOk Tryz.prog (.loop 43 0 T43_0 X43_0 (loopVal step43_0)) := item_loopM md5 ext5 (U := 9) (n := 11) noSpecial mixed Gs0K9_ok one43_0 (fun x => by kernel_rfl)
noncomputable def Gs0K10 : List Ev.Item := .loop 43 0 T43_0 X43_0 (loopVal step43_0) :: Gs0K9
theorem Gs0K10_ok : ∀ q ∈ Gs0K10, ItemOk Tryz.prog q := items_cons lp43_0 Gs0K9_ok
noncomputable def s43 : Int → Option (ByteArray) := fun n =>
 bif n == 0 then
  some ((ByteArray.mk #[48]))
 else
  bif decide (n < 0) then
   optE (loopVal step43_0 (n, (ByteArray.mk #[]), (ByteArray.mk #[45]))) (fun e1 =>
    bif decide (e1.2.size + e1.1.size ≤ 9223372036854775807) then
     some (e1.2 ++ e1.1)
    else
     none)
    (none)
  else
   optE (loopVal step43_0 (n, (ByteArray.mk #[]), (ByteArray.mk #[]))) (fun e2 =>
    bif decide (e2.2.size + e2.1.size ≤ 9223372036854775807) then
     some (e2.2 ++ e2.1)
    else
     none)
    (none)
theorem i43 : ItemOk Tryz.prog (.fn 43 [.d zI] [.d .str] s43) := item_fnM md5 ext5 (U := 9) (n := 12) noSpecial mixed Gs0K10_ok (fun x => by kernel_rfl)
noncomputable def Gs0K11 : List Ev.Item := .fn 43 [.d zI] [.d .str] s43 :: Gs0K10
theorem Gs0K11_ok : ∀ q ∈ Gs0K11, ItemOk Tryz.prog q := items_cons i43 Gs0K10_ok
end Go.Proofs.YtcdpgjlaajdfmaaGreatDoor
