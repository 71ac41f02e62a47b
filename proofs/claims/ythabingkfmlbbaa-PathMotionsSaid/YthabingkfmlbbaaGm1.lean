/- Printed by gen.py: specifications of functions. -/
import Derived.Test.YthabingkfmlbbaaGm0
set_option linter.unusedSimpArgs false
set_option maxRecDepth 100000
namespace Go.Proofs.Ythabingkfmlbbaa
open Go.Ev
noncomputable def s75 : Int × Int → Option (Int × Int) := fun (x0, y0) =>
 optE (s74 (x0, y0)) (fun r1 =>
  some (r1))
  (none)
theorem i75 : ItemOk Try.prog (.fn 75 [.d (.int .u64), .d (.int .u64)] [.d (.int .u64), .d (.int .u64)] s75) := item_fnM md5 ext5 (U := 9) (n := 12) noSpecial mixed Gm0K24_ok (fun x => by kernel_rfl)
noncomputable def Gm1K2 : List Ev.Item := .fn 75 [.d (.int .u64), .d (.int .u64)] [.d (.int .u64), .d (.int .u64)] s75 :: Gm0K24
theorem Gm1K2_ok : ∀ q ∈ Gm1K2, ItemOk Try.prog q := items_cons i75 Gm0K24_ok
@[reducible] def T62_0 : Tmpl := ⟨48, [], [.own 7 30 3 zI, .val 8 zI], [], none⟩
@[reducible] def X62_0 : List (Ex × Tmpl) := [(.exit 0, ⟨48, [], [.own 7 30 3 zI], [], none⟩)]
noncomputable def step62_0 : (List Int) × Int → Option (((List Int) × Int) ⊕ (List Int)) := fun (newslice, n) =>
 bif decide (n < (newslice.length : Int)) then
  bif (decide (0 < newslice.length)) && ((decide (0 ≤ n)) && ((decide (n ≤ (newslice.length : Int))) && (decide ((newslice.length : Int) ≤ (newslice.length : Int))))) then
   bif (decide (0 < newslice.length)) && ((decide (0 ≤ n)) && (decide (n ≤ (newslice.length : Int)))) then
    some (.inl (((newslice.take n.toNat) ++ (((newslice.drop 0).take (n.toNat - 0)).take ((newslice.length : Int).toNat - n.toNat))) ++ (newslice.drop (n.toNat + (min ((newslice.drop 0).take (n.toNat - 0)).length ((newslice.length : Int).toNat - n.toNat)))), wr (n + ((min ((newslice.drop 0).take (n.toNat - 0)).length ((newslice.length : Int).toNat - n.toNat) : Nat) : Int))))
   else
    none
  else
   none
 else
  some (.inr newslice)
theorem one62_0 : oneLoop Try.prog 62 0 = true := by kernel_rfl
theorem lp62_0 : ItemOk Try.prog (.loop 62 0 T62_0 X62_0 (loopVal step62_0)) := item_loopM md5 ext5 (U := 9) (n := 11) noSpecial mixed Gm1K2_ok one62_0 (fun x => by kernel_rfl)
noncomputable def Gm1K3 : List Ev.Item := .loop 62 0 T62_0 X62_0 (loopVal step62_0) :: Gm1K2
theorem Gm1K3_ok : ∀ q ∈ Gm1K3, ItemOk Try.prog q := items_cons lp62_0 Gm1K2_ok
noncomputable def s62 : (List Int) × Int → Option (List Int) := fun (x0, count) =>
 bif decide (count < 0) then
  none
 else
  optE (s75 (IntKind.u64.wrap (x0.length : Int), IntKind.u64.wrap count)) (fun r1 =>
   bif decide (r1.1 > 0) then
    none
   else
    bif decide (r1.2 > 9223372036854775807) then
     none
    else
     bif (decide (0 ≤ (wr r1.2))) && ((decide ((wr r1.2) = (wr r1.2))) && (room 8 (wr r1.2).toNat)) then
      optE (loopVal step62_0 ((((List.replicate (wr r1.2).toNat (0 : Int)).take 0) ++ (x0.take (List.replicate (wr r1.2).toNat (0 : Int)).length)) ++ ((List.replicate (wr r1.2).toNat (0 : Int)).drop (0 + (min x0.length (List.replicate (wr r1.2).toNat (0 : Int)).length))), ((min x0.length (List.replicate (wr r1.2).toNat (0 : Int)).length : Nat) : Int))) (fun e2 =>
       some (e2))
       (none)
     else
      none)
   (none)
theorem i62 : ItemOk Try.prog (.fn 62 [.d (.slice zI), .d zI] [.own 3 zI] s62) := item_fnM md5 ext5 (U := 9) (n := 12) noSpecial mixed Gm1K3_ok (fun x => by kernel_rfl)
noncomputable def Gm1K4 : List Ev.Item := .fn 62 [.d (.slice zI), .d zI] [.own 3 zI] s62 :: Gm1K3
theorem Gm1K4_ok : ∀ q ∈ Gm1K4, ItemOk Try.prog q := items_cons i62 Gm1K3_ok
@[reducible] def T32_0 : Tmpl := ⟨26, [], [.val 1 (.clo 45 (.pair (.ptr (.slice zI)) (.pair (.ptr zI) .unit))), .val 5 zI, .val 6 zI], [], none⟩
@[reducible] def X32_0 : List (Ex × Tmpl) := [(.exit 0, ⟨26, [], [.val 5 zI], [], none⟩)]
noncomputable def step32_0 : ((List Int) × Int × Unit) × Int × Int → Option ((((List Int) × Int × Unit) × Int × Int) ⊕ (Int)) := fun (f, i, j) =>
 bif decide (i < j) then
  bif inBounds (wr (shrI .u64 (IntKind.u64.wrap (wr (i + j))) 1)) f.1.length then
   bif !(decide ((f.1.getD (wr (shrI .u64 (IntKind.u64.wrap (wr (i + j))) 1)).toNat 0) ≥ f.2.1)) then
    some (.inl (f, wr ((wr (shrI .u64 (IntKind.u64.wrap (wr (i + j))) 1)) + 1), j))
   else
    some (.inl (f, i, wr (shrI .u64 (IntKind.u64.wrap (wr (i + j))) 1)))
  else
   none
 else
  some (.inr i)
theorem one32_0 : oneLoop Try.prog 32 0 = true := by kernel_rfl
theorem lp32_0 : ItemOk Try.prog (.loop 32 0 T32_0 X32_0 (loopVal step32_0)) := item_loopM md5 ext5 (U := 9) (n := 10) noSpecial mixed Gm1K4_ok one32_0 (fun x => by kernel_rfl)
noncomputable def Gm1K5 : List Ev.Item := .loop 32 0 T32_0 X32_0 (loopVal step32_0) :: Gm1K4
theorem Gm1K5_ok : ∀ q ∈ Gm1K5, ItemOk Try.prog q := items_cons lp32_0 Gm1K4_ok
noncomputable def s31 : (List Int) × Int → Option (Int) := fun (a, x0) =>
 optE (loopVal step32_0 ((a, x0, ()), 0, (a.length : Int))) (fun e1 =>
  some (e1))
  (none)
theorem i31 : ItemOk Try.prog (.fn 31 [.d (.slice zI), .d zI] [.d zI] s31) := item_fnM md5 ext5 (U := 9) (n := 12) noSpecial mixed Gm1K5_ok (fun x => by kernel_rfl)
noncomputable def Gm1K6 : List Ev.Item := .fn 31 [.d (.slice zI), .d zI] [.d zI] s31 :: Gm1K5
theorem Gm1K6_ok : ∀ q ∈ Gm1K6, ItemOk Try.prog q := items_cons i31 Gm1K5_ok
@[reducible] def T65_0a : Tmpl := ⟨48, [(0, .ref 1010 0 0 0), (16010, .ref 1010 0 0 0), (16011, .ref 1011 0 0 0)], [.val 1 zI, .val 2 (.clo 63 (.pair (.ptr (.pair (.slice zI) (.slice zI))) .unit)), .val 16002 zI, .ptr 16004 (.pair (.slice zI) (.slice zI)), .own 16007 1019 3 zI, .val 16008 (.clo 63 (.pair (.ptr (.pair (.slice zI) (.slice zI))) .unit)), .val 16009 (.clo 64 (.pair (.ptr (.pair (.slice zI) (.slice zI))) .unit)), .val 16012 zI, .val 16013 zI, .val 16014 zI, .val 16015 zI, .val 16022 (.slice zI), .val 16023 zI, .val 16024 zI, .cells 1010 [.own 1950 3 zI], .cells 1011 [.own 1951 3 zI]], [119], none⟩
@[reducible] def X65_0a : List (Ex × Tmpl) := [(.exit 0, ⟨48, [(0, .ref 1010 0 0 0), (16010, .ref 1010 0 0 0), (16011, .ref 1011 0 0 0)], [.val 1 zI, .val 16002 zI, .ptr 16004 (.pair (.slice zI) (.slice zI)), .own 16007 1019 3 zI, .val 16008 (.clo 63 (.pair (.ptr (.pair (.slice zI) (.slice zI))) .unit)), .val 16009 (.clo 64 (.pair (.ptr (.pair (.slice zI) (.slice zI))) .unit)), .val 16012 zI, .val 16013 zI, .val 16014 zI, .val 16015 zI, .val 16022 (.slice zI), .val 16023 zI, .val 16024 zI, .cells 1010 [.own 1950 3 zI], .cells 1011 [.own 1951 3 zI]], [119], none⟩)]
noncomputable def step65_0a : Int × (((List Int) × List Int) × Unit) × Int × ((List Int) × List Int) × (List Int) × (((List Int) × List Int) × Unit) × (((List Int) × List Int) × Unit) × Int × Int × Int × Int × (List Int) × Int × Int × (List Int) × (List Int) → Option ((Int × (((List Int) × List Int) × Unit) × Int × ((List Int) × List Int) × (List Int) × (((List Int) × List Int) × Unit) × (((List Int) × List Int) × Unit) × Int × Int × Int × Int × (List Int) × Int × Int × (List Int) × (List Int)) ⊕ (Int × Int × ((List Int) × List Int) × (List Int) × (((List Int) × List Int) × Unit) × (((List Int) × List Int) × Unit) × Int × Int × Int × Int × (List Int) × Int × Int × (List Int) × (List Int))) := fun (i, value, rate, next, out, up, down, a, b, i', p, t16022, t16023, t16024, w, below) =>
 bif decide ((w.length : Int) > 0) then
  bif inBounds (wr ((w.length : Int) - 1)) w.length then
   bif inBounds (w.getD (wr ((w.length : Int) - 1)).toNat 0) value.1.2.length then
    bif inBounds (w.getD (wr ((w.length : Int) - 1)).toNat 0) value.1.1.length then
     bif inBounds i value.1.2.length then
      bif inBounds i value.1.1.length then
       bif decide ((wr ((value.1.2.getD (w.getD (wr ((w.length : Int) - 1)).toNat 0).toNat 0) + (value.1.1.getD (w.getD (wr ((w.length : Int) - 1)).toNat 0).toNat 0))) ≥ (wr ((value.1.2.getD i.toNat 0) + (value.1.1.getD i.toNat 0)))) then
        bif (decide (0 < w.length)) && ((decide (0 ≤ (wr ((w.length : Int) - 1)))) && (decide ((wr ((w.length : Int) - 1)) ≤ (w.length : Int)))) then
         some (.inl (i, value, rate, next, out, up, down, a, b, i', p, t16022, t16023, t16024, (w.drop 0).take ((wr ((w.length : Int) - 1)).toNat - 0), below))
        else
         none
       else
        some (.inr (i, rate, next, out, up, down, a, b, i', p, t16022, t16023, t16024, w, below))
      else
       none
     else
      none
    else
     none
   else
    none
  else
   none
 else
  some (.inr (i, rate, next, out, up, down, a, b, i', p, t16022, t16023, t16024, w, below))
theorem one65_0a : oneLoop Try.prog 65 0 = true := by kernel_rfl
theorem lp65_0a : ItemOk Try.prog (.loop 65 0 T65_0a X65_0a (loopVal step65_0a)) := item_loopM md5 ext5 (U := 9) (n := 10) noSpecial mixed Gm1K6_ok one65_0a (fun x => by kernel_rfl)
noncomputable def Gm1K8 : List Ev.Item := .loop 65 0 T65_0a X65_0a (loopVal step65_0a) :: Gm1K6
theorem Gm1K8_ok : ∀ q ∈ Gm1K8, ItemOk Try.prog q := items_cons lp65_0a Gm1K6_ok
@[reducible] def T44_2 : Tmpl := ⟨119, [(10, .ref 10 0 0 0), (11, .ref 11 0 0 0)], [.val 2 zI, .ptr 4 (.pair (.slice zI) (.slice zI)), .own 7 19 3 zI, .val 8 (.clo 63 (.pair (.ptr (.pair (.slice zI) (.slice zI))) .unit)), .val 9 (.clo 64 (.pair (.ptr (.pair (.slice zI) (.slice zI))) .unit)), .val 12 zI, .val 13 zI, .val 14 zI, .val 15 zI, .val 22 (.slice zI), .val 23 zI, .val 24 zI, .cells 10 [.own 900 3 zI], .cells 11 [.own 951 3 zI]], [], none⟩
@[reducible] def X44_2 : List (Ex × Tmpl) := [(.exit 2, ⟨119, [(10, .ref 10 0 0 0), (11, .ref 11 0 0 0)], [.val 2 zI, .ptr 4 (.pair (.slice zI) (.slice zI)), .own 7 19 3 zI, .val 8 (.clo 63 (.pair (.ptr (.pair (.slice zI) (.slice zI))) .unit)), .val 9 (.clo 64 (.pair (.ptr (.pair (.slice zI) (.slice zI))) .unit)), .val 12 zI, .val 13 zI, .val 14 zI, .val 15 zI, .val 22 (.slice zI), .val 23 zI, .val 24 zI, .cells 10 [.own 900 3 zI], .cells 11 [.own 951 3 zI]], [], none⟩)]
noncomputable def step44_2 : Int × ((List Int) × List Int) × (List Int) × (((List Int) × List Int) × Unit) × (((List Int) × List Int) × Unit) × Int × Int × Int × Int × (List Int) × Int × Int × (List Int) × (List Int) → Option ((Int × ((List Int) × List Int) × (List Int) × (((List Int) × List Int) × Unit) × (((List Int) × List Int) × Unit) × Int × Int × Int × Int × (List Int) × Int × Int × (List Int) × (List Int)) ⊕ (Int × ((List Int) × List Int) × (List Int) × (((List Int) × List Int) × Unit) × (((List Int) × List Int) × Unit) × Int × Int × Int × Int × (List Int) × Int × Int × (List Int) × (List Int))) := fun (rate, next, out, up, down, a, b, i, p, t22, t23, t24, above, below) =>
 bif decide (a < (next.1.length : Int)) then
  bif inBounds a next.1.length then
   bif decide ((next.1.getD a.toNat 0) ≤ (wr (p + rate))) then
    optE (loopVal step65_0a (a, up, rate, next, out, up, down, a, b, i, p, t22, t23, t24, above, below)) (fun e2 =>
     bif room 8 (e2.2.2.2.2.2.2.2.2.2.2.2.2.2.1.length + 1) then
      some (.inl (e2.2.1, e2.2.2.1, e2.2.2.2.1, e2.2.2.2.2.1, e2.2.2.2.2.2.1, wr (e2.2.2.2.2.2.2.1 + 1), e2.2.2.2.2.2.2.2.1, e2.2.2.2.2.2.2.2.2.1, e2.2.2.2.2.2.2.2.2.2.1, e2.2.2.2.2.2.2.2.2.2.2.1, e2.2.2.2.2.2.2.2.2.2.2.2.1, e2.2.2.2.2.2.2.2.2.2.2.2.2.1, e2.2.2.2.2.2.2.2.2.2.2.2.2.2.1 ++ [e2.1], e2.2.2.2.2.2.2.2.2.2.2.2.2.2.2))
     else
      none)
     (none)
   else
    some (.inr (rate, next, out, up, down, a, b, i, p, t22, t23, t24, above, below))
  else
   none
 else
  some (.inr (rate, next, out, up, down, a, b, i, p, t22, t23, t24, above, below))
theorem one44_2 : oneLoop Try.prog 44 2 = true := by kernel_rfl
theorem lp44_2 : ItemOk Try.prog (.loop 44 2 T44_2 X44_2 (loopVal step44_2)) := item_loopM md5 ext5 (U := 9) (n := 11) noSpecial mixed Gm1K8_ok one44_2 (fun x => by kernel_rfl)
noncomputable def Gm1K9 : List Ev.Item := .loop 44 2 T44_2 X44_2 (loopVal step44_2) :: Gm1K8
theorem Gm1K9_ok : ∀ q ∈ Gm1K9, ItemOk Try.prog q := items_cons lp44_2 Gm1K8_ok
@[reducible] def T66_0 : Tmpl := ⟨24, [(0, .ref 1010 0 0 0), (16010, .ref 1010 0 0 0), (16011, .ref 1011 0 0 0)], [.val 1 zI, .val 16002 zI, .ptr 16004 (.pair (.slice zI) (.slice zI)), .own 16007 1019 3 zI, .val 16008 (.clo 63 (.pair (.ptr (.pair (.slice zI) (.slice zI))) .unit)), .val 16009 (.clo 64 (.pair (.ptr (.pair (.slice zI) (.slice zI))) .unit)), .val 16012 zI, .val 16013 zI, .val 16014 zI, .val 16015 zI, .val 16022 (.slice zI), .val 16023 zI, .val 16024 zI, .cells 1010 [.own 1900 3 zI], .cells 1011 [.own 1951 3 zI]], [119], none⟩
@[reducible] def X66_0 : List (Ex × Tmpl) := [(.exit 0, ⟨24, [(16010, .ref 1010 0 0 0), (16011, .ref 1011 0 0 0)], [.val 16002 zI, .ptr 16004 (.pair (.slice zI) (.slice zI)), .own 16007 1019 3 zI, .val 16008 (.clo 63 (.pair (.ptr (.pair (.slice zI) (.slice zI))) .unit)), .val 16009 (.clo 64 (.pair (.ptr (.pair (.slice zI) (.slice zI))) .unit)), .val 16012 zI, .val 16013 zI, .val 16014 zI, .val 16015 zI, .val 16022 (.slice zI), .val 16023 zI, .val 16024 zI, .cells 1010 [.own 1900 3 zI], .cells 1011 [.own 1951 3 zI]], [119], none⟩)]
noncomputable def step66_0 : Int × Int × ((List Int) × List Int) × (List Int) × (((List Int) × List Int) × Unit) × (((List Int) × List Int) × Unit) × Int × Int × Int × Int × (List Int) × Int × Int × (List Int) × (List Int) → Option ((Int × Int × ((List Int) × List Int) × (List Int) × (((List Int) × List Int) × Unit) × (((List Int) × List Int) × Unit) × Int × Int × Int × Int × (List Int) × Int × Int × (List Int) × (List Int)) ⊕ (Int × ((List Int) × List Int) × (List Int) × (((List Int) × List Int) × Unit) × (((List Int) × List Int) × Unit) × Int × Int × Int × Int × (List Int) × Int × Int × (List Int) × (List Int))) := fun (i, rate, next, out, up, down, a, b, i', p, t16022, t16023, t16024, w, below) =>
 bif decide ((w.length : Int) > 0) then
  bif inBounds 0 w.length then
   bif decide ((w.getD 0 0) < i) then
    bif (decide (0 < w.length)) && ((decide (1 ≤ (w.length : Int))) && (decide ((w.length : Int) ≤ (w.length : Int)))) then
     some (.inl (i, rate, next, out, up, down, a, b, i', p, t16022, t16023, t16024, (w.drop 1).take ((w.length : Int).toNat - 1), below))
    else
     none
   else
    some (.inr (rate, next, out, up, down, a, b, i', p, t16022, t16023, t16024, w, below))
  else
   none
 else
  some (.inr (rate, next, out, up, down, a, b, i', p, t16022, t16023, t16024, w, below))
theorem one66_0 : oneLoop Try.prog 66 0 = true := by kernel_rfl
theorem lp66_0 : ItemOk Try.prog (.loop 66 0 T66_0 X66_0 (loopVal step66_0)) := item_loopM md5 ext5 (U := 9) (n := 10) noSpecial mixed Gm1K9_ok one66_0 (fun x => by kernel_rfl)
noncomputable def Gm1K10 : List Ev.Item := .loop 66 0 T66_0 X66_0 (loopVal step66_0) :: Gm1K9
theorem Gm1K10_ok : ∀ q ∈ Gm1K10, ItemOk Try.prog q := items_cons lp66_0 Gm1K9_ok
@[reducible] def T65_0b : Tmpl := ⟨48, [(0, .ref 1011 0 0 0), (16010, .ref 1010 0 0 0), (16011, .ref 1011 0 0 0)], [.val 1 zI, .val 2 (.clo 64 (.pair (.ptr (.pair (.slice zI) (.slice zI))) .unit)), .val 16002 zI, .ptr 16004 (.pair (.slice zI) (.slice zI)), .own 16007 1019 3 zI, .val 16008 (.clo 63 (.pair (.ptr (.pair (.slice zI) (.slice zI))) .unit)), .val 16009 (.clo 64 (.pair (.ptr (.pair (.slice zI) (.slice zI))) .unit)), .val 16012 zI, .val 16013 zI, .val 16014 zI, .val 16015 zI, .val 16022 (.slice zI), .val 16023 zI, .val 16024 zI, .cells 1011 [.own 1951 3 zI], .cells 1010 [.own 1900 3 zI]], [119], none⟩
@[reducible] def X65_0b : List (Ex × Tmpl) := [(.exit 0, ⟨48, [(0, .ref 1011 0 0 0), (16010, .ref 1010 0 0 0), (16011, .ref 1011 0 0 0)], [.val 1 zI, .val 16002 zI, .ptr 16004 (.pair (.slice zI) (.slice zI)), .own 16007 1019 3 zI, .val 16008 (.clo 63 (.pair (.ptr (.pair (.slice zI) (.slice zI))) .unit)), .val 16009 (.clo 64 (.pair (.ptr (.pair (.slice zI) (.slice zI))) .unit)), .val 16012 zI, .val 16013 zI, .val 16014 zI, .val 16015 zI, .val 16022 (.slice zI), .val 16023 zI, .val 16024 zI, .cells 1011 [.own 1951 3 zI], .cells 1010 [.own 1900 3 zI]], [119], none⟩)]
noncomputable def step65_0b : Int × (((List Int) × List Int) × Unit) × Int × ((List Int) × List Int) × (List Int) × (((List Int) × List Int) × Unit) × (((List Int) × List Int) × Unit) × Int × Int × Int × Int × (List Int) × Int × Int × (List Int) × (List Int) → Option ((Int × (((List Int) × List Int) × Unit) × Int × ((List Int) × List Int) × (List Int) × (((List Int) × List Int) × Unit) × (((List Int) × List Int) × Unit) × Int × Int × Int × Int × (List Int) × Int × Int × (List Int) × (List Int)) ⊕ (Int × Int × ((List Int) × List Int) × (List Int) × (((List Int) × List Int) × Unit) × (((List Int) × List Int) × Unit) × Int × Int × Int × Int × (List Int) × Int × Int × (List Int) × (List Int))) := fun (i, value, rate, next, out, up, down, a, b, i', p, t16022, t16023, t16024, w, above) =>
 bif decide ((w.length : Int) > 0) then
  bif inBounds (wr ((w.length : Int) - 1)) w.length then
   bif inBounds (w.getD (wr ((w.length : Int) - 1)).toNat 0) value.1.2.length then
    bif inBounds (w.getD (wr ((w.length : Int) - 1)).toNat 0) value.1.1.length then
     bif inBounds i value.1.2.length then
      bif inBounds i value.1.1.length then
       bif decide ((wr ((value.1.2.getD (w.getD (wr ((w.length : Int) - 1)).toNat 0).toNat 0) - (value.1.1.getD (w.getD (wr ((w.length : Int) - 1)).toNat 0).toNat 0))) ≥ (wr ((value.1.2.getD i.toNat 0) - (value.1.1.getD i.toNat 0)))) then
        bif (decide (0 < w.length)) && ((decide (0 ≤ (wr ((w.length : Int) - 1)))) && (decide ((wr ((w.length : Int) - 1)) ≤ (w.length : Int)))) then
         some (.inl (i, value, rate, next, out, up, down, a, b, i', p, t16022, t16023, t16024, (w.drop 0).take ((wr ((w.length : Int) - 1)).toNat - 0), above))
        else
         none
       else
        some (.inr (i, rate, next, out, up, down, a, b, i', p, t16022, t16023, t16024, w, above))
      else
       none
     else
      none
    else
     none
   else
    none
  else
   none
 else
  some (.inr (i, rate, next, out, up, down, a, b, i', p, t16022, t16023, t16024, w, above))
theorem one65_0b : oneLoop Try.prog 65 0 = true := by kernel_rfl
theorem lp65_0b : ItemOk Try.prog (.loop 65 0 T65_0b X65_0b (loopVal step65_0b)) := item_loopM md5 ext5 (U := 9) (n := 10) noSpecial mixed Gm1K10_ok one65_0b (fun x => by kernel_rfl)
noncomputable def Gm1K11 : List Ev.Item := .loop 65 0 T65_0b X65_0b (loopVal step65_0b) :: Gm1K10
theorem Gm1K11_ok : ∀ q ∈ Gm1K11, ItemOk Try.prog q := items_cons lp65_0b Gm1K10_ok
@[reducible] def T44_4 : Tmpl := ⟨119, [(10, .ref 10 0 0 0), (11, .ref 11 0 0 0)], [.val 2 zI, .ptr 4 (.pair (.slice zI) (.slice zI)), .own 7 19 3 zI, .val 8 (.clo 63 (.pair (.ptr (.pair (.slice zI) (.slice zI))) .unit)), .val 9 (.clo 64 (.pair (.ptr (.pair (.slice zI) (.slice zI))) .unit)), .val 12 zI, .val 13 zI, .val 14 zI, .val 15 zI, .val 22 (.slice zI), .val 23 zI, .val 24 zI, .cells 10 [.own 950 3 zI], .cells 11 [.own 951 3 zI]], [], none⟩
@[reducible] def X44_4 : List (Ex × Tmpl) := [(.exit 4, ⟨119, [(10, .ref 10 0 0 0), (11, .ref 11 0 0 0)], [.val 2 zI, .ptr 4 (.pair (.slice zI) (.slice zI)), .own 7 19 3 zI, .val 8 (.clo 63 (.pair (.ptr (.pair (.slice zI) (.slice zI))) .unit)), .val 9 (.clo 64 (.pair (.ptr (.pair (.slice zI) (.slice zI))) .unit)), .val 12 zI, .val 13 zI, .val 14 zI, .val 15 zI, .val 22 (.slice zI), .val 23 zI, .val 24 zI, .cells 10 [.own 950 3 zI], .cells 11 [.own 951 3 zI]], [], none⟩)]
noncomputable def step44_4 : Int × ((List Int) × List Int) × (List Int) × (((List Int) × List Int) × Unit) × (((List Int) × List Int) × Unit) × Int × Int × Int × Int × (List Int) × Int × Int × (List Int) × (List Int) → Option ((Int × ((List Int) × List Int) × (List Int) × (((List Int) × List Int) × Unit) × (((List Int) × List Int) × Unit) × Int × Int × Int × Int × (List Int) × Int × Int × (List Int) × (List Int)) ⊕ (Int × ((List Int) × List Int) × (List Int) × (((List Int) × List Int) × Unit) × (((List Int) × List Int) × Unit) × Int × Int × Int × Int × (List Int) × Int × Int × (List Int) × (List Int))) := fun (rate, next, out, up, down, a, b, i, p, t22, t23, t24, above, below) =>
 bif decide (b < (next.1.length : Int)) then
  bif inBounds b next.1.length then
   bif decide ((next.1.getD b.toNat 0) ≤ p) then
    optE (loopVal step65_0b (b, down, rate, next, out, up, down, a, b, i, p, t22, t23, t24, below, above)) (fun e5 =>
     bif room 8 (e5.2.2.2.2.2.2.2.2.2.2.2.2.2.1.length + 1) then
      some (.inl (e5.2.1, e5.2.2.1, e5.2.2.2.1, e5.2.2.2.2.1, e5.2.2.2.2.2.1, e5.2.2.2.2.2.2.1, wr (e5.2.2.2.2.2.2.2.1 + 1), e5.2.2.2.2.2.2.2.2.1, e5.2.2.2.2.2.2.2.2.2.1, e5.2.2.2.2.2.2.2.2.2.2.1, e5.2.2.2.2.2.2.2.2.2.2.2.1, e5.2.2.2.2.2.2.2.2.2.2.2.2.1, e5.2.2.2.2.2.2.2.2.2.2.2.2.2.2, e5.2.2.2.2.2.2.2.2.2.2.2.2.2.1 ++ [e5.1]))
     else
      none)
     (none)
   else
    some (.inr (rate, next, out, up, down, a, b, i, p, t22, t23, t24, above, below))
  else
   none
 else
  some (.inr (rate, next, out, up, down, a, b, i, p, t22, t23, t24, above, below))
theorem one44_4 : oneLoop Try.prog 44 4 = true := by kernel_rfl
theorem lp44_4 : ItemOk Try.prog (.loop 44 4 T44_4 X44_4 (loopVal step44_4)) := item_loopM md5 ext5 (U := 9) (n := 11) noSpecial mixed Gm1K11_ok one44_4 (fun x => by kernel_rfl)
noncomputable def Gm1K12 : List Ev.Item := .loop 44 4 T44_4 X44_4 (loopVal step44_4) :: Gm1K11
theorem Gm1K12_ok : ∀ q ∈ Gm1K12, ItemOk Try.prog q := items_cons lp44_4 Gm1K11_ok
@[reducible] def T66_0a : Tmpl := ⟨24, [(0, .ref 1011 0 0 0), (16010, .ref 1010 0 0 0), (16011, .ref 1011 0 0 0)], [.val 1 zI, .val 16002 zI, .ptr 16004 (.pair (.slice zI) (.slice zI)), .own 16007 1019 3 zI, .val 16008 (.clo 63 (.pair (.ptr (.pair (.slice zI) (.slice zI))) .unit)), .val 16009 (.clo 64 (.pair (.ptr (.pair (.slice zI) (.slice zI))) .unit)), .val 16012 zI, .val 16013 zI, .val 16014 zI, .val 16015 zI, .val 16022 (.slice zI), .val 16023 zI, .val 16024 zI, .cells 1011 [.own 1951 3 zI], .cells 1010 [.own 1950 3 zI]], [119], none⟩
@[reducible] def X66_0a : List (Ex × Tmpl) := [(.exit 0, ⟨24, [(16010, .ref 1010 0 0 0), (16011, .ref 1011 0 0 0)], [.val 16002 zI, .ptr 16004 (.pair (.slice zI) (.slice zI)), .own 16007 1019 3 zI, .val 16008 (.clo 63 (.pair (.ptr (.pair (.slice zI) (.slice zI))) .unit)), .val 16009 (.clo 64 (.pair (.ptr (.pair (.slice zI) (.slice zI))) .unit)), .val 16012 zI, .val 16013 zI, .val 16014 zI, .val 16015 zI, .val 16022 (.slice zI), .val 16023 zI, .val 16024 zI, .cells 1010 [.own 1950 3 zI], .cells 1011 [.own 1951 3 zI]], [119], none⟩)]
noncomputable def step66_0a : Int × Int × ((List Int) × List Int) × (List Int) × (((List Int) × List Int) × Unit) × (((List Int) × List Int) × Unit) × Int × Int × Int × Int × (List Int) × Int × Int × (List Int) × (List Int) → Option ((Int × Int × ((List Int) × List Int) × (List Int) × (((List Int) × List Int) × Unit) × (((List Int) × List Int) × Unit) × Int × Int × Int × Int × (List Int) × Int × Int × (List Int) × (List Int)) ⊕ (Int × ((List Int) × List Int) × (List Int) × (((List Int) × List Int) × Unit) × (((List Int) × List Int) × Unit) × Int × Int × Int × Int × (List Int) × Int × Int × (List Int) × (List Int))) := fun (i, rate, next, out, up, down, a, b, i', p, t16022, t16023, t16024, w, above) =>
 bif decide ((w.length : Int) > 0) then
  bif inBounds 0 w.length then
   bif decide ((w.getD 0 0) < i) then
    bif (decide (0 < w.length)) && ((decide (1 ≤ (w.length : Int))) && (decide ((w.length : Int) ≤ (w.length : Int)))) then
     some (.inl (i, rate, next, out, up, down, a, b, i', p, t16022, t16023, t16024, (w.drop 1).take ((w.length : Int).toNat - 1), above))
    else
     none
   else
    some (.inr (rate, next, out, up, down, a, b, i', p, t16022, t16023, t16024, above, w))
  else
   none
 else
  some (.inr (rate, next, out, up, down, a, b, i', p, t16022, t16023, t16024, above, w))
theorem one66_0a : oneLoop Try.prog 66 0 = true := by kernel_rfl
theorem lp66_0a : ItemOk Try.prog (.loop 66 0 T66_0a X66_0a (loopVal step66_0a)) := item_loopM md5 ext5 (U := 9) (n := 10) noSpecial mixed Gm1K12_ok one66_0a (fun x => by kernel_rfl)
noncomputable def Gm1K13 : List Ev.Item := .loop 66 0 T66_0a X66_0a (loopVal step66_0a) :: Gm1K12
theorem Gm1K13_ok : ∀ q ∈ Gm1K13, ItemOk Try.prog q := items_cons lp66_0a Gm1K12_ok
@[reducible] def T44_0 : Tmpl := ⟨119, [(10, .ref 10 0 0 0), (11, .ref 11 0 0 0)], [.val 2 zI, .ptr 4 (.pair (.slice zI) (.slice zI)), .own 7 19 3 zI, .val 8 (.clo 63 (.pair (.ptr (.pair (.slice zI) (.slice zI))) .unit)), .val 9 (.clo 64 (.pair (.ptr (.pair (.slice zI) (.slice zI))) .unit)), .val 12 zI, .val 13 zI, .val 22 (.slice zI), .val 23 zI, .val 24 zI, .cells 10 [.own 950 3 zI], .cells 11 [.own 951 3 zI]], [], none⟩
@[reducible] def X44_0 : List (Ex × Tmpl) := [(.exit 0, ⟨119, [], [.own 7 19 3 zI], [], none⟩)]
noncomputable def step44_0 : Int × ((List Int) × List Int) × (List Int) × (((List Int) × List Int) × Unit) × (((List Int) × List Int) × Unit) × Int × Int × (List Int) × Int × Int × (List Int) × (List Int) → Option ((Int × ((List Int) × List Int) × (List Int) × (((List Int) × List Int) × Unit) × (((List Int) × List Int) × Unit) × Int × Int × (List Int) × Int × Int × (List Int) × (List Int)) ⊕ (List Int)) := fun (rate, next, out, up, down, a, b, t22, t23, t24, above, below) =>
 bif decide (t24 < t23) then
  bif inBounds t24 t22.length then
   optE (loopVal step44_2 (rate, next, out, up, down, a, b, t24, t22.getD t24.toNat 0, t22, t23, t24, above, below)) (fun e2 =>
    optE (s31 (e2.2.1.1, e2.2.2.2.2.2.2.2.2.1)) (fun r3 =>
     optE (loopVal step66_0 (r3, e2.1, e2.2.1, e2.2.2.1, e2.2.2.2.1, e2.2.2.2.2.1, e2.2.2.2.2.2.1, e2.2.2.2.2.2.2.1, e2.2.2.2.2.2.2.2.1, e2.2.2.2.2.2.2.2.2.1, e2.2.2.2.2.2.2.2.2.2.1, e2.2.2.2.2.2.2.2.2.2.2.1, e2.2.2.2.2.2.2.2.2.2.2.2.1, e2.2.2.2.2.2.2.2.2.2.2.2.2.1, e2.2.2.2.2.2.2.2.2.2.2.2.2.2)) (fun e4 =>
      optE (loopVal step44_4 e4) (fun e5 =>
       optE (s31 (e5.2.1.1, wr (e5.2.2.2.2.2.2.2.2.1 - e5.1))) (fun r6 =>
        optE (loopVal step66_0a (r6, e5.1, e5.2.1, e5.2.2.1, e5.2.2.2.1, e5.2.2.2.2.1, e5.2.2.2.2.2.1, e5.2.2.2.2.2.2.1, e5.2.2.2.2.2.2.2.1, e5.2.2.2.2.2.2.2.2.1, e5.2.2.2.2.2.2.2.2.2.1, e5.2.2.2.2.2.2.2.2.2.2.1, e5.2.2.2.2.2.2.2.2.2.2.2.1, e5.2.2.2.2.2.2.2.2.2.2.2.2.2, e5.2.2.2.2.2.2.2.2.2.2.2.2.1)) (fun e7 =>
         bif decide ((e7.2.2.2.2.2.2.2.2.2.2.2.2.1.length : Int) > 0) then
          bif inBounds e7.2.2.2.2.2.2.2.1 e7.2.2.1.length then
           bif inBounds 0 e7.2.2.2.2.2.2.2.2.2.2.2.2.1.length then
            bif inBounds (e7.2.2.2.2.2.2.2.2.2.2.2.2.1.getD 0 0) e7.2.2.2.1.1.2.length then
             bif inBounds (e7.2.2.2.2.2.2.2.2.2.2.2.2.1.getD 0 0) e7.2.2.2.1.1.1.length then
              bif inBounds e7.2.2.2.2.2.2.2.1 e7.2.2.1.length then
               bif decide ((e7.2.2.2.2.2.2.2.2.2.2.2.2.2.length : Int) > 0) then
                bif inBounds e7.2.2.2.2.2.2.2.1 (e7.2.2.1.set e7.2.2.2.2.2.2.2.1.toNat (mn (e7.2.2.1.getD e7.2.2.2.2.2.2.2.1.toNat 0) (wr ((wr ((e7.2.2.2.1.1.2.getD (e7.2.2.2.2.2.2.2.2.2.2.2.2.1.getD 0 0).toNat 0) + (e7.2.2.2.1.1.1.getD (e7.2.2.2.2.2.2.2.2.2.2.2.2.1.getD 0 0).toNat 0))) - e7.2.2.2.2.2.2.2.2.1)))).length then
                 bif inBounds 0 e7.2.2.2.2.2.2.2.2.2.2.2.2.2.length then
                  bif inBounds (e7.2.2.2.2.2.2.2.2.2.2.2.2.2.getD 0 0) e7.2.2.2.2.1.1.2.length then
                   bif inBounds (e7.2.2.2.2.2.2.2.2.2.2.2.2.2.getD 0 0) e7.2.2.2.2.1.1.1.length then
                    bif inBounds e7.2.2.2.2.2.2.2.1 (e7.2.2.1.set e7.2.2.2.2.2.2.2.1.toNat (mn (e7.2.2.1.getD e7.2.2.2.2.2.2.2.1.toNat 0) (wr ((wr ((e7.2.2.2.1.1.2.getD (e7.2.2.2.2.2.2.2.2.2.2.2.2.1.getD 0 0).toNat 0) + (e7.2.2.2.1.1.1.getD (e7.2.2.2.2.2.2.2.2.2.2.2.2.1.getD 0 0).toNat 0))) - e7.2.2.2.2.2.2.2.2.1)))).length then
                     some (.inl (e7.1, e7.2.1, (e7.2.2.1.set e7.2.2.2.2.2.2.2.1.toNat (mn (e7.2.2.1.getD e7.2.2.2.2.2.2.2.1.toNat 0) (wr ((wr ((e7.2.2.2.1.1.2.getD (e7.2.2.2.2.2.2.2.2.2.2.2.2.1.getD 0 0).toNat 0) + (e7.2.2.2.1.1.1.getD (e7.2.2.2.2.2.2.2.2.2.2.2.2.1.getD 0 0).toNat 0))) - e7.2.2.2.2.2.2.2.2.1)))).set e7.2.2.2.2.2.2.2.1.toNat (mn ((e7.2.2.1.set e7.2.2.2.2.2.2.2.1.toNat (mn (e7.2.2.1.getD e7.2.2.2.2.2.2.2.1.toNat 0) (wr ((wr ((e7.2.2.2.1.1.2.getD (e7.2.2.2.2.2.2.2.2.2.2.2.2.1.getD 0 0).toNat 0) + (e7.2.2.2.1.1.1.getD (e7.2.2.2.2.2.2.2.2.2.2.2.2.1.getD 0 0).toNat 0))) - e7.2.2.2.2.2.2.2.2.1)))).getD e7.2.2.2.2.2.2.2.1.toNat 0) (wr ((wr ((e7.2.2.2.2.1.1.2.getD (e7.2.2.2.2.2.2.2.2.2.2.2.2.2.getD 0 0).toNat 0) - (e7.2.2.2.2.1.1.1.getD (e7.2.2.2.2.2.2.2.2.2.2.2.2.2.getD 0 0).toNat 0))) + e7.2.2.2.2.2.2.2.2.1))), e7.2.2.2.1, e7.2.2.2.2.1, e7.2.2.2.2.2.1, e7.2.2.2.2.2.2.1, e7.2.2.2.2.2.2.2.2.2.1, e7.2.2.2.2.2.2.2.2.2.2.1, wr (e7.2.2.2.2.2.2.2.2.2.2.2.1 + 1), e7.2.2.2.2.2.2.2.2.2.2.2.2.1, e7.2.2.2.2.2.2.2.2.2.2.2.2.2))
                    else
                     none
                   else
                    none
                  else
                   none
                 else
                  none
                else
                 none
               else
                some (.inl (e7.1, e7.2.1, e7.2.2.1.set e7.2.2.2.2.2.2.2.1.toNat (mn (e7.2.2.1.getD e7.2.2.2.2.2.2.2.1.toNat 0) (wr ((wr ((e7.2.2.2.1.1.2.getD (e7.2.2.2.2.2.2.2.2.2.2.2.2.1.getD 0 0).toNat 0) + (e7.2.2.2.1.1.1.getD (e7.2.2.2.2.2.2.2.2.2.2.2.2.1.getD 0 0).toNat 0))) - e7.2.2.2.2.2.2.2.2.1))), e7.2.2.2.1, e7.2.2.2.2.1, e7.2.2.2.2.2.1, e7.2.2.2.2.2.2.1, e7.2.2.2.2.2.2.2.2.2.1, e7.2.2.2.2.2.2.2.2.2.2.1, wr (e7.2.2.2.2.2.2.2.2.2.2.2.1 + 1), e7.2.2.2.2.2.2.2.2.2.2.2.2.1, e7.2.2.2.2.2.2.2.2.2.2.2.2.2))
              else
               none
             else
              none
            else
             none
           else
            none
          else
           none
         else
          bif decide ((e7.2.2.2.2.2.2.2.2.2.2.2.2.2.length : Int) > 0) then
           bif inBounds e7.2.2.2.2.2.2.2.1 e7.2.2.1.length then
            bif inBounds 0 e7.2.2.2.2.2.2.2.2.2.2.2.2.2.length then
             bif inBounds (e7.2.2.2.2.2.2.2.2.2.2.2.2.2.getD 0 0) e7.2.2.2.2.1.1.2.length then
              bif inBounds (e7.2.2.2.2.2.2.2.2.2.2.2.2.2.getD 0 0) e7.2.2.2.2.1.1.1.length then
               bif inBounds e7.2.2.2.2.2.2.2.1 e7.2.2.1.length then
                some (.inl (e7.1, e7.2.1, e7.2.2.1.set e7.2.2.2.2.2.2.2.1.toNat (mn (e7.2.2.1.getD e7.2.2.2.2.2.2.2.1.toNat 0) (wr ((wr ((e7.2.2.2.2.1.1.2.getD (e7.2.2.2.2.2.2.2.2.2.2.2.2.2.getD 0 0).toNat 0) - (e7.2.2.2.2.1.1.1.getD (e7.2.2.2.2.2.2.2.2.2.2.2.2.2.getD 0 0).toNat 0))) + e7.2.2.2.2.2.2.2.2.1))), e7.2.2.2.1, e7.2.2.2.2.1, e7.2.2.2.2.2.1, e7.2.2.2.2.2.2.1, e7.2.2.2.2.2.2.2.2.2.1, e7.2.2.2.2.2.2.2.2.2.2.1, wr (e7.2.2.2.2.2.2.2.2.2.2.2.1 + 1), e7.2.2.2.2.2.2.2.2.2.2.2.2.1, e7.2.2.2.2.2.2.2.2.2.2.2.2.2))
               else
                none
              else
               none
             else
              none
            else
             none
           else
            none
          else
           some (.inl (e7.1, e7.2.1, e7.2.2.1, e7.2.2.2.1, e7.2.2.2.2.1, e7.2.2.2.2.2.1, e7.2.2.2.2.2.2.1, e7.2.2.2.2.2.2.2.2.2.1, e7.2.2.2.2.2.2.2.2.2.2.1, wr (e7.2.2.2.2.2.2.2.2.2.2.2.1 + 1), e7.2.2.2.2.2.2.2.2.2.2.2.2.1, e7.2.2.2.2.2.2.2.2.2.2.2.2.2)))
         (none))
        (none))
       (none))
      (none))
     (none))
    (none)
  else
   none
 else
  some (.inr out)
theorem one44_0 : oneLoop Try.prog 44 0 = true := by kernel_rfl
theorem lp44_0 : ItemOk Try.prog (.loop 44 0 T44_0 X44_0 (loopVal step44_0)) := item_loopM md5 ext5 (U := 9) (n := 11) noSpecial mixed Gm1K13_ok one44_0 (fun x => by kernel_rfl)
noncomputable def Gm1K14 : List Ev.Item := .loop 44 0 T44_0 X44_0 (loopVal step44_0) :: Gm1K13
theorem Gm1K14_ok : ∀ q ∈ Gm1K14, ItemOk Try.prog q := items_cons lp44_0 Gm1K13_ok
noncomputable def s44 : (List Int) × ((List Int) × List Int) × Int → Option (List Int) := fun (from0, next, rate) =>
 optE (s62 ([1152921504606846976], (from0.length : Int))) (fun r1 =>
  optE (loopVal step44_0 (rate, next, r1, (next, ()), (next, ()), 0, 0, from0, (from0.length : Int), 0, [], [])) (fun e2 =>
   some (e2))
   (none))
  (none)
theorem i44 : ItemOk Try.prog (.fn 44 [.d (.slice zI), .d (.agg (.pair (.slice zI) (.slice zI))), .d zI] [.own 3 zI] s44) := item_fnM md5 ext5 (U := 9) (n := 12) noSpecial mixed Gm1K14_ok (fun x => by kernel_rfl)
noncomputable def Gm1K15 : List Ev.Item := .fn 44 [.d (.slice zI), .d (.agg (.pair (.slice zI) (.slice zI))), .d zI] [.own 3 zI] s44 :: Gm1K14
theorem Gm1K15_ok : ∀ q ∈ Gm1K15, ItemOk Try.prog q := items_cons i44 Gm1K14_ok
end Go.Proofs.Ythabingkfmlbbaa
