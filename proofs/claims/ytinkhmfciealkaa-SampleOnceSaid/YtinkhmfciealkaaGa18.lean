/- Printed by gen.py: specifications of functions. -/
import Derived.Test.YtinkhmfciealkaaGa17
import Derived.Test.YtinkhmfciealkaaPure02g
set_option linter.unusedSimpArgs false
set_option maxRecDepth 100000
namespace Go.Proofs.Ytinkhmfciealkaa
open Go.Ev

/-! cassegrain sample.CheckPacket -/
noncomputable def s19 : Pkt → Option (Int) := fun p =>
  bif win p.1 0 1023 then
    bif win p.2.1 1 100 then
      bif okG 2000 p.2.2.1 then
        bif okG 2000 p.2.2.2.1 then
          bif okG 2000 p.2.2.2.2.1 then
            bif okG 2000 p.2.2.2.2.2.1 then
              bif okG 2000 p.2.2.2.2.2.2.1 then
                bif okG 2000 p.2.2.2.2.2.2.2.1 then
                  bif okG 2000 p.2.2.2.2.2.2.2.2.1 then
                    some (unl (okG 2000 p.2.2.2.2.2.2.2.2.2) 2)
                  else
                    some (unl false 2)
                else
                  some (unl false 2)
              else
                some (unl false 2)
            else
              some (unl false 2)
          else
            some (unl false 2)
        else
          some (unl false 2)
      else
        some (unl false 2)
    else
      some (unl false 2)
  else
    some (unl false 2)
theorem i19 : ItemOk Try.prog (.fn 19 [.d (.agg (.pair (.int .i64) (.pair (.int .i64) (.pair (.pair (.int .i64) (.int .i64)) (.pair (.pair (.int .i64) (.int .i64)) (.pair (.pair (.int .i64) (.int .i64)) (.pair (.pair (.int .i64) (.int .i64)) (.pair (.pair (.int .i64) (.int .i64)) (.pair (.pair (.int .i64) (.int .i64)) (.pair (.pair (.int .i64) (.int .i64)) (.pair (.int .i64) (.int .i64))))))))))))] [.d (.int .i64)] s19) := item_fn (U := 9) (n := 4) noSpecial mixed Ga17K4_ok (fun x => by kernel_rfl)
theorem law19 (p : Pkt) : s19 p = some (unl (okPkt p) 2) := by
  simp only [s19, okPkt, gErr, unl]
  cases win p.1 0 1023
  · rfl
  cases win p.2.1 1 100
  · rfl
  cases okG 2000 p.2.2.1
  · rfl
  cases okG 2000 p.2.2.2.1
  · rfl
  cases okG 2000 p.2.2.2.2.1
  · rfl
  cases okG 2000 p.2.2.2.2.2.1
  · rfl
  cases okG 2000 p.2.2.2.2.2.2.1
  · rfl
  cases okG 2000 p.2.2.2.2.2.2.2.1
  · rfl
  cases okG 2000 p.2.2.2.2.2.2.2.2.1
  · rfl
  cases okG 2000 p.2.2.2.2.2.2.2.2.2 <;> rfl
theorem j19 : ItemOk Try.prog (.fn 19 [.d (.agg (.pair (.int .i64) (.pair (.int .i64) (.pair (.pair (.int .i64) (.int .i64)) (.pair (.pair (.int .i64) (.int .i64)) (.pair (.pair (.int .i64) (.int .i64)) (.pair (.pair (.int .i64) (.int .i64)) (.pair (.pair (.int .i64) (.int .i64)) (.pair (.pair (.int .i64) (.int .i64)) (.pair (.pair (.int .i64) (.int .i64)) (.pair (.int .i64) (.int .i64))))))))))))] [.d (.int .i64)] (fun x => some (unl (okPkt x) 2))) := item_imp i19 (by
  intro x y h
  rw [← h]
  exact law19 x)
noncomputable def Ga18K1 : List Ev.Item := .fn 19 [.d (.agg (.pair (.int .i64) (.pair (.int .i64) (.pair (.pair (.int .i64) (.int .i64)) (.pair (.pair (.int .i64) (.int .i64)) (.pair (.pair (.int .i64) (.int .i64)) (.pair (.pair (.int .i64) (.int .i64)) (.pair (.pair (.int .i64) (.int .i64)) (.pair (.pair (.int .i64) (.int .i64)) (.pair (.pair (.int .i64) (.int .i64)) (.pair (.int .i64) (.int .i64))))))))))))] [.d (.int .i64)] (fun x => some (unl (okPkt x) 2)) :: Ga17K4
theorem Ga18K1_ok : ∀ q ∈ Ga18K1, ItemOk Try.prog q := items_cons j19 Ga17K4_ok

/-! cassegrain cassegrainref02.PacketErr -/
noncomputable def s20 : Pkt → Option (Int) := fun p =>
  bif !(win p.1 0 1023) then
    some (2)
  else
    bif !(win p.2.1 1 100) then
      some (2)
    else
      bif (gErr 2000 p.2.2.1) != 0 then
        some (gErr 2000 p.2.2.1)
      else
        bif (gErr 2000 p.2.2.2.1) != 0 then
          some (gErr 2000 p.2.2.2.1)
        else
          bif (gErr 2000 p.2.2.2.2.1) != 0 then
            some (gErr 2000 p.2.2.2.2.1)
          else
            bif (gErr 2000 p.2.2.2.2.2.1) != 0 then
              some (gErr 2000 p.2.2.2.2.2.1)
            else
              bif (gErr 2000 p.2.2.2.2.2.2.1) != 0 then
                some (gErr 2000 p.2.2.2.2.2.2.1)
              else
                bif (gErr 2000 p.2.2.2.2.2.2.2.1) != 0 then
                  some (gErr 2000 p.2.2.2.2.2.2.2.1)
                else
                  bif (gErr 2000 p.2.2.2.2.2.2.2.2.1) != 0 then
                    some (gErr 2000 p.2.2.2.2.2.2.2.2.1)
                  else
                    bif (gErr 2000 p.2.2.2.2.2.2.2.2.2) != 0 then
                      some (gErr 2000 p.2.2.2.2.2.2.2.2.2)
                    else
                      some (0)
theorem i20 : ItemOk Try.prog (.fn 20 [.d (.agg (.pair (.int .i64) (.pair (.int .i64) (.pair (.pair (.int .i64) (.int .i64)) (.pair (.pair (.int .i64) (.int .i64)) (.pair (.pair (.int .i64) (.int .i64)) (.pair (.pair (.int .i64) (.int .i64)) (.pair (.pair (.int .i64) (.int .i64)) (.pair (.pair (.int .i64) (.int .i64)) (.pair (.pair (.int .i64) (.int .i64)) (.pair (.int .i64) (.int .i64))))))))))))] [.d (.int .i64)] s20) := item_fn (U := 9) (n := 4) noSpecial mixed Ga18K1_ok (fun x => by kernel_rfl)
theorem law20 (p : Pkt) : s20 p = some (unl (okPkt p) 2) := by
  simp only [s20, okPkt, gErr, unl]
  cases win p.1 0 1023
  · rfl
  cases win p.2.1 1 100
  · rfl
  cases okG 2000 p.2.2.1
  · rfl
  cases okG 2000 p.2.2.2.1
  · rfl
  cases okG 2000 p.2.2.2.2.1
  · rfl
  cases okG 2000 p.2.2.2.2.2.1
  · rfl
  cases okG 2000 p.2.2.2.2.2.2.1
  · rfl
  cases okG 2000 p.2.2.2.2.2.2.2.1
  · rfl
  cases okG 2000 p.2.2.2.2.2.2.2.2.1
  · rfl
  cases okG 2000 p.2.2.2.2.2.2.2.2.2 <;> rfl
theorem j20 : ItemOk Try.prog (.fn 20 [.d (.agg (.pair (.int .i64) (.pair (.int .i64) (.pair (.pair (.int .i64) (.int .i64)) (.pair (.pair (.int .i64) (.int .i64)) (.pair (.pair (.int .i64) (.int .i64)) (.pair (.pair (.int .i64) (.int .i64)) (.pair (.pair (.int .i64) (.int .i64)) (.pair (.pair (.int .i64) (.int .i64)) (.pair (.pair (.int .i64) (.int .i64)) (.pair (.int .i64) (.int .i64))))))))))))] [.d (.int .i64)] (fun x => some (unl (okPkt x) 2))) := item_imp i20 (by
  intro x y h
  rw [← h]
  exact law20 x)
noncomputable def Ga18K2 : List Ev.Item := .fn 20 [.d (.agg (.pair (.int .i64) (.pair (.int .i64) (.pair (.pair (.int .i64) (.int .i64)) (.pair (.pair (.int .i64) (.int .i64)) (.pair (.pair (.int .i64) (.int .i64)) (.pair (.pair (.int .i64) (.int .i64)) (.pair (.pair (.int .i64) (.int .i64)) (.pair (.pair (.int .i64) (.int .i64)) (.pair (.pair (.int .i64) (.int .i64)) (.pair (.int .i64) (.int .i64))))))))))))] [.d (.int .i64)] (fun x => some (unl (okPkt x) 2)) :: Ga18K1
theorem Ga18K2_ok : ∀ q ∈ Ga18K2, ItemOk Try.prog q := items_cons j20 Ga18K1_ok

/-! cassegrain sample.unwrapped -/
noncomputable def s88 : Int × Int → Option (Int) := fun (near, counter) =>
  bif decide ((wr (near + (Int.tmod (wr (counter - near)) 1024))) < near) then
    bif decide ((wr ((wr ((wr (near + (Int.tmod (wr (counter - near)) 1024))) + 1024)) - 1024)) ≥ 0) then
      bif decide ((wr (near - (wr ((wr ((wr (near + (Int.tmod (wr (counter - near)) 1024))) + 1024)) - 1024)))) < (wr ((wr ((wr (near + (Int.tmod (wr (counter - near)) 1024))) + 1024)) - near))) then
        some (wr ((wr ((wr (near + (Int.tmod (wr (counter - near)) 1024))) + 1024)) - 1024))
      else
        some (wr ((wr (near + (Int.tmod (wr (counter - near)) 1024))) + 1024))
    else
      some (wr ((wr (near + (Int.tmod (wr (counter - near)) 1024))) + 1024))
  else
    bif decide ((wr ((wr (near + (Int.tmod (wr (counter - near)) 1024))) - 1024)) ≥ 0) then
      bif decide ((wr (near - (wr ((wr (near + (Int.tmod (wr (counter - near)) 1024))) - 1024)))) < (wr ((wr (near + (Int.tmod (wr (counter - near)) 1024))) - near))) then
        some (wr ((wr (near + (Int.tmod (wr (counter - near)) 1024))) - 1024))
      else
        some (wr (near + (Int.tmod (wr (counter - near)) 1024)))
    else
      some (wr (near + (Int.tmod (wr (counter - near)) 1024)))
theorem i88 : ItemOk Try.prog (.fn 88 [.d (.int .i64), .d (.int .i64)] [.d (.int .i64)] s88) := item_fn (U := 9) (n := 4) noSpecial mixed Ga18K2_ok (fun x => by kernel_rfl)
theorem law88 (a : Int) (c : Int) (hg : inR a c = true) : s88 (a, c) = some (best a c) := by
  rw [← nearest_law hg]; rfl
noncomputable def p88 : (Int) × (Int) → Option (Int) := fun x => if inR x.1 x.2 = true then some (best x.1 x.2) else none
theorem p88_pos {x : (Int) × (Int)} (h : inR x.1 x.2 = true) : p88 x = some (best x.1 x.2) := if_pos h
theorem j88 : ItemOk Try.prog (.fn 88 [.d (.int .i64), .d (.int .i64)] [.d (.int .i64)] (p88)) := item_imp i88 (by
  intro x y h
  unfold p88 at h
  split at h
  · rename_i hg
    rw [← h]
    exact law88 x.1 x.2 hg
  · cases h)
noncomputable def Ga18K3 : List Ev.Item := .fn 88 [.d (.int .i64), .d (.int .i64)] [.d (.int .i64)] (p88) :: Ga18K2
theorem Ga18K3_ok : ∀ q ∈ Ga18K3, ItemOk Try.prog q := items_cons j88 Ga18K2_ok

/-! cassegrain cassegrainref02.Unwrapped -/
@[reducible] def T22_0 : Tmpl := ⟨38, [], [.val 0 (.int .i64), .val 1 (.int .i64), .val 5 (.int .i64), .val 6 (.int .i64)]⟩
@[reducible] def X22_0 : List (Ex × Tmpl) := [(.exit 0, ⟨38, [], [.val 5 (.int .i64)]⟩)]
/-- data: near, counter, best, n; ends: exit 0: best -/
noncomputable def step22_0 : Int × Int × Int × Int → Option ((Int × Int × Int × Int) ⊕ (Int)) := fun (near, counter, best, n) =>
  bif decide (n ≤ (wr (near + 2048))) then
    bif decide (n ≥ 0) then
      bif ((wr (n - counter)) % 1024) == 0 then
        bif decide ((sizeW (wr (n - near))) ≤ (sizeW (wr (best - near)))) then
          some (.inl (near, counter, n, wr (n + 1)))
        else
          some (.inl (near, counter, best, wr (n + 1)))
      else
        some (.inl (near, counter, best, wr (n + 1)))
    else
      some (.inl (near, counter, best, wr (n + 1)))
  else
    some (.inr best)
theorem one22_0 : oneLoop Try.prog 22 0 = true := by kernel_rfl
theorem lp22_0 : ItemOk Try.prog (.loop 22 0 T22_0 X22_0 (loopVal step22_0)) := item_loop (U := 9) (n := 3) noSpecial mixed Ga18K3_ok one22_0 (fun x => by kernel_rfl)
noncomputable def Ga18K4 : List Ev.Item := .loop 22 0 T22_0 X22_0 (loopVal step22_0) :: Ga18K3
theorem Ga18K4_ok : ∀ q ∈ Ga18K4, ItemOk Try.prog q := items_cons lp22_0 Ga18K3_ok
noncomputable def s22 : Int × Int → Option (Int) := fun (near, counter) =>
  optE (loopVal step22_0 (near, counter, counter, wr (near - 2048))) (fun e1 =>
    some (e1))
    (none)
theorem i22 : ItemOk Try.prog (.fn 22 [.d (.int .i64), .d (.int .i64)] [.d (.int .i64)] s22) := item_fn (U := 9) (n := 4) noSpecial mixed Ga18K4_ok (fun x => by kernel_rfl)
theorem law22 (a : Int) (c : Int) (hg : inR a c = true) : s22 (a, c) = some (best a c) := by
  obtain ⟨h1, h2, h3, h4⟩ := inR_spec.1 hg
  have hf := best_facts (c := c) h1
  have hl := loop_for (step := step22_0) (st := fun k => (a, c, searchTo a c (a - 2048) k, a - 2048 + (k : Int))) (n := 4097) (e := best a c)
    (fun k hk => by
      obtain ⟨s1, s2, s3, _⟩ := search_facts h1 ⟨h3, h4⟩ (n0 := a - 2048) (by omega) k
      simp only [step22_0]
      rw [wr_id (n := a + 2048) (by omega) (by omega), decide_eq_true (show a - 2048 + (k : Int) ≤ a + 2048 by omega), cond_true, wr_id (n := a - 2048 + (k : Int) - c) (by omega) (by omega), wr_id (n := a - 2048 + (k : Int) - a) (by omega) (by omega),
        wr_id (n := searchTo a c (a - 2048) k - a) (by omega) (by omega), wr_id (n := a - 2048 + (k : Int) + 1) (by omega) (by omega), sizeW_eq (by omega) (by omega), sizeW_eq (by omega) (by omega)]
      have e : a - 2048 + (k : Int) + 1 = a - 2048 + ((k + 1 : Nat) : Int) := by omega
      rw [e]
      simp only [searchTo, pickB]
      by_cases g1 : a - 2048 + (k : Int) ≥ 0
      · rw [decide_eq_true g1, cond_true]
        by_cases g2 : (a - 2048 + (k : Int) - c) % 1024 = 0
        · rw [g2, beq_self_eq_true, cond_true]
          by_cases g3 : sizeI (a - 2048 + (k : Int) - a) ≤ sizeI (searchTo a c (a - 2048) k - a)
          · rw [decide_eq_true g3, cond_true, if_pos ⟨g1, rfl, g3⟩]
          · rw [decide_eq_false g3, cond_false, if_neg (fun h => g3 h.2.2)]
        · rw [show ((a - 2048 + (k : Int) - c) % 1024 == 0) = false by simpa using g2, cond_false, if_neg (fun h => g2 h.2.1)]
      · rw [decide_eq_false g1, cond_false, if_neg (fun h => g1 h.1)]) (by
      simp only [step22_0]
      rw [wr_id (n := a + 2048) (by omega) (by omega), decide_eq_false (by omega), cond_false, (search_facts h1 ⟨h3, h4⟩ (n0 := a - 2048) (by omega) 4097).2.2.2 (by omega)]) 0 (by omega)
  have h0 : searchTo a c (a - 2048) 0 = c := rfl
  rw [h0, show a - 2048 + ((0 : Nat) : Int) = a - 2048 by omega] at hl
  simp only [s22, wr_id (n := a - 2048) (by omega) (by omega), hl, optE]
noncomputable def p22 : (Int) × (Int) → Option (Int) := fun x => if inR x.1 x.2 = true then some (best x.1 x.2) else none
theorem p22_pos {x : (Int) × (Int)} (h : inR x.1 x.2 = true) : p22 x = some (best x.1 x.2) := if_pos h
theorem j22 : ItemOk Try.prog (.fn 22 [.d (.int .i64), .d (.int .i64)] [.d (.int .i64)] (p22)) := item_imp i22 (by
  intro x y h
  unfold p22 at h
  split at h
  · rename_i hg
    rw [← h]
    exact law22 x.1 x.2 hg
  · cases h)
noncomputable def Ga18K5 : List Ev.Item := .fn 22 [.d (.int .i64), .d (.int .i64)] [.d (.int .i64)] (p22) :: Ga18K4
theorem Ga18K5_ok : ∀ q ∈ Ga18K5, ItemOk Try.prog q := items_cons j22 Ga18K4_ok
end Go.Proofs.Ytinkhmfciealkaa
