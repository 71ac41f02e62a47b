/- Chapter 1: PathSeen, the law. -/
import Derived.Test.YtgpfdacidgmelaaSeen
set_option linter.unusedSimpArgs false
namespace Go.Proofs.Ytgpfdacidgmelaa
open Go.Ev

/-- A view at a time, with its gap. -/
structure At (s : Si) (a b : Tr) (time : Int) (g : Gp) : Prop where
  site : SiteOk s
  ea : (trkE a).2 = 0
  eb : (trkE b).2 = 0
  ta : tErr time a = 0
  tb : tErr time b = 0
  ok : GpOk g
  gap : s69 (a, time, b, time) = some g

theorem s38_eq {s : Si} {a b : Tr} {time : Int} {g : Gp} (A : At s a b time g) : s38 ((s, a, b), time) = some (answer s g, 0) := by
  have Va := valid_of A.ea
  have Vb := valid_of A.eb
  have e59 : s59 [a, b] = some 0 := by rw [s59_eq _ (by simp)]; simp only [List.map_cons, List.map_nil, firstE_two, A.ea, A.eb]; rfl
  have e60 : s60 (time, [a, b]) = some 0 := by
    rw [s60_eq _ _ (by simp) (fun p hp => by rcases List.mem_cons.1 hp with rfl | hp; exact Va; rcases List.mem_cons.1 hp with rfl | hp; exact Vb; cases hp)]
    simp only [List.map_cons, List.map_nil, firstE_two, A.ta, A.tb]; rfl
  have e72 : s72 (s, a, b) = some 0 := by
    unfold s72
    simp only [s102_eq A.site, e59, optE_some]
    rw [s46_eq _ (by simp)]
    rfl
  unfold s38
  simp only [e72, e60, s73_eq A.site A.ok A.gap, optE_some, show ((0 : Int) != 0) = false from rfl, cond_false]

theorem s39_eq {s : Si} {a b : Tr} (hs : s.2.length ≤ 1000) (ha : a.1.length ≤ 1000) (hb : b.1.length ≤ 1000) : s39 (s, a, b) = some (s, a, b) := by
  have h74 : s74 s = some s := by
    obtain ⟨u, cs⟩ := s
    cases cs with
    | nil => rfl
    | cons c cs =>
      have hr : room 40 (cs.length + 1) = true := room_true (by simp at hs; omega) (by simp at hs; omega)
      simp only [s74, listE, hr, cond_true]
  unfold s39
  simp only [h74, copy_ok ha, copy_ok hb, optE_some]

theorem seen_true (x : Vw × Int × Int) : s8 x = some true := by
  obtain ⟨⟨s, a, b⟩, time, less⟩ := x
  have e36 : s36 (s, a, b) = some ((decide (a.1.length ≤ 14) && decide (b.1.length ≤ 14)) && decide (s.2.length ≤ 6)) := by
    unfold s36
    simp only [s29_eq, optE_some]
    have : decide ((s.2.length : Int) ≤ 6) = decide (s.2.length ≤ 6) := by
      by_cases h : s.2.length ≤ 6
      · rw [decide_eq_true h, decide_eq_true (by omega)]
      · rw [decide_eq_false h, decide_eq_false (by omega)]
    rw [this]
    cases (decide (a.1.length ≤ 14) && decide (b.1.length ≤ 14)) <;> rfl
  unfold s8
  simp only [Bool.not_true, cond_false, e36, optE_some]
  cases hf : (decide (a.1.length ≤ 14) && decide (b.1.length ≤ 14)) && decide (s.2.length ≤ 6)
  case false => rfl
  simp only [Bool.and_eq_true, decide_eq_true_eq] at hf
  obtain ⟨⟨fa, fb⟩, fs⟩ := hf
  obtain ⟨r, e71, hsite⟩ := s71_eq (s := s) (by omega)
  have e37 : s37 (s, a, b) = some (bif r.2 != 0 then r.2 else (bif (trkE a).2 != 0 then (trkE a).2 else (trkE b).2)) := by
    unfold s37
    simp only [e71, s30_eq, optE_some]
    cases r.2 != 0 <;> rfl
  simp only [Bool.not_true, cond_false, e37, optE_some]
  cases hv : (bif r.2 != 0 then r.2 else (bif (trkE a).2 != 0 then (trkE a).2 else (trkE b).2)) != 0
  case true => rfl
  obtain ⟨h1, h2⟩ := both_zero.1 hv
  have hab : ((bif (trkE a).2 != 0 then (trkE a).2 else (trkE b).2) != 0) = false := by rw [h2]; rfl
  obtain ⟨ha, hb⟩ := both_zero.1 hab
  have S := hsite h1
  have Va := valid_of ha
  have Vb := valid_of hb
  simp only [cond_false, s32_eq Va Vb, optE_some]
  cases hab : (bif tErr time a != 0 then tErr time a else tErr time b) != 0
  case true => rfl
  obtain ⟨ta, tb⟩ := both_zero.1 hab
  simp only [cond_false, s33_eq, optE_some]
  cases hm' : win less 0 b.2
  case false => rfl
  have hm := win_iff.1 hm'
  have hda := Va.doubt
  have hdb := Vb.doubt
  have hw : wr (b.2 - less) = b.2 - less := wr_id (by omega) (by omega)
  have hsharp := trk_doubt hb (e := b.2 - less) (by omega)
  have Vw := valid_of hsharp
  have tw : tErr time (b.1, b.2 - less) = 0 := tb
  obtain ⟨p, p1, _, pk, _⟩ := at_ok Va (time := time) (win_iff.1 (unl_zero (by omega) ta))
  obtain ⟨q, q1, _, qk, m, qm, qe⟩ := at_ok Vb (time := time) (win_iff.1 (unl_zero (by omega) tb))
  obtain ⟨q', w1, _, _, m', wm, we⟩ := at_ok Vw (time := time) (win_iff.1 (unl_zero (by omega) tw))
  have hqq : q' = q := by rw [we, qe, qm.uniq wm]
  rw [hqq] at w1
  have hd := (dens pk qk).1
  have G := gap_ok pk qk (e := a.2 + b.2) (by omega)
  have G' := gap_ok pk qk (e := a.2 + (b.2 - less)) (by omega)
  have g1 := s69_eq p1 q1 pk qk hda hdb
  have g2 := s69_eq p1 w1 pk qk hda Vw.doubt
  have A : At s a b time (gap p q (a.2 + b.2)) := ⟨S, ha, hb, ta, tb, G, g1⟩
  have B : At s a (b.1, b.2 - less) time (gap p q (a.2 + (b.2 - less))) := ⟨S, ha, hsharp, ta, tw, G', g2⟩
  have AO : At (openS s) a b time (gap p q (a.2 + b.2)) := ⟨openS_ok S, ha, hb, ta, tb, G, g1⟩
  have AD : At (downS s) a b time (gap p q (a.2 + b.2)) := ⟨downS_ok S, ha, hb, ta, tb, G, g1⟩
  have AF : At (fewerS s) a b time (gap p q (a.2 + b.2)) := ⟨fewerS_ok S, ha, hb, ta, tb, G, g1⟩
  have e1 := s38_eq A
  have e2 := s38_eq B
  have e3 := s38_eq AO
  have e4 := s38_eq AD
  have e5 := s38_eq AF
  have hdown : (((wr (-s.1.1), wr (-s.1.2.1), wr (-s.1.2.2)), ([] : List Co)) : Si) = downS s := by
    obtain ⟨hx, hy, hz⟩ := S.up
    rw [wr_id (by omega) (by omega), wr_id (by omega) (by omega), wr_id (by omega) (by omega)]; rfl
  have c1 := s39_eq (s := s) (a := a) (b := b) (by omega) (by omega) (by omega)
  have c2 := s39_eq (s := openS s) (a := a) (b := b) (by simp [openS]) (by omega) (by omega)
  have hopen : ((s.1, ([] : List Co)) : Si) = openS s := rfl
  have hfew : ((s.1, s.2.drop 1) : Si) = fewerS s := rfl
  have hol : (openS s).2 = [] := rfl
  simp only [Bool.not_true, cond_false, c1, e1, optE_some, hw, e2, hopen, c2, e3, hol, hdown, e4, hfew, e5, show ((0 : Int) != 0) = false from rfl, show ((0 : Int) == 0) = true from rfl, cond_true]
  have l1 : answer s (gap p q (a.2 + b.2)) = 2 → answer s (gap p q (a.2 + (b.2 - less))) = 2 := fun h => answer_yes.2 (sure_mono S (by omega) (by omega) (by omega) (answer_yes.1 h))
  have l0 : answer s (gap p q (a.2 + b.2)) = 0 → answer s (gap p q (a.2 + (b.2 - less))) = 0 := fun h => (answer_no' S G').2 (never_mono S (by omega) (by omega) (by omega) ((answer_no' S G).1 h))
  have o1 := open_no (s := s) S G
  have o2 := yes_open (s := s) (g := gap p q (a.2 + b.2))
  have f1 := yes_fewer (s := s) (g := gap p q (a.2 + b.2))
  have f2 := fewer_no (s := s) S G
  have n0 : s.2.length = 0 → answer (openS s) (gap p q (a.2 + b.2)) = answer s (gap p q (a.2 + b.2)) := fun h => by
    have : s = openS s := by
      obtain ⟨u, cs⟩ := s
      have : cs = [] := List.eq_nil_of_length_eq_zero h
      rw [this]; rfl
    rw [← this]
  have hX := answer_cases s (gap p q (a.2 + b.2))
  have hU := answer_cases (openS s) (gap p q (a.2 + b.2))
  have hZ := answer_cases (fewerS s) (gap p q (a.2 + b.2))
  by_cases hl : s.2.length = 0
  · have b1 : ((s.2.length : Int) == 0) = true := by rw [hl]; rfl
    have := n0 hl
    simp only [b1, cond_true]
    rcases hX with x | x | x <;> rw [x] at this l0 l1 o1 <;> simp only [x, this]
    · have y := l0 rfl
      have d := (o1 this).2
      simp [y, d]
    · simp
    · have y := l1 rfl
      simp [y]
  · have b1 : ((s.2.length : Int) == 0) = false := beq_eq_false_iff_ne.2 (by omega)
    have b2 : decide (1 ≤ (s.2.length : Int)) = true := decide_eq_true (by omega)
    simp only [b1, b2, cond_true, cond_false]
    rcases hX with x | x | x
    · have y := l0 x
      rcases hU with u | u | u
      · have d := (o1 u).2
        rcases hZ with z | z | z <;> simp [x, y, u, d, z]
      · rcases hZ with z | z | z <;> simp [x, y, u, z]
      · rcases hZ with z | z | z <;> simp [x, y, u, z]
    · rcases hU with u | u | u
      · have := (o1 u).1; omega
      · rcases hZ with z | z | z
        · have := f2 z; omega
        · simp [x, u, z]
        · simp [x, u, z]
      · rcases hZ with z | z | z
        · have := f2 z; omega
        · simp [x, u, z]
        · simp [x, u, z]
    · have y := l1 x
      have u := o2 x
      have z := f1 x
      simp [x, y, u, z]
end Go.Proofs.Ytgpfdacidgmelaa
