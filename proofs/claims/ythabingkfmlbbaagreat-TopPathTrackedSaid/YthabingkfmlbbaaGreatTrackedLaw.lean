/- What is tracked is seen: the law. -/
import Derived.Test.YthabingkfmlbbaaGreatTracked
set_option linter.unusedSimpArgs false
set_option linter.unusedVariables false
set_option maxRecDepth 100000
namespace Go.Proofs.YthabingkfmlbbaaGreat
open Go.Ev
theorem Acc.at_ {turn lo hi rate : Int} : ∀ {ts qs : List Int} {p : Int}, Acc turn lo hi rate ts qs p → ∀ i, i < qs.length → qs.getD i 0 ∈ posL turn lo hi (ts.getD i 0)
 | [], [], _, _, i, hi => by cases hi
 | [], _ :: _, _, h, _, _ => by cases h
 | _ :: _, [], _, h, _, _ => by cases h
 | t :: ts, q :: qs, p, h, 0, _ => h.1
 | t :: ts, q :: qs, p, h, i + 1, hi => Acc.at_ h.2.2 i (by simpa using hi)
abbrev Box3 := (Int × Int) × (Int × Int) × Int × Int
theorem box3_eq (r : Box3) : (!(((r.1.1 == r.1.1) && ((r.1.2 == r.1.2) && true)) && (((r.2.1.1 == r.2.1.1) && ((r.2.1.2 == r.2.1.2) && true)) && (((r.2.2.1 == r.2.2.1) && ((r.2.2.2 == r.2.2.2) && true)) && true)))) = false := by simp
def Qs (l : List Int) : Prop := ∀ t ∈ l, 0 ≤ t ∧ t < 4
section
variable {s : Si} {a b : Tr} (S : SiteOk s) (ea : (trkE a).2 = 0) (eb : (trkE b).2 = 0) (d : Dr) (times : List Int) (hlen : times.length ≤ 12)
include S ea eb hlen
theorem track_loop : ∀ (m k : Nat) (tg : List Int), k + m = times.length → tg.length = k → Qs tg →
 loopVal step3_0 (times, tg, (k : Int), (s, a, b), d) = some (.inl true) ∨ ∃ tg', tg'.length = times.length ∧ Qs tg' ∧ loopVal step3_0 (times, tg, (k : Int), (s, a, b), d) = some (.inr (tg', d)) := by
 intro m
 have Va := valid_of ea
 have Vb := valid_of eb
 have hz : ((0 : Int) != 0) = false := rfl
 induction m with
 | zero =>
   intro k tg hk ht hq
   obtain rfl : k = times.length := by omega
   right
   refine ⟨tg, ht, hq, loopVal_last ?_⟩
   simp only [step3_0, lt_cast, Nat.lt_irrefl, decide_false, cond_false]
 | succ m ih =>
   intro k tg hk ht hq
   have hk' : k < times.length := by omega
   obtain ⟨time, htm⟩ : ∃ t, times.getD k 0 = t := ⟨_, rfl⟩
   by_cases hab : ((bif tErr time a != 0 then tErr time a else tErr time b) != 0) = true
   ·left
    refine loopVal_last ?_
    simp only [step3_0, lt_cast, inB_cast, dT hk', cond_true, Int.toNat_natCast, htm, s8_eq Va Vb, optE_some, hab]
   ·have hab : ((bif tErr time a != 0 then tErr time a else tErr time b) != 0) = false := by simpa using hab
    obtain ⟨ta, tb⟩ := both_zero.1 hab
    obtain ⟨p, p1, _, pk, _⟩ := at_ok Va (time := time) (win_iff.1 (unl_zero (by omega) ta))
    obtain ⟨q, q1, _, qk, _⟩ := at_ok Vb (time := time) (win_iff.1 (unl_zero (by omega) tb))
    have A : At s a b time (gap p q (a.2 + b.2)) := ⟨S, ea, eb, ta, tb, gap_ok pk qk (by have := Va.doubt; have := Vb.doubt; omega), s49_eq p1 q1 pk qk Va.doubt Vb.doubt⟩
    have hvis := s13_eq A
    have bp : s9 (a, time) = some (boxOf p a.2, 0) ∧ s11 (a, time) = some (boxOf p a.2) := by
     obtain ⟨r, r1, r2⟩ := box_ok Va ea ta
     have := box_val ea ta p1 pk
     rw [this] at r1
     have e : boxOf p a.2 = r := by injection r1 with r1; injection r1
     exact ⟨this, by rw [e]; exact r2⟩
    have bq : s9 (b, time) = some (boxOf q b.2, 0) ∧ s11 (b, time) = some (boxOf q b.2) := by
     obtain ⟨r, r1, r2⟩ := box_ok Vb eb tb
     have := box_val eb tb q1 qk
     rw [this] at r1
     have e : boxOf q b.2 = r := by injection r1 with r1; injection r1
     exact ⟨this, by rw [e]; exact r2⟩
    have ca := copy_ok (p := a) (by have := Va.most; omega)
    have cb := copy_ok (p := b) (by have := Vb.most; omega)
    have cv := s14_eq (s := s) (a := a) (b := b) (by have := S.most; omega) (by have := Va.most; omega) (by have := Vb.most; omega)
    obtain ⟨t, hqt, t1, t2⟩ := quarter_z (wr ((boxOf q b.2).1.1 - (boxOf p a.2).1.1)) (wr ((boxOf q b.2).2.1.1 - (boxOf p a.2).2.1.1))
    have hroom : room 8 (tg.length + 1) = true := room_true (by omega) (by omega)
    have hqs : Qs (tg ++ [t]) := fun x hx => by
     rcases List.mem_append.1 hx with h | h
     ·exact hq x h
     ·rw [List.mem_singleton.1 h]; exact ⟨t1, t2⟩
    obtain ⟨o1, hpr⟩ := pathProduct_z S.up (box_bd pk Va.doubt) (box_bd qk Vb.doubt)
    have hs : step3_0 (times, tg, (k : Int), (s, a, b), d) = some (.inl (times, tg ++ [t], ((k + 1 : Nat) : Int), (s, a, b), d)) := by
     simp only [step3_0, lt_cast, inB_cast, dT hk', cond_true, Int.toNat_natCast, htm, s8_eq Va Vb, optE_some, hab, cond_false, ca, cb, bp.1, bp.2, bq.1, bq.2, hz, box3_eq, hqt, hroom, cv, hvis, wr_succ (show k < 4611686018427387904 by omega)]
     rcases answer_cases s (gap p q (a.2 + b.2)) with h | h | h
     ·rw [h]; rfl
     ·rw [h]; rfl
     ·have hsure := answer_yes.1 h
      have hlo : 0 ≤ loA (gap p q (a.2 + b.2)) s.1 := by
       unfold sure at hsure
       exact of_decide_eq_true (Bool.and_eq_true_iff.1 hsure).1
      have hup := seen_up S.up pk qk Va.doubt Vb.doubt hlo
      simp only [h, hpr, optE_some, dF (show ¬ hiT s.1.1 (boxOf p a.2).1 (boxOf q b.2).1 + hiT s.1.2.1 (boxOf p a.2).2.1 (boxOf q b.2).2.1 + hiT s.1.2.2 (boxOf p a.2).2.2 (boxOf q b.2).2.2 < 0 by omega)]
      rfl
    rw [loopVal_next hs]
    exact ih (k + 1) (tg ++ [t]) (by omega) (by simp [ht]) hqs
end
theorem right_loop {tg l : List Int} (hl : l.length = tg.length) (hb : l.length ≤ 1000) (h : ∀ i, i < l.length → l.getD i 0 % 4 = tg.getD i 0) : ∀ (m k : Nat), k + m = l.length → loopVal step3_2 (tg, l, (k : Int)) = some (.inr ()) := by
 intro m
 induction m with
 | zero =>
   intro k hk
   obtain rfl : k = l.length := by omega
   refine loopVal_last ?_
   simp only [step3_2, lt_cast, Nat.lt_irrefl, decide_false, cond_false]
 | succ m ih =>
   intro k hk
   have hmod : s20 (l.getD k 0, 4) = some (l.getD k 0 % 4) := mod_law (n := l.getD k 0) (m := 4) (by omega) (by omega)
   have hs : step3_2 (tg, l, (k : Int)) = some (.inl (tg, l, ((k + 1 : Nat) : Int))) := by
    simp only [step3_2, lt_cast, inB_cast, dT (show k < l.length by omega), dT (show k < tg.length by omega), cond_true, Int.toNat_natCast, hmod, optE_some, bne_eq_false_iff_eq.2 (h k (by omega)), cond_false, wr_succ (show k < 4611686018427387904 by omega)]
   rw [loopVal_next hs]
   exact ih (k + 1) (by omega)
theorem tracked_true (v : Vw) (d : Dr) (times : List Int) : s3 (v, d, times) = some true := by
 obtain ⟨s, a, b⟩ := v
 have hz : ((0 : Int) != 0) = false := rfl
 have hz2 : ((0 : Int) == 0) = true := rfl
 unfold s3
 simp only [Bool.not_true, cond_false, s5_eq, optE_some]
 by_cases fa : a.1.length ≤ 14
 case neg => rw [dF fa]; rfl
 by_cases fb : b.1.length ≤ 14
 case neg => rw [dT fa, dF fb]; rfl
 rw [dT fa, dT fb]
 simp only [Bool.not_true, cond_false]
 by_cases fs : (s.2.length : Int) > 4
 case pos => rw [dT fs]; rfl
 rw [dF fs, cond_false]
 obtain ⟨r, e71, hsite⟩ := s25_eq (s := s) (by omega)
 have e37 : s6 (s, a, b) = some (bif r.2 != 0 then r.2 else (bif (trkE a).2 != 0 then (trkE a).2 else (trkE b).2)) := by
  unfold s6
  simp only [e71, s26_eq, optE_some]
  cases r.2 != 0 <;> rfl
 simp only [e37, optE_some]
 cases hv : (bif r.2 != 0 then r.2 else (bif (trkE a).2 != 0 then (trkE a).2 else (trkE b).2)) != 0
 case true => rfl
 obtain ⟨h1, h2⟩ := both_zero.1 hv
 have hab : ((bif (trkE a).2 != 0 then (trkE a).2 else (trkE b).2) != 0) = false := by rw [h2]; rfl
 obtain ⟨ha, hb⟩ := both_zero.1 hab
 have S := hsite h1
 simp only [cond_false]
 by_cases ft : (times.length : Int) > 12
 case pos => rw [dT ft]; rfl
 rw [dF ft]
 simp only [cond_false, s7_eq, optE_some]
 by_cases h0 : drvE d = 0
 case neg => rw [bne_iff_ne.2 h0]; rfl
 have hd := DOk.of h0
 simp only [h0, hz, cond_false]
 by_cases h4 : d.1 = 4
 case neg => rw [bne_iff_ne.2 h4]; rfl
 rw [bne_eq_false_iff_eq.2 h4, cond_false]
 cases decide (wr (d.2.1.2 - d.2.1.1) > 40)
 case true => rfl
 simp only [cond_false]
 rcases track_loop S ha hb d times (by omega) times.length 0 [] (by omega) rfl (fun x hx => by cases hx) with h | ⟨ts, tl, tq, h⟩
 ·have h : loopVal step3_0 (times, [], 0, (s, a, b), d) = some (.inl true) := h
  simp only [h, optE_some, sumE_l]
 have h : loopVal step3_0 (times, [], 0, (s, a, b), d) = some (.inr (ts, d)) := h
 have hts : ts.length ≤ 40 := by omega
 have hA : AllT d ts := fun k hk => by
  have := tq _ (ix_mem hk)
  rw [wr_id (by omega) (by omega), h4]
  exact win_iff.2 (by omega)
 have hT := TOk.of hd hA
 have te := (s40_eq (d := d) (l := ts) (by omega)).2.2.1 h0 hts hA
 have cts := s17_eq (l := ts) (by omega)
 obtain ⟨m, m1, m2, m3⟩ := MinimumRate_z hd hA hts te
 have hfd := feas_v hd hts
 have hr1 := hd.r1; have hr2 := hd.r2
 obtain ⟨rn, hr⟩ : ∃ r : Nat, d.2.2.2 = (r : Int) := ⟨d.2.2.2.toNat, by omega⟩
 have hmr := m2 rn (by omega)
 rw [← hr] at hmr
 simp only [h, optE_some, sumE_r, cts, m3]
 rcases Pointing_z hd hT hts te with ⟨hv, hp⟩ | ⟨hv, out, hpath, hp⟩
 ·have hno : ¬ m ≤ rn := fun h => by have := hfd.2 (hmr.1 h); omega
  simp only [hp, optE_some, show ((12 : Int) != 0) = true from rfl, cond_true, show ((12 : Int) == 12) = true from rfl]
  by_cases hm : (m : Int) > 40000
  ·simp only [dT hm, cond_true, show ((12 : Int) == 12) = true from rfl]
  ·simp only [dF hm, cond_false, show ((0 : Int) == 12) = false from rfl, hz2, cond_true, dT (show (m : Int) > d.2.2.2 by omega)]
 ·have hyes : m ≤ rn := hmr.2 (hfd.1 hv)
  obtain ⟨hacc, htr⟩ := path_acc hpath
  have hol : out.length = ts.length := Acc.len _ _ _ _ hacc
  have cout := s17_eq (l := out) (by omega)
  have ck := (s19_eq (d := d) (ts := ts) (ps := out) (by omega) te).2 rfl h0
  have ckp : ptgE d ts out = (VpD d ts d.2.2.1, 0) := by
   rcases ptgE_spec hd hT (ps := out) (by omega) with ⟨e, _, _, h⟩ | ⟨h, _⟩
   ·exact absurd hacc h
   ·rw [h, htr]
  have hright : ∀ i, i < out.length → out.getD i 0 % 4 = ts.getD i 0 := fun i hi => by
   have h' := (pos_b hd (Acc.at_ hacc i hi)).2.2
   have := tq _ (ix_mem (show i < ts.length by omega))
   rw [h4] at h'
   omega
  have hl2 := right_loop hol (by omega) hright out.length 0 (by omega)
  have hl2 : loopVal step3_2 (ts, out, 0) = some (.inr ()) := hl2
  have hlen : ((out.length : Int) != (ts.length : Int)) = false := bne_eq_false_iff_eq.2 (by omega)
  simp only [hp, optE_some, hz, cond_false, cts, cout, ck, ckp, dF (show ¬ (m : Int) > 40000 by omega), dF (show ¬ (m : Int) > d.2.2.2 by omega), bne_self_eq_false, hlen, hl2, sumE_r]
end Go.Proofs.YthabingkfmlbbaaGreat
