/- Numerals and pieces of texts, as the reference computes them. -/
import Derived.Test.YtcdpgjlaajdfmaaGreatDoorGs0
import Derived.Test.YtcdpgjlaajdfmaaGreatDoorWordsLaw
import Derived.Test.YtcdpgjlaajdfmaaGreatDoorSearch
set_option linter.unusedSimpArgs false
namespace Go.Proofs.YtcdpgjlaajdfmaaGreatDoor
open Go.Ev
theorem u8_id {n : Int} (h : 0 ≤ n) (h2 : n < 256) : IntKind.u8.wrap n = n := by
 simp [IntKind.wrap, IntKind.signed, IntKind.bits]; omega
theorem strL_self (s : ByteArray) : strL s.data.toList = s := str_ext rfl
theorem app_toList (a b : ByteArray) : (a ++ b).data.toList = a.data.toList ++ b.data.toList := by
 rw [ByteArray.data_append, Array.toList_append]
theorem ext_toList (s : ByteArray) (a b : Nat) : (s.extract a b).data.toList = (s.data.toList.take b).drop a := by
 rw [ByteArray.data_extract, Array.toList_extract, List.extract_eq_take_drop, List.drop_take]
theorem strL_app (a b : List UInt8) : strL a ++ strL b = strL (a ++ b) := str_ext (by rw [app_toList]; rfl)
theorem bytesStr_one (d : Nat) : bytesStr [((48 + d : Nat) : Int)] = strL [UInt8.ofNat (48 + d)] := str_ext (by
 show [UInt8.ofNat ((48 + d : Nat) : Int).toNat] = _
 rw [Int.toNat_natCast]
 rfl)
theorem mk_nil : (ByteArray.mk #[]) = strL [] := rfl
def dd (m : Nat) : List UInt8 := if m = 0 then [] else Lib.decDigits m
theorem dd_step {m : Nat} (h : 1 ≤ m) : dd m = dd (m / 10) ++ [UInt8.ofNat (48 + m % 10)] := by
 unfold dd
 rw [if_neg (by omega)]
 by_cases h2 : m < 10
 ·rw [dd_small h2, if_pos (by omega), show m % 10 = m by omega]; rfl
 ·rw [dd_big h2, if_neg (by omega)]
def sg (neg : Bool) (m : Nat) : Int := bif neg then -(m : Int) else m
theorem s82_sg (neg : Bool) (m : Nat) (h : m < 1000) : s82 (sg neg m) = some (m : Int) := by
 unfold s82 sg
 cases neg with
 | true =>
   rw [cond_true, wr_id (n := - -(m : Int)) (by omega) (by omega)]
   unfold mx
   split
   ·congr 1; omega
   ·congr 1; omega
 | false =>
   rw [cond_false, wr_id (n := -(m : Int)) (by omega) (by omega)]
   unfold mx
   split
   ·congr 1; omega
   ·congr 1
theorem sg_tmod (neg : Bool) (m : Nat) : Int.tmod (sg neg m) 10 = sg neg (m % 10) := by
 unfold sg
 cases neg with
 | true => rw [cond_true, cond_true, Int.neg_tmod, Int.tmod_eq_emod_of_nonneg (by omega)]; omega
 | false => rw [cond_false, cond_false, Int.tmod_eq_emod_of_nonneg (by omega)]; omega
theorem sg_tdiv (neg : Bool) (m : Nat) : Int.tdiv (sg neg m) 10 = sg neg (m / 10) := by
 unfold sg
 cases neg with
 | true => rw [cond_true, cond_true, Int.neg_tdiv, Int.tdiv_eq_ediv_of_nonneg (by omega)]; omega
 | false => rw [cond_false, cond_false, Int.tdiv_eq_ediv_of_nonneg (by omega)]; omega
theorem sg_wr (neg : Bool) (m : Nat) (h : m ≤ 9223372036854775807) : wr (sg neg m) = sg neg m := by
 unfold sg
 cases neg
 ·rw [cond_false, wr_id (by omega) (by omega)]
 ·rw [cond_true, wr_id (by omega) (by omega)]
theorem dec_loop (neg : Bool) (sign : ByteArray) : ∀ (m : Nat) (s : ByteArray), m ≤ 9223372036854775808 → s.size + (m + 1) / 2 ≤ 4611686018427387904 → loopVal step43_0 (sg neg m, s, sign) = some (strL (dd m) ++ s, sign) := by
 intro m
 induction m using Nat.strongRecOn with
 | _ m ih =>
   intro s hm hs
   by_cases h0 : m = 0
   ·subst h0
    refine loopVal_last ?_
    have : sg neg 0 = 0 := by cases neg <;> rfl
    simp only [step43_0, this, bne_self_eq_false, cond_false]
    rw [show strL (dd 0) ++ s = s from str_ext (by rw [app_toList]; rfl)]
   ·have h1 : (sg neg m != 0) = true := by
     rw [bne_iff_ne]; unfold sg; cases neg <;> simp <;> omega
    have hd : m % 10 < 10 := Nat.mod_lt _ (by omega)
    have e1 : IntKind.u8.wrap (wr (48 + ((m % 10 : Nat) : Int))) = ((48 + m % 10 : Nat) : Int) := by
     rw [wr_id (by omega) (by omega), u8_id (by omega) (by omega)]; omega
    have hz : (strL [UInt8.ofNat (48 + m % 10)]).size = 1 := strL_size _
    rw [loopVal_next (y := (sg neg (m / 10), strL [UInt8.ofNat (48 + m % 10)] ++ s, sign)) (by
     simp only [step43_0, h1, cond_true, sg_tmod, s82_sg neg _ (show m % 10 < 1000 by omega), optE_some, e1, bytesStr_one, hz]
     rw [decide_eq_true (by omega), cond_true, sg_tdiv, sg_wr _ _ (by omega)])]
    have hz2 : (strL [UInt8.ofNat (48 + m % 10)] ++ s).size = 1 + s.size := by
     rw [sizeW, app_toList, List.length_append, ← sizeW, ← sizeW, hz]
    rw [ih (m / 10) (by omega) _ (by omega) (by rw [hz2]; omega)]
    congr 2
    refine str_ext ?_
    rw [app_toList, app_toList, app_toList, dd_step (m := m) (by omega)]
    simp [strL_toList]
theorem dd_len {m : Nat} (h : m ≤ 9223372036854775808) : (dd m).length ≤ 19 := by
 have key : ∀ k m : Nat, m < 10 ^ k → (dd m).length ≤ k := by
  intro k
  induction k with
  | zero => intro m hm; have : m = 0 := by simpa using hm
            subst this; exact Nat.le_refl 0
  | succ k ih =>
    intro m hm
    by_cases h0 : m = 0
    ·subst h0; exact Nat.zero_le _
    ·rw [dd_step (by omega), List.length_append]
     have := ih (m / 10) (by rw [Nat.pow_succ] at hm; omega)
     simp; omega
 exact key 19 m (by omega)
theorem s43_eq {n : Int} (h1 : -9223372036854775808 ≤ n) (h2 : n ≤ 9223372036854775807) : s43 n = some (decS n) := by
 unfold s43 decS
 by_cases h0 : n = 0
 ·subst h0
  rw [show ((0 : Int) == 0) = true from rfl, cond_true]
  have : Lib.itoa 0 = [48] := by
   have := itoa_nat 0
   rw [show ((0 : Nat) : Int) = 0 from rfl] at this
   rw [this, dd_small (by omega)]; rfl
  rw [this]; rfl
 rw [show (n == 0) = false from beq_eq_false_iff_ne.2 h0, cond_false]
 by_cases hn : n < 0
 ·rw [decide_eq_true hn, cond_true]
  obtain ⟨m, rfl⟩ : ∃ m : Nat, n = -(m : Int) := ⟨n.natAbs, by omega⟩
  have h := dec_loop true (ByteArray.mk #[45]) m (ByteArray.mk #[]) (by omega) (by show 0 + _ ≤ _; omega)
  rw [show sg true m = -(m : Int) from rfl] at h
  have hl := dd_len (m := m) (by omega)
  have hz : (strL (dd m) ++ (ByteArray.mk #[])).size = (dd m).length := by
   rw [sizeW, app_toList]; simp [strL_toList]
  have h45 : (ByteArray.mk #[45]).size = 1 := rfl
  rw [h]
  simp only [optE_some, hz, h45]
  rw [decide_eq_true (by omega), cond_true, itoa_neg (by omega)]
  congr 1
  refine str_ext ?_
  rw [app_toList, app_toList]
  unfold dd
  rw [if_neg (by omega)]
  simp [strL_toList]
 ·rw [decide_eq_false hn, cond_false]
  obtain ⟨m, rfl⟩ : ∃ m : Nat, n = (m : Int) := ⟨n.toNat, by omega⟩
  have h := dec_loop false (ByteArray.mk #[]) m (ByteArray.mk #[]) (by omega) (by show 0 + _ ≤ _; omega)
  rw [show sg false m = (m : Int) from rfl] at h
  have hl := dd_len (m := m) (by omega)
  have hz : (strL (dd m) ++ (ByteArray.mk #[])).size = (dd m).length := by
   rw [sizeW, app_toList]; simp [strL_toList]
  have h45 : (ByteArray.mk #[]).size = 0 := rfl
  rw [h]
  simp only [optE_some, hz, h45]
  rw [decide_eq_true (by omega), cond_true, itoa_nat]
  congr 1
  refine str_ext ?_
  rw [app_toList, app_toList]
  unfold dd
  rw [if_neg (by omega)]
  simp [strL_toList]
theorem map_strL (l : List ByteArray) : (l.map (·.data.toList)).map strL = l := by
 rw [List.map_map]
 have : (strL ∘ fun x : ByteArray => x.data.toList) = id := funext strL_self
 rw [this, List.map_id]
theorem cut_loop (s : ByteArray) (c : UInt8) (hs : s.size ≤ 1000000) : ∀ (m k «from» : Nat) (out : List ByteArray), k + m = s.size → «from» ≤ k → out.length ≤ k → (∀ j, «from» ≤ j → j < k → s.data.toList[j]? ≠ some c) →
 ∃ out' from', loopVal step41_0 (s, (c.toNat : Int), out, («from» : Int), (k : Int)) = some (s, out', ((from' : Nat) : Int)) ∧ from' ≤ s.size ∧ out'.length ≤ s.size ∧ out'.map (·.data.toList) ++ [s.data.toList.drop from'] = out.map (·.data.toList) ++ cutL c (s.data.toList.drop «from»)
 | 0, k, «from», out, hk, hf, ho, hn => by
   refine ⟨out, «from», loopVal_last ?_, by omega, by omega, ?_⟩
   ·simp only [step41_0, lt_cast]
    rw [decide_eq_false (by omega), cond_false]
   ·rw [cutL_none]
    intro hc
    obtain ⟨j, hj, e⟩ := List.mem_iff_getElem.1 hc
    rw [List.getElem_drop] at e
    rw [List.length_drop, ← sizeW] at hj
    exact hn («from» + j) (by omega) (by omega) (by rw [← e]; exact List.getElem?_eq_getElem _)
 | m + 1, k, «from», out, hk, hf, ho, hn => by
   have hlen : k < s.data.toList.length := by rw [← sizeW]; omega
   by_cases hc : s.data.toList.getD k 0 = c
   ·have hb : (((s.data.toList.getD k 0).toNat : Int) == (c.toNat : Int)) = true := by rw [hc]; exact beq_self_eq_true _
    have hck : s.data.toList[k]? = some c := by rw [← hc, List.getD_eq_getElem?_getD, List.getElem?_eq_getElem hlen]; rfl
    obtain ⟨out', from', h1, h2, h3, h4⟩ := cut_loop s c hs m (k + 1) (k + 1) (out ++ [s.extract «from» k]) (by omega) (by omega) (by rw [List.length_append]; simp; omega) (fun j h1 h2 => by omega)
    refine ⟨out', from', ?_, h2, h3, ?_⟩
    ·rw [loopVal_next (y := (s, (c.toNat : Int), out ++ [s.extract «from» k], ((k + 1 : Nat) : Int), ((k + 1 : Nat) : Int))) (by
      simp only [step41_0, lt_cast, inB_cast, Int.toNat_natCast, hb, cond_true, wr_succ (show k < 4611686018427387904 by omega)]
      rw [decide_eq_true (show k < s.size by omega), cond_true, cond_true, decide_eq_true (show (0 : Int) ≤ («from» : Int) by omega), decide_eq_true (show («from» : Int) ≤ (k : Int) by omega), decide_eq_true (show (k : Int) ≤ (s.size : Int) by omega), room_true (by omega) (by omega)]
      rfl)]
     exact h1
    ·rw [h4, List.map_append, List.append_assoc]
     congr 1
     have hi : (s.data.toList.drop «from»)[k - «from»]? = some c := by rw [List.getElem?_drop, show «from» + (k - «from») = k by omega]; exact hck
     rw [cutL_at hi (fun j hj => by rw [List.getElem?_drop]; exact hn _ (by omega) (by omega)), List.drop_drop, show «from» + (k - «from» + 1) = k + 1 by omega]
     simp only [List.map_cons, List.map_nil, ext_toList, List.cons_append, List.nil_append, List.drop_take]
   ·have hb : (((s.data.toList.getD k 0).toNat : Int) == (c.toNat : Int)) = false := by
     rw [beq_eq_false_iff_ne]; intro e; exact hc (UInt8.toNat_inj.1 (by omega))
    obtain ⟨out', from', h1, h2, h3, h4⟩ := cut_loop s c hs m (k + 1) «from» out (by omega) (by omega) (by omega) (fun j h1 h2 => by
     by_cases hj : j = k
     ·subst hj
      intro e
      apply hc
      rw [List.getD_eq_getElem?_getD, e]; rfl
     ·exact hn j h1 (by omega))
    refine ⟨out', from', ?_, h2, h3, h4⟩
    rw [loopVal_next (y := (s, (c.toNat : Int), out, («from» : Int), ((k + 1 : Nat) : Int))) (by
     simp only [step41_0, lt_cast, inB_cast, Int.toNat_natCast, hb, cond_false, wr_succ (show k < 4611686018427387904 by omega)]
     rw [decide_eq_true (show k < s.size by omega), cond_true, cond_true])]
    exact h1
theorem s41_eq (s : ByteArray) (c : UInt8) (hs : s.size ≤ 1000000) : s41 (s, (c.toNat : Int)) = some ((cutL c s.data.toList).map strL) := by
 obtain ⟨out, «from», h1, h2, h3, h4⟩ := cut_loop s c hs s.size 0 0 [] (by omega) (by omega) (by simp) (fun j _ h => by omega)
 unfold s41
 dsimp only
 have h1' : loopVal step41_0 (s, (c.toNat : Int), [], 0, 0) = _ := h1
 rw [h1']
 simp only [optE_some, Int.toNat_natCast]
 rw [decide_eq_true (show (0 : Int) ≤ («from» : Int) by omega), decide_eq_true (show («from» : Int) ≤ (s.size : Int) by omega), room_true (by omega) (by omega)]
 show some (out ++ [s.extract «from» s.size]) = _
 congr 1
 have h5 : (out ++ [s.extract «from» s.size]).map (·.data.toList) = cutL c s.data.toList := by
  rw [List.map_append]
  have : [s.extract «from» s.size].map (·.data.toList) = [s.data.toList.drop «from»] := by
   simp only [List.map_cons, List.map_nil, ext_toList]
   rw [List.take_of_length_le (by rw [sizeW]; exact Nat.le_refl _)]
  rw [this, h4]
  simp
 rw [← h5, map_strL]
theorem num_loop (s : ByteArray) (at0 : Int) (hs : s.size ≤ 1000000) : ∀ (m k a : Nat), k + m = s.size → m ≤ 18 → a < 10 ^ (18 - m) →
 loopVal step42_0 (s, at0, (a : Int), (k : Int)) = some (if (s.data.toList.drop k).all isDig = true then .inr (at0, ((pv a (s.data.toList.drop k) : Nat) : Int)) else .inl (0, false))
 | 0, k, a, hk, _, _ => by
   rw [List.drop_eq_nil_of_le (by rw [← sizeW]; omega), if_pos (by rfl)]
   refine loopVal_last ?_
   simp only [step42_0, lt_cast]
   rw [decide_eq_false (by omega), cond_false]
   rfl
 | m + 1, k, a, hk, hm, ha => by
   have hlen : k < s.data.toList.length := by rw [← sizeW]; omega
   have hd := getD_drop s.data.toList (0 : UInt8) hlen
   have hkd : decide (k < s.size) = true := decide_eq_true (by omega)
   rw [hd]
   by_cases h1 : ((s.data.toList.getD k 0).toNat : Int) < 48
   ·have hn : isDig (s.data.toList.getD k 0) = false := by unfold isDig; rw [decide_eq_false (by omega)]; rfl
    rw [List.all_cons, hn, Bool.false_and, if_neg (by decide)]
    refine loopVal_last ?_
    simp only [step42_0, lt_cast, inB_cast, Int.toNat_natCast, hkd, cond_true]
    rw [decide_eq_true h1, cond_true]
   by_cases h2 : ((s.data.toList.getD k 0).toNat : Int) > 57
   ·have hn : isDig (s.data.toList.getD k 0) = false := by unfold isDig; rw [decide_eq_false (show ¬ (s.data.toList.getD k 0).toNat ≤ 57 by omega), Bool.and_false]
    rw [List.all_cons, hn, Bool.false_and, if_neg (by decide)]
    refine loopVal_last ?_
    simp only [step42_0, lt_cast, inB_cast, Int.toNat_natCast, hkd, cond_true]
    rw [decide_eq_false h1, cond_false, decide_eq_true h2, cond_true]
   have hn : isDig (s.data.toList.getD k 0) = true := dig_iff.2 (by omega)
   rw [List.all_cons, hn, Bool.true_and, pv_cons]
   have hp : 10 ^ (18 - m) ≤ 10 ^ 18 := Nat.pow_le_pow_right (by omega) (by omega)
   have hp2 : 10 ^ (18 - m) = 10 ^ (18 - (m + 1)) * 10 := by rw [← Nat.pow_succ]; congr 1; omega
   rw [loopVal_next (y := (s, at0, ((a * 10 + ((s.data.toList.getD k 0).toNat - 48) : Nat) : Int), ((k + 1 : Nat) : Int))) (by
    simp only [step42_0, lt_cast, inB_cast, Int.toNat_natCast, hkd, cond_true, wr_succ (show k < 4611686018427387904 by omega)]
    rw [decide_eq_false h1, cond_false, decide_eq_false h2, cond_false]
    have e : wr (wr (10 * (a : Int)) + wr (IntKind.u8.wrap (((s.data.toList.getD k 0).toNat : Int) - 48))) = ((a * 10 + ((s.data.toList.getD k 0).toNat - 48) : Nat) : Int) := by
     rw [u8_id (by omega) (by omega), wr_id (n := 10 * (a : Int)) (by omega) (by omega), wr_id (n := ((s.data.toList.getD k 0).toNat : Int) - 48) (by omega) (by omega), wr_id (by omega) (by omega)]
     omega
    rw [e])]
   exact num_loop s at0 hs m (k + 1) _ (by omega) (by omega) (by omega)
def numS (s : ByteArray) (d : Nat) : Int × Bool := match numR s.data.toList d with
 | some n => (n, true)
 | none => (0, false)
theorem numS_off {s : ByteArray} {d : Nat} (h : trimS s.data.toList = [] ∨ d < (trimS s.data.toList).length ∨ ((trimS s.data.toList).head? = some 48 ∧ 1 < s.data.toList.length)) : numS s d = (0, false) := by
 unfold numS numR
 rw [if_pos h]
theorem numS_on {s : ByteArray} {d : Nat} (h : ¬ (trimS s.data.toList = [] ∨ d < (trimS s.data.toList).length ∨ ((trimS s.data.toList).head? = some 48 ∧ 1 < s.data.toList.length))) : numS s d = if (trimS s.data.toList).all isDig = true then ((if s.data.toList.head? = some 45 then -(pv 0 (trimS s.data.toList) : Int) else (pv 0 (trimS s.data.toList) : Int)), true) else (0, false) := by
 unfold numS numR
 rw [if_neg h]
 by_cases hd : (trimS s.data.toList).all isDig = true
 ·rw [if_pos hd, if_pos hd]
 ·rw [if_neg hd, if_neg hd]
theorem s42_eq (s : ByteArray) (d : Nat) (hs : s.size ≤ 1000000) (hd : d ≤ 18) : s42 (s, (d : Int)) = some (numS s d) := by
 unfold s42
 dsimp only
 have hz := sizeW s
 cases hl : s.data.toList with
 | nil =>
   rw [hl] at hz
   have hz : s.size = 0 := hz
   rw [hz, numS_off (.inl (by rw [hl]; rfl))]
   rfl
 | cons c r =>
   rw [hl, List.length_cons] at hz
   rw [decide_eq_true (show (s.size : Int) > 0 by omega), cond_true, show inBounds 0 s.size = true by rw [show (0 : Int) = ((0 : Nat) : Int) from rfl, inB_cast]; exact decide_eq_true (by omega), cond_true, List.getD_cons_zero]
   by_cases hc : c = 45
   ·subst hc
    have ht : trimS s.data.toList = r := by rw [hl]; rfl
    have hh : s.data.toList.head? = some 45 := by rw [hl]; rfl
    rw [show (((45 : UInt8).toNat : Int) == 45) = true from rfl, cond_true]
    cases r with
    | nil =>
      rw [show ((s.size : Int) == 1) = true by rw [hz]; rfl, cond_true, numS_off (.inl ht)]
    | cons y q =>
      rw [show ((s.size : Int) == 1) = false by rw [beq_eq_false_iff_ne, hz]; simp; omega, cond_false, wr_id (by omega) (by omega)]
      simp only [List.length_cons] at hz
      by_cases hb : (s.size : Int) - 1 > d
      ·rw [decide_eq_true hb, cond_true, numS_off (.inr (.inl (by rw [ht, List.length_cons]; omega)))]
      rw [decide_eq_false hb, cond_false, show inBounds 1 s.size = true by rw [show (1 : Int) = ((1 : Nat) : Int) from rfl, inB_cast]; exact decide_eq_true (by omega), cond_true, List.getD_cons_succ, List.getD_cons_zero]
      by_cases hy : y = 48
      ·subst hy
       rw [show (((48 : UInt8).toNat : Int) == 48) = true from rfl, cond_true, decide_eq_true (show (s.size : Int) > 1 by omega), cond_true, numS_off (.inr (.inr ⟨by rw [ht]; rfl, by rw [hl]; simp⟩))]
      have hy2 : ((y.toNat : Int) == 48) = false := by
       rw [beq_eq_false_iff_ne]; intro e; exact hy (UInt8.toNat_inj.1 (by show y.toNat = 48; omega))
      have h := num_loop s 1 hs (s.size - 1) 1 0 (by omega) (by omega) (Nat.pow_pos (by omega))
      rw [hl, List.drop_succ_cons, List.drop_zero] at h
      have h : loopVal step42_0 (s, 1, 0, 1) = _ := h
      rw [hy2, cond_false, h, numS_on (by
       rw [ht]
       rintro (e | e | ⟨e, _⟩)
       ·cases e
       ·rw [List.length_cons] at e; omega
       ·exact hy (Option.some.inj e)), ht, if_pos hh]
      by_cases ha : (y :: q).all isDig = true
      ·rw [if_pos ha, if_pos ha]
       simp only [optE_some, sumE_r]
       have hpv := pv_lt (y :: q) 0 ha
       have hp : 10 ^ (y :: q).length ≤ 10 ^ 18 := Nat.pow_le_pow_right (by omega) (by rw [List.length_cons]; omega)
       rw [show ((1 : Int) == 1) = true from rfl, cond_true, wr_id (by omega) (by omega)]
      ·rw [if_neg ha, if_neg ha]
       rfl
   ·have hc2 : ((c.toNat : Int) == 45) = false := by
     rw [beq_eq_false_iff_ne]; intro e; exact hc (UInt8.toNat_inj.1 (by show c.toNat = 45; omega))
    have hh : s.data.toList.head? ≠ some 45 := by rw [hl]; intro e; exact hc (Option.some.inj e)
    have ht : trimS s.data.toList = c :: r := by unfold trimS; rw [if_neg hh, hl]
    rw [hc2, cond_false, show ((s.size : Int) == 0) = false by rw [beq_eq_false_iff_ne]; omega, cond_false, Int.sub_zero, wr_id (by omega) (by omega)]
    by_cases hb : (s.size : Int) > d
    ·rw [decide_eq_true hb, cond_true, numS_off (.inr (.inl (by rw [ht, List.length_cons]; omega)))]
    rw [decide_eq_false hb, cond_false]
    have h := num_loop s 0 hs s.size 0 0 (by omega) (by omega) (Nat.pow_pos (by omega))
    rw [hl, List.drop_zero] at h
    have h : loopVal step42_0 (s, 0, 0, 0) = _ := h
    have fin : ¬ (c = 48 ∧ 0 < r.length) → (optE (loopVal step42_0 (s, 0, 0, 0)) (fun e => sumE e (fun e => some e) (fun e => bif e.1 == 1 then some ((wr (-e.2), true)) else some ((e.2, true)))) none) = some (numS s d) := fun hcr => by
     rw [h, numS_on (by
      rw [ht]
      rintro (e | e | ⟨e, e2⟩)
      ·cases e
      ·rw [List.length_cons] at e; omega
      ·exact hcr ⟨Option.some.inj e, by rw [hl, List.length_cons] at e2; omega⟩), ht, if_neg hh]
     by_cases ha : (c :: r).all isDig = true
     ·rw [if_pos ha, if_pos ha]
      simp only [optE_some, sumE_r]
      rw [show ((0 : Int) == 1) = false from rfl, cond_false]
     ·rw [if_neg ha, if_neg ha]
      rfl
    by_cases hy : c = 48
    ·subst hy
     rw [show (((48 : UInt8).toNat : Int) == 48) = true from rfl, cond_true]
     by_cases hr : 0 < r.length
     ·rw [decide_eq_true (show (s.size : Int) > 1 by omega), numS_off (.inr (.inr ⟨by rw [ht]; rfl, by rw [hl, List.length_cons]; omega⟩))]
      rfl
     ·rw [decide_eq_false (show ¬ (s.size : Int) > 1 by omega), cond_false]
      exact fin fun e => hr e.2
    ·have hy2 : ((c.toNat : Int) == 48) = false := by
      rw [beq_eq_false_iff_ne]; intro e; exact hy (UInt8.toNat_inj.1 (by show c.toNat = 48; omega))
     rw [hy2, cond_false]
     exact fin fun e => hy e.1
theorem strL_len (l : List UInt8) : (strL l).size = l.length := strL_size l
def inI (n : Int) : Prop := -9223372036854775808 ≤ n ∧ n ≤ 9223372036854775807
theorem join_snoc {c : UInt8} (xs : List (List UInt8)) (y : List UInt8) (h : xs ≠ []) : Lib.join (xs ++ [y]) [c] = Lib.join xs [c] ++ [c] ++ y := by
 cases xs with
 | nil => exact absurd rfl h
 | cons x xs =>
   rw [List.cons_append, Lib.join_cons, Lib.join_cons]
   simp [Lib.joinTail]
theorem join_lenM {c : UInt8} {m : Nat} : ∀ (xs : List (List UInt8)), (∀ x ∈ xs, x.length ≤ m) → (Lib.join xs [c]).length ≤ (m + 1) * xs.length
 | [], _ => by rw [Lib.join_nil]; simp
 | x :: xs, h => by
   rw [Lib.join_length]
   have key : ∀ ys : List (List UInt8), (∀ x ∈ ys, x.length ≤ m) → Lib.lens ys ≤ m * ys.length := by
    intro ys
    induction ys with
    | nil => intro _; exact Nat.zero_le _
    | cons y ys ih =>
      intro hy
      have h1 := hy y List.mem_cons_self
      have h2 := ih fun z hz => hy z (List.mem_cons_of_mem _ hz)
      have h3 : Lib.lens (y :: ys) = y.length + Lib.lens ys := by simp [Lib.lens]
      rw [h3, List.length_cons, Nat.mul_add, Nat.mul_one]; omega
   have := key (x :: xs) h
   simp only [List.length_cons, List.length_nil, Nat.add_mul, Nat.mul_add, Nat.mul_one, Nat.one_mul] at this ⊢
   omega
theorem join_len (xs : List (List UInt8)) (h : ∀ x ∈ xs, x.length ≤ 20) : (Lib.join xs [32]).length ≤ 21 * xs.length := join_lenM xs h
theorem mem_join {c d : UInt8} : ∀ {xs : List (List UInt8)}, d ∈ Lib.join xs [c] → d = c ∨ ∃ x ∈ xs, d ∈ x
 | [], h => by rw [Lib.join_nil] at h; cases h
 | x :: xs, h => by
   rw [Lib.join_cons] at h
   rcases List.mem_append.1 h with h | h
   ·exact .inr ⟨x, List.mem_cons_self, h⟩
   ·unfold Lib.joinTail at h
    obtain ⟨y, hy, hd⟩ := List.mem_flatten.1 h
    obtain ⟨z, hz, rfl⟩ := List.mem_map.1 hy
    rcases List.mem_append.1 hd with hd | hd
    ·exact .inl (List.mem_singleton.1 hd)
    ·exact .inr ⟨z, List.mem_cons_of_mem _ hz, hd⟩
theorem getD_mem {l : List Int} {k : Nat} (h : k < l.length) : l.getD k 0 ∈ l := by
 rw [List.getD_eq_getElem?_getD, List.getElem?_eq_getElem h]
 exact List.getElem_mem h
theorem pow_len {v : Int} {d : Nat} (h : (trimS (Lib.itoa v)).length ≤ d) : -(10 ^ d : Nat) < v ∧ v < (10 ^ d : Nat) := by
 have key : ∀ m : Nat, (Lib.decDigits m).length ≤ d → m < 10 ^ d := fun m hm => by
  obtain ⟨a1, a2, _, _⟩ := dd_spec m
  have h1 := pv_lt _ 0 a1
  rw [a2] at h1
  have h2 : 10 ^ (Lib.decDigits m).length ≤ 10 ^ d := Nat.pow_le_pow_right (by omega) hm
  omega
 rcases Int.lt_or_le v 0 with hn | hn
 ·obtain ⟨m, rfl⟩ : ∃ m : Nat, v = -(m : Int) := ⟨v.natAbs, by omega⟩
  rw [itoa_neg (by omega)] at h
  have := key m h
  omega
 ·obtain ⟨m, rfl⟩ : ∃ m : Nat, v = (m : Int) := ⟨v.toNat, by omega⟩
  have hs : (Lib.decDigits m).head? ≠ some 45 := fun e => by
   have := head_dig (dd_spec m).1 e
   revert this; decide
  rw [itoa_nat] at h
  unfold trimS at h
  rw [if_neg hs] at h
  have := key m h
  omega
theorem pieces_size {c : UInt8} : ∀ {l w : List UInt8}, w ∈ cutL c l → w.length ≤ l.length
 | [], w, h => by
   have : w = [] := by simpa [cutL] using h
   subst this; exact Nat.le_refl _
 | x :: r, w, h => by
   unfold cutL at h
   split at h
   ·rcases List.mem_cons.1 h with rfl | h
    ·exact Nat.zero_le _
    ·have := pieces_size h
     rw [List.length_cons]; omega
   ·split at h
    ·rename_i y ys hc
     rcases List.mem_cons.1 h with rfl | h
     ·have := pieces_size (c := c) (l := r) (w := y) (by rw [hc]; exact List.mem_cons_self)
      simp only [List.length_cons]; omega
     ·have := pieces_size (c := c) (l := r) (w := w) (by rw [hc]; exact List.mem_cons_of_mem _ h)
      rw [List.length_cons]; omega
    ·rename_i hc
     exact absurd hc (cutL_ne c r)
theorem getDW_mem {l : List ByteArray} {k : Nat} (h : k < l.length) : l.getD k ByteArray.empty ∈ l := by
 rw [List.getD_eq_getElem?_getD, List.getElem?_eq_getElem h]
 exact List.getElem_mem h
theorem words_len (s : ByteArray) : (cutL 32 s.data.toList).length ≤ s.size + 1 := by rw [sizeW]; exact cutL_len 32 _
def wordsOf (s : ByteArray) : List ByteArray := (cutL 32 s.data.toList).map strL
theorem wordsOf_size {s w : ByteArray} (h : w ∈ wordsOf s) : w.size ≤ s.size := by
 unfold wordsOf at h
 obtain ⟨x, hx, rfl⟩ := List.mem_map.1 h
 rw [strL_len, sizeW]
 exact pieces_size hx
theorem wordsOf_len (s : ByteArray) : (wordsOf s).length ≤ s.size + 1 := by unfold wordsOf; rw [List.length_map]; exact words_len s
theorem itoa_ne (n : Int) : Lib.itoa n ≠ [] := by
 rcases Int.lt_or_le n 0 with hn | hn
 ·obtain ⟨m, rfl⟩ : ∃ m : Nat, n = -(m : Int) := ⟨n.natAbs, by omega⟩
  rw [itoa_neg (by omega)]; simp
 ·obtain ⟨m, rfl⟩ : ∃ m : Nat, n = (m : Int) := ⟨n.toNat, by omega⟩
  rw [itoa_nat]; exact (dd_spec m).2.2.1
theorem scanL_none {α E : Type} {f : α → Option E} {e : E} : ∀ {l : List α}, (∀ x ∈ l, f x = none) → scanL f e l = e
 | [], _ => rfl
 | x :: l, h => by
   rw [scanL, h x List.mem_cons_self]
   exact scanL_none fun y hy => h y (List.mem_cons_of_mem _ hy)
def joinS (l : List Int) : ByteArray := strL (Lib.join (l.map Lib.itoa) [32])
theorem joinF_nums (l : List Int) (hl : l.length ≤ 1000) (hi : ∀ x ∈ l, inI x) : joinF (l.map decS, ByteArray.mk #[32]) = some (joinS l) := by
 have hj : joinL (l.map decS) (ByteArray.mk #[32]) = Lib.join (l.map Lib.itoa) [32] := by
  unfold joinL
  rw [List.map_map]
  rfl
 rw [joinF_eq _ _ (by simp; omega) (by
  rw [hj]
  have := join_len (l.map Lib.itoa) (fun x hx => by
   obtain ⟨n, hn, rfl⟩ := List.mem_map.1 hx
   exact itoa_len (hi n hn).1 (hi n hn).2)
  simp at this; omega), hj]
 rfl
theorem words_join (x : Int) (l : List Int) : wordsOf (joinS (x :: l)) = (x :: l).map decS := by
 unfold wordsOf joinS
 rw [strL_toList, List.map_cons, cutL_join _ _ (itoa_space x) (fun y hy => by obtain ⟨n, _, rfl⟩ := List.mem_map.1 hy; exact itoa_space n)]
 simp [decS]
theorem inI_of {n : Int} (h : (Sh.int .i64).ok n) : inI n := by
 have h : (Lit.int .i64 n).wf = true := h
 simp only [Lit.wf, Bool.and_eq_true, decide_eq_true_eq] at h
 exact h
end Go.Proofs.YtcdpgjlaajdfmaaGreatDoor
