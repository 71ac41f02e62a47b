/- The greatest value of a map of numbers: slices.Max(slices.Collect(maps.Values(m))), in whatever order the values come. -/
import Derived.Test.YtcdpgjlaajdfmaaCoreD
import Derived.Test.YtcdpgjlaajdfmaaShelf2
import Derived.RangeFuncMany
import Derived.RangeFuncLeaves
import Derived.Sort.MapsRangeIn
import Derived.Sort.KeysCollected
import Derived.Lib.SlKeysI
import Derived.Maps.OwnIn
import Derived.WalkKit
import Derived.OwnWalkIn
import Derived.TacticsInMore
import Derived.RegionIn
import Derived.LoopNIn
import Derived.LoopIn
set_option linter.unusedSimpArgs false
namespace Go.Proofs.Ytcdpgjlaajdfmaa
open Go.Ev Go.RowKit Go.Maps Go.Sort Go.Shelf
theorem key3 : Keyed Try.prog 3 := int_keyed Try.underlying3
theorem inI_wf {n : Int} (h : inI64 n = true) : (Lit.int .i64 n).wf = true := by
 simp only [inI64, Bool.and_eq_true, decide_eq_true_eq] at h
 simp [Lit.wf, IntKind.signed, IntKind.bits, IntKind.min, IntKind.max]
 omega
theorem keyOf3 {n : Int} (h : inI64 n = true) : keyOf Try.prog 3 (.int .i64 n) = some (.int .i64 n) := by
 simp [keyOf, mapKey, Try.underlying3, inI_wf h]
theorem mapNums_of {es : List (Int × Int)} (h : mapNums es = true) : 0 < es.length ∧ es.length ≤ 1000000000 ∧ ∀ p ∈ es, inI64 p.1 = true ∧ inI64 p.2 = true := by
 simp only [mapNums, Bool.and_eq_true, decide_eq_true_eq, List.all_eq_true] at h
 exact ⟨h.1, h.2.1, h.2.2⟩
theorem owns_nums {w : World} {r : Nat} {ms : Array MapEntry} {clock : Nat} {es : List (Int × Int)} (hh : w.heap[r]? = some (.map ms clock)) (hst : Go.MapKept.Stamped ms clock) (hn : mapNums es = true)
 (hl : ms.toList.map (fun m => (m.key, m.val)) = es.map (fun x => (Value.int .i64 x.1, Value.int .i64 x.2))) :
 ∃ D0 : DataW Unit, w.ownsMap Try.prog 3 (plainElem Try.prog 3) r es.length D0 ∧ Maps.size D0 = es.length ∧ (∀ x c, (∀ zd, D0.atKey (.int .i64 x) zd = .lit (.int .i64 c)) → inI64 x = true → (x, c) ∈ es) ∧ ∀ p ∈ es, has D0 (.int .i64 p.1) = true := by
 obtain ⟨h0, h1, h2⟩ := mapNums_of hn
 have hlen : ms.toList.length = es.length := by have := congrArg List.length hl; simpa using this
 have hof : ∀ m ∈ ms.toList, ∃ p ∈ es, m.key = .int .i64 p.1 ∧ m.val = .int .i64 p.2 := fun m hm => by
  have : (m.key, m.val) ∈ es.map (fun x => (Value.int .i64 x.1, Value.int .i64 x.2)) := by rw [← hl]; exact List.mem_map.2 ⟨m, hm, rfl⟩
  obtain ⟨p, hp, e⟩ := List.mem_map.1 this
  obtain ⟨e1, e2⟩ := Prod.mk.inj e
  exact ⟨p, hp, e1.symm, e2.symm⟩
 have hback : ∀ p ∈ es, ∃ m ∈ ms.toList, m.key = .int .i64 p.1 ∧ m.val = .int .i64 p.2 := fun p hp => by
  have : (Value.int .i64 p.1, Value.int .i64 p.2) ∈ ms.toList.map (fun m => (m.key, m.val)) := by rw [hl]; exact List.mem_map.2 ⟨p, hp, rfl⟩
  obtain ⟨m, hm, e⟩ := List.mem_map.1 this
  obtain ⟨e1, e2⟩ := Prod.mk.inj e
  exact ⟨m, hm, e1, e2⟩
 have hfit : WideElems.Fit Try.prog 3 (plainElem (H := Unit) Try.prog 3) ms clock := by
  refine ⟨by have : ms.size = es.length := by simpa using hlen
             rw [this]; exact Nat.le_trans h1 (by decide), hst, fun m hm => ?_⟩
  obtain ⟨p, hp, e1, e2⟩ := hof m hm
  refine ⟨(.int .i64 p.1, .lit (.int .i64 p.2)), ?_⟩
  simp [WideElems.rd, e1, e2, keyOf3 (h2 p hp).1, plainElem_int Try.underlying3 (inI_wf (h2 p hp).2)]
 refine ⟨_, ⟨ms, clock, hh, hfit, by have : ms.size = es.length := by simpa using hlen
                                     omega, rfl⟩, ?_, fun x c hat hx => ?_, fun p hp => ?_⟩
 ·show ((ms.toList.map _).foldr DataW.insert []).length = _
  rw [length_sorted, List.length_map, hlen]
 ·rcases Maps.fit_look false key3 (t := 55) Try.underlying55 (Try.zeroValue3 w) hh hfit (keyOf3 hx) with ⟨_, _, h⟩ | ⟨m, y, hm, hk, _, hR, h, _⟩
  ·have e1 := (h .nil).symm.trans (hat .nil)
   cases e1
  ·obtain ⟨p, hp, e1, e2⟩ := hof m hm
   have e3 := (h .nil).symm.trans (hat .nil)
   rw [e2, plainElem_int Try.underlying3 (inI_wf (h2 p hp).2)] at hR
   obtain rfl := Option.some.inj hR
   rw [e1] at hk
   cases hk
   cases e3
   exact hp
 ·rcases Maps.fit_look false key3 (t := 55) Try.underlying55 (Try.zeroValue3 w) hh hfit (keyOf3 (h2 p hp).1) with ⟨_, h, _⟩ | ⟨m, y, hm, hk, _, hR, h, _⟩
  ·obtain ⟨m, hm, e1, _⟩ := hback p hp
   exact absurd e1 (h m hm)
  ·exact has_true_of_atKey h
theorem values_in (n : Nat) (mb : Option Nat) (w : World) :
 CallsIn Fence.wide n Try.prog 25 #[.map mb] w fun e w' => e = .returned (.func (.func 43) #[] #[.pointer (some ⟨w.heap.size, 0, none⟩)]) ∧ w' = w.alloc (.cells #[.map mb] 55) := by
 refine callsIn_of_wp Try.func25 rfl trivial ?_ rfl
 simp only [Try.ntmps25, List.size_toArray, List.length_cons, List.length_nil, Nat.reduceAdd, Nat.reduceSub, Array.replicate_succ, Array.replicate_zero, List.push_toArray, List.append_toArray, List.nil_append, List.cons_append]
 gi_wp2
 go_ret
 exact ⟨rfl, rfl⟩
def AllCome (es : List (Int × Int)) (D0 : DataW Unit) (ss : List Int) : Prop := ∃ ps : List (Int × Int), ss = ps.map (·.2) ∧ (∀ p ∈ ps, p ∈ es) ∧ ∀ x, has D0 (.int .i64 x) = true → x ∈ ps.map (·.1)
set_option maxRecDepth 100000 in
set_option maxHeartbeats 1000000 in
theorem values1_in (es : List (Int × Int)) (n : Nat) (hn : 1 ≤ n) (l Bm b nn : Nat) (D0 : DataW Unit) (hin : ∀ x c, (∀ zd, D0.atKey (.int .i64 x) zd = .lit (.int .i64 c)) → inI64 x = true → (x, c) ∈ es) (J : List Int → World → Prop)
 (hY : ∀ pre x W, J pre W → pre.length < Maps.size D0 → YieldAt Fence.wide (n - 1) Try.prog l #[encZ x] W fun e W' => e = .returned (.bool true) ∧ J (pre ++ [x]) W' ∧ KeepsWalks W W')
 (W : World) (hJ : AbidesFrom W.heap.size J) (hm : W.cell? ⟨Bm, 0, none⟩ = some (.map (some b))) (hown : W.ownsMap Try.prog 3 (plainElem Try.prog 3) b nn D0) (h0 : J [] W) :
 CallsIn Fence.wide n Try.prog 43 #[.func (.yield l) #[] #[], .pointer (some ⟨Bm, 0, none⟩)] W fun e W' => (∃ v, e = .returned v) ∧ ∃ ss, AllCome es D0 ss ∧ J ss W' := by
 refine callsIn_of_wp Try.func43 rfl trivial ?_ rfl
 simp only [Try.ntmps43, List.size_toArray, List.length_cons, List.length_nil, Nat.reduceAdd, Nat.reduceSub, Array.replicate_succ, Array.replicate_zero, List.push_toArray, List.append_toArray, List.nil_append, List.cons_append]
 gi_wp2_with (first
  | (gi_at_range; refine wpListIn_range_own _ rfl _ 55 rfl 3 3 key3 Try.underlying55 _ b nn _ rfl hown ?_; intro w0 hrg0 hg0 hs0)
  | gi_in)
 go_frame
 gi_loopw [4] (fun _ wr => ∃ (left : Lit → Bool) (cnt : Nat) (ps : List (Int × Int)), wr.ranges Try.prog 3 (plainElem Try.prog 3) b W.heap.size nn D0 left cnt ∧ ps.length + cnt ≤ Maps.size D0 ∧ CollectedI D0 left (ps.map (·.1)) ∧ (∀ p ∈ ps, p ∈ es) ∧ J (ps.map (·.2)) wr)
  (fun _ wr => wr.rangeLeft b W.heap.size)
 case atStart =>
  exact ⟨_, _, [], hrg0, by simp, CollectedI.start D0, by simp, hJ [] W w0 none h0 hg0 (fun r e => by cases e)⟩
 case round =>
  obtain ⟨left, cnt, ps, hrg, hcs, hC, hV, hJs⟩ := hrel
  gi_wp2_with (first
   | (gi_at_next; refine wpListIn_next_ranges_ii _ rfl _ rfl 3 3 .i64 .i64 key3 Try.underlying3 Try.underlying3 b W.heap.size nn _ _ _ rfl hrg ?_ ?_)
   | gi_in)
  ·intro hc0 hl0
   gi_wp2
   go_end0
   exact ⟨⟨_, rfl⟩, _, ⟨ps, rfl, hV, fun x hx => (hC.2 x).2 ⟨hx, hl0 _⟩⟩, hJs⟩
  ·intro x c w2 cnt2 hwx hwc hlk hat hrg2 hlt hg2 hs2 hen
   have hJ2 : J (ps.map (·.2)) w2 := hJ _ wr w2 (some W.heap.size) hJs hg2 (fun r e => by cases e; exact ⟨Nat.le_refl _, hrg.iter_walk⟩)
   obtain ⟨fn, tmps, assign, body, hy, hR⟩ := hY (ps.map (·.2)) c w2 hJ2 (by simp; omega)
   clear hs2
   gi_wp2
   refine hR.mono ?_
   have hC2 : CollectedI D0 (fun z => left z && !z.sameKey (.int .i64 x)) ((ps ++ [(x, c)]).map (·.1)) := by simpa using hC.step hlk hat
   have hix : inI64 x = true := by
    simp [Lit.wf, IntKind.signed, IntKind.bits, IntKind.min, IntKind.max] at hwx
    simp only [inI64, Bool.and_eq_true, decide_eq_true_eq]
    omega
   have hV2 : ∀ p ∈ ps ++ [(x, c)], p ∈ es := fun p hp => (List.mem_append.1 hp).elim (hV p) (fun e => by simp at e; subst e; exact hin x c hat hix)
   rintro e W3 ⟨rfl, hJ3, hk3⟩
   gi_wp2
   have hrg3 := hrg2.of_walks hk3
   go_roundw
   case rel => exact ⟨_, cnt2, ps ++ [(x, c)], hrg3, by simp; omega, hC2, hV2, by simpa using hJ3⟩
   case measure => rw [hrg3.left_eq, hrg.left_eq]; exact hlt
theorem foldl_max : ∀ (l : List Int) (a : Int), (l.foldl max a = a ∨ l.foldl max a ∈ l) ∧ a ≤ l.foldl max a ∧ ∀ x ∈ l, x ≤ l.foldl max a
 | [], a => ⟨.inl rfl, Int.le_refl _, fun x h => by cases h⟩
 | y :: l, a => by
   obtain ⟨h1, h2, h3⟩ := foldl_max l (max a y)
   refine ⟨?_, by simp only [List.foldl_cons]; omega, fun x hx => ?_⟩
   ·simp only [List.foldl_cons]
    rcases h1 with h | h
    ·rw [h]
     by_cases hay : a ≤ y
     ·exact .inr (by rw [Int.max_eq_right hay]; simp)
     ·exact .inl (Int.max_eq_left (by omega))
    ·exact .inr (List.mem_cons_of_mem _ h)
   ·simp only [List.foldl_cons]
    rcases List.mem_cons.1 hx with rfl | hx
    ·omega
    ·exact h3 x hx
theorem maxI_spec {l : List Int} (h : l ≠ []) : maxI l ∈ l ∧ ∀ x ∈ l, x ≤ maxI l := by
 cases l with
 | nil => exact absurd rfl h
 | cons y l =>
   obtain ⟨h1, h2, h3⟩ := foldl_max l y
   refine ⟨?_, fun x hx => ?_⟩
   ·rcases h1 with h | h
    ·exact List.mem_cons.2 (.inl h)
    ·exact List.mem_cons_of_mem _ h
   ·rcases List.mem_cons.1 hx with rfl | hx
    ·exact h2
    ·exact h3 x hx
theorem maxOf_spec {l : List Int} (h : l ≠ []) : Lib.maxOf l = maxI l := by
 cases l with
 | nil => exact absurd rfl h
 | cons y l => show l.foldl max (max y y) = _; rw [Int.max_self]; rfl
theorem maxI_same {l l' : List Int} (h : l ≠ []) (h' : l' ≠ []) (hm : ∀ x, x ∈ l ↔ x ∈ l') : maxI l = maxI l' := by
 obtain ⟨a1, a2⟩ := maxI_spec h
 obtain ⟨b1, b2⟩ := maxI_spec h'
 exact Int.le_antisymm (b2 _ ((hm _).1 a1)) (a2 _ ((hm _).2 b1))
theorem nodup_pairs {es : List (Int × Int)} (h : (es.map (·.1)).Nodup) {p q : Int × Int} (hq : q ∈ es) (hp : p ∈ es) (e : q.1 = p.1) : q = p := by
 induction es with
 | nil => cases hp
 | cons a es ih =>
   rw [List.map_cons, List.nodup_cons] at h
   rcases List.mem_cons.1 hq with h1 | h1
   ·rcases List.mem_cons.1 hp with h2 | h2
    ·rw [h1, h2]
    ·exact absurd (List.mem_map.2 ⟨p, h2, by rw [← e, h1]⟩) h.1
   ·rcases List.mem_cons.1 hp with h2 | h2
    ·exact absurd (List.mem_map.2 ⟨q, h1, by rw [e, h2]⟩) h.1
    ·exact ih h.2 h1 h2
theorem mapMax : MxOk Try.prog (some (25, 24, 23)) := by
 intro w r ms clock es hh hst hn hl
 obtain ⟨D0, hown, hsz, hin, hhas⟩ := owns_nums hh hst hn hl
 obtain ⟨h0, h1, h2⟩ := mapNums_of hn
 have hbl : r < w.heap.size := (Array.getElem?_eq_some_iff.1 hh).1
 refine (callsIn_wide (n := 6)).1 ((values_in 6 (some r) w).mono ?_)
 rintro e w1 ⟨rfl, rfl⟩
 refine ⟨_, rfl, (Below.refl _ w).alloc (Nat.le_refl _) _, (callsIn_wide (n := 5)).1 ?_⟩
 have hown1 : (w.alloc (.cells #[.map (some r)] 55)).ownsMap Try.prog 3 (plainElem (H := Unit) Try.prog 3) r es.length D0 := hown.alloc _
 have hseq : SeqGives Fence.wide (5 - 1 - 1) Try.prog 43 #[.pointer (some ⟨w.heap.size, 0, none⟩)] encZ (AllCome es D0) (Maps.size D0) (w.alloc (.cells #[.map (some r)] 55)) := fun l J W hW hJ hY hJ0 => by
  have hown' : W.ownsMap Try.prog 3 (plainElem (H := Unit) Try.prog 3) r es.length D0 := by
   have hbl' := hown1.lt
   obtain ⟨es', clock', hb, Ft, hs, hD⟩ := hown1
   exact ⟨es', clock', (hW.block r hbl').trans hb, Ft, hs, hD⟩
  exact values1_in es _ (by omega) l w.heap.size r es.length D0 hin J hY W hJ ((hW.cell (p := ⟨w.heap.size, 0, none⟩) (by simp)).trans (by simp)) hown' hJ0
 have cS := AnyZI.collect_in Try.collectA Fence.wide 5 trivial trivial rfl (by omega) 43 #[.pointer (some ⟨w.heap.size, 0, none⟩)] trivial (enters_of Try.func43 (by kernel_rfl) rfl) _ _ (by rw [hsz]; exact Nat.le_trans h1 (by decide)) (by rw [hsz]; omega) _ hseq
 refine cS.mono ?_
 rintro e w2 ⟨v, ss, rfl, ⟨ps, hss, hps, hall⟩, hrow, hnil, hb⟩
 refine ⟨v, rfl, hb, ?_⟩
 have hmem : ∀ x, x ∈ ss ↔ x ∈ es.map (fun x => x.2) := fun x => by
  subst hss
  constructor
  ·intro h
   obtain ⟨p, hp, rfl⟩ := List.mem_map.1 h
   exact List.mem_map.2 ⟨p, hps p hp, rfl⟩
  ·intro h
   obtain ⟨p, hp, rfl⟩ := List.mem_map.1 h
   obtain ⟨q, hq, e⟩ := List.mem_map.1 (hall p.1 (hhas p hp))
   have hnd : (es.map (·.1)).Nodup := by
    have h3 := hst.2.2
    have e1 : ms.toList.map (·.key) = es.map (fun x => Value.int .i64 x.1) := by
     have := congrArg (List.map Prod.fst) hl
     simpa [List.map_map, Function.comp_def] using this
    rw [e1] at h3
    have e2 : es.map (fun x => Value.int .i64 x.1) = (es.map (·.1)).map (Value.int .i64) := by simp [List.map_map, Function.comp_def]
    rw [e2] at h3
    exact (List.pairwise_map.1 h3).imp fun hne e => hne (congrArg _ e)
   have heq : q = p := by
    have := nodup_pairs hnd (hps q hq) hp e
    exact this
   exact List.mem_map.2 ⟨q, hq, by rw [heq]⟩
 have hne : ss ≠ [] := by
  intro e
  cases es with
  | nil => simp at h0
  | cons p es =>
    have := (hmem p.2).2 (by simp)
    rw [e] at this
    cases this
 have hpos : 0 < ss.length := List.length_pos_iff.2 hne
 obtain ⟨hlen, hcase⟩ := hrow
 rcases hcase with ⟨_, h⟩ | ⟨g, cap, cur, rfl, hB, hg, hcap, hcapm, hcur, htake⟩
 ·omega
 have hcells : ∀ j, j < ss.length → w2.cell? ⟨g, 0 + j, none⟩ = some (.int .i64 (ss.getD j 0)) := fun j hj => by
  have e1 : (cur.toList.take (ss.length * 1))[j]? = (ss.map encZ)[j]? := by rw [htake]
  rw [List.getElem?_take_of_lt (by omega), List.getElem?_map] at e1
  have e2 : ss[j]? = some (ss.getD j 0) := by rw [List.getD_eq_getElem?_getD, List.getElem?_eq_getElem hj]; rfl
  rw [e2] at e1
  simp only [Option.map_some, Array.getElem?_toList] at e1
  simp [World.cell?, hg, e1, encZ]
 refine (AnyG.slices_Max_int Try.maxA g 0 ss.length cap ss w2 hpos (Nat.le_refl _) (by have : maxLen = 9223372036854775807 := rfl; omega) hcells).mono ?_
 rintro e w3 ⟨rfl, rfl⟩
 refine ⟨?_, Below.refl _ _⟩
 rw [List.take_length, maxOf_spec hne]
 exact congrArg _ (congrArg _ (maxI_same hne (by intro e; rw [List.map_eq_nil_iff] at e; subst e; simp at h0) hmem))
end Go.Proofs.Ytcdpgjlaajdfmaa
