import Derived.Test.YtfmfiflpokogiaaDoorGc11
import Derived.Test.YtfmfiflpokogiaaDoorSets
import Derived.Test.YtfmfiflpokogiaaDoorEnclLaw
set_option linter.unusedSimpArgs false
namespace Go.Proofs.YtfmfiflpokogiaaDoor
open Go.Ev
noncomputable def R1 (k m : Nat) : List (List Int) := (List.range' k m).map fun j : Nat => [(j : Int)]
noncomputable def R2 (n k m : Nat) : List (List Int) := (List.range' k m).flatMap fun j : Nat => (R1 (j + 1) (n - (j + 1))).map ((j : Int) :: ·)
noncomputable def R3 (n k m : Nat) : List (List Int) := (List.range' k m).flatMap fun j : Nat => (R2 n (j + 1) (n - (j + 1))).map ((j : Int) :: ·)
theorem R1_len (k m : Nat) : (R1 k m).length = m := by simp [R1]
theorem R1_succ (k m : Nat) : R1 k (m + 1) = [(k : Int)] :: R1 (k + 1) m := by simp [R1, List.range'_succ]
theorem R2_succ (n k m : Nat) : R2 n k (m + 1) = (R1 (k + 1) (n - (k + 1))).map ((k : Int) :: ·) ++ R2 n (k + 1) m := by simp [R2, List.range'_succ]
theorem R3_succ (n k m : Nat) : R3 n k (m + 1) = (R2 n (k + 1) (n - (k + 1))).map ((k : Int) :: ·) ++ R3 n (k + 1) m := by simp [R3, List.range'_succ]
theorem R2_len (n : Nat) (hn : n ≤ 100) : ∀ m k : Nat, (R2 n k m).length ≤ m * 100
 | 0, k => by simp [R2]
 | m + 1, k => by
   have := R2_len n hn m (k + 1)
   rw [R2_succ, List.length_append, List.length_map, R1_len]
   omega
theorem R3_len (n : Nat) (hn : n ≤ 100) : ∀ m k : Nat, (R3 n k m).length ≤ m * 10000
 | 0, k => by simp [R3]
 | m + 1, k => by
   have := R3_len n hn m (k + 1)
   have h2 := R2_len n hn (n - (k + 1)) (k + 1)
   rw [R3_succ, List.length_append, List.length_map]
   omega
theorem R1_mem {k m : Nat} {s : List Int} (h : s ∈ R1 k m) : ∃ a : Nat, s = [(a : Int)] ∧ k ≤ a ∧ a < k + m := by
 obtain ⟨a, ha, rfl⟩ := List.mem_map.1 h
 have := List.mem_range'_1.1 ha
 exact ⟨a, rfl, this⟩
theorem R2_mem {n k m : Nat} {s : List Int} (hk : k + m ≤ n) (h : s ∈ R2 n k m) : ∃ a b : Nat, s = [(a : Int), (b : Int)] ∧ k ≤ a ∧ a < b ∧ b < n := by
 obtain ⟨a, ha, h⟩ := List.mem_flatMap.1 h
 obtain ⟨t, ht, rfl⟩ := List.mem_map.1 h
 obtain ⟨b, rfl, h1, h2⟩ := R1_mem ht
 have := List.mem_range'_1.1 ha
 exact ⟨a, b, rfl, this.1, by omega, by omega⟩
theorem R3_mem {n k m : Nat} {s : List Int} (hk : k + m ≤ n) (h : s ∈ R3 n k m) : ∃ a b c : Nat, s = [(a : Int), (b : Int), (c : Int)] ∧ k ≤ a ∧ a < b ∧ b < c ∧ c < n := by
 obtain ⟨a, ha, h⟩ := List.mem_flatMap.1 h
 obtain ⟨t, ht, rfl⟩ := List.mem_map.1 h
 have := List.mem_range'_1.1 ha
 obtain ⟨b, c, rfl, h1, h2, h3⟩ := R2_mem (by omega) ht
 exact ⟨a, b, c, rfl, this.1, by omega, h2, h3⟩
theorem put_all (c i : Int) (out rest : List (List Int)) (h1 : out.length + rest.length ≤ 100000000) (h2 : ∀ r ∈ rest, r.length ≤ 10) :
 loopVal step82_2 (c, out, i, rest, 0) = some (c, out ++ rest.map (i :: ·), i) := by
 have h := loop_for (step := step82_2) (st := fun k => (c, out ++ (rest.take k).map (i :: ·), i, rest, (k : Int))) (n := rest.length) (e := (c, out ++ rest.map (i :: ·), i)) (fun k hk => by
  have hr := h2 _ (getD_mem ([] : List Int) hk)
  have hlen : (out ++ (rest.take k).map (i :: ·)).length + 1 ≤ 100000001 := by simp; omega
  simp only [step82_2, lt_cast, inB_cast, hk, decide_true, cond_true, Int.toNat_natCast, wr_succ (show k < 4611686018427387904 by omega), room_true (b := 8) (n := 1 + (rest.getD k []).length) (by omega) (by omega), room_true (b := 24) (n := (out ++ (rest.take k).map (i :: ·)).length + 1) (by omega) (by omega)]
  rw [← take_map_succ (fun r => i :: r) rest [] hk, ← List.append_assoc]
  rfl) (by simp only [step82_2, lt_cast, Nat.lt_irrefl, decide_false, cond_false, List.take_length]) 0 (by omega)
 simpa using h
theorem sets_a : step82_2a = step82_2 := rfl
theorem sets_b : step82_2b = step82_2 := rfl
theorem sets1 (n : Nat) (hn : n ≤ 100) : ∀ (m k : Nat) (out : List (List Int)), k + m = n → out.length + m ≤ 100000000 → loopVal step82_0 ((n : Int), out, (k : Int)) = some (out ++ R1 k m)
 | 0, k, out, hk, hl => by
   have hs : step82_0 ((n : Int), out, (k : Int)) = some (.inr out) := by
    simp only [step82_0, wr_succ (show k < 4611686018427387904 by omega), decide_eq_false (show ¬ (((k + 1 : Nat) : Int) ≤ (n : Int)) by omega), cond_false]
   rw [loopVal_last hs]; simp [R1]
 | m + 1, k, out, hk, hl => by
   have hs : step82_0 ((n : Int), out, (k : Int)) = some (.inl ((n : Int), out ++ [[(k : Int)]], ((k + 1 : Nat) : Int))) := by
    simp only [step82_0, wr_succ (show k < 4611686018427387904 by omega), decide_eq_true (show (((k + 1 : Nat) : Int) ≤ (n : Int)) by omega), cond_true, put_all (n : Int) (k : Int) out [[]] (by simp; omega) (by simp), optE_some, List.map_cons, List.map_nil]
   rw [loopVal_next hs, sets1 n hn m (k + 1) _ (by omega) (by simp; omega), R1_succ, List.append_assoc]
   rfl
theorem sets2 (n : Nat) (hn : n ≤ 100) : ∀ (m k : Nat) (out : List (List Int)), k + m = n → out.length + m * 100 ≤ 10000000 → loopVal step82_0a ((n : Int), out, (k : Int)) = some (out ++ R2 n k m)
 | 0, k, out, hk, hl => by
   have hs : step82_0a ((n : Int), out, (k : Int)) = some (.inr out) := by
    simp only [step82_0a, wr_id (n := (k : Int) + 2) (by omega) (by omega), decide_eq_false (show ¬ ((k : Int) + 2 ≤ (n : Int)) by omega), cond_false]
   rw [loopVal_last hs]; simp [R2]
 | 1, k, out, hk, hl => by
   have hs : step82_0a ((n : Int), out, (k : Int)) = some (.inr out) := by
    simp only [step82_0a, wr_id (n := (k : Int) + 2) (by omega) (by omega), decide_eq_false (show ¬ ((k : Int) + 2 ≤ (n : Int)) by omega), cond_false]
   rw [loopVal_last hs, R2_succ, show n - (k + 1) = 0 by omega]; simp [R1, R2]
 | m + 2, k, out, hk, hl => by
   have h1 := sets1 n hn (n - (k + 1)) (k + 1) [] (by omega) (by simp; omega)
   rw [List.nil_append] at h1
   have hs : step82_0a ((n : Int), out, (k : Int)) = some (.inl ((n : Int), out ++ (R1 (k + 1) (n - (k + 1))).map ((k : Int) :: ·), ((k + 1 : Nat) : Int))) := by
    simp only [step82_0a, sets_a, wr_id (n := (k : Int) + 2) (by omega) (by omega), decide_eq_true (show ((k : Int) + 2 ≤ (n : Int)) by omega), cond_true, wr_succ (show k < 4611686018427387904 by omega), h1, optE_some,
     put_all (n : Int) (k : Int) out (R1 (k + 1) (n - (k + 1))) (by rw [R1_len]; omega) (fun r hr => by obtain ⟨a, rfl, _⟩ := R1_mem hr; simp)]
   rw [loopVal_next hs, sets2 n hn (m + 1) (k + 1) _ (by omega) (by rw [List.length_append, List.length_map, R1_len]; omega), R2_succ n k, List.append_assoc]
theorem sets3 (n : Nat) (hn : n ≤ 100) : ∀ (m k : Nat) (out : List (List Int)), k + m = n → out.length + m * 10000 ≤ 10000000 → loopVal step82_0b ((n : Int), out, (k : Int)) = some (out ++ R3 n k m)
 | 0, k, out, hk, hl => by
   have hs : step82_0b ((n : Int), out, (k : Int)) = some (.inr out) := by
    simp only [step82_0b, wr_id (n := (k : Int) + 3) (by omega) (by omega), decide_eq_false (show ¬ ((k : Int) + 3 ≤ (n : Int)) by omega), cond_false]
   rw [loopVal_last hs]; simp [R3]
 | 1, k, out, hk, hl => by
   have hs : step82_0b ((n : Int), out, (k : Int)) = some (.inr out) := by
    simp only [step82_0b, wr_id (n := (k : Int) + 3) (by omega) (by omega), decide_eq_false (show ¬ ((k : Int) + 3 ≤ (n : Int)) by omega), cond_false]
   rw [loopVal_last hs, R3_succ, show n - (k + 1) = 0 by omega]; simp [R2, R3]
 | 2, k, out, hk, hl => by
   have hs : step82_0b ((n : Int), out, (k : Int)) = some (.inr out) := by
    simp only [step82_0b, wr_id (n := (k : Int) + 3) (by omega) (by omega), decide_eq_false (show ¬ ((k : Int) + 3 ≤ (n : Int)) by omega), cond_false]
   rw [loopVal_last hs, R3_succ, R3_succ, show n - (k + 1) = 1 by omega, show n - (k + 1 + 1) = 0 by omega, R2_succ, show n - (k + 1 + 1) = 0 by omega]; simp [R1, R2, R3]
 | m + 3, k, out, hk, hl => by
   have h1 := sets2 n hn (n - (k + 1)) (k + 1) [] (by omega) (by simp; omega)
   rw [List.nil_append] at h1
   have h2 := R2_len n hn (n - (k + 1)) (k + 1)
   have hs : step82_0b ((n : Int), out, (k : Int)) = some (.inl ((n : Int), out ++ (R2 n (k + 1) (n - (k + 1))).map ((k : Int) :: ·), ((k + 1 : Nat) : Int))) := by
    simp only [step82_0b, sets_b, wr_id (n := (k : Int) + 3) (by omega) (by omega), decide_eq_true (show ((k : Int) + 3 ≤ (n : Int)) by omega), cond_true, wr_succ (show k < 4611686018427387904 by omega), h1, optE_some,
     put_all (n : Int) (k : Int) out (R2 n (k + 1) (n - (k + 1))) (by omega) (fun r hr => by obtain ⟨a, b, rfl, _⟩ := R2_mem (by omega) hr; simp)]
   rw [loopVal_next hs, sets3 n hn (m + 2) (k + 1) _ (by omega) (by rw [List.length_append, List.length_map]; omega), R3_succ n k, List.append_assoc]
noncomputable def msAt (l : List Msr) (s : List Int) : List Msr := s.map fun j => l.getD j.toNat ms0
noncomputable def badS (l : List Msr) (s : List Int) : Bool := !posB (msAt l s)
theorem contradict_part {s : List Msr} (hs : s.length ≤ 100) (hv : ∀ m ∈ s, mErr m = 0) : s83 s = some (!posB s) := by
 obtain ⟨b, hb, h⟩ := contradict_eq (H := hvs s) (hvs_ok hv) (by rw [hvs_len]; omega)
 have hp := (posB_eq hs hv).2
 unfold s83
 simp only [halves_eq s (by omega) hv, optE_some, hb]
 congr 1
 cases b with
 | true =>
   have : posB s = false := by
    cases h2 : posB s with
    | false => rfl
    | true => exact absurd (h.1 rfl) (hp.1 h2)
   rw [this]; rfl
 | false =>
   have : posB s = true := hp.2 fun hc => by have := h.2 hc; cases this
   rw [this]; rfl
def In (n : Nat) (s : List Int) : Prop := s.length ≤ 10 ∧ ∀ j ∈ s, ∃ q : Nat, j = (q : Int) ∧ q < n
theorem msAt_mem {l : List Msr} {s : List Int} (h : In l.length s) {m : Msr} (hm : m ∈ msAt l s) : m ∈ l := by
 obtain ⟨j, hj, rfl⟩ := List.mem_map.1 hm
 obtain ⟨q, rfl, hq⟩ := h.2 j hj
 rw [Int.toNat_natCast]
 exact getD_mem ms0 hq
section
variable {l : List Msr} (hv' : ∀ m ∈ l, mErr m = 0) {all : List (List Int)} (hall : ∀ s ∈ all, In l.length s) (hlen : all.length ≤ 100000000)
include hall
theorem partS_eq {i : Nat} (hi : i < all.length) : loopVal step25_4 (l, all, (i : Int), [], 0) = some (l, all, (i : Int), msAt l (all.getD i [])) := by
 obtain ⟨h1, h2⟩ := hall _ (getD_mem ([] : List Int) hi)
 have h := loop_for (step := step25_4) (st := fun k => (l, all, (i : Int), msAt l ((all.getD i []).take k), (k : Int))) (n := (all.getD i []).length) (e := (l, all, (i : Int), msAt l (all.getD i []))) (fun k hk => by
  obtain ⟨q, e, hq⟩ := h2 _ (getD_mem (0 : Int) hk)
  have hlen : (msAt l ((all.getD i []).take k)).length + 1 ≤ 11 := by simp [msAt]; omega
  simp only [step25_4, lt_cast, inB_cast, hi, hk, decide_true, cond_true, Int.toNat_natCast, e, hq, wr_succ (show k < 4611686018427387904 by omega), room_true (b := 40) (n := (msAt l ((all.getD i []).take k)).length + 1) (by omega) (by omega)]
  unfold msAt
  rw [← take_map_succ (fun j : Int => l.getD j.toNat ms0) (all.getD i []) 0 hk, e, Int.toNat_natCast]) (by simp only [step25_4, inB_cast, hi, decide_true, cond_true, Int.toNat_natCast, lt_cast, Nat.lt_irrefl, decide_false, cond_false, List.take_length]) 0 (by omega)
 simpa [msAt] using h
include hv' hlen
theorem search_eq : loopVal step25_2 (l, all, 0) = some (match all.find? (badS l) with | some s => .inl (s, true) | none => .inr l) := by
 have h := loop_scan (step := step25_2) (st := fun k => (l, all, (k : Int))) (n := all.length)
  (hit := fun k => bif badS l (all.getD k []) then some (Sum.inl (all.getD k [], true)) else none) (e := .inr l) (fun k hk => by
    have hs := hall _ (getD_mem ([] : List Int) hk)
    have hc := contradict_part (s := msAt l (all.getD k [])) (by have := hs.1; rw [msAt, List.length_map]; omega) (fun m hm => hv' m (msAt_mem hs hm))
    simp only [step25_2, lt_cast, inB_cast, hk, decide_true, cond_true, Int.toNat_natCast, partS_eq hall hk, optE_some, hc, wr_succ (show k < 4611686018427387904 by omega)]
    unfold badS
    cases posB (msAt l (all.getD k [])) <;> rfl) (by simp only [step25_2, lt_cast, Nat.lt_irrefl, decide_false, cond_false]) all.length 0 (by omega)
 rw [scan_list0 (fun s => bif badS l s then some (Sum.inl (s, true)) else none) (.inr l) all []] at h
 rw [show ((0 : Nat) : Int) = 0 from rfl] at h
 rw [h]
 congr 1
 clear h hall hlen
 induction all with
 | nil => rfl
 | cons s t ih =>
   simp only [scanL, List.find?_cons]
   cases badS l s with
   | true => rfl
   | false => simp only [cond_false]; exact ih
end
theorem In1 {n k m : Nat} (h : k + m ≤ n) : ∀ s ∈ R1 k m, In n s := fun s hs => by
 obtain ⟨a, rfl, h1, h2⟩ := R1_mem hs
 exact ⟨by simp, fun j hj => by simp at hj; exact ⟨a, hj, by omega⟩⟩
theorem In2 {n k m : Nat} (h : k + m ≤ n) : ∀ s ∈ R2 n k m, In n s := fun s hs => by
 obtain ⟨a, b, rfl, h1, h2, h3⟩ := R2_mem h hs
 exact ⟨by simp, fun j hj => by
  simp only [List.mem_cons, List.not_mem_nil, or_false] at hj
  rcases hj with rfl | rfl
  ·exact ⟨a, rfl, by omega⟩
  ·exact ⟨b, rfl, by omega⟩⟩
theorem In3 {n k m : Nat} (h : k + m ≤ n) : ∀ s ∈ R3 n k m, In n s := fun s hs => by
 obtain ⟨a, b, c, rfl, h1, h2, h3, h4⟩ := R3_mem h hs
 exact ⟨by simp, fun j hj => by
  simp only [List.mem_cons, List.not_mem_nil, or_false] at hj
  rcases hj with rfl | rfl | rfl
  ·exact ⟨a, rfl, by omega⟩
  ·exact ⟨b, rfl, by omega⟩
  ·exact ⟨c, rfl, by omega⟩⟩
theorem firstN_map {β γ : Type} (g : β → γ) (f : Nat → Option β) : ∀ m k, (firstN f m k).map g = firstN (fun j => (f j).map g) m k
 | 0, _ => rfl
 | m + 1, k => by
   simp only [firstN]
   cases f k with
   | none => exact firstN_map g f m (k + 1)
   | some x => rfl
theorem firstN_congr {β : Type} {f g : Nat → Option β} : ∀ {m k : Nat}, (∀ j, k ≤ j → j < k + m → f j = g j) → firstN f m k = firstN g m k
 | 0, _, _ => rfl
 | m + 1, k, h => by
   simp only [firstN, h k (by omega) (by omega)]
   rw [firstN_congr (m := m) (k := k + 1) (fun j h1 h2 => h j (by omega) (by omega))]
theorem find_R1 (p : List Int → Bool) : ∀ m k, (R1 k m).find? p = firstN (fun a => if p [(a : Int)] then some [(a : Int)] else none) m k
 | 0, k => by simp [R1, firstN]
 | m + 1, k => by
   rw [R1_succ, List.find?_cons]
   simp only [firstN]
   cases p [(k : Int)] with
   | true => rfl
   | false => exact find_R1 p m (k + 1)
theorem find_flat (p : List Int → Bool) (f : Nat → List (List Int)) : ∀ m k, ((List.range' k m).flatMap f).find? p = firstN (fun a => (f a).find? p) m k
 | 0, k => by simp [firstN]
 | m + 1, k => by
   rw [List.range'_succ, List.flatMap_cons, List.find?_append]
   simp only [firstN]
   cases (f k).find? p with
   | none => exact find_flat p f m (k + 1)
   | some x => rfl
theorem find_R2 (p : List Int → Bool) (n m k : Nat) : (R2 n k m).find? p = firstN (fun a : Nat => (firstN (fun b : Nat => if p [(a : Int), (b : Int)] then some b else none) (n - (a + 1)) (a + 1)).map fun b : Nat => [(a : Int), (b : Int)]) m k := by
 unfold R2
 rw [find_flat]
 refine firstN_congr fun a _ _ => ?_
 rw [List.find?_map, find_R1, firstN_map, firstN_map]
 refine firstN_congr fun b _ _ => ?_
 simp only [Function.comp]
 by_cases h : p [(a : Int), (b : Int)] = true
 ·rw [if_pos h, if_pos h]; rfl
 ·rw [if_neg h, if_neg h]; rfl
theorem find_R3 (p : List Int → Bool) (n m k : Nat) : (R3 n k m).find? p = firstN (fun a : Nat => (firstN (fun b : Nat => (firstN (fun c : Nat => if p [(a : Int), (b : Int), (c : Int)] then some c else none) (n - (b + 1)) (b + 1)).map fun c : Nat => (b, c)) (n - (a + 1)) (a + 1)).map fun q : Nat × Nat => [(a : Int), (q.1 : Int), (q.2 : Int)]) m k := by
 unfold R3
 rw [find_flat]
 refine firstN_congr fun a _ _ => ?_
 rw [List.find?_map, find_R2, firstN_map, firstN_map]
 refine firstN_congr fun b _ _ => ?_
 simp only [Option.map_map]
 rfl
theorem pair_find (l : List Msr) : (R2 l.length 0 l.length).find? (badS l) = (fst2 l).map fun q => [(q.1 : Int), (q.2 : Int)] := by
 rw [find_R2]
 unfold fst2
 rw [firstN_map]
 refine firstN_congr fun a _ _ => ?_
 rw [Option.map_map]
 unfold nx2
 rw [show (fun b : Nat => if badS l [(a : Int), (b : Int)] = true then some b else none) = bad2 l a from funext fun b => by
  unfold badS bad2 msAt
  simp only [List.map_cons, List.map_nil, Int.toNat_natCast]
  cases posB [l.getD a ms0, l.getD b ms0] <;> rfl]
 rfl
theorem trip_find (l : List Msr) : (R3 l.length 0 l.length).find? (badS l) = (fst3 l).map fun q => [(q.1 : Int), (q.2.1 : Int), (q.2.2 : Int)] := by
 rw [find_R3]
 unfold fst3
 rw [firstN_map]
 refine firstN_congr fun a _ _ => ?_
 rw [Option.map_map]
 unfold md3
 refine congrArg (Option.map _) (firstN_congr fun b _ _ => ?_)
 unfold nx3
 rw [show (fun c : Nat => if badS l [(a : Int), (b : Int), (c : Int)] = true then some c else none) = bad3 l a b from funext fun c => by
  unfold badS bad3 msAt
  simp only [List.map_cons, List.map_nil, Int.toNat_natCast]
  cases posB [l.getD a ms0, l.getD b ms0, l.getD c ms0] <;> rfl]
end Go.Proofs.YtfmfiflpokogiaaDoor
