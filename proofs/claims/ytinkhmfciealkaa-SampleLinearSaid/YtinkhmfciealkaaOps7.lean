/- Slices that are made and that grow, and maps. -/
import Derived.Test.YtinkhmfciealkaaOps6
set_option linter.unusedSimpArgs false
namespace Go.Ev
open Go.RowKit

section
variable {P : Program} {s s' : PS} {o : Oper}

theorem made_flat (z : List Value) (hz : 0 < z.length) : ∀ n, (madeCells z.toArray (n * z.length)).toList = (List.replicate n z).flatten := by
  intro n
  apply List.ext_getElem?
  intro j
  have hl : ((List.replicate n z).flatten).length = n * z.length := by simp
  have key : ∀ (n j : Nat), j < n * z.length → ((List.replicate n z).flatten)[j]? = z[j % z.length]? := by
    intro n
    induction n with
    | zero => intro j h; simp at h
    | succ n ih =>
      intro j h
      rw [List.replicate_succ, List.flatten_cons, List.getElem?_append]
      by_cases hj : j < z.length
      · rw [if_pos hj, Nat.mod_eq_of_lt hj]
      · rw [if_neg hj, ih (j - z.length) (by rw [Nat.add_mul, Nat.one_mul] at h; omega)]
        rw [← Nat.mod_eq_sub_mod (by omega)]
  by_cases hj : j < n * z.length
  · rw [key n j hj]
    have hm : j % z.length < z.length := Nat.mod_lt _ hz
    simp [madeCells, hj, hm]
  · rw [List.getElem?_eq_none (by rw [Array.length_toList, size_madeCells]; omega), List.getElem?_eq_none (by rw [hl]; omega)]

theorem repLs_replicate {w : World} {p : Nat → Prop} {β : Nat → Option Value} {H : Nat → Blk} {cs : List LV} {us : List Value} (h : RepLs w p β H cs us) : ∀ n, RepLs w p β H ((List.replicate n cs).flatten) ((List.replicate n us).flatten)
  | 0 => repLs_nil
  | n + 1 => by
    rw [List.replicate_succ, List.replicate_succ, List.flatten_cons, List.flatten_cons]
    exact h.append (repLs_replicate h n)

theorem rows_imp {w : World} {p : Nat → Prop} {e : Sh} {xs : List e.T} {us : List Value} {w' : World} {p' : Nat → Prop} (hd : ∀ b, p b → p' b ∧ w'.heap[b]? = w.heap[b]?) (h : Rows' e.size (RepT w p e) xs us) : Rows' e.size (RepT w' p' e) xs us :=
  h.imp fun _ _ h => RepT.mono hd h

theorem step_buildSlice {T : TypeId} {n : Nat} {parts : Array (Nat × Operand)} (ho : o.op = .buildSlice T n parts) (h : buildSliceOp P s o T n parts.toList = some (true, s')) : StepOk P s o s' := by
  unfold buildSliceOp at h
  split at h
  · rename_i E d hu hd
    split at h
    · rename_i e z i0 he hz hi0
      split at h
      · rename_i cs hf
        split at h
        · rename_i xs hrows
          split at h
          · rename_i hc
            obtain ⟨hsz, hpos, hzl, hmax, hmax2⟩ := hc
            split at h
            · rename_i s1 hs1
              obtain rfl := (Prod.mk.inj (Option.some.inj h)).2
              refine StepOk.made hd fun B0 w0 β p a w inv => ?_
              obtain ⟨i, zv, hi, hzv, hl⟩ := zero_ok (P := P) (w := w) (p := p) (β := β) (H := s.blk) hz
              obtain ⟨e1, e2⟩ := evParts_ok inv parts.toList
              have hzlen : zv.cells.toList.length = e.size := by rw [← hl.1]; exact hzl
              have hmade := made_flat zv.cells.toList (by omega) n
              rw [hzlen] at hmade
              have hbase : RepLs w p β s.blk ((List.replicate n z.cells).flatten) (madeCells zv.cells (n * e.size)).toList := by
                have h2 := repLs_replicate hl n
                rw [← hmade] at h2
                simpa using h2
              obtain ⟨vs, r1, r2⟩ := fill_ok e1 e2 hbase hf
              obtain ⟨hlen, hrow⟩ := rows_ok hrows r2
              have hvs : vs.size = n * e.size := by have := hrow.1; rw [hlen] at this; simpa using this
              have hinfo : (P.info? E).isSome = true := by rw [hi]; rfl
              have hbel := below_alloc w (.cells vs E)
              obtain ⟨β', hinv⟩ := inv.allocAt hs1 (r0 := .slice (some ⟨w.heap.size, 0, none⟩) n n) (v := .slice (some ⟨w.heap.size, 0, none⟩) n n) hbel (fun b hb => by obtain rfl := Option.some.inj hb; exact Nat.le_refl _) (fun β' H' hk hβ hH => by
                refine ⟨⟨vs.toList, ?_, hpos, rows_imp (fun b hb => ⟨hb, hbel.block b (inv.shared b hb).1⟩) hrow⟩, repC_l (w := w.alloc (.cells vs E)) (p := p) (c := .full d) ⟨hβ, by rw [hH]; trivial, rfl⟩⟩
                rw [hlen]
                exact World.ownsRow_lit w vs n inv.base (by unfold maxLen; omega) hvs)
              refine ⟨_, _, ?_, β', p, hinv⟩
              have hnle : ¬ (n * e.size > 2 ^ 24) := by omega
              have hnle2 : ¬ (n * P.cellsOf E > 2 ^ 24) := by rw [← hsz]; exact hnle
              have hplace : (fun (i : Nat) => some (i * P.cellsOf E, P.cellsOf E)) = (fun (i : Nat) => some (i * P.cellsOf E, P.cellsOf E)) := rfl
              simp only [execOp, ho, Instr.buildSlice, Sem.run_bind, run_underlying hu, Result.andThen_ok, run_sizeOf' hinfo]
              rw [if_neg hnle2]
              simp only [Sem.run_pure, Result.andThen_ok]
              rw [hsz] at r1
              by_cases h0 : n * P.cellsOf E = 0
              · have hm0 : madeCells zv.cells (n * P.cellsOf E) = #[] := by rw [h0]; simp [madeCells]
                rw [hm0] at r1
                have hr0 : ∀ z : Array Value, (Array.range (n * P.cellsOf E)).map (fun x => z[x % z.size]!) = #[] := by intro z; rw [h0]; simp
                rw [if_pos h0]
                simp only [Sem.run_pure, Result.andThen_ok, hr0, Array.toList_map]
                rw [r1]
                simp [newRow]
              · rw [if_neg h0]
                simp only [Sem.run_bind, zeroValue, typeInfo, run_program, Result.andThen_ok, hi, hzv, Sem.run_pure, Array.toList_map]
                have hr0 : (Array.range (n * P.cellsOf E)).map (fun x => zv.cells[x % zv.cells.size]!) = madeCells zv.cells (n * P.cellsOf E) := rfl
                rw [hr0, r1]
                simp [newRow]
            · cases h
          · cases h
        · cases h
      · cases h
    · cases h
  · cases h

theorem run_append_call {T U : TypeId} {x y : Operand} (ho : o.op = .call { callee := .builtin .append, args := #[x, y], argTypes := #[T, U] }) (a : Act) {w w' : World} {v : Value}
    (h : (Builtin.append_ #[T, U] o.type #[a.eval x, a.eval y]).run P w = .ok v w') : (execOp a.eval o).run P w = .ok (.value v) w' := by
  simp [execOp, ho, resolve, invoke, builtin, h]

theorem Rows'.append {α : Type} {size : Nat} {R : α → List Value → Prop} {xs ys : List α} {us vs : List Value} (h1 : Rows' size R xs us) (h2 : Rows' size R ys vs) : Rows' size R (xs ++ ys) (us ++ vs) := by
  refine ⟨by rw [List.length_append, List.length_append, h1.1, h2.1, Nat.add_mul], fun i x hi => ?_⟩
  rw [List.getElem?_append] at hi
  by_cases hlt : i < xs.length
  · rw [if_pos hlt] at hi
    have hbig : (i + 1) * size ≤ xs.length * size := Nat.mul_le_mul_right _ hlt
    rw [Nat.add_mul, Nat.one_mul, ← h1.1] at hbig
    have := h1.2 i x hi
    rwa [List.drop_append_of_le_length (by omega), List.take_append_of_le_length (by rw [List.length_drop]; omega)]
  · rw [if_neg hlt] at hi
    have := h2.2 _ x hi
    have e : i * size = us.length + (i - xs.length) * size := by
      rw [h1.1, ← Nat.add_mul]; congr 1; omega
    rwa [e, List.drop_length_add_append]

theorem rows_part {α : Type} {size : Nat} {R : α → List Value → Prop} {xs : List α} {us : List Value} (h : Rows' size R xs us) (off len : Nat) (hle : off + len ≤ xs.length) : Rows' size R ((xs.drop off).take len) ((us.drop (off * size)).take (len * size)) := by
  have hb : (off + len) * size ≤ xs.length * size := Nat.mul_le_mul_right _ hle
  rw [Nat.add_mul, ← h.1] at hb
  refine ⟨?_, fun i x hi => ?_⟩
  · rw [List.length_take, List.length_drop, List.length_take, List.length_drop, Nat.min_eq_left (by omega), Nat.min_eq_left (by omega)]
  · rw [List.getElem?_take] at hi
    split at hi
    · rename_i hil
      rw [List.getElem?_drop] at hi
      have := h.2 _ x hi
      have h3 : (i + 1) * size ≤ len * size := Nat.mul_le_mul_right _ hil
      rw [Nat.add_mul, Nat.one_mul] at h3
      have e : ((us.drop (off * size)).take (len * size)).drop (i * size) = (us.drop ((off + i) * size)).take (len * size - i * size) := by
        rw [List.drop_take, List.drop_drop, Nat.add_mul]
      rw [e, List.take_take, Nat.min_eq_left (by omega)]
      exact this
    · cases hi

theorem rows_one {w : World} {p : Nat → Prop} {e : Sh} {xs : List e.T} {us : List Value} (h : Rows' e.size (RepT w p e) xs us) : ∀ v ∈ us, v.oneCell' = true :=
  (rows_cells (β := fun _ => none) (H := fun _ => .free) h).oneCells

/-- The elements that a slice shows, in memory: where from, and what stands there. -/
theorem src_ok {B0 : Nat} {w0 : Base} {β : Nat → Option Value} {p : Nat → Prop} {a : Act} {w : World} (inv : Inv B0 w0 β p s a w) {x : Operand} {e : Sh} {ys : List e.T} (h : srcOf s (evL s x) = some ⟨e, ys⟩) :
    ∃ ad cap us, a.eval x = .slice ad ys.length cap ∧ (ad = none → ys = [] ∧ cap = 0) ∧ Rows' e.size (RepT w p e) ys us ∧ (∀ v ∈ us, v.oneCell' = true) ∧ ∀ ad', ad = some ad' → ∀ j u, us[j]? = some u → w.cell? (ad'.add j) = some u := by
  have hne : evL s x ≠ .undef := by intro e; rw [e] at h; cases h
  have cx := evL_ok inv x hne
  unfold srcOf at h
  split at h
  · rename_i e' xs hx
    rw [hx] at cx
    obtain ⟨rfl, hh⟩ := Sigma.mk.inj (Option.some.inj h)
    obtain rfl := eq_of_heq hh
    simp only [RepL, RepT] at cx
    obtain ⟨ad, cap, ex, hcap, hel⟩ := cx
    have ex : a.eval x = .slice ad xs.length cap := by simpa using ex
    rcases hel with rfl | ⟨b, q, rfl, hb, hel⟩
    · exact ⟨ad, cap, [], ex, fun h => ⟨rfl, hcap.2 h⟩, ⟨by simp, fun i x h => by simp at h⟩, fun v hv => by simp at hv, fun ad' _ j u hu => by simp at hu⟩
    · let us : List Value := (List.range (xs.length * e'.size)).map fun m => (w.cell? ⟨b, q + m, none⟩).getD undef
      have hus : ∀ m, m < xs.length * e'.size → us[m]? = some ((w.cell? ⟨b, q + m, none⟩).getD undef) := by
        intro m hm
        simp [us, hm]
      have hlen : us.length = xs.length * e'.size := by simp [us]
      have seg : ∀ i y, xs[i]? = some y → ∃ ts, RepT w p e' y ts ∧ (us.drop (i * e'.size)).take e'.size = ts ∧ ∀ j, j < e'.size → w.cell? ⟨b, q + i * e'.size + j, none⟩ = ts[j]? := by
        intro i y hi
        obtain ⟨ts, r1, r2, r3⟩ := hel i y hi
        have hil : i < xs.length := (List.getElem?_eq_some_iff.1 hi).1
        have hbig : (i + 1) * e'.size ≤ xs.length * e'.size := Nat.mul_le_mul_right _ hil
        rw [Nat.add_mul, Nat.one_mul] at hbig
        refine ⟨ts, r1, ?_, r3⟩
        apply List.ext_getElem?
        intro j
        rw [List.getElem?_take]
        by_cases hj : j < e'.size
        · rw [if_pos hj, List.getElem?_drop, hus _ (by omega), ← r3 j hj, Nat.add_assoc]
          have : ts[j]? = some ts[j] := List.getElem?_eq_getElem (by rw [r2]; exact hj)
          rw [← Nat.add_assoc, r3 j hj, this]
          rfl
        · rw [if_neg hj, List.getElem?_eq_none (by rw [r2]; omega)]
      have hrow : Rows' e'.size (RepT w p e') xs us := ⟨hlen, fun i y hi => by
        obtain ⟨ts, r1, r2, _⟩ := seg i y hi
        rw [r2]; exact r1⟩
      refine ⟨_, cap, us, ex, fun h => (by cases h), hrow, rows_one hrow, fun ad' had j u hu => ?_⟩
      obtain rfl := Option.some.inj had
      rw [Addr.add_lit]
      have hj : j < xs.length * e'.size := by rw [← hlen]; exact (List.getElem?_eq_some_iff.1 hu).1
      have hsz : 0 < e'.size := Nat.pos_of_ne_zero fun h0 => by rw [h0, Nat.mul_zero] at hj; omega
      have hi : j / e'.size < xs.length := Nat.div_lt_of_lt_mul (by rwa [Nat.mul_comm] at hj)
      obtain ⟨ts, r1, r2, r3⟩ := seg (j / e'.size) _ (List.getElem?_eq_getElem hi)
      have hm : j % e'.size < e'.size := Nat.mod_lt _ hsz
      have hdm : j / e'.size * e'.size + j % e'.size = j := by rw [Nat.mul_comm]; exact Nat.div_add_mod j e'.size
      have h3 := r3 _ hm
      rw [Nat.add_assoc, hdm, ← r2, List.getElem?_take, if_pos hm, List.getElem?_drop, hdm, hu] at h3
      exact h3
  · rename_i t hx
    rw [hx] at cx
    obtain ⟨hr, _, _⟩ := cx
    split at h
    · rename_i U e' xs hs
      obtain ⟨rfl, hh⟩ := Sigma.mk.inj (Option.some.inj h)
      obtain rfl := eq_of_heq hh
      have hrep := inv.blk hr
      rw [hs] at hrep
      obtain ⟨us, hown, he, hrow⟩ := hrep
      rcases hown.2 with ⟨e1, e2⟩ | ⟨g, cap, cur, e1, _⟩
      · have hxs : xs = [] := List.eq_nil_of_length_eq_zero e2
        subst hxs
        exact ⟨none, 0, us, by rw [e1]; rfl, fun _ => ⟨rfl, rfl⟩, hrow, rows_one hrow, fun ad' h => by cases h⟩
      · refine ⟨_, cap, us, e1, fun h => (by cases h), hrow, rows_one hrow, fun ad' had j u hu => ?_⟩
        obtain rfl := Option.some.inj had
        exact hown.cells (g := g) (by rw [e1]; rfl) j u hu
    · cases h
  · rename_i t sz off len hx
    rw [hx] at cx
    obtain ⟨ad, cap, r, ex, hcap, hr, hok, b, hb, rfl⟩ := cx
    have fin : ∀ (e' : Sh) (xs : List e'.T), ((∃ U, s.blk t = .buf U e' xs) ∨ s.blk t = .arr e' xs) → sz = e'.size → off + len ≤ xs.length → (⟨e', (xs.drop off).take len⟩ : Σ e : Sh, List e.T) = ⟨e, ys⟩ →
        ∃ ad cap us, a.eval x = .slice ad ys.length cap ∧ (ad = none → ys = [] ∧ cap = 0) ∧ Rows' e.size (RepT w p e) ys us ∧ (∀ v ∈ us, v.oneCell' = true) ∧ ∀ ad', ad = some ad' → ∀ j u, us[j]? = some u → w.cell? (ad'.add j) = some u := by
      intro e' xs hs hsz hle heq
      obtain ⟨rfl, hh⟩ := Sigma.mk.inj heq
      obtain rfl := eq_of_heq hh
      obtain ⟨us, he, hrow, hc⟩ := inv.rowsAt hr hb hs
      have hp := rows_part hrow off len hle
      refine ⟨_, cap, _, by rw [ex, List.length_take, List.length_drop, Nat.min_eq_left (by omega)], fun h => (by cases h), hp, rows_one hp, fun ad' had j u hu => ?_⟩
      obtain rfl := Option.some.inj had
      rw [Addr.add_lit]
      rw [List.getElem?_take] at hu
      split at hu
      · rw [List.getElem?_drop] at hu
        have hlt := (List.getElem?_eq_some_iff.1 hu).1
        rw [hsz, hc _ hlt, hu]
      · cases hu
    split at h
    · rename_i U e' xs hs
      rw [hs] at hok
      exact fin e' xs (.inl ⟨U, hs⟩) hok.1 hok.2 (Option.some.inj h)
    · rename_i e' xs hs
      rw [hs] at hok
      exact fin e' xs (.inr hs) hok.1 hok.2 (Option.some.inj h)
    · cases h
  · rename_i t q len e' hx
    rw [hx] at cx
    obtain ⟨ad, cap, r, ex, hcap, hr, hok, b, hb, rfl⟩ := cx
    split at h
    · rename_i cs hs
      split at h
      · rename_i xs hrows
        obtain ⟨rfl, hh⟩ := Sigma.mk.inj (Option.some.inj h)
        obtain rfl := eq_of_heq hh
        obtain ⟨vs, U, _, _, hh, hl⟩ := inv.cellsAt hr hb hs
        obtain ⟨hlen, hrow⟩ := rows_ok hrows (hl.part q (len * e'.size))
        refine ⟨_, cap, _, by rw [ex, hlen], fun h => (by cases h), hrow, rows_one hrow, fun ad' had j u hu => ?_⟩
        obtain rfl := Option.some.inj had
        rw [Addr.add_lit, cell_of hh]
        rw [List.getElem?_take] at hu
        split at hu
        · rwa [List.getElem?_drop] at hu
        · cases hu
      · cases h
    · cases h
  · cases h

/-- Where a slice that has grown stands: where it stood, or in a new block. -/
theorem append_block {w w' : World} {B0 : Nat} {T ty E : TypeId} {i : TypeInfo} {z : Value} (ht : P.underlying T = some (.slice E)) (hi : P.info? E = some i) (hz : i.zero = some z)
    {v : Value} {n : Nat} {xs : List Value} (hown : w.ownsRow B0 E i.size v n xs)
    {a : Addr} {m c : Nat} {news : List Value} (hl : news.length = m * i.size) (hnews : ∀ j u, news[j]? = some u → w.cell? (a.add j) = some u) (h1 : ∀ u ∈ news, u.oneCell' = true)
    (h63 : n + m ≤ maxLen) (hbytes : (n + m) * i.bytes ≤ 140737488355328) {v' : Value} (hr : (Builtin.append_ #[T, T] ty #[v, .slice (some a) m c]).run P w = .ok v' w') :
    ∀ b, v'.ownBlock = some b → some b = v.ownBlock ∨ w.heap.size ≤ b := by
  intro b hb
  have hsmall : n + m ≤ 9223372036854775807 := by simp only [maxLen] at h63; omega
  rcases hown.2 with ⟨rfl, rfl⟩ | ⟨g, cap, cur, rfl, hbg, hg, hnc, hcm, hcs, htake⟩
  · have hx : xs = [] := List.eq_nil_of_length_eq_zero (by simpa using hown.1)
    subst hx
    by_cases hm : m = 0
    · subst hm
      have e : (Builtin.append_ #[T, T] ty #[.slice none 0 0, .slice (some a) 0 c]).run P w = .ok (.slice none 0 0) w := by
        simp [Builtin.append_, run_underlying ht, sizeOf, typeInfo, hi, Builtin.lenOf, Builtin.firstCells, loadCells, loadCellsFrom]
      rw [e] at hr
      injection hr with hr _
      subst hr
      simp [Value.ownBlock] at hb
    · have e := run_append_nil (P := P) w T ty E i z ht hi hz a m c news hl hnews (by omega) (by omega) (by simp only [Nat.zero_add] at hbytes; omega)
      rw [e] at hr
      injection hr with hr _
      subst hr
      simp [Value.ownBlock] at hb
      right; omega
  · by_cases hroom : n + m ≤ cap
    · have hfit : n * i.size + news.length ≤ cur.size := by rw [hl, hcs, ← Nat.add_mul]; exact Nat.mul_le_mul_right _ hroom
      have e := run_append_room (P := P) w T ty E i ht hi g n cap cur hg a m c news hl hnews h1 hroom hfit
      rw [e] at hr
      injection hr with hr _
      subst hr
      simp [Value.ownBlock] at hb
      left; simp [Value.ownBlock, hb]
    · have holds : ∀ j u, xs[j]? = some u → w.cell? ((⟨g, 0, none⟩ : Addr).add j) = some u := hown.cells (g := g) rfl
      have e := run_append_grow (P := P) w T ty E i z ht hi hz ⟨g, 0, none⟩ n cap xs hown.1 holds a m c news hl hnews (by omega) (by omega) (growslice_fits (by omega) hbytes)
      rw [e] at hr
      injection hr with hr _
      subst hr
      simp [Value.ownBlock] at hb
      right; omega

theorem root_own {v : Value} {b : Nat} (h : rootBlock v = some b) (hs : ∃ a n c, v = .slice a n c) : v.ownBlock = some b := by
  obtain ⟨a, n, c, rfl⟩ := hs
  cases a <;> simp [rootBlock, Value.ownBlock] at h ⊢
  exact h
theorem own_slice {w : World} {B0 : Nat} {E : TypeId} {size : Nat} {v : Value} {n : Nat} {xs : List Value} (h : w.ownsRow B0 E size v n xs) : ∃ a n c, v = .slice a n c := by
  rcases h.2 with ⟨rfl, _⟩ | ⟨_, _, _, rfl, _⟩ <;> exact ⟨_, _, _, rfl⟩
theorem own_root {v : Value} {b : Nat} (h : v.ownBlock = some b) : rootBlock v = some b := by
  cases v with
  | slice a n c => cases a <;> simp [rootBlock, Value.ownBlock] at h ⊢; exact h
  | _ => simp [Value.ownBlock] at h

theorem step_append {T : TypeId} {x y : Operand} (ho : o.op = .call { callee := .builtin .append, args := #[x, y], argTypes := #[T, T] }) (h : appendOp P s o T (evL s x) (evL s y) = some (true, s')) : StepOk P s o s' := by
  unfold appendOp at h
  split at h
  case h_2 => cases h
  rename_i E d hu hd
  split at h
  case h_2 => cases h
  rename_i e z he hz
  simp only [] at h
  split at h
  case h_2 => cases h
  rename_i t xs ys hbase hmore
  split at h
  case isFalse => cases h
  rename_i hc
  obtain ⟨hsz, hpos, hzl⟩ := hc
  split at h
  case h_2 => cases h
  rename_i s1 hs1
  obtain ⟨hroom, rfl⟩ := Prod.mk.inj (Option.some.inj h)
  simp only [roomFor, Bool.and_eq_true, decide_eq_true_eq] at hroom
  refine StepOk.made hd fun B0 w0 β p a w inv => ?_
  obtain ⟨i, zv, hi, hzv, hzr⟩ := zero_ok (P := P) (w := w) (p := p) (β := β) (H := s.blk) hz
  have hzs : zv.cells.size = e.size := by have := hzr.1; rw [hzl] at this; simpa using this.symm
  have hbytes : P.bytesOf E = i.bytes := by simp [Program.bytesOf, hi]
  have hisz : i.size = e.size := by rw [hsz]; simp [Program.cellsOf, hi]
  -- what is appended to
  have base : ∃ us, w.ownsRow B0 E e.size (a.eval x) xs.length us ∧ Rows' e.size (RepT w p e) xs us ∧ (∀ b, (a.eval x).ownBlock = some b → ∃ t', t = some t' ∧ ∃ r, β t' = some r ∧ rootBlock r = some b) ∧ (∀ t', t = some t' → β t' = some (a.eval x) ∧ t' < s.n) := by
    split at hbase
    · rename_i hx
      obtain ⟨rfl, rfl⟩ := Prod.mk.inj (Option.some.inj hbase)
      have cx : a.eval x = .slice none 0 0 := by
        have := evL_ok inv x (by rw [hx]; intro e; cases e)
        rw [hx] at this; exact this
      rw [cx]
      exact ⟨[], World.ownsRow_nil w B0 E e.size, ⟨by simp, fun i x h => by simp at h⟩, fun b hb => by simp [Value.ownBlock] at hb, fun t' ht => by cases ht⟩
    · rename_i t0 hx
      split at hbase
      · rename_i U e' xs' hs
        split at hbase
        · rename_i hcond
          obtain ⟨rfl, rfl⟩ := hcond
          obtain ⟨rfl, rfl⟩ := Prod.mk.inj (Option.some.inj hbase)
          have cx := evL_ok inv x (by rw [hx]; intro e; cases e)
          rw [hx] at cx
          obtain ⟨hr, _, _⟩ := cx
          have hrep := inv.blk hr
          rw [hs] at hrep
          obtain ⟨us, h1, h2, h3⟩ := hrep
          refine ⟨us, h1, h3, fun b hb => ⟨t0, rfl, _, hr, ?_⟩, fun t' ht => ?_⟩
          · revert hb
            cases a.eval x with
            | slice ad n c => cases ad <;> simp [Value.ownBlock, rootBlock]
            | _ => simp [Value.ownBlock]
          · obtain rfl := Option.some.inj ht; exact ⟨hr, inv.lt hr⟩
        · cases hbase
      · cases hbase
    · cases hbase
  obtain ⟨us, hown, hrow, hblock, hroot⟩ := base
  -- what is appended
  have more : ∃ ad cap ns, a.eval y = .slice ad ys.length cap ∧ (ad = none → ys = [] ∧ cap = 0) ∧ Rows' e.size (RepT w p e) ys ns ∧ (∀ v ∈ ns, v.oneCell' = true) ∧ ∀ ad', ad = some ad' → ∀ j u, ns[j]? = some u → w.cell? (ad'.add j) = some u := by
    split at hmore
    · rename_i hy
      obtain rfl := Option.some.inj hmore
      have cy : a.eval y = .slice none 0 0 := by
        have := evL_ok inv y (by rw [hy]; intro e; cases e)
        rw [hy] at this; exact this
      exact ⟨none, 0, [], cy, fun _ => ⟨rfl, rfl⟩, ⟨by simp, fun i x h => by simp at h⟩, fun v hv => by simp at hv, fun ad h => by cases h⟩
    · split at hmore
      · rename_i e' ys' hsrc
        split at hmore
        · rename_i hcond
          subst hcond
          obtain rfl := Option.some.inj hmore
          exact src_ok inv hsrc
        · cases hmore
      · cases hmore
  obtain ⟨ad, cap, ns, ey, hnil, hnrow, hone, hcells⟩ := more
  -- the operation
  have hmax : xs.length + ys.length ≤ maxLen := by unfold maxLen; omega
  have hroom' : (xs.length + ys.length) * i.bytes ≤ 140737488355328 := by rw [← hbytes]; exact hroom.1
  have run : ∃ v' w', (Builtin.append_ #[T, T] o.type #[a.eval x, a.eval y]).run P w = .ok v' w' ∧ w'.ownsRow B0 E e.size v' (xs.length + ys.length) (us ++ ns) ∧ w.grownBy w' (a.eval x).ownBlock ∧ (∀ b, v'.ownBlock = some b → some b = (a.eval x).ownBlock ∨ w.heap.size ≤ b) := by
    cases ad with
    | none =>
      obtain ⟨rfl, rfl⟩ := hnil rfl
      have hn : ns = [] := List.eq_nil_of_length_eq_zero (by rw [hnrow.1]; simp)
      subst hn
      refine ⟨a.eval x, w, ?_, by simpa using hown, ⟨rfl, rfl, rfl, Nat.le_refl _, fun _ _ _ => rfl⟩, fun b hb => .inl hb.symm⟩
      rw [ey]
      exact run_append_owned_none (P := P) w B0 T o.type E i e.size hu hi (a.eval x) xs.length us hown
    | some ad =>
      obtain ⟨v', w', r1, r2, r3, r4⟩ := run_append_own (P := P) w B0 T o.type E i zv e.size i.bytes hu hi hzv hisz rfl hzs hpos (a.eval x) xs.length us hown ad ys.length cap ns hnrow.1 (hcells ad rfl) hone hmax hroom' inv.base
      exact ⟨v', w', by rw [ey]; exact r1, r2, r3, append_block hu hi hzv (by rw [hisz]; exact hown) (by rw [hisz]; exact hnrow.1) (hcells ad rfl) hone hmax hroom' r1⟩
  obtain ⟨v', w', hrun, hown', hgrow, hv'⟩ := run
  have hsl := own_slice hown'
  have fin : ∀ {s0 : PS} {β0 : Nat → Option Value}, Inv B0 w0 β0 p s0 a w → s0.new d (.buf E e (xs ++ ys)) (.c (.l (.full d))) = some s1 →
      (∀ b, (a.eval x).ownBlock = some b → ¬ p b ∧ B0 ≤ b ∧ ∀ t r, β0 t = some r → rootBlock r ≠ some b) → ∃ β', Inv B0 w0 β' p s1 (a.put (some d) v') w' := by
    intro s0 β0 inv0 hnew hfree
    have hdata : ∀ b, p b → w'.heap[b]? = w.heap[b]? := fun b hb => hgrow.block b (inv0.shared b hb).1 (fun e => (hfree b e.symm).1 hb)
    refine inv0.newAt hnew (r0 := v') (v := v') ((Below.refl B0 w).grown hgrow inv0.base (fun k hk => (hfree k hk).2.1)) hdata (fun t r b _ hr hb => hgrow.block b ((inv0.blk hr).root b hb).2 (fun e => (hfree b e.symm).2.2 t r hr hb)) (fun b hb => ?_) (fun β' H' _ hβ hH => ?_)
    · rcases hv' b (root_own hb hsl) with h | h
      · exact ⟨(hfree b h.symm).1, fun t r _ hr => (hfree b h.symm).2.2 t r hr⟩
      · exact ⟨fun hp => by have := (inv0.shared b hp).1; omega, fun t r _ hr e => by have := ((inv0.blk hr).root b e).2; omega⟩
    · refine ⟨⟨us ++ ns, by rw [List.length_append]; exact hown', hpos, (rows_imp (fun b hb => ⟨hb, hdata b hb⟩) hrow).append (rows_imp (fun b hb => ⟨hb, hdata b hb⟩) hnrow)⟩, repC_l (w := w') (p := p) (c := .full d) ⟨hβ, by rw [hH]; trivial, ?_⟩⟩
      obtain ⟨_, _, _, rfl⟩ := hsl
      rfl
  cases t with
  | none =>
    obtain ⟨β', hi'⟩ := fin inv hs1 (fun b hb => by obtain ⟨t', ht, _⟩ := hblock b hb; cases ht)
    exact ⟨v', w', run_append_call ho a hrun, β', p, hi'⟩
  | some t0 =>
    obtain ⟨hr0, hlt0⟩ := hroot t0 rfl
    obtain ⟨inv1, _⟩ := inv.drop t0 hlt0
    obtain ⟨β', hi'⟩ := fin inv1 hs1 (fun b hb => by
      have hrb := own_root hb
      refine ⟨fun hp => (inv.shared b hp).2 t0 _ hr0 hrb, ((inv.blk hr0).root b hrb).1, fun t r hr e => ?_⟩
      by_cases htt : t = t0
      · simp [htt] at hr
      · simp [htt] at hr
        exact htt (inv.inj t t0 r _ b hr hr0 e hrb))
    exact ⟨v', w', run_append_call ho a hrun, β', p, hi'⟩
end
end Go.Ev
