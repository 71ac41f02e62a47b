/- Slices of slices, lengths, and the rest that only computes. -/
import Derived.Test.YtinkhmfciealkaaOps3
set_option linter.unusedSimpArgs false
namespace Go.Ev
open Go.RowKit

section
variable {P : Program} {s s' : PS} {o : Oper}

section
variable {w : World} {p : Nat → Prop} {β : Nat → Option Value} {H : Nat → Blk}

theorem repT_take {e : Sh} {xs : List e.T} {v : Value} (h : RepT w p (.slice e) xs [v]) (n : Nat) {a : Option Addr} {len cap : Nat} (hv : v = .slice a len cap) :
    RepT w p (.slice e) (xs.take n) [.slice a (min n len) cap] := by
  simp only [RepT] at h ⊢
  obtain ⟨a', cap', e1, hc, hx⟩ := h
  obtain rfl : v = .slice a' xs.length cap' := by simpa using e1
  cases hv
  refine ⟨a, cap, by rw [List.length_take], ⟨by rw [List.length_take]; omega, hc.2⟩, ?_⟩
  rcases hx with rfl | ⟨b, q, rfl, hb, hel⟩
  · left; simp
  · right
    refine ⟨b, q, rfl, hb, fun i x hi => ?_⟩
    rw [List.getElem?_take] at hi
    split at hi
    · exact hel i x hi
    · cases hi

theorem repT_drop {e : Sh} {xs : List e.T} {v : Value} (h : RepT w p (.slice e) xs [v]) (n : Nat) (hn : n ≤ xs.length) {a : Option Addr} {len cap : Nat} (hv : v = .slice a len cap) {a' : Option Addr}
    (ha : n < len → a' = a.map (·.add (n * e.size))) (hnn : a' = none → a = none) :
    RepT w p (.slice e) (xs.drop n) [.slice a' (len - n) (cap - n)] := by
  simp only [RepT] at h ⊢
  obtain ⟨a0, cap', e1, hc, hx⟩ := h
  obtain rfl : v = .slice a0 xs.length cap' := by simpa using e1
  cases hv
  refine ⟨a', cap - n, by rw [List.length_drop], ⟨by rw [List.length_drop]; omega, fun h => by have := hc.2 (hnn h); omega⟩, ?_⟩
  by_cases hlt : n < xs.length
  · rcases hx with rfl | ⟨b, q, rfl, hb, hel⟩
    · simp at hlt
    · right
      refine ⟨b, q + n * e.size, by rw [ha hlt]; simp [Addr.add_lit], hb, fun i x hi => ?_⟩
      rw [List.getElem?_drop] at hi
      obtain ⟨us, r1, r2, r3⟩ := hel (n + i) x hi
      refine ⟨us, r1, r2, fun j hj => ?_⟩
      have := r3 j hj
      rwa [show q + (n + i) * e.size + j = q + n * e.size + i * e.size + j from by rw [Nat.add_mul]; omega] at this
  · left
    exact List.drop_eq_nil_of_le (by omega)
end

theorem run_sliceAt' {T E : TypeId} (hu : P.underlying T = some (.slice E)) (w : World) (x : Value) (lo hi' mx : Option Value) : (Instr.sliceAt T x lo hi' mx).run P w = (Instr.slice T x lo hi' mx).run P w := by
  simp [Instr.sliceAt, run_underlying hu]

theorem sl_bound (w : World) (k : IntKind) (n : Int) (m : Nat) (c : BoundsCode) (h0 : 0 ≤ n) (h1 : n ≤ m) : (Instr.sliceBound (.int k n) m c).run P w = .ok n.toNat w := by
  simp [Instr.sliceBound, asIntOf, h0, h1]

theorem evL_slice {B0 : Nat} {w0 : Base} {β : Nat → Option Value} {p : Nat → Prop} {a : Act} {w : World} (inv : Inv B0 w0 β p s a w) {x : Operand} {e : Sh} {xs : List e.T} (hx : evL s x = .slice e xs) :
    RepT w p (.slice e) xs [a.eval x] ∧ ∃ ad cap, a.eval x = .slice ad xs.length cap ∧ xs.length ≤ cap := by
  have cx := evL_ok inv x (by rw [hx]; intro e; cases e)
  rw [hx] at cx
  refine ⟨cx, ?_⟩
  simp only [RepL, RepT] at cx
  obtain ⟨ad, cap, ex, hc, _⟩ := cx
  exact ⟨ad, cap, by simpa using ex, hc.1⟩

theorem map_ev {a : Act} {B0 : Nat} {w0 : Base} {β : Nat → Option Value} {p : Nat → Prop} {w : World} (inv : Inv B0 w0 β p s a w) {l : Option Operand} {k : IntKind} {n : Int} (h : l.map (evL s) = some (.int k n)) : l.map a.eval = some (.int k n) := by
  cases l with
  | none => cases h
  | some x => exact congrArg some (evL_int inv (Option.some.inj h))
theorem map_none' {a : Act} {l : Option Operand} (h : l.map (evL s) = none) : l.map a.eval = none := by
  cases l with
  | none => rfl
  | some x => cases h

theorem step_slice {T : TypeId} {x : Operand} {lo hi : Option Operand} (ho : o.op = .slice T x lo hi none) (h : sliceOp P s o T (evL s x) (lo.map (evL s)) (hi.map (evL s)) = some (true, s')) : StepOk P s o s' := by
  unfold sliceOp at h
  split at h
  · rename_i E hu
    split at h
    · rename_i e xs k hh hx hlo hhi
      split at h
      · rename_i hsz
        obtain ⟨h1, rfl⟩ := Prod.mk.inj (Option.some.inj h)
        simp only [Bool.and_eq_true, decide_eq_true_eq] at h1
        refine StepOk.value fun B0 w0 β p a w inv => ?_
        obtain ⟨cx, ad, cap, ex, hc⟩ := evL_slice inv hx
        have e1 := map_none' (a := a) hlo
        have e2 := map_ev inv hhi
        have hle : hh ≤ (cap : Int) := by omega
        refine ⟨.slice ad hh.toNat cap, ?_, repC_l (w := w) (p := p) (β := β) (H := s.blk) (c := .slice e (xs.take hh.toNat)) ?_⟩
        · simp [execOp, ho, ex, e1, e2, run_sliceAt' hu, Instr.slice, Instr.sliceBounds, run_underlying hu, sl_bound w k hh cap _ h1.1 hle, run_sizeOf' hsz.2, Addr.add]
        · have := repT_take cx hh.toNat ex
          rwa [Nat.min_eq_left (by omega)] at this
      · cases h
    · rename_i e xs k l hx hlo hhi
      split at h
      · rename_i hsz
        obtain ⟨h1, rfl⟩ := Prod.mk.inj (Option.some.inj h)
        simp only [Bool.and_eq_true, decide_eq_true_eq] at h1
        refine StepOk.value fun B0 w0 β p a w inv => ?_
        obtain ⟨cx, ad, cap, ex, hc⟩ := evL_slice inv hx
        have e1 := map_ev inv hlo
        have e2 := map_none' (a := a) hhi
        refine ⟨.slice (if cap = l.toNat then ad else ad.map (·.add (l.toNat * P.cellsOf E))) (xs.length - l.toNat) (cap - l.toNat), ?_, repC_l (w := w) (p := p) (β := β) (H := s.blk) (c := .slice e (xs.drop l.toNat)) ?_⟩
        · simp [execOp, ho, ex, e1, e2, run_sliceAt' hu, Instr.slice, Instr.sliceBounds, run_underlying hu, sl_bound w k l xs.length _ h1.1 h1.2, run_sizeOf' hsz.2]
        · exact repT_drop cx l.toNat (by omega) ex (fun hlt => by rw [if_neg (by omega), hsz.1]) (fun h => by split at h <;> first | exact h | simpa using h)
      · cases h
    · rename_i e xs k l k' hh hx hlo hhi
      split at h
      · rename_i hsz
        obtain ⟨h1, rfl⟩ := Prod.mk.inj (Option.some.inj h)
        simp only [Bool.and_eq_true, decide_eq_true_eq] at h1
        refine StepOk.value fun B0 w0 β p a w inv => ?_
        obtain ⟨cx, ad, cap, ex, hc⟩ := evL_slice inv hx
        have e1 := map_ev inv hlo
        have e2 := map_ev inv hhi
        have hle : hh ≤ (cap : Int) := by omega
        have hlh : l ≤ (hh.toNat : Int) := by omega
        refine ⟨.slice (if cap = l.toNat then ad else ad.map (·.add (l.toNat * P.cellsOf E))) (hh.toNat - l.toNat) (cap - l.toNat), ?_, repC_l (w := w) (p := p) (β := β) (H := s.blk) (c := .slice e ((xs.take hh.toNat).drop l.toNat)) ?_⟩
        · simp [execOp, ho, ex, e1, e2, run_sliceAt' hu, Instr.slice, Instr.sliceBounds, run_underlying hu, sl_bound w k' hh cap _ (by omega) hle, sl_bound w k l hh.toNat _ h1.1 hlh, run_sizeOf' hsz.2]
        · have h2 := repT_take cx hh.toNat ex
          rw [Nat.min_eq_left (by omega)] at h2
          exact repT_drop h2 l.toNat (by rw [List.length_take]; omega) rfl (fun hlt => by rw [if_neg (by omega), hsz.1]) (fun h => by split at h <;> first | exact h | simpa using h)
      · cases h
    · rename_i e xs hx hlo hhi
      split at h
      · rename_i hsz
        obtain ⟨h1, rfl⟩ := Prod.mk.inj (Option.some.inj h)
        refine StepOk.value fun B0 w0 β p a w inv => ?_
        obtain ⟨cx, ad, cap, ex, hc⟩ := evL_slice inv hx
        have e1 := map_none' (a := a) hlo
        have e2 := map_none' (a := a) hhi
        refine ⟨a.eval x, ?_, repC_l (w := w) (p := p) (β := β) (H := s.blk) (c := .slice e xs) cx⟩
        simp [execOp, ho, ex, e1, e2, run_sliceAt' hu, Instr.slice, Instr.sliceBounds, run_underlying hu, run_sizeOf' hsz.2, Addr.add]
      · cases h
    · cases h
  · rename_i n E hu
    split at h
    · cases h
    rename_i hinf
    have hinfo : (P.info? E).isSome = true := by
      cases hi : P.info? E with
      | none => simp [hi] at hinf
      | some i => rfl
    have run : ∀ (a : Act) (w : World) (b q : Nat), lo.map (evL s) = none → hi.map (evL s) = none → a.eval x = .pointer (some ⟨b, q, none⟩) →
        (execOp a.eval o).run P w = .ok (.value (.slice (some ⟨b, q, none⟩) n n)) w := by
      intro a w b q hlo hhi ex
      have e1 := map_none' (a := a) hlo
      have e2 := map_none' (a := a) hhi
      simp [execOp, ho, ex, e1, e2, Instr.sliceAt, Instr.sliceBounds, Instr.sureAddr, run_underlying hu, run_sizeOf' hinfo, Addr.add_lit]
    split at h
    · rename_i sh y off hx hlo hhi
      split at h
      · rename_i e he
        split at h
        · rename_i xs hrows
          obtain rfl := congrArg Prod.snd (okL_eq h)
          refine StepOk.value fun B0 w0 β p a w inv => ?_
          have cx := evL_ok inv x (by rw [hx]; intro e; cases e)
          rw [hx] at cx
          obtain ⟨b, q, us, ex, hb, hr, hc⟩ := cx
          have hcs := (cells_ok (β := β) (H := s.blk) hr).part off (n * e.size)
          obtain ⟨hlen, hrow⟩ := rows_ok hrows hcs
          refine ⟨_, run a w b (q + off) hlo hhi ex, repC_l (w := w) (p := p) (β := β) (H := s.blk) (c := .slice e xs) ?_⟩
          simp only [RepL, RepT]
          refine ⟨_, n, by rw [hlen], ⟨by omega, fun h => by cases h⟩, .inr ⟨b, q + off, rfl, hb, fun i x hi => ?_⟩⟩
          have hri := hrow.2 i x hi
          have hil : i < xs.length := (List.getElem?_eq_some_iff.1 hi).1
          refine ⟨_, hri, hri.length, fun j hj => ?_⟩
          have hbig : (i + 1) * e.size ≤ n * e.size := Nat.mul_le_mul_right _ (by omega)
          rw [Nat.add_mul, Nat.one_mul] at hbig
          have hl2 := hrow.1
          rw [hlen, List.length_take, List.length_drop] at hl2
          rw [List.getElem?_take, if_pos hj, List.getElem?_drop, List.getElem?_take, if_pos (by omega), List.getElem?_drop]
          have := hc (off + (i * e.size + j)) (by omega)
          rw [← this]
          congr 2
          omega
        · cases h
      · cases h
    · rename_i t sz i off hx hlo hhi
      split at h
      · rename_i cs hs
        split at h
        · rename_i e he
          split at h
          · rename_i xs hrows
            split at h
            case isFalse => cases h
            rename_i hoff
            obtain rfl := congrArg Prod.snd (okL_eq h)
            refine StepOk.value fun B0 w0 β p a w inv => ?_
            have cx := evL_ok inv x (by rw [hx]; intro e; cases e)
            rw [hx] at cx
            obtain ⟨r, b, hr, hb, ex, hok⟩ := cx
            rw [hs] at hok
            have hz : i * sz + off = off := by rw [show sz = 0 from hok]; omega
            rw [hz] at ex
            obtain ⟨vs, U, _, _, hh, hl⟩ := inv.cellsAt hr hb hs
            obtain ⟨hlen, hrow⟩ := rows_ok hrows (hl.part off (n * e.size))
            have hl2 := hrow.1
            rw [hlen, List.length_take, List.length_drop, ← hl.1] at hl2
            refine ⟨_, run a w b off hlo hhi ex, repC_l (w := w) (p := p) (β := β) (H := s.blk) (c := .cref t off n e) ⟨_, n, r, rfl, Nat.le_refl _, hr, ?_, b, hb, rfl⟩⟩
            rw [hs]
            show off + n * e.size ≤ cs.length
            omega
          · cases h
        · cases h
      · rename_i e xs hs
        split at h
        · rename_i hz
          obtain ⟨rfl, rfl, rfl⟩ := hz
          obtain ⟨h1, rfl⟩ := Prod.mk.inj (Option.some.inj h)
          have h1 : xs.length = n := of_decide_eq_true h1
          refine StepOk.value fun B0 w0 β p a w inv => ?_
          have cx := evL_ok inv x (by rw [hx]; intro e; cases e)
          rw [hx] at cx
          obtain ⟨r, b, hr, hb, ex, hok⟩ := cx
          refine ⟨_, run a w b 0 hlo hhi (by simpa using ex), repC_l (w := w) (p := p) (β := β) (H := s.blk) (c := .sref t e.size 0 n) ⟨_, n, r, rfl, Nat.le_refl _, hr, ?_, b, hb, by rw [Nat.zero_mul]⟩⟩
          rw [hs]
          exact ⟨rfl, by omega⟩
        · cases h
      · cases h
    · cases h
  · cases h

theorem lenOf_ok {B0 : Nat} {w0 : Base} {β : Nat → Option Value} {p : Nat → Prop} {a : Act} {w : World} (inv : Inv B0 w0 β p s a w) {x : Operand} {n : Nat} (h : lenOf s (evL s x) = some n) :
    ∃ ad cap, a.eval x = .slice ad n cap := by
  have hne : evL s x ≠ .undef := by intro e; rw [e] at h; cases h
  have cx := evL_ok inv x hne
  unfold lenOf at h
  split at h
  · rename_i hx
    rw [hx] at cx
    obtain rfl := Option.some.inj h
    exact ⟨none, 0, cx⟩
  · rename_i e xs hx
    obtain rfl := Option.some.inj h
    obtain ⟨_, ad, cap, ex, _⟩ := evL_slice inv hx
    exact ⟨ad, cap, ex⟩
  · rename_i t hx
    rw [hx] at cx
    obtain ⟨hr, _, _⟩ := cx
    split at h
    · rename_i U e xs hs
      obtain rfl := Option.some.inj h
      have hrep := inv.blk hr
      rw [hs] at hrep
      obtain ⟨us, ⟨_, hown⟩, _, _⟩ := hrep
      rcases hown with ⟨e1, e2⟩ | ⟨g, cap, cur, e1, _⟩
      · exact ⟨none, 0, by rw [e1, e2]⟩
      · exact ⟨_, cap, e1⟩
    · cases h
  · rename_i t sz off len hx
    rw [hx] at cx
    obtain rfl := Option.some.inj h
    obtain ⟨ad, cap, r, ex, _⟩ := cx
    exact ⟨ad, cap, ex⟩
  · rename_i t o' len e hx
    rw [hx] at cx
    obtain rfl := Option.some.inj h
    obtain ⟨ad, cap, r, ex, _⟩ := cx
    exact ⟨ad, cap, ex⟩
  · cases h

theorem lenMap_ok {B0 : Nat} {w0 : Base} {β : Nat → Option Value} {p : Nat → Prop} {a : Act} {w : World} (inv : Inv B0 w0 β p s a w) {x : Operand} {n : Nat} (h : lenMap s (evL s x) = some n) :
    (a.eval x = .map none ∧ n = 0) ∨ (∃ r ms clock, a.eval x = .map (some r) ∧ w.heap[r]? = some (.map ms clock) ∧ ms.size = n) := by
  have hne : evL s x ≠ .undef := by intro e; rw [e] at h; cases h
  have cx := evL_ok inv x hne
  unfold lenMap at h
  split at h
  · rename_i k v es hx
    rw [hx] at cx
    obtain rfl := Option.some.inj h
    simp only [RepL, RepT] at cx
    obtain ⟨r, e1, hx⟩ := cx
    have ex : a.eval x = .map r := by simpa using e1
    rcases hx with ⟨rfl, rfl⟩ | ⟨b, ms, clock, rfl, _, hh, hs, _⟩
    · exact .inl ⟨ex, rfl⟩
    · exact .inr ⟨b, ms, clock, ex, hh, hs⟩
  · rename_i t hx
    rw [hx] at cx
    obtain ⟨hr, _, _⟩ := cx
    split at h
    · rename_i k v es hs
      obtain rfl := Option.some.inj h
      have hrep := inv.blk hr
      rw [hs] at hrep
      obtain ⟨b, ms, clock, e1, _, hh, hl, _⟩ := hrep
      exact .inr ⟨b, ms, clock, e1, hh, hl⟩
    · cases h
  · cases h

theorem foldlM_max2 {k : IntKind} (w : World) (isMax : Bool) (x y : Int) : ((if isMax then Builtin.max2 else Builtin.min2) (.int k x) (.int k y)).run P w = .ok (.int k (if isMax then (if y > x then y else x) else (if y < x then y else x))) w := by
  cases isMax <;> simp [Builtin.max2, Builtin.min2]

theorem map_evL {B0 : Nat} {w0 : Base} {β : Nat → Option Value} {p : Nat → Prop} {a : Act} {w : World} (inv : Inv B0 w0 β p s a w) : ∀ {xs : List Operand} {ks : List (IntKind × Int)}, xs.map (evL s) = ks.map (fun k => .int k.1 k.2) → xs.map a.eval = ks.map (fun k => .int k.1 k.2)
  | [], [], _ => rfl
  | [], _ :: _, h => by cases h
  | _ :: _, [], h => by cases h
  | x :: xs, k :: ks, h => by
    simp only [List.map_cons, List.cons.injEq] at h ⊢
    exact ⟨evL_int inv h.1, map_evL inv h.2⟩

theorem step_minmax {isMax : Bool} {xs : List Operand} {args : Array Operand} {ts : Array TypeId} (ha : args.toList = xs) (ho : o.op = .call { callee := .builtin (if isMax then .max else .min), args := args, argTypes := ts }) (h : minmax isMax s o (xs.map (evL s)) = some (true, s')) : StepOk P s o s' := by
  obtain ⟨l⟩ := args
  obtain rfl : l = xs := ha
  unfold minmax at h
  split at h
  · rename_i k a k' b hx
    split at h
    · rename_i e; subst e
      obtain rfl := congrArg Prod.snd (okL_eq h)
      refine StepOk.value fun B0 w0 β p ac w inv => ?_
      have e := map_evL inv (ks := [(k, a), (k, b)]) hx
      refine ⟨_, ?_, repC_l (w := w) (p := p) (β := β) (H := s.blk) (c := .int k _) rfl⟩
      simp only [List.map_cons, List.map_nil] at e
      cases isMax <;> simp [execOp, ho, resolve, invoke, builtin, Builtin.max_, Builtin.min_, e, Builtin.max2, Builtin.min2]
    · cases h
  · rename_i k a k' b k'' c hx
    split at h
    · rename_i e; obtain ⟨e1, e2⟩ := e; subst e1; subst e2
      obtain rfl := congrArg Prod.snd (okL_eq h)
      refine StepOk.value fun B0 w0 β p ac w inv => ?_
      have e := map_evL inv (ks := [(k, a), (k, b), (k, c)]) hx
      refine ⟨_, ?_, repC_l (w := w) (p := p) (β := β) (H := s.blk) (c := .int k _) rfl⟩
      simp only [List.map_cons, List.map_nil] at e
      cases isMax <;> simp [execOp, ho, resolve, invoke, builtin, Builtin.max_, Builtin.min_, e, Builtin.max2, Builtin.min2]
    · cases h
  · cases h
end
end Go.Ev
