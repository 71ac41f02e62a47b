/- What an operation makes of a state hangs only on what it looks at. -/
import Derived.Test.YtinkhmfciealkaaExec3
set_option linter.unusedSimpArgs false
namespace Go.Ev
open Go.RowKit

/-- What is seen of the state m is so in the state t. -/
structure Sees (m t : PS) (xs : List Tmp) (hp : Bool) : Prop where
  n : t.n = m.n
  deep : m.n ≤ 4000
  slots : ∀ u, u ∈ xs → t.get u = m.get u
  blks : hp = true → ∀ b, m.blk b ≠ .free → t.blk b = m.blk b

theorem mem_tmpsOf {u : Tmp} : ∀ {l : List Operand}, Operand.tmp u ∈ l → u ∈ tmpsOf l
  | [], h => by cases h
  | x :: l, h => by
    rcases List.mem_cons.1 h with h | h
    · subst h; simp [tmpsOf]
    · have := mem_tmpsOf h
      cases x <;> simp [tmpsOf, this]

section
variable {P : Program} {m t m' : PS} {o : Oper} {c hp : Bool} {l : List Operand}

theorem Sees.ev (S : Sees m t (tmpsOf l) hp) {x : Operand} (h : x ∈ l) : ev t x = ev m x := by
  cases x with
  | tmp u => simp only [Go.Ev.ev, S.n, S.slots u (mem_tmpsOf h)]
  | const v => rfl
  | func f => rfl
  | global g => rfl
theorem Sees.evL (S : Sees m t (tmpsOf l) hp) {x : Operand} (h : x ∈ l) : evL t x = evL m x := by unfold Go.Ev.evL; rw [S.ev h]
theorem Sees.evC (S : Sees m t (tmpsOf l) hp) {x : Operand} (h : x ∈ l) : evC t x = evC m x := by unfold Go.Ev.evC; rw [S.ev h]
theorem Sees.evCs (S : Sees m t (tmpsOf l) hp) : ∀ {xs : List Operand}, (∀ x ∈ xs, x ∈ l) → evCs t xs = evCs m xs
  | [], _ => rfl
  | x :: xs, h => by simp only [Go.Ev.evCs]; rw [S.evC (h x (by simp)), S.evCs fun y hy => h y (by simp [hy])]
theorem Sees.mapL (S : Sees m t (tmpsOf l) hp) : ∀ {xs : List Operand}, (∀ x ∈ xs, x ∈ l) → xs.map (Go.Ev.evL t) = xs.map (Go.Ev.evL m)
  | [], _ => rfl
  | x :: xs, h => by simp only [List.map_cons]; rw [S.evL (h x (by simp)), S.mapL fun y hy => h y (by simp [hy])]
theorem Sees.parts (S : Sees m t (tmpsOf l) hp) : ∀ {xs : List (Nat × Operand)}, (∀ x ∈ xs, x.2 ∈ l) → evParts t xs = evParts m xs
  | [], _ => rfl
  | (i, x) :: xs, h => by simp only [evParts]; rw [S.evC (h (i, x) (by simp)), S.parts fun y hy => h y (by simp [hy])]

theorem get_put {s : PS} (hd : s.n ≤ 4000) {d : Tmp} {x : SV} (h : d < s.n) : (s.put (some d) x).get d = x := by
  have hlt : Nat.blt d s.n = true := by simp [h]
  simp only [PS.put, hlt, cond_true, PS.get_setT x (lt_depth h hd), if_true]
theorem put_out {s : PS} {d : Tmp} {x : SV} (h : ¬ d < s.n) : s.put (some d) x = s := by
  have hlt : Nat.blt d s.n = false := by
    cases hq : Nat.blt d s.n with
    | false => rfl
    | true => exact absurd (Nat.blt_eq ▸ hq) h
  simp only [PS.put, hlt, cond_false]

theorem putEff (hk : kindOf o.op = .pure ∨ kindOf o.op = .quiet) (hn : t.n = m.n) (hd : m.n ≤ 4000) {x : SV} : effect o m (m.put o.dst x) t = t.put o.dst x := by
  have key : (match o.dst with | some d => t.put (some d) ((m.put o.dst x).get d) | none => t) = t.put o.dst x := by
    cases ho : o.dst with
    | none => rfl
    | some d =>
      simp only []
      by_cases h : d < m.n
      · rw [get_put hd h]
      · rw [put_out (by rwa [hn]), put_out (by rwa [hn])]
  unfold effect
  rcases hk with hk | hk <;> rw [hk] <;> exact key

theorem newEff {d : Tmp} {B : Blk} {v : SV} (hn : t.n = m.n) (hd : m.n ≤ 4000) (h1 : m.blk d = .free) (h2 : t.blk d = .free) (h : m.new d B v = some m') : t.new d B v = some ((t.setT d (m'.get d)).setB d (m'.blk d)) := by
  unfold PS.new at h ⊢
  rw [hn]
  cases hlt : Nat.blt d m.n with
  | false => rw [hlt] at h; cases h
  | true =>
    rw [hlt] at h
    have hdn : d < m.n := by rw [Nat.blt_eq] at hlt; exact hlt
    have hdep := lt_depth hdn hd
    have e1 : m.drop d = m := by simp [PS.drop, h1, Blk.isFree]
    have e2 : t.drop d = t := by simp [PS.drop, h2, Blk.isFree]
    rw [e1] at h
    obtain rfl := Option.some.inj h
    rw [e2, PS.get_setB, PS.get_setT _ hdep, if_pos rfl, PS.blk_setB _ hdep, if_pos rfl]
    rfl

theorem blk_cases (hb : ∀ b, m.blk b ≠ .free → t.blk b = m.blk b) (u : Nat) : m.blk u = .free ∨ t.blk u = m.blk u := by
  by_cases hf : m.blk u = .free
  · exact .inl hf
  · exact .inr (hb u hf)

theorem srcOf_mono (hb : ∀ b, m.blk b ≠ .free → t.blk b = m.blk b) {v : LV} {x : Σ e : Sh, List e.T} (h : srcOf m v = some x) : srcOf t v = some x := by
  cases v <;> simp only [srcOf] at h ⊢ <;> first | exact h | skip
  case full u => exact (blk_cases hb u).elim (fun e => by rw [e] at h; cases h) (fun e => by rw [e]; exact h)
  case sref u _ _ _ => exact (blk_cases hb u).elim (fun e => by rw [e] at h; cases h) (fun e => by rw [e]; exact h)
  case cref u _ _ _ => exact (blk_cases hb u).elim (fun e => by rw [e] at h; cases h) (fun e => by rw [e]; exact h)

theorem lenOf_mono (hb : ∀ b, m.blk b ≠ .free → t.blk b = m.blk b) {v : LV} {x : Nat} (h : lenOf m v = some x) : lenOf t v = some x := by
  cases v <;> simp only [lenOf] at h ⊢ <;> first | exact h | skip
  case full u => exact (blk_cases hb u).elim (fun e => by rw [e] at h; cases h) (fun e => by rw [e]; exact h)

theorem lenMap_mono (hb : ∀ b, m.blk b ≠ .free → t.blk b = m.blk b) {v : LV} {x : Nat} (h : lenMap m v = some x) : lenMap t v = some x := by
  cases v <;> simp only [lenMap] at h ⊢ <;> first | exact h | skip
  case mref u => exact (blk_cases hb u).elim (fun e => by rw [e] at h; cases h) (fun e => by rw [e]; exact h)

theorem snapLeaf_mono (hb : ∀ b, m.blk b ≠ .free → t.blk b = m.blk b) {v : LV} {x : Σ sh : Sh, sh.T} (h : snapL.snapLeaf m v = some x) : snapL.snapLeaf t v = some x := by
  cases v <;> simp only [snapL.snapLeaf] at h ⊢ <;> first | exact h | skip
  case full u => exact (blk_cases hb u).elim (fun e => by rw [e] at h; cases h) (fun e => by rw [e]; exact h)
  case mref u => exact (blk_cases hb u).elim (fun e => by rw [e] at h; cases h) (fun e => by rw [e]; exact h)

theorem snapLeaves_mono (hb : ∀ b, m.blk b ≠ .free → t.blk b = m.blk b) : ∀ {vs : List LV} {x : Σ sh : Sh, sh.T}, snapL.snapLeaves m vs = some x → snapL.snapLeaves t vs = some x
  | [], x, h => h
  | [v], x, h => snapLeaf_mono hb h
  | v :: u :: vs, x, h => by
    simp only [snapL.snapLeaves] at h ⊢
    split at h
    · rename_i a1 x1 b1 y1 e1 e2
      rw [snapLeaf_mono hb e1, snapLeaves_mono hb e2]
      exact h
    · cases h

theorem snapL_mono (hb : ∀ b, m.blk b ≠ .free → t.blk b = m.blk b) {v x : LV} (h : snapL m v = some x) : snapL t v = some x := by
  cases v <;> simp only [snapL] at h ⊢ <;> first | exact h | skip
  case ref u _ _ _ =>
    rcases blk_cases hb u with e | e
    · rw [e] at h; cases h
    · rw [e]
      split at h
      · rename_i cs hs
        split at h
        · rename_i sh y hy
          simp only [snapLeaves_mono hb hy]
          exact h
        · cases h
      · cases h
  case full u => exact (blk_cases hb u).elim (fun e => by rw [e] at h; cases h) (fun e => by rw [e]; exact h)
  case mref u => exact (blk_cases hb u).elim (fun e => by rw [e] at h; cases h) (fun e => by rw [e]; exact h)
  case sref u _ _ _ =>
    split at h
    · rename_i e xs hs; rw [srcOf_mono hb hs]; exact h
    · cases h
  case cref u _ _ _ =>
    split at h
    · rename_i e xs hs; rw [srcOf_mono hb hs]; exact h
    · cases h

theorem snapLs_mono (hb : ∀ b, m.blk b ≠ .free → t.blk b = m.blk b) : ∀ {vs x : List LV}, snapLs m vs = some x → snapLs t vs = some x
  | [], x, h => h
  | v :: vs, x, h => by
    simp only [snapLs] at h ⊢
    split at h
    · rename_i e1 e2; rw [snapL_mono hb e1, snapLs_mono hb e2]; exact h
    · cases h
theorem snapC_mono (hb : ∀ b, m.blk b ≠ .free → t.blk b = m.blk b) {v x : CV} (h : snapC m v = some x) : snapC t v = some x := by
  cases v <;> simp only [snapC] at h ⊢
  · split at h
    · rename_i e1; rw [snapL_mono hb e1]; exact h
    · cases h
  · split at h
    · rename_i e1; rw [snapLs_mono hb e1]; exact h
    · cases h
theorem snapCs_mono (hb : ∀ b, m.blk b ≠ .free → t.blk b = m.blk b) : ∀ {vs x : List CV}, snapCs m vs = some x → snapCs t vs = some x
  | [], x, h => h
  | v :: vs, x, h => by
    simp only [snapCs] at h ⊢
    split at h
    · rename_i e1 e2; rw [snapC_mono hb e1, snapCs_mono hb e2]; exact h
    · cases h

/-- Any operation that leaves a value and nothing else. -/
theorem fin_put (hk : kindOf o.op = .pure ∨ kindOf o.op = .quiet) (hn : t.n = m.n) (hd : m.n ≤ 4000) {c c' : Bool} {x : SV} (h : some (c', m.put o.dst x) = some (c, m')) : some (c', t.put o.dst x) = some (c, effect o m m' t) := by
  obtain ⟨rfl, rfl⟩ := Prod.mk.inj (Option.some.inj h)
  rw [putEff hk hn hd]

theorem binOp_mono {op : BinOp} {T : TypeId} {x y : CV} (hk : kindOf o.op = .pure ∨ kindOf o.op = .quiet) (hn : t.n = m.n) (hd : m.n ≤ 4000) : binOpS P m o op T x y = some (c, m') → binOpS P t o op T x y = some (c, effect o m m' t) := by
  unfold binOpS
  simp only [okL, ok]
  repeat' split
  all_goals first
    | exact fin_put hk hn hd
    | (intro h; cases h)

theorem unOp_mono {op : UnOp} {x : LV} (hk : kindOf o.op = .pure ∨ kindOf o.op = .quiet) (hn : t.n = m.n) (hd : m.n ≤ 4000) : unOpS m o op x = some (c, m') → unOpS t o op x = some (c, effect o m m' t) := by
  unfold unOpS
  simp only [okL, ok]
  repeat' split
  all_goals first
    | exact fin_put hk hn hd
    | (intro h; cases h)

theorem convert_mono {T U : TypeId} {x : LV} (hk : kindOf o.op = .pure ∨ kindOf o.op = .quiet) (hn : t.n = m.n) (hd : m.n ≤ 4000) : convertOp P m o T U x = some (c, m') → convertOp P t o T U x = some (c, effect o m m' t) := by
  unfold convertOp
  simp only [okL, ok]
  repeat' split
  all_goals first
    | exact fin_put hk hn hd
    | (intro h; cases h)

theorem field_mono {T : TypeId} {f : Nat} {x : CV} (hk : kindOf o.op = .pure ∨ kindOf o.op = .quiet) (hn : t.n = m.n) (hd : m.n ≤ 4000) : fieldOp P m o T f x = some (c, m') → fieldOp P t o T f x = some (c, effect o m m' t) := by
  unfold fieldOp
  simp only [okL, ok]
  repeat' split
  all_goals first
    | exact fin_put hk hn hd
    | (intro h; cases h)

theorem index_mono {T : TypeId} {i : Int} {x : CV} (hk : kindOf o.op = .pure ∨ kindOf o.op = .quiet) (hn : t.n = m.n) (hd : m.n ≤ 4000) : indexOp P m o T x i = some (c, m') → indexOp P t o T x i = some (c, effect o m m' t) := by
  unfold indexOp
  repeat' split
  all_goals first
    | exact fin_put hk hn hd
    | (intro h; cases h)

theorem fieldAddr_mono {T : TypeId} {f : Nat} {x : LV} (hk : kindOf o.op = .pure ∨ kindOf o.op = .quiet) (hn : t.n = m.n) (hd : m.n ≤ 4000) : fieldAddrOp P m o T f x = some (c, m') → fieldAddrOp P t o T f x = some (c, effect o m m' t) := by
  unfold fieldAddrOp
  simp only [okL, ok]
  repeat' split
  all_goals first
    | exact fin_put hk hn hd
    | (intro h; cases h)

theorem build_mono {T : TypeId} {parts : List (Nat × Operand)} (hk : kindOf o.op = .pure ∨ kindOf o.op = .quiet) (hn : t.n = m.n) (hd : m.n ≤ 4000) (he : evParts t parts = evParts m parts) : buildOp P m o T parts = some (c, m') → buildOp P t o T parts = some (c, effect o m m' t) := by
  unfold buildOp
  rw [he]
  simp only [okL, ok]
  repeat' split
  all_goals first
    | exact fin_put hk hn hd
    | (intro h; cases h)

theorem minmax_mono {b : Bool} {l : List LV} (hk : kindOf o.op = .pure ∨ kindOf o.op = .quiet) (hn : t.n = m.n) (hd : m.n ≤ 4000) : minmax b m o l = some (c, m') → minmax b t o l = some (c, effect o m m' t) := by
  unfold minmax
  split
  · split
    · exact fin_put hk hn hd
    · intro h; cases h
  · split
    · exact fin_put hk hn hd
    · intro h; cases h
  · intro h; cases h

theorem load_mono {T : TypeId} {x : LV} (hk : kindOf o.op = .pure ∨ kindOf o.op = .quiet) (hn : t.n = m.n) (hd : m.n ≤ 4000) (hb : ∀ b, m.blk b ≠ .free → t.blk b = m.blk b) : loadOp P m o T x = some (c, m') → loadOp P t o T x = some (c, effect o m m' t) := by
  cases x <;> simp only [loadOp] <;> first | (intro h; cases h; done) | skip
  case ref u sz i off =>
    rcases blk_cases hb u with e | e
    · rw [e]; intro h; cases h
    · rw [e]
      simp only [okL, ok]
      repeat' split
      all_goals first
        | exact fin_put hk hn hd
        | (intro h; cases h)
  case iptr sh y off =>
    simp only [okL, ok]
    split
    · exact fin_put hk hn hd
    · intro h; cases h

theorem indexAddr_mono {T : TypeId} {x : LV} {i : Int} (hk : kindOf o.op = .pure ∨ kindOf o.op = .quiet) (hn : t.n = m.n) (hd : m.n ≤ 4000) (hb : ∀ b, m.blk b ≠ .free → t.blk b = m.blk b) : indexAddrOp P m o T x i = some (c, m') → indexAddrOp P t o T x i = some (c, effect o m m' t) := by
  unfold indexAddrOp
  split
  · cases x <;> (try simp only []) <;> first | (intro h; cases h; done) | skip
    case full u =>
      rcases blk_cases hb u with e | e
      · rw [e]; intro h; cases h
      · rw [e]
        repeat' split
        all_goals first
          | exact fin_put hk hn hd
          | (intro h; cases h)
    all_goals
      repeat' split
      all_goals first
        | exact fin_put hk hn hd
        | (intro h; cases h)
  · split
    · intro h; cases h
    · cases x <;> (try simp only []) <;> first | (intro h; cases h; done) | skip
      case ref u sz j off =>
        rcases blk_cases hb u with e | e
        · rw [e]; intro h; cases h
        · rw [e]
          repeat' split
          all_goals first
            | exact fin_put hk hn hd
            | (intro h; cases h)
      all_goals
        repeat' split
        all_goals first
          | exact fin_put hk hn hd
          | (intro h; cases h)
  · intro h; cases h

theorem slice_mono {T : TypeId} {x : LV} {lo hi : Option LV} (hk : kindOf o.op = .pure ∨ kindOf o.op = .quiet) (hn : t.n = m.n) (hd : m.n ≤ 4000) (hb : ∀ b, m.blk b ≠ .free → t.blk b = m.blk b) : sliceOp P m o T x lo hi = some (c, m') → sliceOp P t o T x lo hi = some (c, effect o m m' t) := by
  unfold sliceOp
  simp only [okL, ok]
  split
  · repeat' split
    all_goals first
      | exact fin_put hk hn hd
      | (intro h; cases h)
  · split
    · intro h; cases h
    · cases x <;> cases lo <;> cases hi <;> (try simp only []) <;> first | (intro h; cases h; done) | skip
      case ref.none.none u sz j off =>
        rcases blk_cases hb u with e | e
        · rw [e]; intro h; cases h
        · rw [e]
          repeat' split
          all_goals first
            | exact fin_put hk hn hd
            | (intro h; cases h)
      all_goals
        repeat' split
        all_goals first
          | exact fin_put hk hn hd
          | (intro h; cases h)
  · intro h; cases h

def mapEs (blk : Nat → Blk) (v : Sh) (k : IntKind) (x : LV) : Option (List (Int × v.T)) := match x with
  | .imap (.int k') v' es => if h : v' = v then (if k' = k then some (castMap h es) else none) else none
  | .mref t => match blk t with
    | .map (.int k') v' es => if h : v' = v then (if k' = k then some (castMap h es) else none) else none
    | _ => none
  | _ => none

theorem lookup_mono {T : TypeId} {x y : LV} {b : Bool} (hk : kindOf o.op = .pure ∨ kindOf o.op = .quiet) (hn : t.n = m.n) (hd : m.n ≤ 4000) (hb : ∀ b, m.blk b ≠ .free → t.blk b = m.blk b) : lookupOp P m o T x y b = some (c, m') → lookupOp P t o T x y b = some (c, effect o m m' t) := by
  have gen : ∀ {v : Sh} {z : CV} (es : Option (List (Int × v.T))) (n : Int) (d : v.T), (match es with
      | some es => if v.isAgg = z.isAggC then
            (let r := v.cv (mapGet n d es)
             if b then ok m o (.tup [r, .l (.bool (mapHas n es))]) else ok m o (.c r)) else none
      | none => none) = some (c, m') → (match es with
      | some es => if v.isAgg = z.isAggC then
            (let r := v.cv (mapGet n d es)
             if b then ok t o (.tup [r, .l (.bool (mapHas n es))]) else ok t o (.c r)) else none
      | none => none) = some (c, effect o m m' t) := by
    intro v z es n d
    cases es with
    | none => intro h; cases h
    | some es =>
      simp only []
      split
      · split
        · exact fin_put hk hn hd
        · exact fin_put hk hn hd
      · intro h; cases h
  intro h
  unfold lookupOp at h ⊢
  split at h
  · rename_i K E hu
    split at h
    · rename_i v z k n hv hz
      split at h
      · rename_i dd hdd
        split at h
        · rename_i hi
          simp only [hu, hv, hz, hdd, hi, if_true]
          have h' := gen (z := z) (mapEs m.blk v k x) n dd h
          have eqE : mapEs t.blk v k x = mapEs m.blk v k x := by
            cases x <;> try rfl
            case imap k' _ _ => cases k' <;> rfl
            case mref u =>
              rcases blk_cases hb u with e | e
              · simp only [e] at h; cases h
              · unfold mapEs; simp only [e]
          rw [← eqE] at h'
          exact h'
        · cases h
      · cases h
    · cases h
  · cases h

theorem builtin_mono {b : Builtin} {args : List Operand} {ts : List TypeId} (hk : kindOf o.op = .pure ∨ kindOf o.op = .quiet) (hn : t.n = m.n) (hd : m.n ≤ 4000) (hb : b = .len → ∀ b, m.blk b ≠ .free → t.blk b = m.blk b)
    (hap : b ≠ .append) (he : ∀ x ∈ args, evL t x = evL m x) : builtinOp P m o b args ts = some (c, m') → builtinOp P t o b args ts = some (c, effect o m m' t) := by
  have hmap : args.map (evL t) = args.map (evL m) := List.map_congr_left he
  unfold builtinOp
  split
  · have hx := he _ (List.mem_cons_self)
    rw [hx]
    split
    · exact fin_put hk hn hd
    · split
      · rename_i hl; rw [lenOf_mono (hb rfl) hl]; exact fin_put hk hn hd
      · intro h; cases h
    · split
      · exact fin_put hk hn hd
      · intro h; cases h
    · split
      · rename_i hl; rw [lenMap_mono (hb rfl) hl]; exact fin_put hk hn hd
      · intro h; cases h
    · intro h; cases h
  · exact absurd rfl hap
  · rw [hmap]
    exact minmax_mono hk hn hd
  · rw [hmap]
    exact minmax_mono hk hn hd
  · have hx := he _ (List.mem_cons_self)
    have hy := he _ (List.mem_cons_of_mem _ List.mem_cons_self)
    rw [hx, hy]
    split
    · exact fin_put hk hn hd
    · intro h; cases h
  · have hx := he _ (List.mem_cons_self)
    rw [hx]
    split
    · exact fin_put hk hn hd
    · intro h; cases h
  · have hx := he _ (List.mem_cons_self)
    rw [hx]
    split
    · exact fin_put hk hn hd
    · intro h; cases h
  · intro h; cases h

theorem fin_new {d : Tmp} (hk : kindOf o.op = .fresh) (hdst : o.dst = some d) (hn : t.n = m.n) (hd : m.n ≤ 4000) (h1 : m.blk d = .free) (h2 : t.blk d = .free) {c0 : Bool} {B : Blk} {v : SV} :
    (match m.new d B v with | some s' => some (c0, s') | none => none) = some (c, m') → (match t.new d B v with | some s' => some (c0, s') | none => none) = some (c, effect o m m' t) := by
  intro h
  split at h
  · rename_i s' hs
    obtain ⟨rfl, rfl⟩ := Prod.mk.inj (Option.some.inj h)
    rw [newEff hn hd h1 h2 hs]
    simp only [effect, hk, hdst]
  · cases h

theorem newVar_mono {d : Tmp} {T : TypeId} {cs : List LV} (hk : kindOf o.op = .fresh) (hdst : o.dst = some d) (hn : t.n = m.n) (hd : m.n ≤ 4000) (h1 : m.blk d = .free) (h2 : t.blk d = .free) : newVar P m o T cs = some (c, m') → newVar P t o T cs = some (c, effect o m m' t) := by
  unfold newVar
  rw [hdst]
  split
  · rename_i d' e
    obtain rfl := Option.some.inj e
    split
    · exact fin_new hk hdst hn hd h1 h2
    · intro h; cases h
  · intro h; cases h

theorem makeMap_mono {d : Tmp} {T : TypeId} (hk : kindOf o.op = .fresh) (hdst : o.dst = some d) (hn : t.n = m.n) (hd : m.n ≤ 4000) (h1 : m.blk d = .free) (h2 : t.blk d = .free) : makeMapOp P m o T = some (c, m') → makeMapOp P t o T = some (c, effect o m m' t) := by
  unfold makeMapOp
  rw [hdst]
  split
  · rename_i e _
    obtain rfl := Option.some.inj e
    exact fin_new hk hdst hn hd h1 h2
  · intro h; cases h

theorem buildSlice_mono {d : Tmp} {T : TypeId} {n : Nat} {parts : List (Nat × Operand)} (hk : kindOf o.op = .fresh) (hdst : o.dst = some d) (hn : t.n = m.n) (hd : m.n ≤ 4000) (h1 : m.blk d = .free) (h2 : t.blk d = .free) (he : evParts t parts = evParts m parts) :
    buildSliceOp P m o T n parts = some (c, m') → buildSliceOp P t o T n parts = some (c, effect o m m' t) := by
  unfold buildSliceOp
  rw [hdst, he]
  split
  · rename_i e
    obtain rfl := Option.some.inj e
    split
    · split
      · split
        · split
          · exact fin_new hk hdst hn hd h1 h2
          · intro h; cases h
        · intro h; cases h
      · intro h; cases h
    · intro h; cases h
  · intro h; cases h

theorem makeSlice_mono {d : Tmp} {T : TypeId} {x y : LV} (hk : kindOf o.op = .fresh) (hdst : o.dst = some d) (hn : t.n = m.n) (hd : m.n ≤ 4000) (h1 : m.blk d = .free) (h2 : t.blk d = .free) :
    makeSliceOp P m o T x y = some (c, m') → makeSliceOp P t o T x y = some (c, effect o m m' t) := by
  unfold makeSliceOp
  rw [hdst]
  split
  · rename_i e
    obtain rfl := Option.some.inj e
    split
    · split
      · split
        · exact fin_new hk hdst hn hd h1 h2
        · intro h; cases h
      · intro h; cases h
    · intro h; cases h
  · intro h; cases h

theorem fin_write {T : TypeId} {a x : Operand} (ho : o.op = .store T a x) {u sz i off : Nat} (ha : evL m a = .ref u sz i off) (hu : u < m.n) (hd : m.n ≤ 4000) {B : Blk} {c0 : Bool} :
    some (c0, m.setB u B) = some (c, m') → some (c0, t.setB u B) = some (c, effect o m m' t) := by
  intro h
  obtain ⟨rfl, rfl⟩ := Prod.mk.inj (Option.some.inj h)
  have hw : written m o = u := by unfold written; rw [ho]; simp only [ha]
  have hk : kindOf o.op = .write := by rw [ho]; rfl
  simp only [effect, hk, hw]
  rw [PS.blk_setB _ (lt_depth hu hd), if_pos rfl]

theorem store_mono {T : TypeId} {a x : Operand} {y : CV} (ho : o.op = .store T a x) (hd : m.n ≤ 4000) (hb : ∀ b, m.blk b ≠ .free → t.blk b = m.blk b) (hw : written m o < m.n) :
    storeOp P m T y (evL m a) = some (c, m') → storeOp P t T y (evL m a) = some (c, effect o m m' t) := by
  cases ha : evL m a <;> simp only [storeOp] <;> first | (intro h; cases h; done) | skip
  rename_i u sz i off
  have hw' : written m o = u := by unfold written; rw [ho]; simp only [ha]
  rw [hw'] at hw
  rcases blk_cases hb u with e | e
  · rw [e]
    split
    · intro h; cases h
    · intro h; cases h
  · rw [e]
    repeat' split
    all_goals first
      | exact fin_write ho ha hw hd
      | (intro h; cases h)

/-- What an operation makes of a state hangs only on what it looks at. -/
theorem step_mono {hp : Bool} (S : Sees m t (tmpsOf o.op.operands.toList) hp) (hhp : kindOf o.op = .pure ∨ hp = true) (hnb : kindOf o.op ≠ .barrier) (hw : kindOf o.op = .write → written m o < m.n)
    (hf : kindOf o.op = .fresh → ∀ d, o.dst = some d → m.blk d = .free ∧ t.blk d = .free) (h : stepOp P m o = some (c, m')) : stepOp P t o = some (c, effect o m m' t) := by
  have hn := S.n
  have hd := S.deep
  have hb : kindOf o.op ≠ .pure → ∀ b, m.blk b ≠ .free → t.blk b = m.blk b := fun hne => S.blks (hhp.resolve_left hne)
  revert h
  unfold stepOp
  split
  · rename_i x ho; rw [S.ev (x := x) (by simp [ho, Op.operands])]; exact fin_put (.inl (by rw [ho]; rfl)) hn hd
  · rename_i x ho; rw [S.ev (x := x) (by simp [ho, Op.operands])]; exact fin_put (.inl (by rw [ho]; rfl)) hn hd
  · rename_i T ho
    have hk : kindOf o.op = .fresh := by rw [ho]; rfl
    split
    · cases hdst : o.dst with
      | none => unfold newVar; rw [hdst]; intro h; cases h
      | some d => exact newVar_mono hk hdst hn hd (hf hk d hdst).1 (hf hk d hdst).2
    · intro h; cases h
  · rename_i T x ho
    have hk : kindOf o.op = .fresh := by rw [ho]; rfl
    rw [S.evC (x := x) (by simp [ho, Op.operands])]
    split
    · cases hdst : o.dst with
      | none => unfold newVar; rw [hdst]; intro h; cases h
      | some d => exact newVar_mono hk hdst hn hd (hf hk d hdst).1 (hf hk d hdst).2
    · intro h; cases h
  · rename_i T x ho; rw [S.evL (x := x) (by simp [ho, Op.operands])]; exact load_mono (.inr (by rw [ho]; rfl)) hn hd (hb (by rw [ho]; intro e; cases e))
  · rename_i T a x ho
    rw [S.evL (x := a) (by simp [ho, Op.operands]), S.evC (x := x) (by simp [ho, Op.operands])]
    split
    · exact store_mono ho hd (hb (by rw [ho]; intro e; cases e)) (hw (by rw [ho]; rfl))
    · intro h; cases h
  · rename_i x ho
    rw [S.evL (x := x) (by simp [ho, Op.operands])]
    split
    · exact fin_put (.inl (by rw [ho]; rfl)) hn hd
    · exact fin_put (.inl (by rw [ho]; rfl)) hn hd
    · intro h; cases h
  · rename_i op T x y U ho; rw [S.evC (x := x) (by simp [ho, Op.operands]), S.evC (x := y) (by simp [ho, Op.operands])]; exact binOp_mono (.inl (by rw [ho]; rfl)) hn hd
  · rename_i op T x ho; rw [S.evL (x := x) (by simp [ho, Op.operands])]; exact unOp_mono (.inl (by rw [ho]; rfl)) hn hd
  · rename_i T U x ho; rw [S.evL (x := x) (by simp [ho, Op.operands])]; exact convert_mono (.inl (by rw [ho]; rfl)) hn hd
  · rename_i T parts ho
    exact build_mono (.inl (by rw [ho]; rfl)) hn hd (S.parts fun x hx => by simp only [ho, Op.operands]; exact List.mem_map.2 ⟨x, hx, rfl⟩)
  · rename_i T n parts ho
    have hk : kindOf o.op = .fresh := by rw [ho]; rfl
    cases hdst : o.dst with
    | none => unfold buildSliceOp; rw [hdst]; split <;> intro h <;> simp_all
    | some d => exact buildSlice_mono hk hdst hn hd (hf hk d hdst).1 (hf hk d hdst).2 (S.parts fun x hx => by simp only [ho, Op.operands]; exact List.mem_map.2 ⟨x, hx, rfl⟩)
  · rename_i T x y ho
    have hk : kindOf o.op = .fresh := by rw [ho]; rfl
    rw [S.evL (x := x) (by simp [ho, Op.operands]), S.evL (x := y) (by simp [ho, Op.operands])]
    cases hdst : o.dst with
    | none => unfold makeSliceOp; rw [hdst]; split <;> intro h <;> simp_all
    | some d => exact makeSlice_mono hk hdst hn hd (hf hk d hdst).1 (hf hk d hdst).2
  · rename_i T x lo hi ho
    have e1 : lo.map (evL t) = lo.map (evL m) := by
      cases lo with
      | none => rfl
      | some l => simp only [Option.map_some]; rw [S.evL (x := l) (by simp [ho, Op.operands])]
    have e2 : hi.map (evL t) = hi.map (evL m) := by
      cases hi with
      | none => rfl
      | some l => simp only [Option.map_some]; rw [S.evL (x := l) (by simp [ho, Op.operands])]
    rw [S.evL (x := x) (by simp [ho, Op.operands]), e1, e2]
    exact slice_mono (.inr (by rw [ho]; rfl)) hn hd (hb (by rw [ho]; intro e; cases e))
  · rename_i T x f ho; rw [S.evL (x := x) (by simp [ho, Op.operands])]; exact fieldAddr_mono (.inl (by rw [ho]; rfl)) hn hd
  · rename_i T x f ho; rw [S.evC (x := x) (by simp [ho, Op.operands])]; exact field_mono (.inl (by rw [ho]; rfl)) hn hd
  · rename_i T x y ho
    rw [S.evL (x := x) (by simp [ho, Op.operands]), S.evL (x := y) (by simp [ho, Op.operands])]
    split
    · exact indexAddr_mono (.inr (by rw [ho]; rfl)) hn hd (hb (by rw [ho]; intro e; cases e))
    · intro h; cases h
  · rename_i T x y ho
    rw [S.evC (x := x) (by simp [ho, Op.operands]), S.evL (x := y) (by simp [ho, Op.operands])]
    split
    · exact index_mono (.inl (by rw [ho]; rfl)) hn hd
    · intro h; cases h
  · rename_i x i ho
    rw [S.ev (x := x) (by simp [ho, Op.operands])]
    split
    · split
      · exact fin_put (.inl (by rw [ho]; rfl)) hn hd
      · intro h; cases h
    · intro h; cases h
  · rename_i T x y b ho
    rw [S.evL (x := x) (by simp [ho, Op.operands]), S.evL (x := y) (by simp [ho, Op.operands])]
    exact lookup_mono (.inr (by rw [ho]; rfl)) hn hd (hb (by rw [ho]; intro e; cases e))
  · rename_i T ho
    have hk : kindOf o.op = .fresh := by rw [ho]; rfl
    cases hdst : o.dst with
    | none => unfold makeMapOp; rw [hdst]; split <;> intro h <;> simp_all
    | some d => exact makeMap_mono hk hdst hn hd (hf hk d hdst).1 (hf hk d hdst).2
  · rename_i T a b x ho; exact absurd (by rw [ho]; rfl) hnb
  · rename_i b args ts ho
    have hk : kindOf o.op = .pure ∨ kindOf o.op = .quiet := by
      cases b <;> first | exact .inl (by rw [ho]; rfl) | exact .inr (by rw [ho]; rfl) | exact absurd (by rw [ho]; rfl) hnb
    refine builtin_mono hk hn hd (fun e => hb ?_) (fun e => ?_) fun x hx => S.evL ?_
    · subst e; rw [ho]; intro e; cases e
    · subst e; exact hnb (by rw [ho]; rfl)
    · simp only [ho, Op.operands, Call.operands]; simp_all
  · intro h; cases h
end
end Go.Ev
