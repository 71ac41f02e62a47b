/- The verified evaluator: the evaluator; typed data in memory; its state beside the model; small whole floats. -/
import Derived.Laws.AppendOwn
import Derived.Laws.Pointers
import Derived.KernelRfl
import Derived.Orders
import Derived.Below
import Derived.Laws.OwnMore
import Derived.Laws.MakeOwn
import Derived.Laws.StructEq
import Derived.Laws.Slices
import Derived.Laws.ComplexArith
import Derived.Laws.Strings2
import Derived.Laws.IdiomStrings
import Derived.Laws.BytesArg
import Derived.MapKept
set_option linter.unusedSimpArgs false
noncomputable section
namespace Go.Ev
inductive Sh where
  | int (k : IntKind)
  | bool
  | str
  | zf
  | zc
  | slice (e : Sh)
  | map (k v : Sh)
  | pair (a b : Sh)
  | agg (s : Sh)
  | unit
  | ptr (s : Sh)
  | optr (s : Sh)
  | clo (f : FuncId) (s : Sh)
  | err
  deriving DecidableEq
@[reducible] def Sh.T : Sh → Type
  | .int _ => Int
  | .bool => Bool
  | .str => ByteArray
  | .zf => Int
  | .zc => Int × Int
  | .slice e => List e.T
  | .map k v => List (k.T × v.T)
  | .pair a b => a.T × b.T
  | .agg s => s.T
  | .unit => Unit
  | .ptr s => s.T
  | .optr s => Option s.T
  | .clo _ s => s.T
  | .err => Bool
def Sh.size : Sh → Nat
 | .pair a b => a.size + b.size
 | .agg s => s.size
 | .unit => 0
 | _ => 1
def Sh.isAgg : Sh → Bool
 | .agg _ => true
 | _ => false
def Sh.dflt : (s : Sh) → s.T
 | .int _ => (0 : Int)
 | .bool => false
 | .str => ByteArray.empty
 | .zf => (0 : Int)
 | .zc => ((0 : Int), (0 : Int))
 | .slice _ => []
 | .map _ _ => []
 | .pair a b => (a.dflt, b.dflt)
 | .agg s => s.dflt
 | .unit => ()
 | .ptr s => s.dflt
 | .optr _ => none
 | .clo _ s => s.dflt
 | .err => false
def globs : Nat → Option (Σ s : Sh, s.T) := fun _ => none
def globI : Nat → Bool := fun _ => false
def Sh.flat : Sh → Bool
 | .slice _ | .map _ _ | .ptr _ | .optr _ | .clo _ _ => false
 | .pair a b => a.flat && b.flat
 | .agg s => s.flat
 | _ => true
inductive Cap where
  | ref (t : Nat)
  | dat (s : Sh) (x : s.T)
inductive LV where
  | undef
  | int (k : IntKind) (n : Int)
  | bool (b : Bool)
  | str (s : ByteArray)
  | zf (n : Int)
  | zc (re im : Int)
  | slice (e : Sh) (xs : List e.T)
  | nilslice
  | zslice
  | fn (f : FuncId)
  | nilfn
  | ifc (b : Bool)
  | iptr (s : Sh) (x : s.T) (o : Nat)
  | nilptr
  | imap (k v : Sh) (es : List (k.T × v.T))
  | optr (s : Sh) (x : Option s.T)
  | clo (f : FuncId) (s : Sh) (x : s.T)
  | cloR (f : FuncId) (cs : List Cap)
  | ref (t sz i o : Nat)
  | full (t : Nat)
  | sref (t sz off len : Nat)
  | cref (t o len : Nat) (e : Sh)
  | mref (t : Nat)
  | row (j : Nat)
  | rel (j k : Nat)
inductive CV where
  | l (v : LV)
  | agg (cs : List LV)
inductive SV where
  | c (v : CV)
  | tup (vs : List CV)
def undefS : SV := .c (.l .undef)
def CV.isAggC : CV → Bool
 | .l _ => false
 | .agg _ => true
def CV.cells : CV → List LV
 | .l v => [v]
 | .agg cs => cs
def Sh.cells : (s : Sh) → s.T → List LV
 | .int k, n => [.int k n]
 | .bool, b => [.bool b]
 | .str, s => [.str s]
 | .zf, n => [.zf n]
 | .zc, z => [.zc z.1 z.2]
 | .slice e, xs => [.slice e xs]
 | .map k v, es => [.imap k v es]
 | .pair a b, x => a.cells x.1 ++ b.cells x.2
 | .agg s, x => s.cells x
 | .unit, _ => []
 | .ptr s, x => [.iptr s x 0]
 | .optr s, x => [.optr s x]
 | .clo f s, x => [.clo f s x]
 | .err, b => [.ifc b]
def Sh.cv : (s : Sh) → s.T → CV
 | .agg s, x => .agg (s.cells x)
 | .int k, n => .l (.int k n)
 | .bool, b => .l (.bool b)
 | .str, s => .l (.str s)
 | .zf, n => .l (.zf n)
 | .zc, z => .l (.zc z.1 z.2)
 | .slice e, xs => .l (.slice e xs)
 | .map k v, es => .l (.imap k v es)
 | .ptr s, x => .l (.iptr s x 0)
 | .optr s, x => .l (.optr s x)
 | .clo f s, x => .l (.clo f s x)
 | .err, b => .l (.ifc b)
 | .pair _ _, _ => .l .undef
 | .unit, _ => .l .undef
def Sh.take : (s : Sh) → List LV → Option (s.T × List LV)
 | .int k, .int k' n :: r => if k = k' then some (n, r) else none
 | .bool, .bool b :: r => some (b, r)
 | .str, .str s :: r => some (s, r)
 | .err, .ifc b :: r => some (b, r)
 | .zf, .zf n :: r => some (n, r)
 | .zc, .zc a b :: r => some ((a, b), r)
 | .slice e, .slice e' xs :: r => if h : e' = e then some (h ▸ xs, r) else none
 | .slice _, .nilslice :: r => some ([], r)
 | .slice _, .zslice :: r => some ([], r)
 | .map k v, .imap k' v' es :: r => if h : k' = k ∧ v' = v then some (h.1 ▸ h.2 ▸ es, r) else none
 | .pair a b, l => match a.take l with
   | some (x, r) => match b.take r with
     | some (y, r) => some ((x, y), r)
     | none => none
   | none => none
 | .agg s, l => match s.take l with
   | some (x, r) => some (x, r)
   | none => none
 | .unit, l => some ((), l)
 | .ptr s, .iptr s' x o :: r => if h : s' = s ∧ o = 0 then some (h.1 ▸ x, r) else none
 | .optr s, .optr s' x :: r => if h : s' = s then some (h ▸ x, r) else none
 | .optr _, .nilptr :: r => some (none, r)
 | .optr s, .iptr s' x o :: r => if h : s' = s ∧ o = 0 then some (some (h.1 ▸ x), r) else none
 | .clo f s, .clo f' s' x :: r => if h : f' = f ∧ s' = s then some (h.2 ▸ x, r) else none
 | _, _ => none
def Sh.build (s : Sh) (l : List LV) : Option s.T :=
 match s.take l with
 | some (x, []) => some x
 | _ => none
def Sh.rows (s : Sh) : Nat → List LV → Option (List s.T)
 | 0, [] => some []
 | 0, _ => none
 | n + 1, l => match s.take l with
   | some (x, r) => match s.rows n r with
     | some xs => some (x :: xs)
     | none => none
   | none => none
inductive M (α : Type) where
  | e
  | n (v : Option α) (l r : M α)
def M.get {α : Type} (m : M α) : Nat → Option α :=
 M.rec (motive := fun _ => Nat → Option α) (fun _ => none) (fun v _ _ hl hr i => Bool.rec (motive := fun _ => Option α) (Bool.rec (motive := fun _ => Option α) (hr (Nat.sub (Nat.div i 2) 1)) (hl (Nat.div i 2)) (Nat.beq (Nat.mod i 2) 1)) v (Nat.beq i 0)) m
def M.set {α : Type} (v : α) (d : Nat) : M α → Nat → M α :=
 Nat.rec (motive := fun _ => M α → Nat → M α) (fun m _ => m)
  (fun _ h m i => M.rec (motive := fun _ => M α)
    (Bool.rec (motive := fun _ => M α) (Bool.rec (motive := fun _ => M α) (.n none .e (h .e (Nat.sub (Nat.div i 2) 1))) (.n none (h .e (Nat.div i 2)) .e) (Nat.beq (Nat.mod i 2) 1)) (.n (some v) .e .e) (Nat.beq i 0))
    (fun u l r _ _ => Bool.rec (motive := fun _ => M α) (Bool.rec (motive := fun _ => M α) (.n u l (h r (Nat.sub (Nat.div i 2) 1))) (.n u (h l (Nat.div i 2)) r) (Nat.beq (Nat.mod i 2) 1)) (.n (some v) l r) (Nat.beq i 0)) m) d
def M.map {α : Type} (f : α → α) (m : M α) : M α :=
 M.rec (motive := fun _ => M α) .e (fun v _ _ hl hr => .n (Option.rec (motive := fun _ => Option α) none (fun x => some (f x)) v) hl hr) m
theorem beq_nat (a b : Nat) : (a == b) = Nat.beq a b := by
 cases h : Nat.beq a b with
 | true => simp [Nat.eq_of_beq_eq_true h]
 | false => simpa using Nat.ne_of_beq_eq_false h
theorem bif_rec {α : Type} (b : Bool) (x y : α) : (bif b then x else y) = Bool.rec (motive := fun _ => α) y x b := by cases b <;> rfl
theorem M.get_e {α : Type} (i : Nat) : (M.e : M α).get i = none := rfl
theorem M.get_n {α : Type} (v : Option α) (l r : M α) (i : Nat) : (M.n v l r).get i = bif i == 0 then v else bif i % 2 == 1 then l.get (i / 2) else r.get (i / 2 - 1) := by
 rw [beq_nat, beq_nat, bif_rec, bif_rec]; rfl
theorem M.set_e {α : Type} (v : α) (d i : Nat) : M.set v (d + 1) .e i = bif i == 0 then .n (some v) .e .e else bif i % 2 == 1 then .n none (M.set v d .e (i / 2)) .e else .n none .e (M.set v d .e (i / 2 - 1)) := by
 rw [beq_nat, beq_nat, bif_rec, bif_rec]; rfl
theorem M.set_n {α : Type} (v : α) (d : Nat) (u : Option α) (l r : M α) (i : Nat) : M.set v (d + 1) (.n u l r) i = bif i == 0 then .n (some v) l r else bif i % 2 == 1 then .n u (M.set v d l (i / 2)) r else .n u l (M.set v d r (i / 2 - 1)) := by
 rw [beq_nat, beq_nat, bif_rec, bif_rec]; rfl
theorem M.map_n {α : Type} (f : α → α) (v : Option α) (l r : M α) : (M.n v l r).map f = .n (v.map f) (l.map f) (r.map f) := by cases v <;> rfl
structure LpI where
 n : Nat
 params : Array Tmp
 assign : Code
 body : Code
 cut : Bool
inductive LpSt where
  | ready
  | busy
  | done (e : Option Nat)
  | gone
inductive Blk where
  | free
  | cells (cs : List LV)
  | arr (e : Sh) (xs : List e.T)
  | buf (T : TypeId) (e : Sh) (xs : List e.T)
  | map (k v : Sh) (es : List (k.T × v.T))
  | lp (q : LpSt) (i : LpI) (m : M SV)
  | rowb (T : TypeId) (xs : List Int)
  | ids (T : TypeId) (l : List Nat)
abbrev H : Type := List (Nat × Blk)
def H.e : H := ([] : List (Nat × Blk))
def H.of (l : List (Nat × Blk)) : H := List.rec (motive := fun _ => List (Nat × Blk) → List (Nat × Blk)) (fun k => k) (fun q _ h k => h (q :: k)) l []
def H.list (m : H) : List (Nat × Blk) := m
def H.get (m : H) (i : Nat) : Option Blk := List.rec (motive := fun _ => Option Blk) none (fun q _ h => Bool.rec (motive := fun _ => Option Blk) h (some q.2) (Nat.beq q.1 i)) m
def H.set (v : Blk) (m : H) (i : Nat) : H := List.rec (motive := fun _ => List (Nat × Blk)) [(i, v)] (fun q r h => Bool.rec (motive := fun _ => List (Nat × Blk)) (q :: h) ((i, v) :: r) (Nat.beq q.1 i)) m
def H.map (f : Blk → Blk) (m : H) : H := List.rec (motive := fun _ => List (Nat × Blk)) [] (fun q _ h => (q.1, f q.2) :: h) m
def H.ren (ρ : Nat → Option Nat) (f : Blk → Blk) (m : H) : H := List.rec (motive := fun _ => List (Nat × Blk)) [] (fun q _ h => Option.rec (motive := fun _ => List (Nat × Blk)) h (fun u => (u, f q.2) :: h) (ρ q.1)) m
theorem H.get_cons (t : Nat) (b : Blk) (m : List (Nat × Blk)) (i : Nat) : H.get ((t, b) :: m) i = if i = t then some b else H.get m i := by
 show Bool.rec (motive := fun _ => Option Blk) (H.get m i) (some b) (Nat.beq t i) = _
 cases h : Nat.beq t i with
 | true => rw [if_pos (Nat.eq_of_beq_eq_true h).symm]
 | false => rw [if_neg (fun e => Nat.ne_of_beq_eq_false h e.symm)]
theorem H.get_set (v : Blk) : ∀ (m : H) (i j : Nat), (H.set v m i).get j = if j = i then some v else m.get j
 | [], i, j => H.get_cons i v [] j
 | (t, b) :: m, i, j => by
   show H.get (Bool.rec (motive := fun _ => List (Nat × Blk)) ((t, b) :: H.set v m i) ((i, v) :: m) (Nat.beq t i)) j = _
   cases h : Nat.beq t i with
   | true =>
     obtain rfl := Nat.eq_of_beq_eq_true h
     show H.get ((t, v) :: m) j = _
     rw [H.get_cons, H.get_cons]
     by_cases e : j = t <;> simp [e]
   | false =>
     have hn := Nat.ne_of_beq_eq_false h
     show H.get ((t, b) :: H.set v m i) j = _
     rw [H.get_cons, H.get_cons, H.get_set v m i j]
     by_cases e : j = t
     ·subst e; simp [hn]
     ·simp [e]
theorem H.get_map (f : Blk → Blk) : ∀ (m : H) (j : Nat), (m.map f).get j = (m.get j).map f
 | [], _ => rfl
 | (t, b) :: m, j => by
   show H.get ((t, f b) :: H.map f m) j = _
   rw [H.get_cons, H.get_cons, H.get_map f m j]
   by_cases e : j = t <;> simp [e]
theorem H.mem_of_get : ∀ {m : H} {i : Nat} {b : Blk}, m.get i = some b → (i, b) ∈ m.list
 | [], _, _, h => by cases h
 | (t, b0) :: m, i, b, h => by
   rw [H.get_cons] at h
   split at h
   ·rename_i e; obtain rfl := Option.some.inj h; subst e; exact List.mem_cons_self
   ·exact List.mem_cons_of_mem _ (H.mem_of_get (m := m) h)
theorem H.get_list : ∀ (l : List (Nat × Blk)) (u : Nat), (∃ v, (u, v) ∈ l ∧ H.get l u = some v) ∨ ((∀ v, (u, v) ∉ l) ∧ H.get l u = none)
 | [], u => .inr ⟨by simp, rfl⟩
 | (t, b) :: l, u => by
   rw [H.get_cons]
   by_cases e : u = t
   ·subst e; exact .inl ⟨b, by simp, if_pos rfl⟩
   ·rw [if_neg e]
    rcases H.get_list l u with ⟨v, h1, h2⟩ | ⟨h1, h2⟩
    ·exact .inl ⟨v, List.mem_cons_of_mem _ h1, h2⟩
    ·exact .inr ⟨fun v hv => by
      rcases List.mem_cons.1 hv with h | h
      ·exact e (Prod.mk.inj h).1
      ·exact h1 v h, h2⟩
theorem H.of_eq (l : List (Nat × Blk)) : H.of l = l.reverse := by
 have key : ∀ (l k : List (Nat × Blk)), List.rec (motive := fun _ => List (Nat × Blk) → List (Nat × Blk)) (fun k => k) (fun q _ h k => h (q :: k)) l k = l.reverse ++ k := by
  intro l
  induction l with
  | nil => intro k; rfl
  | cons q l ih => intro k; rw [List.reverse_cons, List.append_assoc]; exact ih (q :: k)
 exact (key l []).trans (List.append_nil _)
theorem H.get_of (l : List (Nat × Blk)) (u : Nat) : (∃ v, (u, v) ∈ l ∧ (H.of l).get u = some v) ∨ ((∀ v, (u, v) ∉ l) ∧ (H.of l).get u = none) := by
 rw [H.of_eq]
 rcases H.get_list l.reverse u with ⟨v, h1, h2⟩ | ⟨h1, h2⟩
 ·exact .inl ⟨v, List.mem_reverse.1 h1, h2⟩
 ·exact .inr ⟨fun v hv => h1 v (List.mem_reverse.2 hv), h2⟩
theorem H.get_ren {ρ : Nat → Option Nat} {f : Blk → Blk} (hinj : ∀ t t' u, ρ t = some u → ρ t' = some u → t = t') : ∀ (m : H) (t u : Nat), ρ t = some u → (m.ren ρ f).get u = (m.get t).map f
 | [], _, _, _ => rfl
 | (t0, b) :: m, t, u, h => by
   show H.get (Option.rec (motive := fun _ => List (Nat × Blk)) (H.ren ρ f m) (fun u => (u, f b) :: H.ren ρ f m) (ρ t0)) u = _
   have ih := H.get_ren (f := f) hinj m t u h
   rw [H.get_cons]
   cases h0 : ρ t0 with
   | none =>
     have : ¬ t = t0 := fun e => by rw [e, h0] at h; cases h
     rw [if_neg this]; exact ih
   | some u0 =>
     show H.get ((u0, f b) :: H.ren ρ f m) u = _
     rw [H.get_cons]
     by_cases e : u = u0
     ·subst e; rw [if_pos rfl, if_pos (hinj t t0 u h h0)]; rfl
     ·have : ¬ t = t0 := fun e2 => by rw [e2, h0] at h; exact e (Option.some.inj h).symm
      rw [if_neg e, if_neg this]; exact ih
theorem H.get_ren_none {ρ : Nat → Option Nat} {f : Blk → Blk} {u : Nat} (h : ∀ t, ρ t ≠ some u) : ∀ m : H, (m.ren ρ f).get u = none
 | [] => rfl
 | (t0, b) :: m => by
   show H.get (Option.rec (motive := fun _ => List (Nat × Blk)) (H.ren ρ f m) (fun u => (u, f b) :: H.ren ρ f m) (ρ t0)) u = _
   cases h0 : ρ t0 with
   | none => exact H.get_ren_none h m
   | some u0 =>
     show H.get ((u0, f b) :: H.ren ρ f m) u = _
     rw [H.get_cons, if_neg (fun e => h t0 (by rw [h0, e]))]
     exact H.get_ren_none h m
structure PS where
 n : Nat
 tmps : M SV
 hp : H
 up : List (Nat × M SV) := []
 pl : Option (TypeId × List (List Int)) := none
structure RV where
 v : SV
 b : Blk
def joinSh (f : TypeId → Option Sh) : List TypeId → Option Sh
 | [] => some .unit
 | t :: ts => match f t, joinSh f ts with
   | some (.agg s), some .unit => some s
   | some (.agg s), some r => some (.pair s r)
   | some s, some .unit => some s
   | some s, some r => some (.pair s r)
   | _, _ => none
def shOf (P : Program) : Nat → TypeId → Option Sh
 | 0, _ => none
 | d + 1, t => match P.underlying t with
   | some (.int k) => some (.int k)
   | some .bool => some .bool
   | some .string => some .str
   | some (.float .f32) => some .zf
   | some (.complex .f32) => some .zc
   | some (.slice e) => match shOf P d e with
     | some s => some (.slice s)
     | none => none
   | some (.map k v) => match shOf P d k, shOf P d v with
     | some a, some b => some (.map a b)
     | _, _ => none
   | some (.struct fs) => match joinSh (shOf P d) (fs.toList.map (·.type)) with
     | some s => some (.agg s)
     | none => none
   | some (.array n e) => match joinSh (shOf P d) (List.replicate n e) with
     | some s => some (.agg s)
     | none => none
   | _ => none
def shapeOf (P : Program) (t : TypeId) : Option Sh :=
 match shOf P 8 t with
 | some s => if s.size = P.cellsOf t then some s else none
 | none => none
def isAggT (P : Program) (t : TypeId) : Bool :=
 match P.underlying t with
 | some (.struct _) | some (.array _ _) => true
 | _ => false
def f32Int (bits : Nat) : Option Int :=
 if bits = 0 then some 0 else if bits = 1065353216 then some 1 else if bits = 3212836864 then some (-1) else none
def leafOf : Value → Option LV
 | .int k n => some (.int k n)
 | .bool b => some (.bool b)
 | .string s => some (.str s)
 | .float .f32 b => match f32Int b with
   | some n => some (.zf n)
   | none => none
 | .complex .f32 a b => match f32Int a, f32Int b with
   | some m, some n => some (.zc m n)
   | _, _ => none
 | .slice none 0 0 => some .nilslice
 | .pointer none => some .nilptr
 | .nilFunc => some .nilfn
 | .func (.func f) a b => if a.size = 0 ∧ b.size = 0 then some (.fn f) else none
 | _ => none
def leavesOf : List Value → Option (List LV)
 | [] => some []
 | v :: vs => match leafOf v, leavesOf vs with
   | some x, some xs => some (x :: xs)
   | _, _ => none
def cvOf : Value → Option CV
 | .agg cs => match leavesOf cs.toList with
   | some xs => some (.agg xs)
   | none => none
 | .map none => some (.l .undef)
 | v => match leafOf v with
   | some x => some (.l x)
   | none => none
def oneCellB : Value → Bool
 | .agg _ | .tuple _ => false
 | _ => true
def zeroLeaves : List Value → Option (List LV)
 | [] => some []
 | v :: vs => if oneCellB v then (match zeroLeaves vs with
   | some xs => some ((leafOf v).getD .undef :: xs)
   | none => none) else none
def zeroOf (P : Program) (t : TypeId) : Option CV :=
 match P.info? t with
 | some i => match i.zero with
   | some (.agg cs) => match zeroLeaves cs.toList with
     | some xs => some (.agg xs)
     | none => none
   | some v => if oneCellB v then some (.l ((leafOf v).getD .undef)) else none
   | none => none
 | none => none
def PS.get (s : PS) (t : Nat) : SV := match s.tmps.get t with
 | some v => v
 | none => undefS
def PS.raw (s : PS) (t : Nat) : Blk := match s.hp.get t with
 | some b => b
 | none => .free
def Blk.shown (b : Blk) : Blk := b
def PS.rowB (s : PS) (j : Nat) : Blk := match s.pl with
 | some x => (match x.2[j]? with
   | some l => .rowb x.1 l
   | none => .free)
 | none => .free
def lowK (t : Nat) : Bool := Nat.beq (Nat.div t 16000) 0
def PS.blk (s : PS) (t : Nat) : Blk := bif lowK t then (s.raw t).shown else s.rowB (t - 16000)
def PS.setT (s : PS) (t : Nat) (v : SV) : PS := { s with tmps := M.set v 14 s.tmps t }
def PS.setB (s : PS) (t : Nat) (b : Blk) : PS := { s with hp := H.set b s.hp t }
def ev (s : PS) : Operand → SV
 | .tmp t => bif Nat.blt t s.n then s.get t else undefS
 | .const v => match cvOf v with
   | some c => .c c
   | none => undefS
 | .func f => .c (.l (.fn f))
 | .global g => match globs g with
   | some ⟨sh, x⟩ => .c (.l (.iptr sh x 0))
   | none => undefS
def evC (s : PS) (x : Operand) : CV := match ev s x with
 | .c v => v
 | .tup _ => .l .undef
def evL (s : PS) (x : Operand) : LV := match ev s x with
 | .c (.l v) => v
 | _ => .undef
def PS.put (s : PS) (dst : Option Tmp) (v : SV) : PS :=
 match dst with
 | some d => bif Nat.blt d s.n then s.setT d v else s
 | none => s
def Cap.has (t : Nat) : Cap → Bool
 | .ref u => u == t
 | .dat _ _ => false
def cvMap (f : LV → LV) : CV → CV
 | .l v => .l (f v)
 | .agg cs => .agg (cs.map f)
def svMap (f : LV → LV) : SV → SV
 | .c v => .c (cvMap f v)
 | .tup vs => .tup (vs.map (cvMap f))
def mapUp (f : SV → SV) (l : List (Nat × M SV)) : List (Nat × M SV) := l.map fun x => (x.1, x.2.map f)
def LV.kill (t : Nat) : LV → LV
 | .cloR f cs => if cs.any (Cap.has t) then .undef else .cloR f cs
 | .ref u sz i o => if u = t then .undef else .ref u sz i o
 | .full u => if u = t then .undef else .full u
 | .sref u sz a b => if u = t then .undef else .sref u sz a b
 | .cref u o n e => if u = t then .undef else .cref u o n e
 | .mref u => if u = t then .undef else .mref u
 | v => v
def CV.kill (t : Nat) : CV → CV
 | .l v => .l (v.kill t)
 | .agg cs => .agg (cs.map (LV.kill t))
def SV.kill (t : Nat) : SV → SV
 | .c v => .c (v.kill t)
 | .tup vs => .tup (vs.map (CV.kill t))
def Blk.kill (t : Nat) : Blk → Blk
 | .cells cs => .cells (cs.map (LV.kill t))
 | .lp q i m => .lp q i (m.map (svMap (LV.kill t)))
 | b => b
def Blk.isFree : Blk → Bool
 | .free => true
 | _ => false
def PS.drop (s : PS) (t : Nat) : PS :=
 if (s.blk t).isFree then s else
 { n := s.n, tmps := s.tmps.map (SV.kill t), hp := H.set .free (s.hp.map (Blk.kill t)) t, up := mapUp (SV.kill t) s.up, pl := s.pl }
def PS.new (s : PS) (t : Nat) (b : Blk) (v : SV) : Option PS :=
 bif Nat.blt t s.n then some (((s.drop t).setT t v).setB t b) else none
def srcOf (s : PS) : LV → Option (Σ e : Sh, List e.T)
 | .slice e xs => some ⟨e, xs⟩
 | .full t => match s.blk t with
   | .buf _ e xs => some ⟨e, xs⟩
   | _ => none
 | .sref t _ off len => match s.blk t with
   | .buf _ e xs => some ⟨e, (xs.drop off).take len⟩
   | .arr e xs => some ⟨e, (xs.drop off).take len⟩
   | _ => none
 | .cref t o len e => match s.blk t with
   | .cells cs => match e.rows len ((cs.drop o).take (len * e.size)) with
     | some xs => some ⟨e, xs⟩
     | none => none
   | _ => none
 | _ => none
def rowAt (rows : List (List Int)) (j : Nat) : List Int := rows.getD j []
def lenOf (s : PS) : LV → Option Nat
 | .nilslice => some 0
 | .slice _ xs => some xs.length
 | .full t => match s.blk t with
   | .buf _ _ xs => some xs.length
   | .ids _ l => some l.length
   | _ => none
 | .row j => match s.pl with
   | some x => some (rowAt x.2 j).length
   | none => none
 | .sref _ _ _ len => some len
 | .cref _ _ len _ => some len
 | _ => none
def lenMap (s : PS) : LV → Option Nat
 | .imap _ _ es => some es.length
 | .mref t => match s.blk t with
   | .map _ _ es => some es.length
   | _ => none
 | _ => none
def snapL (s : PS) : LV → Option LV
 | .ref t _ _ o => match s.blk t with
   | .cells cs => match snapLeaves s cs with
     | some ⟨sh, x⟩ => some (.iptr sh x o)
     | none => none
   | _ => none
 | .full t => match s.blk t with
   | .buf _ e xs => some (.slice e xs)
   | _ => none
 | .sref t sz off len => match srcOf s (.sref t sz off len) with
   | some ⟨e, xs⟩ => some (.slice e xs)
   | none => none
 | .cref t o len e => match srcOf s (.cref t o len e) with
   | some ⟨e, xs⟩ => some (.slice e xs)
   | none => none
 | .mref t => match s.blk t with
   | .map k v es => some (.imap k v es)
   | _ => none
 | .cloR _ _ => none
 | .row _ => none
 | .rel _ _ => none
 | v => some v
where
 snapLeaf (s : PS) : LV → Option (Σ sh : Sh, sh.T)
  | .int k n => some ⟨.int k, n⟩
  | .bool b => some ⟨.bool, b⟩
  | .str x => some ⟨.str, x⟩
  | .ifc b => some ⟨.err, b⟩
  | .zf n => some ⟨.zf, n⟩
  | .zc a b => some ⟨.zc, (a, b)⟩
  | .slice e xs => some ⟨.slice e, xs⟩
  | .imap k v es => some ⟨.map k v, es⟩
  | .iptr sh x 0 => some ⟨.ptr sh, x⟩
  | .optr sh x => some ⟨.optr sh, x⟩
  | .clo f sh x => some ⟨.clo f sh, x⟩
  | .fn f => some ⟨.clo f .unit, ()⟩
  | .full t => match s.blk t with
    | .buf _ e xs => some ⟨.slice e, xs⟩
    | _ => none
  | .mref t => match s.blk t with
    | .map k v es => some ⟨.map k v, es⟩
    | _ => none
  | _ => none
 snapLeaves (s : PS) : List LV → Option (Σ sh : Sh, sh.T)
  | [] => some ⟨.unit, ()⟩
  | [v] => snapLeaf s v
  | v :: vs => match snapLeaf s v, snapLeaves s vs with
    | some ⟨a, x⟩, some ⟨b, y⟩ => some ⟨.pair a b, (x, y)⟩
    | _, _ => none
def snapLs (s : PS) : List LV → Option (List LV)
 | [] => some []
 | v :: vs => match snapL s v, snapLs s vs with
   | some x, some xs => some (x :: xs)
   | _, _ => none
def snapC (s : PS) : CV → Option CV
 | .l v => match snapL s v with
   | some x => some (.l x)
   | none => none
 | .agg cs => match snapLs s cs with
   | some xs => some (.agg xs)
   | none => none
def snapCs (s : PS) : List CV → Option (List CV)
 | [] => some []
 | v :: vs => match snapC s v, snapCs s vs with
   | some x, some xs => some (x :: xs)
   | _, _ => none
def LV.pure : LV → Bool
 | .ref .. | .full _ | .sref .. | .cref .. | .mref _ | .cloR .. | .row _ | .rel .. => false
 | _ => true
def LV.behind : LV → Bool
 | .slice .. | .iptr .. | .imap .. | .optr .. | .clo .. | .cloR .. => true
 | _ => false
def Blk.behind : Blk → Bool
 | .free => false
 | .cells cs => !(cs.all fun v => !v.behind)
 | .arr e _ => !e.flat
 | .buf _ e _ => !e.flat
 | .map k v _ => !(k.flat && v.flat)
 | .lp _ _ _ => true
 | .rowb _ _ => false
 | .ids _ _ => false
def CV.known : CV → Bool
 | .l .undef => false
 | _ => true
def CV.all (p : LV → Bool) : CV → Bool
 | .l v => p v
 | .agg cs => cs.all p
def SV.all (p : LV → Bool) : SV → Bool
 | .c v => v.all p
 | .tup vs => vs.all (CV.all p)
abbrev Step := Option (Bool × PS)
def ok (s : PS) (o : Oper) (v : SV) : Step := some (true, s.put o.dst v)
def okL (s : PS) (o : Oper) (v : LV) : Step := some (true, s.put o.dst (.c (.l v)))
def partOf (P : Program) (T : TypeId) (cs : List LV) (off : Nat) : Option CV :=
 match P.underlying T with
 | none => none
 | some _ => if isAggT P T then
    (if off + P.cellsOf T ≤ cs.length then some (.agg ((cs.drop off).take (P.cellsOf T))) else none)
   else match cs[off]? with
    | some v => some (.l v)
    | none => none
def blkOf (P : Program) (T : TypeId) (cs : List LV) : Blk :=
 match P.underlying T with
 | some (.array n e) => match shapeOf P e with
   | some s => match s.rows n cs with
     | some xs => if s.size = 0 then .cells cs else .arr s xs
     | none => .cells cs
   | none => .cells cs
 | _ => .cells cs
theorem blkOf_shown (P : Program) (T : TypeId) (cs : List LV) : (blkOf P T cs).shown = blkOf P T cs := by
 unfold blkOf
 split
 ·split
  ·split
   ·split <;> rfl
   ·rfl
  ·rfl
 ·rfl
def newVar (P : Program) (s : PS) (o : Oper) (T : TypeId) (cs : List LV) : Step :=
 match o.dst with
 | some d => if cs.length = P.cellsOf T then
    match s.new d (blkOf P T (cs.map (LV.kill d))) (.c (.l (.ref d 0 0 0))) with
    | some s => some (true, s)
    | none => none
   else none
 | none => none
def padV : (n : Nat) → (e : Sh) → List e.T → List e.T
 | 0, _, _ => []
 | n + 1, e, xs => xs.headD e.dflt :: padV n e xs.tail
theorem padV_self : ∀ {n : Nat} {e : Sh} {xs : List e.T}, xs.length = n → padV n e xs = xs
 | 0, e, xs, h => by rw [padV, List.eq_nil_of_length_eq_zero h]
 | n + 1, e, [], h => by simp at h
 | n + 1, e, x :: xs, h => by
   rw [padV, List.headD_cons, List.tail_cons, padV_self (by simpa using h)]
theorem padV_take : ∀ {n : Nat} {e : Sh} {xs : List e.T}, n ≤ xs.length → padV n e xs = xs.take n
 | 0, e, xs, h => by rw [padV, List.take_zero]
 | n + 1, e, [], h => by simp at h
 | n + 1, e, x :: xs, h => by
   rw [padV, List.headD_cons, List.tail_cons, padV_take (by simpa using h), List.take_succ_cons]
def loadOp (P : Program) (s : PS) (o : Oper) (T : TypeId) : LV → Step
 | .ref t sz i off => match s.blk t with
   | .cells cs => match partOf P T cs off with
     | some v => ok s o (.c v)
     | none => none
   | .arr e xs => if sz = e.size then (match partOf P T (e.cells (xs.getD i e.dflt)) off with
      | some v => ok s o (.c v)
      | none => none) else if sz = 0 ∧ i = 0 ∧ off = 0 ∧ isAggT P T ∧ (P.underlying T).isSome then
        some (decide (xs.length * e.size = P.cellsOf T), s.put o.dst (.c (.agg ((padV (P.cellsOf T / e.size) e xs).flatMap e.cells)))) else none
   | .buf _ e xs => if sz = e.size then (match partOf P T (e.cells (xs.getD i e.dflt)) off with
      | some v => ok s o (.c v)
      | none => none) else none
   | .ids _ l => match partOf P T [.row (l.getD i 0)] off with
      | some v => ok s o (.c v)
      | none => none
   | _ => none
 | .rel j k => match s.pl with
   | some x => match partOf P T [.int .i64 ((rowAt x.2 j).getD k 0)] 0 with
     | some v => ok s o (.c v)
     | none => none
   | none => none
 | .iptr sh x off => match partOf P T (sh.cells x) off with
   | some v => ok s o (.c v)
   | none => none
 | .optr sh x => match partOf P T (sh.cells (x.getD sh.dflt)) 0 with
   | some v => some (x.isSome, s.put o.dst (.c v))
   | none => none
 | _ => none
def writeAt : List LV → Nat → List LV → Option (List LV)
 | cs, off, vs => if off + vs.length ≤ cs.length then some (cs.take off ++ vs ++ cs.drop (off + vs.length)) else none
def mergeL (c : Bool) : LV → LV → Option LV
 | .bool a, .bool b => some (.bool (bif c then a else b))
 | .int k a, .int k' b => if k' = k then some (.int k (bif c then a else b)) else none
 | _, _ => none
def mergeAll (v : LV) (off : Nat) : Nat → List LV → Option (List LV)
 | _, [] => some []
 | k, u :: r => match mergeL (Nat.beq k off) v u with
   | some y => match mergeAll v off (k + 1) r with
     | some l => some (y :: l)
     | none => none
   | none => none
def writeSym (cs : List LV) (base off : Nat) (vs : List LV) : Option (Bool × List LV) := match vs with
 | [v] => match mergeAll v off base (cs.drop base) with
   | some l => some (Nat.ble base off && Nat.blt off cs.length, cs.take base ++ l)
   | none => none
 | _ => none
def storeOp (P : Program) (s : PS) (T : TypeId) (x : CV) : LV → Step
 | .ref t sz i off =>
   if x.cells.length = P.cellsOf T ∧ x.known = true ∧ (P.info? T).isSome = true then
   match s.blk t with
   | .cells cs => if i = 0 then (match writeAt cs off x.cells with
      | some cs => some (true, s.setB t (.cells cs))
      | none => none) else (match writeSym cs (i - 1) off x.cells with
      | some cs => some (cs.1, s.setB t (.cells cs.2))
      | none => none)
   | .arr e xs => if sz = e.size then (match writeAt (e.cells (xs.getD i e.dflt)) off x.cells with
      | some cs => match e.build cs with
        | some y => some (true, s.setB t (.arr e (xs.set i y)))
        | none => none
      | none => none) else if sz = 0 ∧ i = 0 ∧ off = 0 then (match e.rows xs.length x.cells with
        | some ys => some (true, s.setB t (.arr e ys))
        | none => none) else none
   | .buf U e xs => if sz = e.size then (match writeAt (e.cells (xs.getD i e.dflt)) off x.cells with
      | some cs => match e.build cs with
        | some y => some (true, s.setB t (.buf U e (xs.set i y)))
        | none => none
      | none => none) else none
   | .ids U l => match x with
     | .l (.row j) => if off = 0 then some (true, s.setB t (.ids U (l.set i j))) else none
     | _ => none
   | _ => none
   else none
 | .rel j k => if x.cells.length = P.cellsOf T ∧ (P.info? T).isSome = true then (match s.pl, x with
   | some y, .l (.int .i64 n) => some (true, { s with pl := some (y.1, y.2.set j ((rowAt y.2 j).set k n)) })
   | _, _ => none) else none
 | _ => none
def fieldAddrOp (P : Program) (s : PS) (o : Oper) (T : TypeId) (f : Nat) (x : LV) : Step :=
 match P.underlying T with
 | some (.struct fs) => match fs[f]? with
   | some fd => if P.cellsOf fd.type = 0 then none else
     match x with
     | .ref t sz i off => okL s o (.ref t sz i (off + fd.offset))
     | .iptr sh y off => okL s o (.iptr sh y (off + fd.offset))
     | .optr sh y => some (y.isSome, s.put o.dst (.c (.l (.iptr sh (y.getD sh.dflt) (0 + fd.offset)))))
     | _ => none
   | none => none
 | _ => none
def inBounds (i : Int) (n : Nat) : Bool := decide (0 ≤ i) && decide (i < (n : Int))
def strRows (P : Program) (E : TypeId) (n : Nat) (sh : Sh) (y : sh.T) (off : Nat) : Option (List ByteArray) := match shapeOf P E with
 | some .str => if P.cellsOf E = 1 then Sh.str.rows n (((sh.cells y).drop off).take n) else none
 | _ => none
def ixPtr (P : Program) (E : TypeId) (n : Nat) (sh : Sh) (y : sh.T) (off : Nat) (i : Int) : LV := match strRows P E n sh y off with
 | some xs => .iptr .str (xs.getD i.toNat ByteArray.empty) 0
 | none => .iptr sh y (off + i.toNat * P.cellsOf E)
def indexAddrOp (P : Program) (s : PS) (o : Oper) (T : TypeId) (x : LV) (i : Int) : Step :=
 match P.underlying T with
 | some (.slice E) => match x with
   | .slice e xs => if e.size = P.cellsOf E ∧ (P.info? E).isSome then some (inBounds i xs.length, s.put o.dst (.c (.l (.iptr e (xs.getD i.toNat e.dflt) 0)))) else none
   | .full t => match s.blk t with
     | .buf _ e xs => if e.size = P.cellsOf E then some (inBounds i xs.length, s.put o.dst (.c (.l (.ref t e.size i.toNat 0)))) else none
     | .ids _ l => if 1 = P.cellsOf E then some (inBounds i l.length, s.put o.dst (.c (.l (.ref t 1 i.toNat 0)))) else none
     | _ => none
   | .row j => match s.pl with
     | some x => if 1 = P.cellsOf E then some (inBounds i (rowAt x.2 j).length, s.put o.dst (.c (.l (.rel j i.toNat)))) else none
     | none => none
   | .sref t sz off len => if sz = P.cellsOf E then some (inBounds i len, s.put o.dst (.c (.l (.ref t sz (off + i.toNat) 0)))) else none
   | .cref t q len e => if e.size = P.cellsOf E ∧ (P.info? E).isSome then some (inBounds i len, s.put o.dst (.c (.l (.ref t 0 0 (q + i.toNat * P.cellsOf E))))) else none
   | _ => none
 | some (.array n E) => if !(P.info? E).isSome then none else match x with
   | .ref t sz j off => match s.blk t with
     | .arr e xs => if e.size = P.cellsOf E ∧ sz = 0 ∧ j = 0 ∧ off = 0 ∧ 1 < n then some (inBounds i n && decide (xs.length = n), s.put o.dst (.c (.l (.ref t e.size i.toNat 0)))) else none
     | .cells _ => if 1 < n then some (inBounds i n, s.put o.dst (.c (.l (.ref t sz (if 64 ≤ n then off + 1 else j) (off + i.toNat * P.cellsOf E))))) else none
     | _ => none
   | .iptr sh y off => if 1 < n then some (inBounds i n, s.put o.dst (.c (.l (ixPtr P E n sh y off i)))) else none
   | _ => none
 | _ => none
def indexOp (P : Program) (s : PS) (o : Oper) (T : TypeId) (x : CV) (i : Int) : Step :=
 match P.underlying T, x with
 | some (.array n E), .agg cs => match shapeOf P E with
   | some e => match e.rows n cs with
     | some xs => if e.isAgg = isAggT P E ∧ e.size = P.cellsOf E ∧ ((P.underlying E).isSome && (isAggT P E || P.cellsOf E == 1)) = true then some (inBounds i n, s.put o.dst (.c (e.cv (xs.getD i.toNat e.dflt)))) else none
     | none => none
   | none => match partOf P E cs (i.toNat * P.cellsOf E) with
     | some v => if (P.underlying E).isSome then some (inBounds i n, s.put o.dst (.c v)) else none
     | none => none
 | some .string, .l (.str b) => some (inBounds i b.size, s.put o.dst (.c (.l (.int .u8 (b.data.toList.getD i.toNat 0).toNat))))
 | _, _ => none
def fieldOp (P : Program) (s : PS) (o : Oper) (T : TypeId) (f : Nat) (x : CV) : Step :=
 match P.underlying T, x with
 | some (.struct fs), .agg cs => match fs[f]? with
   | some fd => match partOf P fd.type cs fd.offset with
     | some v => ok s o (.c v)
     | none => none
   | none => none
 | _, _ => none
def fillL (place : Nat → Option (Nat × Nat)) (cells : List LV) : List (Nat × CV) → Option (List LV)
 | [] => some cells
 | (i, v) :: rest => match place i with
   | none => none
   | some (off, size) => if v.cells.length = size ∧ v.known = true then
      match writeAt cells off v.cells with
      | some cs => fillL place cs rest
      | none => none
     else none
def evParts (s : PS) : List (Nat × Operand) → List (Nat × CV)
 | [] => []
 | (i, x) :: r => (i, evC s x) :: evParts s r
def buildOp (P : Program) (s : PS) (o : Oper) (T : TypeId) (parts : List (Nat × Operand)) : Step :=
 match zeroOf P T with
 | some z => match P.underlying T with
   | some (.struct fs) => match fillL (fun i => (fs[i]?).map fun f => (f.offset, P.cellsOf f.type)) z.cells (evParts s parts) with
     | some cs => if fs.toList.all (fun f => (P.info? f.type).isSome) then ok s o (.c (.agg cs)) else none
     | none => none
   | some (.array _ E) => match fillL (fun i => some (i * P.cellsOf E, P.cellsOf E)) z.cells (evParts s parts) with
     | some cs => if (P.info? E).isSome then ok s o (.c (.agg cs)) else none
     | none => none
   | _ => none
 | none => none
def Sh.subAt : (s : Sh) → s.T → Nat → Option (Σ t : Sh, t.T)
 | .pair a b, x, o => if o < a.size then a.subAt x.1 o else b.subAt x.2 (o - a.size)
 | .agg s, x, o => s.subAt x o
 | .int k, x, 0 => some ⟨.int k, x⟩
 | .bool, x, 0 => some ⟨.bool, x⟩
 | .str, x, 0 => some ⟨.str, x⟩
 | _, _, _ => none
def normL : LV → LV
 | .iptr sh x o => match sh.subAt x o with
   | some ⟨t, y⟩ => .iptr t y 0
   | none => .iptr sh x o
 | v => v
def packLf : LV → Option Sh
 | .int k _ => some (.int k)
 | .bool _ => some .bool
 | .str _ => some .str
 | .iptr sh _ 0 => some (.ptr sh)
 | _ => none
def packLs : List LV → Option Sh
 | [] => none
 | [v] => packLf v
 | v :: vs => match packLf v, packLs vs with
   | some a, some b => some (.pair a b)
   | _, _ => none
def elemOf (P : Program) (E : TypeId) (cs : List LV) : Option (Sh × List LV) := match shapeOf P E with
 | some e => some (e, cs)
 | none => match packLs ((cs.map normL).take (P.cellsOf E)) with
   | some sh => some (if isAggT P E then .agg sh else sh, cs.map normL)
   | none => none
def buildSliceOp (P : Program) (s : PS) (o : Oper) (T : TypeId) (n : Nat) (parts : List (Nat × Operand)) : Step :=
 match P.underlying T, o.dst with
 | some (.slice E), some d => match zeroOf P E, P.info? E with
   | some z, some _ => match fillL (fun i => some (i * P.cellsOf E, P.cellsOf E)) ((List.replicate n z.cells).flatten) (evParts s parts) with
     | some cs => match elemOf P E cs with
       | some (e, cs') => match e.rows n cs' with
         | some xs => if e.size = P.cellsOf E ∧ 0 < e.size ∧ z.cells.length = e.size ∧ n * e.size ≤ 16777216 ∧ n ≤ 16777216 then
            (match s.new d (.buf E e xs) (.c (.l (.full d))) with
              | some s => some (true, s)
              | none => none)
           else none
         | none => none
       | none => none
     | none => none
   | _, _ => none
 | _, _ => none
def dataElems (P : Program) (T : TypeId) (n : Nat) (ps : List (Nat × CV)) : Bool := match P.underlying T with
 | some (.slice E) => match zeroOf P E with
   | some z => match fillL (fun i => some (i * P.cellsOf E, P.cellsOf E)) ((List.replicate n z.cells).flatten) ps with
     | some cs => (elemOf P E cs).isSome
     | none => false
   | none => false
 | _ => false
def fakeSh : Nat → Sh
 | 0 => .unit
 | k + 1 => .pair .bool (fakeSh k)
theorem fakeSh_size : ∀ k, (fakeSh k).size = k
 | 0 => rfl
 | k + 1 => by simp [fakeSh, Sh.size, fakeSh_size k]; omega
def ptrElem (P : Program) (T : TypeId) : Bool := match P.underlying T with
 | some (.slice E) => (shapeOf P E).isNone
 | _ => false
def buildCellsOp (P : Program) (s : PS) (o : Oper) (T : TypeId) (n : Nat) (parts : List (Nat × Operand)) : Step :=
 match P.underlying T, o.dst with
 | some (.slice E), some d => match zeroOf P E, P.info? E with
   | some z, some _ => match fillL (fun i => some (i * P.cellsOf E, P.cellsOf E)) ((List.replicate n z.cells).flatten) (evParts s parts) with
     | some cs => if 0 < P.cellsOf E ∧ z.cells.length = P.cellsOf E ∧ n * P.cellsOf E ≤ 16777216 ∧ cs.length = n * P.cellsOf E then
        (match s.new d (.cells (cs.map (LV.kill d))) (.c (.l (.cref d 0 n (fakeSh (P.cellsOf E))))) with
          | some s => some (true, s)
          | none => none)
       else none
     | none => none
   | _, _ => none
 | _, _ => none
def bnd (d : Int) : Option LV → Option Int
 | none => some d
 | some (.int _ n) => some n
 | _ => none
def sliceOp (P : Program) (s : PS) (o : Oper) (T : TypeId) (x : LV) (lo hi : Option LV) : Step :=
 match P.underlying T with
 | some (.slice E) => match x, lo, hi with
   | .slice e xs, none, some (.int _ h) => if e.size = P.cellsOf E ∧ (P.info? E).isSome then some (decide (0 ≤ h) && decide (h ≤ (xs.length : Int)), s.put o.dst (.c (.l (.slice e (xs.take h.toNat))))) else none
   | .slice e xs, some (.int _ l), none => if e.size = P.cellsOf E ∧ (P.info? E).isSome then some (decide (0 ≤ l) && decide (l ≤ (xs.length : Int)), s.put o.dst (.c (.l (.slice e (xs.drop l.toNat))))) else none
   | .slice e xs, some (.int _ l), some (.int _ h) => if e.size = P.cellsOf E ∧ (P.info? E).isSome then some (decide (0 ≤ l) && (decide (l ≤ h) && decide (h ≤ (xs.length : Int))), s.put o.dst (.c (.l (.slice e ((xs.take h.toNat).drop l.toNat))))) else none
   | .slice e xs, none, none => if e.size = P.cellsOf E ∧ (P.info? E).isSome then some (true, s.put o.dst (.c (.l (.slice e xs)))) else none
   | .full t, lo, hi => match s.blk t with
     | .buf _ e xs => match bnd 0 lo, bnd xs.length hi with
       | some l, some h => if e.size = P.cellsOf E ∧ (P.info? E).isSome then some (decide (0 < xs.length) && (decide (0 ≤ l) && (decide (l ≤ h) && decide (h ≤ (xs.length : Int)))), s.put o.dst (.c (.l (.sref t e.size l.toNat (h.toNat - l.toNat))))) else none
       | _, _ => none
     | .ids _ xs => match bnd 0 lo, bnd xs.length hi with
       | some l, some h => if 1 = P.cellsOf E ∧ (P.info? E).isSome then some (decide (0 < xs.length) && (decide (0 ≤ l) && (decide (l ≤ h) && decide (h ≤ (xs.length : Int)))), s.put o.dst (.c (.l (.sref t 1 l.toNat (h.toNat - l.toNat))))) else none
       | _, _ => none
     | _ => none
   | .sref t sz off len, lo, hi => match bnd 0 lo, bnd len hi with
     | some l, some h => if sz = P.cellsOf E ∧ (P.info? E).isSome then some (decide (0 ≤ l) && (decide (l ≤ h) && decide (h ≤ (len : Int))), s.put o.dst (.c (.l (.sref t sz (off + l.toNat) (h.toNat - l.toNat))))) else none
     | _, _ => none
   | .cref t q len e, lo, hi => match bnd 0 lo, bnd len hi with
     | some l, some h => if e.size = P.cellsOf E ∧ (P.info? E).isSome then some (decide (0 ≤ l) && (decide (l ≤ h) && (decide (h ≤ (len : Int)) && decide (l < (len : Int)))), s.put o.dst (.c (.l (.cref t (q + l.toNat * e.size) (h.toNat - l.toNat) e)))) else none
     | _, _ => none
   | _, _, _ => none
 | some .string => match x, lo, hi with
   | .str b, none, some (.int _ h) => some (decide (0 ≤ h) && decide (h ≤ (b.size : Int)), s.put o.dst (.c (.l (.str (b.extract 0 h.toNat)))))
   | .str b, some (.int _ l), none => some (decide (0 ≤ l) && decide (l ≤ (b.size : Int)), s.put o.dst (.c (.l (.str (b.extract l.toNat b.size)))))
   | .str b, some (.int _ l), some (.int _ h) => some (decide (0 ≤ l) && (decide (l ≤ h) && decide (h ≤ (b.size : Int))), s.put o.dst (.c (.l (.str (b.extract l.toNat h.toNat)))))
   | _, _, _ => none
 | some (.array n E) => if !(P.info? E).isSome then none else match x, lo, hi with
   | .iptr sh y off, none, none => match shapeOf P E with
     | some e => match e.rows n (((sh.cells y).drop off).take (n * e.size)) with
       | some xs => okL s o (.slice e xs)
       | none => none
     | none => none
   | .ref t sz i off, none, none => match s.blk t with
     | .cells cs => match shapeOf P E with
       | some e => match e.rows n ((cs.drop off).take (n * e.size)) with
         | some _ => if off ≤ cs.length ∧ n ≤ 1000000000 then okL s o (.cref t off n e) else none
         | none => none
       | none => none
     | .arr e xs => if sz = 0 ∧ i = 0 ∧ off = 0 then some (decide (xs.length = n), s.put o.dst (.c (.l (.sref t e.size 0 n)))) else none
     | _ => none
   | _, _, _ => none
 | _ => none
def roomFor (P : Program) (E : TypeId) (n : Nat) : Bool := decide (n * P.bytesOf E ≤ 140737488355328) && decide (n ≤ 140737488355328)
def appendOp (P : Program) (s : PS) (o : Oper) (T : TypeId) (x y : LV) : Step :=
 match P.underlying T, o.dst with
 | some (.slice E), some d => match shapeOf P E, zeroOf P E with
   | some e, some z =>
     let base : Option (Option Nat × List e.T) := match x with
      | .nilslice => some (none, [])
      | .full t => match s.blk t with
        | .buf U e' xs => if h : e' = e ∧ U = E then some (some t, h.1 ▸ xs) else none
        | _ => none
      | .sref t sz off len => match s.blk t with
        | .buf U e' xs => if h : e' = e ∧ U = E then (if sz = e.size then some (some t, h.1 ▸ ((xs.drop off).take len)) else none) else none
        | _ => none
      | _ => none
     let more : Option (List e.T) := match y with
      | .nilslice => some []
      | y => match srcOf s y with
        | some ⟨e', ys⟩ => if h : e' = e then some (h ▸ ys) else none
        | none => none
     match base, more with
     | some (t, xs), some ys =>
       if e.size = P.cellsOf E ∧ 0 < e.size ∧ z.cells.length = e.size then
        let s := match t with
         | some t => s.drop t
         | none => s
        match s.new d (.buf E e (xs ++ ys)) (.c (.l (.full d))) with
        | some s' => some (roomFor P E (xs.length + ys.length), s')
        | none => none
       else none
     | _, _ => none
   | _, _ => none
 | _, _ => none
def appendRefs (P : Program) (s : PS) (o : Oper) (T : TypeId) (x y : LV) : Step :=
 match P.underlying T, o.dst, x, y with
 | some (.slice E), some d, .cref t 0 n e, .cref u 0 m e' => match zeroOf P E, s.blk t, s.blk u with
   | some z, .cells cs, .cells ds => if t ≠ u ∧ e.size = 1 ∧ e'.size = 1 ∧ P.cellsOf E = 1 ∧ z.cells.length = 1 ∧ cs.length = n ∧ ds.length = m then
      (match (s.drop t).new d (.cells ((cs ++ ds).map fun c => (c.kill t).kill d)) (.c (.l (.cref d 0 (n + m) e))) with
      | some s' => some (roomFor P E (n + m), s')
      | none => none) else none
   | _, _, _ => none
 | _, _, _, _ => none
def rowT : TypeId → Bool := fun t => Nat.beq t 22
def rowS : TypeId → Bool := fun t => Nat.beq t 3
def LV.toRow (t j : Nat) : LV → LV
 | .full u => if u = t then .row j else .full u
 | v => v.kill t
def Blk.toRow (t j : Nat) : Blk → Blk
 | .cells cs => .cells (cs.map (LV.toRow t j))
 | .lp q i m => .lp q i (m.map (svMap (LV.toRow t j)))
 | b => b
def PS.rowsOf (s : PS) (T : TypeId) : Option (List (List Int)) := match s.pl with
 | none => some []
 | some x => if x.1 = T then some x.2 else none
def PS.toRow (s : PS) (t : Nat) : Option (Nat × PS) := bif Nat.blt t 16000 then (match s.blk t with
 | .buf T (.int .i64) xs => match s.rowsOf T with
   | some rows => some (rows.length, { n := s.n, tmps := s.tmps.map (svMap (LV.toRow t rows.length)), hp := H.set .free (s.hp.map (Blk.toRow t rows.length)) t, up := mapUp (svMap (LV.toRow t rows.length)) s.up, pl := some (T, rows ++ [xs]) })
   | none => none
 | _ => none) else none
def buildRowOp (P : Program) (s : PS) (o : Oper) (T : TypeId) (n : Nat) (parts : List (Nat × Operand)) : Step :=
 match P.underlying T, o.dst, parts with
 | some (.slice E), some d, [(0, x)] => match zeroOf P E, P.info? E, evL s x with
   | some z, some _, .full t => if n = 1 ∧ 1 = P.cellsOf E ∧ z.cells.length = 1 then (match s.toRow t with
     | some y => match y.2.new d (.ids E [y.1]) (.c (.l (.full d))) with
       | some s' => some (true, s')
       | none => none
     | none => none) else none
   | _, _, _ => none
 | _, _, _ => none
def appendIds (P : Program) (s : PS) (o : Oper) (T : TypeId) (x y : LV) : Step :=
 match P.underlying T, o.dst with
 | some (.slice E), some d => match zeroOf P E with
   | some z =>
     let base : Option (Option Nat × List Nat) := match x with
      | .nilslice => some (none, [])
      | .full t => match s.blk t with
        | .ids U l => if U = E then some (some t, l) else none
        | _ => none
      | _ => none
     let more : Option (List Nat) := match y with
      | .full u => match s.blk u with
        | .ids _ l => some l
        | _ => none
      | _ => none
     match base, more with
     | some (t, xs), some ys =>
       if 1 = P.cellsOf E ∧ z.cells.length = 1 then
        let s := match t with
         | some t => s.drop t
         | none => s
        match s.new d (.ids E (xs ++ ys)) (.c (.l (.full d))) with
        | some s' => some (roomFor P E (xs.length + ys.length), s')
        | none => none
       else none
     | _, _ => none
   | none => none
 | _, _ => none
def LV.isCref : LV → Bool
 | .cref .. => true
 | _ => false
def makeSliceOp (P : Program) (s : PS) (o : Oper) (T : TypeId) (len cap : LV) : Step :=
 match P.underlying T, o.dst, len, cap with
 | some (.slice E), some d, .int _ n, .int _ c => match shapeOf P E, zeroOf P E with
   | some e, some z => match e.build z.cells with
     | some x => if e.size = P.cellsOf E ∧ 0 < e.size ∧ z.cells.length = e.size then
        (match s.new d (.buf E e (List.replicate n.toNat x)) (.c (.l (.full d))) with
        | some s' => some (decide (0 ≤ n) && (decide (n = c) && roomFor P E n.toNat), s')
        | none => none) else none
     | none => none
   | _, _ => none
 | _, _, _, _ => none
def mkB : TypeId → Bool := fun _ => false
def makeCellsOp (P : Program) (s : PS) (o : Oper) (T : TypeId) (len cap : LV) : Step :=
 match P.underlying T, o.dst, len, cap with
 | some (.slice E), some d, .int _ n, .int _ c => match zeroOf P E with
   | some z => if P.cellsOf E = 1 ∧ z.cells.length = 1 then
      (match s.new d (.cells (((List.replicate n.toNat z.cells).flatten).map (LV.kill d))) (.c (.l (.cref d 0 n.toNat (fakeSh 1)))) with
      | some s' => some (decide (0 ≤ n) && (decide (n = c) && roomFor P E n.toNat), s')
      | none => none) else none
   | none => none
 | _, _, _, _ => none
def isZeroLit : Operand → Bool
 | .const (.int _ n) => decide (n = 0)
 | _ => false
def makeEmptyOp (P : Program) (s : PS) (o : Oper) (T : TypeId) (cap : LV) : Step :=
 match P.underlying T, o.dst, cap with
 | some (.slice E), some d, .int _ c => match shapeOf P E, zeroOf P E with
   | some e, some z => match e.build z.cells with
     | some _ => if e.size = P.cellsOf E ∧ 0 < e.size ∧ z.cells.length = e.size then
        (match s.new d (.buf E e []) (.c (.l (.full d))) with
        | some s' => some (decide (0 ≤ c) && roomFor P E c.toNat, s')
        | none => none) else none
     | none => none
   | _, _ => none
 | _, _, _ => none
def intOp (op : BinOp) (k : IntKind) (a b : Int) : Option (Bool × LV) :=
 match op with
 | .add => some (true, .int k (k.wrap (a + b)))
 | .sub => some (true, .int k (k.wrap (a - b)))
 | .mul => some (true, .int k (k.wrap (a * b)))
 | .quo => some (!(b == 0), .int k (k.wrap (a.tdiv b)))
 | .rem => some (!(b == 0), .int k (a.tmod b))
 | .eql => some (true, .bool (a == b))
 | .neq => some (true, .bool (a != b))
 | .lss => some (true, .bool (decide (a < b)))
 | .leq => some (true, .bool (decide (a ≤ b)))
 | .gtr => some (true, .bool (decide (a > b)))
 | .geq => some (true, .bool (decide (a ≥ b)))
 | .and => some (true, .int k (k.wrap ((BitVec.ofInt k.bits a &&& BitVec.ofInt k.bits b).toNat : Int)))
 | .or => some (true, .int k (k.wrap ((BitVec.ofInt k.bits a ||| BitVec.ofInt k.bits b).toNat : Int)))
 | .xor => some (true, .int k (k.wrap ((BitVec.ofInt k.bits a ^^^ BitVec.ofInt k.bits b).toNat : Int)))
 | .andNot => some (true, .int k (k.wrap ((BitVec.ofInt k.bits a &&& ~~~(BitVec.ofInt k.bits b)).toNat : Int)))
 | .shl => some (decide (0 ≤ b), .int k (k.wrap (a * 2 ^ (min b.toNat k.bits))))
 | .shr => some (decide (0 ≤ b), .int k (a.fdiv (2 ^ (min b.toNat k.bits))))
def isShift : BinOp → Bool
 | .shl | .shr => true
 | _ => false
def small24 (n : Int) : Bool := decide (-16777216 < n) && decide (n < 16777216)
def zcOp (op : BinOp) (a b c d : Int) : Option (Bool × LV) :=
 match op with
 | .add => some (small24 (a + c) && small24 (b + d), .zc (a + c) (b + d))
 | .sub => some (small24 (a - c) && small24 (b - d), .zc (a - c) (b - d))
 | .mul => some (small24 (a * c - b * d) && small24 (a * d + b * c), .zc (a * c - b * d) (a * d + b * c))
 | _ => none
def eqParts (P : Program) (f : TypeId → CV → CV → Option Bool) (xs ys : List LV) : List (TypeId × Nat) → Option Bool
 | [] => some true
 | (t, off) :: r => match partOf P t xs off, partOf P t ys off with
   | some a, some b => match f t a b, eqParts P f xs ys r with
     | some p, some q => some (p && q)
     | _, _ => none
   | _, _ => none
def fieldParts : List Field → List (TypeId × Nat)
 | [] => []
 | f :: r => if f.name ≠ "_" then (f.type, f.offset) :: fieldParts r else fieldParts r
def eqT (P : Program) : Nat → TypeId → CV → CV → Option Bool
 | 0, _, _, _ => none
 | d + 1, t, x, y => match P.underlying t, x, y with
   | some (.int _), .l (.int k a), .l (.int k' b) => if k = k' then some (a == b) else none
   | some .bool, .l (.bool a), .l (.bool b) => some (a == b)
   | some .string, .l (.str a), .l (.str b) => some (a == b)
   | some (.struct fs), .agg xs, .agg ys => if P.stoodInHeld t then none else eqParts P (eqT P d) xs ys (fieldParts fs.toList)
   | some (.array n e), .agg xs, .agg ys => if (P.info? e).isSome then eqParts P (eqT P d) xs ys ((List.range n).map fun i => (e, i * P.cellsOf e)) else none
   | _, _, _ => none
def nilOf : LV → Option Bool
 | .nilptr => some true
 | .iptr .. => some false
 | .ref .. => some false
 | .optr _ x => some (!x.isSome)
 | _ => none
def nilFnOf : LV → Option Bool
 | .nilfn => some true
 | .fn _ => some false
 | _ => none
def strOp (op : BinOp) (a b : ByteArray) : Option (Bool × LV) := match op with
 | .eql => some (true, .bool (decide (a.data.toList = b.data.toList)))
 | .neq => some (true, .bool (!decide (a.data.toList = b.data.toList)))
 | .add => some (decide (a.size + b.size ≤ 9223372036854775807), .str (a ++ b))
 | _ => none
def binOpS (P : Program) (s : PS) (o : Oper) (op : BinOp) (T : TypeId) (x y : CV) : Step :=
 match x, y with
 | .l (.str a), .l (.str b) => match strOp op a b with
    | some (c, v) => some (c, s.put o.dst (.c (.l v)))
    | none => none
 | .l (.int k a), .l (.int k' b) => if k = k' ∨ isShift op = true then (match intOp op k a b with
    | some (c, v) => some (c, s.put o.dst (.c (.l v)))
    | none => none) else none
 | .l (.zc a b), .l (.zc c d) => match zcOp op a b c d with
    | some (q, v) => some (q, s.put o.dst (.c (.l v)))
    | none => none
 | .l (.bool a), .l (.bool b) => match P.underlying T, op with
    | some .bool, .eql => okL s o (.bool (a == b))
    | some .bool, .neq => okL s o (.bool (!(a == b)))
    | _, _ => none
 | .l a, .l .nilptr => match nilOf a, P.underlying T, op with
    | some q, some (.pointer _), .eql => okL s o (.bool q)
    | some q, some (.pointer _), .neq => okL s o (.bool (!q))
    | _, _, _ => none
 | .l a, .l .nilfn => match nilFnOf a, P.underlying T, op with
    | some q, some (.func _ _ _), .eql => okL s o (.bool q)
    | some q, some (.func _ _ _), .neq => okL s o (.bool (!q))
    | _, _, _ => none
 | .l (.slice _ xs), .l .nilslice => match P.underlying T, op with
    | some (.slice _), .eql => some (decide (0 < xs.length), s.put o.dst (.c (.l (.bool false))))
    | some (.slice _), .neq => some (decide (0 < xs.length), s.put o.dst (.c (.l (.bool true))))
    | _, _ => none
 | .agg cs, .agg ds => if P.eqGuardType P.depth T then none else (match op, eqT P 8 T (.agg cs) (.agg ds) with
    | .eql, some r => okL s o (.bool r)
    | .neq, some r => okL s o (.bool (!r))
    | _, _ => none)
 | _, _ => none
def unOpS (s : PS) (o : Oper) (op : UnOp) (x : LV) : Step :=
 match op, x with
 | .not, .bool b => okL s o (.bool (!b))
 | .neg, .int k n => okL s o (.int k (k.wrap (-n)))
 | _, _ => none
def convertOp (P : Program) (s : PS) (o : Oper) (src dst : TypeId) (x : LV) : Step :=
 match P.underlying src, P.underlying dst, x with
 | some (.int _), some (.int k), .int _ n => okL s o (.int k (k.wrap n))
 | some (.int _), some (.float .f32), .int _ n => some (small24 n, s.put o.dst (.c (.l (.zf n))))
 | some (.float .f32), some (.int .i64), .zf n => okL s o (.int .i64 n)
 | _, _, _ => none
def cvB : TypeId → Bool := fun t => Nat.beq t 99999
def bytesStr (l : List Int) : ByteArray := ⟨(l.map fun n => UInt8.ofNat n.toNat).toArray⟩
def strBytes (s : ByteArray) : List Int := s.data.toList.map fun b => (b.toNat : Int)
def bytesOp (P : Program) (s : PS) (o : Oper) (src dst : TypeId) (x : LV) : Step :=
 match P.underlying src, P.underlying dst with
 | some (.slice E), some .string => match P.underlying E with
   | some (.int .u8) => match x with
     | .nilslice => okL s o (.str (bytesStr []))
     | x => match srcOf s x with
       | some ⟨.int .u8, xs⟩ => okL s o (.str (bytesStr xs))
       | _ => none
   | _ => none
 | some .string, some (.slice E) => match P.underlying E with
   | some (.int .u8) => match x with
     | .str b => some (decide (b.size ≤ 140737488355328), s.put o.dst (.c (.l (.slice (.int .u8) (strBytes b)))))
     | _ => none
   | _ => none
 | _, _ => none
def isNilIf : Operand → Bool
 | .const .nilIface => true
 | _ => false
def ifcOp (P : Program) (s : PS) (o : Oper) (op : BinOp) (T : TypeId) (x : LV) : Step := match P.underlying T, op, x with
 | some (.interface _), .eql, .ifc b => okL s o (.bool (!b))
 | some (.interface _), .neq, .ifc b => okL s o (.bool b)
 | _, _, _ => none
def mapPut {V : Type} (n : Int) (v : V) : List (Int × V) → List (Int × V)
 | [] => [(n, v)]
 | (k, u) :: r => bif n == k then (n, v) :: r else (k, u) :: mapPut n v r
def mapHas {V : Type} (n : Int) : List (Int × V) → Bool
 | [] => false
 | (k, _) :: r => bif n == k then true else mapHas n r
def mapGet {V : Type} (n : Int) (d : V) : List (Int × V) → V
 | [] => d
 | (k, v) :: r => bif n == k then v else mapGet n d r
def isIntT (P : Program) (t : TypeId) : Bool :=
 match P.underlying t with
 | some (.int _) => true
 | _ => false
def castMap {a b : Sh} (h : a = b) (es : List (Int × a.T)) : List (Int × b.T) := h ▸ es
def lookupOp (P : Program) (s : PS) (o : Oper) (T : TypeId) (m key : LV) (commaOk : Bool) : Step :=
 match P.underlying T with
 | some (.map K E) => match shapeOf P E, zeroOf P E, key with
   | some v, some z, .int k n => match v.build z.cells with
     | some d => if isIntT P K then
       let es : Option (List (Int × v.T)) := match m with
        | .imap (.int k') v' es => if h : v' = v then (if k' = k then some (castMap h es) else none) else none
        | .mref t => match s.blk t with
          | .map (.int k') v' es => if h : v' = v then (if k' = k then some (castMap h es) else none) else none
          | _ => none
        | _ => none
       match es with
       | some es => if v.isAgg = z.isAggC then
          (let r := v.cv (mapGet n d es)
           if commaOk then ok s o (.tup [r, .l (.bool (mapHas n es))]) else ok s o (.c r)) else none
       | none => none
       else none
     | none => none
   | _, _, _ => none
 | _ => none
def makeMapOp (P : Program) (s : PS) (o : Oper) (T : TypeId) : Step :=
 match o.dst, shapeOf P T with
 | some d, some (.map k v) => match s.new d (.map k v []) (.c (.l (.mref d))) with
   | some s' => some (true, s')
   | none => none
 | _, _ => none
def mapUpdateOp (P : Program) (s : PS) (T : TypeId) (m key : LV) (x : CV) : Step :=
 match P.underlying T, m, key with
 | some (.map K _), .mref t, .int k n => match s.blk t with
   | .map (.int k') v es => if k = k' ∧ v.isAgg = x.isAggC ∧ isIntT P K = true ∧ x.known = true then
      (match v.build x.cells with
      | some y => some (true, s.setB t (.map (.int k') v (mapPut n y es)))
      | none => none) else none
   | _ => none
 | _, _, _ => none
def minmax (isMax : Bool) (s : PS) (o : Oper) : List LV → Step
 | [.int k a, .int k' b] => if k = k' then okL s o (.int k (if isMax then (if b > a then b else a) else (if b < a then b else a))) else none
 | [.int k a, .int k' b, .int k'' c] => if k = k' ∧ k = k'' then
     (let m := if isMax then (if b > a then b else a) else (if b < a then b else a)
      okL s o (.int k (if isMax then (if c > m then c else m) else (if c < m then c else m)))) else none
 | _ => none
def intoOf (s : PS) : LV → Option (Nat × Nat × Nat)
 | .full t => match s.blk t with
   | .buf _ _ xs => some (t, 0, xs.length)
   | _ => none
 | .sref t _ off len => some (t, off, len)
 | _ => none
def copyOp (P : Program) (s : PS) (o : Oper) (T : TypeId) (x y : LV) : Step :=
 match P.underlying T, intoOf s x with
 | some (.slice E), some (t, off, len) => match s.blk t, srcOf s y with
   | .buf U e xs, some ⟨e', ys⟩ => if h : e' = e then
      (if e.size = P.cellsOf E ∧ (P.info? E).isSome ∧ 0 < e.size then
        some (true, (s.setB t (.buf U e (xs.take off ++ (h ▸ ys : List e.T).take len ++ xs.drop (off + min ys.length len)))).put o.dst (.c (.l (.int .i64 (min ys.length len : Nat)))))
      else none) else none
   | .arr e xs, some ⟨e', ys⟩ => if h : e' = e then
      (if e.size = P.cellsOf E ∧ (P.info? E).isSome ∧ 0 < e.size then
        some (true, (s.setB t (.arr e (xs.take off ++ (h ▸ ys : List e.T).take len ++ xs.drop (off + min ys.length len)))).put o.dst (.c (.l (.int .i64 (min ys.length len : Nat)))))
      else none) else none
   | _, _ => none
 | _, _ => none
def builtinOp (P : Program) (s : PS) (o : Oper) (b : Builtin) (args : List Operand) (types : List TypeId) : Step :=
 match b, args, types with
 | .len, [x], [T] => match P.underlying T with
   | some (.array n _) => okL s o (.int .i64 n)
   | some (.slice _) => match lenOf s (evL s x) with
     | some n => okL s o (.int .i64 n)
     | none => none
   | some .string => match evL s x with
     | .str b => okL s o (.int .i64 b.size)
     | _ => none
   | some (.map _ _) => match lenMap s (evL s x) with
     | some n => okL s o (.int .i64 n)
     | none => none
   | _ => none
 | .append, [x, y], [T, U] => if T = U then (bif rowT T then appendIds P s o T (evL s x) (evL s y) else bif (evL s x).isCref then appendRefs P s o T (evL s x) (evL s y) else appendOp P s o T (evL s x) (evL s y)) else none
 | .copy, [x, y], [T, _] => copyOp P s o T (evL s x) (evL s y)
 | .max, xs, _ => minmax true s o (xs.map (evL s))
 | .min, xs, _ => minmax false s o (xs.map (evL s))
 | .complex, [x, y], _ => match evL s x, evL s y with
   | .zf a, .zf b => okL s o (.zc a b)
   | _, _ => none
 | .real, [x], _ => match evL s x with
   | .zc a _ => okL s o (.zf a)
   | _ => none
 | .imag, [x], _ => match evL s x with
   | .zc _ b => okL s o (.zf b)
   | _ => none
 | _, _, _ => none
def capsOf : List LV → Option (Σ s : Sh, s.T)
 | [] => some ⟨.unit, ()⟩
 | .iptr sh x 0 :: r => match capsOf r with
   | some ⟨t, y⟩ => some ⟨.pair (.ptr sh) t, (x, y)⟩
   | none => none
 | .nilptr :: r => match capsOf r with
   | some ⟨t, y⟩ => some ⟨.pair (.optr .unit) t, (none, y)⟩
   | none => none
 | .clo f sh x :: r => match capsOf r with
   | some ⟨t, y⟩ => some ⟨.pair (.clo f sh) t, (x, y)⟩
   | none => none
 | _ => none
def capsR : List LV → Option (List Cap)
 | [] => some []
 | .ref t 0 0 0 :: r => match capsR r with
   | some l => some (.ref t :: l)
   | none => none
 | .iptr sh x 0 :: r => match capsR r with
   | some l => some (.dat (.ptr sh) x :: l)
   | none => none
 | .nilptr :: r => match capsR r with
   | some l => some (.dat (.optr .unit) none :: l)
   | none => none
 | .clo f sh x :: r => match capsR r with
   | some l => some (.dat (.clo f sh) x :: l)
   | none => none
 | _ => none
def makeFuncOp (s : PS) (o : Oper) (f : FuncId) (xs : List LV) : Step :=
 match capsOf xs with
 | some ⟨sh, x⟩ => okL s o (.clo f sh x)
 | none => match capsR xs with
   | some l => okL s o (.cloR f l)
   | none => none
def arrayAtOp (P : Program) (s : PS) (o : Oper) (T : TypeId) : LV → Step
 | .slice e xs => match P.underlying T, shapeOf P T with
   | some (.array (n + 1) _), some sh => match sh.take ((padV (n + 1) e xs).flatMap e.cells) with
     | some (y, []) => some (decide (n + 1 ≤ xs.length), s.put o.dst (.c (.l (.iptr sh y 0))))
     | _ => none
   | _, _ => none
 | _ => none
def stepOp (P : Program) (s : PS) (o : Oper) : Step :=
 match o.op with
 | .move x | .assign x => ok s o (ev s x)
 | .alloc T => match zeroOf P T with
   | some z => newVar P s o T z.cells
   | none => none
 | .box T x => if (evC s x).known then newVar P s o T (evC s x).cells else none
 | .load T a => loadOp P s o T (evL s a)
 | .store T a x => match o.dst with
   | none => storeOp P s T (evC s x) (evL s a)
   | some _ => none
 | .nilCheck x => match evL s x with
   | .ref t sz i off => okL s o (.ref t sz i off)
   | .iptr sh y off => okL s o (.iptr sh y off)
   | .optr sh y => some (y.isSome, s.put o.dst (.c (.l (.iptr sh (y.getD sh.dflt) 0))))
   | _ => none
 | .binOp op T x y _ => bif isNilIf y then ifcOp P s o op T (evL s x) else binOpS P s o op T (evC s x) (evC s y)
 | .unOp op _ x => unOpS s o op (evL s x)
 | .convert src dst x => bif cvB src || cvB dst then bytesOp P s o src dst (evL s x) else convertOp P s o src dst (evL s x)
 | .build T parts => buildOp P s o T parts.toList
 | .buildSlice T n parts => bif rowT T then buildRowOp P s o T n parts.toList else bif ptrElem P T && !dataElems P T n (evParts s parts.toList) then buildCellsOp P s o T n parts.toList else buildSliceOp P s o T n parts.toList
 | .makeSlice T l c => bif isZeroLit l then makeEmptyOp P s o T (evL s c) else bif mkB T then makeCellsOp P s o T (evL s l) (evL s c) else makeSliceOp P s o T (evL s l) (evL s c)
 | .slice T x lo hi none => sliceOp P s o T (evL s x) (lo.map (evL s)) (hi.map (evL s))
 | .fieldAddr T x f => fieldAddrOp P s o T f (evL s x)
 | .field T x f => fieldOp P s o T f (evC s x)
 | .indexAddr T x i => match evL s i with
   | .int _ n => indexAddrOp P s o T (evL s x) n
   | _ => none
 | .index T x i => match evL s i with
   | .int _ n => indexOp P s o T (evC s x) n
   | _ => none
 | .extract t i => match ev s t with
   | .tup vs => match vs[i]? with
     | some v => ok s o (.c v)
     | none => none
   | _ => none
 | .lookup T m k c => lookupOp P s o T (evL s m) (evL s k) c
 | .makeMap T none => makeMapOp P s o T
 | .mapUpdate T m k x => match o.dst with
   | none => mapUpdateOp P s T (evL s m) (evL s k) (evC s x)
   | some _ => none
 | .call { callee := .builtin b, args, argTypes } => builtinOp P s o b args.toList argTypes.toList
 | .makeFunc (.func f) first caps => if first.size = 0 then makeFuncOp s o f (caps.toList.map (evL s)) else none
 | .sliceToArrayPointer T x => arrayAtOp P s o T (evL s x)
 | _ => none
def mkSV : List CV → SV
 | [v] => .c v
 | vs => .tup vs
def relocL (t : Nat) : LV → LV
 | .ref _ sz i o => .ref t sz i o
 | .full _ => .full t
 | .sref _ sz a b => .sref t sz a b
 | .cref _ o n e => .cref t o n e
 | .mref _ => .mref t
 | .cloR _ _ => .undef
 | .row _ => .undef
 | .rel _ _ => .undef
 | v => v
def relocC (t : Nat) : CV → CV
 | .l v => .l (relocL t v)
 | .agg cs => .agg (cs.map (relocL t))
def relocS (t : Nat) : SV → SV
 | .c v => .c (relocC t v)
 | .tup vs => .tup (vs.map (relocC t))
def takeResult (s : PS) (d : Nat) (rv : RV) : Option PS :=
 match rv.b with
 | .free => some (s.put (some d) rv.v)
 | .buf T e xs => s.new d (.buf T e xs) (relocS d rv.v)
 | _ => none
def callable (P : Program) (g : FuncId) : Bool :=
 match P.funcs[g]? with
 | some fn => fn.body.isSome
 | none => false
def anyRef (l : List CV) : Bool := l.any fun v => !(v.all LV.pure)
def LV.frz (t : Nat) (e : Sh) (xs : List e.T) : LV → LV
 | .full u => if u = t then .slice e xs else .full u
 | v => v.kill t
def CV.frz (t : Nat) (e : Sh) (xs : List e.T) : CV → CV
 | .l v => .l (v.frz t e xs)
 | .agg cs => .agg (cs.map (LV.frz t e xs))
def SV.frz (t : Nat) (e : Sh) (xs : List e.T) : SV → SV
 | .c v => .c (v.frz t e xs)
 | .tup vs => .tup (vs.map (CV.frz t e xs))
def Blk.frz (t : Nat) (e : Sh) (xs : List e.T) : Blk → Blk
 | .cells cs => .cells (cs.map (LV.frz t e xs))
 | .lp q i m => .lp q i (m.map (svMap (LV.frz t e xs)))
 | b => b
def PS.freeze (s : PS) (t : Nat) : PS :=
 match s.blk t with
 | .buf _ e xs => { n := s.n, tmps := s.tmps.map (SV.frz t e xs), hp := H.set .free (s.hp.map (Blk.frz t e xs)) t, up := mapUp (SV.frz t e xs) s.up, pl := s.pl }
 | _ => s
def freezeAll (s : PS) : List Nat → PS
 | [] => s
 | t :: r => freezeAll (bif Nat.blt t 16000 then s.freeze t else s) r
def fullsL : List LV → List Nat
 | [] => []
 | .full t :: r => t :: fullsL r
 | _ :: r => fullsL r
def fulls : List CV → List Nat
 | [] => []
 | .l (.full t) :: r => t :: fulls r
 | .agg cs :: r => fullsL cs ++ fulls r
 | _ :: r => fulls r
def packLeaf : LV → Option (Σ sh : Sh, sh.T)
 | .int k n => some ⟨.int k, n⟩
 | .bool b => some ⟨.bool, b⟩
 | .str x => some ⟨.str, x⟩
 | .ifc b => some ⟨.err, b⟩
 | .zf n => some ⟨.zf, n⟩
 | .zc a b => some ⟨.zc, (a, b)⟩
 | .slice e xs => some ⟨.slice e, xs⟩
 | .imap k v es => some ⟨.map k v, es⟩
 | .iptr sh x 0 => some ⟨.ptr sh, x⟩
 | .optr sh x => some ⟨.optr sh, x⟩
 | .clo f sh x => some ⟨.clo f sh, x⟩
 | .fn f => some ⟨.clo f .unit, ()⟩
 | _ => none
def packLeaves : List LV → Option (Σ sh : Sh, sh.T)
 | [] => some ⟨.unit, ()⟩
 | [v] => packLeaf v
 | v :: vs => match packLeaf v, packLeaves vs with
   | some ⟨a, x⟩, some ⟨b, y⟩ => some ⟨.pair a b, (x, y)⟩
   | _, _ => none
def LV.frzB (t : Nat) (sh : Sh) (x : sh.T) : LV → LV
 | .ref u sz i o => if u = t then .iptr sh x (i * sz + o) else .ref u sz i o
 | v => v.kill t
def CV.frzB (t : Nat) (sh : Sh) (x : sh.T) : CV → CV
 | .l v => .l (v.frzB t sh x)
 | .agg cs => .agg (cs.map (LV.frzB t sh x))
def SV.frzB (t : Nat) (sh : Sh) (x : sh.T) : SV → SV
 | .c v => .c (v.frzB t sh x)
 | .tup vs => .tup (vs.map (CV.frzB t sh x))
def Blk.frzB (t : Nat) (sh : Sh) (x : sh.T) : Blk → Blk
 | .cells cs => .cells (cs.map (LV.frzB t sh x))
 | .lp q i m => .lp q i (m.map (svMap (LV.frzB t sh x)))
 | b => b
def Blk.flatCells : Blk → Option (List LV)
 | .cells cs => some cs
 | .arr e xs => some (xs.flatMap e.cells)
 | _ => none
def PS.freezeB (s : PS) (t : Nat) : PS :=
 match (s.blk t).flatCells with
 | some cs => match packLeaves cs with
   | some ⟨sh, x⟩ => { n := s.n, tmps := s.tmps.map (SV.frzB t sh x), hp := H.set .free (s.hp.map (Blk.frzB t sh x)) t, up := mapUp (SV.frzB t sh x) s.up, pl := s.pl }
   | none => s
 | _ => s
def freezeVar (s : PS) (t : Nat) : PS :=
 bif Nat.blt t 16000 then (match s.blk t with
  | .cells cs => (freezeAll s (fullsL cs)).freezeB t
  | .arr _ _ => s.freezeB t
  | _ => s) else s
def bigKeys (s : PS) : List (Nat × Blk) → List Nat
 | [] => []
 | p :: r => match p.2 with
   | .cells cs => bif Nat.ble 64 cs.length then p.1 :: bigKeys s r else bigKeys s r
   | _ => bigKeys s r
def freezeVars (s : PS) : List Nat → PS
 | [] => s
 | t :: r => freezeVars (freezeVar s t) r
def aheadFunc (s : PS) : List Operand → PS
 | [] => s
 | x :: r => match evL s x with
   | .ref t _ _ _ => aheadFunc (freezeVar s t) r
   | _ => aheadFunc s r
def LV.mv (x y : Nat) : LV → LV
 | .ref t sz i o => .ref (if t = x then y else t) sz i o
 | .full t => .full (if t = x then y else t)
 | .sref t sz a b => .sref (if t = x then y else t) sz a b
 | .cref t o n e => .cref (if t = x then y else t) o n e
 | .mref t => .mref (if t = x then y else t)
 | .cloR f cs => .cloR f (cs.map fun c => match c with | .ref t => .ref (if t = x then y else t) | .dat s x => .dat s x)
 | v => v
def CV.mv (x y : Nat) : CV → CV
 | .l v => .l (v.mv x y)
 | .agg cs => .agg (cs.map (LV.mv x y))
def SV.mv (x y : Nat) : SV → SV
 | .c v => .c (v.mv x y)
 | .tup vs => .tup (vs.map (CV.mv x y))
def Blk.mv (x y : Nat) : Blk → Blk
 | .cells cs => .cells (cs.map (LV.mv x y))
 | .lp q i m => .lp q i (m.map (svMap (LV.mv x y)))
 | b => b
def PS.move (s : PS) (x y : Nat) : PS :=
 if Nat.blt y 16000 && (Nat.blt x 16000 && ((s.blk y).isFree && (!(s.blk x).isFree && !Nat.beq x y))) then
  { n := s.n, tmps := s.tmps.map (SV.mv x y), hp := H.set .free (H.set ((s.raw x).mv x y) (s.hp.map (Blk.mv x y)) y) x, up := mapUp (SV.mv x y) s.up, pl := s.pl }
 else s
def renCaps (ρ : Nat → Option Nat) : List Cap → Option (List Cap)
 | [] => some []
 | .ref t :: r => match ρ t, renCaps ρ r with
   | some u, some l => some (.ref u :: l)
   | _, _ => none
 | .dat s x :: r => match renCaps ρ r with
   | some l => some (.dat s x :: l)
   | none => none
def LV.ren (ρ : Nat → Option Nat) : LV → LV
 | .ref t sz i o => match ρ t with
   | some u => .ref u sz i o
   | none => .undef
 | .full t => match ρ t with
   | some u => .full u
   | none => .undef
 | .sref t sz a b => match ρ t with
   | some u => .sref u sz a b
   | none => .undef
 | .cref t o n e => match ρ t with
   | some u => .cref u o n e
   | none => .undef
 | .mref t => match ρ t with
   | some u => .mref u
   | none => .undef
 | .cloR f cs => match renCaps ρ cs with
   | some l => .cloR f l
   | none => .undef
 | v => v
def CV.ren (ρ : Nat → Option Nat) : CV → CV
 | .l v => .l (v.ren ρ)
 | .agg cs => .agg (cs.map (LV.ren ρ))
def SV.ren (ρ : Nat → Option Nat) : SV → SV
 | .c v => .c (v.ren ρ)
 | .tup vs => .tup (vs.map (CV.ren ρ))
def Blk.ren (ρ : Nat → Option Nat) : Blk → Blk
 | .cells cs => .cells (cs.map (LV.ren ρ))
 | .lp q i m => .lp q i (m.map (svMap (LV.ren ρ)))
 | b => b
def ofList {α : Type} : List (Nat × α) → M α → M α
 | [], m => m
 | (i, v) :: r, m => ofList r (M.set v 14 m i)
def lowR (ρ : Nat → Option Nat) (t : Nat) : Option Nat := bif Nat.blt t 16000 then ρ t else none
def renHp (ρ : Nat → Option Nat) (m : H) : H := m.ren (lowR ρ) (Blk.ren ρ)
def PS.ren (s : PS) (ρ : Nat → Option Nat) : PS := { n := s.n, tmps := s.tmps.map (SV.ren ρ), hp := renHp ρ s.hp, up := mapUp (SV.ren ρ) s.up, pl := s.pl }
def above (t : Nat) : Option Nat := some (t + 1000)
def beneath (t : Nat) : Option Nat := if t < 1000 then none else some (t - 1000)
def enterArgs : Nat → List CV → M SV → M SV
 | _, [], m => m
 | i, v :: vs, m => enterArgs (i + 1) vs (M.set (.c v) 14 m i)
def PS.trim (s : PS) (l : Option (List Nat)) : PS := match l with
 | some ts => bif ts.all (fun t => Nat.blt t 16000) then { n := s.n, tmps := ofList (ts.map fun t => (t, s.get t)) .e, hp := s.hp, up := s.up, pl := s.pl } else s
 | none => s
def PS.push (s : PS) (n : Nat) (vs : List CV) : PS :=
 let t := s.ren above
 { n := n, tmps := enterArgs 0 (vs.map (CV.ren above)) .e, hp := t.hp, up := (t.n, t.tmps) :: t.up, pl := t.pl }
def PS.pop (s : PS) (cs : List CV) : Option (List CV × PS) :=
 match s.up with
 | [] => none
 | (n, m) :: r => some (cs.map (CV.ren beneath), ({ n := n, tmps := m, hp := s.hp, up := r, pl := s.pl } : PS).ren beneath)
def getM (m : M SV) (t : Nat) : SV := match m.get t with
 | some v => v
 | none => undefS
def LV.refs (x : Nat) : LV → Bool
 | .ref t _ _ _ | .full t | .sref t _ _ _ | .cref t _ _ _ | .mref t => Nat.beq t x
 | .cloR _ cs => cs.any (Cap.has x)
 | _ => false
def CV.refs (x : Nat) : CV → Bool
 | .l v => v.refs x
 | .agg cs => cs.any (LV.refs x)
def usedBlk (s : PS) (cs : List CV) (x : Nat) : Bool :=
 cs.any (CV.refs x) || s.hp.list.any fun p => Nat.ble 1000 p.1 && (match p.2 with
  | .cells l => l.any (LV.refs x)
  | _ => false)
def freeHome (s : PS) : Nat → Nat → Option Nat
 | 0, _ => none
 | n + 1, y => if (s.blk y).isFree then some y else freeHome s n (y + 1)
def homes (P : Program) (rs : List ResultVar) (res : PS → List ResultVar → Option (List CV)) : List Nat → PS → PS
 | [], s => s
 | x :: r, s => if usedBlk s ((res s rs).getD []) x then (match freeHome s 100 1900 with
   | some y => homes P rs res r (s.move x y)
   | none => homes P rs res r s) else homes P rs res r s
def insN (t : Nat) (l : List Nat) : List Nat := List.rec (motive := fun _ => List Nat) [t] (fun u r h => Bool.rec (motive := fun _ => List Nat) (u :: h) (t :: u :: r) (Nat.ble t u)) l
def lowKeys (s : PS) : List Nat := List.rec (motive := fun _ => List Nat) [] (fun q _ h => Bool.rec (motive := fun _ => List Nat) h (Bool.rec (motive := fun _ => List Nat) (insN q.1 h) h q.2.isFree) (Nat.blt q.1 1000)) s.hp.list
def ownB : FuncId → Bool := fun g => Nat.beq g 41 || Nat.beq g 49 || Nat.beq g 50
def yldB : List TypeId → Bool := fun _ => false
def barrierCall : Operand → Array TypeId → Bool
 | .func g, _ => ownB g
 | .tmp _, ts => yldB ts.toList
 | _, _ => false
def freshB : FuncId → Bool := fun _ => false
def freshCall : Operand → Bool
 | .func g => freshB g
 | _ => false
def aheadDraw (inl : FuncId → Bool) : List Oper → PS → PS
 | [], s => s
 | o :: r, s => match o.op with
   | .makeFunc (.func f) _ caps => if inl f then aheadDraw inl r s else aheadDraw inl r (aheadFunc s caps.toList)
   | .makeFunc _ _ caps => aheadDraw inl r (aheadFunc s caps.toList)
   | .call { callee := .value (.func g), args, argTypes := ts } => if inl g && !barrierCall (.func g) ts then aheadDraw inl r (aheadFunc s args.toList) else aheadDraw inl r s
   | _ => aheadDraw inl r s
def aheadBig (s : PS) : PS := freezeVars s (bigKeys s s.hp.list)
def calleeOf : LV → Option (FuncId × List CV)
 | .fn g => some (g, [])
 | .clo g s x => some (g, (s.cells x).map .l)
 | _ => none
def Cap.cv : Cap → CV
 | .ref t => .l (.ref t 0 0 0)
 | .dat s x => s.cv x
def calleeAll : LV → Option (FuncId × List CV)
 | .cloR g cs => some (g, cs.map Cap.cv)
 | v => calleeOf v
def deepT (P : Program) (t : TypeId) : Bool :=
 match shapeOf P t with
 | some (.slice e) => !e.flat
 | some s => !s.flat
 | none => true
def deep (P : Program) (g : FuncId) : Bool :=
 match P.funcs[g]? with
 | some fn => fn.resultTypes.toList.any (deepT P)
 | none => false
def aheadOf (P : Program) (frz : FuncId → Bool) (s : PS) (g : FuncId) (args : List CV) : PS := bif anyRef args && (deep P g || frz g) then freezeAll s (fulls args) else s
def aheadSlice (P : Program) (s : PS) (T : TypeId) (x : LV) : PS :=
 match P.underlying T with
 | some (.slice _) => match x with
   | .full t => bif Nat.blt t 16000 then s.freeze t else s
   | _ => s
 | _ => s
def aheadStore (s : PS) (a : LV) (x : CV) : PS :=
 match a with
 | .ref t _ _ _ => match s.blk t with
   | .arr _ _ => freezeAll s (fulls [x])
   | .buf _ _ _ => freezeAll s (fulls [x])
   | _ => s
 | _ => s
def aheadBuild (s : PS) (parts : List (Nat × Operand)) : PS := freezeAll s (fulls (parts.map fun q => evC s q.2))
inductive Ex where
  | normal
  | exit (id : Nat)
  | ret
def optE {β R : Type} (o : Option β) (f : β → R) (g : R) : R := match o with
 | some x => f x
 | none => g
def listE {α R : Type} (l : List α) (f : R) (g : α → List α → R) : R := match l with
 | [] => f
 | y :: ys => g y ys
def sumE {β γ R : Type} (o : β ⊕ γ) (f : β → R) (g : γ → R) : R := match o with
 | .inl x => f x
 | .inr x => g x
inductive Out (α : Type) : Type 1 where
  | no
  | done (x : α)
  | br (b : Bool) (x y : Out α)
  | alt {β : Type} (o : Option β) (f : β → Out α) (g : Out α)
  | sum {β γ : Type} (o : β ⊕ γ) (f : β → Out α) (g : γ → Out α)
def Out.run {α R : Type} : Out α → (α → Option R) → Option R
 | .no, _ => none
 | .done x, k => k x
 | .br b x y, k => bif b then x.run k else y.run k
 | .alt o f g, k => optE o (fun x => (f x).run k) (g.run k)
 | .sum o f g, k => sumE o (fun x => (f x).run k) (fun x => (g x).run k)
structure Mode where
 inl : FuncId → Bool := fun _ => false
 cut : FuncId → Bool := fun _ => false
 frz : FuncId → Bool := fun _ => false
 ext : FuncId → Option (List LV → Option (Bool × SV)) := fun _ => none
 strict : Bool := false
 keep : FuncId → Option (List Nat) := fun _ => none
 mx : Option (FuncId × FuncId × FuncId) := none
structure Know where
 fns : FuncId → List CV → Option (Out RV)
 loops : FuncId → Nat → Option (PS → Out (Ex × PS))
 md : Mode := {}
 loopsR : LpI → Nat → Option (PS → Out (Ex × PS)) := fun _ _ => none
section
variable (P : Program) (R : Type)
structure CallK where
 data : FuncId → List CV → (RV → Option R) → Option R
 own : FuncId → List CV → PS → (List CV → PS → Option R) → Option R
 inl : FuncId → Bool
 frz : FuncId → Bool
 cut : Bool
 ext : FuncId → Option (List LV → Option (Bool × SV))
 inR : Bool := false
 strict : Bool := false
 yld : Nat → List CV → PS → (Bool → PS → Option R) → Option R := fun _ _ _ _ => none
 keep : Option (List Nat) := none
 mx : Option (FuncId × FuncId × FuncId) := none
abbrev Cont := Ex → PS → Option R
def setBool (s : PS) (t : Nat) (b : Bool) : PS := s.put (some t) (.c (.l (.bool b)))
def evCs (s : PS) : List Operand → List CV
 | [] => []
 | x :: r => evC s x :: evCs s r
def callOp (call : CallK R) (s : PS) (o : Oper) (f : Operand) (args : List Operand) (k : PS → Option R) : Option R :=
 match calleeOf (evL s f), o.dst with
  | some (g, caps), some d => if callable P g then (match snapCs s (evCs s args) with
    | some vs => call.data g (vs ++ caps) fun rv =>
       if anyRef (evCs s args) && (!(rv.v.all fun v => !v.behind) || rv.b.behind) then none else
       match takeResult s d rv with
       | some s' => k s'
       | none => none
    | none => none) else none
  | _, _ => none
def aft (frz : FuncId → Bool) (g : FuncId) (s : PS) : PS := bif frz g then aheadBig s else s
def ownOp (call : CallK R) (s : PS) (o : Oper) (f : Operand) (args : List Operand) (k : PS → Option R) : Option R :=
 match calleeAll (evL s f) with
 | some (g, caps) => if callable P g then call.own g (evCs s args ++ caps) (s.trim call.keep) fun cs s' => k (aft call.frz g (s'.put o.dst (mkSV cs))) else none
 | none => none
def extOp (e : List LV → Option (Bool × SV)) (xs : List LV) (k : SV → Option R) : Option R :=
 if xs.all (fun x => match x with | .undef => false | _ => true) then (match e xs with
  | some (c, sv) => bif c then k sv else none
  | none => none) else none
def ownFn (inl : FuncId → Bool) (cs : List CV) : Bool := cs.any fun c => match c with
 | .l (.cloR f _) => inl f
 | _ => false
def runOp (call : CallK R) (s : PS) (o : Oper) (k : PS → Option R) : Option R :=
 match o.op with
 | .pick c a b => match evL s c with
   | .bool q => (bif q then k (s.put o.dst (ev s a)) else k (s.put o.dst (ev s b)))
   | _ => none
 | .call { callee := .value f, args, argTypes := _ } => match calleeAll (evL s f) with
   | some (g, _) => match call.ext g with
     | some e => if (match evL s f with | .fn _ => true | _ => false) then extOp R e (args.toList.map (evL s)) fun sv => k (s.put o.dst sv) else none
     | none => if (call.inl g || ownFn call.inl (evCs s args.toList)) = true then ownOp P R call s o f args.toList k else callOp P R call (aheadOf P call.frz s g (evCs s args.toList)) o f args.toList k
   | none => match evL s f with
     | .mref t => match s.blk t with
       | .lp _ _ _ => call.yld t (evCs s args.toList) (s.trim call.keep) fun b s' => k (s'.put o.dst (.c (.l (.bool b))))
       | _ => none
     | _ => none
 | .makeFunc f first caps => match stepOp P (if (match f with | .func g => call.inl g | _ => false) then s else aheadFunc s caps.toList) { o with op := .makeFunc f first caps } with
   | some (c, s') => bif c then k s' else none
   | none => none
 | .slice T x lo hi m => match stepOp P (if call.cut then s else aheadSlice P s T (evL s x)) { o with op := .slice T x lo hi m } with
   | some (c, s') => bif c then k s' else none
   | none => none
 | .store T a x => match stepOp P (aheadStore s (evL s a) (evC s x)) { o with op := .store T a x } with
   | some (c, s') => bif c then k s' else none
   | none => none
 | .buildSlice T n parts => match stepOp P (bif rowT T then s else aheadBuild s parts.toList) { o with op := .buildSlice T n parts } with
   | some (c, s') => bif c then k s' else none
   | none => none
 | _ => match stepOp P s o with
   | some (c, s') => bif c then k s' else none
   | none => none
def skipped : SV := .tup []
def runOps (call : CallK R) (all : List Oper) : List Oper → PS → (PS → Option R) → Option R
 | [], s, k => k s
 | o :: rest, s, k => match o.guard with
   | none => runOp P R call s o fun s => runOps call all rest s k
   | some (j, want) => match all[j]? with
     | some oj => match oj.dst with
       | some g => match ev s (.tmp g) with
         | .c (.l (.bool b)) =>
           bif b then
            (bif want then runOp P R call (setBool s g true) o fun s => runOps call all rest s k
             else runOps call all rest ((setBool s g true).put o.dst skipped) k)
           else
            (bif want then runOps call all rest ((setBool s g false).put o.dst skipped) k
             else runOp P R call (setBool s g false) o fun s => runOps call all rest s k)
         | .tup [] => runOps call all rest (s.put o.dst skipped) k
         | _ => none
       | none => none
     | none => none
def maxI : List Int → Int
 | [] => 0
 | x :: r => r.foldl max x
def inI64 (n : Int) : Bool := decide (-9223372036854775808 ≤ n) && decide (n ≤ 9223372036854775807)
def mapNums (es : List (Int × Int)) : Bool := decide (0 < es.length) && (decide (es.length ≤ 1000000000) && es.all fun x => inI64 x.1 && inI64 x.2)
def mxOp (P : Program) (mx : Option (FuncId × FuncId × FuncId)) (l : List Oper) (s : PS) : Option (Bool × PS × List Oper) :=
 match mx with
 | none => none
 | some (fa, fb, fc) => match l with
   | o1 :: o2 :: o3 :: rest => match o1.op, o2.op, o3.op with
     | .call { callee := .value (.func a), args := x1, argTypes := _ }, .call { callee := .value (.func b), args := x2, argTypes := _ }, .call { callee := .value (.func c), args := x3, argTypes := _ } =>
       match x1.toList, x2.toList, x3.toList, o1.dst, o2.dst with
       | [m], [.tmp t1], [.tmp t2], some d1, some d2 =>
         if o1.guard = none ∧ o2.guard = none ∧ o3.guard = none ∧ t1 = d1 ∧ t2 = d2 ∧ d1 < s.n ∧ d2 < s.n ∧ a = fa ∧ b = fb ∧ c = fc ∧ callable P a = true ∧ callable P b = true ∧ callable P c = true then
          (match evL s m with
          | .mref t => match s.blk t with
            | .map (.int .i64) (.int .i64) es => some (mapNums es, ((s.put (some d1) (.c (.l .undef))).put (some d2) (.c (.l .undef))).put o3.dst (.c (.l (.int .i64 (maxI (es.map fun x => x.2))))), rest)
            | _ => none
          | _ => none)
         else none
       | _, _, _, _, _ => none
     | _, _, _ => none
   | _ => none
def mxAt (P : Program) (mx : Option (FuncId × FuncId × FuncId)) (l : List Oper) (s : PS) : Option (Bool × PS × List Oper) :=
 match mx with
 | none => none
 | some q => match l with
   | o :: l' => match o.op with
     | .move x => if o.guard = none then mxOp P (some q) l' (s.put o.dst (ev s x)) else none
     | _ => none
   | _ => none
inductive OpKind where
  | pure
  | quiet
  | fresh
  | write
  | barrier
def apFresh : Bool := false
def kindOf : Op → OpKind
 | .move _ | .assign _ | .extract .. | .binOp .. | .unOp .. | .field .. | .build .. | .pick .. | .nilCheck _ | .fieldAddr .. | .index .. | .makeFunc .. => .pure
 | .convert src dst _ => bif cvB src || cvB dst then .barrier else .pure
 | .load .. | .indexAddr .. | .slice .. | .lookup .. => .quiet
 | .call { callee := .value f, args := _, argTypes := ts } => bif barrierCall f ts then .barrier else bif freshCall f then .fresh else .quiet
 | .call { callee := .builtin b, .. } => match b with
   | .len => .quiet
   | .max | .min | .complex | .real | .imag => .pure
   | .copy => .write
   | .append => bif apFresh then .fresh else .barrier
   | _ => .barrier
 | .buildSlice T _ _ => bif rowT T then .barrier else .fresh
 | .alloc _ | .box .. | .makeSlice .. | .makeMap .. => .fresh
 | .store T _ _ => bif rowS T then .barrier else .write
 | _ => .barrier
def tmpsOf : List Operand → List Tmp
 | [] => []
 | .tmp t :: r => t :: tmpsOf r
 | _ :: r => tmpsOf r
def looks (all : List Oper) (o : Oper) : List Tmp :=
 match o.guard with
 | some (j, _) => match all[j]? with
   | some oj => match oj.dst with
     | some g => g :: tmpsOf o.op.operands.toList
     | none => tmpsOf o.op.operands.toList
   | none => tmpsOf o.op.operands.toList
 | none => tmpsOf o.op.operands.toList
def edgeMask (acc : List Nat) : List Edge → Nat
 | [] => 0
 | e :: r => bif Region.binds .any e then (2 ^ e.on ||| acc.getD e.on 0) ||| edgeMask acc r else edgeMask acc r
def masksOf : List Oper → List Nat → List Nat
 | [], acc => acc
 | o :: r, acc => masksOf r (acc ++ [edgeMask acc o.after.toList])
def edgesLow (i : Nat) : List Edge → Bool
 | [] => true
 | e :: r => (!Region.binds .any e || Nat.blt e.on i) && edgesLow i r
def allLow : Nat → List Oper → Bool
 | _, [] => true
 | i, o :: r => edgesLow i o.after.toList && allLow (i + 1) r
def looseK : OpKind → OpKind → Bool
 | .barrier, _ | _, .barrier => false
 | .write, .pure | .pure, .write => true
 | .write, _ | _, .write => false
 | _, _ => true
def isNew : Op → Bool
 | .alloc _ | .box .. => true
 | _ => false
def madeHere (t : Nat) : List Oper → Bool
 | [] => false
 | o :: r => (match o.dst with
   | some d => Nat.beq d t && isNew o.op
   | none => false) || madeHere t r
def dstHere (t : Nat) : List Oper → Bool
 | [] => false
 | o :: r => (match o.dst with
   | some d => Nat.beq d t
   | none => false) || dstHere t r
def noHint (_ : Nat) : Option Nat := none
def isAp (o : Oper) : Bool := match o.op with
 | .call { callee := .builtin .append, .. } => o.guard.isNone && !apFresh
 | _ => false
def growBase (s : PS) (o : Oper) : Option Nat := match o.op with
 | .call { callee := .builtin .append, args, .. } => match args.toList with
   | x :: _ => match evL s x with
     | .full t => some t
     | .sref t _ _ _ => some t
     | _ => none
   | [] => none
 | _ => none
def apPlain (s : PS) (o : Oper) : Bool := match o.op with
 | .call { callee := .builtin .append, args, argTypes } => match args.toList with
   | x :: _ => !(evL s x).isCref && !(argTypes.toList.any rowT)
   | [] => true
 | _ => true
def apBase (P : Program) : List Oper → PS → Option Nat
 | [], _ => none
 | o :: r, s => bif isAp o then growBase s o else match stepOp P s o with
   | some (_, s') => apBase P r s'
   | none => apBase P r s
def hintSrc (P : Program) (ops : List Oper) (s : PS) (t : Nat) : Option Nat := bif Nat.beq t 20000 then apBase P ops s else match s.get t with
 | .c (.l (.ref u _ _ _)) => some u
 | _ => none
def sees (d : Option Tmp) (l : List Tmp) : Bool := match d with
 | some d => l.contains d
 | none => false
def srcHere (t : Nat) : List Oper → Option Nat
 | [] => none
 | o :: r => match o.dst, o.op with
   | some d, .fieldAddr _ (.tmp t') _ | some d, .nilCheck (.tmp t') => bif Nat.beq d t then some t' else srcHere t r
   | _, _ => srcHere t r
def rootT (all : List Oper) : Nat → Nat → Option Nat
 | 0, _ => none
 | f + 1, t => bif dstHere t all then (match srcHere t all with
   | some t' => rootT all f t'
   | none => none) else some t
def hintOf (hsrc : Nat → Option Nat) (all : List Oper) (o : Oper) : Option Nat := match o.op with
 | .store _ (.tmp t) _ => bif madeHere t all then some t else (match rootT all 5 t with
   | some t0 => match hsrc t0 with
     | some u => bif Nat.blt u 16000 then some u else none
     | none => none
   | none => none)
 | _ => none
def narrow (hsrc : Nat → Option Nat) (all : List Oper) (o : Oper) : Option Nat := match o.op with
 | .load _ (.tmp t) => match rootT all 5 t with
   | some t0 => match hsrc t0 with
     | some u => bif o.guard.isNone && (!sees o.dst [t] && Nat.blt u 16000) then some u else none
     | none => none
   | none => none
 | _ => none
def looseP (hsrc : Nat → Option Nat) (all : List Oper) (x y : Oper) : Bool := match kindOf x.op, kindOf y.op with
 | .quiet, .write => (hintOf hsrc all y).isSome || (narrow hsrc all x).isSome
 | .write, .quiet => (hintOf hsrc all x).isSome
 | .quiet, .barrier => (narrow hsrc all x).isSome && isAp y
 | _, _ => false
def loose (hsrc : Nat → Option Nat) (all : List Oper) (x y : Oper) : Bool :=
 !(sees x.dst (looks all y)) && !(sees y.dst (looks all x)) && (looseK (kindOf x.op) (kindOf y.op) || looseP hsrc all x y)
def sameDst (x y : Oper) : Bool := match x.dst, y.dst with
 | some d, some e => d == e
 | _, _ => false
def pairOk (h : Nat) (hsrc : Nat → Option Nat) (all : List Oper) (oj : Oper) (m : Nat) : Nat → List Oper → Bool
 | _, [] => true
 | i, oi :: r => !(sameDst oi oj) && (m.testBit i || (Nat.blt i h || loose hsrc all oi oj)) && pairOk h hsrc all oj m (i + 1) r
def pairsOk (h : Nat) (hsrc : Nat → Option Nat) (all : List Oper) (ms : List Nat) : Nat → List Oper → Bool
 | _, [] => true
 | j, oj :: r => pairOk h hsrc all oj (ms.getD j 0) 0 (all.take j) && pairsOk h hsrc all ms (j + 1) r
def fieldBig (P : Program) (T : TypeId) (f : Nat) : Bool := match P.underlying T with
 | some (.struct fs) => match fs[f]? with
   | some fd => Nat.blt 0 (P.cellsOf fd.type)
   | none => false
 | _ => false
def isFirst (P : Program) (ops : Array Oper) (i : Nat) (o : Oper) : Bool :=
 (match o.op with | .move (.tmp _) => true | .fieldAddr T (.tmp _) f => fieldBig P T f | _ => false) && (o.guard.isNone && (o.after.isEmpty && (Region.free .any ops ((Array.replicate ops.size false).mapIdx fun j _ => Nat.blt j i) i)))
def hoists (P : Program) (ops : Array Oper) : Nat → List Oper → Nat
 | i, [] => i
 | i, o :: r => bif isFirst P ops i o then hoists P ops (i + 1) r else i
def bindL (o : Oper) : List Edge := o.after.toList.filter (Region.binds .any)
def waitsIn (q : List Nat) (o : Oper) : Bool := (bindL o).all fun e => q.contains e.on
def takeQ (f : Oper → Bool) : Nat → List Oper → List Nat → List Nat
 | _, [], q => q
 | i, o :: r, q => bif f o && (!q.contains i && waitsIn q o) then takeQ f (i + 1) r (q ++ [i]) else takeQ f (i + 1) r q
def isMoveT (o : Oper) : Bool := match o.op with | .move (.tmp _) => true | _ => false
def isFieldT (o : Oper) : Bool := match o.op with | .fieldAddr _ (.tmp _) _ => true | _ => false
def isLoadT (o : Oper) : Bool := match o.op with | .load _ (.tmp _) => true | _ => false
def orderQ (ops : List Oper) : List Nat := takeQ (fun _ => true) 0 ops (takeQ isLoadT 0 ops (takeQ isFieldT 0 ops (takeQ isMoveT 0 ops [])))
def posQ (q : List Nat) (i : Nat) : Nat := q.findIdx (Nat.beq i)
def renumO (pos : Nat → Nat) (o : Oper) : Oper := { o with after := ((bindL o).map fun e => { e with on := pos e.on }).toArray }
def sortOps (ops : Array Oper) : Array Oper := match ops[0]? with
 | some o0 => ((orderQ ops.toList).map fun i => renumO (posQ (orderQ ops.toList)) (ops.toList.getD i o0)).toArray
 | none => #[]
def sortsOk (ops : Array Oper) : Bool := Nat.beq (orderQ ops.toList).length ops.size && ((List.range ops.size).all (fun i => match (orderQ ops.toList)[posQ (orderQ ops.toList) i]? with
 | some j => Nat.beq j i
 | none => false) && ((List.range ops.size).all (fun k => match (orderQ ops.toList)[k]? with
 | some i => Nat.blt i ops.size && Nat.beq (posQ (orderQ ops.toList) i) k
 | none => false) && ops.toList.all fun o => o.guard.isNone && (bindL o).all fun e => Nat.blt e.on ops.size))
def dstsBelow (n : Nat) : List Oper → Bool
 | [] => true
 | o :: r => (match o.dst with
   | some d => Nat.blt d n
   | none => true) && dstsBelow n r
def drawOk (h : Nat) (hsrc : Nat → Option Nat) (n : Nat) (ops : List Oper) (ms : List Nat) : Bool := Nat.ble n 16000 && (dstsBelow n ops && (allLow 0 ops && pairsOk h hsrc ops ms 0 ops))
def dropFresh : List Oper → PS → PS
 | [], s => s
 | o :: r, s => match kindOf o.op, o.dst with
   | .fresh, some d => bif Nat.blt d s.n then dropFresh r (s.drop d) else dropFresh r s
   | _, _ => dropFresh r s
def hideFresh (m : Nat) : Nat → List Oper → PS → PS
 | _, [], s => s
 | i, o :: r, s => match kindOf o.op, o.dst with
   | .fresh, some d => bif m.testBit i then hideFresh m (i + 1) r s else hideFresh m (i + 1) r (s.setB d .free)
   | _, _ => hideFresh m (i + 1) r s
def hideHints (hsrc : Nat → Option Nat) (all : List Oper) (ms : List Nat) (j : Nat) : Nat → List Oper → PS → PS
 | _, [], s => s
 | i, o :: r, s => match hintOf hsrc all o with
   | some t => bif (Nat.blt i j && (ms.getD j 0).testBit i) || (Nat.blt j i && (ms.getD i 0).testBit j) then hideHints hsrc all ms j (i + 1) r s else hideHints hsrc all ms j (i + 1) r (s.setB t .free)
   | none => hideHints hsrc all ms j (i + 1) r s
def onlyB (u : Nat) (s : PS) : PS := PS.setB { s with hp := .e } u (s.blk u)
def viewD (hsrc : Nat → Option Nat) (all : List Oper) (ms : List Nat) (j : Nat) (o : Oper) (s : PS) : PS := match kindOf o.op with
 | .quiet => match narrow hsrc all o with
   | some u => onlyB u (hideHints hsrc all ms j 0 all (hideFresh (ms.getD j 0) 0 (all.take j) s))
   | none => hideHints hsrc all ms j 0 all (hideFresh (ms.getD j 0) 0 (all.take j) s)
 | _ => hideFresh (ms.getD j 0) 0 (all.take j) s
def frozenL (b : Blk) : LV → Option LV
 | .full 0 => match b with
   | .buf _ e xs => some (.slice e xs)
   | _ => none
 | v => if v.pure then some v else none
def frozenLs (b : Blk) : List LV → Option (List LV)
 | [] => some []
 | v :: vs => match frozenL b v, frozenLs b vs with
   | some x, some xs => some (x :: xs)
   | _, _ => none
def frozenC (b : Blk) : CV → Option CV
 | .l v => match frozenL b v with
   | some x => some (.l x)
   | none => none
 | .agg cs => match frozenLs b cs with
   | some xs => some (.agg xs)
   | none => none
def frozenCs (b : Blk) : List CV → Option (List CV)
 | [] => some []
 | v :: vs => match frozenC b v, frozenCs b vs with
   | some x, some xs => some (x :: xs)
   | _, _ => none
def frozen (rv : RV) : Option SV :=
 match rv.v with
 | .c v => match frozenC rv.b v with
   | some x => some (.c x)
   | none => none
 | .tup vs => match frozenCs rv.b vs with
   | some xs => some (.tup xs)
   | none => none
def written (m : PS) (o : Oper) : Nat :=
 match o.op with
 | .store _ a _ => match evL m a with
   | .ref t _ _ _ => t
   | .rel _ _ => 16000
   | _ => 0
 | .call { callee := .builtin .copy, args, .. } => match args.toList with
   | x :: _ => match evL m x with
     | .full t => t
     | .sref t _ _ _ => t
     | _ => 0
   | _ => 0
 | _ => 0
def hintBad (hsrc : Nat → Option Nat) (all : List Oper) (m : PS) (o : Oper) : Bool := match hintOf hsrc all o with
 | some t => !Nat.beq (written m o) t
 | none => false
def narBad (hsrc : Nat → Option Nat) (all : List Oper) (m w : Nat) : Nat → List Oper → Bool
 | _, [] => false
 | i, o :: r => (match narrow hsrc all o with
   | some u => !m.testBit i && Nat.beq u w
   | none => false) || narBad hsrc all m w (i + 1) r
def wrBad (hsrc : Nat → Option Nat) (all : List Oper) (ms : List Nat) (j : Nat) (m : PS) (o : Oper) : Bool := match kindOf o.op with
 | .write => narBad hsrc all (ms.getD j 0) (written m o) 0 (all.take j)
 | _ => false
def pendN (hsrc : Nat → Option Nat) (all : List Oper) (m : Nat) : Nat → List Oper → Bool
 | _, [] => false
 | i, o :: r => (match narrow hsrc all o with
   | some _ => !m.testBit i
   | none => false) || pendN hsrc all m (i + 1) r
def LV.offB (t : Nat) : LV → Bool
 | .cloR _ cs => !cs.any (Cap.has t)
 | .ref u _ _ _ | .full u | .sref u _ _ _ | .cref u _ _ _ | .mref u => !Nat.beq u t
 | _ => true
def CV.offB (t : Nat) : CV → Bool
 | .l v => v.offB t
 | .agg cs => cs.all (LV.offB t)
def SV.offB (t : Nat) : SV → Bool
 | .c v => v.offB t
 | .tup vs => vs.all (CV.offB t)
def Blk.offB (t : Nat) : Blk → Bool
 | .cells cs => cs.all (LV.offB t)
 | .lp _ _ _ => false
 | _ => true
def clearO (s : PS) (u σ : Nat) (d : Option Tmp) : Option Nat → Bool
 | none => true
 | some t => Nat.blt t 16000 && (!Nat.beq u t && (!Nat.beq σ t && ((s.blk u).offB t && ((s.get σ).offB t && (match d with
   | some d => (s.get d).offB t
   | none => true)))))
def growsOk (hsrc : Nat → Option Nat) (ms : List Nat) (j u σ : Nat) (d : Option Tmp) (s : PS) : Nat → List Oper → Bool
 | _, [] => true
 | k, o :: r => (bif isAp o then (bif Nat.blt j k && !(ms.getD k 0).testBit j then clearO s u σ d (hsrc 20000) && clearO s u σ d o.dst else true) else true) && growsOk hsrc ms j u σ d s (k + 1) r
def growOk (hsrc : Nat → Option Nat) (all : List Oper) (ms : List Nat) (j : Nat) (o : Oper) (s : PS) : Bool := match narrow hsrc all o, o.op with
 | some u, .load _ (.tmp σ) => growsOk hsrc ms j u σ o.dst s 0 all
 | _, _ => true
def PS.wipe (s : PS) (t : Nat) : PS := { n := s.n, tmps := s.tmps.map (SV.kill t), hp := H.set .free (s.hp.map (Blk.kill t)) t, up := mapUp (SV.kill t) s.up, pl := s.pl }
def growTo (s : PS) (t : Option Nat) (d : Tmp) (b : Blk) : PS := ((match t with
 | some t => s.wipe t
 | none => s).setT d (.c (.l (.full d)))).setB d b
def sameN : Option Nat → Option Nat → Bool
 | none, none => true
 | some a, some b => Nat.beq a b
 | _, _ => false
def wdst (o : Oper) : Option Tmp :=
 match o.op with
 | .store .. => none
 | _ => o.dst
def effect (o : Oper) (m m' s : PS) : PS :=
 match kindOf o.op with
 | .pure | .quiet => match o.dst with
   | some d => s.put (some d) (m'.get d)
   | none => s
 | .fresh => match o.dst with
   | some d => (s.setT d (m'.get d)).setB d (m'.blk d)
   | none => s
 | .write => match wdst o with
   | some d => (s.setB (written m o) (m'.blk (written m o))).put (some d) (m'.get d)
   | none => s.setB (written m o) (m'.blk (written m o))
 | .barrier => m'
def freeAhead (s : PS) : List Oper → Bool
 | [] => true
 | o :: r => (match kindOf o.op, o.dst with
   | .fresh, some d => (s.blk d).isFree
   | _, _ => true) && freeAhead s r
def barOp (call : CallK R) (s : PS) (o : Oper) (f : Operand) (args : List Operand) (k : PS → Option R) : Option R :=
 match calleeAll (evL s f) with
 | some _ => ownOp P R call s o f args k
 | none => match evL s f with
   | .mref t => match s.blk t with
     | .lp _ _ _ => call.yld t (evCs s args) (s.trim call.keep) fun b s' => k (s'.put o.dst (.c (.l (.bool b))))
     | _ => none
   | _ => none
def tauOk (s : PS) : Option Nat → Bool
 | some t => Nat.blt t 16000 && !(s.blk t).isFree
 | none => true
def growOp (τ : Option Nat) (s : PS) (o : Oper) (k : PS → Option R) : Option R := match stepOp P s o, o.dst with
 | some (c, s'), some d => bif (Nat.blt d s.n && ((s.blk d).isFree && (sameN (growBase s o) τ && (tauOk s τ && apPlain s o)))) && c then k (growTo s (growBase s o) d (s'.blk d)) else none
 | _, _ => none
def runOpD (call : CallK R) (pd : Bool) (τ : Option Nat) (m s : PS) (o : Oper) (k : PS → Option R) : Option R :=
 match o.op with
 | .pick c a b => match evL m c with
   | .bool q => (bif q then k (s.put o.dst (ev m a)) else k (s.put o.dst (ev m b)))
   | _ => none
 | .call { callee := .value f, args, argTypes := ts } => bif barrierCall f ts then barOp P R call s o f args.toList (fun s' => bif Nat.beq s'.n s.n then k s' else none) else match calleeOf (evL m f), o.dst with
   | some (g, caps), some d => match call.ext g with
    | some e => if freshCall f then none else if (match evL m f with | .fn _ => true | _ => false) then extOp R e (args.toList.map (evL m)) fun sv => k (s.put (some d) sv) else none
    | none => if callable P g then (match snapCs m (evCs m args.toList) with
     | some vs => call.data g (vs ++ caps) fun rv =>
        if anyRef (evCs m args.toList) && (!(rv.v.all fun v => !v.behind) || rv.b.behind) then none else
        bif freshCall f then (match rv.b with
        | .buf T e xs => bif Nat.blt d s.n then k ((s.setT d (relocS d rv.v)).setB d (.buf T e xs)) else none
        | _ => none) else
        match frozen rv with
        | some x => k (s.put (some d) x)
        | none => none
     | none => none) else none
   | _, _ => none
 | .buildSlice T 0 parts => bif rowT T then none else match P.underlying T, parts.toList, o.dst with
   | some (.slice E), [], some d => match P.info? E with
     | some _ => k (s.put (some d) (.c (.l .zslice)))
     | none => none
   | _, _, _ => none
 | .call { callee := .builtin .append, args, argTypes } => bif !apFresh then (bif pd then growOp P R τ s o k else match stepOp P s o with
   | some (c, s') => bif Nat.beq s'.n s.n && c then k s' else none
   | none => none) else match args.toList, argTypes.toList, o.dst with
   | [x, y], [T, U], some d => match evL m x, P.underlying T with
     | .zslice, some (.slice E) => match shapeOf P E, zeroOf P E, srcOf m (evL m y) with
       | some e, some z, some ⟨e', ys⟩ => if h : e' = e then
          (if T = U ∧ d < s.n ∧ e.size = P.cellsOf E ∧ 0 < e.size ∧ z.cells.length = e.size then
            listE (h ▸ ys : List e.T) (k (s.put (some d) (.c (.l .zslice))))
             fun y ys => bif roomFor P E (ys.length + 1) then k ((s.setT d (.c (.l (.full d)))).setB d (.buf E e (y :: ys))) else none
          else none) else none
       | _, _, _ => none
     | _, _ => none
   | _, _, _ => none
 | _ => match kindOf o.op with
   | .barrier => match stepOp P s o with
     | some (c, s') => bif Nat.beq s'.n s.n && c then k s' else none
     | none => none
   | .write => match stepOp P m o with
     | some (c, m') => bif Nat.blt (written m o) 16000 && c then k (effect o m m' s) else none
     | none => none
   | _ => match stepOp P m o with
     | some (c, m') => bif c then k (effect o m m' s) else none
     | none => none
def runOpV (call : CallK R) (hsrc : Nat → Option Nat) (all : List Oper) (ms : List Nat) (j : Nat) (s : PS) (o : Oper) (k : PS → Option R) : Option R :=
 bif hintBad hsrc all (viewD hsrc all ms j o s) o || wrBad hsrc all ms j (viewD hsrc all ms j o s) o then none
 else runOpD P R call (isAp o && pendN hsrc all (ms.getD j 0) 0 (all.take j)) (hsrc 20000) (viewD hsrc all ms j o s) s o fun s' => bif growOk hsrc all ms j o s' then k s' else none
def runDraw (call : CallK R) (hsrc : Nat → Option Nat) (all : List Oper) (ms : List Nat) : Nat → List Oper → PS → (PS → Option R) → Option R
 | _, [], s, k => k s
 | i, o :: rest, s, k => bif !freeAhead s (o :: rest) then none else match o.guard with
   | none => runOpV P R call hsrc all ms i s o fun s => runDraw call hsrc all ms (i + 1) rest s k
   | some (j, want) => match all[j]? with
     | some oj => match oj.dst with
       | some g => match ev s (.tmp g) with
         | .c (.l (.bool b)) =>
           bif b then
            (bif want then runOpV P R call hsrc all ms i (setBool s g true) o fun s => runDraw call hsrc all ms (i + 1) rest s k
             else runDraw call hsrc all ms (i + 1) rest ((setBool s g true).put o.dst skipped) k)
           else
            (bif want then runDraw call hsrc all ms (i + 1) rest ((setBool s g false).put o.dst skipped) k
             else runOpV P R call hsrc all ms i (setBool s g false) o fun s => runDraw call hsrc all ms (i + 1) rest s k)
         | .tup [] => runDraw call hsrc all ms (i + 1) rest (s.put o.dst skipped) k
         | _ => none
       | none => none
     | none => none
end
def natF {R : Type} (n : Nat) (k : Nat → R) : R := match n with
 | 0 => k 0
 | m + 1 => k (m + 1)
def intF {R : Type} (st : Bool) (n : Int) (k : Int → R) : R := bif st then (match n with
 | .ofNat m => natF m fun m => k (.ofNat m)
 | .negSucc m => natF m fun m => k (.negSucc m)) else k n
def listF {α R : Type} (f : α → (α → R) → R) (l : List α) : (List α → R) → R :=
 List.rec (motive := fun _ => (List α → R) → R) (fun k => k []) (fun x _ h k => f x fun x => h fun l => k (x :: l)) l
def dataF {R : Type} (st : Bool) : (s : Sh) → s.T → (s.T → R) → R
 | .int _, n, k => intF st n k
 | .bool, b, k => bif st then (match b with
   | true => k true
   | false => k false) else k b
 | .pair a b, x, k => bif st then dataF st a x.1 fun y => dataF st b x.2 fun z => k (y, z) else k x
 | .agg s, x, k => dataF st s x k
 | _, x, k => k x
def capF {R : Type} (c : Cap) (k : Cap → R) : R := match c with
 | .ref t => k (.ref t)
 | .dat s x => k (.dat s x)
def LV.force {R : Type} (st : Bool) (v : LV) (k : LV → R) : R := match v with
 | .undef => k .undef
 | .int a n => intF st n fun n => k (.int a n)
 | .bool b => dataF st .bool b fun b => k (.bool b)
 | .str s => k (.str s)
 | .ifc b => dataF st .bool b fun b => k (.ifc b)
 | .zf n => k (.zf n)
 | .zc a b => k (.zc a b)
 | .slice e xs => bif st then listF (dataF st e) xs fun xs => k (.slice e xs) else k (.slice e xs)
 | .nilslice => k .nilslice
 | .zslice => k .zslice
 | .fn f => k (.fn f)
 | .nilfn => k .nilfn
 | .iptr s x o => dataF st s x fun x => k (.iptr s x o)
 | .nilptr => k .nilptr
 | .imap a b es => k (.imap a b es)
 | .optr s x => k (.optr s x)
 | .clo f s x => k (.clo f s x)
 | .cloR f cs => listF capF cs fun cs => k (.cloR f cs)
 | .ref t sz i o => bif st then natF i fun i => k (.ref t sz i o) else k (.ref t sz i o)
 | .full t => k (.full t)
 | .sref t sz off len => bif st then natF off fun off => natF len fun len => k (.sref t sz off len) else k (.sref t sz off len)
 | .cref t o len e => k (.cref t o len e)
 | .row j => bif st then natF j fun j => k (.row j) else k (.row j)
 | .rel j i => bif st then natF j fun j => natF i fun i => k (.rel j i) else k (.rel j i)
 | .mref t => k (.mref t)
def CV.force {R : Type} (st : Bool) (v : CV) (k : CV → R) : R := match v with
 | .l v => v.force st fun v => k (.l v)
 | .agg cs => listF (LV.force st) cs fun cs => k (.agg cs)
def SV.force {R : Type} (st : Bool) (v : SV) (k : SV → R) : R := match v with
 | .c v => v.force st fun v => k (.c v)
 | .tup vs => listF (CV.force st) vs fun vs => k (.tup vs)
def M.force {α R : Type} (f : α → (α → R) → R) (m : M α) : (M α → R) → R :=
 M.rec (motive := fun _ => (M α → R) → R) (fun k => k .e) (fun v _ _ hl hr k => Option.rec (motive := fun _ => R) (hl fun l => hr fun r => k (.n none l r)) (fun x => f x fun x => hl fun l => hr fun r => k (.n (some x) l r)) v) m
def Blk.force {R : Type} (st : Bool) (b : Blk) (k : Blk → R) : R := match b with
 | .free => k .free
 | .cells cs => listF (LV.force st) cs fun cs => k (.cells cs)
 | .arr e xs => bif st then listF (dataF st e) xs fun xs => k (.arr e xs) else k (.arr e xs)
 | .buf T e xs => bif st then listF (dataF st e) xs fun xs => k (.buf T e xs) else k (.buf T e xs)
 | .map a b es => k (.map a b es)
 | .lp q i m => M.force (SV.force st) m fun m => k (.lp q i m)
 | .rowb T xs => k (.rowb T xs)
 | .ids T l => k (.ids T l)
def H.force {R : Type} (st : Bool) (m : H) : (H → R) → R :=
 List.rec (motive := fun _ => (List (Nat × Blk) → R) → R) (fun k => k []) (fun q _ h k => natF q.1 fun t => q.2.force st fun b => h fun l => k ((t, b) :: l)) m
def PS.force {R : Type} (st : Bool) (s : PS) (k : PS → R) : R :=
 M.force (SV.force st) s.tmps fun tmps => H.force st s.hp fun hp => listF (fun x k => M.force (SV.force st) x.2 fun m => k (x.1, m)) s.up fun up => k { n := s.n, tmps := tmps, hp := hp, up := up, pl := s.pl }
def PS.forceTop {R : Type} (st : Bool) (s : PS) (k : PS → R) : R :=
 M.force (SV.force st) s.tmps fun tmps => H.force st s.hp fun hp => k { n := s.n, tmps := tmps, hp := hp, up := s.up, pl := s.pl }
theorem natF_eq {R : Type} {n : Nat} {k : Nat → R} : natF n k = k n := by cases n <;> rfl
theorem intF_eq {R : Type} {st : Bool} {n : Int} {k : Int → R} : intF st n k = k n := by
 cases st
 ·rfl
 ·cases n <;> simp [intF, natF_eq]
theorem listF_eq {α R : Type} {f : α → (α → R) → R} (hf : ∀ x k, f x k = k x) : ∀ {l : List α} {k : List α → R}, listF f l k = k l
 | [], _ => rfl
 | x :: l, k => by
   show f x (fun x => listF f l fun l => k (x :: l)) = _
   rw [hf, listF_eq hf]
theorem dataF_eq {R : Type} {st : Bool} : ∀ {s : Sh} {x : s.T} {k : s.T → R}, dataF st s x k = k x
 | .int _, n, k => intF_eq
 | .bool, b, k => by cases st <;> cases b <;> rfl
 | .pair a b, x, k => by
   cases st
   ·rfl
   ·show dataF true a x.1 (fun y => dataF true b x.2 fun z => k (y, z)) = k x
    rw [dataF_eq, dataF_eq]
 | .agg s, x, k => dataF_eq (s := s)
 | .str, _, _ | .err, _, _ | .zf, _, _ | .zc, _, _ | .slice _, _, _ | .map _ _, _, _ | .unit, _, _ | .ptr _, _, _ | .optr _, _, _ | .clo _ _, _, _ => rfl
theorem capF_eq {R : Type} (c : Cap) (k : Cap → R) : capF c k = k c := by cases c <;> rfl
theorem LV.force_eq {R : Type} {st : Bool} (v : LV) (k : LV → R) : v.force st k = k v := by
 cases v <;> simp only [LV.force, intF_eq, dataF_eq, listF_eq capF_eq, listF_eq fun _ _ => dataF_eq, natF_eq] <;> cases st <;> rfl
theorem CV.force_eq {R : Type} {st : Bool} (v : CV) (k : CV → R) : v.force st k = k v := by
 cases v <;> simp only [CV.force, LV.force_eq, listF_eq LV.force_eq]
theorem SV.force_eq {R : Type} {st : Bool} (v : SV) (k : SV → R) : v.force st k = k v := by
 cases v <;> simp only [SV.force, CV.force_eq, listF_eq CV.force_eq]
theorem M.force_eq {α R : Type} {f : α → (α → R) → R} (hf : ∀ x k, f x k = k x) : ∀ (m : M α) (k : M α → R), M.force f m k = k m
 | .e, k => rfl
 | .n none l r, k => by
   show M.force f l (fun l => M.force f r fun r => k (.n none l r)) = _
   rw [M.force_eq hf l, M.force_eq hf r]
 | .n (some x) l r, k => by
   show f x (fun x => M.force f l fun l => M.force f r fun r => k (.n (some x) l r)) = _
   rw [hf, M.force_eq hf l, M.force_eq hf r]
theorem Blk.force_eq {R : Type} {st : Bool} (b : Blk) (k : Blk → R) : b.force st k = k b := by
 cases b <;> simp only [Blk.force, listF_eq LV.force_eq, listF_eq fun _ _ => dataF_eq, M.force_eq SV.force_eq] <;> cases st <;> rfl
theorem H.force_eq {R : Type} {st : Bool} : ∀ (m : H) (k : H → R), m.force st k = k m
 | [], _ => rfl
 | (t, b) :: m, k => by
   show natF t (fun t => b.force st fun b => H.force st m fun l => k ((t, b) :: l)) = _
   rw [natF_eq, Blk.force_eq, H.force_eq m]
theorem PS.force_eq {R : Type} {st : Bool} (s : PS) (k : PS → R) : s.force st k = k s := by
 unfold PS.force
 rw [M.force_eq SV.force_eq, H.force_eq, listF_eq fun x k => by rw [M.force_eq SV.force_eq]]
theorem PS.forceTop_eq {R : Type} {st : Bool} (s : PS) (k : PS → R) : s.forceTop st k = k s := by
 unfold PS.forceTop
 rw [M.force_eq SV.force_eq, H.force_eq]
def lpAt (s : PS) : SV → Option (Nat × LpSt × LpI × M SV)
 | .c (.l (.mref T)) => match s.blk T with
   | .lp q i m => some (T, q, i, m)
   | _ => none
 | _ => none
def PS.enterLp (s : PS) (K : Nat) (i : LpI) : PS :=
 { n := s.n + 1, tmps := M.set (.c (.l (.mref K))) 14 s.tmps s.n, hp := H.set (.lp .ready i s.tmps) s.hp K, up := s.up, pl := s.pl }
def PS.leaveLp (s : PS) (n : Nat) : Option (Ex × PS) := match lpAt s (s.get n) with
 | some (T, q, i, m) => match q with
   | .ready => some (.normal, { (s.setB T (.lp .gone i m)).drop T with n := n })
   | .done none => some (.ret, { (s.setB T (.lp .gone i m)).drop T with n := n })
   | .done (some id) => some (.exit id, { (s.setB T (.lp .gone i m)).drop T with n := n })
   | _ => none
 | none => none
def setParams : List Tmp → List CV → M SV → M SV
 | p :: ps, v :: vs, m => setParams ps vs (M.set (.c v) 14 m p)
 | _, _, m => m
def keysLow (s : PS) : Bool := s.hp.list.all fun p => Nat.blt p.1 15000
def PS.pushRound (s : PS) (t : Nat) (vs : List CV) : Option (LpI × PS) :=
 match (s.ren above).blk (t + 1000) with
 | .lp .ready i m =>
   if vs.length = i.params.size ∧ i.n ≤ 900 ∧ s.n < 16000 ∧ i.params.toList.all (fun p => Nat.blt p i.n) = true ∧ keysLow s = true then
    some (i, { n := i.n, tmps := setParams i.params.toList (vs.map (CV.ren above)) m, hp := (s.ren above).hp, up := (s.n + 1, M.set (.c (.l (.mref (t + 1000)))) 14 (s.ren above).tmps s.n) :: (s.ren above).up, pl := s.pl })
   else none
 | _ => none
def PS.beginR (s : PS) : Option PS := match s.up with
 | x :: _ => match lpAt s (getM x.2 (x.1 - 1)) with
   | some (T, .ready, i, m) => some (s.setB T (.lp .busy i m))
   | _ => none
 | [] => none
def Ex.lp : Ex → LpSt
 | .normal => .ready
 | .ret => .done none
 | .exit id => .done (some id)
def Ex.isNormal : Ex → Bool
 | .normal => true
 | _ => false
def PS.endR (P : Program) (ex : Ex) (s : PS) : Option (Bool × PS) :=
 let s1 := homes P [] (fun _ _ => some []) (lowKeys s) s
 let s2 := homes P [] (fun _ _ => some []) (lowKeys s1) s1
 match s2.up with
 | x :: r => match lpAt s2 (getM x.2 (x.1 - 1)) with
   | some (T, .busy, i, m) => some (ex.isNormal, ({ n := x.1 - 1, tmps := x.2, hp := (s2.setB T (.lp ex.lp i m)).hp, up := r, pl := s2.pl } : PS).ren beneath)
   | _ => none
 | [] => none
section
variable (P : Program) (R : Type)
def rounds (body : PS → Cont R → Option R) : Nat → PS → Cont R → Option R
 | 0, _, _ => none
 | n + 1, s, k => body s fun ex s' => match ex with
   | .normal => rounds body n s' k
   | e => k e s'
def rangeAt (call : CallK R) (f : FuncId) (caps : List CV) (ps : Array Tmp) (assign body : Code) (s : PS) (k : Cont R) : Option R := match freeHome s 100 1900 with
 | some K => if callable P f = true ∧ s.n < 16000 then
    call.own f (.l (.mref K) :: caps) (s.enterLp K ⟨s.n, ps, assign, body, call.cut⟩) fun _ s' => match s'.leaveLp s.n with
     | some (ex, s'') => k ex s''
     | none => none
   else none
 | none => none
def rangeOp (call : CallK R) (g : Operand) (ps : Array Tmp) (assign body : Code) (s : PS) (k : Cont R) : Option R := match calleeAll (evL s g) with
 | some (f, caps) => rangeAt P R call f caps ps assign body (s.trim call.keep) k
 | none => none
def exec (call : CallK R) (loops : Nat → Option (PS → Out (Ex × PS))) (U : Nat) : Nat → Code → PS → Cont R → Option R
 | _, .skip, s, k => k .normal s
 | _, .region _ ops draw, s, k =>
   if draw then
    (let ms := masksOf ops.toList []
     let s := aheadDraw call.inl ops.toList s
     if drawOk 0 noHint s.n ops.toList ms = true then runDraw P R call noHint ops.toList ms 0 ops.toList (dropFresh ops.toList s) fun s => k .normal s
     else if drawOk 0 (hintSrc P ops.toList s) s.n ops.toList ms = true then runDraw P R call (hintSrc P ops.toList s) ops.toList ms 0 ops.toList (dropFresh ops.toList s) fun s => k .normal s
     else if call.inR = false ∧ Region.noSelect ops = true ∧ drawOk (hoists P ops 0 ops.toList) (hintSrc P ops.toList s) s.n ops.toList ms = true then runDraw P R call (hintSrc P ops.toList s) ops.toList ms 0 ops.toList (dropFresh ops.toList s) fun s => k .normal s
     else if call.inR = false ∧ sortsOk ops = true ∧ Region.noSelect (sortOps ops) = true ∧ drawOk (hoists P (sortOps ops) 0 (sortOps ops).toList) (hintSrc P (sortOps ops).toList s) s.n (sortOps ops).toList (masksOf (sortOps ops).toList []) = true then runDraw P R call (hintSrc P (sortOps ops).toList s) (sortOps ops).toList (masksOf (sortOps ops).toList []) 0 (sortOps ops).toList (dropFresh (sortOps ops).toList s) fun s => k .normal s else none)
   else (match mxAt P call.mx ops.toList s with
    | some (g, s', rest) => bif g then runOps P R call ops.toList rest s' (fun s => k .normal s) else none
    | none => runOps P R call ops.toList ops.toList s fun s => k .normal s)
 | b, .seq x y, s, k => exec call loops U b x s fun ex s' => match ex with
   | .normal => exec call loops U b y s' k
   | e => k e s'
 | b, .cond c x y, s, k => match c with
   | .tmp t => match ev s (.tmp t) with
     | .c (.l (.bool q)) => bif q then exec call loops U b x (setBool s t true) k else exec call loops U b y (setBool s t false) k
     | _ => none
   | .const (.bool q) => bif q then exec call loops U b x s k else exec call loops U b y s k
   | _ => none
 | _, .block id x, s, k => exec call loops U id x s fun ex s' => match ex with
   | .exit id' => if id' = id then k .normal s' else k (.exit id') s'
   | e => k e s'
 | b, .loop x, s, k => match loops b with
   | some f => (f s).run fun r => k r.1 r.2
   | none => rounds R (fun s k => s.forceTop call.strict fun s => exec call loops U b x s k) U s k
 | _, .rangeFunc g ps assign body, s, k => bif call.inR then none else rangeOp P R call g ps assign body (aheadBig s) k
 | _, .exit id, s, k => k (.exit id) s
 | _, .label _, s, k => k .normal s
 | b, .scope x, s, k => exec call loops U b x s k
 | _, .ret, s, k => k .ret s
 | _, _, _, _ => none
end
def resultVar (P : Program) (s : PS) : ResultVar → Option CV
 | .tmp t => match ev s (.tmp t) with
   | .c v => some v
   | _ => none
 | .cell a T => match ev s (.tmp a) with
   | .c (.l (.ref t sz i off)) => match s.blk t with
     | .cells cs => partOf P T cs off
     | .arr e xs => if sz = 0 ∧ i = 0 ∧ off = 0 ∧ isAggT P T = true ∧ (P.underlying T).isSome = true ∧ xs.length * e.size = P.cellsOf T then some (.agg (xs.flatMap e.cells)) else none
     | _ => none
   | _ => none
def resultVars (P : Program) (s : PS) : List ResultVar → Option (List CV)
 | [] => some []
 | r :: rs => match resultVar P s r, resultVars P s rs with
   | some v, some vs => some (v :: vs)
   | _, _ => none
def ownOf (s : PS) : List CV → Option Nat
 | [] => none
 | .l (.full t) :: _ => match s.blk t with
   | .buf _ _ _ => some t
   | _ => none
 | _ :: r => ownOf s r
def relocOwn (s : PS) (t : Nat) : List CV → Option (List CV)
 | [] => some []
 | .l (.full u) :: r => if u = t then
    (match snapCs s r with
    | some l => if l.all (fun v => v.all fun x => !x.behind) then some (.l (.full 0) :: l) else none
    | none => none)
   else none
 | v :: r => if v.all (fun x => x.pure && !x.behind) then (match relocOwn s t r with
    | some l => some (v :: l)
    | none => none) else none
def resultOf (P : Program) (s : PS) (rs : List ResultVar) : Option RV :=
 match resultVars P s rs with
 | none => none
 | some vs =>
   let plain : Option RV := match snapCs s vs with
    | some l => some ⟨mkSV l, .free⟩
    | none => none
   match ownOf s vs with
   | some t => match relocOwn s t vs with
     | some l => some ⟨mkSV l, s.blk t⟩
     | none => plain
   | none => plain
def enter (fn : Func) (args : List CV) : PS := { n := fn.ntmps, tmps := enterArgs 0 args .e, hp := .e }
def ownEnd (P : Program) (rs : List ResultVar) (s : PS) : Option (List CV × PS) :=
 let s1 := homes P rs (resultVars P) (lowKeys s) s
 let s2 := homes P rs (resultVars P) (lowKeys s1) s1
 match resultVars P s2 rs with
 | some cs => s2.pop cs
 | none => none
def evalC (P : Program) (R : Type) (K : Know) (U : Nat) : Nat → CallK R
 | 0 => { data := fun f args k => match K.fns f args with
           | some g => g.run k
           | none => none,
          own := fun _ _ _ _ => none, inl := K.md.inl, frz := K.md.frz, cut := false, ext := K.md.ext, strict := K.md.strict, mx := K.md.mx }
 | n + 1 => { data := fun f args k => match K.fns f args with
               | some g => g.run k
               | none => match P.funcs[f]? with
                 | some fn => match fn.body with
                   | some c => if args.length ≤ fn.ntmps ∧ fn.ntmps ≤ 16000 then
                      exec P R { evalC P R K U n with cut := K.md.cut f, keep := K.md.keep f } (K.loops f) U 0 c (enter fn args) fun ex s => match ex with
                       | .exit _ => none
                       | _ => match resultOf P s fn.results.toList with
                         | some rv => k rv
                         | none => none
                     else none
                   | none => none
                 | none => none,
              own := fun f args s k => match P.funcs[f]? with
               | some fn => match fn.body with
                 | some c => if args.length ≤ fn.ntmps ∧ fn.ntmps ≤ 900 ∧ keysLow s = true then
                    (s.push fn.ntmps args).force K.md.strict fun s1 => exec P R { evalC P R K U n with cut := K.md.cut f, keep := K.md.keep f } (K.loops f) U 0 c s1 fun ex s => match ex with
                      | .exit _ => none
                      | _ => match ownEnd P fn.results.toList s with
                        | some (cs, s') => s'.force K.md.strict fun s' => k cs s'
                        | none => none
                   else none
                 | none => none
               | none => none,
              inl := K.md.inl, frz := K.md.frz, cut := false, ext := K.md.ext, strict := K.md.strict, mx := K.md.mx,
              yld := fun t vs s k => match s.pushRound t vs with
               | some (i, s1) => s1.force K.md.strict fun s1 => exec P R { evalC P R K U n with cut := i.cut, inR := true } (fun _ => none) U 0 i.assign s1 fun ex s2 => match ex with
                 | .normal => match s2.beginR with
                   | some s3 => exec P R { evalC P R K U n with cut := i.cut, inR := true } (K.loopsR i) U 0 i.body s3 fun ex s4 => match s4.endR P ex with
                     | some (b, s5) => s5.force K.md.strict fun s5 => k b s5
                     | none => none
                   | none => none
                 | _ => none
               | none => none }
def evalK (P : Program) (R : Type) (K : Know) (U : Nat) (n : Nat) (f : FuncId) (args : List CV) (k : RV → Option R) : Option R := (evalC P R K U n).data f args k
def PS.of (n : Nat) (slots : List (Nat × SV)) (blks : List (Nat × Blk)) : PS := ⟨n, ofList slots .e, H.of blks, [], none⟩
def LV.keep (bs : List Nat) : LV → LV
 | .cloR f cs => if cs.all (fun c => match c with | .ref t => bs.contains t | .dat _ _ => true) then .cloR f cs else .undef
 | .ref u sz i o => if bs.contains u then .ref u sz i o else .undef
 | .full u => if bs.contains u then .full u else .undef
 | .sref u sz a b => if bs.contains u then .sref u sz a b else .undef
 | .cref u o n e => if bs.contains u then .cref u o n e else .undef
 | .mref u => if bs.contains u then .mref u else .undef
 | v => v
def CV.keep (bs : List Nat) : CV → CV
 | .l v => .l (v.keep bs)
 | .agg cs => .agg (cs.map (LV.keep bs))
def SV.keep (bs : List Nat) : SV → SV
 | .c v => .c (v.keep bs)
 | .tup vs => .tup (vs.map (CV.keep bs))
def Blk.keep (bs : List Nat) : Blk → Blk
 | .cells cs => .cells (cs.map (LV.keep bs))
 | .lp q i m => .lp q i (m.map (svMap (LV.keep bs)))
 | b => b
end Go.Ev
namespace Go.Ev
open Go.RowKit
def sgn (neg : Bool) (mag : Nat) : Int := if neg then -(mag : Int) else (mag : Int)
def Val (d : Ieee.Datum) (n : Int) : Prop :=
 ∃ (neg : Bool) (mag : Nat) (place : Int), d = .number neg mag place ∧ ∀ K : Nat, 0 ≤ place + K → sgn neg mag * 2 ^ (place + K).toNat = n * 2 ^ K
def IsF (b : Nat) (n : Int) : Prop := Val (FloatKind.f32.decode b) n ∧ -16777216 < n ∧ n < 16777216
def Rows' {α : Type} (size : Nat) (R : α → List Value → Prop) (xs : List α) (us : List Value) : Prop :=
 us.length = xs.length * size ∧ ∀ i x, xs[i]? = some x → R x ((us.drop (i * size)).take size)
def IsErr : Bool → Value → Prop
 | false, v => v = .nilIface
 | true, v => ∃ t x, v = .iface t x
theorem IsErr.oneCell : ∀ {b : Bool} {v : Value}, IsErr b v → v.oneCell' = true
 | false, _, h => by obtain rfl := h; rfl
 | true, _, h => by obtain ⟨_, _, rfl⟩ := h; rfl
def VOf (isAgg : Bool) (us : List Value) (v : Value) : Prop := if isAgg then v = .agg us.toArray else us = [v]
def RepT (w : World) (p : Nat → Prop) : (s : Sh) → s.T → List Value → Prop
 | .int k, n, vs => vs = [.int k n]
 | .bool, b, vs => vs = [.bool b]
 | .str, s, vs => vs = [.string s]
 | .zf, n, vs => ∃ b, vs = [.float .f32 b] ∧ IsF b n
 | .zc, z, vs => ∃ a b, vs = [.complex .f32 a b] ∧ IsF a z.1 ∧ IsF b z.2
 | .slice e, xs, vs => ∃ a cap, vs = [.slice a xs.length cap] ∧ (xs.length ≤ cap ∧ (a = none → cap = 0)) ∧
    (xs = [] ∨ ∃ b o, a = some ⟨b, o, none⟩ ∧ p b ∧ ∀ (i : Nat) (x : e.T), xs[i]? = some x → ∃ us, RepT w p e x us ∧ us.length = e.size ∧ ∀ j, j < e.size → w.cell? ⟨b, o + i * e.size + j, none⟩ = us[j]?)
 | .map k v, es, vs => ∃ r, vs = [.map r] ∧ ((r = none ∧ es = []) ∨ ∃ b ms clock, r = some b ∧ p b ∧ w.heap[b]? = some (.map ms clock) ∧ ms.size = es.length ∧
    ∀ (i : Nat) (x : k.T × v.T) (m : MapEntry), es[i]? = some x → ms[i]? = some m → (∃ us, RepT w p k x.1 us ∧ us.length = k.size ∧ VOf k.isAgg us m.key) ∧ (∃ us, RepT w p v x.2 us ∧ us.length = v.size ∧ VOf v.isAgg us m.val))
 | .pair a b, x, vs => ∃ us ts, vs = us ++ ts ∧ RepT w p a x.1 us ∧ RepT w p b x.2 ts
 | .agg s, x, vs => RepT w p s x vs
 | .unit, _, vs => vs = []
 | .ptr s, x, vs => ∃ b q us, vs = [.pointer (some ⟨b, q, none⟩)] ∧ p b ∧ RepT w p s x us ∧ ∀ j, j < us.length → w.cell? ⟨b, q + j, none⟩ = us[j]?
 | .optr s, x, vs => (vs = [.pointer none] ∧ x = none) ∨ ∃ b q us y, vs = [.pointer (some ⟨b, q, none⟩)] ∧ x = some y ∧ p b ∧ RepT w p s y us ∧ ∀ j, j < us.length → w.cell? ⟨b, q + j, none⟩ = us[j]?
 | .clo f s, x, vs => ∃ cv, vs = [.func (.func f) #[] cv] ∧ RepT w p s x cv.toList
 | .err, b, vs => ∃ v, vs = [v] ∧ IsErr b v
theorem RepT.length {w : World} {p : Nat → Prop} : ∀ {s : Sh} {x : s.T} {vs : List Value}, RepT w p s x vs → vs.length = s.size
 | .int _, _, _, h => by simp only [RepT] at h; simp [h, Sh.size]
 | .bool, _, _, h => by simp only [RepT] at h; simp [h, Sh.size]
 | .str, _, _, h => by simp only [RepT] at h; simp [h, Sh.size]
 | .zf, _, _, h => by simp only [RepT] at h; obtain ⟨b, rfl, _⟩ := h; rfl
 | .zc, _, _, h => by simp only [RepT] at h; obtain ⟨a, b, rfl, _⟩ := h; rfl
 | .slice _, _, _, h => by simp only [RepT] at h; obtain ⟨a, c, rfl, _⟩ := h; rfl
 | .map _ _, _, _, h => by simp only [RepT] at h; obtain ⟨r, rfl, _⟩ := h; rfl
 | .pair a b, x, vs, h => by
   simp only [RepT] at h
   obtain ⟨us, ts, rfl, h1, h2⟩ := h
   simp [Sh.size, RepT.length h1, RepT.length h2]
 | .agg s, x, vs, h => by simp only [RepT] at h; simp only [Sh.size]; exact RepT.length h
 | .unit, _, _, h => by simp only [RepT] at h; simp [h, Sh.size]
 | .ptr _, _, _, h => by simp only [RepT] at h; obtain ⟨b, q, us, rfl, _⟩ := h; rfl
 | .optr _, _, _, h => by simp only [RepT] at h; rcases h with ⟨rfl, _⟩ | ⟨b, q, us, y, rfl, _⟩ <;> rfl
 | .clo _ _, _, _, h => by simp only [RepT] at h; obtain ⟨cv, rfl, _⟩ := h; rfl
 | .err, _, _, h => by simp only [RepT] at h; obtain ⟨v, rfl, _⟩ := h; rfl
theorem RepT.oneCell {w : World} {p : Nat → Prop} : ∀ {s : Sh} {x : s.T} {vs : List Value}, RepT w p s x vs → ∀ v ∈ vs, v.oneCell' = true
 | .int _, _, _, h => by simp only [RepT] at h; simp [h, Value.oneCell']
 | .bool, _, _, h => by simp only [RepT] at h; simp [h, Value.oneCell']
 | .str, _, _, h => by simp only [RepT] at h; simp [h, Value.oneCell']
 | .zf, _, _, h => by simp only [RepT] at h; obtain ⟨b, rfl, _⟩ := h; simp [Value.oneCell']
 | .zc, _, _, h => by simp only [RepT] at h; obtain ⟨a, b, rfl, _⟩ := h; simp [Value.oneCell']
 | .slice _, _, _, h => by simp only [RepT] at h; obtain ⟨a, c, rfl, _⟩ := h; simp [Value.oneCell']
 | .map _ _, _, _, h => by simp only [RepT] at h; obtain ⟨r, rfl, _⟩ := h; simp [Value.oneCell']
 | .pair a b, x, vs, h => by
   simp only [RepT] at h
   obtain ⟨us, ts, rfl, h1, h2⟩ := h
   intro v hv
   rcases List.mem_append.1 hv with hv | hv
   ·exact RepT.oneCell h1 v hv
   ·exact RepT.oneCell h2 v hv
 | .agg s, x, vs, h => by simp only [RepT] at h; exact RepT.oneCell h
 | .unit, _, _, h => by simp only [RepT] at h; simp [h]
 | .ptr _, _, _, h => by simp only [RepT] at h; obtain ⟨b, q, us, rfl, _⟩ := h; simp [Value.oneCell']
 | .optr _, _, _, h => by simp only [RepT] at h; rcases h with ⟨rfl, _⟩ | ⟨b, q, us, y, rfl, _⟩ <;> simp [Value.oneCell']
 | .clo _ _, _, _, h => by simp only [RepT] at h; obtain ⟨cv, rfl, _⟩ := h; simp [Value.oneCell']
 | .err, _, _, h => by simp only [RepT] at h; obtain ⟨v, rfl, h⟩ := h; intro u hu; obtain rfl := List.mem_singleton.1 hu; exact h.oneCell
theorem RepT.mono {w w' : World} {p p' : Nat → Prop} (hp : ∀ b, p b → p' b ∧ w'.heap[b]? = w.heap[b]?) :
 ∀ {s : Sh} {x : s.T} {vs : List Value}, RepT w p s x vs → RepT w' p' s x vs
 | .int _, _, _, h => by simpa only [RepT] using h
 | .bool, _, _, h => by simpa only [RepT] using h
 | .str, _, _, h => by simpa only [RepT] using h
 | .err, _, _, h => by simpa only [RepT] using h
 | .zf, _, _, h => by simpa only [RepT] using h
 | .zc, _, _, h => by simpa only [RepT] using h
 | .slice e, xs, _, h => by
   simp only [RepT] at h ⊢
   obtain ⟨a, c, hv, hc, h⟩ := h
   refine ⟨a, c, hv, hc, h.imp id ?_⟩
   rintro ⟨b, o, ha, hb, hx⟩
   refine ⟨b, o, ha, (hp b hb).1, fun i x hi => ?_⟩
   obtain ⟨us, h1, h2, h3⟩ := hx i x hi
   exact ⟨us, RepT.mono hp h1, h2, fun j hj => by rw [← h3 j hj]; exact World.cell?_of_block (hp b hb).2⟩
 | .map k v, es, _, h => by
   simp only [RepT] at h ⊢
   obtain ⟨r, hv, h⟩ := h
   refine ⟨r, hv, h.imp id ?_⟩
   rintro ⟨b, ms, clock, hr, hb, hh, hs, hx⟩
   refine ⟨b, ms, clock, hr, (hp b hb).1, (hp b hb).2.trans hh, hs, fun i x m hi hm => ?_⟩
   obtain ⟨⟨us, h1, h2, h3⟩, ts, h4, h5, h6⟩ := hx i x m hi hm
   exact ⟨⟨us, RepT.mono hp h1, h2, h3⟩, ts, RepT.mono hp h4, h5, h6⟩
 | .pair a b, x, vs, h => by
   simp only [RepT] at h ⊢
   obtain ⟨us, ts, rfl, h1, h2⟩ := h
   exact ⟨us, ts, rfl, RepT.mono hp h1, RepT.mono hp h2⟩
 | .agg s, x, vs, h => by simp only [RepT] at h ⊢; exact RepT.mono hp h
 | .unit, _, _, h => by simpa only [RepT] using h
 | .ptr s, x, vs, h => by
   simp only [RepT] at h ⊢
   obtain ⟨b, q, us, hv, hb, hx, hj⟩ := h
   exact ⟨b, q, us, hv, (hp b hb).1, RepT.mono hp hx, fun j hl => by rw [← hj j hl]; exact World.cell?_of_block (hp b hb).2⟩
 | .optr s, x, vs, h => by
   simp only [RepT] at h ⊢
   refine h.imp id ?_
   rintro ⟨b, q, us, y, hv, hy, hb, hx, hj⟩
   exact ⟨b, q, us, y, hv, hy, (hp b hb).1, RepT.mono hp hx, fun j hl => by rw [← hj j hl]; exact World.cell?_of_block (hp b hb).2⟩
 | .clo f s, x, vs, h => by
   simp only [RepT] at h ⊢
   obtain ⟨cv, hv, hx⟩ := h
   exact ⟨cv, hv, RepT.mono hp hx⟩
theorem RepT.flat {w w' : World} {p p' : Nat → Prop} :
 ∀ {s : Sh} {x : s.T} {vs : List Value}, s.flat = true → RepT w p s x vs → RepT w' p' s x vs
 | .int _, _, _, _, h => by simpa only [RepT] using h
 | .bool, _, _, _, h => by simpa only [RepT] using h
 | .str, _, _, _, h => by simpa only [RepT] using h
 | .err, _, _, _, h => by simpa only [RepT] using h
 | .zf, _, _, _, h => by simpa only [RepT] using h
 | .zc, _, _, _, h => by simpa only [RepT] using h
 | .slice _, _, _, hf, _ => by simp [Sh.flat] at hf
 | .map _ _, _, _, hf, _ => by simp [Sh.flat] at hf
 | .pair a b, x, vs, hf, h => by
   simp only [RepT] at h ⊢
   simp only [Sh.flat, Bool.and_eq_true] at hf
   obtain ⟨us, ts, rfl, h1, h2⟩ := h
   exact ⟨us, ts, rfl, RepT.flat hf.1 h1, RepT.flat hf.2 h2⟩
 | .agg s, x, vs, hf, h => by simp only [RepT] at h ⊢; exact RepT.flat (by simpa [Sh.flat] using hf) h
 | .unit, _, _, _, h => by simpa only [RepT] using h
 | .ptr _, _, _, hf, _ => by simp [Sh.flat] at hf
 | .optr _, _, _, hf, _ => by simp [Sh.flat] at hf
 | .clo _ _, _, _, hf, _ => by simp [Sh.flat] at hf
def rootBlock : Value → Option Nat
 | .pointer (some a) => some a.block
 | .slice (some a) _ _ => some a.block
 | .map (some r) => some r
 | .func (.yield l) _ _ => some l
 | _ => none
def rootOff : Value → Nat
 | .pointer (some a) => a.off
 | .slice (some a) _ _ => a.off
 | _ => 0
def capOk : Value → Nat → Nat → Prop
 | .slice _ _ c, off, cap => off + cap ≤ c
 | _, _, _ => True
def ownsAt (w : World) (base : Nat) (T : TypeId) (size : Nat) (v : Value) (n : Nat) (us : List Value) : Prop :=
 us.length = n * size ∧
 ((v = .slice none 0 0 ∧ n = 0) ∨
  ∃ g q cap cur, v = .slice (some ⟨g, q, none⟩) n cap ∧ base ≤ g ∧ w.heap[g]? = some (.cells cur T (0, 0)) ∧ n ≤ cap ∧ cap ≤ maxLen ∧ q + cap * size ≤ cur.size ∧ (cur.toList.drop q).take (n * size) = us)
theorem ownsAt_nil (w : World) (base : Nat) (T : TypeId) (size : Nat) : ownsAt w base T size (.slice none 0 0) 0 [] := ⟨by simp, .inl ⟨rfl, rfl⟩⟩
theorem ownsAt_of {w : World} {base : Nat} {T : TypeId} {size : Nat} {v : Value} {n : Nat} {us : List Value} (h : w.ownsRow base T size v n us) : ownsAt w base T size v n us := by
 refine ⟨h.1, h.2.imp id ?_⟩
 rintro ⟨g, cap, cur, rfl, h1, h2, h3, h4, h5, h6⟩
 exact ⟨g, 0, cap, cur, rfl, h1, h2, h3, h4, by omega, by simpa using h6⟩
def refOk : Blk → Nat → Nat → Prop
 | .cells _, sz, _ => sz = 0
 | .arr e xs, sz, i => (sz = 0 ∧ i = 0) ∨ (sz = e.size ∧ i < xs.length)
 | .buf _ e xs, sz, i => sz = e.size ∧ i < xs.length
 | .ids _ l, sz, i => sz = 1 ∧ i < l.length
 | _, _, _ => False
def srefOk : Blk → Nat → Nat → Nat → Prop
 | .arr e xs, sz, off, len => sz = e.size ∧ off + len ≤ xs.length
 | .buf _ e xs, sz, off, len => sz = e.size ∧ off + len ≤ xs.length
 | .ids _ l, sz, off, len => sz = 1 ∧ off + len ≤ l.length
 | _, _, _, _ => False
def crefOk (r : Value) (cap : Nat) : Blk → Nat → Nat → Sh → Prop
 | .cells cs, o, len, e => o + len * e.size ≤ cs.length ∧ cap ≤ maxLen ∧ (match r with | .slice _ _ c => o + cap * e.size ≤ c | _ => o + cap * e.size ≤ cs.length)
 | _, _, _, _ => False
def RootOf (r : Value) (b n sz : Nat) : Prop := (r = .pointer (some ⟨b, 0, none⟩) ∧ n = sz) ∨ ∃ cap, r = .slice (some ⟨b, 0, none⟩) n cap ∧ n ≤ cap ∧ cap ≤ maxLen ∧ cap ≤ sz
theorem RootOf.block {r : Value} {b n sz : Nat} (h : RootOf r b n sz) : rootBlock r = some b := by rcases h with ⟨rfl, _⟩ | ⟨_, rfl, _⟩ <;> rfl
theorem RootOf.off {r : Value} {b n sz : Nat} (h : RootOf r b n sz) : rootOff r = 0 := by rcases h with ⟨rfl, _⟩ | ⟨_, rfl, _⟩ <;> rfl
theorem RootOf.one {r : Value} {b n sz : Nat} (h : RootOf r b n sz) : r.oneCell' = true := by rcases h with ⟨rfl, _⟩ | ⟨_, rfl, _⟩ <;> rfl
theorem RootOf.le {r : Value} {b n sz : Nat} (h : RootOf r b n sz) : n ≤ sz := by rcases h with ⟨_, rfl⟩ | ⟨_, _, h1, _, h2⟩ <;> omega
def Blk.isBuf : Blk → Prop
 | .buf _ _ _ => True
 | .ids _ _ => True
 | _ => False
def Blk.isRow : Blk → Prop
 | .rowb _ _ => True
 | _ => False
def Blk.hasRow (k : Nat) : Blk → Prop
 | .rowb _ xs => k < xs.length
 | _ => False
def Blk.isMap : Blk → Prop
 | .map _ _ _ => True
 | .lp _ _ _ => True
 | _ => False
def LpOk : LpSt → LoopState → Option Code → Prop
 | .ready, st, c => st = .ready ∧ c = none
 | .busy, st, _ => st = .busy
 | .done none, st, c => st = .done ∧ c = some .ret
 | .done (some id), st, c => st = .done ∧ c = some (.exit id)
 | .gone, _, _ => True
section
variable (w : World) (p : Nat → Prop) (β : Nat → Option Value) (H : Nat → Blk)
def CapRep : Cap → Value → Prop
 | .ref t, v => ∃ r b, β t = some r ∧ rootBlock r = some b ∧ v = .pointer (some ⟨b, rootOff r + (0 * 0 + 0), none⟩) ∧ refOk (H t) 0 0
 | .dat s x, v => s.isAgg = false ∧ RepT w p s x [v]
def RepL : LV → Value → Prop
 | .undef, v => v.oneCell' = true
 | .int k n, v => v = .int k n
 | .bool b, v => v = .bool b
 | .str s, v => v = .string s
 | .ifc b, v => IsErr b v
 | .zf n, v => RepT w p .zf n [v]
 | .zc a b, v => RepT w p .zc (a, b) [v]
 | .slice e xs, v => RepT w p (.slice e) xs [v]
 | .nilslice, v => v = .slice none 0 0
 | .zslice, v => ∃ b q, v = .slice (some ⟨b, q, none⟩) 0 0
 | .fn f, v => v = .func (.func f) #[] #[]
 | .nilfn, v => v = .nilFunc
 | .iptr s x o, v => ∃ b q us, v = .pointer (some ⟨b, q + o, none⟩) ∧ p b ∧ RepT w p s x us ∧ ∀ j, j < us.length → w.cell? ⟨b, q + j, none⟩ = us[j]?
 | .nilptr, v => v = .pointer none
 | .imap k v' es, v => RepT w p (.map k v') es [v]
 | .optr s x, v => RepT w p (.optr s) x [v]
 | .clo f s x, v => RepT w p (.clo f s) x [v]
 | .cloR f cs, v => ∃ cv : Array Value, v = .func (.func f) #[] cv ∧ cs.length = cv.size ∧ ∀ (i : Nat) (c : Cap) (u : Value), cs[i]? = some c → cv[i]? = some u → CapRep w p β H c u
 | .ref t sz i o, v => ∃ r b, β t = some r ∧ rootBlock r = some b ∧ v = .pointer (some ⟨b, rootOff r + (i * sz + o), none⟩) ∧ refOk (H t) sz i
 | .full t, v => β t = some v ∧ (H t).isBuf ∧ v.oneCell' = true
 | .sref t sz off len, v => ∃ a cap r, v = .slice a len cap ∧ len ≤ cap ∧ β t = some r ∧ srefOk (H t) sz off len ∧ (∃ b q, rootBlock r = some b ∧ a = some ⟨b, q, none⟩ ∧ (q = rootOff r + off * sz ∨ (cap = 0 ∧ q ≤ rootOff r + off * sz))) ∧ capOk r off cap
 | .cref t o len e, v => ∃ a cap r, v = .slice a len cap ∧ len ≤ cap ∧ β t = some r ∧ crefOk r cap (H t) o len e ∧ ∃ b, rootBlock r = some b ∧ a = some ⟨b, rootOff r + o, none⟩
 | .mref t, v => β t = some v ∧ (H t).isMap ∧ v.oneCell' = true
 | .row j, v => β (16000 + j) = some v ∧ (H (16000 + j)).isRow ∧ v.oneCell' = true
 | .rel j k, v => ∃ r b, β (16000 + j) = some r ∧ rootBlock r = some b ∧ v = .pointer (some ⟨b, rootOff r + k, none⟩) ∧ (H (16000 + j)).hasRow k
def RepLs (cs : List LV) (vs : List Value) : Prop := cs.length = vs.length ∧ ∀ (i : Nat) (c : LV) (v : Value), cs[i]? = some c → vs[i]? = some v → RepL w p β H c v
def RepC : CV → Value → Prop
 | .l .undef, _ => True
 | .l c, v => RepL w p β H c v
 | .agg cs, v => ∃ vs, v = .agg vs ∧ RepLs w p β H cs vs.toList
def RepCs (cs : List CV) (vs : List Value) : Prop := cs.length = vs.length ∧ ∀ (i : Nat) (c : CV) (v : Value), cs[i]? = some c → vs[i]? = some v → RepC w p β H c v
def RepS : SV → Value → Prop
 | .c c, v => RepC w p β H c v
 | .tup cs, v => ∃ vs, v = .tuple vs ∧ RepCs w p β H cs vs.toList
def RepB (B0 : Nat) : Blk → Value → Prop
 | .free, _ => False
 | .cells cs, r => ∃ b vs T, RootOf r b cs.length vs.size ∧ B0 ≤ b ∧ w.heap[b]? = some (.cells vs T (0, 0)) ∧ RepLs w p β H cs (vs.toList.take cs.length)
 | .arr e xs, r => ∃ b vs T, r = .pointer (some ⟨b, 0, none⟩) ∧ B0 ≤ b ∧ w.heap[b]? = some (.cells vs T (0, 0)) ∧ 0 < e.size ∧ Rows' e.size (RepT w p e) xs vs.toList
 | .buf T e xs, r => ∃ us, ownsAt w B0 T e.size r xs.length us ∧ 0 < e.size ∧ Rows' e.size (RepT w p e) xs us
 | .map k v es, r => ∃ b ms clock, r = .map (some b) ∧ B0 ≤ b ∧ w.heap[b]? = some (.map ms clock) ∧ Go.MapKept.Stamped ms clock ∧ ms.size = es.length ∧
    ∀ (i : Nat) (x : k.T × v.T) (m : MapEntry), es[i]? = some x → ms[i]? = some m → (∃ us, RepT w p k x.1 us ∧ us.length = k.size ∧ VOf k.isAgg us m.key) ∧ (∃ us, RepT w p v x.2 us ∧ us.length = v.size ∧ VOf v.isAgg us m.val)
 | .lp q i m, r => ∃ l rec, r = .func (.yield l) #[] #[] ∧ B0 ≤ l ∧ w.heap[l]? = some (.loop rec) ∧ LpOk q rec.state rec.pending ∧ rec.params = i.params ∧ rec.assign = i.assign ∧ rec.body = i.body ∧ rec.tmps.size = i.n ∧ i.n ≤ 16000 ∧
    ∀ t v, rec.tmps[t]? = some v → RepS w p β H (getM m t) v
 | .rowb T xs, r => ∃ us, ownsAt w B0 T 1 r xs.length us ∧ Rows' 1 (RepT w p (.int .i64)) xs us
 | .ids T l, r => ∃ us, ownsAt w B0 T 1 r l.length us ∧ RepLs w p β H (l.map LV.row) us
end
def BlkSim : Blk → Blk → Prop
 | .free, .free => True
 | .cells cs, .cells ds => cs.length = ds.length
 | .arr e xs, b => ∃ ys, b = .arr e ys ∧ xs.length = ys.length
 | .buf T e xs, b => ∃ ys, b = .buf T e ys ∧ xs.length = ys.length
 | .map k v _, b => ∃ es, b = .map k v es
 | .lp _ _ _, b => ∃ q i m, b = .lp q i m
 | .rowb T xs, b => ∃ ys, b = .rowb T ys ∧ xs.length = ys.length
 | .ids T l, b => ∃ l', b = .ids T l' ∧ l.length = l'.length
 | _, _ => False
theorem BlkSim.refl (b : Blk) : BlkSim b b := by cases b <;> simp [BlkSim]
section
variable {w w' : World} {p p' : Nat → Prop} {β β' : Nat → Option Value} {H H' : Nat → Blk}
theorem RepL.oneCell {c : LV} {v : Value} (h : RepL w p β H c v) : v.oneCell' = true := by
 cases c <;> simp only [RepL] at h
 case undef => exact h
 case int => subst h; rfl
 case bool => subst h; rfl
 case str => subst h; rfl
 case ifc => exact IsErr.oneCell h
 case zf => exact RepT.oneCell h v (by simp)
 case zc => exact RepT.oneCell h v (by simp)
 case slice => exact RepT.oneCell h v (by simp)
 case nilslice => subst h; rfl
 case zslice => obtain ⟨_, _, rfl⟩ := h; rfl
 case fn => subst h; rfl
 case nilfn => subst h; rfl
 case iptr => obtain ⟨b, q, us, rfl, _⟩ := h; rfl
 case nilptr => subst h; rfl
 case imap => exact RepT.oneCell h v (by simp)
 case optr => exact RepT.oneCell h v (by simp)
 case clo => exact RepT.oneCell h v (by simp)
 case cloR => obtain ⟨cv, rfl, _⟩ := h; rfl
 case ref => obtain ⟨r, b, _, _, rfl, _⟩ := h; rfl
 case full => exact h.2.2
 case sref => obtain ⟨a, c, r, rfl, _⟩ := h; rfl
 case row => exact h.2.2
 case rel => obtain ⟨r, b, _, _, rfl, _⟩ := h; rfl
 case cref => obtain ⟨a, c, r, rfl, _⟩ := h; rfl
 case mref => exact h.2.2
structure Keeps (w w' : World) (p p' : Nat → Prop) (β β' : Nat → Option Value) (H H' : Nat → Blk) : Prop where
 data : ∀ b, p b → p' b ∧ w'.heap[b]? = w.heap[b]?
 roots : ∀ t v, β t = some v → β' t = some v
 sim : ∀ t, (β t).isSome = true → BlkSim (H t) (H' t)
theorem refOk.low {b : Blk} {sz i : Nat} (h : refOk b sz i) : ¬ b.isRow := by cases b <;> first | exact id | exact h.elim
theorem srefOk.low {b : Blk} {sz i n : Nat} (h : srefOk b sz i n) : ¬ b.isRow := by cases b <;> first | exact id | exact h.elim
theorem crefOk.low {r : Value} {cap : Nat} {b : Blk} {o n : Nat} {e : Sh} (h : crefOk r cap b o n e) : ¬ b.isRow := by cases b <;> first | exact id | exact h.elim
theorem Blk.isBuf.low {b : Blk} (h : b.isBuf) : ¬ b.isRow := by cases b <;> first | exact id | exact h.elim
theorem Blk.isMap.low {b : Blk} (h : b.isMap) : ¬ b.isRow := by cases b <;> first | exact id | exact h.elim
theorem refOk.sim {a b : Blk} (h : BlkSim a b) {sz i : Nat} (hr : refOk a sz i) : refOk b sz i := by
 cases a <;> simp only [refOk] at hr
 case cells => cases b <;> simp [BlkSim] at h; exact hr
 case arr => obtain ⟨ys, rfl, hl⟩ := h; simp only [refOk]; rwa [← hl]
 case buf => obtain ⟨ys, rfl, hl⟩ := h; simp only [refOk]; rwa [← hl]
 case ids => obtain ⟨ys, rfl, hl⟩ := h; simp only [refOk]; rwa [← hl]
theorem srefOk.sim {a b : Blk} (h : BlkSim a b) {sz i n : Nat} (hr : srefOk a sz i n) : srefOk b sz i n := by
 cases a <;> simp only [srefOk] at hr
 case arr => obtain ⟨ys, rfl, hl⟩ := h; simp only [srefOk]; rwa [← hl]
 case buf => obtain ⟨ys, rfl, hl⟩ := h; simp only [srefOk]; rwa [← hl]
 case ids => obtain ⟨ys, rfl, hl⟩ := h; simp only [srefOk]; rwa [← hl]
theorem crefOk.sim {a b : Blk} (h : BlkSim a b) {rt : Value} {cap o n : Nat} {e : Sh} (hr : crefOk rt cap a o n e) : crefOk rt cap b o n e := by
 cases a <;> simp only [crefOk] at hr
 case cells => cases b <;> simp [BlkSim] at h; simp only [crefOk]; rwa [← h]
theorem Blk.isBuf.sim {a b : Blk} (h : BlkSim a b) (hr : a.isBuf) : b.isBuf := by
 cases a <;> simp only [Blk.isBuf] at hr
 case buf => obtain ⟨ys, rfl, hl⟩ := h; trivial
 case ids => obtain ⟨ys, rfl, hl⟩ := h; trivial
theorem Blk.isRow.sim {a b : Blk} (h : BlkSim a b) (hr : a.isRow) : b.isRow := by
 cases a <;> simp only [Blk.isRow] at hr
 case rowb => obtain ⟨ys, rfl, hl⟩ := h; trivial
theorem Blk.hasRow.sim {a b : Blk} (h : BlkSim a b) {k : Nat} (hr : a.hasRow k) : b.hasRow k := by
 cases a <;> simp only [Blk.hasRow] at hr
 case rowb => obtain ⟨ys, rfl, hl⟩ := h; simp only [Blk.hasRow]; rwa [← hl]
theorem Blk.hasRow.is {a : Blk} {k : Nat} (hr : a.hasRow k) : a.isRow := by cases a <;> simp only [Blk.hasRow] at hr; trivial
theorem Blk.isMap.sim {a b : Blk} (h : BlkSim a b) (hr : a.isMap) : b.isMap := by
 cases a <;> simp only [Blk.isMap] at hr
 case map => obtain ⟨ys, rfl⟩ := h; trivial
 case lp => obtain ⟨_, _, _, rfl⟩ := h; trivial
def LV.at? : LV → Option Nat
 | .ref t _ _ _ => some t
 | .full t => some t
 | .sref t _ _ _ => some t
 | .cref t _ _ _ => some t
 | .mref t => some t
 | _ => none
structure KeepsBut (t0 : Option Nat) (w w' : World) (p p' : Nat → Prop) (β β' : Nat → Option Value) (H H' : Nat → Blk) : Prop where
 data : ∀ b, p b → p' b ∧ w'.heap[b]? = w.heap[b]?
 roots : ∀ t v, (some t ≠ t0 ∨ 16000 ≤ t) → β t = some v → β' t = some v
 sim : ∀ t, (some t ≠ t0 ∨ 16000 ≤ t) → (β t).isSome = true → BlkSim (H t) (H' t)
theorem Keeps.but {t0 : Option Nat} (k : Keeps w w' p p' β β' H H') : KeepsBut t0 w w' p p' β β' H H' := ⟨k.data, fun t v _ h => k.roots t v h, fun t _ h => k.sim t h⟩
def LV.avoid (t0 : Option Nat) : LV → Prop
 | .cloR _ cs => ∀ t, Cap.ref t ∈ cs → some t ≠ t0
 | c => c.at? = none ∨ c.at? ≠ t0
theorem CapRep.keepBut {t0 : Option Nat} (k : KeepsBut t0 w w' p p' β β' H H') {c : Cap} {v : Value} (hc : ∀ t, c = .ref t → some t ≠ t0) (h : CapRep w p β H c v) : CapRep w' p' β' H' c v := by
 cases c with
 | ref t =>
   obtain ⟨r, b, h1, h2, h3, h4⟩ := h
   exact ⟨r, b, k.roots _ _ (.inl (hc t rfl)) h1, h2, h3, h4.sim (k.sim _ (.inl (hc t rfl)) (by simp [h1]))⟩
 | dat s x => exact ⟨h.1, RepT.mono k.data h.2⟩
theorem RepL.keepBut {t0 : Option Nat} (k : KeepsBut t0 w w' p p' β β' H H') {c : LV} {v : Value} (hc : c.avoid t0) (h : RepL w p β H c v) : RepL w' p' β' H' c v := by
 have some_of : ∀ {t v}, β t = some v → (β t).isSome = true := fun h => by simp [h]
 have lift : ∀ {t}, (some t = none ∨ some t ≠ t0) → (some t ≠ t0 ∨ 16000 ≤ t) := fun h => .inl (h.resolve_left (by simp))
 cases c <;> simp only [RepL] at h ⊢
 case undef => exact h
 case int => exact h
 case bool => exact h
 case str => exact h
 case ifc => exact h
 case zf => exact RepT.mono k.data h
 case zc => exact RepT.mono k.data h
 case slice => exact RepT.mono k.data h
 case nilslice => exact h
 case zslice => exact h
 case fn => exact h
 case nilfn => exact h
 case iptr =>
  obtain ⟨b, q, us, hv, hb, hx, hj⟩ := h
  exact ⟨b, q, us, hv, (k.data b hb).1, RepT.mono k.data hx, fun j hl => by rw [← hj j hl]; exact World.cell?_of_block (k.data b hb).2⟩
 case nilptr => exact h
 case imap => exact RepT.mono k.data h
 case optr => exact RepT.mono k.data h
 case clo => exact RepT.mono k.data h
 case cloR f cs =>
  obtain ⟨cv, h1, h2, h3⟩ := h
  exact ⟨cv, h1, h2, fun i c u hi hu => CapRep.keepBut k (fun t ht => hc t (by rw [← ht]; exact List.mem_of_getElem? hi)) (h3 i c u hi hu)⟩
 case ref =>
  obtain ⟨r, b, h1, h2, h3, h4⟩ := h
  exact ⟨r, b, k.roots _ _ (lift hc) h1, h2, h3, h4.sim (k.sim _ (lift hc) (some_of h1))⟩
 case full =>
  exact ⟨k.roots _ _ (lift hc) h.1, h.2.1.sim (k.sim _ (lift hc) (some_of h.1)), h.2.2⟩
 case sref t sz off len =>
  obtain ⟨a, c, r, h1, h2, h3, h4, h5⟩ := h
  exact ⟨a, c, r, h1, h2, k.roots _ _ (lift hc) h3, h4.sim (k.sim _ (lift hc) (some_of h3)), h5⟩
 case cref =>
  obtain ⟨a, c, r, h1, h2, h3, h4, h5⟩ := h
  exact ⟨a, c, r, h1, h2, k.roots _ _ (lift hc) h3, h4.sim (k.sim _ (lift hc) (some_of h3)), h5⟩
 case mref =>
  exact ⟨k.roots _ _ (lift hc) h.1, h.2.1.sim (k.sim _ (lift hc) (some_of h.1)), h.2.2⟩
 case row j =>
  have hj : some (16000 + j) ≠ t0 ∨ 16000 ≤ 16000 + j := .inr (Nat.le_add_right _ _)
  exact ⟨k.roots _ _ hj h.1, h.2.1.sim (k.sim _ hj (some_of h.1)), h.2.2⟩
 case rel j i =>
  have hj : some (16000 + j) ≠ t0 ∨ 16000 ≤ 16000 + j := .inr (Nat.le_add_right _ _)
  obtain ⟨r, b, h1, h2, h3, h4⟩ := h
  exact ⟨r, b, k.roots _ _ hj h1, h2, h3, h4.sim (k.sim _ hj (some_of h1))⟩
theorem RepL.keep (k : Keeps w w' p p' β β' H H') {c : LV} {v : Value} (h : RepL w p β H c v) : RepL w' p' β' H' c v :=
 RepL.keepBut (t0 := none) k.but (by
  cases c <;> simp [LV.avoid, LV.at?]) h
theorem LV.kill_at (t : Nat) : ∀ c : LV, (c.kill t).avoid (some t)
 | .cloR f cs => by
   by_cases h : cs.any (Cap.has t) = true
   ·simp [LV.kill, h, LV.avoid, LV.at?]
   ·simp only [LV.kill, h]
    intro u hu e
    obtain rfl := Option.some.inj e
    exact h (List.any_eq_true.2 ⟨_, hu, by simp [Cap.has]⟩)
 | .ref u sz i o => by by_cases h : u = t <;> simp [LV.kill, LV.avoid, LV.at?, h]
 | .full u => by by_cases h : u = t <;> simp [LV.kill, LV.avoid, LV.at?, h]
 | .sref u sz i o => by by_cases h : u = t <;> simp [LV.kill, LV.avoid, LV.at?, h]
 | .cref u o n e => by by_cases h : u = t <;> simp [LV.kill, LV.avoid, LV.at?, h]
 | .mref u => by by_cases h : u = t <;> simp [LV.kill, LV.avoid, LV.at?, h]
 | .undef | .int _ _ | .bool _ | .str _ | .zf _ | .zc _ _ | .slice _ _ | .nilslice | .zslice | .fn _ | .nilfn | .ifc _ | .iptr _ _ _ | .nilptr | .imap _ _ _ | .optr _ _ | .clo _ _ _ | .row _ | .rel _ _ => .inl rfl
theorem RepL.undef_of {c : LV} {v : Value} (h : RepL w p β H c v) : RepL w p β H .undef v := h.oneCell
theorem RepL.kill {t0 : Nat} (k : KeepsBut (some t0) w w' p p' β β' H H') {c : LV} {v : Value} (h : RepL w p β H c v) : RepL w' p' β' H' (c.kill t0) v := by
 have h1 : RepL w p β H (c.kill t0) v := by
  have hu := h.undef_of
  cases c <;> simp only [LV.kill] <;> (try split) <;> assumption
 exact RepL.keepBut k (LV.kill_at t0 c) h1
theorem RepLs.of {f : LV → LV} (hf : ∀ c v, RepL w p β H c v → RepL w' p' β' H' (f c) v) {cs : List LV} {vs : List Value} (h : RepLs w p β H cs vs) : RepLs w' p' β' H' (cs.map f) vs := by
 refine ⟨by simpa using h.1, fun i c v hc hv => ?_⟩
 rw [List.getElem?_map] at hc
 cases hci : cs[i]? with
 | none => rw [hci] at hc; cases hc
 | some c0 =>
   rw [hci] at hc
   obtain rfl := Option.some.inj hc
   exact hf _ _ (h.2 i c0 v hci hv)
theorem RepLs.keep (k : Keeps w w' p p' β β' H H') {cs : List LV} {vs : List Value} (h : RepLs w p β H cs vs) : RepLs w' p' β' H' cs vs := by
 have := RepLs.of (f := id) (fun c v h => RepL.keep k h) h
 simpa using this
theorem RepLs.kill {t0 : Nat} (k : KeepsBut (some t0) w w' p p' β β' H H') {cs : List LV} {vs : List Value} (h : RepLs w p β H cs vs) : RepLs w' p' β' H' (cs.map (LV.kill t0)) vs :=
 RepLs.of (fun _ _ h => RepL.kill k h) h
theorem repC_l {c : LV} {v : Value} (h : RepL w p β H c v) : RepC w p β H (.l c) v := by
 cases c <;> simp only [RepC] <;> exact h
theorem repL_of {c : LV} {v : Value} (hc : c ≠ .undef) (h : RepC w p β H (.l c) v) : RepL w p β H c v := by
 cases c <;> simp only [RepC] at h <;> first | exact absurd rfl hc | exact h
theorem RepC.of {f : LV → LV} (hu : f .undef = .undef) (hf : ∀ c v, RepL w p β H c v → RepL w' p' β' H' (f c) v) {c : CV} {v : Value} (h : RepC w p β H c v) :
 RepC w' p' β' H' (match c with | .l c => .l (f c) | .agg cs => .agg (cs.map f)) v := by
 cases c with
 | l c =>
   by_cases hc : c = .undef
   ·subst hc; simp only [hu, RepC]
   ·exact repC_l (hf _ _ (repL_of hc h))
 | agg cs =>
   obtain ⟨vs, rfl, h⟩ := h
   exact ⟨vs, rfl, RepLs.of hf h⟩
theorem RepC.keep (k : Keeps w w' p p' β β' H H') {c : CV} {v : Value} (h : RepC w p β H c v) : RepC w' p' β' H' c v := by
 have := RepC.of (f := id) rfl (fun c v h => RepL.keep k h) h
 cases c <;> simpa using this
theorem RepC.kill {t0 : Nat} (k : KeepsBut (some t0) w w' p p' β β' H H') {c : CV} {v : Value} (h : RepC w p β H c v) : RepC w' p' β' H' (c.kill t0) v := by
 have := RepC.of (f := LV.kill t0) rfl (fun c v h => RepL.kill k h) h
 cases c <;> exact this
theorem RepCs.of {f : CV → CV} (hf : ∀ c v, RepC w p β H c v → RepC w' p' β' H' (f c) v) {cs : List CV} {vs : List Value} (h : RepCs w p β H cs vs) : RepCs w' p' β' H' (cs.map f) vs := by
 refine ⟨by simpa using h.1, fun i c v hc hv => ?_⟩
 rw [List.getElem?_map] at hc
 cases hci : cs[i]? with
 | none => rw [hci] at hc; cases hc
 | some c0 =>
   rw [hci] at hc
   obtain rfl := Option.some.inj hc
   exact hf _ _ (h.2 i c0 v hci hv)
theorem RepCs.keep (k : Keeps w w' p p' β β' H H') {cs : List CV} {vs : List Value} (h : RepCs w p β H cs vs) : RepCs w' p' β' H' cs vs := by
 have := RepCs.of (f := id) (fun c v h => RepC.keep k h) h
 simpa using this
theorem RepS.keep (k : Keeps w w' p p' β β' H H') {c : SV} {v : Value} (h : RepS w p β H c v) : RepS w' p' β' H' c v := by
 cases c with
 | c c => exact RepC.keep k h
 | tup cs => obtain ⟨vs, rfl, h⟩ := h; exact ⟨vs, rfl, RepCs.keep k h⟩
theorem RepS.kill {t0 : Nat} (k : KeepsBut (some t0) w w' p p' β β' H H') {c : SV} {v : Value} (h : RepS w p β H c v) : RepS w' p' β' H' (c.kill t0) v := by
 cases c with
 | c c => exact RepC.kill k h
 | tup cs => obtain ⟨vs, rfl, h⟩ := h; exact ⟨vs, rfl, RepCs.of (fun _ _ h => RepC.kill k h) h⟩
theorem Rows'.imp {α : Type} {size : Nat} {R R' : α → List Value → Prop} (h : ∀ x u, R x u → R' x u) {xs : List α} {us : List Value} (hr : Rows' size R xs us) : Rows' size R' xs us :=
 ⟨hr.1, fun i x hi => h _ _ (hr.2 i x hi)⟩
theorem ownsRow_same {B0 : Nat} {T : TypeId} {size : Nat} {r : Value} {n : Nat} {us : List Value} (hb : ∀ b, rootBlock r = some b → w'.heap[b]? = w.heap[b]?) (h : ownsAt w B0 T size r n us) : ownsAt w' B0 T size r n us := by
 refine ⟨h.1, h.2.imp id ?_⟩
 rintro ⟨g, q, cap, cur, rfl, h1, h2, h3⟩
 exact ⟨g, q, cap, cur, rfl, h1, (hb g rfl).trans h2, h3⟩
theorem M.get_map' {α : Type} (f : α → α) : ∀ (m : M α) (i : Nat), (m.map f).get i = (m.get i).map f
 | .e, i => rfl
 | .n v l r, i => by
   simp only [M.map_n, M.get_n]
   cases h : i == 0
   ·cases h2 : i % 2 == 1
    ·simp only [cond_false]; exact M.get_map' f r _
    ·simp only [cond_false, cond_true]; exact M.get_map' f l _
   ·simp only [cond_true]
theorem RepS.of {f : LV → LV} (hu : f .undef = .undef) (hf : ∀ c v, RepL w p β H c v → RepL w' p' β' H' (f c) v) {x : SV} {v : Value} (h : RepS w p β H x v) : RepS w' p' β' H' (svMap f x) v := by
 have hc : ∀ c v, RepC w p β H c v → RepC w' p' β' H' (cvMap f c) v := fun c v h => by
  have := RepC.of hu hf h
  cases c <;> exact this
 cases x with
 | c c => exact hc _ _ h
 | tup cs => obtain ⟨vs, rfl, h⟩ := h; exact ⟨vs, rfl, RepCs.of hc h⟩
theorem RepB.of {B0 : Nat} {f : LV → LV} (hf : ∀ c v, RepL w p β H c v → RepL w' p' β' H' (f c) v) (hd : ∀ b, p b → p' b ∧ w'.heap[b]? = w.heap[b]?) {b : Blk} {r : Value}
 (hb : ∀ b, rootBlock r = some b → w'.heap[b]? = w.heap[b]?) (h : RepB w p β H B0 b r) (hu : f .undef = .undef := by rfl) (hrw : ∀ j, f (.row j) = .row j := by intro j; rfl) : RepB w' p' β' H' B0 (match b with | .cells cs => .cells (cs.map f) | .lp q i m => .lp q i (m.map (svMap f)) | b => b) r := by
 cases b with
 | lp q i m =>
   obtain ⟨l, rec, rfl, h1, h2, h3, h4, h5, h6, h7, h8, h9⟩ := h
   refine ⟨l, rec, rfl, h1, (hb l rfl).trans h2, h3, h4, h5, h6, h7, h8, fun t v hv => ?_⟩
   have e : getM (m.map (svMap f)) t = svMap f (getM m t) := by
    simp only [getM, M.get_map']
    cases m.get t with
    | some x => rfl
    | none => simp only [Option.map_none, undefS, svMap, cvMap, hu]
   rw [e]
   exact RepS.of hu hf (h9 t v hv)
 | free => exact h
 | cells cs =>
   obtain ⟨b, vs, T, h0, h1, h2, h3⟩ := h
   exact ⟨b, vs, T, by rw [List.length_map]; exact h0, h1, (hb b h0.block).trans h2, by rw [List.length_map]; exact RepLs.of hf h3⟩
 | arr e xs =>
   obtain ⟨b, vs, T, rfl, h1, h2, h3, h4⟩ := h
   exact ⟨b, vs, T, rfl, h1, (hb b rfl).trans h2, h3, h4.imp fun _ _ h => RepT.mono hd h⟩
 | buf T e xs =>
   obtain ⟨us, h1, h2, h3⟩ := h
   exact ⟨us, ownsRow_same hb h1, h2, h3.imp fun _ _ h => RepT.mono hd h⟩
 | map k v es =>
   obtain ⟨b, ms, clock, rfl, h1, h2, hst, h3, h4⟩ := h
   refine ⟨b, ms, clock, rfl, h1, (hb b rfl).trans h2, hst, h3, fun i x m hi hm => ?_⟩
   obtain ⟨⟨us, a1, a2, a3⟩, ts, a4, a5, a6⟩ := h4 i x m hi hm
   exact ⟨⟨us, RepT.mono hd a1, a2, a3⟩, ts, RepT.mono hd a4, a5, a6⟩
 | rowb T xs =>
   obtain ⟨us, h1, h2⟩ := h
   exact ⟨us, ownsRow_same hb h1, h2.imp fun _ _ h => RepT.mono hd h⟩
 | ids T l =>
   obtain ⟨us, h1, h2⟩ := h
   refine ⟨us, ownsRow_same hb h1, ?_⟩
   have := RepLs.of hf h2
   rw [List.map_map] at this
   have e : f ∘ LV.row = LV.row := funext hrw
   rwa [e] at this
theorem RepB.keep {B0 : Nat} (k : Keeps w w' p p' β β' H H') {b : Blk} {r : Value} (hb : ∀ b, rootBlock r = some b → w'.heap[b]? = w.heap[b]?) (h : RepB w p β H B0 b r) : RepB w' p' β' H' B0 b r := by
 cases b with
 | lp q i m =>
   obtain ⟨l, rec, rfl, h1, h2, h3, h4, h5, h6, h7, h8, h9⟩ := h
   exact ⟨l, rec, rfl, h1, (hb l rfl).trans h2, h3, h4, h5, h6, h7, h8, fun t v hv => RepS.keep k (h9 t v hv)⟩
 | _ =>
   have := RepB.of (f := id) (fun c v h => RepL.keep k h) k.data hb h
   simpa using this
theorem repB_cells {B0 : Nat} {cs : List LV} {b : Nat} {vs : Array Value} {T : TypeId} (hB : B0 ≤ b) (hh : w.heap[b]? = some (.cells vs T (0, 0))) (hl : RepLs w p β H cs vs.toList) : RepB w p β H B0 (.cells cs) (.pointer (some ⟨b, 0, none⟩)) :=
 ⟨b, vs, T, .inl ⟨rfl, by have := hl.1; simpa using this⟩, hB, hh, by rw [hl.1, List.take_length]; exact hl⟩
theorem RepB.kill {B0 t0 : Nat} (k : KeepsBut (some t0) w w' p p' β β' H H') {b : Blk} {r : Value} (hb : ∀ b, rootBlock r = some b → w'.heap[b]? = w.heap[b]?) (h : RepB w p β H B0 b r) : RepB w' p' β' H' B0 (b.kill t0) r := by
 have := RepB.of (f := LV.kill t0) (fun c v h => RepL.kill k h) k.data hb h
 cases b <;> exact this
theorem RepB.root {B0 : Nat} {b : Blk} {r : Value} (h : RepB w p β H B0 b r) : ∀ g, rootBlock r = some g → B0 ≤ g ∧ g < w.heap.size := by
 intro g hg
 cases b with
 | free => exact h.elim
 | cells cs => obtain ⟨b, vs, T, h0, h1, h2, _⟩ := h; rw [h0.block] at hg; obtain rfl := Option.some.inj hg; exact ⟨h1, (Array.getElem?_eq_some_iff.1 h2).1⟩
 | arr e xs => obtain ⟨b, vs, T, rfl, h1, h2, _⟩ := h; obtain rfl := Option.some.inj hg; exact ⟨h1, (Array.getElem?_eq_some_iff.1 h2).1⟩
 | map k v es => obtain ⟨b, ms, c, rfl, h1, h2, _⟩ := h; obtain rfl := Option.some.inj hg; exact ⟨h1, (Array.getElem?_eq_some_iff.1 h2).1⟩
 | lp q i m => obtain ⟨l, rec, rfl, h1, h2, _⟩ := h; obtain rfl := Option.some.inj hg; exact ⟨h1, (Array.getElem?_eq_some_iff.1 h2).1⟩
 | buf T e xs =>
   obtain ⟨us, h1, h2, h3⟩ := h
   rcases h1.2 with ⟨rfl, _⟩ | ⟨g', q, cap, cur, rfl, hb, hg', _⟩
   ·simp [rootBlock] at hg
   ·obtain rfl := Option.some.inj hg
    exact ⟨hb, (Array.getElem?_eq_some_iff.1 hg').1⟩
 | rowb T xs =>
   obtain ⟨us, h1, h2⟩ := h
   rcases h1.2 with ⟨rfl, _⟩ | ⟨g', q, cap, cur, rfl, hb, hg', _⟩
   ·simp [rootBlock] at hg
   ·obtain rfl := Option.some.inj hg
    exact ⟨hb, (Array.getElem?_eq_some_iff.1 hg').1⟩
 | ids T l =>
   obtain ⟨us, h1, h2⟩ := h
   rcases h1.2 with ⟨rfl, _⟩ | ⟨g', q, cap, cur, rfl, hb, hg', _⟩
   ·simp [rootBlock] at hg
   ·obtain rfl := Option.some.inj hg
    exact ⟨hb, (Array.getElem?_eq_some_iff.1 hg').1⟩
theorem RepB.kind {B0 : Nat} {b : Blk} {r : Value} (h : RepB w p β H B0 b r) : ∀ g o, rootBlock r = some g → w.heap[g]? ≠ some (.deferred o) := by
 intro g o hg
 cases b with
 | free => exact h.elim
 | cells cs => obtain ⟨b, vs, T, h0, h1, h2, _⟩ := h; rw [h0.block] at hg; obtain rfl := Option.some.inj hg; rw [h2]; simp
 | arr e xs => obtain ⟨b, vs, T, rfl, h1, h2, _⟩ := h; obtain rfl := Option.some.inj hg; rw [h2]; simp
 | map k v es => obtain ⟨b, ms, c, rfl, h1, h2, _⟩ := h; obtain rfl := Option.some.inj hg; rw [h2]; simp
 | lp q i m => obtain ⟨l, rec, rfl, h1, h2, _⟩ := h; obtain rfl := Option.some.inj hg; rw [h2]; simp
 | buf T e xs =>
   obtain ⟨us, h1, h2, h3⟩ := h
   rcases h1.2 with ⟨rfl, _⟩ | ⟨g', q, cap, cur, rfl, hb, hg', _⟩
   ·simp [rootBlock] at hg
   ·obtain rfl := Option.some.inj hg
    rw [hg']; simp
 | rowb T xs =>
   obtain ⟨us, h1, h2⟩ := h
   rcases h1.2 with ⟨rfl, _⟩ | ⟨g', q, cap, cur, rfl, hb, hg', _⟩
   ·simp [rootBlock] at hg
   ·obtain rfl := Option.some.inj hg
    rw [hg']; simp
 | ids T l =>
   obtain ⟨us, h1, h2⟩ := h
   rcases h1.2 with ⟨rfl, _⟩ | ⟨g', q, cap, cur, rfl, hb, hg', _⟩
   ·simp [rootBlock] at hg
   ·obtain rfl := Option.some.inj hg
    rw [hg']; simp
theorem RepB.one {B0 : Nat} {b : Blk} {r : Value} (h : RepB w p β H B0 b r) : r.oneCell' = true := by
 cases b with
 | free => exact h.elim
 | cells cs => obtain ⟨b, vs, T, h0, _⟩ := h; exact h0.one
 | arr e xs => obtain ⟨b, vs, T, rfl, _⟩ := h; rfl
 | map k v es => obtain ⟨b, ms, c, rfl, _⟩ := h; rfl
 | lp q i m => obtain ⟨l, rec, rfl, _⟩ := h; rfl
 | buf T e xs => obtain ⟨us, h1, _⟩ := h; rcases h1.2 with ⟨rfl, _⟩ | ⟨_, _, _, _, rfl, _⟩ <;> rfl
 | rowb T xs => obtain ⟨us, h1, _⟩ := h; rcases h1.2 with ⟨rfl, _⟩ | ⟨_, _, _, _, rfl, _⟩ <;> rfl
 | ids T l => obtain ⟨us, h1, _⟩ := h; rcases h1.2 with ⟨rfl, _⟩ | ⟨_, _, _, _, rfl, _⟩ <;> rfl
end
end Go.Ev
namespace Go.Ev
open Go.RowKit
theorem M.get_set {α : Type} (v : α) : ∀ (d : Nat) (m : M α) (i j : Nat), i + 1 < 2 ^ d → (M.set v d m i).get j = if j = i then some v else m.get j
 | 0, m, i, j, h => by simp at h
 | d + 1, m, i, j, h => by
   have hp : 2 ^ (d + 1) = 2 * 2 ^ d := by rw [Nat.pow_succ]; omega
   have he : (M.e : M α).get j = none := rfl
   have h1 : i / 2 + 1 < 2 ^ d ∨ i = 0 ∨ i % 2 = 0 := by omega
   by_cases hi : i = 0
   ·subst hi
    cases m <;> (simp only [M.set_e, M.set_n, beq_self_eq_true, cond_true, M.get_n, M.get_e]; by_cases hj : j = 0
     <;> first | (subst hj; simp) | (have hj0 : (j == 0) = false := by simp [hj]
                                     simp [hj0, hj]))
   ·have hi0 : (i == 0) = false := by simp [hi]
    by_cases ho : i % 2 = 1
    ·have ho1 : (i % 2 == 1) = true := by simp [ho]
     have hd : i / 2 + 1 < 2 ^ d := by omega
     have key : ∀ l : M α, (M.set v d l (i / 2)).get (j / 2) = if j / 2 = i / 2 then some v else l.get (j / 2) := fun l => M.get_set v d l _ _ hd
     cases m <;> simp only [M.set_e, M.set_n, hi0, ho1, cond_true, cond_false, M.get_n, M.get_e] <;>
      (by_cases hj : j = 0
       ·subst hj; have : ¬ (0 = i) := fun h => hi h.symm; simp [this]
       ·have hj0 : (j == 0) = false := by simp [hj]
        by_cases hjo : j % 2 = 1
        ·have hjo1 : (j % 2 == 1) = true := by simp [hjo]
         simp only [hj0, hjo1, cond_true, cond_false, key]
         by_cases hij : j = i
         ·subst hij; simp
         ·have : ¬ (j / 2 = i / 2) := by omega
          simp [hij, this, M.get_n, M.get_e]
        ·have hjo1 : (j % 2 == 1) = false := by simp [hjo]
         have hij : ¬ (j = i) := by omega
         simp [hj0, hjo1, hij, M.get_n, M.get_e])
    ·have ho1 : (i % 2 == 1) = false := by simp [ho]
     have hd : i / 2 - 1 + 1 < 2 ^ d := by omega
     have key : ∀ l : M α, (M.set v d l (i / 2 - 1)).get (j / 2 - 1) = if j / 2 - 1 = i / 2 - 1 then some v else l.get (j / 2 - 1) := fun l => M.get_set v d l _ _ hd
     cases m <;> simp only [M.set_e, M.set_n, hi0, ho1, cond_true, cond_false, M.get_n, M.get_e] <;>
      (by_cases hj : j = 0
       ·subst hj; have : ¬ (0 = i) := fun h => hi h.symm; simp [this]
       ·have hj0 : (j == 0) = false := by simp [hj]
        by_cases hjo : j % 2 = 1
        ·have hjo1 : (j % 2 == 1) = true := by simp [hjo]
         have hij : ¬ (j = i) := by omega
         simp [hj0, hjo1, hij, M.get_n, M.get_e]
        ·have hjo1 : (j % 2 == 1) = false := by simp [hjo]
         simp only [hj0, hjo1, cond_true, cond_false, key]
         by_cases hij : j = i
         ·subst hij; simp
         ·have : ¬ (j / 2 - 1 = i / 2 - 1) := by omega
          simp [hij, this, M.get_n, M.get_e])
theorem M.get_map {α : Type} (f : α → α) : ∀ (m : M α) (j : Nat), (m.map f).get j = (m.get j).map f
 | .e, j => rfl
 | .n v l r, j => by
   simp only [M.map_n, M.get_n, M.get_e]
   by_cases hj : j = 0
   ·subst hj; cases v <;> rfl
   ·have hj0 : (j == 0) = false := by simp [hj]
    by_cases ho : j % 2 = 1
    ·have ho1 : (j % 2 == 1) = true := by simp [ho]
     simp only [hj0, ho1, cond_true, cond_false, M.get_map f l]
    ·have ho1 : (j % 2 == 1) = false := by simp [ho]
     simp only [hj0, ho1, cond_true, cond_false, M.get_map f r]
theorem get_ofList {α : Type} (f : Nat → α) : ∀ (ts : List Nat) (m : M α) (u : Nat), (∀ t ∈ ts, t < 16000) → (ofList (ts.map fun t => (t, f t)) m).get u = if u ∈ ts then some (f u) else m.get u
 | [], m, u, _ => by simp [ofList]
 | t :: ts, m, u, h => by
   rw [List.map_cons, ofList, get_ofList f ts _ u (fun x hx => h x (by simp [hx])), M.get_set _ 14 m t u (by have := h t (by simp); omega)]
   by_cases h1 : u ∈ ts
   ·simp [h1]
   ·by_cases h2 : u = t
    ·simp [h2]
    ·simp [h1, h2]
theorem lt_depth {t n : Nat} (h : t < n) (hn : n ≤ 16000) : t < 16000 := by omega
theorem key_depth {t : Nat} (h : t < 16000) : t < 16000 := h
theorem deep14 {t : Nat} (h : t < 16000) : t + 1 < 2 ^ 14 := by omega
section
variable {s : PS}
theorem PS.get_setT {t : Nat} (v : SV) (h : t < 16000) (u : Nat) : (s.setT t v).get u = if u = t then v else s.get u := by
 simp only [PS.get, PS.setT, M.get_set v 14 s.tmps t u (show t + 1 < 2 ^ 14 by omega)]
 by_cases e : u = t <;> simp [e]
theorem PS.blk_setT {t : Nat} (v : SV) (u : Nat) : (s.setT t v).blk u = s.blk u := rfl
theorem lowK_true {t : Nat} (h : t < 16000) : lowK t = true := by
 have : Nat.div t 16000 = 0 := Nat.div_eq_of_lt h
 rw [lowK, this]; rfl
theorem lowK_false {t : Nat} (h : 16000 ≤ t) : lowK t = false := by
 have h1 : 1 ≤ t / 16000 := (Nat.le_div_iff_mul_le (by omega)).2 (by omega)
 cases e : lowK t with
 | false => rfl
 | true =>
   have h2 : t / 16000 = 0 := Nat.eq_of_beq_eq_true e
   omega
theorem PS.blk_low {s : PS} {t : Nat} (h : t < 16000) : s.blk t = (s.raw t).shown := by
 simp only [PS.blk, lowK_true h, cond_true]
theorem PS.blk_high {s : PS} {t : Nat} (h : 16000 ≤ t) : s.blk t = s.rowB (t - 16000) := by
 simp only [PS.blk, lowK_false h, cond_false]
theorem PS.blk_of {s : PS} {t : Nat} {b : Blk} (h : t < 16000) (hg : s.hp.get t = some b) : s.blk t = b.shown := by
 rw [PS.blk_low h, PS.raw, hg]
theorem PS.blk_same {s s' : PS} (hp : s'.pl = s.pl) {t : Nat} (hg : t < 16000 → s'.hp.get t = s.hp.get t) : s'.blk t = s.blk t := by
 rcases Nat.lt_or_ge t 16000 with h | h
 ·rw [PS.blk_low h, PS.blk_low h, PS.raw, PS.raw, hg h]
 ·rw [PS.blk_high h, PS.blk_high h, PS.rowB, PS.rowB, hp]
theorem PS.blk_lift {s s' : PS} {f : Blk → Blk} (h0 : f .free = .free) (hs : ∀ b, (f b).shown = f b.shown) (hr : ∀ T x, f (.rowb T x) = .rowb T x) (hp : s'.pl = s.pl) {t : Nat} (hg : t < 16000 → s'.hp.get t = (s.hp.get t).map f) : s'.blk t = f (s.blk t) := by
 rcases Nat.lt_or_ge t 16000 with h | h
 ·rw [PS.blk_low h, PS.blk_low h, PS.raw, PS.raw, hg h, ← hs]
  cases s.hp.get t
  ·show Blk.shown .free = (f .free).shown
   rw [h0]
  ·rfl
 ·rw [PS.blk_high h, PS.blk_high h, PS.rowB, PS.rowB, hp]
  cases s.pl with
  | none => exact h0.symm
  | some x =>
    dsimp only
    cases x.2[t - 16000]? with
    | none => exact h0.symm
    | some l => exact (hr _ _).symm
theorem PS.blk_out {s s' : PS} {f : Blk → Blk} {t0 : Nat} (ht : t0 < 16000) (h0 : f .free = .free) (hs : ∀ b, (f b).shown = f b.shown) (hr : ∀ T x, f (.rowb T x) = .rowb T x) (hp : s'.pl = s.pl) (hh : s'.hp = H.set .free (s.hp.map f) t0) (t : Nat) : s'.blk t = if t = t0 then .free else f (s.blk t) := by
 by_cases htt : t = t0
 ·subst htt
  rw [if_pos rfl]
  refine (PS.blk_of (b := Blk.free) ht ?_).trans rfl
  rw [hh, H.get_set, if_pos rfl]
 ·rw [if_neg htt]
  exact PS.blk_lift h0 hs hr hp fun _ => by rw [hh, H.get_set, if_neg htt, H.get_map]
theorem Blk.shown_toRow (t j : Nat) (b : Blk) : (b.toRow t j).shown = b.shown.toRow t j := by
 cases b <;> rfl
theorem Blk.shown_kill (t : Nat) (b : Blk) : (b.kill t).shown = b.shown.kill t := by
 cases b <;> rfl
theorem PS.blk_setB {t : Nat} (v : Blk) (ht : t < 16000) (u : Nat) (hv : v.shown = v := by rfl) : (s.setB t v).blk u = if u = t then v else s.blk u := by
 by_cases e : u = t
 ·subst e
  rw [if_pos rfl, PS.blk_of ht (b := v) (by simp only [PS.setB, H.get_set v s.hp u u, if_true]), hv]
 ·rw [if_neg e]
  exact PS.blk_same (s := s) (s' := s.setB t v) rfl fun _ => by show (H.set v s.hp t).get u = _; rw [H.get_set, if_neg e]
theorem PS.blk_setB' {t : Nat} (v : Blk) (ht : t < 16000) (hv : v.shown = v) (u : Nat) : (s.setB t v).blk u = if u = t then v else s.blk u := PS.blk_setB v ht u hv
theorem PS.get_setB {t : Nat} (v : Blk) (u : Nat) : (s.setB t v).get u = s.get u := rfl
theorem Blk.isFree_iff {b : Blk} : b.isFree = true ↔ b = .free := by cases b <;> simp [Blk.isFree]
theorem PS.n_drop {t : Nat} : (s.drop t).n = s.n := by unfold PS.drop; split <;> rfl
end
structure Base where
 w : World
 p : Nat → Prop
 up : List (Array Value) := []
 defs : List Deferred := []
 ro : Option Nat := none
structure Pinned (B0 : Nat) (w : World) (p : Nat → Prop) (D : Nat) : Prop where
 obj : w.heap[D]? = some (.deferred (some []))
 base : B0 ≤ D
 data : ¬ p D
theorem Pinned.lt {B0 : Nat} {w : World} {p : Nat → Prop} {D : Nat} (h : Pinned B0 w p D) : D < w.heap.size := by
 obtain ⟨h1, _⟩ := Array.getElem?_eq_some_iff.1 h.obj
 exact h1
def markOf (D : Nat) : Deferred := { target := .collected D, args := #[] }
def GlobsOk (w : World) (p : Nat → Prop) : Prop := (∀ g sh x, globs g = some ⟨sh, x⟩ → RepL w p (fun _ => none) (fun _ => .free) (.iptr sh x 0) (.pointer (some ⟨g, 0, none⟩)) ∧ ∃ cs T fr, w.heap[g]? = some (.cells cs T fr) ∧ cs.size = sh.size) ∧
 ∀ g, globI g = true → p g ∧ ∃ m : Int, w.cell? ⟨g, 0, none⟩ = some (.int .i64 m)
theorem GlobsOk.mono {w w' : World} {p p' : Nat → Prop} (h : GlobsOk w p) (hp : ∀ b, p b → p' b ∧ w'.heap[b]? = w.heap[b]?) : GlobsOk w' p' := by
 refine ⟨fun g sh x hg => ?_, fun g hg => ?_⟩
 case refine_2 =>
  obtain ⟨h1, m, h2⟩ := h.2 g hg
  exact ⟨(hp g h1).1, m, by rw [World.cell?_of_block (hp g h1).2]; exact h2⟩
 obtain ⟨h1, cs, T, fr, h2, h3⟩ := h.1 g sh x hg
 refine ⟨RepL.keep ⟨hp, fun _ _ h => (by cases h), fun _ _ => BlkSim.refl _⟩ h1, cs, T, fr, ?_, h3⟩
 obtain ⟨b, q, us, e, hb, _⟩ := h1
 obtain rfl : g = b := congrArg Addr.block (Option.some.inj (Value.pointer.inj e))
 rw [(hp g hb).2]
 exact h2
def MarksOk (B0 : Nat) (w : World) (p : Nat → Prop) (ds : List Deferred) : Prop := GlobsOk w p ∧ ∃ l : List Nat, l.Nodup ∧ ds = l.map markOf ∧ ∀ D ∈ l, Pinned B0 w p D
theorem MarksOk.imp {B0 : Nat} {w w' : World} {p p' : Nat → Prop} {ds : List Deferred} (h : MarksOk B0 w p ds) (hd : ∀ b, p b → p' b ∧ w'.heap[b]? = w.heap[b]?) (hp : ∀ D, Pinned B0 w p D → Pinned B0 w' p' D) : MarksOk B0 w' p' ds := by
 obtain ⟨h0, l, h1, h2, h3⟩ := h
 exact ⟨h0.mono hd, l, h1, h2, fun D hD => hp D (h3 D hD)⟩
theorem MarksOk.nil {B0 : Nat} {w : World} {p : Nat → Prop} (h : GlobsOk w p) : MarksOk B0 w p [] := ⟨h, [], List.nodup_nil, rfl, fun _ h => by cases h⟩
theorem MarksOk.keep {B0 : Nat} {w w' : World} {p : Nat → Prop} {ds : List Deferred} (h : MarksOk B0 w p ds) (hd : ∀ b, p b → w'.heap[b]? = w.heap[b]?) (hp : ∀ D, Pinned B0 w p D → w'.heap[D]? = w.heap[D]?) : MarksOk B0 w' p ds :=
 h.imp (fun b hb => ⟨hb, hd b hb⟩) fun D hD => ⟨by rw [hp D hD]; exact hD.obj, hD.base, hD.data⟩
theorem MarksOk.more {B0 : Nat} {w : World} {p p' : Nat → Prop} {ds : List Deferred} (h : MarksOk B0 w p ds) (hd : ∀ b, p b → p' b) (hp : ∀ D, Pinned B0 w p D → ¬ p' D) : MarksOk B0 w p' ds :=
 h.imp (fun b hb => ⟨hd b hb, rfl⟩) fun D hD => ⟨hD.obj, hD.base, hp D hD⟩
def UpsRep (w : World) (p : Nat → Prop) (β : Nat → Option Value) (H : Nat → Blk) : List (Nat × M SV) → List (Array Value) → Prop
 | [], [] => True
 | x :: l, vs :: r => (vs.size = x.1 ∧ x.1 ≤ 16000 ∧ ∀ t v, vs[t]? = some v → RepS w p β H (getM x.2 t) v) ∧ UpsRep w p β H l r
 | _, _ => False
theorem UpsRep.of {w w' : World} {p p' : Nat → Prop} {β β' : Nat → Option Value} {H H' : Nat → Blk} {f : SV → SV} (hu : f undefS = undefS) (hf : ∀ x v, RepS w p β H x v → RepS w' p' β' H' (f x) v) :
 ∀ {l : List (Nat × M SV)} {r : List (Array Value)}, UpsRep w p β H l r → UpsRep w' p' β' H' (mapUp f l) r
 | [], [], _ => trivial
 | [], _ :: _, h => h.elim
 | _ :: _, [], h => h.elim
 | x :: l, vs :: r, ⟨⟨h1, h2, h3⟩, h⟩ => ⟨⟨h1, h2, fun t v hv => by
    have e : getM (x.2.map f) t = f (getM x.2 t) := by
     simp only [getM, M.get_map]
     cases x.2.get t <;> simp [hu]
    simp only []
    rw [e]
    exact hf _ _ (h3 t v hv)⟩, UpsRep.of hu hf h⟩
theorem UpsRep.keep {w w' : World} {p p' : Nat → Prop} {β β' : Nat → Option Value} {H H' : Nat → Blk} (hf : ∀ x v, RepS w p β H x v → RepS w' p' β' H' x v) :
 ∀ {l : List (Nat × M SV)} {r : List (Array Value)}, UpsRep w p β H l r → UpsRep w' p' β' H' l r
 | [], [], _ => trivial
 | [], _ :: _, h => h.elim
 | _ :: _, [], h => h.elim
 | _ :: _, _ :: _, ⟨⟨h1, h2, h3⟩, h⟩ => ⟨⟨h1, h2, fun t v hv => hf _ _ (h3 t v hv)⟩, UpsRep.keep hf h⟩
structure Inv (B0 : Nat) (w0 : Base) (β : Nat → Option Value) (p : Nat → Prop) (s : PS) (a : Act) (w : World) : Prop where
 size : a.tmps.size = s.n
 deep : s.n ≤ 16000
 defers : MarksOk B0 w p (a.defers ++ w0.defs)
 ext : Below B0 w0.w w
 base : B0 ≤ w.heap.size
 shared : ∀ b, p b → b < w.heap.size ∧ ∀ t r, β t = some r → rootBlock r ≠ some b
 conf : ∀ b, p b → w0.p b ∨ B0 ≤ b
 inj : ∀ t u r q b, β t = some r → β u = some q → rootBlock r = some b → rootBlock q = some b → t = u
 blks : ∀ t, match β t with
  | some r => RepB w p β s.blk B0 (s.blk t) r ∧ (t < 16000 ∨ 16000 ≤ t)
  | none => s.blk t = .free
 slots : ∀ t v, a.tmps[t]? = some v → RepS w p β s.blk (s.get t) v
 ups : UpsRep w p β s.blk s.up w0.up
def Rel (B0 : Nat) (w0 : Base) (s : PS) (a : Act) (w : World) : Prop := ∃ β p, Inv B0 w0 β p s a w
section
variable {B0 : Nat} {w0 : Base} {β : Nat → Option Value} {p : Nat → Prop} {s : PS} {a : Act} {w : World}
theorem Inv.blk (h : Inv B0 w0 β p s a w) {t : Nat} {r : Value} (hr : β t = some r) : RepB w p β s.blk B0 (s.blk t) r := by
 have := h.blks t; rw [hr] at this; exact this.1
theorem PS.lt_of_blk {s : PS} {t : Nat} (h0 : s.blk t ≠ .free) (h1 : ¬ (s.blk t).isRow) : t < 16000 := by
 rcases Nat.lt_or_ge t 16000 with h | h
 ·exact h
 ·rw [PS.blk_high h, PS.rowB] at h0 h1
  cases hp : s.pl with
  | none => rw [hp] at h0; exact absurd rfl h0
  | some x =>
    rw [hp] at h0 h1
    dsimp only at h0 h1
    cases hx : x.2[t - 16000]? with
    | none => rw [hx] at h0; exact absurd rfl h0
    | some l => rw [hx] at h1; exact absurd trivial h1
theorem Inv.lt (h : Inv B0 w0 β p s a w) {t : Nat} {r : Value} (hr : β t = some r) (h1 : ¬ (s.blk t).isRow) : t < 16000 :=
 PS.lt_of_blk (fun e => by have := h.blk hr; rw [e] at this; exact this.elim) h1
theorem Inv.root_of (h : Inv B0 w0 β p s a w) {t : Nat} (hb : s.blk t ≠ .free) : ∃ r, β t = some r := by
 have := h.blks t
 cases hr : β t with
 | some r => exact ⟨r, rfl⟩
 | none => rw [hr] at this; exact absurd this hb
theorem Inv.get (h : Inv B0 w0 β p s a w) (t : Nat) : RepS w p β s.blk (s.get t) (a.eval (.tmp t)) ∨ s.n ≤ t := by
 by_cases ht : t < a.tmps.size
 ·left
  have := h.slots t a.tmps[t] (by simp [ht])
  simpa [Act.eval, ht] using this
 ·right; rw [← h.size]; omega
theorem Act.put_size (a : Act) (d : Option Tmp) (v : Value) : (a.put d v).tmps.size = a.tmps.size := by cases d <;> simp [Act.put]
theorem Act.put_defers' (a : Act) (d : Option Tmp) (v : Value) : (a.put d v).defers = a.defers := by cases d <;> rfl
theorem trim_some {ts : List Nat} : s.trim (some ts) = bif ts.all (fun t => Nat.blt t 16000) then { n := s.n, tmps := ofList (ts.map fun t => (t, s.get t)) .e, hp := s.hp, up := s.up, pl := s.pl } else s := rfl
theorem trim_blk {l : Option (List Nat)} : (s.trim l).blk = s.blk := by
 cases l with
 | none => rfl
 | some ts =>
   rw [trim_some]
   cases ts.all (fun t => Nat.blt t 16000) <;> rfl
theorem Inv.trim (h : Inv B0 w0 β p s a w) (l : Option (List Nat)) : Inv B0 w0 β p (s.trim l) a w := by
 cases l with
 | none => exact h
 | some ts =>
   rw [trim_some]
   cases hl : ts.all (fun t => Nat.blt t 16000) with
   | false => exact h
   | true =>
     refine ⟨h.size, h.deep, h.defers, h.ext, h.base, h.shared, h.conf, h.inj, h.blks, fun t v hv => ?_, h.ups⟩
     show RepS w p β s.blk (match (ofList (ts.map fun t => (t, s.get t)) .e).get t with | some v => v | none => undefS) v
     rw [get_ofList s.get ts .e t (fun t ht => by simpa using List.all_eq_true.1 hl t ht)]
     by_cases hu : t ∈ ts
     ·simp only [hu, if_true]; exact h.slots t v hv
     ·simp only [hu, if_false, M.get_e]; trivial
theorem Inv.put (h : Inv B0 w0 β p s a w) (d : Option Tmp) {x : SV} {v : Value} (hx : RepS w p β s.blk x v) : Inv B0 w0 β p (s.put d x) (a.put d v) w := by
 cases d with
 | none => exact h
 | some d =>
   by_cases hd : d < s.n
   ·have hlt : Nat.blt d s.n = true := by simp [hd]
    have hdep := lt_depth hd h.deep
    have e : s.put (some d) x = s.setT d x := by simp only [PS.put, hlt, cond_true]
    rw [e]
    refine ⟨by rw [Act.put_size]; exact h.size, h.deep, h.defers, h.ext, h.base, h.shared, h.conf, h.inj, h.blks, fun t y ht => ?_, h.ups⟩
    rw [PS.get_setT x hdep t]
    show RepS w p β s.blk _ _
    simp only [Act.put, Array.getElem?_setIfInBounds] at ht
    by_cases htd : t = d
    ·subst htd
     rw [if_pos rfl] at ht ⊢
     split at ht
     ·obtain rfl := Option.some.inj ht; exact hx
     ·cases ht
    ·rw [if_neg htd]
     rw [if_neg (fun h => htd h.symm)] at ht
     exact h.slots t y ht
   ·have hlt : Nat.blt d s.n = false := by
     cases hq : Nat.blt d s.n with
     | false => rfl
     | true => exact absurd (Nat.blt_eq ▸ hq) hd
    have e : s.put (some d) x = s := by simp only [PS.put, hlt, cond_false]
    have e2 : a.put (some d) v = a := by
     have : a.tmps.setIfInBounds d v = a.tmps := by
      apply Array.ext
      ·exact Array.size_setIfInBounds
      ·intro i h1 h2
       have h3 := h.size
       have hdi : d ≠ i := fun e => hd (by rw [e, ← h3]; exact h2)
       rw [Array.getElem_setIfInBounds, if_neg hdi]
     show ({ a with tmps := a.tmps.setIfInBounds d v } : Act) = a
     rw [this]
    rw [e, e2]; exact h
theorem Inv.world {w' : World} (h : Inv B0 w0 β p s a w) (hb : Below w.heap.size w w') : Inv B0 w0 β p s a w' := by
 have hk : Keeps w w' p p β β s.blk s.blk := ⟨fun b hb' => ⟨hb', hb.block b (h.shared b hb').1⟩, fun _ _ h => h, fun _ _ => BlkSim.refl _⟩
 refine ⟨h.size, h.deep, h.defers.keep (fun b hb' => hb.block b (h.shared b hb').1) (fun D hD => hb.block D hD.lt), h.ext.trans (hb.mono h.base), Nat.le_trans h.base hb.size, fun b hb' => ⟨Nat.lt_of_lt_of_le (h.shared b hb').1 hb.size, (h.shared b hb').2⟩, h.conf, h.inj, fun t => ?_, fun t v hv => RepS.keep hk (h.slots t v hv), UpsRep.keep (fun _ _ h => RepS.keep hk h) h.ups⟩
 have := h.blks t
 cases hr : β t with
 | none => rw [hr] at this; exact this
 | some r =>
   rw [hr] at this
   exact ⟨RepB.keep hk (fun g hg => hb.block g (this.1.root g hg).2) this.1, this.2⟩
theorem Inv.more {p' : Nat → Prop} (h : Inv B0 w0 β p s a w) (hp : ∀ b, p b → p' b) (hn : ∀ b, p' b → b < w.heap.size ∧ ∀ t r, β t = some r → rootBlock r ≠ some b) (hcf : ∀ b, p' b → w0.p b ∨ B0 ≤ b) (hpin : MarksOk B0 w p' (a.defers ++ w0.defs)) : Inv B0 w0 β p' s a w := by
 have hk : Keeps w w p p' β β s.blk s.blk := ⟨fun b hb' => ⟨hp b hb', rfl⟩, fun _ _ h => h, fun _ _ => BlkSim.refl _⟩
 refine ⟨h.size, h.deep, hpin, h.ext, h.base, hn, hcf, h.inj, fun t => ?_, fun t v hv => RepS.keep hk (h.slots t v hv), UpsRep.keep (fun _ _ h => RepS.keep hk h) h.ups⟩
 have := h.blks t
 cases hr : β t with
 | none => rw [hr] at this; exact this
 | some r => rw [hr] at this; exact ⟨RepB.keep hk (fun _ _ => rfl) this.1, this.2⟩
theorem Inv.drop (h : Inv B0 w0 β p s a w) (t0 : Nat) (ht : t0 < 16000) : Inv B0 w0 (fun t => if t = t0 then none else β t) p (s.drop t0) a w ∧ (∀ c v, RepL w p β s.blk c v → RepL w p (fun t => if t = t0 then none else β t) (s.drop t0).blk (c.kill t0) v) := by
 have hdep := key_depth ht
 by_cases hf : (s.blk t0).isFree = true
 ·have e : s.drop t0 = s := by simp [PS.drop, hf]
  have hn : β t0 = none := by
   cases hr : β t0 with
   | none => rfl
   | some r => have := h.blk hr; rw [Blk.isFree_iff.1 hf] at this; exact this.elim
  have eβ : (fun t => if t = t0 then none else β t) = β := by
   funext t; by_cases e : t = t0
   ·subst e; simp [hn]
   ·simp [e]
  rw [e, eβ]
  exact ⟨h, fun c v hc => RepL.kill (t0 := t0) ⟨fun b hb => ⟨hb, rfl⟩, fun _ _ _ h => h, fun _ _ _ => BlkSim.refl _⟩ hc⟩
 ·have e : s.drop t0 = { n := s.n, tmps := s.tmps.map (SV.kill t0), hp := H.set .free (s.hp.map (Blk.kill t0)) t0, up := mapUp (SV.kill t0) s.up, pl := s.pl } := by simp [PS.drop, hf]
  have eb : ∀ t, (s.drop t0).blk t = if t = t0 then .free else (s.blk t).kill t0 := by
   intro t
   rw [e]
   by_cases htt : t = t0
   ·subst htt
    rw [if_pos rfl]
    refine (PS.blk_of (b := Blk.free) ht ?_).trans rfl
    show (H.set Blk.free (s.hp.map (Blk.kill t)) t).get t = _
    rw [H.get_set, if_pos rfl]
   ·rw [if_neg htt]
    exact PS.blk_lift (s := s) (s' := { n := s.n, tmps := s.tmps.map (SV.kill t0), hp := H.set .free (s.hp.map (Blk.kill t0)) t0, up := mapUp (SV.kill t0) s.up, pl := s.pl }) (f := Blk.kill t0) rfl (Blk.shown_kill t0) (fun _ _ => rfl) rfl fun _ => by show (H.set Blk.free (s.hp.map (Blk.kill t0)) t0).get t = _; rw [H.get_set, if_neg htt, H.get_map]
  have eg : ∀ t, (s.drop t0).get t = (s.get t).kill t0 := by
   intro t
   rw [e]
   simp only [PS.get, M.get_map]
   cases hh : s.tmps.get t <;> simp [SV.kill, CV.kill, LV.kill, undefS]
  have simk : ∀ b : Blk, BlkSim b (b.kill t0) := by
   intro b; cases b <;> simp [Blk.kill, BlkSim]
  have hk : KeepsBut (some t0) w w p p β (fun t => if t = t0 then none else β t) s.blk (s.drop t0).blk := by
   refine ⟨fun b hb => ⟨hb, rfl⟩, fun t v ht' hv => ?_, fun t ht' _ => ?_⟩
   ·have : t ≠ t0 := fun e => ht'.elim (fun h => h (by rw [e])) (fun h => by omega)
    simp [this, hv]
   ·have : t ≠ t0 := fun e => ht'.elim (fun h => h (by rw [e])) (fun h => by omega)
    rw [eb t, if_neg this]
    exact simk _
  refine ⟨⟨by rw [PS.n_drop]; exact h.size, by rw [PS.n_drop]; exact h.deep, h.defers, h.ext, h.base, fun b hb => ⟨(h.shared b hb).1, fun t r hr => ?_⟩, h.conf, fun t u r q b h1 h2 h3 h4 => ?_, fun t => ?_, fun t v hv => ?_, ?_⟩, fun c v hc => RepL.kill hk hc⟩
  ·by_cases htt : t = t0
   ·simp [htt] at hr
   ·simp [htt] at hr; exact (h.shared b hb).2 t r hr
  ·by_cases htt : t = t0
   ·simp [htt] at h1
   ·by_cases huu : u = t0
    ·simp [huu] at h2
    ·simp [htt] at h1; simp [huu] at h2
     exact h.inj t u r q b h1 h2 h3 h4
  ·by_cases htt : t = t0
   ·subst htt; simp [eb]
   ·simp only [htt, if_false]
    have := h.blks t
    cases hr : β t with
    | none => rw [hr] at this; rw [eb t, if_neg htt, this]; rfl
    | some r =>
      rw [hr] at this
      rw [eb t, if_neg htt]
      exact ⟨RepB.kill hk (fun _ _ => rfl) this.1, this.2⟩
  ·rw [eg t]
   exact RepS.kill hk (h.slots t v hv)
  ·have eu : (s.drop t0).up = mapUp (SV.kill t0) s.up := by rw [e]
   rw [eu]
   exact UpsRep.of rfl (fun x v hx => RepS.kill hk hx) h.ups
theorem PS.wipe_blk {s : PS} {t0 : Nat} (ht : t0 < 16000) (t : Nat) : (s.wipe t0).blk t = if t = t0 then .free else (s.blk t).kill t0 := by
 by_cases htt : t = t0
 ·subst htt
  rw [if_pos rfl]
  refine (PS.blk_of (b := Blk.free) ht ?_).trans rfl
  show (H.set Blk.free (s.hp.map (Blk.kill t)) t).get t = _
  rw [H.get_set, if_pos rfl]
 ·rw [if_neg htt]
  exact PS.blk_lift (s := s) (s' := s.wipe t0) (f := Blk.kill t0) rfl (Blk.shown_kill t0) (fun _ _ => rfl) rfl fun _ => by show (H.set Blk.free (s.hp.map (Blk.kill t0)) t0).get t = _; rw [H.get_set, if_neg htt, H.get_map]
theorem PS.wipe_get {s : PS} {t0 : Nat} (t : Nat) : (s.wipe t0).get t = (s.get t).kill t0 := by
 simp only [PS.wipe, PS.get, M.get_map]
 cases hh : s.tmps.get t <;> simp [SV.kill, CV.kill, LV.kill, undefS]
theorem PS.drop_wipe {s : PS} {t0 : Nat} (h : (s.blk t0).isFree = false) : s.drop t0 = s.wipe t0 := by simp [PS.drop, PS.wipe, h]
theorem Inv.fresh {w' : World} (h : Inv B0 w0 β p s a w) {t0 : Nat} (ht : t0 < 16000) (hfree : β t0 = none) (hbel : Below B0 w w') (hdata : ∀ b, p b → w'.heap[b]? = w.heap[b]?)
 (hpin : ∀ D, Pinned B0 w p D → w'.heap[D]? = w.heap[D]?) (hown : ∀ t r b, β t = some r → rootBlock r = some b → w'.heap[b]? = w.heap[b]?) {r0 : Value} (hr0 : ∀ b, rootBlock r0 = some b → ¬ p b ∧ ∀ t r, β t = some r → rootBlock r ≠ some b)
 {b0 : Blk} {x : SV} {v : Value}
 (hbx : Keeps w w' p p β (fun t => if t = t0 then some r0 else β t) s.blk (s.setB t0 b0).blk → RepB w' p (fun t => if t = t0 then some r0 else β t) (s.setB t0 b0).blk B0 b0 r0 ∧
   ((fun t => if t = t0 then some r0 else β t) t0 = some r0 → (s.setB t0 b0).blk t0 = b0 → RepS w' p (fun t => if t = t0 then some r0 else β t) (s.setB t0 b0).blk x v)) (hsh : b0.shown = b0 := by rfl) :
 Inv B0 w0 (fun t => if t = t0 then some r0 else β t) p ((s.setT t0 x).setB t0 b0) (a.put (some t0) v) w' := by
 have hdep := key_depth ht
 have eb : ((s.setT t0 x).setB t0 b0).blk = (s.setB t0 b0).blk := by funext t; rw [PS.blk_setB' _ hdep hsh, PS.blk_setB' _ hdep hsh]; rfl
 have hk : Keeps w w' p p β (fun t => if t = t0 then some r0 else β t) s.blk (s.setB t0 b0).blk := by
  refine ⟨fun b hb => ⟨hb, hdata b hb⟩, fun t v hv => ?_, fun t hs => ?_⟩
  ·have : t ≠ t0 := fun e => by rw [e, hfree] at hv; cases hv
   simp [this, hv]
  ·have : t ≠ t0 := fun e => by rw [e, hfree] at hs; cases hs
   rw [PS.blk_setB' _ hdep hsh, if_neg this]; exact BlkSim.refl _
 obtain ⟨hb0, hx⟩ := hbx hk
 have hx := hx (by simp) (by rw [PS.blk_setB' _ hdep hsh, if_pos rfl])
 refine ⟨by rw [Act.put_size]; exact h.size, h.deep, by rw [Act.put_defers']; exact h.defers.keep hdata hpin, h.ext.trans hbel, Nat.le_trans h.base hbel.size, fun b hb => ⟨Nat.lt_of_lt_of_le (h.shared b hb).1 hbel.size, fun t r hr => ?_⟩, h.conf, fun t u r q b h1 h2 h3 h4 => ?_, fun t => ?_, fun t y hy => ?_, ?_⟩
 ·by_cases htt : t = t0
  ·simp [htt] at hr; subst hr; exact fun e => (hr0 b e).1 hb
  ·simp [htt] at hr; exact (h.shared b hb).2 t r hr
 ·by_cases htt : t = t0
  ·by_cases huu : u = t0
   ·rw [htt, huu]
   ·simp [htt] at h1; simp [huu] at h2; subst h1
    exact absurd h4 ((hr0 b h3).2 u q h2)
  ·by_cases huu : u = t0
   ·simp [htt] at h1; simp [huu] at h2; subst h2
    exact absurd h3 ((hr0 b h4).2 t r h1)
   ·simp [htt] at h1; simp [huu] at h2; exact h.inj t u r q b h1 h2 h3 h4
 ·rw [eb]
  by_cases htt : t = t0
  ·subst htt
   simp only [if_true]
   rw [PS.blk_setB' _ hdep hsh, if_pos rfl]
   exact ⟨hb0, .inl ht⟩
  ·simp only [htt, if_false]
   have := h.blks t
   cases hr : β t with
   | none => rw [hr] at this; simp only []; rw [PS.blk_setB' _ hdep hsh, if_neg htt]; exact this
   | some r =>
     rw [hr] at this
     simp only []
     rw [PS.blk_setB' _ hdep hsh, if_neg htt]
     exact ⟨RepB.keep hk (fun g hg => hown t r g hr hg) this.1, this.2⟩
 ·rw [eb, PS.get_setB, PS.get_setT x hdep t]
  simp only [Act.put, Array.getElem?_setIfInBounds] at hy
  by_cases htt : t = t0
  ·subst htt
   rw [if_pos rfl] at hy ⊢
   split at hy
   ·obtain rfl := Option.some.inj hy; exact hx
   ·cases hy
  ·rw [if_neg htt]
   rw [if_neg (fun h => htt h.symm)] at hy
   exact RepS.keep hk (h.slots t y hy)
 ·rw [eb]
  exact UpsRep.keep (fun _ _ h => RepS.keep hk h) h.ups
theorem Inv.writeAt {w' : World} {s' : PS} (h : Inv B0 w0 β p s a w) {t0 : Nat} {r0 : Value} (hr : β t0 = some r0) (hbel : Below B0 w w')
 (hoth : ∀ b, rootBlock r0 ≠ some b → w'.heap[b]? = w.heap[b]?) {b0 : Blk} (hsim : BlkSim (s.blk t0) b0) (hn : s'.n = s.n) (hg : ∀ t, s'.get t = s.get t) (hu : s'.up = s.up) (hbl : ∀ t, s'.blk t = if t = t0 then b0 else s.blk t)
 (hb0 : Keeps w w' p p β β s.blk s'.blk → RepB w' p β s'.blk B0 b0 r0) : Inv B0 w0 β p s' a w' := by
 have hk : Keeps w w' p p β β s.blk s'.blk := by
  refine ⟨fun b hb => ⟨hb, hoth b ((h.shared b hb).2 t0 r0 hr)⟩, fun t v hv => hv, fun t hs => ?_⟩
  rw [hbl]
  by_cases e : t = t0
  ·subst e; simpa using hsim
  ·simp [e, BlkSim.refl]
 have hb0 := hb0 hk
 refine ⟨by rw [hn]; exact h.size, by rw [hn]; exact h.deep, h.defers.keep (fun b hb => hoth b ((h.shared b hb).2 t0 r0 hr)) (fun D hD => hoth D fun e => (h.blk hr).kind D _ e hD.obj), h.ext.trans hbel, Nat.le_trans h.base hbel.size, fun b hb => ⟨Nat.lt_of_lt_of_le (h.shared b hb).1 hbel.size, (h.shared b hb).2⟩, h.conf, h.inj, fun t => ?_, fun t y hy => by rw [hg]; exact RepS.keep hk (h.slots t y hy), by rw [hu]; exact UpsRep.keep (fun _ _ h => RepS.keep hk h) h.ups⟩
 have := h.blks t
 by_cases htt : t = t0
 ·subst htt
  rw [hr] at this ⊢
  simp only []
  exact ⟨by rw [hbl, if_pos rfl]; exact hb0, this.2⟩
 ·cases hrt : β t with
  | none => rw [hrt] at this; simp only []; rw [hbl, if_neg htt]; exact this
  | some r =>
    rw [hrt] at this
    simp only []
    rw [hbl, if_neg htt]
    refine ⟨RepB.keep hk (fun g hg => hoth g fun e => htt (h.inj t t0 r r0 g hrt hr hg e)) this.1, this.2⟩
theorem Inv.write {w' : World} (h : Inv B0 w0 β p s a w) {t0 : Nat} {r0 : Value} (hr : β t0 = some r0) (hbel : Below B0 w w')
 (hoth : ∀ b, rootBlock r0 ≠ some b → w'.heap[b]? = w.heap[b]?) {b0 : Blk} (hsim : BlkSim (s.blk t0) b0) (hb0 : Keeps w w' p p β β s.blk (s.setB t0 b0).blk → RepB w' p β (s.setB t0 b0).blk B0 b0 r0) (hnr : ¬ b0.isRow := by exact id) :
 Inv B0 w0 β p (s.setB t0 b0) a w' := by
 have ht := h.lt hr fun hrow => by
  cases hb : s.blk t0 with
  | rowb T xs => rw [hb] at hsim; obtain ⟨ys, rfl, _⟩ := hsim; exact hnr trivial
  | _ => rw [hb] at hrow; exact hrow
 exact h.writeAt hr hbel hoth hsim rfl (fun _ => rfl) rfl (PS.blk_setB _ (key_depth ht)) hb0
theorem Inv.toRow (inv : Inv B0 w0 β p s a w) {t0 j : Nat} {s1 : PS} (h : s.toRow t0 = some (j, s1)) :
 ∃ β', Inv B0 w0 β' p s1 a w ∧ s1.n = s.n ∧ (∀ t, s1.get t = svMap (LV.toRow t0 j) (s.get t)) ∧ ∀ c v, RepL w p β s.blk c v → RepL w p β' s1.blk (c.toRow t0 j) v := by
 unfold PS.toRow at h
 cases hlt : Nat.blt t0 16000 with
 | false => rw [hlt] at h; cases h
 | true =>
   rw [hlt, cond_true] at h
   have ht : t0 < 16000 := by rw [Nat.blt_eq] at hlt; exact hlt
   split at h
   case h_2 => cases h
   rename_i T xs hblk
   split at h
   case h_2 => cases h
   rename_i rows hrows
   obtain ⟨ej, es⟩ := Prod.mk.inj (Option.some.inj h)
   obtain ⟨r0, hr0⟩ := inv.root_of (t := t0) (by rw [hblk]; simp)
   have hold : ∀ i, s.rowB i = match rows[i]? with | some l => .rowb T l | none => .free := fun i => by
    unfold PS.rowB
    unfold PS.rowsOf at hrows
    cases hp : s.pl with
    | none => rw [hp] at hrows; obtain rfl := Option.some.inj hrows; rfl
    | some x =>
      rw [hp] at hrows
      dsimp only at hrows
      split at hrows
      ·rename_i hT; obtain rfl := Option.some.inj hrows; subst hT; rfl
      ·cases hrows
   have hpl : s1.pl = some (T, rows ++ [xs]) := by rw [← es]
   have hjl : j = rows.length := ej.symm
   have eb : ∀ t, s1.blk t = if t = t0 then .free else if t = 16000 + j then .rowb T xs else (s.blk t).toRow t0 j := by
    intro t
    by_cases htt : t = t0
    ·subst htt
     rw [if_pos rfl]
     refine (PS.blk_of (b := Blk.free) ht ?_).trans rfl
     rw [← es]
     show (H.set Blk.free (s.hp.map (Blk.toRow t rows.length)) t).get t = _
     rw [H.get_set, if_pos rfl]
    ·rw [if_neg htt]
     rcases Nat.lt_or_ge t 16000 with hl | hl
     ·rw [if_neg (by omega), PS.blk_low hl, PS.blk_low hl, ← Blk.shown_toRow, PS.raw, PS.raw, ← es]
      show Blk.shown (match (H.set Blk.free (s.hp.map (Blk.toRow t0 rows.length)) t0).get t with | some b => b | none => .free) = _
      rw [H.get_set, if_neg htt, H.get_map, hjl]
      cases s.hp.get t <;> rfl
     ·rw [PS.blk_high hl, PS.blk_high hl, hold, PS.rowB, hpl]
      dsimp only
      by_cases hj : t = 16000 + j
      ·subst hj
       rw [if_pos rfl, Nat.add_sub_cancel_left, hjl, List.getElem?_append_right (Nat.le_refl _), Nat.sub_self]
       rfl
      ·rw [if_neg hj]
       rcases Nat.lt_or_ge (t - 16000) rows.length with h1 | h1
       ·rw [List.getElem?_append_left h1]
        cases rows[t - 16000]? <;> rfl
       ·rw [List.getElem?_append_right h1, List.getElem?_eq_none h1]
        have : ¬ t - 16000 - rows.length = 0 := by omega
        rw [List.getElem?_eq_none (by simp only [List.length_singleton]; omega)]
        rfl
   have eg : ∀ t, s1.get t = svMap (LV.toRow t0 j) (s.get t) := by
    intro t
    rw [← es, hjl]
    simp only [PS.get, M.get_map]
    cases hh : s.tmps.get t <;> rfl
   have simk : ∀ b : Blk, BlkSim b (b.toRow t0 j) := by
    intro b; cases b <;> simp [Blk.toRow, BlkSim]
   have hfj : s.blk (16000 + j) = .free := by
    rw [PS.blk_high (Nat.le_add_right _ _), hold, Nat.add_sub_cancel_left, hjl, List.getElem?_eq_none (Nat.le_refl _)]
   have hβj : β (16000 + j) = none := by
    cases hr : β (16000 + j) with
    | none => rfl
    | some r => have := inv.blk hr; rw [hfj] at this; exact this.elim
   let β' : Nat → Option Value := fun t => if t = t0 then none else if t = 16000 + j then some r0 else β t
   have hk : KeepsBut (some t0) w w p p β β' s.blk s1.blk := by
    refine ⟨fun b hb => ⟨hb, rfl⟩, fun t v ht' hv => ?_, fun t ht' hs => ?_⟩
    ·have h1 : t ≠ t0 := fun e => ht'.elim (fun h => h (by rw [e])) (fun h => by omega)
     have h2 : t ≠ 16000 + j := fun e => by rw [e, hβj] at hv; cases hv
     show (if t = t0 then none else if t = 16000 + j then some r0 else β t) = some v
     rw [if_neg h1, if_neg h2, hv]
    ·have h1 : t ≠ t0 := fun e => ht'.elim (fun h => h (by rw [e])) (fun h => by omega)
     have h2 : t ≠ 16000 + j := fun e => by rw [e, hβj] at hs; cases hs
     rw [eb t, if_neg h1, if_neg h2]
     exact simk _
   have hβ' : β' (16000 + j) = some r0 := by
    show (if 16000 + j = t0 then none else if 16000 + j = 16000 + j then some r0 else β (16000 + j)) = some r0
    rw [if_neg (by omega), if_pos rfl]
   have hb' : s1.blk (16000 + j) = .rowb T xs := by rw [eb, if_neg (by omega), if_pos rfl]
   obtain ⟨us, hown, he, hrow⟩ : RepB w p β s.blk B0 (.buf T (.int .i64) xs) r0 := by have := inv.blk hr0; rwa [hblk] at this
   have leaf : ∀ c v, RepL w p β s.blk c v → RepL w p β' s1.blk (c.toRow t0 j) v := by
    intro c v hc
    have hkill := RepL.kill hk hc
    cases c <;> try exact hkill
    case full u =>
     simp only [LV.toRow]
     split
     ·rename_i hu
      subst hu
      have h1 : β u = some v := hc.1
      rw [hr0] at h1
      obtain rfl := Option.some.inj h1
      exact ⟨hβ', by rw [hb']; trivial, hc.2.2⟩
     ·rename_i hu
      simp only [LV.kill, hu, if_false] at hkill
      exact hkill
   have partS : ∀ y u, RepS w p β s.blk y u → RepS w p β' s1.blk (svMap (LV.toRow t0 j) y) u := fun y u h0 => RepS.of rfl leaf h0
   have en : s1.n = s.n := by rw [← es]
   have eu : s1.up = mapUp (svMap (LV.toRow t0 j)) s.up := by rw [← es, hjl]
   have none' : ∀ {t r}, β' t = some r → t ≠ t0 ∧ ((t = 16000 + j ∧ r = r0) ∨ (t ≠ 16000 + j ∧ β t = some r)) := fun {t r} hr => by
    have hr : (if t = t0 then none else if t = 16000 + j then some r0 else β t) = some r := hr
    by_cases h1 : t = t0
    ·rw [if_pos h1] at hr; cases hr
    ·rw [if_neg h1] at hr
     refine ⟨h1, ?_⟩
     by_cases h2 : t = 16000 + j
     ·rw [if_pos h2] at hr; exact .inl ⟨h2, (Option.some.inj hr).symm⟩
     ·rw [if_neg h2] at hr; exact .inr ⟨h2, hr⟩
   refine ⟨β', ⟨by rw [en]; exact inv.size, by rw [en]; exact inv.deep, inv.defers, inv.ext, inv.base, fun b hb => ⟨(inv.shared b hb).1, fun t r hr => ?_⟩, inv.conf, fun t u r q b h1 h2 h3 h4 => ?_, fun t => ?_, fun t v hv => ?_, ?_⟩, en, eg, leaf⟩
   ·rcases none' hr with ⟨_, ⟨_, rfl⟩ | ⟨_, hr⟩⟩
    ·exact (inv.shared b hb).2 t0 _ hr0
    ·exact (inv.shared b hb).2 t r hr
   ·obtain ⟨n1, g1⟩ := none' h1
    obtain ⟨n2, g2⟩ := none' h2
    rcases g1 with ⟨e1, q1⟩ | ⟨m1, g1⟩ <;> rcases g2 with ⟨e2, q2⟩ | ⟨m2, g2⟩
    ·rw [e1, e2]
    ·rw [q1] at h3; exact absurd (inv.inj t0 u _ q b hr0 g2 h3 h4).symm n2
    ·rw [q2] at h4; exact absurd (inv.inj t t0 r _ b g1 hr0 h3 h4) n1
    ·exact inv.inj t u r q b g1 g2 h3 h4
   ·rw [eb t]
    by_cases htt : t = t0
    ·rw [if_pos htt, show β' t = none from if_pos htt]
    ·rw [if_neg htt]
     by_cases hj : t = 16000 + j
     ·rw [if_pos hj, hj, hβ']
      exact ⟨⟨us, hown, hrow⟩, .inr (Nat.le_add_right _ _)⟩
     ·rw [if_neg hj, show β' t = β t from (if_neg htt).trans (if_neg hj)]
      have := inv.blks t
      cases hr : β t with
      | none => rw [hr] at this; simp only []; rw [this]; rfl
      | some r =>
        rw [hr] at this
        simp only []
        refine ⟨?_, this.2⟩
        have kb : ∀ b, RepB w p β s.blk B0 b r → RepB w p β' s1.blk B0 (b.toRow t0 j) r := fun b hb => by
         have h2 := RepB.of (f := LV.toRow t0 j) leaf (fun b hb => ⟨hb, rfl⟩) (fun _ _ => rfl) hb
         cases b <;> exact h2
        exact kb _ this.1
   ·rw [eg t]
    exact partS _ _ (inv.slots t v hv)
   ·rw [eu]
    exact UpsRep.of rfl partS inv.ups
end
end Go.Ev
namespace Go.Ev
theorem pow_split (a b : Nat) : (2 : Int) ^ (a + b) = 2 ^ a * 2 ^ b := Int.pow_add 2 a b
theorem pow_pos' (a : Nat) : (0 : Int) < 2 ^ a := Int.pow_pos (by decide)
theorem scale {X pl n : Int} {K0 : Nat} (h0 : 0 ≤ pl + K0) (e : X * 2 ^ (pl + K0).toNat = n * 2 ^ K0) (K : Nat) (hK : 0 ≤ pl + K) : X * 2 ^ (pl + K).toNat = n * 2 ^ K := by
 rcases Nat.le_total K0 K with h | h
 ·obtain ⟨d, rfl⟩ := Nat.le.dest h
  have : (pl + (K0 + d : Nat)).toNat = (pl + K0).toNat + d := by omega
  rw [this, pow_split, pow_split, ← Int.mul_assoc, e, Int.mul_assoc]
 ·obtain ⟨d, rfl⟩ := Nat.le.dest h
  have : (pl + (K + d : Nat)).toNat = (pl + K).toNat + d := by omega
  rw [this, pow_split, pow_split, ← Int.mul_assoc, ← Int.mul_assoc] at e
  exact Int.eq_of_mul_eq_mul_right (Int.ne_of_gt (pow_pos' d)) e
theorem Val.of_one {neg : Bool} {mag : Nat} {place n : Int} {K : Nat} (h : 0 ≤ place + K) (e : sgn neg mag * 2 ^ (place + K).toNat = n * 2 ^ K) : Val (.number neg mag place) n :=
 ⟨neg, mag, place, rfl, scale h e⟩
theorem signed_eq (neg : Bool) (mag up : Nat) : Ieee.signed neg mag up = sgn neg mag * 2 ^ up := by
 have : ((mag <<< up : Nat) : Int) = (mag : Int) * 2 ^ up := by rw [Nat.shiftLeft_eq]; simp
 cases neg
 ·simp only [Ieee.signed, sgn, this, Bool.false_eq_true, if_false]
 ·simp only [Ieee.signed, sgn, this, if_true]; rw [Int.neg_mul]
theorem sgn_natAbs (t : Int) (b : Bool) (h : t ≠ 0 → b = decide (t < 0)) : sgn b t.natAbs = t := by
 unfold sgn
 by_cases h0 : t = 0
 ·subst h0; simp
 ·rw [h h0]
  by_cases hl : t < 0
  ·simp [hl]; omega
  ·simp [hl]; omega
theorem Val.sum {d1 d2 : Ieee.Datum} {a b : Int} (h1 : Val d1 a) (h2 : Val d2 b) : ∃ d, d1.sum d2 = some d ∧ Val d (a + b) := by
 obtain ⟨s, m, i, rfl, e1⟩ := h1
 obtain ⟨t, n, j, rfl, e2⟩ := h2
 refine ⟨_, rfl, ?_⟩
 generalize hbase : min i j = base
 have hbi : base ≤ i := by omega
 have hbj : base ≤ j := by omega
 generalize htot : Ieee.signed s m (i - base).toNat + Ieee.signed t n (j - base).toNat = total
 refine Val.of_one (K := base.natAbs) (by omega) ?_
 rw [sgn_natAbs total _ (by intro h; simp [h])]
 have f1 := e1 base.natAbs (by omega)
 have f2 := e2 base.natAbs (by omega)
 rw [← htot, signed_eq, signed_eq, Int.add_mul, Int.add_mul, ← f1, ← f2, Int.mul_assoc, Int.mul_assoc, ← pow_split, ← pow_split]
 congr 3 <;> congr 1 <;> omega
theorem sgn_mul (s t : Bool) (m n : Nat) : sgn (s ^^ t) (m * n) = sgn s m * sgn t n := by
 cases s <;> cases t <;> simp [sgn, Int.neg_mul, Int.mul_neg]
theorem Val.product {d1 d2 : Ieee.Datum} {a b : Int} (h1 : Val d1 a) (h2 : Val d2 b) : ∃ d, d1.product d2 = some d ∧ Val d (a * b) := by
 obtain ⟨s, m, i, rfl, e1⟩ := h1
 obtain ⟨t, n, j, rfl, e2⟩ := h2
 refine ⟨_, rfl, Val.of_one (K := i.natAbs + j.natAbs) (by omega) ?_⟩
 have f1 := e1 i.natAbs (by omega)
 have f2 := e2 j.natAbs (by omega)
 have : (i + j + (i.natAbs + j.natAbs : Nat)).toNat = (i + i.natAbs).toNat + (j + j.natAbs).toNat := by omega
 rw [sgn_mul, this, pow_split, pow_split]
 have e0 : sgn s m * sgn t n * (2 ^ (i + i.natAbs).toNat * 2 ^ (j + j.natAbs).toNat) = (sgn s m * 2 ^ (i + i.natAbs).toNat) * (sgn t n * 2 ^ (j + j.natAbs).toNat) := by
  simp only [Int.mul_assoc, Int.mul_left_comm, Int.mul_comm]
 rw [e0, f1, f2]
 simp only [Int.mul_assoc, Int.mul_left_comm, Int.mul_comm]
theorem Val.opposite {d : Ieee.Datum} {a : Int} (h : Val d a) : Val d.opposite (-a) := by
 obtain ⟨s, m, i, rfl, e⟩ := h
 refine ⟨!s, m, i, rfl, fun K hK => ?_⟩
 have := e K hK
 have hs : sgn (!s) m = -sgn s m := by cases s <;> simp [sgn]
 rw [hs, Int.neg_mul, this, Int.neg_mul]
theorem Val.nat {neg : Bool} {mag : Nat} {place n : Int} (h : Val (.number neg mag place) n) : (0 ≤ place → mag * 2 ^ place.toNat = n.natAbs) ∧ (place ≤ 0 → mag = n.natAbs * 2 ^ (-place).toNat) ∧ (mag ≠ 0 → (neg = true ↔ n < 0)) := by
 obtain ⟨neg', mag', place', he, h⟩ := h
 obtain ⟨rfl, rfl, rfl⟩ := Ieee.Datum.number.inj he
 have habs : (sgn neg mag).natAbs = mag := by cases neg <;> simp [sgn]
 refine ⟨fun hp => ?_, fun hp => ?_, fun hm => ?_⟩
 ·have := congrArg Int.natAbs (h 0 (by omega))
  simpa [Int.natAbs_mul, Int.natAbs_pow, habs] using this
 ·have := congrArg Int.natAbs (h (-place).toNat (by omega))
  have hz : (place + ((-place).toNat : Nat)).toNat = 0 := by omega
  rw [hz] at this
  simpa [Int.natAbs_mul, Int.natAbs_pow, habs] using this
 ·have hK := h place.natAbs (by omega)
  have h1 := pow_pos' (place + place.natAbs).toNat
  have h2 := pow_pos' place.natAbs
  cases neg
  ·simp only [sgn, Bool.false_eq_true, if_false, false_iff] at hK ⊢
   intro hn
   have : n * 2 ^ place.natAbs < 0 := Int.mul_neg_of_neg_of_pos hn h2
   have : 0 ≤ (mag : Int) * 2 ^ (place + place.natAbs).toNat := Int.mul_nonneg (by omega) (Int.le_of_lt h1)
   omega
  ·simp only [sgn, if_true, true_iff] at hK ⊢
   apply Int.not_le.1
   intro hn
   have : 0 ≤ n * 2 ^ place.natAbs := Int.mul_nonneg hn (Int.le_of_lt h2)
   have : -(mag : Int) * 2 ^ (place + place.natAbs).toNat < 0 := Int.mul_neg_of_neg_of_pos (by omega) h1
   omega
theorem cut_exact (way : Ieee.Toward) (hw : way = .even ∨ way = .zero) (neg : Bool) (q drop : Nat) (hq : q ≠ 0 ∨ drop = 0) : way.cut neg (q * 2 ^ drop) drop = q := by
 have hmin : min drop ((q * 2 ^ drop).log2 + 2) = drop := by
  rcases hq with hq | hq
  ·have : drop ≤ (q * 2 ^ drop).log2 := by
    rw [Nat.le_log2 (Nat.mul_ne_zero hq (Nat.ne_of_gt (Nat.two_pow_pos _)))]
    exact Nat.le_mul_of_pos_left _ (Nat.pos_of_ne_zero hq)
   omega
  ·subst hq; simp
 have hpos := Nat.two_pow_pos drop
 unfold Ieee.Toward.cut
 simp only [hmin, Nat.one_shiftLeft, Nat.mul_div_cancel _ hpos, Nat.mul_mod_left]
 have : ¬ (2 ^ drop = 0) := by omega
 rcases hw with rfl | rfl <;> simp [this]
theorem Val.toInt {d : Ieee.Datum} {n : Int} (h : Val d n) : d.toInt .zero = some n := by
 obtain ⟨neg, mag, place, rfl, hv⟩ := h
 obtain ⟨h1, h2, h3⟩ := Val.nat ⟨neg, mag, place, rfl, hv⟩
 simp only [Ieee.Datum.toInt, Ieee.Datum.integral, signed_eq, Option.some.injEq, Int.pow_zero, Int.mul_one]
 have hm : mag ≠ 0 ∨ n = 0 := by
  by_cases h0 : mag = 0
  ·right
   subst h0
   have := hv place.natAbs (by omega)
   have hs : sgn neg 0 = 0 := by cases neg <;> simp [sgn]
   rw [hs, Int.zero_mul] at this
   rcases Int.mul_eq_zero.1 this.symm with h | h
   ·exact h
   ·exact absurd h (Int.ne_of_gt (pow_pos' _))
  ·exact .inl h0
 have key : ∀ m : Nat, m = n.natAbs → sgn neg m = n := by
  intro m hmn
  rcases hm with hm | hm
  ·have := h3 hm
   subst hmn
   cases neg
   ·simp only [Bool.false_eq_true, false_iff] at this; simp [sgn]; omega
   ·simp only [true_iff] at this; simp [sgn]; omega
  ·subst hm; subst hmn; simp [sgn]
 apply key
 rcases Int.le_total 0 place with hp | hp
 ·have hd : (-place).toNat = 0 := by omega
  have := cut_exact .zero (.inr rfl) neg (mag <<< place.toNat) 0 (.inr rfl)
  rw [hd]
  simp only [Nat.pow_zero, Nat.mul_one] at this
  rw [this, Nat.shiftLeft_eq]
  exact h1 hp
 ·have hz : place.toNat = 0 := by omega
  have hq := h2 hp
  rw [hz, Nat.shiftLeft_zero, hq]
  rcases hm with hm | hm
  ·exact cut_exact .zero (.inr rfl) neg _ _ (.inl (by intro h0; rw [h0, Nat.zero_mul] at hq; exact hm hq))
  ·subst hm
   simp [Ieee.Toward.cut]
theorem log2_shift {x : Nat} (hx : x ≠ 0) (k : Nat) : (x * 2 ^ k).log2 = x.log2 + k := by
 have h0 : x * 2 ^ k ≠ 0 := Nat.mul_ne_zero hx (Nat.ne_of_gt (Nat.two_pow_pos _))
 rw [Nat.log2_eq_iff h0]
 refine ⟨?_, ?_⟩
 ·rw [Nat.pow_add]; exact Nat.mul_le_mul_right _ (Nat.log2_self_le hx)
 ·rw [show x.log2 + k + 1 = (x.log2 + 1) + k from by omega, Nat.pow_add]; exact Nat.mul_lt_mul_of_pos_right Nat.lt_log2_self (Nat.two_pow_pos _)
structure Wide (f : Ieee.Format) : Prop where
 e : f.fractionBits + 2 ^ (f.exponentBits - 1) + 1 < 2 ^ f.exponentBits
 two : 2 ≤ 2 ^ (f.exponentBits - 1)
theorem wide32 : Wide Ieee.single := ⟨by decide, by decide⟩
theorem wide64 : Wide Ieee.double := ⟨by decide, by decide⟩
theorem word_read (f : Ieee.Format) (neg : Bool) {rung : Nat} (h : rung < f.signWeight) :
 f.word neg rung / f.signWeight % 2 = neg.toNat ∧ f.word neg rung % f.signWeight = rung := by
 have hp : 0 < f.signWeight := by omega
 cases neg
 ·simp only [Ieee.Format.word, Bool.false_eq_true, if_false]
  exact ⟨by rw [Nat.div_eq_of_lt h]; rfl, Nat.mod_eq_of_lt h⟩
 ·simp only [Ieee.Format.word, if_true]
  refine ⟨?_, ?_⟩
  ·rw [Nat.add_div_left _ hp, Nat.div_eq_of_lt h]; rfl
  ·rw [Nat.add_mod_left, Nat.mod_eq_of_lt h]
theorem Val.write {f : Ieee.Format} (hf : Wide f) {d : Ieee.Datum} {n : Int} (h : Val d n) (hn : n.natAbs < 2 ^ (f.fractionBits + 1)) : Val (f.read (f.write d)) n := by
 obtain ⟨neg, mag, place, rfl, hv⟩ := h
 obtain ⟨h1, h2, h3⟩ := Val.nat ⟨neg, mag, place, rfl, hv⟩
 have hbin : 0 < f.binade := Nat.two_pow_pos _
 have hsw : f.signWeight = 2 ^ f.exponentBits * f.binade := by simp only [Ieee.Format.signWeight, Ieee.Format.binade, Nat.pow_add]
 have h1e : 1 ≤ 2 ^ f.exponentBits := Nat.one_le_two_pow
 show Val (f.read (f.nearest neg mag place)) n
 by_cases hm : mag = 0
 ·have hn0 : n = 0 := by
   have := hv place.natAbs (by omega)
   have hs : sgn neg mag = 0 := by subst hm; cases neg <;> simp [sgn]
   rw [hs, Int.zero_mul] at this
   rcases Int.mul_eq_zero.1 this.symm with h | h
   ·exact h
   ·exact absurd h (Int.ne_of_gt (pow_pos' _))
  subst hn0
  have hlt : 0 < f.signWeight := by rw [hsw]; exact Nat.mul_pos (by omega) hbin
  obtain ⟨r1, r2⟩ := word_read f neg hlt
  simp only [Ieee.Format.nearest, hm, if_true, Ieee.Format.read, r1, r2, hbin]
  refine Val.of_one (K := f.leastPlace.natAbs) (by omega) ?_
  cases (neg.toNat == 1) <;> simp [sgn]
 ·have hN : n.natAbs ≠ 0 := by
   intro h0
   rcases Int.le_total 0 place with hp | hp
   ·have := h1 hp; rw [h0] at this
    rcases Nat.mul_eq_zero.1 this with h | h
    ·exact hm h
    ·exact absurd h (Nat.ne_of_gt (Nat.two_pow_pos _))
   ·have := h2 hp; rw [h0, Nat.zero_mul] at this; exact hm this
  generalize hL : n.natAbs.log2 = L
  have hL1 : L ≤ f.fractionBits := by
   have := (Nat.log2_lt hN).2 hn
   omega
  have hlo : 2 ^ L ≤ n.natAbs := by rw [← hL]; exact Nat.log2_self_le hN
  have hhi : n.natAbs < 2 ^ (L + 1) := by rw [← hL]; exact Nat.lt_log2_self
  have hlog : place + (mag.log2 : Int) = (L : Int) := by
   rcases Int.le_total 0 place with hp | hp
   ·have e := h1 hp
    have : n.natAbs.log2 = mag.log2 + place.toNat := by
     rw [← e, log2_shift hm]
    omega
   ·have e := h2 hp
    have : mag.log2 = n.natAbs.log2 + (-place).toNat := by
     rw [e, log2_shift hN]
    omega
  have hlp : f.leastPlace = 2 - (2 ^ (f.exponentBits - 1) : Nat) - f.fractionBits := by simp [Ieee.Format.leastPlace]
  have h2e := hf.two
  generalize hlast : max (place + (mag.log2 : Int) - f.fractionBits) f.leastPlace = last
  have hlast' : last = (L : Int) - f.fractionBits := by omega
  have hkept : Ieee.Toward.even.cut neg (mag <<< (place - last).toNat) (last - place).toNat = n.natAbs * 2 ^ (f.fractionBits - L) := by
   rcases Int.le_total last place with hp | hp
   ·have hz : (last - place).toNat = 0 := by omega
    have := cut_exact .even (.inl rfl) neg (mag <<< (place - last).toNat) 0 (.inr rfl)
    rw [hz]
    simp only [Nat.pow_zero, Nat.mul_one] at this
    rw [this, Nat.shiftLeft_eq]
    rcases Int.le_total 0 place with hq | hq
    ·have e := h1 hq
     have : (place - last).toNat = place.toNat + (f.fractionBits - L) := by omega
     rw [this, Nat.pow_add, ← Nat.mul_assoc, e]
    ·have e := h2 hq
     have : f.fractionBits - L = (-place).toNat + (place - last).toNat := by omega
     rw [this, Nat.pow_add, ← Nat.mul_assoc, ← e]
   ·have hz : (place - last).toNat = 0 := by omega
    have e := h2 (by omega)
    have : (-place).toNat = (f.fractionBits - L) + (last - place).toNat := by omega
    rw [hz, Nat.shiftLeft_zero]
    have e2 : mag = (n.natAbs * 2 ^ (f.fractionBits - L)) * 2 ^ (last - place).toNat := by rw [e, this, Nat.pow_add, Nat.mul_assoc]
    have := cut_exact .even (.inl rfl) neg (n.natAbs * 2 ^ (f.fractionBits - L)) (last - place).toNat (.inl (Nat.mul_ne_zero hN (Nat.ne_of_gt (Nat.two_pow_pos _))))
    rw [← e2] at this
    exact this
  generalize hk : n.natAbs * 2 ^ (f.fractionBits - L) = kept at hkept
  have hbf : f.binade = 2 ^ f.fractionBits := rfl
  have hk1 : f.binade ≤ kept := by
   rw [← hk, hbf]
   have : f.fractionBits = L + (f.fractionBits - L) := by omega
   rw [show (2 : Nat) ^ f.fractionBits = 2 ^ L * 2 ^ (f.fractionBits - L) from by rw [← Nat.pow_add, ← this]]
   exact Nat.mul_le_mul_right _ hlo
  have hk2 : kept < 2 * f.binade := by
   rw [← hk, hbf]
   have : f.fractionBits + 1 = (L + 1) + (f.fractionBits - L) := by omega
   rw [show 2 * (2 : Nat) ^ f.fractionBits = 2 ^ (L + 1) * 2 ^ (f.fractionBits - L) from by rw [← Nat.pow_add, ← this, Nat.pow_succ, Nat.mul_comm]]
   exact Nat.mul_lt_mul_of_pos_right hhi (Nat.two_pow_pos _)
  generalize hE : (last - f.leastPlace).toNat = E
  have hE1 : E = L + 2 ^ (f.exponentBits - 1) - 2 := by omega
  have hE2 : E + 2 < 2 ^ f.exponentBits := by have := hf.e; omega
  have hinf : f.infRung = (2 ^ f.exponentBits - 1) * f.binade := rfl
  have hrung : E * f.binade + kept < f.infRung := by
   rw [hinf]
   have h3 : (E + 2) * f.binade ≤ (2 ^ f.exponentBits - 1) * f.binade := Nat.mul_le_mul_right _ (by omega)
   rw [Nat.add_mul] at h3
   omega
  have hsgn : f.infRung ≤ f.signWeight := by rw [hinf, hsw]; exact Nat.mul_le_mul_right _ (by omega)
  have hnear : f.nearest neg mag place = f.word neg (E * f.binade + kept) := by
   simp only [Ieee.Format.nearest, hm, if_false, hlast, hkept, hE]
   rw [Nat.min_eq_left (Nat.le_of_lt hrung)]
  rw [hnear]
  obtain ⟨r1, r2⟩ := word_read f neg (Nat.lt_of_lt_of_le hrung hsgn)
  have hnb : ¬ (E * f.binade + kept < f.binade) := by omega
  obtain ⟨frac, rfl⟩ := Nat.le.dest hk1
  have hrm : (E * f.binade + (f.binade + frac)) % f.binade = frac := by
   have hfr : frac < f.binade := by omega
   rw [show E * f.binade + (f.binade + frac) = frac + f.binade * (E + 1) from by rw [Nat.mul_add, Nat.mul_comm E]; omega, Nat.add_mul_mod_self_left, Nat.mod_eq_of_lt hfr]
  have hrd : (E * f.binade + (f.binade + frac)) / f.binade = E + 1 := by
   have hfr : frac < f.binade := by omega
   rw [show E * f.binade + (f.binade + frac) = frac + f.binade * (E + 1) from by rw [Nat.mul_add, Nat.mul_comm E]; omega, Nat.add_mul_div_left _ _ hbin, Nat.div_eq_of_lt hfr]
   omega
  simp only [Ieee.Format.read, r1, r2, hnb, if_false, hrung, if_true, hrm, hrd]
  have hneg : (neg.toNat == 1) = neg := by cases neg <;> rfl
  rw [hneg]
  refine Val.of_one (K := f.fractionBits) (by omega) ?_
  have hpl : (f.leastPlace + ((E + 1 - 1 : Nat) : Int) + (f.fractionBits : Int)).toNat = L := by omega
  rw [hpl, ← hk]
  have hs : ∀ a b : Nat, sgn neg (a * b) = sgn neg a * b := by intro a b; cases neg <;> simp [sgn, Int.neg_mul]
  rw [hs]
  have hsn : sgn neg n.natAbs = n := by
   have := h3 hm
   cases neg
   ·simp only [Bool.false_eq_true, false_iff] at this; simp [sgn]; omega
   ·simp only [true_iff] at this; simp [sgn]; omega
  rw [hsn, Int.mul_assoc]
  congr 1
  have : f.fractionBits = (f.fractionBits - L) + L := by omega
  rw [show (2 : Int) ^ f.fractionBits = 2 ^ (f.fractionBits - L) * 2 ^ L from by rw [← pow_split, ← this]]
  simp
theorem IsF.lt {b : Nat} {n : Int} (h : IsF b n) : n.natAbs < 2 ^ (Ieee.single.fractionBits + 1) := by
 obtain ⟨_, h1, h2⟩ := h
 show n.natAbs < 16777216
 omega
theorem of_val {v : Ieee.Datum} {n : Int} (h : Val v n) (h1 : -16777216 < n) (h2 : n < 16777216) : IsF (Ieee.single.write v) n :=
 ⟨Val.write wide32 h (by show n.natAbs < 16777216; omega), h1, h2⟩
theorem isF_consts : IsF 0 0 ∧ IsF 1065353216 1 ∧ IsF 3212836864 (-1) := by
 refine ⟨⟨?_, by decide, by decide⟩, ⟨?_, by decide, by decide⟩, ⟨?_, by decide, by decide⟩⟩
 ·exact Val.of_one (n := 0) (K := 149) (neg := false) (mag := 0) (place := -149) (by decide) (by decide)
 ·exact Val.of_one (n := 1) (K := 23) (neg := false) (mag := 8388608) (place := -23) (by decide) (by decide)
 ·exact Val.of_one (n := -1) (K := 23) (neg := true) (mag := 8388608) (place := -23) (by decide) (by decide)
section
variable {P : Program} (w : World)
theorem run_intToFloat {n : Int} (h1 : -16777216 < n) (h2 : n < 16777216) : ∃ b, (Conv.intToFloat .f32 n).run P w = .ok (.float .f32 b) w ∧ IsF b n := by
 refine ⟨_, rfl, ?_⟩
 refine of_val (v := .number (n < 0) n.natAbs 0) ?_ h1 h2
 refine Val.of_one (K := 0) (by decide) ?_
 rw [sgn_natAbs n _ (fun _ => rfl)]
 rfl
theorem run_floatToInt {b : Nat} {n : Int} (h : IsF b n) : (Conv.floatToInt .f32 b .i64).run P w = .ok (.int .i64 n) w := by
 have ht := h.1.toInt
 have h1 := h.2.1
 have h2 := h.2.2
 have hmin : IntKind.min .i64 = -9223372036854775808 := by decide
 have hmax : IntKind.max .i64 = 9223372036854775807 := by decide
 have hr : IntKind.min .i64 ≤ n ∧ n ≤ IntKind.max .i64 := by rw [hmin, hmax]; omega
 simp only [Conv.floatToInt, ht, hr, and_self, if_true, Sem.run_pure]
def IsD (b : Nat) (n : Int) : Prop := Val (FloatKind.f64.decode b) n
theorem run_conv_up {b : Nat} {n : Int} (h : IsF b n) : ∃ c, (Op.Complex.conv .f32 b .f64).run P w = .ok c w ∧ IsD c n := by
 obtain ⟨neg, mag, place, hd, hv⟩ := h.1
 have hw : Val (FloatKind.f64.decode (FloatKind.f64.encode (.number neg mag place))) n :=
  Val.write wide64 ⟨neg, mag, place, rfl, hv⟩ (Nat.lt_trans h.lt (by decide))
 refine ⟨_, ?_, hw⟩
 obtain ⟨n', m', p', hd', _⟩ := hw
 simp [Op.Complex.conv, Conv.floatToFloat, hd, hd', Ieee.Datum.isInfinity]
theorem run_conv_down {b : Nat} {n : Int} (h : IsD b n) (h1 : -16777216 < n) (h2 : n < 16777216) : ∃ c, (Op.Complex.conv .f64 b .f32).run P w = .ok c w ∧ IsF c n := by
 obtain ⟨neg, mag, place, hd, hv⟩ := h
 have hw : Val (FloatKind.f32.decode (FloatKind.f32.encode (.number neg mag place))) n :=
  Val.write wide32 ⟨neg, mag, place, rfl, hv⟩ (by show n.natAbs < 16777216; omega)
 refine ⟨_, ?_, hw, h1, h2⟩
 obtain ⟨n', m', p', hd', _⟩ := hw
 simp [Op.Complex.conv, Conv.floatToFloat, hd, hd', Ieee.Datum.isInfinity]
theorem run_arith_d {op : BinOp} {a b : Nat} {m n : Int} (ha : IsD a m) (hb : IsD b n) {r : Int}
 (hr : (op = .add ∧ r = m + n) ∨ (op = .sub ∧ r = m - n) ∨ (op = .mul ∧ r = m * n)) (hs : r.natAbs < 2 ^ 53) :
 ∃ c, (Op.Complex.arith op .f64 a b).run P w = .ok c w ∧ IsD c r := by
 have hs' : r.natAbs < 2 ^ (Ieee.double.fractionBits + 1) := hs
 rcases hr with ⟨rfl, rfl⟩ | ⟨rfl, rfl⟩ | ⟨rfl, rfl⟩
 ·obtain ⟨d, h1, h2⟩ := Val.sum ha hb
  exact ⟨_, run_carith w (show floatBits .add .f64 a b = some (Ieee.double.write d) by
   show Ieee.Format.add Ieee.double a b = _
   rw [Ieee.Format.add]; erw [h1]; rfl), Val.write wide64 h2 hs'⟩
 ·obtain ⟨d, h1, h2⟩ := Val.sum ha (Val.opposite hb)
  exact ⟨_, run_carith w (show floatBits .sub .f64 a b = some (Ieee.double.write d) by
   show Ieee.Format.sub Ieee.double a b = _
   rw [Ieee.Format.sub]; erw [h1]; rfl), Val.write wide64 (by rw [Int.sub_eq_add_neg]; exact h2) hs'⟩
 ·obtain ⟨d, h1, h2⟩ := Val.product ha hb
  exact ⟨_, run_carith w (show floatBits .mul .f64 a b = some (Ieee.double.write d) by
   show Ieee.Format.mul Ieee.double a b = _
   rw [Ieee.Format.mul]; erw [h1]; rfl), Val.write wide64 h2 hs'⟩
theorem run_arith_f {op : BinOp} {a b : Nat} {m n : Int} (ha : IsF a m) (hb : IsF b n) {r : Int}
 (hr : (op = .add ∧ r = m + n) ∨ (op = .sub ∧ r = m - n)) (h1 : -16777216 < r) (h2 : r < 16777216) :
 ∃ c, (Op.Complex.arith op .f32 a b).run P w = .ok c w ∧ IsF c r := by
 rcases hr with ⟨rfl, rfl⟩ | ⟨rfl, rfl⟩
 ·obtain ⟨d, e1, e2⟩ := Val.sum ha.1 hb.1
  exact ⟨_, run_carith w (show floatBits .add .f32 a b = some (Ieee.single.write d) by
   show Ieee.Format.add Ieee.single a b = _
   rw [Ieee.Format.add]; erw [e1]; rfl), of_val e2 h1 h2⟩
 ·obtain ⟨d, e1, e2⟩ := Val.sum ha.1 (Val.opposite hb.1)
  exact ⟨_, run_carith w (show floatBits .sub .f32 a b = some (Ieee.single.write d) by
   show Ieee.Format.sub Ieee.single a b = _
   rw [Ieee.Format.sub]; erw [e1]; rfl), of_val (by rw [Int.sub_eq_add_neg]; exact e2) h1 h2⟩
theorem mul_small {m n : Int} (hm : m.natAbs < 16777216) (hn : n.natAbs < 16777216) : (m * n).natAbs < 281474976710656 := by
 rw [Int.natAbs_mul]
 have := Nat.mul_lt_mul'' hm hn
 simpa using this
theorem zcOp_run {op : BinOp} {T : TypeId} {a b c d : Int} {v : LV} (h : zcOp op a b c d = some (true, v)) {xa xb xc xd : Nat}
 (ha : IsF xa a) (hb : IsF xb b) (hc : IsF xc c) (hd : IsF xd d) :
 ∃ u, (binOp op T (.complex .f32 xa xb) (.complex .f32 xc xd)).run P w = .ok u w ∧ ∀ w' p β H, RepL w' p β H v u := by
 have na := ha.lt; have nb := hb.lt; have nc := hc.lt; have nd := hd.lt
 have e24 : (2 : Nat) ^ (Ieee.single.fractionBits + 1) = 16777216 := by decide
 rw [e24] at na nb nc nd
 cases op <;> simp only [zcOp, Option.some.injEq, Prod.mk.injEq, reduceCtorEq, Bool.and_eq_true, small24, decide_eq_true_eq] at h
 case add =>
  obtain ⟨⟨⟨h1, h2⟩, h3, h4⟩, rfl⟩ := h
  obtain ⟨x, r1, i1⟩ := run_arith_f (P := P) w ha hc (.inl ⟨rfl, rfl⟩) h1 h2
  obtain ⟨y, r2, i2⟩ := run_arith_f (P := P) w hb hd (.inl ⟨rfl, rfl⟩) h3 h4
  exact ⟨.complex .f32 x y, by simp [binOp, Op.complexOp, r1, r2], fun _ _ _ _ => ⟨x, y, rfl, i1, i2⟩⟩
 case sub =>
  obtain ⟨⟨⟨h1, h2⟩, h3, h4⟩, rfl⟩ := h
  obtain ⟨x, r1, i1⟩ := run_arith_f (P := P) w ha hc (.inr ⟨rfl, rfl⟩) h1 h2
  obtain ⟨y, r2, i2⟩ := run_arith_f (P := P) w hb hd (.inr ⟨rfl, rfl⟩) h3 h4
  exact ⟨.complex .f32 x y, by simp [binOp, Op.complexOp, r1, r2], fun _ _ _ _ => ⟨x, y, rfl, i1, i2⟩⟩
 case mul =>
  obtain ⟨⟨⟨h1, h2⟩, h3, h4⟩, rfl⟩ := h
  obtain ⟨ya, q1, j1⟩ := run_conv_up (P := P) w ha
  obtain ⟨yb, q2, j2⟩ := run_conv_up (P := P) w hb
  obtain ⟨yc, q3, j3⟩ := run_conv_up (P := P) w hc
  obtain ⟨yd, q4, j4⟩ := run_conv_up (P := P) w hd
  have m1 := mul_small na nc
  have m2 := mul_small nb nd
  have m3 := mul_small na nd
  have m4 := mul_small nb nc
  obtain ⟨zac, r1, k1⟩ := run_arith_d (P := P) w j1 j3 (op := .mul) (.inr (.inr ⟨rfl, rfl⟩)) (by omega)
  obtain ⟨zbd, r2, k2⟩ := run_arith_d (P := P) w j2 j4 (op := .mul) (.inr (.inr ⟨rfl, rfl⟩)) (by omega)
  obtain ⟨zad, r3, k3⟩ := run_arith_d (P := P) w j1 j4 (op := .mul) (.inr (.inr ⟨rfl, rfl⟩)) (by omega)
  obtain ⟨zbc, r4, k4⟩ := run_arith_d (P := P) w j2 j3 (op := .mul) (.inr (.inr ⟨rfl, rfl⟩)) (by omega)
  obtain ⟨zre, r5, k5⟩ := run_arith_d (P := P) w k1 k2 (op := .sub) (.inr (.inl ⟨rfl, rfl⟩)) (by omega)
  obtain ⟨zim, r6, k6⟩ := run_arith_d (P := P) w k3 k4 (op := .add) (.inl ⟨rfl, rfl⟩) (by omega)
  obtain ⟨x, r7, i1⟩ := run_conv_down (P := P) w k5 h1 h2
  obtain ⟨y, r8, i2⟩ := run_conv_down (P := P) w k6 h3 h4
  exact ⟨.complex .f32 x y, by simp [binOp, Op.complexOp, Op.Complex.product, Op.Complex.mul, Op.Complex.sub, Op.Complex.add, q1, q2, q3, q4, r1, r2, r3, r4, r5, r6, r7, r8], fun _ _ _ _ => ⟨x, y, rfl, i1, i2⟩⟩
end
end Go.Ev
end
