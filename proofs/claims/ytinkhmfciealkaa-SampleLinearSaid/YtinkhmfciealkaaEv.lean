/- A pure evaluator of the model's code over typed data: the definitions. Nothing is proved here. -/
import Derived.Laws.AppendOwn
import Derived.KernelRfl
import Derived.Orders
namespace Go.Ev

/-- The shapes of data. -/
inductive Sh where
  | int (k : IntKind)
  | bool
  | str
  | zf
  | zc
  | slice (e : Sh)
  | map (k v : Sh)
  | pair (a b : Sh)
  | agg (s : Sh)
  | unit
  deriving DecidableEq

@[reducible] def Sh.T : Sh → Type
  | .int _ => Int
  | .bool => Bool
  | .str => ByteArray
  | .zf => Int
  | .zc => Int × Int
  | .slice e => List e.T
  | .map k v => List (k.T × v.T)
  | .pair a b => a.T × b.T
  | .agg s => s.T
  | .unit => Unit

def Sh.size : Sh → Nat
  | .pair a b => a.size + b.size
  | .agg s => s.size
  | .unit => 0
  | _ => 1

def Sh.isAgg : Sh → Bool
  | .agg _ => true
  | _ => false

def Sh.dflt : (s : Sh) → s.T
  | .int _ => (0 : Int)
  | .bool => false
  | .str => ByteArray.empty
  | .zf => (0 : Int)
  | .zc => ((0 : Int), (0 : Int))
  | .slice _ => []
  | .map _ _ => []
  | .pair a b => (a.dflt, b.dflt)
  | .agg s => s.dflt
  | .unit => ()

/-- Has the shape no memory behind it? -/
def Sh.flat : Sh → Bool
  | .slice _ | .map _ _ => false
  | .pair a b => a.flat && b.flat
  | .agg s => s.flat
  | _ => true

/-- One cell. 'ref', 'full', 'sref', 'cref', 'mref': into the store; all others are data that nobody writes. -/
inductive LV where
  | undef
  | int (k : IntKind) (n : Int)
  | bool (b : Bool)
  | str (s : ByteArray)
  | zf (n : Int)
  | zc (re im : Int)
  | slice (e : Sh) (xs : List e.T)
  | nilslice
  | fn (f : FuncId)
  | iptr (s : Sh) (x : s.T) (o : Nat)
  | nilptr
  | imap (k v : Sh) (es : List (k.T × v.T))
  | ref (t sz i o : Nat)
  | full (t : Nat)
  | sref (t sz off len : Nat)
  | cref (t o len : Nat) (e : Sh)
  | mref (t : Nat)

inductive CV where
  | l (v : LV)
  | agg (cs : List LV)

inductive SV where
  | c (v : CV)
  | tup (vs : List CV)

def undefS : SV := .c (.l .undef)

def CV.isAggC : CV → Bool
  | .l _ => false
  | .agg _ => true
def CV.cells : CV → List LV
  | .l v => [v]
  | .agg cs => cs

/-- The cells of a typed datum. -/
def Sh.cells : (s : Sh) → s.T → List LV
  | .int k, n => [.int k n]
  | .bool, b => [.bool b]
  | .str, s => [.str s]
  | .zf, n => [.zf n]
  | .zc, z => [.zc z.1 z.2]
  | .slice e, xs => [.slice e xs]
  | .map k v, es => [.imap k v es]
  | .pair a b, x => a.cells x.1 ++ b.cells x.2
  | .agg s, x => s.cells x
  | .unit, _ => []

def Sh.cv : (s : Sh) → s.T → CV
  | .agg s, x => .agg (s.cells x)
  | .int k, n => .l (.int k n)
  | .bool, b => .l (.bool b)
  | .str, s => .l (.str s)
  | .zf, n => .l (.zf n)
  | .zc, z => .l (.zc z.1 z.2)
  | .slice e, xs => .l (.slice e xs)
  | .map k v, es => .l (.imap k v es)
  | .pair _ _, _ => .l .undef
  | .unit, _ => .l .undef

/-- A typed datum out of cells, and what is left of them. -/
def Sh.take : (s : Sh) → List LV → Option (s.T × List LV)
  | .int k, .int k' n :: r => if k = k' then some (n, r) else none
  | .bool, .bool b :: r => some (b, r)
  | .str, .str s :: r => some (s, r)
  | .zf, .zf n :: r => some (n, r)
  | .zc, .zc a b :: r => some ((a, b), r)
  | .slice e, .slice e' xs :: r => if h : e' = e then some (h ▸ xs, r) else none
  | .slice _, .nilslice :: r => some ([], r)
  | .map k v, .imap k' v' es :: r => if h : k' = k ∧ v' = v then some (h.1 ▸ h.2 ▸ es, r) else none
  | .pair a b, l => match a.take l with
    | some (x, r) => match b.take r with
      | some (y, r) => some ((x, y), r)
      | none => none
    | none => none
  | .agg s, l => match s.take l with
    | some (x, r) => some (x, r)
    | none => none
  | .unit, l => some ((), l)
  | _, _ => none

def Sh.build (s : Sh) (l : List LV) : Option s.T :=
  match s.take l with
  | some (x, []) => some x
  | _ => none

/-- Data, one behind the other, out of cells: so many. -/
def Sh.rows (s : Sh) : Nat → List LV → Option (List s.T)
  | 0, [] => some []
  | 0, _ => none
  | n + 1, l => match s.take l with
    | some (x, r) => match s.rows n r with
      | some xs => some (x :: xs)
      | none => none
    | none => none

/-- A block of the store. -/
inductive Blk where
  | free
  | cells (cs : List LV)
  | arr (e : Sh) (xs : List e.T)
  | buf (T : TypeId) (e : Sh) (xs : List e.T)
  | map (k v : Sh) (es : List (k.T × v.T))

/-- A table by numbers, as a binary tree. -/
inductive M (α : Type) where
  | e
  | n (v : Option α) (l r : M α)

def M.get {α : Type} : M α → Nat → Option α
  | .e, _ => none
  | .n v l r, i => bif i == 0 then v else bif i % 2 == 1 then l.get (i / 2) else r.get (i / 2 - 1)

def M.set {α : Type} (v : α) : Nat → M α → Nat → M α
  | 0, m, _ => m
  | d + 1, .e, i => bif i == 0 then .n (some v) .e .e else bif i % 2 == 1 then .n none (M.set v d .e (i / 2)) .e else .n none .e (M.set v d .e (i / 2 - 1))
  | d + 1, .n u l r, i => bif i == 0 then .n (some v) l r else bif i % 2 == 1 then .n u (M.set v d l (i / 2)) r else .n u l (M.set v d r (i / 2 - 1))

def M.map {α : Type} (f : α → α) : M α → M α
  | .e => .e
  | .n v l r => .n (match v with | some x => some (f x) | none => none) (l.map f) (r.map f)

/-- 'n': how many slots there are. -/
structure PS where
  n : Nat
  tmps : M SV
  hp : M Blk

structure RV where
  v : SV
  b : Blk

/-! ### Types -/

def joinSh (f : TypeId → Option Sh) : List TypeId → Option Sh
  | [] => some .unit
  | t :: ts => match f t, joinSh f ts with
    | some (.agg s), some .unit => some s
    | some (.agg s), some r => some (.pair s r)
    | some s, some .unit => some s
    | some s, some r => some (.pair s r)
    | _, _ => none

def shOf (P : Program) : Nat → TypeId → Option Sh
  | 0, _ => none
  | d + 1, t => match P.underlying t with
    | some (.int k) => some (.int k)
    | some .bool => some .bool
    | some .string => some .str
    | some (.float .f32) => some .zf
    | some (.complex .f32) => some .zc
    | some (.slice e) => match shOf P d e with
      | some s => some (.slice s)
      | none => none
    | some (.map k v) => match shOf P d k, shOf P d v with
      | some a, some b => some (.map a b)
      | _, _ => none
    | some (.struct fs) => match joinSh (shOf P d) (fs.toList.map (·.type)) with
      | some s => some (.agg s)
      | none => none
    | some (.array n e) => match joinSh (shOf P d) (List.replicate n e) with
      | some s => some (.agg s)
      | none => none
    | _ => none

/-- The shape of a type, if its size is the type's. -/
def shapeOf (P : Program) (t : TypeId) : Option Sh :=
  match shOf P 8 t with
  | some s => if s.size = P.cellsOf t then some s else none
  | none => none

def isAggT (P : Program) (t : TypeId) : Bool :=
  match P.underlying t with
  | some (.struct _) | some (.array _ _) => true
  | _ => false

/-- An integer that a float is, of the few that occur as constants. -/
def f32Int (bits : Nat) : Option Int :=
  if bits = 0 then some 0 else if bits = 1065353216 then some 1 else if bits = 3212836864 then some (-1) else none

def leafOf : Value → Option LV
  | .int k n => some (.int k n)
  | .bool b => some (.bool b)
  | .string s => some (.str s)
  | .float .f32 b => match f32Int b with
    | some n => some (.zf n)
    | none => none
  | .complex .f32 a b => match f32Int a, f32Int b with
    | some m, some n => some (.zc m n)
    | _, _ => none
  | .slice none 0 0 => some .nilslice
  | .pointer none => some .nilptr
  | .func (.func f) a b => if a.size = 0 ∧ b.size = 0 then some (.fn f) else none
  | _ => none

def leavesOf : List Value → Option (List LV)
  | [] => some []
  | v :: vs => match leafOf v, leavesOf vs with
    | some x, some xs => some (x :: xs)
    | _, _ => none

def cvOf : Value → Option CV
  | .agg cs => match leavesOf cs.toList with
    | some xs => some (.agg xs)
    | none => none
  | .map none => some (.l .undef)
  | .nilFunc => some (.l .undef)
  | v => match leafOf v with
    | some x => some (.l x)
    | none => none

/-- The zero of a type; a cell of a kind that is not followed is 'undef'. -/
def oneCellB : Value → Bool
  | .agg _ | .tuple _ => false
  | _ => true
def zeroLeaves : List Value → Option (List LV)
  | [] => some []
  | v :: vs => if oneCellB v then (match zeroLeaves vs with
    | some xs => some ((leafOf v).getD .undef :: xs)
    | none => none) else none
def zeroOf (P : Program) (t : TypeId) : Option CV :=
  match P.info? t with
  | some i => match i.zero with
    | some (.agg cs) => match zeroLeaves cs.toList with
      | some xs => some (.agg xs)
      | none => none
    | some v => if oneCellB v then some (.l ((leafOf v).getD .undef)) else none
    | none => none
  | none => none

/-! ### The state -/

def PS.get (s : PS) (t : Nat) : SV := match s.tmps.get t with
  | some v => v
  | none => undefS
def PS.blk (s : PS) (t : Nat) : Blk := match s.hp.get t with
  | some b => b
  | none => .free
/-- The deepest place that is used: 2 ^ 12 slots. -/
def PS.setT (s : PS) (t : Nat) (v : SV) : PS := { s with tmps := M.set v 12 s.tmps t }
def PS.setB (s : PS) (t : Nat) (b : Blk) : PS := { s with hp := M.set b 12 s.hp t }

def ev (s : PS) : Operand → SV
  | .tmp t => bif Nat.blt t s.n then s.get t else undefS
  | .const v => match cvOf v with
    | some c => .c c
    | none => undefS
  | .func f => .c (.l (.fn f))
  | .global _ => undefS

def evC (s : PS) (x : Operand) : CV := match ev s x with
  | .c v => v
  | .tup _ => .l .undef
def evL (s : PS) (x : Operand) : LV := match ev s x with
  | .c (.l v) => v
  | _ => .undef

def PS.put (s : PS) (dst : Option Tmp) (v : SV) : PS :=
  match dst with
  | some d => bif Nat.blt d s.n then s.setT d v else s
  | none => s

def LV.kill (t : Nat) : LV → LV
  | .ref u sz i o => if u = t then .undef else .ref u sz i o
  | .full u => if u = t then .undef else .full u
  | .sref u sz a b => if u = t then .undef else .sref u sz a b
  | .cref u o n e => if u = t then .undef else .cref u o n e
  | .mref u => if u = t then .undef else .mref u
  | v => v
def CV.kill (t : Nat) : CV → CV
  | .l v => .l (v.kill t)
  | .agg cs => .agg (cs.map (LV.kill t))
def SV.kill (t : Nat) : SV → SV
  | .c v => .c (v.kill t)
  | .tup vs => .tup (vs.map (CV.kill t))
def Blk.kill (t : Nat) : Blk → Blk
  | .cells cs => .cells (cs.map (LV.kill t))
  | b => b
def Blk.isFree : Blk → Bool
  | .free => true
  | _ => false

/-- A block is given up: nothing refers to it any more. -/
def PS.drop (s : PS) (t : Nat) : PS :=
  if (s.blk t).isFree then s else
  { n := s.n, tmps := s.tmps.map (SV.kill t), hp := M.set .free 12 (s.hp.map (Blk.kill t)) t }

/-- A new block at a slot, and what refers to it. -/
def PS.new (s : PS) (t : Nat) (b : Blk) (v : SV) : Option PS :=
  bif Nat.blt t s.n then some (((s.drop t).setT t v).setB t b) else none

/-! ### Reading -/

/-- The elements that a slice shows. -/
def srcOf (s : PS) : LV → Option (Σ e : Sh, List e.T)
  | .slice e xs => some ⟨e, xs⟩
  | .full t => match s.blk t with
    | .buf _ e xs => some ⟨e, xs⟩
    | _ => none
  | .sref t _ off len => match s.blk t with
    | .buf _ e xs => some ⟨e, (xs.drop off).take len⟩
    | .arr e xs => some ⟨e, (xs.drop off).take len⟩
    | _ => none
  | .cref t o len e => match s.blk t with
    | .cells cs => match e.rows len ((cs.drop o).take (len * e.size)) with
      | some xs => some ⟨e, xs⟩
      | none => none
    | _ => none
  | _ => none

def lenOf (s : PS) : LV → Option Nat
  | .nilslice => some 0
  | .slice _ xs => some xs.length
  | .full t => match s.blk t with
    | .buf _ _ xs => some xs.length
    | _ => none
  | .sref _ _ _ len => some len
  | .cref _ _ len _ => some len
  | _ => none

def lenMap (s : PS) : LV → Option Nat
  | .imap _ _ es => some es.length
  | .mref t => match s.blk t with
    | .map _ _ es => some es.length
    | _ => none
  | _ => none

/-- A cell as data that nobody writes: what a callee is handed. -/
def snapL (s : PS) : LV → Option LV
  | .ref t _ _ o => match s.blk t with
    | .cells cs => match snapLeaves s cs with
      | some ⟨sh, x⟩ => some (.iptr sh x o)
      | none => none
    | _ => none
  | .full t => match s.blk t with
    | .buf _ e xs => some (.slice e xs)
    | _ => none
  | .sref t sz off len => match srcOf s (.sref t sz off len) with
    | some ⟨e, xs⟩ => some (.slice e xs)
    | none => none
  | .cref t o len e => match srcOf s (.cref t o len e) with
    | some ⟨e, xs⟩ => some (.slice e xs)
    | none => none
  | .mref t => match s.blk t with
    | .map k v es => some (.imap k v es)
    | _ => none
  | v => some v
where
  snapLeaf (s : PS) : LV → Option (Σ sh : Sh, sh.T)
    | .int k n => some ⟨.int k, n⟩
    | .bool b => some ⟨.bool, b⟩
    | .str x => some ⟨.str, x⟩
    | .zf n => some ⟨.zf, n⟩
    | .zc a b => some ⟨.zc, (a, b)⟩
    | .slice e xs => some ⟨.slice e, xs⟩
    | .imap k v es => some ⟨.map k v, es⟩
    | .full t => match s.blk t with
      | .buf _ e xs => some ⟨.slice e, xs⟩
      | _ => none
    | .mref t => match s.blk t with
      | .map k v es => some ⟨.map k v, es⟩
      | _ => none
    | _ => none
  snapLeaves (s : PS) : List LV → Option (Σ sh : Sh, sh.T)
    | [] => some ⟨.unit, ()⟩
    | [v] => snapLeaf s v
    | v :: vs => match snapLeaf s v, snapLeaves s vs with
      | some ⟨a, x⟩, some ⟨b, y⟩ => some ⟨.pair a b, (x, y)⟩
      | _, _ => none

def snapLs (s : PS) : List LV → Option (List LV)
  | [] => some []
  | v :: vs => match snapL s v, snapLs s vs with
    | some x, some xs => some (x :: xs)
    | _, _ => none
def snapC (s : PS) : CV → Option CV
  | .l v => match snapL s v with
    | some x => some (.l x)
    | none => none
  | .agg cs => match snapLs s cs with
    | some xs => some (.agg xs)
    | none => none
def snapCs (s : PS) : List CV → Option (List CV)
  | [] => some []
  | v :: vs => match snapC s v, snapCs s vs with
    | some x, some xs => some (x :: xs)
    | _, _ => none

/-- Are these cells data, and no references into the store? -/
def LV.pure : LV → Bool
  | .ref .. | .full _ | .sref .. | .cref .. | .mref _ => false
  | _ => true
/-- Has a cell memory behind it (that a callee may have taken from its arguments)? -/
def LV.behind : LV → Bool
  | .slice .. | .iptr .. | .imap .. => true
  | _ => false
def Blk.behind : Blk → Bool
  | .free => false
  | .cells cs => !(cs.all fun v => !v.behind)
  | .arr e _ => !e.flat
  | .buf _ e _ => !e.flat
  | .map k v _ => !(k.flat && v.flat)
/-- Is it known what kind of value this is? -/
def CV.known : CV → Bool
  | .l .undef => false
  | _ => true
def CV.all (p : LV → Bool) : CV → Bool
  | .l v => p v
  | .agg cs => cs.all p
def SV.all (p : LV → Bool) : SV → Bool
  | .c v => v.all p
  | .tup vs => vs.all (CV.all p)

/-! ### Operations -/

abbrev Step := Option (Bool × PS)

def ok (s : PS) (o : Oper) (v : SV) : Step := some (true, s.put o.dst v)
def okL (s : PS) (o : Oper) (v : LV) : Step := some (true, s.put o.dst (.c (.l v)))

/-- The cells of a type at a place in a list of cells. -/
def partOf (P : Program) (T : TypeId) (cs : List LV) (off : Nat) : Option CV :=
  match P.underlying T with
  | none => none
  | some _ => if isAggT P T then
      (if off + P.cellsOf T ≤ cs.length then some (.agg ((cs.drop off).take (P.cellsOf T))) else none)
    else match cs[off]? with
      | some v => some (.l v)
      | none => none

def blkOf (P : Program) (T : TypeId) (cs : List LV) : Blk :=
  match P.underlying T with
  | some (.array n e) => match shapeOf P e with
    | some s => match s.rows n cs with
      | some xs => if s.size = 0 then .cells cs else .arr s xs
      | none => .cells cs
    | none => .cells cs
  | _ => .cells cs

def newVar (P : Program) (s : PS) (o : Oper) (T : TypeId) (cs : List LV) : Step :=
  match o.dst with
  | some d => if cs.length = P.cellsOf T then
      match s.new d (blkOf P T (cs.map (LV.kill d))) (.c (.l (.ref d 0 0 0))) with
      | some s => some (true, s)
      | none => none
    else none
  | none => none

def loadOp (P : Program) (s : PS) (o : Oper) (T : TypeId) : LV → Step
  | .ref t sz i off => match s.blk t with
    | .cells cs => match partOf P T cs off with
      | some v => ok s o (.c v)
      | none => none
    | .arr e xs => if sz = e.size then (match partOf P T (e.cells (xs.getD i e.dflt)) off with
        | some v => ok s o (.c v)
        | none => none) else if sz = 0 ∧ i = 0 ∧ off = 0 ∧ isAggT P T ∧ (P.underlying T).isSome then
          some (decide (xs.length * e.size = P.cellsOf T), s.put o.dst (.c (.agg (xs.flatMap e.cells)))) else none
    | .buf _ e xs => if sz = e.size then (match partOf P T (e.cells (xs.getD i e.dflt)) off with
        | some v => ok s o (.c v)
        | none => none) else none
    | _ => none
  | .iptr sh x off => match partOf P T (sh.cells x) off with
    | some v => ok s o (.c v)
    | none => none
  | _ => none

def writeAt : List LV → Nat → List LV → Option (List LV)
  | cs, off, vs => if off + vs.length ≤ cs.length then some (cs.take off ++ vs ++ cs.drop (off + vs.length)) else none

def storeOp (P : Program) (s : PS) (T : TypeId) (x : CV) : LV → Step
  | .ref t sz i off =>
    if x.cells.length = P.cellsOf T ∧ x.known = true ∧ (P.info? T).isSome = true then
    match s.blk t with
    | .cells cs => match writeAt cs off x.cells with
      | some cs => some (true, s.setB t (.cells cs))
      | none => none
    | .arr e xs => if sz = e.size then (match writeAt (e.cells (xs.getD i e.dflt)) off x.cells with
        | some cs => match e.build cs with
          | some y => some (true, s.setB t (.arr e (xs.set i y)))
          | none => none
        | none => none) else if sz = 0 ∧ i = 0 ∧ off = 0 then (match e.rows xs.length x.cells with
          | some ys => some (true, s.setB t (.arr e ys))
          | none => none) else none
    | .buf U e xs => if sz = e.size then (match writeAt (e.cells (xs.getD i e.dflt)) off x.cells with
        | some cs => match e.build cs with
          | some y => some (true, s.setB t (.buf U e (xs.set i y)))
          | none => none
        | none => none) else none
    | _ => none
    else none
  | _ => none

def fieldAddrOp (P : Program) (s : PS) (o : Oper) (T : TypeId) (f : Nat) (x : LV) : Step :=
  match P.underlying T with
  | some (.struct fs) => match fs[f]? with
    | some fd => if P.cellsOf fd.type = 0 then none else
      match x with
      | .ref t sz i off => okL s o (.ref t sz i (off + fd.offset))
      | .iptr sh y off => okL s o (.iptr sh y (off + fd.offset))
      | _ => none
    | none => none
  | _ => none

def inBounds (i : Int) (n : Nat) : Bool := decide (0 ≤ i) && decide (i < (n : Int))

def indexAddrOp (P : Program) (s : PS) (o : Oper) (T : TypeId) (x : LV) (i : Int) : Step :=
  match P.underlying T with
  | some (.slice E) => match x with
    | .slice e xs => if e.size = P.cellsOf E ∧ (P.info? E).isSome then some (inBounds i xs.length, s.put o.dst (.c (.l (.iptr e (xs.getD i.toNat e.dflt) 0)))) else none
    | .full t => match s.blk t with
      | .buf _ e xs => if e.size = P.cellsOf E then some (inBounds i xs.length, s.put o.dst (.c (.l (.ref t e.size i.toNat 0)))) else none
      | _ => none
    | .sref t sz off len => if sz = P.cellsOf E then some (inBounds i len, s.put o.dst (.c (.l (.ref t sz (off + i.toNat) 0)))) else none
    | _ => none
  | some (.array n E) => if !(P.info? E).isSome then none else match x with
    | .ref t sz j off => match s.blk t with
      | .arr e xs => if e.size = P.cellsOf E ∧ sz = 0 ∧ j = 0 ∧ off = 0 ∧ 1 < n then some (inBounds i n && decide (xs.length = n), s.put o.dst (.c (.l (.ref t e.size i.toNat 0)))) else none
      | .cells _ => if 1 < n then some (inBounds i n, s.put o.dst (.c (.l (.ref t sz j (off + i.toNat * P.cellsOf E))))) else none
      | _ => none
    | .iptr sh y off => if 1 < n then some (inBounds i n, s.put o.dst (.c (.l (.iptr sh y (off + i.toNat * P.cellsOf E))))) else none
    | _ => none
  | _ => none

def indexOp (P : Program) (s : PS) (o : Oper) (T : TypeId) (x : CV) (i : Int) : Step :=
  match P.underlying T, x with
  | some (.array n E), .agg cs => match shapeOf P E with
    | some e => match e.rows n cs with
      | some xs => if e.isAgg = isAggT P E ∧ e.size = P.cellsOf E ∧ ((P.underlying E).isSome && (isAggT P E || P.cellsOf E == 1)) = true then some (inBounds i n, s.put o.dst (.c (e.cv (xs.getD i.toNat e.dflt)))) else none
      | none => none
    | none => none
  | some .string, .l (.str b) => some (inBounds i b.size, s.put o.dst (.c (.l (.int .u8 (b.data.toList.getD i.toNat 0).toNat))))
  | _, _ => none

def fieldOp (P : Program) (s : PS) (o : Oper) (T : TypeId) (f : Nat) (x : CV) : Step :=
  match P.underlying T, x with
  | some (.struct fs), .agg cs => match fs[f]? with
    | some fd => match partOf P fd.type cs fd.offset with
      | some v => ok s o (.c v)
      | none => none
    | none => none
  | _, _ => none

def fillL (place : Nat → Option (Nat × Nat)) (cells : List LV) : List (Nat × CV) → Option (List LV)
  | [] => some cells
  | (i, v) :: rest => match place i with
    | none => none
    | some (off, size) => if v.cells.length = size ∧ v.known = true then
        match writeAt cells off v.cells with
        | some cs => fillL place cs rest
        | none => none
      else none

def evParts (s : PS) : List (Nat × Operand) → List (Nat × CV)
  | [] => []
  | (i, x) :: r => (i, evC s x) :: evParts s r

def buildOp (P : Program) (s : PS) (o : Oper) (T : TypeId) (parts : List (Nat × Operand)) : Step :=
  match zeroOf P T with
  | some z => match P.underlying T with
    | some (.struct fs) => match fillL (fun i => (fs[i]?).map fun f => (f.offset, P.cellsOf f.type)) z.cells (evParts s parts) with
      | some cs => if fs.toList.all (fun f => (P.info? f.type).isSome) then ok s o (.c (.agg cs)) else none
      | none => none
    | some (.array _ E) => match fillL (fun i => some (i * P.cellsOf E, P.cellsOf E)) z.cells (evParts s parts) with
      | some cs => if (P.info? E).isSome then ok s o (.c (.agg cs)) else none
      | none => none
    | _ => none
  | none => none

def buildSliceOp (P : Program) (s : PS) (o : Oper) (T : TypeId) (n : Nat) (parts : List (Nat × Operand)) : Step :=
  match P.underlying T, o.dst with
  | some (.slice E), some d => match shapeOf P E, zeroOf P E, P.info? E with
    | some e, some z, some _ => match fillL (fun i => some (i * P.cellsOf E, P.cellsOf E)) ((List.replicate n z.cells).flatten) (evParts s parts) with
      | some cs => match e.rows n cs with
        | some xs => if e.size = P.cellsOf E ∧ 0 < e.size ∧ z.cells.length = e.size ∧ n * e.size ≤ 16777216 ∧ n ≤ 16777216 then
            (match s.new d (.buf E e xs) (.c (.l (.full d))) with
              | some s => some (true, s)
              | none => none)
          else none
        | none => none
      | none => none
    | _, _, _ => none
  | _, _ => none

def sliceOp (P : Program) (s : PS) (o : Oper) (T : TypeId) (x : LV) (lo hi : Option LV) : Step :=
  match P.underlying T with
  | some (.slice E) => match x, lo, hi with
    | .slice e xs, none, some (.int _ h) => if e.size = P.cellsOf E ∧ (P.info? E).isSome then some (decide (0 ≤ h) && decide (h ≤ (xs.length : Int)), s.put o.dst (.c (.l (.slice e (xs.take h.toNat))))) else none
    | .slice e xs, some (.int _ l), none => if e.size = P.cellsOf E ∧ (P.info? E).isSome then some (decide (0 ≤ l) && decide (l ≤ (xs.length : Int)), s.put o.dst (.c (.l (.slice e (xs.drop l.toNat))))) else none
    | .slice e xs, some (.int _ l), some (.int _ h) => if e.size = P.cellsOf E ∧ (P.info? E).isSome then some (decide (0 ≤ l) && (decide (l ≤ h) && decide (h ≤ (xs.length : Int))), s.put o.dst (.c (.l (.slice e ((xs.take h.toNat).drop l.toNat))))) else none
    | .slice e xs, none, none => if e.size = P.cellsOf E ∧ (P.info? E).isSome then some (true, s.put o.dst (.c (.l (.slice e xs)))) else none
    | _, _, _ => none
  | some (.array n E) => if !(P.info? E).isSome then none else match x, lo, hi with
    | .iptr sh y off, none, none => match shapeOf P E with
      | some e => match e.rows n (((sh.cells y).drop off).take (n * e.size)) with
        | some xs => okL s o (.slice e xs)
        | none => none
      | none => none
    | .ref t sz i off, none, none => match s.blk t with
      | .cells cs => match shapeOf P E with
        | some e => match e.rows n ((cs.drop off).take (n * e.size)) with
          | some _ => if off ≤ cs.length then okL s o (.cref t off n e) else none
          | none => none
        | none => none
      | .arr e xs => if sz = 0 ∧ i = 0 ∧ off = 0 then some (decide (xs.length = n), s.put o.dst (.c (.l (.sref t e.size 0 n)))) else none
      | _ => none
    | _, _, _ => none
  | _ => none

/-- The most bytes that a slice which grows may have here. -/
def roomFor (P : Program) (E : TypeId) (n : Nat) : Bool := decide (n * P.bytesOf E ≤ 140737488355328) && decide (n ≤ 140737488355328)

def appendOp (P : Program) (s : PS) (o : Oper) (T : TypeId) (x y : LV) : Step :=
  match P.underlying T, o.dst with
  | some (.slice E), some d => match shapeOf P E, zeroOf P E with
    | some e, some z =>
      let base : Option (Option Nat × List e.T) := match x with
        | .nilslice => some (none, [])
        | .full t => match s.blk t with
          | .buf U e' xs => if h : e' = e ∧ U = E then some (some t, h.1 ▸ xs) else none
          | _ => none
        | _ => none
      let more : Option (List e.T) := match y with
        | .nilslice => some []
        | y => match srcOf s y with
          | some ⟨e', ys⟩ => if h : e' = e then some (h ▸ ys) else none
          | none => none
      match base, more with
      | some (t, xs), some ys =>
        if e.size = P.cellsOf E ∧ 0 < e.size ∧ z.cells.length = e.size then
          let s := match t with
            | some t => s.drop t
            | none => s
          match s.new d (.buf E e (xs ++ ys)) (.c (.l (.full d))) with
          | some s' => some (roomFor P E (xs.length + ys.length), s')
          | none => none
        else none
      | _, _ => none
    | _, _ => none
  | _, _ => none

def makeSliceOp (P : Program) (s : PS) (o : Oper) (T : TypeId) (len cap : LV) : Step :=
  match P.underlying T, o.dst, len, cap with
  | some (.slice E), some d, .int _ n, .int _ c => match shapeOf P E, zeroOf P E with
    | some e, some z => match e.build z.cells with
      | some x => if e.size = P.cellsOf E ∧ 0 < e.size ∧ z.cells.length = e.size then
          (match s.new d (.buf E e (List.replicate n.toNat x)) (.c (.l (.full d))) with
          | some s' => some (decide (0 ≤ n) && (decide (n = c) && roomFor P E n.toNat), s')
          | none => none) else none
      | none => none
    | _, _ => none
  | _, _, _, _ => none

/-! Numbers -/

def intOp (op : BinOp) (k : IntKind) (a b : Int) : Option (Bool × LV) :=
  match op with
  | .add => some (true, .int k (k.wrap (a + b)))
  | .sub => some (true, .int k (k.wrap (a - b)))
  | .mul => some (true, .int k (k.wrap (a * b)))
  | .quo => some (!(b == 0), .int k (k.wrap (a.tdiv b)))
  | .rem => some (!(b == 0), .int k (a.tmod b))
  | .eql => some (true, .bool (a == b))
  | .neq => some (true, .bool (a != b))
  | .lss => some (true, .bool (decide (a < b)))
  | .leq => some (true, .bool (decide (a ≤ b)))
  | .gtr => some (true, .bool (decide (a > b)))
  | .geq => some (true, .bool (decide (a ≥ b)))
  | _ => none

def small24 (n : Int) : Bool := decide (-16777216 < n) && decide (n < 16777216)

def zcOp (op : BinOp) (a b c d : Int) : Option (Bool × LV) :=
  match op with
  | .add => some (small24 (a + c) && small24 (b + d), .zc (a + c) (b + d))
  | .sub => some (small24 (a - c) && small24 (b - d), .zc (a - c) (b - d))
  | .mul => some (small24 (a * c - b * d) && small24 (a * d + b * c), .zc (a * c - b * d) (a * d + b * c))
  | _ => none

/-- Are values equal, part by part? -/
def eqParts (P : Program) (f : TypeId → CV → CV → Option Bool) (xs ys : List LV) : List (TypeId × Nat) → Option Bool
  | [] => some true
  | (t, off) :: r => match partOf P t xs off, partOf P t ys off with
    | some a, some b => match f t a b, eqParts P f xs ys r with
      | some p, some q => some (p && q)
      | _, _ => none
    | _, _ => none

def fieldParts : List Field → List (TypeId × Nat)
  | [] => []
  | f :: r => if f.name ≠ "_" then (f.type, f.offset) :: fieldParts r else fieldParts r

def eqT (P : Program) : Nat → TypeId → CV → CV → Option Bool
  | 0, _, _, _ => none
  | d + 1, t, x, y => match P.underlying t, x, y with
    | some (.int _), .l (.int k a), .l (.int k' b) => if k = k' then some (a == b) else none
    | some .bool, .l (.bool a), .l (.bool b) => some (a == b)
    | some .string, .l (.str a), .l (.str b) => some (a == b)
    | some (.struct fs), .agg xs, .agg ys => if P.stoodInHeld t then none else eqParts P (eqT P d) xs ys (fieldParts fs.toList)
    | some (.array n e), .agg xs, .agg ys => if (P.info? e).isSome then eqParts P (eqT P d) xs ys ((List.range n).map fun i => (e, i * P.cellsOf e)) else none
    | _, _, _ => none

def binOpS (P : Program) (s : PS) (o : Oper) (op : BinOp) (T : TypeId) (x y : CV) : Step :=
  match x, y with
  | .l (.int k a), .l (.int k' b) => if k = k' then (match intOp op k a b with
      | some (c, v) => some (c, s.put o.dst (.c (.l v)))
      | none => none) else none
  | .l (.zc a b), .l (.zc c d) => match zcOp op a b c d with
      | some (q, v) => some (q, s.put o.dst (.c (.l v)))
      | none => none
  | .l (.bool a), .l (.bool b) => match P.underlying T, op with
      | some .bool, .eql => okL s o (.bool (a == b))
      | some .bool, .neq => okL s o (.bool (!(a == b)))
      | _, _ => none
  | .agg cs, .agg ds => if P.eqGuardType P.depth T then none else (match op, eqT P 8 T (.agg cs) (.agg ds) with
      | .eql, some r => okL s o (.bool r)
      | .neq, some r => okL s o (.bool (!r))
      | _, _ => none)
  | _, _ => none

def unOpS (s : PS) (o : Oper) (op : UnOp) (x : LV) : Step :=
  match op, x with
  | .not, .bool b => okL s o (.bool (!b))
  | .neg, .int k n => okL s o (.int k (k.wrap (-n)))
  | _, _ => none

def convertOp (P : Program) (s : PS) (o : Oper) (src dst : TypeId) (x : LV) : Step :=
  match P.underlying src, P.underlying dst, x with
  | some (.int _), some (.int k), .int _ n => okL s o (.int k (k.wrap n))
  | some (.int _), some (.float .f32), .int _ n => some (small24 n, s.put o.dst (.c (.l (.zf n))))
  | some (.float .f32), some (.int .i64), .zf n => okL s o (.int .i64 n)
  | _, _, _ => none

/-! Maps with integer keys -/

def mapFind {V : Type} (n : Int) : List (Int × V) → Option V
  | [] => none
  | (k, v) :: r => bif n == k then some v else mapFind n r
def mapPut {V : Type} (n : Int) (v : V) : List (Int × V) → List (Int × V)
  | [] => [(n, v)]
  | (k, u) :: r => bif n == k then (n, v) :: r else (k, u) :: mapPut n v r
def mapHas {V : Type} (n : Int) : List (Int × V) → Bool
  | [] => false
  | (k, _) :: r => bif n == k then true else mapHas n r
def mapGet {V : Type} (n : Int) (d : V) : List (Int × V) → V
  | [] => d
  | (k, v) :: r => bif n == k then v else mapGet n d r

def isIntT (P : Program) (t : TypeId) : Bool :=
  match P.underlying t with
  | some (.int _) => true
  | _ => false

def castMap {a b : Sh} (h : a = b) (es : List (Int × a.T)) : List (Int × b.T) := h ▸ es

def lookupOp (P : Program) (s : PS) (o : Oper) (T : TypeId) (m key : LV) (commaOk : Bool) : Step :=
  match P.underlying T with
  | some (.map K E) => match shapeOf P E, zeroOf P E, key with
    | some v, some z, .int k n => match v.build z.cells with
      | some d => if isIntT P K then
        let es : Option (List (Int × v.T)) := match m with
          | .imap (.int k') v' es => if h : v' = v then (if k' = k then some (castMap h es) else none) else none
          | .mref t => match s.blk t with
            | .map (.int k') v' es => if h : v' = v then (if k' = k then some (castMap h es) else none) else none
            | _ => none
          | _ => none
        match es with
        | some es => if v.isAgg = z.isAggC then
            (let r := v.cv (mapGet n d es)
             if commaOk then ok s o (.tup [r, .l (.bool (mapHas n es))]) else ok s o (.c r)) else none
        | none => none
        else none
      | none => none
    | _, _, _ => none
  | _ => none

def makeMapOp (P : Program) (s : PS) (o : Oper) (T : TypeId) : Step :=
  match o.dst, shapeOf P T with
  | some d, some (.map k v) => match s.new d (.map k v []) (.c (.l (.mref d))) with
    | some s' => some (true, s')
    | none => none
  | _, _ => none

def mapUpdateOp (P : Program) (s : PS) (T : TypeId) (m key : LV) (x : CV) : Step :=
  match P.underlying T, m, key with
  | some (.map K _), .mref t, .int k n => match s.blk t with
    | .map (.int k') v es => if k = k' ∧ v.isAgg = x.isAggC ∧ isIntT P K = true ∧ x.known = true then
        (match v.build x.cells with
        | some y => some (true, s.setB t (.map (.int k') v (mapPut n y es)))
        | none => none) else none
    | _ => none
  | _, _, _ => none

def minmax (isMax : Bool) (s : PS) (o : Oper) : List LV → Step
  | [.int k a, .int k' b] => if k = k' then okL s o (.int k (if isMax then (if b > a then b else a) else (if b < a then b else a))) else none
  | [.int k a, .int k' b, .int k'' c] => if k = k' ∧ k = k'' then
      (let m := if isMax then (if b > a then b else a) else (if b < a then b else a)
       okL s o (.int k (if isMax then (if c > m then c else m) else (if c < m then c else m)))) else none
  | _ => none

def builtinOp (P : Program) (s : PS) (o : Oper) (b : Builtin) (args : List Operand) (types : List TypeId) : Step :=
  match b, args, types with
  | .len, [x], [T] => match P.underlying T with
    | some (.array n _) => okL s o (.int .i64 n)
    | some (.slice _) => match lenOf s (evL s x) with
      | some n => okL s o (.int .i64 n)
      | none => none
    | some .string => match evL s x with
      | .str b => okL s o (.int .i64 b.size)
      | _ => none
    | some (.map _ _) => match lenMap s (evL s x) with
      | some n => okL s o (.int .i64 n)
      | none => none
    | _ => none
  | .append, [x, y], [T, U] => if T = U then appendOp P s o T (evL s x) (evL s y) else none
  | .max, xs, _ => minmax true s o (xs.map (evL s))
  | .min, xs, _ => minmax false s o (xs.map (evL s))
  | .complex, [x, y], _ => match evL s x, evL s y with
    | .zf a, .zf b => okL s o (.zc a b)
    | _, _ => none
  | .real, [x], _ => match evL s x with
    | .zc a _ => okL s o (.zf a)
    | _ => none
  | .imag, [x], _ => match evL s x with
    | .zc _ b => okL s o (.zf b)
    | _ => none
  | _, _, _ => none

/-- Every operation but 'pick' and calls of functions. -/
def stepOp (P : Program) (s : PS) (o : Oper) : Step :=
  match o.op with
  | .move x | .assign x => ok s o (ev s x)
  | .alloc T => match zeroOf P T with
    | some z => newVar P s o T z.cells
    | none => none
  | .box T x => if (evC s x).known then newVar P s o T (evC s x).cells else none
  | .load T a => loadOp P s o T (evL s a)
  | .store T a x => match o.dst with
    | none => storeOp P s T (evC s x) (evL s a)
    | some _ => none
  | .nilCheck x => match evL s x with
    | .ref t sz i off => okL s o (.ref t sz i off)
    | .iptr sh y off => okL s o (.iptr sh y off)
    | _ => none
  | .binOp op T x y _ => binOpS P s o op T (evC s x) (evC s y)
  | .unOp op _ x => unOpS s o op (evL s x)
  | .convert src dst x => convertOp P s o src dst (evL s x)
  | .build T parts => buildOp P s o T parts.toList
  | .buildSlice T n parts => buildSliceOp P s o T n parts.toList
  | .makeSlice T l c => makeSliceOp P s o T (evL s l) (evL s c)
  | .slice T x lo hi none => sliceOp P s o T (evL s x) (lo.map (evL s)) (hi.map (evL s))
  | .fieldAddr T x f => fieldAddrOp P s o T f (evL s x)
  | .field T x f => fieldOp P s o T f (evC s x)
  | .indexAddr T x i => match evL s i with
    | .int _ n => indexAddrOp P s o T (evL s x) n
    | _ => none
  | .index T x i => match evL s i with
    | .int _ n => indexOp P s o T (evC s x) n
    | _ => none
  | .extract t i => match ev s t with
    | .tup vs => match vs[i]? with
      | some v => ok s o (.c v)
      | none => none
    | _ => none
  | .lookup T m k c => lookupOp P s o T (evL s m) (evL s k) c
  | .makeMap T none => makeMapOp P s o T
  | .mapUpdate T m k x => match o.dst with
    | none => mapUpdateOp P s T (evL s m) (evL s k) (evC s x)
    | some _ => none
  | .call { callee := .builtin b, args, argTypes } => builtinOp P s o b args.toList argTypes.toList
  | _ => none

/-! ### Code -/

def relocL (t : Nat) : LV → LV
  | .ref _ sz i o => .ref t sz i o
  | .full _ => .full t
  | .sref _ sz a b => .sref t sz a b
  | .cref _ o n e => .cref t o n e
  | .mref _ => .mref t
  | v => v
def relocC (t : Nat) : CV → CV
  | .l v => .l (relocL t v)
  | .agg cs => .agg (cs.map (relocL t))
def relocS (t : Nat) : SV → SV
  | .c v => .c (relocC t v)
  | .tup vs => .tup (vs.map (relocC t))

/-- A call's result is taken over. -/
def takeResult (s : PS) (d : Nat) (rv : RV) : Option PS :=
  match rv.b with
  | .free => some (s.put (some d) rv.v)
  | .buf T e xs => s.new d (.buf T e xs) (relocS d rv.v)
  | _ => none

def callable (P : Program) (g : FuncId) : Bool :=
  match P.funcs[g]? with
  | some fn => fn.body.isSome
  | none => false

def anyRef (l : List CV) : Bool := l.any fun v => !(v.all LV.pure)

/-! A slice of one's own becomes data that nobody writes any more. -/

def LV.frz (t : Nat) (e : Sh) (xs : List e.T) : LV → LV
  | .full u => if u = t then .slice e xs else .full u
  | v => v.kill t
def CV.frz (t : Nat) (e : Sh) (xs : List e.T) : CV → CV
  | .l v => .l (v.frz t e xs)
  | .agg cs => .agg (cs.map (LV.frz t e xs))
def SV.frz (t : Nat) (e : Sh) (xs : List e.T) : SV → SV
  | .c v => .c (v.frz t e xs)
  | .tup vs => .tup (vs.map (CV.frz t e xs))
def Blk.frz (t : Nat) (e : Sh) (xs : List e.T) : Blk → Blk
  | .cells cs => .cells (cs.map (LV.frz t e xs))
  | b => b
def PS.freeze (s : PS) (t : Nat) : PS :=
  match s.blk t with
  | .buf _ e xs => { n := s.n, tmps := s.tmps.map (SV.frz t e xs), hp := M.set .free 12 (s.hp.map (Blk.frz t e xs)) t }
  | _ => s
def freezeAll (s : PS) : List Nat → PS
  | [] => s
  | t :: r => freezeAll (bif Nat.blt t s.n then s.freeze t else s) r
def fullsL : List LV → List Nat
  | [] => []
  | .full t :: r => t :: fullsL r
  | _ :: r => fullsL r
def fulls : List CV → List Nat
  | [] => []
  | .l (.full t) :: r => t :: fulls r
  | .agg cs :: r => fullsL cs ++ fulls r
  | _ :: r => fulls r
/-- May a function's results have memory behind them that it took from its arguments? -/
def deepT (P : Program) (t : TypeId) : Bool :=
  match shapeOf P t with
  | some (.slice e) => !e.flat
  | some s => !s.flat
  | none => true
def deep (P : Program) (g : FuncId) : Bool :=
  match P.funcs[g]? with
  | some fn => fn.resultTypes.toList.any (deepT P)
  | none => false
def aheadOf (P : Program) (s : PS) (g : FuncId) (args : List CV) : PS := bif anyRef args && deep P g then freezeAll s (fulls args) else s

/-- A slice of one's own that is cut becomes data. -/
def aheadSlice (P : Program) (s : PS) (T : TypeId) (x : LV) : PS :=
  match P.underlying T with
  | some (.slice _) => match x with
    | .full t => bif Nat.blt t s.n then s.freeze t else s
    | _ => s
  | _ => s

inductive Ex where
  | normal
  | exit (id : Nat)
  | ret

def optE {β R : Type} (o : Option β) (f : β → R) (g : R) : R := match o with
  | some x => f x
  | none => g
def sumE {β γ R : Type} (o : β ⊕ γ) (f : β → R) (g : γ → R) : R := match o with
  | .inl x => f x
  | .inr x => g x

/-- What a summary says: results under tests. -/
inductive Out (α : Type) : Type 1 where
  | no
  | done (x : α)
  | br (b : Bool) (x y : Out α)
  | alt {β : Type} (o : Option β) (f : β → Out α) (g : Out α)
  | sum {β γ : Type} (o : β ⊕ γ) (f : β → Out α) (g : γ → Out α)

def Out.run {α R : Type} : Out α → (α → Option R) → Option R
  | .no, _ => none
  | .done x, k => k x
  | .br b x y, k => bif b then x.run k else y.run k
  | .alt o f g, k => optE o (fun x => (f x).run k) (g.run k)
  | .sum o f g, k => sumE o (fun x => (f x).run k) (fun x => (g x).run k)

/-- What is known of functions and of loops ahead. -/
structure Know where
  fns : FuncId → List CV → Option (Out RV)
  loops : FuncId → Nat → Option (PS → Out (Ex × PS))

def nothing : Know := ⟨fun _ _ => none, fun _ _ => none⟩

section
variable (P : Program) (R : Type)

abbrev CallK := FuncId → List CV → (RV → Option R) → Option R
abbrev Cont := Ex → PS → Option R

/-- The truth of a guard is known on each of its two ways. -/
def setBool (s : PS) (t : Nat) (b : Bool) : PS := s.put (some t) (.c (.l (.bool b)))

def evCs (s : PS) : List Operand → List CV
  | [] => []
  | x :: r => evC s x :: evCs s r

/-- A call. -/
def callOp (call : CallK R) (s : PS) (o : Oper) (f : Operand) (args : List Operand) (k : PS → Option R) : Option R :=
  match evL s f, o.dst with
    | .fn g, some d => if callable P g then (match snapCs s (evCs s args) with
      | some vs => call g vs fun rv =>
          if anyRef (evCs s args) && (!(rv.v.all fun v => !v.behind) || rv.b.behind) then none else
          match takeResult s d rv with
          | some s' => k s'
          | none => none
      | none => none) else none
    | _, _ => none

/-- One operation whose guard holds. -/
def runOp (call : CallK R) (s : PS) (o : Oper) (k : PS → Option R) : Option R :=
  match o.op with
  | .pick c a b => match evL s c with
    | .bool q => (bif q then k (s.put o.dst (ev s a)) else k (s.put o.dst (ev s b)))
    | _ => none
  | .call { callee := .value f, args, argTypes := _ } => match evL s f with
    | .fn g => callOp P R call (aheadOf P s g (evCs s args.toList)) o f args.toList k
    | _ => none
  | .slice T x lo hi m => match stepOp P (aheadSlice P s T (evL s x)) { o with op := .slice T x lo hi m } with
    | some (c, s') => bif c then k s' else none
    | none => none
  | _ => match stepOp P s o with
    | some (c, s') => bif c then k s' else none
    | none => none

/-- What an operation leaves that is not carried out. -/
def skipped : SV := .tup []

/-- The operations of a region, from a place on. -/
def runOps (call : CallK R) (all : List Oper) : List Oper → PS → (PS → Option R) → Option R
  | [], s, k => k s
  | o :: rest, s, k => match o.guard with
    | none => runOp P R call s o fun s => runOps call all rest s k
    | some (j, want) => match all[j]? with
      | some oj => match oj.dst with
        | some g => match ev s (.tmp g) with
          | .c (.l (.bool b)) =>
            bif b then
              (bif want then runOp P R call (setBool s g true) o fun s => runOps call all rest s k
               else runOps call all rest ((setBool s g true).put o.dst skipped) k)
            else
              (bif want then runOps call all rest ((setBool s g false).put o.dst skipped) k
               else runOp P R call (setBool s g false) o fun s => runOps call all rest s k)
          | .tup [] => runOps call all rest (s.put o.dst skipped) k
          | _ => none
        | none => none
      | none => none

/-! Regions whose operations may come in many orders -/

inductive OpKind where
  | pure
  | quiet
  | fresh
  | write
  | barrier

/-- Pure: it only computes. Quiet: it only looks and computes. Fresh: it makes a new block, and nothing else. Write: it changes one block. All else: it stands before or behind every other. -/
def kindOf : Op → OpKind
  | .move _ | .assign _ | .extract .. | .binOp .. | .unOp .. | .convert .. | .field .. | .build .. | .pick .. | .nilCheck _ | .fieldAddr .. | .index .. => .pure
  | .load .. | .indexAddr .. | .slice .. | .lookup .. => .quiet
  | .call { callee := .value _, .. } => .quiet
  | .call { callee := .builtin b, .. } => match b with
    | .len => .quiet
    | .max | .min | .complex | .real | .imag => .pure
    | _ => .barrier
  | .alloc _ | .box .. | .buildSlice .. | .makeSlice .. | .makeMap .. => .fresh
  | .store .. => .write
  | _ => .barrier

def tmpsOf : List Operand → List Tmp
  | [] => []
  | .tmp t :: r => t :: tmpsOf r
  | _ :: r => tmpsOf r

/-- The slots that an operation looks at. -/
def looks (all : List Oper) (o : Oper) : List Tmp :=
  match o.guard with
  | some (j, _) => match all[j]? with
    | some oj => match oj.dst with
      | some g => g :: tmpsOf o.op.operands.toList
      | none => tmpsOf o.op.operands.toList
    | none => tmpsOf o.op.operands.toList
  | none => tmpsOf o.op.operands.toList

/-- Those that stand before, in every order: of each operation, as the bits of a number. -/
def edgeMask (acc : List Nat) : List Edge → Nat
  | [] => 0
  | e :: r => bif Region.binds .any e then (2 ^ e.on ||| acc.getD e.on 0) ||| edgeMask acc r else edgeMask acc r
def masksOf : List Oper → List Nat → List Nat
  | [], acc => acc
  | o :: r, acc => masksOf r (acc ++ [edgeMask acc o.after.toList])

def edgesLow (i : Nat) : List Edge → Bool
  | [] => true
  | e :: r => (!Region.binds .any e || Nat.blt e.on i) && edgesLow i r
def allLow : Nat → List Oper → Bool
  | _, [] => true
  | i, o :: r => edgesLow i o.after.toList && allLow (i + 1) r

def sees (d : Option Tmp) (l : List Tmp) : Bool := match d with
  | some d => l.contains d
  | none => false
def looseK : OpKind → OpKind → Bool
  | .barrier, _ | _, .barrier => false
  | .write, .pure | .pure, .write => true
  | .write, _ | _, .write => false
  | _, _ => true
/-- May two operations come in either order? -/
def loose (all : List Oper) (x y : Oper) : Bool :=
  !(sees x.dst (looks all y)) && !(sees y.dst (looks all x)) && looseK (kindOf x.op) (kindOf y.op)
def sameDst (x y : Oper) : Bool := match x.dst, y.dst with
  | some d, some e => d == e
  | _, _ => false
/-- Operation number j with mask m against those ahead of it. -/
def pairOk (all : List Oper) (oj : Oper) (m : Nat) : Nat → List Oper → Bool
  | _, [] => true
  | i, oi :: r => !(sameDst oi oj) && (m.testBit i || loose all oi oj) && pairOk all oj m (i + 1) r
def pairsOk (all : List Oper) (ms : List Nat) : Nat → List Oper → Bool
  | _, [] => true
  | j, oj :: r => pairOk all oj (ms.getD j 0) 0 (all.take j) && pairsOk all ms (j + 1) r

def dstsBelow (n : Nat) : List Oper → Bool
  | [] => true
  | o :: r => (match o.dst with
    | some d => Nat.blt d n
    | none => true) && dstsBelow n r

def drawOk (n : Nat) (ops : List Oper) (ms : List Nat) : Bool := Nat.ble n 4000 && (dstsBelow n ops && (allLow 0 ops && pairsOk ops ms 0 ops))

/-- The blocks of the new ones are given up ahead. -/
def dropFresh : List Oper → PS → PS
  | [], s => s
  | o :: r, s => match kindOf o.op, o.dst with
    | .fresh, some d => bif Nat.blt d s.n then dropFresh r (s.drop d) else dropFresh r s
    | _, _ => dropFresh r s

/-- Blocks that may not be there yet are not looked at. -/
def hideFresh (m : Nat) : Nat → List Oper → PS → PS
  | _, [], s => s
  | i, o :: r, s => match kindOf o.op, o.dst with
    | .fresh, some d => bif m.testBit i then hideFresh m (i + 1) r s else hideFresh m (i + 1) r (s.setB d .free)
    | _, _ => hideFresh m (i + 1) r s

def frozenL (b : Blk) : LV → Option LV
  | .full 0 => match b with
    | .buf _ e xs => some (.slice e xs)
    | _ => none
  | v => if v.pure then some v else none
def frozenLs (b : Blk) : List LV → Option (List LV)
  | [] => some []
  | v :: vs => match frozenL b v, frozenLs b vs with
    | some x, some xs => some (x :: xs)
    | _, _ => none
def frozenC (b : Blk) : CV → Option CV
  | .l v => match frozenL b v with
    | some x => some (.l x)
    | none => none
  | .agg cs => match frozenLs b cs with
    | some xs => some (.agg xs)
    | none => none
def frozenCs (b : Blk) : List CV → Option (List CV)
  | [] => some []
  | v :: vs => match frozenC b v, frozenCs b vs with
    | some x, some xs => some (x :: xs)
    | _, _ => none
/-- A call's result, as data that nobody writes. -/
def frozen (rv : RV) : Option SV :=
  match rv.v with
  | .c v => match frozenC rv.b v with
    | some x => some (.c x)
    | none => none
  | .tup vs => match frozenCs rv.b vs with
    | some xs => some (.tup xs)
    | none => none

/-- The block that is written. -/
def written (m : PS) (o : Oper) : Nat :=
  match o.op with
  | .store _ a _ => match evL m a with
    | .ref t _ _ _ => t
    | _ => 0
  | _ => 0

/-- What an operation makes of a state, seen from a state where some blocks are hidden: 'm' before it, 'm'' behind it. -/
def effect (o : Oper) (m m' s : PS) : PS :=
  match kindOf o.op with
  | .pure | .quiet => match o.dst with
    | some d => s.put (some d) (m'.get d)
    | none => s
  | .fresh => match o.dst with
    | some d => (s.setT d (m'.get d)).setB d (m'.blk d)
    | none => s
  | .write => s.setB (written m o) (m'.blk (written m o))
  | .barrier => m'

/-- The blocks of new ones that are still to come are free. -/
def freeAhead (s : PS) : List Oper → Bool
  | [] => true
  | o :: r => (match kindOf o.op, o.dst with
    | .fresh, some d => (s.blk d).isFree
    | _, _ => true) && freeAhead s r

/-- One operation whose guard holds, in a region of many orders: 'm' is the state as it is seen, 's' the one that is changed. -/
def runOpD (call : CallK R) (m s : PS) (o : Oper) (k : PS → Option R) : Option R :=
  match o.op with
  | .pick c a b => match evL m c with
    | .bool q => (bif q then k (s.put o.dst (ev m a)) else k (s.put o.dst (ev m b)))
    | _ => none
  | .call { callee := .value f, args, argTypes := _ } => match evL m f, o.dst with
    | .fn g, some d => if callable P g then (match snapCs m (evCs m args.toList) with
      | some vs => call g vs fun rv =>
          if anyRef (evCs m args.toList) && (!(rv.v.all fun v => !v.behind) || rv.b.behind) then none else
          match frozen rv with
          | some x => k (s.put (some d) x)
          | none => none
      | none => none) else none
    | _, _ => none
  | _ => match kindOf o.op with
    | .barrier => match stepOp P s o with
      | some (c, s') => bif Nat.beq s'.n s.n && c then k s' else none
      | none => none
    | .write => match stepOp P m o with
      | some (c, m') => bif Nat.blt (written m o) s.n && c then k (effect o m m' s) else none
      | none => none
    | _ => match stepOp P m o with
      | some (c, m') => bif c then k (effect o m m' s) else none
      | none => none

/-- The operations of such a region, in the order of the text. -/
def runDraw (call : CallK R) (all : List Oper) (ms : List Nat) : Nat → List Oper → PS → (PS → Option R) → Option R
  | _, [], s, k => k s
  | i, o :: rest, s, k => bif !freeAhead s (o :: rest) then none else match o.guard with
    | none => runOpD P R call (hideFresh (ms.getD i 0) 0 (all.take i) s) s o fun s => runDraw call all ms (i + 1) rest s k
    | some (j, want) => match all[j]? with
      | some oj => match oj.dst with
        | some g => match ev s (.tmp g) with
          | .c (.l (.bool b)) =>
            bif b then
              (bif want then runOpD P R call (hideFresh (ms.getD i 0) 0 (all.take i) (setBool s g true)) (setBool s g true) o fun s => runDraw call all ms (i + 1) rest s k
               else runDraw call all ms (i + 1) rest ((setBool s g true).put o.dst skipped) k)
            else
              (bif want then runDraw call all ms (i + 1) rest ((setBool s g false).put o.dst skipped) k
               else runOpD P R call (hideFresh (ms.getD i 0) 0 (all.take i) (setBool s g false)) (setBool s g false) o fun s => runDraw call all ms (i + 1) rest s k)
          | .tup [] => runDraw call all ms (i + 1) rest (s.put o.dst skipped) k
          | _ => none
        | none => none
      | none => none

/-- A loop's body, round by round: at most so many. -/
def rounds (body : PS → Cont R → Option R) : Nat → PS → Cont R → Option R
  | 0, _, _ => none
  | n + 1, s, k => body s fun ex s' => match ex with
    | .normal => rounds body n s' k
    | e => k e s'

def exec (call : CallK R) (loops : Nat → Option (PS → Out (Ex × PS))) (U : Nat) : Nat → Code → PS → Cont R → Option R
  | _, .skip, s, k => k .normal s
  | _, .region _ ops draw, s, k =>
    if draw then
      (let ms := masksOf ops.toList []
       if drawOk s.n ops.toList ms = true then runDraw P R call ops.toList ms 0 ops.toList (dropFresh ops.toList s) fun s => k .normal s else none)
    else runOps P R call ops.toList ops.toList s fun s => k .normal s
  | b, .seq x y, s, k => exec call loops U b x s fun ex s' => match ex with
    | .normal => exec call loops U b y s' k
    | e => k e s'
  | b, .cond c x y, s, k => match c with
    | .tmp t => match ev s (.tmp t) with
      | .c (.l (.bool q)) => bif q then exec call loops U b x (setBool s t true) k else exec call loops U b y (setBool s t false) k
      | _ => none
    | _ => none
  | _, .block id x, s, k => exec call loops U id x s fun ex s' => match ex with
    | .exit id' => if id' = id then k .normal s' else k (.exit id') s'
    | e => k e s'
  | b, .loop x, s, k => match loops b with
    | some f => (f s).run fun r => k r.1 r.2
    | none => rounds R (exec call loops U b x) U s k
  | _, .exit id, s, k => k (.exit id) s
  | _, .label _, s, k => k .normal s
  | _, .ret, s, k => k .ret s
  | _, _, _, _ => none
end

/-! ### Functions -/

def resultVar (P : Program) (s : PS) : ResultVar → Option CV
  | .tmp t => match ev s (.tmp t) with
    | .c v => some v
    | _ => none
  | .cell a T => match ev s (.tmp a) with
    | .c (.l (.ref t sz i off)) => match s.blk t with
      | .cells cs => partOf P T cs off
      | .arr e xs => if sz = 0 ∧ i = 0 ∧ off = 0 ∧ isAggT P T = true ∧ (P.underlying T).isSome = true ∧ xs.length * e.size = P.cellsOf T then some (.agg (xs.flatMap e.cells)) else none
      | _ => none
    | _ => none

def resultVars (P : Program) (s : PS) : List ResultVar → Option (List CV)
  | [] => some []
  | r :: rs => match resultVar P s r, resultVars P s rs with
    | some v, some vs => some (v :: vs)
    | _, _ => none

/-- The first slice of the call's own among results is handed on as the caller's own; all else as data that nobody writes. -/
def ownOf (s : PS) : List CV → Option Nat
  | [] => none
  | .l (.full t) :: _ => match s.blk t with
    | .buf _ _ _ => some t
    | _ => none
  | _ :: r => ownOf s r

def relocOwn (s : PS) (t : Nat) : List CV → Option (List CV)
  | [] => some []
  | .l (.full u) :: r => if u = t then
      (match snapCs s r with
      | some l => if l.all (fun v => v.all fun x => !x.behind) then some (.l (.full 0) :: l) else none
      | none => none)
    else none
  | v :: r => if v.all (fun x => x.pure && !x.behind) then (match relocOwn s t r with
      | some l => some (v :: l)
      | none => none) else none

def mkSV : List CV → SV
  | [v] => .c v
  | vs => .tup vs

def resultOf (P : Program) (s : PS) (rs : List ResultVar) : Option RV :=
  match resultVars P s rs with
  | none => none
  | some vs =>
    let plain : Option RV := match snapCs s vs with
      | some l => some ⟨mkSV l, .free⟩
      | none => none
    match ownOf s vs with
    | some t => match relocOwn s t vs with
      | some l => some ⟨mkSV l, s.blk t⟩
      | none => plain
    | none => plain

def CV.toSV (v : CV) : SV := .c v

def enterArgs : Nat → List CV → M SV → M SV
  | _, [], m => m
  | i, v :: vs, m => enterArgs (i + 1) vs (M.set v.toSV 12 m i)
def enter (fn : Func) (args : List CV) : PS := { n := fn.ntmps, tmps := enterArgs 0 args .e, hp := .e }

def evalK (P : Program) (R : Type) (K : Know) (U : Nat) : Nat → FuncId → List CV → (RV → Option R) → Option R
  | 0, f, args, k => match K.fns f args with
    | some g => g.run k
    | none => none
  | n + 1, f, args, k => match K.fns f args with
    | some g => g.run k
    | none => match P.funcs[f]? with
      | some fn => match fn.body with
        | some c => if args.length ≤ fn.ntmps ∧ fn.ntmps ≤ 4000 then
            exec P R (evalK P R K U n) (K.loops f) U 0 c (enter fn args) fun ex s => match ex with
              | .exit _ => none
              | _ => match resultOf P s fn.results.toList with
                | some rv => k rv
                | none => none
          else none
        | none => none
      | none => none

/-! ### States written out -/

def ofList {α : Type} : List (Nat × α) → M α → M α
  | [], m => m
  | (i, v) :: r, m => ofList r (M.set v 12 m i)
def PS.of (n : Nat) (slots : List (Nat × SV)) (blks : List (Nat × Blk)) : PS := ⟨n, ofList slots .e, ofList blks .e⟩

/-- Only references to these blocks stay. -/
def LV.keep (bs : List Nat) : LV → LV
  | .ref u sz i o => if bs.contains u then .ref u sz i o else .undef
  | .full u => if bs.contains u then .full u else .undef
  | .sref u sz a b => if bs.contains u then .sref u sz a b else .undef
  | .cref u o n e => if bs.contains u then .cref u o n e else .undef
  | .mref u => if bs.contains u then .mref u else .undef
  | v => v
def CV.keep (bs : List Nat) : CV → CV
  | .l v => .l (v.keep bs)
  | .agg cs => .agg (cs.map (LV.keep bs))
def SV.keep (bs : List Nat) : SV → SV
  | .c v => .c (v.keep bs)
  | .tup vs => .tup (vs.map (CV.keep bs))
def Blk.keep (bs : List Nat) : Blk → Blk
  | .cells cs => .cells (cs.map (LV.keep bs))
  | b => b
/-- Only these slots and these blocks stay. -/
def PS.mask (s : PS) (ts bs : List Nat) : PS :=
  PS.of s.n (ts.map fun t => (t, (s.get t).keep bs)) (bs.map fun t => (t, (s.blk t).keep bs))

end Go.Ev
