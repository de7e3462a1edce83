import Derived.Calls
import Derived.Orders
import Derived.Laws.Append
import Derived.Laws.AppendOwn
import Derived.Laws.Entries
import Derived.Laws.StructEq
import Derived.Still
set_option linter.unusedVariables false
namespace Go.Den

/-- Values, without places in memory. 'sl': a slice by value: may it be appended to; cells of an element; the elements.
'ptr': into a block of the list of blocks. 'elp': the place of cells that nobody changes. 'hs': a slice over a block: its number, where it begins, how many, cells of an element. -/
inductive V where
  | any
  | sc (v : Value)
  | sl (own : Bool) (k : Nat) (xs : List V)
  | agg (cs : List V)
  | tup (vs : List V)
  | ptr (id off : Nat)
  | elp (cs : List V)
  | hs (id off len k : Nat)
  | fn (f : Fn) (first caps : List V)
  | ifc (t : TypeId) (v : V)
  deriving Inhabited

/-- What is told of a type: its cells, its bytes, its make. -/
inductive TK where
  | int (k : IntKind)
  | bool | string
  | slice (elem : TypeId)
  | array (n : Nat) (elem : TypeId)
  | struct (fs : List (TypeId × Nat))
  | pointer (elem : TypeId)
  | iface | func | map (k v : TypeId) | other
  deriving Inhabited, DecidableEq

structure TI where
  zero : List V
  bytes : Nat
  kind : TK
  deriving Inhabited

def TI.size (t : TI) : Nat := t.zero.length

def TI.agg (t : TI) : Bool := match t.kind with | .array _ _ | .struct _ => true | _ => false

abbrev Heap := List (List V)

inductive Mode where | z | q | w | n
  deriving DecidableEq, Inhabited

structure Hint where
  mode : Mode
  keep : List Nat
  /-- (region, operation): it takes what it reads -/
  takes : List (Nat × Nat)
  /-- (region, operation): what it makes lies in a block -/
  blocks : List (Nat × Nat)
  /-- its text was looked at -/
  ok : Bool
  deriving Inhabited

structure Ctx where
  P : Program
  ti : TypeId → Option TI
  /-- structs that may be held against one another -/
  eqT : TypeId → Bool
  hint : FuncId → Hint
  fuel : Nat

def V.cells : V → List V
  | .agg cs => cs
  | v => [v]

def V.dem1 : V → V
  | .sl _ k xs => .sl false k xs
  | v => v

/-- the same, of which nothing may be appended to -/
def V.dem2 : V → V
  | .agg cs => .agg (cs.map V.dem1)
  | v => v.dem1

def V.dem : V → V
  | .tup vs => .tup (vs.map V.dem2)
  | v => v.dem2

def Env := Nat → V

def Env.put (e : Env) (d : Option Nat) (v : V) : Env :=
  match d with
  | some d => fun t => if t = d then v else e t
  | none => e

/-- a frame out of a list -/
def tab : List (Nat × V) → Env
  | [], _ => .any
  | (k, v) :: l, t => if t = k then v else tab l t

def Env.keep (e : Env) (ks : List Nat) : Env := tab (ks.map fun k => (k, e k))

def bind2 {α β γ : Type} (a : Option α) (b : Option β) (f : α → β → Option γ) : Option γ :=
  match a, b with
  | some x, some y => f x y
  | _, _ => none

/-! ### numbers, texts -/

def binI (op : BinOp) (k : IntKind) (a b : Int) : Option Value :=
  match op with
  | .add => some (.int k (k.wrap (a + b)))
  | .sub => some (.int k (k.wrap (a - b)))
  | .mul => some (.int k (k.wrap (a * b)))
  | .quo => if b = 0 then none else some (.int k (k.wrap (a.tdiv b)))
  | .rem => if b = 0 then none else some (.int k (a.tmod b))
  | .and => some (.int k (bits .and k a b))
  | .or => some (.int k (bits .or k a b))
  | .xor => some (.int k (bits .xor k a b))
  | .andNot => some (.int k (bits .andNot k a b))
  | .eql => some (.bool (a == b))
  | .neq => some (.bool (a != b))
  | .lss => some (.bool (decide (a < b)))
  | .leq => some (.bool (decide (a ≤ b)))
  | .gtr => some (.bool (decide (a > b)))
  | .geq => some (.bool (decide (a ≥ b)))
  | .shl | .shr => none

def binS (op : BinOp) (a b : ByteArray) : Option Value :=
  match op with
  | .add => if a.size + b.size ≤ 9223372036854775807 then some (.string (a ++ b)) else none
  | .eql => some (.bool (a.toList == b.toList))
  | .neq => some (.bool !(a.toList == b.toList))
  | .lss => some (.bool (Op.bytesLess a.toList b.toList))
  | .leq => some (.bool (Op.bytesLess a.toList b.toList || a.toList == b.toList))
  | .gtr => some (.bool !(Op.bytesLess a.toList b.toList || a.toList == b.toList))
  | .geq => some (.bool !(Op.bytesLess a.toList b.toList))
  | _ => none

def shI (op : BinOp) (k : IntKind) (a b : Int) : Option Value :=
  if b < 0 then none else
  match op with
  | .shl => some (.int k (k.wrap (a * 2 ^ (min b.toNat k.bits))))
  | .shr => some (.int k (a.fdiv (2 ^ (min b.toNat k.bits))))
  | _ => none

/-- two cells of a type held against one another -/
def eqK : TK → V → V → Option Bool
  | .int _, .sc (.int k a), .sc (.int k' b) => if k = k' then some (a == b) else none
  | .bool, .sc (.bool a), .sc (.bool b) => some (a == b)
  | .string, .sc (.string a), .sc (.string b) => some (a.toList == b.toList)
  | _, _, _ => none

def eqF (C : Ctx) (as bs : List V) : List (TypeId × Nat) → Option Bool
  | [] => some true
  | (u, off) :: fs => match C.ti u, as[off]?, bs[off]? with
    | some ti, some a, some b => bind2 (eqK ti.kind a b) (eqF C as bs fs) fun x y => some (x && y)
    | _, _, _ => none

def eqV (C : Ctx) (t : TypeId) (x y : V) : Option Bool :=
  match C.ti t with
  | some ⟨_, _, .bool⟩ => match x, y with
    | .sc (.bool a), .sc (.bool b) => some (a == b)
    | _, _ => none
  | some ⟨_, _, .pointer _⟩ => match x, y with
    | .sc (.pointer none), .sc (.pointer none) => some true
    | .ptr _ _, .sc (.pointer none) => some false
    | .sc (.pointer none), .ptr _ _ => some false
    | _, _ => none
  | some ⟨_, _, .struct fs⟩ => match x, y with
    | .agg as, .agg bs => if C.eqT t then eqF C as bs fs else none
    | _, _ => none
  | _ => none

def binV (C : Ctx) (t : TypeId) (op : BinOp) (x y : V) : Option V :=
  match x, y with
  | .sc (.int k a), .sc (.int k' b) =>
    match op with
    | .shl | .shr => (shI op k a b).map .sc
    | _ => if k = k' then (binI op k a b).map .sc else none
  | .sc (.string a), .sc (.string b) => (binS op a b).map .sc
  | x, y =>
    match op with
    | .eql => (eqV C t x y).map fun b => .sc (.bool b)
    | .neq => (eqV C t x y).map fun b => .sc (.bool !b)
    | _ => none

def unV (op : UnOp) (x : V) : Option V :=
  match op, x with
  | .neg, .sc (.int k n) => some (.sc (.int k (k.wrap (0 - n))))
  | .xor, .sc (.int k n) => some (.sc (.int k (bits .xor k (if k.signed then -1 else k.max) n)))
  | .not, .sc (.bool b) => some (.sc (.bool !b))
  | _, _ => none

/-- values that are alike but for what is a list, a place, a function -/
def constV (C : Ctx) (t : TypeId) : Value → V
  | .slice none 0 0 =>
    match C.ti t with
    | some ⟨_, _, .slice e⟩ => .sl true ((C.ti e).elim 0 TI.size) []
    | _ => .sl true 0 []
  | .bool b => .sc (.bool b)
  | .int k n => .sc (.int k n)
  | .string s => .sc (.string s)
  | .pointer none => .sc (.pointer none)
  | .nilFunc => .sc .nilFunc
  | .nilIface => .sc .nilIface
  | .map none => .sc (.map none)
  | _ => .any

/-- what an operand tells: 'take': with the right to append -/
def rdO (C : Ctx) (t : TypeId) (e : Env) (take : Bool) : Operand → V
  | .tmp n => if take then e n else (e n).dem
  | .const v => constV C t v
  | .func f => .fn (.func f) [] []
  | .global _ => .any

/-- of what was taken nothing is left to append to -/
def Env.left (e : Env) (take : Bool) (xs : List Operand) : Env :=
  if take then xs.foldl (fun e x => match x with | .tmp n => e.put (some n) (e n).dem | _ => e) e else e

mutual
/-- all blocks that it leads to are below a number -/
def closed (n : Nat) : V → Bool
  | .any | .sc _ => true
  | .sl _ _ xs => closedL n xs
  | .agg cs => closedL n cs
  | .tup vs => closedL n vs
  | .ptr id _ => decide (id < n)
  | .elp cs => closedL n cs
  | .hs id _ _ _ => decide (id < n)
  | .fn _ a b => closedL n a && closedL n b
  | .ifc _ v => closed n v
def closedL (n : Nat) : List V → Bool
  | [] => true
  | v :: vs => closed n v && closedL n vs
end

/-- out of cells a value of a type -/
def ofCells (t : TI) (cs : List V) : Option V :=
  if t.agg then some (.agg cs) else match cs with
    | [c] => some c
    | _ => none

/-- a part of a list -/
def sub (cs : List V) (off n : Nat) : Option (List V) := if off + n ≤ cs.length then some ((cs.drop off).take n) else none

/-- a list with some of it set -/
def over (cs : List V) (off : Nat) (vs : List V) : Option (List V) :=
  if off + vs.length ≤ cs.length then some (cs.take off ++ vs ++ cs.drop (off + vs.length)) else none

/-- no bare unknown, no tuple -/
def plain : V → Bool
  | .any | .tup _ => false
  | _ => true

/-- parts put into cells -/
def fillV (place : Nat → Option (Nat × Nat)) (cs : List V) : List (Nat × V) → Option (List V)
  | [] => some cs
  | (i, v) :: rest =>
    match place i with
    | some (off, size) => if plain v = true ∧ v.cells.length = size then (over cs off v.cells).bind fun cs => fillV place cs rest else none
    | none => none

/-- parts put into a list -/
def fillL (k : Nat) (xs : List V) : List (Nat × V) → Option (List V)
  | [] => some xs
  | (i, v) :: rest => if plain v = true ∧ v.cells.length = k then if i < xs.length then fillL k (xs.set i v) rest else none else none

def intOf : V → Option Int
  | .sc (.int _ n) => some n
  | _ => none

def natIn (v : V) (n : Nat) : Option Nat :=
  match v with
  | .sc (.int _ i) => if 0 ≤ i ∧ i ≤ n then some i.toNat else none
  | _ => none

def idxIn (v : V) (n : Nat) : Option Nat :=
  match v with
  | .sc (.int _ i) => if 0 ≤ i ∧ i < n then some i.toNat else none
  | _ => none

def sliceV (own : Bool) (k : Nat) (xs : List V) (lo hi mx : Option V) : Option V :=
  match mx with
  | some m =>
    (natIn m xs.length).bind fun m =>
    match hi with
    | some h => (natIn h m).bind fun h =>
      (match lo with | some l => natIn l h | none => some 0).map fun l => .sl (h == m) k ((xs.take h).drop l)
    | none => none
  | none =>
    (match hi with | some h => natIn h xs.length | none => some xs.length).bind fun h =>
      (match lo with | some l => natIn l h | none => some 0).map fun l => .sl false k ((xs.take h).drop l)

def sliceS (s : ByteArray) (lo hi : Option V) : Option V :=
  (match hi with | some h => natIn h s.size | none => some s.size).bind fun h =>
    (match lo with | some l => natIn l h | none => some 0).map fun l => .sc (.string (s.extract l h))

def convV (C : Ctx) (src dst : TypeId) (x : V) : Option V :=
  match C.ti src, C.ti dst, x with
  | some _, some ⟨_, _, .int k⟩, .sc (.int _ n) => some (.sc (.int k (k.wrap n)))
  | some _, some ⟨_, _, .string⟩, .sc (.string s) => some (.sc (.string s))
  | _, _, _ => none

def mm (op : Bool) : V → V → Option V
  | .sc (.int k x), .sc (.int k' y) => if k = k' then some (.sc (.int k (if op then (if y > x then y else x) else (if y < x then y else x)))) else none
  | _, _ => none

def mmL (op : Bool) (x : V) : List V → Option V
  | [] => some x
  | y :: ys => (mm op x y).bind fun z => mmL op z ys

/-- a built-in function -/
def builtinV (C : Ctx) (b : Builtin) (ts : List TypeId) (xs : List V) : Option V :=
  match b, ts, xs with
  | .len, t :: _, [.sc (.string s)] => match C.ti t with
    | some ⟨_, _, .string⟩ => some (.sc (.int .i64 s.size))
    | _ => none
  | .len, t :: _, [.sl _ _ l] => match C.ti t with
    | some ⟨_, _, .slice _⟩ => some (.sc (.int .i64 l.length))
    | _ => none
  | .len, t :: _, [.hs _ _ n _] => match C.ti t with
    | some ⟨_, _, .slice _⟩ => some (.sc (.int .i64 n))
    | _ => none
  | .len, t :: _, [_] => match C.ti t with
    | some ⟨_, _, .array n _⟩ => some (.sc (.int .i64 n))
    | _ => none
  | .append, t :: u :: _, [.sl own k l, .sl _ k' m] =>
    match C.ti t, C.ti u with
    | some ⟨_, _, .slice e⟩, some ⟨_, _, .slice _⟩ =>
      match C.ti e with
      | some ti =>
        if own = true ∧ 0 < ti.size ∧ 0 < ti.bytes ∧ (k = 0 ∨ k = ti.size) ∧ (k' = 0 ∨ k' = ti.size) ∧ (l.length + m.length) * ti.bytes ≤ 140737488355328
        then some (.sl true ti.size (l ++ m.map V.dem)) else none
      | none => none
    | _, _ => none
  | .max, _, x :: y :: ys => mmL true x (y :: ys)
  | .min, _, x :: y :: ys => mmL false x (y :: ys)
  | _, _, _ => none

def okV (H : Heap) (v : Option V) : Option (V × Heap) := v.map fun v => (v, H)

/-- An operation that doesn't look at the blocks: its value. 'rd': what its operands tell. -/
def evalP (C : Ctx) (rd : TypeId → Operand → V) (o : Oper) : Option V :=
  match o.op with
  | .move x | .assign x => some (rd o.type x)
  | .pick c a b => match rd 0 c with
    | .sc (.bool t) => some (if t then rd 0 a else rd 0 b).dem
    | _ => none
  | .build t ps => match C.ti t with
    | some ⟨zero, _, .struct fs⟩ =>
      (fillV (fun i => (fs[i]?).bind fun (u, off) => (C.ti u).map fun ti => (off, ti.size)) zero
        (ps.toList.map fun (i, x) => (i, (rd (((fs[i]?).map (·.1)).getD 0) x).dem))).map .agg
    | some ⟨zero, _, .array _ e⟩ =>
      match C.ti e with
      | some ti => (fillV (fun i => some (i * ti.size, ti.size)) zero (ps.toList.map fun (i, x) => (i, (rd e x).dem))).map .agg
      | none => none
    | _ => none
  | .buildSlice t n ps => match C.ti t with
    | some ⟨_, _, .slice e⟩ => match C.ti e with
      | some ti => if n * ti.size ≤ 16777216 ∧ 0 < ti.size then
          match ofCells ti ti.zero with
          | some z => (fillL ti.size (List.replicate n z) (ps.toList.map fun (i, x) => (i, (rd e x).dem))).map (.sl true ti.size)
          | none => none
        else none
      | none => none
    | _ => none
  | .nilCheck x => match rd 0 x with
    | .ptr id off => some (.ptr id off)
    | .elp cs => some (.elp cs)
    | .fn (.func f) a b => some (.fn (.func f) a b)
    | _ => none
  | .binOp op t x y _ => binV C t op (rd t x) (rd t y)
  | .unOp op _ x => unV op (rd 0 x)
  | .convert s d x => convV C s d (rd s x)
  | .makeInterface t x => match C.ti t with
    | some ⟨_, _, .iface⟩ => none
    | some _ => some (.ifc t (rd t x).dem)
    | none => none
  | .makeFunc f a b => some (.fn f (a.toList.map fun x => (rd 0 x).dem) (b.toList.map fun x => (rd 0 x).dem))
  | .makeSlice t n m => match C.ti t with
    | some ⟨_, _, .slice e⟩ => match C.ti e, rd 0 n, rd 0 m with
      | some ti, .sc (.int _ a), .sc (.int _ b) =>
        if a = b ∧ 0 ≤ a ∧ ti.bytes * a ≤ 140737488355328 ∧ 0 < ti.size ∧ 0 < ti.bytes then
          match ofCells ti ti.zero with
          | some z => some (.sl true ti.size (List.replicate a.toNat z))
          | none => none
        else none
      | _, _, _ => none
    | _ => none
  | .slice t x lo hi mx => match C.ti t, rd 0 x with
    | some ⟨_, _, .string⟩, .sc (.string s) => match mx with | none => sliceS s (lo.map (rd 0)) (hi.map (rd 0)) | some _ => none
    | some ⟨_, _, .slice e⟩, .sl own k xs => match C.ti e with
      | some ti => if k = 0 ∨ k = ti.size then sliceV own k xs (lo.map (rd 0)) (hi.map (rd 0)) (mx.map (rd 0)) else none
      | none => none
    | _, _ => none
  | .fieldAddr t x i => match C.ti t with
    | some ⟨_, _, .struct fs⟩ => match fs[i]? with
      | some (u, off) => match C.ti u with
        | some ti => if 0 < ti.size then match rd 0 x with
            | .ptr id o => some (.ptr id (o + off))
            | .elp cs => if off ≤ cs.length then some (.elp ((cs.drop off).map V.dem1)) else none
            | _ => none
          else none
        | none => none
      | none => none
    | _ => none
  | .field t x i => match C.ti t with
    | some ⟨_, _, .struct fs⟩ => match fs[i]?, rd t x with
      | some (u, off), .agg cs => match C.ti u with
        | some ti => ((sub cs off ti.size).bind (ofCells ti)).map V.dem
        | none => none
      | _, _ => none
    | _ => none
  | .indexAddr t x i => match C.ti t with
    | some ⟨_, _, .slice e⟩ => match C.ti e with
      | some ti => match rd 0 x with
        | .sl _ k xs => match idxIn (rd 0 i) xs.length with
          | some j => match xs[j]? with
            | some v => if k = ti.size ∧ plain v = true then some (.elp (v.cells.map V.dem1)) else none
            | none => none
          | none => none
        | .hs id off n k => match idxIn (rd 0 i) n with
          | some j => if k = ti.size then some (.ptr id (off + j * k)) else none
          | none => none
        | _ => none
      | none => none
    | some ⟨_, _, .array n e⟩ => match C.ti e with
      | some ti => match idxIn (rd 0 i) n with
        | some j => match rd 0 x with
          | .ptr id off => some (.ptr id (off + j * ti.size))
          | .elp cs => if j * ti.size ≤ cs.length then some (.elp ((cs.drop (j * ti.size)).map V.dem1)) else none
          | _ => none
        | none => none
      | none => none
    | _ => none
  | .index t x i => match C.ti t, rd t x with
    | some ⟨_, _, .string⟩, .sc (.string s) => match idxIn (rd 0 i) s.size with
      | some j => (s.data[j]?).map fun b => .sc (.int .u8 (b.toNat : Int))
      | none => none
    | some ⟨_, _, .array n e⟩, .agg cs => match C.ti e, idxIn (rd 0 i) n with
      | some ti, some j => ((sub cs (j * ti.size) ti.size).bind (ofCells ti)).map V.dem
      | _, _ => none
    | _, _ => none
  | .extract x i => match rd 0 x with
    | .tup vs => (vs[i]?).map V.dem
    | _ => none
  | .typeAssert x _ t ok => match C.ti t, rd 0 x with
    | some ti, .ifc u v => if ti.kind = .iface then none else
        if u = t then some (if ok then V.tup [v, .sc (.bool true)] else v).dem
        else if ok then (ofCells ti ti.zero).map fun z => (V.tup [z, .sc (.bool false)]).dem else none
    | some ti, .sc .nilIface => if ti.kind = .iface then none else if ok then (ofCells ti ti.zero).map fun z => (V.tup [z, .sc (.bool false)]).dem else none
    | _, _ => none
  | .call c => match c.callee with
    | .builtin b => builtinV C b c.argTypes.toList (c.args.toList.zipIdx.map fun (x, j) => rd ((c.argTypes[j]?).getD 0) x)
    | _ => none
  | _ => none

/-- One operation: its value, the blocks behind it. 'rd': what its operands tell; 'blk': what it makes lies in a block; 'lim': blocks from there on may be changed. -/
def evalOp (C : Ctx) (call : FuncId → List V → Heap → Nat → Option (V × Heap)) (rd : TypeId → Operand → V) (take blk : Bool) (o : Oper) (H : Heap) (lim : Nat) : Option (V × Heap) :=
  match o.op with
  | .alloc t => match C.ti t with
    | some ti => some (.ptr H.length 0, H ++ [ti.zero])
    | none => none
  | .box t x => match C.ti t with
    | some ti => if plain (rd t x) = true ∧ (rd t x).cells.length = ti.size then some (.ptr H.length 0, H ++ [(rd t x).cells]) else none
    | none => none
  | .load t a => match C.ti t with
    | some ti => match rd 0 a with
      | .ptr id off => match H[id]? with
        | some cs => match (sub cs off ti.size).bind (ofCells ti) with
          | some v => some (v.dem, H)
          | none => none
        | none => none
      | .elp cs => okV H (((sub cs 0 ti.size).bind (ofCells ti)).map V.dem)
      | _ => none
    | none => none
  | .store t a x => match C.ti t, rd 0 a with
    | some ti, .ptr id off => match H[id]? with
      | some cs => if lim ≤ id ∧ plain (rd t x) = true ∧ (rd t x).cells.length = ti.size ∧ closedL (id + 1) (rd t x).cells = true then
          match over cs off (rd t x).cells with
          | some cs' => some (.any, H.set id cs')
          | none => none
        else none
      | none => none
    | _, _ => none
  | .makeSlice t n m => if blk then
      match C.ti t with
      | some ⟨_, _, .slice e⟩ => match C.ti e, rd 0 n, rd 0 m with
        | some ti, .sc (.int _ a), .sc (.int _ b) =>
          if a = b ∧ 0 ≤ a ∧ ti.bytes * a ≤ 140737488355328 ∧ 0 < ti.size ∧ 0 < ti.bytes then
            some (.hs H.length 0 a.toNat ti.size, H ++ [(List.replicate a.toNat ti.zero).flatten])
          else none
        | _, _, _ => none
      | _ => none
    else okV H (evalP C rd o)
  | .call c => match c.callee with
    | .value f => match rd 0 f with
      | .fn (.func g) a b => call g (a.map V.dem ++ (c.args.toList.map (rd 0)) ++ b.map V.dem) H lim
      | _ => none
    | _ => okV H (evalP C rd o)
  | _ => okV H (evalP C rd o)

/-- is an operation called for? -/
def gate (ops : Array Oper) (e : Env) (o : Oper) : Option Bool :=
  match o.guard with
  | none => some true
  | some (j, want) => match (ops[j]?).bind (·.dst) with
    | some d => match e d with
      | .sc (.bool b) => some (b == want)
      | .tup [] => some false
      | _ => none
    | none => none

def stepOp (C : Ctx) (call : FuncId → List V → Heap → Nat → Option (V × Heap)) (h : Hint) (rid : Nat) (ops : Array Oper) (lim : Nat) (i : Nat) (o : Oper) (e : Env) (H : Heap) : Option (Env × Heap) :=
  match gate ops e o with
  | some true =>
    let take := h.takes.contains (rid, i)
    match evalOp C call (fun t => rdO C t e take) take (h.blocks.contains (rid, i)) o H lim with
    | some (v, H') => some ((e.left take o.op.operands.toList).put o.dst v, H')
    | none => none
  | some false => some (e.put o.dst (.tup []), H)
  | none => none

def evalOps (C : Ctx) (call : FuncId → List V → Heap → Nat → Option (V × Heap)) (h : Hint) (rid : Nat) (ops : Array Oper) (lim : Nat) : List Oper → Nat → Env → Heap → Option (Env × Heap)
  | [], _, e, H => some (e, H)
  | o :: os, i, e, H => match stepOp C call h rid ops lim i o e H with
    | some (e', H') => evalOps C call h rid ops lim os (i + 1) e' H'
    | none => none

inductive Ex where | nrm | ext (id : Nat) | ret
  deriving DecidableEq, Inhabited

abbrev Res := Option (Ex × Env × Heap)

def thenR (r : Res) (k : Env → Heap → Res) : Res :=
  match r with
  | some (.nrm, e, H) => k e H
  | r => r

def iter (body : Env → Heap → Res) : Nat → Env → Heap → Res
  | 0, _, _ => none
  | n + 1, e, H => thenR (body e H) (iter body n)

def inBlk (id : Nat) (r : Res) : Res :=
  match r with
  | some (.ext i, e, H) => if i = id then some (.nrm, e, H) else some (.ext i, e, H)
  | r => r

def condR (v : V) (x y : Res) : Res :=
  match v with
  | .sc (.bool b) => if b then x else y
  | _ => none

def evalCode (C : Ctx) (call : FuncId → List V → Heap → Nat → Option (V × Heap)) (h : Hint) (lim : Nat) : Code → Env → Heap → Res
  | .skip, e, H => some (.nrm, e, H)
  | .region id ops _, e, H => (evalOps C call h id ops lim ops.toList 0 e H).map fun (e, H) => (.nrm, e.keep h.keep, H)
  | .seq a b, e, H => thenR (evalCode C call h lim a e H) (evalCode C call h lim b)
  | .cond c a b, e, H => condR (rdO C 0 e false c) (evalCode C call h lim a e H) (evalCode C call h lim b e H)
  | .block id b, e, H => inBlk id (evalCode C call h lim b e H)
  | .loop b, e, H => iter (evalCode C call h lim b) C.fuel e H
  | .exit id, e, H => some (.ext id, e, H)
  | .ret, e, H => some (.ret, e, H)
  | _, _, _ => none

def resultV (C : Ctx) (e : Env) (H : Heap) : ResultVar → Option V
  | .tmp t => some (e t)
  | .cell a t => match e a, C.ti t with
    | .ptr id off, some ti => match H[id]? with
      | some cs => ((sub cs off ti.size).bind (ofCells ti)).map V.dem
      | none => none
    | _, _ => none

def resultVs (C : Ctx) (e : Env) (H : Heap) : List ResultVar → Option (List V)
  | [] => some []
  | r :: rs => match resultV C e H r, resultVs C e H rs with
    | some v, some vs => some (v :: vs)
    | _, _ => none

def oneV : List V → V
  | [v] => v
  | vs => .tup vs

def ends (C : Ctx) (fn : Func) (r : Res) : Option (V × Heap) :=
  match r with
  | some (.nrm, e, H) | some (.ret, e, H) => (resultVs C e H fn.results.toList).map fun vs => (oneV vs, H)
  | _ => none

def callM (C : Ctx) (ev : FuncId → List V → Heap → Nat → Option (V × Heap)) (f : FuncId) (args : List V) (H : Heap) (lim : Nat) : Option (V × Heap) :=
  match (C.hint f).mode with
  | .z => if closedL 0 args = true then match ev f args [] 0 with
    | some (r, _) => if closed 0 r = true then some (r, H) else none
    | none => none
    else none
  | .q => match ev f args H (max lim H.length) with
    | some (r, _) => if closed H.length r = true then some (r, H) else none
    | none => none
  | .w => match ev f args H lim with
    | some (r, H') => if closed H.length r = true then some (r, H'.take H.length) else none
    | none => none
  | .n => ev f args H lim

def args (l : List V) : Env := fun t => (l[t]?).getD .any

def evalFun (C : Ctx) : Nat → FuncId → List V → Heap → Nat → Option (V × Heap)
  | 0, _, _, _, _ => none
  | n + 1, f, l, H, lim =>
    match C.P.funcs[f]? with
    | some fn => match fn.body with
      | some c => if (C.hint f).ok = true then ends C fn (evalCode C (callM C (evalFun C n)) (C.hint f) lim c (args l) H) else none
      | none => none
    | none => none

end Go.Den
