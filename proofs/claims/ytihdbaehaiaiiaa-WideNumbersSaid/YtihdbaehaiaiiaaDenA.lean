import Derived.Calls
import Derived.Orders
import Derived.Laws.Append
import Derived.Laws.AppendOwn
import Derived.Laws.Entries
import Derived.Laws.StructEq
import Derived.Still
section
set_option linter.unusedVariables false
namespace Go.Den
inductive V where
  | any
  | sc (v : Value)
  | sl (own : Bool) (k : Nat) (xs : List V)
  | agg (cs : List V)
  | tup (vs : List V)
  | ptr (id off : Nat)
  | elp (cs : List V)
  | hs (id off len k : Nat)
  | fn (f : Fn) (first caps : List V)
  | ifc (t : TypeId) (v : V)
  deriving Inhabited
inductive TK where
  | int (k : IntKind)
  | bool | string
  | slice (elem : TypeId)
  | array (n : Nat) (elem : TypeId)
  | struct (fs : List (TypeId × Nat))
  | pointer (elem : TypeId)
  | iface | func | map (k v : TypeId) | other
  deriving Inhabited, DecidableEq
structure TI where
  zero : List V
  bytes : Nat
  kind : TK
  deriving Inhabited
def TI.size (t : TI) : Nat := t.zero.length
def TI.agg (t : TI) : Bool := match t.kind with | .array _ _ | .struct _ => true | _ => false
abbrev Heap := List (List V)
inductive Mode where | z | q | w | n
  deriving DecidableEq, Inhabited
structure Hint where
  mode : Mode
  keep : List Nat
  takes : List (Nat × Nat)
  blocks : List (Nat × Nat)
  ok : Bool
  dyn : List (Nat × Nat × Nat)
  spec : List Nat
  trims : List (Nat × Nat × List Nat)
  deriving Inhabited
structure Ctx where
  P : Program
  ti : TypeId → Option TI
  eqT : TypeId → Bool
  hint : FuncId → Hint
  fuel : Nat
def V.cells : V → List V
  | .agg cs => cs
  | v => [v]
def V.dem1 : V → V
  | .sl _ k xs => .sl false k xs
  | v => v
def V.dem2 : V → V
  | .agg cs => .agg (cs.map V.dem1)
  | v => v.dem1
def V.dem : V → V
  | .tup vs => .tup (vs.map V.dem2)
  | v => v.dem2
def Env := Nat → V
def Env.put (e : Env) (d : Option Nat) (v : V) : Env :=
  match d with
  | some d => fun t => if t = d then v else e t
  | none => e
def tab : List (Nat × V) → Env
  | [], _ => .any
  | (k, v) :: l, t => if t = k then v else tab l t
def Env.keep (e : Env) (ks : List Nat) : Env := tab (ks.map fun k => (k, e k))
def bind2 {α β γ : Type} (a : Option α) (b : Option β) (f : α → β → Option γ) : Option γ :=
  match a, b with
  | some x, some y => f x y
  | _, _ => none
def binI (op : BinOp) (k : IntKind) (a b : Int) : Option Value :=
  match op with
  | .add => some (.int k (k.wrap (a + b)))
  | .sub => some (.int k (k.wrap (a - b)))
  | .mul => some (.int k (k.wrap (a * b)))
  | .quo => if b = 0 then none else some (.int k (k.wrap (a.tdiv b)))
  | .rem => if b = 0 then none else some (.int k (a.tmod b))
  | .and => some (.int k (bits .and k a b))
  | .or => some (.int k (bits .or k a b))
  | .xor => some (.int k (bits .xor k a b))
  | .andNot => some (.int k (bits .andNot k a b))
  | .eql => some (.bool (a == b))
  | .neq => some (.bool (a != b))
  | .lss => some (.bool (decide (a < b)))
  | .leq => some (.bool (decide (a ≤ b)))
  | .gtr => some (.bool (decide (a > b)))
  | .geq => some (.bool (decide (a ≥ b)))
  | .shl | .shr => none
def binS (op : BinOp) (a b : ByteArray) : Option Value :=
  match op with
  | .add => if a.size + b.size ≤ 9223372036854775807 then some (.string (a ++ b)) else none
  | .eql => some (.bool (a.toList == b.toList))
  | .neq => some (.bool !(a.toList == b.toList))
  | .lss => some (.bool (Op.bytesLess a.toList b.toList))
  | .leq => some (.bool (Op.bytesLess a.toList b.toList || a.toList == b.toList))
  | .gtr => some (.bool !(Op.bytesLess a.toList b.toList || a.toList == b.toList))
  | .geq => some (.bool !(Op.bytesLess a.toList b.toList))
  | _ => none
def shI (op : BinOp) (k : IntKind) (a b : Int) : Option Value :=
  if b < 0 then none else
  match op with
  | .shl => some (.int k (k.wrap (a * 2 ^ (min b.toNat k.bits))))
  | .shr => some (.int k (a.fdiv (2 ^ (min b.toNat k.bits))))
  | _ => none
def eqK : TK → V → V → Option Bool
  | .int _, .sc (.int k a), .sc (.int k' b) => if k = k' then some (a == b) else none
  | .bool, .sc (.bool a), .sc (.bool b) => some (a == b)
  | .string, .sc (.string a), .sc (.string b) => some (a.toList == b.toList)
  | _, _, _ => none
def eqF (C : Ctx) (as bs : List V) : List (TypeId × Nat) → Option Bool
  | [] => some true
  | (u, off) :: fs => match C.ti u, as[off]?, bs[off]? with
    | some ti, some a, some b => bind2 (eqK ti.kind a b) (eqF C as bs fs) fun x y => some (x && y)
    | _, _, _ => none
def eqV (C : Ctx) (t : TypeId) (x y : V) : Option Bool :=
  match C.ti t with
  | some ⟨_, _, .bool⟩ => match x, y with
    | .sc (.bool a), .sc (.bool b) => some (a == b)
    | _, _ => none
  | some ⟨_, _, .pointer _⟩ => match x, y with
    | .sc (.pointer none), .sc (.pointer none) => some true
    | .ptr _ _, .sc (.pointer none) => some false
    | .sc (.pointer none), .ptr _ _ => some false
    | _, _ => none
  | some ⟨_, _, .struct fs⟩ => match x, y with
    | .agg as, .agg bs => if C.eqT t then eqF C as bs fs else none
    | _, _ => none
  | _ => none
def binV (C : Ctx) (t : TypeId) (op : BinOp) (x y : V) : Option V :=
  match x, y with
  | .sc (.int k a), .sc (.int k' b) =>
    match op with
    | .shl | .shr => (shI op k a b).map .sc
    | _ => if k = k' then (binI op k a b).map .sc else none
  | .sc (.string a), .sc (.string b) => (binS op a b).map .sc
  | x, y =>
    match op with
    | .eql => (eqV C t x y).map fun b => .sc (.bool b)
    | .neq => (eqV C t x y).map fun b => .sc (.bool !b)
    | _ => none
def unV (op : UnOp) (x : V) : Option V :=
  match op, x with
  | .neg, .sc (.int k n) => some (.sc (.int k (k.wrap (0 - n))))
  | .xor, .sc (.int k n) => some (.sc (.int k (bits .xor k (if k.signed then -1 else k.max) n)))
  | .not, .sc (.bool b) => some (.sc (.bool !b))
  | _, _ => none
def constV (C : Ctx) (t : TypeId) : Value → V
  | .slice none 0 0 =>
    match C.ti t with
    | some ⟨_, _, .slice e⟩ => .sl true ((C.ti e).elim 0 TI.size) []
    | _ => .sl true 0 []
  | .bool b => .sc (.bool b)
  | .int k n => .sc (.int k n)
  | .string s => .sc (.string s)
  | .pointer none => .sc (.pointer none)
  | .nilFunc => .sc .nilFunc
  | .nilIface => .sc .nilIface
  | .map none => .sc (.map none)
  | _ => .any
def rdO (C : Ctx) (t : TypeId) (e : Env) (take : Bool) : Operand → V
  | .tmp n => if take then e n else (e n).dem
  | .const v => constV C t v
  | .func f => .fn (.func f) [] []
  | .global _ => .any
def Env.left (e : Env) (take : Bool) (xs : List Operand) : Env :=
  if take then xs.foldl (fun e x => match x with | .tmp n => e.put (some n) (e n).dem | _ => e) e else e
mutual
def closed (n : Nat) : V → Bool
  | .any | .sc _ => true
  | .sl _ _ xs => closedL n xs
  | .agg cs => closedL n cs
  | .tup vs => closedL n vs
  | .ptr id _ => decide (id < n)
  | .elp cs => closedL n cs
  | .hs id _ _ _ => decide (id < n)
  | .fn _ a b => closedL n a && closedL n b
  | .ifc _ v => closed n v
def closedL (n : Nat) : List V → Bool
  | [] => true
  | v :: vs => closed n v && closedL n vs
end
def ofCells (t : TI) (cs : List V) : Option V :=
  if t.agg then some (.agg cs) else match cs with
    | [c] => some c
    | _ => none
def sub (cs : List V) (off n : Nat) : Option (List V) := if off + n ≤ cs.length then some ((cs.drop off).take n) else none
def over (cs : List V) (off : Nat) (vs : List V) : Option (List V) :=
  if off + vs.length ≤ cs.length then some (cs.take off ++ vs ++ cs.drop (off + vs.length)) else none
def plain : V → Bool
  | .any | .tup _ => false
  | _ => true
def fillV (place : Nat → Option (Nat × Nat)) (cs : List V) : List (Nat × V) → Option (List V)
  | [] => some cs
  | (i, v) :: rest =>
    match place i with
    | some (off, size) => if plain v = true ∧ v.cells.length = size then (over cs off v.cells).bind fun cs => fillV place cs rest else none
    | none => none
def fillL (k : Nat) (xs : List V) : List (Nat × V) → Option (List V)
  | [] => some xs
  | (i, v) :: rest => if plain v = true ∧ v.cells.length = k then if i < xs.length then fillL k (xs.set i v) rest else none else none
def intOf : V → Option Int
  | .sc (.int _ n) => some n
  | _ => none
def natIn (v : V) (n : Nat) : Option Nat :=
  match v with
  | .sc (.int _ i) => if 0 ≤ i ∧ i ≤ n then some i.toNat else none
  | _ => none
def idxIn (v : V) (n : Nat) : Option Nat :=
  match v with
  | .sc (.int _ i) => if 0 ≤ i ∧ i < n then some i.toNat else none
  | _ => none
def sliceV (own : Bool) (k : Nat) (xs : List V) (lo hi mx : Option V) : Option V :=
  match mx with
  | some m =>
    (natIn m xs.length).bind fun m =>
    match hi with
    | some h => (natIn h m).bind fun h =>
      (match lo with | some l => natIn l h | none => some 0).map fun l => .sl (h == m) k ((xs.take h).drop l)
    | none => none
  | none =>
    (match hi with | some h => natIn h xs.length | none => some xs.length).bind fun h =>
      (match lo with | some l => natIn l h | none => some 0).map fun l => .sl false k ((xs.take h).drop l)
def sliceS (s : ByteArray) (lo hi : Option V) : Option V :=
  (match hi with | some h => natIn h s.size | none => some s.size).bind fun h =>
    (match lo with | some l => natIn l h | none => some 0).map fun l => .sc (.string (s.extract l h))
def convV (C : Ctx) (src dst : TypeId) (x : V) : Option V :=
  match C.ti src, C.ti dst, x with
  | some _, some ⟨_, _, .int k⟩, .sc (.int _ n) => some (.sc (.int k (k.wrap n)))
  | some _, some ⟨_, _, .string⟩, .sc (.string s) => some (.sc (.string s))
  | _, _, _ => none
def mm (op : Bool) : V → V → Option V
  | .sc (.int k x), .sc (.int k' y) => if k = k' then some (.sc (.int k (if op then (if y > x then y else x) else (if y < x then y else x)))) else none
  | _, _ => none
def mmL (op : Bool) (x : V) : List V → Option V
  | [] => some x
  | y :: ys => (mm op x y).bind fun z => mmL op z ys
def builtinV (C : Ctx) (b : Builtin) (ts : List TypeId) (xs : List V) : Option V :=
  match b, ts, xs with
  | .len, t :: _, [.sc (.string s)] => match C.ti t with
    | some ⟨_, _, .string⟩ => some (.sc (.int .i64 s.size))
    | _ => none
  | .len, t :: _, [.sl _ _ l] => match C.ti t with
    | some ⟨_, _, .slice _⟩ => some (.sc (.int .i64 l.length))
    | _ => none
  | .len, t :: _, [.hs _ _ n _] => match C.ti t with
    | some ⟨_, _, .slice _⟩ => some (.sc (.int .i64 n))
    | _ => none
  | .len, t :: _, [_] => match C.ti t with
    | some ⟨_, _, .array n _⟩ => some (.sc (.int .i64 n))
    | _ => none
  | .append, t :: u :: _, [.sl own k l, .sl _ k' m] =>
    match C.ti t, C.ti u with
    | some ⟨_, _, .slice e⟩, some ⟨_, _, .slice _⟩ =>
      match C.ti e with
      | some ti =>
        if own = true ∧ 0 < ti.size ∧ 0 < ti.bytes ∧ (k = 0 ∨ k = ti.size) ∧ (k' = 0 ∨ k' = ti.size) ∧ (l.length + m.length) * ti.bytes ≤ 140737488355328
        then some (.sl true ti.size (l ++ m.map V.dem)) else none
      | none => none
    | _, _ => none
  | .max, _, x :: y :: ys => mmL true x (y :: ys)
  | .min, _, x :: y :: ys => mmL false x (y :: ys)
  | _, _, _ => none
def okV (H : Heap) (v : Option V) : Option (V × Heap) := v.map fun v => (v, H)
def evalP (C : Ctx) (rd : TypeId → Operand → V) (o : Oper) : Option V :=
  match o.op with
  | .move x | .assign x => some (rd o.type x)
  | .pick c a b => match rd 0 c with
    | .sc (.bool t) => some (if t then rd 0 a else rd 0 b).dem
    | _ => none
  | .build t ps => match C.ti t with
    | some ⟨zero, _, .struct fs⟩ =>
      (fillV (fun i => (fs[i]?).bind fun (u, off) => (C.ti u).map fun ti => (off, ti.size)) zero
        (ps.toList.map fun (i, x) => (i, (rd (((fs[i]?).map (·.1)).getD 0) x).dem))).map .agg
    | some ⟨zero, _, .array _ e⟩ =>
      match C.ti e with
      | some ti => (fillV (fun i => some (i * ti.size, ti.size)) zero (ps.toList.map fun (i, x) => (i, (rd e x).dem))).map .agg
      | none => none
    | _ => none
  | .buildSlice t n ps => match C.ti t with
    | some ⟨_, _, .slice e⟩ => match C.ti e with
      | some ti => if n * ti.size ≤ 16777216 ∧ 0 < ti.size then
          match ofCells ti ti.zero with
          | some z => (fillL ti.size (List.replicate n z) (ps.toList.map fun (i, x) => (i, (rd e x).dem))).map (.sl true ti.size)
          | none => none
        else none
      | none => none
    | _ => none
  | .nilCheck x => match rd 0 x with
    | .ptr id off => some (.ptr id off)
    | .elp cs => some (.elp cs)
    | .fn (.func f) a b => some (.fn (.func f) a b)
    | _ => none
  | .binOp op t x y _ => binV C t op (rd t x) (rd t y)
  | .unOp op _ x => unV op (rd 0 x)
  | .convert s d x => convV C s d (rd s x)
  | .makeInterface t x => match C.ti t with
    | some ⟨_, _, .iface⟩ => none
    | some _ => some (.ifc t (rd t x).dem)
    | none => none
  | .makeFunc f a b => some (.fn f (a.toList.map fun x => (rd 0 x).dem) (b.toList.map fun x => (rd 0 x).dem))
  | .makeSlice t n m => match C.ti t with
    | some ⟨_, _, .slice e⟩ => match C.ti e, rd 0 n, rd 0 m with
      | some ti, .sc (.int _ a), .sc (.int _ b) =>
        if a = b ∧ 0 ≤ a ∧ ti.bytes * a ≤ 140737488355328 ∧ 0 < ti.size ∧ 0 < ti.bytes then
          match ofCells ti ti.zero with
          | some z => some (.sl true ti.size (List.replicate a.toNat z))
          | none => none
        else none
      | _, _, _ => none
    | _ => none
  | .slice t x lo hi mx => match C.ti t, rd 0 x with
    | some ⟨_, _, .string⟩, .sc (.string s) => match mx with | none => sliceS s (lo.map (rd 0)) (hi.map (rd 0)) | some _ => none
    | some ⟨_, _, .slice e⟩, .sl own k xs => match C.ti e with
      | some ti => if k = 0 ∨ k = ti.size then sliceV own k xs (lo.map (rd 0)) (hi.map (rd 0)) (mx.map (rd 0)) else none
      | none => none
    | _, _ => none
  | .fieldAddr t x i => match C.ti t with
    | some ⟨_, _, .struct fs⟩ => match fs[i]? with
      | some (u, off) => match C.ti u with
        | some ti => if 0 < ti.size then match rd 0 x with
            | .ptr id o => some (.ptr id (o + off))
            | .elp cs => if off ≤ cs.length then some (.elp ((cs.drop off).map V.dem1)) else none
            | _ => none
          else none
        | none => none
      | none => none
    | _ => none
  | .field t x i => match C.ti t with
    | some ⟨_, _, .struct fs⟩ => match fs[i]?, rd t x with
      | some (u, off), .agg cs => match C.ti u with
        | some ti => ((sub cs off ti.size).bind (ofCells ti)).map V.dem
        | none => none
      | _, _ => none
    | _ => none
  | .indexAddr t x i => match C.ti t with
    | some ⟨_, _, .slice e⟩ => match C.ti e with
      | some ti => match rd 0 x with
        | .sl _ k xs => match idxIn (rd 0 i) xs.length with
          | some j => match xs[j]? with
            | some v => if k = ti.size ∧ plain v = true then some (.elp (v.cells.map V.dem1)) else none
            | none => none
          | none => none
        | .hs id off n k => match idxIn (rd 0 i) n with
          | some j => if k = ti.size then some (.ptr id (off + j * k)) else none
          | none => none
        | _ => none
      | none => none
    | some ⟨_, _, .array n e⟩ => match C.ti e with
      | some ti => match idxIn (rd 0 i) n with
        | some j => match rd 0 x with
          | .ptr id off => some (.ptr id (off + j * ti.size))
          | .elp cs => if j * ti.size ≤ cs.length then some (.elp ((cs.drop (j * ti.size)).map V.dem1)) else none
          | _ => none
        | none => none
      | none => none
    | _ => none
  | .index t x i => match C.ti t, rd t x with
    | some ⟨_, _, .string⟩, .sc (.string s) => match idxIn (rd 0 i) s.size with
      | some j => (s.data[j]?).map fun b => .sc (.int .u8 (b.toNat : Int))
      | none => none
    | some ⟨_, _, .array n e⟩, .agg cs => match C.ti e, idxIn (rd 0 i) n with
      | some ti, some j => ((sub cs (j * ti.size) ti.size).bind (ofCells ti)).map V.dem
      | _, _ => none
    | _, _ => none
  | .extract x i => match rd 0 x with
    | .tup vs => (vs[i]?).map V.dem
    | _ => none
  | .typeAssert x _ t ok => match C.ti t, rd 0 x with
    | some ti, .ifc u v => if ti.kind = .iface then none else
        if u = t then some (if ok then V.tup [v, .sc (.bool true)] else v).dem
        else if ok then (ofCells ti ti.zero).map fun z => (V.tup [z, .sc (.bool false)]).dem else none
    | some ti, .sc .nilIface => if ti.kind = .iface then none else if ok then (ofCells ti ti.zero).map fun z => (V.tup [z, .sc (.bool false)]).dem else none
    | _, _ => none
  | .call c => match c.callee with
    | .builtin b => builtinV C b c.argTypes.toList (c.args.toList.zipIdx.map fun (x, j) => rd ((c.argTypes[j]?).getD 0) x)
    | _ => none
  | _ => none
def evalOp (C : Ctx) (call : FuncId → List V → Heap → Nat → Option (V × Heap)) (rd : TypeId → Operand → V) (take blk : Bool) (o : Oper) (H : Heap) (lim : Nat) : Option (V × Heap) :=
  match o.op with
  | .alloc t => match C.ti t with
    | some ti => some (.ptr H.length 0, H ++ [ti.zero])
    | none => none
  | .box t x => match C.ti t with
    | some ti => if plain (rd t x) = true ∧ (rd t x).cells.length = ti.size then some (.ptr H.length 0, H ++ [(rd t x).cells]) else none
    | none => none
  | .load t a => match C.ti t with
    | some ti => match rd 0 a with
      | .ptr id off => match H[id]? with
        | some cs => match (sub cs off ti.size).bind (ofCells ti) with
          | some v => some (v.dem, H)
          | none => none
        | none => none
      | .elp cs => okV H (((sub cs 0 ti.size).bind (ofCells ti)).map V.dem)
      | _ => none
    | none => none
  | .store t a x => match C.ti t, rd 0 a with
    | some ti, .ptr id off => match H[id]? with
      | some cs => if lim ≤ id ∧ plain (rd t x) = true ∧ (rd t x).cells.length = ti.size ∧ closedL (id + 1) (rd t x).cells = true then
          match over cs off (rd t x).cells with
          | some cs' => some (.any, H.set id cs')
          | none => none
        else none
      | none => none
    | _, _ => none
  | .makeSlice t n m => if blk then
      match C.ti t with
      | some ⟨_, _, .slice e⟩ => match C.ti e, rd 0 n, rd 0 m with
        | some ti, .sc (.int _ a), .sc (.int _ b) =>
          if a = b ∧ 0 ≤ a ∧ ti.bytes * a ≤ 140737488355328 ∧ 0 < ti.size ∧ 0 < ti.bytes then
            some (.hs H.length 0 a.toNat ti.size, H ++ [(List.replicate a.toNat ti.zero).flatten])
          else none
        | _, _, _ => none
      | _ => none
    else okV H (evalP C rd o)
  | .call c => match c.callee with
    | .value f => match rd 0 f with
      | .fn (.func g) a b => call g (a.map V.dem ++ (c.args.toList.map (rd 0)) ++ b.map V.dem) H lim
      | _ => none
    | _ => okV H (evalP C rd o)
  | _ => okV H (evalP C rd o)
def gate (ops : Array Oper) (e : Env) (o : Oper) : Option Bool :=
  match o.guard with
  | none => some true
  | some (j, want) => match (ops[j]?).bind (·.dst) with
    | some d => match e d with
      | .sc (.bool b) => some (b == want)
      | .tup [] => some false
      | _ => none
    | none => none
def stepOp (C : Ctx) (call : FuncId → List V → Heap → Nat → Option (V × Heap)) (h : Hint) (rid : Nat) (ops : Array Oper) (lim : Nat) (i : Nat) (o : Oper) (e : Env) (H : Heap) : Option (Env × Heap) :=
  match gate ops e o with
  | some true =>
    let take := h.takes.contains (rid, i)
    match evalOp C call (fun t => rdO C t e take) take (h.blocks.contains (rid, i)) o H lim with
    | some (v, H') => some ((e.left take o.op.operands.toList).put o.dst v, H')
    | none => none
  | some false => some (e.put o.dst (.tup []), H)
  | none => none
def evalOps (C : Ctx) (call : FuncId → List V → Heap → Nat → Option (V × Heap)) (h : Hint) (rid : Nat) (ops : Array Oper) (lim : Nat) : List Oper → Nat → Env → Heap → Option (Env × Heap)
  | [], _, e, H => some (e, H)
  | o :: os, i, e, H => match stepOp C call h rid ops lim i o e H with
    | some (e', H') => evalOps C call h rid ops lim os (i + 1) e' H'
    | none => none
inductive FP | pure | rd (b : Nat) | rdAll | new | wr (b : Nat) | all
def fpOp (C : Ctx) (rd : Operand → V) (blk : Bool) : Op → FP
  | .load _ a => match rd a with
    | .ptr b _ => .rd b
    | .elp _ => .pure
    | _ => .rdAll
  | .store _ a _ => match rd a with
    | .ptr b _ => .wr b
    | _ => .all
  | .alloc _ | .box _ _ => .new
  | .makeSlice _ _ _ => match blk with
    | true => .new
    | false => .pure
  | .call c => match c.callee with
    | .value f => match rd f with
      | .fn (.func g) _ _ => match (C.hint g).mode with
        | .z => .pure
        | .q => .rdAll
        | _ => .all
      | _ => .all
    | _ => .pure
  | _ => .pure
def indF (n : Nat) : FP → FP → Bool
  | .pure, _ => true
  | _, .pure => true
  | .rd _, .rd _ => true
  | .rd _, .rdAll => true
  | .rdAll, .rd _ => true
  | .rdAll, .rdAll => true
  | .rd a, .new => Nat.blt a n
  | .new, .rd a => Nat.blt a n
  | .wr a, .new => Nat.blt a n
  | .new, .wr a => Nat.blt a n
  | .rd a, .wr b => !Nat.beq a b
  | .wr a, .rd b => !Nat.beq a b
  | .wr a, .wr b => !Nat.beq a b
  | _, _ => false
def fpAt (C : Ctx) (h : Hint) (rid i : Nat) (o : Oper) (e : Env) : FP := fpOp C (rdO C 0 e false) (h.blocks.contains (rid, i)) o.op
def fpI (C : Ctx) (h : Hint) (rid : Nat) (ops : Array Oper) (e : Env) (i : Nat) : FP :=
  match ops[i]? with
  | some o => fpAt C h rid i o e
  | none => .all
def dynOK (C : Ctx) (h : Hint) (rid : Nat) (ops : Array Oper) (n : Nat) (e : Env) : List (Nat × Nat × Nat) → Bool
  | [] => true
  | (r, i, j) :: l => match Nat.beq r rid with
    | true => match indF n (fpI C h rid ops e i) (fpI C h rid ops e j) with
      | true => dynOK C h rid ops n e l
      | false => false
    | false => dynOK C h rid ops n e l
def trimOf (id : Nat) : List (Nat × Nat × List Nat) → Option (Nat × List Nat)
  | [] => none
  | (r, n, ks) :: l => match Nat.beq r id with
    | true => some (n, ks)
    | false => trimOf id l
def trimB (n : Nat) (e : Env) (H : Heap) (ks : List Nat) : Bool := (ks.all fun k => closed n (e k)) && (H.take n).all (closedL n)
inductive Ex where | nrm | ext (id : Nat) | ret
  deriving DecidableEq, Inhabited
abbrev Res := Option (Ex × Env × Heap)
def thenR (r : Res) (k : Env → Heap → Res) : Res :=
  match r with
  | some (.nrm, e, H) => k e H
  | r => r
def iter (body : Env → Heap → Res) : Nat → Env → Heap → Res
  | 0, _, _ => none
  | n + 1, e, H => thenR (body e H) (iter body n)
def inBlk (id : Nat) (r : Res) : Res :=
  match r with
  | some (.ext i, e, H) => if i = id then some (.nrm, e, H) else some (.ext i, e, H)
  | r => r
def condR (v : V) (x y : Res) : Res :=
  match v with
  | .sc (.bool b) => if b then x else y
  | _ => none
def evalCode (C : Ctx) (call : FuncId → List V → Heap → Nat → Option (V × Heap)) (h : Hint) (lim : Nat) : Code → Env → Heap → Res
  | .skip, e, H => some (.nrm, e, H)
  | .region id ops _, e, H => match evalOps C call h id ops lim ops.toList 0 e H with
    | some (e', H') => if dynOK C h id ops H.length e' h.dyn = true then match trimOf id h.trims with
        | none => some (.nrm, e'.keep h.keep, H')
        | some (n, ks) => if trimB n e' H' ks = true then some (.nrm, e'.keep ks, H'.take n) else none
      else none
    | none => none
  | .seq a b, e, H => thenR (evalCode C call h lim a e H) (evalCode C call h lim b)
  | .cond c a b, e, H => condR (rdO C 0 e false c) (evalCode C call h lim a e H) (evalCode C call h lim b e H)
  | .block id b, e, H => inBlk id (evalCode C call h lim b e H)
  | .loop b, e, H => iter (evalCode C call h lim b) C.fuel e H
  | .exit id, e, H => some (.ext id, e, H)
  | .ret, e, H => some (.ret, e, H)
  | _, _, _ => none
def resultV (C : Ctx) (e : Env) (H : Heap) : ResultVar → Option V
  | .tmp t => some (e t)
  | .cell a t => match e a, C.ti t with
    | .ptr id off, some ti => match H[id]? with
      | some cs => ((sub cs off ti.size).bind (ofCells ti)).map V.dem
      | none => none
    | _, _ => none
def resultVs (C : Ctx) (e : Env) (H : Heap) : List ResultVar → Option (List V)
  | [] => some []
  | r :: rs => match resultV C e H r, resultVs C e H rs with
    | some v, some vs => some (v :: vs)
    | _, _ => none
def oneV : List V → V
  | [v] => v
  | vs => .tup vs
def ends (C : Ctx) (fn : Func) (r : Res) : Option (V × Heap) :=
  match r with
  | some (.nrm, e, H) | some (.ret, e, H) => (resultVs C e H fn.results.toList).map fun vs => (oneV vs, H)
  | _ => none
def callM (C : Ctx) (ev : FuncId → List V → Heap → Nat → Option (V × Heap)) (f : FuncId) (args : List V) (H : Heap) (lim : Nat) : Option (V × Heap) :=
  match (C.hint f).mode with
  | .z => if closedL 0 args = true then match ev f args [] 0 with
    | some (r, _) => if closed 0 r = true then some (r, H) else none
    | none => none
    else none
  | .q => match ev f args H (max lim H.length) with
    | some (r, _) => if closed H.length r = true then some (r, H) else none
    | none => none
  | .w => match ev f args H lim with
    | some (r, H') => if closed H.length r = true then some (r, H'.take H.length) else none
    | none => none
  | .n => ev f args H lim
def args (l : List V) : Env := fun t => (l[t]?).getD .any
def evalFun (C : Ctx) : Nat → FuncId → List V → Heap → Nat → Option (V × Heap)
  | 0, _, _, _, _ => none
  | n + 1, f, l, H, lim =>
    match C.P.funcs[f]? with
    | some fn => match fn.body with
      | some c => if (C.hint f).ok = true ∧ ((C.hint f).trims = [] ∨ H = []) then ends C fn (evalCode C (callM C (evalFun C n)) (C.hint f) lim c (args l) H) else none
      | none => none
    | none => none
end Go.Den
end
section
set_option linter.unusedVariables false
namespace Go.Den
inductive Zone where
  | free
  | log (n : Nat)
  | box (i : Nat)
def flat : Value → Bool
  | .bool _ | .int _ _ | .string _ | .pointer none | .map none | .nilFunc | .nilIface => true
  | _ => false
theorem flat_one {v : Value} (h : flat v = true) : v.oneCell' = true := by cases v <;> simp_all [flat, Value.oneCell']
def lies (w : World) (β o : Nat) (us : List Value) : Prop := ∀ j x, us[j]? = some x → w.cell? ⟨β, o + j, none⟩ = some x
mutual
def srep (Z : Nat → Zone) (ι : List Nat) (w : World) : V → Value → Prop
  | .any, _ => True
  | .sc v, u => u = v ∧ flat v = true
  | .sl _ k xs, u => (u = .slice none 0 0 ∧ xs = []) ∨
      ∃ β o c us m, u = .slice (some ⟨β, o, none⟩) xs.length c ∧ xs.length ≤ c ∧ 0 < k ∧ Z β = .log m ∧ o + us.length ≤ m ∧ lies w β o us ∧ srepE Z ι w k xs us
  | .agg cs, u => ∃ us : List Value, u = .agg us.toArray ∧ srepL Z ι w cs us
  | .tup vs, u => ∃ us : List Value, u = .tuple us.toArray ∧ srepT Z ι w vs us
  | .ptr id off, u => ∃ β, ι[id]? = some β ∧ u = .pointer (some ⟨β, off, none⟩)
  | .elp cs, u => ∃ β o us m, u = .pointer (some ⟨β, o, none⟩) ∧ Z β = .log m ∧ o + us.length ≤ m ∧ lies w β o us ∧ srepL Z ι w cs us
  | .hs id off n k, u => ∃ β c, ι[id]? = some β ∧ u = .slice (some ⟨β, off, none⟩) n c ∧ n ≤ c
  | .fn f a b, u => ∃ us ws : List Value, u = .func f us.toArray ws.toArray ∧ srepT Z ι w a us ∧ srepT Z ι w b ws
  | .ifc t v, u => ∃ x, u = .iface t x ∧ srep Z ι w v x
def srepL (Z : Nat → Zone) (ι : List Nat) (w : World) : List V → List Value → Prop
  | [], us => us = []
  | v :: vs, us => ∃ u us', us = u :: us' ∧ u.oneCell' = true ∧ srep Z ι w v u ∧ srepL Z ι w vs us'
def srepT (Z : Nat → Zone) (ι : List Nat) (w : World) : List V → List Value → Prop
  | [], us => us = []
  | v :: vs, us => ∃ u us', us = u :: us' ∧ srep Z ι w v u ∧ srepT Z ι w vs us'
def srepE (Z : Nat → Zone) (ι : List Nat) (w : World) (k : Nat) : List V → List Value → Prop
  | [], us => us = []
  | v :: vs, us => ∃ u us', us = u.cells.toList ++ us' ∧ u.cells.size = k ∧ (∀ x ∈ u.cells.toList, x.oneCell' = true) ∧ srep Z ι w v u ∧ srepE Z ι w k vs us'
end
section
variable {Z : Nat → Zone} {ι : List Nat} {w : World}
theorem srepL_length : ∀ {cs : List V} {us : List Value}, srepL Z ι w cs us → us.length = cs.length
  | [], us, h => by simp only [srepL] at h; simp [h]
  | c :: cs, us, h => by
    simp only [srepL] at h
    obtain ⟨u, us', rfl, _, _, h⟩ := h
    simp [srepL_length h]
theorem srepT_length : ∀ {cs : List V} {us : List Value}, srepT Z ι w cs us → us.length = cs.length
  | [], us, h => by simp only [srepT] at h; simp [h]
  | c :: cs, us, h => by
    simp only [srepT] at h
    obtain ⟨u, us', rfl, _, h⟩ := h
    simp [srepT_length h]
theorem srepE_length {k : Nat} : ∀ {xs : List V} {us : List Value}, srepE Z ι w k xs us → us.length = xs.length * k
  | [], us, h => by simp only [srepE] at h; simp [h]
  | x :: xs, us, h => by
    simp only [srepE] at h
    obtain ⟨u, us', rfl, hk, _, _, h⟩ := h
    simp [srepE_length h, hk, Nat.add_mul, Nat.add_comm]
theorem srepL_one : ∀ {cs : List V} {us : List Value}, srepL Z ι w cs us → ∀ x ∈ us, x.oneCell' = true
  | [], us, h => by simp only [srepL] at h; simp [h]
  | c :: cs, us, h => by
    simp only [srepL] at h
    obtain ⟨u, us', rfl, h1, _, h⟩ := h
    intro x hx
    rcases List.mem_cons.1 hx with rfl | hx
    · exact h1
    · exact srepL_one h x hx
theorem srepE_one {k : Nat} : ∀ {xs : List V} {us : List Value}, srepE Z ι w k xs us → ∀ x ∈ us, x.oneCell' = true
  | [], us, h => by simp only [srepE] at h; simp [h]
  | c :: cs, us, h => by
    simp only [srepE] at h
    obtain ⟨u, us', rfl, _, h1, _, h⟩ := h
    intro x hx
    rcases List.mem_append.1 hx with hx | hx
    · exact h1 x hx
    · exact srepE_one h x hx
theorem srepL_append : ∀ {as bs : List V} {us vs : List Value}, srepL Z ι w as us → srepL Z ι w bs vs → srepL Z ι w (as ++ bs) (us ++ vs)
  | [], _, us, _, h, h' => by simp only [srepL] at h; subst h; simpa using h'
  | a :: as, _, us, _, h, h' => by
    simp only [srepL] at h
    obtain ⟨u, us', rfl, h1, h2, h3⟩ := h
    simp only [List.cons_append, srepL]
    exact ⟨u, _, rfl, h1, h2, srepL_append h3 h'⟩
theorem srepE_append {k : Nat} : ∀ {as bs : List V} {us vs : List Value}, srepE Z ι w k as us → srepE Z ι w k bs vs → srepE Z ι w k (as ++ bs) (us ++ vs)
  | [], _, us, _, h, h' => by simp only [srepE] at h; subst h; simpa using h'
  | a :: as, _, us, _, h, h' => by
    simp only [srepE] at h
    obtain ⟨u, us', rfl, h0, h1, h2, h3⟩ := h
    simp only [List.cons_append, srepE, List.append_assoc]
    exact ⟨u, _, rfl, h0, h1, h2, srepE_append h3 h'⟩
theorem srepL_take (n : Nat) : ∀ {cs : List V} {us : List Value}, srepL Z ι w cs us → srepL Z ι w (cs.take n) (us.take n) := by
  induction n with
  | zero => intro cs us _; simp [srepL]
  | succ n ih =>
    intro cs us h
    cases cs with
    | nil => simp only [srepL] at h; subst h; simp [srepL]
    | cons c cs =>
      simp only [srepL] at h
      obtain ⟨u, us', rfl, h1, h2, h3⟩ := h
      simp only [List.take_succ_cons, srepL]
      exact ⟨u, _, rfl, h1, h2, ih h3⟩
theorem srepL_drop (n : Nat) : ∀ {cs : List V} {us : List Value}, srepL Z ι w cs us → srepL Z ι w (cs.drop n) (us.drop n) := by
  induction n with
  | zero => intro cs us h; simpa using h
  | succ n ih =>
    intro cs us h
    cases cs with
    | nil => simp only [srepL] at h; subst h; simp [srepL]
    | cons c cs =>
      simp only [srepL] at h
      obtain ⟨u, us', rfl, h1, h2, h3⟩ := h
      simpa using ih h3
theorem srepE_take {k : Nat} (n : Nat) : ∀ {xs : List V} {us : List Value}, srepE Z ι w k xs us → srepE Z ι w k (xs.take n) (us.take (n * k)) := by
  induction n with
  | zero => intro cs us _; simp [srepE]
  | succ n ih =>
    intro cs us h
    cases cs with
    | nil => simp only [srepE] at h; subst h; simp [srepE]
    | cons c cs =>
      simp only [srepE] at h
      obtain ⟨u, us', rfl, h0, h1, h2, h3⟩ := h
      simp only [List.take_succ_cons, srepE]
      refine ⟨u, us'.take (n * k), ?_, h0, h1, h2, ih h3⟩
      have hl : u.cells.toList.length = k := by simpa using h0
      rw [List.take_append, hl, List.take_of_length_le (by rw [hl, Nat.add_mul]; omega)]
      congr 2
      rw [Nat.add_mul]; omega
theorem srepE_drop {k : Nat} (n : Nat) : ∀ {xs : List V} {us : List Value}, srepE Z ι w k xs us → srepE Z ι w k (xs.drop n) (us.drop (n * k)) := by
  induction n with
  | zero => intro cs us h; simpa using h
  | succ n ih =>
    intro cs us h
    cases cs with
    | nil => simp only [srepE] at h; subst h; simp [srepE]
    | cons c cs =>
      simp only [srepE] at h
      obtain ⟨u, us', rfl, h0, h1, h2, h3⟩ := h
      have hl : u.cells.toList.length = k := by simpa using h0
      have : (n + 1) * k = u.cells.toList.length + n * k := by rw [hl, Nat.add_mul]; omega
      rw [this, List.drop_append, Nat.add_sub_cancel_left, List.drop_of_length_le (Nat.le_add_right _ _)]
      simpa using ih h3
theorem srepE_get {k : Nat} : ∀ {xs : List V} {us : List Value} {j : Nat} {v : V}, srepE Z ι w k xs us → xs[j]? = some v →
    ∃ u, u.cells.toList = (us.drop (j * k)).take k ∧ u.cells.size = k ∧ (∀ x ∈ u.cells.toList, x.oneCell' = true) ∧ srep Z ι w v u := by
  intro xs us j v h hv
  have h' := srepE_drop j h
  rw [List.drop_eq_getElem?_toList_append, hv] at h'
  simp only [Option.toList_some, List.cons_append, List.nil_append, srepE] at h'
  obtain ⟨u, us', he, h0, h1, h2, h3⟩ := h'
  refine ⟨u, ?_, h0, h1, h2⟩
  have hl : u.cells.toList.length = k := by simpa using h0
  rw [he, ← hl, List.take_left]
theorem srepL_get : ∀ {cs : List V} {us : List Value} {j : Nat} {v : V}, srepL Z ι w cs us → cs[j]? = some v →
    ∃ u, us[j]? = some u ∧ u.oneCell' = true ∧ srep Z ι w v u := by
  intro cs us j v h hv
  have h' := srepL_drop j h
  rw [List.drop_eq_getElem?_toList_append, hv] at h'
  simp only [Option.toList_some, List.cons_append, List.nil_append, srepL] at h'
  obtain ⟨u, us', he, h1, h2, h3⟩ := h'
  refine ⟨u, ?_, h1, h2⟩
  have := congrArg (fun l => l[0]?) he
  simpa using this
theorem srepT_get : ∀ {cs : List V} {us : List Value} {j : Nat} {v : V}, srepT Z ι w cs us → cs[j]? = some v → ∃ u, us[j]? = some u ∧ srep Z ι w v u
  | [], us, j, v, h, hv => by simp at hv
  | c :: cs, us, j, v, h, hv => by
    simp only [srepT] at h
    obtain ⟨u, us', rfl, h2, h3⟩ := h
    cases j with
    | zero => simp at hv; subst hv; exact ⟨u, by simp, h2⟩
    | succ j => simp at hv; simpa using srepT_get h3 hv
theorem srep_dem1 {v : V} {u : Value} (h : srep Z ι w v u) : srep Z ι w v.dem1 u := by
  cases v <;> exact h
theorem srepL_dem1 : ∀ {cs : List V} {us : List Value}, srepL Z ι w cs us → srepL Z ι w (cs.map V.dem1) us
  | [], us, h => by simpa using h
  | c :: cs, us, h => by
    simp only [srepL, List.map_cons] at h ⊢
    obtain ⟨u, us', rfl, h1, h2, h3⟩ := h
    exact ⟨u, us', rfl, h1, srep_dem1 h2, srepL_dem1 h3⟩
theorem srepT_dem1 : ∀ {cs : List V} {us : List Value}, srepT Z ι w cs us → srepT Z ι w (cs.map V.dem1) us
  | [], us, h => by simpa using h
  | c :: cs, us, h => by
    simp only [srepT, List.map_cons] at h ⊢
    obtain ⟨u, us', rfl, h2, h3⟩ := h
    exact ⟨u, us', rfl, srep_dem1 h2, srepT_dem1 h3⟩
theorem srep_dem2 {v : V} {u : Value} (h : srep Z ι w v u) : srep Z ι w v.dem2 u := by
  cases v <;> try exact srep_dem1 h
  simp only [V.dem2, srep] at h ⊢
  obtain ⟨us, rfl, h⟩ := h
  exact ⟨us, rfl, srepL_dem1 h⟩
theorem srepT_dem2 : ∀ {cs : List V} {us : List Value}, srepT Z ι w cs us → srepT Z ι w (cs.map V.dem2) us
  | [], us, h => by simpa using h
  | c :: cs, us, h => by
    simp only [srepT, List.map_cons] at h ⊢
    obtain ⟨u, us', rfl, h2, h3⟩ := h
    exact ⟨u, us', rfl, srep_dem2 h2, srepT_dem2 h3⟩
theorem srep_dem {v : V} {u : Value} (h : srep Z ι w v u) : srep Z ι w v.dem u := by
  cases v <;> try exact srep_dem2 h
  simp only [V.dem, srep] at h ⊢
  obtain ⟨us, rfl, h⟩ := h
  exact ⟨us, rfl, srepT_dem2 h⟩
theorem srep_cells {v : V} {u : Value} (h : srep Z ι w v u) (hn : v ≠ .any) (ht : ∀ vs, v ≠ .tup vs) : srepL Z ι w v.cells u.cells.toList := by
  cases v with
  | any => exact absurd rfl hn
  | tup vs => exact absurd rfl (ht vs)
  | agg cs =>
    simp only [srep] at h
    obtain ⟨us, rfl, h⟩ := h
    simpa [V.cells, Value.cells] using h
  | sc v =>
    have h' := h
    simp only [srep] at h
    obtain ⟨rfl, hf⟩ := h
    have : u.cells = #[u] := by cases u <;> simp_all [flat, Value.cells]
    simp only [V.cells, this, srepL]
    exact ⟨u, [], by simp, flat_one hf, h', rfl⟩
  | sl o k xs =>
    have h' := h
    simp only [srep] at h
    simp only [V.cells, srepL]
    rcases h with ⟨rfl, _⟩ | ⟨β, o, c, us, m, rfl, _⟩ <;> exact ⟨_, [], by simp [Value.cells], rfl, h', rfl⟩
  | ptr a b =>
    have h' := h
    simp only [srep] at h
    obtain ⟨β, _, rfl⟩ := h
    simp only [V.cells, srepL]
    exact ⟨_, [], by simp [Value.cells], rfl, h', rfl⟩
  | elp cs =>
    have h' := h
    simp only [srep] at h
    obtain ⟨β, o, us, m, rfl, _⟩ := h
    simp only [V.cells, srepL]
    exact ⟨_, [], by simp [Value.cells], rfl, h', rfl⟩
  | hs a b c d =>
    have h' := h
    simp only [srep] at h
    obtain ⟨β, c, _, rfl, _⟩ := h
    simp only [V.cells, srepL]
    exact ⟨_, [], by simp [Value.cells], rfl, h', rfl⟩
  | fn f a b =>
    have h' := h
    simp only [srep] at h
    obtain ⟨us, ws, rfl, _⟩ := h
    simp only [V.cells, srepL]
    exact ⟨_, [], by simp [Value.cells], rfl, h', rfl⟩
  | ifc t v =>
    have h' := h
    simp only [srep] at h
    obtain ⟨x, rfl, _⟩ := h
    simp only [V.cells, srepL]
    exact ⟨_, [], by simp [Value.cells], rfl, h', rfl⟩
structure Keeps (n : Nat) (Z : Nat → Zone) (ι : List Nat) (w : World) (Z' : Nat → Zone) (ι' : List Nat) (w' : World) : Prop where
  log : ∀ β m, Z β = .log m → ∃ m', m ≤ m' ∧ Z' β = .log m' ∧ ∀ o, o < m → w'.cell? ⟨β, o, none⟩ = w.cell? ⟨β, o, none⟩
  idx : ∀ i β, i < n → ι[i]? = some β → ι'[i]? = some β
theorem lies_keeps {n : Nat} {Z' : Nat → Zone} {ι' : List Nat} {w' : World} (K : Keeps n Z ι w Z' ι' w') {β o m : Nat} {us : List Value} (hz : Z β = .log m) (hm : o + us.length ≤ m) (h : lies w β o us) : lies w' β o us := by
  intro j x hj
  obtain ⟨m', _, _, hk⟩ := K.log β m hz
  have hlt : j < us.length := by
    rcases Nat.lt_or_ge j us.length with h | h
    · exact h
    · simp [List.getElem?_eq_none h] at hj
  rw [hk _ (by omega)]
  exact h j x hj
mutual
theorem srep_keeps {n : Nat} {Z' : Nat → Zone} {ι' : List Nat} {w' : World} (K : Keeps n Z ι w Z' ι' w') : ∀ (v : V) (u : Value), closed n v = true → srep Z ι w v u → srep Z' ι' w' v u
  | .any, _, _, _ => by simp only [srep]
  | .sc v, u, _, h => by simpa only [srep] using h
  | .sl o k xs, u, hc, h => by
    simp only [srep] at h ⊢
    rcases h with h | ⟨β, o, c, us, m, h1, h2, h3, h4, h5, h6, h7⟩
    · exact .inl h
    · obtain ⟨m', hm, hz, _⟩ := K.log β m h4
      exact .inr ⟨β, o, c, us, m', h1, h2, h3, hz, by omega, lies_keeps K h4 h5 h6, srepE_keeps K k xs us (by simpa only [closed] using hc) h7⟩
  | .agg cs, u, hc, h => by
    simp only [srep] at h ⊢
    obtain ⟨us, h1, h2⟩ := h
    exact ⟨us, h1, srepL_keeps K cs us (by simpa only [closed] using hc) h2⟩
  | .tup cs, u, hc, h => by
    simp only [srep] at h ⊢
    obtain ⟨us, h1, h2⟩ := h
    exact ⟨us, h1, srepT_keeps K cs us (by simpa only [closed] using hc) h2⟩
  | .ptr id off, u, hc, h => by
    simp only [srep, closed, decide_eq_true_eq] at h hc ⊢
    obtain ⟨β, h1, h2⟩ := h
    exact ⟨β, K.idx id β hc h1, h2⟩
  | .elp cs, u, hc, h => by
    simp only [srep] at h ⊢
    obtain ⟨β, o, us, m, h1, h4, h5, h6, h7⟩ := h
    obtain ⟨m', hm, hz, _⟩ := K.log β m h4
    exact ⟨β, o, us, m', h1, hz, by omega, lies_keeps K h4 h5 h6, srepL_keeps K cs us (by simpa only [closed] using hc) h7⟩
  | .hs id off len k, u, hc, h => by
    simp only [srep, closed, decide_eq_true_eq] at h hc ⊢
    obtain ⟨β, c, h1, h2⟩ := h
    exact ⟨β, c, K.idx id β hc h1, h2⟩
  | .fn f a b, u, hc, h => by
    simp only [srep, closed, Bool.and_eq_true] at h hc ⊢
    obtain ⟨us, ws, h1, h2, h3⟩ := h
    exact ⟨us, ws, h1, srepT_keeps K a us hc.1 h2, srepT_keeps K b ws hc.2 h3⟩
  | .ifc t v, u, hc, h => by
    simp only [srep, closed] at h hc ⊢
    obtain ⟨x, h1, h2⟩ := h
    exact ⟨x, h1, srep_keeps K v x hc h2⟩
theorem srepL_keeps {n : Nat} {Z' : Nat → Zone} {ι' : List Nat} {w' : World} (K : Keeps n Z ι w Z' ι' w') : ∀ (cs : List V) (us : List Value), closedL n cs = true → srepL Z ι w cs us → srepL Z' ι' w' cs us
  | [], us, _, h => by simpa only [srepL] using h
  | c :: cs, us, hc, h => by
    simp only [srepL, closedL, Bool.and_eq_true] at h hc ⊢
    obtain ⟨u, us', h1, h2, h3, h4⟩ := h
    exact ⟨u, us', h1, h2, srep_keeps K c u hc.1 h3, srepL_keeps K cs us' hc.2 h4⟩
theorem srepT_keeps {n : Nat} {Z' : Nat → Zone} {ι' : List Nat} {w' : World} (K : Keeps n Z ι w Z' ι' w') : ∀ (cs : List V) (us : List Value), closedL n cs = true → srepT Z ι w cs us → srepT Z' ι' w' cs us
  | [], us, _, h => by simpa only [srepT] using h
  | c :: cs, us, hc, h => by
    simp only [srepT, closedL, Bool.and_eq_true] at h hc ⊢
    obtain ⟨u, us', h1, h3, h4⟩ := h
    exact ⟨u, us', h1, srep_keeps K c u hc.1 h3, srepT_keeps K cs us' hc.2 h4⟩
theorem srepE_keeps {n : Nat} {Z' : Nat → Zone} {ι' : List Nat} {w' : World} (K : Keeps n Z ι w Z' ι' w') (k : Nat) : ∀ (cs : List V) (us : List Value), closedL n cs = true → srepE Z ι w k cs us → srepE Z' ι' w' k cs us
  | [], us, _, h => by simpa only [srepE] using h
  | c :: cs, us, hc, h => by
    simp only [srepE, closedL, Bool.and_eq_true] at h hc ⊢
    obtain ⟨u, us', h1, h2, h2', h3, h4⟩ := h
    exact ⟨u, us', h1, h2, h2', srep_keeps K c u hc.1 h3, srepE_keeps K k cs us' hc.2 h4⟩
end
mutual
theorem srep_closed : ∀ (v : V) (u : Value), srep Z ι w v u → closed ι.length v = true
  | .any, _, _ => by simp only [closed]
  | .sc v, u, _ => by simp only [closed]
  | .sl o k xs, u, h => by
    simp only [srep, closed] at h ⊢
    rcases h with ⟨_, rfl⟩ | ⟨β, o, c, us, m, h1, h2, h3, h4, h5, h6, h7⟩
    · simp only [closedL]
    · exact srepE_closed k xs us h7
  | .agg cs, u, h => by
    simp only [srep, closed] at h ⊢
    obtain ⟨us, h1, h2⟩ := h
    exact srepL_closed cs us h2
  | .tup cs, u, h => by
    simp only [srep, closed] at h ⊢
    obtain ⟨us, h1, h2⟩ := h
    exact srepT_closed cs us h2
  | .ptr id off, u, h => by
    simp only [srep, closed, decide_eq_true_eq] at h ⊢
    obtain ⟨β, h1, h2⟩ := h
    exact (List.getElem?_eq_some_iff.1 h1).1
  | .elp cs, u, h => by
    simp only [srep, closed] at h ⊢
    obtain ⟨β, o, us, m, h1, h4, h5, h6, h7⟩ := h
    exact srepL_closed cs us h7
  | .hs id off len k, u, h => by
    simp only [srep, closed, decide_eq_true_eq] at h ⊢
    obtain ⟨β, c, h1, h2⟩ := h
    exact (List.getElem?_eq_some_iff.1 h1).1
  | .fn f a b, u, h => by
    simp only [srep, closed, Bool.and_eq_true] at h ⊢
    obtain ⟨us, ws, h1, h2, h3⟩ := h
    exact ⟨srepT_closed a us h2, srepT_closed b ws h3⟩
  | .ifc t v, u, h => by
    simp only [srep, closed] at h ⊢
    obtain ⟨x, h1, h2⟩ := h
    exact srep_closed v x h2
theorem srepL_closed : ∀ (cs : List V) (us : List Value), srepL Z ι w cs us → closedL ι.length cs = true
  | [], us, h => by simp only [closedL]
  | c :: cs, us, h => by
    simp only [srepL, closedL, Bool.and_eq_true] at h ⊢
    obtain ⟨u, us', h1, h2, h3, h4⟩ := h
    exact ⟨srep_closed c u h3, srepL_closed cs us' h4⟩
theorem srepT_closed : ∀ (cs : List V) (us : List Value), srepT Z ι w cs us → closedL ι.length cs = true
  | [], us, h => by simp only [closedL]
  | c :: cs, us, h => by
    simp only [srepT, closedL, Bool.and_eq_true] at h ⊢
    obtain ⟨u, us', h1, h3, h4⟩ := h
    exact ⟨srep_closed c u h3, srepT_closed cs us' h4⟩
theorem srepE_closed (k : Nat) : ∀ (cs : List V) (us : List Value), srepE Z ι w k cs us → closedL ι.length cs = true
  | [], us, h => by simp only [closedL]
  | c :: cs, us, h => by
    simp only [srepE, closedL, Bool.and_eq_true] at h ⊢
    obtain ⟨u, us', h1, h2, h2', h3, h4⟩ := h
    exact ⟨srep_closed c u h3, srepE_closed k cs us' h4⟩
end
end
end Go.Den
end
section
set_option linter.unusedVariables false
namespace Go.Den
mutual
theorem closed_mono {n m : Nat} (h : n ≤ m) : ∀ (v : V), closed n v = true → closed m v = true
  | .any, _ => by simp only [closed]
  | .sc _, _ => by simp only [closed]
  | .sl _ _ xs, hc => by simp only [closed] at hc ⊢; exact closedL_mono h xs hc
  | .agg xs, hc => by simp only [closed] at hc ⊢; exact closedL_mono h xs hc
  | .tup xs, hc => by simp only [closed] at hc ⊢; exact closedL_mono h xs hc
  | .ptr id _, hc => by simp only [closed, decide_eq_true_eq] at hc ⊢; omega
  | .elp xs, hc => by simp only [closed] at hc ⊢; exact closedL_mono h xs hc
  | .hs id _ _ _, hc => by simp only [closed, decide_eq_true_eq] at hc ⊢; omega
  | .fn _ a b, hc => by simp only [closed, Bool.and_eq_true] at hc ⊢; exact ⟨closedL_mono h a hc.1, closedL_mono h b hc.2⟩
  | .ifc _ v, hc => by simp only [closed] at hc ⊢; exact closed_mono h v hc
theorem closedL_mono {n m : Nat} (h : n ≤ m) : ∀ (v : List V), closedL n v = true → closedL m v = true
  | [], _ => by simp only [closedL]
  | v :: vs, hc => by simp only [closedL, Bool.and_eq_true] at hc ⊢; exact ⟨closed_mono h v hc.1, closedL_mono h vs hc.2⟩
end
def V.parts : V → List V
  | .tup _ => []
  | v => v.cells
def vparts : Value → List Value
  | .tuple _ => []
  | v => v.cells.toList
def tok1 : V → Value → Option Nat
  | .sl true _ _, .slice (some a) n c => if n = c then none else some a.block
  | _, _ => none
def own1 (Z : Nat → Zone) (w : World) (x : V) (y : Value) : Prop :=
  ∀ β, tok1 x y = some β → ∃ k xs c cur e, x = .sl true k xs ∧ y = .slice (some ⟨β, 0, none⟩) xs.length c ∧ Z β = .log (xs.length * k) ∧ w.heap[β]? = some (.cells cur e (0, 0)) ∧ cur.size = c * k ∧ c ≤ maxLen
def tokV (v : V) (u : Value) (j : Nat) : Option Nat :=
  match v.parts[j]?, (vparts u)[j]? with
  | some x, some y => tok1 x y
  | _, _ => none
def ownV (Z : Nat → Zone) (w : World) (v : V) (u : Value) : Prop := ∀ (j : Nat) (x : V) (y : Value), v.parts[j]? = some x → (vparts u)[j]? = some y → own1 Z w x y
def tokH (H : Heap) (ι : List Nat) (w : World) (i j : Nat) : Option Nat :=
  match (H[i]?).bind (·[j]?), (ι[i]?).bind fun β => w.cell? ⟨β, j, none⟩ with
  | some x, some y => tok1 x y
  | _, _ => none
abbrev Loc := (Nat × Nat) ⊕ (Nat × Nat)
def tok (e : Env) (vals : Nat → Value) (H : Heap) (ι : List Nat) (w : World) : Loc → Option Nat
  | .inl (t, j) => tokV (e t) (vals t) j
  | .inr (i, j) => tokH H ι w i j
def Uniq (f : Loc → Option Nat) : Prop := ∀ l l' β, f l = some β → f l' = some β → l = l'
structure Good (Z : Nat → Zone) (ι : List Nat) (e : Env) (H : Heap) (vals : Nat → Value) (w : World) : Prop where
  rep : ∀ t, srep Z ι w (e t) (vals t)
  len : ι.length = H.length
  blk : ∀ (i : Nat) (cs : List V), H[i]? = some cs → ∃ (β : Nat) (us : Array Value) (ty : TypeId), ι[i]? = some β ∧ Z β = .box i ∧ w.heap[β]? = some (.cells us ty (0, 0)) ∧ srepL Z ι w cs us.toList ∧ ∀ (j : Nat) (x : V) (y : Value), cs[j]? = some x → us[j]? = some y → own1 Z w x y
  own : ∀ t, ownV Z w (e t) (vals t)
  uniq : Uniq (tok e vals H ι w)
  fresh : ∀ β, w.heap.size ≤ β → Z β = .free
structure Ext (T : Nat → Prop) (lim : Nat) (Z : Nat → Zone) (ι : List Nat) (w : World) (Z' : Nat → Zone) (ι' : List Nat) (w' : World) : Prop where
  size : w.heap.size ≤ w'.heap.size
  os : w'.os = w.os
  out : w'.output = w.output
  tape : w'.tape = w.tape
  heap : ∀ β, β < w.heap.size → ¬ T β → (∀ i, lim ≤ i → Z β ≠ .box i) → w'.heap[β]? = w.heap[β]?
  zone : ∀ β, β < w.heap.size → ¬ T β → Z' β = Z β
  log : ∀ β m, Z β = .log m → ∃ m', m ≤ m' ∧ Z' β = .log m' ∧ ∀ o, o < m → w'.cell? ⟨β, o, none⟩ = w.cell? ⟨β, o, none⟩
  idx : ∀ (i β : Nat), ι[i]? = some β → ι'[i]? = some β
theorem Ext.keeps {T : Nat → Prop} {lim : Nat} {Z Z' : Nat → Zone} {ι ι' : List Nat} {w w' : World} (h : Ext T lim Z ι w Z' ι' w') (n : Nat) : Keeps n Z ι w Z' ι' w' :=
  ⟨h.log, fun i β _ h' => h.idx i β h'⟩
theorem Ext.refl (T : Nat → Prop) (lim : Nat) (Z : Nat → Zone) (ι : List Nat) (w : World) : Ext T lim Z ι w Z ι w :=
  ⟨Nat.le_refl _, rfl, rfl, rfl, fun _ _ _ _ => rfl, fun _ _ _ => rfl, fun _ m h => ⟨m, Nat.le_refl _, h, fun _ _ => rfl⟩, fun _ _ h => h⟩
theorem Ext.trans {T T' : Nat → Prop} {lim : Nat} {Z Z' Z'' : Nat → Zone} {ι ι' ι'' : List Nat} {w w' w'' : World} (h : Ext T lim Z ι w Z' ι' w') (h' : Ext T' lim Z' ι' w' Z'' ι'' w'')
    (hT : ∀ β, T' β → T β ∨ w.heap.size ≤ β) : Ext T lim Z ι w Z'' ι'' w'' where
  size := Nat.le_trans h.size h'.size
  os := h'.os.trans h.os
  out := h'.out.trans h.out
  tape := h'.tape.trans h.tape
  heap := fun β hb ht hz => by
    have hz' := h.zone β hb ht
    have ht' : ¬ T' β := fun x => (hT β x).elim ht (by omega)
    rw [h'.heap β (Nat.lt_of_lt_of_le hb h.size) ht' (fun i hi => by rw [hz']; exact hz i hi), h.heap β hb ht hz]
  zone := fun β hb ht => by
    have ht' : ¬ T' β := fun x => (hT β x).elim ht (by omega)
    rw [h'.zone β (Nat.lt_of_lt_of_le hb h.size) ht', h.zone β hb ht]
  log := fun β m hm => by
    obtain ⟨m', h1, h2, h3⟩ := h.log β m hm
    obtain ⟨m'', h4, h5, h6⟩ := h'.log β m' h2
    exact ⟨m'', by omega, h5, fun o ho => by rw [h6 o (by omega), h3 o ho]⟩
  idx := fun i β hi => h'.idx i β (h.idx i β hi)
theorem Ext.mono {T T' : Nat → Prop} {lim lim' : Nat} {Z Z' : Nat → Zone} {ι ι' : List Nat} {w w' : World} (h : Ext T lim Z ι w Z' ι' w') (hT : ∀ β, T β → T' β) (hl : lim' ≤ lim) : Ext T' lim' Z ι w Z' ι' w' :=
  { h with
    heap := fun β hb ht hz => h.heap β hb (fun x => ht (hT β x)) (fun i hi => hz i (by omega))
    zone := fun β hb ht => h.zone β hb (fun x => ht (hT β x)) }
theorem tokV_lt {v : V} {u : Value} {j β : Nat} (h : tokV v u j = some β) : ∃ x y, v.parts[j]? = some x ∧ (vparts u)[j]? = some y ∧ tok1 x y = some β := by
  unfold tokV at h
  split at h
  · rename_i x y hx hy
    exact ⟨x, y, hx, hy, h⟩
  · cases h
theorem tokH_lt {H : Heap} {ι : List Nat} {w : World} {i j β : Nat} (h : tokH H ι w i j = some β) :
    ∃ cs γ x y, H[i]? = some cs ∧ ι[i]? = some γ ∧ cs[j]? = some x ∧ w.cell? ⟨γ, j, none⟩ = some y ∧ tok1 x y = some β := by
  unfold tokH at h
  split at h
  · rename_i x y hx hy
    obtain ⟨cs, h1, h2⟩ := Option.bind_eq_some_iff.1 hx
    obtain ⟨γ, h3, h4⟩ := Option.bind_eq_some_iff.1 hy
    exact ⟨cs, γ, x, y, h1, h3, h2, h4, h⟩
  · cases h
theorem cell_row {w : World} {β j : Nat} {us : Array Value} {ty : TypeId} {fr : Nat × Nat} (h : w.heap[β]? = some (.cells us ty fr)) : w.cell? ⟨β, j, none⟩ = us[j]? := by
  simp [World.cell?, h]
theorem Good.tok_ok {Z : Nat → Zone} {ι : List Nat} {e : Env} {H : Heap} {vals : Nat → Value} {w : World} (G : Good Z ι e H vals w) {l : Loc} {β : Nat} (h : tok e vals H ι w l = some β) :
    β < w.heap.size ∧ ∃ m, Z β = .log m := by
  cases l with
  | inl p =>
    obtain ⟨x, y, hx, hy, ht⟩ := tokV_lt h
    obtain ⟨k, xs, c, cur, ty, rfl, rfl, hz, hh, _⟩ := G.own p.1 p.2 x y hx hy β ht
    exact ⟨(Array.getElem?_eq_some_iff.1 hh).1, _, hz⟩
  | inr p =>
    obtain ⟨cs, γ, x, y, h1, h2, h3, h4, ht⟩ := tokH_lt h
    obtain ⟨β', us, ty, h5, h6, h7, h8, h9⟩ := G.blk p.1 cs h1
    obtain rfl : γ = β' := by simpa [h2] using h5
    rw [cell_row h7] at h4
    obtain ⟨k, xs, c, cur, ty, rfl, rfl, hz, hh, _⟩ := h9 p.2 x y h3 h4 β ht
    exact ⟨(Array.getElem?_eq_some_iff.1 hh).1, _, hz⟩
theorem own1_kept {Z Z' : Nat → Zone} {w w' : World} {x : V} {y : Value} (h : own1 Z w x y) (hk : ∀ β, tok1 x y = some β → Z' β = Z β ∧ w'.heap[β]? = w.heap[β]?) : own1 Z' w' x y := by
  intro β ht
  obtain ⟨k, xs, c, cur, ty, h1, h2, h3, h4, h5⟩ := h β ht
  obtain ⟨e1, e2⟩ := hk β ht
  exact ⟨k, xs, c, cur, ty, h1, h2, by rw [e1]; exact h3, by rw [e2]; exact h4, h5⟩
theorem tok1_dem1 (x : V) (y : Value) : tok1 x.dem1 y = none := by
  cases x <;> cases y <;> simp [V.dem1, tok1]
theorem cells_dem2 (v : V) : v.dem2.cells = v.cells.map V.dem1 := by
  cases v <;> simp [V.dem2, V.cells, V.dem1]
theorem parts_dem (v : V) : v.dem.parts = v.parts.map V.dem1 := by
  cases v with
  | tup vs => simp [V.dem, V.parts]
  | agg cs => simp [V.dem, V.dem2, V.parts, V.cells]
  | _ => simp [V.dem, V.dem2, V.dem1, V.parts, V.cells]
theorem tokV_dem (v : V) (u : Value) (j : Nat) : tokV v.dem u j = none := by
  unfold tokV
  rw [parts_dem, List.getElem?_map]
  cases v.parts[j]? <;> cases (vparts u)[j]? <;> simp [tok1_dem1]
def Cold (v : V) (u : Value) : Prop := ∀ j, tokV v u j = none
theorem Cold.own {Z : Nat → Zone} {w : World} {v : V} {u : Value} (h : Cold v u) : ownV Z w v u := by
  intro j x y hx hy β ht
  have := h j
  simp [tokV, hx, hy, ht] at this
theorem cold_dem (v : V) (u : Value) : Cold v.dem u := fun j => tokV_dem v u j
def one (v : V) : Env := fun t => if t = 0 then v else .any
theorem tokV_any (u : Value) (j : Nat) : tokV .any u j = none := by
  unfold tokV
  cases j with
  | zero =>
    cases h : (vparts u)[0]? with
    | none => simp
    | some y => simp [V.parts, V.cells, tok1]
  | succ j => simp [V.parts, V.cells]
def TT (e : Env) (vals : Nat → Value) (H : Heap) (ι : List Nat) (w : World) (S : Nat → Prop) (β : Nat) : Prop :=
  (∃ t j, S t ∧ tokV (e t) (vals t) j = some β) ∨ ∃ i j, tokH H ι w i j = some β
def Post (T : Nat → Prop) (lim : Nat) (Z : Nat → Zone) (ι : List Nat) (w : World) (v : V) (H' : Heap) (u : Value) (w' : World) : Prop :=
  ∃ Z' ι', Good Z' ι' (one v) H' (fun _ => u) w' ∧ Ext T lim Z ι w Z' ι' w' ∧ ∀ l β, tok (one v) (fun _ => u) H' ι' w' l = some β → T β ∨ w.heap.size ≤ β
section
variable {Z : Nat → Zone} {ι : List Nat} {e : Env} {H : Heap} {vals : Nat → Value} {w : World}
theorem Good.go (G : Good Z ι e H vals w) {S : Nat → Prop} {e' : Env} (he : ∀ t, (S t ∧ e' t = (e t).dem) ∨ (¬ S t ∧ e' t = e t)) {T : Nat → Prop} (hT : ∀ β, T β → TT e vals H ι w S β) {lim : Nat}
    {Z' : Nat → Zone} {ι' : List Nat} {w' : World} {v : V} {u : Value} {H' : Heap} (G' : Good Z' ι' (one v) H' (fun _ => u) w') (X : Ext T lim Z ι w Z' ι' w')
    (hN : ∀ l β, tok (one v) (fun _ => u) H' ι' w' l = some β → T β ∨ w.heap.size ≤ β) (d : Option Nat) :
    Good Z' ι' (e'.put d v) H' (fun t => if some t = d then u else vals t) w' := by
  have other : ∀ t, some t ≠ d → (e'.put d v) t = e' t := fun t ht => by
    cases d with
    | none => rfl
    | some d => simp only [Env.put]; rw [if_neg (by simpa using ht)]
  have same : ∀ t, some t = d → (e'.put d v) t = v := fun t ht => by
    subst ht; simp [Env.put]
  have notT : ∀ t j β, tokV (e' t) (vals t) j = some β → ¬ T β ∧ β < w.heap.size ∧ ¬ S t ∧ tokV (e t) (vals t) j = some β := by
    intro t j β hj
    rcases he t with ⟨hS, hd⟩ | ⟨hS, hd⟩
    · rw [hd, tokV_dem] at hj; cases hj
    · rw [hd] at hj
      refine ⟨fun ht => ?_, (G.tok_ok (l := .inl (t, j)) hj).1, hS, hj⟩
      rcases hT β ht with ⟨t', j', hS', h'⟩ | ⟨i, j', h'⟩
      · have := G.uniq (.inl (t, j)) (.inl (t', j')) β hj h'
        simp at this
        exact hS (this.1 ▸ hS')
      · have := G.uniq (.inl (t, j)) (.inr (i, j')) β hj h'
        cases this
  have res : ∀ l, (∀ t j, l = .inl (t, j) → some t = d) → tok (e'.put d v) (fun t => if some t = d then u else vals t) H' ι' w' l =
      tok (one v) (fun _ => u) H' ι' w' (match l with | .inl (_, j) => .inl (0, j) | .inr p => .inr p) := by
    intro l hl
    cases l with
    | inl p =>
      obtain ⟨t, j⟩ := p
      have ht := hl t j rfl
      simp only [tok, same t ht, if_pos ht, one, if_true]
    | inr p => rfl
  have oth : ∀ t j, some t ≠ d → tok (e'.put d v) (fun t => if some t = d then u else vals t) H' ι' w' (.inl (t, j)) = tokV (e' t) (vals t) j := by
    intro t j ht
    simp only [tok, other t ht, if_neg ht]
  refine ⟨fun t => ?_, G'.len, G'.blk, fun t => ?_, ?_, G'.fresh⟩
  · by_cases ht : some t = d
    · simp only [same t ht, if_pos ht]
      simpa [one] using G'.rep 0
    · simp only [other t ht, if_neg ht]
      have h0 := srep_keeps (X.keeps ι.length) _ _ (srep_closed _ _ (G.rep t)) (G.rep t)
      rcases he t with ⟨_, hd⟩ | ⟨_, hd⟩ <;> rw [hd]
      · exact srep_dem h0
      · exact h0
  · by_cases ht : some t = d
    · simp only [same t ht, if_pos ht]
      simpa [one] using G'.own 0
    · simp only [other t ht, if_neg ht]
      rcases he t with ⟨hS, hd⟩ | ⟨hS, hd⟩ <;> rw [hd]
      · exact (cold_dem _ _).own
      · intro j x y hx hy
        refine own1_kept (G.own t j x y hx hy) fun β hb => ?_
        have hj : tokV (e' t) (vals t) j = some β := by rw [hd]; simp [tokV, hx, hy, hb]
        obtain ⟨h1, h2, _, h3⟩ := notT t j β hj
        obtain ⟨m, hm⟩ := (G.tok_ok (l := .inl (t, j)) h3).2
        exact ⟨X.zone β h2 h1, X.heap β h2 h1 (fun i _ => by rw [hm]; simp)⟩
  · have key : ∀ (l : Loc), (∀ t j, l = .inl (t, j) → some t = d) ∨ ∃ t j, l = .inl (t, j) ∧ some t ≠ d := by
      intro l
      cases l with
      | inl p =>
        by_cases hp : some p.1 = d
        · exact .inl fun t j h => by cases h; exact hp
        · exact .inr ⟨p.1, p.2, rfl, hp⟩
      | inr p => exact .inl fun t j h => by cases h
    intro l l' β hl hl'
    rcases key l with k | ⟨t, j, rfl, k⟩ <;> rcases key l' with k' | ⟨t', j', rfl, k'⟩
    · rw [res l k] at hl
      rw [res l' k'] at hl'
      have := G'.uniq _ _ β hl hl'
      cases l with
      | inl p =>
        cases l' with
        | inl p' =>
          obtain ⟨t, j⟩ := p
          obtain ⟨t', j'⟩ := p'
          have e1 := k t j rfl
          have e2 := k' t' j' rfl
          have e3 : t = t' := by rw [← e2] at e1; simpa using e1
          have : j = j' := by simpa using this
          rw [this, e3]
        | inr p' => simp at this
      | inr p =>
        cases l' with
        | inl p' => simp at this
        | inr p' => simpa using this
    · rw [res l k] at hl
      rw [oth t' j' k'] at hl'
      obtain ⟨h1, h2, _⟩ := notT t' j' β hl'
      rcases hN _ β hl with h | h
      · exact absurd h h1
      · omega
    · rw [oth t j k] at hl
      rw [res l' k'] at hl'
      obtain ⟨h1, h2, _⟩ := notT t j β hl
      rcases hN _ β hl' with h | h
      · exact absurd h h1
      · omega
    · rw [oth t j k] at hl
      rw [oth t' j' k'] at hl'
      exact G.uniq (.inl (t, j)) (.inl (t', j')) β (notT t j β hl).2.2.2 (notT t' j' β hl').2.2.2
theorem Good.still (G : Good Z ι e H vals w) {S : Nat → Prop} {v : V} {u : Value} (hs : srep Z ι w v u) (ho : ownV Z w v u)
    (hsub : ∀ j β, tokV v u j = some β → ∃ t j', S t ∧ tokV (e t) (vals t) j' = some β) (hinj : ∀ j j' β, tokV v u j = some β → tokV v u j' = some β → j = j') (lim : Nat) :
    Post (TT e vals H ι w S) lim Z ι w v H u w := by
  refine ⟨Z, ι, ⟨fun t => ?_, G.len, G.blk, fun t => ?_, ?_, G.fresh⟩, Ext.refl _ _ _ _ _, ?_⟩
  · by_cases ht : t = 0
    · simpa [one, ht] using hs
    · simp [one, ht, srep]
  · by_cases ht : t = 0
    · simpa [one, ht] using ho
    · simp only [one, ht, if_false]
      exact Cold.own (fun j => tokV_any _ _)
  · intro l l' β hl hl'
    have key : ∀ (l : Loc), tok (one v) (fun _ => u) H ι w l = some β → (∃ j, l = .inl (0, j) ∧ tokV v u j = some β) ∨ ∃ p, l = .inr p ∧ tokH H ι w p.1 p.2 = some β := by
      intro l hl
      cases l with
      | inl p =>
        obtain ⟨t, j⟩ := p
        by_cases ht : t = 0
        · subst ht; exact .inl ⟨j, rfl, by simpa [tok, one] using hl⟩
        · simp [tok, one, ht, tokV_any] at hl
      | inr p => exact .inr ⟨p, rfl, by simpa [tok] using hl⟩
    rcases key l hl with ⟨j, rfl, h⟩ | ⟨p, rfl, h⟩ <;> rcases key l' hl' with ⟨j', rfl, h'⟩ | ⟨p', rfl, h'⟩
    · rw [hinj j j' β h h']
    · obtain ⟨t, j'', _, h2⟩ := hsub j β h
      have := G.uniq (.inl (t, j'')) (.inr p') β h2 h'
      cases this
    · obtain ⟨t, j'', _, h2⟩ := hsub j' β h'
      have := G.uniq (.inl (t, j'')) (.inr p) β h2 h
      cases this
    · exact G.uniq (.inr p) (.inr p') β h h'
  · intro l β hl
    left
    cases l with
    | inl p =>
      obtain ⟨t, j⟩ := p
      by_cases ht : t = 0
      · subst ht
        obtain ⟨t', j', h1, h2⟩ := hsub j β (by simpa [tok, one] using hl)
        exact .inl ⟨t', j', h1, h2⟩
      · simp [tok, one, ht, tokV_any] at hl
    | inr p => exact .inr ⟨p.1, p.2, by simpa [tok] using hl⟩
theorem Good.cold (G : Good Z ι e H vals w) (S : Nat → Prop) {v : V} {u : Value} (hs : srep Z ι w v u) (hc : Cold v u) (lim : Nat) : Post (TT e vals H ι w S) lim Z ι w v H u w :=
  G.still hs hc.own (fun j β h => by rw [hc j] at h; cases h) (fun j _ β h => by rw [hc j] at h; cases h) lim
end
end Go.Den
end
section
set_option linter.unusedVariables false
namespace Go.Den
section
variable {Z : Nat → Zone} {ι : List Nat} {e : Env} {H : Heap} {vals : Nat → Value} {w : World}
def zset (Z : Nat → Zone) (β : Nat) (z : Zone) : Nat → Zone := fun γ => if γ = β then z else Z γ
theorem Good.log_lt (G : Good Z ι e H vals w) {β m : Nat} (h : Z β = .log m) : β < w.heap.size := by
  rcases Nat.lt_or_ge β w.heap.size with h' | h'
  · exact h'
  · rw [G.fresh β h'] at h; cases h
theorem Good.box_lt (G : Good Z ι e H vals w) {β m : Nat} (h : Z β = .box m) : β < w.heap.size := by
  rcases Nat.lt_or_ge β w.heap.size with h' | h'
  · exact h'
  · rw [G.fresh β h'] at h; cases h
theorem ext_alloc (hf : ∀ β, w.heap.size ≤ β → Z β = .free) (T : Nat → Prop) (lim : Nat) (o : Obj) (z : Zone) (l : List Nat) :
    Ext T lim Z ι w (zset Z w.heap.size z) (ι ++ l) (w.alloc o) where
  size := by simp
  os := rfl
  out := rfl
  tape := rfl
  heap := fun β hb _ _ => heap_alloc_old w o β hb
  zone := fun β hb _ => by simp [zset]; intro h; omega
  log := fun β m hm => by
    have hlt : β < w.heap.size := by
      rcases Nat.lt_or_ge β w.heap.size with h' | h'
      · exact h'
      · rw [hf β h'] at hm; cases hm
    refine ⟨m, Nat.le_refl _, ?_, fun o' _ => ?_⟩
    · simp only [zset]; rw [if_neg (by omega)]; exact hm
    · exact World.cell?_alloc_lt w o ⟨β, o', none⟩ hlt
  idx := fun i β h => by
    rw [List.getElem?_append_left (List.getElem?_eq_some_iff.1 h).1]; exact h
theorem fresh_alloc (hf : ∀ β, w.heap.size ≤ β → Z β = .free) (o : Obj) (z : Zone) : ∀ β, (w.alloc o).heap.size ≤ β → zset Z w.heap.size z β = .free := by
  intro β hb
  simp at hb
  simp only [zset]
  rw [if_neg (by omega)]
  exact hf β (by omega)
theorem Good.blk_ext (G : Good Z ι e H vals w) {T : Nat → Prop} {lim : Nat} {Z' : Nat → Zone} {ι' : List Nat} {w' : World} (X : Ext T lim Z ι w Z' ι' w') (hT : ∀ β, T β → ∃ m, Z β = .log m)
    (hT2 : ∀ β i j, T β → tokH H ι w i j ≠ some β)
    (i : Nat) (cs : List V) (h : H[i]? = some cs) (hi : i < lim) : ∃ (β : Nat) (us : Array Value) (ty : TypeId), ι'[i]? = some β ∧ Z' β = .box i ∧ w'.heap[β]? = some (.cells us ty (0, 0)) ∧ srepL Z' ι' w' cs us.toList ∧
      (∀ (j : Nat) (x : V) (y : Value), cs[j]? = some x → us[j]? = some y → own1 Z' w' x y) ∧ ι[i]? = some β ∧ w.heap[β]? = w'.heap[β]? := by
  obtain ⟨β, us, ty, h1, h2, h3, h4, h5⟩ := G.blk i cs h
  have hb := G.box_lt h2
  have ht : ¬ T β := fun x => by obtain ⟨m, hm⟩ := hT β x; rw [h2] at hm; cases hm
  have hh := X.heap β hb ht (fun k hk => by rw [h2]; intro e; cases e; omega)
  refine ⟨β, us, ty, X.idx i β h1, by rw [X.zone β hb ht]; exact h2, by rw [hh]; exact h3, srepL_keeps (X.keeps ι.length) _ _ (srepL_closed _ _ h4) h4, fun j x y hx hy => ?_, h1, hh.symm⟩
  refine own1_kept (h5 j x y hx hy) fun γ hγ => ?_
  have htok : tokH H ι w i j = some γ := by
    simp only [tokH, h, h1, Option.bind_some, hx, cell_row h3, hy, hγ]
  obtain ⟨hlt, m, hm⟩ := G.tok_ok (l := .inr (i, j)) htok
  have hnt : ¬ T γ := fun x => hT2 γ i j x htok
  exact ⟨X.zone γ hlt hnt, X.heap γ hlt hnt (fun k _ => by rw [hm]; simp)⟩
theorem Good.box' (G : Good Z ι e H vals w) {S : Nat → Prop} {cs : List V} {us : Array Value} (hs : srepL Z ι w cs us.toList)
    (ho : ∀ (j : Nat) (x : V) (y : Value), cs[j]? = some x → us[j]? = some y → own1 Z w x y)
    (hsub : ∀ (j : Nat) (β : Nat) (x : V) (y : Value), cs[j]? = some x → us[j]? = some y → tok1 x y = some β → ∃ t j', S t ∧ tokV (e t) (vals t) j' = some β)
    (hinj : ∀ (j j' β : Nat) (x x' : V) (y y' : Value), cs[j]? = some x → us[j]? = some y → tok1 x y = some β → cs[j']? = some x' → us[j']? = some y' → tok1 x' y' = some β → j = j')
    (lim : Nat) (ty : TypeId) {v : V} {u : Value} (hv : srep (zset Z w.heap.size (.box H.length)) (ι ++ [w.heap.size]) (w.alloc (.cells us ty)) v u) (hc : Cold v u) :
    Post (TT e vals H ι w S) lim Z ι w v (H ++ [cs]) u (w.alloc (.cells us ty)) := by
  have X : Ext (fun _ => False) (H.length + 1) Z ι w (zset Z w.heap.size (.box H.length)) (ι ++ [w.heap.size]) (w.alloc (.cells us ty)) := ext_alloc G.fresh _ _ _ _ _
  have hnew : (w.alloc (.cells us ty)).heap[w.heap.size]? = some (.cells us ty (0, 0)) := heap_alloc_new w _
  have hidx : (ι ++ [w.heap.size])[H.length]? = some w.heap.size := by rw [← G.len]; simp
  have htok : ∀ i j β, tokH (H ++ [cs]) (ι ++ [w.heap.size]) (w.alloc (.cells us ty)) i j = some β →
      (i < H.length ∧ tokH H ι w i j = some β) ∨ (i = H.length ∧ ∃ x y, cs[j]? = some x ∧ us[j]? = some y ∧ tok1 x y = some β) := by
    intro i j β h
    obtain ⟨cs', γ, x, y, h1, h2, h3, h4, h5⟩ := tokH_lt h
    have hi : i < H.length + 1 := by simpa using (List.getElem?_eq_some_iff.1 h1).1
    rcases Nat.lt_or_ge i H.length with hlt | hge
    · left
      refine ⟨hlt, ?_⟩
      rw [List.getElem?_append_left hlt] at h1
      rw [List.getElem?_append_left (by rw [G.len]; exact hlt)] at h2
      obtain ⟨β', us', ty', g1, g2, g3, _⟩ := G.blk i cs' h1
      obtain rfl : γ = β' := by simpa [h2] using g1
      have hc : (w.alloc (.cells us ty)).cell? ⟨γ, j, none⟩ = w.cell? ⟨γ, j, none⟩ := World.cell?_alloc_lt w _ ⟨γ, j, none⟩ (G.box_lt g2)
      rw [hc] at h4
      simp only [tokH, h1, h2, Option.bind_some, h3, h4, h5]
    · obtain rfl : i = H.length := by omega
      right
      refine ⟨rfl, ?_⟩
      rw [hidx] at h2
      simp at h1 h2
      subst h1 h2
      rw [cell_row hnew] at h4
      exact ⟨x, y, h3, h4, h5⟩
  refine ⟨zset Z w.heap.size (.box H.length), ι ++ [w.heap.size], ⟨fun t => ?_, ?_, fun i cs' h => ?_, fun t => ?_, ?_, fresh_alloc G.fresh _ _⟩, ext_alloc G.fresh _ _ _ _ _, ?_⟩
  · by_cases ht : t = 0
    · subst ht; simpa only [one, if_true] using hv
    · simp [one, ht, srep]
  · simp [G.len]
  · rcases Nat.lt_or_ge i H.length with hlt | hge
    · rw [List.getElem?_append_left hlt] at h
      obtain ⟨β, us', ty', g1, g2, g3, g4, g5, _⟩ := G.blk_ext X (fun _ h => h.elim) (fun _ _ _ h => h.elim) i cs' h (by omega)
      exact ⟨β, us', ty', g1, g2, g3, g4, g5⟩
    · have hi : i < H.length + 1 := by simpa using (List.getElem?_eq_some_iff.1 h).1
      obtain rfl : i = H.length := by omega
      simp at h
      subst h
      refine ⟨w.heap.size, us, ty, hidx, by simp [zset], hnew, srepL_keeps (X.keeps ι.length) _ _ (srepL_closed _ _ hs) hs, fun j x y hx hy => ?_⟩
      refine own1_kept (ho j x y hx hy) fun γ hγ => ?_
      obtain ⟨t, j', _, h'⟩ := hsub j γ x y hx hy hγ
      obtain ⟨hlt, m, hm⟩ := G.tok_ok (l := .inl (t, j')) h'
      exact ⟨X.zone γ hlt (fun h => h), X.heap γ hlt (fun h => h) (fun k _ => by rw [hm]; simp)⟩
  · by_cases ht : t = 0
    · subst ht; simp only [one, if_true]; exact hc.own
    · simp only [one, ht, if_false]; exact Cold.own (fun j => tokV_any _ _)
  · have key : ∀ (l : Loc) β, tok (one v) (fun _ => u) (H ++ [cs]) (ι ++ [w.heap.size]) (w.alloc (.cells us ty)) l = some β → ∃ p, l = .inr p ∧ tokH (H ++ [cs]) (ι ++ [w.heap.size]) (w.alloc (.cells us ty)) p.1 p.2 = some β := by
      intro l β hl
      cases l with
      | inl p =>
        obtain ⟨t, j⟩ := p
        by_cases ht : t = 0
        · subst ht; simp only [tok, one, if_true] at hl; rw [hc j] at hl; cases hl
        · simp [tok, one, ht, tokV_any] at hl
      | inr p => exact ⟨p, rfl, hl⟩
    intro l l' β hl hl'
    obtain ⟨⟨i, j⟩, rfl, h⟩ := key l β hl
    obtain ⟨⟨i', j'⟩, rfl, h'⟩ := key l' β hl'
    rcases htok i j β h with ⟨_, k⟩ | ⟨rfl, x, y, hx, hy, ht⟩ <;> rcases htok i' j' β h' with ⟨_, k'⟩ | ⟨rfl, x', y', hx', hy', ht'⟩
    · exact G.uniq (.inr (i, j)) (.inr (i', j')) β k k'
    · obtain ⟨t, j'', _, h2⟩ := hsub j' β x' y' hx' hy' ht'
      cases G.uniq (.inl (t, j'')) (.inr (i, j)) β h2 k
    · obtain ⟨t, j'', _, h2⟩ := hsub j β x y hx hy ht
      cases G.uniq (.inl (t, j'')) (.inr (i', j')) β h2 k'
    · rw [hinj j j' β x x' y y' hx hy ht hx' hy' ht']
  · intro l β hl
    left
    cases l with
    | inl p =>
      obtain ⟨t, j⟩ := p
      by_cases ht : t = 0
      · subst ht; simp only [tok, one, if_true] at hl; rw [hc j] at hl; cases hl
      · simp [tok, one, ht, tokV_any] at hl
    | inr p =>
      rcases htok p.1 p.2 β hl with ⟨_, k⟩ | ⟨_, x, y, hx, hy, ht⟩
      · exact .inr ⟨_, _, k⟩
      · exact .inl (hsub _ β x y hx hy ht)
theorem cold_ptr (id off : Nat) (u : Value) : Cold (.ptr id off) u := fun j => by
  unfold tokV
  cases j with
  | zero => cases h : (vparts u)[0]? <;> simp [V.parts, V.cells, tok1]
  | succ j => simp [V.parts, V.cells]
theorem Good.box (G : Good Z ι e H vals w) {S : Nat → Prop} {cs : List V} {us : Array Value} (hs : srepL Z ι w cs us.toList)
    (ho : ∀ (j : Nat) (x : V) (y : Value), cs[j]? = some x → us[j]? = some y → own1 Z w x y)
    (hsub : ∀ (j : Nat) (β : Nat) (x : V) (y : Value), cs[j]? = some x → us[j]? = some y → tok1 x y = some β → ∃ t j', S t ∧ tokV (e t) (vals t) j' = some β)
    (hinj : ∀ (j j' β : Nat) (x x' : V) (y y' : Value), cs[j]? = some x → us[j]? = some y → tok1 x y = some β → cs[j']? = some x' → us[j']? = some y' → tok1 x' y' = some β → j = j')
    (lim : Nat) (ty : TypeId) :
    Post (TT e vals H ι w S) lim Z ι w (.ptr H.length 0) (H ++ [cs]) (.pointer (some ⟨w.heap.size, 0, none⟩)) (w.alloc (.cells us ty)) :=
  G.box' hs ho hsub hinj lim ty (by simp only [srep]; exact ⟨w.heap.size, by rw [← G.len]; simp, rfl⟩) (cold_ptr _ _ _)
theorem Good.row (G : Good Z ι e H vals w) {S : Nat → Prop} {k : Nat} {xs : List V} {us : Array Value} (hk : 0 < k) (hs : srepE Z ι w k xs us.toList) (lim : Nat) (ty : TypeId) :
    Post (TT e vals H ι w S) lim Z ι w (.sl true k xs) H (.slice (some ⟨w.heap.size, 0, none⟩) xs.length xs.length) (w.alloc (.cells us ty)) := by
  have X := fun T lim => ext_alloc (w := w) (ι := ι) G.fresh T lim (.cells us ty) (.log us.size) []
  simp only [List.append_nil] at X
  have hnew : (w.alloc (.cells us ty)).heap[w.heap.size]? = some (.cells us ty (0, 0)) := heap_alloc_new w _
  have hlen := srepE_length hs
  have hrep : srep (zset Z w.heap.size (.log us.size)) ι (w.alloc (.cells us ty)) (.sl true k xs) (.slice (some ⟨w.heap.size, 0, none⟩) xs.length xs.length) := by
    simp only [srep]
    refine .inr ⟨w.heap.size, 0, xs.length, us.toList, us.size, rfl, Nat.le_refl _, hk, by simp [zset], by simp, fun j x hj => ?_, srepE_keeps ((X (fun _ => False) 0).keeps ι.length) _ _ _ (srepE_closed _ _ _ hs) hs⟩
    rw [Nat.zero_add, cell_row hnew]
    simpa using hj
  have hcold : Cold (.sl true k xs) (.slice (some ⟨w.heap.size, 0, none⟩) xs.length xs.length) := fun j => by
    unfold tokV
    cases j <;> simp [V.parts, V.cells, vparts, Value.cells, tok1]
  have htokn : ∀ i' j γ, tokH H ι (w.alloc (.cells us ty)) i' j = some γ → tokH H ι w i' j = some γ := by
    intro i' j γ h
    obtain ⟨cs, δ, a, b, h1, h2, h3, h4, h5⟩ := tokH_lt h
    obtain ⟨β', us', ty', g1, g2, g3, _⟩ := G.blk i' cs h1
    obtain rfl : δ = β' := by simpa [h2] using g1
    have hcc : (w.alloc (.cells us ty)).cell? ⟨δ, j, none⟩ = w.cell? ⟨δ, j, none⟩ := World.cell?_alloc_lt w _ ⟨δ, j, none⟩ (G.box_lt g2)
    rw [hcc] at h4
    simp only [tokH, h1, h2, Option.bind_some, h3, h4, h5]
  have key : ∀ (l : Loc) γ, tok (one (.sl true k xs)) (fun _ => .slice (some ⟨w.heap.size, 0, none⟩) xs.length xs.length) H ι (w.alloc (.cells us ty)) l = some γ → ∃ p, l = .inr p ∧ tokH H ι w p.1 p.2 = some γ := by
    intro l γ hl
    cases l with
    | inl p =>
      obtain ⟨t', j⟩ := p
      by_cases ht' : t' = 0
      · subst ht'; simp only [tok, one, if_true] at hl; rw [hcold j] at hl; cases hl
      · simp [tok, one, ht', tokV_any] at hl
    | inr p => exact ⟨p, rfl, htokn _ _ _ hl⟩
  refine ⟨zset Z w.heap.size (.log us.size), ι, ⟨fun t' => ?_, G.len, fun i' cs h => ?_, fun t' => ?_, ?_, fresh_alloc G.fresh _ _⟩, X _ _, ?_⟩
  · by_cases ht' : t' = 0
    · subst ht'; simpa [one] using hrep
    · simp [one, ht', srep]
  · obtain ⟨β, us', ty', a1, a2, a3, a4, a5, _⟩ := G.blk_ext (X (fun _ => False) H.length) (fun _ h => h.elim) (fun _ _ _ h => h.elim) i' cs h (List.getElem?_eq_some_iff.1 h).1
    exact ⟨β, us', ty', a1, a2, a3, a4, a5⟩
  · by_cases ht' : t' = 0
    · subst ht'; simp only [one, if_true]; exact hcold.own
    · simp only [one, ht', if_false]; exact Cold.own (fun j => tokV_any _ _)
  · intro l l' γ hl hl'
    obtain ⟨p, rfl, h⟩ := key l γ hl
    obtain ⟨p', rfl, h'⟩ := key l' γ hl'
    exact G.uniq (.inr p) (.inr p') γ h h'
  · intro l γ hl
    obtain ⟨p, rfl, h⟩ := key l γ hl
    exact .inl (.inr ⟨_, _, h⟩)
end
end Go.Den
end
section
set_option linter.unusedVariables false
namespace Go.Den
theorem over_get {cs cs' vs : List V} {off : Nat} (h : over cs off vs = some cs') : cs'.length = cs.length ∧ off + vs.length ≤ cs.length ∧ cs' = cs.take off ++ vs ++ cs.drop (off + vs.length) := by
  unfold over at h
  split at h
  · rename_i hl
    simp at h
    subst h
    refine ⟨?_, hl, by simp⟩
    simp
    omega
  · cases h
theorem over_at {α : Type} {cs vs : List α} {off : Nat} (hl : off + vs.length ≤ cs.length) (j : Nat) :
    (cs.take off ++ vs ++ cs.drop (off + vs.length))[j]? = if off ≤ j ∧ j < off + vs.length then vs[j - off]? else cs[j]? := by
  by_cases h1 : j < off
  · rw [if_neg (by omega), List.append_assoc, List.getElem?_append_left (by simp; omega), List.getElem?_take, if_pos h1]
  · by_cases h2 : j < off + vs.length
    · rw [if_pos (by omega), List.append_assoc, List.getElem?_append_right (by simp; omega), List.getElem?_append_left (by simp; omega)]
      congr 1
      simp
      omega
    · rw [if_neg (by omega), List.getElem?_append_right (by simp; omega), List.getElem?_drop]
      congr 1
      simp
      omega
section
variable {Z : Nat → Zone} {ι : List Nat} {e : Env} {H : Heap} {vals : Nat → Value} {w : World}
theorem Good.store (G : Good Z ι e H vals w) {S : Nat → Prop} {id off β : Nat} {cs vs cs' : List V} {us : Array Value} {news : List Value} {ty : TypeId} {lim : Nat}
    (hid : H[id]? = some cs) (hβ : ι[id]? = some β) (hh : w.heap[β]? = some (.cells us ty (0, 0))) (hov : over cs off vs = some cs') (hlim : lim ≤ id)
    (hs : srepL Z ι w vs news)
    (ho : ∀ (j : Nat) (x : V) (y : Value), vs[j]? = some x → news[j]? = some y → own1 Z w x y)
    (hsub : ∀ (j : Nat) (γ : Nat) (x : V) (y : Value), vs[j]? = some x → news[j]? = some y → tok1 x y = some γ → ∃ t j', S t ∧ tokV (e t) (vals t) j' = some γ)
    (hinj : ∀ (j j' γ : Nat) (x x' : V) (y y' : Value), vs[j]? = some x → news[j]? = some y → tok1 x y = some γ → vs[j']? = some x' → news[j']? = some y' → tok1 x' y' = some γ → j = j') :
    Post (TT e vals H ι w S) lim Z ι w .any (H.set id cs') undef (w.setRow β (us.toList.take off ++ news ++ us.toList.drop (off + news.length)).toArray) := by
  obtain ⟨hl, hfit, hcs'⟩ := over_get hov
  have hnl := srepL_length hs
  obtain ⟨β', us', ty', g1, g2, g3, g4, g5⟩ := G.blk id cs hid
  obtain rfl : β = β' := by simpa [hβ] using g1
  rw [hh] at g3
  simp at g3
  obtain ⟨rfl, rfl⟩ := g3
  have hul := srepL_length g4
  have hidlt : id < H.length := (List.getElem?_eq_some_iff.1 hid).1
  have hrow : (w.setRow β (us.toList.take off ++ news ++ us.toList.drop (off + news.length)).toArray).heap[β]? = some (.cells (us.toList.take off ++ news ++ us.toList.drop (off + news.length)).toArray ty (0, 0)) := setRow_heap w β us _ ty _ hh
  have hoth : ∀ γ, γ ≠ β → (w.setRow β (us.toList.take off ++ news ++ us.toList.drop (off + news.length)).toArray).heap[γ]? = w.heap[γ]? := fun γ h => setRow_other w β γ _ h
  generalize hw' : w.setRow β (us.toList.take off ++ news ++ us.toList.drop (off + news.length)).toArray = w' at *
  have hsz : w'.heap.size = w.heap.size := by rw [← hw']; simp
  have hcell : ∀ γ o, γ ≠ β → w'.cell? ⟨γ, o, none⟩ = w.cell? ⟨γ, o, none⟩ := fun γ o h => World.cell?_of_block (a := ⟨γ, o, none⟩) (hoth γ h)
  have X : ∀ T, Ext T lim Z ι w Z ι w' := fun T => {
    size := by omega
    os := by rw [← hw']; rfl
    out := by rw [← hw']; rfl
    tape := by rw [← hw']; rfl
    heap := fun γ _ _ hz => hoth γ (fun h => hz id hlim (by rw [h]; exact g2))
    zone := fun _ _ _ => rfl
    log := fun γ m hm => ⟨m, Nat.le_refl _, hm, fun o _ => hcell γ o (fun h => by rw [h, g2] at hm; cases hm)⟩
    idx := fun _ _ h => h }
  have K := (X (fun _ => False)).keeps ι.length
  have hrep : srepL Z ι w' cs' (us.toList.take off ++ news ++ us.toList.drop (off + news.length)) := by
    rw [hcs']
    have h1 := srepL_keeps K _ _ (srepL_closed _ _ g4) g4
    have h2 := srepL_keeps K _ _ (srepL_closed _ _ hs) hs
    rw [hnl]
    exact srepL_append (srepL_append (srepL_take off h1) h2) (srepL_drop _ h1)
  have htok : ∀ i j γ, tokH (H.set id cs') ι w' i j = some γ → (tokH H ι w i j = some γ ∧ ¬ (i = id ∧ off ≤ j ∧ j < off + vs.length)) ∨
      (i = id ∧ off ≤ j ∧ ∃ x y, vs[j - off]? = some x ∧ news[j - off]? = some y ∧ tok1 x y = some γ) := by
    intro i j γ h
    obtain ⟨ds, δ, x, y, h1, h2, h3, h4, h5⟩ := tokH_lt h
    by_cases hi : i = id
    · subst hi
      obtain rfl : β = δ := by simpa [hβ] using h2
      have : ds = cs' := by simpa [hidlt] using h1.symm
      subst this
      rw [hcs', over_at hfit] at h3
      rw [cell_row hrow, List.getElem?_toArray, over_at (by simp [hnl]; simp at hul; omega)] at h4
      rw [hnl] at h4
      split at h3
      · rename_i hr
        rw [if_pos hr] at h4
        exact .inr ⟨rfl, hr.1, x, y, h3, h4, h5⟩
      · rename_i hr
        rw [if_neg hr] at h4
        left
        refine ⟨?_, fun h => hr h.2⟩
        simp only [tokH, hid, hβ, Option.bind_some, h3, cell_row hh]
        simp at h4
        simp only [h4, h5]
    · left
      refine ⟨?_, fun h => hi h.1⟩
      rw [List.getElem?_set_ne (Ne.symm hi)] at h1
      obtain ⟨β2, us2, ty2, k1, k2, k3, _⟩ := G.blk i ds h1
      obtain rfl : δ = β2 := by simpa [h2] using k1
      have hne : δ ≠ β := fun h => by rw [h, g2] at k2; cases k2; exact hi rfl
      rw [hcell δ j hne] at h4
      simp only [tokH, h1, h2, Option.bind_some, h3, h4, h5]
  have hown : ∀ x y, own1 Z w x y → (∀ γ, tok1 x y = some γ → γ ≠ β) → own1 Z w' x y := fun x y h hne => own1_kept h fun γ hγ => ⟨rfl, hoth γ (hne γ hγ)⟩
  have hnoβ : ∀ l γ, tok e vals H ι w l = some γ → γ ≠ β := fun l γ h heq => by
    obtain ⟨_, m, hm⟩ := G.tok_ok h
    rw [heq, g2] at hm
    cases hm
  refine ⟨Z, ι, ⟨fun t => ?_, ?_, fun i ds h => ?_, fun t => ?_, ?_, fun γ h => G.fresh γ (by omega)⟩, X _, ?_⟩
  · by_cases ht : t = 0 <;> simp [one, ht, srep]
  · simp [G.len]
  · by_cases hi : i = id
    · subst hi
      have : ds = cs' := by simpa [hidlt] using h.symm
      subst this
      refine ⟨β, _, ty, hβ, g2, hrow, by simpa using hrep, fun j x y hx hy => ?_⟩
      rw [hcs', over_at hfit] at hx
      rw [List.getElem?_toArray, over_at (by simp [hnl]; simp at hul; omega), hnl] at hy
      split at hx
      · rename_i hr
        rw [if_pos hr] at hy
        refine hown x y (ho _ x y hx hy) fun γ hγ => ?_
        obtain ⟨t, j', _, h'⟩ := hsub _ γ x y hx hy hγ
        exact hnoβ (.inl (t, j')) γ h'
      · rename_i hr
        rw [if_neg hr] at hy
        simp at hy
        refine hown x y (g5 j x y hx hy) fun γ hγ => ?_
        exact hnoβ (.inr (i, j)) γ (by simp only [tok, tokH, hid, hβ, Option.bind_some, hx, cell_row hh, hy, hγ])
    · rw [List.getElem?_set_ne (Ne.symm hi)] at h
      obtain ⟨β2, us2, ty2, k1, k2, k3, k4, k5⟩ := G.blk i ds h
      have hne : β2 ≠ β := fun h => by rw [h, g2] at k2; cases k2; exact hi rfl
      refine ⟨β2, us2, ty2, k1, k2, by rw [hoth β2 hne]; exact k3, srepL_keeps K _ _ (srepL_closed _ _ k4) k4, fun j x y hx hy => ?_⟩
      refine hown x y (k5 j x y hx hy) fun γ hγ => ?_
      exact hnoβ (.inr (i, j)) γ (by simp only [tok, tokH, h, k1, Option.bind_some, hx, cell_row k3, hy, hγ])
  · by_cases ht : t = 0 <;> simp only [one, ht, if_true, if_false] <;> exact Cold.own (fun j => tokV_any _ _)
  · have key : ∀ (l : Loc) γ, tok (one V.any) (fun _ => undef) (H.set id cs') ι w' l = some γ → ∃ p, l = .inr p ∧ tokH (H.set id cs') ι w' p.1 p.2 = some γ := by
      intro l γ hl
      cases l with
      | inl p =>
        obtain ⟨t, j⟩ := p
        by_cases ht : t = 0 <;> simp [tok, one, ht, tokV_any] at hl
      | inr p => exact ⟨p, rfl, hl⟩
    intro l l' γ hl hl'
    obtain ⟨⟨i, j⟩, rfl, h⟩ := key l γ hl
    obtain ⟨⟨i', j'⟩, rfl, h'⟩ := key l' γ hl'
    rcases htok i j γ h with ⟨k, kn⟩ | ⟨rfl, hj, x, y, hx, hy, ht⟩ <;> rcases htok i' j' γ h' with ⟨k', kn'⟩ | ⟨rfl, hj', x', y', hx', hy', ht'⟩
    · exact G.uniq (.inr (i, j)) (.inr (i', j')) γ k k'
    · obtain ⟨t, j'', _, h2⟩ := hsub _ γ x' y' hx' hy' ht'
      cases G.uniq (.inl (t, j'')) (.inr (i, j)) γ h2 k
    · obtain ⟨t, j'', _, h2⟩ := hsub _ γ x y hx hy ht
      cases G.uniq (.inl (t, j'')) (.inr (i', j')) γ h2 k'
    · have := hinj _ _ γ x x' y y' hx hy ht hx' hy' ht'
      have : j = j' := by omega
      rw [this]
  · intro l γ hl
    left
    cases l with
    | inl p =>
      obtain ⟨t, j⟩ := p
      by_cases ht : t = 0 <;> simp [tok, one, ht, tokV_any] at hl
    | inr p =>
      rcases htok p.1 p.2 γ hl with ⟨k, _⟩ | ⟨_, _, x, y, hx, hy, ht⟩
      · exact .inr ⟨_, _, k⟩
      · exact .inl (hsub _ γ x y hx hy ht)
end
end Go.Den
end
section
set_option linter.unusedVariables false
namespace Go.Den
section
variable {P : Program} {w : World}
theorem run_app_in (t u ty e e' : TypeId) (i : TypeInfo) (ht : P.underlying t = some (.slice e)) (hu : P.underlying u = some (.slice e')) (hi : P.info? e = some i)
    (g n c m : Nat) (cur : Array Value) (et : TypeId) (hg : w.heap[g]? = some (.cells cur et (0, 0))) (x : Value) (news : List Value) (hlen : (Builtin.lenOf x).run P w = .ok m w)
    (hx : (Builtin.firstCells i.size m x).run P w = .ok news.toArray w) (h1 : ∀ v ∈ news, v.oneCell' = true)
    (hroom : n + m ≤ c) (hfit : n * i.size + news.length ≤ cur.size) :
    (Builtin.append_ #[t, u] ty #[.slice (some ⟨g, 0, none⟩) n c, x]).run P w =
      .ok (.slice (some ⟨g, 0, none⟩) (n + m) c) (w.setRow g (cur.toList.take (n * i.size) ++ news ++ cur.toList.drop (n * i.size + news.length)).toArray) := by
  have hst := run_storeCells_at P g (n * i.size) et news 0 cur w hg (by simpa using hfit) h1
  simp only [Nat.add_zero] at hst
  simp [Builtin.append_, run_underlying ht, run_underlying hu, sizeOf, typeInfo, hi, hlen, hroom, hx, Addr.add_lit, hst]
theorem run_app_none (t u ty e e' : TypeId) (i : TypeInfo) (ht : P.underlying t = some (.slice e)) (hu : P.underlying u = some (.slice e')) (hi : P.info? e = some i)
    (base : Option Addr) (n c : Nat) (x : Value) (hlen : (Builtin.lenOf x).run P w = .ok 0 w)
    (hx : (Builtin.firstCells i.size 0 x).run P w = .ok #[] w) (hc : n ≤ c) :
    (Builtin.append_ #[t, u] ty #[.slice base n c, x]).run P w = .ok (.slice base n c) w := by
  cases base <;> simp [Builtin.append_, run_underlying ht, run_underlying hu, sizeOf, typeInfo, hi, hlen, hc, hx, storeCells]
theorem run_app_grow (t u ty e e' : TypeId) (i : TypeInfo) (z : Value) (ht : P.underlying t = some (.slice e)) (hu : P.underlying u = some (.slice e')) (hi : P.info? e = some i) (hz : i.zero = some z)
    (s x : Value) (base : Option Addr) (n c m : Nat) (olds news : List Value) (hs : s = .slice base n c) (hlen : (Builtin.lenOf x).run P w = .ok m w)
    (hx : (Builtin.firstCells i.size m x).run P w.drew = .ok news.toArray w.drew) (ho : (Builtin.firstCells i.size n s).run P w.drew = .ok olds.toArray w.drew)
    (hg : c < n + m) (h63 : ((n + m : Nat) : Int) ≤ 9223372036854775807) (hfit : Builtin.nextslicecap (n + m) c * i.bytes ≤ 281474976710656) :
    (Builtin.append_ #[t, u] ty #[s, x]).run P w =
      .ok (.slice (some ⟨w.heap.size, 0, none⟩) (n + m) (grownCap w (n + m) c e))
        (w.drew.alloc (.cells (olds.toArray ++ news.toArray ++ Builtin.zeroCells z.cells (grownCap w (n + m) c e - (n + m))) e)) := by
  have hn : ¬ (n + m ≤ c) := by omega
  have h63' : ¬ (9223372036854775807 < ((n : Int) + (m : Int))) := by omega
  have h48' : ¬ (281474976710656 < Builtin.nextslicecap (n + m) c * i.bytes) := by omega
  subst hs
  simp [Builtin.append_, run_underlying ht, run_underlying hu, sizeOf, typeInfo, zeroValue, hi, hz, hlen, hn, h63', h48', Question.forced, hx, ho, newRow, grownCap]
  congr 2
  apply Array.ext'
  simp [List.append_assoc]
end
section
variable {Z : Nat → Zone} {ι : List Nat} {e : Env} {H : Heap} {vals : Nat → Value} {w : World}
theorem firstCells_of {P : Program} {k : Nat} {xs : List V} {o : Bool} {u : Value} {size : Nat} (h : srep Z ι w (.sl o k xs) u) (hk : k = 0 ∨ k = size) (w' : World) (hw : ∀ a, w'.cell? a = w.cell? a) :
    ∃ (news : List Value), (Builtin.lenOf u).run P w = .ok xs.length w ∧ (Builtin.firstCells size xs.length u).run P w' = .ok news.toArray w' ∧ srepE Z ι w size xs news := by
  simp only [srep] at h
  rcases h with ⟨rfl, rfl⟩ | ⟨β, off, c, us, m', rfl, hc, hk0, hz, hm, hl, hE⟩
  · exact ⟨[], by simp [Builtin.lenOf], by simp [Builtin.firstCells], by simp [srepE]⟩
  · rcases hk with rfl | rfl
    · omega
    · have hlen := srepE_length hE
      refine ⟨us, by simp [Builtin.lenOf], ?_, hE⟩
      refine run_firstCells_some (P := P) w' k xs.length _ _ _ us hlen (fun j v hj => ?_)
      rw [hw, show ((⟨β, off, none⟩ : Addr).add j) = ⟨β, off + j, none⟩ by unfold Addr.add; split <;> simp_all]
      exact hl j v hj
theorem fresh_ext {T : Nat → Prop} {lim : Nat} (hf : ∀ β, w.heap.size ≤ β → Z β = .free) (o : Obj) (z : Zone) : Ext T lim Z ι w (zset Z w.heap.size z) ι (w.drew.alloc o) := by
  have h := ext_alloc (w := w.drew) (ι := ι) hf T lim o z []
  simp only [List.append_nil] at h
  exact { size := h.size, os := h.os, out := h.out, tape := h.tape, heap := h.heap, zone := h.zone, log := h.log, idx := h.idx }
theorem srepE_any {k : Nat} : ∀ {xs : List V} {us : List Value}, srepE Z ι w k xs us → xs.length * k = us.length := fun h => (srepE_length h).symm
theorem srepE_dem {k : Nat} : ∀ {xs : List V} {us : List Value}, srepE Z ι w k xs us → srepE Z ι w k (xs.map V.dem) us
  | [], us, h => by simpa using h
  | c :: cs, us, h => by
    simp only [srepE, List.map_cons] at h ⊢
    obtain ⟨u, us', h0, h1, h2, h3, h4⟩ := h
    exact ⟨u, us', h0, h1, h2, srep_dem h3, srepE_dem h4⟩
theorem Good.append {P : Program} (G : Good Z ι e H vals w) {S : Nat → Prop} {k k' : Nat} {xs ys : List V} {o : Bool} {s x : Value} (lim : Nat)
    (hs : srep Z ι w (.sl true k xs) s) (how : own1 Z w (.sl true k xs) s) (htk : ∀ β, tok1 (.sl true k xs) s = some β → ∃ t j, S t ∧ tokV (e t) (vals t) j = some β)
    (hx : srep Z ι w (.sl o k' ys) x) (t u ty el el' : TypeId) (i : TypeInfo) (z : Value) (ht : P.underlying t = some (.slice el)) (hu : P.underlying u = some (.slice el')) (hi : P.info? el = some i) (hz : i.zero = some z)
    (hzs : z.cells.size = i.size) (hp : 0 < i.size) (hb : 0 < i.bytes) (hk : k = 0 ∨ k = i.size) (hk' : k' = 0 ∨ k' = i.size) (hbound : (xs.length + ys.length) * i.bytes ≤ 140737488355328) :
    ∃ v w', (Builtin.append_ #[t, u] ty #[s, x]).run P w = .ok v w' ∧ Post (TT e vals H ι w S) lim Z ι w (.sl true i.size (xs ++ ys.map V.dem)) H v w' := by
  have hlen : xs.length + ys.length ≤ 140737488355328 := Nat.le_trans (Nat.le_mul_of_pos_right _ hb) hbound
  obtain ⟨news, hx1, hx2, hx3⟩ := firstCells_of (P := P) hx hk' w (fun _ => rfl)
  have hnl := srepE_length hx3
  obtain ⟨news', _, hx2', hx3'⟩ := firstCells_of (P := P) hx hk' w.drew (fun _ => rfl)
  have hsame : news'.toArray = news.toArray := by
    have h1 := hx2
    simp only [srep] at hx
    rcases hx with ⟨rfl, rfl⟩ | ⟨β, off, c, us, m', rfl, hc, hk0, hz', hm, hl, hE⟩
    · simp [Builtin.firstCells] at h1 hx2'
      rw [h1, hx2']
    · rcases hk' with rfl | rfl
      · omega
      · have hf : ∀ w'' : World, (∀ a, w''.cell? a = w.cell? a) → (Builtin.firstCells i.size ys.length (.slice (some ⟨β, off, none⟩) ys.length c)).run P w'' = .ok us.toArray w'' := fun w'' hw => by
          refine run_firstCells_some (P := P) w'' i.size ys.length _ _ _ us (srepE_length hE) (fun j v hj => ?_)
          rw [hw, show ((⟨β, off, none⟩ : Addr).add j) = ⟨β, off + j, none⟩ by unfold Addr.add; split <;> simp_all]
          exact hl j v hj
        rw [hf w (fun _ => rfl)] at h1
        rw [hf w.drew (fun _ => rfl)] at hx2'
        simp at h1 hx2'
        rw [← h1, ← hx2']
  rw [hsame] at hx2'
  have grow : ∀ (base : Option Addr) (c : Nat) (olds : List Value), s = .slice base xs.length c → c < xs.length + ys.length → (Builtin.firstCells i.size xs.length s).run P w.drew = .ok olds.toArray w.drew → srepE Z ι w i.size xs olds →
      ∃ v w', (Builtin.append_ #[t, u] ty #[s, x]).run P w = .ok v w' ∧ Post (TT e vals H ι w S) lim Z ι w (.sl true i.size (xs ++ ys.map V.dem)) H v w' := by
    intro base c olds hse hc hol hE
    have hr := run_app_grow (P := P) (w := w) t u ty el el' i z ht hu hi hz s x base xs.length c ys.length olds news hse hx1 hx2' hol hc (by omega) (growslice_fits hc hbound)
    refine ⟨_, _, hr, ?_⟩
    generalize hcap : grownCap w (xs.length + ys.length) c el = cap
    have hge : xs.length + ys.length ≤ cap := by rw [← hcap]; exact grownCap_ge _ _ _ _
    have hcm : cap ≤ maxLen := by rw [← hcap]; exact grownCap_le_maxLen _ _ _ _ (by unfold maxLen; omega)
    generalize hO : Obj.cells (olds.toArray ++ news.toArray ++ Builtin.zeroCells z.cells (cap - (xs.length + ys.length))) el = O
    have hnew : (w.drew.alloc O).heap[w.heap.size]? = some O := heap_alloc_new w.drew O
    have hol' := srepE_length hE
    have hsize : (olds.toArray ++ news.toArray ++ Builtin.zeroCells z.cells (cap - (xs.length + ys.length))).size = cap * i.size := by
      simp only [Array.size_append, List.size_toArray, size_zeroCells, hzs, hol', hnl, ← Nat.add_mul]
      congr 1
      omega
    have X : Ext (TT e vals H ι w S) lim Z ι w (zset Z w.heap.size (.log ((xs.length + ys.length) * i.size))) ι (w.drew.alloc O) := fresh_ext G.fresh O _
    have X0 : Ext (fun _ => False) H.length Z ι w (zset Z w.heap.size (.log ((xs.length + ys.length) * i.size))) ι (w.drew.alloc O) := fresh_ext G.fresh O _
    have K := X.keeps ι.length
    have hEE : srepE (zset Z w.heap.size (.log ((xs.length + ys.length) * i.size))) ι (w.drew.alloc O) i.size (xs ++ ys.map V.dem) (olds ++ news) := by
      have := srepE_append hE (srepE_dem hx3)
      exact srepE_keeps K _ _ _ (srepE_closed _ _ _ this) this
    have hrep : srep (zset Z w.heap.size (.log ((xs.length + ys.length) * i.size))) ι (w.drew.alloc O) (.sl true i.size (xs ++ ys.map V.dem)) (.slice (some ⟨w.heap.size, 0, none⟩) (xs.length + ys.length) cap) := by
      simp only [srep]
      refine .inr ⟨w.heap.size, 0, cap, olds ++ news, (xs.length + ys.length) * i.size, by simp, by simpa using hge, hp, by simp [zset], by simp [hol', hnl, Nat.add_mul], fun j y hj => ?_, hEE⟩
      rw [Nat.zero_add, cell_row (by rw [hnew, ← hO])]
      rw [Array.getElem?_append_left, List.append_toArray, List.getElem?_toArray]
      · exact hj
      · have := (List.getElem?_eq_some_iff.1 hj).1
        simpa using this
    have htokn : ∀ i' j γ, tokH H ι (w.drew.alloc O) i' j = some γ → tokH H ι w i' j = some γ := by
      intro i' j γ h
      obtain ⟨cs, δ, a, b, h1, h2, h3, h4, h5⟩ := tokH_lt h
      obtain ⟨β', us', ty', g1, g2, g3, _⟩ := G.blk i' cs h1
      obtain rfl : δ = β' := by simpa [h2] using g1
      have hcc : (w.drew.alloc O).cell? ⟨δ, j, none⟩ = w.cell? ⟨δ, j, none⟩ := World.cell?_alloc_lt w.drew O ⟨δ, j, none⟩ (G.box_lt g2)
      rw [hcc] at h4
      simp only [tokH, h1, h2, Option.bind_some, h3, h4, h5]
    have key : ∀ (l : Loc) γ, tok (one (.sl true i.size (xs ++ ys.map V.dem))) (fun _ => .slice (some ⟨w.heap.size, 0, none⟩) (xs.length + ys.length) cap) H ι (w.drew.alloc O) l = some γ →
        (l = .inl (0, 0) ∧ γ = w.heap.size) ∨ ∃ p, l = .inr p ∧ tokH H ι w p.1 p.2 = some γ := by
      intro l γ hl
      cases l with
      | inl p =>
        obtain ⟨t', j⟩ := p
        by_cases ht' : t' = 0
        · subst ht'
          simp only [tok, one, if_true] at hl
          unfold tokV at hl
          cases j with
          | zero => simp [V.parts, V.cells, vparts, Value.cells, tok1] at hl; exact .inl ⟨rfl, hl.2.symm⟩
          | succ j => simp [V.parts, V.cells] at hl
        · simp [tok, one, ht', tokV_any] at hl
      | inr p => exact .inr ⟨p, rfl, htokn _ _ _ hl⟩
    refine ⟨_, ι, ⟨fun t' => ?_, G.len, fun i' cs h => ?_, fun t' => ?_, ?_, fun γ h => ?_⟩, X, ?_⟩
    · by_cases ht' : t' = 0
      · subst ht'; simpa [one] using hrep
      · simp [one, ht', srep]
    · obtain ⟨β, us, ty', a1, a2, a3, a4, a5, _⟩ := G.blk_ext X0 (fun _ h => h.elim) (fun _ _ _ h => h.elim) i' cs h (List.getElem?_eq_some_iff.1 h).1
      exact ⟨β, us, ty', a1, a2, a3, a4, a5⟩
    · by_cases ht' : t' = 0
      · subst ht'
        simp only [one, if_true]
        intro j a b ha hb' γ hγ
        cases j with
        | zero =>
          simp [V.parts, V.cells, vparts, Value.cells] at ha hb'
          subst ha hb'
          simp [tok1] at hγ
          obtain ⟨_, rfl⟩ := hγ
          exact ⟨i.size, _, cap, _, el, rfl, by simp, by simp [zset], by rw [hnew, ← hO], hsize, hcm⟩
        | succ j => simp [V.parts, V.cells] at ha
      · simp only [one, ht', if_false]; exact Cold.own (fun j => tokV_any _ _)
    · intro l l' γ hl hl'
      rcases key l γ hl with ⟨rfl, rfl⟩ | ⟨p, rfl, h⟩ <;> rcases key l' _ hl' with ⟨rfl, h'⟩ | ⟨p', rfl, h'⟩
      · rfl
      · have := (G.tok_ok (l := .inr p') h').1; omega
      · have := (G.tok_ok (l := .inr p) h).1; omega
      · exact G.uniq (.inr p) (.inr p') γ h h'
    · exact fresh_alloc (w := w.drew) G.fresh O _ γ h
    · intro l γ hl
      rcases key l γ hl with ⟨rfl, rfl⟩ | ⟨p, rfl, h⟩
      · exact .inr (Nat.le_refl _)
      · exact .inl (.inr ⟨_, _, h⟩)
  have hs0 := hs
  simp only [srep] at hs0
  by_cases hys : ys = []
  · -- nothing is appended
    subst hys
    have hn0 : news = [] := List.eq_nil_of_length_eq_zero (by simpa using hnl)
    subst hn0
    rcases hs0 with ⟨rfl, rfl⟩ | ⟨β, off, c, us, m', rfl, hc, hk0, hzz, hm, hl, hE⟩
    · refine ⟨_, _, run_app_none (P := P) t u ty el el' i ht hu hi none 0 0 x hx1 hx2 (Nat.le_refl _), G.cold S (by simp [srep]) (fun j => ?_) lim⟩
      unfold tokV
      cases j <;> simp [V.parts, V.cells, vparts, Value.cells, tok1]
    · have hk2 : k = i.size := hk.resolve_left (by omega)
      subst hk2
      refine ⟨_, _, run_app_none (P := P) t u ty el el' i ht hu hi _ _ _ x hx1 hx2 hc, ?_⟩
      simp only [List.map_nil, List.append_nil]
      have hpart : ∀ j γ, tokV (.sl true i.size xs) (.slice (some ⟨β, off, none⟩) xs.length c) j = some γ → j = 0 ∧ tok1 (.sl true i.size xs) (.slice (some ⟨β, off, none⟩) xs.length c) = some γ := by
        intro j γ h
        cases j with
        | zero => exact ⟨rfl, by simpa [tokV, V.parts, V.cells, vparts, Value.cells] using h⟩
        | succ j => simp [tokV, V.parts, V.cells] at h
      refine G.still hs (fun j a b ha hb' => ?_) (fun j γ h => htk γ (hpart j γ h).2) (fun j j' γ h h' => by rw [(hpart j γ h).1, (hpart j' γ h').1]) lim
      cases j with
      | zero =>
        simp [V.parts, V.cells, vparts, Value.cells] at ha hb'
        subst ha hb'
        exact how
      | succ j => simp [V.parts, V.cells] at ha
  · have hypos : 0 < ys.length := List.length_pos_iff.2 hys
    rcases hs0 with ⟨rfl, rfl⟩ | ⟨β, off, c, us, m', rfl, hc, hk0, hzz, hm, hl, hE⟩
    · exact grow none 0 [] rfl (by simpa using hypos) (by simp [Builtin.firstCells]) (by simp [srepE])
    · have hk2 : k = i.size := hk.resolve_left (by omega)
      subst hk2
      by_cases hroom : xs.length + ys.length ≤ c
      · -- in place
        have hne : xs.length ≠ c := by omega
        obtain ⟨k2, xs2, c2, cur, ety, e1, e2, hzl, hh, hcs, hcm⟩ := how β (by simp [tok1, hne])
        cases e1
        cases e2
        have hfit : xs.length * i.size + news.length ≤ cur.size := by rw [hnl, hcs, ← Nat.add_mul]; exact Nat.mul_le_mul_right _ hroom
        have hr := run_app_in (P := P) (w := w) t u ty el el' i ht hu hi β xs.length c ys.length cur ety hh x news hx1 hx2 (srepE_one hx3) hroom hfit
        refine ⟨_, _, hr, ?_⟩
        have hrow : (w.setRow β (cur.toList.take (xs.length * i.size) ++ news ++ cur.toList.drop (xs.length * i.size + news.length)).toArray).heap[β]? = some (.cells (cur.toList.take (xs.length * i.size) ++ news ++ cur.toList.drop (xs.length * i.size + news.length)).toArray ety (0, 0)) := setRow_heap w β cur _ ety _ hh
        have hoth : ∀ γ, γ ≠ β → (w.setRow β (cur.toList.take (xs.length * i.size) ++ news ++ cur.toList.drop (xs.length * i.size + news.length)).toArray).heap[γ]? = w.heap[γ]? := fun γ h => setRow_other w β γ _ h
        generalize hw' : w.setRow β (cur.toList.take (xs.length * i.size) ++ news ++ cur.toList.drop (xs.length * i.size + news.length)).toArray = w' at *
        have hsz : w'.heap.size = w.heap.size := by rw [← hw']; simp
        obtain ⟨ts, js, hS, htS⟩ := htk β (by simp [tok1, hne])
        have hβlt : β < w.heap.size := (Array.getElem?_eq_some_iff.1 hh).1
        have hcell : ∀ γ o', γ ≠ β → w'.cell? ⟨γ, o', none⟩ = w.cell? ⟨γ, o', none⟩ := fun γ o' h => World.cell?_of_block (a := ⟨γ, o', none⟩) (hoth γ h)
        have hfit' : xs.length * i.size + news.length ≤ cur.toList.length := by simpa using hfit
        have hbefore : ∀ o', o' < xs.length * i.size → w'.cell? ⟨β, o', none⟩ = w.cell? ⟨β, o', none⟩ := fun o' ho' => by
          rw [cell_row hrow, cell_row hh, List.getElem?_toArray, over_at hfit', if_neg (by omega)]
          simp
        let T : Nat → Prop := TT e vals H ι w S
        have hTβ : T β := .inl ⟨ts, js, hS, htS⟩
        have mkX : ∀ (T' : Nat → Prop) (lim' : Nat), T' β → Ext T' lim' Z ι w (zset Z β (.log ((xs.length + ys.length) * i.size))) ι w' := fun T' lim' hT' => {
          size := by omega
          os := by rw [← hw']; rfl
          out := by rw [← hw']; rfl
          tape := by rw [← hw']; rfl
          heap := fun γ _ hn _ => hoth γ (fun h => hn (by rw [h]; exact hT'))
          zone := fun γ _ hn => by simp only [zset]; rw [if_neg (fun (h : γ = β) => hn (by rw [h]; exact hT'))]
          log := fun γ m hm' => by
            by_cases hγ : γ = β
            · subst hγ
              rw [hzl] at hm'
              cases hm'
              exact ⟨(xs.length + ys.length) * i.size, Nat.mul_le_mul_right _ (by omega), by simp [zset], hbefore⟩
            · exact ⟨m, Nat.le_refl _, by simp only [zset]; rw [if_neg hγ]; exact hm', fun o' _ => hcell γ o' hγ⟩
          idx := fun _ _ h => h }
        have X := mkX T lim hTβ
        have X0 := mkX (fun γ => γ = β) H.length rfl
        have K := X.keeps ι.length
        have hEE : srepE (zset Z β (.log ((xs.length + ys.length) * i.size))) ι w' i.size (xs ++ ys.map V.dem) (us ++ news) := by
          have := srepE_append hE (srepE_dem hx3)
          exact srepE_keeps K _ _ _ (srepE_closed _ _ _ this) this
        have hul := srepE_length hE
        have hrep : srep (zset Z β (.log ((xs.length + ys.length) * i.size))) ι w' (.sl true i.size (xs ++ ys.map V.dem)) (.slice (some ⟨β, 0, none⟩) (xs.length + ys.length) c) := by
          simp only [srep]
          refine .inr ⟨β, 0, c, us ++ news, (xs.length + ys.length) * i.size, by simp, by simpa using hroom, hp, by simp [zset], by simp [hul, hnl, Nat.add_mul], fun j y hj => ?_, hEE⟩
          rw [Nat.zero_add, cell_row hrow, List.getElem?_toArray, over_at hfit']
          rw [List.getElem?_append, hul] at hj
          split at hj
          · rename_i hlt
            rw [if_neg (by omega)]
            have := hl j y hj
            rw [Nat.zero_add, cell_row hh] at this
            simpa using this
          · rename_i hge
            have := (List.getElem?_eq_some_iff.1 hj).1
            rw [if_pos (by omega)]
            exact hj
        have hnoβ : ∀ i' j, tokH H ι w i' j ≠ some β := fun i' j h => by cases G.uniq (.inl (ts, js)) (.inr (i', j)) β htS h
        have htokn : ∀ i' j γ, tokH H ι w' i' j = some γ → tokH H ι w i' j = some γ := by
          intro i' j γ h
          obtain ⟨cs, δ, a, b, h1, h2, h3, h4, h5⟩ := tokH_lt h
          obtain ⟨β', us', ty', g1, g2, g3, _⟩ := G.blk i' cs h1
          obtain rfl : δ = β' := by simpa [h2] using g1
          have hδ : δ ≠ β := fun h => by rw [h, hzl] at g2; cases g2
          rw [hcell δ j hδ] at h4
          simp only [tokH, h1, h2, Option.bind_some, h3, h4, h5]
        have key : ∀ (l : Loc) γ, tok (one (.sl true i.size (xs ++ ys.map V.dem))) (fun _ => .slice (some ⟨β, 0, none⟩) (xs.length + ys.length) c) H ι w' l = some γ →
            (l = .inl (0, 0) ∧ γ = β) ∨ ∃ p, l = .inr p ∧ tokH H ι w p.1 p.2 = some γ := by
          intro l γ hl
          cases l with
          | inl p =>
            obtain ⟨t', j⟩ := p
            by_cases ht' : t' = 0
            · subst ht'
              simp only [tok, one, if_true] at hl
              unfold tokV at hl
              cases j with
              | zero => simp [V.parts, V.cells, vparts, Value.cells, tok1] at hl; exact .inl ⟨rfl, hl.2.symm⟩
              | succ j => simp [V.parts, V.cells] at hl
            · simp [tok, one, ht', tokV_any] at hl
          | inr p => exact .inr ⟨p, rfl, htokn _ _ _ hl⟩
        refine ⟨_, ι, ⟨fun t' => ?_, G.len, fun i' cs h => ?_, fun t' => ?_, ?_, fun γ h => ?_⟩, X, ?_⟩
        · by_cases ht' : t' = 0
          · subst ht'; simpa [one] using hrep
          · simp [one, ht', srep]
        · obtain ⟨β', us', ty', a1, a2, a3, a4, a5, _⟩ := G.blk_ext X0 (fun γ h => ⟨xs.length * i.size, by rw [h]; exact hzl⟩) (fun _ i2 j2 h => by rw [h]; exact hnoβ i2 j2) i' cs h (List.getElem?_eq_some_iff.1 h).1
          exact ⟨β', us', ty', a1, a2, a3, a4, a5⟩
        · by_cases ht' : t' = 0
          · subst ht'
            simp only [one, if_true]
            intro j a b ha hb' γ hγ
            cases j with
            | zero =>
              simp [V.parts, V.cells, vparts, Value.cells] at ha hb'
              subst ha hb'
              simp [tok1] at hγ
              obtain ⟨_, rfl⟩ := hγ
              refine ⟨i.size, _, c, _, ety, rfl, by simp, by simp [zset], hrow, ?_, hcm⟩
              simp
              omega
            | succ j => simp [V.parts, V.cells] at ha
          · simp only [one, ht', if_false]; exact Cold.own (fun j => tokV_any _ _)
        · intro l l' γ hl hl'
          rcases key l γ hl with ⟨rfl, rfl⟩ | ⟨p, rfl, h⟩ <;> rcases key l' _ hl' with ⟨rfl, h'⟩ | ⟨p', rfl, h'⟩
          · rfl
          · exact absurd h' (hnoβ _ _)
          · subst h'; exact absurd h (hnoβ _ _)
          · exact G.uniq (.inr p) (.inr p') γ h h'
        · simp only [zset]
          rw [if_neg (by omega)]
          exact G.fresh γ (by omega)
        · intro l γ hl
          left
          rcases key l γ hl with ⟨rfl, rfl⟩ | ⟨p, rfl, h⟩
          · exact hTβ
          · exact .inr ⟨_, _, h⟩
      · have hol : (Builtin.firstCells i.size xs.length (.slice (some ⟨β, off, none⟩) xs.length c)).run P w.drew = .ok us.toArray w.drew := by
          refine run_firstCells_some (P := P) w.drew i.size xs.length _ _ _ us (srepE_length hE) (fun j v hj => ?_)
          rw [show ((⟨β, off, none⟩ : Addr).add j) = ⟨β, off + j, none⟩ by unfold Addr.add; split <;> simp_all]
          exact hl j v hj
        exact grow _ c us rfl (by omega) hol hE
end
end Go.Den
end
section
set_option linter.unusedVariables false
namespace Go.Den
def kindOK (P : Program) (t : TypeId) : TK → Prop
  | .int k => P.underlying t = some (.int k)
  | .bool => P.underlying t = some .bool
  | .string => P.underlying t = some .string
  | .slice e => P.underlying t = some (.slice e)
  | .array n e => P.underlying t = some (.array n e)
  | .struct fs => ∃ fields, P.underlying t = some (.struct fields) ∧ fields.toList.map (fun f => (f.type, f.offset)) = fs
  | .pointer e => P.underlying t = some (.pointer e)
  | .iface => ∃ ms, P.underlying t = some (.interface ms)
  | .func => ∃ a b c, P.underlying t = some (.func a b c)
  | .map k v => P.underlying t = some (.map k v)
  | .other => ∃ ts, P.underlying t = some (.tuple ts)
structure TIok (P : Program) (t : TypeId) (ti : TI) : Prop where
  info : ∃ i z, P.info? t = some i ∧ i.size = ti.size ∧ i.bytes = ti.bytes ∧ i.zero = some z ∧ (∀ Z ι w, srepL Z ι w ti.zero z.cells.toList) ∧
    (∀ (j : Nat) (x : V) (y : Value), ti.zero[j]? = some x → z.cells[j]? = some y → tok1 x y = none) ∧ (if ti.agg then ∃ us, z = .agg us else z.cells = #[z])
  kind : kindOK P t ti.kind
def eqB (P : Program) (t : TypeId) : Bool := (P.fieldsOf t).all (fun f => f.name != "_") && !P.stoodInHeld t && !P.eqGuardType P.depth t
structure CtxOK (C : Ctx) : Prop where
  ti : ∀ t ti, C.ti t = some ti → TIok C.P t ti
  eqT : ∀ t, C.eqT t = true → eqB C.P t = true
  names : ∀ (f : FuncId) (fn : Func), C.P.funcs[f]? = some fn → fn.name ≠ "runtime.NumGoroutine"
  mixed : C.P.follows .mixedOrders = true
  fields : ∀ t z b fs, C.ti t = some ⟨z, b, .struct fs⟩ → ∀ p ∈ fs, ∃ ti, C.ti p.1 = some ti
theorem TIok.und {P : Program} {t : TypeId} {ti : TI} (h : TIok P t ti) : ∃ d, P.underlying t = some d ∧ ((match d with | .struct _ | .array _ _ => true | _ => false) = ti.agg) := by
  have hk := h.kind
  unfold kindOK at hk
  unfold TI.agg
  cases hkk : ti.kind <;> simp only [hkk] at hk <;> first | exact ⟨_, hk, rfl⟩ | (obtain ⟨_, hk⟩ := hk; first | exact ⟨_, hk, rfl⟩ | exact ⟨_, hk.1, rfl⟩ | (obtain ⟨_, _, hk⟩ := hk; exact ⟨_, hk, rfl⟩))
theorem TIok.run_isAgg {P : Program} {t : TypeId} {ti : TI} (h : TIok P t ti) (w : World) : (isAgg t).run P w = .ok ti.agg w := by
  obtain ⟨d, hd, ha⟩ := h.und
  unfold isAgg
  simp only [Sem.run_bind, run_underlying hd, Result.andThen_ok]
  rw [← ha]
  cases d <;> rfl
theorem TIok.run_size {P : Program} {t : TypeId} {ti : TI} (h : TIok P t ti) (w : World) : (sizeOf t).run P w = .ok ti.size w := by
  obtain ⟨i, z, hi, hs, _⟩ := h.info
  simp [sizeOf, typeInfo, hi, hs]
theorem TIok.run_zero {P : Program} {t : TypeId} {ti : TI} (h : TIok P t ti) : ∃ z, (∀ w, (zeroValue t).run P w = .ok z w) ∧ (∀ Z ι w, srepL Z ι w ti.zero z.cells.toList) ∧
    (∀ (j : Nat) (x : V) (y : Value), ti.zero[j]? = some x → z.cells[j]? = some y → tok1 x y = none) ∧ (if ti.agg then ∃ us, z = .agg us else z.cells = #[z]) := by
  obtain ⟨i, z, hi, hs, hb, hz, h1, h2, h3⟩ := h.info
  exact ⟨z, fun w => by simp [zeroValue, typeInfo, hi, hz], h1, h2, h3⟩
section
variable {Z : Nat → Zone} {ι : List Nat} {e : Env} {H : Heap} {vals : Nat → Value} {w : World} {P : Program}
theorem addr_add (β o n : Nat) : ((⟨β, o, none⟩ : Addr).add n) = ⟨β, o + n, none⟩ := by unfold Addr.add; split <;> simp_all
theorem load_ok {t : TypeId} {ti : TI} (h : TIok P t ti) {β off : Nat} {us : List Value} {cs : List V} {v : V} (hl : lies w β off us) (hlen : us.length = ti.size) (hs : srepL Z ι w cs us) (hv : ofCells ti cs = some v) :
    ∃ u, (loadVar t ⟨β, off, none⟩).run P w = .ok u w ∧ srep Z ι w v u := by
  unfold ofCells at hv
  unfold loadVar
  simp only [Sem.run_bind, h.run_isAgg, Result.andThen_ok, Sem.run_ite]
  cases hagg : ti.agg with
  | true =>
    rw [hagg] at hv
    simp at hv
    subst hv
    have := run_loadCells_list (P := P) w ⟨β, off, none⟩ us (fun j x hj => by rw [addr_add]; exact hl j x hj)
    refine ⟨.agg us.toArray, ?_, by simp only [srep]; exact ⟨us, rfl, hs⟩⟩
    simp [h.run_size, ← hlen, this]
  | false =>
    rw [hagg] at hv
    cases cs with
    | nil => simp at hv
    | cons c cs =>
      cases cs with
      | cons _ _ => simp at hv
      | nil =>
        simp at hv
        subst hv
        simp only [srepL] at hs
        obtain ⟨u, us', rfl, _, hs, rfl⟩ := hs
        have := hl 0 u rfl
        simp only [Nat.add_zero] at this
        exact ⟨u, by simp [run_load, this], hs⟩
theorem part_ok {t : TypeId} {ti : TI} (h : TIok P t ti) {off : Nat} {us : List Value} {cs ds : List V} {v : V} (hs : srepL Z ι w cs us) (hsub : sub cs off ti.size = some ds) (hv : ofCells ti ds = some v) :
    ∃ u, (part t us.toArray off).run P w = .ok u w ∧ srep Z ι w v u := by
  have hlen := srepL_length hs
  unfold sub at hsub
  split at hsub
  · rename_i hle
    simp at hsub
    have hs' : srepL Z ι w ds ((us.drop off).take ti.size) := by rw [← hsub]; exact srepL_take _ (srepL_drop _ hs)
    unfold ofCells at hv
    unfold part
    simp only [Sem.run_bind, h.run_isAgg, Result.andThen_ok, Sem.run_ite]
    cases hagg : ti.agg with
    | true =>
      rw [hagg] at hv
      simp at hv
      subst hv
      refine ⟨.agg ((us.drop off).take ti.size).toArray, ?_, by simp only [srep]; exact ⟨_, rfl, hs'⟩⟩
      simp [h.run_size, List.extract_toArray, List.extract_eq_take_drop]
    | false =>
      rw [hagg] at hv
      cases ds with
      | nil => simp at hv
      | cons c ds =>
        cases ds with
        | cons _ _ => simp at hv
        | nil =>
          simp at hv
          subst hv
          simp only [srepL] at hs'
          obtain ⟨u, us', he, _, hs', rfl⟩ := hs'
          refine ⟨u, ?_, hs'⟩
          have h0 := congrArg (fun l => l[0]?) he
          have hpos : 0 < ti.size := by
            rcases Nat.eq_zero_or_pos ti.size with h | h
            · rw [h] at he; simp at he
            · exact h
          rw [List.getElem?_take, if_pos hpos, List.getElem?_drop] at h0
          simp at h0
          simp [h0]
  · cases hsub
theorem constV_ok (C : Ctx) (t : TypeId) (v : Value) : srep Z ι w (constV C t v) v ∧ Cold (constV C t v) v := by
  unfold constV
  split
  · split
    · exact ⟨by simp [srep], fun j => by unfold tokV; cases j <;> simp [V.parts, V.cells, vparts, Value.cells, tok1]⟩
    · exact ⟨by simp [srep], fun j => by unfold tokV; cases j <;> simp [V.parts, V.cells, vparts, Value.cells, tok1]⟩
  all_goals first
    | exact ⟨by simp [srep], fun j => tokV_any _ _⟩
    | exact ⟨by simp [srep, flat], fun j => by unfold tokV; cases j <;> simp [V.parts, V.cells, vparts, Value.cells, tok1]⟩
theorem rd_srep {a : Act} (G : Good Z ι e H (fun t => a.tmps.getD t undef) w) (C : Ctx) (t : TypeId) (take : Bool) (x : Operand) : srep Z ι w (rdO C t e take x) (a.eval x) := by
  cases x with
  | tmp n =>
    simp only [rdO, Act.eval]
    split
    · exact G.rep n
    · exact srep_dem (G.rep n)
  | const v => exact (constV_ok C t v).1
  | global g => simp [rdO, srep]
  | func f => simp only [rdO, Act.eval, srep, srepT]; exact ⟨[], [], rfl, rfl, rfl⟩
theorem rd_cold {a : Act} (C : Ctx) (t : TypeId) (x : Operand) : Cold (rdO C t e false x) (a.eval x) := by
  cases x with
  | tmp n => exact cold_dem _ _
  | const v => exact (constV_ok (Z := fun _ => .free) (ι := []) (w := default) C t v).2
  | global g => exact fun j => tokV_any _ _
  | func f => exact fun j => by unfold tokV; cases j <;> simp [rdO, Act.eval, V.parts, V.cells, vparts, Value.cells, tok1]
def takesOf (take : Bool) (xs : List Operand) (t : Nat) : Prop := take = true ∧ Operand.tmp t ∈ xs
theorem rd_tok {a : Act} (G : Good Z ι e H (fun t => a.tmps.getD t undef) w) (C : Ctx) (t : TypeId) (take : Bool) (x : Operand) (xs : List Operand) (hx : x ∈ xs) (j β : Nat)
    (h : tokV (rdO C t e take x) (a.eval x) j = some β) : ∃ n, x = .tmp n ∧ takesOf take xs n ∧ tokV (e n) (a.tmps.getD n undef) j = some β := by
  cases take with
  | false => rw [rd_cold C t x j] at h; cases h
  | true =>
    cases x with
    | tmp n => exact ⟨n, rfl, ⟨rfl, hx⟩, by simpa [rdO, Act.eval] using h⟩
    | const v =>
      change tokV (constV C t v) v j = some β at h
      rw [(constV_ok (Z := fun _ => .free) (ι := []) (w := default) C t v).2 j] at h; cases h
    | global g => rw [show rdO C t e true (.global g) = V.any from rfl, tokV_any] at h; cases h
    | func f =>
      simp only [rdO, Act.eval] at h
      unfold tokV at h
      cases j <;> simp [V.parts, V.cells, vparts, Value.cells, tok1] at h
theorem rd_own {a : Act} (G : Good Z ι e H (fun t => a.tmps.getD t undef) w) (C : Ctx) (t : TypeId) (take : Bool) (x : Operand) : ownV Z w (rdO C t e take x) (a.eval x) := by
  cases take with
  | false => exact (rd_cold C t x).own
  | true =>
    cases x with
    | tmp n => exact G.own n
    | const v => exact (constV_ok (Z := fun _ => .free) (ι := []) (w := default) C t v).2.own
    | global g => exact Cold.own (fun j => tokV_any _ _)
    | func f => exact Cold.own (fun j => by unfold tokV; cases j <;> simp [rdO, Act.eval, V.parts, V.cells, vparts, Value.cells, tok1])
theorem dem1_dem1 (v : V) : v.dem1.dem1 = v.dem1 := by cases v <;> rfl
theorem dem2_dem2 (v : V) : v.dem2.dem2 = v.dem2 := by
  cases v with
  | agg cs => simp only [V.dem2, List.map_map]; congr 1; exact List.map_congr_left (fun a _ => dem1_dem1 a)
  | _ => rfl
theorem dem_dem (v : V) : v.dem.dem = v.dem := by
  cases v with
  | tup cs => simp only [V.dem, List.map_map]; congr 1; exact List.map_congr_left (fun a _ => dem2_dem2 a)
  | agg cs => exact dem2_dem2 (.agg cs)
  | _ => rfl
theorem left_at (take : Bool) (xs : List Operand) (e : Env) (t : Nat) : (takesOf take xs t ∧ e.left take xs t = (e t).dem) ∨ (¬ takesOf take xs t ∧ e.left take xs t = e t) := by
  unfold takesOf Env.left
  cases take with
  | false => simp
  | true =>
    simp only [true_and, if_true]
    suffices h : ∀ (xs : List Operand) (e : Env), (Operand.tmp t ∈ xs ∧ (xs.foldl (fun e x => match x with | .tmp n => e.put (some n) (e n).dem | _ => e) e) t = (e t).dem) ∨
        (¬ Operand.tmp t ∈ xs ∧ (xs.foldl (fun e x => match x with | .tmp n => e.put (some n) (e n).dem | _ => e) e) t = e t) from h xs e
    intro xs
    induction xs with
    | nil => intro e; simp
    | cons x xs ih =>
      intro e
      rw [List.foldl_cons]
      rcases ih (match x with | .tmp n => e.put (some n) (e n).dem | _ => e) with ⟨hm, h⟩ | ⟨hm, h⟩
      · left
        refine ⟨List.mem_cons_of_mem _ hm, ?_⟩
        rw [h]
        cases x with
        | tmp n =>
          simp only [Env.put]
          split
          · rename_i hn; subst hn; exact dem_dem _
          · rfl
        | _ => rfl
      · cases x with
        | tmp n =>
          by_cases hn : t = n
          · subst hn
            left
            exact ⟨List.mem_cons_self, by rw [h]; simp [Env.put]⟩
          · right
            refine ⟨by simp [hn, hm], ?_⟩
            rw [h]
            simp [Env.put, hn]
        | _ => right; exact ⟨by simp [hm], h⟩
end
end Go.Den
end
section
set_option linter.unusedVariables false
namespace Go.Den
theorem cold_sc (v : Value) (u : Value) : Cold (.sc v) u := by
  intro j
  unfold tokV
  cases j with
  | zero => cases h : (vparts u)[0]? <;> simp [V.parts, V.cells, tok1]
  | succ j => simp [V.parts, V.cells]
section
variable {Z : Nat → Zone} {ι : List Nat} {w : World} {P : Program}
theorem binI_ok (op : BinOp) (t : TypeId) (k : IntKind) (a b : Int) (v : Value) (hs : op ≠ .shl) (hs' : op ≠ .shr) (h : binI op k a b = some v) (w : World) :
    (binOp op t (.int k a) (.int k b)).run P w = .ok v w := by
  cases op <;> simp only [binI] at h <;> first | exact absurd rfl hs | exact absurd rfl hs' | skip
  all_goals first
    | (split at h
       · cases h
       · rename_i hb
         simp at h; subst h
         simp [binOp, Op.intDiv, hb])
    | (simp at h; subst h
       simp [binOp, Op.intArith, Op.intBits, Op.intCmp, bits])
theorem shI_ok (op : BinOp) (t : TypeId) (k k' : IntKind) (a b : Int) (v : Value) (h : shI op k a b = some v) (w : World) :
    (binOp op t (.int k a) (.int k' b)).run P w = .ok v w := by
  unfold shI at h
  split at h
  · cases h
  · rename_i hb
    cases op <;> simp at h
    all_goals
      subst h
      simp [binOp, Op.shift, hb]
theorem binS_ok (op : BinOp) (t : TypeId) (a b : ByteArray) (v : Value) (h : binS op a b = some v) (w : World) :
    (binOp op t (.string a) (.string b)).run P w = .ok v w := by
  cases op <;> simp only [binS] at h <;> try (simp at h; done)
  case add =>
    split at h
    · rename_i hl
      simp at h; subst h
      have : ¬ (((a.size + b.size : Nat) : Int) > IntKind.i64.max) := by
        simp [IntKind.max, IntKind.signed, IntKind.bits]; omega
      simp only [binOp, Op.stringOp, if_neg this]
      rfl
    · cases h
  all_goals
    simp at h; subst h
    simp [binOp, Op.stringOp]
theorem run_eqGuard_plain (op : BinOp) (t : TypeId) (X Y : Operand) (a b : Value) (h : ∀ us vs, a = .agg us → b ≠ .agg vs) (h' : a = .nilIface → b ≠ .nilIface) (w : World) : (eqGuard op t X Y a b).run P w = .ok () w := by
  have h1 : ∀ (u v : Value) (K : Sem Unit) (K2 : Bool → Array Value → Array Value → Sem Unit), (∀ us vs, u = .agg us → v ≠ .agg vs) → (u = .nilIface → v ≠ .nilIface) →
      (match u, v with | .nilIface, .nilIface => K | .agg x, .agg y => K2 true x y | _, _ => pure ()) = (pure () : Sem Unit) := by
    intro u v K K2 h h'
    split
    · exact absurd rfl (h' rfl)
    · exact absurd rfl (h _ _ rfl)
    · rfl
  cases op <;> unfold eqGuard <;> simp only [Bool.not_true, Bool.not_false, Bool.false_eq_true, if_false, if_true] <;> first | rfl | skip
  all_goals
    split
    · rename_i e1 e2; exact absurd e2 (h' e1)
    · rename_i e1 e2; exact absurd e2 (h _ _ e1)
    · rfl
theorem run_eqGuard_agg (op : BinOp) (t : TypeId) (X Y : Operand) (us vs : Array Value) (h : P.eqGuardType P.depth t = false) (w : World) : (eqGuard op t X Y (.agg us) (.agg vs)).run P w = .ok () w := by
  cases op <;> simp [eqGuard, h]
theorem eqIn_nil (d : Nat) (t el : TypeId) (b : Option Addr) (h : P.underlying t = some (.pointer el)) (w : World) : (Op.equalIn (d + 1) t (.pointer none) (.pointer b)).run P w = .ok b.isNone w := by
  simp [Op.equalIn, run_underlying h]
theorem eqIn_nil' (d : Nat) (t el : TypeId) (b : Addr) (h : P.underlying t = some (.pointer el)) (w : World) : (Op.equalIn (d + 1) t (.pointer (some b)) (.pointer none)).run P w = .ok false w := by
  simp [Op.equalIn, run_underlying h]
theorem eq_bool (t : TypeId) (a b : Bool) (h : P.underlying t = some .bool) (w : World) : (Op.equal t (.bool a) (.bool b)).run P w = .ok (a == b) w := run_equalIn_bool' w 9999 t a b h
theorem eq_nil (t el : TypeId) (b : Option Addr) (h : P.underlying t = some (.pointer el)) (w : World) : (Op.equal t (.pointer none) (.pointer b)).run P w = .ok b.isNone w := eqIn_nil 9999 t el b h w
theorem eq_nil' (t el : TypeId) (b : Addr) (h : P.underlying t = some (.pointer el)) (w : World) : (Op.equal t (.pointer (some b)) (.pointer none)).run P w = .ok false w := eqIn_nil' 9999 t el b h w
theorem eqK_ok {C : Ctx} (CO : CtxOK C) {u : TypeId} {ti : TI} (hti : C.ti u = some ti) {x y : V} {a b : Value} {r : Bool} {d : Nat} (hx : srep Z ι w x a) (hy : srep Z ι w y b) (h : eqK ti.kind x y = some r) :
    (Op.equalIn (d + 1) u a b).run C.P w = .ok r w ∧ ti.agg = false := by
  have hk := (CO.ti u _ hti).kind
  unfold eqK at h
  split at h
  · rename_i kk k1 n1 k2 n2 hkk
    rw [hkk] at hk
    simp only [kindOK] at hk
    simp only [srep] at hx hy
    obtain ⟨rfl, _⟩ := hx
    obtain ⟨rfl, _⟩ := hy
    split at h
    · rename_i hkk'
      subst hkk'
      cases h
      exact ⟨run_equalIn_int w d u _ _ _ _ hk, by simp [TI.agg, hkk]⟩
    · cases h
  · rename_i b1 b2 hkk
    rw [hkk] at hk
    simp only [kindOK] at hk
    simp only [srep] at hx hy
    obtain ⟨rfl, _⟩ := hx
    obtain ⟨rfl, _⟩ := hy
    cases h
    exact ⟨run_equalIn_bool' w d u _ _ hk, by simp [TI.agg, hkk]⟩
  · rename_i s1 s2 hkk
    rw [hkk] at hk
    simp only [kindOK] at hk
    simp only [srep] at hx hy
    obtain ⟨rfl, _⟩ := hx
    obtain ⟨rfl, _⟩ := hy
    cases h
    exact ⟨run_equalIn_string w d u _ _ hk, by simp [TI.agg, hkk]⟩
  · cases h
theorem eqF_ok {C : Ctx} (CO : CtxOK C) {as bs : List V} {us vs : List Value} (hx : srepL Z ι w as us) (hy : srepL Z ι w bs vs) {d : Nat} : ∀ (fs : List Field) (r : Bool), (fs.all fun f => f.name != "_") = true → eqF C as bs (fs.map fun f => (f.type, f.offset)) = some r →
    (Op.eqFields (d + 1) us.toArray vs.toArray fs).run C.P w = .ok r w
  | [], r, _, h => by simp only [List.map_nil, eqF] at h; cases h; simp [Op.eqFields]
  | f :: fs, r, hn, h => by
    simp only [List.all_cons, Bool.and_eq_true] at hn
    simp only [List.map_cons, eqF] at h
    split at h
    · rename_i ti x y hti ha hb
      unfold bind2 at h
      split at h
      · rename_i r1 r2 h1 h2
        cases h
        have one : ∀ (cs : List V) (ws : List Value) (c : V), srepL Z ι w cs ws → cs[f.offset]? = some c → ti.agg = false → ∃ u, (part f.type ws.toArray f.offset).run C.P w = .ok u w ∧ srep Z ι w c u := by
          intro cs ws c hs hc hagg
          have hsz : ti.size = 1 := by
            obtain ⟨i, z, _, _, _, _, q1, _, q3⟩ := (CO.ti _ _ hti).info
            rw [hagg] at q3
            simp only [Bool.false_eq_true, if_false] at q3
            have := srepL_length (q1 (fun _ => .free) [] default)
            rw [q3] at this
            simpa [TI.size] using this.symm
          have hlt := (List.getElem?_eq_some_iff.1 hc).1
          refine part_ok (CO.ti _ _ hti) (ds := [c]) hs ?_ (by simp [ofCells, hagg])
          unfold sub
          rw [hsz, if_pos (by omega)]
          simp only [Option.some.injEq]
          rw [List.drop_eq_getElem_cons hlt]
          have := (List.getElem?_eq_some_iff.1 hc).2
          simp [this]
        have hagg : ti.agg = false := by
          unfold eqK at h1
          cases hkk : ti.kind <;> simp only [hkk] at h1 <;> first | (cases h1; done) | simp [TI.agg, hkk]
        obtain ⟨u, hu, su⟩ := one as us x hx ha hagg
        obtain ⟨v, hv, sv⟩ := one bs vs y hy hb hagg
        have he := (eqK_ok (d := d) CO hti su sv h1).1
        have hne : f.name ≠ "_" := by simpa using hn.1
        simp only [Op.eqFields, if_pos hne, Sem.run_bind, hu, hv, he, Result.andThen_ok]
        cases r1 with
        | false => simp
        | true =>
          simp only [Bool.not_true, Bool.false_eq_true, if_false, Bool.true_and]
          exact eqF_ok CO hx hy fs r2 hn.2 h2
      · cases h
    · cases h
theorem eqStruct_ok {C : Ctx} (CO : CtxOK C) {t : TypeId} {z : List V} {by_ : Nat} {fs : List (TypeId × Nat)} (hti : C.ti t = some ⟨z, by_, .struct fs⟩) (hB : eqB C.P t = true) {as bs : List V} {us vs : List Value} {r : Bool} (hx : srepL Z ι w as us) (hy : srepL Z ι w bs vs) (h : eqF C as bs fs = some r) :
    (Op.equal t (.agg us.toArray) (.agg vs.toArray)).run C.P w = .ok r w ∧ C.P.eqGuardType C.P.depth t = false := by
  have hk := (CO.ti t _ hti).kind
  simp only [kindOK] at hk
  obtain ⟨fields, hf, rfl⟩ := hk
  have hfo : C.P.fieldsOf t = fields := by simp [Program.fieldsOf, hf]
  simp only [eqB, hfo, Bool.and_eq_true, Bool.not_eq_true'] at hB
  obtain ⟨⟨h1, h2⟩, h3⟩ := hB
  refine ⟨?_, h3⟩
  have := run_equalIn_struct (P := C.P) w 9999 t us.toArray vs.toArray (by rw [hfo]; exact hf) h2
  rw [hfo] at this
  unfold Op.equal
  rw [show Op.maxDepth = 9999 + 1 from rfl, this]
  exact eqF_ok (d := 9998) CO hx hy fields.toList r (by simpa using h1) h
theorem binV_ok {C : Ctx} (CO : CtxOK C) {x y : V} {a b : Value} (hx : srep Z ι w x a) (hy : srep Z ι w y b) {op : BinOp} {t : TypeId} {v : V} (h : binV C t op x y = some v) (X Y : Operand) :
    ∃ u, (do eqGuard op t X Y a b; binOp op t a b : Sem Value).run C.P w = .ok u w ∧ srep Z ι w v u ∧ Cold v u := by
  have sc : ∀ (r : Value), flat r = true → srep Z ι w (.sc r) r ∧ Cold (.sc r) r := fun r hr => ⟨by simp [srep, hr], cold_sc r r⟩
  unfold binV at h
  split at h
  · rename_i k n k' m
    simp only [srep] at hx hy
    obtain ⟨rfl, _⟩ := hx
    obtain ⟨rfl, _⟩ := hy
    have hg := run_eqGuard_plain (P := C.P) op t X Y (.int k n) (.int k' m) (fun _ _ h => by cases h) (fun h => by cases h) w
    have fin : ∀ r, (binOp op t (.int k n) (.int k' m)).run C.P w = .ok r w → flat r = true → V.sc r = v →
        ∃ u, (do eqGuard op t X Y (.int k n) (.int k' m); binOp op t (.int k n) (.int k' m) : Sem Value).run C.P w = .ok u w ∧ srep Z ι w v u ∧ Cold v u := by
      intro r hr hf hv
      subst hv
      exact ⟨r, by simp only [Sem.run_bind, hg, Result.andThen_ok, hr], sc r hf⟩
    split at h
    · obtain ⟨r, hr, rfl⟩ := Option.map_eq_some_iff.1 h
      refine fin r (shI_ok _ t k k' n m r hr w) ?_ rfl
      unfold shI at hr
      split at hr
      · cases hr
      · simp at hr; subst hr; rfl
    · obtain ⟨r, hr, rfl⟩ := Option.map_eq_some_iff.1 h
      refine fin r (shI_ok _ t k k' n m r hr w) ?_ rfl
      unfold shI at hr
      split at hr
      · cases hr
      · simp at hr; subst hr; rfl
    · rename_i h1 h2
      split at h
      · rename_i hk
        subst hk
        obtain ⟨r, hr, rfl⟩ := Option.map_eq_some_iff.1 h
        refine fin r (binI_ok op t k n m r (fun e => h1 e) (fun e => h2 e) hr w) ?_ rfl
        unfold binI at hr
        split at hr <;> (try split at hr) <;> first | (cases hr; done) | (simp at hr; subst hr; rfl)
      · cases h
  · rename_i s s'
    simp only [srep] at hx hy
    obtain ⟨rfl, _⟩ := hx
    obtain ⟨rfl, _⟩ := hy
    obtain ⟨r, hr, rfl⟩ := Option.map_eq_some_iff.1 h
    have hg := run_eqGuard_plain (P := C.P) op t X Y (.string s) (.string s') (fun _ _ h => by cases h) (fun h => by cases h) w
    refine ⟨r, by simp only [Sem.run_bind, hg, Result.andThen_ok, binS_ok op t s s' r hr w], sc r ?_⟩
    unfold binS at hr
    split at hr <;> (try split at hr) <;> first | (cases hr; done) | (simp at hr; subst hr; rfl)
  · -- == and !=
    have key : ∀ r, eqV C t x y = some r → (∀ op', (eqGuard op' t X Y a b).run C.P w = .ok () w) ∧ (Op.equal t a b).run C.P w = .ok r w ∧ (∀ op', op' = .eql ∨ op' = .neq → binOp op' t a b = (match op' with | .eql => (do pure (.bool (← Op.equal t a b)) : Sem Value) | _ => (do pure (.bool (!(← Op.equal t a b))) : Sem Value))) := by
      intro r hr
      unfold eqV at hr
      split at hr
      · rename_i zz bb hti
        have hk := (CO.ti t _ hti).kind
        simp only [kindOK] at hk
        split at hr
        · simp only [srep] at hx hy
          obtain ⟨rfl, _⟩ := hx
          obtain ⟨rfl, _⟩ := hy
          simp at hr
          subst hr
          refine ⟨fun op' => run_eqGuard_plain _ _ _ _ _ _ (fun _ _ h => by cases h) (fun h => by cases h) _, ?_, fun op' ho => by rcases ho with rfl | rfl <;> rfl⟩
          exact eq_bool t _ _ hk w
        · cases hr
      · rename_i zz bb el hti
        have hk := (CO.ti t _ hti).kind
        simp only [kindOK] at hk
        split at hr
        · simp only [srep] at hx hy
          obtain ⟨rfl, _⟩ := hx
          obtain ⟨rfl, _⟩ := hy
          simp at hr
          subst hr
          refine ⟨fun op' => run_eqGuard_plain _ _ _ _ _ _ (fun _ _ h => by cases h) (fun h => by cases h) _, ?_, fun op' ho => by rcases ho with rfl | rfl <;> rfl⟩
          exact eq_nil t el none hk w
        · simp only [srep] at hx hy
          obtain ⟨β, _, rfl⟩ := hx
          obtain ⟨rfl, _⟩ := hy
          simp at hr
          subst hr
          refine ⟨fun op' => run_eqGuard_plain _ _ _ _ _ _ (fun _ _ h => by cases h) (fun h => by cases h) _, ?_, fun op' ho => by rcases ho with rfl | rfl <;> rfl⟩
          exact eq_nil' t el _ hk w
        · simp only [srep] at hx hy
          obtain ⟨rfl, _⟩ := hx
          obtain ⟨β, _, rfl⟩ := hy
          simp at hr
          subst hr
          refine ⟨fun op' => run_eqGuard_plain _ _ _ _ _ _ (fun _ _ h => by cases h) (fun h => by cases h) _, ?_, fun op' ho => by rcases ho with rfl | rfl <;> rfl⟩
          exact eq_nil t el _ hk w
        · cases hr
      · rename_i zz bb fs hti
        split at hr
        · split at hr
          · rename_i heq
            simp only [srep] at hx hy
            obtain ⟨us, rfl, hx⟩ := hx
            obtain ⟨vs, rfl, hy⟩ := hy
            obtain ⟨h1, h2⟩ := eqStruct_ok CO hti (CO.eqT t heq) hx hy hr
            exact ⟨fun op' => run_eqGuard_agg _ _ _ _ _ _ h2 _, h1, fun op' ho => by rcases ho with rfl | rfl <;> rfl⟩
          · cases hr
        · cases hr
      · cases hr
    split at h
    · obtain ⟨r, hr, rfl⟩ := Option.map_eq_some_iff.1 h
      obtain ⟨h1, h2, h3⟩ := key r hr
      exact ⟨.bool r, by rw [h3 _ (.inl rfl)]; simp [h1, h2], sc _ rfl⟩
    · obtain ⟨r, hr, rfl⟩ := Option.map_eq_some_iff.1 h
      obtain ⟨h1, h2, h3⟩ := key r hr
      exact ⟨.bool (!r), by rw [h3 _ (.inr rfl)]; simp [h1, h2], sc _ rfl⟩
    · cases h
theorem unV_ok {x v : V} {a : Value} (hx : srep Z ι w x a) {op : UnOp} (h : unV op x = some v) : ∃ u, (Op.unary op a).run P w = .ok u w ∧ srep Z ι w v u ∧ Cold v u := by
  have sc : ∀ (r : Value), flat r = true → srep Z ι w (.sc r) r ∧ Cold (.sc r) r := fun r hr => ⟨by simp [srep, hr], cold_sc r r⟩
  unfold unV at h
  split at h
  all_goals first
    | (cases h; done)
    | (simp only [srep] at hx
       obtain ⟨rfl, _⟩ := hx
       simp at h; subst h
       refine ⟨_, ?_, sc _ rfl⟩
       simp [Op.unary, Op.intArith, intBits_xor])
theorem convV_ok {C : Ctx} (CO : CtxOK C) {s d : TypeId} {x v : V} {a : Value} (hx : srep Z ι w x a) (h : convV C s d x = some v) : ∃ u, (convert s d a).run C.P w = .ok u w ∧ srep Z ι w v u ∧ Cold v u := by
  have sc : ∀ (r : Value), flat r = true → srep Z ι w (.sc r) r ∧ Cold (.sc r) r := fun r hr => ⟨by simp [srep, hr], cold_sc r r⟩
  unfold convV at h
  split at h
  · rename_i ti zz bb k k' n h1 h2
    obtain ⟨ds, hds, _⟩ := (CO.ti s _ h1).und
    have hk := (CO.ti d _ h2).kind
    simp only [kindOK] at hk
    simp only [srep] at hx
    obtain ⟨rfl, _⟩ := hx
    simp at h; subst h
    refine ⟨_, ?_, sc _ rfl⟩
    simp [convert, run_underlying hds, run_underlying hk, Conv.intToInt]
  · rename_i ti zz bb n h1 h2
    obtain ⟨ds, hds, _⟩ := (CO.ti s _ h1).und
    have hk := (CO.ti d _ h2).kind
    simp only [kindOK] at hk
    simp only [srep] at hx
    obtain ⟨rfl, _⟩ := hx
    simp at h; subst h
    refine ⟨_, ?_, sc _ rfl⟩
    simp [convert, run_underlying hds, run_underlying hk]
  · cases h
end
end Go.Den
end
section
set_option linter.unusedVariables false
namespace Go.Den
theorem fold_list : ∀ (vs : List Value) (s off : Nat) (cs : Array Value), off + s + vs.length ≤ cs.size →
    ((vs.zipIdx s).foldl (fun (cs : Array Value) (p : Value × Nat) => cs.setIfInBounds (off + p.2) p.1) cs).toList = cs.toList.take (off + s) ++ vs ++ cs.toList.drop (off + s + vs.length)
  | [], s, off, cs, h => by simp
  | v :: vs, s, off, cs, h => by
    simp only [List.length_cons] at h
    rw [List.zipIdx_cons, List.foldl_cons, fold_list vs (s + 1) off _ (by simp; omega)]
    simp only [Array.toList_setIfInBounds, List.length_cons]
    have h1 : (cs.toList.set (off + s) v).take (off + (s + 1)) = cs.toList.take (off + s) ++ [v] := by
      rw [show off + (s + 1) = off + s + 1 by omega, List.take_succ_eq_append_getElem (by simp; omega)]
      simp [List.take_set]
      exact List.set_eq_of_length_le (by simp; omega)
    have h2 : (cs.toList.set (off + s) v).drop (off + (s + 1) + vs.length) = cs.toList.drop (off + s + (vs.length + 1)) := by
      rw [List.drop_set, if_pos (by omega)]
      congr 1
      omega
    rw [h1, h2]
    simp
theorem fold_arr (vs : Array Value) (off : Nat) (cs : Array Value) (h : off + vs.size ≤ cs.size) :
    (vs.zipIdx.foldl (fun (cs : Array Value) (p : Value × Nat) => cs.setIfInBounds (off + p.2) p.1) cs).toList = cs.toList.take off ++ vs.toList ++ cs.toList.drop (off + vs.size) := by
  rw [← Array.foldl_toList, Array.toList_zipIdx, fold_list vs.toList 0 off cs (by simpa using h)]
  simp
section
variable {Z : Nat → Zone} {ι : List Nat} {w : World} {P : Program}
inductive Parts (Z : Nat → Zone) (ι : List Nat) (w : World) : List (Nat × V) → List (Nat × Value) → Prop where
  | nil : Parts Z ι w [] []
  | cons {i : Nat} {v : V} {u : Value} {ps : List (Nat × V)} {qs : List (Nat × Value)} (h : srep Z ι w v u) (hc : Cold v u) (t : Parts Z ι w ps qs) : Parts Z ι w ((i, v) :: ps) ((i, u) :: qs)
theorem srep_cells' {v : V} {u : Value} (h : srep Z ι w v u) (hp : plain v = true) : srepL Z ι w v.cells u.cells.toList :=
  srep_cells h (fun e => by rw [e] at hp; cases hp) (fun vs e => by rw [e] at hp; cases hp)
theorem cold_cells {v : V} {u : Value} (h : srep Z ι w v u) (hp : plain v = true) (hc : Cold v u) (j : Nat) (x : V) (y : Value) (hx : v.cells[j]? = some x) (hy : u.cells[j]? = some y) : tok1 x y = none := by
  have hpp : v.parts = v.cells := by cases v <;> simp_all [V.parts, plain]
  have hvp : vparts u = u.cells.toList := by
    cases u with
    | tuple us =>
      cases v <;> simp [srep, plain] at h hp
      exact absurd h.2 (by rw [← h.1]; simp [flat])
    | _ => rfl
  have := hc j
  unfold tokV at this
  rw [hpp, hvp, hx] at this
  simpa [hy] using this
theorem fill_ok {place : Nat → Option (Nat × Nat)} : ∀ {ps : List (Nat × V)} {qs : List (Nat × Value)}, Parts Z ι w ps qs → ∀ {cs cs' : List V} {us : Array Value},
    srepL Z ι w cs us.toList → (∀ (j : Nat) (x : V) (y : Value), cs[j]? = some x → us[j]? = some y → tok1 x y = none) → fillV place cs ps = some cs' →
    ∃ us', Instr.fill place us qs = some us' ∧ srepL Z ι w cs' us'.toList ∧ ∀ (j : Nat) (x : V) (y : Value), cs'[j]? = some x → us'[j]? = some y → tok1 x y = none
  | _, _, .nil, cs, cs', us, hs, hc, h => by
    simp only [fillV] at h
    cases h
    exact ⟨us, rfl, hs, hc⟩
  | _, _, @Parts.cons _ _ _ i v u ps qs hv hcv ht, cs, cs', us, hs, hc, h => by
    simp only [fillV] at h
    cases hpl : place i with
    | none => simp [hpl] at h
    | some p =>
      obtain ⟨off, size⟩ := p
      rw [hpl] at h
      simp only at h
      split at h
      · rename_i hsz
        obtain ⟨ds, hd, h⟩ := Option.bind_eq_some_iff.1 h
        obtain ⟨h1, h2, h3⟩ := over_get hd
        have hcl := srep_cells' hv hsz.1
        have hl1 := srepL_length hcl
        have hl2 := srepL_length hs
        simp only [Array.length_toList] at hl1 hl2
        have hsz2 := hsz.2
        have hfold := fold_arr u.cells off us (by omega)
        have hs' : srepL Z ι w ds (u.cells.zipIdx.foldl (fun (cs : Array Value) (p : Value × Nat) => cs.setIfInBounds (off + p.2) p.1) us).toList := by
          rw [hfold, h3, hl1]
          exact srepL_append (srepL_append (srepL_take off hs) hcl) (srepL_drop _ hs)
        have hc' : ∀ (j : Nat) (x : V) (y : Value), ds[j]? = some x → (u.cells.zipIdx.foldl (fun (cs : Array Value) (p : Value × Nat) => cs.setIfInBounds (off + p.2) p.1) us)[j]? = some y → tok1 x y = none := by
          intro j x y hx hy
          rw [← Array.getElem?_toList, hfold, ← Array.length_toList, over_at (by simp; omega)] at hy
          rw [h3, over_at h2] at hx
          simp only [Array.length_toList, hl1] at hy
          split at hx
          · rename_i hr
            rw [if_pos hr] at hy
            exact cold_cells hv hsz.1 hcv _ x y hx (by simpa using hy)
          · rename_i hr
            rw [if_neg hr] at hy
            exact hc j x y hx (by simpa using hy)
        obtain ⟨us', e1, e2⟩ := fill_ok ht hs' hc' h
        refine ⟨us', ?_, e2⟩
        unfold Instr.fill
        simp only [hpl]
        rw [if_neg (by simp; omega)]
        exact e1
      · cases h
theorem srepE_set {k : Nat} {xs : List V} {us : List Value} {i : Nat} {v : V} {u : Value} (hs : srepE Z ι w k xs us) (hi : i < xs.length) (hv : srep Z ι w v u) (hk : u.cells.size = k) (h1 : ∀ x ∈ u.cells.toList, x.oneCell' = true) :
    srepE Z ι w k (xs.set i v) (us.take (i * k) ++ u.cells.toList ++ us.drop (i * k + k)) := by
  rw [List.set_eq_take_append_cons_drop, if_pos hi]
  have a := srepE_take i hs
  have b := srepE_drop (i + 1) hs
  rw [Nat.add_mul, Nat.one_mul] at b
  have c : srepE Z ι w k [v] u.cells.toList := by
    simp only [srepE]
    exact ⟨u, [], by simp, hk, h1, hv, rfl⟩
  have := srepE_append (srepE_append a c) b
  simpa using this
theorem fillL_ok {k : Nat} (hk : 0 < k) : ∀ {ps : List (Nat × V)} {qs : List (Nat × Value)}, Parts Z ι w ps qs → ∀ {xs xs' : List V} {us : Array Value},
    srepE Z ι w k xs us.toList → fillL k xs ps = some xs' → ∃ us', Instr.fill (fun i => some (i * k, k)) us qs = some us' ∧ srepE Z ι w k xs' us'.toList ∧ xs'.length = xs.length
  | _, _, .nil, cs, cs', us, hs, h => by
    simp only [fillL] at h
    cases h
    exact ⟨us, rfl, hs, rfl⟩
  | _, _, @Parts.cons _ _ _ i v u ps qs hv hc ht, cs, cs', us, hs, h => by
    simp only [fillL] at h
    split at h
    · rename_i hsz
      split at h
      · rename_i hi
        have hcl := srep_cells' hv hsz.1
        have hl1 := srepL_length hcl
        have hl2 := srepE_length hs
        simp only [Array.length_toList] at hl1 hl2
        have hfit : i * k + k ≤ us.size := by
          rw [hl2, ← Nat.succ_mul]
          exact Nat.mul_le_mul_right _ hi
        have hsz2 := hsz.2
        have hfold := fold_arr u.cells (i * k) us (by omega)
        have hs' : srepE Z ι w k (cs.set i v) (u.cells.zipIdx.foldl (fun (cs : Array Value) (p : Value × Nat) => cs.setIfInBounds (i * k + p.2) p.1) us).toList := by
          rw [hfold, hl1, hsz.2]
          exact srepE_set hs hi hv (by omega) (srepL_one hcl)
        obtain ⟨us', e1, e2, e3⟩ := fillL_ok hk ht hs' h
        refine ⟨us', ?_, e2, by simpa using e3⟩
        unfold Instr.fill
        simp only
        rw [if_neg (by simp; omega)]
        exact e1
      · cases h
    · cases h
theorem zeros_ok {k : Nat} (zero : Array Value) (z : V) (u : Value) (hk : 0 < k) (hz : u.cells = zero) (hzs : zero.size = k) (h1 : ∀ x ∈ zero.toList, x.oneCell' = true) (hs : srep Z ι w z u) (n : Nat) :
    srepE Z ι w k (List.replicate n z) ((Array.range (n * k)).map (zero[· % zero.size]!)).toList := by
  have key : ((Array.range (n * k)).map (zero[· % zero.size]!)).toList = (List.replicate n zero.toList).flatten := by
    induction n with
    | zero => simp
    | succ n ih =>
      rw [List.replicate_succ', List.flatten_append, ← ih]
      apply List.ext_getElem
      · simp [hzs, Nat.add_mul]
      · intro j hj hj'
        simp only [Array.toList_map, Array.toList_range, List.getElem_map, List.getElem_range]
        rw [List.getElem_append]
        split
        · simp
        · rename_i hge
          simp at hge hj
          have : j % zero.size = j - n * k := by
            rw [hzs]
            have : j = (j - n * k) + k * n := by rw [Nat.mul_comm k n]; omega
            rw [this, Nat.add_mul_mod_self_left, Nat.mod_eq_of_lt (by rw [Nat.add_mul] at hj; omega)]
            rw [Nat.mul_comm k n]; omega
          have hlt : j - n * k < zero.size := by rw [hzs]; rw [Nat.add_mul] at hj; omega
          simp [this, hlt]
  rw [key]
  clear key
  induction n with
  | zero => simp [srepE]
  | succ n ih =>
    simp only [List.replicate_succ, List.flatten_cons, srepE]
    exact ⟨u, _, by rw [hz], by rw [hz]; exact hzs, by rw [hz]; exact h1, hs, ih⟩
end
end Go.Den
end
section
set_option linter.unusedVariables false
namespace Go.Den
def Runs (P : Program) (ρ : Operand → Value) (o : Oper) (w : World) (R : Value → World → Prop) : Prop :=
  (∃ u w', (execOp ρ o).run P w = .ok (.value u) w' ∧ R u w') ∨ (∃ w', (execOp ρ o).run P w = .ok .skip w' ∧ R undef w') ∨
  (∃ f args w1, (execOp ρ o).run P w = .ok (.enter f args) w1 ∧ Calls P f args w1 fun e w' => ∃ u, e = .returned u ∧ R u w')
theorem Runs.wp {P : Program} {a : Act} {o : Oper} {w : World} {R : Value → World → Prop} (h : Runs P a.eval o w R) {K : Act → World → Prop} {Q : Exit → Act → World → Prop}
    (hK : ∀ u w', R u w' → K (a.put o.dst u) w') : o.wp P a w K Q := by
  unfold Oper.wp
  rcases h with ⟨u, w', hr, h⟩ | ⟨w', hr, h⟩ | ⟨f, args, w1, hr, h⟩
  · rw [hr]; exact hK _ _ h
  · rw [hr]; exact hK _ _ h
  · rw [hr]
    refine h.mono fun e w' ⟨u, he, hR⟩ => ?_
    subst he
    exact hK _ _ hR
section
variable {Z : Nat → Zone} {ι : List Nat} {e : Env} {H : Heap} {w : World} {C : Ctx} {a : Act}
theorem runs_val {P : Program} {o : Oper} {R : Value → World → Prop} {u : Value} {w' : World} (h : (execOp a.eval o).run P w = .ok (.value u) w') (hR : R u w') : Runs P a.eval o w R := .inl ⟨u, w', h, hR⟩
theorem move_ok {P : Program} (G : Good Z ι e H (fun t => a.tmps.getD t undef) w) (o : Oper) (x : Operand) (take : Bool) (lim : Nat) (ho : o.op = .move x ∨ o.op = .assign x) :
    Runs P a.eval o w (Post (TT e (fun t => a.tmps.getD t undef) H ι w (takesOf take o.op.operands.toList)) lim Z ι w (rdO C o.type e take x) H) := by
  have hops : o.op.operands.toList = [x] := by rcases ho with ho | ho <;> rw [ho] <;> rfl
  refine runs_val (u := a.eval x) (w' := w) (by rcases ho with ho | ho <;> simp [execOp, ho]) ?_
  rw [hops]
  refine G.still (rd_srep G C o.type take x) (rd_own G C o.type take x) (fun j β h => ?_) (fun j j' β h h' => ?_) lim
  · obtain ⟨n, rfl, h1, h2⟩ := rd_tok G C o.type take x [x] (by simp) j β h
    exact ⟨n, j, h1, h2⟩
  · obtain ⟨n, hn, _, h2⟩ := rd_tok G C o.type take x [x] (by simp) j β h
    obtain ⟨n', hn', _, h2'⟩ := rd_tok G C o.type take x [x] (by simp) j' β h'
    have : n = n' := by rw [hn] at hn'; simpa using hn'
    subst this
    simpa using G.uniq (.inl (n, j)) (.inl (n, j')) β h2 h2'
theorem cold_val {P : Program} (G : Good Z ι e H (fun t => a.tmps.getD t undef) w) {o : Oper} {v : V} {u : Value} {lim : Nat} {S : Nat → Prop} (h : (execOp a.eval o).run P w = .ok (.value u) w) (hs : srep Z ι w v u) (hc : Cold v u) :
    Runs P a.eval o w (Post (TT e (fun t => a.tmps.getD t undef) H ι w S) lim Z ι w v H) := .inl ⟨u, w, h, G.cold S hs hc lim⟩
theorem extract_ok {P : Program} (G : Good Z ι e H (fun t => a.tmps.getD t undef) w) (o : Oper) (x : Operand) (i : Nat) (take : Bool) (lim : Nat) (ho : o.op = .extract x i) {vs : List V} {v : V} {S : Nat → Prop}
    (hx : rdO C 0 e take x = .tup vs) (hv : vs[i]? = some v) :
    Runs P a.eval o w (Post (TT e (fun t => a.tmps.getD t undef) H ι w S) lim Z ι w v.dem H) := by
  have hs := rd_srep G C 0 take x
  rw [hx] at hs
  simp only [srep] at hs
  obtain ⟨us, hu, hs⟩ := hs
  obtain ⟨u, hu1, hu2⟩ := srepT_get hs hv
  exact cold_val G (by simp [execOp, ho, hu, Instr.extract, hu1]) (srep_dem hu2) (cold_dem _ _)
theorem pick_ok {P : Program} (G : Good Z ι e H (fun t => a.tmps.getD t undef) w) (o : Oper) (c x y : Operand) (take : Bool) (lim : Nat) (ho : o.op = .pick c x y) {b : Bool} {S : Nat → Prop}
    (hc : rdO C 0 e take c = .sc (.bool b)) :
    Runs P a.eval o w (Post (TT e (fun t => a.tmps.getD t undef) H ι w S) lim Z ι w (if b then rdO C 0 e take x else rdO C 0 e take y).dem H) := by
  have hs := rd_srep G C 0 take c
  rw [hc] at hs
  simp only [srep] at hs
  refine cold_val G (u := if b then a.eval x else a.eval y) (by simp [execOp, ho, hs.1, asBool]) (srep_dem ?_) (cold_dem _ _)
  cases b
  · exact rd_srep G C 0 take y
  · exact rd_srep G C 0 take x
theorem rd_cells (G : Good Z ι e H (fun t => a.tmps.getD t undef) w) (C : Ctx) (t : TypeId) (take : Bool) (x : Operand) (hp : plain (rdO C t e take x) = true) :
    srepL Z ι w (rdO C t e take x).cells (a.eval x).cells.toList ∧ (∀ (j : Nat) (p : V) (q : Value), (rdO C t e take x).cells[j]? = some p → (a.eval x).cells[j]? = some q → own1 Z w p q) ∧
    (∀ (j β : Nat) (p : V) (q : Value), (rdO C t e take x).cells[j]? = some p → (a.eval x).cells[j]? = some q → tok1 p q = some β → ∃ t' j', takesOf take [x] t' ∧ tokV (e t') (a.tmps.getD t' undef) j' = some β) ∧
    (∀ (j j' β : Nat) (p p' : V) (q q' : Value), (rdO C t e take x).cells[j]? = some p → (a.eval x).cells[j]? = some q → tok1 p q = some β → (rdO C t e take x).cells[j']? = some p' → (a.eval x).cells[j']? = some q' → tok1 p' q' = some β → j = j') := by
  have hs := srep_cells' (rd_srep G C t take x) hp
  have hpp : (rdO C t e take x).parts = (rdO C t e take x).cells := by
    cases h : rdO C t e take x <;> simp_all [V.parts, plain]
  have hvp : vparts (a.eval x) = (a.eval x).cells.toList := by
    have h0 := rd_srep G C t take x
    cases h : a.eval x with
    | tuple us =>
      rw [h] at h0
      cases hr : rdO C t e take x <;> rw [hr] at h0 hp <;> simp [srep, plain] at h0 hp
      exact absurd h0.2 (by rw [← h0.1]; simp [flat])
    | _ => rfl
  have tk : ∀ (j β : Nat) (p : V) (q : Value), (rdO C t e take x).cells[j]? = some p → (a.eval x).cells[j]? = some q → tok1 p q = some β → tokV (rdO C t e take x) (a.eval x) j = some β := by
    intro j β p q h1 h2 h3
    unfold tokV
    rw [hpp, hvp, h1]
    simp [h2, h3]
  refine ⟨hs, fun j p q h1 h2 => rd_own G C t take x j p q (by rw [hpp]; exact h1) (by rw [hvp]; simpa using h2), fun j β p q h1 h2 h3 => ?_, fun j j' β p p' q q' h1 h2 h3 h1' h2' h3' => ?_⟩
  · obtain ⟨n, rfl, h4, h5⟩ := rd_tok G C t take x [x] (by simp) j β (tk j β p q h1 h2 h3)
    exact ⟨n, j, h4, h5⟩
  · obtain ⟨n, hn, h4, h5⟩ := rd_tok G C t take x [x] (by simp) j β (tk j β p q h1 h2 h3)
    obtain ⟨n', hn', h4', h5'⟩ := rd_tok G C t take x [x] (by simp) j' β (tk j' β p' q' h1' h2' h3')
    have : n = n' := by rw [hn] at hn'; simpa using hn'
    subst this
    simpa using G.uniq (.inl (n, j)) (.inl (n, j')) β h5 h5'
theorem alloc_ok (CO : CtxOK C) (G : Good Z ι e H (fun t => a.tmps.getD t undef) w) (o : Oper) (t : TypeId) (lim : Nat) (ho : o.op = .alloc t) {ti : TI} (hti : C.ti t = some ti) {S : Nat → Prop} :
    Runs C.P a.eval o w (Post (TT e (fun t => a.tmps.getD t undef) H ι w S) lim Z ι w (.ptr H.length 0) (H ++ [ti.zero])) := by
  obtain ⟨z, hz, h1, h2, h3⟩ := (CO.ti t ti hti).run_zero
  refine runs_val (u := .pointer (some ⟨w.heap.size, 0, none⟩)) (w' := w.alloc (.cells z.cells t)) (by simp [execOp, ho, Instr.alloc, hz, newVar, newRow]) ?_
  exact G.box (h1 Z ι w) (fun j x y hx hy β hβ => by rw [h2 j x y hx hy] at hβ; cases hβ) (fun j β x y hx hy hβ => by rw [h2 j x y hx hy] at hβ; cases hβ)
    (fun j j' β x x' y y' hx hy hβ => by rw [h2 j x y hx hy] at hβ; cases hβ) lim t
theorem box_ok (G : Good Z ι e H (fun t => a.tmps.getD t undef) w) (o : Oper) (t : TypeId) (x : Operand) (take : Bool) (lim : Nat) (ho : o.op = .box t x) (hp : plain (rdO C t e take x) = true) :
    Runs C.P a.eval o w (Post (TT e (fun t => a.tmps.getD t undef) H ι w (takesOf take o.op.operands.toList)) lim Z ι w (.ptr H.length 0) (H ++ [(rdO C t e take x).cells])) := by
  have hops : o.op.operands.toList = [x] := by rw [ho]; rfl
  rw [hops]
  obtain ⟨h1, h2, h3, h4⟩ := rd_cells G C t take x hp
  refine runs_val (u := .pointer (some ⟨w.heap.size, 0, none⟩)) (w' := w.alloc (.cells (a.eval x).cells t)) (by simp [execOp, ho, Instr.box, newVar, newRow]) ?_
  exact G.box h1 h2 h3 h4 lim t
theorem store_ok (CO : CtxOK C) (G : Good Z ι e H (fun t => a.tmps.getD t undef) w) (o : Oper) (t : TypeId) (x y : Operand) (take : Bool) (lim : Nat) (ho : o.op = .store t x y) {ti : TI} (hti : C.ti t = some ti)
    {id off : Nat} {cs cs' : List V} (hx : rdO C 0 e take x = .ptr id off) (hcs : H[id]? = some cs) (hlim : lim ≤ id) (hp : plain (rdO C t e take y) = true) (hsz : (rdO C t e take y).cells.length = ti.size)
    (hov : over cs off (rdO C t e take y).cells = some cs') :
    Runs C.P a.eval o w (Post (TT e (fun t => a.tmps.getD t undef) H ι w (takesOf take o.op.operands.toList)) lim Z ι w .any (H.set id cs')) := by
  have hops : o.op.operands.toList = [x, y] := by rw [ho]; rfl
  obtain ⟨h1, h2, h3, h4⟩ := rd_cells G C t take y hp
  have hs := rd_srep G C 0 take x
  rw [hx] at hs
  simp only [srep] at hs
  obtain ⟨β, hβ, hu⟩ := hs
  obtain ⟨β', us, ty, g1, g2, g3, g4, g5⟩ := G.blk id cs hcs
  obtain rfl : β = β' := by simpa [hβ] using g1
  obtain ⟨hl, hfit, _⟩ := over_get hov
  have hnl := srepL_length h1
  have hul := srepL_length g4
  simp only [Array.length_toList] at hnl hul
  have hst := run_storeCells_at C.P β off ty (a.eval y).cells.toList 0 us w g3 (by simp; omega) (srepL_one h1)
  have hpost := G.store (S := takesOf take o.op.operands.toList) (lim := lim) hcs hβ g3 hov hlim h1 (fun j p q e1 e2 => h2 j p q e1 (by simpa using e2))
    (fun j γ p q e1 e2 e3 => by
      obtain ⟨t', j', f1, f2⟩ := h3 j γ p q e1 (by simpa using e2) e3
      exact ⟨t', j', ⟨f1.1, by rw [hops]; have := f1.2; simp at this; simp [this]⟩, f2⟩)
    (fun j j' γ p p' q q' e1 e2 e3 e1' e2' e3' => h4 j j' γ p p' q q' e1 (by simpa using e2) e3 e1' (by simpa using e2') e3')
  refine .inr (.inl ⟨_, ?_, hpost⟩)
  have hsize : (sizeOf t).run C.P w = .ok ti.size w := (CO.ti t ti hti).run_size w
  have hne : ¬ ((a.eval y).cells.size ≠ ti.size) := by omega
  simp only [Nat.add_zero] at hst
  simp [execOp, ho, hu, Instr.storeAt, Instr.sureAddr, storeVar, hsize, hnl, hsz, hst]
theorem load_ptr_ok (CO : CtxOK C) (G : Good Z ι e H (fun t => a.tmps.getD t undef) w) (o : Oper) (t : TypeId) (x : Operand) (take : Bool) (lim : Nat) (ho : o.op = .load t x) {ti : TI} (hti : C.ti t = some ti)
    {id off : Nat} {cs ds : List V} {v : V} (hx : rdO C 0 e take x = .ptr id off) (hcs : H[id]? = some cs) (hsub : sub cs off ti.size = some ds) (hv : ofCells ti ds = some v) {S : Nat → Prop} :
    Runs C.P a.eval o w (Post (TT e (fun t => a.tmps.getD t undef) H ι w S) lim Z ι w v.dem H) := by
  have hs := rd_srep G C 0 take x
  rw [hx] at hs
  simp only [srep] at hs
  obtain ⟨β, hβ, hu⟩ := hs
  obtain ⟨β', us, ty, g1, g2, g3, g4, g5⟩ := G.blk id cs hcs
  obtain rfl : β = β' := by simpa [hβ] using g1
  unfold sub at hsub
  split at hsub
  · rename_i hle
    simp at hsub
    have hul := srepL_length g4
    have hs' : srepL Z ι w ds ((us.toList.drop off).take ti.size) := by rw [← hsub]; exact srepL_take _ (srepL_drop _ g4)
    have hlies : lies w β off ((us.toList.drop off).take ti.size) := by
      intro j q hj
      rw [cell_row g3]
      rw [List.getElem?_take] at hj
      split at hj
      · simpa using hj
      · cases hj
    obtain ⟨u, hr, hsr⟩ := load_ok (CO.ti t ti hti) hlies (by simp; simp at hul; omega) hs' hv
    exact cold_val G (by simp [execOp, ho, hu, Instr.loadAt, Instr.sureAddr, hr]) (srep_dem hsr) (cold_dem _ _)
  · cases hsub
theorem load_elp_ok (CO : CtxOK C) (G : Good Z ι e H (fun t => a.tmps.getD t undef) w) (o : Oper) (t : TypeId) (x : Operand) (take : Bool) (lim : Nat) (ho : o.op = .load t x) {ti : TI} (hti : C.ti t = some ti)
    {cs ds : List V} {v : V} (hx : rdO C 0 e take x = .elp cs) (hsub : sub cs 0 ti.size = some ds) (hv : ofCells ti ds = some v) {S : Nat → Prop} :
    Runs C.P a.eval o w (Post (TT e (fun t => a.tmps.getD t undef) H ι w S) lim Z ι w v.dem H) := by
  have hs := rd_srep G C 0 take x
  rw [hx] at hs
  simp only [srep] at hs
  obtain ⟨β, off, us, m, hu, hz, hm, hl, hL⟩ := hs
  unfold sub at hsub
  split at hsub
  · rename_i hle
    simp at hsub
    have hul := srepL_length hL
    have hs' : srepL Z ι w ds (us.take ti.size) := by rw [← hsub]; exact srepL_take _ hL
    have hlies : lies w β off (us.take ti.size) := by
      intro j q hj
      rw [List.getElem?_take] at hj
      split at hj
      · exact hl j q hj
      · cases hj
    obtain ⟨u, hr, hsr⟩ := load_ok (CO.ti t ti hti) hlies (by simp; omega) hs' hv
    exact cold_val G (by simp [execOp, ho, hu, Instr.loadAt, Instr.sureAddr, hr]) (srep_dem hsr) (cold_dem _ _)
  · cases hsub
end
end Go.Den
end
section
set_option linter.unusedVariables false
namespace Go.Den
section
variable {Z : Nat → Zone} {ι : List Nat} {e : Env} {H : Heap} {w : World} {C : Ctx} {a : Act}
theorem tok1_ne {x : V} (h : ∀ k xs, x ≠ .sl true k xs) (y : Value) : tok1 x y = none := by
  cases x with
  | sl o k xs =>
    cases o with
    | true => exact absurd rfl (h k xs)
    | false => rfl
  | _ => rfl
theorem cold_one {v : V} (h : v.parts = [v]) (h' : ∀ k xs, v ≠ .sl true k xs) (u : Value) : Cold v u := by
  intro j
  unfold tokV
  rw [h]
  cases j with
  | zero => cases hv : (vparts u)[0]? <;> simp [tok1_ne h']
  | succ j => simp
theorem cold_agg {cs : List V} {us : Array Value} (h : ∀ (j : Nat) (x : V) (y : Value), cs[j]? = some x → us[j]? = some y → tok1 x y = none) : Cold (.agg cs) (.agg us) := by
  intro j
  unfold tokV
  cases hc : (V.agg cs).parts[j]? with
  | none => rfl
  | some c => 
    cases hv : (vparts (.agg us))[j]? with
    | none => rfl
    | some y => exact h j c y hc (by simpa [vparts, Value.cells] using hv)
theorem parts_ok (G : Good Z ι e H (fun t => a.tmps.getD t undef) w) (C : Ctx) (take : Bool) (f : Nat → TypeId) : ∀ (ps : List (Nat × Operand)),
    Parts Z ι w (ps.map fun p => (p.1, (rdO C (f p.1) e take p.2).dem)) (ps.map fun p => (p.1, a.eval p.2))
  | [] => .nil
  | p :: ps => .cons (srep_dem (rd_srep G C _ take p.2)) (cold_dem _ _) (parts_ok G C take f ps)
theorem nilCheck_ok (G : Good Z ι e H (fun t => a.tmps.getD t undef) w) (o : Oper) (x : Operand) (take : Bool) (lim : Nat) (ho : o.op = .nilCheck x) {v : V} {S : Nat → Prop}
    (hx : rdO C 0 e take x = v) (hv : (∃ id off, v = .ptr id off) ∨ (∃ cs, v = .elp cs) ∨ ∃ f p q, v = .fn (.func f) p q) :
    Runs C.P a.eval o w (Post (TT e (fun t => a.tmps.getD t undef) H ι w S) lim Z ι w v H) := by
  have hs := rd_srep G C 0 take x
  rw [hx] at hs
  have hc : Cold v (a.eval x) := by
    rcases hv with ⟨id, off, rfl⟩ | ⟨cs, rfl⟩ | ⟨f, p, q, rfl⟩ <;> exact cold_one rfl (fun _ _ h => by cases h) _
  refine cold_val G (u := a.eval x) ?_ hs hc
  rcases hv with ⟨id, off, rfl⟩ | ⟨cs, rfl⟩ | ⟨f, p, q, rfl⟩ <;> simp only [srep] at hs
  · obtain ⟨β, _, hu⟩ := hs
    simp [execOp, ho, hu]
  · obtain ⟨β, off, us, m, hu, _⟩ := hs
    simp [execOp, ho, hu]
  · obtain ⟨us, ws, hu, _⟩ := hs
    simp [execOp, ho, hu]
theorem binOp_ok (CO : CtxOK C) (G : Good Z ι e H (fun t => a.tmps.getD t undef) w) (o : Oper) (op : BinOp) (t yt : TypeId) (x y : Operand) (take : Bool) (lim : Nat) (ho : o.op = .binOp op t x y yt) {v : V} {S : Nat → Prop}
    (h : binV C t op (rdO C t e take x) (rdO C t e take y) = some v) : Runs C.P a.eval o w (Post (TT e (fun t => a.tmps.getD t undef) H ι w S) lim Z ι w v H) := by
  obtain ⟨u, h1, h2, h3⟩ := binV_ok CO (rd_srep G C t take x) (rd_srep G C t take y) h x y
  refine cold_val G ?_ h2 h3
  simp only [execOp, ho, Sem.run_bind] at h1 ⊢
  rw [h1]
  rfl
theorem unOp_ok (G : Good Z ι e H (fun t => a.tmps.getD t undef) w) (o : Oper) (op : UnOp) (t : TypeId) (x : Operand) (take : Bool) (lim : Nat) (ho : o.op = .unOp op t x) {v : V} {S : Nat → Prop}
    (h : unV op (rdO C 0 e take x) = some v) : Runs C.P a.eval o w (Post (TT e (fun t => a.tmps.getD t undef) H ι w S) lim Z ι w v H) := by
  obtain ⟨u, h1, h2, h3⟩ := unV_ok (P := C.P) (rd_srep G C 0 take x) h
  exact cold_val G (by simp [execOp, ho, h1]) h2 h3
theorem convert_ok (CO : CtxOK C) (G : Good Z ι e H (fun t => a.tmps.getD t undef) w) (o : Oper) (s d : TypeId) (x : Operand) (take : Bool) (lim : Nat) (ho : o.op = .convert s d x) {v : V} {S : Nat → Prop}
    (h : convV C s d (rdO C s e take x) = some v) : Runs C.P a.eval o w (Post (TT e (fun t => a.tmps.getD t undef) H ι w S) lim Z ι w v H) := by
  obtain ⟨u, h1, h2, h3⟩ := convV_ok CO (rd_srep G C s take x) h
  exact cold_val G (by simp [execOp, ho, h1]) h2 h3
theorem build_struct_ok (CO : CtxOK C) (G : Good Z ι e H (fun t => a.tmps.getD t undef) w) (o : Oper) (t : TypeId) (ps : Array (Nat × Operand)) (take : Bool) (lim : Nat) (ho : o.op = .build t ps) {zero : List V} {by_ : Nat} {fs : List (TypeId × Nat)}
    (hti : C.ti t = some ⟨zero, by_, .struct fs⟩) {cs : List V} {S : Nat → Prop}
    (h : fillV (fun i => (fs[i]?).bind fun (u, off) => (C.ti u).map fun ti => (off, ti.size)) zero (ps.toList.map fun p => (p.1, (rdO C (((fs[p.1]?).map (·.1)).getD 0) e take p.2).dem)) = some cs)
    :
    Runs C.P a.eval o w (Post (TT e (fun t => a.tmps.getD t undef) H ι w S) lim Z ι w (.agg cs) H) := by
  obtain ⟨z, hz, h1, h2, h3⟩ := (CO.ti t _ hti).run_zero
  have hk := (CO.ti t _ hti).kind
  simp only [kindOK] at hk
  obtain ⟨fields, hu, hf⟩ := hk
  have hall := CO.fields t _ _ _ hti
  have hzc : z.cells.toList.length = zero.length := srepL_length (h1 Z ι w)
  obtain ⟨us', e1, e2⟩ := fill_ok (parts_ok G C take (fun i => ((fs[i]?).map (·.1)).getD 0) ps.toList) (h1 Z ι w) h2 h
  have hplaces : ∀ (fl : List Field), (∀ f ∈ fl, ∃ ti, C.ti f.type = some ti) →
      ∃ pl : List (Nat × Nat), (fl.mapM fun f => (do pure (f.offset, ← sizeOf f.type) : Sem (Nat × Nat))).run C.P w = .ok pl w ∧ pl = fl.map fun f => (f.offset, ((C.ti f.type).map TI.size).getD 0) := by
    intro fl
    induction fl with
    | nil => intro _; exact ⟨[], by simp, rfl⟩
    | cons f fl ih =>
      intro hh
      obtain ⟨ti, hti'⟩ := hh f List.mem_cons_self
      obtain ⟨pl, hr, hpl⟩ := ih (fun g hg => hh g (List.mem_cons_of_mem _ hg))
      refine ⟨(f.offset, ti.size) :: pl, ?_, by simp [hti', hpl]⟩
      simp only [List.mapM_cons, Sem.run_bind, (CO.ti f.type ti hti').run_size, Result.andThen_ok, Sem.run_pure, hr]
  have hflds : ∀ f ∈ fields.toList, ∃ ti, C.ti f.type = some ti := fun f hf' => by
    have : (f.type, f.offset) ∈ fs := by rw [← hf]; exact List.mem_map.2 ⟨f, hf', rfl⟩
    exact hall _ this
  obtain ⟨pl, hr, hpl⟩ := hplaces fields.toList hflds
  have hplace : (fun (i : Nat) => (pl.toArray)[i]?) = (fun (i : Nat) => (fs[i]?).bind fun (x : TypeId × Nat) => (C.ti x.1).map fun ti => (x.2, ti.size)) := by
    funext i
    rw [List.getElem?_toArray, hpl, ← hf]
    simp only [List.getElem?_map]
    cases hfi : fields.toList[i]? with
    | none => rfl
    | some f =>
      obtain ⟨ti, hti'⟩ := hflds f (List.mem_of_getElem? hfi)
      simp [hti']
  refine cold_val G (u := .agg us') ?_ (by simp only [srep]; exact ⟨us'.toList, by simp, e2.1⟩) (cold_agg e2.2)
  have hmap : (fields.mapM fun f => (do pure (f.offset, ← sizeOf f.type) : Sem (Nat × Nat))).run C.P w = .ok pl.toArray w := by
    rw [Array.mapM_eq_mapM_toList]
    simp only [Sem.run_map, hr, Result.andThen_ok]
  have hparts : (ps.map fun (i, x) => (i, a.eval x)).toList = ps.toList.map fun p => (p.1, a.eval p.2) := by simp
  simp only [execOp, ho, Instr.build, Sem.run_bind, hz, Result.andThen_ok, run_underlying hu, hmap, hplace, hparts, e1, Sem.run_pure]
theorem build_array_ok (CO : CtxOK C) (G : Good Z ι e H (fun t => a.tmps.getD t undef) w) (o : Oper) (t : TypeId) (ps : Array (Nat × Operand)) (take : Bool) (lim : Nat) (ho : o.op = .build t ps) {zero : List V} {by_ n : Nat} {el : TypeId} {ti : TI}
    (hti : C.ti t = some ⟨zero, by_, .array n el⟩) (hel : C.ti el = some ti) {cs : List V} {S : Nat → Prop}
    (h : fillV (fun i => some (i * ti.size, ti.size)) zero (ps.toList.map fun p => (p.1, (rdO C el e take p.2).dem)) = some cs) :
    Runs C.P a.eval o w (Post (TT e (fun t => a.tmps.getD t undef) H ι w S) lim Z ι w (.agg cs) H) := by
  obtain ⟨z, hz, h1, h2, h3⟩ := (CO.ti t _ hti).run_zero
  have hk := (CO.ti t _ hti).kind
  simp only [kindOK] at hk
  obtain ⟨us', e1, e2⟩ := fill_ok (parts_ok G C take (fun _ => el) ps.toList) (h1 Z ι w) h2 h
  refine cold_val G (u := .agg us') ?_ (by simp only [srep]; exact ⟨us'.toList, by simp, e2.1⟩) (cold_agg e2.2)
  have hparts : (ps.map fun (i, x) => (i, a.eval x)).toList = ps.toList.map fun p => (p.1, a.eval p.2) := by simp
  simp only [execOp, ho, Instr.build, Sem.run_bind, hz, Result.andThen_ok, run_underlying hk, (CO.ti el ti hel).run_size, hparts, e1, Sem.run_pure]
theorem zero_val {P : Program} {t : TypeId} {ti : TI} (h : TIok P t ti) {z : V} (hz : ofCells ti ti.zero = some z) : ∃ u, (∀ w, (zeroValue t).run P w = .ok u w) ∧ (∀ Z ι w, srep Z ι w z u) ∧ u.cells.size = ti.size ∧ (∀ x ∈ u.cells.toList, x.oneCell' = true) := by
  obtain ⟨u, hu, h1, h2, h3⟩ := h.run_zero
  have hl := srepL_length (h1 (fun _ => .free) [] default)
  have ho := srepL_one (h1 (fun _ => .free) [] default)
  unfold ofCells at hz
  split at hz
  · rename_i ha
    rw [if_pos ha] at h3
    obtain ⟨us, rfl⟩ := h3
    simp at hz
    subst hz
    refine ⟨_, hu, fun Z ι w => ?_, by simpa [TI.size] using hl, ho⟩
    simp only [srep]
    exact ⟨us.toList, by simp, by simpa [Value.cells] using h1 Z ι w⟩
  · rename_i ha
    rw [if_neg ha] at h3
    split at hz
    · rename_i c hc
      simp at hz
      subst hz
      refine ⟨u, hu, fun Z ι w => ?_, by simpa [TI.size] using hl, ho⟩
      · have := h1 Z ι w
        rw [hc, h3] at this
        simp only [srepL] at this
        obtain ⟨u', us', he, _, hs, _⟩ := this
        have : u = u' := by simp at he; exact he.1
        rw [this]; exact hs
    · cases hz
theorem range0 (f : Nat → Value) : (Array.range 0).map f = #[] := Array.eq_empty_of_size_eq_zero (by simp)
theorem buildSlice_ok (CO : CtxOK C) (G : Good Z ι e H (fun t => a.tmps.getD t undef) w) (o : Oper) (t : TypeId) (n : Nat) (ps : Array (Nat × Operand)) (take : Bool) (lim : Nat) (ho : o.op = .buildSlice t n ps) {zero : List V} {by_ : Nat} {el : TypeId} {ti : TI}
    (hti : C.ti t = some ⟨zero, by_, .slice el⟩) (hel : C.ti el = some ti) {z : V} {xs : List V} {S : Nat → Prop} (hz : ofCells ti ti.zero = some z) (hn : n * ti.size ≤ 16777216) (hp : 0 < ti.size)
    (h : fillL ti.size (List.replicate n z) (ps.toList.map fun p => (p.1, (rdO C el e take p.2).dem)) = some xs) :
    Runs C.P a.eval o w (Post (TT e (fun t => a.tmps.getD t undef) H ι w S) lim Z ι w (.sl true ti.size xs) H) := by
  have hk := (CO.ti t _ hti).kind
  simp only [kindOK] at hk
  obtain ⟨u, hu, hu1, hu2, hu3⟩ := zero_val (CO.ti el ti hel) hz
  have hzs := zeros_ok (Z := Z) (ι := ι) (w := w) u.cells z u hp rfl hu2 hu3 (hu1 Z ι w) n
  obtain ⟨us', e1, e2, e3⟩ := fillL_ok hp (parts_ok G C take (fun _ => el) ps.toList) hzs h
  have hxl : xs.length = n := by simpa using e3
  have hparts : (ps.map fun (i, x) => (i, a.eval x)).toList = ps.toList.map fun p => (p.1, a.eval p.2) := by simp
  have hrow := G.row (S := S) hp e2 lim el
  rw [hxl] at hrow
  refine runs_val ?_ hrow
  simp only [execOp, ho, Instr.buildSlice, Sem.run_bind, run_underlying hk, Result.andThen_ok, (CO.ti el ti hel).run_size]
  rw [if_neg (by omega)]
  by_cases hn0 : n * ti.size = 0
  · have : n = 0 := by rcases Nat.mul_eq_zero.1 hn0 with h | h <;> omega
    subst this
    simp only [Nat.zero_mul, range0] at e1 ⊢
    simp [e1, newRow]
  · simp [hn0, hu, e1, newRow]
theorem makeSlice_val_ok (CO : CtxOK C) (G : Good Z ι e H (fun t => a.tmps.getD t undef) w) (o : Oper) (t : TypeId) (x y : Operand) (take : Bool) (lim : Nat) (ho : o.op = .makeSlice t x y) {zero : List V} {by_ : Nat} {el : TypeId} {ti : TI}
    (hti : C.ti t = some ⟨zero, by_, .slice el⟩) (hel : C.ti el = some ti) {k k' : IntKind} {n : Int} (hx : rdO C 0 e take x = .sc (.int k n)) (hy : rdO C 0 e take y = .sc (.int k' n))
    (h0 : 0 ≤ n) (hb : (ti.bytes : Int) * n ≤ 140737488355328) (hp : 0 < ti.size) (hbp : 0 < ti.bytes) :
    ∃ us : Array Value, (∀ z, ofCells ti ti.zero = some z → srepE Z ι w ti.size (List.replicate n.toNat z) us.toList) ∧ (srepL Z ι w (List.replicate n.toNat ti.zero).flatten us.toList) ∧
      (∀ (j : Nat) (x : V) (y : Value), (List.replicate n.toNat ti.zero).flatten[j]? = some x → us[j]? = some y → tok1 x y = none) ∧
      (execOp a.eval o).run C.P w = .ok (.value (.slice (some ⟨w.heap.size, 0, none⟩) n.toNat n.toNat)) (w.alloc (.cells us el)) := by
  have hk := (CO.ti t _ hti).kind
  simp only [kindOK] at hk
  obtain ⟨i, z0, hi, hi1, hi2, hi3, h1, h2, h3⟩ := (CO.ti el ti hel).info
  have hsx := rd_srep G C 0 take x
  have hsy := rd_srep G C 0 take y
  rw [hx] at hsx
  rw [hy] at hsy
  simp only [srep] at hsx hsy
  have hzl := srepL_length (h1 Z ι w)
  simp only [Array.length_toList] at hzl
  have hle : n ≤ 140737488355328 := by
    have : (1 : Int) * n ≤ ti.bytes * n := Int.mul_le_mul_of_nonneg_right (by omega) h0
    omega
  have hw1 : IntKind.i64.wrap n = n := by rw [IntKind.wrap_i64]; omega
  have key : ∀ m : Nat, ((Array.range (m * ti.size)).map (z0.cells[· % z0.cells.size]!)).toList = (List.replicate m z0.cells.toList).flatten := by
    intro m
    induction m with
    | zero => simp
    | succ m ih =>
      rw [List.replicate_succ', List.flatten_append, ← ih]
      apply List.ext_getElem
      · simp [hzl, Nat.add_mul, TI.size]
      · intro j hj hj'
        simp only [Array.toList_map, Array.toList_range, List.getElem_map, List.getElem_range]
        rw [List.getElem_append]
        have hzl' : z0.cells.size = ti.size := hzl
        split
        · simp
        · rename_i hge
          simp at hge hj
          have : j % z0.cells.size = j - m * ti.size := by
            rw [hzl']
            have e : j = (j - m * ti.size) + ti.size * m := by rw [Nat.mul_comm ti.size m]; omega
            rw [e, Nat.add_mul_mod_self_left, Nat.mod_eq_of_lt (by rw [Nat.add_mul] at hj; omega)]
            rw [Nat.mul_comm ti.size m]; omega
          have hlt : j - m * ti.size < z0.cells.size := by rw [hzl']; rw [Nat.add_mul] at hj; omega
          simp [this, hlt]
  refine ⟨(Array.range (n.toNat * ti.size)).map (z0.cells[· % z0.cells.size]!), fun z hz => ?_, ?_, ?_, ?_⟩
  · obtain ⟨u, hu, hu1, hu2, hu3⟩ := zero_val (CO.ti el ti hel) hz
    have : u = z0 := by
      have := hu w
      simp [zeroValue, typeInfo, hi, hi3] at this
      exact this.symm
    subst this
    exact zeros_ok (Z := Z) (ι := ι) (w := w) u.cells z u hp rfl hu2 hu3 (hu1 Z ι w) n.toNat
  · rw [key]
    generalize n.toNat = m
    induction m with
    | zero => simp [srepL]
    | succ m ih => rw [List.replicate_succ, List.replicate_succ, List.flatten_cons, List.flatten_cons]; exact srepL_append (h1 Z ι w) ih
  · intro j p q hp' hq
    rw [← Array.getElem?_toList, key] at hq
    generalize n.toNat = m at hp' hq
    induction m generalizing j with
    | zero => simp at hp'
    | succ m ih =>
      rw [List.replicate_succ, List.flatten_cons, List.getElem?_append] at hp' hq
      simp only [Array.length_toList, hzl] at hq
      split at hp'
      · rename_i hlt
        rw [if_pos hlt] at hq
        exact h2 j p q hp' (by simpa using hq)
      · rename_i hlt
        rw [if_neg hlt] at hq
        exact ih _ hp' hq
  · have hb' : ¬ ((i.bytes : Int) * n > 281474976710656) := by rw [hi2]; omega
    have hsz : i.size = ti.size := hi1
    have hz' : ∀ w', (zeroValue el).run C.P w' = .ok z0 w' := fun w' => by simp [zeroValue, typeInfo, hi, hi3]
    have hcond : ¬ ((decide (n < 0) || decide ((i.bytes : Int) * n > 281474976710656)) = true ∨ n < 0 ∨ n > n) := by simp; omega
    by_cases hn0 : n.toNat * ti.size = 0
    · have hz0 : n.toNat = 0 := by rcases Nat.mul_eq_zero.1 hn0 with h | h <;> omega
      have hnz : n = 0 := by omega
      subst hnz
      simp [execOp, ho, Instr.makeSlice, run_underlying hk, hsx.1, hsy.1, asInt, asIntOf, typeInfo, hi, hw1, sizeOf, newRow, range0]
    · have h1' : ¬ n < 0 := by omega
      have h2' : ¬ (281474976710656 < (i.bytes : Int) * n) := by omega
      simp [execOp, ho, Instr.makeSlice, run_underlying hk, hsx.1, hsy.1, asInt, asIntOf, typeInfo, hi, hw1, sizeOf, newRow, hsz, hz', h1', h2', hn0]
end
end Go.Den
end
section
set_option linter.unusedVariables false
namespace Go.Den
section
variable {Z : Nat → Zone} {ι : List Nat} {e : Env} {H : Heap} {w : World} {C : Ctx} {a : Act} {P : Program}
theorem natIn_ok {v : V} {u : Value} {n m : Nat} (h : natIn v n = some m) (hs : srep Z ι w v u) : m ≤ n ∧ ∃ k i, u = .int k i ∧ 0 ≤ i ∧ i ≤ n ∧ m = i.toNat := by
  unfold natIn at h
  split at h
  · rename_i k i
    split at h
    · rename_i hr
      simp at h
      simp only [srep] at hs
      exact ⟨by omega, k, i, hs.1, hr.1, hr.2, h.symm⟩
    · cases h
  · cases h
theorem idxIn_ok {v : V} {u : Value} {n m : Nat} (h : idxIn v n = some m) (hs : srep Z ι w v u) : m < n ∧ ∃ k i, u = .int k i ∧ 0 ≤ i ∧ i < n ∧ m = i.toNat := by
  unfold idxIn at h
  split at h
  · rename_i k i
    split at h
    · rename_i hr
      simp at h
      simp only [srep] at hs
      exact ⟨by omega, k, i, hs.1, hr.1, hr.2, h.symm⟩
    · cases h
  · cases h
theorem run_bound {k : IntKind} {i : Int} {y : Nat} {code : BoundsCode} (h0 : 0 ≤ i) (h1 : i ≤ y) : (Instr.sliceBound (.int k i) y code).run P w = .ok i.toNat w := by
  simp [Instr.sliceBound, asIntOf, h0, h1]
theorem sliceV_ok (CO : CtxOK C) (G : Good Z ι e H (fun t => a.tmps.getD t undef) w) (o : Oper) (t : TypeId) (x : Operand) (lo hi mx : Option Operand) (take : Bool) (lim : Nat) (ho : o.op = .slice t x lo hi mx)
    {zero : List V} {by_ : Nat} {el : TypeId} {ti : TI} {own : Bool} {k : Nat} {xs : List V} {v : V} {S : Nat → Prop}
    (hti : C.ti t = some ⟨zero, by_, .slice el⟩) (hel : C.ti el = some ti) (hx : rdO C 0 e take x = .sl own k xs) (hk : k = 0 ∨ k = ti.size)
    (h : sliceV own k xs (lo.map (rdO C 0 e take)) (hi.map (rdO C 0 e take)) (mx.map (rdO C 0 e take)) = some v) :
    Runs C.P a.eval o w (Post (TT e (fun t => a.tmps.getD t undef) H ι w S) lim Z ι w v H) := by
  have hkd := (CO.ti t _ hti).kind
  simp only [kindOK] at hkd
  have hs := rd_srep G C 0 take x
  rw [hx] at hs
  have hrd := fun y => rd_srep G C 0 take y
  suffices hb : ∃ (l h' : Nat) (o' : Bool), v = .sl o' k ((xs.take h').drop l) ∧ l ≤ h' ∧ h' ≤ xs.length ∧ ∀ cap, xs.length ≤ cap → ∃ m, h' ≤ m ∧ m ≤ cap ∧ (o' = true → m = h') ∧
      (Instr.sliceBounds true xs.length cap (lo.map a.eval) (hi.map a.eval) (mx.map a.eval)).run C.P w = .ok (l, h', m) w by
    obtain ⟨l, h', o', rfl, hl, hh, hb⟩ := hb
    have hlen : ((xs.take h').drop l).length = h' - l := by simp; omega
    simp only [srep] at hs
    rcases hs with ⟨hu, rfl⟩ | ⟨β, off, c, us, m', hu, hc, hk0, hz, hm, hlies, hE⟩
    · obtain ⟨m, hm1, hm2, hm3, hr⟩ := hb 0 (by simp)
      simp at hh
      subst hh
      obtain rfl : l = 0 := by omega
      obtain rfl : m = 0 := by omega
      refine cold_val G (u := .slice none 0 0) ?_ (by simp [srep]) (fun j => by unfold tokV; cases j <;> simp [V.parts, V.cells, vparts, Value.cells, tok1])
      simp only [List.length_nil] at hr
      simp [execOp, ho, hu, Instr.sliceAt, Instr.slice, run_underlying hkd, (CO.ti el ti hel).run_size, hr]
    · have hk2 : k = ti.size := hk.resolve_left (by omega)
      obtain ⟨m, hm1, hm2, hm3, hr⟩ := hb c hc
      have hE' : srepE Z ι w k ((xs.take h').drop l) ((us.take (h' * k)).drop (l * k)) := srepE_drop _ (srepE_take _ hE)
      have hul := srepE_length hE
      have hcold : ∀ (ad : Option Addr), Cold (.sl o' k ((xs.take h').drop l)) (.slice ad (h' - l) (m - l)) := fun ad j => by
        unfold tokV
        cases j with
        | succ j => simp [V.parts, V.cells]
        | zero =>
          cases o' with
          | false => simp [V.parts, V.cells, vparts, Value.cells, tok1]
          | true =>
            have := hm3 rfl
            subst this
            cases ad <;> simp [V.parts, V.cells, vparts, Value.cells, tok1]
      refine cold_val G (u := .slice (if m = l then some ⟨β, off, none⟩ else some ⟨β, off + l * k, none⟩) (h' - l) (m - l)) ?_ ?_ (hcold _)
      · subst hk2
        simp [execOp, ho, hu, Instr.sliceAt, Instr.slice, run_underlying hkd, (CO.ti el ti hel).run_size, hr, addr_add]
      · simp only [srep]
        right
        by_cases hml : m = l
        · refine ⟨β, off, m - l, (us.take (h' * k)).drop (l * k), m', by simp [hml]; omega, by simp; omega, hk0, hz, ?_, ?_, hE'⟩
          · simp
            have : h' = l := by omega
            subst this
            omega
          · have : h' = l := by omega
            subst this
            intro j q hj
            simp at hj
        · refine ⟨β, off + l * k, m - l, (us.take (h' * k)).drop (l * k), m', by simp [hml]; omega, by simp; omega, hk0, hz, ?_, ?_, hE'⟩
          · simp
            have h1 : l * k ≤ h' * k := Nat.mul_le_mul_right _ hl
            have h2 : h' * k ≤ xs.length * k := Nat.mul_le_mul_right _ hh
            omega
          · intro j q hj
            rw [List.getElem?_drop, List.getElem?_take] at hj
            split at hj
            · have := hlies _ q hj
              rw [show off + l * k + j = off + (l * k + j) by omega]
              exact this
            · cases hj
  unfold sliceV at h
  cases mx with
  | some mo =>
    simp only [Option.map_some] at h
    obtain ⟨m, hm, h⟩ := Option.bind_eq_some_iff.1 h
    cases hi with
    | none => simp at h
    | some ho' =>
      simp only [Option.map_some] at h
      obtain ⟨h', hh', h⟩ := Option.bind_eq_some_iff.1 h
      obtain ⟨l, hl, rfl⟩ := Option.map_eq_some_iff.1 h
      obtain ⟨m1, km, im, em, m2, m3, m4⟩ := natIn_ok hm (hrd mo)
      obtain ⟨h1, kh, ih, eh, h2, h3, h4⟩ := natIn_ok hh' (hrd ho')
      cases lo with
      | none =>
        simp at hl
        subst hl
        refine ⟨0, h', h' == m, rfl, Nat.zero_le _, by omega, fun cap hc => ⟨m, h1, by omega, fun e => (by simp at e; exact e.symm), ?_⟩⟩
        simp [Instr.sliceBounds, em, eh, run_bound m2 (show im ≤ (cap : Int) by omega), run_bound h2 h3, ← m4, ← h4]
      | some lo' =>
        simp only [Option.map_some] at hl
        obtain ⟨l1, kl, il, el', l2, l3, l4⟩ := natIn_ok hl (hrd lo')
        refine ⟨l, h', h' == m, rfl, l1, by omega, fun cap hc => ⟨m, h1, by omega, fun e => (by simp at e; exact e.symm), ?_⟩⟩
        simp [Instr.sliceBounds, em, eh, el', run_bound m2 (show im ≤ (cap : Int) by omega), run_bound h2 h3, run_bound l2 l3, ← m4, ← h4, ← l4]
  | none =>
    simp only [Option.map_none] at h
    obtain ⟨h', hh', h⟩ := Option.bind_eq_some_iff.1 h
    obtain ⟨l, hl, rfl⟩ := Option.map_eq_some_iff.1 h
    cases hi with
    | none =>
      simp at hh'
      subst hh'
      cases lo with
      | none =>
        simp at hl
        subst hl
        exact ⟨0, xs.length, false, rfl, Nat.zero_le _, Nat.le_refl _, fun cap hc => ⟨cap, hc, Nat.le_refl _, fun e => (by cases e), by simp [Instr.sliceBounds]⟩⟩
      | some lo' =>
        simp only [Option.map_some] at hl
        obtain ⟨l1, kl, il, el', l2, l3, l4⟩ := natIn_ok hl (hrd lo')
        exact ⟨l, xs.length, false, rfl, l1, Nat.le_refl _, fun cap hc => ⟨cap, hc, Nat.le_refl _, fun e => (by cases e), by simp [Instr.sliceBounds, el', run_bound l2 l3, ← l4]⟩⟩
    | some ho' =>
      simp only [Option.map_some] at hh'
      obtain ⟨h1, kh, ih, eh, h2, h3, h4⟩ := natIn_ok hh' (hrd ho')
      cases lo with
      | none =>
        simp at hl
        subst hl
        refine ⟨0, h', false, rfl, Nat.zero_le _, h1, fun cap hc => ⟨cap, by omega, Nat.le_refl _, fun e => (by cases e), ?_⟩⟩
        simp [Instr.sliceBounds, eh, run_bound h2 (show ih ≤ (cap : Int) by omega), ← h4]
      | some lo' =>
        simp only [Option.map_some] at hl
        obtain ⟨l1, kl, il, el', l2, l3, l4⟩ := natIn_ok hl (hrd lo')
        refine ⟨l, h', false, rfl, l1, h1, fun cap hc => ⟨cap, by omega, Nat.le_refl _, fun e => (by cases e), ?_⟩⟩
        simp [Instr.sliceBounds, eh, el', run_bound h2 (show ih ≤ (cap : Int) by omega), run_bound l2 l3, ← h4, ← l4]
theorem sliceS_ok (CO : CtxOK C) (G : Good Z ι e H (fun t => a.tmps.getD t undef) w) (o : Oper) (t : TypeId) (x : Operand) (lo hi : Option Operand) (take : Bool) (lim : Nat) (ho : o.op = .slice t x lo hi none)
    {zero : List V} {by_ : Nat} {s : ByteArray} {v : V} {S : Nat → Prop}
    (hti : C.ti t = some ⟨zero, by_, .string⟩) (hx : rdO C 0 e take x = .sc (.string s))
    (h : sliceS s (lo.map (rdO C 0 e take)) (hi.map (rdO C 0 e take)) = some v) :
    Runs C.P a.eval o w (Post (TT e (fun t => a.tmps.getD t undef) H ι w S) lim Z ι w v H) := by
  have hkd := (CO.ti t _ hti).kind
  simp only [kindOK] at hkd
  have hs := rd_srep G C 0 take x
  rw [hx] at hs
  simp only [srep] at hs
  have hrd := fun y => rd_srep G C 0 take y
  unfold sliceS at h
  obtain ⟨h', hh', h⟩ := Option.bind_eq_some_iff.1 h
  obtain ⟨l, hl, rfl⟩ := Option.map_eq_some_iff.1 h
  refine cold_val G (u := .string (s.extract l h')) ?_ (by simp [srep, flat]) (cold_sc _ _)
  suffices hb : (Instr.sliceBounds false s.size s.size (lo.map a.eval) (hi.map a.eval) none).run C.P w = .ok (l, h', s.size) w by
    simp [execOp, ho, hs.1, Instr.sliceAt, Instr.slice, run_underlying hkd, hb]
  cases hi with
  | none =>
    simp at hh'
    subst hh'
    cases lo with
    | none =>
      simp at hl
      subst hl
      simp [Instr.sliceBounds]
    | some lo' =>
      simp only [Option.map_some] at hl
      obtain ⟨l1, kl, il, el', l2, l3, l4⟩ := natIn_ok hl (hrd lo')
      simp [Instr.sliceBounds, el', run_bound l2 l3, ← l4]
  | some ho' =>
    simp only [Option.map_some] at hh'
    obtain ⟨h1, kh, ih, eh, h2, h3, h4⟩ := natIn_ok hh' (hrd ho')
    cases lo with
    | none =>
      simp at hl
      subst hl
      simp [Instr.sliceBounds, eh, run_bound h2 h3, ← h4]
    | some lo' =>
      simp only [Option.map_some] at hl
      obtain ⟨l1, kl, il, el', l2, l3, l4⟩ := natIn_ok hl (hrd lo')
      simp [Instr.sliceBounds, eh, el', run_bound h2 h3, run_bound l2 l3, ← h4, ← l4]
theorem srepL_mapdem {cs : List V} {us : List Value} (h : srepL Z ι w cs us) : srepL Z ι w (cs.map V.dem1) us := srepL_dem1 h
theorem fieldAddr_ok (CO : CtxOK C) (G : Good Z ι e H (fun t => a.tmps.getD t undef) w) (o : Oper) (t : TypeId) (x : Operand) (i : Nat) (take : Bool) (lim : Nat) (ho : o.op = .fieldAddr t x i)
    {zero : List V} {by_ : Nat} {fs : List (TypeId × Nat)} {u : TypeId} {off : Nat} {ti : TI} {v : V} {S : Nat → Prop}
    (hti : C.ti t = some ⟨zero, by_, .struct fs⟩) (hf : fs[i]? = some (u, off)) (hu : C.ti u = some ti) (hp : 0 < ti.size)
    (hv : (∃ id o', rdO C 0 e take x = .ptr id o' ∧ v = .ptr id (o' + off)) ∨ (∃ cs, rdO C 0 e take x = .elp cs ∧ off ≤ cs.length ∧ v = .elp ((cs.drop off).map V.dem1))) :
    Runs C.P a.eval o w (Post (TT e (fun t => a.tmps.getD t undef) H ι w S) lim Z ι w v H) := by
  have hk := (CO.ti t _ hti).kind
  simp only [kindOK] at hk
  obtain ⟨fields, hun, hfs⟩ := hk
  have hs := rd_srep G C 0 take x
  have hfl : ∃ f, fields[i]? = some f ∧ f.type = u ∧ f.offset = off := by
    rw [← hfs, List.getElem?_map] at hf
    obtain ⟨f, hf1, hf2⟩ := Option.map_eq_some_iff.1 hf
    cases hf2
    exact ⟨f, by simpa using hf1, rfl, rfl⟩
  obtain ⟨f, hf1, rfl, rfl⟩ := hfl
  have hsz := (CO.ti _ ti hu).run_size
  have hrun : ∀ β o', (Instr.fieldAt t (.pointer (some ⟨β, o', none⟩)) i).run C.P w = .ok (.pointer (some ⟨β, o' + f.offset, none⟩)) w := fun β o' => by
    simp [Instr.fieldAt, run_underlying hun, hf1, Instr.sureAddr, fieldPlace, hsz, show ti.size ≠ 0 by omega, addr_add]
  rcases hv with ⟨id, o', hx, rfl⟩ | ⟨cs, hx, hle, rfl⟩
  · rw [hx] at hs
    simp only [srep] at hs
    obtain ⟨β, hβ, hu'⟩ := hs
    exact cold_val G (u := .pointer (some ⟨β, o' + f.offset, none⟩)) (by simp [execOp, ho, hu', hrun]) (by simp only [srep]; exact ⟨β, hβ, rfl⟩) (cold_ptr _ _ _)
  · rw [hx] at hs
    simp only [srep] at hs
    obtain ⟨β, o', us, m, hu', hz, hm, hl, hL⟩ := hs
    have hul := srepL_length hL
    refine cold_val G (u := .pointer (some ⟨β, o' + f.offset, none⟩)) (by simp [execOp, ho, hu', hrun]) ?_ (cold_one rfl (fun _ _ h => by cases h) _)
    simp only [srep]
    refine ⟨β, o' + f.offset, us.drop f.offset, m, rfl, hz, by simp; omega, fun j q hj => ?_, srepL_dem1 (srepL_drop _ hL)⟩
    rw [List.getElem?_drop] at hj
    rw [show o' + f.offset + j = o' + (f.offset + j) by omega]
    exact hl _ q hj
theorem field_ok (CO : CtxOK C) (G : Good Z ι e H (fun t => a.tmps.getD t undef) w) (o : Oper) (t : TypeId) (x : Operand) (i : Nat) (take : Bool) (lim : Nat) (ho : o.op = .field t x i)
    {zero : List V} {by_ : Nat} {fs : List (TypeId × Nat)} {u : TypeId} {off : Nat} {ti : TI} {cs ds : List V} {v : V} {S : Nat → Prop}
    (hti : C.ti t = some ⟨zero, by_, .struct fs⟩) (hf : fs[i]? = some (u, off)) (hu : C.ti u = some ti) (hx : rdO C t e take x = .agg cs) (hsub : sub cs off ti.size = some ds) (hv : ofCells ti ds = some v) :
    Runs C.P a.eval o w (Post (TT e (fun t => a.tmps.getD t undef) H ι w S) lim Z ι w v.dem H) := by
  have hk := (CO.ti t _ hti).kind
  simp only [kindOK] at hk
  obtain ⟨fields, hun, hfs⟩ := hk
  have hs := rd_srep G C t take x
  rw [hx] at hs
  simp only [srep] at hs
  obtain ⟨us, hu', hL⟩ := hs
  have hfl : ∃ f, fields[i]? = some f ∧ f.type = u ∧ f.offset = off := by
    rw [← hfs, List.getElem?_map] at hf
    obtain ⟨f, hf1, hf2⟩ := Option.map_eq_some_iff.1 hf
    cases hf2
    exact ⟨f, by simpa using hf1, rfl, rfl⟩
  obtain ⟨f, hf1, rfl, rfl⟩ := hfl
  obtain ⟨r, hr, hsr⟩ := part_ok (CO.ti _ ti hu) hL hsub hv
  exact cold_val G (by simp [execOp, ho, hu', Instr.field, run_underlying hun, hf1, asAgg, hr]) (srep_dem hsr) (cold_dem _ _)
theorem indexAddr_sl_ok (CO : CtxOK C) (G : Good Z ι e H (fun t => a.tmps.getD t undef) w) (o : Oper) (t : TypeId) (x y : Operand) (take : Bool) (lim : Nat) (ho : o.op = .indexAddr t x y)
    {zero : List V} {by_ : Nat} {el : TypeId} {ti : TI} {own : Bool} {k j : Nat} {xs : List V} {v : V} {S : Nat → Prop}
    (hti : C.ti t = some ⟨zero, by_, .slice el⟩) (hel : C.ti el = some ti) (hx : rdO C 0 e take x = .sl own k xs) (hy : idxIn (rdO C 0 e take y) xs.length = some j) (hj : xs[j]? = some v) (hk : k = ti.size) (hp : plain v = true) :
    Runs C.P a.eval o w (Post (TT e (fun t => a.tmps.getD t undef) H ι w S) lim Z ι w (.elp (v.cells.map V.dem1)) H) := by
  have hkd := (CO.ti t _ hti).kind
  simp only [kindOK] at hkd
  have hs := rd_srep G C 0 take x
  rw [hx] at hs
  simp only [srep] at hs
  obtain ⟨hlt, ki, i, hi, i0, i1, rfl⟩ := idxIn_ok hy (rd_srep G C 0 take y)
  rcases hs with ⟨_, rfl⟩ | ⟨β, off, c, us, m', hu, hc, hk0, hz, hm, hlies, hE⟩
  · simp at hlt
  · obtain ⟨u, hu1, hu2, hu3, hu4⟩ := srepE_get hE hj
    have hul := srepE_length hE
    have hfit : i.toNat * k + k ≤ us.length := by
      rw [hul, ← Nat.succ_mul]
      exact Nat.mul_le_mul_right _ hlt
    refine cold_val G (u := .pointer (some ⟨β, off + i.toNat * k, none⟩)) ?_ ?_ (cold_one rfl (fun _ _ h => by cases h) _)
    · subst hk
      simp [execOp, ho, hu, hi, Instr.indexAt, asIntOf, run_underlying hkd, i0, i1, (CO.ti el ti hel).run_size, addr_add]
    · simp only [srep]
      refine ⟨β, off + i.toNat * k, u.cells.toList, m', rfl, hz, by simp; omega, fun q r hq => ?_, srepL_dem1 (srep_cells' hu4 hp)⟩
      rw [hu1, List.getElem?_take] at hq
      split at hq
      · rw [List.getElem?_drop] at hq
        rw [show off + i.toNat * k + q = off + (i.toNat * k + q) by omega]
        exact hlies _ r hq
      · cases hq
theorem indexAddr_hs_ok (CO : CtxOK C) (G : Good Z ι e H (fun t => a.tmps.getD t undef) w) (o : Oper) (t : TypeId) (x y : Operand) (take : Bool) (lim : Nat) (ho : o.op = .indexAddr t x y)
    {zero : List V} {by_ : Nat} {el : TypeId} {ti : TI} {id off n k j : Nat} {S : Nat → Prop}
    (hti : C.ti t = some ⟨zero, by_, .slice el⟩) (hel : C.ti el = some ti) (hx : rdO C 0 e take x = .hs id off n k) (hy : idxIn (rdO C 0 e take y) n = some j) (hk : k = ti.size) :
    Runs C.P a.eval o w (Post (TT e (fun t => a.tmps.getD t undef) H ι w S) lim Z ι w (.ptr id (off + j * k)) H) := by
  have hkd := (CO.ti t _ hti).kind
  simp only [kindOK] at hkd
  have hs := rd_srep G C 0 take x
  rw [hx] at hs
  simp only [srep] at hs
  obtain ⟨hlt, ki, i, hi, i0, i1, rfl⟩ := idxIn_ok hy (rd_srep G C 0 take y)
  obtain ⟨β, c, hβ, hu, hc⟩ := hs
  subst hk
  exact cold_val G (u := .pointer (some ⟨β, off + i.toNat * ti.size, none⟩)) (by simp [execOp, ho, hu, hi, Instr.indexAt, asIntOf, run_underlying hkd, i0, i1, (CO.ti el ti hel).run_size, addr_add]) (by simp only [srep]; exact ⟨β, hβ, rfl⟩) (cold_ptr _ _ _)
theorem indexAddr_arr_ok (CO : CtxOK C) (G : Good Z ι e H (fun t => a.tmps.getD t undef) w) (o : Oper) (t : TypeId) (x y : Operand) (take : Bool) (lim : Nat) (ho : o.op = .indexAddr t x y)
    {zero : List V} {by_ : Nat} {el : TypeId} {ti : TI} {n j : Nat} {v : V} {S : Nat → Prop}
    (hti : C.ti t = some ⟨zero, by_, .array n el⟩) (hel : C.ti el = some ti) (hy : idxIn (rdO C 0 e take y) n = some j)
    (hv : (∃ id o', rdO C 0 e take x = .ptr id o' ∧ v = .ptr id (o' + j * ti.size)) ∨ (∃ cs, rdO C 0 e take x = .elp cs ∧ j * ti.size ≤ cs.length ∧ v = .elp ((cs.drop (j * ti.size)).map V.dem1))) :
    Runs C.P a.eval o w (Post (TT e (fun t => a.tmps.getD t undef) H ι w S) lim Z ι w v H) := by
  have hkd := (CO.ti t _ hti).kind
  simp only [kindOK] at hkd
  have hs := rd_srep G C 0 take x
  obtain ⟨hlt, ki, i, hi, i0, i1, rfl⟩ := idxIn_ok hy (rd_srep G C 0 take y)
  have hrun : ∀ β o', (Instr.indexAt t (.pointer (some ⟨β, o', none⟩)) (.int ki i)).run C.P w = .ok (.pointer (some ⟨β, o' + i.toNat * ti.size, none⟩)) w := fun β o' => by
    simp [Instr.indexAt, asIntOf, run_underlying hkd, Instr.sureAddr, i0, i1, (CO.ti el ti hel).run_size, addr_add]
  rcases hv with ⟨id, o', hx, rfl⟩ | ⟨cs, hx, hle, rfl⟩
  · rw [hx] at hs
    simp only [srep] at hs
    obtain ⟨β, hβ, hu'⟩ := hs
    exact cold_val G (u := .pointer (some ⟨β, o' + i.toNat * ti.size, none⟩)) (by simp [execOp, ho, hu', hi, hrun]) (by simp only [srep]; exact ⟨β, hβ, rfl⟩) (cold_ptr _ _ _)
  · rw [hx] at hs
    simp only [srep] at hs
    obtain ⟨β, o', us, m, hu', hz, hm, hl, hL⟩ := hs
    have hul := srepL_length hL
    refine cold_val G (u := .pointer (some ⟨β, o' + i.toNat * ti.size, none⟩)) (by simp [execOp, ho, hu', hi, hrun]) ?_ (cold_one rfl (fun _ _ h => by cases h) _)
    simp only [srep]
    refine ⟨β, o' + i.toNat * ti.size, us.drop (i.toNat * ti.size), m, rfl, hz, by simp; omega, fun q r hj => ?_, srepL_dem1 (srepL_drop _ hL)⟩
    rw [List.getElem?_drop] at hj
    rw [show o' + i.toNat * ti.size + q = o' + (i.toNat * ti.size + q) by omega]
    exact hl _ r hj
theorem index_str_ok (CO : CtxOK C) (G : Good Z ι e H (fun t => a.tmps.getD t undef) w) (o : Oper) (t : TypeId) (x y : Operand) (take : Bool) (lim : Nat) (ho : o.op = .index t x y)
    {zero : List V} {by_ : Nat} {s : ByteArray} {j : Nat} {b : UInt8} {S : Nat → Prop}
    (hti : C.ti t = some ⟨zero, by_, .string⟩) (hx : rdO C t e take x = .sc (.string s)) (hy : idxIn (rdO C 0 e take y) s.size = some j) (hb : s.data[j]? = some b) :
    Runs C.P a.eval o w (Post (TT e (fun t => a.tmps.getD t undef) H ι w S) lim Z ι w (.sc (.int .u8 (b.toNat : Int))) H) := by
  have hkd := (CO.ti t _ hti).kind
  simp only [kindOK] at hkd
  have hs := rd_srep G C t take x
  rw [hx] at hs
  simp only [srep] at hs
  obtain ⟨hlt, ki, i, hi, i0, i1, rfl⟩ := idxIn_ok hy (rd_srep G C 0 take y)
  have hb' : s[i.toNat]? = some b := by
    obtain ⟨d⟩ := s
    rw [Array.getElem?_eq_some_iff] at hb
    obtain ⟨h1, h2⟩ := hb
    show (if h : _ then _ else _) = _
    rw [dif_pos (show i.toNat < (⟨d⟩ : ByteArray).size from h1)]
    exact congrArg some h2
  exact cold_val G (u := .int .u8 (b.toNat : Int)) (by simp [execOp, ho, hs.1, hi, Instr.index, asIntOf, run_underlying hkd, i0, hb']) (by simp [srep, flat]) (cold_sc _ _)
theorem index_arr_ok (CO : CtxOK C) (G : Good Z ι e H (fun t => a.tmps.getD t undef) w) (o : Oper) (t : TypeId) (x y : Operand) (take : Bool) (lim : Nat) (ho : o.op = .index t x y)
    {zero : List V} {by_ n : Nat} {el : TypeId} {ti : TI} {cs ds : List V} {j : Nat} {v : V} {S : Nat → Prop}
    (hti : C.ti t = some ⟨zero, by_, .array n el⟩) (hel : C.ti el = some ti) (hx : rdO C t e take x = .agg cs) (hy : idxIn (rdO C 0 e take y) n = some j) (hsub : sub cs (j * ti.size) ti.size = some ds) (hv : ofCells ti ds = some v) :
    Runs C.P a.eval o w (Post (TT e (fun t => a.tmps.getD t undef) H ι w S) lim Z ι w v.dem H) := by
  have hkd := (CO.ti t _ hti).kind
  simp only [kindOK] at hkd
  have hs := rd_srep G C t take x
  rw [hx] at hs
  simp only [srep] at hs
  obtain ⟨us, hu', hL⟩ := hs
  obtain ⟨hlt, ki, i, hi, i0, i1, rfl⟩ := idxIn_ok hy (rd_srep G C 0 take y)
  obtain ⟨r, hr, hsr⟩ := part_ok (CO.ti _ ti hel) hL hsub hv
  exact cold_val G (by simp [execOp, ho, hu', hi, Instr.index, asIntOf, run_underlying hkd, i0, i1, (CO.ti el ti hel).run_size, hr]) (srep_dem hsr) (cold_dem _ _)
end
end Go.Den
end
section
set_option linter.unusedVariables false
namespace Go.Den
theorem Post.mono {T T' : Nat → Prop} {lim lim' : Nat} {Z : Nat → Zone} {ι : List Nat} {w : World} {v : V} {H' : Heap} {u : Value} {w' : World} (h : Post T lim Z ι w v H' u w') (hT : ∀ β, T β → T' β) (hl : lim' ≤ lim) : Post T' lim' Z ι w v H' u w' := by
  obtain ⟨Z', ι', G, X, hN⟩ := h
  exact ⟨Z', ι', G, X.mono hT hl, fun l β hl => (hN l β hl).imp (hT β) id⟩
def CallOK (C : Ctx) (call : FuncId → List V → Heap → Nat → Option (V × Heap)) : Prop :=
  ∀ g l H lim r H', call g l H lim = some (r, H') → (∃ fn, C.P.funcs[g]? = some fn ∧ fn.body.isSome = true) ∧
    ∀ (Z : Nat → Zone) (ι : List Nat) (w : World) (us : Array Value), us.size = l.length → Good Z ι (args l) H (fun t => us.getD t undef) w →
      Calls C.P g us w fun e w' => ∃ u, e = .returned u ∧ Post (TT (args l) (fun t => us.getD t undef) H ι w (fun _ => True)) lim Z ι w r H' u w'
section
variable {Z : Nat → Zone} {ι : List Nat} {e : Env} {H : Heap} {vals : Nat → Value} {w : World} {C : Ctx} {a : Act} {P : Program}
theorem Good.args (G : Good Z ι e H vals w) (vs : List V) (us : Array Value) (hl : us.size = vs.length)
    (hs : ∀ (i : Nat) (v : V) (u : Value), vs[i]? = some v → us[i]? = some u → srep Z ι w v u ∧ ownV Z w v u)
    (src : ∀ (i j β : Nat) (v : V) (u : Value), vs[i]? = some v → us[i]? = some u → tokV v u j = some β → ∃ t j', tokV (e t) (vals t) j' = some β)
    (hinj : ∀ (i i' j j' β : Nat) (v v' : V) (u u' : Value), vs[i]? = some v → us[i]? = some u → tokV v u j = some β → vs[i']? = some v' → us[i']? = some u' → tokV v' u' j' = some β → i = i' ∧ j = j') :
    Good Z ι (Den.args vs) H (fun t => us.getD t undef) w := by
  have key : ∀ t, (∃ v u, vs[t]? = some v ∧ us[t]? = some u ∧ Den.args vs t = v ∧ us.getD t undef = u) ∨ (Den.args vs t = .any) := by
    intro t
    cases h : vs[t]? with
    | none => right; simp [Den.args, h]
    | some v =>
      left
      have hlt : t < us.size := by rw [hl]; exact (List.getElem?_eq_some_iff.1 h).1
      exact ⟨v, us[t], rfl, by simp [hlt], by simp [Den.args, h], by simp [hlt]⟩
  refine ⟨fun t => ?_, G.len, G.blk, fun t => ?_, ?_, G.fresh⟩
  · rcases key t with ⟨v, u, h1, h2, h3, h4⟩ | h
    · simp only [h3, h4]; exact (hs t v u h1 h2).1
    · simp [h, srep]
  · rcases key t with ⟨v, u, h1, h2, h3, h4⟩ | h
    · simp only [h3, h4]; exact (hs t v u h1 h2).2
    · simp only [h]; exact Cold.own (fun j => tokV_any _ _)
  · intro l l' β hl hl'
    cases l with
    | inl p =>
      obtain ⟨t, j⟩ := p
      simp only [tok] at hl
      rcases key t with ⟨v, u, h1, h2, h3, h4⟩ | h
      · rw [h3, h4] at hl
        cases l' with
        | inl p' =>
          obtain ⟨t', j'⟩ := p'
          simp only [tok] at hl'
          rcases key t' with ⟨v', u', h1', h2', h3', h4'⟩ | h'
          · rw [h3', h4'] at hl'
            obtain ⟨rfl, rfl⟩ := hinj t t' j j' β v v' u u' h1 h2 hl h1' h2' hl'
            rfl
          · rw [h', tokV_any] at hl'; cases hl'
        | inr p' =>
          obtain ⟨t0, j0, h0⟩ := src t j β v u h1 h2 hl
          cases G.uniq (.inl (t0, j0)) (.inr p') β h0 hl'
      · rw [h, tokV_any] at hl; cases hl
    | inr p =>
      cases l' with
      | inl p' =>
        obtain ⟨t', j'⟩ := p'
        simp only [tok] at hl'
        rcases key t' with ⟨v', u', h1', h2', h3', h4'⟩ | h'
        · rw [h3', h4'] at hl'
          obtain ⟨t0, j0, h0⟩ := src t' j' β v' u' h1' h2' hl'
          cases G.uniq (.inl (t0, j0)) (.inr p) β h0 hl
        · rw [h', tokV_any] at hl'; cases hl'
      | inr p' => exact G.uniq (.inr p) (.inr p') β hl hl'
theorem TT_args (vs : List V) (us : Array Value) (hl : us.size = vs.length) {S : Nat → Prop}
    (src : ∀ (i j β : Nat) (v : V) (u : Value), vs[i]? = some v → us[i]? = some u → tokV v u j = some β → ∃ t j', S t ∧ tokV (e t) (vals t) j' = some β) (β : Nat)
    (h : TT (Den.args vs) (fun t => us.getD t undef) H ι w (fun _ => True) β) : TT e vals H ι w S β := by
  rcases h with ⟨t, j, _, h⟩ | h
  · left
    cases hv : vs[t]? with
    | none => simp [Den.args, hv, tokV_any] at h
    | some v =>
      have hlt : t < us.size := by rw [hl]; exact (List.getElem?_eq_some_iff.1 hv).1
      exact src t j β v us[t] hv (by simp [hlt]) (by simpa [Den.args, hv, hlt] using h)
  · exact .inr h
def tmpOf : Operand → Option Nat
  | .tmp t => some t
  | _ => none
theorem nodup_at : ∀ (xs : List Operand) (m m' n : Nat), (xs.filterMap tmpOf).Nodup → xs[m]? = some (.tmp n) → xs[m']? = some (.tmp n) → m = m'
  | [], m, _, _, _, h, _ => by simp at h
  | x :: xs, m, m', n, hn, h, h' => by
    have hn' : (xs.filterMap tmpOf).Nodup := by
      rw [List.filterMap_cons] at hn
      cases htf : tmpOf x <;> simp only [htf] at hn
      · exact hn
      · exact (List.nodup_cons.1 hn).2
    have hno : x = Operand.tmp n → ∀ (k : Nat), xs[k]? ≠ some (Operand.tmp n) := by
      rintro rfl k hk
      rw [List.filterMap_cons] at hn
      simp only [tmpOf] at hn
      exact (List.nodup_cons.1 hn).1 (List.mem_filterMap.2 ⟨_, List.mem_of_getElem? hk, rfl⟩)
    cases m with
    | zero =>
      cases m' with
      | zero => rfl
      | succ m' => simp at h h'; exact absurd h' (hno h m')
    | succ m =>
      cases m' with
      | zero => simp at h h'; exact absurd h (hno h' m)
      | succ m' => simp at h h'; rw [nodup_at xs m m' n hn' h h']
theorem call_ok (CO : CtxOK C) {call : FuncId → List V → Heap → Nat → Option (V × Heap)} (hcall : CallOK C call) (G : Good Z ι e H (fun t => a.tmps.getD t undef) w) (o : Oper) (c : Call) (f : Operand) (take : Bool) (lim : Nat) (ho : o.op = .call c) (hc : c.callee = .value f)
    (hnd : take = true → (o.op.operands.toList.filterMap tmpOf).Nodup) {g : FuncId} {p q : List V} {r : V} {H' : Heap}
    (hf : rdO C 0 e take f = .fn (.func g) p q) (h : call g (p.map V.dem ++ c.args.toList.map (rdO C 0 e take) ++ q.map V.dem) H lim = some (r, H')) :
    Runs C.P a.eval o w (Post (TT e (fun t => a.tmps.getD t undef) H ι w (takesOf take o.op.operands.toList)) lim Z ι w r H') := by
  have hs := rd_srep G C 0 take f
  rw [hf] at hs
  simp only [srep] at hs
  obtain ⟨us, ws, hu, hp, hq⟩ := hs
  obtain ⟨⟨fn, hfn, hbody⟩, hcalls⟩ := hcall _ _ _ _ _ _ h
  have hname := CO.names g fn hfn
  have hpl := srepT_length hp
  have hql := srepT_length hq
  have hrun : (execOp a.eval o).run C.P w = .ok (.enter g ((us.toArray ++ c.args.map a.eval) ++ ws.toArray)) w := by
    have hb : ¬ fn.body = none := by intro hh; simp [hh] at hbody
    simp [execOp, ho, resolve, hc, hu, Deferred.ofValue, invoke, callFunc, hfn, hb, hname]
  have hops : o.op.operands.toList = f :: c.args.toList := by
    rw [ho]
    simp [Op.operands, Call.operands, hc]
  have split : ∀ (i : Nat) (v : V) (u : Value), (p.map V.dem ++ c.args.toList.map (rdO C 0 e take) ++ q.map V.dem)[i]? = some v → ((us.toArray ++ c.args.map a.eval) ++ ws.toArray)[i]? = some u →
      (srep Z ι w v u ∧ Cold v u) ∨ ∃ x, c.args.toList[i - p.length]? = some x ∧ p.length ≤ i ∧ v = rdO C 0 e take x ∧ u = a.eval x := by
    intro i v u hv hu'
    have hU : ((us.toArray ++ c.args.map a.eval) ++ ws.toArray) = (us ++ (c.args.toList.map a.eval ++ ws)).toArray := by apply Array.ext'; simp
    rw [hU, List.getElem?_toArray, List.getElem?_append] at hu'
    rw [List.append_assoc, List.getElem?_append] at hv
    rw [List.length_map] at hv
    split at hv
    · rename_i hlt
      rw [if_pos (by omega)] at hu'
      rw [List.getElem?_map] at hv
      obtain ⟨v0, hv0, rfl⟩ := Option.map_eq_some_iff.1 hv
      obtain ⟨u0, hu0, hs0⟩ := srepT_get hp hv0
      have : u = u0 := by rw [hu0] at hu'; simpa using hu'.symm
      rw [this]
      exact .inl ⟨srep_dem hs0, cold_dem _ _⟩
    · rename_i hge
      rw [if_neg (by omega), hpl, List.getElem?_append, List.length_map] at hu'
      rw [List.getElem?_append, List.length_map] at hv
      split at hv
      · rename_i hlt
        rw [if_pos hlt] at hu'
        rw [List.getElem?_map] at hv hu'
        obtain ⟨x, hx, rfl⟩ := Option.map_eq_some_iff.1 hv
        rw [hx] at hu'
        exact .inr ⟨x, hx, by omega, rfl, by simpa using hu'.symm⟩
      · rename_i hlt
        rw [if_neg hlt] at hu'
        rw [List.getElem?_map] at hv
        obtain ⟨v0, hv0, rfl⟩ := Option.map_eq_some_iff.1 hv
        obtain ⟨u0, hu0, hs0⟩ := srepT_get hq hv0
        have : u = u0 := by rw [hu0] at hu'; simpa using hu'.symm
        rw [this]
        exact .inl ⟨srep_dem hs0, cold_dem _ _⟩
  have hsize : ((us.toArray ++ c.args.map a.eval) ++ ws.toArray).size = (p.map V.dem ++ c.args.toList.map (rdO C 0 e take) ++ q.map V.dem).length := by
    simp; omega
  have src : ∀ (i j β : Nat) (v : V) (u : Value), (p.map V.dem ++ c.args.toList.map (rdO C 0 e take) ++ q.map V.dem)[i]? = some v → ((us.toArray ++ c.args.map a.eval) ++ ws.toArray)[i]? = some u → tokV v u j = some β →
      ∃ n, takesOf take o.op.operands.toList n ∧ tokV (e n) (a.tmps.getD n undef) j = some β ∧ c.args.toList[i - p.length]? = some (.tmp n) ∧ p.length ≤ i := by
    intro i j β v u hv hu' ht
    rcases split i v u hv hu' with ⟨_, hc'⟩ | ⟨x, hx, hle, rfl, rfl⟩
    · rw [hc' j] at ht; cases ht
    · obtain ⟨n, rfl, h1, h2⟩ := rd_tok G C 0 take x o.op.operands.toList (by rw [hops]; exact List.mem_cons_of_mem _ (List.mem_of_getElem? hx)) j β ht
      exact ⟨n, h1, h2, hx, hle⟩
  have GA : Good Z ι (Den.args (p.map V.dem ++ c.args.toList.map (rdO C 0 e take) ++ q.map V.dem)) H (fun t => ((us.toArray ++ c.args.map a.eval) ++ ws.toArray).getD t undef) w := by
    refine G.args _ _ hsize (fun i v u hv hu' => ?_) (fun i j β v u hv hu' ht => ?_) (fun i i' j j' β v v' u u' hv hu' ht hv' hu'' ht' => ?_)
    · rcases split i v u hv hu' with ⟨h1, hc'⟩ | ⟨x, hx, hle, rfl, rfl⟩
      · exact ⟨h1, hc'.own⟩
      · exact ⟨rd_srep G C 0 take x, rd_own G C 0 take x⟩
    · obtain ⟨n, _, h2, _⟩ := src i j β v u hv hu' ht
      exact ⟨n, j, h2⟩
    · obtain ⟨n, h1, h2, h3, h4⟩ := src i j β v u hv hu' ht
      obtain ⟨n', h1', h2', h3', h4'⟩ := src i' j' β v' u' hv' hu'' ht'
      have := G.uniq (.inl (n, j)) (.inl (n', j')) β h2 h2'
      simp at this
      obtain ⟨rfl, rfl⟩ := this
      refine ⟨?_, rfl⟩
      have hnd' := hnd h1.1
      rw [hops] at hnd'
      have hnd2 : (c.args.toList.filterMap tmpOf).Nodup := by
        rw [List.filterMap_cons] at hnd'
        cases htf : tmpOf f <;> simp only [htf] at hnd'
        · exact hnd'
        · exact (List.nodup_cons.1 hnd').2
      have := nodup_at _ _ _ n hnd2 h3 h3'
      omega
  refine .inr (.inr ⟨g, _, w, hrun, (hcalls Z ι w _ hsize GA).mono fun e' w' ⟨u, he, hpost⟩ => ⟨u, he, hpost.mono (fun β hβ => ?_) (Nat.le_refl _)⟩⟩)
  refine TT_args _ _ hsize (fun i j β v u hv hu' ht => ?_) β hβ
  obtain ⟨n, h1, h2, _⟩ := src i j β v u hv hu' ht
  exact ⟨n, j, h1, h2⟩
end
end Go.Den
end
