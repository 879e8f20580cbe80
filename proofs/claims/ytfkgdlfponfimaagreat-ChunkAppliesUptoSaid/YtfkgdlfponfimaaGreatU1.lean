import GoSem.Step
/- A simple machine for the program's code: no order is drawn, no capacity is drawn, slices that nobody writes are plain lists. What it answers the real model answers too (XS: 'sound'). -/
namespace Go.Proofs.YtfkgdlfponfimaaGreat.X
theorem Z {α : Sort _} {a : α} : a = a := rfl
open Go
abbrev Nm := List Nat
inductive AVal where
  | bool (b : Bool)
  | int (k : IntKind) (n : Int)
  | str (s : ByteArray)
  | nilp
  | ptr (q : Nm) (i off : Nat)
  | ept (x : AVal) (off : Nat)
  | nls
  | nne
  | emp
  | lst (xs : List AVal)
  | slc (q : Nm) (w off len : Nat)
  | nilm
  | map (q : Nm)
  | nilf
  | fn (f : FuncId) (cap : List AVal)
  | bfn (f : FuncId) (first : List AVal)
  | nili
  | ifc (t : TypeId) (v : AVal)
  | agg (cs : List AVal)
  | tup (vs : List AVal)
  deriving Inhabited
namespace AVal
def undef : AVal := .tup []
def cells : AVal → List AVal
  | .agg cs => cs
  | v => [v]
def isTup : AVal → Bool
  | .tup _ => true
  | _ => false
end AVal
inductive AObj where
  | row (w : Nat) (xs : List AVal)
  | map (es : List (AVal × AVal))
  | bld (s : ByteArray)
abbrev Heap := Nm → Option AObj
abbrev Env := List AVal
def Heap.put (H : Heap) (q : Nm) (o : Option AObj) : Heap := fun p => if p = q then o else H p
def under (ν q : Nm) : Bool := ν.isSuffixOf q
def rest (ν : Nm) (H H1 : Heap) : Heap := fun q => if under ν q then H q else H1 q
inductive TK where
  | bool | int (k : IntKind) | str | ptr | slice (e : TypeId) | array (n : Nat) (e : TypeId) | map (k e : TypeId) | strct (fs : List (Nat × TypeId)) | func | iface | bld
structure TI where
  k : TK
  size : Nat
  bytes : Nat
  zero : AVal
def TK.agg : TK → Bool
  | .strct _ | .array .. | .bld => true
  | _ => false
abbrev TT := TypeId → Option TI
inductive Mode where
  | pure | borrow | full | keep | clone | look | cast | give | giveC
  deriving DecidableEq
inductive Given where
  | bWrite | bString
inductive RV where
  | tmp (t : Tmp)
  | cell (a : Tmp) (t : TypeId)
structure FI where
  body : Code
  ntmps : Nat
  results : List RV
  mode : Mode
structure Cfg where
  T : TT
  fn : FuncId → Option FI
  given : FuncId → Option Given
  meth : TypeId → String → Option (FuncId × Option TypeId)
  fl : Nat → Nat → Nat → List Tmp
def constVal : Value → Option AVal
  | .bool b => some (.bool b)
  | .int k n => some (.int k n)
  | .string s => some (.str s)
  | .pointer none => some .nilp
  | .slice none 0 0 => some .nls
  | .map none => some .nilm
  | .nilFunc => some .nilf
  | .nilIface => some .nili
  | _ => none
def constAny : Value → Option AVal
  | .agg cs => (cs.toList.mapM constVal).map .agg
  | .tuple vs => if vs.size = 0 then some (.tup []) else none
  | v => constVal v
def ev (e : Env) : Operand → Option AVal
  | .tmp t => some (e.getD t .undef)
  | .const v => constAny v
  | .global _ => none
  | .func f => some (.fn f [])
def evs (e : Env) : List Operand → Option (List AVal)
  | [] => some []
  | x :: xs => match ev e x with
    | some v => match evs e xs with
      | some vs => some (v :: vs)
      | none => none
    | none => none
def putT (e : Env) (dst : Option Tmp) (v : AVal) : Env := match dst with
  | some d => e.set d v
  | none => e
def part (ti : TI) (x : AVal) (off : Nat) : Option AVal :=
  if ti.k.agg then (if off + ti.size ≤ x.cells.length then some (.agg ((x.cells.drop off).take ti.size)) else none) else x.cells[off]?
def setCells (x : AVal) (off : Nat) (vs : List AVal) : AVal := match x with
  | .agg cs => .agg (cs.take off ++ vs ++ cs.drop (off + vs.length))
  | _ => match vs with
    | [v] => v
    | _ => x
def aLoad (T : TT) (H : Heap) (t : TypeId) (a : AVal) : Option AVal :=
  match T t with
  | none => none
  | some ti => match a with
    | .ptr q i off => match H q with
      | some (.row _ xs) => match xs[i]? with
        | some x => part ti x off
        | none => none
      | _ => none
    | .ept x off => part ti x off
    | _ => none
def aStore (T : TT) (H : Heap) (t : TypeId) (a v : AVal) : Option Heap :=
  match T t with
  | none => none
  | some ti => match a with
    | .ptr q i off => match H q with
      | some (.row w xs) => match xs[i]? with
        | some x => if v.isTup = false ∧ v.cells.length = ti.size ∧ off + ti.size ≤ x.cells.length then some (H.put q (some (.row w (xs.set i (setCells x off v.cells))))) else none
        | none => none
      | _ => none
    | _ => none
def elems (H : Heap) : AVal → Option (List AVal)
  | .emp => some []
  | .nls => some []
  | .nne => some []
  | .lst xs => some xs
  | .slc q _ off len => match H q with
    | some (.row _ xs) => if off + len ≤ xs.length then some ((xs.drop off).take len) else none
    | _ => none
  | .str s => some (s.data.toList.map fun b => .int .u8 b.toNat)
  | _ => none
def lenOf (H : Heap) : AVal → Option Nat
  | .emp => some 0
  | .nls => some 0
  | .nne => some 0
  | .lst xs => some xs.length
  | .slc _ _ _ len => some len
  | .str s => some s.size
  | .nilm => some 0
  | .map q => match H q with
    | some (.map es) => some es.length
    | _ => none
  | _ => none
def aStr (op : BinOp) (x y : ByteArray) : Option AVal :=
  match op with
  | .add => if ((x.size + y.size : Nat) : Int) > IntKind.i64.max then none else some (.str (x ++ y))
  | .eql => some (.bool (decide (x = y)))
  | .neq => some (.bool (!decide (x = y)))
  | .lss => some (.bool (Op.bytesLess x.data.toList y.data.toList))
  | .leq => some (.bool (Op.bytesLess x.data.toList y.data.toList || decide (x = y)))
  | .gtr => some (.bool (!(Op.bytesLess x.data.toList y.data.toList || decide (x = y))))
  | .geq => some (.bool (!(Op.bytesLess x.data.toList y.data.toList)))
  | _ => none
def aInt (op : BinOp) (k : IntKind) (a b : Int) : Option AVal :=
  match op with
  | .add => some (.int k (k.wrap (a + b)))
  | .sub => some (.int k (k.wrap (a - b)))
  | .mul => some (.int k (k.wrap (a * b)))
  | .quo => if b = 0 then none else some (.int k (k.wrap (a.tdiv b)))
  | .rem => if b = 0 then none else some (.int k (a.tmod b))
  | .and => some (.int k (k.wrap (BitVec.ofInt k.bits a &&& BitVec.ofInt k.bits b).toNat))
  | .or => some (.int k (k.wrap (BitVec.ofInt k.bits a ||| BitVec.ofInt k.bits b).toNat))
  | .xor => some (.int k (k.wrap (BitVec.ofInt k.bits a ^^^ BitVec.ofInt k.bits b).toNat))
  | .andNot => some (.int k (k.wrap (BitVec.ofInt k.bits a &&& ~~~ BitVec.ofInt k.bits b).toNat))
  | .eql => some (.bool (decide (a = b)))
  | .neq => some (.bool (!decide (a = b)))
  | .lss => some (.bool (decide (a < b)))
  | .leq => some (.bool (decide (a ≤ b)))
  | .gtr => some (.bool (decide (a > b)))
  | .geq => some (.bool (decide (a ≥ b)))
  | _ => none
def aEqF (T : TT) (eq : TypeId → AVal → AVal → Option Bool) (x y : AVal) : List (Nat × TypeId) → Option Bool
  | [] => some true
  | (off, t) :: r => match T t with
    | some ti => match part ti x off, part ti y off with
      | some a, some b => match eq t a b with
        | some c => match aEqF T eq x y r with
          | some s => some (c && s)
          | none => none
        | none => none
      | _, _ => none
    | none => none
def aEq (T : TT) : Nat → TypeId → AVal → AVal → Option Bool
  | 0, _, _, _ => none
  | d + 1, t, x, y => match T t with
    | none => none
    | some ti => match ti.k, x, y with
      | .bool, .bool a, .bool b => some (a == b)
      | .int _, .int k a, .int k' b => if k = k' then some (decide (a = b)) else none
      | .str, .str a, .str b => some (decide (a = b))
      | .ptr, .nilp, .nilp => some true
      | .ptr, .nilp, .ptr _ _ _ => some false
      | .ptr, .ptr _ _ _, .nilp => some false
      | .strct fs, .agg xs, .agg ys => aEqF T (aEq T d) (.agg xs) (.agg ys) fs
      | .iface, .nili, .nili => some true
      | .slice _, .nls, .nls => some true
      | .slice _, .nne, .nls => some false
      | .slice _, .slc _ _ _ _, .nls => some false
      | .slice _, .lst (_ :: _), .nls => some false
      | _, _, _ => none
def aEqA (T : TT) (t : TypeId) (x y : AVal) : Option Bool := match T t with
  | some ti => match ti.k with
    | .array n e => match x, y with
      | .agg xs, .agg ys => match T e with
        | some ei => aEqF T (aEq T 4) (.agg xs) (.agg ys) ((List.range n).map fun i => (i * ei.size, e))
        | none => none
      | _, _ => none
    | _ => none
  | none => none
def aEqB (T : TT) (t : TypeId) (x y : AVal) : Option Bool := match aEq T 4 t x y with
  | some b => some b
  | none => aEqA T t x y
def aCmp (op : BinOp) (r : Option Bool) : Option AVal :=
  match op with
  | .eql => match r with
    | some b => some (.bool b)
    | none => none
  | .neq => match r with
    | some b => some (.bool (!b))
    | none => none
  | _ => none
def aIntB (op : BinOp) (k k' : IntKind) (a b : Int) : Option AVal :=
  match op with
  | .shl => if b < 0 then none else some (.int k (k.wrap (a * 2 ^ (min b.toNat k.bits))))
  | .shr => if b < 0 then none else some (.int k (a.fdiv (2 ^ (min b.toNat k.bits))))
  | op => if k = k' then aInt op k a b else none
def aBin (T : TT) (op : BinOp) (t : TypeId) (x y : AVal) : Option AVal :=
  match x, y with
  | .int k a, .int k' b => aIntB op k k' a b
  | .str a, .str b => aStr op a b
  | x, y => aCmp op (aEqB T t x y)
def aUn (op : UnOp) (x : AVal) : Option AVal :=
  match op, x with
  | .neg, .int k n => some (.int k (k.wrap (0 - n)))
  | .xor, .int k n => aInt .xor k (if k.signed then -1 else k.max) n
  | .not, .bool b => some (.bool (!b))
  | _, _ => none
def bytesOfElems : List AVal → Option (List UInt8)
  | [] => some []
  | .int .u8 n :: l => match bytesOfElems l with
    | some r => some (UInt8.ofNat n.toNat :: r)
    | none => none
  | _ => none
def aConv (T : TT) (H : Heap) (src dst : TypeId) (x : AVal) : Option AVal :=
  match T src, T dst with
  | some s, some d => match d.k, x with
    | .int k, .int _ n => some (.int k (k.wrap n))
    | .str, .str b => some (.str b)
    | .str, v => match s.k with
      | .slice e => match T e with
        | some ei => match ei.k, elems H v with
          | .int .u8, some xs => match v with
            | .str _ => none
            | _ => match bytesOfElems xs with
              | some l => some (.str ⟨l.toArray⟩)
              | none => none
          | _, _ => none
        | none => none
      | _ => none
    | _, _ => none
  | _, _ => none
def aField (T : TT) (t : TypeId) (x : AVal) (f : Nat) : Option AVal :=
  match T t with
  | some ti => match ti.k with
    | .strct fs => match fs[f]? with
      | some (off, ft) => match T ft with
        | some fi => match x with
          | .agg _ => part fi x off
          | _ => none
        | none => none
      | none => none
    | _ => none
  | none => none
def aFieldAddr (T : TT) (t : TypeId) (x : AVal) (f : Nat) : Option AVal :=
  match T t with
  | some ti => match ti.k with
    | .strct fs => match fs[f]? with
      | some (off, ft) => match T ft with
        | some fi => if fi.size = 0 then none else match x with
          | .ptr q i o => some (.ptr q i (o + off))
          | .ept y o => some (.ept y (o + off))
          | _ => none
        | none => none
      | none => none
    | _ => none
  | none => none
def aIndexAddr (T : TT) (t : TypeId) (x ix : AVal) : Option AVal :=
  match T t, ix with
  | some ti, .int _ i => match ti.k with
    | .slice e => match T e with
      | some ei => match x with
        | .lst xs => if 0 ≤ i ∧ i < xs.length then (match xs[i.toNat]? with
            | some y => if y.cells.length = ei.size then some (.ept y 0) else none
            | none => none) else none
        | .slc q w off len => if 0 ≤ i ∧ i < len ∧ w = ei.size then some (.ptr q (off + i.toNat) 0) else none
        | _ => none
      | none => none
    | .array n e => match T e with
      | some ei => if 0 ≤ i ∧ i < n then (match x with
          | .ptr q j o => some (.ptr q j (o + i.toNat * ei.size))
          | .ept y o => some (.ept y (o + i.toNat * ei.size))
          | _ => none) else none
      | none => none
    | _ => none
  | _, _ => none
def aIndex (T : TT) (t : TypeId) (x ix : AVal) : Option AVal :=
  match T t, ix with
  | some ti, .int _ i => match ti.k, x with
    | .array n e, .agg _ => match T e with
      | some ei => if 0 ≤ i ∧ i < n then part ei x (i.toNat * ei.size) else none
      | none => none
    | .str, .str s => if 0 ≤ i ∧ i < s.size then some (.int .u8 (s.data.toList.getD i.toNat 0).toNat) else none
    | _, _ => none
  | _, _ => none
def aBound (v : Option AVal) (d : Nat) (top : Nat) : Option Nat :=
  match v with
  | none => some d
  | some (.int _ n) => if 0 ≤ n ∧ n ≤ top then some n.toNat else none
  | _ => none
def aSlice (T : TT) (t : TypeId) (x : AVal) (lo hi mx : Option AVal) : Option AVal :=
  match T t with
  | none => none
  | some ti => match mx with
    | some _ => none
    | none => match ti.k, x with
      | .str, .str s => match aBound hi s.size s.size with
        | some h => match aBound lo 0 h with
          | some l => some (.str (s.extract l h))
          | none => none
        | none => none
      | .slice e, .emp => match T e with
        | some _ => match aBound hi 0 0 with
          | some h => match aBound lo 0 h with
            | some _ => some .emp
            | none => none
          | none => none
        | none => none
      | .slice e, .lst xs => match T e with
        | some ei => match aBound hi xs.length xs.length with
          | some h => match aBound lo 0 h with
            | some l => if (xs.all fun x => x.cells.length == ei.size) = true then some (.lst ((xs.take h).drop l)) else none
            | none => none
          | none => none
        | none => none
      | .slice e, .slc q w off len => match T e with
        | some ei => match aBound hi len len with
          | some h => match aBound lo 0 h with
            | some l => if w = ei.size then some (.slc q w (off + l) (h - l)) else none
            | none => none
          | none => none
        | none => none
      | _, _ => none
def aSliceX (T : TT) (H : Heap) (t : TypeId) (x : AVal) (lo hi mx : Option AVal) : Option AVal :=
  match T t with
  | none => none
  | some ti => match ti.k, x with
    | .slice e, .slc q w off len => match T e, H q with
      | some ei, some (.row _ xs) => if w = ei.size ∧ off ≤ xs.length then (match mx with
        | none => match aBound hi len (xs.length - off) with
          | some h => match aBound lo 0 h with
            | some l => some (.slc q w (off + l) (h - l))
            | none => none
          | none => none
        | some _ => match aBound mx 0 (xs.length - off), hi with
          | some m, some _ => match aBound hi 0 m with
            | some h => match aBound lo 0 h with
              | some _ => some .undef
              | none => none
            | none => none
          | _, _ => none) else none
      | _, _ => none
    | _, _ => none
def fillA : List AVal → List (Nat × Nat) → List (Nat × AVal) → Option (List AVal)
  | cs, _, [] => some cs
  | cs, places, (i, v) :: rest => match places[i]? with
    | none => none
    | some (off, size) => if v.cells.length = size ∧ off + size ≤ cs.length then fillA (cs.take off ++ v.cells ++ cs.drop (off + size)) places rest else none
def placesOf (T : TT) : List (Nat × TypeId) → Option (List (Nat × Nat))
  | [] => some []
  | (off, t) :: r => match T t with
    | some ti => match placesOf T r with
      | some l => some ((off, ti.size) :: l)
      | none => none
    | none => none
def evParts (e : Env) : List (Nat × Operand) → Option (List (Nat × AVal))
  | [] => some []
  | (i, x) :: r => match ev e x with
    | some v => match evParts e r with
      | some l => if v.isTup = false then some ((i, v) :: l) else none
      | none => none
    | none => none
def aBuild (T : TT) (t : TypeId) (ps : List (Nat × AVal)) : Option AVal :=
  match T t with
  | some ti => match ti.k with
    | .strct fs => match placesOf T fs with
      | some pl => match fillA ti.zero.cells pl ps with
        | some cs => some (.agg cs)
        | none => none
      | none => none
    | .array n e => match T e with
      | some ei => match fillA ti.zero.cells ((List.range n).map fun i => (i * ei.size, ei.size)) ps with
        | some cs => some (.agg cs)
        | none => none
      | none => none
    | _ => none
  | none => none
def inOrder : Nat → List (Nat × AVal) → Bool
  | _, [] => true
  | i, (j, _) :: r => i == j && inOrder (i + 1) r
def aBuildSlice (T : TT) (t : TypeId) (len : Nat) (ps : List (Nat × AVal)) : Option AVal :=
  match T t with
  | some ti => match ti.k with
    | .slice e => match T e with
      | some ei => if len = 0 ∧ ps.length = 0 then some .emp
        else if ps.length = len ∧ inOrder 0 ps = true ∧ (ps.all fun p => p.2.cells.length == ei.size) = true ∧ len * ei.size ≤ 65536 then some (.lst (ps.map (·.2))) else none
      | none => none
    | _ => none
  | none => none
def srcOk (T : TT) : List TypeId → Bool
  | [_, t] => match T t with
    | some ti => match ti.k with
      | .slice _ | .str => true
      | _ => false
    | none => false
  | _ => false
def aAppend (T : TT) (ν : Nm) (H : Heap) (t : TypeId) (x y : AVal) : Option (AVal × Heap) :=
  match T t with
  | some ti => match ti.k with
    | .slice e => match T e with
      | some ei => match elems H y with
        | some ys => if (ys.all fun v => v.cells.length == ei.size) then (match x with
          | .nls => if ys.length = 0 then some (.nls, H)
            else if ys.length * (ei.bytes + 1) ≤ 1099511627776 then some (.slc ν ei.size 0 ys.length, H.put ν (some (.row ei.size ys))) else none
          | .emp => if ys.length = 0 then some (.emp, H)
            else if ys.length * (ei.bytes + 1) ≤ 1099511627776 then some (.slc ν ei.size 0 ys.length, H.put ν (some (.row ei.size ys))) else none
          | .slc q w off len => if w = ei.size ∧ off = 0 then (match H q with
            | some (.row w' xs) =>
              if len + ys.length ≤ xs.length then some (.slc q w 0 (len + ys.length), H.put q (some (.row w' (xs.take len ++ ys ++ xs.drop (len + ys.length)))))
              else if len ≤ xs.length ∧ (len + ys.length) * (ei.bytes + 1) ≤ 1099511627776 then some (.slc ν w 0 (len + ys.length), (H.put q none).put ν (some (.row w (xs.take len ++ ys))))
              else none
            | _ => none) else none
          | _ => none) else none
        | none => none
      | none => none
    | _ => none
  | none => none
def aClear (T : TT) (H : Heap) (t : TypeId) (x : AVal) : Option Heap :=
  match T t with
  | some ti => match ti.k with
    | .slice e => match T e with
      | some ei => match x with
        | .emp => some H
        | .slc q w off len => match H q with
          | some (.row w' xs) => if w = ei.size ∧ off + len ≤ xs.length ∧ ei.zero.cells.length = ei.size then some (H.put q (some (.row w' (xs.take off ++ List.replicate len ei.zero ++ xs.drop (off + len))))) else none
          | _ => none
        | _ => none
      | none => none
    | _ => none
  | none => none
def kSame1 : AVal → AVal → Bool
  | .bool a, .bool b => a == b
  | .int j a, .int k b => decide (j = k) && decide (a = b)
  | .str a, .str b => decide (a = b)
  | _, _ => false
def kSames : List AVal → List AVal → Bool
  | [], [] => true
  | a :: as, b :: bs => kSame1 a b && kSames as bs
  | _, _ => false
def kSame : AVal → AVal → Bool
  | .agg as, .agg bs => kSames as bs
  | x, y => kSame1 x y
def aFind (T : TT) (kt : TypeId) (k : AVal) : List (AVal × AVal) → Nat → Option (Option Nat)
  | [], _ => some none
  | (k', _) :: r, i => match aEq T 4 kt k k' with
    | some true => if kSame k k' = true then some (some i) else none
    | some false => aFind T kt k r (i + 1)
    | none => none
def aLookup (T : TT) (H : Heap) (t : TypeId) (m k : AVal) (ok : Bool) : Option AVal :=
  match T t with
  | some ti => match ti.k with
    | .map kt et => match T et, aEq T 4 kt k k with
      | some eti, some _ => match m with
        | .map q => match H q with
          | some (.map es) => match aFind T kt k es 0 with
            | some (some i) => match es[i]? with
              | some p => some (if ok = true then .tup [p.2, .bool true] else p.2)
              | none => none
            | some none => some (if ok = true then .tup [eti.zero, .bool false] else eti.zero)
            | none => none
          | _ => none
        | _ => none
      | _, _ => none
    | _ => none
  | none => none
def aMapSet (T : TT) (H : Heap) (t : TypeId) (m k v : AVal) : Option Heap :=
  match T t with
  | some ti => match ti.k with
    | .map kt _ => match aEq T 4 kt k k with
      | some _ => match m with
        | .map q => match H q with
          | some (.map es) => match aFind T kt k es 0 with
            | some (some i) => some (H.put q (some (.map (es.set i (k, v)))))
            | some none => some (H.put q (some (.map (es ++ [(k, v)]))))
            | none => none
          | _ => none
        | _ => none
      | none => none
    | _ => none
  | none => none
def freeze (ν : Nm) (H : Heap) : Nat → AVal → AVal
  | 0, v => v
  | n + 1, v => match v with
    | .emp => .lst []
    | .nls => .lst []
    | .slc q w off len => if under ν q then (match H q with
        | some (.row _ xs) => if off + len ≤ xs.length then .lst (((xs.drop off).take len).map (freeze ν H n)) else v
        | _ => v) else v
    | .agg cs => .agg (cs.map (freeze ν H n))
    | .tup vs => .tup (vs.map (freeze ν H n))
    | v => v
def reach (ν : Nm) (H : Heap) : Nat → AVal → List Nm
  | 0, _ => []
  | n + 1, v => match v with
    | .slc q w off len => if under ν q then (match H q with
        | some (.row _ xs) => if off + len ≤ xs.length then q :: (((xs.drop off).take len).map (reach ν H n)).flatten else []
        | _ => []) else []
    | .agg cs => (cs.map (reach ν H n)).flatten
    | .tup vs => (vs.map (reach ν H n)).flatten
    | _ => []
def lose (D : List Nm) (H : Heap) : Heap := fun q => if D.contains q then none else H q
def only (D : List Nm) (H : Heap) : Heap := fun q => if D.contains q then H q else none
def lookA (H : Heap) : AVal → AVal
  | .ptr q i off => match H q with
    | some (.row _ xs) => match xs[i]? with
      | some x => .ept (freeze [] H 7 x) off
      | none => .ptr q i off
    | _ => .ptr q i off
  | v => freeze [] H 8 v
def scalar : AVal → Bool
  | .bool _ | .int _ _ | .str _ => true
  | _ => false
def scalars : AVal → Bool
  | .tup vs => vs.all scalar
  | v => scalar v
def aMinMax (isMax : Bool) : AVal → AVal → Option AVal
  | .int k x, .int _ y => some (.int k (if isMax then (if y > x then y else x) else (if y < x then y else x)))
  | _, _ => none
def aMinMaxAll (isMax : Bool) : AVal → List AVal → Option AVal
  | x, [] => some x
  | x, y :: r => match aMinMax isMax x y with
    | some z => aMinMaxAll isMax z r
    | none => none
def zeroCellsOk (ti : TI) : Bool := ti.zero.cells.length == ti.size
def aAlloc (T : TT) (ν : Nm) (H : Heap) (t : TypeId) : Option (AVal × Heap) :=
  match T t with
  | some ti => match ti.k with
    | .bld => some (.ptr ν 0 0, H.put ν (some (.bld ⟨#[]⟩)))
    | _ => if zeroCellsOk ti then some (.ptr ν 0 0, H.put ν (some (.row ti.size [ti.zero]))) else none
  | none => none
def aBox (T : TT) (ν : Nm) (H : Heap) (t : TypeId) (v : AVal) : Option (AVal × Heap) :=
  match T t with
  | some ti => if v.isTup = false ∧ v.cells.length = ti.size then some (.ptr ν 0 0, H.put ν (some (.row ti.size [v]))) else none
  | none => none
def aMakeSlice (T : TT) (ν : Nm) (H : Heap) (t : TypeId) (l c : AVal) : Option (AVal × Heap) :=
  match T t, l, c with
  | some ti, .int _ n, .int _ m => match ti.k with
    | .slice e => match T e with
      | some ei => if 0 ≤ n ∧ n ≤ m ∧ m * (ei.bytes + 1) ≤ 1099511627776 ∧ zeroCellsOk ei = true then some (.slc ν ei.size 0 n.toNat, H.put ν (some (.row ei.size (List.replicate n.toNat ei.zero)))) else none
      | none => none
    | _ => none
  | _, _, _ => none
def aCopy (T : TT) (H : Heap) (t : TypeId) (d s : AVal) : Option (AVal × Heap) :=
  match T t with
  | some ti => match ti.k with
    | .slice e => match T e with
      | some ei => match elems H s with
        | some ys => if (ys.all fun v => v.cells.length == ei.size) then (match d with
          | .slc q w off len => if w = ei.size ∧ 0 < len then (match H q with
            | some (.row w' xs) => if off + len ≤ xs.length then
                some (.int .i64 (Nat.min ys.length len), H.put q (some (.row w' (xs.take off ++ ys.take (Nat.min ys.length len) ++ xs.drop (off + Nat.min ys.length len))))) else none
            | _ => none) else none
          | _ => none) else none
        | none => none
      | none => none
    | _ => none
  | none => none
def lenKind (T : TT) (ts : List TypeId) (x : AVal) : Bool := match ts with
  | t :: _ => match T t with
    | some ti => match ti.k, x with
      | .slice _, .str _ => false
      | .slice _, .nilm => false
      | .slice _, .map _ => false
      | .slice _, _ => true
      | .str, .str _ => true
      | _, _ => false
    | none => false
  | [] => false
def aBuiltin (T : TT) (ν : Nm) (H : Heap) (b : Builtin) (ts : List TypeId) (us : List AVal) : Option (AVal × Heap) :=
  match b, us with
  | .len, [x] => if lenKind T ts x = true then (match lenOf H x with
    | some n => some (.int .i64 n, H)
    | none => none) else none
  | .clear, [x] => match ts with
    | [t] => match aClear T H t x with
      | some h => some (.tup [], h)
      | none => none
    | _ => none
  | .append, [x, y] => match ts with
    | [t, t2] => if srcOk T [t, t2] = true then aAppend T ν H t x y else none
    | _ => none
  | .copy, [x, y] => match ts with
    | [t, _] => aCopy T H t x y
    | _ => none
  | .min, x :: r => match aMinMaxAll false x r with
    | some v => some (v, H)
    | none => none
  | .max, x :: r => match aMinMaxAll true x r with
    | some v => some (v, H)
    | none => none
  | _, _ => none
def nilOk (x y : Operand) : AVal → Bool
  | .nili => Region.isConst x || Region.isConst y
  | _ => true
def aop (c : Cfg) (ν : Nm) (e : Env) (H : Heap) (o : Oper) : Option (AVal × Heap) :=
  let p (v : Option AVal) : Option (AVal × Heap) := match v with
    | some v => some (v, H)
    | none => none
  let q (h : Option Heap) : Option (AVal × Heap) := match h with
    | some h => some (.undef, h)
    | none => none
  match o.op with
  | .move x | .assign x => p (ev e x)
  | .pick x a b => match ev e x with
    | some (.bool true) => p (ev e a)
    | some (.bool false) => p (ev e b)
    | _ => none
  | .alloc t => aAlloc c.T ν H t
  | .box t x => match ev e x with
    | some v => aBox c.T ν H t v
    | none => none
  | .build t ps => match evParts e ps.toList with
    | some l => p (aBuild c.T t l)
    | none => none
  | .buildSlice t len ps => match evParts e ps.toList with
    | some l => p (aBuildSlice c.T t len l)
    | none => none
  | .load t a => match ev e a with
    | some a => p (aLoad c.T H t a)
    | none => none
  | .store t a x => match ev e a, ev e x with
    | some a, some v => q (aStore c.T H t a v)
    | _, _ => none
  | .nilCheck x => match ev e x with
    | some (.ptr a i f) => some (.ptr a i f, H)
    | some (.ept a f) => some (.ept a f, H)
    | some (.ifc t v) => some (.ifc t v, H)
    | some (.fn f l) => some (.fn f l, H)
    | some (.bfn f l) => some (.bfn f l, H)
    | _ => none
  | .binOp op t x y _ => match ev e x, ev e y with
    | some a, some b => if nilOk x y a = true then p (aBin c.T op t a b) else none
    | _, _ => none
  | .unOp op _ x => match ev e x with
    | some a => p (aUn op a)
    | none => none
  | .convert s d x => match ev e x with
    | some a => p (aConv c.T H s d a)
    | none => none
  | .makeInterface t x => match ev e x with
    | some a => match c.T t with
      | some ti => match ti.k with
        | .iface => none
        | _ => some (.ifc t a, H)
      | none => none
    | none => none
  | .makeFunc fn first cap => match fn with
    | .func f => if first.size = 0 then (match evs e cap.toList with
      | some l => some (.fn f l, H)
      | none => none) else if cap.size = 0 then (match evs e first.toList with
      | some l => some (.bfn f l, H)
      | none => none) else none
    | _ => none
  | .makeSlice t l m => match ev e l, ev e m with
    | some a, some b => aMakeSlice c.T ν H t a b
    | _, _ => none
  | .makeMap _ r => match r with
    | none => some (.map ν, H.put ν (some (.map [])))
    | some _ => none
  | .lookup t m k ok => match ev e m, ev e k with
    | some a, some b => p (aLookup c.T H t a b ok)
    | _, _ => none
  | .mapUpdate t m k x => match ev e m, ev e k with
    | some a, some b => match ev e x with
      | some v => q (aMapSet c.T H t a b v)
      | none => none
    | _, _ => none
  | .slice t x lo hi mx => match ev e x with
    | some v => match (match lo with | none => some none | some o => (ev e o).map some), (match hi with | none => some none | some o => (ev e o).map some), (match mx with | none => some none | some o => (ev e o).map some) with
      | some l, some h, some m => p (match aSlice c.T t v l h m with
        | some r => some r
        | none => if (lo.isSome && hi.isSome) = true then aSliceX c.T H t v l h m else none)
      | _, _, _ => none
    | none => none
  | .fieldAddr t x f => match ev e x with
    | some v => p (aFieldAddr c.T t v f)
    | none => none
  | .field t x f => match ev e x with
    | some v => p (aField c.T t v f)
    | none => none
  | .indexAddr t x i => match ev e x, ev e i with
    | some v, some j => p (aIndexAddr c.T t v j)
    | _, _ => none
  | .index t x i => match ev e x, ev e i with
    | some v, some j => p (aIndex c.T t v j)
    | _, _ => none
  | .typeAssert x _ t ok => if ok = true then none else match ev e x, c.T t with
    | some (.ifc u v), some ti => match ti.k with
      | .iface => none
      | _ => if u = t then some (v, H) else none
    | _, _ => none
  | .extract x i => match ev e x with
    | some (.tup vs) => p vs[i]?
    | _ => none
  | .call k => match k.callee with
    | .builtin b => match evs e k.args.toList with
      | some us => aBuiltin c.T ν H b k.argTypes.toList us
      | none => none
    | _ => none
  | _ => none
def callOf (c : Cfg) (e : Env) (H : Heap) (o : Oper) : Option (FuncId × List AVal) :=
  match o.op with
  | .call k => match k.callee with
    | .value f => match ev e f, evs e k.args.toList with
      | some (.fn g cap), some l => some (g, l ++ cap)
      | some (.bfn g fs), some l => some (g, fs ++ l)
      | _, _ => none
    | .invoke x m => match ev e x, evs e k.args.toList with
      | some (.ifc t v), some l => match c.meth t m with
        | some (g, none) => some (g, v :: l)
        | some (g, some el) => match aLoad c.T H el v with
          | some u => some (g, u :: l)
          | none => none
        | none => none
      | _, _ => none
    | .builtin _ => none
  | _ => none
def isCall : Op → Bool
  | .call k => match k.callee with
    | .builtin _ => false
    | _ => true
  | _ => false
def ayielded (ops : Array Oper) (e : Env) (j : Nat) : Option Bool :=
  match ((ops[j]?).bind (·.dst)).bind (e[·]?) with
  | some (.bool b) => some b
  | _ => none
def rvOf (T : TT) (e : Env) (H : Heap) : RV → Option AVal
  | .tmp t => some (e.getD t .undef)
  | .cell a t => aLoad T H t (e.getD a .undef)
def rvsOf (T : TT) (e : Env) (H : Heap) : List RV → Option (List AVal)
  | [] => some []
  | r :: l => match rvOf T e H r with
    | some v => match rvsOf T e H l with
      | some vs => some (v :: vs)
      | none => none
    | none => none
def oneOf : List AVal → AVal
  | [v] => v
  | vs => .tup vs
def resOf (T : TT) (fi : FI) (e : Env) (H : Heap) : Option AVal := match rvsOf T e H fi.results with
  | some vs => some (oneOf vs)
  | none => none
inductive AOut where
  | norm | exit (id : Nat) | ret
abbrev RecA := Nm → Code → Env → Heap → Option (AOut × Env × Heap)
def runF (T : TT) (rec : RecA) (fi : FI) (ν : Nm) (args : List AVal) (H : Heap) : Option (AVal × Heap) :=
  match rec ν fi.body (args ++ List.replicate (fi.ntmps - args.length) .undef) H with
  | some (.exit _, _, _) => none
  | some (_, e, H1) => match resOf T fi e H1 with
    | some v => some (v, H1)
    | none => none
  | none => none
def aGiven (g : Given) (args : List AVal) (H : Heap) : Option (AVal × Heap) :=
  match g, args with
  | .bWrite, [.ptr q 0 0, .str s] => match H q with
    | some (.bld b) => if b.size + s.size ≤ 1099511627776 then some (.tup [.int .i64 s.size, .nili], H.put q (some (.bld (b ++ s)))) else none
    | _ => none
  | .bString, [.ptr q 0 0] => match H q with
    | some (.bld b) => some (.str b, H.put q none)
    | _ => none
  | _, _ => none
def noneIn : List AVal → Bool
  | [.emp] => true
  | [.lst []] => true
  | _ => false
def isEmp : AVal → Bool
  | .emp => true
  | .nls => true
  | _ => false
def acall (c : Cfg) (rec : RecA) (ν : Nm) (f : FuncId) (args : List AVal) (H : Heap) : Option (AVal × Heap) :=
  match c.given f with
  | some g => aGiven g args H
  | none => match c.fn f with
    | none => none
    | some fi => match fi.mode with
      | .pure => match runF c.T rec fi ν args (fun _ => none) with
        | some (v, H1) => some (freeze ν H1 8 v, H)
        | none => none
      | .borrow => match runF c.T rec fi ν (args.map (freeze [] H 8)) (fun _ => none) with
        | some (v, H1) => if scalars v then some (v, H) else none
        | none => none
      | .full => match runF c.T rec fi ν args H with
        | some (v, H1) => some (freeze ν H1 8 v, rest ν H H1)
        | none => none
      | .keep => runF c.T rec fi ν args H
      | .clone => if noneIn args = true then (match runF c.T rec fi ν [.nls] (fun _ => none), runF c.T rec fi ν [.nne] (fun _ => none) with
          | some (a, _), some (b, _) => if isEmp a && isEmp b then some (.emp, H) else none
          | _, _ => none) else runF c.T rec fi ν args H
      | .look => match runF c.T rec fi ν (args.map (lookA H)) (fun _ => none) with
        | some (v, H1) => if scalars v then some (v, H) else none
        | none => none
      | .cast => match runF c.T rec fi ν args H with
        | some (v, H1) => some (freeze [] H1 8 v, lose (reach [] H1 8 v) H1)
        | none => none
      | .give => runF c.T rec fi ν (args.map (freeze [] H 8)) (lose (reach [] H 9 (.tup args)) H)
      | .giveC => match runF c.T rec fi ν (args.map (freeze [] H 8)) (lose (reach [] H 9 (.tup args)) H) with
        | some (v, H1) => some (freeze [] H1 8 v, lose (reach [] H1 8 v) H1)
        | none => none
def aoper (c : Cfg) (rec : RecA) (ν : Nm) (e : Env) (H : Heap) (o : Oper) : Option (AVal × Heap) :=
  if isCall o.op then (match callOf c e H o with
    | some (f, args) => acall c rec ν f args H
    | none => none) else aop c ν e H o
def aops (c : Cfg) (rec : RecA) (ν : Nm) (all : Array Oper) : List Oper → Nat → Env → Heap → Option (Env × Heap)
  | [], _, e, H => some (e, H)
  | o :: r, i, e, H =>
    if Region.wanted o (ayielded all e) then (match aoper c rec (i :: ν) e H o with
      | some (v, H1) => aops c rec ν all r (i + 1) (putT e o.dst v) H1
      | none => none)
    else aops c rec ν all r (i + 1) (putT e o.dst .undef) H
def rootOf (ops : Array Oper) : Nat → Tmp → Option Tmp
  | 0, _ => none
  | n + 1, t => match ops.toList.find? (fun o => o.dst == some t) with
    | none => some t
    | some o => match o.op with
      | .fieldAddr _ x _ => match x with
        | .tmp x => rootOf ops n x
        | _ => none
      | .indexAddr _ x _ => match x with
        | .tmp x => rootOf ops n x
        | _ => none
      | .nilCheck x => match x with
        | .tmp x => rootOf ops n x
        | _ => none
      | .load _ x => match x with
        | .tmp x => rootOf ops n x
        | _ => none
      | .move x => match x with
        | .tmp x => rootOf ops n x
        | _ => none
      | .assign x => match x with
        | .tmp x => rootOf ops n x
        | _ => none
      | _ => none
def flagged (ops : Array Oper) (rs : List Tmp) (o : Oper) : Bool := match o.op with
  | .load _ x => match x with
    | .tmp a => match rootOf ops 8 a with
      | some r => rs.contains r
      | none => false
    | _ => false
  | _ => false
def lastD (ops : Array Oper) : Nat := match ops.back? with
  | some o => match o.dst with
    | some d => d
    | none => 0
  | none => 0
def Cfg.roots (c : Cfg) (id : Nat) (ops : Array Oper) : List Tmp := c.fl id ops.size (lastD ops)
def rootNames (e : Env) : List Tmp → List Nm
  | [] => []
  | t :: r => match e.getD t .undef with
    | .ptr q _ _ => q :: rootNames e r
    | .slc q _ _ _ => q :: rootNames e r
    | _ => rootNames e r
def deepAt (H : Heap) (j : Nat) : AVal → List Nm
  | .ptr q i _ => match H q with
    | some (.row _ xs) => match xs[i]? with
      | some x => match x.cells[j]? with
        | some (.slc p _ _ _) => [p]
        | _ => []
      | none => []
    | _ => []
  | _ => []
def deepNames (H : Heap) (e : Env) : List Tmp → List Nm
  | [] => []
  | t :: r => bif Nat.ble 1000000 t then deepAt H (t / 1000000 - 1) (e.getD (t % 1000000) .undef) ++ deepNames H e r else deepNames H e r
def asideN (H : Heap) (e : Env) (rs : List Tmp) : List Nm := rootNames e rs ++ deepNames H e rs
def onlyL (qs : List Nm) (H : Heap) : Heap := fun q => if q ∈ qs then H q else none
def hideL (qs : List Nm) (H : Heap) : Heap := fun q => if q ∈ qs then none else H q
def backL (qs : List Nm) (H H1 : Heap) : Heap := fun q => if q ∈ qs then H q else H1 q
def aoperF (c : Cfg) (rec : RecA) (all : Array Oper) (rs : List Tmp) (HK : Heap) (ν : Nm) (e : Env) (H : Heap) (o : Oper) : Option (AVal × Heap) :=
  if flagged all rs o then (match aop c ν e HK o with
    | some (v, _) => some (v, H)
    | none => none) else aoper c rec ν e H o
def aopsF (c : Cfg) (rec : RecA) (ν : Nm) (all : Array Oper) (rs : List Tmp) (HK : Heap) : List Oper → Nat → Env → Heap → Option (Env × Heap)
  | [], _, e, H => some (e, H)
  | o :: r, i, e, H =>
    if Region.wanted o (ayielded all e) then (match aoperF c rec all rs HK (i :: ν) e H o with
      | some (v, H1) => aopsF c rec ν all rs HK r (i + 1) (putT e o.dst v) H1
      | none => none)
    else aopsF c rec ν all rs HK r (i + 1) (putT e o.dst .undef) H
def aregion (c : Cfg) (rec : RecA) (ν : Nm) (id : Nat) (ops : Array Oper) (d : Bool) (e : Env) (H : Heap) : Option (Env × Heap) :=
  match (if d = true then c.roots id ops else []) with
  | [] => aops c rec ν ops ops.toList 0 e H
  | r :: rs => match aopsF c rec ν ops (r :: rs) (onlyL (asideN H e (r :: rs)) H) ops.toList 0 e (hideL (asideN H e (r :: rs)) H) with
    | some (e1, H1) => some (e1, backL (asideN H e (r :: rs)) H H1)
    | none => none
def aexec (c : Cfg) : Nat → RecA
  | 0, _, _, _, _ => none
  | k + 1, ν, code, e, H => match code with
    | .skip => some (.norm, e, H)
    | .region id ops d => match aregion c (aexec c k) ν id ops d e H with
      | some (e1, H1) => some (.norm, e1, H1)
      | none => none
    | .seq a b => match aexec c k (0 :: ν) a e H with
      | some (.norm, e1, H1) => aexec c k (1 :: ν) b e1 H1
      | r => r
    | .cond x a b => match ev e x with
      | some (.bool true) => aexec c k ν a e H
      | some (.bool false) => aexec c k ν b e H
      | _ => none
    | .block id a => match aexec c k ν a e H with
      | some (.exit j, e1, H1) => if j = id then some (.norm, e1, H1) else some (.exit j, e1, H1)
      | r => r
    | .loop a => match aexec c k (0 :: ν) a e H with
      | some (.norm, e1, H1) => aexec c k (1 :: ν) (.loop a) e1 H1
      | r => r
    | .exit id => some (.exit id, e, H)
    | .ret => some (.ret, e, H)
    | _ => none
end Go.Proofs.YtfkgdlfponfimaaGreat.X
