/- The operations of the abstract machine: what each yields, as a function. Conditions: none. -/
import Derived.Test.YtlaipllgmddkiaaGreatZAa
set_option linter.all false
namespace Go.Ax
open Go Go.RowKit
inductive AArg where
 | t (n : Nat)
 | c (v : AVal)
def aget (T : List AVal) : AArg → AVal
 | .t n => T.getD n .top
 | .c v => v
inductive ABirth where
 | new (zero : List AVal)
 | box (x : AArg)
 | bsl (size n : Nat) (zero : List AVal) (parts : List (Nat × AArg))
 | mks (size bytes : Nat) (zero : List AVal) (l c : AArg)
 | mkm
inductive AOp where
 | mv (x : AArg)
 | pick (c a b : AArg)
 | bin (op : BinOp) (x y : AArg)
 | sbin (op : BinOp) (x y : AArg)
 | eqb (neg : Bool) (x y : AArg)
 | eqs (neg : Bool) (ks : List Nat) (x y : AArg)
 | isNil (neg : Bool) (k : Nat) (x : AArg)
 | un (op : UnOp) (x : AArg)
 | fld (off : Nat) (x : AArg)
 | ld (n : Option Nat) (x : AArg)
 | st (size : Nat) (x y : AArg)
 | nck (x : AArg)
 | ixa (n : Nat) (size : Nat) (x i : AArg)
 | ixs (size : Nat) (x i : AArg)
 | ixstr (x i : AArg)
 | ixagg (n size : Nat) (agg : Bool) (x i : AArg)
 | part (off : Nat) (n : Option Nat) (x : AArg)
 | len (str : Bool) (x : AArg)
 | ext (x : AArg) (i : Nat)
 | build (zero : List AVal) (parts : List (Nat × Nat × AArg))
 | bsl (size n : Nat) (zero : List AVal) (parts : List (Nat × AArg))
 | box (x : AArg)
 | new (zero : List AVal)
 | mks (size bytes : Nat) (zero : List AVal) (l c : AArg)
 | app (size bytes : Nat) (s x : AArg)
 | rng (x : AArg)
 | nxt (x : AArg)
 | sla (n : Nat) (x : AArg) (lo hi : Option AArg)
 | sls (size : Nat) (x : AArg) (lo hi mx : Option AArg)
 | sstr (x : AArg) (lo hi : Option AArg)
 | mxn (mx : Bool) (l : List AArg)
 | cvt (k : IntKind) (x : AArg)
 | i2s (x : AArg)
 | b2s (x : AArg)
 | s2b (x : AArg)
 | call (f : FuncId) (args : List AArg)
 | callv (x : AArg) (args : List AArg)
 | mkf (f : FuncId) (caps : List AArg)
 | mkm
 | mlk (zero : AVal) (x k : AArg)
 | mup (x k v : AArg)
 | cpy (size : Nat) (d s : AArg)
 | born (k : Nat) (b : ABirth)
def ABirth.toOp : ABirth → AOp
 | .new z => .new z
 | .box x => .box x
 | .bsl s n z p => .bsl s n z p
 | .mks s b z l c => .mks s b z l c
 | .mkm => .mkm
structure AOper where
 dst : Option Nat
 op : AOp
 guard : Option (Nat × Bool)
abbrev W1 (d : Nat) (x : AOp) : AOper := ⟨some d, x, none⟩
abbrev W2 (d g : Nat) (b : Bool) (x : AOp) : AOper := ⟨some d, x, some (g, b)⟩
abbrev zV (d x : Nat) : AOper := ⟨some d, .mv (.t x), none⟩
abbrev zL (d n x : Nat) : AOper := ⟨some d, .ld (some n) (.t x), none⟩
abbrev zM (d x : Nat) : AOper := ⟨some d, .ld none (.t x), none⟩
abbrev zF (d n x : Nat) : AOper := ⟨some d, .fld n (.t x), none⟩
abbrev zN (d x : Nat) : AOper := ⟨some d, .un .not (.t x), none⟩
abbrev zS (n x y : Nat) : AOper := ⟨none, .st n (.t x) (.t y), none⟩
abbrev zE (d x n : Nat) : AOper := ⟨some d, .ext (.t x) n, none⟩
abbrev zU (d x g : Nat) (b : Bool) : AOper := ⟨some d, .mv (.t x), some (g, b)⟩
abbrev zI (n : Int) : AArg := .c (.int .i64 n)
def aBin (op : BinOp) (k : IntKind) (a b : Int) : Option AVal :=
 match op with
 | .add => some (.int k (k.wrap (a + b)))
 | .sub => some (.int k (k.wrap (a - b)))
 | .mul => some (.int k (k.wrap (a * b)))
 | .quo => if b = 0 then none else some (.int k (k.wrap (a.tdiv b)))
 | .rem => if b = 0 then none else some (.int k (a.tmod b))
 | .and => some (.int k (k.wrap ((BitVec.ofInt k.bits a &&& BitVec.ofInt k.bits b).toNat)))
 | .or => some (.int k (k.wrap ((BitVec.ofInt k.bits a ||| BitVec.ofInt k.bits b).toNat)))
 | .xor => some (.int k (k.wrap ((BitVec.ofInt k.bits a ^^^ BitVec.ofInt k.bits b).toNat)))
 | .andNot => some (.int k (k.wrap ((BitVec.ofInt k.bits a &&& ~~~ BitVec.ofInt k.bits b).toNat)))
 | .eql => some (.bool (decide (a = b)))
 | .neq => some (.bool (!decide (a = b)))
 | .lss => some (.bool (decide (a < b)))
 | .leq => some (.bool (decide (a ≤ b)))
 | .gtr => some (.bool (decide (b < a)))
 | .geq => some (.bool (decide (b ≤ a)))
 | _ => none
def aShift (op : BinOp) (k : IntKind) (a b : Int) : Option AVal :=
 if b < 0 then none else
 match op with
 | .shl => some (.int k (k.wrap (a * 2 ^ min b.toNat k.bits)))
 | .shr => some (.int k (a.fdiv (2 ^ min b.toNat k.bits)))
 | _ => none
def cellEq : Nat → AVal → AVal → Option Bool
 | 0, .int k a, .int k' b => if k = k' then some (decide (a = b)) else none
 | 1, .bool a, .bool b => some (decide (a = b))
 | 2, .str a, .str b => some (decide (a = b))
 | _, _, _ => none
def cellsEq : List Nat → List AVal → List AVal → Option Bool
 | [], [], [] => some true
 | k :: ks, a :: l, b :: r => match cellEq k a b, cellsEq ks l r with
  | some x, some y => some (x && y)
  | _, _ => none
 | _, _, _ => none
def aNil : Nat → AVal → Option Bool
 | 0, .lit (.pointer none) => some true
 | 0, .ptr .. => some false
 | 1, .lit (.slice none 0 0) => some true
 | 1, .slice _ _ _ len _ => if len = 0 then none else some false
 | 1, .isl .. => some false
 | 1, .acc _ n => some (decide (n = 0))
 | 2, .lit (.map none) => some true
 | 2, .map _ => some false
 | 3, .lit .nilFunc => some true
 | 3, .func .. => some false
 | 4, .lit .nilIface => some true
 | 4, .iface .. => some false
 | _, _ => none
def takeCells (H : Heap) (size : Nat) : AVal → Option (List (List AVal))
 | .slice o n st len _ => match H[o]? with
  | some (.arr s xs _) => if xs.length = n ∧ s = size then some ((xs.drop st).take len) else none
  | _ => none
 | .acc o n => match H[o]? with
  | some (.arr s xs _) => if xs.length = n ∧ s = size then some xs else none
  | _ => none
 | .isl o n i j len => match H[o]? with
  | some (.arr _ xs _) => if xs.length = n ∧ size = 1 then (match xs[i]? with
   | some x => some (((x.drop j).take len).map fun a => [a])
   | none => none) else (if len = 0 then some [] else none)
  | _ => none
 | .lit (.slice none 0 0) => some []
 | .str s => if size = 1 then some (s.map fun b => [.int .u8 b.toNat]) else none
 | _ => none
def srcCells (H : Heap) (size : Nat) (a : AVal) : Option (List (List AVal)) :=
 match a with
 | .str _ => none
 | a => takeCells H size a
def asCells : AVal → Option (List AVal)
 | .agg l => some l
 | .top | .tup _ => none
 | a => if a.cell then some [a] else none
def putParts (T : List AVal) : List AVal → List (Nat × Nat × AArg) → Option (List AVal)
 | cells, [] => some cells
 | cells, (off, size, x) :: r => match asCells (aget T x) with
  | some l => if l.length = size ∧ off + size ≤ cells.length then putParts T (putAt cells off l) r else none
  | none => none
def putElems (T : List AVal) (size : Nat) : List (List AVal) → List (Nat × AArg) → Option (List (List AVal))
 | xs, [] => some xs
 | xs, (i, x) :: r => match asCells (aget T x) with
  | some l => if l.length = size ∧ i < xs.length then putElems T size (xs.set i l) r else none
  | none => none
def aEnd (T : List AVal) (dflt : Nat) : Option AArg → Option Nat
 | none => some dflt
 | some x => match aget T x with
  | .int _ n => if 0 ≤ n then some n.toNat else none
  | _ => none
def aMx (mx : Bool) (T : List AVal) : AVal → List AArg → Option AVal
 | .int k n, [] => some (.int k n)
 | .int k n, x :: l => match aget T x with
  | .int _ m => aMx mx T (.int k (if mx then (if m > n then m else n) else (if m < n then m else n))) l
  | _ => none
 | _, _ => none
def mfind (k : IntKind) (n : Int) : List (AVal × AVal) → Option (Option AVal)
 | [] => some none
 | (.int k' m, v) :: r => if k = k' then (if n = m then some (some v) else mfind k n r) else none
 | _ :: _ => none
def mput (k : IntKind) (n : Int) (x : AVal) : List (AVal × AVal) → List (AVal × AVal)
 | [] => [(.int k n, x)]
 | (.int k' m, v) :: r => if n = m then (.int k n, x) :: r else (.int k' m, v) :: mput k n x r
 | e :: r => e :: mput k n x r
def putRows (xs : List (List AVal)) : Nat → List (List AVal) → List (List AVal)
 | _, [] => xs
 | i, y :: r => putRows (xs.set i y) (i + 1) r
def aStep (T : List AVal) (H : Heap) : AOp → Option (AVal × Heap)
 | .mv x => some (aget T x, H)
 | .pick c a b => match aget T c with
  | .bool t => some (if t then aget T a else aget T b, H)
  | _ => none
 | .bin op x y => match aget T x, aget T y with
  | .int k a, .int k' b => match op with
   | .shl | .shr => (aShift op k a b).map (·, H)
   | _ => if k = k' then (aBin op k a b).map (·, H) else none
  | _, _ => none
 | .sbin op x y => match aget T x, aget T y with
  | .str a, .str b => match op with
   | .add => if a.length + b.length ≤ 9223372036854775807 then some (.str (a ++ b), H) else none
   | .eql => some (.bool (decide (a = b)), H)
   | .neq => some (.bool (!decide (a = b)), H)
   | _ => none
  | _, _ => none
 | .eqb neg x y => match aget T x, aget T y with
  | .bool a, .bool b => some (.bool (if neg then !decide (a = b) else decide (a = b)), H)
  | _, _ => none
 | .eqs neg ks x y => match aget T x, aget T y with
  | .agg a, .agg b => (cellsEq ks a b).map fun r => (.bool (if neg then !r else r), H)
  | _, _ => none
 | .isNil neg k x => (aNil k (aget T x)).map fun r => (.bool (if neg then !r else r), H)
 | .un op x => match op, aget T x with
  | .not, .bool b => some (.bool !b, H)
  | .neg, .int k n => some (.int k (k.wrap (0 - n)), H)
  | .xor, .int k n => some (.int k (k.wrap ((BitVec.ofInt k.bits (if k.signed then -1 else k.max) ^^^ BitVec.ofInt k.bits n).toNat)), H)
  | _, _ => none
 | .fld off x => match aget T x with
  | .ptr o n i j => some (.ptr o n i (j + off), H)
  | _ => none
 | .ld n x => match aget T x with
  | .ptr o m i j => match H[o]? with
   | some (.arr _ xs _) => if xs.length = m then (match xs[i]? with
    | some c => match n with
     | none => match c[j]? with
      | some a => some (a, H)
      | none => none
     | some k => if j + k ≤ c.length then some (.agg ((c.drop j).take k), H) else none
    | none => none) else none
   | _ => none
  | _ => none
 | .st size x y => match aget T x, asCells (aget T y) with
  | .ptr o m i j, some ys => match H[o]? with
   | some (.arr s xs false) => if xs.length = m then (match xs[i]? with
    | some c => if ys.length = size ∧ j + ys.length ≤ s then some (.top, H.set o (.arr s (xs.set i (putAt c j ys)) false)) else none
    | none => none) else none
   | _ => none
  | _, _ => none
 | .nck x => match aget T x with
  | .ptr o n i j => some (.ptr o n i j, H)
  | _ => none
 | .ixa n size x i => match aget T x, aget T i with
  | .ptr o m k j, .int _ q => if 0 ≤ q ∧ q < n then some (.ptr o m k (j + q.toNat * size), H) else none
  | _, _ => none
 | .ixs size x i => match aget T x, aget T i with
  | .slice o n st len _, .int _ q => match H[o]? with
   | some (.arr s xs _) => if xs.length = n ∧ s = size ∧ 0 ≤ q ∧ q < len then some (.ptr o n (st + q.toNat) 0, H) else none
   | _ => none
  | .acc o n, .int _ q => match H[o]? with
   | some (.arr s xs _) => if xs.length = n ∧ s = size ∧ 0 ≤ q ∧ q < n then some (.ptr o n q.toNat 0, H) else none
   | _ => none
  | .isl o n e j len, .int _ q => match H[o]? with
   | some (.arr _ xs _) => if xs.length = n ∧ size = 1 ∧ 0 ≤ q ∧ q < len then some (.ptr o n e (j + q.toNat), H) else none
   | _ => none
  | _, _ => none
 | .ixstr x i => match aget T x, aget T i with
  | .str s, .int _ q => if 0 ≤ q then (match s[q.toNat]? with
   | some b => some (.int .u8 b.toNat, H)
   | none => none) else none
  | _, _ => none
 | .ixagg n size agg x i => match aget T x, aget T i with
  | .agg l, .int _ q => if 0 ≤ q ∧ q < n then (if agg then (if q.toNat * size + size ≤ l.length then some (.agg ((l.drop (q.toNat * size)).take size), H) else none)
   else (l[q.toNat * size]?).map (·, H)) else none
  | _, _ => none
 | .part off n x => match aget T x with
  | .agg l => match n with
   | none => (l[off]?).map (·, H)
   | some k => if off + k ≤ l.length then some (.agg ((l.drop off).take k), H) else none
  | _ => none
 | .len true x => match aget T x with
  | .str s => some (.int .i64 s.length, H)
  | _ => none
 | .len false x => match aget T x with
  | .slice _ _ _ len _ => some (.int .i64 len, H)
  | .acc _ n => some (.int .i64 n, H)
  | .isl _ _ _ _ len => some (.int .i64 len, H)
  | .lit (.slice none 0 0) => some (.int .i64 0, H)
  | _ => none
 | .ext x i => match aget T x with
  | .tup l => (l[i]?).map (·, H)
  | _ => none
 | .build zero parts => (putParts T zero parts).map fun l => (.agg l, H)
 | .bsl size n zero parts => (putElems T size (List.replicate n zero) parts).map fun xs => (.slice H.length n 0 n true, H ++ [.arr size xs false])
 | .box x => (asCells (aget T x)).map fun l => (.ptr H.length 1 0 0, H ++ [.arr l.length [l] false])
 | .new zero => some (.ptr H.length 1 0 0, H ++ [.arr zero.length [zero] false])
 | .mks size bytes zero l c => match aget T l, aget T c with
  | .int _ l, .int _ c => if 0 ≤ l ∧ l ≤ c ∧ c * bytes ≤ 140737488355328 ∧ c ≤ 9223372036854775807 then
   some (.slice H.length l.toNat 0 l.toNat (decide (l = c)), H ++ [.arr size (List.replicate l.toNat zero) false]) else none
  | _, _ => none
 | .app size bytes s x => match takeCells H size (aget T x) with
  | none => none
  | some ys => match aget T s with
   | .lit (.slice none 0 0) => if ys = [] then some (.lit (.slice none 0 0), H)
    else if ys.length * bytes ≤ 140737488355328 then some (.slice H.length ys.length 0 ys.length false, H ++ [.arr size ys false]) else none
   | .acc o n => match H[o]? with
    | some (.arr s' xs false) => if xs.length = n ∧ s' = size ∧ (n + ys.length) * bytes ≤ 140737488355328 then some (.acc o (n + ys.length), H.set o (.arr size (xs ++ ys) false)) else none
    | _ => none
   | .slice o n st len full => match H[o]? with
    | some (.arr s' xs ro) => if xs.length = n ∧ s' = size ∧ (len + ys.length) * bytes ≤ 140737488355328 then
     (if ys = [] then some (.slice o n st len full, H)
     else if full then some (.slice H.length (len + ys.length) 0 (len + ys.length) false, H ++ [.arr size ((xs.drop st).take len ++ ys) false])
     else if st = 0 ∧ len = n ∧ ro = false then some (.slice o (n + ys.length) 0 (n + ys.length) false, H.set o (.arr size (xs ++ ys) false))
     else none) else none
    | _ => none
   | _ => none
 | .rng x => match aget T x with
  | .str s => some (.itr H.length, H ++ [.iter s 0])
  | _ => none
 | .nxt x => match aget T x with
  | .itr o => match H[o]? with
   | some (.iter s pos) => if pos < s.length then
    some (.tup [.bool true, .int .i64 pos, .int .i32 (Utf8.decode ⟨s.toArray⟩ pos).1], H.set o (.iter s (pos + (Utf8.decode ⟨s.toArray⟩ pos).2)))
    else some (.tup [.bool false], H)
   | _ => none
  | _ => none
 | .sla n x lo hi => match aget T x, aEnd T 0 lo, aEnd T n hi with
  | .ptr o m i j, some l, some h => match H[o]? with
   | some (.arr s xs _) => if xs.length = m ∧ i < m ∧ l ≤ h ∧ h ≤ n ∧ j + n ≤ s then some (.isl o m i (j + l) (h - l), H) else none
   | _ => none
  | _, _, _ => none
 | .sls size x lo hi mx => match aget T x with
  | .slice o n st len full => match H[o]?, aEnd T 0 lo, aEnd T len hi with
   | some (.arr s xs _), some l, some h => if xs.length = n ∧ s = size then (match mx with
    | none => if l ≤ h ∧ h ≤ len then some (.slice o n (st + l) (h - l) (full && decide (h = len)), H) else none
    | some y => match aEnd T len (some y) with
     | some m => if l ≤ h ∧ h ≤ m ∧ m ≤ len then some (.slice o n (st + l) (h - l) (decide (h = m)), H) else none
     | none => none) else none
   | _, _, _ => none
  | .acc o n => match H[o]?, aEnd T 0 lo, aEnd T n hi with
   | some (.arr s xs _), some l, some h => if xs.length = n ∧ s = size then (match mx with
    | none => if l ≤ h ∧ h ≤ n then (if n = 0 then some (.lit (.slice none 0 0), H) else some (.slice o n l (h - l) false, H)) else none
    | some y => match aEnd T n (some y) with
     | some m => if l ≤ h ∧ h ≤ m ∧ m ≤ n then (if n = 0 then some (.lit (.slice none 0 0), H) else some (.slice o n l (h - l) (decide (h = m)), H)) else none
     | none => none) else none
   | _, _, _ => none
  | .isl o n i j len => match aEnd T 0 lo, aEnd T len hi, mx with
   | some l, some h, none => if size = 1 ∧ l ≤ h ∧ h ≤ len then some (.isl o n i (j + l) (h - l), H) else none
   | _, _, _ => none
  | .lit (.slice none 0 0) => match aEnd T 0 lo, aEnd T 0 hi with
   | some 0, some 0 => (match mx with
    | none => some (.lit (.slice none 0 0), H)
    | some y => match aEnd T 0 (some y) with
     | some 0 => some (.lit (.slice none 0 0), H)
     | _ => none)
   | _, _ => none
  | _ => none
 | .sstr x lo hi => match aget T x with
  | .str s => match aEnd T 0 lo, aEnd T s.length hi with
   | some l, some h => if l ≤ h ∧ h ≤ s.length then some (.str ((s.take h).drop l), H) else none
   | _, _ => none
  | _ => none
 | .mxn mx l => match l with
  | x :: r => (aMx mx T (aget T x) r).map (·, H)
  | [] => none
 | .cvt k x => match aget T x with
  | .int _ n => some (.int k (k.wrap n), H)
  | _ => none
 | .i2s x => match aget T x with
  | .int _ n => some (.str (Utf8.encode n).data.toList, H)
  | _ => none
 | .b2s _ => none
 | .s2b _ => none
 | .call _ _ => none
 | .callv _ _ => none
 | .mkf f caps => some (.func f (caps.map (aget T)), H)
 | .mkm => some (.map H.length, H ++ [.map []])
 | .mlk zero x k => match aget T k with
  | .int ik n => match aget T x with
   | .map o => match H[o]? with
    | some (.map es) => match mfind ik n es with
     | some (some v) => some (v, H)
     | some none => some (zero, H)
     | none => none
    | _ => none
   | .lit (.map none) => some (zero, H)
   | _ => none
  | _ => none
 | .mup x k v => match aget T x, aget T k with
  | .map o, .int ik n => match H[o]? with
   | some (.map es) => match mfind ik n es with
    | some _ => if (aget T v).cell then some (.top, H.set o (.map (mput ik n (aget T v) es))) else none
    | none => none
   | _ => none
  | _, _ => none
 | .cpy size d s => match srcCells H size (aget T s) with
  | none => none
  | some ys => match aget T d with
   | .isl o n i j len => match H[o]? with
    | some (.arr s' xs false) => if xs.length = n ∧ size = 1 ∧ j + len ≤ s' then (match xs[i]? with
     | some x => some (.int .i64 (min ys.length len), H.set o (.arr s' (xs.set i (putAt x j (ys.take len).flatten)) false))
     | none => none) else none
    | _ => none
   | .slice o n st len _ => match H[o]? with
    | some (.arr s' xs false) => if xs.length = n ∧ s' = size then some (.int .i64 (min ys.length len), H.set o (.arr s' (putRows xs st (ys.take len)) false)) else none
    | _ => none
   | _ => none
 | .born _ _ => none
def bornStep (T : List AVal) (k : Nat) : ABirth → Option (AVal × AObj)
 | .new zero => some (.ptr k 1 0 0, .arr zero.length [zero] false)
 | .box x => (asCells (aget T x)).map fun l => (.ptr k 1 0 0, .arr l.length [l] false)
 | .bsl size n zero parts => (putElems T size (List.replicate n zero) parts).map fun xs => (.slice k n 0 n true, .arr size xs false)
 | .mks size bytes zero l c => match aget T l, aget T c with
  | .int _ l, .int _ c => if 0 ≤ l ∧ l ≤ c ∧ c * bytes ≤ 140737488355328 ∧ c ≤ 9223372036854775807 then
   some (.slice k l.toNat 0 l.toNat (decide (l = c)), .arr size (List.replicate l.toNat zero) false) else none
  | _, _ => none
 | .mkm => some (.map k, .map [])
theorem born_step {T : List AVal} {H : Heap} {b : ABirth} {v : AVal} {x : AObj} (h : bornStep T H.length b = some (v, x)) : aStep T H b.toOp = some (v, H ++ [x]) := by
 cases b <;> simp only [bornStep, ABirth.toOp, aStep] at h ⊢
 case new => simp only [Option.some.injEq, Prod.mk.injEq] at h; obtain ⟨rfl, rfl⟩ := h; rfl
 case box => simp only [Option.map_eq_some_iff, Prod.mk.injEq] at h ⊢; obtain ⟨l, h1, rfl, rfl⟩ := h; exact ⟨l, h1, rfl, rfl⟩
 case bsl => simp only [Option.map_eq_some_iff, Prod.mk.injEq] at h ⊢; obtain ⟨l, h1, rfl, rfl⟩ := h; exact ⟨l, h1, rfl, rfl⟩
 case mks =>
  split at h
  case h_2 => cases h
  split at h
  case isFalse => cases h
  rename_i hc
  simp only [Option.some.injEq, Prod.mk.injEq] at h; obtain ⟨rfl, rfl⟩ := h
  rw [if_pos hc]
 case mkm => simp only [Option.some.injEq, Prod.mk.injEq] at h; obtain ⟨rfl, rfl⟩ := h; rfl
end Go.Ax
