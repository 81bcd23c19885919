/- How an operation of the abstract machine is tied to an operation of the program: a closed test. Conditions: none. -/
import Derived.Test.YtlaipllgmddkiaaGreatAxEqZ
import Derived.Test.YtlaipllgmddkiaaGreatAxOpZ
set_option linter.all false
namespace Go.Ax
open Go Go.RowKit
def cOk : AVal → Value → Bool
 | .int k n, .int k' m => k == k' && n == m
 | .bool a, .bool b => a == b
 | .str s, .string b => s == b.data.toList
 | .lit (.pointer none), .pointer none => true
 | .lit (.slice none 0 0), .slice none 0 0 => true
 | .lit (.map none), .map none => true
 | .lit .nilFunc, .nilFunc => true
 | .lit .nilIface, .nilIface => true
 | .lit (.float k a), .float k' b => k == k' && a == b
 | .lit (.complex k a c), .complex k' b d => k == k' && a == b && c == d
 | _, _ => false
def argOk : AArg → Operand → Bool
 | .t n, .tmp m => n == m
 | .c v, .const x => cOk v x
 | .c (.func f []), .func g => f == g
 | _, _ => false
def csOk : List AVal → List Value → Bool
 | [], [] => true
 | a :: l, v :: r => cOk a v && a.cell && csOk l r
 | _, _ => false
def zeroOk (P : Program) (t : TypeId) (zero : List AVal) : Bool := match P.info? t with
 | some i => (match i.zero with
  | some z => csOk zero z.cells.toList && i.size == zero.length
  | none => false)
 | none => false
def zeroOne (P : Program) (t : TypeId) (zero : AVal) : Bool := match P.info? t with
 | some i => (match i.zero with
  | some z => cOk zero z
  | none => false)
 | none => false
def sizeOk (P : Program) (t : TypeId) (n : Nat) : Bool := match P.info? t with
 | some i => i.size == n
 | none => false
def ldOk (P : Program) (t : TypeId) : Option Nat → Bool
 | none => !isAggB P t && (P.underlying t).isSome
 | some k => isAggB P t && sizeOk P t k && k != 0
def argsOk : List AArg → List Operand → Bool
 | [], [] => true
 | a :: l, x :: r => argOk a x && argsOk l r
 | _, _ => false
def isNilConst : Nat → Operand → Bool
 | 0, .const (.pointer none) => true
 | 1, .const (.slice none 0 0) => true
 | 2, .const (.map none) => true
 | 3, .const .nilFunc => true
 | 4, .const .nilIface => true
 | _, _ => false
def partsOk (P : Program) (place : Nat → Option (Nat × TypeId)) : List (Nat × Nat × AArg) → List (Nat × Operand) → Bool
 | [], [] => true
 | (off, size, a) :: l, (i, x) :: r => (match place i with
  | some (o, t) => o == off && sizeOk P t size
  | none => false) && argOk a x && partsOk P place l r
 | _, _ => false
def elemsOk : List (Nat × AArg) → List (Nat × Operand) → Bool
 | [], [] => true
 | (i, a) :: l, (j, x) :: r => i == j && argOk a x && elemsOk l r
 | _, _ => false
def nilType (P : Program) (t : TypeId) : Nat → Bool
 | 0 => (match P.underlying t with | some (.pointer _) => true | _ => false)
 | 1 => (match P.underlying t with | some (.slice _) => true | _ => false)
 | 2 => (match P.underlying t with | some (.map _ _) => true | _ => false)
 | 3 => (match P.underlying t with | some (.func _ _ _) => true | _ => false)
 | 4 => (match P.underlying t with | some (.interface _) => true | _ => false)
 | _ => false
def optOk : Option AArg → Option Operand → Bool
 | none, none => true
 | some a, some x => argOk a x
 | _, _ => false
def okOp (P : Program) : AOp → Op → Bool
 | .mv x, .move y => argOk x y
 | .mv x, .assign y => argOk x y
 | .pick c a b, .pick c' a' b' => argOk c c' && argOk a a' && argOk b b'
 | .bin op x y, .binOp op' _ x' y' _ => op == op' && argOk x x' && argOk y y'
 | .sbin op x y, .binOp op' _ x' y' _ => op == op' && argOk x x' && argOk y y'
 | .eqb neg x y, .binOp op' t x' y' _ => (op' == if neg then .neq else .eql) && argOk x x' && argOk y y' && (P.underlying t matches some .bool)
 | .eqs neg ks x y, .binOp op' t x' y' _ => (op' == if neg then .neq else .eql) && argOk x x' && argOk y y' && isAggB P t && (leafs P 10000 t == some ks) && P.eqGuardType P.depth t == false
 | .un op x, .unOp op' _ x' => op == op' && argOk x x'
 | .fld off x, .fieldAddr s x' f => argOk x x' && (match P.underlying s with
  | some (.struct fs) => (match fs[f]? with
   | some fd => fd.offset == off && (match P.info? fd.type with | some i => i.size != 0 | none => false)
   | none => false)
  | _ => false)
 | .ld n x, .load t x' => argOk x x' && ldOk P t n
 | .st size x y, .store t x' y' => argOk x x' && argOk y y' && sizeOk P t size
 | .nck x, .nilCheck x' => argOk x x'
 | .ixa n size x i, .indexAddr t x' i' => argOk x x' && argOk i i' && (match P.underlying t with
  | some (.array m e) => m == n && sizeOk P e size
  | _ => false)
 | .ixs size x i, .indexAddr t x' i' => argOk x x' && argOk i i' && (match P.underlying t with
  | some (.slice e) => sizeOk P e size
  | _ => false)
 | .ixstr x i, .index t x' i' => argOk x x' && argOk i i' && (P.underlying t matches some .string)
 | .len str x, .call { callee := .builtin .len, args, argTypes } => (match args.toList with | [x'] => argOk x x' | _ => false) &&
  (match argTypes.toList with | [t] => (match P.underlying t with | some .string => str | some (.slice _) => !str | _ => false) | _ => false)
 | .ext x i, .extract x' i' => argOk x x' && i == i'
 | .build zero parts, .build t parts' => zeroOk P t zero && (match P.underlying t with
  | some (.struct fs) => fs.toList.all (fun f => (P.info? f.type).isSome) && partsOk P (fun i => (fs[i]?).map fun f => (f.offset, f.type)) parts parts'.toList
  | some (.array _ e) => (match P.info? e with | some i => partsOk P (fun k => some (k * i.size, e)) parts parts'.toList | none => false)
  | _ => false)
 | .bsl size n zero parts, .buildSlice t n' parts' => n == n' && elemsOk parts parts'.toList && decide (n * size ≤ 16777216) && size != 0 && (match P.underlying t with
  | some (.slice e) => zeroOk P e zero && zero.length == size
  | _ => false)
 | .box x, .box _ x' => argOk x x'
 | .new zero, .alloc t => zeroOk P t zero
 | .mks size bytes zero l c, .makeSlice t l' c' => argOk l l' && argOk c c' && size != 0 && (match P.underlying t with
  | some (.slice e) => zeroOk P e zero && zero.length == size && (match P.info? e with | some i => i.bytes == bytes | none => false)
  | _ => false)
 | .app size bytes s x, .call { callee := .builtin .append, args, argTypes } => size != 0 && bytes != 0 && (match args.toList with | [s', x'] => argOk s s' && argOk x x' | _ => false) &&
  (match argTypes.toList with
   | [t, u] => (match P.underlying t with
    | some (.slice e) => (match P.info? e with
     | some i => i.size == size && i.bytes == bytes && i.zero.isSome && ((i.zero.map fun z => z.cells.size) == some size) && (match P.underlying u with
      | some .string => size == 1
      | some (.slice _) => true
      | _ => false)
     | none => false)
    | _ => false)
   | _ => false)
 | .isNil neg k x, .binOp op' t x' y' _ => (op' == if neg then .neq else .eql) && argOk x x' && isNilConst k y' && nilType P t k
 | .rng x, .range t x' => argOk x x' && (match P.underlying t with | some .string => true | _ => false)
 | .nxt x, .next x' isString => argOk x x' && isString
 | .sla n x lo hi, .slice t x' lo' hi' none => argOk x x' && optOk lo lo' && optOk hi hi' && (match P.underlying t with
  | some (.array m e) => m == n && sizeOk P e 1
  | _ => false)
 | .sls size x lo hi mx, .slice t x' lo' hi' mx' => argOk x x' && optOk lo lo' && optOk hi hi' && optOk mx mx' && (mx.isNone || hi.isSome) && (match P.underlying t with
  | some (.slice e) => sizeOk P e size
  | _ => false)
 | .sstr x lo hi, .slice t x' lo' hi' none => argOk x x' && optOk lo lo' && optOk hi hi' && (match P.underlying t with
  | some .string => true
  | _ => false)
 | .mxn mx l, .call { callee := .builtin b, args, .. } => (b == if mx then .max else .min) && argsOk l args.toList
 | .cvt k x, .convert s d x' => argOk x x' && (P.underlying s).isSome && (match P.underlying d with | some (.int k') => k == k' | _ => false)
 | .i2s x, .convert s d x' => argOk x x' && (P.underlying s).isSome && (match P.underlying d with | some .string => true | _ => false)
 | .mkf f caps, .makeFunc (.func g) first caps' => f == g && first.isEmpty && argsOk caps caps'.toList
 | .mkm, .makeMap _ none => true
 | .mlk zero x k, .lookup t x' k' commaOk => !commaOk && argOk x x' && argOk k k' && (match P.underlying t with
  | some (.map kt e) => (match P.underlying kt with | some (.int _) => true | _ => false) && zeroOne P e zero
  | _ => false)
 | .mup x k v, .mapUpdate t x' k' v' => argOk x x' && argOk k k' && argOk v v' && (match P.underlying t with
  | some (.map kt _) => (match P.underlying kt with | some (.int _) => true | _ => false)
  | _ => false)
 | .cpy size d s, .call { callee := .builtin .copy, args, argTypes } => size != 0 && (match args.toList with | [d', s'] => argOk d d' && argOk s s' | _ => false) &&
  (match argTypes.toList with
   | [t, u] => (match P.underlying t with
    | some (.slice e) => sizeOk P e size && (match P.underlying u with
     | some (.slice _) => true
     | _ => false)
    | _ => false)
   | _ => false)
 | _, _ => false
end Go.Ax
