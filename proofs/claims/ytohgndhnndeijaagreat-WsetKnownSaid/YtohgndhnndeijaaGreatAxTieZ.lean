/- How an operation of the abstract machine is tied to an operation of the program: a closed test. Conditions: none. -/
import Derived.Test.YtohgndhnndeijaaGreatAxEqZ
set_option linter.all false
namespace Go.Ax
open Go Go.RowKit
def iR:AH->Value->Bool
 | .int k n,.int k' m=>k==k'&&n==m
 | .bool a,.bool b=>a==b
 | .str s,.string b=>s==b.data.toList
 | .lit (.pointer none),.pointer none=>true
 | .lit (.slice none 0 0),.slice none 0 0=>true
 | .lit (.map none),.map none=>true
 | .lit .nilFunc,.nilFunc=>true
 | .lit .nilIface,.nilIface=>true
 | .lit (.float k a),.float k' b=>k==k'&&a==b
 | .lit (.complex k a c),.complex k' b d=>k==k'&&a==b&&c==d
 |_,_=>false
def BE:Av->Operand->Bool
 | .t n,.tmp m=>n==m
 | .c v,.const x=>iR v x
 | .c (.func f []),.func g=>f==g
 |_,_=>false
def Yz:List AH->List Value->Bool
 |[],[]=>true
 |a::l,v::r=>iR a v&&a.cell&&Yz l r
 |_,_=>false
def I6(P:Program)(t:TypeId)(zero:List AH):Bool:=match P.info? t with
 |some i=>(match i.zero with
  |some z=>Yz zero z.cells.toList&&i.size==zero.length
  |none=>false)
 |none=>false
def Uc(P:Program)(t:TypeId)(zero:AH):Bool:=match P.info? t with
 |some i=>(match i.zero with
  |some z=>iR zero z
  |none=>false)
 |none=>false
def Ea(P:Program)(t:TypeId)(n:Nat):Bool:=match P.info? t with
 |some i=>i.size==n
 |none=>false
def ZM(P:Program)(t:TypeId):Option Nat->Bool
 |none=>!Dy P t&&(P.underlying t).isSome
 |some k=>Dy P t&&Ea P t k&&k !=0
def FF:List Av->List Operand->Bool
 |[],[]=>true
 |a::l,x::r=>BE a x&&FF l r
 |_,_=>false
def KF:Nat->Operand->Bool
 |0,.const (.pointer none)=>true
 |1,.const (.slice none 0 0)=>true
 |2,.const (.map none)=>true
 |3,.const .nilFunc=>true
 |4,.const .nilIface=>true
 |_,_=>false
def ID(P:Program)(place:Nat->Option (Nat×TypeId)):List (Nat×Nat×Av)->List (Nat×Operand)->Bool
 |[],[]=>true
 |(off,size,a)::l,(i,x)::r=>(match place i with
  |some (o,t)=>o==off&&Ea P t size
  |none=>false)&&BE a x&&ID P place l r
 |_,_=>false
def J9:List (Nat×Av)->List (Nat×Operand)->Bool
 |[],[]=>true
 |(i,a)::l,(j,x)::r=>i==j&&BE a x&&J9 l r
 |_,_=>false
def H9(P:Program)(t:TypeId):Nat->Bool
 |0=>(match P.underlying t with|some (.pointer _)=>true|_=>false)
 |1=>(match P.underlying t with|some (.slice _)=>true|_=>false)
 |2=>(match P.underlying t with|some (.map _ _)=>true|_=>false)
 |3=>(match P.underlying t with|some (.func _ _ _)=>true|_=>false)
 |4=>(match P.underlying t with|some (.interface _)=>true|_=>false)
 |_=>false
def Fp:Option Av->Option Operand->Bool
 |none,none=>true
 |some a,some x=>BE a x
 |_,_=>false
def extOk(P:Program)(g:FuncId)(name:String):Bool:=match P.funcs[g]? with
 |some fn=>fn.name==name&&fn.body.isNone&&(Extern.findNext fn).isNone
 |none=>false
def floOk(P:Program):FOp->Av->Av->Op->Bool
 | .ofI,x,_,.convert s d x'=>BE x x'&&(P.underlying s).isSome&&(match P.underlying d with|some (.float .f64)=>true|_=>false)
 | .toI k,x,_,.convert s d x'=>BE x x'&&(P.underlying s).isSome&&(match P.underlying d with|some (.int k')=>k==k'|_=>false)
 | .cmp op,x,y,.binOp op' _ x' y' _=>op==op'&&BE x x'&&BE y y'
 | .re,x,_,.call {callee:= .builtin .real,args,.. }=>(match args.toList with|[x']=>BE x x'|_=>false)
 | .im,x,_,.call {callee:= .builtin .imag,args,.. }=>(match args.toList with|[x']=>BE x x'|_=>false)
 | .cx,x,y,.call {callee:= .builtin .complex,args,.. }=>(match args.toList with|[x',y']=>BE x x'&&BE y y'|_=>false)
 | .pT,x,_,.call {callee:= .value (.func g),args,.. }=>extOk P g "math.archTrunc" &&(match args.toList with|[x']=>BE x x'|_=>false)
 | .bits,x,_,.call {callee:= .value (.func g),args,.. }=>extOk P g "math.Float64bits" &&(match args.toList with|[x']=>BE x x'|_=>false)
 |_,_,_,_=>false
def OI(P:Program):GS->Op->Bool
 | .mv x,.move y=>BE x y
 | .mv x,.assign y=>BE x y
 | .pick c a b,.pick c' a' b'=>BE c c'&&BE a a'&&BE b b'
 | .bin op x y,.binOp op' _ x' y' _=>op==op'&&BE x x'&&BE y y'
 | .MG op x y,.binOp op' _ x' y' _=>op==op'&&BE x x'&&BE y y'
 | .cS neg x y,.binOp op' t x' y' _=>(op'==if neg then .neq else .eql)&&BE x x'&&BE y y'&&(P.underlying t matches some .bool)
 | .eqs neg ks x y,.binOp op' t x' y' _=>(op'==if neg then .neq else .eql)&&BE x x'&&BE y y'&&Dy P t&&(Fy P 10000 t==some ks)&&P.eqGuardType P.depth t==false
 | .un op x,.unOp op' _ x'=>op==op'&&BE x x'
 | .AQ off x,.fieldAddr s x' f=>BE x x'&&(match P.underlying s with
  |some (.struct fs)=>(match fs[f]? with
   |some fd=>fd.offset==off&&(match P.info? fd.type with|some i=>i.size !=0|none=>false)
   |none=>false)
  |_=>false)
 | .ld n x,.load t x'=>BE x x'&&ZM P t n
 | .st size x y,.store t x' y'=>BE x x'&&BE y y'&&Ea P t size
 | .Pb x,.nilCheck x'=>BE x x'
 | .U7 n size x i,.indexAddr t x' i'=>BE x x'&&BE i i'&&(match P.underlying t with
  |some (.array m e)=>m==n&&Ea P e size
  |_=>false)
 | .A9 size x i,.indexAddr t x' i'=>BE x x'&&BE i i'&&(match P.underlying t with
  |some (.slice e)=>Ea P e size
  |_=>false)
 | .FA x i,.index t x' i'=>BE x x'&&BE i i'&&(P.underlying t matches some .string)
 | .len str x,.call {callee:= .builtin .len,args,argTypes}=>(match args.toList with|[x']=>BE x x'|_=>false)&&
  (match argTypes.toList with|[t]=>(match P.underlying t with|some .string=>str|some (.slice _)=>!str|_=>false)|_=>false)
 | .ext x i,.extract x' i'=>BE x x'&&i==i'
 | .build zero parts,.build t parts'=>I6 P t zero&&(match P.underlying t with
  |some (.struct fs)=>fs.toList.all (λf=>(P.info? f.type).isSome)&&ID P (λi=>(fs[i]?).map λf=>(f.offset,f.type)) parts parts'.toList
  |some (.array _ e)=>(match P.info? e with|some i=>ID P (λk=>some (k* i.size,e)) parts parts'.toList|none=>false)
  |_=>false)
 | .EO size n zero parts,.buildSlice t n' parts'=>n==n'&&J9 parts parts'.toList&&decide (n* size<=16777216)&&size !=0&&(match P.underlying t with
  |some (.slice e)=>I6 P e zero&&zero.length==size
  |_=>false)
 | .box x,.box _ x'=>BE x x'
 | .new zero,.alloc t=>I6 P t zero
 | .MM size bytes zero l c,.makeSlice t l' c'=>BE l l'&&BE c c'&&size !=0&&(match P.underlying t with
  |some (.slice e)=>I6 P e zero&&zero.length==size&&(match P.info? e with|some i=>i.bytes==bytes|none=>false)
  |_=>false)
 | .app size bytes s x,.call {callee:= .builtin .append,args,argTypes}=>size !=0&&bytes !=0&&(match args.toList with|[s',x']=>BE s s'&&BE x x'|_=>false)&&
  (
   match argTypes.toList with
   |[t,u]=>(match P.underlying t with
    |some (.slice e)=>(match P.info? e with
     |some i=>i.size==size&&i.bytes==bytes&&i.zero.isSome&&((i.zero.map λz=>z.cells.size)==some size)&&(match P.underlying u with
      |some .string=>size==1
      |some (.slice _)=>true
      |_=>false)
     |none=>false)
    |_=>false)
   |_=>false)
 | .isNil neg k x,.binOp op' t x' y' _=>(op'==if neg then .neq else .eql)&&BE x x'&&KF k y'&&H9 P t k
 | .Yg x,.range t x'=>BE x x'&&(match P.underlying t with|some .string=>true|_=>false)
 | .Ya x,.next x' isString=>BE x x'&&isString
 | .Yi n x lo hi,.slice t x' lo' hi' none=>BE x x'&&Fp lo lo'&&Fp hi hi'&&(match P.underlying t with
  |some (.array m e)=>m==n&&Ea P e 1
  |_=>false)
 | .Ue size x lo hi mx,.slice t x' lo' hi' mx'=>BE x x'&&Fp lo lo'&&Fp hi hi'&&Fp mx mx'&&(mx.isNone||hi.isSome)&&(match P.underlying t with
  |some (.slice e)=>Ea P e size
  |_=>false)
 | .Km x lo hi,.slice t x' lo' hi' none=>BE x x'&&Fp lo lo'&&Fp hi hi'&&(match P.underlying t with
  |some .string=>true
  |_=>false)
 | .WB mx l,.call {callee:= .builtin b,args,.. }=>(b==if mx then .max else .min)&&FF l args.toList
 | .Hp k x,.convert s d x'=>BE x x'&&(P.underlying s).isSome&&(match P.underlying d with|some (.int k')=>k==k'|_=>false)
 | .cU x,.convert s d x'=>BE x x'&&(P.underlying s).isSome&&(match P.underlying d with|some .string=>true|_=>false)
 | .YY f Kj,.makeFunc (.func g) first caps'=>f==g&&first.isEmpty&&FF Kj caps'.toList
 | .Pa,.makeMap _ none=>true
 | .Wb zero x k,.lookup t x' k' commaOk=>!commaOk&&BE x x'&&BE k k'&&(match P.underlying t with
  |some (.map kt e)=>(match P.underlying kt with|some (.int _)=>true|_=>false)&&Uc P e zero
  |_=>false)
 | .ZR x k v,.mapUpdate t x' k' v'=>BE x x'&&BE k k'&&BE v v'&&(match P.underlying t with
  |some (.map kt _)=>(match P.underlying kt with|some (.int _)=>true|_=>false)
  |_=>false)
 | .aC size d s,.call {callee:= .builtin .copy,args,argTypes}=>size !=0&&(match args.toList with|[d',s']=>BE d d'&&BE s s'|_=>false)&&
  (
   match argTypes.toList with
   |[t,u]=>(match P.underlying t with
    |some (.slice e)=>Ea P e size&&(match P.underlying u with
     |some (.slice _)=>true
     |_=>false)
    |_=>false)
   |_=>false)
 | .part off n x,.field s x' f=>BE x x'&&(match P.underlying s with
  |some (.struct fs)=>(match fs[f]? with
   |some fd=>fd.offset==off&&ZM P fd.type n&&Ea P fd.type (n.getD 1)
   |none=>false)
  |_=>false)
 | .clr size zero x,.call {callee:= .builtin .clear,args,argTypes}=>size !=0&&(match args.toList with|[x']=>BE x x'|_=>false)&&
  (
   match argTypes.toList with
   |[t]=>(match P.underlying t with
    |some (.slice e)=>I6 P e zero&&zero.length==size
    |_=>false)
   |_=>false)
 | .eo f x y,op=>floOk P f x y op
 |_,_=>false
end Go.Ax
