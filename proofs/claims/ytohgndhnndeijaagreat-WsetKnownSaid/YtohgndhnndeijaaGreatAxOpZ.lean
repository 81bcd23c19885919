/- The operations of the abstract machine: what each yields, as a function. Conditions: none. -/
import Derived.Test.YtohgndhnndeijaaGreatZAa
set_option linter.all false
open BitVec renaming ofInt -> Qa
open List renaming replicate -> Qb
open Prod.mk renaming injEq -> Qc
open Option.some renaming injEq -> Qd
namespace Go.Ax
open Go Go.RowKit
inductive Av where
 |t (n:Nat)
 |c (v:AH)
def Bm(T:List AH):Av->AH
 | .t n=>T.getD n .Dk
 | .c v=>v
inductive EH where
 |new (zero:List AH)
 |box (x:Av)
 |EO (size n:Nat) (zero:List AH) (parts:List (Nat×Av))
 |MM (size bytes:Nat) (zero:List AH) (l c:Av)
 |Pa
inductive FOp where
 |ofI
 |toI (k:IntKind)
 |cmp (op:BinOp)
 |re
 |im
 |cx
 |pT
 |bits
inductive GS where
 |mv (x:Av)
 |pick (c a b:Av)
 |bin (op:BinOp) (x y:Av)
 |MG (op:BinOp) (x y:Av)
 |cS (neg:Bool) (x y:Av)
 |eqs (neg:Bool) (ks:List Nat) (x y:Av)
 |isNil (neg:Bool) (k:Nat) (x:Av)
 |un (op:UnOp) (x:Av)
 |AQ (off:Nat) (x:Av)
 |ld (n:Option Nat) (x:Av)
 |st (size:Nat) (x y:Av)
 |Pb (x:Av)
 |U7 (n:Nat) (size:Nat) (x i:Av)
 |A9 (size:Nat) (x i:Av)
 |FA (x i:Av)
 |NR (n size:Nat) (agg:Bool) (x i:Av)
 |part (off:Nat) (n:Option Nat) (x:Av)
 |len (str:Bool) (x:Av)
 |ext (x:Av) (i:Nat)
 |build (zero:List AH) (parts:List (Nat×Nat×Av))
 |EO (size n:Nat) (zero:List AH) (parts:List (Nat×Av))
 |box (x:Av)
 |new (zero:List AH)
 |MM (size bytes:Nat) (zero:List AH) (l c:Av)
 |app (size bytes:Nat) (s x:Av)
 |Yg (x:Av)
 |Ya (x:Av)
 |Yi (n:Nat) (x:Av) (lo hi:Option Av)
 |Ue (size:Nat) (x:Av) (lo hi mx:Option Av)
 |Km (x:Av) (lo hi:Option Av)
 |WB (mx:Bool) (l:List Av)
 |Hp (k:IntKind) (x:Av)
 |cU (x:Av)
 |eo (f:FOp) (x y:Av)
 |dz (x:Av)
 |eP (x:Av)
 |call (f:FuncId) (args:List Av)
 |Ha (x:Av) (args:List Av)
 |YY (f:FuncId) (Kj:List Av)
 |Pa
 |Wb (zero:AH) (x k:Av)
 |ZR (x k v:Av)
 |aC (size:Nat) (d s:Av)
 |clr (size:Nat) (zero:List AH) (x:Av)
 |born (k:Nat) (b:EH)
def EH.Z3:EH->GS
 | .new z=> .new z
 | .box x=> .box x
 | .EO s n z p=> .EO s n z p
 | .MM s b z l c=> .MM s b z l c
 | .Pa=> .Pa
structure A6 where
 dst:Option Nat
 op:GS
 guard:Option (Nat×Bool)
abbrev W1(d:Nat)(x:GS):A6:=⟨some d,x,none⟩
abbrev W2(d g:Nat)(b:Bool)(x:GS):A6:=⟨some d,x,some (g,b)⟩
abbrev zV(d x:Nat):A6:=⟨some d,.mv (.t x),none⟩
abbrev zL(d n x:Nat):A6:=⟨some d,.ld (some n) (.t x),none⟩
abbrev zM(d x:Nat):A6:=⟨some d,.ld none (.t x),none⟩
abbrev zF(d n x:Nat):A6:=⟨some d,.AQ n (.t x),none⟩
abbrev zN(d x:Nat):A6:=⟨some d,.un .not (.t x),none⟩
abbrev zS(n x y:Nat):A6:=⟨none,.st n (.t x) (.t y),none⟩
abbrev zE(d x n:Nat):A6:=⟨some d,.ext (.t x) n,none⟩
abbrev zU(d x g:Nat)(b:Bool):A6:=⟨some d,.mv (.t x),some (g,b)⟩
abbrev zI(n:Int):Av:= .c (.int .i64 n)
abbrev zA(d x y:Nat):A6:=⟨some d,.pick (.t x) (.t y) (.c (.bool false)),none⟩
abbrev zO(d x y:Nat):A6:=⟨some d,.pick (.t x) (.c (.bool true)) (.t y),none⟩
abbrev zX(d n x y:Nat):A6:=⟨some d,.A9 n (.t x) (.t y),none⟩
abbrev zB(d:Nat)(b:Bool):A6:=⟨some d,.mv (.c (.bool b)),none⟩
abbrev zK(d:Nat)(n:Int):A6:=⟨some d,.mv (zI n),none⟩
abbrev zQ(d x:Nat)(n:Int):A6:=⟨some d,.bin .eql (.t x) (zI n),none⟩
abbrev zD(d g:Nat)(b:Bool)(x:Nat):A6:=⟨some d,.ld none (.t x),some (g,b)⟩
abbrev zG(d g:Nat)(b:Bool)(n x:Nat):A6:=⟨some d,.AQ n (.t x),some (g,b)⟩
def Ym(op:BinOp)(k:IntKind)(a b:Int):Option AH:=
 match op with
 | .add=>some (.int k (k.wrap (a+b)))
 | .sub=>some (.int k (k.wrap (a-b)))
 | .mul=>some (.int k (k.wrap (a* b)))
 | .quo=>if b=0 then none else some (.int k (k.wrap (a.tdiv b)))
 | .rem=>if b=0 then none else some (.int k (a.tmod b))
 | .and=>some (.int k (k.wrap ((Qa k.bits a&&&Qa k.bits b).toNat)))
 | .or=>some (.int k (k.wrap ((Qa k.bits a|||Qa k.bits b).toNat)))
 | .xor=>some (.int k (k.wrap ((Qa k.bits a^^^Qa k.bits b).toNat)))
 | .andNot=>some (.int k (k.wrap ((Qa k.bits a&&&~~~Qa k.bits b).toNat)))
 | .eql=>some (.bool (decide (a=b)))
 | .neq=>some (.bool (!decide (a=b)))
 | .lss=>some (.bool (decide (a<b)))
 | .leq=>some (.bool (decide (a<=b)))
 | .gtr=>some (.bool (decide (b<a)))
 | .geq=>some (.bool (decide (b<=a)))
 |_=>none
def Dl(op:BinOp)(k:IntKind)(a b:Int):Option AH:=
 if b<0 then none else
 match op with
 | .shl=>some (.int k (k.wrap (a* 2^min b.toNat k.bits)))
 | .shr=>some (.int k (a.fdiv (2^min b.toNat k.bits)))
 |_=>none
def Ho:Nat->AH->AH->Option Bool
 |0,.int k a,.int k' b=>if k=k' then some (decide (a=b))else none
 |1,.bool a,.bool b=>some (decide (a=b))
 |2,.str a,.str b=>some (decide (a=b))
 |_,_,_=>none
def Bp:List Nat->List AH->List AH->Option Bool
 |[],[],[]=>some true
 |k::ks,a::l,b::r=>match Ho k a b,Bp ks l r with
  |some x,some y=>some (x&&y)
  |_,_=>none
 |_,_,_=>none
def e9:Nat->AH->Option Bool
 |0,.lit (.pointer none)=>some true
 |0,.ptr .. =>some false
 |1,.lit (.slice none 0 0)=>some true
 |1,.slice _ _ _ len _=>if len=0 then none else some false
 |1,.Kl .. =>some false
 |1,.acc _ n=>some (decide (n=0))
 |2,.lit (.map none)=>some true
 |2,.map _=>some false
 |3,.lit .nilFunc=>some true
 |3,.func .. =>some false
 |4,.lit .nilIface=>some true
 |4,.iface .. =>some false
 |_,_=>none
def Ds(H:AP)(size:Nat):AH->Option (List (List AH))
 | .slice o n st len _=>match H[o]? with
  |some (.AU s xs _)=>if xs.length=n/\s=size then some ((xs.drop st).take len)else none
  |_=>none
 | .acc o n=>match H[o]? with
  |some (.AU s xs _)=>if xs.length=n/\s=size then some xs else none
  |_=>none
 | .Kl o n i j len=>match H[o]? with
  |some (.AU _ xs _)=>if xs.length=n/\size=1 then(match xs[i]? with
   |some x=>some (((x.drop j).take len).map λa=>[a])
   |none=>none)else(if len=0 then some []else none)
  |_=>none
 | .lit (.slice none 0 0)=>some []
 | .str s=>if size=1 then some (s.map λb=>[.int .u8 b.toNat])else none
 |_=>none
def Gv(H:AP)(size:Nat)(a:AH):Option (List (List AH)):=
 match a with
 | .str _=>none
 |a=>Ds H size a
def HN:AH->Option (List AH)
 | .agg l=>some l
 | .Dk| .Bj _=>none
 |a=>if a.cell then some [a]else none
def Dz(T:List AH):List AH->List (Nat×Nat×Av)->Option (List AH)
 |cells,[]=>some cells
 |cells,(off,size,x)::r=>match HN (Bm T x)with
  |some l=>if l.length=size/\off+size<=cells.length then Dz T (putAt cells off l) r else none
  |none=>none
def DW(T:List AH)(size:Nat):List (List AH)->List (Nat×Av)->Option (List (List AH))
 |xs,[]=>some xs
 |xs,(i,x)::r=>match HN (Bm T x)with
  |some l=>if l.length=size/\i<xs.length then DW T size (xs.set i l) r else none
  |none=>none
def EI(T:List AH)(dflt:Nat):Option Av->Option Nat
 |none=>some dflt
 |some x=>match Bm T x with
  | .int _ n=>if 0<=n then some n.toNat else none
  |_=>none
def WA(mx:Bool)(T:List AH):AH->List Av->Option AH
 | .int k n,[]=>some (.int k n)
 | .int k n,x::l=>match Bm T x with
  | .int _ m=>WA mx T (.int k (if mx then(if m>n then m else n)else(if m<n then m else n))) l
  |_=>none
 |_,_=>none
def JJ(k:IntKind)(n:Int):List (AH×AH)->Option (Option AH)
 |[]=>some none
 |(.int k' m,v)::r=>if k=k' then(if n=m then some (some v)else JJ k n r)else none
 |_::_=>none
def Jr(k:IntKind)(n:Int)(x:AH):List (AH×AH)->List (AH×AH)
 |[]=>[(.int k n,x)]
 |(.int k' m,v)::r=>if n=m then(.int k n,x)::r else(.int k' m,v)::Jr k n x r
 |e::r=>e::Jr k n x r
def Fh(xs:List (List AH)):Nat->List (List AH)->List (List AH)
 |_,[]=>xs
 |i,y::r=>Fh (xs.set i y) (i+1) r
def iS(c:Option Ordering):BinOp->Option AH
 | .eql=>some (.bool (c==some .eq))
 | .neq=>some (.bool (c !=some .eq))
 | .lss=>some (.bool (c==some .lt))
 | .leq=>some (.bool (c==some .lt||c==some .eq))
 | .gtr=>some (.bool (c==some .gt))
 | .geq=>some (.bool (c==some .gt||c==some .eq))
 |_=>none
def wX:FOp->AH->AH->Option AH
 | .ofI,.int _ n,_=>some (.lit (.float .f64 (FloatKind.f64.nearest n)))
 | .toI k,.lit (.float .f64 b),_=>match(FloatKind.f64.decode b).toInt .zero with
  |some n=>if k.min<=n/\n<=k.max then some (.int k n)else none
  |none=>none
 | .cmp op,.lit (.float .f64 a),.lit (.float .f64 b)=>iS (FloatKind.f64.format.order a b) op
 | .re,.lit (.complex .f64 a _),_=>some (.lit (.float .f64 a))
 | .im,.lit (.complex .f64 _ b),_=>some (.lit (.float .f64 b))
 | .cx,.lit (.float .f64 a),.lit (.float .f64 b)=>some (.lit (.complex .f64 a b))
 | .pT,.lit (.float .f64 b),_=>match FloatKind.f64.decode b with
  | .number s m i=>some (.lit (.float .f64 (FloatKind.f64.encode ((Ieee.Datum.number s m i).integral .zero))))
  |_=>none
 | .bits,.lit (.float .f64 b),_=>some (.int .u64 b)
 |_,_,_=>none
def AV(T:List AH)(H:AP):GS->Option (AH×AP)
 | .mv x=>some (Bm T x,H)
 | .pick c a b=>match Bm T c with
  | .bool t=>some (if t then Bm T a else Bm T b,H)
  |_=>none
 | .bin op x y=>match Bm T x,Bm T y with
  | .int k a,.int k' b=>match op with
   | .shl| .shr=>(Dl op k a b).map (·,H)
   |_=>if k=k' then(Ym op k a b).map (·,H)else none
  |_,_=>none
 | .MG op x y=>match Bm T x,Bm T y with
  | .str a,.str b=>match op with
   | .add=>if a.length+b.length<=9223372036854775807 then some (.str (a++b),H)else none
   | .eql=>some (.bool (decide (a=b)),H)
   | .neq=>some (.bool (!decide (a=b)),H)
   |_=>none
  |_,_=>none
 | .cS neg x y=>match Bm T x,Bm T y with
  | .bool a,.bool b=>some (.bool (if neg then !decide (a=b)else decide (a=b)),H)
  |_,_=>none
 | .eqs neg ks x y=>match Bm T x,Bm T y with
  | .agg a,.agg b=>(Bp ks a b).map λr=>(.bool (if neg then !r else r),H)
  |_,_=>none
 | .isNil neg k x=>(e9 k (Bm T x)).map λr=>(.bool (if neg then !r else r),H)
 | .un op x=>match op,Bm T x with
  | .not,.bool b=>some (.bool !b,H)
  | .neg,.int k n=>some (.int k (k.wrap (0-n)),H)
  | .xor,.int k n=>some (.int k (k.wrap ((Qa k.bits (if k.signed then-1 else k.max)^^^Qa k.bits n).toNat)),H)
  |_,_=>none
 | .AQ off x=>match Bm T x with
  | .ptr o n i j=>some (.ptr o n i (j+off),H)
  |_=>none
 | .ld n x=>match Bm T x with
  | .ptr o m i j=>match H[o]? with
   |some (.AU _ xs _)=>if xs.length=m then(match xs[i]? with
    |some c=>match n with
     |none=>match c[j]? with
      |some a=>some (a,H)
      |none=>none
     |some k=>if j+k<=c.length then some (.agg ((c.drop j).take k),H)else none
    |none=>none)else none
   |_=>none
  |_=>none
 | .st size x y=>match Bm T x,HN (Bm T y)with
  | .ptr o m i j,some ys=>match H[o]? with
   |some (.AU s xs false)=>if xs.length=m then(match xs[i]? with
    |some c=>if ys.length=size/\j+ys.length<=s then some (.Dk,H.set o (.AU s (xs.set i (putAt c j ys)) false))else none
    |none=>none)else none
   |_=>none
  |_,_=>none
 | .Pb x=>match Bm T x with
  | .ptr o n i j=>some (.ptr o n i j,H)
  |_=>none
 | .U7 n size x i=>match Bm T x,Bm T i with
  | .ptr o m k j,.int _ q=>if 0<=q/\q<n then some (.ptr o m k (j+q.toNat* size),H)else none
  |_,_=>none
 | .A9 size x i=>match Bm T x,Bm T i with
  | .slice o n st len _,.int _ q=>match H[o]? with
   |some (.AU s xs _)=>if xs.length=n/\s=size/\0<=q/\q<len then some (.ptr o n (st+q.toNat) 0,H)else none
   |_=>none
  | .acc o n,.int _ q=>match H[o]? with
   |some (.AU s xs _)=>if xs.length=n/\s=size/\0<=q/\q<n then some (.ptr o n q.toNat 0,H)else none
   |_=>none
  | .Kl o n e j len,.int _ q=>match H[o]? with
   |some (.AU _ xs _)=>if xs.length=n/\size=1/\0<=q/\q<len then some (.ptr o n e (j+q.toNat),H)else none
   |_=>none
  |_,_=>none
 | .FA x i=>match Bm T x,Bm T i with
  | .str s,.int _ q=>if 0<=q then(match s[q.toNat]? with
   |some b=>some (.int .u8 b.toNat,H)
   |none=>none)else none
  |_,_=>none
 | .NR n size agg x i=>match Bm T x,Bm T i with
  | .agg l,.int _ q=>if 0<=q/\q<n then(if agg then(if q.toNat* size+size<=l.length then some (.agg ((l.drop (q.toNat* size)).take size),H)else none)
   else(l[q.toNat* size]?).map (·,H))else none
  |_,_=>none
 | .part off n x=>match Bm T x with
  | .agg l=>match n with
   |none=>(l[off]?).map (·,H)
   |some k=>if off+k<=l.length then some (.agg ((l.drop off).take k),H)else none
  |_=>none
 | .len true x=>match Bm T x with
  | .str s=>some (.int .i64 s.length,H)
  |_=>none
 | .len false x=>match Bm T x with
  | .slice _ _ _ len _=>some (.int .i64 len,H)
  | .acc _ n=>some (.int .i64 n,H)
  | .Kl _ _ _ _ len=>some (.int .i64 len,H)
  | .lit (.slice none 0 0)=>some (.int .i64 0,H)
  |_=>none
 | .ext x i=>match Bm T x with
  | .Bj l=>(l[i]?).map (·,H)
  |_=>none
 | .build zero parts=>(Dz T zero parts).map λl=>(.agg l,H)
 | .EO size n zero parts=>(DW T size (Qb n zero) parts).map λxs=>(.slice H.length n 0 n true,H++[.AU size xs false])
 | .box x=>(HN (Bm T x)).map λl=>(.ptr H.length 1 0 0,H++[.AU l.length [l] false])
 | .new zero=>some (.ptr H.length 1 0 0,H++[.AU zero.length [zero] false])
 | .MM size bytes zero l c=>match Bm T l,Bm T c with
  | .int _ l,.int _ c=>if 0<=l/\l<=c/\c* bytes<=140737488355328/\c<=9223372036854775807 then
   some (.slice H.length l.toNat 0 l.toNat (decide (l=c)),H++[.AU size (Qb l.toNat zero) false])else none
  |_,_=>none
 | .app size bytes s x=>match Ds H size (Bm T x)with
  |none=>none
  |some ys=>match Bm T s with
   | .lit (.slice none 0 0)=>if ys=[]then some (.lit (.slice none 0 0),H)
    else if ys.length* bytes<=140737488355328 then some (.slice H.length ys.length 0 ys.length false,H++[.AU size ys false])else none
   | .acc o n=>match H[o]? with
    |some (.AU s' xs false)=>if xs.length=n/\s'=size/\(n+ys.length)* bytes<=140737488355328 then some (.acc o (n+ys.length),H.set o (.AU size (xs++ys) false))else none
    |_=>none
   | .slice o n st len full=>match H[o]? with
    |some (.AU s' xs ro)=>if xs.length=n/\s'=size/\(len+ys.length)* bytes<=140737488355328 then
     (if ys=[]then some (.slice o n st len full,H)
     else if full then some (.slice H.length (len+ys.length) 0 (len+ys.length) false,H++[.AU size ((xs.drop st).take len++ys) false])
     else if st=0/\len=n/\ro=false then some (.slice o (n+ys.length) 0 (n+ys.length) false,H.set o (.AU size (xs++ys) false))
     else none)else none
    |_=>none
   |_=>none
 | .Yg x=>match Bm T x with
  | .str s=>some (.M1 H.length,H++[.iter s 0])
  |_=>none
 | .Ya x=>match Bm T x with
  | .M1 o=>match H[o]? with
   |some (.iter s pos)=>if pos<s.length then
    some (.Bj [.bool true,.int .i64 pos,.int .i32 (Utf8.decode ⟨s.toArray⟩ pos).1],H.set o (.iter s (pos+(Utf8.decode ⟨s.toArray⟩ pos).2)))
    else some (.Bj [.bool false],H)
   |_=>none
  |_=>none
 | .Yi n x lo hi=>match Bm T x,EI T 0 lo,EI T n hi with
  | .ptr o m i j,some l,some h=>match H[o]? with
   |some (.AU s xs _)=>if xs.length=m/\i<m/\l<=h/\h<=n/\j+n<=s then some (.Kl o m i (j+l) (h-l),H)else none
   |_=>none
  |_,_,_=>none
 | .Ue size x lo hi mx=>match Bm T x with
  | .slice o n st len full=>match H[o]?,EI T 0 lo,EI T len hi with
   |some (.AU s xs _),some l,some h=>if xs.length=n/\s=size then(match mx with
    |none=>if l<=h/\h<=len then some (.slice o n (st+l) (h-l) (full&&decide (h=len)),H)else none
    |some y=>match EI T len (some y)with
     |some m=>if l<=h/\h<=m/\m<=len then some (.slice o n (st+l) (h-l) (decide (h=m)),H)else none
     |none=>none)else none
   |_,_,_=>none
  | .acc o n=>match H[o]?,EI T 0 lo,EI T n hi with
   |some (.AU s xs _),some l,some h=>if xs.length=n/\s=size then(match mx with
    |none=>if l<=h/\h<=n then(if n=0 then some (.lit (.slice none 0 0),H)else some (.slice o n l (h-l) false,H))else none
    |some y=>match EI T n (some y)with
     |some m=>if l<=h/\h<=m/\m<=n then(if n=0 then some (.lit (.slice none 0 0),H)else some (.slice o n l (h-l) (decide (h=m)),H))else none
     |none=>none)else none
   |_,_,_=>none
  | .Kl o n i j len=>match EI T 0 lo,EI T len hi,mx with
   |some l,some h,none=>if size=1/\l<=h/\h<=len then some (.Kl o n i (j+l) (h-l),H)else none
   |_,_,_=>none
  | .lit (.slice none 0 0)=>match EI T 0 lo,EI T 0 hi with
   |some 0,some 0=>(match mx with
    |none=>some (.lit (.slice none 0 0),H)
    |some y=>match EI T 0 (some y)with
     |some 0=>some (.lit (.slice none 0 0),H)
     |_=>none)
   |_,_=>none
  |_=>none
 | .Km x lo hi=>match Bm T x with
  | .str s=>match EI T 0 lo,EI T s.length hi with
   |some l,some h=>if l<=h/\h<=s.length then some (.str ((s.take h).drop l),H)else none
   |_,_=>none
  |_=>none
 | .WB mx l=>match l with
  |x::r=>(WA mx T (Bm T x) r).map (·,H)
  |[]=>none
 | .Hp k x=>match Bm T x with
  | .int _ n=>some (.int k (k.wrap n),H)
  |_=>none
 | .cU x=>match Bm T x with
  | .int _ n=>some (.str (Utf8.encode n).data.toList,H)
  |_=>none
 | .eo f x y=>(wX f (Bm T x) (Bm T y)).map (·,H)
 | .dz _=>none
 | .eP _=>none
 | .call _ _=>none
 | .Ha _ _=>none
 | .YY f Kj=>some (.func f (Kj.map (Bm T)),H)
 | .Pa=>some (.map H.length,H++[.map []])
 | .Wb zero x k=>match Bm T k with
  | .int ik n=>match Bm T x with
   | .map o=>match H[o]? with
    |some (.map es)=>match JJ ik n es with
     |some (some v)=>some (v,H)
     |some none=>some (zero,H)
     |none=>none
    |_=>none
   | .lit (.map none)=>some (zero,H)
   |_=>none
  |_=>none
 | .ZR x k v=>match Bm T x,Bm T k with
  | .map o,.int ik n=>match H[o]? with
   |some (.map es)=>match JJ ik n es with
    |some _=>if(Bm T v).cell then some (.Dk,H.set o (.map (Jr ik n (Bm T v) es)))else none
    |none=>none
   |_=>none
  |_,_=>none
 | .aC size d s=>match Gv H size (Bm T s)with
  |none=>none
  |some ys=>match Bm T d with
   | .Kl o n i j len=>match H[o]? with
    |some (.AU s' xs false)=>if xs.length=n/\size=1/\j+len<=s' then(match xs[i]? with
     |some x=>some (.int .i64 (min ys.length len),H.set o (.AU s' (xs.set i (putAt x j (ys.take len).flatten)) false))
     |none=>none)else none
    |_=>none
   | .slice o n st len _=>match H[o]? with
    |some (.AU s' xs false)=>if xs.length=n/\s'=size then some (.int .i64 (min ys.length len),H.set o (.AU s' (Fh xs st (ys.take len)) false))else none
    |_=>none
   |_=>none
 | .clr size zero x=>match Bm T x with
  | .slice o n st len _=>match H[o]? with
   |some (.AU s' xs false)=>if xs.length=n/\s'=size then some (.Dk,H.set o (.AU s' (Fh xs st (Qb len zero)) false))else none
   |_=>none
  |_=>none
 | .born _ _=>none
def Cz(T:List AH)(k:Nat):EH->Option (AH×Au)
 | .new zero=>some (.ptr k 1 0 0,.AU zero.length [zero] false)
 | .box x=>(HN (Bm T x)).map λl=>(.ptr k 1 0 0,.AU l.length [l] false)
 | .EO size n zero parts=>(DW T size (Qb n zero) parts).map λxs=>(.slice k n 0 n true,.AU size xs false)
 | .MM size bytes zero l c=>match Bm T l,Bm T c with
  | .int _ l,.int _ c=>if 0<=l/\l<=c/\c* bytes<=140737488355328/\c<=9223372036854775807 then
   some (.slice k l.toNat 0 l.toNat (decide (l=c)),.AU size (Qb l.toNat zero) false)else none
  |_,_=>none
 | .Pa=>some (.map k,.map [])
theorem Yt{T:List AH}{H:AP}{b:EH}{v:AH}{x:Au}(h:Cz T H.length b=some (v,x)):AV T H b.Z3=some (v,H++[x]):=by
 cases b<;>simp only[Cz,EH.Z3,AV]at h ⊢
 case new=>simp only[Qd,Qc]at h;obtain⟨rfl,rfl⟩:=h;rfl
 case box=>simp only[Option.map_eq_some_iff,Qc]at h ⊢;obtain⟨l,h1,rfl,rfl⟩:=h;exact⟨l,h1,rfl,rfl⟩
 case EO=>simp only[Option.map_eq_some_iff,Qc]at h ⊢;obtain⟨l,h1,rfl,rfl⟩:=h;exact⟨l,h1,rfl,rfl⟩
 case MM=>
  split at h
  case h_2=>cases h
  split at h
  case isFalse=>cases h
  rename_i hc
  simp only[Qd,Qc]at h;obtain⟨rfl,rfl⟩:=h
  rw[if_pos hc]
 case Pa=>simp only[Qd,Qc]at h;obtain⟨rfl,rfl⟩:=h;rfl
end Go.Ax
