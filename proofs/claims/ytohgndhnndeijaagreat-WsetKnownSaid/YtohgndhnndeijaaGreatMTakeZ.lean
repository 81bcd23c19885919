/- What is emptied, and what goes with it, as plain functions. No program in sight. Conditions: none. -/
import Derived.Test.YtohgndhnndeijaaGreatZMo
set_option linter.all false
namespace Go.Ax.M
open Go Go.Ax
def CC(s:State)(i:Int):Bool:=!decide (i<0)&&(!decide ((s.AE.length:Int)<=i)&&!Aq (s.slot i.toNat).cap)
def B6(s:State)(i:Int)(x:Slot):Slot:=if x.up=i then⟨x.cap,(s.slot i.toNat).up⟩else x
def CX(i:Int)(t:AN):AN:=if t.from_=i+1 then{t with from_:=0}else t
def Bf(s:State)(i:Int):State:={s with AE:=(s.AE.map (B6 s i)).set i.toNat ⟨.zero,-1⟩,AB:=s.AB.map (CX i)}
def BA(p:State×Int)(i:Int):State×Int:=bif CC p.1 i then(Bf p.1 i,p.2+1)else p
def AZ(s:State)(n:Int)(l:List Int):State×Int:=l.foldl BA (s,n)
def Kf(s:State)(t:Nat):Bool:=!(List.range s.AE.length).all λk=>!DV s t k
def DG(s:State)(t:Nat):Bool:=!decide ((s.AG t).ty=0)&&(!Bc s t&&!Kf s t)
def Cr(t:AN):List Int:=bif decide (t.ty=2)then(List.range (p2 t.bits).toNat).map fun(i:Nat)=>t.base+(i:Int)else[]
def FM(s:State)(t:Nat):State×Int:=
 ({(AZ s 0 (Cr (s.AG t))).1 with AB:=(AZ s 0 (Cr (s.AG t))).1.AB.set t .zero},(AZ s 0 (Cr (s.AG t))).2)
def FB(p:State×Int×Bool)(t:Nat):State×Int×Bool:=bif DG p.1 t then((FM p.1 t).1,p.2.1+(FM p.1 t).2,true)else p
def pass(s:State)(n:Int):State×Int×Bool:=(List.range s.AB.length).foldl FB (s,n,false)
def DN:Nat->State->Int->State×Int
 |0,s,n=>(s,n)
 |k+1,s,n=>bif (pass s n).2.2 then DN k (pass s n).1 (pass s n).2.1 else((pass s n).1,(pass s n).2.1)
def DD(s:State)(l:List Int):State×Int:=DN (s.AB.length+1) (AZ s 0 l).1 (AZ s 0 l).2
end Go.Ax.M
