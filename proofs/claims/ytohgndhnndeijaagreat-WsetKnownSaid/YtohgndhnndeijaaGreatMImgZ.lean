/- Memories in words: superblocks, images, what is to be written. No program in sight. Conditions: none. -/
import Derived.Test.YtohgndhnndeijaaGreatZMo
set_option linter.all false
namespace Go.Ax.M
open Go Go.Ax
def uw(g:SY):Int:=16+g.AI* 1208
def ul(g:SY):Int:=uw g+2* g.AE
def uu(g:SY):Int:=ul g+8* g.AB
def vH(g:SY):Int:=bif Ee g then uu g else 0
def vB(g:SY)(i:Int):Int:=bif Ee g&&Bv i 0 (g.AE-1)then uw g+2* i else 0
def vL(z:Int×Int)(w:Int):Int×Int:=
 ((-z.2+(w%65536-w/4294967296%65536))%1000003,(z.1+(w/65536%65536-w/281474976710656%65536))%1000003)
def vd(l:List Int):Int×Int:=l.foldl vL (0,0)
def ve(l:List Int):Int:=(vd l).2* 4294967296+(vd l).1
def vM(g:SY)(boot:Int):List Int:=[8243106252149764145,g.AI,g.AE,g.AB,boot,0,0]
def uj(g:SY)(boot:Int):List Int:=vM g boot++[ve (vM g boot)]
def vK(x:Slot):List Int:=[Hv x.cap,x.up+1]
def vE(t:AN):List Int:=[t.ty+t.bits* 256+t.base* 65536+(bif t.full then 1 else 0)* 16777216+t.from_* 4294967296,t.size+t.used* 65536+t.BF* 4294967296,t.word,t.d0,t.d1,t.d2,t.d3,0]
def uq(s:State):List Int:=List.replicate (8+s.AS.AI.toNat* 1208) 0++(s.AE.flatMap vK++s.AB.flatMap vE)
def iB(s:State)(boot:Int):List Int:=uj s.AS boot++(uq s++uj s.AS boot)
abbrev Wr:=Int×Int
def iA:Nat->List Int->List Int->List Wr
 |k,a::x,b::y=>bif decide (a=b)then iA (k+1) x y else((k:Int),b)::iA (k+1) x y
 |_,_,_=>[]
def vR(l:List Int)(x:Wr):List Int:=bif decide (0<=x.1)&&decide (x.1<l.length)then l.set x.1.toNat x.2 else l
def vV(l:List Int)(w:List Wr):List Int:=w.foldl vR l
def vx(g:SY):Int->List Wr->Bool
 |_,[]=>true
 |at_,x::w=>!(decide (x.1<=at_)||decide (vH g<=x.1))&&vx g x.1 w
def vw(g:SY)(w:List Wr):Bool:=Ee g&&(!decide (600<w.length)&&vx g (vB g 0-1) w)
end Go.Ax.M
