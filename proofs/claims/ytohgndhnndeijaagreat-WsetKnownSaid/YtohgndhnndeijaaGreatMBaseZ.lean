/- The base layers as plain functions: rights, places, capabilities, things. No program in sight. Conditions: none. -/
import Derived.Test.YtohgndhnndeijaaGreatAxTacZ
set_option linter.all false
open BitVec renaming ofInt -> Qa
namespace Go.Ax.M
open Go Go.Ax
def Bv(n lo hi:Int):Bool:=decide (lo<=n)&&decide (n<=hi)
def C2(r:Int):Bool:=Bv r 0 7
def I8(r:Int):Int:=bif C2 r then r else 0
def D3(a b:Int):Int:=IntKind.wrap .i64 ((Qa (IntKind.bits .i64) (I8 a)&&&Qa (IntKind.bits .i64) (I8 b)).toNat)
def LU(a b:Int):Int:=IntKind.wrap .i64 ((Qa (IntKind.bits .i64) (I8 a)&&&~~~Qa (IntKind.bits .i64) (I8 b)).toNat)
def Bd(a b:Int):Bool:=decide (LU a b=0)
def DO(b:Int):Bool:=Bv b 0 65535
structure SY where
 AI:Int
 AE:Int
 AB:Int
 deriving DecidableEq,Inhabited
def SY.cells(g:SY):List AH:=[nS g.AI,nS g.AE,nS g.AB]
def Ee(g:SY):Bool:=Bv g.AI 1 4&&(Bv g.AE (8* g.AI) 96&&(decide (g.AE.tmod 8=0)&&Bv g.AB (g.AI+2) 48))
def LD(g:SY)(t:Int):Int:=bif Ee g&&Bv t 0 (g.AI-1)then 8* t else 0
@[go_sem] theorem SY.eta {g:SY}:(⟨g.AI,g.AE,g.AB⟩:SY)=g:=rfl
structure Bh where
 ty:Int
 th:Int
 ri:Int
 ba:Int
 deriving DecidableEq,Inhabited
def Bh.cells(c:Bh):List AH:=[nS c.ty,nS c.th,nS c.ri,nS c.ba]
@[go_sem] theorem Bh.eta {c:Bh}:(⟨c.ty,c.th,c.ri,c.ba⟩:Bh)=c:=rfl
def Bh.zero:Bh:=⟨0,0,0,0⟩
def Aq(c:Bh):Bool:=decide (c.ty=0)&&(decide (c.th=0)&&(decide (c.ri=0)&&decide (c.ba=0)))
def Db(k:Int):Bool:=decide (k=3)||decide (k=4)
def Bq(c:Bh):Bool:=Aq c||(Bv c.ty 1 5&&(Bv c.th 0 47&&(C2 c.ri&&(DO c.ba&&(decide (c.ba=0)||Db c.ty)))))
def ES(c:Bh)(r:Int):Bh:=bif Bq c then{c with ri:=D3 c.ri r}else .zero
def CK(c:Bh)(b:Int):Bh×Int:=
 bif !Bq c||(!DO b||decide (b=0))then(.zero,1)else bif !Db c.ty then(.zero,7)else bif decide (c.ba≠0)then(.zero,5)else({c with ba:=b},0)
def Dw(a b:Bh):Bool:=Aq a||(decide (a.ty=b.ty)&&(decide (a.th=b.th)&&(Bd a.ri b.ri&&(decide (b.ba=0)||decide (b.ba=a.ba)))))
structure AN where
 ty:Int
 bits:Int
 base:Int
 size:Int
 used:Int
 from_:Int
 BF:Int
 full:Bool
 word:Int
 d0:Int
 d1:Int
 d2:Int
 d3:Int
 deriving DecidableEq,Inhabited
def AN.cells(t:AN):List AH:=[nS t.ty,nS t.bits,nS t.base,nS t.size,nS t.used,nS t.from_,nS t.BF,.bool t.full,nT t.word,nT t.d0,nT t.d1,nT t.d2,nT t.d3]
@[go_sem] theorem AN.eta {t:AN}:(⟨t.ty,t.bits,t.base,t.size,t.used,t.from_,t.BF,t.full,t.word,t.d0,t.d1,t.d2,t.d3⟩:AN)=t:=rfl
def AN.zero:AN:=⟨0,0,0,0,0,0,0,false,0,0,0,0,0⟩
def F4(a b:AN):Bool:=decide (a.ty=b.ty)&&(decide (a.bits=b.bits)&&(decide (a.base=b.base)&&(decide (a.size=b.size)&&(decide (a.used=b.used)&&(decide (a.from_=b.from_)&&(decide (a.BF=b.BF)&&(decide (a.full=b.full)&&(decide (a.word=b.word)&&(decide (a.d0=b.d0)&&(decide (a.d1=b.d1)&&(decide (a.d2=b.d2)&&decide (a.d3=b.d3))))))))))))
def DI(t:AN):AN:=
 bif decide (t.ty=1)then{AN.zero with ty:=t.ty,size:=t.size,used:=t.used}
 else bif decide (t.ty=2)then{AN.zero with ty:=t.ty,bits:=t.bits,base:=t.base}
 else bif decide (t.ty=3)then(bif t.full then{AN.zero with ty:=t.ty,full:=true,word:=t.word,BF:=t.BF,from_:=t.from_}else{AN.zero with ty:=t.ty})
 else bif decide (t.ty=4)then{AN.zero with ty:=t.ty,word:=t.word}
 else bif decide (t.ty=5)then{AN.zero with ty:=t.ty,d0:=t.d0,d1:=t.d1,d2:=t.d2,d3:=t.d3}
 else AN.zero
def p2(b:Int):Int:=((2^b.toNat:Nat):Int)
def BB(t:AN):Bool:=
 F4 (DI t) t&&(bif decide (t.ty=1)then Bv t.size 1 4096&&Bv t.used 0 t.size
 else bif decide (t.ty=2)then Bv t.bits 1 4&&Bv t.base 0 (96-p2 t.bits)
 else bif decide (t.ty=3)then Bv t.BF 0 65535&&Bv t.from_ 0 96
 else true)
def CE(k n:Int):Int×Bool:=
 bif decide (k=1)then(bif Bv n 1 4096 then(n,true)else(0,false))
 else bif decide (k=2)then(bif Bv n 1 4 then(p2 n,true)else(0,false))
 else bif decide (k=3)||decide (k=4)then(1,true)
 else bif decide (k=5)then(2,true)
 else(0,false)
def Bw(k n b:Int):AN:=
 bif decide (k=1)then{AN.zero with ty:=k,size:=n}
 else bif decide (k=2)then{AN.zero with ty:=k,bits:=n,base:=b}
 else{AN.zero with ty:=k}
def HH(k n b:Int):AN×Bool:=
 bif decide (k=1)||(decide (k=2)||(decide (k=3)||(decide (k=4)||decide (k=5))))then(bif BB (Bw k n b)then(Bw k n b,true)else(.zero,false))else(.zero,false)
def E0(up:List Int)(i:Int):Bool:=decide (0<=i)&&(decide (i<up.length)&&!decide (up.getD i.toNat 0=-2))
def ZA(up:List Int)(u:Int):Bool:=decide (u=-2)||(decide (u=-1)||E0 up u)
def CH(up:List Int):Nat->Int->Bool
 |0,at_=>!E0 up at_
 |r+1,at_=>!E0 up at_||CH up r (up.getD at_.toNat 0)
def Cm(up:List Int):Bool:=decide (up.length<=96)&&(up.all (ZA up)&&(List.range up.length).all λi=>CH up (up.length+1) i)
theorem BX{n lo hi:Int}:Bv n lo hi=true↔lo<=n/\n<=hi:=by simp[Bv]
theorem Hb{g:SY}(h:Ee g=true):1<=g.AI/\g.AI<=4/\8* g.AI<=g.AE/\g.AE<=96/\g.AE.tmod 8=0/\g.AI+2<=g.AB/\g.AB<=48:=by
 simp[Ee,Bv]at h;omega
theorem I3{b:Int}(h:Bv b 1 4=true):Dl .shl .i64 1 b=some (nS (p2 b)):=by
 rw[BX]at h
 have:b=1\/b=2\/b=3\/b=4:=by omega
 rcases this with rfl|rfl|rfl|rfl<;>rfl
theorem C4{b:Int}(h:Bv b 1 4=true):2<=p2 b/\p2 b<=16:=by
 rw[BX]at h
 have:b=1\/b=2\/b=3\/b=4:=by omega
 rcases this with rfl|rfl|rfl|rfl<;>decide
theorem OW{a b:AN}:Bp [0,0,0,0,0,0,0,1,0,0,0,0,0] a.cells [nS b.ty,nS b.bits,nS b.base,nS b.size,nS b.used,nS b.from_,nS b.BF,.bool b.full,nT b.word,nT b.d0,nT b.d1,nT b.d2,nT b.d3]=some (F4 a b):=by
 simp[Bp,Ho,AN.cells,F4]
@[go_sem high] theorem mD {x0 x1 x2 x3 x4 x5 x6:Int} {x7:Bool} {x8 x9 x10 x11 x12:Int} {y0 y1 y2 y3 y4 y5 y6:Int} {y7:Bool} {y8 y9 y10 y11 y12:Int}:
 Bp [0,0,0,0,0,0,0,1,0,0,0,0,0] [nS x0,nS x1,nS x2,nS x3,nS x4,nS x5,nS x6,.bool x7,nT x8,nT x9,nT x10,nT x11,nT x12] [nS y0,nS y1,nS y2,nS y3,nS y4,nS y5,nS y6,.bool y7,nT y8,nT y9,nT y10,nT y11,nT y12]=some (F4 ⟨x0,x1,x2,x3,x4,x5,x6,x7,x8,x9,x10,x11,x12⟩ ⟨y0,y1,y2,y3,y4,y5,y6,y7,y8,y9,y10,y11,y12⟩):=by
 simp[Bp,Ho,F4]
theorem Er{a b:AN}:F4 a b=true↔a=b:=by
 cases a;cases b;simp[F4]
attribute [irreducible] Bv C2 I8 D3 LU Bd DO Ee LD Aq Db Bq ES CK Dw F4 DI p2 BB CE Bw HH E0 ZA Cm
end Go.Ax.M
