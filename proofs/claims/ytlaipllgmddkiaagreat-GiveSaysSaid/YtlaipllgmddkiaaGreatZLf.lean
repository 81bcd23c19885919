/- Texts put behind one another: STag, SMail, SBell, SLeaf, SCarve. Conditions: none. -/
import Derived.Test.YtlaipllgmddkiaaGreatSBaseZ
import Derived.Test.YtlaipllgmddkiaaGreatSLoopZ
import Derived.Test.YtlaipllgmddkiaaGreatZPu
import Derived.Test.YtlaipllgmddkiaaGreatZGv
import Derived.Test.YtlaipllgmddkiaaGreatZMo
set_option linter.all false
namespace Go.Ax.M
open Go Go.Ax
def aa(x:Nat×Nat):List AH:=[.int .i64 (x.1:Int),.int .i64 (x.2:Int)]
def HP(F:List (Nat×Nat)):List (List AH):=F.map aa
def FO(x:Nat×Nat):Nat:=(2^x.2-1)* 2^x.1
def NG(F:List (Nat×Nat)):Nat→Nat
 |0=>0
 |k+1=>(F.getD k (0,0)).1+(F.getD k (0,0)).2
structure aE (F:List (Nat×Nat)):Prop where
 len:F.length≤64
 ok:∀k,k<F.length→NG F k≤(F.getD k (0,0)).1∧1≤(F.getD k (0,0)).2∧(F.getD k (0,0)).1+(F.getD k (0,0)).2≤63
def Kv(F:List (Nat×Nat)):Nat→Nat
 |0=>0
 |k+1=>Kv F k+FO (F.getD k (0,0))
def Cc(l:List Int):List (List AH):=l.map fun x=>[.int .u64 x]
@[go_sem] theorem cX {l:List Int}:(Cc l).length=l.length:=by simp[Cc]
@[go_sem] theorem ab {l:List (Nat×Nat)}:(HP l).length=l.length:=by simp[HP]
theorem Ir{k:Nat}:0<(2:Nat)^k:=Nat.pow_pos (by omega)
theorem FU{a b:Nat}(h:a≤b):(2:Nat)^a≤2^b:=Nat.pow_le_pow_right (by omega) h
theorem T7{x:Nat×Nat}:FO x+2^x.1=2^(x.1+x.2):=by
 have:=Ir (k:=x.2)
 rw[FO,Nat.pow_add,Nat.mul_comm (2^x.1)]
 have e:2^x.2=(2^x.2-1)+1:=by omega
 conv=>rhs;rw[e,Nat.add_mul,Nat.one_mul]
theorem aL{F:List (Nat×Nat)}(h:aE F):∀k,k≤F.length→Kv F k<2^NG F k
 |0,_=>by simp[Kv,NG]
 |k+1,hk=>by
  have:=aL h k (by omega)
  have h2:=h.ok k (by omega)
  have h3:=T7 (x:=F.getD k (0,0))
  have h4:=FU h2.1
  simp only[Kv,NG]
  rw[←h3,Nat.add_comm]
  exact Nat.add_lt_add_left (Nat.lt_of_lt_of_le this h4) _
end Go.Ax.M
namespace Go.Ax.M
open Go Go.Ax
structure iI (F:List (Nat×Nat)) (k f n:Nat):Prop where
 get:F.getD k (0,0)=(f,n)
 n1:1≤n
 fn:f+n≤63
 lt:Kv F k<2^f
 en:NG F k≤f
theorem aE.at{F:List (Nat×Nat)}(h:aE F){k:Nat}(hk:k<F.length):∃f n,iI F k f n:=by
 obtain⟨h1,h2,h3⟩:=h.ok k hk
 have:=aL h k (by omega)
 have h4:=FU h1
 exact⟨_,_,rfl,h2,h3,Nat.lt_of_lt_of_le this h4,h1⟩
end Go.Ax.M
namespace Go.Proofs.YtlaipllgmddkiaaGreat.Ax
open Go Go.Ax Go.Ax.M
section
variable {H:AP}{K:AH→AP→Prop}{F:List (Nat×Nat)}{o p:Nat}{fl fp ro rp:Bool}
end
end Go.Proofs.YtlaipllgmddkiaaGreat.Ax
namespace Go.Proofs.YtlaipllgmddkiaaGreat.Ax
open Go Go.Ax Go.Ax.M
section
variable {H:AP}{K:AH→AP→Prop}{s:State}{oS oT:Nat}{fS fT rS rT:Bool}{c:M.Call}{oA oB:Nat}{fA fB rA rB:Bool}
end
end Go.Proofs.YtlaipllgmddkiaaGreat.Ax
namespace Go.Proofs.YtlaipllgmddkiaaGreat.Ax
open Go Go.Ax Go.Ax.M
section
variable {H:AP}{K:AH→AP→Prop}
theorem eT{n:Int}(h0:0≤n)(h1:n<64):Dl .shl .u64 1 n=some (.int .u64 (p2 n)):=by
 obtain⟨k,rfl⟩:∃k:Nat,n=k:=⟨n.toNat,by omega⟩
 have hk:k<64:=by omega
 have e:min k 64=k:=by omega
 have hp:(2:Nat)^k<2^64:=Nat.pow_lt_pow_right (by decide) hk
 have h2:((2:Int)^k)=((2^k:Nat):Int):=by rw[Int.natCast_pow];rfl
 simp only[Dl,show ¬((k:Int)<0) by omega,if_false,IntKind.bits,Int.one_mul,p2,Int.toNat_natCast,e,h2]
 congr 2
 generalize (2:Nat)^k=m at*
 simp[IntKind.wrap,IntKind.bits,IntKind.signed];omega
end
end Go.Proofs.YtlaipllgmddkiaaGreat.Ax
namespace Go.Proofs.YtlaipllgmddkiaaGreat.Ax
open Go Go.Ax Go.Ax.M
section
variable {H:AP}{K:AH→AP→Prop}{s:State}{th op x y w:Int}{a b:List Int}{oS oT oA oB:Nat}{fS fT rS rT fA fB rA rB:Bool}
theorem S2{op x y w:Int}{a b:List Int}(ho:op=11∨op=12)(h:AT ⟨op,a,b,x,y,w⟩=true):x=0∨x=1∨x=2∨x=3:=by
 simp only[AT,Bool.and_eq_true]at h
 obtain⟨-,h1,-,h2,-⟩:=h
 rcases ho with rfl|rfl<;>simp[C0,Bv]at h2<;>omega
theorem RE{x y w:Int}{a b:List Int}(h:AT ⟨11,a,b,x,y,w⟩=true):Bg s th ⟨11,a,b,x,y,w⟩=
 bif !decide ((AO s th a).2.2=0)then .bad (AO s th a).2.2 else bif !decide ((AO s th a).2.1.ty=5)then .bad 7 else bif !Bd 2 (AO s th a).2.1.ri then .bad 6
 else⟨0,0,0,some (boxed s (AO s th a).2.1.th (My (s.AG (AO s th a).2.1.th.toNat) x w))⟩:=by
 simp only[Bg,h,show decide ((11:Int)=11)=true from rfl,show decide ((11:Int)=13)=false from rfl,show decide ((11:Int)=12)=false from rfl,Bool.not_true,Bool.false_and,Bool.or_self,cond_false];rfl
theorem aq{x y w:Int}{a b:List Int}(h:AT ⟨12,a,b,x,y,w⟩=true):Bg s th ⟨12,a,b,x,y,w⟩=
 bif !decide ((AO s th a).2.2=0)then .bad (AO s th a).2.2 else bif !decide ((AO s th a).2.1.ty=5)then .bad 7 else bif !Bd 1 (AO s th a).2.1.ri then .bad 6
 else⟨0,Lg (s.AG (AO s th a).2.1.th.toNat) x,0,none⟩:=by
 simp only[Bg,h,show decide ((12:Int)=11)=false from rfl,show decide ((12:Int)=13)=false from rfl,show decide ((12:Int)=12)=true from rfl,Bool.not_true,Bool.not_false,Bool.true_and,Bool.false_and,Bool.or_self,cond_false,cond_true];rfl
end
end Go.Proofs.YtlaipllgmddkiaaGreat.Ax
namespace Go.Proofs.YtlaipllgmddkiaaGreat.Ax
open Go Go.Ax Go.Ax.M
section
variable {H:AP}{K:AH→AP→Prop}{s:State}{oS oT:Nat}{fS fT rS rT:Bool}
theorem Vr{k n:Int}:0≤(CE k n).1∧(CE k n).1≤4096:=by
 simp only[CE]
 by_cases e1:k=1
 ·simp only[e1,decide_true,cond_true]
  cases hb:Bv n 1 4096 with
  |false=>simp
  |true=>rw[BX]at hb;simp only[cond_true];omega
 ·simp only[e1,decide_false,cond_false]
  by_cases e2:k=2
  ·simp only[e2,decide_true,cond_true]
   cases hb:Bv n 1 4 with
   |false=>simp
   |true=>have:=C4 hb;simp only[cond_true];omega
  ·simp only[e2,decide_false,cond_false]
   cases (decide (k=3)||decide (k=4))<;>cases decide (k=5)<;>simp
theorem aS{s:State}{n r:Nat}{T:AN}{used:Int}(hr:r<s.AB.length)(hne:n≠r):((s.AB.map AN.cells).set n T.cells).set r [.int .i64 (s.AG r).ty,.int .i64 (s.AG r).bits,.int .i64 (s.AG r).base,.int .i64 (s.AG r).size,.int .i64 used,.int .i64 (s.AG r).from_,.int .i64 (s.AG r).BF,.bool (s.AG r).full,.int .u64 (s.AG r).word,.int .u64 (s.AG r).d0,.int .u64 (s.AG r).d1,.int .u64 (s.AG r).d2,.int .u64 (s.AG r).d3]=
 ((s.AB.set n T).set r {((s.AB.set n T).getD r .zero)with used:=used}).map AN.cells:=by
 have e:(s.AB.set n T).getD r .zero=s.AG r:=by simp only[List.getD,List.getElem?_set_ne hne,State.AG]
 rw[e,List.map_set,List.map_set];rfl
end
end Go.Proofs.YtlaipllgmddkiaaGreat.Ax
