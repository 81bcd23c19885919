/- Texts put behind one another: STag, SMail, SBell, SLeaf, SCarve. Conditions: none. -/
import Derived.Test.YtlaipllgmddkiaaGreatSBaseZ
import Derived.Test.YtlaipllgmddkiaaGreatSLoopZ
import Derived.Test.YtlaipllgmddkiaaGreatZPu
import Derived.Test.YtlaipllgmddkiaaGreatZGv
import Derived.Test.YtlaipllgmddkiaaGreatZMo
set_option linter.all false
open Nat renaming add_assoc → Qa, lt_of_lt_of_le → Qd
open List renaming length_set → Qb, getElem?_set_ne → Qc, map_set → Qe
namespace Go.Ax.M
open Go Go.Ax
def aa(x:Nat×Nat):List AH:=[.int .i64 (x.1:Int),.int .i64 (x.2:Int)]
def HP(F:List (Nat×Nat)):List (List AH):=F.map aa
def FO(x:Nat×Nat):Nat:=(2^x.2-1)* 2^x.1
def NG(F:List (Nat×Nat)):Nat→Nat
 |0=>0
 |k+1=>(F.getD k (0,0)).1+(F.getD k (0,0)).2
structure aE (F:List (Nat×Nat)):Prop where
 len:F.length≤64
 ok:∀k,k<F.length→NG F k≤(F.getD k (0,0)).1∧1≤(F.getD k (0,0)).2∧(F.getD k (0,0)).1+(F.getD k (0,0)).2≤63
def Kv(F:List (Nat×Nat)):Nat→Nat
 |0=>0
 |k+1=>Kv F k+FO (F.getD k (0,0))
def Cc(l:List Int):List (List AH):=l.map fun x=>[.int .u64 x]
@[go_sem] theorem cX {l:List Int}:(Cc l).length=l.length:=by simp[Cc]
@[go_sem] theorem ab {l:List (Nat×Nat)}:(HP l).length=l.length:=by simp[HP]
theorem Ir{k:Nat}:0<(2:Nat)^k:=Nat.pow_pos (by omega)
theorem FU{a b:Nat}(h:a≤b):(2:Nat)^a≤2^b:=Nat.pow_le_pow_right (by omega) h
theorem T7{x:Nat×Nat}:FO x+2^x.1=2^(x.1+x.2):=by
 have:=Ir (k:=x.2)
 rw[FO,Nat.pow_add,Nat.mul_comm (2^x.1)]
 have e:2^x.2=(2^x.2-1)+1:=by omega
 conv=>rhs;rw[e,Nat.add_mul,Nat.one_mul]
theorem aL{F:List (Nat×Nat)}(h:aE F):∀k,k≤F.length→Kv F k<2^NG F k
 |0,_=>by simp[Kv,NG]
 |k+1,hk=>by
  have:=aL h k (by omega)
  have h2:=h.ok k (by omega)
  have h3:=T7 (x:=F.getD k (0,0))
  have h4:=FU h2.1
  simp only[Kv,NG]
  rw[←h3,Nat.add_comm]
  exact Nat.add_lt_add_left (Qd this h4) _
end Go.Ax.M
namespace Go.Ax.M
open Go Go.Ax
structure iI (F:List (Nat×Nat)) (k f n:Nat):Prop where
 get:F.getD k (0,0)=(f,n)
 n1:1≤n
 fn:f+n≤63
 lt:Kv F k<2^f
 en:NG F k≤f
theorem aE.at{F:List (Nat×Nat)}(h:aE F){k:Nat}(hk:k<F.length):∃f n,iI F k f n:=by
 obtain⟨h1,h2,h3⟩:=h.ok k hk
 have:=aL h k (by omega)
 have h4:=FU h1
 exact⟨_,_,rfl,h2,h3,Qd this h4,h1⟩
end Go.Ax.M
namespace Go.Proofs.YtlaipllgmddkiaaGreat.Ax
open Go Go.Ax Go.Ax.M
section
variable {H:AP}{K:AH→AP→Prop}{F:List (Nat×Nat)}{o p:Nat}{fl fp ro rp:Bool}
end
end Go.Proofs.YtlaipllgmddkiaaGreat.Ax
namespace Go.Proofs.YtlaipllgmddkiaaGreat.Ax
open Go Go.Ax Go.Ax.M
section
variable {H:AP}{K:AH→AP→Prop}{s:State}{oS oT:Nat}{fS fT rS rT:Bool}{c:M.Call}{oA oB:Nat}{fA fB rA rB:Bool}
end
end Go.Proofs.YtlaipllgmddkiaaGreat.Ax
namespace Go.Proofs.YtlaipllgmddkiaaGreat.Ax
open Go Go.Ax Go.Ax.M
section
variable {H:AP}{K:AH→AP→Prop}
theorem eT{n:Int}(h0:0≤n)(h1:n<64):Dl .shl .u64 1 n=some (.int .u64 (p2 n)):=by
 obtain⟨k,rfl⟩:∃k:Nat,n=k:=⟨n.toNat,by omega⟩
 have hk:k<64:=by omega
 have e:min k 64=k:=by omega
 have hp:(2:Nat)^k<2^64:=Nat.pow_lt_pow_right (by decide) hk
 have h2:((2:Int)^k)=((2^k:Nat):Int):=by rw[Int.natCast_pow];rfl
 simp only[Dl,show ¬((k:Int)<0) by omega,if_false,IntKind.bits,Int.one_mul,p2,Int.toNat_natCast,e,h2]
 congr 2
 generalize (2:Nat)^k=m at*
 simp[IntKind.wrap,IntKind.bits,IntKind.signed];omega
end
end Go.Proofs.YtlaipllgmddkiaaGreat.Ax
namespace Go.Proofs.YtlaipllgmddkiaaGreat.Ax
open Go Go.Ax Go.Ax.M
section
variable {H:AP}{K:AH→AP→Prop}{s:State}{th op x y w:Int}{a b:List Int}{oS oT oA oB:Nat}{fS fT rS rT fA fB rA rB:Bool}
theorem S2{op x y w:Int}{a b:List Int}(ho:op=11∨op=12)(h:AT ⟨op,a,b,x,y,w⟩=true):x=0∨x=1∨x=2∨x=3:=by
 simp only[AT,Bool.and_eq_true]at h
 obtain⟨-,h1,-,h2,-⟩:=h
 rcases ho with rfl|rfl<;>simp[C0,Bv]at h2<;>omega
theorem RE{x y w:Int}{a b:List Int}(h:AT ⟨11,a,b,x,y,w⟩=true):Bg s th ⟨11,a,b,x,y,w⟩=
 bif !decide ((AO s th a).2.2=0)then .bad (AO s th a).2.2 else bif !decide ((AO s th a).2.1.ty=5)then .bad 7 else bif !Bd 2 (AO s th a).2.1.ri then .bad 6
 else⟨0,0,0,some (boxed s (AO s th a).2.1.th (My (s.AG (AO s th a).2.1.th.toNat) x w))⟩:=by
 simp only[Bg,h,show decide ((11:Int)=11)=true from rfl,show decide ((11:Int)=13)=false from rfl,show decide ((11:Int)=12)=false from rfl,Bool.not_true,Bool.false_and,Bool.or_self,cond_false];rfl
theorem aq{x y w:Int}{a b:List Int}(h:AT ⟨12,a,b,x,y,w⟩=true):Bg s th ⟨12,a,b,x,y,w⟩=
 bif !decide ((AO s th a).2.2=0)then .bad (AO s th a).2.2 else bif !decide ((AO s th a).2.1.ty=5)then .bad 7 else bif !Bd 1 (AO s th a).2.1.ri then .bad 6
 else⟨0,Lg (s.AG (AO s th a).2.1.th.toNat) x,0,none⟩:=by
 simp only[Bg,h,show decide ((12:Int)=11)=false from rfl,show decide ((12:Int)=13)=false from rfl,show decide ((12:Int)=12)=true from rfl,Bool.not_true,Bool.not_false,Bool.true_and,Bool.false_and,Bool.or_self,cond_false,cond_true];rfl
end
end Go.Proofs.YtlaipllgmddkiaaGreat.Ax
namespace Go.Proofs.YtlaipllgmddkiaaGreat.Ax
open Go Go.Ax Go.Ax.M
section
variable {H:AP}{K:AH→AP→Prop}{s:State}{oS oT:Nat}{fS fT rS rT:Bool}
theorem PG{i:Int}(hS:H[oS]?=some (.AU 5 (s.AE.map Slot.cells) rS))(hT:H[oT]?=some (.AU 13 (s.AB.map AN.cells) rT))(h:K (.int .i64 (Df s i)) H):AF Tryz.prog 178 [stA s oS oT fS fT,.int .i64 i] H K:=by
 have kT:=AL.of hT
 have kS:=AL.of hS
 have hg1:¬i<0→¬(s.AE.length:Int)≤i→_:=fun h1 h2=>UP (s:=s) (u:=i) (by omega) (by omega)
 have hg2:BN s=true→¬i<0→¬(s.AE.length:Int)≤i→(s.slot i.toNat).cap.ty=1→_:=fun h0 h1 h2 h3=>Dt (((D8.1 h0).E8 i.toNat (by omega) (C9 (by omega))).1)
 have hl2:BN s=true→(As s).length≤1000:=fun h=>by rw[A8];exact FL h
 refine AF.tidy ?_
 refine Aa ok178 ?_;(try simp only[c178,w178,hg1,hg2,A8,go_sem]);repeat' ((first|refine orR ?_|(refine sp ?_ ?_<;>intro hc)|refine AW (kS _) (kT _) ?_|refine Dd (kS _) (FL (by assumption)) ?_|(rw[←A8];refine N7 (up:=As s) (by first|exact BH|exact Bb rfl) (hl2 (by assumption)) (fun hc=> ?_) (fun hc=> ?_)))<;>try simp only[*,w178,A8,go_sem])
 all_goals (refine ti h (by first|exact⟨_,rfl⟩|exact⟨[],(List.append_nil _).symm⟩|exact hx|exact hx.app _) ?_;first|(simp only[Df,Jk, *,bs,go_sem];done)|(simp_all[Df,Jk];done)|(simp_all[Df,Jk];omega)|grind[Df,Jk])
theorem Vr{k n:Int}:0≤(CE k n).1∧(CE k n).1≤4096:=by
 simp only[CE]
 by_cases e1:k=1
 ·simp only[e1,decide_true,cond_true]
  cases hb:Bv n 1 4096 with
  |false=>simp
  |true=>rw[BX]at hb;simp only[cond_true];omega
 ·simp only[e1,decide_false,cond_false]
  by_cases e2:k=2
  ·simp only[e2,decide_true,cond_true]
   cases hb:Bv n 1 4 with
   |false=>simp
   |true=>have:=C4 hb;simp only[cond_true];omega
  ·simp only[e2,decide_false,cond_false]
   cases (decide (k=3)||decide (k=4))<;>cases decide (k=5)<;>simp
theorem aS{s:State}{n r:Nat}{T:AN}{used:Int}(hr:r<s.AB.length)(hne:n≠r):((s.AB.map AN.cells).set n T.cells).set r [.int .i64 (s.AG r).ty,.int .i64 (s.AG r).bits,.int .i64 (s.AG r).base,.int .i64 (s.AG r).size,.int .i64 used,.int .i64 (s.AG r).from_,.int .i64 (s.AG r).BF,.bool (s.AG r).full,.int .u64 (s.AG r).word,.int .u64 (s.AG r).d0,.int .u64 (s.AG r).d1,.int .u64 (s.AG r).d2,.int .u64 (s.AG r).d3]=
 ((s.AB.set n T).set r {((s.AB.set n T).getD r .zero)with used:=used}).map AN.cells:=by
 have e:(s.AB.set n T).getD r .zero=s.AG r:=by simp only[List.getD,Qc hne,State.AG]
 rw[e,Qe,Qe];rfl
theorem ND{th:Int}{c:M.Call}{oA oB:Nat}{fA fB rA rB:Bool}(hS:H[oS]?=some (.AU 5 (s.AE.map Slot.cells) rS))(hT:H[oT]?=some (.AU 13 (s.AB.map AN.cells) rT))(hA:H[oA]?=some (.AU 1 (ints c.a) rA))(hB:H[oB]?=some (.AU 1 (ints c.b) rB))
 (h:(Be s th c).st=none→K (.Bj [stA s oS oT fS fT,.int .i64 0,.int .i64 (Be s th c).err]) H)
 (h':∀s',(Be s th c).st=some s'→K (.Bj [BT s' H.length (H.length+1) false false,.int .i64 (Be s th c).n,.int .i64 0]) (H++[AM s',AJ s'])):
 AF Tryz.prog 100 [stA s oS oT fS fT,.int .i64 th,.agg [.int .i64 c.op,.slice oA c.a.length 0 c.a.length fA,.slice oB c.b.length 0 c.b.length fB,.int .i64 c.x,.int .i64 c.y,.int .u64 c.w]] H K:=by
 have kT:=AL.of hT
 have kS:=AL.of hS
 have kA:=AL.of hA
 have kB:=AL.of hB
 have key:∀e,Be s th c= .bad e→K (.Bj [stA s oS oT fS fT,.int .i64 0,.int .i64 e]) H:=fun e he=>by rw[he]at h;exact h rfl
 have hv:=fun e=>show(AH.Bj [stA s oS oT fS fT,.int .i64 0,.int .i64 e]).refs (fun o=>o<H.length) by simp[AH.refs,Ay];exact⟨Am hS,Am hT⟩
 clear h
 have hroom:(AO s th c.a).2.2=0→_:=fun h=>Dt (Cx h)
 have hwu:(AO s th c.a).2.2=0→(AO s th c.a).2.1.ty=1→IntKind.wrap .i64 (Df s (AO s th c.a).1+(CE c.x c.y).1)=Df s (AO s th c.a).1+(CE c.x c.y).1:=fun h1 h2=>by
  obtain⟨i1,i2,i3,i4,i5,i6⟩:=Ek h1
  have:=R6 i1 i2 i3 (by rw[←i4];exact h2)
  have:=Vr (k:=c.x) (n:=c.y)
  exact w64 (by omega) (by omega)
 have KC:¬CU s<0→(0≤CU s)=True∧(CU s<(s.AB.length:Int))=True:=fun h=>by
  have:=Lc (s:=s) (by omega)
  exact⟨eq_true (by omega),eq_true (by omega)⟩
 refine AF.gc ?_
 refine Aa ok100 ?_;(try simp only[c100,w100,BT,AM,AJ,Qa,Bh.cells,AN.cells,hroom,hwu,KC,Qb,go_sem]);repeat' ((first|refine orR ?_|(refine sp ?_ ?_<;>intro hc)|refine Aw (kA _) (kB _) ?_|refine CN (kS _) (kT _) (kA _) ?_|refine Hr (kS _) (kT _) (kB _) ?_|refine DC ?_|refine PV ?_|refine PG (kS _) (kT _) ?_|refine PQ (kS _) (kT _) ?_|refine Rs (kS _) (kT _) ?_)<;>try simp only[*,w100,BT,AM,AJ,Qa,Bh.cells,AN.cells,Qb,go_sem])
 all_goals try exact Gc.Cd (hv _) (key _ (by(first|(simp only[Be,Dc,Bs, *,bs,go_sem];done)|(simp_all[Be,Dc,Bs];done)|(simp_all[Be,Dc,Bs];omega)|grind[Be,Dc,Bs])))
 all_goals
  have he:∃b,Be s th c=⟨0,0,CU s,some (Fq s c (AO s th c.a).1 (Ak s th c.b).1 (Df s (AO s th c.a).1+(CE c.x c.y).1) (CU s) b (AO s th c.a).2.1)⟩∧b=(Bs c s).1:=⟨_,by clear h' key hv;(first|(simp only[Be,Dc,Bs, *,bs,go_sem];done)|(simp_all[Be,Dc,Bs];done)|(simp_all[Be,Dc,Bs];omega)|grind[Be,Dc,Bs]),rfl⟩
  clear key hv
  obtain⟨bs,he,hbs⟩:=he
  have h':=h' _ (by rw[he])
  rw[he]at h'
  simp only at h'
  obtain⟨y,hy⟩:∃y,Hid (y=Fq s c (AO s th c.a).1 (Ak s th c.b).1 (Df s (AO s th c.a).1+(CE c.x c.y).1) (CU s) bs (AO s th c.a).2.1):=NQ _
  have hy':y=_:=hy
  rw[←hy']at h'
  obtain⟨i1,i2,i3,i4,i5,i6⟩:=Ek (s:=s) (th:=th) (p:=c.a) (by assumption)
  obtain⟨-,j2,j3,j4,j5,j6⟩:=EC (s:=s) (th:=th) (p:=c.b) (by assumption)
  have ET:=UP (s:=s) j2 j3
  have hsf:=Lc (s:=s) (by omega)
  have hrt:=Cx (s:=s) (th:=th) (p:=c.a) (by assumption)
  rw[DP]at hrt
  have T4:(s.AG (AO s th c.a).2.1.th.toNat).ty=1:=by
   have:=(i1.E8 _ (by omega) i5).2
   rw[←i4]at this;rw[this];assumption
  have hne:(CU s).toNat≠(AO s th c.a).2.1.th.toNat:=by intro e;rw[e]at hsf;omega
  have hgn:=BI (s:=s) hsf.1
  have hgr:∀X,((s.AB.map AN.cells).set (CU s).toNat X)[(AO s th c.a).2.1.th.toNat]?=some (s.AG (AO s th c.a).2.1.th.toNat).cells:=fun X=>by
   rw[Qc hne];exact BI (by omega)
  have hgood:=i1.ok.DR
  have hct:=aS (s:=s) (T:=(HH c.x c.y bs).1) (used:=Df s (AO s th c.a).1+(CE c.x c.y).1) (show(AO s th c.a).2.1.th.toNat<s.AB.length by omega) hne
  have hyS:y.AE.length=s.AE.length:=by rw[hy'];simp[Fq]
  have hyT:y.AB.length=s.AB.length:=by rw[hy'];simp[Fq]
  have hyg:y.AS=s.AS:=by rw[hy'];rfl
  have hy1:y.AE.map Slot.cells=(s.AE.map Slot.cells).set (Ak s th c.b).1.toNat [.int .i64 c.x,.int .i64 (CU s),.int .i64 7,.int .i64 0,.int .i64 (AO s th c.a).1]:=by rw[hy'];simp only[Fq,←Jx];rfl
  have hy2:=(hct.trans (show _=y.AB.map AN.cells by rw[hy'];rfl)).symm
  have hyh:=And.intro hy1 hy2
  have hyh:Hid _:=hyh
  have hyl:=And.intro hyS (And.intro hyT hyg)
  have hyl:Hid _:=hyl
  clear hct hy' hy1 hy2 hyS hyT hyg he i1 i2 i3 i4 i5 i6 j2 j3 j4 j5 j6 hsf hrt T4
 all_goals
  (try simp only[w100,BT,AM,AJ,Qa,Bh.cells,AN.cells,hroom,hwu,KC,ET,hgn,hgr,Qb,go_sem]);repeat' ((first|refine orR ?_|(refine sp ?_ ?_<;>intro hc)|refine A3 (kS _) (kT _) (FL hgood) (Gm hgood) (DL hgood) (DM hgood) ?_|refine R1 ?_)<;>try simp only[*,w100,BT,AM,AJ,Qa,Bh.cells,AN.cells,Qb,go_sem])
  obtain⟨hy1,hy2⟩:=hyh
  obtain⟨hyS,hyT,hyg⟩:=hyl
  first
   |(have hx:c.x=2:=by assumption
     simp only[hbs,Bs,hx,AN.cells,decide_true,cond_true]at hy1 hy2
     rw[←hyS,←hyT,←hyg]
     refine Gc.stateT (s:=y) (i:=4) (j:=5) ?_ ?_ (by decide) (by simp[AH.plain,Ah]) h'
     ·simp only[AM];rw[hy1];rfl
     ·simp only[AJ];rw[hy2];rfl)
   |(have hx:¬c.x=2:=by assumption
     simp only[hbs,Bs,hx,AN.cells,decide_false,cond_false]at hy1 hy2
     rw[←hyS,←hyT,←hyg]
     refine Gc.stateT (s:=y) (i:=4) (j:=5) ?_ ?_ (by decide) (by simp[AH.plain,Ah]) h'
     ·simp only[AM];rw[hy1];rfl
     ·simp only[AJ];rw[hy2];rfl)
theorem EJ:CF 26 Be:=by
 intro H K s th c oS oT oA oB fS fT rS rT fA fB rA rB hS hT hA hB h h'
 have kT:=AL.of hT
 have kS:=AL.of hS
 have kA:=AL.of hA
 have kB:=AL.of hB
 have hn:(Be s th c).st=none→((Be s th c).err=0)=False:=fun h=>eq_false (Uu h)
 refine AF.gc ?_
 refine Aa ok26 ?_;(try simp only[c26,w26,BT,AM,AJ,Qa,hn,go_sem]);repeat' ((first|refine orR ?_|(refine sp ?_ ?_<;>intro hc)|refine ND (kS _) (kT _) (kA _) (kB _) (fun hc=> ?_) (fun s' hc=> ?_))<;>try simp only[*,w26,BT,AM,AJ,Qa,go_sem])
 ·obtain⟨e,-,he⟩:=Pz (s:=s) (th:=th) (c:=c) (by assumption)
  have h:=h (by rw[he];rfl)
  rw[he]at h ⊢
  exact Gc.Cd (by simp[AH.refs,Ay];exact⟨Am hS,Am hT⟩) h
 ·exact Gc.Jg (i:=4) (j:=5) rfl rfl (r:=(Be s th c).st) (fun s' e=>by have:=h' s' e;have e2:=(JG e).2.2.2.2.2.2.2.2.2.1;rw[e2]at this ⊢;exact this) (hn:=rfl) (hm:=rfl) (e:=by assumption)
end
end Go.Proofs.YtlaipllgmddkiaaGreat.Ax
