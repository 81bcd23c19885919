/- Texts put behind one another: SFind, SFind2. Conditions: none. -/
import Derived.Test.YtlaipllgmddkiaaGreatZSt
import Derived.Test.YtlaipllgmddkiaaGreatZMo
import Derived.Test.YtlaipllgmddkiaaGreatZT
set_option linter.all false
open Bool renaming or_self → Qa, not_not → Qc, eq_iff_iff → Qd
open List renaming append_nil → Qb, range → Qe, getD → Qf
namespace Go.Proofs.YtlaipllgmddkiaaGreat.Ax
open Go Go.Ax Go.Ax.M
set_option maxRecDepth 100000
section
variable {H:AP}{K:AH→AP→Prop}{s:State}{oS oT:Nat}{fS fT rS rT:Bool}
theorem OK{n:Int}(h:K (.bool (!(decide (0≤n)&&decide (n≤15)))) H):AF Tryz.prog 191 [.int .i64 n] H K:=by
 refine Aa ok191 ?_;(try simp only[c191,AA k191_0.eq_1,go_sem]);repeat' ((first|refine orR ?_|(refine sp ?_ ?_<;>intro hc)|fail)<;>try simp only[*,AA k191_0.eq_1,go_sem])
 all_goals (refine kb h ?_;clear h;rw[Qd];simp<;>omega)
theorem MD{g:FuncId}{cap:List AH}{l:List Int}{p:Int→Bool}{o:Nat}{f r:Bool}(ho:H[o]?=some (.AU 1 (ints l) r))(hl:l.length≤1000)(hc:Di Tryz.prog g=true)
 (hp:∀n,∀K':AH→AP→Prop,K' (.bool (p n)) H→AF Tryz.prog g (.int .i64 n::cap) H K') (h:K (.int .i64 (Gx (fun k=>p (l.getD k 0)) l.length)) H):
 AF Tryz.prog 229 [.slice o l.length 0 l.length f,.func g cap] H K:=by
 refine Aa ok229 ?_;(try simp only[c229,w229,go_sem]);repeat' ((first|refine orR ?_|(refine sp ?_ ?_<;>intro hc)|fail)<;>try simp only[*,w229,go_sem])
 refine AK.Az [8,0,1,7] ?_;simp only[mpC,go_sem]
 refine AK.aB (fun k=>(Qe k).all (fun j=>!p (l.getD j 0))=true) l.length (by simp) fun k hk hI next=> ?_
 refine AK.unfold ?_
 have hw:=AY (k:=k) (by omega)
 have hg:k<l.length→(ints l)[k]?=some [.int .i64 (l.getD k 0)]:=fun h=>Bt h
 have hp':∀K':AH→AP→Prop,K' (.bool (p (l.getD k 0))) H→AF Tryz.prog g (.int .i64 (l.getD k 0)::cap) H K':=hp _
 clear hp
 (try simp only[w229,hg,hw,ho,hc,AA b229_3.eq_1,AR,AX,go_sem]);repeat' ((first|refine orR ?_|(refine sp ?_ ?_<;>intro hc)|refine hp' _ ?_)<;>try simp only[*,w229,AA b229_3.eq_1,AR,AX,go_sem])
 ·exact ki h (Jl (by assumption) hI (by assumption)).symm
 ·(refine AK.Az [8,0,1,7] ?_;simp only[mpC,go_sem];refine next (by assumption) ?_)
  rw[Da (N:=0),hI];(first|(simp only[Qa, *,bs,go_sem];done)|(simp_all[Qa];done)|(simp_all[Qa];omega)|grind[Qa])
 ·have hk:k=l.length:=by omega
  subst hk
  exact ki h (G4 hI).symm
theorem ZB{p:Nat→Bool}{n:Nat}:decide (0≤Gx p n)=!(Qe n).all fun k=>!p k:=by
 cases e:(Qe n).find? p with
 |none=>simp only[Gx,e];rw[List.find?_eq_none]at e;simp;simpa using e
 |some k=>
  simp only[Gx,e]
  have h1:=List.find?_some e
  have h2:=List.mem_of_find?_eq_some e
  simp at h2
  simp;exact⟨k,h2,h1⟩
theorem KE{g:FuncId}{cap:List AH}{l:List Int}{p:Int→Bool}{o:Nat}{f r:Bool}(ho:H[o]?=some (.AU 1 (ints l) r))(hl:l.length≤1000)(hc:Di Tryz.prog g=true)
 (hp:∀n,∀K':AH→AP→Prop,K' (.bool (p n)) H→AF Tryz.prog g (.int .i64 n::cap) H K') (h:K (.bool (!l.all fun n=>!p n)) H):
 AF Tryz.prog 192 [.slice o l.length 0 l.length f,.func g cap] H K:=by
 refine Aa ok192 ?_;(try simp only[c192,AA k192_0.eq_1,go_sem]);repeat' ((first|refine orR ?_|(refine sp ?_ ?_<;>intro hc)|refine MD ho hl hc hp ?_)<;>try simp only[*,AA k192_0.eq_1,go_sem])
 refine kb h ?_
 rw[ZB]
 congr 1
 rw[Qd]
 simp only[List.all_eq_true,List.mem_range]
 constructor
 ·intro h x hx
  obtain⟨i,hi,rfl⟩:=List.mem_iff_getElem.1 hx
  have:=h i hi
  simpa [Qf,hi] using this
 ·intro h i hi
  simpa [Qf,hi] using h l[i] (List.getElem_mem hi)
theorem FT{p:List Int}{o:Nat}{f r:Bool}(ho:H[o]?=some (.AU 1 (ints p) r))(h:K (.bool (BJ p)) H):AF Tryz.prog 116 [.agg [.slice o p.length 0 p.length f]] H K:=by
 have ko:=AL.of ho
 refine AF.tidy ?_
 refine Aa ok116 ?_;(try simp only[c116,AA k116_0.eq_1,go_sem]);repeat' ((first|refine orR ?_|(refine sp ?_ ?_<;>intro hc)|refine KE (ko _) (by omega) (HZ ok191) (fun n K' hK'=>OK hK') ?_)<;>try simp only[*,AA k116_0.eq_1,go_sem])
 all_goals (refine tb h (by first|exact⟨_,rfl⟩|exact⟨[],(Qb _).symm⟩|exact hx|exact hx.app _) ?_;first|(simp only[BJ,Qc, *,bs,go_sem];done)|(simp_all[BJ,Qc];done)|(simp_all[BJ,Qc];omega)|grind[BJ,Qc])
theorem Tq{n lo hi:Int}(h:K (.bool (Bv n lo hi)) H):AF Tryz.prog 194 [.int .i64 n,.int .i64 lo,.int .i64 hi] H K:=by
 refine Aa ok194 ?_;(try simp only[c194,AA k194_0.eq_1,go_sem]);repeat' ((first|refine orR ?_|(refine sp ?_ ?_<;>intro hc)|fail)<;>try simp only[*,AA k194_0.eq_1,go_sem])
 all_goals (refine kb h ?_;first|(simp only[Bv, *,bs,go_sem];done)|(simp_all[Bv];done)|(simp_all[Bv];omega)|grind[Bv])
theorem Tv{n lo hi:Int}(h:K (.bool (Bv n lo hi)) H):AF Tryz.prog 135 [.int .i64 n,.int .i64 lo,.int .i64 hi] H K:=by
 refine Aa ok135 ?_;(try simp only[c135,AA k135_0.eq_1,go_sem]);repeat' ((first|refine orR ?_|(refine sp ?_ ?_<;>intro hc)|fail)<;>try simp only[*,AA k135_0.eq_1,go_sem])
 all_goals (refine kb h ?_;first|(simp only[Bv, *,bs,go_sem];done)|(simp_all[Bv];done)|(simp_all[Bv];omega)|grind[Bv])
theorem N5{op:Int}(h:K (.Bj [.str (Ur op),.str (CB op)]) H):AF Tryz.prog 114 [.int .i64 op] H K:=by
 rcases Js op with hc|hc
 ·rcases hc with rfl|rfl|rfl|rfl|rfl|rfl|rfl|rfl|rfl|rfl|rfl|rfl|rfl<;>exact OQ (loops:=60) (k:=20) b7 (by kernel_rfl) rfl rfl (by simpa [Ur,CB] using h)
 ·rw[(IJ hc).1,(IJ hc).2]at h
  refine AF.tidy ?_
  refine Aa ok114 ?_;(try simp only[c114,w114,go_sem]);repeat' ((first|refine orR ?_|(refine sp ?_ ?_<;>intro hc)|fail)<;>try simp only[*,w114,go_sem])
  all_goals first|omega|exact⟨rfl,_,rfl⟩|exact tv h (by first|exact⟨_,rfl⟩|exact⟨[],(Qb _).symm⟩|exact hx|exact hx.app _) ⟨rfl,rfl⟩
theorem Ia{op:Int}{c:UInt8}(hc:c=66∨c=87)(h:K (.bool ((CB op).contains c)) H):AF Tryz.prog 115 [.str (CB op),.str [c]] H K:=by
 have:CB op=[65,66,88,89]∨CB op=[65,66,88]∨CB op=[65,66]∨CB op=[65]∨CB op=[65,98,87]∨CB op=[65,98]∨CB op=[65,88,87]∨CB op=[65,88]∨CB op=[]:=by
  rcases Js op with hc|hc
  ·rcases hc with rfl|rfl|rfl|rfl|rfl|rfl|rfl|rfl|rfl|rfl|rfl|rfl|rfl<;>simp[CB]
  ·rw[(IJ hc).2];simp
 rcases hc with rfl|rfl<;>rcases this with e|e|e|e|e|e|e|e|e<;>rw[e]at h ⊢<;>exact OQ (loops:=60) (k:=20) b7 (by kernel_rfl) rfl rfl h
theorem Ki{op:Int}(h:K (.bool ((CB op).contains 66||(CB op).contains 98)) H):AF Tryz.prog 117 [.str (CB op),.str [66,98]] H K:=by
 have:CB op=[65,66,88,89]∨CB op=[65,66,88]∨CB op=[65,66]∨CB op=[65]∨CB op=[65,98,87]∨CB op=[65,98]∨CB op=[65,88,87]∨CB op=[65,88]∨CB op=[]:=by
  rcases Js op with hc|hc
  ·rcases hc with rfl|rfl|rfl|rfl|rfl|rfl|rfl|rfl|rfl|rfl|rfl|rfl|rfl<;>simp[CB]
  ·rw[(IJ hc).2];simp
 rcases this with e|e|e|e|e|e|e|e|e<;>rw[e]at h ⊢<;>exact OQ (loops:=60) (k:=20) b7 (by kernel_rfl) rfl rfl h
theorem NC{c:M.Call}{oA oB:Nat}{fA fB:Bool}(h:K (.bool (C0 c)) H):AF Tryz.prog 118 [.agg [.int .i64 c.op,.slice oA c.a.length 0 c.a.length fA,.slice oB c.b.length 0 c.b.length fB,.int .i64 c.x,.int .i64 c.y,.int .u64 c.w]] H K:=by
 refine AF.tidy ?_
 refine Aa ok118 ?_;(try simp only[c118,w118,go_sem]);repeat' ((first|refine orR ?_|(refine sp ?_ ?_<;>intro hc)|refine Tq ?_|refine Ht ?_)<;>try simp only[*,w118,go_sem])
 all_goals (refine tb h (by first|exact⟨_,rfl⟩|exact⟨[],(Qb _).symm⟩|exact hx|exact hx.app _) ?_;first|(simp only[C0, *,bs,go_sem];done)|(simp_all[C0];done)|(simp_all[C0];omega)|grind[C0])
theorem Aw{c:M.Call}{oA oB:Nat}{fA fB rA rB:Bool}(hA:H[oA]?=some (.AU 1 (ints c.a) rA))(hB:H[oB]?=some (.AU 1 (ints c.b) rB))(h:K (.bool (AT c)) H):AF Tryz.prog 50 [.agg [.int .i64 c.op,.slice oA c.a.length 0 c.a.length fA,.slice oB c.b.length 0 c.b.length fB,.int .i64 c.x,.int .i64 c.y,.int .u64 c.w]] H K:=by
 have kA:=AL.of hA
 have kB:=AL.of hB
 have he:(CB c.op=[])=(CB c.op=[]):=rfl
 refine AF.tidy ?_
 refine Aa ok50 ?_;(try simp only[c50,w50,go_sem]);repeat' ((first|refine orR ?_|(refine sp ?_ ?_<;>intro hc)|refine N5 ?_|refine Ia (.inl rfl) ?_|refine Ia (.inr rfl) ?_|refine Ki ?_|refine FT (kA _) ?_|refine FT (kB _) ?_|refine NC (c:=c) ?_)<;>try simp only[*,w50,go_sem])
 all_goals (refine tb h (by first|exact⟨_,rfl⟩|exact⟨[],(Qb _).symm⟩|exact hx|exact hx.app _) ?_;first|(simp only[AT, *,bs,go_sem];done)|(simp_all[AT];done)|(simp_all[AT];omega)|grind[AT])
end
end Go.Proofs.YtlaipllgmddkiaaGreat.Ax
namespace Go.Proofs.YtlaipllgmddkiaaGreat.Ax
open Go Go.Ax Go.Ax.M
section
variable {H:AP}{K:AH→AP→Prop}{s:State}{oS oT:Nat}{fS fT rS rT:Bool}
theorem P4{t:AN}{n:Int}(hb:Bv t.bits 1 4=true)(h1:0≤t.base∧t.base≤96)(h2:0≤n)(h:K (.int .i64 (CL t n)) H):AF Tryz.prog 203 [.agg t.cells,.int .i64 n] H K:=by
 have hsh:=I3 hb
 have hp:=C4 hb
 have hw:¬p2 t.bits≤n→IntKind.wrap .i64 (t.base+n)=t.base+n:=fun h2=>w64 (by omega) (by omega)
 refine AF.tidy ?_
 unfold AN.cells
 refine Aa ok203 ?_;(try simp only[c203,w203,hsh,go_sem]);repeat' ((first|refine orR ?_|(refine sp ?_ ?_<;>intro hc)|fail)<;>try simp only[*,w203,go_sem])
 all_goals (refine ti h (by first|exact⟨_,rfl⟩|exact⟨[],(Qb _).symm⟩|exact hx|exact hx.app _) ?_;first|(simp only[CL, *,bs,go_sem];done)|(simp_all[CL];done)|(simp_all[CL];omega)|grind[CL])
theorem NI{n:Int}(hS:H[oS]?=some (.AU 5 (s.AE.map Slot.cells) rS))(hT:H[oT]?=some (.AU 13 (s.AB.map AN.cells) rT))(ok:Ft s)(h0:0≤n)(h1:n<s.AE.length)
 (h:K (.Bj [.agg (bif CV s n then s.AG (s.slot n.toNat).cap.th.toNat else .zero).cells,.bool (CV s n)]) H):AF Tryz.prog 202 [stA s oS oT fS fT,.int .i64 n] H K:=by
 have kT:=AL.of hT
 have kS:=AL.of hS
 have hg:=A4 (s:=s) (k:=n.toNat) (by omega)
 have DS:(s.slot n.toNat).cap.ty=2→_:=fun h2=>Dt (N6 ok (k:=n.toNat) (by omega) (Uq (by omega))).1
 refine AF.tidy ?_
 refine Aa ok202 ?_;(try simp only[c202,w202,kS,kT,hg,DS,h0,h1,go_sem]);repeat' ((first|refine orR ?_|(refine sp ?_ ?_<;>intro hc)|refine DC ?_)<;>try simp only[*,w202,go_sem])
 all_goals (refine tv h (by first|exact⟨_,rfl⟩|exact⟨[],(Qb _).symm⟩|exact hx|exact hx.app _) ?_;first|(simp only[CV,AN.cells,AN.zero,AH.plain,Ah, *,bs,go_sem];done)|(simp_all[CV,AN.cells,AN.zero,AH.plain,Ah];done)|(simp_all[CV,AN.cells,AN.zero,AH.plain,Ah];omega)|grind[CV,AN.cells,AN.zero,AH.plain,Ah])
theorem Om{x0 x1 x2 x3 x4 x5 x6:Int}{x7:Bool}{x8 x9 x10 x11 x12:Int}{n:Int}(hb:Bv x1 1 4=true∧0≤x2∧x2≤96)(h2:0≤n)(h:K (.int .i64 (CL ⟨x0,x1,x2,x3,x4,x5,x6,x7,x8,x9,x10,x11,x12⟩ n)) H):AF Tryz.prog 203 [.agg [.int .i64 x0,.int .i64 x1,.int .i64 x2,.int .i64 x3,.int .i64 x4,.int .i64 x5,.int .i64 x6,.bool x7,.int .u64 x8,.int .u64 x9,.int .u64 x10,.int .u64 x11,.int .u64 x12],.int .i64 n] H K:=P4 (t:=⟨x0,x1,x2,x3,x4,x5,x6,x7,x8,x9,x10,x11,x12⟩) hb.1 hb.2 h2 h
theorem LA{th:Int}{p:List Int}{o:Nat}{f r:Bool}(hS:H[oS]?=some (.AU 5 (s.AE.map Slot.cells) rS))(hT:H[oT]?=some (.AU 13 (s.AB.map AN.cells) rT))(ho:H[o]?=some (.AU 1 (ints p) r))
 (h:K (.Bj [.int .i64 (A7 s th p).1,.int .i64 (A7 s th p).2]) H):AF Tryz.prog 134 [stA s oS oT fS fT,.int .i64 th,.agg [.slice o p.length 0 p.length f]] H K:=by
 have kT:=AL.of hT
 have kS:=AL.of hS
 have ko:=AL.of ho
 have hwt:BN s=true→IntKind.wrap .i64 (s.AS.AI-1)=s.AS.AI-1:=fun h=>by have:=Hb (F7 h).AS;exact w64 (by omega) (by omega)
 have hw2:BN s=true→Bv th 0 (s.AS.AI-1)=true→IntKind.wrap .i64 (2+th)=2+th:=fun h h2=>by have:=Hb (F7 h).AS;rw[BX]at h2;exact w64 (by omega) (by omega)
 have hg:BN s=true→Bv th 0 (s.AS.AI-1)=true→_:=fun h h2=>by rw[BX]at h2;exact BI (s:=s) (EZ (F7 h) h2.1 h2.2).1
 have hg2:BN s=true→Bv th 0 (s.AS.AI-1)=true→(0≤2+th)=True∧(2+th<(s.AB.length:Int))=True:=fun h h2=>by rw[BX]at h2;have:=EZ (F7 h) h2.1 h2.2;exact⟨by simp;omega,by simp;omega⟩
 refine AF.tidy ?_
 refine Aa ok134 ?_;(try simp only[c134,w134,kS,kT,ko,go_sem]);repeat' ((first|refine orR ?_|(refine sp ?_ ?_<;>intro hc)|refine AW (kS _) (kT _) ?_|refine Tv ?_|refine FT (ko _) ?_)<;>try simp only[*,w134,go_sem])
 case' refine_1.refine_1.refine_2=>
  have ok:=F7 (s:=s) (by assumption)
  have hpl:=G7 (p:=p) (by assumption)
  have hpg:=fun k hk=>GN (p:=p) (by assumption) (k:=k) hk
  have hroot:(2+th).toNat<s.AB.length∧(s.AG (2+th).toNat).ty=2:=by
   have h2:Bv th 0 (s.AS.AI-1)=true:=by assumption
   rw[BX]at h2;exact EZ ok h2.1 h2.2
  have hrf:=OH ok hroot.1 hroot.2
  have hrl:=fun n (hn:0≤n)=>FW ok hroot.1 hroot.2 (n:=n) hn
  have hfs:A7 s th p=Hq s th p:=by(first|(simp only[A7, *,bs,go_sem];done)|(simp_all[A7];done)|(simp_all[A7];omega)|grind[A7])
  rw[hfs]at h
  clear hg hg2 hw2 hwt hfs
  refine AK.Az [39,10,3,8,9,37,38] ?_;simp only[mpC,go_sem]
  refine AK.acc (fun k (a:AN×Int)=>[(39,.int .i64 (k:Int)),(10,.int .i64 a.2)]) (fun k a=>H++_::_::[.AU 13 [a.1.cells] false]) (fun k a=>(k=0→a.1=s.AG (2+th).toNat)∧(0<k→0≤a.2∧a.2<s.AE.length∧Hq s th p=DU s (p.drop k) a.2)) p.length ?_ (a0:=(s.AG (2+th).toNat,0)) ⟨fun _=>rfl,fun h=>absurd h (by omega)⟩
  rintro k ⟨t,i⟩ hk ⟨hI1,hI2⟩ next
  simp only at hI1 hI2
  have hgp:k<p.length→(ints p)[k]?=some [.int .i64 (p.getD k 0)]:=fun h=>Bt h
  have hw:=AY (k:=k) (by omega)
  refine AK.Jn fun W hW=> ?_
  have kS:=kS.ex hW.ex
  have kT:=kT.ex hW.ex
  have ko:=ko.ex hW.ex
  have kst:=hW.EQ
  have kt:=hW.Hy
  have kS0:=kS.at
  have kT0:=kT.at
  have ko0:=ko.at
  have kst0:=kst.at
  have kt0:=kt.at
  simp only[AN.cells]at kt kt0
  refine AK.unfold ?_
  rcases Nat.eq_zero_or_pos k with hk0|hk0
  ·subst hk0
   have ht:=hI1 rfl
   subst ht
   clear hI1 hI2
   have hp0:=(hpg 0 (by omega)).1
   have hgp0:(ints p)[0]?=some [.int .i64 (p.getD 0 0)]:=Bt (by omega)
   have hc0:(0:Int)<p.length:=by omega
   have hw1:IntKind.wrap .i64 1=1:=rfl
   obtain⟨n,r,hpn⟩:∃n r,p=n::r:=by
    cases p with
    |nil=>simp at hpl
    |cons n r=>exact⟨n,r,rfl⟩
   have hfe:Hq s th p=(bif !decide (CL (s.AG (2+th).toNat) (p.getD 0 0)<0)then DU s (p.drop 1) (CL (s.AG (2+th).toNat) (p.getD 0 0))else(0,3)):=by
    rw[hpn];rfl
   clear hpn
   have hrl0:=hrl _ hp0
   clear hpg hrl hroot
   (try simp only[w134,hgp0,hw1,AA b134_7.eq_1,AR,AX,apC,go_sem]);repeat' ((first|refine orR ?_|(refine sp ?_ ?_<;>intro hc)|refine Om hrf hp0 ?_)<;>try simp only[*,w134,AA b134_7.eq_1,AR,AX,apC,go_sem])
   ·refine tv h hW.ex ⟨?_,rfl⟩
    rw[hfe];(first|(simp only[Qa, *,bs,go_sem];done)|(simp_all[Qa];done)|(simp_all[Qa];omega)|grind[Qa])
   ·have hW:W=_:=hW
    subst hW
    simp only[go_sem]at next
    simp only[go_sem]
    have hs:¬CL (s.AG (2+th).toNat) (p.getD 0 0)<0:=by assumption
    have this:=hrl0.resolve_left hs
    (refine AK.Az [39,10,3,8,9,37,38] ?_;simp only[mpC,go_sem];refine next (s.AG (2+th).toNat,CL (s.AG (2+th).toNat) (p.getD 0 0)) (by omega) ⟨this.1,this.2,?_⟩)
    rw[hfe];(first|(simp only[Qa, *,bs,go_sem];done)|(simp_all[Qa];done)|(simp_all[Qa];omega)|grind[Qa])
   ·omega
  ·obtain⟨hi0,hi1,hI⟩:=hI2 hk0
   clear hI1 hI2
   have h0k:((0:Int)<(k:Int))=True:=eq_true (by omega)
   have hnode:=fun hb=>Gw ok hi0 hi1 hb
   have hfine:=fun hb=>OH ok (hnode hb).1 (hnode hb).2
   have hlt:=fun(hb:CV s i=true) (hkp:k<p.length)=>FW ok (hnode hb).1 (hnode hb).2 (hpg _ hkp).1
   have hdr:k<p.length→p.drop k=p.getD k 0::p.drop (k+1):=fun h=>by rw[List.drop_eq_getElem_cons h];simp[Qf,h]
   have kself:=kt.Eu
   clear hnode hroot hrl
   (try simp only[w134,hgp,hw,h0k,kself,AA b134_7.eq_1,AR,AX,apC,cond_true,cond_false,AN.cells,go_sem]);repeat' ((first|refine orR ?_|(refine sp ?_ ?_<;>intro hc)|refine NI kS0 kT0 ok hi0 hi1 ?_|refine Om (hfine (by assumption)) (hpg _ (by assumption)).1 ?_)<;>try simp only[*,w134,AA b134_7.eq_1,AR,AX,apC,cond_true,cond_false,AN.cells,go_sem])
   case' refine_1.refine_1.refine_2.inr.refine_1.refine_1.refine_1=>
    refine tv h (hW.ex.set (by omega) _) ⟨?_,rfl⟩
    rw[hI,hdr (by assumption),DU];(first|(simp only[Qa, *,bs,go_sem];done)|(simp_all[Qa];done)|(simp_all[Qa];omega)|grind[Qa])
   case' refine_1.refine_1.refine_2.inr.refine_1.refine_2=>
    refine tv h (hW.ex.set (by omega) _) ⟨?_,rfl⟩
    rw[hI,hdr (by assumption),DU];(first|(simp only[Qa, *,bs,go_sem];done)|(simp_all[Qa];done)|(simp_all[Qa];omega)|grind[Qa])
   case' refine_1.refine_1.refine_2.inr.refine_2=>
    refine tv h hW.ex ⟨?_,rfl⟩
    rw[hI,List.drop_eq_nil_of_le (by omega),DU]
   case' refine_1.refine_1.refine_2.inr.refine_1.refine_1.refine_2=>
    have hs:=(hlt (by assumption) (by assumption)).resolve_left (by assumption)
    have hW:W=_:=hW
    subst hW
    simp only[AN.cells,go_sem]at next
    simp only[go_sem]
    (refine AK.Az [39,10,3,8,9,37,38] ?_;simp only[mpC,go_sem];refine next (s.AG (s.slot i.toNat).cap.th.toNat,CL (s.AG (s.slot i.toNat).cap.th.toNat) (p.getD k 0)) (by assumption) ?_)
    refine fun _=>⟨hs.1,hs.2,?_⟩
    rw[hI,hdr (by assumption),DU];(first|(simp only[Qa, *,bs,go_sem];done)|(simp_all[Qa];done)|(simp_all[Qa];omega)|grind[Qa])
 all_goals (refine tv h (by first|exact⟨_,rfl⟩|exact⟨[],(Qb _).symm⟩|exact hx|exact hx.app _) ?_;first|(simp only[A7,AH.plain,Ah, *,bs,go_sem];done)|(simp_all[A7,AH.plain,Ah];done)|(simp_all[A7,AH.plain,Ah];omega)|grind[A7,AH.plain,Ah])
theorem CN{th:Int}{p:List Int}{o:Nat}{f r:Bool}(hS:H[oS]?=some (.AU 5 (s.AE.map Slot.cells) rS))(hT:H[oT]?=some (.AU 13 (s.AB.map AN.cells) rT))(ho:H[o]?=some (.AU 1 (ints p) r))
 (h:K (.Bj [.int .i64 (AO s th p).1,.agg (AO s th p).2.1.cells,.int .i64 (AO s th p).2.2]) H):AF Tryz.prog 65 [stA s oS oT fS fT,.int .i64 th,.agg [.slice o p.length 0 p.length f]] H K:=by
 have kT:=AL.of hT
 have kS:=AL.of hS
 have ko:=AL.of ho
 have hg:(A7 s th p).2=0→(0≤(A7 s th p).1)=True∧((A7 s th p).1<(s.AE.length:Int))=True:=fun h=>⟨eq_true (C7 h).2.2.2.1,eq_true (C7 h).2.2.2.2⟩
 have hg2:(A7 s th p).2=0→_:=fun h=>A4 (s:=s) (k:=(A7 s th p).1.toNat) (by have:=(C7 h).2.2.2;omega)
 refine AF.tidy ?_
 refine Aa ok65 ?_;(try simp only[c65,w65,kS,kT,ko,hg,hg2,go_sem]);repeat' ((first|refine orR ?_|(refine sp ?_ ?_<;>intro hc)|refine LA (kS _) (kT _) (ko _) ?_|refine Dx ?_)<;>try simp only[*,w65,go_sem])
 all_goals (refine tv h (by first|exact⟨_,rfl⟩|exact⟨[],(Qb _).symm⟩|exact hx|exact hx.app _) ?_;first|(simp only[AO,Bh.cells,Bh.zero,AH.plain,Ah, *,bs,go_sem];done)|(simp_all[AO,Bh.cells,Bh.zero,AH.plain,Ah];done)|(simp_all[AO,Bh.cells,Bh.zero,AH.plain,Ah];omega)|grind[AO,Bh.cells,Bh.zero,AH.plain,Ah])
theorem Hr{th:Int}{p:List Int}{o:Nat}{f r:Bool}(hS:H[oS]?=some (.AU 5 (s.AE.map Slot.cells) rS))(hT:H[oT]?=some (.AU 13 (s.AB.map AN.cells) rT))(ho:H[o]?=some (.AU 1 (ints p) r))
 (h:K (.Bj [.int .i64 (Ak s th p).1,.int .i64 (Ak s th p).2]) H):AF Tryz.prog 148 [stA s oS oT fS fT,.int .i64 th,.agg [.slice o p.length 0 p.length f]] H K:=by
 have kT:=AL.of hT
 have kS:=AL.of hS
 have ko:=AL.of ho
 have hg:(A7 s th p).2=0→(0≤(A7 s th p).1)=True∧((A7 s th p).1<(s.AE.length:Int))=True:=fun h=>⟨eq_true (C7 h).2.2.2.1,eq_true (C7 h).2.2.2.2⟩
 have hg2:(A7 s th p).2=0→_:=fun h=>A4 (s:=s) (k:=(A7 s th p).1.toNat) (by have:=(C7 h).2.2.2;omega)
 refine AF.tidy ?_
 refine Aa ok148 ?_;(try simp only[c148,w148,kS,kT,ko,hg,hg2,go_sem]);repeat' ((first|refine orR ?_|(refine sp ?_ ?_<;>intro hc)|refine LA (kS _) (kT _) (ko _) ?_|refine Dx ?_)<;>try simp only[*,w148,go_sem])
 all_goals (refine tv h (by first|exact⟨_,rfl⟩|exact⟨[],(Qb _).symm⟩|exact hx|exact hx.app _) ?_;first|(simp only[Ak,AH.plain,Ah, *,bs,go_sem];done)|(simp_all[Ak,AH.plain,Ah];done)|(simp_all[Ak,AH.plain,Ah];omega)|grind[Ak,AH.plain,Ah])
end
end Go.Proofs.YtlaipllgmddkiaaGreat.Ax
