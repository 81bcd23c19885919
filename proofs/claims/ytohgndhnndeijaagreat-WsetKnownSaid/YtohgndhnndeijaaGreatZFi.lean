/- Texts put behind one another: SFind, SFind2. Conditions: none. -/
import Derived.Test.YtohgndhnndeijaaGreatZSt
import Derived.Test.YtohgndhnndeijaaGreatZMo
import Derived.Test.YtohgndhnndeijaaGreatZT
set_option linter.all false
set_option maxHeartbeats 9999999
open Bool renaming or_self -> Qa, not_not -> Qd, eq_iff_iff -> Qe
open Go.Proofs.Tryz renaming prog -> Qb
open List renaming append_nil -> Qc, range -> Qf, getD -> Qg
namespace Go.Proofs.YtohgndhnndeijaaGreat.Ax
open Go Go.Ax Go.Ax.M
set_option maxRecDepth 100000
section
variable {H:AP}{K:AH->AP->Prop}{s:State}{oS oT:Nat}{fS fT rS rT:Bool}
theorem OK{n:Int}(h:K (.bool (!(decide (0<=n)&&decide (n<=15)))) H):AF Qb 189 [nS n] H K:=by
 refine Aa ok189 ?_;repeat' first|simp only[*,go_sem]|apply orR|(apply sp<;>intro hc)|fail
 all_goals (refine kb h ?_;clear h;rw[Qe];simp<;>omega)
theorem MD{g:FuncId}{cap:List AH}{l:List Int}{p:Int->Bool}{o:Nat}{f r:Bool}(ho:H[o]?=some (.AU 1 (ints l) r))(hl:l.length<=1000)(hc:Di Qb g=true)
 (hp:∀n,∀K':AH->AP->Prop,K' (.bool (p n)) H->AF Qb g (nS n::cap) H K') (h:K (nS (Gx (λk=>p (l.getD k 0)) l.length)) H):
 AF Qb 226 [.slice o l.length 0 l.length f,.func g cap] H K:=by
 refine Aa ok226 ?_;repeat' first|simp only[*,go_sem]|apply orR|(apply sp<;>intro hc)|fail
 refine AK.Az [8,0,1,7] ?_;simp only[mpC,go_sem]
 refine AK.aB (λk=>(Qf k).all (λj=>!p (l.getD j 0))=true) l.length (by simp) λk hk hI next=> ?_
 refine AK.unfold ?_
 have hw:=AY (k:=k) (by omega)
 have hg:k<l.length->(ints l)[k]?=some [nS (l.getD k 0)]:=λh=>Bt h
 have hp':∀K':AH->AP->Prop,K' (.bool (p (l.getD k 0))) H->AF Qb g (nS (l.getD k 0)::cap) H K':=hp _
 clear hp
 repeat' first|simp only[*,AA b226_3.eq_1,AR,AX,go_sem]|apply orR|(apply sp<;>intro hc)|refine hp' _ ?_
 ·exact ki h (Jl ‹_› hI ‹_›).symm
 ·(refine AK.Az [8,0,1,7] ?_;simp only[mpC,go_sem];refine next ‹_› ?_)
  rw[Da (N:=0),hI];(first|(simp only[Qa, *,bs,go_sem];done)|(simp_all[Qa]<;>omega)|grind[Qa])
 ·have hk:k=l.length:=by omega
  subst hk
  exact ki h (G4 hI).symm
theorem ZB{p:Nat->Bool}{n:Nat}:decide (0<=Gx p n)=!(Qf n).all λk=>!p k:=by
 cases e:(Qf n).find? p with
 |none=>simp only[Gx,e];rw[List.find?_eq_none]at e;simp;simpa using e
 |some k=>
  simp only[Gx,e]
  have h1:=List.find?_some e
  have h2:=List.mem_of_find?_eq_some e
  simp at h2
  simp;exact⟨k,h2,h1⟩
theorem KE{g:FuncId}{cap:List AH}{l:List Int}{p:Int->Bool}{o:Nat}{f r:Bool}(ho:H[o]?=some (.AU 1 (ints l) r))(hl:l.length<=1000)(hc:Di Qb g=true)
 (hp:∀n,∀K':AH->AP->Prop,K' (.bool (p n)) H->AF Qb g (nS n::cap) H K') (h:K (.bool (!l.all λn=>!p n)) H):
 AF Qb 190 [.slice o l.length 0 l.length f,.func g cap] H K:=by
 refine Aa ok190 ?_;repeat' first|simp only[*,go_sem]|apply orR|(apply sp<;>intro hc)|refine MD ho hl hc hp ?_
 refine kb h ?_
 rw[ZB]
 congr 1
 rw[Qe]
 simp only[List.all_eq_true,List.mem_range]
 constructor
 ·intro h x hx
  obtain⟨i,hi,rfl⟩:=List.mem_iff_getElem.1 hx
  have:=h i hi
  simpa [Qg,hi] using this
 ·intro h i hi
  simpa [Qg,hi] using h l[i] (List.getElem_mem hi)
theorem FT{p:List Int}{o:Nat}{f r:Bool}(ho:H[o]?=some (.AU 1 (ints p) r))(h:K (.bool (BJ p)) H):AF Qb 145 [.agg [.slice o p.length 0 p.length f]] H K:=by
 have ko:=AL.of ho
 refine AF.tidy ?_
 refine Aa ok145 ?_;repeat' first|simp only[*,go_sem]|apply orR|(apply sp<;>intro hc)|refine KE (ko _) (by omega) (HZ ok189) (λn K' hK'=>OK hK') ?_
 all_goals (refine tb h (by first|exact⟨_,rfl⟩|exact⟨[],(Qc _).symm⟩|exact hx|exact hx.app _) ?_;first|(simp only[BJ,Qd, *,bs,go_sem];done)|(simp_all[BJ,Qd]<;>omega)|grind[BJ,Qd])
theorem Tq{n lo hi:Int}(h:K (.bool (Bv n lo hi)) H):AF Qb 192 [nS n,nS lo,nS hi] H K:=by
 refine Aa ok192 ?_;repeat' first|simp only[*,go_sem]|apply orR|(apply sp<;>intro hc)|fail
 all_goals (refine kb h ?_;first|(simp only[Bv, *,bs,go_sem];done)|(simp_all[Bv]<;>omega)|grind[Bv])
theorem Tv{n lo hi:Int}(h:K (.bool (Bv n lo hi)) H):AF Qb 238 [nS n,nS lo,nS hi] H K:=by
 refine Aa ok238 ?_;repeat' first|simp only[*,go_sem]|apply orR|(apply sp<;>intro hc)|fail
 all_goals (refine kb h ?_;first|(simp only[Bv, *,bs,go_sem];done)|(simp_all[Bv]<;>omega)|grind[Bv])
theorem N5{op:Int}(h:K (.Bj [.str (Ur op),.str (CB op)]) H):AF Qb 143 [nS op] H K:=by
 rcases Js op with hc|hc
 ·rcases hc with rfl|rfl|rfl|rfl|rfl|rfl|rfl|rfl|rfl|rfl|rfl|rfl|rfl<;>exact OQ (loops:=60) (k:=20) b7 (by kernel_rfl) rfl rfl (by simpa [Ur,CB] using h)
 ·rw[(IJ hc).1,(IJ hc).2]at h
  refine AF.tidy ?_
  refine Aa ok143 ?_;repeat' first|simp only[*,go_sem]|apply orR|(apply sp<;>intro hc)|fail
  all_goals first|omega|exact⟨rfl,_,rfl⟩|exact tv h (by first|exact⟨_,rfl⟩|exact⟨[],(Qc _).symm⟩|exact hx|exact hx.app _) ⟨rfl,rfl⟩
theorem Ia{op:Int}{c:UInt8}(hc:c=66\/c=87)(h:K (.bool ((CB op).contains c)) H):AF Qb 144 [.str (CB op),.str [c]] H K:=by
 have:CB op=[65,66,88,89]\/CB op=[65,66,88]\/CB op=[65,66]\/CB op=[65]\/CB op=[65,98,87]\/CB op=[65,98]\/CB op=[65,88,87]\/CB op=[65,88]\/CB op=[]:=by
  rcases Js op with hc|hc
  ·rcases hc with rfl|rfl|rfl|rfl|rfl|rfl|rfl|rfl|rfl|rfl|rfl|rfl|rfl<;>simp[CB]
  ·rw[(IJ hc).2];simp
 rcases hc with rfl|rfl<;>rcases this with e|e|e|e|e|e|e|e|e<;>rw[e]at h ⊢<;>exact OQ (loops:=60) (k:=20) b7 (by kernel_rfl) rfl rfl h
theorem Ki{op:Int}(h:K (.bool ((CB op).contains 66||(CB op).contains 98)) H):AF Qb 146 [.str (CB op),.str [66,98]] H K:=by
 have:CB op=[65,66,88,89]\/CB op=[65,66,88]\/CB op=[65,66]\/CB op=[65]\/CB op=[65,98,87]\/CB op=[65,98]\/CB op=[65,88,87]\/CB op=[65,88]\/CB op=[]:=by
  rcases Js op with hc|hc
  ·rcases hc with rfl|rfl|rfl|rfl|rfl|rfl|rfl|rfl|rfl|rfl|rfl|rfl|rfl<;>simp[CB]
  ·rw[(IJ hc).2];simp
 rcases this with e|e|e|e|e|e|e|e|e<;>rw[e]at h ⊢<;>exact OQ (loops:=60) (k:=20) b7 (by kernel_rfl) rfl rfl h
theorem NC{c:M.Call}{oA oB:Nat}{fA fB:Bool}(h:K (.bool (C0 c)) H):AF Qb 147 [.agg [nS c.op,.slice oA c.a.length 0 c.a.length fA,.slice oB c.b.length 0 c.b.length fB,nS c.x,nS c.y,nT c.w]] H K:=by
 refine AF.tidy ?_
 refine Aa ok147 ?_;repeat' first|simp only[*,go_sem]|apply orR|(apply sp<;>intro hc)|refine Tq ?_|refine Ht ?_
 all_goals (refine tb h (by first|exact⟨_,rfl⟩|exact⟨[],(Qc _).symm⟩|exact hx|exact hx.app _) ?_;first|(simp only[C0, *,bs,go_sem];done)|(simp_all[C0]<;>omega)|grind[C0])
theorem Aw{c:M.Call}{oA oB:Nat}{fA fB rA rB:Bool}(hA:H[oA]?=some (.AU 1 (ints c.a) rA))(hB:H[oB]?=some (.AU 1 (ints c.b) rB))(h:K (.bool (AT c)) H):AF Qb 98 [.agg [nS c.op,.slice oA c.a.length 0 c.a.length fA,.slice oB c.b.length 0 c.b.length fB,nS c.x,nS c.y,nT c.w]] H K:=by
 have kA:=AL.of hA
 have kB:=AL.of hB
 have he:(CB c.op=[])=(CB c.op=[]):=rfl
 refine AF.tidy ?_
 refine Aa ok98 ?_;repeat' first|simp only[*,go_sem]|apply orR|(apply sp<;>intro hc)|refine N5 ?_|refine Ia (.inl rfl) ?_|refine Ia (.inr rfl) ?_|refine Ki ?_|refine FT (kA _) ?_|refine FT (kB _) ?_|refine NC (c:=c) ?_
 all_goals (refine tb h (by first|exact⟨_,rfl⟩|exact⟨[],(Qc _).symm⟩|exact hx|exact hx.app _) ?_;first|(simp only[AT, *,bs,go_sem];done)|(simp_all[AT]<;>omega)|grind[AT])
end
section
variable {H:AP}{K:AH->AP->Prop}{s:State}{oS oT:Nat}{fS fT rS rT:Bool}
theorem P4{t:AN}{n:Int}(hb:Bv t.bits 1 4=true)(h1:0<=t.base/\t.base<=96)(h2:0<=n)(h:K (nS (CL t n)) H):AF Qb 240 [.agg t.cells,nS n] H K:=by
 have hsh:=I3 hb
 have hp:=C4 hb
 have hw:¬p2 t.bits<=n->IntKind.wrap .i64 (t.base+n)=t.base+n:=λh2=>w64 (by omega) (by omega)
 refine AF.tidy ?_
 unfold AN.cells
 refine Aa ok240 ?_;repeat' first|simp only[*,go_sem]|apply orR|(apply sp<;>intro hc)|fail
 all_goals (refine ti h (by first|exact⟨_,rfl⟩|exact⟨[],(Qc _).symm⟩|exact hx|exact hx.app _) ?_;first|(simp only[CL, *,bs,go_sem];done)|(simp_all[CL]<;>omega)|grind[CL])
theorem NI{n:Int}(hS:jI H oS s rS)(hT:jU H oT s rT)(ok:Ft s)(h0:0<=n)(h1:n<s.AE.length)
 (h:K (.Bj [.agg (bif CV s n then s.AG (s.slot n.toNat).cap.th.toNat else .zero).cells,.bool (CV s n)]) H):AF Qb 239 [stA s oS oT fS fT,nS n] H K:=by
 have kT:=AL.of hT
 have kS:=AL.of hS
 have hg:=A4 (s:=s) (k:=n.toNat) (by omega)
 have DS:(s.slot n.toNat).cap.ty=2->_:=λh2=>Dt (N6 ok (k:=n.toNat) (by omega) (Uq (by omega))).1
 refine AF.tidy ?_
 refine Aa ok239 ?_;repeat' first|simp only[*,go_sem]|apply orR|(apply sp<;>intro hc)|refine DC ?_
 all_goals (refine tv h (by first|exact⟨_,rfl⟩|exact⟨[],(Qc _).symm⟩|exact hx|exact hx.app _) ?_;first|(simp only[CV,AN.cells,AN.zero,AH.plain,Ah, *,bs,go_sem];done)|(simp_all[CV,AN.cells,AN.zero,AH.plain,Ah]<;>omega)|grind[CV,AN.cells,AN.zero,AH.plain,Ah])
theorem Om{x0 x1 x2 x3 x4 x5 x6:Int}{x7:Bool}{x8 x9 x10 x11 x12:Int}{n:Int}(hb:Bv x1 1 4=true/\0<=x2/\x2<=96)(h2:0<=n)(h:K (nS (CL ⟨x0,x1,x2,x3,x4,x5,x6,x7,x8,x9,x10,x11,x12⟩ n)) H):AF Qb 240 [.agg [nS x0,nS x1,nS x2,nS x3,nS x4,nS x5,nS x6,.bool x7,nT x8,nT x9,nT x10,nT x11,nT x12],nS n] H K:=P4 (t:=⟨x0,x1,x2,x3,x4,x5,x6,x7,x8,x9,x10,x11,x12⟩) hb.1 hb.2 h2 h
theorem LA{th:Int}{p:List Int}{o:Nat}{f r:Bool}(hS:jI H oS s rS)(hT:jU H oT s rT)(ho:H[o]?=some (.AU 1 (ints p) r))
 (h:K (.Bj [nS (A7 s th p).1,nS (A7 s th p).2]) H):AF Qb 203 [stA s oS oT fS fT,nS th,.agg [.slice o p.length 0 p.length f]] H K:=by
 have kT:=AL.of hT
 have kS:=AL.of hS
 have ko:=AL.of ho
 have hwt:BN s=true->IntKind.wrap .i64 (s.AS.AI-1)=s.AS.AI-1:=λh=>by have:=Hb (F7 h).AS;exact w64 (by omega) (by omega)
 have hw2:BN s=true->Bv th 0 (s.AS.AI-1)=true->IntKind.wrap .i64 (2+th)=2+th:=λh h2=>by have:=Hb (F7 h).AS;rw[BX]at h2;exact w64 (by omega) (by omega)
 have hg:BN s=true->Bv th 0 (s.AS.AI-1)=true->_:=λh h2=>by rw[BX]at h2;exact BI (s:=s) (EZ (F7 h) h2.1 h2.2).1
 have hg2:BN s=true->Bv th 0 (s.AS.AI-1)=true->(0<=2+th)=True/\(2+th<(s.AB.length:Int))=True:=λh h2=>by rw[BX]at h2;have:=EZ (F7 h) h2.1 h2.2;exact⟨by simp;omega,by simp;omega⟩
 refine AF.tidy ?_
 refine Aa ok203 ?_;(try simp only[kS,kT,ko,go_sem]);repeat' ((first|refine orR ?_|(refine sp ?_ ?_<;>intro hc)|refine AW (kS _) (kT _) ?_|refine Tv ?_|refine FT (ko _) ?_)<;>try simp only[*,go_sem])
 case' refine_1.refine_1.refine_2=>
  have ok:=F7 (s:=s) ‹_›
  have hpl:=G7 (p:=p) ‹_›
  have hpg:=λk hk=>GN (p:=p) ‹_› (k:=k) hk
  have hroot:(2+th).toNat<s.AB.length/\(s.AG (2+th).toNat).ty=2:=by
   have h2:Bv th 0 (s.AS.AI-1)=true:=by assumption
   rw[BX]at h2;exact EZ ok h2.1 h2.2
  have hrf:=OH ok hroot.1 hroot.2
  have hrl:=λn (hn:0<=n)=>FW ok hroot.1 hroot.2 (n:=n) hn
  have hfs:A7 s th p=Hq s th p:=by(first|(simp only[A7, *,bs,go_sem];done)|(simp_all[A7]<;>omega)|grind[A7])
  rw[hfs]at h
  clear hg hg2 hw2 hwt hfs
  refine AK.Az [39,10,3,8,9,37,38] ?_;simp only[mpC,go_sem]
  refine AK.acc (λk (a:AN×Int)=>[(39,nS (k:Int)),(10,nS a.2)]) (λk a=>H++_::_::[.AU 13 [a.1.cells] false]) (λk a=>(k=0->a.1=s.AG (2+th).toNat)/\(0<k->0<=a.2/\a.2<s.AE.length/\Hq s th p=DU s (p.drop k) a.2)) p.length ?_ (a0:=(s.AG (2+th).toNat,0)) ⟨λ_=>rfl,λh=>absurd h (by omega)⟩
  rintro k ⟨t,i⟩ hk ⟨hI1,hI2⟩ next
  simp only at hI1 hI2
  have hgp:k<p.length->(ints p)[k]?=some [nS (p.getD k 0)]:=λh=>Bt h
  have hw:=AY (k:=k) (by omega)
  refine AK.Jn λW hW=> ?_
  have kS:=kS.ex hW.ex
  have kT:=kT.ex hW.ex
  have ko:=ko.ex hW.ex
  have kst:=hW.EQ
  have kt:=hW.Hy
  have kS0:=kS.at
  have kT0:=kT.at
  have ko0:=ko.at
  have kst0:=kst.at
  have kt0:=kt.at
  simp only[AN.cells]at kt kt0
  refine AK.unfold ?_
  rcases Nat.eq_zero_or_pos k with hk0|hk0
  ·subst hk0
   have ht:=hI1 rfl
   subst ht
   clear hI1 hI2
   have hp0:=(hpg 0 (by omega)).1
   have hgp0:(ints p)[0]?=some [nS (p.getD 0 0)]:=Bt (by omega)
   have hc0:(0:Int)<p.length:=by omega
   have hw1:IntKind.wrap .i64 1=1:=rfl
   obtain⟨n,r,hpn⟩:∃n r,p=n::r:=by
    cases p with
    |nil=>simp at hpl
    |cons n r=>exact⟨n,r,rfl⟩
   have hfe:Hq s th p=(bif !decide (CL (s.AG (2+th).toNat) (p.getD 0 0)<0)then DU s (p.drop 1) (CL (s.AG (2+th).toNat) (p.getD 0 0))else(0,3)):=by
    rw[hpn];rfl
   clear hpn
   have hrl0:=hrl _ hp0
   clear hpg hrl hroot
   (try simp only[hgp0,hw1,AA b203_7.eq_1,AR,AX,apC,go_sem]);repeat' ((first|refine orR ?_|(refine sp ?_ ?_<;>intro hc)|refine Om hrf hp0 ?_)<;>try simp only[*,AA b203_7.eq_1,AR,AX,apC,go_sem])
   ·refine tv h hW.ex ⟨?_,rfl⟩
    rw[hfe];(first|(simp only[Qa, *,bs,go_sem];done)|(simp_all[Qa]<;>omega)|grind[Qa])
   ·have hW:W=_:=hW
    subst hW
    simp only[go_sem]at next
    simp only[go_sem]
    have hs:¬CL (s.AG (2+th).toNat) (p.getD 0 0)<0:=by assumption
    have this:=hrl0.resolve_left hs
    (refine AK.Az [39,10,3,8,9,37,38] ?_;simp only[mpC,go_sem];refine next (s.AG (2+th).toNat,CL (s.AG (2+th).toNat) (p.getD 0 0)) (by omega) ⟨this.1,this.2,?_⟩)
    rw[hfe];(first|(simp only[Qa, *,bs,go_sem];done)|(simp_all[Qa]<;>omega)|grind[Qa])
   ·omega
  ·obtain⟨hi0,hi1,hI⟩:=hI2 hk0
   clear hI1 hI2
   have h0k:((0:Int)<(k:Int))=True:=eq_true (by omega)
   have hnode:=λhb=>Gw ok hi0 hi1 hb
   have hfine:=λhb=>OH ok (hnode hb).1 (hnode hb).2
   have hlt:=fun(hb:CV s i=true) (hkp:k<p.length)=>FW ok (hnode hb).1 (hnode hb).2 (hpg _ hkp).1
   have hdr:k<p.length->p.drop k=p.getD k 0::p.drop (k+1):=λh=>by rw[List.drop_eq_getElem_cons h];simp[Qg,h]
   have kself:=kt.Eu
   clear hnode hroot hrl
   (try simp only[hgp,hw,h0k,kself,AA b203_7.eq_1,AR,AX,apC,cond_true,cond_false,AN.cells,go_sem]);repeat' ((first|refine orR ?_|(refine sp ?_ ?_<;>intro hc)|refine NI kS0 kT0 ok hi0 hi1 ?_|refine Om (hfine ‹_›) (hpg _ ‹_›).1 ?_)<;>try simp only[*,AA b203_7.eq_1,AR,AX,apC,cond_true,cond_false,AN.cells,go_sem])
   case' refine_1.refine_1.refine_2.inr.refine_1.refine_1.refine_1=>
    refine tv h (hW.ex.set (by omega) _) ⟨?_,rfl⟩
    rw[hI,hdr ‹_›,DU];(first|(simp only[Qa, *,bs,go_sem];done)|(simp_all[Qa]<;>omega)|grind[Qa])
   case' refine_1.refine_1.refine_2.inr.refine_1.refine_2=>
    refine tv h (hW.ex.set (by omega) _) ⟨?_,rfl⟩
    rw[hI,hdr ‹_›,DU];(first|(simp only[Qa, *,bs,go_sem];done)|(simp_all[Qa]<;>omega)|grind[Qa])
   case' refine_1.refine_1.refine_2.inr.refine_2=>
    refine tv h hW.ex ⟨?_,rfl⟩
    rw[hI,List.drop_eq_nil_of_le (by omega),DU]
   case' refine_1.refine_1.refine_2.inr.refine_1.refine_1.refine_2=>
    have hs:=(hlt ‹_› ‹_›).resolve_left ‹_›
    have hW:W=_:=hW
    subst hW
    simp only[AN.cells,go_sem]at next
    simp only[go_sem]
    (refine AK.Az [39,10,3,8,9,37,38] ?_;simp only[mpC,go_sem];refine next (s.AG (s.slot i.toNat).cap.th.toNat,CL (s.AG (s.slot i.toNat).cap.th.toNat) (p.getD k 0)) ‹_› ?_)
    refine λ_=>⟨hs.1,hs.2,?_⟩
    rw[hI,hdr ‹_›,DU];(first|(simp only[Qa, *,bs,go_sem];done)|(simp_all[Qa]<;>omega)|grind[Qa])
 all_goals (refine tv h (by first|exact⟨_,rfl⟩|exact⟨[],(Qc _).symm⟩|exact hx|exact hx.app _) ?_;first|(simp only[A7,AH.plain,Ah, *,bs,go_sem];done)|(simp_all[A7,AH.plain,Ah]<;>omega)|grind[A7,AH.plain,Ah])
theorem CN{th:Int}{p:List Int}{o:Nat}{f r:Bool}(hS:jI H oS s rS)(hT:jU H oT s rT)(ho:H[o]?=some (.AU 1 (ints p) r))
 (h:K (.Bj [nS (AO s th p).1,.agg (AO s th p).2.1.cells,nS (AO s th p).2.2]) H):AF Qb 150 [stA s oS oT fS fT,nS th,.agg [.slice o p.length 0 p.length f]] H K:=by
 have kT:=AL.of hT
 have kS:=AL.of hS
 have ko:=AL.of ho
 have hg:(A7 s th p).2=0->(0<=(A7 s th p).1)=True/\((A7 s th p).1<(s.AE.length:Int))=True:=λh=>⟨eq_true (C7 h).2.2.2.1,eq_true (C7 h).2.2.2.2⟩
 have hg2:(A7 s th p).2=0->_:=λh=>A4 (s:=s) (k:=(A7 s th p).1.toNat) (by have:=(C7 h).2.2.2;omega)
 refine AF.tidy ?_
 refine Aa ok150 ?_;repeat' first|simp only[*,go_sem]|apply orR|(apply sp<;>intro hc)|refine LA (kS _) (kT _) (ko _) ?_|refine Dx ?_
 all_goals (refine tv h (by first|exact⟨_,rfl⟩|exact⟨[],(Qc _).symm⟩|exact hx|exact hx.app _) ?_;first|(simp only[AO,Bh.cells,Bh.zero,AH.plain,Ah, *,bs,go_sem];done)|(simp_all[AO,Bh.cells,Bh.zero,AH.plain,Ah]<;>omega)|grind[AO,Bh.cells,Bh.zero,AH.plain,Ah])
theorem Hr{th:Int}{p:List Int}{o:Nat}{f r:Bool}(hS:jI H oS s rS)(hT:jU H oT s rT)(ho:H[o]?=some (.AU 1 (ints p) r))
 (h:K (.Bj [nS (Ak s th p).1,nS (Ak s th p).2]) H):AF Qb 193 [stA s oS oT fS fT,nS th,.agg [.slice o p.length 0 p.length f]] H K:=by
 have kT:=AL.of hT
 have kS:=AL.of hS
 have ko:=AL.of ho
 have hg:(A7 s th p).2=0->(0<=(A7 s th p).1)=True/\((A7 s th p).1<(s.AE.length:Int))=True:=λh=>⟨eq_true (C7 h).2.2.2.1,eq_true (C7 h).2.2.2.2⟩
 have hg2:(A7 s th p).2=0->_:=λh=>A4 (s:=s) (k:=(A7 s th p).1.toNat) (by have:=(C7 h).2.2.2;omega)
 refine AF.tidy ?_
 refine Aa ok193 ?_;repeat' first|simp only[*,go_sem]|apply orR|(apply sp<;>intro hc)|refine LA (kS _) (kT _) (ko _) ?_|refine Dx ?_
 all_goals (refine tv h (by first|exact⟨_,rfl⟩|exact⟨[],(Qc _).symm⟩|exact hx|exact hx.app _) ?_;first|(simp only[Ak,AH.plain,Ah, *,bs,go_sem];done)|(simp_all[Ak,AH.plain,Ah]<;>omega)|grind[Ak,AH.plain,Ah])
end
end Go.Proofs.YtohgndhnndeijaaGreat.Ax
