/- Texts put behind one another: SRefL, PUp, SRefM, SRefN, SRefO. Conditions: none. -/
import Derived.Test.YtlaipllgmddkiaaGreatZRf1
set_option linter.all false
open Nat renaming add_assoc → Qa
open List renaming length_set → Qb, set_cons_zero → Qc, length_append → Qd, length_replicate → Qe, getElem?_append_right → Qf, map_set → Qg, length_singleton → Qh, getElem?_set_ne → Qk, getD → Ql, length_map → Qn, replicate → Qo
open Int renaming le_refl → Qi, mul_one → Qj, toNat_natCast → Qm
namespace Go.Proofs.YtlaipllgmddkiaaGreat.Ax
open Go Go.Ax Go.Ax.M
section
variable {H:AP}{K:AH→AP→Prop}{s:State}{oS oT:Nat}{fS fT rS rT:Bool}
theorem SR{up:List Int}{o:Nat}{f r:Bool}{i:Int}{n:Nat}(hn:up.length=n)(hg:Cm up=true)(ho:H[o]?=some (.AU 1 (ints up) r))
 (h:∀l:List Int,l.length≤100000→K (.slice H.length l.length 0 l.length false) (H++[.AU 1 (ints l) false])):AF Tryz.prog 89 [.slice o n 0 n f,.int .i64 i] H K:=by
 subst hn
 have kOH:=AL.of ho
 have hlen:=Lv hg
 have hcl:=fun k n a=>@Md.step up hg k n a
 refine AF.gc ?_
 refine Aa ok89 ?_;(try simp only[c89,w89,go_sem]);repeat' ((first|refine orR ?_|(refine sp ?_ ?_<;>intro hc)|fail)<;>try simp only[*,w89,go_sem])
 refine AK.Az [5,6,0,1] ?_;simp only[mpC,go_sem]
 refine AK.lay 1 ?_
 refine AK.acc (fun k (a:List Int×List Au)=>[(5,.slice H.length a.1.length 0 a.1.length false),(6,.int .i64 (k:Int))]) (fun k a=>H++ .AU 1 (ints a.1) false::a.2) (fun k a=>a.1.length≤k* 100) up.length ?_ (a0:=([],[])) (by simp)
 rintro k ⟨l,G⟩ hk hll next
 simp only at hll
 refine AK.Jn fun W hW=> ?_
 have kO:=kOH.ex hW.ex
 have ko:=hW.EQ
 have kO0:=kO.at
 have ko0:=ko.at
 refine AK.unfold ?_
 have hw:=AY (k:=k) (by omega)
 have hgk:k<up.length→_:=fun h=>Bt (l:=up) h
 (try simp only[w89,hgk,hw,kO0,ko0,kO,ko,AA b89_5.eq_1,AR,AX,apC,go_sem]);repeat' ((first|refine orR ?_|(refine sp ?_ ?_<;>intro hc)|refine OO rfl hg kO0 ?_)<;>try simp only[*,w89,AA b89_5.eq_1,AR,AX,apC,go_sem])
 case' refine_1.refine_1=>
  have hk2:k<up.length:=by assumption
  have hW:W=_:=hW
  subst hW
  clear kO0 ko0 ko
  refine AK.Az [5,7,0,1,6] ?_;simp only[mpC,go_sem]
  refine AK.acc (fun j (a:List Int×Int×List Au)=>[(5,.slice H.length a.1.length 0 a.1.length false),(7,.int .i64 a.2.1)]) (fun j a=>H++ .AU 1 (ints a.1) false::a.2.2) (fun j a=>a.1.length≤k* 100+j∧Md up k (j+1) a.2.1) (up.length+1) ?_ (a0:=(l,up.getD k 0,G)) ⟨by omega,by have:=(hcl k 0 k hk2 (.inl ⟨rfl,rfl⟩) (by omega)).2.2;simpa using this⟩
  rintro j ⟨l2,a,G2⟩ hj ⟨hl2,hc2⟩ next2
  simp only at hl2 hc2
  refine AK.Jn fun W hW=> ?_
  have kO:=kOH.ex hW.ex
  have ko:=hW.EQ
  have kO0:=kO.at
  have ko0:=ko.at
  have kos:=ko.set
  have kOo:=kO.other (i:=H.length) (by have:=Am ho;omega)
  have hst:0≤a→_:=fun h0=>hcl k (j+1) a hk2 hc2 h0
  have hgg:0≤a→(a<(up.length:Int))=True∧(ints up)[a.toNat]?=some [.int .i64 (up.getD a.toNat 0)]:=fun h0=>⟨eq_true (hst h0).1,Bt (by have:=(hst h0).1;omega)⟩
  have hgi:E0 up i=true→(0≤i)=True∧(i<(up.length:Int))=True∧(ints up)[i.toNat]?=some [.int .i64 (up.getD i.toNat 0)]:=fun h=>by
   rw[D7]at h;exact⟨eq_true h.1,eq_true h.2.1,Bt (by omega)⟩
  have hb:(l2.length+1)* 8≤140737488355328:=by omega
  clear hcl
  refine AK.unfold ?_
  (try simp only[w89,hw,hgg,hgi,hb,kos,kOo,kO0,ko0,kO,ko,AA b89_3.eq_1,AR,AX,apC,go_sem]);repeat' ((first|refine orR ?_|(refine sp ?_ ?_<;>intro hc)|fail)<;>try simp only[*,w89,AA b89_3.eq_1,AR,AX,apC,go_sem])
 case' refine_1.refine_2|refine_2=>
  have hW:W=_:=hW
  subst hW
  exact Gc.slice (i:=0) rfl Ca (h _ (by omega))
 case' refine_1.refine_1.refine_2=>
  have hW:W=_:=hW
  subst hW
  have hj2:=hc2.le
  (refine AK.Az [5,6,0,1] ?_;simp only[mpC,go_sem];refine next (l2,G2) (by assumption) (by simp only;omega))
 case' refine_1.refine_1.refine_1.refine_1=>
  have hW:W=_:=hW
  subst hW
  have q:=hst (by assumption)
  have ea:a=i:=by assumption
  rw[ea]at q
  simp only[go_sem]
  have e:ints l2++[[AH.int .i64 (k:Int)]]=ints (l2++[(k:Int)]):=by rw[Dn];rfl
  rw[e]
  have n2:=next2 (l2++[(k:Int)],up.getD i.toNat 0,G2++[.AU 1 [[.int .i64 (k:Int)]] false]) (by omega) ⟨by simp only[Qd,Qh];omega,q.2.2⟩
  simp only[Qd,Qh,go_sem]at n2
  (refine AK.Az [5,7,0,1,6] ?_;simp only[mpC,go_sem];refine n2)
 case' refine_1.refine_1.refine_1.refine_2=>
  have hW:W=_:=hW
  subst hW
  have q:=hst (by assumption)
  (refine AK.Az [5,7,0,1,6] ?_;simp only[mpC,go_sem];refine next2 (l2,_,_) (by omega) ⟨by simp only;omega,q.2.2⟩)
end
end Go.Proofs.YtlaipllgmddkiaaGreat.Ax
namespace Go.Ax.M
open Go Go.Ax
theorem WW{s:State}{t:Int}{k:Nat}(hk:k<(BM s t).length):0≤(BM s t).getD k 0∧(BM s t).getD k 0<s.AE.length:=by
 have:(BM s t).getD k 0∈BM s t:=by simp[Ql,hk]
 simp only[BM,pick,List.mem_map,List.mem_filter,List.mem_range]at this
 obtain⟨i,⟨hi,_⟩,e⟩:=this
 simp only[BM,pick]
 rw[←e];exact⟨by simp,by simp;exact hi⟩
theorem U4{s:State}{t:Int}:(BM s t).length≤s.AE.length:=by simp only[BM];exact GO
theorem bJ{s:State}(h:Inv s){i:Nat}(hi:i<s.AE.length)(hn:s.B8 i):E0 (As s) (i:Int)=true∧(As s).getD i 0=(s.slot i).up:=by
 have hu:=h.up i hi hn
 have hn':Aq (s.slot i).cap=false:=hn
 have e:(As s).getD i 0=(s.slot i).up:=by rw[EG hi];simp only[FE,hn',cond_false]
 refine⟨?_,e⟩
 rw[D7,Qm,e,A8]
 omega
def Uh(s:State)(i j:Nat)(a:Int):Prop:=a<0∨(0≤a∧a<s.AE.length∧s.B8 a.toNat∧Md (As s) i (j+1) a)
theorem Uh.first{s:State}(h:Inv s){i:Nat}(hi:i<s.AE.length):Uh s i 0 (s.slot i).up:=by
 cases hn:Aq (s.slot i).cap with
 |true=>left;have:=h.SX i hi hn;omega
 |false=>
  rcases h.up i hi hn with a|⟨a,b,c⟩
  ·left;omega
  ·right
   have:=(Md.step h.ok.Ii (i:=i) (n:=0) (k:=i) (by rw[A8];exact hi) (.inl ⟨rfl,rfl⟩) (by omega)).2.2
   rw[Qm,(bJ h hi hn).2]at this
   exact⟨a,b,c,this⟩
theorem Uh.step{s:State}(h:Inv s){i j:Nat}(hi:i<s.AE.length){a:Int}(u:Uh s i j a)(h0:0≤a):a<s.AE.length∧j<s.AE.length+1∧Uh s i (j+1) (s.slot a.toNat).up:=by
 rcases u with u|⟨_,b,c,d⟩
 ·omega
 have st:=Md.step h.ok.Ii (by rw[A8];exact hi) d h0
 rw[A8]at st
 refine⟨b,by have:=st.2.1;omega,?_⟩
 have e:=(bJ h (i:=a.toNat) (by omega) c).2
 rcases h.up a.toNat (by omega) c with q|⟨q1,q2,q3⟩
 ·left;omega
 ·right;refine⟨q1,q2,q3,?_⟩
  rw[←e];exact st.2.2
theorem Rr{l:List Slot}{k:Nat}(h:k<l.length):(l.map Slot.cells)[k]?=some [.int .i64 (l.getD k .zero).cap.ty,.int .i64 (l.getD k .zero).cap.th,.int .i64 (l.getD k .zero).cap.ri,.int .i64 (l.getD k .zero).cap.ba,.int .i64 (l.getD k .zero).up]:=by
 simp[h,Slot.cells,Ql]
theorem V0{l:List AN}{k:Nat}(h:k<l.length):(l.map AN.cells)[k]?=some [.int .i64 (l.getD k .zero).ty,.int .i64 (l.getD k .zero).bits,.int .i64 (l.getD k .zero).base,.int .i64 (l.getD k .zero).size,.int .i64 (l.getD k .zero).used,.int .i64 (l.getD k .zero).from_,.int .i64 (l.getD k .zero).BF,.bool (l.getD k .zero).full,.int .u64 (l.getD k .zero).word,.int .u64 (l.getD k .zero).d0,.int .u64 (l.getD k .zero).d1,.int .u64 (l.getD k .zero).d2,.int .u64 (l.getD k .zero).d3]:=by
 simp[h,AN.cells,Ql]
end Go.Ax.M
namespace Go.Proofs.YtlaipllgmddkiaaGreat.Ax
open Go Go.Ax Go.Ax.M
section
variable {H:AP}{K:AH→AP→Prop}{s:State}{oS oT:Nat}{fS fT rS rT:Bool}
theorem MR{l:List Int}{oL:Nat}{fL rL:Bool}(hi:Inv s)(hlL:l.length≤100000)(hS:H[oS]?=some (.AU 5 (s.AE.map Slot.cells) rS))(hT:H[oT]?=some (.AU 13 (s.AB.map AN.cells) rT))(hL:H[oL]?=some (.AU 1 (ints l) rL))
 (h:∀(u:State) (n:Int),u.AS=s.AS→u.AE.length=s.AE.length→u.AB.length=s.AB.length→K (.Bj [BT u H.length (H.length+1) false false,.int .i64 n]) (H++[AM u,AJ u])):
 AF Tryz.prog 91 [stA s oS oT fS fT,.slice oL l.length 0 l.length fL] H K:=by
 have kSH:=AL.of hS
 have kTH:=AL.of hT
 have kLH:=AL.of hL
 have hlS:=hi.ok.lS
 have hlT:=hi.ok.lT
 have hb2:(s.AE.length:Int)≤9223372036854775807:=by omega
 have hb3:(s.AE.length:Int)≤140737488355328:=by omega
 have hb4:(s.AB.length:Int)≤9223372036854775807:=by omega
 have hb5:(s.AB.length:Int)≤140737488355328:=by omega
 refine AF.gc ?_
 refine Aa ok91 ?_;(try simp only[c91,w91,kSH,kTH,kLH,AX,Qi,Qj,hb2,hb3,Qe,go_sem]);repeat' ((first|refine orR ?_|(refine sp ?_ ?_<;>intro hc)|refine B3 hi (kSH _) (kTH _) ?_)<;>try simp only[*,w91,AX,Qi,Qj,Qe,go_sem])
 rw[←Lu]
 refine AK.Az [7,1,2,4,6] ?_;simp only[mpC,go_sem]
 refine AK.acc (fun k (g:List Bool)=>[(7,.int .i64 (k:Int))]) (fun k g=>H++_::_:: .AU 1 (C6 g) false::[]) (fun k g=>g.length=s.AE.length) l.length ?_ (a0:=Qo s.AE.length false) (by simp)
 intro k g hk hgl next
 refine AK.unfold ?_
 have hw:=AY (k:=k) (by omega)
 have hgk:k<l.length→_:=fun h=>Bt (l:=l) h
 have hgs:0≤l.getD k 0→l.getD k 0<(s.AE.length:Int)→_:=fun h1 h2=>A4 (s:=s) (k:=(l.getD k 0).toNat) (by omega)
 have hgb:0≤l.getD k 0→l.getD k 0<(s.AE.length:Int)→(C6 g)[(l.getD k 0).toNat]?=some [.bool (g.getD (l.getD k 0).toNat false)]:=fun h1 h2=>DJ (by omega)
 generalize l.getD k 0=x at*
 (try simp only[w91,hw,hgk,hgs,hgb,hgl,kSH,kTH,kLH,Ey,Qc,AA b91_3.eq_1,AR,AX,Qi,Qj,hb4,hb5,Qe,apC,go_sem]);repeat' ((first|refine orR ?_|(refine sp ?_ ?_<;>intro hc)|fail)<;>try simp only[*,w91,Ey,Qc,AA b91_3.eq_1,AR,AX,Qi,Qj,Qe,apC,go_sem])
 case' refine_1.refine_1.refine_1.refine_1=>
  (refine AK.Az [7,1,2,4,6] ?_;simp only[mpC,go_sem];refine next (g.set x.toNat true) (by assumption) (by rw[Qb];exact hgl))
 case' refine_1.refine_1.refine_1.refine_2|refine_1.refine_1.refine_2|refine_1.refine_2=>
  (refine AK.Az [7,1,2,4,6] ?_;simp only[mpC,go_sem];refine next g (by assumption) hgl)
 clear next hw hgk hgs hgb
 rw[←Lu]
 refine AK.Az [9,2,4,6,8] ?_;simp only[mpC,go_sem]
 refine AK.acc (fun k (a:List Bool×List Bool×List Au)=>[(9,.int .i64 (k:Int))]) (fun k a=>H++_::_:: .AU 1 (C6 a.1) false:: .AU 1 (C6 a.2.1) false::a.2.2) (fun k a=>a.1.length=s.AE.length∧a.2.1.length=s.AB.length) (s.AB.length+1) ?_ (a0:=(g,Qo s.AB.length false,[])) ⟨hgl,by simp⟩
 rintro r ⟨g,q,G⟩ hr ⟨hgl,hql⟩ next
 simp only at hgl hql
 refine AK.Jn fun W hW=> ?_
 have kst:=hW.EQ
 have kst0:=kst.at
 refine AK.unfold ?_
 have hwr:=AY (k:=r) (by omega)
 have hle:((r:Int)≤(s.AB.length:Int))=(r≤s.AB.length):=propext ⟨by omega,by omega⟩
 (try simp only[w91,hwr,hle,kst,kst0,AA b91_16.eq_1,AR,AX,apC,go_sem]);repeat' ((first|refine orR ?_|(refine sp ?_ ?_<;>intro hc)|fail)<;>try simp only[*,w91,AA b91_16.eq_1,AR,AX,apC,go_sem])
 case' refine_2.refine_1=>
  have hrl:r<s.AB.length+1:=by omega
  have hW:W=_:=hW
  subst hW
  clear kst kst0
  refine AK.Az [10,2,4,6,8,9] ?_;simp only[mpC,go_sem]
  refine AK.acc (fun k (a:List Bool×List Bool×List Au)=>[(10,.int .i64 (k:Int))]) (fun k a=>H++_::_:: .AU 1 (C6 a.1) false:: .AU 1 (C6 a.2.1) false::a.2.2) (fun k a=>a.1.length=s.AE.length∧a.2.1.length=s.AB.length) s.AB.length ?_ (a0:=(g,q,G)) ⟨hgl,hql⟩
  rintro t ⟨g2,q2,G2⟩ ht ⟨hgl2,hql2⟩ next2
  simp only at hgl2 hql2
  refine AK.Jn fun W hW=> ?_
  have kS:=kSH.ex hW.ex
  have kT:=kTH.ex hW.ex
  have kst:=hW.EQ
  have kg:=hW.Hy
  have kq:=hW.NS
  have kS0:=kS.at
  have kT0:=kT.at
  have kst0:=kst.at
  have kg0:=kg.at
  have kq0:=kq.at
  have kqs:=kq.set
  refine AK.unfold ?_
  have hwt:=AY (k:=t) (by omega)
  have hgt:t<s.AB.length→_:=fun h=>BI (s:=s) (k:=t) h
  have hwth:IntKind.wrap .i64 (2+s.AS.AI)=2+s.AS.AI:=by have:=HQ hi.AS;exact w64 (by omega) (by omega)
  (try simp only[w91,hwt,hgt,hwth,kS,kT,kst,kg,kq,kS0,kT0,kst0,kg0,kq0,AA b91_14.eq_1,AR,AX,apC,go_sem]);repeat' ((first|refine orR ?_|(refine sp ?_ ?_<;>intro hc)|refine JM hi kS0 ?_|refine JM hi (kS _) ?_)<;>try simp only[*,w91,AA b91_14.eq_1,AR,AX,apC,go_sem])
 case' refine_2.refine_1.refine_2=>
  have hW:W=_:=hW
  subst hW
  (refine AK.Az [9,2,4,6,8] ?_;simp only[mpC,go_sem];refine next (g2,q2,G2) hrl ⟨hgl2,hql2⟩)
 case' refine_2.refine_1.refine_1.refine_1.refine_1|refine_2.refine_1.refine_1.refine_1.refine_2|refine_2.refine_1.refine_1.refine_2=>
  have htl:t<s.AB.length:=by assumption
  have ko:AL (W++[.AU 1 (ints (BM s t)) false]) W.length _:=AL.of BH
  have kg:=kg.app [.AU 1 (ints (BM s t)) false]
  have kq:=kq.app [.AU 1 (ints (BM s t)) false]
  have kS:=kS.app [.AU 1 (ints (BM s t)) false]
  have kT:=kT.app [.AU 1 (ints (BM s t)) false]
  have kst:=kst.app [.AU 1 (ints (BM s t)) false]
  have hlh:=U4 (s:=s) (t:=t)
  have hih:=fun j (h:j<(BM s t).length)=>WW h
  have hgi:=fun j (h:j<(BM s t).length)=>Bt (l:=BM s t) h
  clear kS0 kT0 kst0 kg0 kq0
  refine AK.Az [14,13,2,4,6,8,9,10,12] ?_;simp only[mpC,go_sem]
  refine AK.acc (fun j (lf:Bool)=>[(14,.int .i64 (j:Int)),(13,.bool lf)]) (fun _ _=>W++[.AU 1 (ints (BM s t)) false]) (fun _ _=>True) (BM s t).length ?_ (a0:=_) trivial
  intro j lf hj _ next3
  have kS0:=kS.at
  have kT0:=kT.at
  have kst0:=kst.at
  have kg0:=kg.at
  have kq0:=kq.at
  have ko0:=ko.at
  refine AK.unfold ?_
  have hwj:=AY (k:=j) (by omega)
  have hij:j<(BM s t).length→_:=hgi j
  have hib:j<(BM s t).length→(0≤(BM s t).getD j 0)=True∧((BM s t).getD j 0<(s.AE.length:Int))=True∧(C6 g2)[((BM s t).getD j 0).toNat]?=some [.bool (g2.getD ((BM s t).getD j 0).toNat false)]:=fun h=>by
   have:=hih j h;exact⟨eq_true this.1,eq_true this.2,DJ (by omega)⟩
  have htt:(t<s.AB.length)=True:=eq_true htl
  have hqt:(C6 q2)[t]?=some [.bool (q2.getD t false)]:=DJ (by omega)
  clear hih hgi
  generalize (BM s t).getD j 0=x at*
  (try simp only[w91,hwj,hij,hib,htt,hqt,hql2,kS,kT,kst,kg,kq,ko,kS0,kT0,kst0,kg0,kq0,ko0,kqs,Ey,Qc,AA b91_5.eq_1,AR,AX,apC,go_sem]);repeat' ((first|refine orR ?_|(refine sp ?_ ?_<;>intro hc)|fail)<;>try simp only[*,w91,Ey,Qc,AA b91_5.eq_1,AR,AX,apC,go_sem])
  ·(refine AK.Az [14,13,2,4,6,8,9,10,12] ?_;simp only[mpC,go_sem];refine next3 _ (by assumption) trivial)
  ·(refine AK.Az [14,13,2,4,6,8,9,10,12] ?_;simp only[mpC,go_sem];refine next3 _ (by assumption) trivial)
  ·have hW:W=_:=hW
   subst hW
   clear kS kT kst kg kq ko kS0 kT0 kst0 kg0 kq0 ko0 kqs hij hib hqt hwj next3 htt
   simp only[go_sem]
   have hql3:(q2.set t (!lf)).length=s.AB.length:=by rw[Qb];exact hql2
   generalize q2.set t (!lf)=q3 at*
   refine AK.Az [15,2,4,6,8,9,10] ?_;simp only[mpC,go_sem]
   refine AK.acc (fun i (a:List Bool×List Au)=>[(15,.int .i64 (i:Int))]) (fun i a=>H++_::_:: .AU 1 (C6 a.1) false:: .AU 1 (C6 q3) false::a.2) (fun i a=>a.1.length=s.AE.length) s.AE.length ?_ (a0:=(g2,_)) hgl2
   rintro i ⟨g3,G3⟩ hil hgl3 next3
   simp only at hgl3
   refine AK.Jn fun W hW=> ?_
   have kS:=kSH.ex hW.ex
   have kT:=kTH.ex hW.ex
   have kst:=hW.EQ
   have kg:=hW.Hy
   have kq:=hW.NS
   have kS0:=kS.at
   have kT0:=kT.at
   have kst0:=kst.at
   have kg0:=kg.at
   have kq0:=kq.at
   have kgs:=kg.set
   refine AK.unfold ?_
   have hwi:=AY (k:=i) (by omega)
   have hgs:i<s.AE.length→_:=fun h=>A4 (s:=s) (k:=i) h
   have htt:(t<s.AB.length)=True:=eq_true htl
   have hgt:=BI (s:=s) htl
   have hqt:(C6 q3)[t]?=some [.bool (q3.getD t false)]:=DJ (by omega)
   have hgi:i<s.AE.length→(C6 g3)[i]?=some [.bool (g3.getD i false)]:=fun h=>DJ (by omega)
   (try simp only[w91,hwi,hgs,htt,hgt,hqt,hgi,hql3,hgl3,kS,kT,kst,kg,kq,kS0,kT0,kst0,kg0,kq0,kgs,Ey,Qc,AA b91_8.eq_1,AR,AX,apC,go_sem]);repeat' ((first|refine orR ?_|(refine sp ?_ ?_<;>intro hc)|refine TH (hi.BB _ htl) ?_)<;>try simp only[*,w91,Ey,Qc,AA b91_8.eq_1,AR,AX,apC,go_sem])
   all_goals
    have hW:W=_:=hW
    subst hW
    first
     |(try simp only[go_sem]
       (refine AK.Az [15,2,4,6,8,9,10] ?_;simp only[mpC,go_sem];refine next3 (g3.set i true,_) (by assumption) (by rw[Qb];exact hgl3))
       done)
     |((refine AK.Az [15,2,4,6,8,9,10] ?_;simp only[mpC,go_sem];refine next3 (g3,_) (by assumption) hgl3);done)
     |((refine AK.Az [10,2,4,6,8,9] ?_;simp only[mpC,go_sem];refine next2 (g3,q3,G3) htl ⟨hgl3,hql3⟩);done)
 clear next hwr hle kst kst0 hb2 hb3 hb4 hb5
 have kS:=kSH.ex hW.ex
 have kT:=kTH.ex hW.ex
 have kst:=hW.EQ
 have kg:=hW.Hy
 have kq:=hW.NS
 have kr:=hW.Hx
 have kst0:=kst.at
 have kS0:=kS.at
 have kT0:=kT.at
 have hWx:Ex H W:=hW.ex
 clear hW
 (try simp only[w91,kS,kT,kst,kg,kq,kS0,kT0,kst0,BT,AM,AJ,Qa,AR,AX,apC,go_sem]);repeat' ((first|refine orR ?_|(refine sp ?_ ?_<;>intro hc)|refine Fi hi kS0 kT0 ?_)<;>try simp only[*,w91,BT,AM,AJ,Qa,AR,AX,apC,go_sem])
 clear kS0 kT0 kst0
 refine AK.Az [18,17,2,4,6,8,16] ?_;simp only[mpC,go_sem]
 refine AK.acc (fun i (a:List Slot×Nat)=>[(18,.int .i64 (i:Int)),(17,.int .i64 (a.2:Int))]) (fun i a=>W++ .AU 5 (a.1.map Slot.cells) false:: .AU 13 (s.AB.map AN.cells) false::[_]) (fun i a=>a.1.length=s.AE.length∧a.2≤i) s.AE.length ?_ (a0:=(s.AE,0)) ⟨rfl,by simp⟩
 rintro i ⟨us,n⟩ hil ⟨hul,hni⟩ next
 simp only at hul hni
 refine AK.unfold ?_
 have hwi:=AY (k:=i) (by omega)
 have hwn:=AY (k:=n) (by omega)
 have hgu:i<s.AE.length→_:=fun h=>Rr (l:=us) (k:=i) (by omega)
 have hgs:i<s.AE.length→_:=fun h=>A4 (s:=s) (k:=i) h
 have hgi:i<s.AE.length→(C6 g)[i]?=some [.bool (g.getD i false)]:=fun h=>DJ (by omega)
 have hum:(us.map Slot.cells).length=s.AE.length:=by rw[Qn];exact hul
 (try simp only[w91,hwi,hwn,hgu,hgs,hgi,hul,hum,kS,kT,kst,kg,kq,AA b91_24.eq_1,AR,AX,Qb,apC,go_sem]);repeat' ((first|refine orR ?_|(refine sp ?_ ?_<;>intro hc)|fail)<;>try simp only[*,w91,AA b91_24.eq_1,AR,AX,Qb,apC,go_sem])
 case' refine_2.refine_2.refine_1.refine_1=>
  have e:(us.map Slot.cells).set i [.int .i64 0,.int .i64 0,.int .i64 0,.int .i64 0,.int .i64 (-1)]=(us.set i ⟨.zero,-1⟩).map Slot.cells:=by rw[Qg];rfl
  rw[e]
  (refine AK.Az [18,17,2,4,6,8,16] ?_;simp only[mpC,go_sem];refine next (us.set i ⟨.zero,-1⟩,n+1) (by assumption) ⟨by rw[Qb];exact hul,by simp only;omega⟩)
 case' refine_2.refine_2.refine_1.refine_2=>
  have hil2:i<s.AE.length:=by assumption
  refine AK.Az [19,2,4,6,8,16,17,18] ?_;simp only[mpC,go_sem]
  refine AK.acc (fun j (a:Int)=>[(19,.int .i64 a)]) (fun _ _=>W++ .AU 5 (us.map Slot.cells) false:: .AU 13 (s.AB.map AN.cells) false::[_]) (fun j a=>Uh s i j a) (s.AE.length+1) ?_ (a0:=(s.slot i).up) (Uh.first hi hil2)
  intro j a hj hua next2
  refine AK.unfold ?_
  have hst:0≤a→_:=fun h0=>Uh.step hi hil2 hua h0
  have ha1:0≤a→(a<(s.AE.length:Int))=True:=fun h0=>eq_true (hst h0).1
  have hag:0≤a→(C6 g)[a.toNat]?=some [.bool (g.getD a.toNat false)]:=fun h0=>DJ (by have:=(hst h0).1;omega)
  have has:0≤a→_:=fun h0=>A4 (s:=s) (k:=a.toNat) (by have:=(hst h0).1;omega)
  have hi0:(i<s.AE.length)=True:=eq_true hil2
  have hgu:=Rr (l:=us) (k:=i) (by omega)
  (try simp only[w91,hwi,ha1,hag,has,hi0,hgu,hul,hum,kS,kT,kst,kg,kq,AA b91_20.eq_1,AR,AX,Qb,apC,go_sem]);repeat' ((first|refine orR ?_|(refine sp ?_ ?_<;>intro hc)|fail)<;>try simp only[*,w91,AA b91_20.eq_1,AR,AX,Qb,apC,go_sem])
  ·(refine AK.Az [19,2,4,6,8,16,17,18] ?_;simp only[mpC,go_sem];refine next2 _ (hst (by assumption)).2.1 (hst (by assumption)).2.2)
  all_goals
   have e:(us.map Slot.cells).set i [.int .i64 (us.getD i .zero).cap.ty,.int .i64 (us.getD i .zero).cap.th,.int .i64 (us.getD i .zero).cap.ri,.int .i64 (us.getD i .zero).cap.ba,.int .i64 a]=(us.set i ⟨(us.getD i .zero).cap,a⟩).map Slot.cells:=by rw[Qg];rfl
   rw[e]
   (refine AK.Az [18,17,2,4,6,8,16] ?_;simp only[mpC,go_sem];refine next (us.set i ⟨(us.getD i .zero).cap,a⟩,n) hil2 ⟨by rw[Qb];exact hul,by simp only;omega⟩)
 clear next hwi hwn hgu hgs hgi
 refine AK.Az [20,4,6,8,16,17] ?_;simp only[mpC,go_sem]
 refine AK.acc (fun t (ts:List AN)=>[(20,.int .i64 (t:Int))]) (fun t ts=>W++ .AU 5 (us.map Slot.cells) false:: .AU 13 (ts.map AN.cells) false::[_]) (fun t ts=>ts.length=s.AB.length∧∀j,t≤j→j<s.AB.length→ts.getD j .zero=s.AG j) s.AB.length ?_ (a0:=s.AB) ⟨rfl,fun j _ _=>rfl⟩
 rintro t ts htl ⟨htl2,hsame⟩ next
 refine AK.unfold ?_
 have hwt:=AY (k:=t) (by omega)
 have hgt:t<s.AB.length→(ts.map AN.cells)[t]?=some [.int .i64 (s.AG t).ty,.int .i64 (s.AG t).bits,.int .i64 (s.AG t).base,.int .i64 (s.AG t).size,.int .i64 (s.AG t).used,.int .i64 (s.AG t).from_,.int .i64 (s.AG t).BF,.bool (s.AG t).full,.int .u64 (s.AG t).word,.int .u64 (s.AG t).d0,.int .u64 (s.AG t).d1,.int .u64 (s.AG t).d2,.int .u64 (s.AG t).d3]:=fun h=>by
  rw[V0 (by omega),hsame t (Nat.le_refl _) h]
 have hqt:t<s.AB.length→(C6 q)[t]?=some [.bool (q.getD t false)]:=fun h=>DJ (by omega)
 have krs:=kr.set
 have krf:=kr.FV
 have kr0:=kr.Eu
 have htm:(ts.map AN.cells).length=s.AB.length:=by rw[Qn];exact htl2
 have KC:t<s.AB.length→0<(s.AG t).from_→IntKind.wrap .i64 ((s.AG t).from_-1)=(s.AG t).from_-1∧(0≤(s.AG t).from_-1)=True∧((s.AG t).from_-1<(s.AE.length:Int))=True∧(C6 g)[((s.AG t).from_-1).toNat]?=some [.bool (g.getD ((s.AG t).from_-1).toNat false)]:=fun h h0=>by
  have:=(hi.from_ t h h0).1
  exact⟨w64 (by omega) (by omega),eq_true (by omega),eq_true (by omega),DJ (by omega)⟩
 (try simp only[w91,hwt,hgt,hqt,htl2,htm,KC,hul,kS,kT,kst,kg,kq,kr,krs,krf,kr0,AA b91_29.eq_1,AR,AX,Qb,apC,go_sem]);repeat' ((first|refine orR ?_|(refine sp ?_ ?_<;>intro hc)|fail)<;>try simp only[*,w91,AA b91_29.eq_1,AR,AX,Qb,apC,go_sem])
 case' refine_2.refine_2.refine_2.refine_1.refine_1=>
  have e:(ts.map AN.cells).set t [.int .i64 0,.int .i64 0,.int .i64 0,.int .i64 0,.int .i64 0,.int .i64 0,.int .i64 0,.bool false,.int .u64 0,.int .u64 0,.int .u64 0,.int .u64 0,.int .u64 0]=(ts.set t .zero).map AN.cells:=by rw[Qg];rfl
  rw[e]
  (refine AK.Az [20,4,6,8,16,17] ?_;simp only[mpC,go_sem];refine next (ts.set t .zero) (by assumption) ⟨by rw[Qb];exact htl2,fun j h1 h2=>by rw[←hsame j (by omega) h2];simp only[Ql,Qk (show t≠j by omega)]⟩)
 case' refine_2.refine_2.refine_2.refine_1.refine_2.refine_1.refine_1=>
  have e:(ts.map AN.cells).set t [.int .i64 (s.AG t).ty,.int .i64 (s.AG t).bits,.int .i64 (s.AG t).base,.int .i64 (s.AG t).size,.int .i64 (s.AG t).used,.int .i64 0,.int .i64 (s.AG t).BF,.bool (s.AG t).full,.int .u64 (s.AG t).word,.int .u64 (s.AG t).d0,.int .u64 (s.AG t).d1,.int .u64 (s.AG t).d2,.int .u64 (s.AG t).d3]=(ts.set t {s.AG t with from_:=0}).map AN.cells:=by rw[Qg];rfl
  rw[e]
  (refine AK.Az [20,4,6,8,16,17] ?_;simp only[mpC,go_sem];refine next (ts.set t {s.AG t with from_:=0}) (by assumption) ⟨by rw[Qb];exact htl2,fun j h1 h2=>by rw[←hsame j (by omega) h2];simp only[Ql,Qk (show t≠j by omega)]⟩)
 case' refine_2.refine_2.refine_2.refine_1.refine_2.refine_1.refine_2|refine_2.refine_2.refine_2.refine_1.refine_2.refine_2=>
  (refine AK.Az [20,4,6,8,16,17] ?_;simp only[mpC,go_sem];refine next ts (by assumption) ⟨htl2,fun j h1 h2=>hsame j (by omega) h2⟩)
 have hh:=h ⟨s.AS,us,ts⟩ n rfl hul htl2
 clear krs krf kr0 kr kS kT kst kg kq next hsame hgt hqt KC
 obtain⟨L0,rfl⟩:=hWx
 generalize hX:Au.AU 5 [[AH.int .i64 s.AS.AI,.int .i64 s.AS.AE,.int .i64 s.AS.AB,.slice (H++L0).length s.AE.length 0 s.AE.length false,.slice ((H++L0).length+1) s.AB.length 0 s.AB.length false]] false=X
 rw[List.set_append_right _ _ (by omega),List.append_assoc,Qd,←hul,←htl2]
 have h1:(L0.set (H.length+1-H.length) X++[Au.AU 5 (us.map Slot.cells) false,Au.AU 13 (ts.map AN.cells) false,X])[L0.length]?=some (AM ⟨s.AS,us,ts⟩):=by
  rw[Qf (by rw[Qb];omega),Qb,Nat.sub_self];rfl
 have h2:(L0.set (H.length+1-H.length) X++[Au.AU 5 (us.map Slot.cells) false,Au.AU 13 (ts.map AN.cells) false,X])[L0.length+1]?=some (AJ ⟨s.AS,us,ts⟩):=by
  rw[Qf (by rw[Qb];omega),Qb,show L0.length+1-L0.length=1 by omega];rfl
 exact Gc.stateT (s:=⟨s.AS,us,ts⟩) (i:=L0.length) (j:=L0.length+1) h1 h2 (by omega) (by simp[AH.plain]) hh
end
end Go.Proofs.YtlaipllgmddkiaaGreat.Ax
namespace Go.Ax.M
open Go Go.Ax
def I7(s:State)(th:Int)(c:Call):CD:=
 if c.op=1 then Be s th c else if c.op=2∨c.op=3∨c.op=4 then A5 s th c else if c.op=7∨c.op=8 then BC s th c else if c.op=9∨c.op=10 then BG s th c else if c.op=11∨c.op=12∨c.op=13 then Bg s th c else .bad 1
theorem YQ{s:State}(hi:Inv s){th:Int}{c:Call}(hb:AT c=false∨¬(0≤th∧th<s.AS.AI)):I7 s th c= .bad 1:=by
 cases hc:AT c with
 |false=>
  unfold I7
  repeat' split
  all_goals first|rfl|simp only[Be,A5,BC,BG,Bg,hc,Bool.not_false,Bool.true_or,cond_true]
 |true=>
  have hb:¬(0≤th∧th<s.AS.AI):=by
   rcases hb with a|a
   ·rw[hc]at a;cases a
   ·exact a
  have hw:=Pg (p:=c.a) hi (.inl hb)
  have e:(AO s th c.a).2.2=1:=by simp only[AO,hw];rfl
  unfold I7
  repeat' split
  all_goals rename_i h
  all_goals first|rfl|skip
  ·simp[Be,hc,h,e]
  ·rcases h with h|h|h<;>simp[A5,hc,h,e]
  ·rcases h with h|h<;>simp[BC,hc,h,e]
  ·rcases h with h|h<;>simp[BG,hc,h,e]
  ·rcases h with h|h|h<;>simp[Bg,hc,h,e]
end Go.Ax.M
namespace Go.Proofs.YtlaipllgmddkiaaGreat.Ax
open Go Go.Ax Go.Ax.M
section
variable {H:AP}{K:AH→AP→Prop}{s:State}{oS oT:Nat}{fS fT rS rT:Bool}
set_option maxHeartbeats 8000000 in
theorem Wr{th op x y w:Int}{a b:List Int}{oA oB:Nat}{fA fB rA rB:Bool}(hi:Inv s)(hw64:∀k,k<s.AB.length→0≤(s.AG k).word∧(s.AG k).word<2^64)(hla:a.length≤100000)(hlb:b.length≤100000)
 (hS:H[oS]?=some (.AU 5 (s.AE.map Slot.cells) rS)) (hT:H[oT]?=some (.AU 13 (s.AB.map AN.cells) rT)) (hA:H[oA]?=some (.AU 1 (ints a) rA)) (hB:H[oB]?=some (.AU 1 (ints b) rB))
 (h:¬(op=5∨op=6)→(I7 s th ⟨op,a,b,x,y,w⟩).st=none→K (.Bj [stA s oS oT fS fT,(I7 s th ⟨op,a,b,x,y,w⟩).Ap]) H)
 (h':¬(op=5∨op=6)→∀s',(I7 s th ⟨op,a,b,x,y,w⟩).st=some s'→K (.Bj [BT s' H.length (H.length+1) false false,(I7 s th ⟨op,a,b,x,y,w⟩).Ap]) (H++[AM s',AJ s']))
 (g:op=5∨op=6→∀e n:Int,K (.Bj [stA s oS oT fS fT,.agg [.int .i64 e,.int .u64 0,.int .i64 n]]) H)
 (g':op=5∨op=6→∀(u:State) (e n:Int),u.AS=s.AS→u.AE.length=s.AE.length→u.AB.length=s.AB.length→K (.Bj [BT u H.length (H.length+1) false false,.agg [.int .i64 e,.int .u64 0,.int .i64 n]]) (H++[AM u,AJ u])):
 AF Tryz.prog 18 [stA s oS oT fS fT,.int .i64 th,.agg [.int .i64 op,.slice oA a.length 0 a.length fA,.slice oB b.length 0 b.length fB,.int .i64 x,.int .i64 y,.int .u64 w]] H K:=by
 have kT:=AL.of hT
 have kS:=AL.of hS
 have kA:=AL.of hA
 have kB:=AL.of hB
 have iS:∀L:AP,oS<(H++L).length:=fun L=>by have:=Am hS;rw[Qd];omega
 have iT:∀L:AP,oT<(H++L).length:=fun L=>by have:=Am hT;rw[Qd];omega
 have hbad:=fun hb=>YQ (c:=⟨op,a,b,x,y,w⟩) (th:=th) hi hb
 have hv:=fun(e n:Int)=>show(AH.Bj [stA s oS oT fS fT,.agg [.int .i64 e,.int .u64 0,.int .i64 n]]).refs (fun o=>o<H.length) by simp[AH.refs,Ay];exact⟨Am hS,Am hT⟩
 have hv3:=fun(e v n:Int)=>show(AH.Bj [stA s oS oT fS fT,.agg [.int .i64 e,.int .u64 v,.int .i64 n]]).refs (fun o=>o<H.length) by simp[AH.refs,Ay];exact⟨Am hS,Am hT⟩
 rcases Js op with(rfl|rfl|rfl|rfl|rfl|rfl|rfl|rfl|rfl|rfl|rfl|rfl|rfl)|e
 ·have h:=h (by decide)
  have h':=h' (by decide)
  have ed:I7 s th ⟨1,a,b,x,y,w⟩=Be s th ⟨1,a,b,x,y,w⟩:=by simp[I7]
  refine AF.gc ?_
  refine Aa ok18 ?_;(try simp only[c18,w18,kS,kT,kA,kB,BT,AM,AJ,Qa,CD.Ap,go_sem]);repeat' ((first|refine orR ?_|(refine sp ?_ ?_<;>intro hc)|refine B3 hi (kS _) (kT _) ?_|refine CR (kA _) (kB _) hla hlb ?_|refine CS ?_ (iS _) (iT _)|refine Zp (c:=⟨1,a,b,x,y,w⟩) hi (by assumption) rfl (kS _) (kT _) (kA _) (kB _) (fun hc=> ?_) (fun s' hc=> ?_))<;>try simp only[*,w18,BT,AM,AJ,Qa,CD.Ap,go_sem])
  all_goals first
   |(rw[ed]at h'
     exact Gc.Jg (i:=4) (j:=5) rfl rfl h' (by decide) (by simp[AH.plain,Ah]) rfl rfl ⟨rfl,rfl,rfl⟩ (by assumption))
   |(rw[ed]at h
     exact Gc.Cd (hv3 _ _ _) (h (by assumption)))
   |(rw[hbad (by first|exact .inl (by assumption)|exact .inr (by omega))]at h
     exact Gc.Cd (hv _ _) (h rfl))
 ·have h:=h (by decide)
  have h':=h' (by decide)
  have ed:I7 s th ⟨2,a,b,x,y,w⟩=A5 s th ⟨2,a,b,x,y,w⟩:=by simp[I7]
  refine AF.gc ?_
  refine Aa ok18 ?_;(try simp only[c18,w18,kS,kT,kA,kB,BT,AM,AJ,Qa,CD.Ap,go_sem]);repeat' ((first|refine orR ?_|(refine sp ?_ ?_<;>intro hc)|refine B3 hi (kS _) (kT _) ?_|refine CR (kA _) (kB _) hla hlb ?_|refine CS ?_ (iS _) (iT _)|refine RY (c:=⟨2,a,b,x,y,w⟩) hi (by assumption) (.inl rfl) (kS _) (kT _) (kA _) (kB _) (fun hc=> ?_) (fun s' hc=> ?_))<;>try simp only[*,w18,BT,AM,AJ,Qa,CD.Ap,go_sem])
  all_goals first
   |(rw[ed]at h'
     exact Gc.Jg (i:=4) (j:=5) rfl rfl h' (by decide) (by simp[AH.plain,Ah]) rfl rfl ⟨rfl,rfl,rfl⟩ (by assumption))
   |(rw[ed]at h
     exact Gc.Cd (hv3 _ _ _) (h (by assumption)))
   |(rw[hbad (by first|exact .inl (by assumption)|exact .inr (by omega))]at h
     exact Gc.Cd (hv _ _) (h rfl))
 ·have h:=h (by decide)
  have h':=h' (by decide)
  have ed:I7 s th ⟨3,a,b,x,y,w⟩=A5 s th ⟨3,a,b,x,y,w⟩:=by simp[I7]
  refine AF.gc ?_
  refine Aa ok18 ?_;(try simp only[c18,w18,kS,kT,kA,kB,BT,AM,AJ,Qa,CD.Ap,go_sem]);repeat' ((first|refine orR ?_|(refine sp ?_ ?_<;>intro hc)|refine B3 hi (kS _) (kT _) ?_|refine CR (kA _) (kB _) hla hlb ?_|refine CS ?_ (iS _) (iT _)|refine RY (c:=⟨3,a,b,x,y,w⟩) hi (by assumption) (.inr (.inl rfl)) (kS _) (kT _) (kA _) (kB _) (fun hc=> ?_) (fun s' hc=> ?_))<;>try simp only[*,w18,BT,AM,AJ,Qa,CD.Ap,go_sem])
  all_goals first
   |(rw[ed]at h'
     exact Gc.Jg (i:=4) (j:=5) rfl rfl h' (by decide) (by simp[AH.plain,Ah]) rfl rfl ⟨rfl,rfl,rfl⟩ (by assumption))
   |(rw[ed]at h
     exact Gc.Cd (hv3 _ _ _) (h (by assumption)))
   |(rw[hbad (by first|exact .inl (by assumption)|exact .inr (by omega))]at h
     exact Gc.Cd (hv _ _) (h rfl))
 ·have h:=h (by decide)
  have h':=h' (by decide)
  have ed:I7 s th ⟨4,a,b,x,y,w⟩=A5 s th ⟨4,a,b,x,y,w⟩:=by simp[I7]
  refine AF.gc ?_
  refine Aa ok18 ?_;(try simp only[c18,w18,kS,kT,kA,kB,BT,AM,AJ,Qa,CD.Ap,go_sem]);repeat' ((first|refine orR ?_|(refine sp ?_ ?_<;>intro hc)|refine B3 hi (kS _) (kT _) ?_|refine CR (kA _) (kB _) hla hlb ?_|refine CS ?_ (iS _) (iT _)|refine RY (c:=⟨4,a,b,x,y,w⟩) hi (by assumption) (.inr (.inr rfl)) (kS _) (kT _) (kA _) (kB _) (fun hc=> ?_) (fun s' hc=> ?_))<;>try simp only[*,w18,BT,AM,AJ,Qa,CD.Ap,go_sem])
  all_goals first
   |(rw[ed]at h'
     exact Gc.Jg (i:=4) (j:=5) rfl rfl h' (by decide) (by simp[AH.plain,Ah]) rfl rfl ⟨rfl,rfl,rfl⟩ (by assumption))
   |(rw[ed]at h
     exact Gc.Cd (hv3 _ _ _) (h (by assumption)))
   |(rw[hbad (by first|exact .inl (by assumption)|exact .inr (by omega))]at h
     exact Gc.Cd (hv _ _) (h rfl))
 ·have g:=g (by decide)
  have g':=g' (by decide)
  refine AF.gc ?_
  refine Aa ok18 ?_;(try simp only[c18,w18,kS,kT,kA,kB,BT,AM,AJ,Qa,CD.Ap,Bh.cells,go_sem]);repeat' ((first|refine orR ?_|(refine sp ?_ ?_<;>intro hc)|refine B3 hi (kS _) (kT _) ?_|refine CR (kA _) (kB _) hla hlb ?_|refine CS ?_ (iS _) (iT _)|refine EX hi (kA _) hla (kS _) (kT _) ?_|refine MR (l:=[(AO s th a).1]) hi (by simp) (kS _) (kT _) (by first|exact BH|exact Bb rfl) (fun u n hu1 hu2 hu3=> ?_))<;>try simp only[*,w18,BT,AM,AJ,Qa,CD.Ap,Bh.cells,go_sem])
  all_goals first
   |exact Gc.Cd (hv _ _) (g _ _)
   |(have g2:=g' u 0 n hu1 hu2 hu3
     rw[←hu2,←hu3,←hu1]
     exact Gc.stateT (s:=u) (i:=6) (j:=7) rfl rfl (by decide) (by simp[AH.plain,Ah]) g2)
   |trace_state
 ·have g:=g (by decide)
  have g':=g' (by decide)
  refine AF.gc ?_
  refine Aa ok18 ?_;(try simp only[c18,w18,kS,kT,kA,kB,BT,AM,AJ,Qa,CD.Ap,Bh.cells,go_sem]);repeat' ((first|refine orR ?_|(refine sp ?_ ?_<;>intro hc)|refine B3 hi (kS _) (kT _) ?_|refine CR (kA _) (kB _) hla hlb ?_|refine CS ?_ (iS _) (iT _)|refine EX hi (kA _) hla (kS _) (kT _) ?_|refine Pf hi (kS _) ?_|refine SR A8 hi.ok.Ii (by first|exact BH|exact Bb rfl) (fun l hl=> ?_)|refine MR hi (by assumption) (kS _) (kT _) (by first|exact BH|exact Bb rfl) (fun u n hu1 hu2 hu3=> ?_))<;>try simp only[*,w18,BT,AM,AJ,Qa,CD.Ap,Bh.cells,go_sem])
  all_goals first
   |exact Gc.Cd (hv _ _) (g _ _)
   |(have g2:=g' u 0 n hu1 hu2 hu3
     rw[←hu2,←hu3,←hu1]
     exact Gc.stateT (s:=u) (i:=8) (j:=9) rfl rfl (by decide) (by simp[AH.plain,Ah]) g2)
   |trace_state
 ·have h:=h (by decide)
  have h':=h' (by decide)
  have ed:I7 s th ⟨7,a,b,x,y,w⟩=BC s th ⟨7,a,b,x,y,w⟩:=by simp[I7]
  refine AF.gc ?_
  refine Aa ok18 ?_;(try simp only[c18,w18,kS,kT,kA,kB,BT,AM,AJ,Qa,CD.Ap,go_sem]);repeat' ((first|refine orR ?_|(refine sp ?_ ?_<;>intro hc)|refine B3 hi (kS _) (kT _) ?_|refine CR (kA _) (kB _) hla hlb ?_|refine CS ?_ (iS _) (iT _)|refine Vc (c:=⟨7,a,b,x,y,w⟩) hi (by assumption) (.inl rfl) (kS _) (kT _) (kA _) (kB _) (fun hc=> ?_) (fun s' hc=> ?_))<;>try simp only[*,w18,BT,AM,AJ,Qa,CD.Ap,go_sem])
  all_goals first
   |(rw[ed]at h'
     exact Gc.Jg (i:=4) (j:=5) rfl rfl h' (by decide) (by simp[AH.plain,Ah]) rfl rfl ⟨rfl,rfl,rfl⟩ (by assumption))
   |(rw[ed]at h
     exact Gc.Cd (hv3 _ _ _) (h (by assumption)))
   |(rw[hbad (by first|exact .inl (by assumption)|exact .inr (by omega))]at h
     exact Gc.Cd (hv _ _) (h rfl))
 ·have h:=h (by decide)
  have h':=h' (by decide)
  have ed:I7 s th ⟨8,a,b,x,y,w⟩=BC s th ⟨8,a,b,x,y,w⟩:=by simp[I7]
  refine AF.gc ?_
  refine Aa ok18 ?_;(try simp only[c18,w18,kS,kT,kA,kB,BT,AM,AJ,Qa,CD.Ap,go_sem]);repeat' ((first|refine orR ?_|(refine sp ?_ ?_<;>intro hc)|refine B3 hi (kS _) (kT _) ?_|refine CR (kA _) (kB _) hla hlb ?_|refine CS ?_ (iS _) (iT _)|refine Vc (c:=⟨8,a,b,x,y,w⟩) hi (by assumption) (.inr rfl) (kS _) (kT _) (kA _) (kB _) (fun hc=> ?_) (fun s' hc=> ?_))<;>try simp only[*,w18,BT,AM,AJ,Qa,CD.Ap,go_sem])
  all_goals first
   |(rw[ed]at h'
     exact Gc.Jg (i:=4) (j:=5) rfl rfl h' (by decide) (by simp[AH.plain,Ah]) rfl rfl ⟨rfl,rfl,rfl⟩ (by assumption))
   |(rw[ed]at h
     exact Gc.Cd (hv3 _ _ _) (h (by assumption)))
   |(rw[hbad (by first|exact .inl (by assumption)|exact .inr (by omega))]at h
     exact Gc.Cd (hv _ _) (h rfl))
 ·have h:=h (by decide)
  have h':=h' (by decide)
  have ed:I7 s th ⟨9,a,b,x,y,w⟩=BG s th ⟨9,a,b,x,y,w⟩:=by simp[I7]
  refine AF.gc ?_
  refine Aa ok18 ?_;(try simp only[c18,w18,kS,kT,kA,kB,BT,AM,AJ,Qa,CD.Ap,go_sem]);repeat' ((first|refine orR ?_|(refine sp ?_ ?_<;>intro hc)|refine B3 hi (kS _) (kT _) ?_|refine CR (kA _) (kB _) hla hlb ?_|refine CS ?_ (iS _) (iT _)|refine Va (c:=⟨9,a,b,x,y,w⟩) hi (by assumption) ⟨.inl rfl,hw64⟩ (kS _) (kT _) (kA _) (kB _) (fun hc=> ?_) (fun s' hc=> ?_))<;>try simp only[*,w18,BT,AM,AJ,Qa,CD.Ap,go_sem])
  all_goals first
   |(rw[ed]at h'
     exact Gc.Jg (i:=4) (j:=5) rfl rfl h' (by decide) (by simp[AH.plain,Ah]) rfl rfl ⟨rfl,rfl,rfl⟩ (by assumption))
   |(rw[ed]at h
     exact Gc.Cd (hv3 _ _ _) (h (by assumption)))
   |(rw[hbad (by first|exact .inl (by assumption)|exact .inr (by omega))]at h
     exact Gc.Cd (hv _ _) (h rfl))
 ·have h:=h (by decide)
  have h':=h' (by decide)
  have ed:I7 s th ⟨10,a,b,x,y,w⟩=BG s th ⟨10,a,b,x,y,w⟩:=by simp[I7]
  refine AF.gc ?_
  refine Aa ok18 ?_;(try simp only[c18,w18,kS,kT,kA,kB,BT,AM,AJ,Qa,CD.Ap,go_sem]);repeat' ((first|refine orR ?_|(refine sp ?_ ?_<;>intro hc)|refine B3 hi (kS _) (kT _) ?_|refine CR (kA _) (kB _) hla hlb ?_|refine CS ?_ (iS _) (iT _)|refine Va (c:=⟨10,a,b,x,y,w⟩) hi (by assumption) ⟨.inr rfl,hw64⟩ (kS _) (kT _) (kA _) (kB _) (fun hc=> ?_) (fun s' hc=> ?_))<;>try simp only[*,w18,BT,AM,AJ,Qa,CD.Ap,go_sem])
  all_goals first
   |(rw[ed]at h'
     exact Gc.Jg (i:=4) (j:=5) rfl rfl h' (by decide) (by simp[AH.plain,Ah]) rfl rfl ⟨rfl,rfl,rfl⟩ (by assumption))
   |(rw[ed]at h
     exact Gc.Cd (hv3 _ _ _) (h (by assumption)))
   |(rw[hbad (by first|exact .inl (by assumption)|exact .inr (by omega))]at h
     exact Gc.Cd (hv _ _) (h rfl))
 ·have h:=h (by decide)
  have h':=h' (by decide)
  have ed:I7 s th ⟨11,a,b,x,y,w⟩=Bg s th ⟨11,a,b,x,y,w⟩:=by simp[I7]
  refine AF.gc ?_
  refine Aa ok18 ?_;(try simp only[c18,w18,kS,kT,kA,kB,BT,AM,AJ,Qa,CD.Ap,go_sem]);repeat' ((first|refine orR ?_|(refine sp ?_ ?_<;>intro hc)|refine B3 hi (kS _) (kT _) ?_|refine CR (kA _) (kB _) hla hlb ?_|refine CS ?_ (iS _) (iT _)|refine Rb (c:=⟨11,a,b,x,y,w⟩) hi (by assumption) (.inl rfl) (kS _) (kT _) (kA _) (kB _) (fun hc=> ?_) (fun s' hc=> ?_))<;>try simp only[*,w18,BT,AM,AJ,Qa,CD.Ap,go_sem])
  all_goals first
   |(rw[ed]at h'
     exact Gc.Jg (i:=4) (j:=5) rfl rfl h' (by decide) (by simp[AH.plain,Ah]) rfl rfl ⟨rfl,rfl,rfl⟩ (by assumption))
   |(rw[ed]at h
     exact Gc.Cd (hv3 _ _ _) (h (by assumption)))
   |(rw[hbad (by first|exact .inl (by assumption)|exact .inr (by omega))]at h
     exact Gc.Cd (hv _ _) (h rfl))
 ·have h:=h (by decide)
  have h':=h' (by decide)
  have ed:I7 s th ⟨12,a,b,x,y,w⟩=Bg s th ⟨12,a,b,x,y,w⟩:=by simp[I7]
  refine AF.gc ?_
  refine Aa ok18 ?_;(try simp only[c18,w18,kS,kT,kA,kB,BT,AM,AJ,Qa,CD.Ap,go_sem]);repeat' ((first|refine orR ?_|(refine sp ?_ ?_<;>intro hc)|refine B3 hi (kS _) (kT _) ?_|refine CR (kA _) (kB _) hla hlb ?_|refine CS ?_ (iS _) (iT _)|refine Rb (c:=⟨12,a,b,x,y,w⟩) hi (by assumption) (.inr (.inl rfl)) (kS _) (kT _) (kA _) (kB _) (fun hc=> ?_) (fun s' hc=> ?_))<;>try simp only[*,w18,BT,AM,AJ,Qa,CD.Ap,go_sem])
  all_goals first
   |(rw[ed]at h'
     exact Gc.Jg (i:=4) (j:=5) rfl rfl h' (by decide) (by simp[AH.plain,Ah]) rfl rfl ⟨rfl,rfl,rfl⟩ (by assumption))
   |(rw[ed]at h
     exact Gc.Cd (hv3 _ _ _) (h (by assumption)))
   |(rw[hbad (by first|exact .inl (by assumption)|exact .inr (by omega))]at h
     exact Gc.Cd (hv _ _) (h rfl))
 ·have h:=h (by decide)
  have h':=h' (by decide)
  have ed:I7 s th ⟨13,a,b,x,y,w⟩=Bg s th ⟨13,a,b,x,y,w⟩:=by simp[I7]
  refine AF.gc ?_
  refine Aa ok18 ?_;(try simp only[c18,w18,kS,kT,kA,kB,BT,AM,AJ,Qa,CD.Ap,go_sem]);repeat' ((first|refine orR ?_|(refine sp ?_ ?_<;>intro hc)|refine B3 hi (kS _) (kT _) ?_|refine CR (kA _) (kB _) hla hlb ?_|refine CS ?_ (iS _) (iT _)|refine Rb (c:=⟨13,a,b,x,y,w⟩) hi (by assumption) (.inr (.inr rfl)) (kS _) (kT _) (kA _) (kB _) (fun hc=> ?_) (fun s' hc=> ?_))<;>try simp only[*,w18,BT,AM,AJ,Qa,CD.Ap,go_sem])
  all_goals first
   |(rw[ed]at h'
     exact Gc.Jg (i:=4) (j:=5) rfl rfl h' (by decide) (by simp[AH.plain,Ah]) rfl rfl ⟨rfl,rfl,rfl⟩ (by assumption))
   |(rw[ed]at h
     exact Gc.Cd (hv3 _ _ _) (h (by assumption)))
   |(rw[hbad (by first|exact .inl (by assumption)|exact .inr (by omega))]at h
     exact Gc.Cd (hv _ _) (h rfl))
 ·refine AF.gc ?_
  have cg:AT ⟨op,a,b,x,y,w⟩=false:=K1.2.2.2.2.2.2.2.2.2 e
  refine Aa ok18 ?_;(try simp only[c18,w18,kS,kT,kA,kB,cg,go_sem]);repeat' ((first|refine orR ?_|(refine sp ?_ ?_<;>intro hc)|refine B3 hi (kS _) (kT _) ?_|refine CR (kA _) (kB _) hla hlb ?_|refine CS ?_ (iS _) (iT _))<;>try simp only[*,w18,go_sem])
  have h:=h (by omega)
  rw[hbad (.inl cg)]at h
  exact Gc.Cd (hv _ _) (h rfl)
end
end Go.Proofs.YtlaipllgmddkiaaGreat.Ax
namespace Go.Proofs.YtlaipllgmddkiaaGreat.Ax
open Go Go.Ax Go.Ax.M
section
variable {H:AP}{K:AH→AP→Prop}{s:State}{oS oT:Nat}{fS fT rS rT:Bool}{th:Int}{c:M.Call}{oA oB:Nat}{fA fB rA rB:Bool}
theorem HB{e v n:Int}(hd:I7 s th c=⟨e,v,n,none⟩)(h56:¬(c.op=5∨c.op=6))(hi:Inv s)(hw64:∀k,k<s.AB.length→0≤(s.AG k).word∧(s.AG k).word<2^64)(hla:c.a.length≤100000)(hlb:c.b.length≤100000)
 (hS:H[oS]?=some (.AU 5 (s.AE.map Slot.cells) rS)) (hT:H[oT]?=some (.AU 13 (s.AB.map AN.cells) rT)) (hA:H[oA]?=some (.AU 1 (ints c.a) rA)) (hB:H[oB]?=some (.AU 1 (ints c.b) rB))
 (h:K (.Bj [stA s oS oT fS fT,.agg [.int .i64 e,.int .u64 v,.int .i64 n]]) H):AF Tryz.prog 18 [stA s oS oT fS fT,.int .i64 th,.agg [.int .i64 c.op,.slice oA c.a.length 0 c.a.length fA,.slice oB c.b.length 0 c.b.length fB,.int .i64 c.x,.int .i64 c.y,.int .u64 c.w]] H K:=by
 refine Wr hi hw64 hla hlb hS hT hA hB (fun _ _=> ?_) (fun _ s' e=> ?_) (fun q=>absurd q h56) (fun q=>absurd q h56)
 ·show K (.Bj [_,(I7 s th c).Ap]) H
  rw[hd];exact h
 ·have e:(I7 s th c).st=some s':=e
  rw[hd]at e;cases e
theorem HC{e v n:Int}{u:State}(hd:I7 s th c=⟨e,v,n,some u⟩)(h56:¬(c.op=5∨c.op=6))(hi:Inv s)(hw64:∀k,k<s.AB.length→0≤(s.AG k).word∧(s.AG k).word<2^64)(hla:c.a.length≤100000)(hlb:c.b.length≤100000)
 (hS:H[oS]?=some (.AU 5 (s.AE.map Slot.cells) rS)) (hT:H[oT]?=some (.AU 13 (s.AB.map AN.cells) rT)) (hA:H[oA]?=some (.AU 1 (ints c.a) rA)) (hB:H[oB]?=some (.AU 1 (ints c.b) rB))
 (h:K (.Bj [BT u H.length (H.length+1) false false,.agg [.int .i64 e,.int .u64 v,.int .i64 n]]) (H++[AM u,AJ u])):AF Tryz.prog 18 [stA s oS oT fS fT,.int .i64 th,.agg [.int .i64 c.op,.slice oA c.a.length 0 c.a.length fA,.slice oB c.b.length 0 c.b.length fB,.int .i64 c.x,.int .i64 c.y,.int .u64 c.w]] H K:=by
 refine Wr hi hw64 hla hlb hS hT hA hB (fun _ e=> ?_) (fun _ s' e=> ?_) (fun q=>absurd q h56) (fun q=>absurd q h56)
 ·have e:(I7 s th c).st=none:=e
  rw[hd]at e;cases e
 ·have e2:(I7 s th c).st=some s':=e
  show K (.Bj [_,(I7 s th c).Ap]) _
  rw[hd]at e2 ⊢
  injection e2 with e2
  subst e2;exact h
theorem HA(hi:Inv s)(hw64:∀k,k<s.AB.length→0≤(s.AG k).word∧(s.AG k).word<2^64)(hla:c.a.length≤100000)(hlb:c.b.length≤100000)
 (hS:H[oS]?=some (.AU 5 (s.AE.map Slot.cells) rS)) (hT:H[oT]?=some (.AU 13 (s.AB.map AN.cells) rT)) (hA:H[oA]?=some (.AU 1 (ints c.a) rA)) (hB:H[oB]?=some (.AU 1 (ints c.b) rB))
 (h:∀e v n:Int,K (.Bj [stA s oS oT fS fT,.agg [.int .i64 e,.int .u64 v,.int .i64 n]]) H)
 (h':∀(u:State) (e v n:Int),K (.Bj [BT u H.length (H.length+1) false false,.agg [.int .i64 e,.int .u64 v,.int .i64 n]]) (H++[AM u,AJ u])):AF Tryz.prog 18 [stA s oS oT fS fT,.int .i64 th,.agg [.int .i64 c.op,.slice oA c.a.length 0 c.a.length fA,.slice oB c.b.length 0 c.b.length fB,.int .i64 c.x,.int .i64 c.y,.int .u64 c.w]] H K:=
 Wr hi hw64 hla hlb hS hT hA hB (fun _ _=>h _ _ _) (fun _ s' _=>h' s' _ _ _) (fun _ e n=>h e 0 n) (fun _ u e n _ _ _=>h' u e 0 n)
end
end Go.Proofs.YtlaipllgmddkiaaGreat.Ax
