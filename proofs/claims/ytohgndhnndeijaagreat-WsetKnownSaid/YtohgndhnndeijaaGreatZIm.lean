/- Texts put behind one another: PImgP, SGauss, SSuper, SThingW, SImage, SWset, SWset2, SWset3, SAwk23, SWset4. Conditions: none. -/
import Derived.Test.YtohgndhnndeijaaGreatMFltZ
import Derived.Test.YtohgndhnndeijaaGreatSLawB23Z
import Derived.Test.YtohgndhnndeijaaGreatZRu
import Derived.Test.YtohgndhnndeijaaGreatSCompactZ
set_option linter.all false
set_option maxHeartbeats 9999999
open List renaming replicate -> Qa, append_assoc -> Qc, take_succ_eq_append_getElem -> Qd, length_append -> Qe, cons_append -> Qf, length_replicate -> Qg, append_nil -> Qh, replicate_append_replicate -> Qi, set_append_right -> Qj, take_of_length_le -> Qk, length_take -> Qm, length_set -> Qp, getD -> Qq, foldl_append -> Qr, take_length -> Qs, length_cons -> Qu, replicate_succ -> Qw, flatMap_append -> Qx, getElem_mem -> QB, take -> QC, length_nil -> QD
open Go.Proofs.Tryz renaming prog -> Qb
open Int renaming tmod_eq_emod_of_nonneg -> Ql, tdiv_eq_ediv_of_nonneg -> Qn, le_refl -> Qo, lt_tmod_of_pos -> Qy
open Bool renaming and_eq_true -> Qt
open Nat renaming le_refl -> Qv, sub_self -> Qz, zero_add -> QA, add_assoc -> QE, le_of_eq -> QF
namespace Go.Ax.M
open Go Go.Ax
def imA(g:SY)(b:Int):List Int:=uj g b++Qa (8+g.AI.toNat* 1208) 0
def vn(s:State)(b:Int)(k:Nat):List Int:=imA s.AS b++((s.AE.take k).flatMap vK++(Qa (2*(s.AE.length-k)+8* s.AB.length) 0++uj s.AS b))
def imT(s:State)(b:Int)(k:Nat):List Int:=imA s.AS b++(s.AE.flatMap vK++((s.AB.take k).flatMap vE++(Qa (8*(s.AB.length-k)) 0++uj s.AS b)))
def cg(s:State):Nat:=16+s.AS.AI.toNat* 1208
def kq(s:State):Nat:=cg s+2* s.AE.length
def nC(s:State):Nat:=kq s+8* s.AB.length
theorem c8{s:State}{b:Int}:(imA s.AS b).length=cg s:=by simp only[imA,Qe,nA,Qg,cg];omega
theorem imS_len{s:State}{b:Int}{k:Nat}(hk:k<=s.AE.length):(vn s b k).length=nC s+8:=by
 simp only[vn,Qe,c8,uv,Qm,Qg,nA,nC,kq];omega
theorem imT_len{s:State}{b:Int}{k:Nat}(hk:k<=s.AB.length):(imT s b k).length=nC s+8:=by
 simp only[imT,Qe,c8,uv,um,Qm,Qg,nA,nC,kq];omega
theorem imT_0{s:State}{b:Int}:vn s b s.AE.length=imT s b 0:=by
 simp[vn,imT]
theorem imT_end{s:State}{b:Int}:imT s b s.AB.length=iB s b:=by
 simp[imT,iB,uq,imA]
theorem dl{A B:List Int}{x y w u:Int}{n:Nat}(h:A.length=n):((A++(x::y::B)).set n w).set (n+1) u=A++(w::u::B):=by
 subst h
 rw[Qj _ _ (Qv _),Qz,List.set_cons_zero,Qj _ _ (by omega),show A.length+1-A.length=1 by omega]
 rfl
theorem imS_step{s:State}{b:Int}{k:Nat}(hk:k<s.AE.length):((vn s b k).set (cg s+2* k) (Hv (s.slot k).cap)).set (cg s+2* k+1) ((s.slot k).up+1)=vn s b (k+1):=by
 have e:Qa (2*(s.AE.length-k)+8* s.AB.length) (0:Int)=0::0::Qa (2*(s.AE.length-(k+1))+8* s.AB.length) 0:=by
  rw[show 2*(s.AE.length-k)+8* s.AB.length=(2*(s.AE.length-(k+1))+8* s.AB.length)+1+1 by omega,Qw,Qw]
 have e2:(s.AE.take (k+1)).flatMap vK=(s.AE.take k).flatMap vK++[Hv (s.slot k).cap,(s.slot k).up+1]:=by
  rw[Qd hk,Qx]
  have:s.slot k=s.AE[k]:=by simp[State.slot,Qq,hk]
  simp[vK,this]
 have:=dl (A:=imA s.AS b++(s.AE.take k).flatMap vK) (B:=Qa (2*(s.AE.length-(k+1))+8* s.AB.length) 0++uj s.AS b) (x:=0) (y:=0) (w:=Hv (s.slot k).cap) (u:=(s.slot k).up+1) (n:=cg s+2* k) (by
  simp only[Qe,c8,uv,Qm];omega)
 rw[vn,vn,e,e2]
 simpa using this
theorem nL{P:List (List AH)}:∀{m Z S:List (List AH)},Z.length=m.length->Fh (P++(Z++S)) P.length m=P++(m++S):=by
 intro m
 induction m generalizing P with
 |nil=>intro Z S h;rw[List.length_eq_zero_iff.1 h];rfl
 |cons y m ih=>
  intro Z S h
  cases Z with
  |nil=>simp at h
  |cons z Z=>
   have:=ih (P:=P++[y]) (Z:=Z) (S:=S) (by simpa using h)
   rw[Fh,Qj _ _ (Qv _),Qz]
   simpa using this
theorem wordsC_app{a b:List Int}:Cc (a++b)=Cc a++Cc b:=by simp[Cc]
theorem G3{l:List Int}{k:Nat}{x:Int}:(Cc l).set k [nT x]=Cc (l.set k x):=by simp[Cc,List.map_set]
theorem sl{n:Nat}:Qa n [nT 0]=Cc (Qa n 0):=by simp[Cc]
theorem eS{P m Z S:List Int}{n:Nat}(h:P.length=n)(hz:Z.length=m.length):Fh (Cc (P++(Z++S))) n (Cc m)=Cc (P++(m++S)):=by
 have:=nL (P:=Cc P) (m:=Cc m) (Z:=Cc Z) (S:=Cc S) (by simpa [Cc] using hz)
 rw[cX,h]at this
 simpa [wordsC_app] using this
theorem im_first{s:State}{b:Int}:Fh (Qa (nC s+8) [nT 0]) 0 (Cc (uj s.AS b))=Cc (uj s.AS b++Qa (nC s) 0):=by
 rw[sl,show nC s+8=8+nC s by omega,<-Qi]
 exact eS (P:=[]) (m:=uj s.AS b) rfl rfl
theorem im_back{s:State}{b:Int}:Fh (Cc (uj s.AS b++Qa (nC s) 0)) (nC s) (Cc (uj s.AS b))=Cc (vn s b 0):=by
 have e:Qa (nC s) (0:Int)=Qa (nC s-8) 0++(Qa 8 0++[]):=by
  rw[Qh,Qi];congr 1;simp only[nC,kq,cg];omega
 have:=eS (P:=uj s.AS b++Qa (nC s-8) 0) (m:=uj s.AS b) (Z:=Qa 8 0) (S:=[]) (n:=nC s) (by
  simp only[Qe,nA,Qg,nC,kq,cg];omega) rfl
 rw[e,<-Qc,this]
 congr 1
 simp only[vn,imA,List.take_zero,List.flatMap_nil,List.nil_append,Qh,Qc]
 congr 1
 rw[<-Qc,Qi]
 congr 2
 simp only[nC,kq,cg];omega
theorem imT_step{s:State}{b:Int}{k:Nat}(hk:k<s.AB.length):Fh (Cc (imT s b k)) (kq s+8* k) (Cc (vE (s.AG k)))=Cc (imT s b (k+1)):=by
 have e:Qa (8*(s.AB.length-k)) (0:Int)=Qa 8 0++Qa (8*(s.AB.length-(k+1))) 0:=by
  rw[Qi];congr 1;omega
 have e2:(s.AB.take (k+1)).flatMap vE=(s.AB.take k).flatMap vE++vE (s.AG k):=by
  rw[Qd hk,Qx]
  have:s.AG k=s.AB[k]:=by simp[State.AG,Qq,hk]
  simp[this]
 have:=eS (P:=imA s.AS b++(s.AE.flatMap vK++(s.AB.take k).flatMap vE)) (m:=vE (s.AG k)) (Z:=Qa 8 0) (S:=Qa (8*(s.AB.length-(k+1))) 0++uj s.AS b) (n:=kq s+8* k) (by
  simp only[Qe,c8,uv,um,Qm,kq];omega) rfl
 rw[imT,imT,e,e2]
 simpa using this
theorem sa_eq{s:State}(h:Inv s):uw s.AS=(cg s:Int):=by
 have:=Hb h.AS
 simp only[uw,cg];omega
theorem ta_eq{s:State}(h:Inv s):ul s.AS=(kq s:Int):=by
 have:=h.Mn
 simp only[ul,sa_eq h,kq];omega
theorem c_eq{s:State}(h:Inv s):uu s.AS=(nC s:Int):=by
 have:=h.ME
 simp only[uu,ta_eq h,nC];omega
theorem rows_eq{s:State}(h:Inv s):((uu s.AS).tdiv 8+1)* 8=((nC s+8:Nat):Int):=by
 have h1:=Hb h.AS
 have h2:=h.Mn
 rw[c_eq h,Qn (by omega)]
 rw[Ql (by omega)]at h1
 simp only[nC,kq,cg];omega
theorem nC_le{s:State}(h:Inv s):nC s<=20000:=by
 have h1:=Hb h.AS
 have h2:=h.Mn
 have h3:=h.ME
 simp only[nC,kq,cg];omega
theorem wI{n:Int}(h0:-9223372036854775808<=n)(h:n<=9223372036854775807):IntKind.wrap .i64 n=n:=by
 simp only[IntKind.wrap,IntKind.bits,IntKind.signed];simp;omega
end Go.Ax.M
namespace Go.Proofs.YtohgndhnndeijaaGreat.Ax
open Go Go.Ax Go.Ax.M
section
variable {H:AP}{K:AH->AP->Prop}{a b n:Int}
theorem hP(h:Sm n)(hK:K (cP n) H):AF Qb 245 [cP n] H K:=by
 have h1:=λy=>flo_tr (y:=y) h
 refine Aa ok245 ?_;repeat' first|simp only[*,AV,go_sem]|apply orR|(apply sp<;>intro hc)|fail
 all_goals first|exact hK|trace_state
theorem mh(hK:K (.bool false) H):AF Qb 246 [cP 0] H K:=by
 refine Aa ok246 ?_;repeat' first|simp only[*,kp,AV,go_sem]|apply orR|(apply sp<;>intro hc)|fail
 all_goals first|exact hK|trace_state
theorem hU(h0:-1099511627776<=n)(h1:n<=1099511627776)(hK:K (.Bj [nS n,.bool true]) H):AF Qb 214 [cP n] H K:=by
 have hs:Sm n:=sm_of (by omega) (by omega)
 have s1:Sm 1099511627776:=sm_of (by omega) (by omega)
 have s2:Sm (-1099511627776):=sm_of (by omega) (by omega)
 have s0:Sm 0:=sm_of (by omega) (by omega)
 have c1:=flo_geq hs s2
 have c2:=flo_leq hs s1
 have c3:=flo_neq hs hs
 have c4:=flo_eql hs s0
 have c5:=λy=>flo_to (y:=y) hs
 rw[decide_eq_true h0]at c1
 rw[decide_eq_true h1]at c2
 rw[decide_eq_true rfl]at c3
 by_cases hz:n=0
 ·subst hz
  refine Aa ok214 ?_;repeat' first|simp only[*,fl_c0,fl_cm,fl_cn,c2,c5,AV,go_sem]|apply orR|(apply sp<;>intro hc)|refine hP hs ?_|refine mh ?_
  all_goals first|exact hK|trace_state
 ·rw[decide_eq_false hz]at c4
  refine Aa ok214 ?_;repeat' first|simp only[*,fl_c0,fl_cm,fl_cn,c2,c5,AV,go_sem]|apply orR|(apply sp<;>intro hc)|refine hP hs ?_
  all_goals first|exact hK|trace_state
abbrev sR(n:Int):Prop:=-1099511627776<=n/\n<=1099511627776
theorem c7(ha:sR a)(hb:sR b)(hK:K (.Bj [nS a,nS b,.bool true]) H):AF Qb 164 [cxV a b] H K:=by
 refine Aa ok164 ?_;repeat' first|simp only[*,flo_re',flo_im',AV,go_sem]|apply orR|(apply sp<;>intro hc)|refine hU ha.1 ha.2 ?_|refine hU hb.1 hb.2 ?_
 all_goals first|exact hK|trace_state
theorem m6(ha:sR a)(hK:K (.bool true) H):AF Qb 215 [nS a] H K:=by
 have h1:=ha.1
 have h2:=ha.2
 refine Aa ok215 ?_;repeat' first|simp only[*,go_sem]|apply orR|(apply sp<;>intro hc)|fail
 all_goals first|exact hK|trace_state
theorem Of_spec(ha:sR a)(hb:sR b)(hK:K (.Bj [cxV a b,.bool true]) H):AF Qb 166 [nS a,nS b] H K:=by
 refine Aa ok166 ?_;repeat' first|simp only[*,flo_of,flo_cx',AV,go_sem]|apply orR|(apply sp<;>intro hc)|refine m6 ha ?_|refine m6 hb ?_
 all_goals first|exact hK|trace_state
theorem Turn_spec(ha:sR a)(hb:sR b)(hK:K (cxV (-b) a) H):AF Qb 165 [cxV a b,nS 1] H K:=by
 have q1:(IntKind.wrap .i64 (Int.tmod 1 4+4)).tmod 4=1:=by decide
 have q2:IntKind.wrap .i64 (0+1)=1:=by decide
 have q2':IntKind.wrap .i64 1=1:=by decide
 have q3:((0:Int)<1)=True:=eq_true (by decide)
 have q4:((1:Int)<1)=False:=eq_false (by decide)
 have hw:IntKind.wrap .i64 (0-b)=-b:=by
  have:=hb.1;have:=hb.2
  rw[wI (by omega) (by omega)];omega
 have hmb:sR (-b):=⟨by have:=hb.2;omega,by have:=hb.1;omega⟩
 refine Aa ok165 ?_;repeat' first|simp only[*,cx_c0,go_sem]|apply orR|(apply sp<;>intro hc)|refine c7 ha hb ?_
 refine AK.Az [20,5,6,19] ?_;simp only[mpC,go_sem]
 refine AK.unfold ?_
 repeat' first|simp only[*,AA b165_2.eq_1,go_sem]|apply orR|(apply sp<;>intro hc)|fail
 refine AK.unfold ?_
 repeat' first|simp only[*,AA b165_2.eq_1,go_sem]|apply orR|(apply sp<;>intro hc)|refine Of_spec hmb ha ?_
 all_goals first|exact hK|trace_state
theorem rest_spec(h0:-1000000000<=a)(h1:a<=1000000000)(hK:K (nS (a%1000003)) H):AF Qb 167 [nS a] H K:=by
 have e1:IntKind.wrap .i64 (a.tmod 1000003+1000003)=a.tmod 1000003+1000003:=wI (by have:=Qy a (show(0:Int)<1000003 by omega);omega) (by have:=Int.tmod_lt_of_pos a (show(0:Int)<1000003 by omega);omega)
 have e2:(a.tmod 1000003+1000003).tmod 1000003=a%1000003:=by
  have g1:=Qy a (show(0:Int)<1000003 by omega)
  rw[Ql (by omega)]
  rcases Int.le_total 0 a with h|h
  ·rw[Ql h];omega
  ·have:a.tmod 1000003=-((-a)%1000003):=by
    rw[show a=-(-a) by omega,Int.neg_tmod,Ql (by omega)];simp
   rw[this];omega
 refine Aa ok167 ?_;repeat' first|simp only[*,go_sem]|apply orR|(apply sp<;>intro hc)|fail
 all_goals first|exact hK|trace_state
theorem rP{w:Int}:IntKind.wrap .u16 w=w%65536:=by simp[IntKind.wrap,IntKind.bits,IntKind.signed]
def U64s(l:List Int):Prop:=∀w∈l,0<=w/\w<2^64
theorem spinStep_lt{z:Int×Int}{w:Int}:0<=(vL z w).1/\(vL z w).1<1000003/\0<=(vL z w).2/\(vL z w).2<1000003:=by
 simp only[vL];omega
theorem oP{l:List Int}{k:Nat}:0<=(vd (l.take k)).1/\(vd (l.take k)).1<1000003/\0<=(vd (l.take k)).2/\(vd (l.take k)).2<1000003:=by
 cases h:(l.take k).reverse with
 |nil=>rw[List.reverse_eq_nil_iff.1 h];decide
 |cons a r=>
  have:l.take k=r.reverse++[a]:=by rw[<-List.reverse_reverse (l.take k),h];simp
  rw[this,vd,Qr];exact spinStep_lt
theorem spin_succ{l:List Int}{k:Nat}(h:k<l.length):vd (l.take (k+1))=vL (vd (l.take k)) (l.getD k 0):=by
 rw[Qd h,vd,Qr];simp[vd,Qq,h]
set_option maxHeartbeats 1000000 in
theorem Spin_spec{l:List Int}{o:Nat}{f ro:Bool}(ho:H[o]?=some (.AU 1 (Cc l) ro))(hu:U64s l)(hl:l.length<=100000)(hK:K (cxV (vd l).1 (vd l).2) H):
 AF Qb 114 [.slice o l.length 0 l.length f] H K:=by
 have kO:=AL.of ho
 have kO0:=kO.at
 refine Aa ok114 ?_;repeat' first|simp only[*,cx_c0,go_sem]|apply orR|(apply sp<;>intro hc)|fail
 refine AK.Az [11,3,9,10] ?_;simp only[mpC,go_sem]
 refine AK.acc (α:=Int×Int) (λk z=>[(11,nS (k:Int)),(3,cxV z.1 z.2)]) (λ_ _=>H) (λk z=>z=vd (l.take k)) l.length ?_ (a0:=(0,0)) rfl
 rintro k ⟨a,b⟩ hk I next
 refine AK.unfold ?_
 simp only at next ⊢
 have hin:=oP (l:=l) (k:=k)
 have I':Hid ((a,b)=vd (l.take k)):=I
 rw[<-I]at hin
 clear I
 simp only at hin
 obtain⟨i1,i2,i3,i4⟩:=hin
 by_cases hkl:k<l.length
 ·have hw:=AY (k:=k) (by omega)
  have hg:=M0 (l:=l) (k:=k) hkl
  have hmem:l.getD k 0∈l:=by
   have:l.getD k 0=l[k]:=by simp[Qq,hkl]
   rw[this];exact QB _
  have hx:=hu _ hmem
  clear hmem
  have hs:=spin_succ (l:=l) hkl
  rw[<-(show(a,b)=vd (l.take k) from I')]at hs
  generalize l.getD k 0=w at*
  obtain⟨x0,x1⟩:=hx
  have hs':Hid (_=_):=hs
  clear hs
  have sh:=fun(m:Nat) (hm:m<=64)=>UO (a:=w) (b:=m) hm
  have s32:Dl .shr .u64 w 32=some (nT (w/4294967296)):=sh 32 (by decide)
  have s16:Dl .shr .u64 w 16=some (nT (w/65536)):=sh 16 (by decide)
  have s48:Dl .shr .u64 w 48=some (nT (w/281474976710656)):=sh 48 (by decide)
  clear sh
  have v1:IntKind.wrap .i64 (-b+IntKind.wrap .i64 (IntKind.wrap .i64 (w%65536)-IntKind.wrap .i64 (w/4294967296%65536)))=-b+(w%65536-w/4294967296%65536):=by
   rw[wI (n:=w%65536) (by omega) (by omega),wI (n:=w/4294967296%65536) (by omega) (by omega),wI (n:=_-_) (by omega) (by omega),wI (by omega) (by omega)]
  have v2:IntKind.wrap .i64 (a+IntKind.wrap .i64 (IntKind.wrap .i64 (w/65536%65536)-IntKind.wrap .i64 (w/281474976710656%65536)))=a+(w/65536%65536-w/281474976710656%65536):=by
   rw[wI (n:=w/65536%65536) (by omega) (by omega),wI (n:=w/281474976710656%65536) (by omega) (by omega),wI (n:=_-_) (by omega) (by omega),wI (by omega) (by omega)]
  repeat' first|simp only[*,rP,AA b114_5.eq_1,AR,AX,go_sem]|apply orR|(apply sp<;>intro hc)|refine Turn_spec ⟨by omega,by omega⟩ ⟨by omega,by omega⟩ ?_|refine c7 ⟨by omega,by omega⟩ ⟨by omega,by omega⟩ ?_|refine rest_spec (by omega) (by omega) ?_|refine Of_spec ⟨by omega,by omega⟩ ⟨by omega,by omega⟩ ?_
  (refine AK.Az [11,3,9,10] ?_;simp only[mpC,go_sem];refine next (vL (a,b) w) hkl hs'.symm)
 ·have hkl':((k:Int)<(l.length:Int))=False:=eq_false (by omega)
  have e:k=l.length:=by omega
  subst e
  rw[Qs]at I'
  have hz:(a,b)=vd l:=I'
  rw[<-hz]at hK
  repeat' first|simp only[*,AA b114_5.eq_1,go_sem]|apply orR|(apply sp<;>intro hc)|fail
  all_goals exact hK
end
section
variable {H:AP}{K:AH->AP->Prop}{a b n:Int}{g:SY}{i:Int}
theorem Word_spec(a0:0<=a)(a1:a<1000003)(b0:0<=b)(b1:b<1000003)(hK:K (.Bj [nT (b* 4294967296+a),.bool true]) H):AF Qb 113 [cxV a b] H K:=by
 have s1:Dl .shl .u64 b 32=some (nT (b* 4294967296)):=Yh (b:=32) b0 (by omega) (by omega)
 have c1:(a<0)=False:=eq_false (by omega)
 have c2:(4294967295<a)=False:=eq_false (by omega)
 have c3:(b<0)=False:=eq_false (by omega)
 have c4:(4294967295<b)=False:=eq_false (by omega)
 have wa:IntKind.wrap .u64 a=a:=HM (by omega) (by omega)
 have wb:IntKind.wrap .u64 b=b:=HM (by omega) (by omega)
 have o1:IntKind.wrap .u64 ((BitVec.ofInt (IntKind.bits .u64) (b* 4294967296)|||BitVec.ofInt (IntKind.bits .u64) a).toNat:Int)=b* 4294967296+a:=by
  have:=bO (a:=a) (b:=b) (k:=32) a0 (by omega) b0 (by omega)
  rw[BitVec.or_comm,Int.add_comm];exact this
 have m1:sR a:=⟨by omega,by omega⟩
 have m2:sR b:=⟨by omega,by omega⟩
 clear a0 a1 b0 b1
 simp only[go_sem]at o1
 refine Aa ok113 ?_;repeat' first|simp only[*,c2,go_sem]|apply orR|(apply sp<;>intro hc)|refine c7 m1 m2 ?_
 all_goals first|exact hK|trace_state
theorem eL(hg:Ee g=true)(hK:K (nS (uw g)) H):AF Qb 71 [.agg [nS g.AI,nS g.AE,nS g.AB]] H K:=by
 have:=Hb hg
 have e1:IntKind.wrap .i64 (g.AI* 1208)=g.AI* 1208:=w64 (by omega) (by omega)
 have e2:IntKind.wrap .i64 (16+g.AI* 1208)=16+g.AI* 1208:=w64 (by omega) (by omega)
 unfold uw at hK
 clear this
 refine AF.tidy ?_
 refine Aa ok71 ?_;repeat' first|simp only[*,go_sem]|apply orR|(apply sp<;>intro hc)|fail
 all_goals first|exact⟨rfl,⟨_,rfl⟩,hK⟩|exact⟨rfl,[],(Qh _).symm⟩|exact⟨rfl,⟨_,rfl⟩⟩
theorem cw(hg:Ee g=true)(hK:K (nS (ul g)) H):AF Qb 72 [.agg [nS g.AI,nS g.AE,nS g.AB]] H K:=by
 have:=Hb hg
 have e1:IntKind.wrap .i64 (2* g.AE)=2* g.AE:=w64 (by omega) (by omega)
 have e2:IntKind.wrap .i64 (uw g+2* g.AE)=uw g+2* g.AE:=by unfold uw;exact w64 (by omega) (by omega)
 unfold ul at hK
 clear this
 refine AF.tidy ?_
 refine Aa ok72 ?_;repeat' first|simp only[*,go_sem]|apply orR|(apply sp<;>intro hc)|refine eL hg ?_
 all_goals first|exact⟨rfl,⟨_,rfl⟩,hK⟩|exact⟨rfl,[],(Qh _).symm⟩|exact⟨rfl,⟨_,rfl⟩⟩
theorem kP(hg:Ee g=true)(hK:K (nS (uu g)) H):AF Qb 31 [.agg [nS g.AI,nS g.AE,nS g.AB]] H K:=by
 have:=Hb hg
 have e1:IntKind.wrap .i64 (8* g.AB)=8* g.AB:=w64 (by omega) (by omega)
 have e2:IntKind.wrap .i64 (ul g+8* g.AB)=ul g+8* g.AB:=by unfold ul uw;exact w64 (by omega) (by omega)
 unfold uu at hK
 clear this
 refine AF.tidy ?_
 refine Aa ok31 ?_;repeat' first|simp only[*,go_sem]|apply orR|(apply sp<;>intro hc)|refine WN ?_|refine cw hg ?_
 all_goals first|exact⟨rfl,⟨_,rfl⟩,hK⟩|exact⟨rfl,[],(Qh _).symm⟩|exact⟨rfl,⟨_,rfl⟩⟩
theorem ka(hg:Ee g=true)(hK:K (nS ((uu g).tdiv 8+1)) H):AF Qb 65 [.agg [nS g.AI,nS g.AE,nS g.AB]] H K:=by
 have:=Hb hg
 have h0:0<=uu g/\uu g<=100000:=by unfold uu ul uw;omega
 have h1:(uu g).tdiv 8=uu g/8:=Qn h0.1
 have e0:IntKind.wrap .i64 ((uu g).tdiv 8)=(uu g).tdiv 8:=by rw[h1];exact w64 (by omega) (by omega)
 have e1:IntKind.wrap .i64 ((uu g).tdiv 8+1)=(uu g).tdiv 8+1:=by rw[h1];exact w64 (by omega) (by omega)
 clear this h0 h1
 refine AF.tidy ?_
 refine Aa ok65 ?_;repeat' first|simp only[*,go_sem]|apply orR|(apply sp<;>intro hc)|refine WN ?_|refine kP hg ?_
 all_goals first|exact⟨rfl,⟨_,rfl⟩,hK⟩|exact⟨rfl,[],(Qh _).symm⟩|exact⟨rfl,⟨_,rfl⟩⟩
theorem Aao(hg:Ee g=true)(hi:Bv i 0 (g.AE-1)=true)(hK:K (nS (uw g+2* i)) H):AF Qb 28 [.agg [nS g.AI,nS g.AE,nS g.AB],nS i] H K:=by
 have:=Hb hg
 have hb:=BX.1 hi
 have e0:IntKind.wrap .i64 (g.AE-1)=g.AE-1:=w64 (by omega) (by omega)
 have e1:IntKind.wrap .i64 (2* i)=2* i:=w64 (by omega) (by omega)
 have e2:IntKind.wrap .i64 (uw g+2* i)=uw g+2* i:=by unfold uw;exact w64 (by omega) (by omega)
 clear this hb
 refine AF.tidy ?_
 refine Aa ok28 ?_;repeat' first|simp only[*,go_sem]|apply orR|(apply sp<;>intro hc)|refine WN ?_|refine Oo ?_|refine eL hg ?_
 all_goals first|exact⟨rfl,⟨_,rfl⟩,hK⟩|exact⟨rfl,[],(Qh _).symm⟩|exact⟨rfl,⟨_,rfl⟩⟩
theorem m5(hg:Ee g=true)(hi:Bv i 0 (g.AB-1)=true)(hK:K (nS (ul g+8* i)) H):AF Qb 29 [.agg [nS g.AI,nS g.AE,nS g.AB],nS i] H K:=by
 have:=Hb hg
 have hb:=BX.1 hi
 have e0:IntKind.wrap .i64 (g.AB-1)=g.AB-1:=w64 (by omega) (by omega)
 have e1:IntKind.wrap .i64 (8* i)=8* i:=w64 (by omega) (by omega)
 have e2:IntKind.wrap .i64 (ul g+8* i)=ul g+8* i:=by unfold ul uw;exact w64 (by omega) (by omega)
 clear this hb
 refine AF.tidy ?_
 refine Aa ok29 ?_;repeat' first|simp only[*,go_sem]|apply orR|(apply sp<;>intro hc)|refine WN ?_|refine Oo ?_|refine cw hg ?_
 all_goals first|exact⟨rfl,⟨_,rfl⟩,hK⟩|exact⟨rfl,[],(Qh _).symm⟩|exact⟨rfl,⟨_,rfl⟩⟩
theorem superL_u(hg:Ee g=true)(b0:0<=b)(b1:b<2^64):U64s (vM g b):=by
 have:=Hb hg
 intro w hw
 simp only[vM,List.mem_cons,List.not_mem_nil,or_false]at hw
 rcases hw with rfl|rfl|rfl|rfl|rfl|rfl|rfl<;>omega
theorem wK{o:Nat}{f:Bool}(ho:H[o]?=some (.AU 1 [[nT 8243106252149764145],[nT g.AI],[nT g.AE],[nT g.AB],[nT b],[nT 0],[nT 0]] false))(hu:U64s (vM g b))(hK:K (cxV (vd (vM g b)).1 (vd (vM g b)).2) H):
 AF Qb 114 [.slice o 7 0 7 f] H K:=Spin_spec (l:=vM g b) ho hu (show 7<=100000 by decide) hK
theorem gS(hg:Ee g=true)(b0:0<=b)(b1:b<2^64)(hK:K (.slice H.length 8 0 8 false) (H++[.AU 1 (Cc (uj g b)) false])):
 AF Qb 66 [.agg [nS g.AI,nS g.AE,nS g.AB,nT b]] H K:=by
 have hb:=Hb hg
 have w1:IntKind.wrap .u64 g.AI=g.AI:=HM (by omega) (by omega)
 have w2:IntKind.wrap .u64 g.AE=g.AE:=HM (by omega) (by omega)
 have w3:IntKind.wrap .u64 g.AB=g.AB:=HM (by omega) (by omega)
 have hs:=oP (l:=vM g b) (k:=7)
 rw[show(vM g b).take 7=vM g b from rfl]at hs
 have hu:=superL_u hg b0 b1
 clear hb b0 b1
 refine AF.gc ?_
 refine Aa ok66 ?_;repeat' first|simp only[*,go_sem]|apply orR|(apply sp<;>intro hc)|refine WN ?_|refine wK (by first|exact BH|exact Bb rfl) hu ?_|refine Word_spec hs.1 hs.2.1 hs.2.2.1 hs.2.2.2 ?_
 exact Gc.slice (i:=3) rfl (Ka (l:=uj g b)) hK
end
end Go.Proofs.YtohgndhnndeijaaGreat.Ax
namespace Go.Ax.M
open Go Go.Ax
def cl:List (Nat×Nat):=[(0,8),(8,8),(16,8),(24,8),(32,8)]
theorem byteF_ok:aE cl:=⟨by decide,by decide⟩
def cr:List (Nat×Nat):=[(0,16),(16,16),(32,16)]
theorem pairF_ok:aE cr:=⟨by decide,by decide⟩
def mm(t:AN):Int:=bif t.full then 1 else 0
def thV1(t:AN):List Int:=[t.ty,t.bits,t.base,mm t,t.from_]
def thV2(t:AN):List Int:=[t.size,t.used,t.BF]
theorem p2_2{b:Int}(h0:1<=b)(h:b<=4):2<=p2 b:=by
 have:b=1\/b=2\/b=3\/b=4:=by omega
 rcases this with rfl|rfl|rfl|rfl<;>simp[p2]
theorem gf{t:AN}(h:BB t=true):(0<=t.ty/\t.ty<=5)/\(0<=t.bits/\t.bits<=4)/\(0<=t.base/\t.base<=96)/\(0<=t.from_/\t.from_<=96)/\(0<=t.size/\t.size<=4096)/\(0<=t.used/\t.used<=4096)/\(0<=t.BF/\t.BF<=65535):=by
 obtain⟨ty,bits,base,size,used,from_,BF,full,word,d0,d1,d2,d3⟩:=t
 simp only[BB,Qt]at h
 obtain⟨h1,h2⟩:=h
 have e:=h1
 simp only[F4,Qt,decide_eq_true_eq]at e
 clear h1
 simp only at h2 ⊢
 by_cases e1:ty=1
 ·simp[DI,AN.zero,e1]at e h2
  simp[Bv]at h2;omega
 by_cases e2:ty=2
 ·simp[DI,AN.zero,e2]at e h2
  simp[Bv]at h2
  have:=p2_2 h2.1.1 h2.1.2
  omega
 by_cases e3:ty=3
 ·simp[DI,AN.zero,e3]at e h2
  simp[Bv]at h2
  cases full<;>simp at e<;>omega
 by_cases e4:ty=4
 ·simp[DI,AN.zero,e4]at e;omega
 by_cases e5:ty=5
 ·simp[DI,AN.zero,e5]at e;omega
 simp[DI,AN.zero,e1,e2,e3,e4,e5]at e
 omega
theorem thV1_ok{t:AN}(h:BB t=true):∀k,k<cl.length->0<=(thV1 t).getD k 0/\(thV1 t).getD k 0<2^(cl.getD k (0,0)).2:=by
 intro k hk
 have:=gf h
 have hk:k<5:=hk
 have hf:0<=mm t/\mm t<=1:=by unfold mm;cases t.full<;>simp
 rcases k with _|_|_|_|_|k
 all_goals first|omega|(simp[thV1,cl];omega)
theorem thV2_ok{t:AN}(h:BB t=true):∀k,k<cr.length->0<=(thV2 t).getD k 0/\(thV2 t).getD k 0<2^(cr.getD k (0,0)).2:=by
 intro k hk
 have:=gf h
 have hk:k<3:=hk
 rcases k with _|_|_|k
 all_goals first|omega|(simp[thV2,cr];omega)
def thW1(t:AN):Int:=t.ty+t.bits* 256+t.base* 65536+mm t* 16777216+t.from_* 4294967296
def thW2(t:AN):Int:=t.size+t.used* 65536+t.BF* 4294967296
theorem thV1_put{t:AN}:MF cl (thV1 t) cl.length=thW1 t:=by simp[MF,cl,thV1,thW1]
theorem thV2_put{t:AN}:MF cr (thV2 t) cr.length=thW2 t:=by simp[MF,cr,thV2,thW2]
end Go.Ax.M
namespace Go.Proofs.YtohgndhnndeijaaGreat.Ax
open Go Go.Ax Go.Ax.M
section
variable {H:AP}{K:AH->AP->Prop}{t:AN}
theorem KM(h:K (.slice H.length 3 0 3 true) (H++[.AU 2 (HP cr) false])):AF Qb 119 [] H K:=by
 refine AF.gc ?_
 refine Aa ok119 ?_;(try simp only[go_sem]);repeat' ((first|apply orR|(apply sp<;>intro hc)|fail)<;>try simp only[*,go_sem])
 exact Gc.slice (i:=0) rfl (by decide) h
theorem wu(h:K (.slice H.length 5 0 5 false) (H++[.AU 2 (HP cl) false])):AF Qb 118 [] H K:=by
 have w0:IntKind.wrap .i64 0=0:=by decide
 have w1:IntKind.wrap .i64 1=1:=by decide
 have w2:IntKind.wrap .i64 2=2:=by decide
 have w3:IntKind.wrap .i64 3=3:=by decide
 have w4:IntKind.wrap .i64 4=4:=by decide
 have w5:IntKind.wrap .i64 5=5:=by decide
 have w8:IntKind.wrap .i64 8=8:=by decide
 have w16:IntKind.wrap .i64 16=16:=by decide
 have w24:IntKind.wrap .i64 24=24:=by decide
 have w32:IntKind.wrap .i64 32=32:=by decide
 have l0:((0:Int)<5)=True:=eq_true (by decide)
 have l1:((1:Int)<5)=True:=eq_true (by decide)
 have l2:((2:Int)<5)=True:=eq_true (by decide)
 have l3:((3:Int)<5)=True:=eq_true (by decide)
 have l4:((4:Int)<5)=True:=eq_true (by decide)
 have l5:((5:Int)<5)=False:=eq_false (by decide)
 refine AF.gc ?_
 refine Aa ok118 ?_;repeat' first|simp only[*,go_sem]|apply orR|(apply sp<;>intro hc)|fail
 refine AK.Az [3,1] ?_;simp only[mpC,go_sem]
 refine AK.unfold ?_
 repeat' first|simp only[*,AA b118_2.eq_1,go_sem]|apply orR|(apply sp<;>intro hc)|fail
 refine AK.unfold ?_
 repeat' first|simp only[*,AA b118_2.eq_1,go_sem]|apply orR|(apply sp<;>intro hc)|fail
 refine AK.unfold ?_
 repeat' first|simp only[*,AA b118_2.eq_1,go_sem]|apply orR|(apply sp<;>intro hc)|fail
 refine AK.unfold ?_
 repeat' first|simp only[*,AA b118_2.eq_1,go_sem]|apply orR|(apply sp<;>intro hc)|fail
 refine AK.unfold ?_
 repeat' first|simp only[*,AA b118_2.eq_1,go_sem]|apply orR|(apply sp<;>intro hc)|fail
 refine AK.unfold ?_
 (try simp only[l5,AA b118_2.eq_1,go_sem]);repeat' ((first|apply orR|(apply sp<;>intro hc)|fail)<;>try simp only[*,AA b118_2.eq_1,go_sem])
 exact Gc.slice (i:=1) rfl (by decide) h
theorem put_full{b:Bool}(hb:t.full=b){o p:Nat}{fl fp ro rp:Bool}(hg:BB t=true)(ho:H[o]?=some (.AU 2 (HP cl) ro))(hp:H[p]?=some (.AU 1 [[nT t.ty],[nT t.bits],[nT t.base],[nT (bif b then 1 else 0)],[nT t.from_]] rp))
 (hK:K (.Bj [nT (thW1 t),.bool true]) H):AF Qb 116 [.slice o 5 0 5 fl,.slice p 5 0 5 fp] H K:=by
 refine Ni (F:=cl) (v:=thV1 t) byteF_ok ho (by subst hb;exact hp) rfl (thV1_ok hg) ?_
 rw[thV1_put];exact hK
theorem put_pairs{o p:Nat}{fl fp ro rp:Bool}(hg:BB t=true)(ho:H[o]?=some (.AU 2 (HP cr) ro))(hp:H[p]?=some (.AU 1 [[nT t.size],[nT t.used],[nT t.BF]] rp))
 (hK:K (.Bj [nT (thW2 t),.bool true]) H):AF Qb 116 [.slice o 3 0 3 fl,.slice p 3 0 3 fp] H K:=by
 refine Ni (F:=cr) (v:=thV2 t) pairF_ok ho hp rfl (thV2_ok hg) ?_
 rw[thV2_put];exact hK
theorem hO(hg:BB t=true)(hK:K (.slice H.length 8 0 8 false) (H++[.AU 1 (Cc (vE t)) false])):AF Qb 68 [.agg t.cells] H K:=by
 have hi:=gf hg
 obtain⟨i1,i2,i3,i4,i5,i6,i7⟩:=hi
 have w1:IntKind.wrap .u64 t.ty=t.ty:=HM (by omega) (by omega)
 have w2:IntKind.wrap .u64 t.bits=t.bits:=HM (by omega) (by omega)
 have w3:IntKind.wrap .u64 t.base=t.base:=HM (by omega) (by omega)
 have w4:IntKind.wrap .u64 t.from_=t.from_:=HM (by omega) (by omega)
 have w5:IntKind.wrap .u64 t.size=t.size:=HM (by omega) (by omega)
 have w6:IntKind.wrap .u64 t.used=t.used:=HM (by omega) (by omega)
 have w7:IntKind.wrap .u64 t.BF=t.BF:=HM (by omega) (by omega)
 clear i1 i2 i3 i4 i5 i6 i7
 unfold AN.cells
 refine AF.gc ?_
 have key:∀b,t.full=b->BB ⟨t.ty,t.bits,t.base,t.size,t.used,t.from_,t.BF,b,t.word,t.d0,t.d1,t.d2,t.d3⟩=true:=λb hb=>by subst hb;exact hg
 cases hf:t.full
 all_goals (
  have hgf:=key _ hf
  have hgH:Hid (BB t=true):=hg
  have hfH:Hid (t.full=_):=hf
  clear key hg
  refine Aa ok68 ?_;repeat' first|simp only[*,go_sem]|apply orR|(apply sp<;>intro hc)|refine Nm ?_|refine wu ?_|refine KM ?_|refine put_full hfH hgH (by first|exact BH|exact Bb rfl) (by first|exact BH|exact Bb rfl) ?_|refine put_pairs hgH (by first|exact BH|exact Bb rfl) (by first|exact BH|exact Bb rfl) ?_
  exact Gc.slice (i:=7) rfl (Ka (l:=vE t)) hK)
end
end Go.Proofs.YtohgndhnndeijaaGreat.Ax
namespace Go.Ax.M
open Go Go.Ax
theorem set_at2{H G:AP}{a b c y:Au}:(H++a::b::c::G).set (H.length+2) y=H++a::b::y::G:=by
 rw[Qj _ _ (by omega),show H.length+2-H.length=2 by omega];rfl
end Go.Ax.M
namespace Go.Proofs.YtohgndhnndeijaaGreat.Ax
open Go Go.Ax Go.Ax.M
section
variable {H:AP}{K:AH->AP->Prop}{s:State}{oS oT:Nat}{rS rT fS fT:Bool}{b:Int}
theorem UP{k:Nat}(hI:Inv s)(hk:k<s.AE.length)(hK:K (nS ((cg s+2* k:Nat):Int)) H):AF Qb 28 [.agg [nS s.AS.AI,nS s.AS.AE,nS s.AS.AB],nS (k:Int)] H K:=by
 have:=hI.Mn
 refine Aao hI.AS (BX.2 ⟨by omega,by omega⟩) ?_
 rw[sa_eq hI];exact hK
theorem thing_at{k:Nat}(hI:Inv s)(hk:k<s.AB.length)(hK:K (nS ((kq s+8* k:Nat):Int)) H):AF Qb 29 [.agg [nS s.AS.AI,nS s.AS.AE,nS s.AS.AB],nS (k:Int)] H K:=by
 have:=hI.ME
 refine m5 hI.AS (BX.2 ⟨by omega,by omega⟩) ?_
 rw[ta_eq hI];exact hK
theorem copy_at(hI:Inv s)(hK:K (nS (nC s:Int)) H):AF Qb 31 [.agg [nS s.AS.AI,nS s.AS.AE,nS s.AS.AB]] H K:=by
 refine kP hI.AS ?_
 rw[c_eq hI];exact hK
theorem w9{c:Bh}(hg:Bq c=true)(hK:K (.Bj [nT (Hv c),.bool true]) H):AF Qb 67 [.agg [nS c.ty,nS c.th,nS c.ri,nS c.ba]] H K:=SK (c:=c) hg hK
theorem pS{t:AN}(hg:BB t=true)(hK:K (.slice H.length 8 0 8 false) (H++[.AU 1 (Cc (vE t)) false])):AF Qb 68 [.agg [nS t.ty,nS t.bits,nS t.base,nS t.size,nS t.used,nS t.from_,nS t.BF,.bool t.full,nT t.word,nT t.d0,nT t.d1,nT t.d2,nT t.d3]] H K:=hO (t:=t) hg hK
theorem up_in{k:Nat}(hI:Inv s)(hk:k<s.AE.length):-1<=(s.slot k).up/\(s.slot k).up<=96:=by
 have h1:=Hb hI.AS
 have h2:=hI.Mn
 cases h:Aq (s.slot k).cap with
 |true=>have:=hI.SX k hk h;omega
 |false=>
  have:=hI.up k hk (by simpa [State.B8] using h)
  omega
theorem gE(hS:jI H oS s rS)(hT:jU H oT s rT)(hI:Inv s)(b0:0<=b)(b1:b<2^64)
 (hK:K (.slice H.length (nC s+8) 0 (nC s+8) true) (H++[.AU 1 (Cc (iB s b)) false])):AF Qb 23 [stA s oS oT fS fT,nT b] H K:=by
 have kT:=AL.of hT
 have kS:=AL.of hS
 have hg:=D8.2 hI
 obtain⟨n,en⟩:∃n,n=nC s+8:=⟨_,rfl⟩
 have hn:=nC_le hI
 have m0:IntKind.wrap .i64 (((uu s.AS).tdiv 8+1)* 8)=(n:Int):=by
  rw[rows_eq hI,en];exact w64 (by omega) (by omega)
 have m1:((n:Int)* 8<=140737488355328)=True:=eq_true (by omega)
 have m2:((n:Int)<=9223372036854775807)=True:=eq_true (by omega)
 have t1:QC 8 (Cc (uj s.AS b))=Cc (uj s.AS b):=rfl
 have t2:QC n (Cc (uj s.AS b))=Cc (uj s.AS b):=Qk (by rw[cX,nA];omega)
 have t3:n-nC s=8:=by omega
 have t4:(((nC s:Nat):Int)<=(n:Int))=True:=eq_true (by omega)
 have t5:(nC s<=n)=True:=eq_true (by omega)
 have q1:Fh (Qa n [nT 0]) 0 (Cc (uj s.AS b))=Cc (uj s.AS b++Qa (nC s) 0):=by rw[en];exact im_first
 have q2:=im_back (s:=s) (b:=b)
 have l1:(uj s.AS b).length=8:=rfl
 have l2:(uj s.AS b++Qa (nC s) (0:Int)).length=n:=by rw[Qe,l1,Qg];omega
 have l3:∀k,k<=s.AE.length->(vn s b k).length=n:=λk h=>by rw[imS_len h,en]
 have l4:∀k,k<=s.AB.length->(imT s b k).length=n:=λk h=>by rw[imT_len h,en]
 rw[<-en]at hK
 have en':Hid (n=nC s+8):=en
 have hn':Hid (nC s<=20000):=hn
 have l3':Hid (∀k,k<=s.AE.length->(vn s b k).length=n):=l3
 have l4':Hid (∀k,k<=s.AB.length->(imT s b k).length=n):=l4
 clear hn en l3 l4
 refine AF.gc ?_
 refine Aa ok23 ?_;repeat' first|simp only[*,AX,Qo,Qg,cX,go_sem]|apply orR|(apply sp<;>intro hc)|refine AW (kS _) (kT _) ?_|refine ka hI.AS ?_|refine gS hI.AS b0 b1 ?_|refine copy_at hI ?_
 refine AK.Az [38,2,5,6,36,37] ?_;simp only[mpC,go_sem]
 refine AK.acc (α:=AP) (λk G=>[(38,nS (k:Int))]) (λk G=>H++(_::_:: .AU 1 (Cc (vn s b k)) false::_::G)) (λk G=>True) s.AE.length ?_ (a0:=[]) trivial
 ·intro k G hk _ next
  refine AK.Jn λW hW=> ?_
  have kX:=hW.Hy
  have kG:=hW.Hx
  have kX0:=kX.at
  have kG0:=kG.at
  have kS:=kS.ex hW.ex
  have kS0:=kS.at
  have kXs:=λL y=>kX.set L y
  have kXo:=λL y=>kX.FV y L
  have kX2:=λL y z=>kX.OR (i:=H.length+2) L y z
  have hmax:s.AE.length<=96:=by have:=Hb hI.AS;have:=hI.Mn;omega
  have hw:=AY (k:=k) (by omega)
  refine AK.unfold ?_
  by_cases hkS:k<s.AE.length
  ·have hgs:=A4 hkS
   have hc:=hI.Ib k hkS
   have hup:=up_in hI hkS
   have en:n=nC s+8:=en'
   have hn:nC s<=20000:=hn'
   have hsum:cg s+2* k+1<n:=by simp only[nC,kq]at en;omega
   have a1:IntKind.wrap .i64 (((cg s+2* k:Nat):Int)+1)=((cg s+2* k+1:Nat):Int):=by rw[w64 (by omega) (by omega)];omega
   have a2:(((cg s+2* k:Nat):Int)<(n:Int))=True:=eq_true (by omega)
   have a3:(((cg s+2* k+1:Nat):Int)<(n:Int))=True:=eq_true (by omega)
   have a4:(cg s+2* k<n)=True:=eq_true (by omega)
   have a5:(cg s+2* k+1<n)=True:=eq_true (by omega)
   have u1:IntKind.wrap .i64 ((s.slot k).up+1)=(s.slot k).up+1:=w64 (by omega) (by omega)
   have u2:IntKind.wrap .u64 ((s.slot k).up+1)=(s.slot k).up+1:=HM (by omega) (by omega)
   have hl:(vn s b k).length=n:=l3' k (by omega)
   have g1:=M0 (l:=vn s b k) (k:=cg s+2* k) (by omega)
   have g2:=λx=>M0 (l:=(vn s b k).set (cg s+2* k) x) (k:=cg s+2* k+1) (by rw[Qp];omega)
   have hst:=imS_step (b:=b) hkS
   have hst':Hid (_=_):=hst
   clear hst en hn hsum hup
   repeat' first|simp only[*,cX,G3,Qp,AA b23_5.eq_1,AR,AX,apC,go_sem]|apply orR|(apply sp<;>intro hc)|refine UP hI hkS ?_|refine w9 hc ?_
   have hW:W=_:=hW
   subst hW
   simp only[set_at2,Qc,Qf,show _=_ from hst']
   (refine AK.Az [38,2,5,6,36,37] ?_;simp only[mpC,go_sem];refine next _ hkS trivial)
  ·have e:k=s.AE.length:=by omega
   subst e
   have kB0:=hW.EQ.at
   repeat' first|simp only[*,AA b23_5.eq_1,AR,AX,apC,go_sem]|apply orR|(apply sp<;>intro hc)|fail
   have hW:W=_:=hW
   clear next kX kG kX0 kG0 kS kS0 kXs kXo kX2 kB0
   subst hW
   rw[imT_0]
   refine AK.Az [67,5,6,65,66] ?_;simp only[mpC,go_sem]
   refine AK.acc (α:=AP) (λk G=>[(67,nS (k:Int))]) (λk G=>H++(_::_:: .AU 1 (Cc (imT s b k)) false::_::G)) (λk G=>True) s.AB.length ?_ (a0:=G) trivial
   clear hk hw hkS hmax
   intro k G hk _ next
   refine AK.Jn λW hW=> ?_
   have kX:=hW.Hy
   have kG:=hW.Hx
   have kX0:=kX.at
   have kG0:=kG.at
   have kT:=kT.ex hW.ex
   have kT0:=kT.at
   have kXs:=λL y=>kX.set L y
   have kXo:=λL y=>kX.FV y L
   have hmax:s.AB.length<=48:=by have:=Hb hI.AS;have:=hI.ME;omega
   have hw:=AY (k:=k) (by omega)
   refine AK.unfold ?_
   by_cases hkS:k<s.AB.length
   ·have hgs:=BI hkS
    have hc:=hI.BB k hkS
    have en:n=nC s+8:=en'
    have hn:nC s<=20000:=hn'
    have hsum:kq s+8* k+8<=n:=by simp only[nC]at en;omega
    have a2:(((kq s+8* k:Nat):Int)<=(n:Int))=True:=eq_true (by omega)
    have a4:(kq s+8* k<=n)=True:=eq_true (by omega)
    have t8:QC 8 (Cc (vE (s.AG k)))=Cc (vE (s.AG k)):=rfl
    have t9:QC (n-(kq s+8* k)) (Cc (vE (s.AG k)))=Cc (vE (s.AG k)):=Qk (by rw[cX,show(vE (s.AG k)).length=8 from rfl];omega)
    have t7:(vE (s.AG k)).length=8:=rfl
    have hl:(imT s b k).length=n:=l4' k (by omega)
    have hl2:(imT s b (k+1)).length=n:=l4' (k+1) (by omega)
    have hst:=imT_step (b:=b) hkS
    clear en hn hsum
    repeat' first|simp only[*,cX,Qp,AA b23_8.eq_1,AR,AX,apC,go_sem]|apply orR|(apply sp<;>intro hc)|refine thing_at hI hkS ?_|refine pS hc ?_
    have hW:W=_:=hW
    subst hW
    simp only[set_at2,Qc,Qf]
    (refine AK.Az [67,5,6,65,66] ?_;simp only[mpC,go_sem];refine next _ hkS trivial)
   ·have e:k=s.AB.length:=by omega
    subst e
    repeat' first|simp only[*,AA b23_8.eq_1,AR,AX,apC,go_sem]|apply orR|(apply sp<;>intro hc)|fail
    have hW:W=_:=hW
    subst hW
    rw[imT_end]
    exact Gc.slice (i:=2) rfl Ka hK
end
end Go.Proofs.YtohgndhnndeijaaGreat.Ax
namespace Go.Ax.M
open Go Go.Ax
def wrC(l:List Wr):List (List AH):=l.map λx=>[nS x.1,nT x.2]
@[go_sem] theorem wrC_length {l:List Wr}:(wrC l).length=l.length:=by simp[wrC]
theorem wrC_get{l:List Wr}{k:Nat}(h:k<l.length):(wrC l)[k]?=some [nS (l.getD k (0,0)).1,nT (l.getD k (0,0)).2]:=by simp[wrC,h,Qq]
theorem wrC_plain{l:List Wr}:∀x∈wrC l,∀a∈x,a.plain=true:=by
 intro x hx a ha
 obtain⟨n,-,rfl⟩:=List.mem_map.1 hx
 simp at ha;rcases ha with rfl|rfl<;>rfl
theorem iL{l:List Wr}{x y:Int}:wrC l++[[nS x,nT y]]=wrC (l++[(x,y)]):=by simp[wrC]
theorem bd{s:State}{b:Int}:(iB s b).length=nC s+8:=by rw[<-imT_end,imT_len (Qv _)]
theorem set_at4{H G:AP}{a b c d e y:Au}:(H++a::b::c::d::e::G).set (H.length+4) y=H++a::b::c::d::y::G:=by
 rw[Qj _ _ (by omega),show H.length+4-H.length=4 by omega];rfl
theorem AL.up{H W:AP}{o:Nat}{x:Au}(h:H[o]?=some x)(hw:Ex H W):AL W o x:=(AL.of h).ex hw
end Go.Ax.M
namespace Go.Ax
theorem Gc.tup1{H L:AP}{K:AH->AP->Prop}{i n s:Nat}{f ro:Bool}{xs:List (List AH)}{l:List AH}(hi:L[i]?=some (.AU s xs ro))(hp:∀x∈xs,∀a∈x,a.plain=true)(hl:∀a∈l,a.plain=true:=by simp[AH.plain])(h:K (.Bj (.slice H.length n 0 n f::l)) (H++[.AU s xs ro])):
 Gc H K (.Bj (.slice (H.length+i) n 0 n f::l)) (H++L):=
 ⟨[i],L,[.AU s xs ro],_,rfl,Tf.one hi (.plain hp),⟨_,rfl,_,_,rfl,⟨H.length,rfl,.inr ⟨i,0,rfl,rfl,rfl⟩⟩,CY.refl (EF hl)⟩,h⟩
end Go.Ax
namespace Go.Proofs.YtohgndhnndeijaaGreat.Ax
open Go Go.Ax Go.Ax.M
section
variable {H:AP}{K:AH->AP->Prop}{s u:State}{oS oT oS2 oT2:Nat}{rS rT fS fT rS2 rT2 fS2 fT2:Bool}{b:Int}
theorem G2{n:Nat}(hn:nC s+8=n)(hS:jI H oS s rS)(hT:jU H oT s rT)(hI:Inv s)(b0:0<=b)(b1:b<2^64)
 (hK:K (.slice H.length n 0 n true) (H++[.AU 1 (Cc (iB s b)) false])):AF Qb 23 [stA s oS oT fS fT,nT b] H K:=by
 subst hn;exact gE hS hT hI b0 b1 hK
theorem LQ(hS:jI H oS s rS)(hT:jU H oT s rT)(hg:BN s=false)
 (hK:K (.lit (.slice none 0 0)) H):AF Qb 23 [stA s oS oT fS fT,nT b] H K:=by
 have kT:=AL.of hT
 have kS:=AL.of hS
 refine AF.tidy ?_
 refine Aa ok23 ?_;repeat' first|simp only[*,go_sem]|apply orR|(apply sp<;>intro hc)|refine AW (kS _) (kT _) ?_
 all_goals first|exact⟨rfl,⟨_,rfl⟩,hK⟩|exact⟨rfl,[],(Qh _).symm⟩|exact⟨rfl,⟨_,rfl⟩⟩
set_option maxRecDepth 10000 in
set_option maxHeartbeats 1000000 in
theorem L0(hS:jI H oS s rS)(hT:jU H oT s rT)
 (hS2:jI H oS2 u rS2) (cT:jU H oT2 u rT2) (hI:Inv s) (hI2:Inv u) (hg:s.AS=u.AS)
 (h:600<(iA 0 (iB s 0) (iB u 0)).length->K (.Bj [.lit (.slice none 0 0),nS 10]) H)
 (h':(iA 0 (iB s 0) (iB u 0)).length<=600->K (.Bj [.slice H.length (iA 0 (iB s 0) (iB u 0)).length 0 (iA 0 (iB s 0) (iB u 0)).length false,nS 0]) (H++[.AU 2 (wrC (iA 0 (iB s 0) (iB u 0))) false])):
 AF Qb 21 [stA s oS oT fS fT,stA u oS2 oT2 fS2 fT2] H K:=by
 have kT:=AL.of hT
 have kS:=AL.of hS
 have kT2:=AL.of cT
 have kS2:=AL.of hS2
 obtain⟨n,en⟩:∃n,nC s+8=n:=⟨_,rfl⟩
 have hn:=nC_le hI
 have en2:nC u+8=n:=by
  have h1:=c_eq hI
  have h2:=c_eq hI2
  rw[hg]at h1;omega
 have lX:(iB s 0).length=n:=by rw[bd,en]
 have lY:(iB u 0).length=n:=by rw[bd,en2]
 have g1:(s.AS.AI=u.AS.AI)=True:=eq_true (by rw[hg])
 have g2:(s.AS.AE=u.AS.AE)=True:=eq_true (by rw[hg])
 have g3:(s.AS.AB=u.AS.AB)=True:=eq_true (by rw[hg])
 have n1:(n=0)=False:=eq_false (by omega)
 have n2:((n:Int)=0)=False:=eq_false (by omega)
 have b1:(0:Int)<2^64:=by decide
 have hnn:n<=20008:=by omega
 have hnn':Hid (n<=20008):=hnn
 have enH:Hid (nC s+8=n):=en
 have en2H:Hid (nC u+8=n):=en2
 have lXH:Hid ((iB s 0).length=n):=lX
 have lYH:Hid ((iB u 0).length=n):=lY
 have hgH:Hid (s.AS=u.AS):=hg
 clear hn en en2 lX lY hnn hg
 refine AF.gc ?_
 refine Aa ok21 ?_;repeat' first|simp only[*,go_sem]|refine orR ?_|(refine sp ?_ ?_<;>intro hc)|refine G2 enH (kS _) (kT _) hI (Qo _) b1 ?_|refine G2 en2H (kS2 _) (kT2 _) hI2 (Qo _) b1 ?_
 refine AK.Az [8,32,6,30,31] ?_;simp only[mpC,go_sem]
 refine AK.lay 2 ?_
 simp only[go_sem]
 obtain⟨D,eD⟩:∃D:Nat->List Wr,∀k,D k=iA 0 ((iB s 0).take k) ((iB u 0).take k):=⟨_,λ_=>rfl⟩
 have eDn:D n=iA 0 (iB s 0) (iB u 0):=by
  rw[eD,Qk (QF lXH),Qk (QF lYH)]
 have eD0:D 0=[]:=by rw[eD];rfl
 have eDs:∀k,k<n->D (k+1)=D k++bif decide ((iB s 0).getD k 0=(iB u 0).getD k 0)then[]else[((k:Int),(iB u 0).getD k 0)]:=λk hk=>by
  rw[eD,eD];exact vS (by rw[show(iB s 0).length=n from lXH];exact hk) (by rw[show(iB u 0).length=n from lYH];exact hk)
 have eDl:∀k,(D k).length<=k:=λk=>by
  have:=vP (x:=(iB s 0).take k) (y:=(iB u 0).take k) (k:=0)
  rw[<-eD,Qm]at this;omega
 rw[<-eDn]at h h'
 clear eDn eD0
 refine AK.acc (α:=AP) (λk G=>[(8,.slice (H.length+4) (iA 0 ((iB s 0).take k) ((iB u 0).take k)).length 0 (iA 0 ((iB s 0).take k) ((iB u 0).take k)).length false),(32,nS (k:Int))]) (λk G=>H++(_::_::_::_:: .AU 2 (wrC (iA 0 ((iB s 0).take k) ((iB u 0).take k))) false::G)) (λk G=>True) n ?_ (a0:=[]) trivial
 intro k G hk _ next
 simp only[<-eD]at next ⊢
 clear eD
 refine AK.Jn λW hW=> ?_
 have kx:=hW.Hy
 have ky:=hW.NS
 have ko:=hW.n6
 have kx0:=kx.at
 have ky0:=ky.at
 have ko0:=ko.at
 have kos:=ko.set
 have hdl:=eDl k
 have hnn:n<=20008:=hnn'
 have hb:(((D k).length+1)* 16<=140737488355328)=True:=eq_true (by omega)
 have hw:=AY (k:=k) (by omega)
 have lX:(iB s 0).length=n:=lXH
 have lY:(iB u 0).length=n:=lYH
 refine AK.unfold ?_
 by_cases hkn:k<n
 ·have gx:=M0 (l:=iB s 0) (k:=k) (by omega)
  have gy:=M0 (l:=iB u 0) (k:=k) (by omega)
  have ds:=eDs k hkn
  clear eDs eDl hdl hnn
  generalize (iB s 0).getD k 0=x at*
  generalize (iB u 0).getD k 0=y at*
  have dsH:Hid (_=_):=ds
  clear ds
  repeat' first|simp only[*,AA b21_4.eq_1,cX,iL,AR,AX,apC,go_sem]|refine orR ?_|(refine sp ?_ ?_<;>intro hc)|fail
  case' refine_1=>
   have e:D (k+1)=D k++[((k:Int),y)]:=by rw[show D (k+1)=_ from dsH,decide_eq_false ‹_›];rfl
  case' refine_2=>
   have e:D (k+1)=D k:=by rw[show D (k+1)=_ from dsH,decide_eq_true ‹_›,cond_true,Qh]
  all_goals
   have hW:W=_:=hW
   subst hW
   simp only[e,Qe,Qu,QD,QA]at next
   try simp only[set_at4,Qc,Qf,iL]
   (refine AK.Az [8,32,6,30,31] ?_;simp only[mpC,go_sem];refine next _ hkn trivial)
 ·have e:k=n:=by omega
  subst e
  clear eDs eDl hdl hnn next
  repeat' first|simp only[*,AA b21_4.eq_1,AR,AX,apC,go_sem]|refine orR ?_|(refine sp ?_ ?_<;>intro hc)|fail
  all_goals
   have hW:W=_:=hW
   subst hW
  ·exact Gc.Cd (by simp[AH.refs,Ay]) (h (by omega))
  ·exact Gc.tup1 (i:=4) rfl wrC_plain (by simp[AH.plain]) (h' (by omega))
end
end Go.Proofs.YtohgndhnndeijaaGreat.Ax
namespace Go.Ax.M
open Go Go.Ax
theorem wPut_len{l:List Int}{x:Wr}:(vR l x).length=l.length:=by
 unfold vR;cases decide (0<=x.1)&&decide (x.1<(l.length:Int))<;>simp
theorem wDo_len{w:List Wr}:∀{l:List Int},(vV l w).length=l.length:=by
 induction w with
 |nil=>intro l;rfl
 |cons x w ih=>intro l;rw[show vV l (x::w)=vV (vR l x) w from rfl,ih,wPut_len]
theorem wDo_succ{l:List Int}{w:List Wr}{k:Nat}(h:k<w.length):vV l (w.take (k+1))=vR (vV l (w.take k)) (w.getD k (0,0)):=by
 rw[Qd h,vV,Qr]
 simp[vV,Qq,h]
theorem set_at0{H G:AP}{a y:Au}:(H++a::G).set H.length y=H++y::G:=by
 rw[Qj _ _ (Qv _),Qz];rfl
end Go.Ax.M
namespace Go.Proofs.YtohgndhnndeijaaGreat.Ax
open Go Go.Ax Go.Ax.M
section
variable {H:AP}{K:AH->AP->Prop}{s u:State}{o o':Nat}{ro ro' f f':Bool}{b:Int}{l:List Int}{w:List Wr}
theorem sL(h1:H[o]?=some (.AU 1 (Cc l) ro))(hl:l.length<=100000)(h0:0<l.length)
 (h:K (.slice H.length l.length 0 l.length false) (H++[.AU 1 (Cc l) false])):AF Qb 63 [.slice o l.length 0 l.length f] H K:=by
 have hn:(l.length=0)=False:=eq_false (by omega)
 have he:(Cc l=[])=False:=eq_false (by intro e;have:=congrArg List.length e;simp[Cc]at this;rw[this]at h0;exact absurd h0 (by simp))
 have hb:(0+l.length)* 8<=140737488355328:=by omega
 have hb2:l.length* 8<=140737488355328:=by omega
 have k1:=AL.of h1
 have ht:(Cc l).take l.length=Cc l:=by rw[Qk (by simp[Cc])]
 refine AF.gc ?_
 refine Aa ok63 ?_;(try simp only[hn,he,hb,hb2,h1,k1,ht,go_sem]);repeat' ((first|apply orR|(apply sp<;>intro hc)|fail)<;>try simp only[*,go_sem])
 exact Gc.slice (i:=1) rfl Ka h
theorem cM{n m:Nat}(hn:l.length=n)(hm:w.length=m)(ho:H[o]?=some (.AU 1 (Cc l) ro))(ho':H[o']?=some (.AU 2 (wrC w) ro'))(h0:0<n)(hl:n<=100000)(hlw:m<=100000)
 (hK:K (.slice H.length n 0 n false) (H++[.AU 1 (Cc (vV l w)) false])):AF Qb 22 [.slice o n 0 n f,.slice o' m 0 m f'] H K:=by
 subst hn hm
 have kO:=AL.of ho
 have kW:=AL.of ho'
 refine AF.gc ?_
 refine Aa ok22 ?_;repeat' first|simp only[*,go_sem]|apply orR|(apply sp<;>intro hc)|refine sL ho hl h0 ?_
 refine AK.Az [12,5,10,11] ?_;simp only[mpC,go_sem]
 refine AK.acc (α:=AP) (λk G=>[(12,nS (k:Int))]) (λk G=>H++(.AU 1 (Cc (vV l (w.take k))) false::G)) (λk G=>True) w.length ?_ (a0:=[]) trivial
 intro k G hk _ next
 obtain⟨D,eD⟩:∃D:Nat->List Int,∀k,D k=vV l (w.take k):=⟨_,λ_=>rfl⟩
 have eDn:D w.length=vV l w:=by rw[eD,Qs]
 have eDl:(D k).length=l.length:=by rw[eD,wDo_len]
 have eDs:k<w.length->D (k+1)=vR (D k) (w.getD k (0,0)):=λh=>by rw[eD,eD,wDo_succ h]
 simp only[<-eD]at next ⊢
 clear eD
 rw[<-eDn]at hK
 clear eDn
 refine AK.Jn λW hW=> ?_
 have kx:=hW.EQ
 have kx0:=kx.at
 have kxs:=kx.set
 have kW:=kW.ex hW.ex
 have kW0:=kW.at
 have hw:=AY (k:=k) (by omega)
 have hl':Hid (l.length<=100000):=hl
 clear hl hlw h0
 refine AK.unfold ?_
 by_cases hkn:k<w.length
 ·have gw:=wrC_get (l:=w) (k:=k) hkn
  have ds:=eDs hkn
  clear eDs
  generalize w.getD k (0,0)=x at*
  obtain⟨p,v⟩:=x
  simp only[vR]at ds gw
  rw[eDl]at ds
  by_cases c0:0<=p
  ·obtain⟨j,rfl⟩:=Int.eq_ofNat_of_zero_le c0
   by_cases c1:j<l.length
   ·have c1':((j:Int)<(l.length:Int))=True:=eq_true (by omega)
    have c0':((0:Int)<=(j:Int))=True:=eq_true (by omega)
    have gx:=M0 (l:=D k) (k:=j) (by omega)
    have e:D (k+1)=(D k).set j v:=by rw[ds];simp[c1]
    have eH:Hid (D (k+1)=(D k).set j v):=e
    clear ds e c0
    repeat' first|simp only[*,AA b22_3.eq_1,cX,G3,AR,AX,apC,go_sem]|apply orR|(apply sp<;>intro hc)|fail
    have e:D (k+1)=(D k).set j v:=eH
    have hW:W=_:=hW
    subst hW
    simp only[set_at0,Qc,Qf]
    rw[e]at next
    (refine AK.Az [12,5,10,11] ?_;simp only[mpC,go_sem];refine next _ hkn trivial)
   ·have c1':((j:Int)<(l.length:Int))=False:=eq_false (by omega)
    have c0':((0:Int)<=(j:Int))=True:=eq_true (by omega)
    have e:D (k+1)=D k:=by rw[ds];simp[c1]
    have eH:Hid (D (k+1)=D k):=e
    clear ds e c0
    repeat' first|simp only[*,AA b22_3.eq_1,cX,G3,AR,AX,apC,go_sem]|apply orR|(apply sp<;>intro hc)|fail
    have e:D (k+1)=D k:=eH
    have hW:W=_:=hW
    subst hW
    simp only[Qc,Qf]
    rw[e]at next
    (refine AK.Az [12,5,10,11] ?_;simp only[mpC,go_sem];refine next _ hkn trivial)
  ·have c0':((0:Int)<=p)=False:=eq_false c0
   have e:D (k+1)=D k:=by rw[ds];simp[c0]
   have eH:Hid (D (k+1)=D k):=e
   clear ds e c0
   repeat' first|simp only[*,AA b22_3.eq_1,cX,G3,AR,AX,apC,go_sem]|apply orR|(apply sp<;>intro hc)|fail
   have e:D (k+1)=D k:=eH
   have hW:W=_:=hW
   subst hW
   simp only[Qc,Qf]
   rw[e]at next
   (refine AK.Az [12,5,10,11] ?_;simp only[mpC,go_sem];refine next _ hkn trivial)
 ·have e:k=w.length:=by omega
  subst e
  clear eDs next
  repeat' first|simp only[*,AA b22_3.eq_1,AR,AX,apC,go_sem]|apply orR|(apply sp<;>intro hc)|fail
  have hW:W=_:=hW
  subst hW
  exact Gc.slice (i:=0) rfl Ka hK
end
section
variable {H:AP}{K:AH->AP->Prop}{s u:State}{o o':Nat}{ro ro' f f':Bool}{b:Int}{l:List Int}{w:List Wr}{oS oT oS2 oT2:Nat}{rS rT fS fT rS2 rT2 fS2 fT2:Bool}
theorem eR{n:Nat}(hn:l.length=n)(ho:H[o]?=some (.AU 1 (Cc l) ro))(ho':H[o']?=some (.AU 1 (Cc l) ro'))(hl:n<=100000)(hK:K (.bool true) H):
 AF Qb 24 [.slice o n 0 n f,.slice o' n 0 n f'] H K:=by
 subst hn
 have kO:=(AL.of ho).at
 have kO':=(AL.of ho').at
 refine Aa ok24 ?_;repeat' first|simp only[*,go_sem]|apply orR|(apply sp<;>intro hc)|fail
 refine AK.Az [5,0,1] ?_;simp only[mpC,go_sem]
 refine AK.acc (α:=Unit) (λk _=>[(5,nS (k:Int))]) (λ_ _=>H) (λk _=>True) l.length ?_ (a0:=()) trivial
 intro k _ hk _ next
 have hw:=AY (k:=k) (by omega)
 refine AK.unfold ?_
 by_cases hkn:k<l.length
 ·have g:=M0 (l:=l) (k:=k) hkn
  repeat' first|simp only[*,AA b24_3.eq_1,cX,AR,AX,go_sem]|apply orR|(apply sp<;>intro hc)|fail
  (refine AK.Az [5,0,1] ?_;simp only[mpC,go_sem];refine next () hkn trivial)
 ·repeat' first|simp only[*,AA b24_3.eq_1,cX,AR,AX,go_sem]|apply orR|(apply sp<;>intro hc)|fail
  all_goals exact hK
set_option maxRecDepth 10000 in
theorem u3(hS:jI H oS s rS)(hT:jU H oT s rT)
 (hS2:jI H oS2 u rS2) (cT:jU H oT2 u rT2) (hb:BN s=true->BN u=true->s.AS≠u.AS)
 (hK:K (.Bj [.lit (.slice none 0 0),nS 1]) H):
 AF Qb 21 [stA s oS oT fS fT,stA u oS2 oT2 fS2 fT2] H K:=by
 have kT:=AL.of hT
 have kS:=AL.of hS
 have kT2:=AL.of cT
 have kS2:=AL.of hS2
 have b1:(0:Int)<2^64:=by decide
 cases hs:BN s with
 |false=>
  have hsH:Hid (BN s=false):=hs
  clear hb hs
  refine AF.gc ?_
  cases hu:BN u with
  |false=>
   have huH:Hid (BN u=false):=hu
   clear hu
   refine Aa ok21 ?_;repeat' first|simp only[*,go_sem]|apply orR|(apply sp<;>intro hc)|refine LQ (kS _) (kT _) hsH ?_|refine LQ (kS2 _) (kT2 _) huH ?_
   all_goals exact Gc.Cd (by simp[AH.refs,Ay]) hK
  |true=>
   have hI2:=D8.1 hu
   clear hu
   refine Aa ok21 ?_;repeat' first|simp only[*,go_sem]|apply orR|(apply sp<;>intro hc)|refine LQ (kS _) (kT _) hsH ?_|refine G2 rfl (kS2 _) (kT2 _) hI2 (Qo _) b1 ?_
   all_goals exact Gc.Cd (by simp[AH.refs,Ay]) hK
 |true=>
  have hI:=D8.1 hs
  obtain⟨n,en⟩:∃n,nC s+8=n:=⟨_,rfl⟩
  have n1:(n=0)=False:=eq_false (by omega)
  have n2:((n:Int)=0)=False:=eq_false (by omega)
  have enH:Hid (nC s+8=n):=en
  have hb:=hb hs
  clear hs en
  refine AF.gc ?_
  cases hu:BN u with
  |false=>
   have huH:Hid (BN u=false):=hu
   clear hu hb
   refine Aa ok21 ?_;repeat' first|simp only[*,go_sem]|apply orR|(apply sp<;>intro hc)|refine G2 enH (kS _) (kT _) hI (Qo _) b1 ?_|refine LQ (kS2 _) (kT2 _) huH ?_
   all_goals exact Gc.Cd (by simp[AH.refs,Ay]) hK
  |true=>
   have hI2:=D8.1 hu
   have hb:=hb hu
   obtain⟨m,em⟩:∃m,nC u+8=m:=⟨_,rfl⟩
   have m1:(m=0)=False:=eq_false (by omega)
   have m2:((m:Int)=0)=False:=eq_false (by omega)
   have emH:Hid (nC u+8=m):=em
   have h3:(decide (s.AS.AI=u.AS.AI)&&(decide (s.AS.AE=u.AS.AE)&&decide (s.AS.AB=u.AS.AB)))=false:=by
    cases h:(decide (s.AS.AI=u.AS.AI)&&(decide (s.AS.AE=u.AS.AE)&&decide (s.AS.AB=u.AS.AB)))with
    |false=>rfl
    |true=>
     simp only[Qt,decide_eq_true_eq]at h
     refine absurd ?_ hb
     obtain⟨⟨a,b,c⟩,_,_⟩:=s
     obtain⟨⟨d,e,f⟩,_,_⟩:=u
     simp only at h
     simp[h.1,h.2.1,h.2.2]
   clear hu hb em
   refine Aa ok21 ?_;repeat' first|simp only[*,go_sem]|apply orR|(apply sp<;>intro hc)|refine G2 enH (kS _) (kT _) hI (Qo _) b1 ?_|refine G2 emH (kS2 _) (kT2 _) hI2 (Qo _) b1 ?_
   exact Gc.Cd (by simp[AH.refs,Ay]) hK
end
end Go.Proofs.YtohgndhnndeijaaGreat.Ax
namespace Go.Ax.M
open Go Go.Ax
def KW:State:=((DY S0 0 ⟨4,[0],[2],0,0,0⟩).st).getD S0
theorem fP:∀{A x y:List Int} {k:Nat},iA k (A++x) (A++y)=iA (k+A.length) x y
 |[],_,_,_=>rfl
 |a::A,x,y,k=>by
  have:=fP (A:=A) (x:=x) (y:=y) (k:=k+1)
  simp only[Qf,iA,decide_true,cond_true,this,Qu]
  congr 1;omega
theorem kc{A:List Int}:iA 0 A A=[]:=by
 have:=fP (A:=A) (x:=[]) (y:=[]) (k:=0)
 simpa [iA] using this
theorem diff_img{s u:State}(h:s.AS=u.AS):iA 0 (iB s 0) (iB u 0)=iA (cg s) (s.AE.flatMap vK++(s.AB.flatMap vE++uj s.AS 0)) (u.AE.flatMap vK++(u.AB.flatMap vE++uj u.AS 0)):=by
 have e:∀v:State,iB v 0=imA v.AS 0++(v.AE.flatMap vK++(v.AB.flatMap vE++uj v.AS 0)):=λv=>by simp[iB,uq,imA]
 rw[e,e,h,fP,<-h,c8,QA]
theorem kw_do:DY S0 0 ⟨4,[0],[2],0,0,0⟩=⟨0,0,0,some KW⟩:=by kernel_rfl
theorem kw_good:BN KW=true:=by kernel_rfl
theorem s0_good:BN S0=true:=by kernel_rfl
theorem kw_geo:S0.AS=KW.AS:=by kernel_rfl
theorem kw_diff:iA 0 (iB S0 0) (iB KW 0)=[(2432,0),(2436,1793)]:=by
 rw[diff_img kw_geo];kernel_rfl
end Go.Ax.M
namespace Go.Proofs.YtohgndhnndeijaaGreat.Ax
open Go Go.Ax Go.Ax.M
set_option maxRecDepth 100000
section
variable {H:AP}{K:AH->AP->Prop}{oS oT oS2 oT2:Nat}{rS rT fS fT rS2 rT2 fS2 fT2:Bool}
theorem of_first(hS:jI H oS S0 rS)(hT:jU H oT S0 rT)
 (hS2:jI H oS2 S0 rS2) (cT:jU H oT2 S0 rT2)
 (h:K (.Bj [.slice H.length 0 0 0 false,nS 0]) (H++[.AU 2 [] false])):
 AF Qb 21 [stA S0 oS oT fS fT,stA S0 oS2 oT2 fS2 fT2] H K:=by
 have hI:=D8.1 s0_good
 refine L0 hS hT hS2 cT hI hI rfl (λh=> ?_) (λ_=> ?_)
 ·rw[kc]at h;exact absurd h (by decide)
 ·rw[kc];exact h
theorem of_moved(hS:jI H oS S0 rS)(hT:jU H oT S0 rT)
 (hS2:jI H oS2 KW rS2) (cT:jU H oT2 KW rT2)
 (h:K (.Bj [.slice H.length 2 0 2 false,nS 0]) (H++[.AU 2 [[nS 2432,nT 0],[nS 2436,nT 1793]] false])):
 AF Qb 21 [stA S0 oS oT fS fT,stA KW oS2 oT2 fS2 fT2] H K:=by
 refine L0 hS hT hS2 cT (D8.1 s0_good) (D8.1 kw_good) kw_geo (λh=> ?_) (λ_=> ?_)
 ·rw[kw_diff]at h;exact absurd h (by decide)
 ·rw[kw_diff];exact h
attribute [irreducible] KW
theorem cG(h:K (.bool true) H):AF Qb 20 [] H K:=by
 refine AF.tidy ?_
 refine Aa ok20 ?_;repeat' first|simp only[*,BT,AM,AJ,QE,go_sem]|apply orR|(apply sp<;>intro hc)|refine me ?_|refine of_first (by first|exact BH|exact Bb rfl) (by first|exact BH|exact Bb rfl) (by first|exact BH|exact Bb rfl) (by first|exact BH|exact Bb rfl) ?_|refine of_moved (by first|exact BH|exact Bb rfl) (by first|exact BH|exact Bb rfl) (by first|exact BH|exact Bb rfl) (by first|exact BH|exact Bb rfl) ?_|refine CF.Zy dh (s:=S0) (c:=⟨4,[0],[2],0,0,0⟩) kw_do (by first|exact BH|exact Bb rfl) (by first|exact BH|exact Bb rfl) (by first|exact BH|exact Bb rfl) (by first|exact BH|exact Bb rfl) ?_
 all_goals first|exact⟨rfl,_,rfl⟩|exact tb h ⟨_,rfl⟩ rfl|trace_state
end
end Go.Proofs.YtohgndhnndeijaaGreat.Ax
namespace Go.Ax
theorem Gc.sliceN{H L:AP}{K:AH->AP->Prop}{i n st len s:Nat}{f ro:Bool}{xs:List (List AH)}(hi:L[i]?=some (.AU s xs ro))(hp:∀x∈xs,∀a∈x,a.plain=true)(h:K (.slice H.length n st len f) (H++[.AU s xs ro])):
 Gc H K (.slice (H.length+i) n st len f) (H++L):=
 ⟨[i],L,[.AU s xs ro],_,rfl,Tf.one hi (.plain hp),⟨H.length,rfl,.inr ⟨i,0,rfl,rfl,rfl⟩⟩,h⟩
end Go.Ax
namespace Go.Ax.M
open Go Go.Ax
theorem wUp_at{g:SY}{w:List Wr}{k:Nat}{a:Int}(h:k<w.length):vx g a (w.drop k)=(!(decide ((w.getD k (0,0)).1<=a)||decide (vH g<=(w.getD k (0,0)).1))&&vx g (w.getD k (0,0)).1 (w.drop (k+1))):=by
 rw[List.drop_eq_getElem_cons h]
 have:w.getD k (0,0)=w[k]:=by simp[Qq,h]
 rw[this];rfl
def rowsL(w:List Wr):List Int:=(w.filter λx=>decide (0<=x.1)).map λx=>x.1.tdiv 8
theorem rows_succ{w:List Wr}{k:Nat}(h:k<w.length):rowsL (w.take (k+1))=rowsL (w.take k)++bif decide (0<=(w.getD k (0,0)).1)then[(w.getD k (0,0)).1.tdiv 8]else[]:=by
 rw[Qd h]
 have:w.getD k (0,0)=w[k]:=by simp[Qq,h]
 rw[this]
 simp only[rowsL,List.filter_append,List.map_append]
 congr 1
 cases hd:decide (0<=w[k].1)<;>simp[hd]<;>simpa using hd
theorem rows_len{w:List Wr}:(rowsL w).length<=w.length:=by
 simp only[rowsL,List.length_map];exact List.length_filter_le _ _
end Go.Ax.M
namespace Go.Proofs.YtohgndhnndeijaaGreat.Ax
open Go Go.Ax Go.Ax.M
section
variable {H:AP}{K:AH->AP->Prop}{o o':Nat}{ro ro' f f':Bool}{g:SY}{w:List Wr}
theorem slotZ_at(hg:Ee g=true)(hK:K (nS (uw g)) H):AF Qb 28 [.agg [nS g.AI,nS g.AE,nS g.AB],nS 0] H K:=by
 have hb:=Hb hg
 refine Aao hg (BX.2 ⟨by omega,by omega⟩) ?_
 rw[show uw g+2* 0=uw g by omega];exact hK
theorem wset_Good_spec{m:Nat}(hm:w.length=m)(ho:H[o]?=some (.AU 2 (wrC w) ro))(hl:m<=100000)(hK:K (.bool (vw g w)) H):
 AF Qb 30 [.agg [nS g.AI,nS g.AE,nS g.AB],.slice o m 0 m f] H K:=by
 subst hm
 have kW:=AL.of ho
 cases hg:Ee g with
 |false=>
  have e:vw g w=false:=by simp[vw,hg]
  rw[e]at hK
  clear e
  refine AF.tidy ?_
  refine Aa ok30 ?_;repeat' first|simp only[*,go_sem]|apply orR|(apply sp<;>intro hc)|refine WN ?_
  all_goals first|exact⟨rfl,⟨_,rfl⟩,hK⟩|exact⟨rfl,⟨_,rfl⟩⟩|trace_state
 |true=>
  by_cases h6:600<w.length
  ·have e:vw g w=false:=by simp[vw,hg,h6]
   have h6':((600:Int)<(w.length:Int))=True:=eq_true (by omega)
   rw[e]at hK
   clear e h6
   refine AF.tidy ?_
   refine Aa ok30 ?_;repeat' first|simp only[*,go_sem]|apply orR|(apply sp<;>intro hc)|refine WN ?_
   all_goals first|exact⟨rfl,⟨_,rfl⟩,hK⟩|exact⟨rfl,⟨_,rfl⟩⟩|trace_state
  ·have h6':((600:Int)<(w.length:Int))=False:=eq_false (by omega)
   have hb:=Hb hg
   have ET:vB g 0=uw g:=by
    have hi:Bv 0 0 (g.AE-1)=true:=BX.2 ⟨by omega,by omega⟩
    simp[vB,hg,hi]
   have hcp:vH g=uu g:=by simp[vH,hg]
   obtain⟨v,ev⟩:∃v,v=vx g (uw g-1) w:=⟨_,rfl⟩
   have e:vw g w=v:=by rw[ev];simp[vw,hg,h6,ET]
   rw[e]at hK
   have w1:IntKind.wrap .i64 (uw g-1)=uw g-1:=by unfold uw;exact w64 (by omega) (by omega)
   have evH:Hid (vx g (uw g-1) (w.drop 0)=v):=ev.symm
   clear e h6 hb ET ev
   refine AF.tidy ?_
   refine Aa ok30 ?_;repeat' first|simp only[*,go_sem]|apply orR|(apply sp<;>intro hc)|refine WN ?_|refine slotZ_at hg ?_
   refine AK.Az [5,21,2,19,20] ?_;simp only[mpC,go_sem]
   refine AK.acc (α:=Int×AP) (λk p=>[(5,nS p.1),(21,nS (k:Int))]) (λk p=>H++(_::p.2)) (λk p=>Hid (vx g p.1 (w.drop k)=v)) w.length ?_ (a0:=(uw g-1,[])) evH
   rintro k ⟨a,G⟩ hk I next
   simp only at next I ⊢
   refine AK.Jn λW hW=> ?_
   have kg:=hW.EQ
   have kg0:=kg.at
   have kW:=kW.ex hW.ex
   have kW0:=kW.at
   have hw:=AY (k:=k) (by omega)
   refine AK.unfold ?_
   by_cases hkn:k<w.length
   ·have gw:=wrC_get (l:=w) (k:=k) hkn
    have up:=wUp_at (g:=g) (a:=a) hkn
    rw[show vx g a (w.drop k)=v from I,hcp]at up
    generalize w.getD k (0,0)=x at*
    obtain⟨p,q⟩:=x
    simp only at up gw
    have upH:Hid (_=_):=up
    clear I evH up
    by_cases c1:p<=a
    ·have c1':(p<=a)=True:=eq_true c1
     have ev:v=false:=by rw[show v=_ from upH,decide_eq_true c1];rfl
     clear c1 upH
     repeat' first|simp only[*,AA b30_4.eq_1,AR,AX,apC,go_sem]|apply orR|(apply sp<;>intro hc)|refine kP hg ?_
     have hW:W=_:=hW
     subst hW
     subst ev
     exact⟨rfl,⟨_,Qc _ _ _⟩,hK⟩
    ·have c1':(p<=a)=False:=eq_false c1
     by_cases c2:uu g<=p
     ·have c2':(uu g<=p)=True:=eq_true c2
      have ev:v=false:=by rw[show v=_ from upH,decide_eq_true c2];simp
      clear c1 c2 upH
      repeat' first|simp only[*,AA b30_4.eq_1,AR,AX,apC,go_sem]|apply orR|(apply sp<;>intro hc)|refine kP hg ?_
      have hW:W=_:=hW
      subst hW
      subst ev
      exact⟨rfl,⟨_,Qc _ _ _⟩,hK⟩
     ·have c2':(uu g<=p)=False:=eq_false c2
      have ev:Hid (vx g p (w.drop (k+1))=v):=by rw[show v=_ from upH,decide_eq_false c2,decide_eq_false c1];rfl
      clear c1 c2 upH
      repeat' first|simp only[*,AA b30_4.eq_1,AR,AX,apC,go_sem]|apply orR|(apply sp<;>intro hc)|refine kP hg ?_
      have hW:W=_:=hW
      subst hW
      simp only[Qc,Qf]
      (refine AK.Az [5,21,2,19,20] ?_;simp only[mpC,go_sem];refine next (p,_) hkn ev)
   ·have e:k=w.length:=by omega
    subst e
    have ev:v=true:=by
     have:=show vx g a (w.drop w.length)=v from I
     rw[List.drop_length]at this;exact this.symm
    repeat' first|simp only[*,AA b30_4.eq_1,AR,AX,apC,go_sem]|apply orR|(apply sp<;>intro hc)|fail
    have hW:W=_:=hW
    subst hW
    subst ev
    exact⟨rfl,⟨_,rfl⟩,hK⟩
theorem wset_Rows_spec{m:Nat}(hm:w.length=m)(ho:H[o]?=some (.AU 2 (wrC w) ro))(hl:m<=100000)(h64:∀x∈w,x.1<2^62)(h0:0<(rowsL w).length)(hne:v7 (F6 (rowsL w))≠F6 (rowsL w))
 (hK:K (.slice H.length (rowsL w).length 0 (v7 (F6 (rowsL w))).length false) (H++[.AU 1 (ints (v7 (F6 (rowsL w))++Qa ((F6 (rowsL w)).length-(v7 (F6 (rowsL w))).length) 0)) false])):
 AF Qb 33 [.slice o m 0 m f] H K:=by
 subst hm
 have kW:=AL.of ho
 refine AF.gc ?_
 refine Aa ok33 ?_;repeat' first|simp only[*,go_sem]|apply orR|(apply sp<;>intro hc)|fail
 refine AK.Az [3,8,6,7] ?_;simp only[mpC,go_sem]
 refine AK.lay 1 ?_
 obtain⟨D,eD⟩:∃D:Nat->List Int,∀k,D k=rowsL (w.take k):=⟨_,λ_=>rfl⟩
 have eDn:D w.length=rowsL w:=by rw[eD,Qs]
 have eDs:∀k,k<w.length->D (k+1)=D k++bif decide (0<=(w.getD k (0,0)).1)then[(w.getD k (0,0)).1.tdiv 8]else[]:=λk hk=>by
  rw[eD,eD];exact rows_succ hk
 have eDl:∀k,(D k).length<=k:=λk=>by
  have:=rows_len (w:=w.take k)
  rw[<-eD,Qm]at this;omega
 rw[<-eDn]at h0 hne hK
 clear eDn
 refine AK.acc (α:=AP) (λk G=>[(3,.slice H.length (rowsL (w.take k)).length 0 (rowsL (w.take k)).length false),(8,nS (k:Int))]) (λk G=>H++(.AU 1 (ints (rowsL (w.take k))) false::G)) (λk G=>True) w.length ?_ (a0:=[]) trivial
 intro k G hk _ next
 simp only[<-eD]at next ⊢
 clear eD
 refine AK.Jn λW hW=> ?_
 have ko:=hW.EQ
 have ko0:=ko.at
 have kos:=ko.set
 have kW:=kW.ex hW.ex
 have kW0:=kW.at
 have hdl:=eDl k
 have hb:(((D k).length+1)* 8<=140737488355328)=True:=eq_true (by omega)
 have hw:=AY (k:=k) (by omega)
 refine AK.unfold ?_
 by_cases hkn:k<w.length
 ·have gw:=wrC_get (l:=w) (k:=k) hkn
  have ds:=eDs k hkn
  have hx:(w.getD k (0,0)).1<2^62:=by
   have:w.getD k (0,0)=w[k]:=by simp[Qq,hkn]
   rw[this];exact h64 _ (QB _)
  clear eDs eDl hdl h64
  generalize w.getD k (0,0)=x at*
  obtain⟨p,q⟩:=x
  simp only at ds gw hx
  have dsH:Hid (_=_):=ds
  clear ds
  by_cases c0:0<=p
  ·have c0':((0:Int)<=p)=True:=eq_true c0
   have wq:IntKind.wrap .i64 (p.tdiv 8)=p.tdiv 8:=by
    rw[Qn c0];exact w64 (by omega) (by omega)
   have e:D (k+1)=D k++[p.tdiv 8]:=by rw[show D (k+1)=_ from dsH,decide_eq_true c0];rfl
   have eH:Hid (D (k+1)=D k++[p.tdiv 8]):=e
   clear e c0 hx
   repeat' first|simp only[*,AA b33_3.eq_1,AR,AX,apC,go_sem]|apply orR|(apply sp<;>intro hc)|fail
   have e:D (k+1)=D k++[p.tdiv 8]:=eH
   have hW:W=_:=hW
   subst hW
   simp only[e,Qe,Qu,QD,QA,Dn,GI,go_sem]at next
   simp only[set_at0,Qc,Qf]
   (refine AK.Az [3,8,6,7] ?_;simp only[mpC,go_sem];refine next _ hkn)
  ·have c0':((0:Int)<=p)=False:=eq_false c0
   have e:D (k+1)=D k:=by rw[show D (k+1)=_ from dsH,decide_eq_false c0];simp
   have eH:Hid (D (k+1)=D k):=e
   clear e c0 hx
   repeat' first|simp only[*,AA b33_3.eq_1,AR,AX,apC,go_sem]|apply orR|(apply sp<;>intro hc)|fail
   have e:D (k+1)=D k:=eH
   have hW:W=_:=hW
   subst hW
   simp only[e]at next
   simp only[Qc,Qf]
   (refine AK.Az [3,8,6,7] ?_;simp only[mpC,go_sem];refine next _ hkn trivial)
 ·have e:k=w.length:=by omega
  subst e
  have hdl2:(D w.length).length<=100000:=by omega
  have hW:W=_:=hW
  clear eDs eDl hdl next kW kW0 ko ko0 kos
  subst hW
  generalize D w.length=R at*
  have hco:Hid (v7 (F6 R)≠F6 R):=hne
  clear hne
  repeat' first|simp only[*,AA b33_3.eq_1,set_at0,AR,AX,apC,go_sem]|apply orR|(apply sp<;>intro hc)|refine Zz (l:=R) BH h0 (by omega) ?_
  have ET:(F6 R).length=R.length:=Gu
  have hc1:(F6 R).length<=100000:=by omega
  simp only[<-ET]at hK ⊢
  clear ET
  refine Aag (l:=F6 R) BH hc1 (λe=>absurd e hco) (λ_=> ?_)
  simp only[set_at0]
  repeat' first|simp only[*,AA b33_3.eq_1,go_sem]|apply orR|(apply sp<;>intro hc)|fail
  exact Gc.sliceN (i:=0) rfl Ca hK
end
end Go.Proofs.YtohgndhnndeijaaGreat.Ax
