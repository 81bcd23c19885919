/- The first state of any place: what the program's function answers. Conditions: none. -/
import Derived.Test.YtohgndhnndeijaaGreatZGv
set_option linter.all false
set_option maxHeartbeats 9999999
open List renaming replicate -> Qa, length_set -> Qb, map_set -> Qd, getElem?_eq_getElem -> Qe, getD -> Qf, length_map -> Qh, length_replicate -> Qi, getElem?_set_ne -> Qj, getElem?_range -> Qk, map_replicate -> Ql, getElem?_map -> Qm, range -> Qp
open Option renaming getD_some -> Qc, map_some -> Qo
open Int renaming le_refl -> Qg, toNat_natCast -> Qn
namespace Go.Ax.M
open Go Go.Ax
def pk(g:SY)(room:Int):Bool:=Ee g&&(HH 1 room 0).2
def Pn(u:Int):Slot:=⟨⟨3,1,7,0⟩,u⟩
def pO(k i:Nat):Slot:=if i=0 then⟨⟨1,0,7,0⟩,-1⟩else if i%8=1/\i<8* k then Pn (if i=1 then-1 else 1)else⟨.zero,-1⟩
def pF(room:Int)(k i:Nat):AN:=if i=0 then Bw 1 room 0 else if i=1 then Bw 3 0 0 else if i<2+k then⟨2,3,8*((i:Int)-2),0,0,0,0,false,0,0,0,0,0⟩else .zero
def te(k i:Nat):Slot:=if i=0 then⟨⟨1,0,7,0⟩,-1⟩else if i%8=1/\i<8* k then Pn 1 else⟨.zero,-1⟩
theorem pL{α:Type}{l:List α}{i j:Nat}{a d:α}(h:i<l.length):(l.set i a).getD j d=if j=i then a else l.getD j d:=by
 simp only[Qf]
 by_cases e:j=i
 ·subst e;rw[if_pos rfl,List.getElem?_set_self h];rfl
 ·rw[if_neg e,Qj λh=>e h.symm]
theorem pu{α:Type}{d:α}{a b:List α}(hl:a.length=b.length)(h:∀i,i<a.length->a.getD i d=b.getD i d):a=b:=by
 refine List.ext_getElem hl λi h1 h2=> ?_
 have:=h i h1
 simpa [Qf,h1,h2] using this
theorem sF{T N M k:Nat}(hg:Ee ⟨T,N,M⟩=true)(h:k<T):LD ⟨T,N,M⟩ k=((8* k:Nat):Int):=by
 have:Bv (k:Int) 0 ((T:Int)-1)=true:=by simp[Bv];omega
 simp[LD,hg,this]
theorem se{k:Nat}(h:k<4):HH 2 3 ((8* k:Nat):Int)=(⟨2,3,((8* k:Nat):Int),0,0,0,0,false,0,0,0,0,0⟩,true):=by
 rcases(by omega:k=0\/k=1\/k=2\/k=3)with e|e|e|e<;>subst e<;>kernel_rfl
theorem sj{room:Int}(h:(HH 1 room 0).2=true):(HH 1 room 0).1=Bw 1 room 0:=by
 simp only[HH]at h ⊢
 cases e:BB (Bw 1 room 0)with
 |true=>simp
 |false=>simp[e]at h
theorem sZ:(HH 3 0 0).1=Bw 3 0 0:=by kernel_rfl
def pI(g:SY)(room:Int):State:=⟨g,(Qp g.AE.toNat).map (pO g.AI.toNat),(Qp g.AB.toNat).map (pF room g.AI.toNat)⟩
end Go.Ax.M
namespace Go.Proofs.YtohgndhnndeijaaGreat.Ax
open Go Go.Ax Go.Ax.M
section
variable {H:AP}{K:AH->AP->Prop}
def rh:AH:= .agg [nS 0,nS 0,nS 0,.lit (.slice none 0 0),.lit (.slice none 0 0)]
theorem sm{g:SY}{room:Int}(h:pk g room=false->K (.Bj [rh,nS 1]) H)(h':pk g room=true->K (.Bj [BT (pI g room) H.length (H.length+1) true true,nS 0]) (H++[AM (pI g room),AJ (pI g room)])):
 AF Tryz.prog 16 [.agg g.cells,nS room] H K:=by
 refine AF.gc ?_
 cases hn:pk g room with
 |false=>
  have h:=h hn
  clear h'
  have hc:Ee g=true->(HH 1 room 0).2=false:=λe=>by simpa [pk,e] using hn
  unfold SY.cells
  refine Aa ok16 ?_;(try simp only[hc,AN.cells,go_sem]);repeat' ((first|apply orR|(apply sp<;>intro hc)|refine R1 ?_|refine MK (g:=g) ?_)<;>try simp only[*,AN.cells,go_sem])
  all_goals exact Gc.Cd (by simp[AH.refs,Ay]) h
 |true=>
  have h':=h' hn
  clear h
  simp only[pk,Bool.and_eq_true]at hn
  obtain⟨hg,ht⟩:=hn
  have hb:=HQ hg
  obtain⟨x0,x1,x2⟩:=g
  simp only at hb
  obtain⟨T,rfl⟩:∃T:Nat,x0=(T:Int):=⟨x0.toNat,by omega⟩
  obtain⟨N,rfl⟩:∃N:Nat,x1=(N:Int):=⟨x1.toNat,by omega⟩
  obtain⟨M,rfl⟩:∃M:Nat,x2=(M:Int):=⟨x2.toNat,by omega⟩
  have b1:(0<=(N:Int))=True:=eq_true (by omega)
  have hN:8* T<=N/\N<=96:=by omega
  have hM:T+2<=M/\M<=48:=by omega
  have hT:1<=T/\T<=4:=by omega
  have m1:(N:Int)<=9223372036854775807:=by omega
  have m2:(N:Int)* 40<=140737488355328:=by omega
  have m3:(M:Int)<=9223372036854775807:=by omega
  have m4:(M:Int)* 104<=140737488355328:=by omega
  clear hb
  unfold SY.cells
  refine Aa ok16 ?_;repeat' first|simp only[*,AN.cells,Nat.add_assoc,AX,Qg,Qi,go_sem]|apply orR|(apply sp<;>intro hc)|refine R1 ?_|refine MK (g:=⟨(T:Int),(N:Int),(M:Int)⟩) ?_
  have z0:(0<(M:Int))=True:=eq_true (by omega)
  have z1:(1<(M:Int))=True:=eq_true (by omega)
  have z2:(0<(N:Int))=True:=eq_true (by omega)
  have hr0:LD ⟨(T:Int),(N:Int),(M:Int)⟩ 0=0:=by have:=sF (k:=0) hg (by omega);simpa using this
  rw[show Qa N [nS 0,nS 0,nS 0,nS 0,nS 0]=(Qa N Slot.zero).map Slot.cells by rw[Ql];rfl,
   show Qa M [nS 0,nS 0,nS 0,nS 0,nS 0,nS 0,nS 0,.bool false,nT 0,nT 0,nT 0,nT 0,nT 0]=(Qa M AN.zero).map AN.cells by rw[Ql];rfl]
  refine AK.Az [37,2,4,6,8,36] ?_;simp only[mpC,go_sem]
  refine AK.acc (λk (us:List Slot)=>[(37,nS (k:Int))]) (λk us=>H++[_,_,_,.AU 5 (us.map Slot.cells) false,_,_]) (λk us=>us.length=N/\Hid (∀j,us.getD j .zero=if j<k then⟨.zero,-1⟩else .zero)) N ?_ (a0:=Qa N Slot.zero) ⟨by simp,λj=>by rw[if_neg (by omega)];simp[Qf,List.getElem?_replicate];split<;>rfl⟩
  rintro k us hk ⟨hul,hus⟩ next
  have row:∀j,j<N->∀x,us.getD j .zero=x->(us.map Slot.cells)[j]?=some x.cells:=λj h x e=>by
   have hlt:j<us.length:=by omega
   simp only[Qf,Qe hlt,Qc]at e
   simp[hlt,e]
  refine AK.unfold ?_
  have hw:=AY (k:=k) (by omega)
  have hrow:k<N->(us.map Slot.cells)[k]?=some [nS 0,nS 0,nS 0,nS 0,nS 0]:=λh=>row k h .zero ((show ∀j,us.getD j .zero=if j<k then⟨.zero,-1⟩else .zero from hus) k|>.trans (if_neg (by omega)))
  have hrow0:¬k<N->(us.map Slot.cells)[0]?=some [nS 0,nS 0,nS 0,nS 0,nS (-1)]:=λh=>row 0 (by omega) ⟨.zero,-1⟩ ((show ∀j,us.getD j .zero=if j<k then⟨.zero,-1⟩else .zero from hus) 0|>.trans (if_pos (by omega)))
  clear row
  have hum:(us.map Slot.cells).length=N:=by rw[Qh];exact hul
  have htm:((Qa M AN.zero).map AN.cells).length=M:=by simp
  have htz:∀j,j<M->((Qa M AN.zero).map AN.cells)[j]?=some AN.zero.cells:=λj h=>by simp[h]
  have ht0:((Qa M AN.zero).map AN.cells)[0]?=some [nS 0,nS 0,nS 0,nS 0,nS 0,nS 0,nS 0,.bool false,nT 0,nT 0,nT 0,nT 0,nT 0]:=htz 0 (by omega)
  have ht1:∀x,(((Qa M AN.zero).map AN.cells).set 0 x)[1]?=some [nS 0,nS 0,nS 0,nS 0,nS 0,nS 0,nS 0,.bool false,nT 0,nT 0,nT 0,nT 0,nT 0]:=λx=>by rw[Qj (by omega)];exact htz 1 (by omega)
  clear htz
  repeat' first|simp only[*,AX,AR,Qg,AA b16_3.eq_1,AN.cells,Qb,apC,go_sem]|apply orR|(apply sp<;>intro hc)|refine R1 ?_|refine SN (g:=⟨(T:Int),(N:Int),(M:Int)⟩) ?_
  ·have hus2:∀j,us.getD j .zero=if j<k then⟨.zero,-1⟩else .zero:=hus
   have e:(us.map Slot.cells).set k [nS 0,nS 0,nS 0,nS 0,nS (-1)]=(us.set k ⟨.zero,-1⟩).map Slot.cells:=by rw[Qd];rfl
   rw[e]
   (refine AK.Az [37,2,4,6,8,36] ?_;simp only[mpC,go_sem];refine next (us.set k ⟨.zero,-1⟩) ‹_› ⟨by rw[Qb];exact hul,λj=>by rw[pL (by omega),hus2 j];by_cases q:j=k<;>by_cases q2:j<k<;>simp[q,q2]<;>omega⟩)
  have hk2:N=k:=by omega
  subst hk2
  have hus2:∀j,us.getD j .zero=if j<N then⟨.zero,-1⟩else .zero:=hus
  have e1:(us.map Slot.cells).set 0 [nS 1,nS 0,nS 7,nS 0,nS (-1)]=(us.set 0 ⟨⟨1,0,7,0⟩,-1⟩).map Slot.cells:=by rw[Qd];rfl
  have e2:(((Qa M AN.zero).map AN.cells).set 0 (HH 1 room 0).1.cells).set 1 (HH 3 0 0).1.cells=(((Qa M AN.zero).set 0 (HH 1 room 0).1).set 1 (HH 3 0 0).1).map AN.cells:=by rw[Qd,Qd]
  simp only[AN.cells]at e2
  rw[e1,e2]
  have i1:∀j,j<N->(us.set 0 ⟨⟨1,0,7,0⟩,-1⟩).getD j .zero=te 0 j:=λj hj=>by
   rw[pL (by omega),hus2 j,if_pos hj,te]
   by_cases q:j=0
   ·rw[if_pos q,if_pos q]
   ·rw[if_neg q,if_neg q,if_neg (by omega)]
  have i2:∀j,j<M->(((Qa M AN.zero).set 0 (HH 1 room 0).1).set 1 (HH 3 0 0).1).getD j .zero=pF room 0 j:=λj hj=>by
   rw[pL (by simp;omega),pL (by simp;omega),pF,sj ht,sZ]
   by_cases q:j=0
   ·subst q;simp
   ·by_cases q1:j=1
    ·subst q1;simp
    ·rw[if_neg q1,if_neg q,if_neg q,if_neg q1,if_neg (by omega)];simp[Qf,hj]
  clear next hw hrow hrow0 hum htm ht0 ht1 e1 e2 hus hus2
  refine AK.Az [67,2,4,8,10,66] ?_;simp only[mpC,go_sem]
  refine AK.acc (λk (a:List Slot×List AN)=>[(67,nS (k:Int))]) (λk a=>H++[_,_,_,.AU 5 (a.1.map Slot.cells) false,.AU 13 (a.2.map AN.cells) false,_]) (λk a=>a.1.length=N/\a.2.length=M/\Hid (∀j,j<N->a.1.getD j .zero=te k j)/\Hid (∀j,j<M->a.2.getD j .zero=pF room k j)) T ?_ (a0:=(us.set 0 ⟨⟨1,0,7,0⟩,-1⟩,((Qa M AN.zero).set 0 (HH 1 room 0).1).set 1 (HH 3 0 0).1)) ⟨by simp[hul],by simp,i1,i2⟩
  clear hul i1 i2
  rintro k ⟨us,ts⟩ hk ⟨hul,htl,hus,hts⟩ next
  simp only at hul htl hus hts
  have srow:∀j,j<N->∀x,te k j=x->(us.map Slot.cells)[j]?=some x.cells:=λj h x e=>by
   have hlt:j<us.length:=by omega
   have:=(show ∀j,j<N->us.getD j .zero=te k j from hus) j h
   rw[e]at this
   simp only[Qf,Qe hlt,Qc]at this
   simp[hlt,this]
  have trow:∀j,j<M->∀x,pF room k j=x->(ts.map AN.cells)[j]?=some x.cells:=λj h x e=>by
   have hlt:j<ts.length:=by omega
   have:=(show ∀j,j<M->ts.getD j .zero=pF room k j from hts) j h
   rw[e]at this
   simp only[Qf,Qe hlt,Qc]at this
   simp[hlt,this]
  refine AK.unfold ?_
  have hw:=AY (k:=k) (by omega)
  have hrt:k<T->LD ⟨(T:Int),(N:Int),(M:Int)⟩ (k:Int)=((8* k:Nat):Int):=λh=>sF hg h
  have hnd:k<T->HH 2 3 ((8* k:Nat):Int)=(⟨2,3,((8* k:Nat):Int),0,0,0,0,false,0,0,0,0,0⟩,true):=λh=>se (by omega)
  have w1:IntKind.wrap .i64 (((8* k:Nat):Int)+1)=((8* k+1:Nat):Int):=by rw[w64 (by omega) (by omega)];omega
  have w2:IntKind.wrap .i64 (2+(k:Int))=((2+k:Nat):Int):=by rw[w64 (by omega) (by omega)];omega
  have w3:IntKind.wrap .i64 1=1:=rfl
  have hs1:k<T->(((8* k+1:Nat):Int)<(N:Int))=True/\(us.map Slot.cells)[8* k+1]?=some [nS 0,nS 0,nS 0,nS 0,nS (-1)]:=λh=>⟨eq_true (by omega),srow _ (by omega) ⟨.zero,-1⟩ (by rw[te,if_neg (by omega),if_neg (by omega)])⟩
  have ht1:k<T->(((2+k:Nat):Int)<(M:Int))=True/\(ts.map AN.cells)[2+k]?=some [nS 0,nS 0,nS 0,nS 0,nS 0,nS 0,nS 0,.bool false,nT 0,nT 0,nT 0,nT 0,nT 0]:=λh=>⟨eq_true (by omega),trow _ (by omega) .zero (by rw[pF,if_neg (by omega),if_neg (by omega),if_neg (by omega)])⟩
  have hs2:¬k<T->(1<(N:Int))=True/\(us.map Slot.cells)[1]?=some [nS 3,nS 1,nS 7,nS 0,nS 1]:=λh=>⟨eq_true (by omega),srow 1 (by omega) (Pn 1) (by rw[te,if_neg (by omega),if_pos (by omega)])⟩
  have hum:(us.map Slot.cells).length=N:=by rw[Qh];exact hul
  have htm:(ts.map AN.cells).length=M:=by rw[Qh];exact htl
  clear srow trow
  repeat' first|simp only[*,AX,AR,Qg,AA b16_8.eq_1,AN.cells,Qb,apC,go_sem]|apply orR|(apply sp<;>intro hc)|refine R1 ?_|refine SN (g:=⟨(T:Int),(N:Int),(M:Int)⟩) ?_
  have hus:∀j,j<N->us.getD j .zero=te k j:=hus
  have hts:∀j,j<M->ts.getD j .zero=pF room k j:=hts
  ·have hkT:k<T:=by assumption
   have e1:(us.map Slot.cells).set (8* k+1) [nS 3,nS 1,nS 7,nS 0,nS 1]=(us.set (8* k+1) (Pn 1)).map Slot.cells:=by rw[Qd];rfl
   have e2:(ts.map AN.cells).set (2+k) [nS 2,nS 3,nS ((8* k:Nat):Int),nS 0,nS 0,nS 0,nS 0,.bool false,nT 0,nT 0,nT 0,nT 0,nT 0]=(ts.set (2+k) ⟨2,3,((8* k:Nat):Int),0,0,0,0,false,0,0,0,0,0⟩).map AN.cells:=by rw[Qd];rfl
   rw[e1,e2]
   have i1:∀j,j<N->(us.set (8* k+1) (Pn 1)).getD j .zero=te (k+1) j:=λj hj=>by
    rw[pL (by omega),hus j hj,te,te]
    by_cases q:j=8* k+1
    ·rw[if_pos q,if_neg (by omega),if_pos (by omega)]
    ·rw[if_neg q]
     by_cases q2:j=0
     ·rw[if_pos q2,if_pos q2]
     ·rw[if_neg q2,if_neg q2]
      by_cases q3:j%8=1/\j<8* k
      ·rw[if_pos q3,if_pos (by omega)]
      ·rw[if_neg q3,if_neg (by omega)]
   have i2:∀j,j<M->(ts.set (2+k) ⟨2,3,((8* k:Nat):Int),0,0,0,0,false,0,0,0,0,0⟩).getD j .zero=pF room (k+1) j:=λj hj=>by
    rw[pL (by omega),hts j hj,pF,pF]
    by_cases q:j=2+k
    ·rw[if_pos q,if_neg (by omega),if_neg (by omega),if_pos (by omega)]
     subst q
     simp only[AN.mk.injEq,true_and,and_true];omega
    ·rw[if_neg q]
     by_cases q2:j=0
     ·rw[if_pos q2,if_pos q2]
     ·rw[if_neg q2,if_neg q2]
      by_cases q3:j=1
      ·rw[if_pos q3,if_pos q3]
      ·rw[if_neg q3,if_neg q3]
       by_cases q4:j<2+k
       ·rw[if_pos q4,if_pos (by omega)]
       ·rw[if_neg q4,if_neg (by omega)]
   (refine AK.Az [67,2,4,8,10,66] ?_;simp only[mpC,go_sem];refine next (us.set (8* k+1) (Pn 1),ts.set (2+k) ⟨2,3,((8* k:Nat):Int),0,0,0,0,false,0,0,0,0,0⟩) hkT ⟨by simp only[Qb];exact hul,by simp only[Qb];exact htl,i1,i2⟩)
  ·have hkT:T=k:=by omega
   subst hkT
   have hus:∀j,j<N->us.getD j .zero=te T j:=hus
   have hts:∀j,j<M->ts.getD j .zero=pF room T j:=hts
   have e1:(us.map Slot.cells).set 1 [nS 3,nS 1,nS 7,nS 0,nS (-1)]=(pI ⟨T,N,M⟩ room).AE.map Slot.cells:=by
    rw[show([nS 3,nS 1,nS 7,nS 0,nS (-1)]:List AH)=(Pn (-1)).cells from rfl,<-Qd]
    congr 1
    refine pu (d:= .zero) (by simp[pI,hul]) λj hj=> ?_
    have hj:j<N:=by simpa [hul] using hj
    rw[pL (by omega),hus j hj]
    simp only[pI,Qf,Qm,Qn,Qk hj,Qo,Qc,pO,te]
    by_cases q:j=1
    ·subst q;rw[if_pos rfl,if_neg (by decide),if_pos (by omega),if_pos rfl]
    ·rw[if_neg q]
     by_cases q2:j=0
     ·rw[if_pos q2,if_pos q2]
     ·rw[if_neg q2,if_neg q2,if_neg q]
   have e2:ts.map AN.cells=(pI ⟨T,N,M⟩ room).AB.map AN.cells:=by
    congr 1
    refine pu (d:= .zero) (by simp[pI,htl]) λj hj=> ?_
    have hj:j<M:=by omega
    rw[hts j hj]
    simp only[pI,Qf,Qm,Qn,Qk hj,Qo,Qc]
   have l1:(pI ⟨T,N,M⟩ room).AE.length=N:=by simp[pI]
   have l2:(pI ⟨T,N,M⟩ room).AB.length=M:=by simp[pI]
   have:=Gc.stateT (H:=H) (s:=pI ⟨T,N,M⟩ room) (i:=3) (j:=4) (f:=true) (f':=true) (l:=[nS 0]) (K:=K) (L:=[.AU 3 [[nS T,nS N,nS M]] false,.AU 5 [[nS T,nS N,nS M,.slice (H.length+3) N 0 N true,.slice (H.length+4) M 0 M true]] false,.AU 13 [(HH 1 room 0).1.cells] false,AM (pI ⟨T,N,M⟩ room),AJ (pI ⟨T,N,M⟩ room),.AU 5 [[nS T,nS N,nS M,.slice (H.length+3) N 0 N true,.slice (H.length+4) M 0 M true]] false]) rfl rfl (by decide) (by simp[AH.plain]) h'
   simp only[BT,AM,AJ,l1,l2,AN.cells]at this
   rw[e1,e2]
   exact this
end
end Go.Proofs.YtohgndhnndeijaaGreat.Ax
