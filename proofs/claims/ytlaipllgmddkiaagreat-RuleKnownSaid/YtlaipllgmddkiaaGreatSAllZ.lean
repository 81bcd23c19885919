/- All that is asked, one behind the other: what the program's function answers. Conditions: none. -/
import Derived.Test.YtlaipllgmddkiaaGreatZRu
import Derived.Test.YtlaipllgmddkiaaGreatZSa
import Derived.Test.YtlaipllgmddkiaaGreatZRf
set_option linter.all false
set_option maxHeartbeats 9999999
open Nat renaming add_assoc -> Qa
open List renaming length_append -> Qb, getElem?_append_right -> Qc, append_assoc -> Qd, take_length -> Qe, append_nil -> Qf
namespace Go.Ax.M
open Go Go.Ax
def tm(s:State)(x:Step):State:=(oC s x.th x.l0 x.l1 x.l2 x.l3).then s
def tf(s:State)(l:List Step):State:=l.foldl tm s
theorem uG{s:State}{l:List Step}{k:Nat}(h:k<l.length):tf s (l.take (k+1))=tm (tf s (l.take k)) (l.getD k .zero):=by
 rw[List.take_add_one,tf,List.foldl_append];simp[List.getD,h,tf]
def vJ(s:State)(x:Step):List AH:=[nS (oC s x.th x.l0 x.l1 x.l2 x.l3).err,nT (oC s x.th x.l0 x.l1 x.l2 x.l3).w,nS (oC s x.th x.l0 x.l1 x.l2 x.l3).n]
def p9:State->List Step->List (List AH)
 |_,[]=>[]
 |s,x::l=>vJ s x::p9 (tm s x) l
theorem uy:∀{l:List Step} {s:State} {k:Nat},k<l.length->p9 s (l.take (k+1))=p9 s (l.take k)++[vJ (tf s (l.take k)) (l.getD k .zero)]
 |[],_,_,h=>by simp at h
 |x::l,s,0,_=>by simp[p9,tf]
 |x::l,s,k+1,h=>by
  have:=uy (l:=l) (s:=tm s x) (k:=k) (by simpa using h)
  simp only[List.take_succ_cons,p9,this,List.cons_append,List.getD_cons_succ,tf,List.foldl_cons]
structure tk (s0 s:State):Prop where
 uW:rk s
 lS:s.AE.length=s0.AE.length
 lT:s.AB.length=s0.AB.length
 AS:s.AS=s0.AS
theorem tk.refl{s:State}(d:rk s):tk s s:=⟨d,rfl,rfl,rfl⟩
theorem tk.some{s0 s u:State}{th l0 l1 l2 l3:Int}(d:tk s0 s)(hw:pj l3)(h:(oC s th l0 l1 l2 l3).st=some u):tk s0 u:=by
 have hd:=tC d.uW hw h
 have h':=h
 simp only[oC]at h'
 cases h1:BN s with
 |false=>rw[h1]at h';simp[CD.bad]at h'
 |true=>
  cases h2:fI l0 l1 l2 l3 with
  |false=>rw[h1,h2]at h';simp[CD.bad]at h'
  |true=>
   rw[h1,h2]at h'
   obtain⟨a,b,c,_⟩:=fj h'
   exact⟨hd,b.trans d.lS,c.trans d.lT,a.trans d.AS⟩
end Go.Ax.M
namespace Go.Proofs.YtlaipllgmddkiaaGreat.Ax
open Go Go.Ax Go.Ax.M
section
variable {H:AP}{K:AH->AP->Prop}{s0:State}{oS oT oL:Nat}{fS fT rS rT fL rL:Bool}
abbrev ug:Au:= .AU 5 [[nS 0,nS 0,nS 0,.lit (.slice none 0 0),.lit (.slice none 0 0)]] false
set_option maxHeartbeats 2000000 in
theorem uE{l:List M.Step}(d:rk s0)(hlen:l.length<=60)(hok:∀x∈l,x.Ok)(hL:H[oL]?=some (.AU 5 (l.map Step.cells) rL))(hS:iS H oS s0 rS)(hT:iT H oT s0 rT)
 (h:∀(H':AP) (p q o:Nat) (f f' r r':Bool),Ex H H'->H'[p]?=some (.AU 5 ((tf s0 l).AE.map Slot.cells) r)->H'[q]?=some (.AU 13 ((tf s0 l).AB.map AN.cells) r')->H'[o]?=some (.AU 3 (p9 s0 l) false)->K (.Bj [BT (tf s0 l) p q f f',.slice o l.length 0 l.length false]) H'):
 AF Tryz.prog 57 [stA s0 oS oT fS fT,.slice oL l.length 0 l.length fL] H K:=by
 have kL:=AL.of hL
 have kS:=AL.of hS
 have kT:=AL.of hT
 refine Aa ok57 ?_;repeat' first|simp only[*,go_sem]|apply orR|(apply sp<;>intro hc)|fail
 refine AK.Az [6,13,2,4,11,12] ?_;simp only[mpC,go_sem]
 refine AK.lay 3 ?_
 simp only[Qd,Qb,List.length_cons,List.length_nil,apC,go_sem]
 refine AK.acc (λk (p:State×(Nat×Nat×Bool×Bool×Bool×Bool)×List (List AH)×AP)=>[(6,.slice (H.length+2) k 0 k false),(13,nS (k:Int))]) (λk p=>H++ .AU 5 [[nS p.1.AS.AI,nS p.1.AS.AE,nS p.1.AS.AB,.slice p.2.1.1 p.1.AE.length 0 p.1.AE.length p.2.1.2.2.1,.slice p.2.1.2.1 p.1.AB.length 0 p.1.AB.length p.2.1.2.2.2.1]] false::ug:: .AU 3 p.2.2.1 false::p.2.2.2)
  (λk p=>tk s0 p.1/\p.2.2.1.length=k/\Hid (p.2.2.1=p9 s0 (l.take k))/\Hid (p.1=tf s0 (l.take k))/\∀b d c L,(H++b::d::c::(p.2.2.2++L))[p.2.1.1]?=some (.AU 5 (p.1.AE.map Slot.cells) p.2.1.2.2.2.2.1)/\(H++b::d::c::(p.2.2.2++L))[p.2.1.2.1]?=some (.AU 13 (p.1.AB.map AN.cells) p.2.1.2.2.2.2.2)) l.length ?_ (a0:=(s0,(oS,oT,fS,fT,rS,rT),[],[])) ⟨.refl d,rfl,rfl,rfl,λb d c L=>⟨kS _,kT _⟩⟩
 rintro k ⟨s,⟨pS,pT,gS,gT,qS,qT⟩,rs,G⟩ hk ⟨hs,hrl,hro,hps,hi⟩ next
 simp only at hs hrl hro hps hi next ⊢
 have hiS:=λb d c L=>(hi b d c L).1
 have hiT:=λb d c L=>(hi b d c L).2
 have hiS0:=λb d c=>by have:=hiS b d c [];rw[Qf]at this;exact this
 have hiT0:=λb d c=>by have:=hiT b d c [];rw[Qf]at this;exact this
 have hi':Hid (∀b d c L,_):=hi
 clear hi
 have hi:=hi'
 clear hi'
 have hdeep:∀(b d c x:Au) (L:AP),(H++b::d::c::(G++x::L))[H.length+(G.length+3)]?=some x:=λb d c x L=>by
  rw[Qc (by omega),Nat.add_sub_cancel_left]
  rw[show(b::d::c::(G++x::L))=(b::d::c::G)++x::L by simp,Qc (by simp)];simp
 refine AK.unfold ?_
 have hw:=AY (k:=k) (by omega)
 have hlS:s.AE.length<=1000:=by rw[hs.lS];have:=d.inv.ok.lS;omega
 have hlT:s.AB.length<=1000:=by rw[hs.lT];have:=d.inv.ok.lT;omega
 have hs':Hid (tk s0 s):=hs
 clear hs
 by_cases hkl:k<l.length
 ·have hx:=kj hok hkl
  have hg:=gz hkl
  have hxf:=fw (x:=l.getD k .zero)
  have hll:(l.map Step.cells).length=l.length:=by simp
  have hst:Hid (tf s0 (l.take (k+1))=tm s (l.getD k .zero)):=by rw[uG hkl,<-hps];exact rfl
  have hsr:Hid (p9 s0 (l.take (k+1))=rs++[vJ s (l.getD k .zero)]):=by rw[uy hkl,<-hps,<-hro];exact rfl
  generalize l.getD k Step.zero=x at*
  obtain⟨u0,u1,u2,u3⟩:=hx
  obtain⟨e,v,n,st,hr⟩:∃e v n st,oC s x.th x.l0 x.l1 x.l2 x.l3=⟨e,v,n,st⟩:=⟨_,_,_,_,rfl⟩
  have hb:(k+1)* 24<=140737488355328:=by omega
  cases st with
  |none=>
   repeat' first|simp only[*,AA b57_3.eq_1,AR,AX,BT,AM,AJ,Qa,apC,go_sem]|apply orR|(apply sp<;>intro hc)|refine tg hr (by first|exact hiS0 _ _ _|exact hiS _ _ _ _) (by first|exact hiT0 _ _ _|exact hiT _ _ _ _) (hdeep _ _ _ _ _) rfl rfl hxf u0 u1 u2 ?_
   have he:tm s x=s:=by simp only[tm,CD.then,hr];rfl
   (refine AK.Az [6,13,2,4,11,12] ?_;simp only[mpC,go_sem];refine next (s,(pS,pT,gS,gT,qS,qT),rs++[_],_) hkl ⟨hs',by rw[Qb,hrl];rfl,by rw[hsr,vJ,hr];exact rfl,by rw[hst,he];exact rfl,λb d c L=>by rw[Qd];exact hi b d c _⟩)
  |some u=>
   repeat' first|simp only[*,AA b57_3.eq_1,AR,AX,BT,AM,AJ,Qa,apC,go_sem]|apply orR|(apply sp<;>intro hc)|refine tj hr (by first|exact hiS0 _ _ _|exact hiS _ _ _ _) (by first|exact hiT0 _ _ _|exact hiT _ _ _ _) (hdeep _ _ _ _ _) rfl rfl hxf u0 u1 u2 ?_
   have he:tm s x=u:=by simp only[tm,CD.then,hr];rfl
   (refine AK.Az [6,13,2,4,11,12] ?_;simp only[mpC,go_sem];refine next (u,(_,_,false,false,false,false),rs++[_],_) hkl ⟨tk.some hs' u3 (by rw[hr]),by rw[Qb,hrl];rfl,by rw[hsr,vJ,hr];exact rfl,by rw[hst,he];exact rfl,λb d c L=>⟨Bb (by simp[AM]),Bb (by simp[AJ])⟩⟩)
 ·have hk':k=l.length:=by omega
  subst hk'
  have hirr:(l.length<l.length)=False:=eq_false (Nat.lt_irrefl _)
  repeat' first|simp only[*,AA b57_3.eq_1,AR,AX,BT,Qa,apC,go_sem]|apply orR|(apply sp<;>intro hc)|fail
  rw[Qe]at hps
  have hps':s=tf s0 l:=hps
  subst hps'
  rw[Qe]at hro
  have hro':rs=p9 s0 l:=hro
  subst hro'
  exact h _ pS pT _ gS gT qS qT ⟨_,rfl⟩ (hiS0 _ _ _) (hiT0 _ _ _) BO
end
end Go.Proofs.YtlaipllgmddkiaaGreat.Ax
