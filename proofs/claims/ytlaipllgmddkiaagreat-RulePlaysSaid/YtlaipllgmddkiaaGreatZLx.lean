/- Texts put behind one another: LRulePlays. Conditions: none. -/
import Derived.Test.YtlaipllgmddkiaaGreatSAllZ
import Derived.Test.YtlaipllgmddkiaaGreatZRf2
import Derived.Test.YtlaipllgmddkiaaGreatSOwn21Z
set_option linter.all false
set_option maxHeartbeats 9999999
open Nat renaming add_assoc -> Qa
open List renaming append_nil -> Qb, getElem?_append_right -> Qc, append_assoc -> Qd
namespace Go.Proofs.YtlaipllgmddkiaaGreat.Ax
open Go Go.Ax Go.Ax.M
set_option maxRecDepth 100000
set_option maxHeartbeats 8000000 in
theorem uD(H:AP)(bs:List AH)(h:EU Tryz.prog H 8 [23,3,63] bs):AF Tryz.prog 11 bs H λv _=>v= .bool true:=by
 obtain⟨a1,l,rfl,h1,h⟩:=Bz h
 obtain⟨a2,l,rfl,h2,h⟩:=Bz h
 obtain⟨a3,l,rfl,h3,h⟩:=Bz h
 obtain rfl:=Fu h
 obtain⟨cs,rfl,hs⟩:=h1.struct Tryz.underlying23
 obtain⟨g,rfl⟩:=TM hs
 clear hs
 obtain⟨room,rfl,-⟩:=h2.int Tryz.underlying3
 obtain⟨oL,l,rfl,hL,hok⟩:=gN h3
 clear h1 h2 h3 h
 have kL:=AL.of hL
 unfold SY.cells
 have hss:∀s,Gs s s=true:=λs=>IQ.2 rfl
 by_cases hlen:60<l.length
 ·have h60:((60:Int)<(l.length:Int))=True:=eq_true (by omega)
  refine Aa ok11 ?_;repeat' first|simp only[*,go_sem]|apply orR|(apply sp<;>intro hc)|refine tl ?_
 ·have h60:((60:Int)<(l.length:Int))=False:=eq_false (by omega)
  cases hn:pk g room with
  |false=>
   refine Aa ok11 ?_;repeat' first|simp only[*,rh,go_sem]|apply orR|(apply sp<;>intro hc)|refine tl ?_|refine sm (g:=g) (λ_=> ?_) (λe=>absurd (hn.symm.trans e) (by decide))|refine s8 (g:=g) (λ_=> ?_) (λe=>absurd (hn.symm.trans e) (by decide))
  |true=>
   refine Aa ok11 ?_;repeat' first|simp only[*,BT,AM,AJ,Qa,go_sem]|apply orR|(apply sp<;>intro hc)|refine tl ?_|refine sm (g:=g) (λe=>absurd (hn.symm.trans e) (by decide)) (λ_=> ?_)|refine s8 (g:=g) (λe=>absurd (hn.symm.trans e) (by decide)) (λ_=> ?_)
   have hd0:rk (pI g room):=by
    have hg:Ee g=true:=by rw[pk,Bool.and_eq_true]at hn;exact hn.1
    have hb:=Hb hg
    obtain⟨x0,x1,x2⟩:=g
    simp only at hb
    obtain⟨T,rfl⟩:∃T:Nat,x0=(T:Int):=⟨x0.toNat,by omega⟩
    obtain⟨N,rfl⟩:∃N:Nat,x1=(N:Int):=⟨x1.toNat,by omega⟩
    obtain⟨M,rfl⟩:∃M:Nat,x2=(M:Int):=⟨x2.toNat,by omega⟩
    exact tF hn
   have newSpec:=fun(H':AP) (K':AH->AP->Prop) q=>sm (H:=H') (K:=K') (g:=g) (room:=room) (λe=>absurd (hn.symm.trans e) (by decide)) (λ_=>q)
   have s0e:Hid (pI g room=pI g room):=rfl
   generalize hS0:pI g room=S0 at*
   have hS0:Hid (_=_):=hS0
   clear hn
   have i0:=hd0.inv
   have l0S:S0.AE.length<=1000:=by have:=i0.ok.lS;omega
   have l0T:S0.AB.length<=1000:=by have:=i0.ok.lT;omega
   refine AK.Az [11,1,2,3,7,9] ?_;simp only[mpC,go_sem]
   refine AK.acc (λk (p:State×(Nat×Nat×Bool×Bool)×(Nat×Nat×Bool×Bool)×AP)=>[(11,nS (k:Int))]) (λk p=>H++_:: .AU 5 (S0.AE.map Slot.cells) false:: .AU 13 (S0.AB.map AN.cells) false:: .AU 5 [[nS p.1.AS.AI,nS p.1.AS.AE,nS p.1.AS.AB,.slice p.2.1.1 p.1.AE.length 0 p.1.AE.length p.2.1.2.2.1,.slice p.2.1.2.1 p.1.AB.length 0 p.1.AB.length p.2.1.2.2.2]] false:: .AU 5 (S0.AE.map Slot.cells) false:: .AU 13 (S0.AB.map AN.cells) false:: .AU 5 [[nS p.1.AS.AI,nS p.1.AS.AE,nS p.1.AS.AB,.slice p.2.2.1.1 p.1.AE.length 0 p.1.AE.length p.2.2.1.2.2.1,.slice p.2.2.1.2.1 p.1.AB.length 0 p.1.AB.length p.2.2.1.2.2.2]] false::p.2.2.2)
    (λk p=>tk S0 p.1/\Hid (p.1=tf S0 (l.take k))/\∀a b c L,((H++a:: .AU 5 (S0.AE.map Slot.cells) false:: .AU 13 (S0.AB.map AN.cells) false::b:: .AU 5 (S0.AE.map Slot.cells) false:: .AU 13 (S0.AB.map AN.cells) false::c::(p.2.2.2++L))[p.2.1.1]?=some (AM p.1)/\(H++a:: .AU 5 (S0.AE.map Slot.cells) false:: .AU 13 (S0.AB.map AN.cells) false::b:: .AU 5 (S0.AE.map Slot.cells) false:: .AU 13 (S0.AB.map AN.cells) false::c::(p.2.2.2++L))[p.2.1.2.1]?=some (AJ p.1))/\(H++a:: .AU 5 (S0.AE.map Slot.cells) false:: .AU 13 (S0.AB.map AN.cells) false::b:: .AU 5 (S0.AE.map Slot.cells) false:: .AU 13 (S0.AB.map AN.cells) false::c::(p.2.2.2++L))[p.2.2.1.1]?=some (AM p.1)/\(H++a:: .AU 5 (S0.AE.map Slot.cells) false:: .AU 13 (S0.AB.map AN.cells) false::b:: .AU 5 (S0.AE.map Slot.cells) false:: .AU 13 (S0.AB.map AN.cells) false::c::(p.2.2.2++L))[p.2.2.1.2.1]?=some (AJ p.1)) l.length ?_ (a0:=(S0,(H.length+1,H.length+2,true,true),(H.length+4,H.length+5,true,true),[])) ⟨.refl hd0,rfl,λa b c L=>⟨⟨BP,BO⟩,BU,BV⟩⟩
   rintro k ⟨s,⟨pS,pT,fS,fT⟩,⟨qS,qT,gS,gT⟩,G⟩ hk ⟨hs,hps,hi⟩ next
   simp only at hs hps hi next ⊢
   generalize hO0:Au.AU 5 (S0.AE.map Slot.cells) false=o0 at*
   generalize hO1:Au.AU 13 (S0.AB.map AN.cells) false=o1 at*
   have hiS:=λa b c L=>(hi a b c L).1.1
   have hiT:=λa b c L=>(hi a b c L).1.2
   have hjS:=λa b c L=>(hi a b c L).2.1
   have hjT:=λa b c L=>(hi a b c L).2.2
   have hiS0:=λa b c=>by have:=hiS a b c [];rw[Qb]at this;exact this
   have hiT0:=λa b c=>by have:=hiT a b c [];rw[Qb]at this;exact this
   have hjS0:=λa b c=>by have:=hjS a b c [];rw[Qb]at this;exact this
   have hjT0:=λa b c=>by have:=hjT a b c [];rw[Qb]at this;exact this
   simp only[AM]at hiS hiS0 hjS hjS0
   simp only[AJ]at hiT hiT0 hjT hjT0
   have hi':Hid (∀a b c L,_):=hi
   clear hi
   have hi:=hi'
   clear hi'
   have hdp:∀(a b c x:Au) (L:AP) (j:Nat),L[j]?=some x->(H++a::o0::o1::b::o0::o1::c::(G++L))[H.length+(G.length+(j+7))]?=some x:=λa b c x L j h=>by
    rw[Qc (by omega),Nat.add_sub_cancel_left]
    rw[show(a::o0::o1::b::o0::o1::c::(G++L))=(a::o0::o1::b::o0::o1::c::G)++L by simp,Qc (by simp;omega)]
    rw[show G.length+(j+7)-(a::o0::o1::b::o0::o1::c::G).length=j by simp;omega];exact h
   refine AK.unfold ?_
   have hw:=AY (k:=k) (by omega)
   have hlS:s.AE.length<=1000:=by rw[hs.lS];exact l0S
   have hlT:s.AB.length<=1000:=by rw[hs.lT];exact l0T
   have hsg:BN s=true:=hs.uW.inv.ok.DR
   have hs':Hid (tk S0 s):=hs
   have hd:rk s:=hs.uW
   clear hs
   by_cases hkl:k<l.length
   ·have hx:=kj hok hkl
    have hg:=gz hkl
    have hxf:=fw (x:=l.getD k .zero)
    have hll:(l.map Step.cells).length=l.length:=by simp
    have hst:Hid (tf S0 (l.take (k+1))=tm s (l.getD k .zero)):=by rw[uG hkl,<-hps];exact rfl
    generalize l.getD k Step.zero=x at*
    obtain⟨u0,u1,u2,u3⟩:=hx
    obtain⟨e,v,n,st,hr⟩:∃e v n st,oC s x.th x.l0 x.l1 x.l2 x.l3=⟨e,v,n,st⟩:=⟨_,_,_,_,rfl⟩
    cases st with
    |none=>
     repeat' first|simp only[*,AA b11_8.eq_1,AR,AX,BT,AM,AJ,Qa,apC,go_sem]|apply orR|(apply sp<;>intro hc)|refine tg hr (by first|exact hiS0 _ _ _|exact hiS _ _ _ _) (by first|exact hiT0 _ _ _|exact hiT _ _ _ _) (kL _) hll hg hxf u0 u1 u2 ?_|refine uB hd hr (by first|exact hjS0 _ _ _|exact hjS _ _ _ _) (by first|exact hjT0 _ _ _|exact hjT _ _ _ _) (kL _) hll hg hxf u0 u1 u2 ?_|refine tr ?_|refine tq (s:=s) hlS hlT (by first|exact hiS0 _ _ _|exact hiS _ _ _ _) (by first|exact hiT0 _ _ _|exact hiT _ _ _ _) ?_|refine DH (s:=s) (u:=s) (hdp _ _ _ _ _ _ rfl) (hdp _ _ _ _ _ _ rfl) (by first|exact hjS0 _ _ _|exact hjS _ _ _ _) (by first|exact hjT0 _ _ _|exact hjT _ _ _ _) hlS hlT ?_|refine AW (s:=s) (by first|exact hiS0 _ _ _|exact hiS _ _ _ _) (by first|exact hiT0 _ _ _|exact hiT _ _ _ _) ?_
     have he:tm s x=s:=by simp only[tm,CD.then,hr];rfl
     (refine AK.Az [11,1,2,3,7,9] ?_;simp only[mpC,go_sem];refine next (s,(pS,pT,fS,fT),(qS,qT,gS,gT),_) hkl ⟨hs',by rw[hst,he];exact rfl,λa b c L=>by rw[Qd];exact hi a b c _⟩)
    |some u=>
     have hu:tk S0 u:=tk.some hs' u3 (by rw[hr])
     have hlSu:u.AE.length<=1000:=by rw[hu.lS];exact l0S
     have hlTu:u.AB.length<=1000:=by rw[hu.lT];exact l0T
     have hug:BN u=true:=hu.uW.inv.ok.DR
     have hu':Hid (tk S0 u):=hu
     clear hu
     repeat' first|simp only[*,AA b11_8.eq_1,AR,AX,BT,AM,AJ,Qa,apC,go_sem]|apply orR|(apply sp<;>intro hc)|refine tj hr (by first|exact hiS0 _ _ _|exact hiS _ _ _ _) (by first|exact hiT0 _ _ _|exact hiT _ _ _ _) (kL _) hll hg hxf u0 u1 u2 ?_|refine uC hd hr (by first|exact hjS0 _ _ _|exact hjS _ _ _ _) (by first|exact hjT0 _ _ _|exact hjT _ _ _ _) (kL _) hll hg hxf u0 u1 u2 ?_|refine tr ?_|refine tq (s:=u) hlSu hlTu (hdp _ _ _ _ _ _ rfl) (hdp _ _ _ _ _ _ rfl) ?_|refine DH (s:=u) (u:=u) (hdp _ _ _ _ _ _ rfl) (hdp _ _ _ _ _ _ rfl) (hdp _ _ _ _ _ _ rfl) (hdp _ _ _ _ _ _ rfl) hlSu hlTu ?_|refine AW (s:=u) (hdp _ _ _ _ _ _ rfl) (hdp _ _ _ _ _ _ rfl) ?_
     have he:tm s x=u:=by simp only[tm,CD.then,hr];rfl
     (refine AK.Az [11,1,2,3,7,9] ?_;simp only[mpC,go_sem];refine next (u,(_,_,false,false),(_,_,false,false),_) hkl ⟨hu',by rw[hst,he];exact rfl,λa b c L=>by rw[Qd];exact⟨⟨hdp _ _ _ _ _ _ rfl,hdp _ _ _ _ _ _ rfl⟩,hdp _ _ _ _ _ _ rfl,hdp _ _ _ _ _ _ rfl⟩⟩)
   ·have hk':k=l.length:=by omega
    subst hk'
    rw[List.take_length]at hps
    have hpe:s=tf S0 l:=hps
    have hirr:(l.length<l.length)=False:=eq_false (Nat.lt_irrefl _)
    have hl60:l.length<=60:=by omega
    subst hpe
    clear next
    repeat' first|simp only[*,AA b11_8.eq_1,AR,AX,BT,AM,AJ,Qa,apC,go_sem]|apply orR|(apply sp<;>intro hc)|refine newSpec _ _ ?_|(refine uE (rS:=false) (rT:=false) hd0 hl60 hok (kL _) (by show _=some _;rw[hO0];exact hdp _ _ _ _ _ _ rfl) (by show _=some _;rw[hO1];exact hdp _ _ _ _ _ _ rfl) (λH' p q o f f' r r' hx hS hT _=> ?_);have kp:=AL.of hS;have kq:=AL.of hT;have kb:=(show AL _ (H.length+3) _ from AL.of BR).ex hx;have kb0:=kb.at;have ks:=(show AL _ pS _ from AL.of (hiS _ _ _ _)).ex hx;have kt:=(show AL _ pT _ from AL.of (hiT _ _ _ _)).ex hx;clear hx)|refine BS (s:=tf S0 l) (u:=tf S0 l) (kp _) (kq _) (ks _) (kt _) hlS hlT ?_
    all_goals trace_state
end Go.Proofs.YtlaipllgmddkiaaGreat.Ax
