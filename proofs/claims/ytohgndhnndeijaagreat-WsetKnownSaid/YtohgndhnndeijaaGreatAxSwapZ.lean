/- What may be done ahead of others, in a region that draws its order: calls leave places alone that are kept free. Conditions: none. -/
import Derived.Test.YtohgndhnndeijaaGreatAxRefsZ
set_option linter.all false
open List renaming getElem?_set_ne -> Qa, getElem?_set_self -> Qc, getElem?_eq_some_iff -> Qd, getElem?_eq_getElem -> Qe, mem_iff_getElem -> Qf, mem_of_getElem? -> Qg, mem_cons -> Qh
open Ne renaming symm -> Qb
namespace Go.Ax
open Go Go.RowKit
theorem K3{pre:Nat->Bool}{H:AP}:∀{log:Cp},Kk pre H log↔∀e∈log,e.2 H\/pre e.1=true
 |[]=>by simp[Kk]
 |(i,p)::r=>by simp only[Kk,K3 (log:=r),List.forall_mem_cons]
def Ed(l2 l1:Cp):Prop:=∀e∈l2,(∀H,e.2 H)\/∃q:AP->Prop,(e.1,q)∈l1/\∀H,q H->e.2 H
def Kq(log:Cp):Prop:=∀e∈log,∀(H:AP) (k:Nat) (x:Au),H[k]?=some .A1->e.2 H->e.2 (H.set k x)
theorem Ed.refl(l:Cp):Ed l l:=λe he=> .inr ⟨e.2,he,λ_ h=>h⟩
theorem Ed.left{l2 l1:Cp}(h:Ed l2 l1)(e:Nat×(AP->Prop)):Ed l2 (e::l1):=λa ha=>(h a ha).imp id fun⟨q,h1,h2⟩=>⟨q,List.mem_cons_of_mem _ h1,h2⟩
theorem Ed.cons{l2 l1:Cp}(h:Ed l2 l1)(i:Nat){p2 p1:AP->Prop}(hp:∀H,p1 H->p2 H):Ed ((i,p2)::l2) ((i,p1)::l1):=by
 intro a ha
 rcases Qh.1 ha with rfl|ha
 ·exact .inr ⟨p1,List.mem_cons_self,hp⟩
 ·exact h.left _ a ha
theorem Ed.free{l2 l1:Cp}(h:Ed l2 l1)(i:Nat){p:AP->Prop}(hp:∀H,p H):Ed ((i,p)::l2) l1:=by
 intro a ha
 rcases Qh.1 ha with rfl|ha
 ·exact .inl hp
 ·exact h a ha
theorem Ed.trans{a b c:Cp}(h:Ed a b)(g:Ed b c):Ed a c:=by
 intro e he
 rcases h e he with h1|⟨q,h1,h2⟩
 ·exact .inl h1
 ·rcases g _ h1 with h3|⟨r,h3,h4⟩
  ·exact .inl λH=>h2 H (h3 H)
  ·exact .inr ⟨r,h3,λH hr=>h2 H (h4 H hr)⟩
theorem YO{pre:Nat->Bool}{H:AP}{l2 l1:Cp}(h:Ed l2 l1)(hc:Kk pre H l1):Kk pre H l2:=by
 rw[K3]at*
 intro e he
 rcases h e he with h1|⟨q,h1,h2⟩
 ·exact .inl (h1 H)
 ·exact(hc _ h1).imp (h2 H) id
theorem Yy{pre:Nat->Bool}{H:AP}{log:Cp}(h:Kq log){k:Nat}(hk:H[k]?=some .A1)(x:Au)(hc:Kk pre H log):Kk pre (H.set k x) log:=by
 rw[K3]at*
 exact λe he=>(hc e he).imp (h e he H k x hk) id
theorem Kq.step{log:Cp}(h:Kq log)(i:Nat)(T:List AH)(op:GS)(v:AH):Kq ((i,λH=>AV T H op=some (v,H))::log):=by
 intro e he
 rcases Qh.1 he with rfl|he
 ·exact λH k x hk hh=>(G1 hk hh).1
 ·exact h e he
theorem Z9{P:Program}{o:A6}{K K':St->Prop}{s:St}(hk:∀s,K s->K' s)(h:Bu P o K s):Bu P o K' s:=by
 unfold Bu at h ⊢
 split at h
 ·exact h.mono λv H'=>hk _
 ·split at h
  ·exact⟨h.1,h.2.mono λv H'=>hk _⟩
  ·exact h.elim
 ·split at h
  ·rename_i hs;exact hk _ h
  ·exact h.elim
theorem Sc{P:Program}{n0:Nat}{pre:Nat->Bool}{i:Nat}{o:A6}{l1 l2:Cp}{C C':Cp->St->Prop}{s:St}(hl:Ed l2 l1)(hC:∀a1 a2 s,Ed a2 a1->C a1 s->C' a2 s)(h:Kt P n0 pre i o l1 C s):Kt P n0 pre i o l2 C' s:=by
 unfold Kt at h ⊢
 split at h
 ·split at h
  ·exact hC _ _ _ hl h
  ·exact h.elim
 ·split at h
  ·rename_i hq
   rw[if_pos hq]
   split at h
   ·rename_i hs
    refine hC _ _ _ ?_ h
    split
    ·exact hl
    ·exact hl.cons i λ_ h=>h
   ·exact h.elim
  ·rename_i hq
   rw[if_neg hq]
   exact Z9 (λs' ⟨a,b⟩=>⟨YO hl a,hC _ _ _ hl b⟩) h
theorem W7{P:Program}{n0:Nat}{pre:Nat->Bool}{i:Nat}{o:A6}{l1 l2:Cp}{C C':Cp->St->Prop}{s:St}(hl:Ed l2 l1)(hC:∀a1 a2 s,Ed a2 a1->C a1 s->C' a2 s)(h:De P n0 pre i o l1 C s):De P n0 pre i o l2 C' s:=by
 unfold De at h ⊢
 split at h
 ·exact Sc hl hC h
 ·split at h
  ·exact⟨λe=>Sc hl hC (h.1 e),λe=>hC _ _ _ hl (h.2 e)⟩
  ·exact h.elim
theorem Tb{P:Program}{n0:Nat}{pre:Nat->Nat->Bool}{K:St->Prop}:∀{rest:List (Nat×A6)} {l1 l2:Cp} {s:St},Ed l2 l1->Ab P n0 pre rest l1 K s->Ab P n0 pre rest l2 K s
 |[],_,_,_,_,h=>h
 |(i,o)::rest,l1,l2,s,hl,h=>W7 hl (λ_ _ _ hl'=>Tb hl') h
mutual
theorem VR.HK{σ:B0}{H:AP}{k:Nat}{x:Au}:∀{a:AH} {v:Value},VR σ (H.set k x) a v->a.refs (·≠k)->VR σ H a v
 | .ptr ..,_,h,hw=>by simp only[VR,AH.refs]at*;rw[Qa (Qb hw)]at h;exact h
 | .slice ..,_,h,hw=>by simp only[VR,AH.refs]at*;rw[Qa (Qb hw)]at h;exact h
 | .acc ..,_,h,hw=>by simp only[VR,AH.refs]at*;rw[Qa (Qb hw)]at h;exact h
 | .Kl ..,_,h,hw=>by simp only[VR,AH.refs]at*;rw[Qa (Qb hw)]at h;exact h
 | .map ..,_,h,hw=>by simp only[VR,AH.refs]at*;rw[Qa (Qb hw)]at h;exact h
 | .M1 ..,_,h,hw=>by simp only[VR,AH.refs]at*;rw[Qa (Qb hw)]at h;exact h
 | .func _ l,_,h,hw=>by simp only[VR,AH.refs]at*;obtain⟨cs,rfl,hc⟩:=h;exact⟨cs,rfl,BQ.HK hc hw⟩
 | .iface _ v,_,h,hw=>by simp only[VR,AH.refs]at*;obtain⟨cs,rfl,hc⟩:=h;exact⟨cs,rfl,VR.HK hc hw⟩
 | .agg l,_,h,hw=>by simp only[VR,AH.refs]at*;obtain⟨ha,cs,rfl,hc⟩:=h;exact⟨ha,cs,rfl,BQ.HK hc hw⟩
 | .Bj l,_,h,hw=>by simp only[VR,AH.refs]at*;obtain⟨cs,rfl,hc⟩:=h;exact⟨cs,rfl,BQ.HK hc hw⟩
 | .Dk,_,_,_=>by simp[VR]
 | .int ..,_,h,_=>by simpa only[VR] using h
 | .bool _,_,h,_=>by simpa only[VR] using h
 | .str _,_,h,_=>by simpa only[VR] using h
 | .lit _,_,h,_=>by simpa only[VR] using h
theorem BQ.HK{σ:B0}{H:AP}{k:Nat}{x:Au}:∀{l:List AH} {r:List Value},BQ σ (H.set k x) l r->Ay (·≠k) l->BQ σ H l r
 |[],[],_,_=>by simp
 |[],_::_,h,_=>by simp[BQ]at h
 |_::_,[],h,_=>by simp[BQ]at h
 |a::l,v::r,h,hw=>by
  rw[Bn]at h ⊢
  simp only[Ay]at hw
  exact⟨VR.HK h.1 hw.1,BQ.HK h.2 hw.2⟩
end
mutual
theorem VR.refs{σ:B0}{H:AP}{k:Nat}(hk:H[k]?=some .A1):∀{a:AH} {v:Value},VR σ H a v->a.refs (·≠k)
 | .ptr ..,_,h=>by simp only[VR,AH.refs]at*;obtain⟨_,_,_,_,ho,_⟩:=h;intro e;subst e;rw[hk]at ho;cases ho
 | .slice ..,_,h=>by simp only[VR,AH.refs]at*;obtain⟨_,_,_,_,_,ho,_⟩:=h;intro e;subst e;rw[hk]at ho;cases ho
 | .acc ..,_,h=>by simp only[VR,AH.refs]at*;obtain⟨_,_,_,ho,_⟩:=h;intro e;subst e;rw[hk]at ho;cases ho
 | .Kl ..,_,h=>by simp only[VR,AH.refs]at*;obtain⟨_,_,_,_,_,ho,_⟩:=h;intro e;subst e;rw[hk]at ho;cases ho
 | .map ..,_,h=>by simp only[VR,AH.refs]at*;obtain⟨_,_,ho⟩:=h;intro e;subst e;rw[hk]at ho;cases ho
 | .M1 ..,_,h=>by simp only[VR,AH.refs]at*;obtain⟨_,_,_,ho⟩:=h;intro e;subst e;rw[hk]at ho;cases ho
 | .func _ l,_,h=>by simp only[VR,AH.refs]at*;obtain⟨_,_,hc⟩:=h;exact BQ.refs hk hc
 | .iface _ v,_,h=>by simp only[VR,AH.refs]at*;obtain⟨_,_,hc⟩:=h;exact VR.refs hk hc
 | .agg l,_,h=>by simp only[VR,AH.refs]at*;obtain⟨_,_,_,hc⟩:=h;exact BQ.refs hk hc
 | .Bj l,_,h=>by simp only[VR,AH.refs]at*;obtain⟨_,_,hc⟩:=h;exact BQ.refs hk hc
 | .Dk,_,_=>by simp[AH.refs]
 | .int ..,_,_=>by simp[AH.refs]
 | .bool _,_,_=>by simp[AH.refs]
 | .str _,_,_=>by simp[AH.refs]
 | .lit _,_,_=>by simp[AH.refs]
theorem BQ.refs{σ:B0}{H:AP}{k:Nat}(hk:H[k]?=some .A1):∀{l:List AH} {r:List Value},BQ σ H l r->Ay (·≠k) l
 |[],[],_=>by simp[Ay]
 |[],_::_,h=>by simp[BQ]at h
 |_::_,[],h=>by simp[BQ]at h
 |a::l,v::r,h=>by rw[Bn]at h;simp only[Ay];exact⟨VR.refs hk h.1,BQ.refs hk h.2⟩
end
theorem BL.refs{B:Nat->Prop}{σ:B0}{H:AP}{w:World}(h:BL B σ H w){k:Nat}(hk:H[k]?=some .A1):HW (·≠k) H:=by
 intro o x ho
 have hr:=h.obj ho
 cases x with
 |AU s xs ro=>
  obtain⟨h1,h2,h3⟩:=hr
  intro x hx
  rw[Dr]
  intro y hy
  obtain⟨i,hi,rfl⟩:=Qf.1 hx
  obtain⟨j,hj,rfl⟩:=Qf.1 hy
  obtain⟨c,e,fr,hb,hc,-⟩:=h3.resolve_left (by omega)
  obtain⟨v,-,hv⟩:=hc i _ j _ (Qe hi) (Qe hj)
  exact hv.refs hk
 |map es=>obtain⟨-,ms,clock,-,hk',hv⟩:=hr;exact⟨hk'.refs hk,hv.refs hk⟩
 |iter s p=>trivial
 |A1=>trivial
def plus(B:Nat->Prop)(x:Au)(p:Place):Nat->Prop:=λb=>B b\/(x.DB p=true/\b=p.CG)
theorem BL.HK{B:Nat->Prop}{σ:B0}{H:AP}{w:World}{k:Nat}{x:Au}(h:BL B σ (H.set k x) w)(hk:H[k]?=some .A1)(hrf:HW (·≠k) H):BL (plus B x (σ k)) σ H w:=by
 have hkl:k<H.length:=(Qd.1 hk).1
 have hself:(H.set k x)[k]?=some x:=Qc hkl
 have up:∀{o:Nat} {y:Au},H[o]?=some y->y≠ .A1->o≠k/\(H.set k x)[o]?=some y:=fun{o y} ho hy=>by
  have:k≠o:=λe=>by subst e;rw[hk]at ho;injection ho with ho;exact hy ho.symm
  exact⟨Qb this,by rw[Qa this];exact ho⟩
 refine⟨fun{o y} ho=> ?_,fun{o o' y y'} ho ho' hy hy' hbb=> ?_,λb hb=> ?_⟩
 ·cases y with
  |A1=>trivial
  |AU s xs ro=>
   obtain⟨hne,hu⟩:=up ho (by simp)
   obtain⟨h1,h2,h3⟩:=h.obj hu
   refine⟨h1,h2,?_⟩
   by_cases hroom:(σ o).room=0
   ·exact .inl hroom
   ·right
    obtain⟨c,e,fr,hb,hc,hn,hr⟩:=h3.resolve_left hroom
    refine⟨c,e,fr,hb,λi x' j a hi hj=> ?_,λhro=> ?_,λhro=> .inl (hr hro)⟩
    ·obtain⟨v,hv,hrv⟩:=hc i x' j a hi hj
     exact⟨v,hv,hrv.HK (Dr.1 (hrf o _ ho x' (Qg hi)) a (Qg hj))⟩
    ·obtain⟨q1,q2,q3,q4⟩:=hn hro
     refine⟨λhh=> ?_,q2,q3,q4⟩
     rcases hh with hh|⟨hx,hh⟩
     ·exact q1 hh
     ·exact hne (h.apart hu hself (by subst hro;simp[Au.DB,hroom]) hx hh)
  |map es=>
   obtain⟨hne,hu⟩:=up ho (by simp)
   obtain⟨h1,ms,clock,hb,hk',hv⟩:=h.obj hu
   refine⟨λhh=> ?_,ms,clock,hb,hk'.HK (hrf o _ ho).1,hv.HK (hrf o _ ho).2⟩
   rcases hh with hh|⟨hx,hh⟩
   ·exact h1 hh
   ·exact hne (h.apart hu hself rfl hx hh)
  |iter s p=>
   obtain⟨hne,hu⟩:=up ho (by simp)
   obtain⟨h1,hb⟩:=h.obj hu
   refine⟨λhh=> ?_,hb⟩
   rcases hh with hh|⟨hx,hh⟩
   ·exact h1 hh
   ·exact hne (h.apart hu hself rfl hx hh)
 ·have n1:y≠ .A1:=by rintro rfl;cases hy
  have n2:y'≠ .A1:=by rintro rfl;cases hy'
  exact h.apart (up ho n1).2 (up ho' n2).2 hy hy' hbb
 ·rcases hb with hb|⟨hx,rfl⟩
  ·exact h.base b hb
  ·exact Tn h hself hx
theorem BL.fi{B:Nat->Prop}{σ σ':B0}{H H':AP}{w w':World}{k:Nat}{x:Au}(h0:BL B σ (H.set k x) w)(hx:x.LK=true)(hk:H[k]?=some .A1)(h:BL (plus B x (σ k)) σ' H' w')(he:Ext σ H σ' H')
 (hw:Kept (plus B x (σ k)) w w'):BL B (σ'.Ec k (σ k)) (H'.set k x) w'/\Ext σ (H.set k x) (σ'.Ec k (σ k)) (H'.set k x)/\Grow σ' H' (σ'.Ec k (σ k)) (H'.set k x):=by
 have hkl:k<H.length:=(Qd.1 hk).1
 have hkl':k<H'.length:=Nat.lt_of_lt_of_le hkl he.size
 have hk':=he.A1 hk
 have hself:(H.set k x)[k]?=some x:=Qc hkl
 have hself':(H'.set k x)[k]?=some x:=Qc hkl'
 have hs:∀{o:Nat},o≠k->(σ'.Ec k (σ k)) o=σ' o:=λho=>by simp[B0.Ec,ho]
 have hsk:(σ'.Ec k (σ k)) k=σ k:=by simp[B0.Ec]
 have ne:∀{o:Nat} {y:Au},H[o]?=some y->y≠ .A1->o≠k:=λho hy e=>by subst e;rw[hk]at ho;injection ho with ho;exact hy ho.symm
 have ne':∀{o:Nat} {y:Au},H'[o]?=some y->y≠ .A1->o≠k:=λho hy e=>by subst e;rw[hk']at ho;injection ho with ho;exact hy ho.symm
 have hgrow:Grow σ' H' (σ'.Ec k (σ k)) (H'.set k x):=by
  refine⟨by simp,fun{o s xs ro} ho=> ?_,fun{o es} ho=> ?_,fun{o s p} ho=> ?_⟩
  ·have:=ne' ho (by simp)
   exact⟨xs,by rw[Qa (Qb this)];exact ho,Nat.le_refl _,λ_=>hs this⟩
  ·have:=ne' ho (by simp)
   exact⟨⟨es,by rw[Qa (Qb this)];exact ho⟩,hs this⟩
  ·have:=ne' ho (by simp)
   exact⟨⟨s,p,by rw[Qa (Qb this)];exact ho⟩,hs this⟩
 have hxg:x≠ .A1:=by rintro rfl;cases hx
 have hxr:∀s xs,x≠ .AU s xs true:=by rintro s xs rfl;cases hx
 have hext:Ext σ (H.set k x) (σ'.Ec k (σ k)) (H'.set k x):=by
  refine⟨⟨by simpa using he.size,fun{o s xs ro} ho=> ?_,fun{o es} ho=> ?_,fun{o s p} ho=> ?_⟩,fun{o} ho=> ?_,fun{o s xs} ho=> ?_⟩
  ·by_cases e:k=o
   ·subst e
    rw[hself]at ho;injection ho with ho;subst ho
    exact⟨xs,hself',Nat.le_refl _,λ_=>hsk⟩
   ·rw[Qa e]at ho ⊢
    rw[hs (Qb e)]
    exact he.AU ho
  ·by_cases e:k=o
   ·subst e
    rw[hself]at ho;injection ho with ho;subst ho
    exact⟨⟨es,hself'⟩,hsk⟩
   ·rw[Qa e]at ho ⊢
    rw[hs (Qb e)]
    exact he.map ho
  ·by_cases e:k=o
   ·subst e
    rw[hself]at ho;injection ho with ho;subst ho
    exact⟨⟨s,p,hself'⟩,hsk⟩
   ·rw[Qa e]at ho ⊢
    rw[hs (Qb e)]
    exact he.iter ho
  ·by_cases e:k=o
   ·subst e;rw[hself]at ho;injection ho with ho;exact absurd ho hxg
   ·rw[Qa e]at ho ⊢;exact he.A1 ho
  ·by_cases e:k=o
   ·subst e;rw[hself']at ho;injection ho with ho;exact absurd ho (hxr _ _)
   ·rw[Qa e]at ho ⊢
    rw[hs (Qb e)]
    exact he.Cd ho
 refine⟨⟨fun{o y} ho=> ?_,fun{o o' y y'} ho ho' hy hy' hbb=> ?_,λb hb=>Nat.lt_of_lt_of_le (h0.base b hb) hw.size⟩,hext,hgrow⟩
 ·by_cases e:k=o
  ·subst e
   rw[hself']at ho;injection ho with ho;subst ho
   rw[hsk]
   by_cases hown:x.DB (σ k)=true
   ·exact(h0.obj hself).ext hext (hw.block _ (.inr ⟨hown,rfl⟩))
   ·have hr:=h0.obj hself
    cases x with
    |AU s xs ro=>
     cases ro with
     |true=>cases hx
     |false=>
      obtain⟨h1,h2,h3⟩:=hr
      exact⟨h1,h2,.inl (by simpa [Au.DB] using hown)⟩
    |map es=>exact absurd rfl hown
    |iter s p=>exact absurd rfl hown
    |A1=>trivial
  ·rw[Qa e]at ho
   rw[hs (Qb e)]
   have hr:=(h.obj ho).grow hgrow (w':=w') rfl
   cases y with
   |A1=>trivial
   |AU s xs ro=>
    obtain⟨h1,h2,h3⟩:=hr
    refine⟨h1,h2,?_⟩
    by_cases hroom:(σ' o).room=0
    ·exact .inl hroom
    right
    obtain⟨c,e',fr,hb,hc,hn,hro⟩:=h3.resolve_left hroom
    refine⟨c,e',fr,hb,hc,λq=>⟨λhh=>(hn q).1 (.inl hh),(hn q).2⟩,λq=> ?_⟩
    subst q
    obtain⟨⟨xs0,ho0⟩,hso⟩:=he.Cd ho
    have hu:(H.set k x)[o]?=some (.AU s xs0 true):=by rw[Qa e];exact ho0
    obtain⟨g1,g2,g3⟩:=h0.obj hu
    rw[hso]at hroom ⊢
    obtain⟨_,_,_,_,_,_,g4⟩:=g3.resolve_left hroom
    exact g4 rfl
   |map es=>
    obtain⟨h1,r⟩:=hr
    exact⟨λhh=>h1 (.inl hh),r⟩
   |iter s p=>exact⟨λhh=>hr.1 (.inl hh),hr.2⟩
 ·by_cases e:k=o<;>by_cases e':k=o'
  ·omega
  ·exfalso
   subst e
   rw[hself']at ho;injection ho with ho;subst ho
   rw[Qa e']at ho'
   rw[hsk]at hy hbb
   rw[hs (Qb e')]at hy' hbb
   have hr:=h.obj ho'
   have hB:plus B x (σ k) (σ' o').CG:= .inr ⟨hy,hbb.symm⟩
   cases y' with
   |A1=>cases hy'
   |AU s xs ro=>
    obtain⟨h1,h2,h3⟩:=hr
    simp[Au.DB]at hy'
    obtain⟨_,_,_,_,_,hn,_⟩:=h3.resolve_left hy'.2
    exact(hn hy'.1).1 hB
   |map es=>exact hr.1 hB
   |iter s p=>exact hr.1 hB
  ·exfalso
   subst e'
   rw[hself']at ho';injection ho' with ho';subst ho'
   rw[Qa e]at ho
   rw[hsk]at hy' hbb
   rw[hs (Qb e)]at hy hbb
   have hr:=h.obj ho
   have hB:plus B x (σ k) (σ' o).CG:= .inr ⟨hy',hbb⟩
   cases y with
   |A1=>cases hy
   |AU s xs ro=>
    obtain⟨h1,h2,h3⟩:=hr
    simp[Au.DB]at hy
    obtain⟨_,_,_,_,_,hn,_⟩:=h3.resolve_left hy.2
    exact(hn hy.1).1 hB
   |map es=>exact hr.1 hB
   |iter s p=>exact hr.1 hB
  ·rw[Qa e]at ho
   rw[Qa e']at ho'
   rw[hs (Qb e)]at hy hbb
   rw[hs (Qb e')]at hy' hbb
   exact h.apart ho ho' hy hy' hbb
theorem AF.aj{P:Program}{f:FuncId}{args:List AH}{H:AP}{K:AH->AP->Prop}(h:AF P f args H K):
 AF P f args H λv H'=>K v H'/\∀k:Nat,H[k]?=some .A1->H'[k]?=some .A1/\v.refs (·≠k)/\HW (·≠k) H':=
 λB σ w vs hR hV=>(h B σ w vs hR hV).mono λ_ _ ⟨x,σ',v,H',he,hK,hR',hv,hext,hb⟩=>
  ⟨x,σ',v,H',he,⟨hK,λk hk=>⟨hext.A1 hk,hv.refs (hext.A1 hk),hR'.refs (hext.A1 hk)⟩⟩,hR',hv,hext,hb⟩
theorem AF.frame{P:Program}{f:FuncId}{args:List AH}{H:AP}{K:AH->AP->Prop}{k:Nat}{x:Au}(hk:H[k]?=some .A1)(hx:x.LK=true)(ha:Ay (·≠k) args)(hrf:HW (·≠k) H)(h:AF P f args H K):
 AF P f args (H.set k x) λv H''=>∃H',K v H'/\H''=H'.set k x:=by
 intro B σ w vs hR hV
 refine(h _ σ w vs (hR.HK hk hrf) (hV.HK ha)).mono ?_
 rintro e w' ⟨y,σ',v,H',rfl,hK,hR',hv,hext,hb⟩
 obtain⟨g1,g2,g3⟩:=BL.fi hR hx hk hR' hext hb
 exact⟨y,_,v,H'.set k x,rfl,⟨H',hK,rfl⟩,g1,hv.grow g3,g2,hb.mono λb hb=> .inl hb⟩
end Go.Ax
