/- A slice that is nil, seen as one over an empty object of its own. Conditions: none. -/
import Derived.Test.YtohgndhnndeijaaGreatAxTacZ
set_option linter.all false
open List renaming getElem?_eq_some_iff -> Qa, getElem?_append_left -> Qb, getElem?_eq_getElem -> Qc, map_cons -> Qd
namespace Go.Ax
open Go
theorem BL.lay{B:Nat->Prop}{σ:B0}{H:AP}{w:World}(h:BL B σ H w)(s:Nat):BL B (σ.Ec H.length ⟨0,0,0⟩) (H++[.AU s [] false]) w:=by
 have hg:=Grow.push σ H (.AU s [] false) ⟨0,0,0⟩
 have Cd:∀{q:Nat} {z:Au},q≠H.length->(H++[.AU s [] false])[q]?=some z->H[q]?=some z:=by
  intro q z hq hz
  rcases Nat.lt_or_ge q H.length with h'|h'
  ·rwa [Qb h']at hz
  ·rw[List.getElem?_eq_none (by simp;omega)]at hz;cases hz
 have new:∀{z:Au},(H++[.AU s [] false])[H.length]?=some z->z= .AU s [] false:=by
  intro z hz;simp at hz;exact hz.symm
 refine⟨fun{o x} ho=> ?_,fun{o o' x x'} ho ho' hx hx' hb=> ?_,h.base⟩
 ·by_cases e:o=H.length
  ·subst e
   have:=new ho;subst this
   exact⟨by simp,Nat.zero_le _,.inl (by simp[B0.Ec])⟩
  ·have:=(h.obj (Cd e ho)).grow hg (w':=w) rfl
   simpa [B0.Ec,e] using this
 ·have ne:∀{q:Nat} {z:Au},(H++[.AU s [] false])[q]?=some z->z.DB ((σ.Ec H.length ⟨0,0,0⟩) q)=true->q≠H.length:=by
   intro q z hq hz e
   subst e
   have:=new hq;subst this
   simp[Au.DB,B0.Ec]at hz
  have e1:=ne ho hx
  have e2:=ne ho' hx'
  simp only[B0.Ec,e1,e2,if_false]at hx hx' hb
  exact h.apart (Cd e1 ho) (Cd e2 ho') hx hx' hb
def Hd(o:Nat)(a b:AH):Prop:=b=a\/(a= .lit (.slice none 0 0)/\b= .slice o 0 0 0 false)
theorem VR.Hd{σ:B0}{H:AP}{o s:Nat}{a b:AH}{v:Value}{ro:Bool}(ho:H[o]?=some (.AU s [] ro))(h:VR σ H a v)(hn:Hd o a b):VR σ H b v:=by
 rcases hn with rfl|⟨rfl,rfl⟩
 ·exact h
 ·simp only[VR]at h ⊢
  exact⟨s,[],ro,none,0,ho,by simp,by simp,h,by simp,λ_=>rfl,λ_=>rfl,λ_=>⟨by simp,λe=>absurd rfl e⟩⟩
theorem BQ.Hd{σ:B0}{H:AP}{o s:Nat}{ro:Bool}(ho:H[o]?=some (.AU s [] ro)):∀(L:List Nat) (f g:Nat->AH) (vs:List Value),BQ σ H (L.map f) vs->(∀t,Hd o (f t) (g t)\/g t= .Dk)->BQ σ H (L.map g) vs
 |[],_,_,[],_,_=>by simp
 |[],_,_,_::_,h,_=>by simp[BQ]at h
 |_::_,_,_,[],h,_=>by simp[BQ]at h
 |t::L,f,g,v::vs,h,hg=>by
  rw[Qd,Bn]at h ⊢
  refine⟨?_,BQ.Hd ho L f g vs h.2 hg⟩
  rcases hg t with hn|hn
  ·exact h.1.Hd ho hn
  ·rw[hn];simp[VR]
theorem AK.mg{P:Program}{n0:Nat}{c:AD}{Q:Exit->St->Prop}{n:Nat}{l:List (Nat×AH)}{H:AP}(s:Nat){l':List (Nat×AH)}(hw:∀t,Hd H.length (Fs l t) (Fs l' t)\/Fs l' t= .Dk)
 (h:AK P n0 c Q ⟨OF n l',H++[.AU s [] false]⟩):AK P n0 c Q ⟨OF n l,H⟩:=by
 intro code hok B σ0 H0 w0 σ a w e hh
 have hx:Ext σ H (σ.Ec H.length ⟨0,0,0⟩) (H++[.AU s [] false]):=Ext.push σ H _ _ rfl
 refine h code hok B σ0 H0 w0 (σ.Ec H.length ⟨0,0,0⟩) a w e ⟨hh.rel.lay s,?_,hh.ext.trans hx,hh.below,hh.defers⟩
 exact BQ.Hd (o:=H.length) (s:=s) (ro:=false) (by simp) _ _ _ _ (hh.tmps.ext hx) hw
theorem AK.lay{P:Program}{n0:Nat}{c:AD}{Q:Exit->St->Prop}{n d:Nat}{l:List (Nat×AH)}{H:AP}(s:Nat)
 (h:AK P n0 c Q ⟨OF n ((d,.slice H.length 0 0 0 false)::l),H++[.AU s [] false]⟩):AK P n0 c Q ⟨OF n ((d,.lit (.slice none 0 0))::l),H⟩:=by
 refine AK.mg s (λt=> .inl ?_) h
 simp only[Fs]
 split
 ·exact .inr ⟨rfl,rfl⟩
 ·exact .inl rfl
theorem BL.less{B:Nat->Prop}{σ:B0}{H:AP}{w:World}(h:BL B σ H w){i s:Nat}{x y:List AH}{ro:Bool}(hi:H[i]?=some (.AU s [x] ro))(hl:y.length=x.length)(hc:y.all AH.cell=true)
 (hv:∀(j:Nat) (a b:AH) (v:Value),x[j]?=some a->y[j]?=some b->VR σ H a v->VR σ H b v):BL B σ (H.set i (.AU s [y] ro)) w/\Ext σ H σ (H.set i (.AU s [y] ro)):=by
 have hil:i<H.length:=(Qa.1 hi).1
 have get:∀{q:Nat} {z:Au},(H.set i (.AU s [y] ro))[q]?=some z->(q=i/\z= .AU s [y] ro)\/(q≠i/\H[q]?=some z):=by
  intro q z hq
  rw[List.getElem?_set]at hq
  split at hq
  ·rename_i e;subst e;injection hq with hq;exact .inl ⟨rfl,hq.symm⟩
  ·rename_i e;exact .inr ⟨λe'=>e e'.symm,hq⟩
 have set:∀{q:Nat} {z:Au},H[q]?=some z->q≠i->(H.set i (.AU s [y] ro))[q]?=some z:=by
  intro q z hq e;rw[List.getElem?_set_ne (λe'=>e e'.symm)];exact hq
 have FV:(H.set i (.AU s [y] ro))[i]?=some (.AU s [y] ro):=List.getElem?_set_self hil
 have hg:Grow σ H σ (H.set i (.AU s [y] ro)):=by
  refine⟨by simp,fun{o s' xs ro'} ho=> ?_,fun{o es} ho=> ?_,fun{o s' p} ho=> ?_⟩
  ·by_cases e:o=i
   ·subst e;rw[hi]at ho;injection ho with ho;injection ho with e1 e2 e3;subst e1;subst e2;subst e3
    exact⟨_,FV,by simp,λ_=>rfl⟩
   ·exact⟨_,set ho e,Nat.le_refl _,λ_=>rfl⟩
  ·by_cases e:o=i
   ·subst e;rw[hi]at ho;cases ho
   ·exact⟨⟨_,set ho e⟩,rfl⟩
  ·by_cases e:o=i
   ·subst e;rw[hi]at ho;cases ho
   ·exact⟨⟨_,_,set ho e⟩,rfl⟩
 refine⟨⟨fun{o z} ho=> ?_,fun{o o' z z'} ho ho' hz hz' hb=> ?_,h.base⟩,hg,fun{o} ho=> ?_,fun{o s' xs} ho=> ?_⟩
 ·rcases get ho with⟨rfl,rfl⟩|⟨e,ho⟩
  ·obtain⟨h1,h2,h3⟩:=h.obj hi
   refine⟨λz hz=> ?_,h2,h3.imp id ?_⟩
   ·simp at hz;subst hz
    exact⟨hl.trans (h1 x (by simp)).1,hc⟩
   ·rintro⟨c,e,fr,hb,hcs,hn,hr⟩
    refine⟨c,e,fr,hb,λi' x' j b hi' hj=> ?_,hn,hr⟩
    cases i' with
    |zero=>
     simp at hi';subst hi'
     have hjl:j<x.length:=by rw[<-hl];exact(Qa.1 hj).1
     obtain⟨v,q1,q2⟩:=hcs 0 x j x[j] rfl (Qc hjl)
     exact⟨v,q1,(hv j _ _ v (Qc hjl) hj q2).grow hg⟩
    |succ i'=>simp at hi'
  ·exact(h.obj ho).grow hg rfl
 ·have back:∀{q:Nat} {z:Au},(H.set i (.AU s [y] ro))[q]?=some z->z.DB (σ q)=true->∃z0,H[q]?=some z0/\z0.DB (σ q)=true:=by
   intro q z hq hz
   rcases get hq with⟨rfl,rfl⟩|⟨e,hq⟩
   ·exact⟨_,hi,hz⟩
   ·exact⟨_,hq,hz⟩
  obtain⟨z0,q1,q2⟩:=back ho hz
  obtain⟨z1,q3,q4⟩:=back ho' hz'
  exact h.apart q1 q3 q2 q4 hb
 ·by_cases e:o=i
  ·subst e;rw[hi]at ho;cases ho
  ·exact set ho e
 ·rcases get ho with⟨rfl,e⟩|⟨e,ho⟩
  ·injection e with e1 e2 e3;subst e1;subst e3
   exact⟨⟨_,hi⟩,rfl⟩
  ·exact⟨⟨_,ho⟩,rfl⟩
theorem AK.Kg{P:Program}{n0:Nat}{c:AD}{Q:Exit->St->Prop}{T:List AH}{H:AP}{i k:Nat}{x:List AH}{ro:Bool}(s:Nat)(y:List AH)(hi:H[i]?=some (.AU k [x] ro))(hl:y.length=x.length)(hc:y.all AH.cell=true)
 (hy:∀(j:Nat) (a b:AH),x[j]?=some a->y[j]?=some b->Hd H.length a b) (h:AK P n0 c Q ⟨T,H.set i (.AU k [y] ro)++[.AU s [] false]⟩):AK P n0 c Q ⟨T,H⟩:=by
 intro code hok B σ0 H0 w0 σ a w e hh
 have hx:Ext σ H (σ.Ec H.length ⟨0,0,0⟩) (H++[.AU s [] false]):=Ext.push σ H _ _ rfl
 have hil:i<H.length:=(Qa.1 hi).1
 have hi':(H++[.AU s [] false])[i]?=some (.AU k [x] ro):=by rw[Qb hil];exact hi
 obtain⟨r1,r2⟩:=(hh.rel.lay s).less hi' hl hc (λj a b v ha hb hv=>hv.Hd (o:=H.length) (s:=s) (ro:=false) (by simp) (hy j a b ha hb))
 have e1:(H++[Au.AU s [] false]).set i (.AU k [y] ro)=H.set i (.AU k [y] ro)++[Au.AU s [] false]:=List.set_append_left _ _ hil
 rw[e1]at r1 r2
 exact h code hok B σ0 H0 w0 _ a w e ⟨r1,(hh.tmps.ext hx).ext r2,(hh.ext.trans hx).trans r2,hh.below,hh.defers⟩
def E9(o:Nat):AH->AH
 | .lit (.slice none 0 0)=> .slice o 0 0 0 false
 |a=>a
def D9(o:Nat):AH->AH
 | .agg l=> .agg (l.map (E9 o))
 |a=>E9 o a
theorem K9(o:Nat)(a:AH):Hd o a (E9 o a):=by
 unfold Go.Ax.E9
 split
 ·exact .inr ⟨rfl,rfl⟩
 ·exact .inl rfl
theorem BQ.E9{σ:B0}{H:AP}{o s:Nat}{ro:Bool}(ho:H[o]?=some (.AU s [] ro)):∀(l:List AH) (vs:List Value),BQ σ H l vs->BQ σ H (l.map (E9 o)) vs
 |[],[],_=>by simp
 |[],_::_,h=>by simp[BQ]at h
 |_::_,[],h=>by simp[BQ]at h
 |a::l,v::vs,h=>by
  rw[Qd,Bn]at*
  exact⟨h.1.Hd ho (K9 o a),BQ.E9 ho l vs h.2⟩
theorem VR.D9{σ:B0}{H:AP}{o s:Nat}{ro:Bool}(ho:H[o]?=some (.AU s [] ro)){a:AH}{v:Value}(h:VR σ H a v):VR σ H (D9 o a) v:=by
 unfold Go.Ax.D9
 split
 ·simp only[VR]at h ⊢
  obtain⟨h1,cs,rfl,hc⟩:=h
  refine⟨?_,cs,rfl,BQ.E9 ho _ _ hc⟩
  rw[List.all_eq_true]at h1 ⊢
  intro y hy
  obtain⟨x,hx,rfl⟩:=List.mem_map.1 hy
  rcases K9 o x with e|⟨-,e⟩
  ·rw[e];exact h1 x hx
  ·rw[e];rfl
 ·exact h.Hd ho (K9 o _)
theorem BQ.D9{σ:B0}{H:AP}{o s:Nat}{ro:Bool}(ho:H[o]?=some (.AU s [] ro)):∀(l:List AH) (vs:List Value),BQ σ H l vs->BQ σ H (l.map (D9 o)) vs
 |[],[],_=>by simp
 |[],_::_,h=>by simp[BQ]at h
 |_::_,[],h=>by simp[BQ]at h
 |a::l,v::vs,h=>by
  rw[Qd,Bn]at*
  exact⟨h.1.D9 ho,BQ.D9 ho l vs h.2⟩
theorem AF.lay{P:Program}{f:FuncId}{args:List AH}{H:AP}{K:AH->AP->Prop}(s:Nat)(h:AF P f (args.map (Go.Ax.D9 H.length)) (H++[.AU s [] false]) K):AF P f args H K:=by
 intro B σ w vs hR hV
 have hx:Ext σ H (σ.Ec H.length ⟨0,0,0⟩) (H++[.AU s [] false]):=Ext.push σ H _ _ rfl
 refine(h B _ w vs (hR.lay s) ((hV.ext hx).D9 (o:=H.length) (s:=s) (ro:=false) (by simp))).mono ?_
 rintro e w' ⟨x,σ',v,H',rfl,hK,hR',hv,he,hb⟩
 exact⟨x,σ',v,H',rfl,hK,hR',hv,hx.trans he,hb⟩
end Go.Ax
