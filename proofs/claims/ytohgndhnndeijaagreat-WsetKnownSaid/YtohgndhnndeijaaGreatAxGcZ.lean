/- Objects are let go, and those that are kept close up. Conditions: none. -/
import Derived.Test.YtohgndhnndeijaaGreatAxEnterZ
set_option linter.all false
open List renaming getElem?_eq_some_iff -> Qa, getElem?_eq_getElem -> Qb, getElem?_append_right -> Qc, getElem?_append_left -> Qd, mem_of_getElem? -> Qf
open Nat renaming add_sub_cancel_left -> Qe
namespace Go.Ax
open Go Go.RowKit
abbrev Ren:=Nat->Nat->Prop
mutual
def Kr(r:Ren):AH->AH->Prop
 | .ptr o n i j,b=>∃o',b= .ptr o' n i j/\r o o'
 | .slice o n st len full,b=>∃o',b= .slice o' n st len full/\r o o'
 | .acc o n,b=>∃o',b= .acc o' n/\r o o'
 | .Kl o n i j len,b=>∃o',b= .Kl o' n i j len/\r o o'
 | .map o,b=>∃o',b= .map o'/\r o o'
 | .M1 o,b=>∃o',b= .M1 o'/\r o o'
 | .func f l,b=>∃l',b= .func f l'/\CY r l l'
 | .iface t v,b=>∃v',b= .iface t v'/\Kr r v v'
 | .agg l,b=>∃l',b= .agg l'/\CY r l l'
 | .Bj l,b=>∃l',b= .Bj l'/\CY r l l'
 |a,b=>b=a
def CY(r:Ren):List AH->List AH->Prop
 |[],l=>l=[]
 |a::l,l'=>∃b l2,l'=b::l2/\Kr r a b/\CY r l l2
end
mutual
theorem Kr.refl{r:Ren}:∀{a:AH},a.refs (λo=>r o o)->Kr r a a
 | .ptr ..,h=>⟨_,rfl,h⟩
 | .slice ..,h=>⟨_,rfl,h⟩
 | .acc ..,h=>⟨_,rfl,h⟩
 | .Kl ..,h=>⟨_,rfl,h⟩
 | .map ..,h=>⟨_,rfl,h⟩
 | .M1 ..,h=>⟨_,rfl,h⟩
 | .func _ l,h=>⟨_,rfl,CY.refl h⟩
 | .iface _ v,h=>⟨_,rfl,Kr.refl h⟩
 | .agg l,h=>⟨_,rfl,CY.refl h⟩
 | .Bj l,h=>⟨_,rfl,CY.refl h⟩
 | .Dk,_=>rfl
 | .int ..,_=>rfl
 | .bool _,_=>rfl
 | .str _,_=>rfl
 | .lit _,_=>rfl
theorem CY.refl{r:Ren}:∀{l:List AH},Ay (λo=>r o o) l->CY r l l
 |[],_=>rfl
 |a::l,h=>⟨_,_,rfl,Kr.refl h.1,CY.refl h.2⟩
end
mutual
theorem Kr.cell{r:Ren}:∀{a b:AH},Kr r a b->a.cell=b.cell
 | .ptr ..,_,h=>by obtain⟨_,rfl,_⟩:=h;rfl
 | .slice ..,_,h=>by obtain⟨_,rfl,_⟩:=h;rfl
 | .acc ..,_,h=>by obtain⟨_,rfl,_⟩:=h;rfl
 | .Kl ..,_,h=>by obtain⟨_,rfl,_⟩:=h;rfl
 | .map ..,_,h=>by obtain⟨_,rfl,_⟩:=h;rfl
 | .M1 ..,_,h=>by obtain⟨_,rfl,_⟩:=h;rfl
 | .func _ l,_,h=>by obtain⟨_,rfl,_⟩:=h;rfl
 | .iface _ v,_,h=>by obtain⟨_,rfl,_⟩:=h;rfl
 | .agg l,_,h=>by obtain⟨_,rfl,_⟩:=h;rfl
 | .Bj l,_,h=>by obtain⟨_,rfl,_⟩:=h;rfl
 | .Dk,_,h=>by subst h;rfl
 | .int ..,_,h=>by subst h;rfl
 | .bool _,_,h=>by subst h;rfl
 | .str _,_,h=>by subst h;rfl
 | .lit _,_,h=>by subst h;rfl
end
theorem CY.Pr{r:Ren}:∀{l l':List AH},CY r l l'->l.all AH.cell=l'.all AH.cell
 |[],_,h=>by subst h;rfl
 |a::l,_,⟨b,l2,rfl,h1,h2⟩=>by simp only[List.all_cons,h1.cell,CY.Pr h2]
theorem CY.length{r:Ren}:∀{l l':List AH},CY r l l'->l.length=l'.length
 |[],_,h=>by subst h;rfl
 |a::l,_,⟨b,l2,rfl,h1,h2⟩=>by simp[CY.length h2]
theorem CY.get{r:Ren}:∀{l l':List AH},CY r l l'->∀{i:Nat} {b:AH},l'[i]?=some b->∃a,l[i]?=some a/\Kr r a b
 |[],_,h,i,b,hb=>by subst h;simp at hb
 |a::l,_,⟨c,l2,rfl,h1,h2⟩,i,b,hb=>by
  cases i with
  |zero=>simp at hb;subst hb;exact⟨a,rfl,h1⟩
  |succ i=>simpa using h2.get (by simpa using hb)
theorem CY.append{r:Ren}:∀{a b c d:List AH},CY r a c->CY r b d->CY r (a++b) (c++d)
 |[],_,_,_,h,h'=>by subst h;simpa using h'
 |a::l,_,_,_,⟨c,l2,rfl,h1,h2⟩,h'=>⟨c,_,rfl,h1,h2.append h'⟩
def JW(r:Ren):Au->Au->Prop
 | .AU s xs ro,y=>∃ys,y= .AU s ys ro/\xs.length=ys.length/\∀(i:Nat) (x x':List AH),xs[i]?=some x->ys[i]?=some x'->CY r x x'
 | .map es,y=>∃fs,y= .map fs/\CY r (es.map (·.1)) (fs.map (·.1))/\CY r (es.map (·.2)) (fs.map (·.2))
 |a,y=>y=a
theorem JW.refl{r:Ren}{x:Au}(h:x.refs (λo=>r o o)):JW r x x:=by
 cases x with
 |AU s xs ro=>exact⟨xs,rfl,rfl,λi x x' h1 h2=>by rw[h1]at h2;injection h2 with h2;subst h2;exact CY.refl (h x (Qf h1))⟩
 |map es=>exact⟨es,rfl,CY.refl h.1,CY.refl h.2⟩
 |iter s p=>rfl
 |A1=>rfl
theorem JW.DB{r:Ren}{x y:Au}(h:JW r x y)(p:Place):x.DB p=y.DB p:=by
 cases x with
 |AU s xs ro=>obtain⟨_,rfl,_⟩:=h;rfl
 |map es=>obtain⟨_,rfl,_⟩:=h;rfl
 |iter s p=>cases h;rfl
 |A1=>cases h;rfl
structure iJ (r:Ren) (σ:B0) (H:AP) (σ':B0) (H':AP):Prop where
 place:∀{o o':Nat},r o o'->σ' o'=σ o/\∀x,H[o]?=some x->∃y,H'[o']?=some y/\JW r x y
structure mX (r:Ren) (σ:B0) (H:AP) (σ':B0) (H':AP):Prop extends iJ r σ H σ' H' where
 obj:∀{o':Nat} {y:Au},H'[o']?=some y->∃o x,r o o'/\H[o]?=some x/\JW r x y
 one:∀{o p o' p':Nat},r o o'->r p p'->o=p->o'=p'
mutual
theorem VR.Rd{r:Ren}{σ σ':B0}{H H':AP}(k:iJ r σ H σ' H'):∀{a b:AH} {v:Value},Kr r a b->VR σ H a v->VR σ' H' b v
 | .ptr o n i j,_,v,⟨o',rfl,ho⟩,h=>by
  simp only[VR]at h ⊢
  obtain⟨s,xs,ro,a,hx,h1,h2,h3⟩:=h
  obtain⟨hs,hy⟩:=k.place ho
  obtain⟨_,hy1,ys,rfl,hl,-⟩:=hy _ hx
  exact⟨s,ys,ro,a,hy1,by omega,h2,λe=>by rw[hs];exact h3 (by omega)⟩
 | .slice o n st len full,_,v,⟨o',rfl,ho⟩,h=>by
  simp only[VR]at h ⊢
  obtain⟨s,xs,ro,a,cap,hx,h1,h2,h3,h4,h5,h6,h7⟩:=h
  obtain⟨hs,hy⟩:=k.place ho
  obtain⟨_,hy1,ys,rfl,hl,-⟩:=hy _ hx
  exact⟨s,ys,ro,a,cap,hy1,by omega,h2,h3,h4,h5,h6,λe=>by rw[hs];exact h7 (by omega)⟩
 | .acc o n,_,v,⟨o',rfl,ho⟩,h=>by
  simp only[VR]at h ⊢
  obtain⟨s,xs,ro,hx,h1,h2,h3⟩:=h
  obtain⟨hs,hy⟩:=k.place ho
  obtain⟨_,hy1,ys,rfl,hl,-⟩:=hy _ hx
  refine⟨s,ys,ro,hy1,by omega,h2,λe=> ?_⟩
  obtain⟨a,cap,q1,q2,q3⟩:=h3 e
  exact⟨a,cap,q1,q2,λe=>by rw[hs];exact q3 (by omega)⟩
 | .Kl o n i j len,_,v,⟨o',rfl,ho⟩,h=>by
  simp only[VR]at h ⊢
  obtain⟨s,xs,ro,a,cap,hx,h1,h2,h3,h4⟩:=h
  obtain⟨hs,hy⟩:=k.place ho
  obtain⟨_,hy1,ys,rfl,hl,-⟩:=hy _ hx
  exact⟨s,ys,ro,a,cap,hy1,by omega,h2,h3,λe=>by rw[hs];exact h4 (by omega)⟩
 | .map o,_,v,⟨o',rfl,ho⟩,h=>by
  simp only[VR]at h ⊢
  obtain⟨h1,es,hx⟩:=h
  obtain⟨hs,hy⟩:=k.place ho
  obtain⟨_,hy1,fs,rfl,-⟩:=hy _ hx
  exact⟨by rw[hs];exact h1,fs,hy1⟩
 | .M1 o,_,v,⟨o',rfl,ho⟩,h=>by
  simp only[VR]at h ⊢
  obtain⟨h1,s,p,hx⟩:=h
  obtain⟨hs,hy⟩:=k.place ho
  obtain⟨_,hy1,rfl⟩:=hy _ hx
  exact⟨by rw[hs];exact h1,s,p,hy1⟩
 | .func f l,_,v,⟨l',rfl,hl⟩,h=>by
  simp only[VR]at h ⊢
  obtain⟨cs,h1,h2⟩:=h
  exact⟨cs,h1,BQ.Rd k hl h2⟩
 | .iface t x,_,v,⟨x',rfl,hx⟩,h=>by
  simp only[VR]at h ⊢
  obtain⟨y,h1,h2⟩:=h
  exact⟨y,h1,VR.Rd k hx h2⟩
 | .agg l,_,v,⟨l',rfl,hl⟩,h=>by
  simp only[VR]at h ⊢
  obtain⟨h0,cs,h1,h2⟩:=h
  exact⟨by rw[<-hl.Pr];exact h0,cs,h1,BQ.Rd k hl h2⟩
 | .Bj l,_,v,⟨l',rfl,hl⟩,h=>by
  simp only[VR]at h ⊢
  obtain⟨cs,h1,h2⟩:=h
  exact⟨cs,h1,BQ.Rd k hl h2⟩
 | .Dk,_,_,h,_=>by cases h;simp[VR]
 | .int ..,_,_,h,hv=>by cases h;simpa only[VR] using hv
 | .bool _,_,_,h,hv=>by cases h;simpa only[VR] using hv
 | .str _,_,_,h,hv=>by cases h;simpa only[VR] using hv
 | .lit _,_,_,h,hv=>by cases h;simpa only[VR] using hv
theorem BQ.Rd{r:Ren}{σ σ':B0}{H H':AP}(k:iJ r σ H σ' H'):∀{l l':List AH} {vs:List Value},CY r l l'->BQ σ H l vs->BQ σ' H' l' vs
 |[],_,vs,h,hv=>by
  cases h
  cases vs with
  |nil=>simp
  |cons=>simp[BQ]at hv
 |a::l,_,[],⟨b,l2,rfl,h1,h2⟩,hv=>by simp[BQ]at hv
 |a::l,_,v::vs,⟨b,l2,rfl,h1,h2⟩,hv=>by
  rw[Bn]at hv ⊢
  exact⟨VR.Rd k h1 hv.1,BQ.Rd k h2 hv.2⟩
end
theorem JX.Rd{r:Ren}{B:Nat->Prop}{σ σ':B0}{H H':AP}{w:World}(k:iJ r σ H σ' H'){p:Place}{x y:Au}(hor:JW r x y)(hrel:JX σ H B w p x):JX σ' H' B w p y:=by
 cases x with
 |AU s xs ro=>
  obtain⟨ys,rfl,hl,hrows⟩:=hor
  obtain⟨h1,h2,h3⟩:=hrel
  have row:∀{i:Nat} {y:List AH},ys[i]?=some y->∃x,xs[i]?=some x/\CY r x y:=by
   intro i y hy
   have hil:i<xs.length:=by have:=(Qa.1 hy).1;omega
   exact⟨xs[i],Qb hil,hrows i _ y (Qb hil) hy⟩
  refine⟨λy hy=> ?_,by omega,h3.imp id ?_⟩
  ·obtain⟨i,hi,rfl⟩:=List.mem_iff_getElem.1 hy
   obtain⟨x,hx',hv⟩:=row (Qb hi)
   obtain⟨q1,q2⟩:=h1 x (Qf hx')
   exact⟨by rw[<-hv.length];exact q1,by rw[<-hv.Pr];exact q2⟩
  ·rintro⟨c,e,fr,hb,hc,hn,hro⟩
   refine⟨c,e,fr,hb,λi y j a hi hj=> ?_,hn,hro⟩
   obtain⟨x,hx',hv⟩:=row hi
   obtain⟨a0,ha0,hva⟩:=hv.get hj
   obtain⟨v,hv1,hv2⟩:=hc i x j a0 hx' ha0
   exact⟨v,hv1,hv2.Rd k hva⟩
 |map es=>
  obtain⟨fs,rfl,h1,h2⟩:=hor
  obtain⟨q1,ms,clock,hb,hk,hv⟩:=hrel
  exact⟨q1,ms,clock,hb,hk.Rd k h1,hv.Rd k h2⟩
 |iter s p=>cases hor;exact hrel
 |A1=>cases hor;trivial
theorem BL.Rd{r:Ren}{B:Nat->Prop}{σ σ':B0}{H H':AP}{w:World}(k:mX r σ H σ' H')(h:BL B σ H w):BL B σ' H' w:=by
 refine⟨fun{o' y} ho'=> ?_,fun{o' p' y y'} ho' hp' hy hy' hbb=> ?_,h.base⟩
 ·obtain⟨o,x,hr,hx,hor⟩:=k.obj ho'
  obtain⟨hs,-⟩:=k.place hr
  rw[hs]
  exact JX.Rd k.toiJ hor (h.obj hx)
 ·obtain⟨o,x,hr,hx,hor⟩:=k.obj ho'
  obtain⟨p,x',hr',hx',hor'⟩:=k.obj hp'
  obtain⟨hs,-⟩:=k.place hr
  obtain⟨hs',-⟩:=k.place hr'
  rw[hs]at hy hbb
  rw[hs']at hy' hbb
  exact k.one hr hr' (h.apart hx hx' (by rw[hor.DB];exact hy) (by rw[hor'.DB];exact hy') hbb)
theorem Ext.Rd{r:Ren}{σ0 σ σ':B0}{H0 H H':AP}(k:mX r σ H σ' H')(h:Ext σ0 H0 σ H)(Jn:∀o,o<H0.length->r o o)(hlen:H0.length<=H'.length)(hinj:∀{o p o':Nat},r o o'->r p o'->o=p):Ext σ0 H0 σ' H':=by
 refine⟨⟨hlen,fun{o s xs ro} ho=> ?_,fun{o es} ho=> ?_,fun{o s p} ho=> ?_⟩,fun{o} ho=> ?_,fun{o' s ys} ho'=> ?_⟩
 ·obtain⟨xs',h1,h2,h3⟩:=h.AU ho
  obtain⟨hs,hy⟩:=k.place (Jn o (Qa.1 ho).1)
  obtain⟨_,hy1,ys,rfl,hl,-⟩:=hy _ h1
  exact⟨ys,hy1,by omega,λe=>by rw[hs];exact h3 (by omega)⟩
 ·obtain⟨⟨es',h1⟩,h2⟩:=h.map ho
  obtain⟨hs,hy⟩:=k.place (Jn o (Qa.1 ho).1)
  obtain⟨_,hy1,fs,rfl,-⟩:=hy _ h1
  exact⟨⟨fs,hy1⟩,by rw[hs];exact h2⟩
 ·obtain⟨⟨s',p',h1⟩,h2⟩:=h.iter ho
  obtain⟨hs,hy⟩:=k.place (Jn o (Qa.1 ho).1)
  obtain⟨_,hy1,rfl⟩:=hy _ h1
  exact⟨⟨s',p',hy1⟩,by rw[hs];exact h2⟩
 ·obtain⟨hs,hy⟩:=k.place (Jn o (Qa.1 ho).1)
  obtain⟨_,hy1,rfl⟩:=hy _ (h.A1 ho)
  exact hy1
 ·obtain⟨o,x,hr,hx,hor⟩:=k.obj ho'
  cases x with
  |AU s1 xs ro=>
   obtain⟨ys',e,-⟩:=hor
   injection e with e1 e2 e3;subst e1;subst e3
   obtain⟨⟨xs0,h1⟩,h2⟩:=h.Cd hx
   have hol:=(Qa.1 h1).1
   have:=k.one hr (Jn o hol) rfl
   subst this
   exact⟨⟨xs0,h1⟩,by rw[(k.place hr).1];exact h2⟩
  |map es=>obtain⟨_,e,-⟩:=hor;cases e
  |iter s p=>cases hor
  |A1=>cases hor
def MT(n:Nat)(sel:List Nat):Ren:=λo o'=>(o=o'/\o<n)\/∃i j,sel[j]?=some i/\o=n+i/\o'=n+j
def bu(σ:B0)(n:Nat)(sel:List Nat):B0:=λq=>if q<n then σ q else σ (n+sel.getD (q-n) 0)
structure Tf (n:Nat) (sel:List Nat) (L L2:AP):Prop where
 len:sel.length=L2.length
 nodup:sel.Nodup
 get:∀{i j:Nat},sel[j]?=some i->∃x y,L[i]?=some x/\L2[j]?=some y/\JW (MT n sel) x y
theorem Tf.n7{n:Nat}{sel:List Nat}{H L L2:AP}(hn:H.length=n)(hW:aK H)(h:Tf n sel L L2)(σ:B0):mX (MT n sel) σ (H++L) (bu σ n sel) (H++L2):=by
 subst hn
 have Cd:∀{o:Nat} {y:Au},H[o]?=some y->JW (MT H.length sel) y y:=fun{o y} ho=>by
  refine JW.refl ?_
  have:=hW o y ho
  cases y with
  |AU s xs ro=>
   intro x hx
   exact GC (λo ho=> .inl ⟨rfl,ho⟩) (Ef (this x hx))
  |map es=>exact⟨GC (λo ho=> .inl ⟨rfl,ho⟩) (Ef this.1),GC (λo ho=> .inl ⟨rfl,ho⟩) (Ef this.2)⟩
  |iter s p=>trivial
  |A1=>trivial
 refine⟨⟨fun{o o'} hr=> ?_⟩,fun{o' y} ho'=> ?_,fun{o p o' p'} hr hr' e=> ?_⟩
 case refine_1=>
  rcases hr with⟨rfl,hl⟩|⟨i,j,hj,rfl,rfl⟩
  ·refine⟨by simp[bu,hl],λx hx=> ?_⟩
   rw[Qd hl]at hx
   exact⟨x,by rw[Qd hl];exact hx,Cd hx⟩
  ·refine⟨?_,λx hx=> ?_⟩
   ·have:¬H.length+j<H.length:=by omega
    simp[bu,this,List.getD,hj]
   ·rw[Qc (by omega),Qe]at hx
    obtain⟨x',y,h1,h2,h3⟩:=h.get hj
    rw[hx]at h1;injection h1 with h1;subst h1
    exact⟨y,by rw[Qc (by omega),Qe];exact h2,h3⟩
 ·rw[List.getElem?_append]at ho'
  split at ho'
  ·rename_i hl
   exact⟨o',y,.inl ⟨rfl,hl⟩,by rw[Qd hl];exact ho',Cd ho'⟩
  ·rename_i hl
   have hjl:o'-H.length<sel.length:=by have:=(Qa.1 ho').1;rw[h.len];exact this
   obtain⟨x,y',h1,h2,h3⟩:=h.get (Qb hjl)
   rw[ho']at h2;injection h2 with h2;subst h2
   refine⟨H.length+sel[o'-H.length],x,.inr ⟨_,o'-H.length,Qb hjl,rfl,by omega⟩,?_,h3⟩
   rw[Qc (by omega),Qe];exact h1
 ·subst e
  rcases hr with⟨rfl,hl⟩|⟨i,j,hj,rfl,rfl⟩<;>rcases hr' with⟨rfl,hl'⟩|⟨i',j',hj',e,rfl⟩
  ·rfl
  ·omega
  ·omega
  ·have:i=i':=by omega
   subst this
   have hlt:=(Qa.1 hj).1
   have:=(List.getElem?_inj hlt h.nodup).1 (hj.trans hj'.symm)
   omega
theorem Tf.inj{n:Nat}{sel:List Nat}{o p o':Nat}(h1:MT n sel o o')(h2:MT n sel p o'):o=p:=by
 rcases h1 with⟨rfl,hl⟩|⟨i,j,hj,rfl,rfl⟩<;>rcases h2 with⟨rfl,hl'⟩|⟨i',j',hj',rfl,e⟩
 ·rfl
 ·omega
 ·omega
 ·have:j=j':=by omega
  subst this
  rw[hj]at hj';injection hj' with hj';subst hj';rfl
def Gc(H:AP)(K:AH->AP->Prop)(v:AH)(H':AP):Prop:=∃sel L L2 v2,H'=H++L/\Tf H.length sel L L2/\Kr (MT H.length sel) v v2/\K v2 (H++L2)
theorem AF.gc{P:Program}{f:FuncId}{args:List AH}{H:AP}{K:AH->AP->Prop}(h:AF P f args H (Gc H K)):AF P f args H K:=by
 intro B σ w vs hR hV
 refine(h B σ w vs hR hV).mono ?_
 rintro e w' ⟨x,σ',v,H',rfl,⟨sel,L,L2,v2,rfl,hs,hv2,hK⟩,hR',hv,hext,hb⟩
 have k:=hs.n7 rfl hR.wf σ'
 exact⟨x,_,v2,_,rfl,hK,hR'.Rd k,hv.Rd k.toiJ hv2,hext.Rd k (λo ho=> .inl ⟨rfl,ho⟩) (by simp) Tf.inj,hb⟩
theorem AK.gc{P:Program}{n0:Nat}{c:AD}{Q:Exit->St->Prop}{T T2:List AH}{H L L2:AP}{sel:List Nat}(hn:n0<=H.length)(hW:aK H)(hs:Tf H.length sel L L2)(hT:CY (MT H.length sel) T T2)(h:AK P n0 c Q ⟨T2,H++L2⟩):AK P n0 c Q ⟨T,H++L⟩:=by
 intro code hok B σ0 H0 w0 σ a w e hh
 have k:=hs.n7 rfl hW σ
 exact h code hok B σ0 H0 w0 _ a w e ⟨hh.rel.Rd k,hh.tmps.Rd k.toiJ hT,hh.ext.Rd k (λo ho=> .inl ⟨rfl,by omega⟩) (by simp;omega) Tf.inj,hh.below,hh.defers⟩
end Go.Ax
