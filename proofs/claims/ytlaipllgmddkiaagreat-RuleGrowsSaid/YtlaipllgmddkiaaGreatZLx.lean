/- Texts put behind one another: LGrows. Conditions: none. -/
import Derived.Test.YtlaipllgmddkiaaGreatSReachZ
import Derived.Test.YtlaipllgmddkiaaGreatZRu
import Derived.Test.YtlaipllgmddkiaaGreatZSa
set_option linter.all false
set_option maxHeartbeats 9999999
open List renaming append_assoc -> Qa, append_nil -> Qc
open Nat renaming add_assoc -> Qb
namespace Go.Ax.M
open Go Go.Ax
theorem reachT_in{s:State}(inv:Inv s):∀(d:Nat) (t:AN) (k:Nat) (x:Int),0<=t.base->t.base+(k:Int)<=s.AE.length->x∈vz s d t k->0<=x/\x<s.AE.length:=by
 intro d
 induction d with
 |zero=>
  intro t k x h0 h1 h
  rw[wD]at h
  obtain⟨n,hn,h⟩:=h
  rcases h with rfl|h
  ·omega
  ·simp[wF]at h
 |succ d ih=>
  intro t k x h0 h1 h
  rw[wD]at h
  obtain⟨n,hn,h⟩:=h
  rcases h with rfl|h
  ·omega
  ·cases hc:CV s (t.base+(n:Int))with
   |false=>rw[wR hc]at h;cases h
   |true=>
    rw[wL hc]at h
    obtain⟨g1,g2⟩:=wc inv hc
    have hg:=CO (inv.BB _ g1) g2
    have hf:=inv.fit _ g1 g2
    have hp:=C4 hg.1
    refine ih _ _ _ hg.2.1 ?_ h
    simp only[wB]at hf hp ⊢
    omega
theorem wg{s:State}(inv:Inv s){th x:Int}(h0:0<=th)(h1:th<s.AS.AI)(h:x∈wE s th):0<=x/\x<s.AE.length:=by
 have hr:Bc s (2+th).toNat=true:=by simp[Bc];omega
 have h2:=wY inv hr
 have hk:(2+th).toNat<s.AB.length:=by
  have:=inv.ME;have:=Hb inv.AS;omega
 have hg:=CO (inv.BB _ hk) h2
 have hf:=inv.fit _ hk h2
 have hp:=C4 hg.1
 exact reachT_in inv 2 _ _ x hg.2.1 (by omega) h
theorem wk{l:List Int}{m k:Nat}(h:k<m)(hm:m<=l.length):l.getD k 0∈l.take m:=by
 have:l.getD k 0=(l.take m)[k]'(by simp;omega):=by simp[List.getD,show k<l.length by omega]
 rw[this];exact List.getElem_mem _
def orL(s:State)(k:Bh)(l:List Int)(j:Nat):Bool:=(l.take j).any λy=>Dw k (s.slot y.toNat).cap
theorem orL_succ{s:State}{k:Bh}{l:List Int}{j:Nat}(h:j<l.length):orL s k l (j+1)=(orL s k l j||Dw k (s.slot (l.getD j 0).toNat).cap):=by
 rw[orL,wh h,List.any_append];simp[orL]
theorem orL_hit{s:State}{k:Bh}{l:List Int}{m:Nat}{y:Int}(h:y∈l.take m)(hy:Dw k (s.slot y.toNat).cap=true):orL s k l m=true:=by
 rw[orL,List.any_eq_true];exact⟨y,h,hy⟩
end Go.Ax.M
namespace Go.Ax
theorem AK.gen{P:Program}{n0:Nat}{c:AD}{Q:Exit->St->Prop}{T:List AH}{H:AP}(h:∀W,(∀{o:Nat} {x:Au},H[o]?=some x->AL W o x)->AK P n0 c Q ⟨T,W⟩):AK P n0 c Q ⟨T,H⟩:=h H λh=>AL.of h
theorem v8{W G:AP}{x:Au}:(W++(G++[x]))[W.length+G.length]?=some x:=by rw[<-Qa,List.getElem?_append_right (by simp)];simp
theorem wA{W G:AP}{x y:Au}:(W++(G++[x])).set (W.length+G.length) y=W++(G++[y]):=by rw[<-Qa,List.set_append_right _ _ (by simp)];simp
end Go.Ax
namespace Go.Proofs.YtlaipllgmddkiaaGreat.Ax
open Go Go.Ax Go.Ax.M
set_option maxRecDepth 100000
set_option maxHeartbeats 4000000 in
theorem wz(H:AP)(bs:List AH)(h:EU Tryz.prog H 8 [27,3,33] bs):AF Tryz.prog 12 bs H λv _=>v= .bool true:=by
 obtain⟨a1,l,rfl,h1,h⟩:=Bz h
 obtain⟨a2,l,rfl,h2,h⟩:=Bz h
 obtain⟨a3,l,rfl,h3,h⟩:=Bz h
 obtain rfl:=Fu h
 obtain⟨s,oS,oT,rfl,hS,hT⟩:=gM h1
 obtain⟨th,rfl,-⟩:=h2.int Tryz.underlying3
 obtain⟨c,oA,oB,rfl,hA,hB⟩:=Kw h3
 clear h1 h2 h3 h
 have kS:=AL.of hS
 have kT:=AL.of hT
 have kA:=AL.of hA
 have kB:=AL.of hB
 by_cases hq:B5 s c=false/\BN s=true/\0<=th/\th<s.AS.AI
 case neg=>
  cases hh:B5 s c with
  |true=>refine Aa ok12 ?_;repeat' first|simp only[*,BT,Qb,go_sem]|apply orR|(apply sp<;>intro hc)|refine tl ?_|refine uI (c:=c) ?_
  |false=>
   cases hg:BN s with
   |false=>refine Aa ok12 ?_;repeat' first|simp only[*,BT,Qb,go_sem]|apply orR|(apply sp<;>intro hc)|refine tl ?_|refine uI (c:=c) ?_|refine AW (kS _) (kT _) ?_
   |true=>
    by_cases h0:th<0
    ·refine Aa ok12 ?_;repeat' first|simp only[*,BT,Qb,go_sem]|apply orR|(apply sp<;>intro hc)|refine tl ?_|refine uI (c:=c) ?_|refine AW (kS _) (kT _) ?_
    ·have h1:s.AS.AI<=th:=by
      apply Classical.byContradiction;intro hn;exact hq ⟨hh,hg,by omega,by omega⟩
     refine Aa ok12 ?_;repeat' first|simp only[*,BT,Qb,go_sem]|apply orR|(apply sp<;>intro hc)|refine tl ?_|refine uI (c:=c) ?_|refine AW (kS _) (kT _) ?_
 case pos=>
 obtain⟨hh,hg,h0,h1⟩:=hq
 have inv:Inv s:=D8.1 hg
 have t0:(th<0)=False:=eq_false (by omega)
 have t1:(s.AS.AI<=th)=False:=eq_false (by omega)
 obtain⟨e,v,n,st,hr⟩:∃e v n st,DY s th c=⟨e,v,n,st⟩:=⟨_,_,_,_,rfl⟩
 by_cases hk:e=0/\¬c.op=8/\(AO s th c.a).2.2=0/\¬(AO s th c.a).2.1.ty=2
 case neg=>
  cases st with
  |none=>
   refine Aa ok12 ?_;repeat' first|simp only[*,BT,Qb,Bh.cells,go_sem]|apply orR|(apply sp<;>intro hc)|refine tl ?_|refine uI (c:=c) ?_|refine AW (kS _) (kT _) ?_|refine dh.B8 (c:=c) hr (kS _) (kT _) (kA _) (kB _) ?_|refine CN (kS _) (kT _) (kA _) ?_
   all_goals first|rfl|(exfalso;exact hk ⟨by first|assumption|omega,by assumption,by first|assumption|omega,by assumption⟩)
  |some u=>
   refine Aa ok12 ?_;repeat' first|simp only[*,BT,Qb,Bh.cells,AM,AJ,go_sem]|apply orR|(apply sp<;>intro hc)|refine tl ?_|refine uI (c:=c) ?_|refine AW (kS _) (kT _) ?_|refine dh.Zy (c:=c) hr (kS _) (kT _) (kA _) (kB _) ?_|refine CN (kS _) (kT _) (kA _) ?_
   all_goals first|rfl|(exfalso;exact hk ⟨by first|assumption|omega,by assumption,by first|assumption|omega,by assumption⟩)
 case pos=>
 obtain⟨rfl,e2,e3,e4⟩:=hk
 have e2':(c.op=8)=False:=eq_false e2
 have e4':((AO s th c.a).2.1.ty=2)=False:=eq_false e4
 have hin:Bv th 0 (s.AS.AI-1)=true:=BX.2 ⟨by omega,by omega⟩
 have hok1:(BN s&&Bv th 0 (s.AS.AI-1))=true:=by rw[hg,hin];rfl
 cases st with
 |none=>
  have hlaw:Inv s->∀x,x∈wE s th->x.toNat<s.AE.length->Aq (s.slot x.toNat).cap=true\/(c.op=1/\(s.slot x.toNat).cap.th=n/\(s.slot x.toNat).cap.ty=c.x)\/∃y∈wE s th,Dw (s.slot x.toNat).cap (s.slot y.toNat).cap=true:=λhu x hx hlt=>grow_law (wU inv rfl rfl rfl (λ_ _=>rfl) (λ_=>wY inv)) h0 h1 e3 hx hlt
  have hlaw:Hid _:=hlaw
  have hgeo:Hid (s.AS=s.AS):=rfl
  have ET:Hid (s.AE.length=s.AE.length):=rfl
  cases hgu:BN s with
  |false=>
   rw[hg]at hgu;cases hgu
  |true=>
   have hu:Inv s:=D8.1 hgu
   have hlaw2:=hlaw hu
   have hlaw2:Hid _:=hlaw2
   have hok2:(BN s&&Bv th 0 (s.AS.AI-1))=true:=by rw[hgu,hgeo,hin];rfl
   have hlS:=inv.ok.lS
   have hU:Hid (Inv s):=hu
   clear hu hlaw
   refine Aa ok12 ?_;repeat' first|simp only[*,BT,Qb,Bh.cells,go_sem]|apply orR|(apply sp<;>intro hc)|refine tl ?_|refine uI (c:=c) ?_|refine AW (kS _) (kT _) ?_|refine dh.B8 (c:=c) hr (kS _) (kT _) (kA _) (kB _) ?_|refine CN (kS _) (kT _) (kA _) ?_|refine wG (s:=s) (kS _) (kT _) (λhc=>absurd (hok1.symm.trans hc) (by decide)) (λ_ q1 xs1 m1 f1 L1 a1 a2 a3 a4=> ?_)
   rename_i p0 q0 xs0 m0 f0 L0 c1 c2 c3 c4 p2
   refine AK.Az [14,3,5,7,8,12,13] ?_;simp only[mpC,go_sem]
   refine AK.gen (λW hW=> ?_)
   have k0:=hW BH
   have k1:=hW BP
   have k2:=hW BO
   have k3:=hW BR
   have k4:=hW (kS _)
   have k5:=hW (kS _)
   have k6:AL W q0 (.AU 1 (ints xs0) false):=hW (by
    have:=λL=>AL.of c1 L;simp only[Qa,apC]at this ⊢;exact this _)
   have k7:AL W q1 (.AU 1 (ints xs1) false):=hW (by
    have:=a1;simp only[Qa,apC]at this ⊢;exact this)
   clear hW kS kT kA kB hS hT hA hB
   refine AK.heap (Qc _).symm ?_
   refine AK.acc (α:=AP) (λk _=>[(14,nL (k:Int))]) (λ_ G=>W++G) (λ_ _=>True) m1 ?_ (a0:=[]) trivial
   intro k G hk _ next
   refine AK.unfold ?_
   have next':Hid (∀(a':AP),k<m1->True->_):=next
   clear next
   have hw:=AY (k:=k) (by omega)
   by_cases hkm:k<m1
   ·obtain⟨x,hx⟩:∃x,Hid (xs1.getD k 0=x):=⟨_,rfl⟩
    have gx:(ints xs1)[k]?=some [nL x]:=by rw[<-(show xs1.getD k 0=x from hx)];exact Bt (by omega)
    have hxr:Hid (x∈wE s th):=by rw[<-(show xs1.getD k 0=x from hx)];exact(a4 _).1 (wk hkm a2)
    obtain⟨x0,x1⟩:=wg hU h0 (by rw[hgeo];exact h1) hxr
    have gs:=A4 (s:=s) (k:=x.toNat) (by omega)
    have x2:(x<0)=False:=eq_false (by omega)
    have x3:((s.AE.length:Int)<=x)=False:=eq_false (by omega)
    have x4:(0<=x)=True:=eq_true x0
    have x5:(x<(s.AE.length:Int))=True:=eq_true x1
    have hl:=hlaw2 x hxr (by rw[<-ET];omega)
    have hl:Hid _:=hl
    clear x0 x1
    cases cN:Aq (s.slot x.toNat).cap with
    |true=>
     repeat' first|simp only[*,v8,wA,AA b12_13.eq_1,AR,AX,Qa,go_sem]|apply orR|(apply sp<;>intro hc)|refine Dx ?_
     (refine AK.Az [14,3,5,7,8,12,13] ?_;simp only[mpC,go_sem];refine next' _ hkm trivial)
    |false=>
     by_cases cM:c.op=1/\(s.slot x.toNat).cap.th=n/\(s.slot x.toNat).cap.ty=c.x
     ·obtain⟨o1,o2,o3⟩:((c.op=1)=True)/\(((s.slot x.toNat).cap.th=n)=True)/\(((s.slot x.toNat).cap.ty=c.x)=True):=⟨eq_true cM.1,eq_true cM.2.1,eq_true cM.2.2⟩
      clear cM
      repeat' first|simp only[*,v8,wA,AA b12_13.eq_1,AR,AX,Qa,go_sem]|apply orR|(apply sp<;>intro hc)|refine Dx ?_
      (refine AK.Az [14,3,5,7,8,12,13] ?_;simp only[mpC,go_sem];refine next' _ hkm trivial)
     ·have hor:Hid (orL s (s.slot x.toNat).cap xs0 m0=true):=by
       rcases(show _\/_\/_ from hl)with a|a|⟨y,a,b⟩
       ·rw[cN]at a;cases a
       ·exact absurd a cM
       ·exact orL_hit ((c4 y).2 a) b
      have hin:Hid (Inv s):=inv
      obtain⟨b1,hb1⟩:∃b,decide (c.op=1)=b:=⟨_,rfl⟩
      obtain⟨b2,hb2⟩:∃b,decide ((s.slot x.toNat).cap.th=n)=b:=⟨_,rfl⟩
      obtain⟨b3,hb3⟩:∃b,decide ((s.slot x.toNat).cap.ty=c.x)=b:=⟨_,rfl⟩
      have cM':Hid (¬(b1=true/\b2=true/\b3=true)):=fun⟨q1,q2,q3⟩=>cM ⟨of_decide_eq_true (hb1.trans q1),of_decide_eq_true (hb2.trans q2),of_decide_eq_true (hb3.trans q3)⟩
      clear cM
      repeat' first|simp only[*,v8,wA,AA b12_13.eq_1,AR,AX,Qa,go_sem]|apply orR|(apply sp<;>intro hc)|refine Dx ?_
      all_goals first|(exfalso;exact cM' ⟨by assumption,by assumption,by assumption⟩)|skip
      all_goals (
       refine AK.Az [17,16,3,5,7,8,12,13,14,15] ?_;simp only[mpC,go_sem]
       refine AK.acc (α:=Bool) (λj b=>[(17,nL (j:Int)),(16,.bool b)]) (λ_ _=>_) (λj b=>b=orL s (s.slot x.toNat).cap xs0 j) m0 ?_ (a0:=false) (by simp[orL])
       intro j b hj I inext
       refine AK.unfold ?_
       have hwj:=AY (k:=j) (by omega)
       have I':Hid (b=orL s (s.slot x.toNat).cap xs0 j):=I
       clear I
       have inext':Hid (∀(a':Bool),j<m0->a'=_->_):=inext
       clear inext
       by_cases hjm:j<m0
       ·obtain⟨y,hy⟩:∃y,Hid (xs0.getD j 0=y):=⟨_,rfl⟩
        have gy:(ints xs0)[j]?=some [nL y]:=by rw[<-(show xs0.getD j 0=y from hy)];exact Bt (by omega)
        have hyr:Hid (y∈wE s th):=by rw[<-(show xs0.getD j 0=y from hy)];exact(c4 _).1 (wk hjm c2)
        obtain⟨y0,y1⟩:=wg inv h0 h1 hyr
        have gs':=A4 (s:=s) (k:=y.toNat) (by omega)
        have y2:(y<0)=False:=eq_false (by omega)
        have y3:((s.AE.length:Int)<=y)=False:=eq_false (by omega)
        have y4:(0<=y)=True:=eq_true y0
        have y5:(y<(s.AE.length:Int))=True:=eq_true y1
        have hos:Hid (orL s (s.slot x.toNat).cap xs0 (j+1)=(orL s (s.slot x.toNat).cap xs0 j||Dw (s.slot x.toNat).cap (s.slot y.toNat).cap)):=by
         have:=orL_succ (s:=s) (k:=(s.slot x.toNat).cap) (l:=xs0) (j:=j) (by omega)
         rw[(show xs0.getD j 0=y from hy)]at this;exact this
        clear y0 y1
        cases b with
        |true=>
         repeat' first|simp only[*,v8,wA,AA b12_7.eq_1,AR,AX,Qa,go_sem]|apply orR|(apply sp<;>intro hc)|fail
         (refine AK.Az [17,16,3,5,7,8,12,13,14,15] ?_;simp only[mpC,go_sem];refine inext' true hjm (by rw[hos,<-(show true=_ from I')];rfl))
        |false=>
         repeat' first|simp only[*,v8,wA,AA b12_7.eq_1,AR,AX,Qa,go_sem]|apply orR|(apply sp<;>intro hc)|refine Px ?_
         (refine AK.Az [17,16,3,5,7,8,12,13,14,15] ?_;simp only[mpC,go_sem];refine inext' (Dw (s.slot x.toNat).cap (s.slot y.toNat).cap) hjm (by rw[hos,<-(show false=_ from I')];rfl))
       ·have hjm':((j:Int)<(m0:Int))=False:=eq_false (by omega)
        have hb:b=true:=by rw[(show b=_ from I'),show j=m0 by omega];exact hor
        subst hb
        repeat' first|simp only[*,AA b12_7.eq_1,Qa,go_sem]|apply orR|(apply sp<;>intro hc)|fail
        (refine AK.Az [14,3,5,7,8,12,13] ?_;simp only[mpC,go_sem];refine next' _ hkm trivial))
   ·have hkm':((k:Int)<(m1:Int))=False:=eq_false (by omega)
    repeat' first|simp only[*,AA b12_13.eq_1,go_sem]|apply orR|(apply sp<;>intro hc)|fail
 |some u=>
  have hlaw:Inv u->∀x,x∈wE u th->x.toNat<s.AE.length->Aq (u.slot x.toNat).cap=true\/(c.op=1/\(u.slot x.toNat).cap.th=n/\(u.slot x.toNat).cap.ty=c.x)\/∃y∈wE s th,Dw (u.slot x.toNat).cap (s.slot y.toNat).cap=true:=λhu x hx hlt=>grow_law ((by have:=ruleM_grow (show(DY s th c).st=some u by rw[hr]) hu e2 (λ_=>e4);rwa [hr]at this:Grow s u th c n)) h0 h1 e3 hx hlt
  have hlaw:Hid _:=hlaw
  have hgeo:Hid (u.AS=s.AS):=(fj (show(DY s th c).st=some u by rw[hr])).1
  have ET:Hid (u.AE.length=s.AE.length):=(fj (show(DY s th c).st=some u by rw[hr])).2.1
  cases hgu:BN u with
  |false=>
   have hno:(BN u&&Bv th 0 (u.AS.AI-1))=false:=by rw[hgu];rfl
   refine Aa ok12 ?_;repeat' first|simp only[*,BT,Qb,Bh.cells,AM,AJ,go_sem]|apply orR|(apply sp<;>intro hc)|refine tl ?_|refine uI (c:=c) ?_|refine AW (kS _) (kT _) ?_|refine dh.Zy (c:=c) hr (kS _) (kT _) (kA _) (kB _) ?_|refine CN (kS _) (kT _) (kA _) ?_|refine wG (s:=s) (kS _) (kT _) (λhc=>absurd (hok1.symm.trans hc) (by decide)) (λ_ q1 xs1 m1 f1 L1 a1 a2 a3 a4=> ?_)|refine wG (s:=u) (by first|exact BH|exact Bb rfl) (by first|exact BH|exact Bb rfl) (λ_=> ?_) (λhc=>absurd (hno.symm.trans hc) (by decide))
   refine AK.Az [14,3,5,7,8,12,13] ?_;simp only[mpC,go_sem]
   refine AK.unfold ?_
   repeat' first|simp only[*,AA b12_13.eq_1,go_sem]|apply orR|(apply sp<;>intro hc)|fail
  |true=>
   have hu:Inv u:=D8.1 hgu
   have hlaw2:=hlaw hu
   have hlaw2:Hid _:=hlaw2
   have hok2:(BN u&&Bv th 0 (u.AS.AI-1))=true:=by rw[hgu,hgeo,hin];rfl
   have hlS:=inv.ok.lS
   have hU:Hid (Inv u):=hu
   clear hu hlaw
   refine Aa ok12 ?_;repeat' first|simp only[*,BT,Qb,Bh.cells,AM,AJ,go_sem]|apply orR|(apply sp<;>intro hc)|refine tl ?_|refine uI (c:=c) ?_|refine AW (kS _) (kT _) ?_|refine dh.Zy (c:=c) hr (kS _) (kT _) (kA _) (kB _) ?_|refine CN (kS _) (kT _) (kA _) ?_|refine wG (s:=s) (kS _) (kT _) (λhc=>absurd (hok1.symm.trans hc) (by decide)) (λ_ q1 xs1 m1 f1 L1 a1 a2 a3 a4=> ?_)|refine wG (s:=u) (by first|exact BH|exact Bb rfl) (by first|exact BH|exact Bb rfl) (λhc=>absurd (hok2.symm.trans hc) (by decide)) (λ_ q2 xs2 m2 f2 L2 b1 b2 b3 b4=> ?_)
   skip
   refine AK.Az [14,3,5,7,8,12,13] ?_;simp only[mpC,go_sem]
   refine AK.gen (λW hW=> ?_)
   have k0:=hW BH
   have k1:=hW BP
   have k2:=hW BU
   have k3:=hW BV
   have k4:=hW (kS _)
   have k5:=hW BO
   have k6:AL W q1 (.AU 1 (ints xs1) false):=hW (by
    have:=λL=>AL.of a1 L;simp only[Qa,apC]at this ⊢;exact this _)
   have k7:AL W q2 (.AU 1 (ints xs2) false):=hW (by
    have:=b1;simp only[Qa,apC]at this ⊢;exact this)
   clear hW kS kT kA kB hS hT hA hB
   refine AK.heap (Qc _).symm ?_
   refine AK.acc (α:=AP) (λk _=>[(14,nL (k:Int))]) (λ_ G=>W++G) (λ_ _=>True) m2 ?_ (a0:=[]) trivial
   intro k G hk _ next
   refine AK.unfold ?_
   have next':Hid (∀(a':AP),k<m2->True->_):=next
   clear next
   have hw:=AY (k:=k) (by omega)
   by_cases hkm:k<m2
   ·obtain⟨x,hx⟩:∃x,Hid (xs2.getD k 0=x):=⟨_,rfl⟩
    have gx:(ints xs2)[k]?=some [nL x]:=by rw[<-(show xs2.getD k 0=x from hx)];exact Bt (by omega)
    have hxr:Hid (x∈wE u th):=by rw[<-(show xs2.getD k 0=x from hx)];exact(b4 _).1 (wk hkm b2)
    obtain⟨x0,x1⟩:=wg hU h0 (by rw[hgeo];exact h1) hxr
    have gs:=A4 (s:=u) (k:=x.toNat) (by omega)
    have x2:(x<0)=False:=eq_false (by omega)
    have x3:((u.AE.length:Int)<=x)=False:=eq_false (by omega)
    have x4:(0<=x)=True:=eq_true x0
    have x5:(x<(u.AE.length:Int))=True:=eq_true x1
    have hl:=hlaw2 x hxr (by rw[<-ET];omega)
    have hl:Hid _:=hl
    clear x0 x1
    cases cN:Aq (u.slot x.toNat).cap with
    |true=>
     repeat' first|simp only[*,v8,wA,AA b12_13.eq_1,AR,AX,Qa,go_sem]|apply orR|(apply sp<;>intro hc)|refine Dx ?_
     (refine AK.Az [14,3,5,7,8,12,13] ?_;simp only[mpC,go_sem];refine next' _ hkm trivial)
    |false=>
     by_cases cM:c.op=1/\(u.slot x.toNat).cap.th=n/\(u.slot x.toNat).cap.ty=c.x
     ·obtain⟨o1,o2,o3⟩:((c.op=1)=True)/\(((u.slot x.toNat).cap.th=n)=True)/\(((u.slot x.toNat).cap.ty=c.x)=True):=⟨eq_true cM.1,eq_true cM.2.1,eq_true cM.2.2⟩
      clear cM
      repeat' first|simp only[*,v8,wA,AA b12_13.eq_1,AR,AX,Qa,go_sem]|apply orR|(apply sp<;>intro hc)|refine Dx ?_
      (refine AK.Az [14,3,5,7,8,12,13] ?_;simp only[mpC,go_sem];refine next' _ hkm trivial)
     ·have hor:Hid (orL s (u.slot x.toNat).cap xs1 m1=true):=by
       rcases(show _\/_\/_ from hl)with a|a|⟨y,a,b⟩
       ·rw[cN]at a;cases a
       ·exact absurd a cM
       ·exact orL_hit ((a4 y).2 a) b
      have hin:Hid (Inv s):=inv
      obtain⟨b1,hb1⟩:∃b,decide (c.op=1)=b:=⟨_,rfl⟩
      obtain⟨b2,hb2⟩:∃b,decide ((u.slot x.toNat).cap.th=n)=b:=⟨_,rfl⟩
      obtain⟨b3,hb3⟩:∃b,decide ((u.slot x.toNat).cap.ty=c.x)=b:=⟨_,rfl⟩
      have cM':Hid (¬(b1=true/\b2=true/\b3=true)):=fun⟨q1,q2,q3⟩=>cM ⟨of_decide_eq_true (hb1.trans q1),of_decide_eq_true (hb2.trans q2),of_decide_eq_true (hb3.trans q3)⟩
      clear cM
      repeat' first|simp only[*,v8,wA,AA b12_13.eq_1,AR,AX,Qa,go_sem]|apply orR|(apply sp<;>intro hc)|refine Dx ?_
      all_goals first|(exfalso;exact cM' ⟨by assumption,by assumption,by assumption⟩)|skip
      all_goals (
       refine AK.Az [17,16,3,5,7,8,12,13,14,15] ?_;simp only[mpC,go_sem]
       refine AK.acc (α:=Bool) (λj b=>[(17,nL (j:Int)),(16,.bool b)]) (λ_ _=>_) (λj b=>b=orL s (u.slot x.toNat).cap xs1 j) m1 ?_ (a0:=false) (by simp[orL])
       intro j b hj I inext
       refine AK.unfold ?_
       have hwj:=AY (k:=j) (by omega)
       have I':Hid (b=orL s (u.slot x.toNat).cap xs1 j):=I
       clear I
       have inext':Hid (∀(a':Bool),j<m1->a'=_->_):=inext
       clear inext
       by_cases hjm:j<m1
       ·obtain⟨y,hy⟩:∃y,Hid (xs1.getD j 0=y):=⟨_,rfl⟩
        have gy:(ints xs1)[j]?=some [nL y]:=by rw[<-(show xs1.getD j 0=y from hy)];exact Bt (by omega)
        have hyr:Hid (y∈wE s th):=by rw[<-(show xs1.getD j 0=y from hy)];exact(a4 _).1 (wk hjm a2)
        obtain⟨y0,y1⟩:=wg inv h0 h1 hyr
        have gs':=A4 (s:=s) (k:=y.toNat) (by omega)
        have y2:(y<0)=False:=eq_false (by omega)
        have y3:((s.AE.length:Int)<=y)=False:=eq_false (by omega)
        have y4:(0<=y)=True:=eq_true y0
        have y5:(y<(s.AE.length:Int))=True:=eq_true y1
        have hos:Hid (orL s (u.slot x.toNat).cap xs1 (j+1)=(orL s (u.slot x.toNat).cap xs1 j||Dw (u.slot x.toNat).cap (s.slot y.toNat).cap)):=by
         have:=orL_succ (s:=s) (k:=(u.slot x.toNat).cap) (l:=xs1) (j:=j) (by omega)
         rw[(show xs1.getD j 0=y from hy)]at this;exact this
        clear y0 y1
        cases b with
        |true=>
         repeat' first|simp only[*,v8,wA,AA b12_7.eq_1,AR,AX,Qa,go_sem]|apply orR|(apply sp<;>intro hc)|fail
         (refine AK.Az [17,16,3,5,7,8,12,13,14,15] ?_;simp only[mpC,go_sem];refine inext' true hjm (by rw[hos,<-(show true=_ from I')];rfl))
        |false=>
         repeat' first|simp only[*,v8,wA,AA b12_7.eq_1,AR,AX,Qa,go_sem]|apply orR|(apply sp<;>intro hc)|refine Px ?_
         (refine AK.Az [17,16,3,5,7,8,12,13,14,15] ?_;simp only[mpC,go_sem];refine inext' (Dw (u.slot x.toNat).cap (s.slot y.toNat).cap) hjm (by rw[hos,<-(show false=_ from I')];rfl))
       ·have hjm':((j:Int)<(m1:Int))=False:=eq_false (by omega)
        have hb:b=true:=by rw[(show b=_ from I'),show j=m1 by omega];exact hor
        subst hb
        repeat' first|simp only[*,AA b12_7.eq_1,Qa,go_sem]|apply orR|(apply sp<;>intro hc)|fail
        (refine AK.Az [14,3,5,7,8,12,13] ?_;simp only[mpC,go_sem];refine next' _ hkm trivial))
   ·have hkm':((k:Int)<(m2:Int))=False:=eq_false (by omega)
    repeat' first|simp only[*,AA b12_13.eq_1,go_sem]|apply orR|(apply sp<;>intro hc)|fail
end Go.Proofs.YtlaipllgmddkiaaGreat.Ax
