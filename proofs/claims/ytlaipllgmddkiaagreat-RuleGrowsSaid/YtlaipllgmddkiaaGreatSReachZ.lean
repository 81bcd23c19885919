/- What a thread comes to: what the program's functions answer. Conditions: none. -/
import Derived.Test.YtlaipllgmddkiaaGreatSCompactZ
import Derived.Test.YtlaipllgmddkiaaGreatZTk
set_option linter.all false
set_option maxHeartbeats 9999999
open Nat renaming add_assoc -> Qa, zero_add -> Qm, le_trans -> Qn, le_refl -> Qo
open List renaming length_append -> Qb, getElem?_append_right -> Qc, append_assoc -> Qd, length_cons -> Qf, getElem?_cons_succ -> Qg, getElem?_cons_zero -> Qh, set_cons_succ -> Qi, cons_append -> Qj, length_nil -> Qk, replicate -> Ql
open Go.Proofs.Tryz renaming prog -> Qe
namespace Go.Ax
theorem AF.Kg{P:Program}{f:FuncId}{args:List AH}{H:AP}{K:AH->AP->Prop}{i k:Nat}{x:List AH}{ro:Bool}(s:Nat)(y:List AH)(hi:H[i]?=some (.AU k [x] ro))(hl:y.length=x.length)(hc:y.all AH.cell=true)
 (hy:∀(j:Nat) (a b:AH),x[j]?=some a->y[j]?=some b->Hd H.length a b) (h:AF P f args (H.set i (.AU k [y] ro)++[.AU s [] false]) K):AF P f args H K:=by
 intro B σ w vs hR hV
 have hx:Ext σ H (σ.Ec H.length ⟨0,0,0⟩) (H++[.AU s [] false]):=Ext.push σ H _ _ rfl
 have hil:i<H.length:=(List.getElem?_eq_some_iff.1 hi).1
 have hi':(H++[.AU s [] false])[i]?=some (.AU k [x] ro):=by rw[List.getElem?_append_left hil];exact hi
 obtain⟨r1,r2⟩:=(hR.lay s).less hi' hl hc (λj a b v ha hb hv=>hv.Hd (o:=H.length) (s:=s) (ro:=false) (by simp) (hy j a b ha hb))
 have e1:(H++[Au.AU s [] false]).set i (.AU k [y] ro)=H.set i (.AU k [y] ro)++[Au.AU s [] false]:=List.set_append_left _ _ hil
 rw[e1]at r1 r2
 refine(h B _ w vs r1 ((hV.ext hx).ext r2)).mono ?_
 rintro e w' ⟨x,σ',v,H',rfl,hK,hR',hv,he,hb⟩
 exact⟨x,σ',v,H',rfl,hK,hR',hv,(hx.trans r2).trans he,hb⟩
end Go.Ax
namespace Go.Proofs.YtlaipllgmddkiaaGreat.Ax
open Go Go.Ax Go.Ax.M
section
variable {H:AP}{K:AH->AP->Prop}{s:State}{oS oT:Nat}{fS fT rS rT:Bool}
abbrev outC(o:Nat)(l:List Int):Au:= .AU 1 [[.slice o l.length 0 l.length false]] false
theorem wO{l:List Int}{at_:Int}{v:AH}{G:AP}(hl:l.length<=1000000)(h:∀L,K (.Bj []) (H++outC (H.length+1) (l++[at_]):: .AU 1 (ints (l++[at_])) false::(G++L))):
 AF Qe 137 [v,nL at_,.ptr H.length 1 0 0] (H++outC (H.length+1) l:: .AU 1 (ints l) false::G) K:=by
 have hb:(l.length+1)* 8<=140737488355328:=by omega
 refine Aa ok137 ?_;repeat' first|simp only[*,Qa,go_sem]|apply orR|(apply sp<;>intro hc)|fail
 rw[show ints l++[[nL at_]]=ints (l++[at_]) by simp[ints]]
 have:=h [.AU 1 [[nL at_]] false]
 simp only[outC,Qb,Qf,Qk,Qm]at this
 exact this
theorem wC{x y:Au}{G L:AP}{n:Nat}:(x::y::(G++L))[G.length+(n+2)]?=L[n]?:=by
 rw[show G.length+(n+2)=(G.length+n)+1+1 by omega,Qg,Qg,Qc (by omega)]
 congr 1;omega
theorem wJ{x y z:Au}{G L:AP}{n:Nat}:(x::y::(G++L)).set (G.length+(n+2)) z=x::y::(G++L.set n z):=by
 rw[show G.length+(n+2)=(G.length+n)+1+1 by omega,Qi,Qi,List.set_append_right _ _ (by omega)]
 congr 4;omega
theorem wH{x y:Au}{G L:AP}{a b:Nat}:(x::y::(G++L))[G.length+(a+(b+2))]?=L[a+b]?:=by
 rw[show G.length+(a+(b+2))=G.length+((a+b)+2) by omega];exact wC
theorem wI{x y z:Au}{G L:AP}{a b:Nat}:(x::y::(G++L)).set (G.length+(a+(b+2))) z=x::y::(G++L.set (a+b) z):=by
 rw[show G.length+(a+(b+2))=G.length+((a+b)+2) by omega];exact wJ
theorem wv{k:Nat}:0<=(k:Int):=by omega
def Aah(s:State)(t:AN):Prop:=Bv t.bits 1 4=true/\0<=t.base/\t.base+p2 t.bits<=s.AE.length
theorem node_ok(inv:Inv s){i:Int}(h:CV s i=true):Aah s (s.AG (s.slot i.toNat).cap.th.toNat):=by
 obtain⟨h1,h2⟩:=wc inv h
 have:=CO (inv.BB _ h1) h2
 have hf:=inv.fit _ h1
 exact⟨this.1,this.2.1,hf h2⟩
theorem Aac{x y:Au}{G L:AP}{n:Nat}:(H++x::y::(G++L))[H.length+(G.length+(n+2))]?=L[n]?:=by
 rw[Qc (by omega),Nat.add_sub_cancel_left];exact wC
abbrev wV(H:AP)(m:List Int)(G:AP):AP:=H++outC (H.length+1) m:: .AU 1 (ints m) false::G
set_option maxHeartbeats 2000000 in
theorem ways_spec(inv:Inv s)(hS:u2 H oS s rS)(hT:u3 H oT s rT)(d:Nat):∀(t:AN) (G:AP) (l a:List Int) (oA n:Nat) (fA rA:Bool) (K:AH->AP->Prop),a.length=n->n+d=2->0<n->Aah s t->
 (∀m L,(wV H m (G++L))[oA]?=some (.AU 1 (ints a) rA))->(l++vz s d t (p2 t.bits).toNat).length<=1000000->
 (∀L,K (.Bj []) (wV H (l++vz s d t (p2 t.bits).toNat) (G++L)))->
 AF Qe 136 [stA s oS oT fS fT,.agg t.cells,.slice oA n 0 n fA,.func 137 [.ptr H.length 1 0 0]] (wV H l G) K:=by
 induction d using Nat.strongRecOn with
 |ind d ih=>
 intro t G l a oA n fA rA K hn ha ha0 ht hA hlen h
 subst hn
 have kS:=AL.of hS
 have kT:=AL.of hT
 have ok:=inv.ok
 obtain⟨t1,t2,t3⟩:=ht
 have hsh:=I3 t1
 have hp2:=C4 t1
 have lS:=ok.lS
 unfold AN.cells
 have ih:Hid _:=ih
 have h:Hid _:=h
 refine Aa ok136 ?_;(try simp only[kS,kT,hsh,BT,Qa,wV,go_sem]);repeat' ((first|apply orR|(apply sp<;>intro hc)|fail)<;>try simp only[*,BT,Qa,wV,go_sem])
 refine AK.Az [16,2,3,4,5,15] ?_;simp only[mpC,go_sem]
 have e0:l++vz s d t 0=l:=by simp[vz]
 refine AK.heap (H':=wV H (l++vz s d t 0) (G++[.AU 5 [[nL s.AS.AI,nL s.AS.AE,nL s.AS.AB,.slice oS s.AE.length 0 s.AE.length fS,.slice oT s.AB.length 0 s.AB.length fT]] false,.AU 13 [t.cells] false])) (by rw[e0];rfl) ?_
 clear e0
 refine AK.acc (α:=AP) (λk _=>[(16,nL (k:Int))]) (λk G'=>wV H (l++vz s d t k) (G++ .AU 5 [[nL s.AS.AI,nL s.AS.AE,nL s.AS.AB,.slice oS s.AE.length 0 s.AE.length fS,.slice oT s.AB.length 0 s.AB.length fT]] false:: .AU 13 [t.cells] false::G')) (λ_ _=>True) (p2 t.bits).toNat ?_ (a0:=[]) trivial
 intro k G' hk _ next
 refine AK.unfold ?_
 simp only[AN.cells]at next ⊢
 have next:Hid _:=next
 by_cases hkn:(k:Int)<p2 t.bits
 ·have hw:=AY (k:=k) (by omega)
  have hwb:IntKind.wrap .i64 (t.base+(k:Int))=t.base+(k:Int):=by simp only[IntKind.wrap,IntKind.bits,IntKind.signed];simp;omega
  have hst:CL t (k:Int)=t.base+(k:Int):=by simp only[CL];rw[decide_eq_false (by omega)];rfl
  have hal:a.length<=1000:=by omega
  have hb:(a.length+1)* 8<=140737488355328:=by omega
  have hlk:(l++vz s d t k).length<=1000000:=by
   have:=wP (s:=s) (d:=d) (t:=t) (k:=k) (m:=(p2 t.bits).toNat) hk
   simp only[Qb]at hlen ⊢;omega
  have e1:Hid (l++vz s d t (k+1)=l++vz s d t k++[t.base+(k:Int)]++wF s d (t.base+(k:Int))):=by
   show l++vz s d t (k+1)=_;rw[wM];simp
  have hi0:0<=t.base+(k:Int):=by omega
  have hi1:t.base+(k:Int)<s.AE.length:=by omega
  cases DS:CV s (t.base+(k:Int))with
  |false=>
   have hz:Hid (wF s d (t.base+(k:Int))=[]):=wR DS
   (try simp only[hkn,hw,hwb,hst,hb,DS,kS,kT,hA,wC,wJ,wH,wI,AA b136_7.eq_1,AR,AX,Qa,apC,cond_false,AN.zero,AN.cells,go_sem]);repeat' ((first|apply orR|(apply sp<;>intro hc)|refine PJ (hA _ _) hal ha0 ?_|refine Om ⟨t1,t2,by omega⟩ wv ?_|refine⟨by kernel_rfl,wO hlk (λL2=> ?_)⟩|refine NI (s:=s) (kS _) (kT _) ok hi0 hi1 ?_)<;>try simp only[*,wC,wJ,wH,wI,AA b136_7.eq_1,AR,AX,Qa,apC,cond_false,AN.zero,AN.cells,go_sem])
   have e2:l++(vz s d t k++[t.base+(k:Int)])=l++vz s d t (k+1):=by rw[e1,hz];simp
   rw[e2]
   (refine AK.Az [16,2,3,4,5,15] ?_;simp only[mpC,go_sem];refine next _ (by omega) trivial)
  |true=>
   have hok:=node_ok inv DS
   cases d with
   |zero=>
    have h3:(((a.length+1:Nat):Int)<3)=False:=eq_false (by omega)
    (try simp only[h3,hkn,hw,hwb,hst,hb,DS,kS,kT,hA,wC,wJ,wH,wI,AA b136_7.eq_1,AR,AX,Qa,apC,cond_true,AN.cells,go_sem]);repeat' ((first|apply orR|(apply sp<;>intro hc)|refine PJ (hA _ _) hal ha0 ?_|refine Om ⟨t1,t2,by omega⟩ wv ?_|refine⟨by kernel_rfl,wO hlk (λL2=> ?_)⟩|refine NI (s:=s) (kS _) (kT _) ok hi0 hi1 ?_)<;>try simp only[*,wC,wJ,wH,wI,AA b136_7.eq_1,AR,AX,Qa,apC,cond_true,AN.cells,go_sem])
    have e2:l++(vz s 0 t k++[t.base+(k:Int)])=l++vz s 0 t (k+1):=by rw[e1];simp[wF]
    rw[e2]
    (refine AK.Az [16,2,3,4,5,15] ?_;simp only[mpC,go_sem];refine next _ (by omega) trivial)
   |succ d=>
    have h3:(((a.length+1:Nat):Int)<3)=True:=eq_true (by omega)
    have hih:=ih d (by omega) (s.AG (s.slot (t.base+(k:Int)).toNat).cap.th.toNat)
    have hih:Hid _:=hih
    (try simp only[h3,hkn,hw,hwb,hst,hb,DS,kS,kT,hA,wC,wJ,wH,wI,AA b136_7.eq_1,AR,AX,Qa,apC,cond_true,AN.cells,go_sem]);repeat' ((first|apply orR|(apply sp<;>intro hc)|refine PJ (hA _ _) hal ha0 ?_|refine Om ⟨t1,t2,by omega⟩ wv ?_|refine⟨by kernel_rfl,wO hlk (λL2=> ?_)⟩|refine NI (s:=s) (kS _) (kT _) ok hi0 hi1 ?_)<;>try simp only[*,wC,wJ,wH,wI,AA b136_7.eq_1,AR,AX,Qa,apC,cond_true,AN.cells,go_sem])
    have e3:wF s (d+1) (t.base+(k:Int))=vz s d (s.AG (s.slot (t.base+(k:Int)).toNat).cap.th.toNat) (p2 (s.AG (s.slot (t.base+(k:Int)).toNat).cap.th.toNat).bits).toNat:=wL DS
    have e2:l++(vz s (d+1) t k++[t.base+(k:Int)])++vz s d (s.AG (s.slot (t.base+(k:Int)).toNat).cap.th.toNat) (p2 (s.AG (s.slot (t.base+(k:Int)).toNat).cap.th.toNat).bits).toNat=l++vz s (d+1) t (k+1):=by rw[e1,e3];simp
    refine hih _ (l++(vz s (d+1) t k++[t.base+(k:Int)])) (a++[(k:Int)]) _ (a.length+1) false false _ (by simp) (by omega) (by omega) hok (λm L=> ?_) ?_ (λL=> ?_)
    ·simp only[wV,Qd,Qj,Aac,wC,Qh]
     simp[ints]
    ·rw[e2]
     have:=wP (s:=s) (d:=d+1) (t:=t) (k:=k+1) (m:=(p2 t.bits).toNat) (by omega)
     simp only[Qb]at hlen ⊢;omega
    ·rw[e2]
     (try simp only[hw,wV,AR,AX,Qa,apC,go_sem]);repeat' ((first|apply orR|(apply sp<;>intro hc)|fail)<;>try simp only[*,wV,AR,AX,Qa,apC,go_sem])
     (refine AK.Az [16,2,3,4,5,15] ?_;simp only[mpC,go_sem];refine next _ (by omega) trivial)
 ·have e:k=(p2 t.bits).toNat:=by omega
  subst e
  (try simp only[hkn,AA b136_7.eq_1,go_sem]);repeat' ((first|apply orR|(apply sp<;>intro hc)|fail)<;>try simp only[*,AA b136_7.eq_1,go_sem])
  exact h _
theorem Aaa(h:K (.lit (.slice none 0 0)) H):AF Qe 204 [.lit (.slice none 0 0)] H K:=by
 refine Aa ok204 ?_;(try simp only[go_sem]);repeat' ((first|apply orR|(apply sp<;>intro hc)|fail)<;>try simp only[*,go_sem])
 all_goals exact h
set_option maxHeartbeats 2000000 in
theorem ways_top(inv:Inv s)(hS:u2 H oS s rS)(hT:u3 H oT s rT){t:AN}{G:AP}{l:List Int}(ht:Aah s t)(hlen:(l++vz s 2 t (p2 t.bits).toNat).length<=1000000)
 (h:∀L,K (.Bj []) (wV H (l++vz s 2 t (p2 t.bits).toNat) (G++L))):
 AF Qe 136 [stA s oS oT fS fT,.agg t.cells,.lit (.slice none 0 0),.func 137 [.ptr H.length 1 0 0]] (wV H l G) K:=by
 have kS:=AL.of hS
 have kT:=AL.of hT
 have ok:=inv.ok
 obtain⟨t1,t2,t3⟩:=ht
 have hsh:=I3 t1
 have hp2:=C4 t1
 have lS:=ok.lS
 unfold AN.cells
 have h:Hid _:=h
 refine Aa ok136 ?_;(try simp only[kS,kT,hsh,BT,Qa,wV,go_sem]);repeat' ((first|apply orR|(apply sp<;>intro hc)|fail)<;>try simp only[*,BT,Qa,wV,go_sem])
 refine AK.Az [16,2,3,4,5,15] ?_;simp only[mpC,go_sem]
 have e0:l++vz s 2 t 0=l:=by simp[vz]
 refine AK.heap (H':=wV H (l++vz s 2 t 0) (G++[.AU 5 [[nL s.AS.AI,nL s.AS.AE,nL s.AS.AB,.slice oS s.AE.length 0 s.AE.length fS,.slice oT s.AB.length 0 s.AB.length fT]] false,.AU 13 [t.cells] false])) (by rw[e0];rfl) ?_
 clear e0
 refine AK.acc (α:=AP) (λk _=>[(16,nL (k:Int))]) (λk G'=>wV H (l++vz s 2 t k) (G++ .AU 5 [[nL s.AS.AI,nL s.AS.AE,nL s.AS.AB,.slice oS s.AE.length 0 s.AE.length fS,.slice oT s.AB.length 0 s.AB.length fT]] false:: .AU 13 [t.cells] false::G')) (λ_ _=>True) (p2 t.bits).toNat ?_ (a0:=[]) trivial
 intro k G' hk _ next
 refine AK.unfold ?_
 simp only[AN.cells]at next ⊢
 have next:Hid _:=next
 by_cases hkn:(k:Int)<p2 t.bits
 ·have hw:=AY (k:=k) (by omega)
  have hwb:IntKind.wrap .i64 (t.base+(k:Int))=t.base+(k:Int):=by simp only[IntKind.wrap,IntKind.bits,IntKind.signed];simp;omega
  have hst:CL t (k:Int)=t.base+(k:Int):=by simp only[CL];rw[decide_eq_false (by omega)];rfl
  have hlk:(l++vz s 2 t k).length<=1000000:=by
   have:=wP (s:=s) (d:=2) (t:=t) (k:=k) (m:=(p2 t.bits).toNat) hk
   simp only[Qb]at hlen ⊢;omega
  have e1:Hid (l++vz s 2 t (k+1)=l++vz s 2 t k++[t.base+(k:Int)]++wF s 2 (t.base+(k:Int))):=by
   show l++vz s 2 t (k+1)=_;rw[wM];simp
  have hi0:0<=t.base+(k:Int):=by omega
  have hi1:t.base+(k:Int)<s.AE.length:=by omega
  cases DS:CV s (t.base+(k:Int))with
  |false=>
   have hz:Hid (wF s 2 (t.base+(k:Int))=[]):=wR DS
   (try simp only[hkn,hw,hwb,hst,DS,kS,kT,wC,wJ,wH,wI,AA b136_7.eq_1,AR,AX,Qa,apC,cond_false,AN.zero,AN.cells,go_sem]);repeat' ((first|apply orR|(apply sp<;>intro hc)|refine Aaa ?_|refine Om ⟨t1,t2,by omega⟩ wv ?_|refine⟨by kernel_rfl,wO hlk (λL2=> ?_)⟩|refine NI (s:=s) (kS _) (kT _) ok hi0 hi1 ?_)<;>try simp only[*,wC,wJ,wH,wI,AA b136_7.eq_1,AR,AX,Qa,apC,cond_false,AN.zero,AN.cells,go_sem])
   have e2:l++(vz s 2 t k++[t.base+(k:Int)])=l++vz s 2 t (k+1):=by rw[e1,hz];simp
   rw[e2]
   (refine AK.Az [16,2,3,4,5,15] ?_;simp only[mpC,go_sem];refine next _ (by omega) trivial)
  |true=>
   have hok:=node_ok inv DS
   have hih:=ways_spec (fS:=fS) (fT:=fT) inv hS hT 1 (s.AG (s.slot (t.base+(k:Int)).toNat).cap.th.toNat)
   have hih:Hid _:=hih
   (try simp only[hkn,hw,hwb,hst,DS,kS,kT,wC,wJ,wH,wI,AA b136_7.eq_1,AR,AX,Qa,apC,cond_true,AN.cells,go_sem]);repeat' ((first|apply orR|(apply sp<;>intro hc)|refine Aaa ?_|refine Om ⟨t1,t2,by omega⟩ wv ?_|refine⟨by kernel_rfl,wO hlk (λL2=> ?_)⟩|refine NI (s:=s) (kS _) (kT _) ok hi0 hi1 ?_)<;>try simp only[*,wC,wJ,wH,wI,AA b136_7.eq_1,AR,AX,Qa,apC,cond_true,AN.cells,go_sem])
   have e3:wF s 2 (t.base+(k:Int))=vz s 1 (s.AG (s.slot (t.base+(k:Int)).toNat).cap.th.toNat) (p2 (s.AG (s.slot (t.base+(k:Int)).toNat).cap.th.toNat).bits).toNat:=wL DS
   have e2:l++(vz s 2 t k++[t.base+(k:Int)])++vz s 1 (s.AG (s.slot (t.base+(k:Int)).toNat).cap.th.toNat) (p2 (s.AG (s.slot (t.base+(k:Int)).toNat).cap.th.toNat).bits).toNat=l++vz s 2 t (k+1):=by rw[e1,e3];simp
   refine hih _ (l++(vz s 2 t k++[t.base+(k:Int)])) [(k:Int)] _ 1 _ false _ rfl rfl (by omega) hok (λm L=> ?_) ?_ (λL=> ?_)
   ·simp only[wV,Qd,Qj,Aac,wC,Qh]
    simp[ints]
   ·rw[e2]
    have:=wP (s:=s) (d:=2) (t:=t) (k:=k+1) (m:=(p2 t.bits).toNat) (by omega)
    simp only[Qb]at hlen ⊢;omega
   ·rw[e2]
    (try simp only[hw,wV,AR,AX,Qa,apC,go_sem]);repeat' ((first|apply orR|(apply sp<;>intro hc)|fail)<;>try simp only[*,wV,AR,AX,Qa,apC,go_sem])
    (refine AK.Az [16,2,3,4,5,15] ?_;simp only[mpC,go_sem];refine next _ (by omega) trivial)
 ·have e:k=(p2 t.bits).toNat:=by omega
  subst e
  (try simp only[hkn,AA b136_7.eq_1,go_sem]);repeat' ((first|apply orR|(apply sp<;>intro hc)|fail)<;>try simp only[*,AA b136_7.eq_1,go_sem])
  exact h _
theorem Compact_x{l:List Int}{n o:Nat}{f:Bool}(hn:l.length=n)(ho:H[o]?=some (.AU 1 (ints l) false))(hl:l.length<=100000)
 (h:v7 l=l->K (.slice o n 0 n f) H) (h':v7 l≠l->K (.slice o n 0 (v7 l).length false) (H.set o (.AU 1 (ints (v7 l++Ql (n-(v7 l).length) 0)) false))):
 AF Qe 139 [.slice o n 0 n f] H K:=by subst hn;exact Aag ho hl h h'
theorem compact_len{l:List Int}:(v7 (F6 l)).length<=l.length:=by
 have:=Aai (l:=F6 l);rw[Gu]at this;exact this
theorem ww{l:List Int}{x:Int}:x∈F6 l↔x∈l:=(List.mergeSort_perm l _).mem_iff
set_option maxHeartbeats 2000000 in
theorem wG{th:Int}(hS:u2 H oS s rS)(hT:u3 H oT s rT)
 (h0:(BN s&&Bv th 0 (s.AS.AI-1))=false->K (.lit (.slice none 0 0)) H)
 (h1:(BN s&&Bv th 0 (s.AS.AI-1))=true->∀q xs m f L,(H++L)[q]?=some (.AU 1 (ints xs) false)->m<=xs.length->xs.length<=100000->(∀x,x∈xs.take m↔x∈wE s th)->K (.slice q xs.length 0 m f) (H++L)):
 AF Qe 66 [stA s oS oT fS fT,nL th] H K:=by
 have kS:=AL.of hS
 have kT:=AL.of hT
 cases hg:BN s with
 |false=>
  rw[hg]at h0
  have h0:=h0 rfl
  clear h1
  refine AF.gc ?_
  refine Aa ok66 ?_;repeat' first|simp only[*,BT,Qa,go_sem]|apply orR|(apply sp<;>intro hc)|refine AW (kS _) (kT _) ?_
  exact Gc.Cd (by simp[AH.refs]) h0
 |true=>
  rw[hg]at h0 h1
  have hwt:IntKind.wrap .i64 (s.AS.AI-1)=s.AS.AI-1:=by
   have:=Hb (D8.1 hg).AS
   simp only[IntKind.wrap,IntKind.bits,IntKind.signed];simp;omega
  cases ht:Bv th 0 (s.AS.AI-1)with
  |false=>
   rw[ht]at h0
   have h0:=h0 rfl
   clear h1
   refine AF.gc ?_
   refine Aa ok66 ?_;repeat' first|simp only[*,BT,Qa,go_sem]|apply orR|(apply sp<;>intro hc)|refine AW (kS _) (kT _) ?_|refine Tv ?_
   exact Gc.Cd (by simp[AH.refs]) h0
  |true=>
   rw[ht]at h1
   have h1:=h1 rfl
   clear h0
   have h1x:∀q n xs m f L,xs.length=n->(H++L)[q]?=some (.AU 1 (ints xs) false)->m<=n->n<=100000->(∀x,x∈xs.take m↔x∈wE s th)->K (.slice q n 0 m f) (H++L):=by
    rintro q n xs m f L rfl a b c d;exact h1 q xs m f L a b c d
   clear h1
   have inv:Inv s:=D8.1 hg
   have hb:=BX.1 ht
   have hlT:=inv.ME
   have hgb:=Hb inv.AS
   have hw:IntKind.wrap .i64 (2+th)=2+th:=by simp only[IntKind.wrap,IntKind.bits,IntKind.signed];simp;omega
   have hlt:(2+th<(s.AB.length:Int))=True:=eq_true (by omega)
   have hge:(0<=2+th)=True:=eq_true (by omega)
   have hlt2:((2+th).toNat<s.AB.length)=True:=eq_true (by omega)
   have hgt:=BI (s:=s) (k:=(2+th).toNat) (by omega)
   have hroot:Bc s (2+th).toNat=true:=by simp[Bc];omega
   have hnode:Aah s (s.AG (2+th).toNat):=by
    have h2:=wY inv hroot
    have:=CO (inv.BB _ (by omega)) h2
    exact⟨this.1,this.2.1,inv.fit _ (by omega) h2⟩
   have hp2:=C4 hnode.1
   have hlen:=reachT_len inv 2 (s.AG (2+th).toNat) (p2 (s.AG (2+th).toNat).bits).toNat (by omega)
   have hpos:0<(wE s th).length:=by
    have:=wP (s:=s) (d:=2) (t:=s.AG (2+th).toNat) (k:=1) (m:=(p2 (s.AG (2+th).toNat).bits).toNat) (by omega)
    rw[wM]at this
    simp only[Qb,Qf]at this
    simp only[wE];omega
   clear hlT hgb
   refine Aa ok66 ?_;repeat' first|simp only[*,BT,Qa,go_sem]|apply orR|(apply sp<;>intro hc)|refine AW (kS _) (kT _) ?_|refine Tv ?_
   refine AF.Kg (i:=H.length+1) 1 [.slice (H.length+2) 0 0 0 false] BP rfl rfl (λj a b h2 h3=> ?_) ?_
   ·cases j with
    |zero=>simp at h2 h3;subst h2;subst h3;right;exact⟨rfl,by simp⟩
    |succ j=>simp at h2
   have hR:wE s th=(vz s 2 (s.AG (2+th).toNat) (p2 (s.AG (2+th).toNat).bits).toNat):=rfl
   have hI:ints []=[]:=rfl
   have key:=fun(b:Au) (K':AH->AP->Prop) hh=>ways_top (K:=K') (H:=H++[b]) (fS:=fS) (fT:=fT) (t:=s.AG (2+th).toNat) (G:=[]) (l:=[]) inv (kS _) (kT _) hnode (by rw[List.nil_append];exact Qn hlen (by decide)) hh
   simp only[wV,outC,hI,Qb,Qf,Qk,Qm,Qd,apC,<-hR]at key
   have hlen:(wE s th).length<=100000:=Qn hlen (by decide)
   clear hR hI
   generalize hRR:wE s th=R at*
   have hRR:Hid _:=hRR
   simp only[go_sem]
   refine key _ _ (λL=> ?_)
   clear key
   repeat' first|simp only[*,Qa,apC,go_sem]|apply orR|(apply sp<;>intro hc)|refine Zz (l:=R) BO hpos (by omega) ?_
   refine Compact_x (l:=F6 R) Gu BO (by rw[Gu];exact hlen) (λhc=> ?_) (λhc=> ?_)
   ·repeat' first|simp only[*,Qa,apC,go_sem]|apply orR|(apply sp<;>intro hc)|fail
    exact h1x _ _ (F6 R) _ _ _ Gu BO (Qo _) hlen (λx=>by rw[List.take_of_length_le (by rw[Gu];exact Qo _),ww])
   ·have hcl:=compact_len (l:=R)
    repeat' first|simp only[*,Qa,apC,go_sem]|apply orR|(apply sp<;>intro hc)|fail
    exact h1x _ _ (v7 (F6 R)++Ql (R.length-(v7 (F6 R)).length) 0) _ _ _ (by simp;omega) BO hcl hlen (λx=>by rw[List.take_left' rfl,Aaj,ww])
end
end Go.Proofs.YtlaipllgmddkiaaGreat.Ax
