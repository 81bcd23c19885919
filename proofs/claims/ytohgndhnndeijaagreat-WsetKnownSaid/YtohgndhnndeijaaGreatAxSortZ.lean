/- A sort of whole numbers in place, as the library's contract tells it, for our machine. Conditions: none. -/
import Derived.Test.YtohgndhnndeijaaGreatSLoopZ
import Derived.Sort.Grow
set_option linter.all false
open Go.Sort renaming grow -> Qa, putRow -> Qb, ahead -> Qc, Holds -> Qd
namespace Go.Ax
open Go Go.RowKit
def F6(l:List Int):List Int:=l.mergeSort λx y=>decide (x<=y)
theorem Gu{l:List Int}:(F6 l).length=l.length:=by simp[F6]
theorem N9{w:World}{os:Array Obj}{b:Nat}{x:Obj}(h:w.heap[b]?=some x):(Qa w os).heap[b]?=some x:=by
 have hl:=(Array.getElem?_eq_some_iff.1 h).1
 simp only[Qa,Array.getElem?_append_left hl];exact h
theorem BL.grown{B:Nat->Prop}{σ:B0}{H:AP}{w:World}(h:BL B σ H w)(os:Array Obj):BL B σ H (Qa w os):=by
 refine⟨fun{o x} ho=> ?_,h.apart,λk hk=> ?_⟩
 ·have hr:=h.obj ho
  cases x with
  |AU s xs ro=>
   obtain⟨h1,h2,h3⟩:=hr
   exact⟨h1,h2,h3.imp id fun⟨c,e,fr,hb,hc⟩=>⟨c,e,fr,N9 hb,hc⟩⟩
  |map es=>obtain⟨h1,ms,clock,hb,hk⟩:=hr;exact⟨h1,ms,clock,N9 hb,hk⟩
  |iter s p=>exact⟨hr.1,N9 hr.2⟩
  |A1=>trivial
 ·have:=h.base k hk
  simp only[Qa,Array.size_append];omega
theorem Kept.grown{B:Nat->Prop}{a w:World}(h:Kept B a w)(hB:∀k,B k->k<w.heap.size)(os:Array Obj):Kept B a (Qa w os):=by
 refine⟨h.os,h.tape,h.output,?_,λk hk=> ?_⟩
 ·have:=h.size;simp only[Qa,Array.size_append];omega
 ·have:=h.block k hk
  have hl:=hB k hk
  simp only[Qa,Array.getElem?_append_left hl];exact this
theorem Kept.row{B:Nat->Prop}{a w:World}(h:Kept B a w){CG off:Nat}(hb:¬B CG)(d:Array Int):Kept B a (Qb (Value.int .i64) w CG off d):=by
 refine⟨h.os,h.tape,h.output,?_,λk hk=> ?_⟩
 ·have:=h.size;simp only[Go.Sort.size_putRow];exact this
 ·have:=h.block k hk
  have hne:CG≠k:=λe=>hb (e▸hk)
  simp only[Qb,Go.Sort.mapBlock,Array.getElem?_modify,if_neg hne];exact this
theorem BL.holds{B:Nat->Prop}{σ:B0}{H:AP}{w:World}(h:BL B σ H w){o:Nat}{l:List Int}(ho:H[o]?=some (.AU 1 (ints l) false)):Qd (Value.int .i64) w (σ o).CG 0 l.toArray:=by
 intro j hj
 have hj':j<l.length:=by simpa using hj
 have hlt:j<(ints l).length:=by simpa [ints] using hj'
 have hg:(ints l)[j]?=some [.int .i64 l[j]]:=by simp[ints,hj']
 obtain⟨v,hv,hr⟩:=h.eM ho hg (j:=0) rfl
 have DS:=h.there ho hlt 0 1 (by omega) 0 (by omega)
 obtain⟨h1,h2,h3⟩:=h.obj ho
 obtain⟨c,e,fr,hb,hcs,hown,-⟩:=h3.resolve_left (by omega)
 obtain⟨-,hoff,-,-⟩:=hown rfl
 simp only[VR]at hr
 subst hr
 refine⟨?_,?_⟩
 ·rw[hoff]at hv
  simp only[Nat.zero_add,Nat.mul_one,Nat.add_zero]at hv ⊢
  rw[hv]
  simp[hj']
 ·have:=DS.2
  simpa using this
theorem BL.row{B:Nat->Prop}{σ:B0}{H:AP}{w:World}(h:BL B σ H w){o:Nat}{l l':List Int}(ho:H[o]?=some (.AU 1 (ints l) false))(hl:l'.length=l.length):
 BL B σ (H.set o (.AU 1 (ints l') false)) (Qb (Value.int .i64) w (σ o).CG 0 l'.toArray):=by
 have holt:=(List.getElem?_eq_some_iff.1 ho).1
 have key:∀k,k<=l.length->BL B σ (H.set o (.AU 1 (ints (l'.take k++l.drop k)) false)) (Qb (Value.int .i64) w (σ o).CG 0 (l'.take k++l.drop k).toArray):=by
  intro k
  induction k with
  |zero=>
   intro _
   simp only[List.take_zero,List.drop_zero,List.nil_append]
   rw[Go.Sort.putRow_self _ _ _ _ _ (h.holds ho),I1 ho];exact h
  |succ k ih=>
   intro hk
   have ih:=ih (by omega)
   have hk':k<l'.length:=by omega
   have hlen:(l'.take k++l.drop k).length=l.length:=by simp;omega
   have hm:(l'.take k++l.drop k).set k l'[k]=l'.take (k+1)++l.drop (k+1):=by
    rw[List.set_append_right _ _ (by simp;omega),List.length_take,Nat.min_eq_left (by omega),Nat.sub_self,List.drop_eq_getElem_cons (show k<l.length by omega),List.set_cons_zero,List.take_succ_eq_append_getElem hk',List.append_assoc]
    rfl
   have hkl:k<(l'.take k++l.drop k).length:=by omega
   have hget:(ints (l'.take k++l.drop k))[k]?=some [.int .i64 (l'.take k++l.drop k)[k]]:=by simp only[ints,List.getElem?_map,List.getElem?_eq_getElem hkl,Option.map_some]
   have:=ih.sq (o:=o) (s:=1) (xs:=ints (l'.take k++l.drop k)) (List.getElem?_set_self holt) hget (j:=0) (by omega) (a:= .int .i64 l'[k]) (v:= .int .i64 l'[k]) rfl rfl
   rw[List.set_set]at this
   have e1:(ints (l'.take k++l.drop k)).set k ([.int .i64 (l'.take k++l.drop k)[k]].set 0 (.int .i64 l'[k]))=ints (l'.take (k+1)++l.drop (k+1)):=by
    rw[<-hm];simp[ints,List.map_set]
   rw[e1,show k* 1+0=0+k by omega,Go.Sort.putRow_set (Value.int .i64) w (σ o).CG 0 _ k l'[k] (by rw[List.size_toArray];exact hkl)]at this
   have e2:(l'.take k++l.drop k).toArray.setIfInBounds k l'[k]=(l'.take (k+1)++l.drop (k+1)).toArray:=by
    rw[<-hm];simp
   rw[e2]at this
   exact this
 have:=key l.length (Nat.le_refl _)
 rw[List.drop_length,List.append_nil,<-hl,List.take_length]at this
 exact this
theorem AF.bw{P:Program}{f:FuncId}(hc:∀(CG off cap:Nat) (zs:List Int) (w:World),Qd (Value.int .i64) w CG off zs.toArray->CG<w.heap.size->zs.length<4611686018427387904->
 Calls P f #[.slice (some ⟨CG,off,none⟩) zs.length cap] w λe w'=>e= .returned (.tuple #[])/\∃n os,w'=Qa (Qb (Value.int .i64) (Qc w n) CG off (zs.mergeSort λx y=>decide (x<=y)).toArray) os)
 {H:AP} {K:AH->AP->Prop} {o:Nat} {l:List Int} {fl:Bool} (ho:H[o]?=some (.AU 1 (ints l) false)) (h0:0<l.length) (hl:l.length<=1000000) (h:K (.Bj []) (H.set o (.AU 1 (ints (F6 l)) false))):
 AF P f [.slice o l.length 0 l.length fl] H K:=by
 intro B σ w vs hR hV
 cases vs with
 |nil=>cases hV
 |cons x vs=>cases vs with
  |cons _ _=>cases hV.2
  |nil=>
   obtain⟨hx,-⟩:=hV
   simp only[VR]at hx
   obtain⟨s,xs,ro,a,cap,hxo,hn,hst,rfl,hcap,hfull,hnil,hroom⟩:=hx
   rw[ho]at hxo
   simp only[Option.some.injEq,Au.AU.injEq]at hxo
   obtain⟨rfl,rfl,rfl⟩:=hxo
   obtain⟨hrm,ha⟩:=hroom (by simp[ints])
   have ha:=ha (by omega)
   subst ha
   obtain⟨h1,h2,h3⟩:=hR.obj ho
   obtain⟨c,e,fr,hb,hcs,hown,-⟩:=h3.resolve_left (by omega)
   obtain⟨hB,hoff,-,-⟩:=hown rfl
   have hblk:(σ o).CG<w.heap.size:=(Array.getElem?_eq_some_iff.1 hb).1
   rw[hoff]
   refine(hc (σ o).CG 0 cap l w (hR.holds ho) hblk (by omega)).mono ?_
   rintro e w' ⟨rfl,n,os,rfl⟩
   have hRa:BL B σ H (Qc w n):=hR.heap rfl
   have hRr:=hRa.row ho (l':=F6 l) Gu
   have hKa:Kept B w (Qc w n):=⟨rfl,rfl,rfl,Nat.le_refl _,λ_ _=>rfl⟩
   exact⟨_,σ,_,_,rfl,h,hRr.grown os,⟨#[],rfl,by simp[BQ]⟩,(Alike.Mk ho (by simp[ints,F6])).ext σ,(hKa.row hB _).grown hRr.base os⟩
theorem AF.bx{P:Program}{f:FuncId}(hc:∀(p:Option Addr) (cap:Nat) (w:World),Calls P f #[.slice p 0 cap] w λe w'=>e= .returned (.tuple #[])/\w'=w)
 {H:AP} {K:AH->AP->Prop} (h:K (.Bj []) H):AF P f [.lit (.slice none 0 0)] H K:=by
 intro B σ w vs hR hV
 cases vs with
 |nil=>cases hV
 |cons x vs=>cases vs with
  |cons _ _=>cases hV.2
  |nil=>
   obtain⟨hx,-⟩:=hV
   simp only[VR]at hx
   subst hx
   refine(hc none 0 w).mono ?_
   rintro e w' ⟨rfl,rfl⟩
   exact⟨_,σ,_,H,rfl,h,hR,⟨#[],rfl,by simp[BQ]⟩,Ext.refl _ _,Kept.refl _ _⟩
end Go.Ax
