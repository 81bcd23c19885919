/- Texts put behind one another: SThing, SForest. Conditions: none. -/
import Derived.Test.YtohgndhnndeijaaGreatSBaseZ
import Derived.Test.YtohgndhnndeijaaGreatSLoopZ
set_option linter.all false
set_option maxHeartbeats 9999999
open List renaming append_nil -> Qa, range -> Qc
open Go.Proofs.Tryz renaming prog -> Qb
namespace Go.Proofs.YtohgndhnndeijaaGreat.Ax
open Go Go.Ax Go.Ax.M
section
variable {H:AP}{K:AH->AP->Prop}
theorem MX{n lo hi:Int}(h:K (.bool (Bv n lo hi)) H):AF Qb 142 [nS n,nS lo,nS hi] H K:=by
 refine Aa ok142 ?_;repeat' first|simp only[*,go_sem]|apply orR|(apply sp<;>intro hc)|fail
 all_goals (refine kb h ?_;first|(simp only[Bv, *,bs,go_sem];done)|(simp_all[Bv]<;>omega)|grind[Bv])
theorem Lj{t:AN}(h:K (.agg (DI t).cells) H):AF Qb 141 [.agg t.cells] H K:=by
 refine AF.tidy ?_
 unfold AN.cells
 refine Aa ok141 ?_;repeat' first|simp only[*,go_sem]|apply orR|(apply sp<;>intro hc)|fail
 all_goals (refine tv h (by first|exact⟨_,rfl⟩|exact⟨[],(Qa _).symm⟩|exact hx|exact hx.app _) ?_;first|(simp only[DI,AN.cells,AN.zero,AH.plain,Ah, *,bs,go_sem];done)|(simp_all[DI,AN.cells,AN.zero,AH.plain,Ah]<;>omega)|grind[DI,AN.cells,AN.zero,AH.plain,Ah])
theorem PW{t:AN}(h:K (.bool (BB t)) H):AF Qb 97 [.agg t.cells] H K:=by
 have e:Bv t.bits 1 4=true->IntKind.wrap .i64 (96-p2 t.bits)=96-p2 t.bits:=λh=>w64 (by have:=C4 h;omega) (by have:=C4 h;omega)
 refine AF.tidy ?_
 have hsh:=@I3 t.bits
 unfold AN.cells
 refine Aa ok97 ?_;repeat' first|simp only[*,OW,go_sem]|apply orR|(apply sp<;>intro hc)|refine Lj (t:=t) ?_|refine MX ?_
 all_goals (refine tb h (by first|exact⟨_,rfl⟩|exact⟨[],(Qa _).symm⟩|exact hx|exact hx.app _) ?_;first|(simp only[BB, *,bs,go_sem];done)|(simp_all[BB]<;>omega)|grind[BB])
theorem PV{k n:Int}(h:K (.Bj [nS (CE k n).1,.bool (CE k n).2]) H):AF Qb 194 [nS k,nS n] H K:=by
 have hsh:=@I3 n
 refine AF.tidy ?_
 refine Aa ok194 ?_;repeat' first|simp only[*,go_sem]|apply orR|(apply sp<;>intro hc)|refine MX ?_
 all_goals (refine tv h (by first|exact⟨_,rfl⟩|exact⟨[],(Qa _).symm⟩|exact hx|exact hx.app _) ?_;first|(simp only[CE,AH.plain,Ah, *,bs,go_sem];done)|(simp_all[CE,AH.plain,Ah]<;>omega)|grind[CE,AH.plain,Ah])
section
variable {x0 x1 x2 x3 x4 x5 x6:Int}{x7:Bool}{x8 x9 x10 x11 x12:Int}
theorem Nm(h:K (.bool (BB ⟨x0,x1,x2,x3,x4,x5,x6,x7,x8,x9,x10,x11,x12⟩)) H):AF Qb 97 [.agg [nS x0,nS x1,nS x2,nS x3,nS x4,nS x5,nS x6,.bool x7,nT x8,nT x9,nT x10,nT x11,nT x12]] H K:=PW (t:=⟨x0,x1,x2,x3,x4,x5,x6,x7,x8,x9,x10,x11,x12⟩) h
end
theorem R1{k n b:Int}(h:K (.Bj [.agg (HH k n b).1.cells,.bool (HH k n b).2]) H):AF Qb 56 [nS k,nS n,nS b] H K:=by
 refine AF.tidy ?_
 refine Aa ok56 ?_;repeat' first|simp only[*,go_sem]|apply orR|(apply sp<;>intro hc)|refine Nm ?_
 all_goals (refine tv h (by first|exact⟨_,rfl⟩|exact⟨[],(Qa _).symm⟩|exact hx|exact hx.app _) ?_;first|(simp only[HH,Bw,AN.cells,AN.zero,AH.plain,Ah, *,bs,go_sem];done)|(simp_all[HH,Bw,AN.cells,AN.zero,AH.plain,Ah]<;>omega)|grind[HH,Bw,AN.cells,AN.zero,AH.plain,Ah])
end
section
variable {H:AP}{K:AH->AP->Prop}
theorem EV{up:List Int}{o:Nat}{fl ro:Bool}{i:Int}(ho:H[o]?=some (.AU 1 (ints up) ro))(h:K (.bool (E0 up i)) H):AF Qb 162 [.agg [.slice o up.length 0 up.length fl],nS i] H K:=by
 have hf:∀L,(H++L)[o]?=some (.AU 1 (ints up) ro):=λL=>UD ho
 have hg:0<=i->i<up.length->(ints up)[i.toNat]?=some [nS (up.getD i.toNat 0)]:=λh1 h2=>Bt (by omega)
 refine AF.tidy ?_
 refine Aa ok162 ?_;repeat' first|simp only[*,go_sem]|apply orR|(apply sp<;>intro hc)|fail
 all_goals (refine tb h (by first|exact⟨_,rfl⟩|exact⟨[],(Qa _).symm⟩|exact hx|exact hx.app _) ?_;first|(simp only[E0, *,bs,go_sem];done)|(simp_all[E0]<;>omega)|grind[E0])
theorem Jm{up:List Int}{o:Nat}{fl ro:Bool}(ho:H[o]?=some (.AU 1 (ints up) ro))(h:K (.bool (Cm up)) H):AF Qb 110 [.agg [.slice o up.length 0 up.length fl]] H K:=by
 have hf:∀L,(H++L)[o]?=some (.AU 1 (ints up) ro):=λL=>UD ho
 refine AF.tidy ?_
 refine Aa ok110 ?_;repeat' first|simp only[*,go_sem]|apply orR|(apply sp<;>intro hc)|refine EV (hf _) ?_
 ·all_goals (refine tb h (by first|exact⟨_,rfl⟩|exact⟨[],(Qa _).symm⟩|exact hx|exact hx.app _) ?_;first|(simp only[Cm, *,bs,go_sem];done)|(simp_all[Cm]<;>omega)|grind[Cm])
 ·have hlen:up.length<=96:=by omega
  refine AK.Az [15,1,13,14] ?_;simp only[mpC,go_sem]
  refine AK.aB (λk=>(up.take k).all (ZA up)=true) up.length (by simp) λk hk hI next=> ?_
  refine AK.unfold ?_
  have hw:=AY (k:=k) (by omega)
  have hg:k<up.length->(ints up)[k]?=some [nS (up.getD k 0)]:=λh=>Bt h
  repeat' first|simp only[*,AA b110_4.eq_1,AR,AX,go_sem]|apply orR|(apply sp<;>intro hc)|refine EV (hf _) ?_
  all_goals try((refine AK.Az [15,1,13,14] ?_;simp only[mpC,go_sem];refine next ‹_› ?_);rw[J6 (d:=0) ‹_›,hI];simp_all[ZA];done)
  ·refine tb h ⟨_,rfl⟩ ?_
   have:up.all (ZA up)=false:=all_false (d:=0) (k:=k) ‹_› (by simp_all[ZA])
   simp[Cm,this]
  ·have hk:k=up.length:=by omega
   subst hk
   simp only[List.take_length]at hI
   clear next hw hg
   refine AK.Az [35,1,34] ?_;simp only[mpC,go_sem]
   refine AK.aB (λk=>((Qc k).all λi=>CH up (up.length+1) i)=true) up.length (by simp) λk hk hI2 next=> ?_
   refine AK.unfold ?_
   have hw:=AY (k:=k) (by omega)
   repeat' first|simp only[*,AA b110_11.eq_1,AR,AX,go_sem]|apply orR|(apply sp<;>intro hc)|refine EV (hf _) ?_
   ·refine AK.Az [7,6,1,34,35] ?_;simp only[mpC,go_sem]
    refine AK.acc (λs a=>[(7,nS a),(6,nS (s:Int))]) (λ_ _=>_) (λs a=>s<=up.length+1/\CH up (up.length+1-s) a=CH up (up.length+1) k) (up.length+1) ?_ (a0:=(k:Int)) ⟨by omega,rfl⟩
    intro s a hs hI3 next2
    refine AK.unfold ?_
    have hws:=AY (k:=s) (by omega)
    have hg:E0 up a=true->(0<=a)=True/\(a<(up.length:Int))=True/\(ints up)[a.toNat]?=some [nS (up.getD a.toNat 0)]:=by
     intro h;simp[E0]at h;exact⟨by simp[h],by simp[h],Bt (by omega)⟩
    repeat' first|simp only[*,AA b110_8.eq_1,AR,AX,apC,go_sem]|apply orR|(apply sp<;>intro hc)|refine EV (hf _) ?_
    ·obtain⟨hs1,hs2⟩:=hI3
     refine tb h ⟨_,rfl⟩ ?_
     have e:up.length+1-s=0:=by omega
     rw[e]at hs2
     have:((Qc up.length).all λi=>CH up (up.length+1) i)=false:=Cv (k:=k) (by omega) (by rw[<-hs2];simp[CH, *])
     simp[Cm,this]
    ·obtain⟨hs1,hs2⟩:=hI3
     (refine AK.Az [7,6,1,34,35] ?_;simp only[mpC,go_sem];refine next2 _ (by omega) ⟨by omega,?_⟩)
     rw[<-hs2,show up.length+1-s=(up.length+1-(s+1))+1 by omega]
     simp[CH, *]
    ·obtain⟨hs1,hs2⟩:=hI3
     (refine AK.Az [35,1,34] ?_;simp only[mpC,go_sem];refine next (by omega) ?_)
     rw[Da (N:=0),hI2,<-hs2]
     cases e:up.length+1-s<;>simp[CH, *]
   ·refine tb h ⟨_,rfl⟩ ?_
    have hk:k=up.length:=by omega
    subst hk
    simp[Cm,hI,hI2,hlen]
end
end Go.Proofs.YtohgndhnndeijaaGreat.Ax
