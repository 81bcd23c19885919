/- Numbers in a row of which equal neighbours are kept once: what the library's function makes of them. Conditions: none. -/
import Derived.Test.YtohgndhnndeijaaGreatZPu
import Derived.Test.YtohgndhnndeijaaGreatSBaseZ
set_option linter.all false
namespace Go.Proofs.YtohgndhnndeijaaGreat.Ax
open Go Go.Ax Go.Ax.M
section
variable {H:AP}{K:AH->AP->Prop}{o:Nat}{f:Bool}
theorem set_self{H:AP}{o:Nat}{x:Au}(h:H[o]?=some x):H.set o x=H:=by
 obtain⟨hl,rfl⟩:=List.getElem?_eq_some_iff.1 h;simp
set_option maxHeartbeats 1000000 in
theorem Aag{l:List Int}(ho:H[o]?=some (.AU 1 (ints l) false))(hl:l.length<=100000)
 (h:v7 l=l->K (.slice o l.length 0 l.length f) H)
 (h':v7 l≠l->K (.slice o l.length 0 (v7 l).length false) (H.set o (.AU 1 (ints (v7 l++List.replicate (l.length-(v7 l).length) 0)) false))):
 AF Tryz.prog 74 [.slice o l.length 0 l.length f] H K:=by
 have kO:=AL.of ho
 have kO0:=kO.at
 by_cases hs:l.length<2
 ·have hs':((l.length:Int)<2)=True:=eq_true (by omega)
  refine Aa ok74 ?_;(try simp only[hs',go_sem]);repeat' ((first|apply orR|(apply sp<;>intro hc)|fail)<;>try simp only[*,go_sem])
  exact h (wq hs)
 ·have hs':((l.length:Int)<2)=False:=eq_false (by omega)
  refine Aa ok74 ?_;(try simp only[hs',go_sem]);repeat' ((first|apply orR|(apply sp<;>intro hc)|fail)<;>try simp only[*,go_sem])
  refine AK.Az [3,0] ?_;simp only[mpC,go_sem]
  refine AK.acc (α:=Unit) (λk _=>[(3,nS ((k+1:Nat):Int))]) (λ_ _=>H) (λk _=>wS l (k+1)=l.take (k+1)) (l.length-1) ?_ (a0:=()) (by rw[take_one (by omega)];rfl)
  intro i _ hi I next
  refine AK.unfold ?_
  have I':Hid (wS l (i+1)=l.take (i+1)):=I
  clear I
  by_cases hil:i+1<l.length
  ·have hil0:i<l.length:=by omega
   have hw:=AY (k:=i+1) (by omega)
   have hm:IntKind.wrap .i64 (((i+1:Nat):Int)-1)=(i:Int):=by
    simp only[IntKind.wrap,IntKind.bits,IntKind.signed];simp;omega
   have g1:(ints l)[i+1]?=some [nS (l.getD (i+1) 0)]:=Bt hil
   have g0:(ints l)[i]?=some [nS (l.getD i 0)]:=Bt (by omega)
   by_cases e:l.getD (i+1) 0=l.getD i 0
   ·have e':(l.getD (i+1) 0=l.getD i 0)=True:=eq_true e
    have st:=half_start hil I' e
    clear e next
    have hle:i+1<=l.length:=by omega
    (try simp only[e',hil,hil0,hle,hm,hw,g1,g0,kO0,AA b74_9.eq_1,AR,AX,go_sem]);repeat' ((first|apply orR|(apply sp<;>intro hc)|fail)<;>try simp only[*,AA b74_9.eq_1,AR,AX,go_sem])
    refine AK.Az [5,3,0,4] ?_;simp only[mpC,go_sem]
    refine Eq.mp (congrArg (λZ=>AK _ _ _ _ ⟨_,Z⟩) (set_self ho)) ?_
    refine AK.acc (α:=List Int×Nat) (λj p=>[(5,nS ((j+1:Nat):Int)),(3,nS (p.2:Int))]) (λ_ p=>H.set o (.AU 1 (ints p.1) false)) (λj p=>wW l p.1 (i+2+j) p.2) (l.length-(i+2)) ?_ (a0:=(l,i+1)) st
    rintro j ⟨c,k⟩ hj I next
    simp only[List.length_set]at I next ⊢
    refine AK.unfold ?_
    have hcl:=I.len
    have hkn:=I.lt
    have hmn:=I.le
    have hs0:=λx=>kO.Eu x
    have hilen:(ints c).length=l.length:=by rw[LJ];exact hcl
    have I':Hid (wW l c (i+2+j) k):=I
    clear I
    have hwj:=AY (k:=j+1) (by omega)
    have hwk:=AY (k:=k) (by omega)
    by_cases hjl:j+1<l.length-(i+1)
    ·have hm1:IntKind.wrap .i64 (((j+1:Nat):Int)-1)=(j:Int):=by
      simp only[IntKind.wrap,IntKind.bits,IntKind.signed];simp;omega
     have g2:(ints c)[i+1+(j+1)]?=some [nS (c.getD (i+1+j+1) 0)]:=Bt (by omega)
     have g3:(ints c)[i+1+j]?=some [nS (c.getD (i+1+j) 0)]:=Bt (by omega)
     have q1:j<l.length-(i+1):=by omega
     have q2:k<l.length:=by omega
     by_cases e2:c.getD (i+1+j+1) 0=c.getD (i+1+j) 0
     ·have e2':(c.getD (i+1+j+1) 0=c.getD (i+1+j) 0)=True:=eq_true e2
      have e2:Hid (_=_):=e2
      (try simp only[e2',hjl,q1,q2,hm1,hwj,hwk,g2,g3,hs0,hilen,AA b74_3.eq_1,AR,AX,go_sem]);repeat' ((first|apply orR|(apply sp<;>intro hc)|fail)<;>try simp only[*,AA b74_3.eq_1,AR,AX,go_sem])
      (refine AK.Az [5,3,0,4] ?_;simp only[mpC,go_sem];refine next (c,k) (by omega) (by have:=wW.same (m:=i+1+j) (show wW l c (i+1+j+1) k by rw[show i+1+j+1=i+2+j by omega];exact I') (by omega) e2;rwa [show i+1+j+2=i+2+(j+1) by omega]at this))
     ·have e2':(c.getD (i+1+j+1) 0=c.getD (i+1+j) 0)=False:=eq_false e2
      have e2:Hid (¬_):=e2
      have hset:(ints c).set k [nS (c.getD (i+1+j+1) 0)]=ints (c.set k (c.getD (i+1+j+1) 0)):=by simp[ints,List.map_set]
      have g4:(ints c)[k]?=some [nS (c.getD k 0)]:=Bt (by omega)
      (try simp only[e2',hjl,q1,q2,hm1,hwj,hwk,g2,g3,g4,hs0,hilen,hset,AA b74_3.eq_1,AR,AX,go_sem]);repeat' ((first|apply orR|(apply sp<;>intro hc)|fail)<;>try simp only[*,AA b74_3.eq_1,AR,AX,go_sem])
      (refine AK.Az [5,3,0,4] ?_;simp only[mpC,go_sem];refine next (c.set k (c.getD (i+1+j+1) 0),k+1) (by omega) (by have:=wW.more (m:=i+1+j) (show wW l c (i+1+j+1) k by rw[show i+1+j+1=i+2+j by omega];exact I') (by omega) e2;rwa [show i+1+j+2=i+2+(j+1) by omega]at this))
    ·have hend:i+2+j=l.length:=by omega
     have hh:wW l c l.length k:=by rw[<-hend];exact I'
     have hk:=h' hh.ne
     rw[<-hh.end,show(v7 l).length=k from hh.eq.symm,<-Aak hcl (by omega)]at hk
     have q1:k<=l.length:=by omega
     have q2:(k=l.length)=False:=eq_false (by omega)
     have hpl:(Fh (ints c) k (List.replicate (l.length-k) [nS 0])).length=l.length:=by rw[LS];exact hilen
     have hh':Hid (wW l c l.length k):=hh
     clear next hh
     (try simp only[hjl,q1,q2,hs0,hilen,hpl,Nat.zero_le,Nat.sub_zero,Bool.and_false,AA b74_3.eq_1,AR,AX,go_sem]);repeat' ((first|apply orR|(apply sp<;>intro hc)|fail)<;>try simp only[*,Nat.zero_le,Nat.sub_zero,Bool.and_false,AA b74_3.eq_1,AR,AX,go_sem])
     all_goals exact hk
   ·have e':(l.getD (i+1) 0=l.getD i 0)=False:=eq_false e
    (try simp only[e',hil,hil0,hm,hw,g1,g0,kO0,AA b74_9.eq_1,AR,AX,go_sem]);repeat' ((first|apply orR|(apply sp<;>intro hc)|fail)<;>try simp only[*,AA b74_9.eq_1,AR,AX,go_sem])
    (refine AK.Az [3,0] ?_;simp only[mpC,go_sem];refine next () (by omega) (by rw[wT e,wh hil,I']))
  ·have hnl:(((i+1:Nat):Int)<(l.length:Int))=False:=eq_false (by omega)
   have hk:=h (by
    have:i+1=l.length:=by omega
    rw[v7,<-this,I',this,List.take_length])
   (try simp only[hnl,kO0,AA b74_9.eq_1,go_sem]);repeat' ((first|apply orR|(apply sp<;>intro hc)|fail)<;>try simp only[*,AA b74_9.eq_1,go_sem])
   all_goals exact hk
end
end Go.Proofs.YtohgndhnndeijaaGreat.Ax
