/- Texts put behind one another: LWset. Conditions: none. -/
import Derived.Test.YtohgndhnndeijaaGreatZIm
import Derived.Test.YtohgndhnndeijaaGreatZSa
set_option linter.all false
set_option maxHeartbeats 9999999
namespace Go.Ax.M
open Go Go.Ax
theorem wf_u64{n:Int}(h:(Lit.int .u64 n).wf=true):0<=n/\n<2^64:=by
 simp[Lit.wf,IntKind.min,IntKind.max,IntKind.bits,IntKind.signed]at h
 omega
end Go.Ax.M
namespace Go.Proofs.YtohgndhnndeijaaGreat.Ax
open Go Go.Ax Go.Ax.M
set_option maxRecDepth 100000
set_option maxHeartbeats 8000000 in
theorem iT(H:AP)(bs:List AH)(h:EU Tryz.prog H 8 [27,27,42] bs):AF Tryz.prog 5 bs H λv _=>v= .bool true:=by
 obtain⟨a1,l,rfl,h1,h⟩:=Bz h
 obtain⟨a2,l,rfl,h2,h⟩:=Bz h
 obtain⟨a3,l,rfl,h3,h⟩:=Bz h
 obtain rfl:=Fu h
 obtain⟨s,oS,oT,rfl,hS,hT⟩:=gM h1
 obtain⟨u,oS2,oT2,rfl,hS2,cT⟩:=gM h2
 obtain⟨b,rfl,hb⟩:=h3.int Tryz.underlying42
 obtain⟨b0,b1⟩:=wf_u64 hb
 clear h1 h2 h3 h hb
 have kS:=AL.of hS
 have kT:=AL.of hT
 have kS2:=AL.of hS2
 have kT2:=AL.of cT
 by_cases hg:BN s=true/\BN u=true/\s.AS=u.AS
 ·obtain⟨g1,g2,hg⟩:=hg
  have hI:=D8.1 g1
  have hI2:=D8.1 g2
  have hsO:=F7 g1
  have huO:=F7 g2
  have e1:=vp hsO huO hg (n:=b) (m:=0)
  have e2:=vT hsO huO hg (n:=b) (m:=0)
  have e3:=vp huO hsO hg.symm (n:=b) (m:=0)
  obtain⟨n,en⟩:∃n,nC s+8=n:=⟨_,rfl⟩
  have hn:=nC_le hI
  have en2:nC u+8=n:=by
   have h1:=c_eq hI
   have h2:=c_eq hI2
   rw[hg]at h1;omega
  have lA:(iB s b).length=n:=by rw[bd,en]
  have lB:(iB u b).length=n:=by rw[bd,en2]
  have lD:(iA 0 (iB u 0) (iB s 0)).length=(iA 0 (iB s 0) (iB u 0)).length:=vG (by rw[bd,bd];omega)
  have putA:=fun(H':AP) (K':AH->AP->Prop) (q1:H'[oS]?=_) q2 q3=>G2 (H:=H') (K:=K') (s:=s) (b:=b) (oS:=oS) (oT:=oT) (fS:=false) (fT:=false) (rS:=true) (rT:=true) en q1 q2 hI b0 b1 q3
  have putB:=fun(H':AP) (K':AH->AP->Prop) (q1:H'[oS2]?=_) q2 q3=>G2 (H:=H') (K:=K') (s:=u) (b:=b) (oS:=oS2) (oT:=oT2) (fS:=false) (fT:=false) (rS:=true) (rT:=true) en2 q1 q2 hI2 b0 b1 q3
  have of1:=fun(H':AP) (K':AH->AP->Prop) (q1:H'[oS]?=_) q2 q3 q4 q5 q6=>L0 (H:=H') (K:=K') (s:=s) (u:=u) (oS:=oS) (oT:=oT) (oS2:=oS2) (oT2:=oT2) (fS:=false) (fT:=false) (rS:=true) (rT:=true) (fS2:=false) (fT2:=false) (rS2:=true) (rT2:=true) q1 q2 q3 q4 hI hI2 hg q5 q6
  have of2:=fun(H':AP) (K':AH->AP->Prop) (q1:H'[oS2]?=_) q2 q3 q4 q5 q6=>L0 (H:=H') (K:=K') (s:=u) (u:=s) (oS:=oS2) (oT:=oT2) (oS2:=oS) (oT2:=oT) (fS:=false) (fT:=false) (rS:=true) (rT:=true) (fS2:=false) (fT2:=false) (rS2:=true) (rT2:=true) q1 q2 q3 q4 hI2 hI hg.symm q5 q6
  have same:=fun(H':AP) (K':AH->AP->Prop) (o o':Nat) (ro ro' f f':Bool) q1 q2 q3=>ep (H:=H') (K:=K') (s:=s) (o:=o) (o':=o') (ro:=ro) (ro':=ro') (f:=f) (f':=f') hI en lB q1 q2 q3
  generalize iB s b=A at*
  generalize iB u b=B at*
  rw[lD]at of2
  generalize hD:iA 0 (iB s 0) (iB u 0)=D at*
  generalize hD':iA 0 (iB u 0) (iB s 0)=D' at*
  clear hD hD'
  have m1:n<=100000:=by omega
  have m0:0<n:=by omega
  by_cases hw:600<D.length
  ·have of1:=λH' K' q1 q2 q3 q4 q5=>of1 H' K' q1 q2 q3 q4 (λ_=>q5) (λh=>absurd h (by omega))
   clear of2 e1 e2 e3 en en2 lA lB lD putA putB same hn m1 m0 hw g1 g2 hg
   refine Aa ok5 ?_;repeat' first|simp only[*,go_sem]|apply orR|(apply sp<;>intro hc)|refine cG ?_|refine of1 _ _ (kS _) (kT _) (kS2 _) (kT2 _) ?_
   all_goals trace_state
  ·have hw1:D.length<=600:=by omega
   have hw2:D.length<=100000:=by omega
   have of1:=λH' K' q1 q2 q3 q4 q5=>of1 H' K' q1 q2 q3 q4 (λh=>absurd h (by omega)) (λ_=>q5)
   have of2:=λH' K' q1 q2 q3 q4 q5=>of2 H' K' q1 q2 q3 q4 (λh=>absurd h (by omega)) (λ_=>q5)
   have do1:=fun(H':AP) (K':AH->AP->Prop) (o o':Nat) (ro ro' f f':Bool) q1 q2 q3=>cM (H:=H') (K:=K') (l:=A) (w:=D) (o:=o) (o':=o') (ro:=ro) (ro':=ro') (f:=f) (f':=f') lA rfl q1 q2 m0 m1 hw2 q3
   have do2:=fun(H':AP) (K':AH->AP->Prop) (o o':Nat) (ro ro' f f':Bool) q1 q2 q3=>cM (H:=H') (K:=K') (l:=B) (w:=D) (o:=o) (o':=o') (ro:=ro) (ro':=ro') (f:=f) (f':=f') lB rfl q1 q2 m0 m1 hw2 q3
   have do3:=fun(H':AP) (K':AH->AP->Prop) (o o':Nat) (ro ro' f f':Bool) q1 q2 q3=>cM (H:=H') (K:=K') (l:=B) (w:=D') (o:=o) (o':=o') (ro:=ro) (ro':=ro') (f:=f) (f':=f') lB lD q1 q2 m0 m1 hw2 q3
   have wA:=fun(H':AP) (K':AH->AP->Prop) (o o':Nat) (ro ro' f f':Bool) q1 q2 q3=>eR (H:=H') (K:=K') (l:=A) (o:=o) (o':=o') (ro:=ro) (ro':=ro') (f:=f) (f':=f') lA q1 q2 m1 q3
   have wB:=fun(H':AP) (K':AH->AP->Prop) (o o':Nat) (ro ro' f f':Bool) q1 q2 q3=>eR (H:=H') (K:=K') (l:=B) (o:=o) (o':=o') (ro:=ro) (ro':=ro') (f:=f) (f':=f') lB q1 q2 m1 q3
   rw[e1]at do1
   rw[e2]at do2
   rw[e3]at do3
   clear e1 e2 e3 en en2 lA lB lD hn m1 m0 hw hw1 hw2 g1 g2 hg hI hI2 hsO huO
   refine Aa ok5 ?_;repeat' first|simp only[*,go_sem]|apply orR|(apply sp<;>intro hc)|refine cG ?_|refine of1 _ _ (kS _) (kT _) (kS2 _) (kT2 _) ?_|refine of2 _ _ (kS2 _) (kT2 _) (kS _) (kT _) ?_|refine putA _ _ (kS _) (kT _) ?_|refine putB _ _ (kS2 _) (kT2 _) ?_|refine do1 _ _ _ _ _ _ _ _ (by first|exact BH|exact Bb rfl) (by first|exact BH|exact Bb rfl) ?_|refine do3 _ _ _ _ _ _ _ _ (by first|exact BH|exact Bb rfl) (by first|exact BH|exact Bb rfl) ?_|refine do2 _ _ _ _ _ _ _ _ (by first|exact BH|exact Bb rfl) (by first|exact BH|exact Bb rfl) ?_|refine wA _ _ _ _ _ _ _ _ (by first|exact BH|exact Bb rfl) (by first|exact BH|exact Bb rfl) ?_|refine wB _ _ _ _ _ _ _ _ (by first|exact BH|exact Bb rfl) (by first|exact BH|exact Bb rfl) ?_|refine same _ _ _ _ _ _ _ _ (by first|exact BH|exact Bb rfl) (by first|exact BH|exact Bb rfl) ?_
   all_goals trace_state
 ·have ofb:=fun(H':AP) (K':AH->AP->Prop) (q1:H'[oS]?=_) q2 q3 q4 q5=>u3 (H:=H') (K:=K') (s:=s) (u:=u) (oS:=oS) (oT:=oT) (oS2:=oS2) (oT2:=oT2) (fS:=false) (fT:=false) (rS:=true) (rT:=true) (fS2:=false) (fT2:=false) (rS2:=true) (rT2:=true) q1 q2 q3 q4 (λa b c=>hg ⟨a,b,c⟩) q5
  clear hg
  refine Aa ok5 ?_;repeat' first|simp only[*,go_sem]|apply orR|(apply sp<;>intro hc)|refine cG ?_|refine ofb _ _ (kS _) (kT _) (kS2 _) (kT2 _) ?_
  all_goals trace_state
end Go.Proofs.YtohgndhnndeijaaGreat.Ax
