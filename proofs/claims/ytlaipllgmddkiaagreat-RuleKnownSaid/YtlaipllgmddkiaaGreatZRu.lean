/- Texts put behind one another: SRuleD, SRuleW, SWordsI, SRule. Conditions: none. -/
import Derived.Test.YtlaipllgmddkiaaGreatZTk
import Derived.Test.YtlaipllgmddkiaaGreatZSw
import Derived.Test.YtlaipllgmddkiaaGreatSLawB21Z
set_option linter.all false
set_option maxHeartbeats 9999999
open Nat renaming add_assoc -> Qa
open Go.Proofs.Tryz renaming prog -> Qb
open Bool renaming not_true -> Qc, not_false -> Qd, true_and -> Qf
open Int renaming natCast_inj -> Qe, cast_ofNat_Int -> Qg
namespace Go.Ax.M
open Go Go.Ax
theorem dY{s:State}{th x y w:Int}{a b:List Int}(hg:(BN s&&(AT ⟨1,a,b,x,y,w⟩&&Bv th 0 (s.AS.AI-1)))=true):DY s th ⟨1,a,b,x,y,w⟩=Be s th ⟨1,a,b,x,y,w⟩:=by
 simp only[DY,hg,Qc,cond_false];rfl
theorem dZ{s:State}{th x y w:Int}{a b:List Int}(hg:(BN s&&(AT ⟨2,a,b,x,y,w⟩&&Bv th 0 (s.AS.AI-1)))=true):DY s th ⟨2,a,b,x,y,w⟩=A5 s th ⟨2,a,b,x,y,w⟩:=by
 simp only[DY,hg,Qc,cond_false];rfl
theorem da{s:State}{th x y w:Int}{a b:List Int}(hg:(BN s&&(AT ⟨3,a,b,x,y,w⟩&&Bv th 0 (s.AS.AI-1)))=true):DY s th ⟨3,a,b,x,y,w⟩=A5 s th ⟨3,a,b,x,y,w⟩:=by
 simp only[DY,hg,Qc,cond_false];rfl
theorem db{s:State}{th x y w:Int}{a b:List Int}(hg:(BN s&&(AT ⟨4,a,b,x,y,w⟩&&Bv th 0 (s.AS.AI-1)))=true):DY s th ⟨4,a,b,x,y,w⟩=A5 s th ⟨4,a,b,x,y,w⟩:=by
 simp only[DY,hg,Qc,cond_false];rfl
theorem dc{s:State}{th x y w:Int}{a b:List Int}(hg:(BN s&&(AT ⟨5,a,b,x,y,w⟩&&Bv th 0 (s.AS.AI-1)))=true):DY s th ⟨5,a,b,x,y,w⟩=takeN s th ⟨5,a,b,x,y,w⟩:=by
 simp only[DY,hg,Qc,cond_false];rfl
theorem dd{s:State}{th x y w:Int}{a b:List Int}(hg:(BN s&&(AT ⟨6,a,b,x,y,w⟩&&Bv th 0 (s.AS.AI-1)))=true):DY s th ⟨6,a,b,x,y,w⟩=takeN s th ⟨6,a,b,x,y,w⟩:=by
 simp only[DY,hg,Qc,cond_false];rfl
theorem de{s:State}{th x y w:Int}{a b:List Int}(hg:(BN s&&(AT ⟨7,a,b,x,y,w⟩&&Bv th 0 (s.AS.AI-1)))=true):DY s th ⟨7,a,b,x,y,w⟩=BC s th ⟨7,a,b,x,y,w⟩:=by
 simp only[DY,hg,Qc,cond_false];rfl
theorem df{s:State}{th x y w:Int}{a b:List Int}(hg:(BN s&&(AT ⟨8,a,b,x,y,w⟩&&Bv th 0 (s.AS.AI-1)))=true):DY s th ⟨8,a,b,x,y,w⟩=BC s th ⟨8,a,b,x,y,w⟩:=by
 simp only[DY,hg,Qc,cond_false];rfl
theorem dg{s:State}{th x y w:Int}{a b:List Int}(hg:(BN s&&(AT ⟨9,a,b,x,y,w⟩&&Bv th 0 (s.AS.AI-1)))=true):DY s th ⟨9,a,b,x,y,w⟩=BG s th ⟨9,a,b,x,y,w⟩:=by
 simp only[DY,hg,Qc,cond_false];rfl
theorem bk{s:State}{th x y w:Int}{a b:List Int}(hg:(BN s&&(AT ⟨10,a,b,x,y,w⟩&&Bv th 0 (s.AS.AI-1)))=true):DY s th ⟨10,a,b,x,y,w⟩=BG s th ⟨10,a,b,x,y,w⟩:=by
 simp only[DY,hg,Qc,cond_false];rfl
theorem bm{s:State}{th x y w:Int}{a b:List Int}(hg:(BN s&&(AT ⟨11,a,b,x,y,w⟩&&Bv th 0 (s.AS.AI-1)))=true):DY s th ⟨11,a,b,x,y,w⟩=Bg s th ⟨11,a,b,x,y,w⟩:=by
 simp only[DY,hg,Qc,cond_false];rfl
theorem bn{s:State}{th x y w:Int}{a b:List Int}(hg:(BN s&&(AT ⟨12,a,b,x,y,w⟩&&Bv th 0 (s.AS.AI-1)))=true):DY s th ⟨12,a,b,x,y,w⟩=Bg s th ⟨12,a,b,x,y,w⟩:=by
 simp only[DY,hg,Qc,cond_false];rfl
theorem bo{s:State}{th x y w:Int}{a b:List Int}(hg:(BN s&&(AT ⟨13,a,b,x,y,w⟩&&Bv th 0 (s.AS.AI-1)))=true):DY s th ⟨13,a,b,x,y,w⟩=Bg s th ⟨13,a,b,x,y,w⟩:=by
 simp only[DY,hg,Qc,cond_false];rfl
end Go.Ax.M
namespace Go.Proofs.YtlaipllgmddkiaaGreat.Ax
open Go Go.Ax Go.Ax.M
set_option maxRecDepth 100000
section
variable {H:AP}{K:AH->AP->Prop}{s:State}{th x y w:Int}{a b:List Int}{oS oT oA oB oL:Nat}{fS fT rS rT fA fB rA rB fL rL:Bool}
theorem GJ:CF 44 Bg:=by
 intro H K s th c oS oT oA oB fS fT rS rT fA fB rA rB hS hT hA hB h h'
 obtain⟨op,a,b,x,y,w⟩:=c
 by_cases h11:op=11
 ·exact KH (.inl h11) hS hT hA hB h h'
 by_cases h12:op=12
 ·exact KH (.inr h12) hS hT hA hB h h'
 by_cases h13:op=13
 ·subst h13
  refine NT hS hT hA hB (h ?_)
  cases hcg:AT ⟨13,a,b,x,y,w⟩with
  |false=>simp only[Bg,hcg,Qd,Bool.true_or,cond_true,CD.bad]
  |true=>
   rw[au hcg]
   cases decide ((AO s th a).2.2=0)<;>rfl
 ·have e:Bg s th ⟨op,a,b,x,y,w⟩= .bad 1:=by simp[Bg,h11,h12,h13]
  rw[e]at h
  have h:=h rfl
  have kT:=AL.of hT
  have kS:=AL.of hS
  have kA:=AL.of hA
  have kB:=AL.of hB
  have hv:=fun(e v n:Int)=>show(AH.Bj [stA s oS oT fS fT,.agg [nS e,nT v,nS n]]).refs (λo=>o<H.length) by simp[AH.refs,Ay];exact⟨Am hS,Am hT⟩
  refine AF.gc ?_
  cases hcg:AT ⟨op,a,b,x,y,w⟩with
  |false=>
   refine Aa ok44 ?_;(try simp only[BT,AM,AJ,Qa,hcg,h11,h12,h13,go_sem]);repeat' ((first|apply orR|(apply sp<;>intro hc)|refine Aw (c:=⟨op,a,b,x,y,w⟩) (kA _) (kB _) ?_)<;>try simp only[*,BT,AM,AJ,Qa,go_sem])
   exact Gc.Cd (hv _ _ _) h
  |true=>
   refine Aa ok44 ?_;(try simp only[BT,AM,AJ,Qa,hcg,h11,h12,h13,go_sem]);repeat' ((first|apply orR|(apply sp<;>intro hc)|refine Aw (c:=⟨op,a,b,x,y,w⟩) (kA _) (kB _) ?_)<;>try simp only[*,BT,AM,AJ,Qa,go_sem])
   exact Gc.Cd (hv _ _ _) h
theorem CT(h:K (.bool (Bv th 0 (s.AS.AI-1))) H):AF Qb 119 [stA s oS oT fS fT,nS th] H K:=by
 refine AF.tidy ?_
 refine Aa ok119 ?_;repeat' first|simp only[*,go_sem]|apply orR|(apply sp<;>intro hc)|fail
 all_goals exact tb h ⟨_,rfl⟩ (by by_cases h1:0<=th<;>by_cases h2:th<s.AS.AI<;>simp[Bv,h1,h2]<;>omega)
theorem dO(hg:BN s=true)(hc:AT ⟨1,a,b,x,y,w⟩=true)(ht:Bv th 0 (s.AS.AI-1)=true)(hS:iS H oS s rS)(hT:iT H oT s rT)(hA:H[oA]?=some (.AU 1 (ints a) rA))(hB:H[oB]?=some (.AU 1 (ints b) rB))
 (h:(Be s th ⟨1,a,b,x,y,w⟩).st=none->K (.Bj [stA s oS oT fS fT,(Be s th ⟨1,a,b,x,y,w⟩).Ap]) H) (h':∀s',(Be s th ⟨1,a,b,x,y,w⟩).st=some s'->K (.Bj [BT s' H.length (H.length+1) false false,(Be s th ⟨1,a,b,x,y,w⟩).Ap]) (H++[AM s',AJ s'])):
 AF Qb 51 [stA s oS oT fS fT,nS th,.agg [nS 1,.slice oA a.length 0 a.length fA,.slice oB b.length 0 b.length fB,nS x,nS y,nT w]] H K:=by
 have kT:=AL.of hT
 have kS:=AL.of hS
 have kA:=AL.of hA
 have kB:=AL.of hB
 have hv:=fun(e v n:Int)=>show(AH.Bj [stA s oS oT fS fT,.agg [nS e,nT v,nS n]]).refs (λo=>o<H.length) by simp[AH.refs,Ay];exact⟨Am hS,Am hT⟩
 refine AF.gc ?_
 refine Aa ok51 ?_;repeat' first|simp only[*,BT,AM,AJ,Qa,CD.Ap,go_sem]|apply orR|(apply sp<;>intro hc)|refine AW (kS _) (kT _) ?_|refine Aw (c:=⟨1,a,b,x,y,w⟩) (kA _) (kB _) ?_|refine CT (s:=s) ?_|refine EJ (c:=⟨1,a,b,x,y,w⟩) (kS _) (kT _) (kA _) (kB _) (λhc=> ?_) (λs' hc=> ?_)
 ·exact Gc.Cd (hv _ _ _) (h ‹_›)
 ·exact Gc.Jg (i:=4) (j:=5) rfl rfl (r:=(Be s th ⟨1,a,b,x,y,w⟩).st) (λs' e=>h' s' e) (hn:=rfl) (hm:=rfl) (e:=by assumption)
theorem dP(hg:BN s=true)(hc:AT ⟨2,a,b,x,y,w⟩=true)(ht:Bv th 0 (s.AS.AI-1)=true)(hS:iS H oS s rS)(hT:iT H oT s rT)(hA:H[oA]?=some (.AU 1 (ints a) rA))(hB:H[oB]?=some (.AU 1 (ints b) rB))
 (h:(A5 s th ⟨2,a,b,x,y,w⟩).st=none->K (.Bj [stA s oS oT fS fT,(A5 s th ⟨2,a,b,x,y,w⟩).Ap]) H) (h':∀s',(A5 s th ⟨2,a,b,x,y,w⟩).st=some s'->K (.Bj [BT s' H.length (H.length+1) false false,(A5 s th ⟨2,a,b,x,y,w⟩).Ap]) (H++[AM s',AJ s'])):
 AF Qb 51 [stA s oS oT fS fT,nS th,.agg [nS 2,.slice oA a.length 0 a.length fA,.slice oB b.length 0 b.length fB,nS x,nS y,nT w]] H K:=by
 have kT:=AL.of hT
 have kS:=AL.of hS
 have kA:=AL.of hA
 have kB:=AL.of hB
 have hv:=fun(e v n:Int)=>show(AH.Bj [stA s oS oT fS fT,.agg [nS e,nT v,nS n]]).refs (λo=>o<H.length) by simp[AH.refs,Ay];exact⟨Am hS,Am hT⟩
 refine AF.gc ?_
 refine Aa ok51 ?_;repeat' first|simp only[*,BT,AM,AJ,Qa,CD.Ap,go_sem]|apply orR|(apply sp<;>intro hc)|refine AW (kS _) (kT _) ?_|refine Aw (c:=⟨2,a,b,x,y,w⟩) (kA _) (kB _) ?_|refine CT (s:=s) ?_|refine Cg (c:=⟨2,a,b,x,y,w⟩) (kS _) (kT _) (kA _) (kB _) (λhc=> ?_) (λs' hc=> ?_)
 ·exact Gc.Cd (hv _ _ _) (h ‹_›)
 ·exact Gc.Jg (i:=4) (j:=5) rfl rfl (r:=(A5 s th ⟨2,a,b,x,y,w⟩).st) (λs' e=>h' s' e) (hn:=rfl) (hm:=rfl) (e:=by assumption)
theorem dQ(hg:BN s=true)(hc:AT ⟨3,a,b,x,y,w⟩=true)(ht:Bv th 0 (s.AS.AI-1)=true)(hS:iS H oS s rS)(hT:iT H oT s rT)(hA:H[oA]?=some (.AU 1 (ints a) rA))(hB:H[oB]?=some (.AU 1 (ints b) rB))
 (h:(A5 s th ⟨3,a,b,x,y,w⟩).st=none->K (.Bj [stA s oS oT fS fT,(A5 s th ⟨3,a,b,x,y,w⟩).Ap]) H) (h':∀s',(A5 s th ⟨3,a,b,x,y,w⟩).st=some s'->K (.Bj [BT s' H.length (H.length+1) false false,(A5 s th ⟨3,a,b,x,y,w⟩).Ap]) (H++[AM s',AJ s'])):
 AF Qb 51 [stA s oS oT fS fT,nS th,.agg [nS 3,.slice oA a.length 0 a.length fA,.slice oB b.length 0 b.length fB,nS x,nS y,nT w]] H K:=by
 have kT:=AL.of hT
 have kS:=AL.of hS
 have kA:=AL.of hA
 have kB:=AL.of hB
 have hv:=fun(e v n:Int)=>show(AH.Bj [stA s oS oT fS fT,.agg [nS e,nT v,nS n]]).refs (λo=>o<H.length) by simp[AH.refs,Ay];exact⟨Am hS,Am hT⟩
 refine AF.gc ?_
 refine Aa ok51 ?_;repeat' first|simp only[*,BT,AM,AJ,Qa,CD.Ap,go_sem]|apply orR|(apply sp<;>intro hc)|refine AW (kS _) (kT _) ?_|refine Aw (c:=⟨3,a,b,x,y,w⟩) (kA _) (kB _) ?_|refine CT (s:=s) ?_|refine Cg (c:=⟨3,a,b,x,y,w⟩) (kS _) (kT _) (kA _) (kB _) (λhc=> ?_) (λs' hc=> ?_)
 ·exact Gc.Cd (hv _ _ _) (h ‹_›)
 ·exact Gc.Jg (i:=4) (j:=5) rfl rfl (r:=(A5 s th ⟨3,a,b,x,y,w⟩).st) (λs' e=>h' s' e) (hn:=rfl) (hm:=rfl) (e:=by assumption)
theorem dR(hg:BN s=true)(hc:AT ⟨4,a,b,x,y,w⟩=true)(ht:Bv th 0 (s.AS.AI-1)=true)(hS:iS H oS s rS)(hT:iT H oT s rT)(hA:H[oA]?=some (.AU 1 (ints a) rA))(hB:H[oB]?=some (.AU 1 (ints b) rB))
 (h:(A5 s th ⟨4,a,b,x,y,w⟩).st=none->K (.Bj [stA s oS oT fS fT,(A5 s th ⟨4,a,b,x,y,w⟩).Ap]) H) (h':∀s',(A5 s th ⟨4,a,b,x,y,w⟩).st=some s'->K (.Bj [BT s' H.length (H.length+1) false false,(A5 s th ⟨4,a,b,x,y,w⟩).Ap]) (H++[AM s',AJ s'])):
 AF Qb 51 [stA s oS oT fS fT,nS th,.agg [nS 4,.slice oA a.length 0 a.length fA,.slice oB b.length 0 b.length fB,nS x,nS y,nT w]] H K:=by
 have kT:=AL.of hT
 have kS:=AL.of hS
 have kA:=AL.of hA
 have kB:=AL.of hB
 have hv:=fun(e v n:Int)=>show(AH.Bj [stA s oS oT fS fT,.agg [nS e,nT v,nS n]]).refs (λo=>o<H.length) by simp[AH.refs,Ay];exact⟨Am hS,Am hT⟩
 refine AF.gc ?_
 refine Aa ok51 ?_;repeat' first|simp only[*,BT,AM,AJ,Qa,CD.Ap,go_sem]|apply orR|(apply sp<;>intro hc)|refine AW (kS _) (kT _) ?_|refine Aw (c:=⟨4,a,b,x,y,w⟩) (kA _) (kB _) ?_|refine CT (s:=s) ?_|refine Cg (c:=⟨4,a,b,x,y,w⟩) (kS _) (kT _) (kA _) (kB _) (λhc=> ?_) (λs' hc=> ?_)
 ·exact Gc.Cd (hv _ _ _) (h ‹_›)
 ·exact Gc.Jg (i:=4) (j:=5) rfl rfl (r:=(A5 s th ⟨4,a,b,x,y,w⟩).st) (λs' e=>h' s' e) (hn:=rfl) (hm:=rfl) (e:=by assumption)
theorem dS(hg:BN s=true)(hc:AT ⟨5,a,b,x,y,w⟩=true)(ht:Bv th 0 (s.AS.AI-1)=true)(hS:iS H oS s rS)(hT:iT H oT s rT)(hA:H[oA]?=some (.AU 1 (ints a) rA))(hB:H[oB]?=some (.AU 1 (ints b) rB))
 (h:(takeN s th ⟨5,a,b,x,y,w⟩).st=none->K (.Bj [stA s oS oT fS fT,(takeN s th ⟨5,a,b,x,y,w⟩).Ap]) H) (h':∀s',(takeN s th ⟨5,a,b,x,y,w⟩).st=some s'->K (.Bj [BT s' H.length (H.length+1) false false,(takeN s th ⟨5,a,b,x,y,w⟩).Ap]) (H++[AM s',AJ s'])):
 AF Qb 51 [stA s oS oT fS fT,nS th,.agg [nS 5,.slice oA a.length 0 a.length fA,.slice oB b.length 0 b.length fB,nS x,nS y,nT w]] H K:=by
 have kT:=AL.of hT
 have kS:=AL.of hS
 have kA:=AL.of hA
 have kB:=AL.of hB
 have hv:=fun(e v n:Int)=>show(AH.Bj [stA s oS oT fS fT,.agg [nS e,nT v,nS n]]).refs (λo=>o<H.length) by simp[AH.refs,Ay];exact⟨Am hS,Am hT⟩
 refine AF.gc ?_
 refine Aa ok51 ?_;repeat' first|simp only[*,BT,AM,AJ,Qa,CD.Ap,go_sem]|apply orR|(apply sp<;>intro hc)|refine AW (kS _) (kT _) ?_|refine Aw (c:=⟨5,a,b,x,y,w⟩) (kA _) (kB _) ?_|refine CT (s:=s) ?_|refine Nj (c:=⟨5,a,b,x,y,w⟩) (kS _) (kT _) (kA _) (kB _) (λhc=> ?_) (λs' hc=> ?_)
 ·exact Gc.Cd (hv _ _ _) (h ‹_›)
 ·exact Gc.Jg (i:=4) (j:=5) rfl rfl (r:=(takeN s th ⟨5,a,b,x,y,w⟩).st) (λs' e=>h' s' e) (hn:=rfl) (hm:=rfl) (e:=by assumption)
theorem dU(hg:BN s=true)(hc:AT ⟨6,a,b,x,y,w⟩=true)(ht:Bv th 0 (s.AS.AI-1)=true)(hS:iS H oS s rS)(hT:iT H oT s rT)(hA:H[oA]?=some (.AU 1 (ints a) rA))(hB:H[oB]?=some (.AU 1 (ints b) rB))
 (h:(takeN s th ⟨6,a,b,x,y,w⟩).st=none->K (.Bj [stA s oS oT fS fT,(takeN s th ⟨6,a,b,x,y,w⟩).Ap]) H) (h':∀s',(takeN s th ⟨6,a,b,x,y,w⟩).st=some s'->K (.Bj [BT s' H.length (H.length+1) false false,(takeN s th ⟨6,a,b,x,y,w⟩).Ap]) (H++[AM s',AJ s'])):
 AF Qb 51 [stA s oS oT fS fT,nS th,.agg [nS 6,.slice oA a.length 0 a.length fA,.slice oB b.length 0 b.length fB,nS x,nS y,nT w]] H K:=by
 have kT:=AL.of hT
 have kS:=AL.of hS
 have kA:=AL.of hA
 have kB:=AL.of hB
 have hv:=fun(e v n:Int)=>show(AH.Bj [stA s oS oT fS fT,.agg [nS e,nT v,nS n]]).refs (λo=>o<H.length) by simp[AH.refs,Ay];exact⟨Am hS,Am hT⟩
 refine AF.gc ?_
 refine Aa ok51 ?_;repeat' first|simp only[*,BT,AM,AJ,Qa,CD.Ap,go_sem]|apply orR|(apply sp<;>intro hc)|refine AW (kS _) (kT _) ?_|refine Aw (c:=⟨6,a,b,x,y,w⟩) (kA _) (kB _) ?_|refine CT (s:=s) ?_|refine Nj (c:=⟨6,a,b,x,y,w⟩) (kS _) (kT _) (kA _) (kB _) (λhc=> ?_) (λs' hc=> ?_)
 ·exact Gc.Cd (hv _ _ _) (h ‹_›)
 ·exact Gc.Jg (i:=4) (j:=5) rfl rfl (r:=(takeN s th ⟨6,a,b,x,y,w⟩).st) (λs' e=>h' s' e) (hn:=rfl) (hm:=rfl) (e:=by assumption)
theorem dV(hg:BN s=true)(hc:AT ⟨7,a,b,x,y,w⟩=true)(ht:Bv th 0 (s.AS.AI-1)=true)(hS:iS H oS s rS)(hT:iT H oT s rT)(hA:H[oA]?=some (.AU 1 (ints a) rA))(hB:H[oB]?=some (.AU 1 (ints b) rB))
 (h:(BC s th ⟨7,a,b,x,y,w⟩).st=none->K (.Bj [stA s oS oT fS fT,(BC s th ⟨7,a,b,x,y,w⟩).Ap]) H) (h':∀s',(BC s th ⟨7,a,b,x,y,w⟩).st=some s'->K (.Bj [BT s' H.length (H.length+1) false false,(BC s th ⟨7,a,b,x,y,w⟩).Ap]) (H++[AM s',AJ s'])):
 AF Qb 51 [stA s oS oT fS fT,nS th,.agg [nS 7,.slice oA a.length 0 a.length fA,.slice oB b.length 0 b.length fB,nS x,nS y,nT w]] H K:=by
 have kT:=AL.of hT
 have kS:=AL.of hS
 have kA:=AL.of hA
 have kB:=AL.of hB
 have hv:=fun(e v n:Int)=>show(AH.Bj [stA s oS oT fS fT,.agg [nS e,nT v,nS n]]).refs (λo=>o<H.length) by simp[AH.refs,Ay];exact⟨Am hS,Am hT⟩
 refine AF.gc ?_
 refine Aa ok51 ?_;repeat' first|simp only[*,BT,AM,AJ,Qa,CD.Ap,go_sem]|apply orR|(apply sp<;>intro hc)|refine AW (kS _) (kT _) ?_|refine Aw (c:=⟨7,a,b,x,y,w⟩) (kA _) (kB _) ?_|refine CT (s:=s) ?_|refine H8 (c:=⟨7,a,b,x,y,w⟩) (kS _) (kT _) (kA _) (kB _) (λhc=> ?_) (λs' hc=> ?_)
 ·exact Gc.Cd (hv _ _ _) (h ‹_›)
 ·exact Gc.Jg (i:=4) (j:=5) rfl rfl (r:=(BC s th ⟨7,a,b,x,y,w⟩).st) (λs' e=>h' s' e) (hn:=rfl) (hm:=rfl) (e:=by assumption)
theorem dW(hg:BN s=true)(hc:AT ⟨8,a,b,x,y,w⟩=true)(ht:Bv th 0 (s.AS.AI-1)=true)(hS:iS H oS s rS)(hT:iT H oT s rT)(hA:H[oA]?=some (.AU 1 (ints a) rA))(hB:H[oB]?=some (.AU 1 (ints b) rB))
 (h:(BC s th ⟨8,a,b,x,y,w⟩).st=none->K (.Bj [stA s oS oT fS fT,(BC s th ⟨8,a,b,x,y,w⟩).Ap]) H) (h':∀s',(BC s th ⟨8,a,b,x,y,w⟩).st=some s'->K (.Bj [BT s' H.length (H.length+1) false false,(BC s th ⟨8,a,b,x,y,w⟩).Ap]) (H++[AM s',AJ s'])):
 AF Qb 51 [stA s oS oT fS fT,nS th,.agg [nS 8,.slice oA a.length 0 a.length fA,.slice oB b.length 0 b.length fB,nS x,nS y,nT w]] H K:=by
 have kT:=AL.of hT
 have kS:=AL.of hS
 have kA:=AL.of hA
 have kB:=AL.of hB
 have hv:=fun(e v n:Int)=>show(AH.Bj [stA s oS oT fS fT,.agg [nS e,nT v,nS n]]).refs (λo=>o<H.length) by simp[AH.refs,Ay];exact⟨Am hS,Am hT⟩
 refine AF.gc ?_
 refine Aa ok51 ?_;repeat' first|simp only[*,BT,AM,AJ,Qa,CD.Ap,go_sem]|apply orR|(apply sp<;>intro hc)|refine AW (kS _) (kT _) ?_|refine Aw (c:=⟨8,a,b,x,y,w⟩) (kA _) (kB _) ?_|refine CT (s:=s) ?_|refine H8 (c:=⟨8,a,b,x,y,w⟩) (kS _) (kT _) (kA _) (kB _) (λhc=> ?_) (λs' hc=> ?_)
 ·exact Gc.Cd (hv _ _ _) (h ‹_›)
 ·exact Gc.Jg (i:=4) (j:=5) rfl rfl (r:=(BC s th ⟨8,a,b,x,y,w⟩).st) (λs' e=>h' s' e) (hn:=rfl) (hm:=rfl) (e:=by assumption)
theorem dX(hg:BN s=true)(hc:AT ⟨9,a,b,x,y,w⟩=true)(ht:Bv th 0 (s.AS.AI-1)=true)(hS:iS H oS s rS)(hT:iT H oT s rT)(hA:H[oA]?=some (.AU 1 (ints a) rA))(hB:H[oB]?=some (.AU 1 (ints b) rB))
 (h:(BG s th ⟨9,a,b,x,y,w⟩).st=none->K (.Bj [stA s oS oT fS fT,(BG s th ⟨9,a,b,x,y,w⟩).Ap]) H) (h':∀s',(BG s th ⟨9,a,b,x,y,w⟩).st=some s'->K (.Bj [BT s' H.length (H.length+1) false false,(BG s th ⟨9,a,b,x,y,w⟩).Ap]) (H++[AM s',AJ s'])):
 AF Qb 51 [stA s oS oT fS fT,nS th,.agg [nS 9,.slice oA a.length 0 a.length fA,.slice oB b.length 0 b.length fB,nS x,nS y,nT w]] H K:=by
 have kT:=AL.of hT
 have kS:=AL.of hS
 have kA:=AL.of hA
 have kB:=AL.of hB
 have hv:=fun(e v n:Int)=>show(AH.Bj [stA s oS oT fS fT,.agg [nS e,nT v,nS n]]).refs (λo=>o<H.length) by simp[AH.refs,Ay];exact⟨Am hS,Am hT⟩
 refine AF.gc ?_
 refine Aa ok51 ?_;repeat' first|simp only[*,BT,AM,AJ,Qa,CD.Ap,go_sem]|apply orR|(apply sp<;>intro hc)|refine AW (kS _) (kT _) ?_|refine Aw (c:=⟨9,a,b,x,y,w⟩) (kA _) (kB _) ?_|refine CT (s:=s) ?_|refine Ej (c:=⟨9,a,b,x,y,w⟩) (kS _) (kT _) (kA _) (kB _) (λhc=> ?_) (λs' hc=> ?_)
 ·exact Gc.Cd (hv _ _ _) (h ‹_›)
 ·exact Gc.Jg (i:=4) (j:=5) rfl rfl (r:=(BG s th ⟨9,a,b,x,y,w⟩).st) (λs' e=>h' s' e) (hn:=rfl) (hm:=rfl) (e:=by assumption)
theorem bf(hg:BN s=true)(hc:AT ⟨10,a,b,x,y,w⟩=true)(ht:Bv th 0 (s.AS.AI-1)=true)(hS:iS H oS s rS)(hT:iT H oT s rT)(hA:H[oA]?=some (.AU 1 (ints a) rA))(hB:H[oB]?=some (.AU 1 (ints b) rB))
 (h:(BG s th ⟨10,a,b,x,y,w⟩).st=none->K (.Bj [stA s oS oT fS fT,(BG s th ⟨10,a,b,x,y,w⟩).Ap]) H) (h':∀s',(BG s th ⟨10,a,b,x,y,w⟩).st=some s'->K (.Bj [BT s' H.length (H.length+1) false false,(BG s th ⟨10,a,b,x,y,w⟩).Ap]) (H++[AM s',AJ s'])):
 AF Qb 51 [stA s oS oT fS fT,nS th,.agg [nS 10,.slice oA a.length 0 a.length fA,.slice oB b.length 0 b.length fB,nS x,nS y,nT w]] H K:=by
 have kT:=AL.of hT
 have kS:=AL.of hS
 have kA:=AL.of hA
 have kB:=AL.of hB
 have hv:=fun(e v n:Int)=>show(AH.Bj [stA s oS oT fS fT,.agg [nS e,nT v,nS n]]).refs (λo=>o<H.length) by simp[AH.refs,Ay];exact⟨Am hS,Am hT⟩
 refine AF.gc ?_
 refine Aa ok51 ?_;repeat' first|simp only[*,BT,AM,AJ,Qa,CD.Ap,go_sem]|apply orR|(apply sp<;>intro hc)|refine AW (kS _) (kT _) ?_|refine Aw (c:=⟨10,a,b,x,y,w⟩) (kA _) (kB _) ?_|refine CT (s:=s) ?_|refine Ej (c:=⟨10,a,b,x,y,w⟩) (kS _) (kT _) (kA _) (kB _) (λhc=> ?_) (λs' hc=> ?_)
 ·exact Gc.Cd (hv _ _ _) (h ‹_›)
 ·exact Gc.Jg (i:=4) (j:=5) rfl rfl (r:=(BG s th ⟨10,a,b,x,y,w⟩).st) (λs' e=>h' s' e) (hn:=rfl) (hm:=rfl) (e:=by assumption)
theorem bg(hg:BN s=true)(hc:AT ⟨11,a,b,x,y,w⟩=true)(ht:Bv th 0 (s.AS.AI-1)=true)(hS:iS H oS s rS)(hT:iT H oT s rT)(hA:H[oA]?=some (.AU 1 (ints a) rA))(hB:H[oB]?=some (.AU 1 (ints b) rB))
 (h:(Bg s th ⟨11,a,b,x,y,w⟩).st=none->K (.Bj [stA s oS oT fS fT,(Bg s th ⟨11,a,b,x,y,w⟩).Ap]) H) (h':∀s',(Bg s th ⟨11,a,b,x,y,w⟩).st=some s'->K (.Bj [BT s' H.length (H.length+1) false false,(Bg s th ⟨11,a,b,x,y,w⟩).Ap]) (H++[AM s',AJ s'])):
 AF Qb 51 [stA s oS oT fS fT,nS th,.agg [nS 11,.slice oA a.length 0 a.length fA,.slice oB b.length 0 b.length fB,nS x,nS y,nT w]] H K:=by
 have kT:=AL.of hT
 have kS:=AL.of hS
 have kA:=AL.of hA
 have kB:=AL.of hB
 have hv:=fun(e v n:Int)=>show(AH.Bj [stA s oS oT fS fT,.agg [nS e,nT v,nS n]]).refs (λo=>o<H.length) by simp[AH.refs,Ay];exact⟨Am hS,Am hT⟩
 refine AF.gc ?_
 refine Aa ok51 ?_;repeat' first|simp only[*,BT,AM,AJ,Qa,CD.Ap,go_sem]|apply orR|(apply sp<;>intro hc)|refine AW (kS _) (kT _) ?_|refine Aw (c:=⟨11,a,b,x,y,w⟩) (kA _) (kB _) ?_|refine CT (s:=s) ?_|refine GJ (c:=⟨11,a,b,x,y,w⟩) (kS _) (kT _) (kA _) (kB _) (λhc=> ?_) (λs' hc=> ?_)
 ·exact Gc.Cd (hv _ _ _) (h ‹_›)
 ·exact Gc.Jg (i:=4) (j:=5) rfl rfl (r:=(Bg s th ⟨11,a,b,x,y,w⟩).st) (λs' e=>h' s' e) (hn:=rfl) (hm:=rfl) (e:=by assumption)
theorem bi(hg:BN s=true)(hc:AT ⟨12,a,b,x,y,w⟩=true)(ht:Bv th 0 (s.AS.AI-1)=true)(hS:iS H oS s rS)(hT:iT H oT s rT)(hA:H[oA]?=some (.AU 1 (ints a) rA))(hB:H[oB]?=some (.AU 1 (ints b) rB))
 (h:(Bg s th ⟨12,a,b,x,y,w⟩).st=none->K (.Bj [stA s oS oT fS fT,(Bg s th ⟨12,a,b,x,y,w⟩).Ap]) H) (h':∀s',(Bg s th ⟨12,a,b,x,y,w⟩).st=some s'->K (.Bj [BT s' H.length (H.length+1) false false,(Bg s th ⟨12,a,b,x,y,w⟩).Ap]) (H++[AM s',AJ s'])):
 AF Qb 51 [stA s oS oT fS fT,nS th,.agg [nS 12,.slice oA a.length 0 a.length fA,.slice oB b.length 0 b.length fB,nS x,nS y,nT w]] H K:=by
 have kT:=AL.of hT
 have kS:=AL.of hS
 have kA:=AL.of hA
 have kB:=AL.of hB
 have hv:=fun(e v n:Int)=>show(AH.Bj [stA s oS oT fS fT,.agg [nS e,nT v,nS n]]).refs (λo=>o<H.length) by simp[AH.refs,Ay];exact⟨Am hS,Am hT⟩
 refine AF.gc ?_
 refine Aa ok51 ?_;repeat' first|simp only[*,BT,AM,AJ,Qa,CD.Ap,go_sem]|apply orR|(apply sp<;>intro hc)|refine AW (kS _) (kT _) ?_|refine Aw (c:=⟨12,a,b,x,y,w⟩) (kA _) (kB _) ?_|refine CT (s:=s) ?_|refine GJ (c:=⟨12,a,b,x,y,w⟩) (kS _) (kT _) (kA _) (kB _) (λhc=> ?_) (λs' hc=> ?_)
 ·exact Gc.Cd (hv _ _ _) (h ‹_›)
 ·exact Gc.Jg (i:=4) (j:=5) rfl rfl (r:=(Bg s th ⟨12,a,b,x,y,w⟩).st) (λs' e=>h' s' e) (hn:=rfl) (hm:=rfl) (e:=by assumption)
theorem bj(hg:BN s=true)(hc:AT ⟨13,a,b,x,y,w⟩=true)(ht:Bv th 0 (s.AS.AI-1)=true)(hS:iS H oS s rS)(hT:iT H oT s rT)(hA:H[oA]?=some (.AU 1 (ints a) rA))(hB:H[oB]?=some (.AU 1 (ints b) rB))
 (h:(Bg s th ⟨13,a,b,x,y,w⟩).st=none->K (.Bj [stA s oS oT fS fT,(Bg s th ⟨13,a,b,x,y,w⟩).Ap]) H) (h':∀s',(Bg s th ⟨13,a,b,x,y,w⟩).st=some s'->K (.Bj [BT s' H.length (H.length+1) false false,(Bg s th ⟨13,a,b,x,y,w⟩).Ap]) (H++[AM s',AJ s'])):
 AF Qb 51 [stA s oS oT fS fT,nS th,.agg [nS 13,.slice oA a.length 0 a.length fA,.slice oB b.length 0 b.length fB,nS x,nS y,nT w]] H K:=by
 have kT:=AL.of hT
 have kS:=AL.of hS
 have kA:=AL.of hA
 have kB:=AL.of hB
 have hv:=fun(e v n:Int)=>show(AH.Bj [stA s oS oT fS fT,.agg [nS e,nT v,nS n]]).refs (λo=>o<H.length) by simp[AH.refs,Ay];exact⟨Am hS,Am hT⟩
 refine AF.gc ?_
 refine Aa ok51 ?_;repeat' first|simp only[*,BT,AM,AJ,Qa,CD.Ap,go_sem]|apply orR|(apply sp<;>intro hc)|refine AW (kS _) (kT _) ?_|refine Aw (c:=⟨13,a,b,x,y,w⟩) (kA _) (kB _) ?_|refine CT (s:=s) ?_|refine GJ (c:=⟨13,a,b,x,y,w⟩) (kS _) (kT _) (kA _) (kB _) (λhc=> ?_) (λs' hc=> ?_)
 ·exact Gc.Cd (hv _ _ _) (h ‹_›)
 ·exact Gc.Jg (i:=4) (j:=5) rfl rfl (r:=(Bg s th ⟨13,a,b,x,y,w⟩).st) (λs' e=>h' s' e) (hn:=rfl) (hm:=rfl) (e:=by assumption)
theorem dh:CF 51 DY:=by
 intro H K s th c oS oT oA oB fS fT rS rT fA fB rA rB hS hT hA hB h h'
 obtain⟨op,a,b,x,y,w⟩:=c
 cases hg:(BN s&&(AT ⟨op,a,b,x,y,w⟩&&Bv th 0 (s.AS.AI-1)))with
 |false=>
  have e:DY s th ⟨op,a,b,x,y,w⟩= .bad 1:=by simp only[DY,hg,Qd,cond_true]
  rw[e]at h
  have h:=h rfl
  clear h' e
  have kT:=AL.of hT
  have kS:=AL.of hS
  have kA:=AL.of hA
  have kB:=AL.of hB
  have hv:=fun(e v n:Int)=>show(AH.Bj [stA s oS oT fS fT,.agg [nS e,nT v,nS n]]).refs (λo=>o<H.length) by simp[AH.refs,Ay];exact⟨Am hS,Am hT⟩
  refine AF.gc ?_
  cases h1:BN s with
  |false=>
   refine Aa ok51 ?_;(try simp only[BT,Qa,h1,go_sem]);repeat' ((first|apply orR|(apply sp<;>intro hc)|refine AW (kS _) (kT _) ?_)<;>try simp only[*,BT,Qa,go_sem])
   exact Gc.Cd (hv _ _ _) h
  |true=>
   cases h2:AT ⟨op,a,b,x,y,w⟩with
   |false=>
    refine Aa ok51 ?_;(try simp only[BT,Qa,h1,h2,go_sem]);repeat' ((first|apply orR|(apply sp<;>intro hc)|refine AW (kS _) (kT _) ?_|refine Aw (c:=⟨op,a,b,x,y,w⟩) (kA _) (kB _) ?_)<;>try simp only[*,BT,Qa,go_sem])
    exact Gc.Cd (hv _ _ _) h
   |true=>
    have h3:Bv th 0 (s.AS.AI-1)=false:=by rw[h1,h2]at hg;simpa using hg
    refine Aa ok51 ?_;(try simp only[BT,Qa,h1,h2,h3,go_sem]);repeat' ((first|apply orR|(apply sp<;>intro hc)|refine AW (kS _) (kT _) ?_|refine Aw (c:=⟨op,a,b,x,y,w⟩) (kA _) (kB _) ?_|refine CT (s:=s) ?_)<;>try simp only[*,BT,Qa,go_sem])
    exact Gc.Cd (hv _ _ _) h
 |true=>
  have hg':=hg
  simp only[Bool.and_eq_true]at hg'
  obtain⟨g1,g2,g3⟩:=hg'
  have hop:=JF g2
  simp only at hop
  have:op=1\/op=2\/op=3\/op=4\/op=5\/op=6\/op=7\/op=8\/op=9\/op=10\/op=11\/op=12\/op=13:=by omega
  rcases this with rfl|rfl|rfl|rfl|rfl|rfl|rfl|rfl|rfl|rfl|rfl|rfl|rfl
  ·rw[dY hg]at h h'
   exact dO g1 g2 g3 hS hT hA hB h h'
  ·rw[dZ hg]at h h'
   exact dP g1 g2 g3 hS hT hA hB h h'
  ·rw[da hg]at h h'
   exact dQ g1 g2 g3 hS hT hA hB h h'
  ·rw[db hg]at h h'
   exact dR g1 g2 g3 hS hT hA hB h h'
  ·rw[dc hg]at h h'
   exact dS g1 g2 g3 hS hT hA hB h h'
  ·rw[dd hg]at h h'
   exact dU g1 g2 g3 hS hT hA hB h h'
  ·rw[de hg]at h h'
   exact dV g1 g2 g3 hS hT hA hB h h'
  ·rw[df hg]at h h'
   exact dW g1 g2 g3 hS hT hA hB h h'
  ·rw[dg hg]at h h'
   exact dX g1 g2 g3 hS hT hA hB h h'
  ·rw[bk hg]at h h'
   exact bf g1 g2 g3 hS hT hA hB h h'
  ·rw[bm hg]at h h'
   exact bg g1 g2 g3 hS hT hA hB h h'
  ·rw[bn hg]at h h'
   exact bi g1 g2 g3 hS hT hA hB h h'
  ·rw[bo hg]at h h'
   exact bj g1 g2 g3 hS hT hA hB h h'
end
set_option maxRecDepth 100000
section
variable {H:AP}{K:AH->AP->Prop}{s:State}{th l0 l1 l2 l3:Int}{oS oT oL:Nat}{fS fT rS rT fL rL:Bool}
set_option maxHeartbeats 1000000 in
theorem tw(hS:iS H oS s rS)(hT:iT H oT s rT)(hL:H[oL]?=some (.AU 1 (Cc [l0,l1,l2,l3]) rL))(u0:0<=l0/\l0<2^64)(u1:0<=l1/\l1<2^64)(u2:0<=l2/\l2<2^64)
 (h:(oC s th l0 l1 l2 l3).st=none->K (.Bj [stA s oS oT fS fT,(oC s th l0 l1 l2 l3).Ap]) H) (h':∀s',(oC s th l0 l1 l2 l3).st=some s'->K (.Bj [BT s' H.length (H.length+1) false false,(oC s th l0 l1 l2 l3).Ap]) (H++[AM s',AJ s'])):
 AF Qb 52 [stA s oS oT fS fT,nS th,.slice oL 4 0 4 fL] H K:=by
 have kT:=AL.of hT
 have kS:=AL.of hS
 have kL:=AL.of hL
 have hv:=fun(e v n:Int)=>show(AH.Bj [stA s oS oT fS fT,.agg [nS e,nT v,nS n]]).refs (λo=>o<H.length) by simp[AH.refs,Ay];exact⟨Am hS,Am hT⟩
 refine AF.gc ?_
 cases hok:fI l0 l1 l2 l3 with
 |false=>
  cases hg:BN s with
  |false=>
   have e:oC s th l0 l1 l2 l3= .bad 1:=by simp only[oC,hg,Qd,cond_true]
   rw[e]at h
   have h:=h rfl
   clear h' e
   refine Aa ok52 ?_;(try simp only[BT,Qa,Lq,hg,go_sem]);repeat' ((first|apply orR|(apply sp<;>intro hc)|refine cR (kL _) u0 u1 u2 (λ_=> ?_) (λe=>absurd (hok.symm.trans e) (by decide)) (λe=>absurd (hok.symm.trans e) (by decide))|refine AW (kS _) (kT _) ?_)<;>try simp only[*,BT,Qa,Lq,go_sem])
   exact Gc.Cd (hv _ _ _) h
  |true=>
   have e:oC s th l0 l1 l2 l3= .bad 2:=by simp only[oC,hg,hok,Qd,Qc,cond_true,cond_false]
   rw[e]at h
   have h:=h rfl
   clear h' e
   refine Aa ok52 ?_;(try simp only[BT,Qa,Lq,hg,go_sem]);repeat' ((first|apply orR|(apply sp<;>intro hc)|refine cR (kL _) u0 u1 u2 (λ_=> ?_) (λe=>absurd (hok.symm.trans e) (by decide)) (λe=>absurd (hok.symm.trans e) (by decide))|refine AW (kS _) (kT _) ?_)<;>try simp only[*,BT,Qa,Lq,go_sem])
   exact Gc.Cd (hv _ _ _) h
 |true=>
  cases hg:BN s with
  |false=>
   have e:oC s th l0 l1 l2 l3= .bad 1:=by simp only[oC,hg,Qd,cond_true]
   rw[e]at h
   have h:=h rfl
   clear h' e
   refine Aa ok52 ?_;(try simp only[BT,Qa,hg,go_sem]);repeat' ((first|apply orR|(apply sp<;>intro hc)|refine cR (kL _) u0 u1 u2 (λe=>absurd (hok.symm.trans e) (by decide)) (λ_ hb=> ?_) (λ_ hb=> ?_)|refine AW (kS _) (kT _) ?_)<;>try simp only[*,BT,Qa,go_sem])
   all_goals exact Gc.Cd (hv _ _ _) h
  |true=>
   have e:oC s th l0 l1 l2 l3=DY s th (EP l0 l1 l2 l3):=by simp only[oC,hg,hok,Qc,cond_false]
   rw[e]at h h'
   clear e
   by_cases hb:(EP l0 l1 l2 l3).b=[]
   ·generalize hc:EP l0 l1 l2 l3=c at*
    obtain⟨op,a,b,x,y,w⟩:=c
    simp only at hb
    subst hb
    have call:=fun(K:AH->AP->Prop) (h1) (h2)=>cR (oL:=oL) (fL:=fL) (K:=K) (kL [.AU 5 [[nS s.AS.AI,nS s.AS.AE,nS s.AS.AB,.slice oS s.AE.length 0 s.AE.length fS,.slice oT s.AB.length 0 s.AB.length fT]] false,.AU 5 [[nS 0,nS 0,nS 0,.lit (.slice none 0 0),.lit (.slice none 0 0)]] false,.AU 3 [[nS 0,nT 0,nS 0]] false]) u0 u1 u2 (λe=>absurd (hok.symm.trans e) (by decide)) h1 h2
    rw[hc]at call
    have call:=fun(K:AH->AP->Prop) (h1)=>call K (λ_ _=>h1) (λ_ e=>absurd rfl e)
    refine Aa ok52 ?_;(try simp only[BT,Qa,AM,AJ,CD.Ap,hg,go_sem]);repeat' ((first|apply orR|(apply sp<;>intro hc)|refine call _ ?_|refine AW (kS _) (kT _) ?_|refine dh.nil (kS _) (kT _) (by first|exact BH|exact Bb rfl) (λhc=> ?_) (λs' hc=> ?_))<;>try simp only[*,BT,Qa,AM,AJ,CD.Ap,go_sem])
    ·exact Gc.Cd (hv _ _ _) (h ‹_›)
    ·exact Gc.Jg (i:=5) (j:=6) rfl rfl (r:=(DY s th ⟨op,a,[],x,y,w⟩).st) (λs' e=>h' s' e) (hn:=rfl) (hm:=rfl) (e:=by assumption)
   ·generalize hc:EP l0 l1 l2 l3=c at*
    obtain⟨op,a,b,x,y,w⟩:=c
    simp only at hb
    have call:=fun(K:AH->AP->Prop) (h1) (h2)=>cR (oL:=oL) (fL:=fL) (K:=K) (kL [.AU 5 [[nS s.AS.AI,nS s.AS.AE,nS s.AS.AB,.slice oS s.AE.length 0 s.AE.length fS,.slice oT s.AB.length 0 s.AB.length fT]] false,.AU 5 [[nS 0,nS 0,nS 0,.lit (.slice none 0 0),.lit (.slice none 0 0)]] false,.AU 3 [[nS 0,nT 0,nS 0]] false]) u0 u1 u2 (λe=>absurd (hok.symm.trans e) (by decide)) h1 h2
    rw[hc]at call
    have call:=fun(K:AH->AP->Prop) (h1)=>call K (λ_ e=>absurd e hb) (λ_ _=>h1)
    refine Aa ok52 ?_;(try simp only[BT,Qa,AM,AJ,CD.Ap,hg,go_sem]);repeat' ((first|apply orR|(apply sp<;>intro hc)|refine call _ ?_|refine AW (kS _) (kT _) ?_|refine dh (c:=⟨op,a,b,x,y,w⟩) (kS _) (kT _) (by first|exact BH|exact Bb rfl) (by first|exact BH|exact Bb rfl) (λhc=> ?_) (λs' hc=> ?_))<;>try simp only[*,BT,Qa,AM,AJ,CD.Ap,go_sem])
    ·exact Gc.Cd (hv _ _ _) (h ‹_›)
    ·exact Gc.Jg (i:=6) (j:=7) rfl rfl (r:=(DY s th ⟨op,a,b,x,y,w⟩).st) (λs' e=>h' s' e) (hn:=rfl) (hm:=rfl) (e:=by assumption)
theorem tt{n:Nat}{l:List Int}(hl:l.length=n)(h4:n=4)(hu:∀k,k<3->0<=l.getD k 0/\l.getD k 0<2^64)(hS:iS H oS s rS)(hT:iT H oT s rT)(hL:H[oL]?=some (.AU 1 (Cc l) rL))
 (h:(oC s th (l.getD 0 0) (l.getD 1 0) (l.getD 2 0) (l.getD 3 0)).st=none->K (.Bj [stA s oS oT fS fT,(oC s th (l.getD 0 0) (l.getD 1 0) (l.getD 2 0) (l.getD 3 0)).Ap]) H) (h':∀s',(oC s th (l.getD 0 0) (l.getD 1 0) (l.getD 2 0) (l.getD 3 0)).st=some s'->K (.Bj [BT s' H.length (H.length+1) false false,(oC s th (l.getD 0 0) (l.getD 1 0) (l.getD 2 0) (l.getD 3 0)).Ap]) (H++[AM s',AJ s'])):
 AF Qb 52 [stA s oS oT fS fT,nS th,.slice oL n 0 n fL] H K:=by
 subst h4
 match l,hl with
 |[l0,l1,l2,l3],_=>exact tw hS hT hL (hu 0 (by decide)) (hu 1 (by decide)) (hu 2 (by decide)) h h'
theorem uS{n:Nat}{l:List Int}{e v m:Int}(hl:l.length=n)(h4:n=4)(hr:oC s th (l.getD 0 0) (l.getD 1 0) (l.getD 2 0) (l.getD 3 0)=⟨e,v,m,none⟩)(hu:∀k,k<3->0<=l.getD k 0/\l.getD k 0<2^64)(hS:iS H oS s rS)(hT:iT H oT s rT)(hL:H[oL]?=some (.AU 1 (Cc l) rL))
 (h:K (.Bj [stA s oS oT fS fT,.agg [nS e,nT v,nS m]]) H):
 AF Qb 52 [stA s oS oT fS fT,nS th,.slice oL n 0 n fL] H K:=
 tt hl h4 hu hS hT hL (by rw[hr];intro _;exact h) (by rw[hr];intro s2 h2;cases h2)
end
set_option maxRecDepth 100000
section
variable {H:AP}{K:AH->AP->Prop}{s:State}{th l0 l1 l2 l3:Int}{oS oT oL sL nL iL jL:Nat}{fS fT rS rT fL rL:Bool}{xsL:List (List AH)}{csL:List AH}
theorem tn{l m:List Int}{o n:Nat}{f r:Bool}(hn:l.length=n)(hm:m.length=4)(h1:H[o]?=some (.AU 1 (Cc l) r))(hL:H[oL]?=some (.AU sL xsL rL))(hnL:xsL.length=nL)(hcL:xsL[iL]?=some csL)(heL:∀k,k<4->csL[jL+k]?=some (nT (m.getD k 0)))(hl:n<=100000)
 (h:K (.bool (decide (l=m))) H):AF Qb 127 [.slice o n 0 n f,.Kl oL nL iL jL 4] H K:=by
 have he:Dm (λx y:Int=>decide (x=y)) 0 l m=decide (l=m):=by
  rw[Bool.eq_iff_iff,Mo (by simp)];simp
 by_cases h4:n=4
 ·subst h4
  have e:decide (l=m)=(List.range 4).all λk=>decide (l.getD k 0=m.getD k 0):=by rw[<-he];simp only[Dm,hn,hm,decide_true,Qf]
  have hg1:∀k,k<4->(Cc l)[k]?=some [nT (l.getD k 0)]:=λk h=>M0 (l:=l) (k:=k) (by omega)
  have hwl:(Cc l).length=4:=by rw[cX,hn]
  generalize Cc l=A at*
  clear he hn hm
  refine Aa ok127 ?_;repeat' first|simp only[*,AR,go_sem]|apply orR|(apply sp<;>intro hc)|fail
  refine AK.Az [13,0,1,12] ?_;simp only[mpC,go_sem]
  refine AK.aB (λk=>((List.range k).all λk=>decide (l.getD k 0=m.getD k 0))=true) 4 (by simp) λk hk hI next=> ?_
  refine AK.unfold ?_
  have hw:=AY (k:=k) (by omega)
  by_cases hk4:k<4
  ·have g1:=hg1 k hk4
   have g2:=heL k hk4
   have g3:((k:Int)<4)=True:=eq_true (by omega)
   clear hg1 heL
   repeat' first|simp only[*,AA b127_4.eq_1,AR,AX,go_sem]|apply orR|(apply sp<;>intro hc)|fail
   ·refine kb h ?_
    rw[e];exact(Cv (k:=k) hk4 (by simp only[decide_eq_false_iff_not];assumption)).symm
   ·(refine AK.Az [13,0,1,12] ?_;simp only[mpC,go_sem];refine next hk4 ?_)
    rw[Da (N:=0),hI];simp only[Qf,decide_eq_true_eq];omega
  ·have hk:k=4:=by omega
   subst hk
   repeat' first|simp only[*,AA b127_4.eq_1,AR,AX,go_sem]|apply orR|(apply sp<;>intro hc)|fail
   exact kb h (by rw[e,hI])
 ·have h4':((n:Int)=4)=False:=eq_false (by omega)
  have:¬l=m:=by intro e;subst e;omega
  rw[decide_eq_false this]at h
  refine Aa ok127 ?_;(try simp only[AR,Qe,h4',go_sem]);repeat' ((first|apply orR|(apply sp<;>intro hc)|fail)<;>try simp only[*,AR,Qe,go_sem])
  exact h
theorem tX(h:K (.bool false) H):AF Qb 127 [.lit (.slice none 0 0),.Kl oL nL iL jL 4] H K:=by
 refine Aa ok127 ?_;(try simp only[Qe,go_sem]);repeat' ((first|apply orR|(apply sp<;>intro hc)|fail)<;>try simp only[*,Qe,go_sem])
 exact h
set_option maxHeartbeats 2000000 in
theorem tY{l0 l1 l2 l3:Int}(hL:H[oL]?=some (.AU sL xsL rL))(hnL:xsL.length=nL)(hcL:xsL[iL]?=some csL)(heL:∀k,k<4->csL[jL+k]?=some (nT ([l0,l1,l2,l3].getD k 0)))(u0:0<=l0/\l0<2^64)(u1:0<=l1/\l1<2^64)(u2:0<=l2/\l2<2^64)(h:fI l0 l1 l2 l3=false->K (.Bj [Lq,.bool false]) H)
 (
  hn:fI l0 l1 l2 l3=true->(EP l0 l1 l2 l3).b=[]->K (.Bj [.agg [nS (EP l0 l1 l2 l3).op,.slice H.length (EP l0 l1 l2 l3).a.length 0 (EP l0 l1 l2 l3).a.length false,.lit (.slice none 0 0),nS (EP l0 l1 l2 l3).x,nS (EP l0 l1 l2 l3).y,nT (EP l0 l1 l2 l3).w],.bool true])
  (H++[.AU 1 (ints (EP l0 l1 l2 l3).a) false]))
 (
  h':fI l0 l1 l2 l3=true->(EP l0 l1 l2 l3).b≠[]->K (.Bj [.agg [nS (EP l0 l1 l2 l3).op,.slice H.length (EP l0 l1 l2 l3).a.length 0 (EP l0 l1 l2 l3).a.length false,.slice (H.length+1) (EP l0 l1 l2 l3).b.length 0 (EP l0 l1 l2 l3).b.length false,nS (EP l0 l1 l2 l3).x,nS (EP l0 l1 l2 l3).y,nT (EP l0 l1 l2 l3).w],.bool true])
  (H++[.AU 1 (ints (EP l0 l1 l2 l3).a) false,.AU 1 (ints (EP l0 l1 l2 l3).b) false])):
 AF Qb 55 [.Kl oL nL iL jL 4] H K:=by
 have kL:=AL.of hL
 have e0:csL[jL]?=some (nT l0):=heL 0 (by decide)
 have e1:csL[jL+1]?=some (nT l1):=heL 1 (by decide)
 have e2:csL[jL+2]?=some (nT l2):=heL 2 (by decide)
 have e3:csL[jL+3]?=some (nT l3):=heL 3 (by decide)
 have m1:=bB (w:=l0)
 have m2:GL.length=3:=rfl
 have w1:IntKind.wrap .i64 (l0%256)=l0%256:=w64 (by omega) (by omega)
 have w2:IntKind.wrap .i64 (l0/256%65536)=l0/256%65536:=w64 (by omega) (by omega)
 have w3:IntKind.wrap .i64 (l0/16777216%65536)=l0/16777216%65536:=w64 (by omega) (by omega)
 refine AF.gc ?_
 simp only[fI,EP]at h h' hn
 have h4:((0:Int)=((4:Nat):Int))=False:=by decide
 have hlen:(K0 ⟨l0%256,Ep l1,Ep l2,l0/256%65536,l0/16777216%65536,l3⟩).length=4:=rfl
 cases hg:AT ⟨l0%256,Ep l1,Ep l2,l0/256%65536,l0/16777216%65536,l3⟩with
 |false=>
  have h:=h (by rw[hg];rfl)
  clear h' hn
  by_cases ha:Ep l1=[]
  ·by_cases hb:Ep l2=[]
   ·rw[ha,hb]at hg
    refine Aa ok55 ?_;(try simp only[kL,hnL,hcL,e0,e1,e2,e3,m1,m2,w1,w2,w3,Cc,mpC,go_sem]);repeat' ((first|apply orR|(apply sp<;>intro hc)|refine Dg ?_|refine Fl (F:=GL) Il (by decide) u0.1 u0.2 (by first|exact BH|exact Bb rfl) ?_|refine Ce u1.1 u1.2 (λe=> ?_) (λ_=>absurd ha ‹_›)|refine Ce u2.1 u2.2 (λe=> ?_) (λ_=>absurd hb ‹_›)|refine N4 ?_|refine tX ?_)<;>try simp only[*,Cc,mpC,go_sem])
    exact Gc.Cd (by simp[Lq,AH.refs,Ay]) h
   ·rw[ha]at hg
    refine Aa ok55 ?_;(try simp only[kL,hnL,hcL,e0,e1,e2,e3,m1,m2,w1,w2,w3,Cc,mpC,go_sem]);repeat' ((first|apply orR|(apply sp<;>intro hc)|refine Dg ?_|refine Fl (F:=GL) Il (by decide) u0.1 u0.2 (by first|exact BH|exact Bb rfl) ?_|refine Ce u1.1 u1.2 (λe=> ?_) (λ_=>absurd ha ‹_›)|refine Ce u2.1 u2.2 (λe=>absurd e hb) (λ_=> ?_)|refine PD (b:=Ep l2) (by first|exact BH|exact Bb rfl) ?_|refine tX ?_)<;>try simp only[*,Cc,mpC,go_sem])
    exact Gc.Cd (by simp[Lq,AH.refs,Ay]) h
  ·by_cases hb:Ep l2=[]
   ·rw[hb]at hg
    refine Aa ok55 ?_;(try simp only[kL,hnL,hcL,e0,e1,e2,e3,m1,m2,w1,w2,w3,Cc,mpC,go_sem]);repeat' ((first|apply orR|(apply sp<;>intro hc)|refine Dg ?_|refine Fl (F:=GL) Il (by decide) u0.1 u0.2 (by first|exact BH|exact Bb rfl) ?_|refine Ce u1.1 u1.2 (λe=>absurd e ha) (λ_=> ?_)|refine Ce u2.1 u2.2 (λe=> ?_) (λ_=>absurd hb ‹_›)|refine PE (a:=Ep l1) (by first|exact BH|exact Bb rfl) hg ?_|refine tX ?_)<;>try simp only[*,Cc,mpC,go_sem])
    exact Gc.Cd (by simp[Lq,AH.refs,Ay]) h
   ·skip
    refine Aa ok55 ?_;(try simp only[kL,hnL,hcL,e0,e1,e2,e3,m1,m2,w1,w2,w3,Cc,mpC,go_sem]);repeat' ((first|apply orR|(apply sp<;>intro hc)|refine Dg ?_|refine Fl (F:=GL) Il (by decide) u0.1 u0.2 (by first|exact BH|exact Bb rfl) ?_|refine Ce u1.1 u1.2 (λe=>absurd e ha) (λ_=> ?_)|refine Ce u2.1 u2.2 (λe=>absurd e hb) (λ_=> ?_)|refine Gf (c:=EP l0 l1 l2 l3) (by first|exact BH|exact Bb rfl) (by first|exact BH|exact Bb rfl) hg ?_|refine tX ?_)<;>try simp only[*,Cc,mpC,go_sem])
    exact Gc.Cd (by simp[Lq,AH.refs,Ay]) h
 |true=>
  have ha:¬Ep l1=[]:=λe=>by rw[e,bH]at hg;cases hg
  simp only[hg,Qf]at h h' hn
  by_cases hb:Ep l2=[]
  ·clear h'
   simp only[hb]at hg h hn hlen
   refine Aa ok55 ?_;repeat' first|simp only[*,Cc,mpC,go_sem]|apply orR|(apply sp<;>intro hc)|refine Dg ?_|refine Fl (F:=GL) Il (by decide) u0.1 u0.2 (by first|exact BH|exact Bb rfl) ?_|refine Ce u1.1 u1.2 (λe=>absurd e ha) (λ_=> ?_)|refine Ce u2.1 u2.2 (λe=> ?_) (λ_=>absurd hb ‹_›)|refine Pu (a:=Ep l1) (by first|exact BH|exact Bb rfl) hg ?_|refine tn (l:=_) (m:=[l0,l1,l2,l3]) hlen rfl (by first|exact BH|exact Bb rfl) (kL _) hnL hcL heL (by decide) ?_
   ·exact Gc.Cd (by simp[AH.refs,Ay]) (h (decide_eq_false ‹_›))
   ·exact Gc.iV (i:=4) rfl (hn (decide_eq_true ‹_›) trivial)
  ·clear hn
   refine Aa ok55 ?_;repeat' first|simp only[*,Cc,mpC,go_sem]|apply orR|(apply sp<;>intro hc)|refine Dg ?_|refine Fl (F:=GL) Il (by decide) u0.1 u0.2 (by first|exact BH|exact Bb rfl) ?_|refine Ce u1.1 u1.2 (λe=>absurd e ha) (λ_=> ?_)|refine Ce u2.1 u2.2 (λe=>absurd e hb) (λ_=> ?_)|refine Kd (c:=EP l0 l1 l2 l3) (by first|exact BH|exact Bb rfl) (by first|exact BH|exact Bb rfl) hg ?_|refine tn (l:=K0 (EP l0 l1 l2 l3)) (m:=[l0,l1,l2,l3]) hlen rfl (by first|exact BH|exact Bb rfl) (kL _) hnL hcL heL (by decide) ?_
   ·exact Gc.Cd (by simp[AH.refs,Ay]) (h (decide_eq_false ‹_›))
   ·exact Gc.call2 (i:=4) (j:=5) rfl rfl (by decide) (h' (decide_eq_true ‹_›) hb)
set_option maxHeartbeats 1000000 in
theorem tp(hS:iS H oS s rS)(hT:iT H oT s rT)(hL:H[oL]?=some (.AU sL xsL rL))(hnL:xsL.length=nL)(hcL:xsL[iL]?=some csL)(heL:∀k,k<4->csL[jL+k]?=some (nT ([l0,l1,l2,l3].getD k 0)))(u0:0<=l0/\l0<2^64)(u1:0<=l1/\l1<2^64)(u2:0<=l2/\l2<2^64)
 (h:(oC s th l0 l1 l2 l3).st=none->K (.Bj [stA s oS oT fS fT,(oC s th l0 l1 l2 l3).Ap]) H) (h':∀s',(oC s th l0 l1 l2 l3).st=some s'->K (.Bj [BT s' H.length (H.length+1) false false,(oC s th l0 l1 l2 l3).Ap]) (H++[AM s',AJ s'])):
 AF Qb 52 [stA s oS oT fS fT,nS th,.Kl oL nL iL jL 4] H K:=by
 have kT:=AL.of hT
 have kS:=AL.of hS
 have kL:=AL.of hL
 have hv:=fun(e v n:Int)=>show(AH.Bj [stA s oS oT fS fT,.agg [nS e,nT v,nS n]]).refs (λo=>o<H.length) by simp[AH.refs,Ay];exact⟨Am hS,Am hT⟩
 refine AF.gc ?_
 cases hok:fI l0 l1 l2 l3 with
 |false=>
  cases hg:BN s with
  |false=>
   have e:oC s th l0 l1 l2 l3= .bad 1:=by simp only[oC,hg,Qd,cond_true]
   rw[e]at h
   have h:=h rfl
   clear h' e
   refine Aa ok52 ?_;(try simp only[BT,Qa,Lq,hg,go_sem]);repeat' ((first|apply orR|(apply sp<;>intro hc)|refine tY (kL _) hnL hcL heL u0 u1 u2 (λ_=> ?_) (λe=>absurd (hok.symm.trans e) (by decide)) (λe=>absurd (hok.symm.trans e) (by decide))|refine AW (kS _) (kT _) ?_)<;>try simp only[*,BT,Qa,Lq,go_sem])
   exact Gc.Cd (hv _ _ _) h
  |true=>
   have e:oC s th l0 l1 l2 l3= .bad 2:=by simp only[oC,hg,hok,Qd,Qc,cond_true,cond_false]
   rw[e]at h
   have h:=h rfl
   clear h' e
   refine Aa ok52 ?_;(try simp only[BT,Qa,Lq,hg,go_sem]);repeat' ((first|apply orR|(apply sp<;>intro hc)|refine tY (kL _) hnL hcL heL u0 u1 u2 (λ_=> ?_) (λe=>absurd (hok.symm.trans e) (by decide)) (λe=>absurd (hok.symm.trans e) (by decide))|refine AW (kS _) (kT _) ?_)<;>try simp only[*,BT,Qa,Lq,go_sem])
   exact Gc.Cd (hv _ _ _) h
 |true=>
  cases hg:BN s with
  |false=>
   have e:oC s th l0 l1 l2 l3= .bad 1:=by simp only[oC,hg,Qd,cond_true]
   rw[e]at h
   have h:=h rfl
   clear h' e
   refine Aa ok52 ?_;(try simp only[BT,Qa,hg,go_sem]);repeat' ((first|apply orR|(apply sp<;>intro hc)|refine tY (kL _) hnL hcL heL u0 u1 u2 (λe=>absurd (hok.symm.trans e) (by decide)) (λ_ hb=> ?_) (λ_ hb=> ?_)|refine AW (kS _) (kT _) ?_)<;>try simp only[*,BT,Qa,go_sem])
   all_goals exact Gc.Cd (hv _ _ _) h
  |true=>
   have e:oC s th l0 l1 l2 l3=DY s th (EP l0 l1 l2 l3):=by simp only[oC,hg,hok,Qc,cond_false]
   rw[e]at h h'
   clear e
   by_cases hb:(EP l0 l1 l2 l3).b=[]
   ·generalize hc:EP l0 l1 l2 l3=c at*
    obtain⟨op,a,b,x,y,w⟩:=c
    simp only at hb
    subst hb
    have call:=fun(K:AH->AP->Prop) (h1) (h2)=>tY (oL:=oL) (K:=K) (kL [.AU 5 [[nS s.AS.AI,nS s.AS.AE,nS s.AS.AB,.slice oS s.AE.length 0 s.AE.length fS,.slice oT s.AB.length 0 s.AB.length fT]] false,.AU 5 [[nS 0,nS 0,nS 0,.lit (.slice none 0 0),.lit (.slice none 0 0)]] false,.AU 3 [[nS 0,nT 0,nS 0]] false]) hnL hcL heL u0 u1 u2 (λe=>absurd (hok.symm.trans e) (by decide)) h1 h2
    rw[hc]at call
    have call:=fun(K:AH->AP->Prop) (h1)=>call K (λ_ _=>h1) (λ_ e=>absurd rfl e)
    refine Aa ok52 ?_;repeat' first|simp only[*,BT,Qa,AM,AJ,CD.Ap,go_sem]|apply orR|(apply sp<;>intro hc)|refine call _ ?_|refine AW (kS _) (kT _) ?_|refine dh.nil (kS _) (kT _) (by first|exact BH|exact Bb rfl) (λhc=> ?_) (λs' hc=> ?_)
    ·exact Gc.Cd (hv _ _ _) (h ‹_›)
    ·exact Gc.Jg (i:=5) (j:=6) rfl rfl (r:=(DY s th ⟨op,a,[],x,y,w⟩).st) (λs' e=>h' s' e) (hn:=rfl) (hm:=rfl) (e:=by assumption)
   ·generalize hc:EP l0 l1 l2 l3=c at*
    obtain⟨op,a,b,x,y,w⟩:=c
    simp only at hb
    have call:=fun(K:AH->AP->Prop) (h1) (h2)=>tY (oL:=oL) (K:=K) (kL [.AU 5 [[nS s.AS.AI,nS s.AS.AE,nS s.AS.AB,.slice oS s.AE.length 0 s.AE.length fS,.slice oT s.AB.length 0 s.AB.length fT]] false,.AU 5 [[nS 0,nS 0,nS 0,.lit (.slice none 0 0),.lit (.slice none 0 0)]] false,.AU 3 [[nS 0,nT 0,nS 0]] false]) hnL hcL heL u0 u1 u2 (λe=>absurd (hok.symm.trans e) (by decide)) h1 h2
    rw[hc]at call
    have call:=fun(K:AH->AP->Prop) (h1)=>call K (λ_ e=>absurd e hb) (λ_ _=>h1)
    refine Aa ok52 ?_;repeat' first|simp only[*,BT,Qa,AM,AJ,CD.Ap,go_sem]|apply orR|(apply sp<;>intro hc)|refine call _ ?_|refine AW (kS _) (kT _) ?_|refine dh (c:=⟨op,a,b,x,y,w⟩) (kS _) (kT _) (by first|exact BH|exact Bb rfl) (by first|exact BH|exact Bb rfl) (λhc=> ?_) (λs' hc=> ?_)
    ·exact Gc.Cd (hv _ _ _) (h ‹_›)
    ·exact Gc.Jg (i:=6) (j:=7) rfl rfl (r:=(DY s th ⟨op,a,b,x,y,w⟩).st) (λs' e=>h' s' e) (hn:=rfl) (hm:=rfl) (e:=by assumption)
theorem tj{e v m:Int}{u:State}(hr:oC s th l0 l1 l2 l3=⟨e,v,m,some u⟩)(hS:iS H oS s rS)(hT:iT H oT s rT)(hL:H[oL]?=some (.AU sL xsL rL))(hnL:xsL.length=nL)(hcL:xsL[iL]?=some csL)(heL:∀k,k<4->csL[jL+k]?=some (nT ([l0,l1,l2,l3].getD k 0)))(u0:0<=l0/\l0<2^64)(u1:0<=l1/\l1<2^64)(u2:0<=l2/\l2<2^64)
 (h:K (.Bj [BT u H.length (H.length+1) false false,.agg [nS e,nT v,nS m]]) (H++[AM u,AJ u])):
 AF Qb 52 [stA s oS oT fS fT,nS th,.Kl oL nL iL jL 4] H K:=
 tp hS hT hL hnL hcL heL u0 u1 u2 (by rw[hr];intro h;cases h) (by rw[hr];intro s2 h2;injection h2 with h2;subst h2;exact h)
theorem tg{e v m:Int}(hr:oC s th l0 l1 l2 l3=⟨e,v,m,none⟩)(hS:iS H oS s rS)(hT:iT H oT s rT)(hL:H[oL]?=some (.AU sL xsL rL))(hnL:xsL.length=nL)(hcL:xsL[iL]?=some csL)(heL:∀k,k<4->csL[jL+k]?=some (nT ([l0,l1,l2,l3].getD k 0)))(u0:0<=l0/\l0<2^64)(u1:0<=l1/\l1<2^64)(u2:0<=l2/\l2<2^64)
 (h:K (.Bj [stA s oS oT fS fT,.agg [nS e,nT v,nS m]]) H):
 AF Qb 52 [stA s oS oT fS fT,nS th,.Kl oL nL iL jL 4] H K:=
 tp hS hT hL hnL hcL heL u0 u1 u2 (by rw[hr];intro _;exact h) (by rw[hr];intro s2 h2;cases h2)
end
set_option maxRecDepth 100000
section
variable {H:AP}{K:AH->AP->Prop}{s:State}{th x y w:Int}{a b:List Int}{oS oT oA oB oL:Nat}{fS fT rS rT fA fB rA rB fL:Bool}
theorem tz(h:K (.bool (Bv th 0 (s.AS.AI-1))) H):AF Qb 119 [stA s oS oT fS fT,nS th] H K:=by
 refine AF.tidy ?_
 refine Aa ok119 ?_;repeat' first|simp only[*,go_sem]|apply orR|(apply sp<;>intro hc)|fail
 all_goals exact tb h ⟨_,rfl⟩ (by by_cases h1:0<=th<;>by_cases h2:th<s.AS.AI<;>simp[Bv,h1,h2]<;>omega)
theorem uA{n:Nat}(hn:((n:Int)=4)=False)(h:K (.Bj [.agg [nS 0,.lit (.slice none 0 0),.lit (.slice none 0 0),nS 0,nS 0,nT 0],.bool false]) H):
 AF Qb 55 [.slice oL n 0 n fL] H K:=by
 refine AF.gc ?_
 refine Aa ok55 ?_;(try simp only[hn,go_sem]);repeat' ((first|apply orR|(apply sp<;>intro hc)|fail)<;>try simp only[*,go_sem])
 exact Gc.Cd (by simp[AH.refs,Ay]) h
theorem tu{n:Nat}(hn:((n:Int)=4)=False)(DR:BN s=true)(hS:iS H oS s rS)(hT:iT H oT s rT)
 (h:K (.Bj [stA s oS oT fS fT,.agg [nS 2,nT 0,nS 0]]) H):AF Qb 52 [stA s oS oT fS fT,nS th,.slice oL n 0 n fL] H K:=by
 have kT:=AL.of hT
 have kS:=AL.of hS
 have hv:=fun(e v n:Int)=>show(AH.Bj [stA s oS oT fS fT,.agg [nS e,nT v,nS n]]).refs (λo=>o<H.length) by simp[AH.refs,Ay];exact⟨Am hS,Am hT⟩
 refine AF.gc ?_
 refine Aa ok52 ?_;(try simp only[BT,DR,hn,Qa,go_sem]);repeat' ((first|apply orR|(apply sp<;>intro hc)|refine uA hn ?_|refine AW (kS _) (kT _) ?_)<;>try simp only[*,BT,DR,Qa,go_sem])
 exact Gc.Cd (hv _ _ _) h
theorem uP(hg:BN s=true)(ht:Bv th 0 (s.AS.AI-1)=true)(hc:AT ⟨13,a,b,x,y,w⟩=true)(hS:iS H oS s rS)(hT:iT H oT s rT)(hA:H[oA]?=some (.AU 1 (ints a) rA))(hB:H[oB]?=some (.AU 1 (ints b) rB))
 (h:K (.Bj [stA s oS oT fS fT,(Bg s th ⟨13,a,b,x,y,w⟩).Ap]) H):
 AF Qb 51 [stA s oS oT fS fT,nS th,.agg [nS 13,.slice oA a.length 0 a.length fA,.slice oB b.length 0 b.length fB,nS x,nS y,nT w]] H K:=by
 have kT:=AL.of hT
 have kS:=AL.of hS
 have kA:=AL.of hA
 have kB:=AL.of hB
 have hv:=fun(e v n:Int)=>show(AH.Bj [stA s oS oT fS fT,.agg [nS e,nT v,nS n]]).refs (λo=>o<H.length) by simp[AH.refs,Ay];exact⟨Am hS,Am hT⟩
 refine AF.gc ?_
 refine Aa ok51 ?_;(try simp only[BT,AM,AJ,Qa,CD.Ap,hg,ht,hc,go_sem]);repeat' ((first|apply orR|(apply sp<;>intro hc)|refine AW (kS _) (kT _) ?_|refine Aw (c:=⟨13,a,b,x,y,w⟩) (kA _) (kB _) ?_|refine tz (s:=s) ?_|refine NT (kS _) (kT _) (kA _) (kB _) ?_)<;>try simp only[*,BT,AM,AJ,Qa,CD.Ap,go_sem])
 exact Gc.Cd (hv _ _ _) h
theorem uF{e w' n:Int}(hg:BN s=true)(ht:Bv th 0 (s.AS.AI-1)=true)(hc:AT ⟨13,a,[],x,y,w⟩=true)(hr:Bg s th ⟨13,a,[],x,y,w⟩=⟨e,w',n,none⟩)(hS:iS H oS s rS)(hT:iT H oT s rT)(hA:H[oA]?=some (.AU 1 (ints a) rA))
 (h:K (.Bj [stA s oS oT fS fT,.agg [nS e,nT w',nS n]]) H):
 AF Qb 51 [stA s oS oT fS fT,nS th,.agg [nS 13,.slice oA a.length 0 a.length fA,.lit (.slice none 0 0),nS x,nS y,nT w]] H K:=by
 refine AF.gc (AF.lay 1 ?_)
 simp only[Go.Ax.D9,Go.Ax.E9,go_sem]
 have kS:=AL.of hS
 have kT:=AL.of hT
 have kA:=AL.of hA
 refine uP (b:=[]) (oB:=H.length) (rB:=false) hg ht hc (kS _) (kT _) (kA _) BH ?_
 rw[hr]
 refine Gc.Cd ?_ h
 simp only[AH.refs,Ay]
 exact⟨⟨trivial,trivial,trivial,Am hS,Am hT,trivial⟩,⟨trivial,trivial,trivial,trivial⟩,trivial⟩
theorem uR(h:K (.bool true) H):AF Qb 58 [nS 13] H K:=OQ (v:= .bool true) uJ (loops:=5) (k:=5) (by kernel_rfl) rfl rfl h
theorem uQ(h:K (.bool false) H):AF Qb 58 [nS 11] H K:=OQ (v:= .bool false) uJ (loops:=5) (k:=5) (by kernel_rfl) rfl rfl h
theorem ub:BN S0=true:=by kernel_rfl
theorem uf:Bv 0 0 (S0.AS.AI-1)=true:=by kernel_rfl
theorem ud:AT ⟨13,[0],[],0,0,0⟩=true:=by kernel_rfl
theorem ue:Bg S0 0 ⟨13,[0],[],0,0,0⟩=⟨0,Hv ⟨1,0,7,0⟩,0,none⟩:=by kernel_rfl
theorem tl(h:K (.bool true) H):AF Qb 48 [] H K:=by
 have hss:Gs S0 S0=true:=IQ.2 rfl
 refine AF.tidy ?_
 refine Aa ok48 ?_;repeat' first|simp only[*,BT,AM,AJ,Qa,Qg,go_sem]|apply orR|(apply sp<;>intro hc)|refine uH ?_|refine uO (by first|exact BH|exact Bb rfl) ?_|refine tu (s:=S0) (n:=2) (by decide) ub (by first|exact BH|exact Bb rfl) (by first|exact BH|exact Bb rfl) ?_|refine uF (s:=S0) (a:=[0]) ub uf ud ue (by first|exact BH|exact Bb rfl) (by first|exact BH|exact Bb rfl) (by first|exact BH|exact Bb rfl) ?_|refine BS (s:=S0) (u:=S0) (by first|exact BH|exact Bb rfl) (by first|exact BH|exact Bb rfl) (by first|exact BH|exact Bb rfl) (by first|exact BH|exact Bb rfl) (by decide) (by decide) ?_|refine uR ?_|refine uQ ?_
 all_goals first|exact⟨rfl,_,rfl⟩|exact tb h ⟨_,rfl⟩ rfl|trace_state
end
end Go.Proofs.YtlaipllgmddkiaaGreat.Ax
