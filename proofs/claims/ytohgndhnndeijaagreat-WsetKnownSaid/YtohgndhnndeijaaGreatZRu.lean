/- Texts put behind one another: SRuleD. Conditions: none. -/
import Derived.Test.YtohgndhnndeijaaGreatZTk
import Derived.Test.YtohgndhnndeijaaGreatZSw
set_option linter.all false
set_option maxHeartbeats 9999999
open Nat renaming add_assoc -> Qa
open Bool renaming not_true -> Qb, not_false -> Qd
open Go.Proofs.Tryz renaming prog -> Qc
namespace Go.Ax.M
open Go Go.Ax
theorem dY{s:State}{th x y w:Int}{a b:List Int}(hg:(BN s&&(AT ⟨1,a,b,x,y,w⟩&&Bv th 0 (s.AS.AI-1)))=true):DY s th ⟨1,a,b,x,y,w⟩=Be s th ⟨1,a,b,x,y,w⟩:=by
 simp only[DY,hg,Qb,cond_false];rfl
theorem dZ{s:State}{th x y w:Int}{a b:List Int}(hg:(BN s&&(AT ⟨2,a,b,x,y,w⟩&&Bv th 0 (s.AS.AI-1)))=true):DY s th ⟨2,a,b,x,y,w⟩=A5 s th ⟨2,a,b,x,y,w⟩:=by
 simp only[DY,hg,Qb,cond_false];rfl
theorem da{s:State}{th x y w:Int}{a b:List Int}(hg:(BN s&&(AT ⟨3,a,b,x,y,w⟩&&Bv th 0 (s.AS.AI-1)))=true):DY s th ⟨3,a,b,x,y,w⟩=A5 s th ⟨3,a,b,x,y,w⟩:=by
 simp only[DY,hg,Qb,cond_false];rfl
theorem db{s:State}{th x y w:Int}{a b:List Int}(hg:(BN s&&(AT ⟨4,a,b,x,y,w⟩&&Bv th 0 (s.AS.AI-1)))=true):DY s th ⟨4,a,b,x,y,w⟩=A5 s th ⟨4,a,b,x,y,w⟩:=by
 simp only[DY,hg,Qb,cond_false];rfl
theorem dc{s:State}{th x y w:Int}{a b:List Int}(hg:(BN s&&(AT ⟨5,a,b,x,y,w⟩&&Bv th 0 (s.AS.AI-1)))=true):DY s th ⟨5,a,b,x,y,w⟩=takeN s th ⟨5,a,b,x,y,w⟩:=by
 simp only[DY,hg,Qb,cond_false];rfl
theorem dd{s:State}{th x y w:Int}{a b:List Int}(hg:(BN s&&(AT ⟨6,a,b,x,y,w⟩&&Bv th 0 (s.AS.AI-1)))=true):DY s th ⟨6,a,b,x,y,w⟩=takeN s th ⟨6,a,b,x,y,w⟩:=by
 simp only[DY,hg,Qb,cond_false];rfl
theorem de{s:State}{th x y w:Int}{a b:List Int}(hg:(BN s&&(AT ⟨7,a,b,x,y,w⟩&&Bv th 0 (s.AS.AI-1)))=true):DY s th ⟨7,a,b,x,y,w⟩=BC s th ⟨7,a,b,x,y,w⟩:=by
 simp only[DY,hg,Qb,cond_false];rfl
theorem df{s:State}{th x y w:Int}{a b:List Int}(hg:(BN s&&(AT ⟨8,a,b,x,y,w⟩&&Bv th 0 (s.AS.AI-1)))=true):DY s th ⟨8,a,b,x,y,w⟩=BC s th ⟨8,a,b,x,y,w⟩:=by
 simp only[DY,hg,Qb,cond_false];rfl
theorem dg{s:State}{th x y w:Int}{a b:List Int}(hg:(BN s&&(AT ⟨9,a,b,x,y,w⟩&&Bv th 0 (s.AS.AI-1)))=true):DY s th ⟨9,a,b,x,y,w⟩=BG s th ⟨9,a,b,x,y,w⟩:=by
 simp only[DY,hg,Qb,cond_false];rfl
theorem bk{s:State}{th x y w:Int}{a b:List Int}(hg:(BN s&&(AT ⟨10,a,b,x,y,w⟩&&Bv th 0 (s.AS.AI-1)))=true):DY s th ⟨10,a,b,x,y,w⟩=BG s th ⟨10,a,b,x,y,w⟩:=by
 simp only[DY,hg,Qb,cond_false];rfl
theorem bm{s:State}{th x y w:Int}{a b:List Int}(hg:(BN s&&(AT ⟨11,a,b,x,y,w⟩&&Bv th 0 (s.AS.AI-1)))=true):DY s th ⟨11,a,b,x,y,w⟩=Bg s th ⟨11,a,b,x,y,w⟩:=by
 simp only[DY,hg,Qb,cond_false];rfl
theorem bn{s:State}{th x y w:Int}{a b:List Int}(hg:(BN s&&(AT ⟨12,a,b,x,y,w⟩&&Bv th 0 (s.AS.AI-1)))=true):DY s th ⟨12,a,b,x,y,w⟩=Bg s th ⟨12,a,b,x,y,w⟩:=by
 simp only[DY,hg,Qb,cond_false];rfl
theorem bo{s:State}{th x y w:Int}{a b:List Int}(hg:(BN s&&(AT ⟨13,a,b,x,y,w⟩&&Bv th 0 (s.AS.AI-1)))=true):DY s th ⟨13,a,b,x,y,w⟩=Bg s th ⟨13,a,b,x,y,w⟩:=by
 simp only[DY,hg,Qb,cond_false];rfl
end Go.Ax.M
namespace Go.Proofs.YtohgndhnndeijaaGreat.Ax
open Go Go.Ax Go.Ax.M
set_option maxRecDepth 100000
section
variable {H:AP}{K:AH->AP->Prop}{s:State}{th x y w:Int}{a b:List Int}{oS oT oA oB oL:Nat}{fS fT rS rT fA fB rA rB fL rL:Bool}
theorem GJ:CF 105 Bg:=by
 intro H K s th c oS oT oA oB fS fT rS rT fA fB rA rB hS hT hA hB h h'
 obtain⟨op,a,b,x,y,w⟩:=c
 by_cases h11:op=11
 ·exact KH (.inl h11) hS hT hA hB h h'
 by_cases h12:op=12
 ·exact KH (.inr h12) hS hT hA hB h h'
 by_cases h13:op=13
 ·subst h13
  refine NT hS hT hA hB (h ?_)
  cases hcg:AT ⟨13,a,b,x,y,w⟩with
  |false=>simp only[Bg,hcg,Qd,Bool.true_or,cond_true,CD.bad]
  |true=>
   rw[au hcg]
   cases decide ((AO s th a).2.2=0)<;>rfl
 ·have e:Bg s th ⟨op,a,b,x,y,w⟩= .bad 1:=by simp[Bg,h11,h12,h13]
  rw[e]at h
  have h:=h rfl
  have kT:=AL.of hT
  have kS:=AL.of hS
  have kA:=AL.of hA
  have kB:=AL.of hB
  have hv:=fun(e v n:Int)=>show(AH.Bj [stA s oS oT fS fT,.agg [nS e,nT v,nS n]]).refs (λo=>o<H.length) by simp[AH.refs,Ay];exact⟨Am hS,Am hT⟩
  refine AF.gc ?_
  cases hcg:AT ⟨op,a,b,x,y,w⟩with
  |false=>
   refine Aa ok105 ?_;(try simp only[BT,AM,AJ,Qa,hcg,h11,h12,h13,go_sem]);repeat' ((first|apply orR|(apply sp<;>intro hc)|refine Aw (c:=⟨op,a,b,x,y,w⟩) (kA _) (kB _) ?_)<;>try simp only[*,BT,AM,AJ,Qa,go_sem])
   exact Gc.Cd (hv _ _ _) h
  |true=>
   refine Aa ok105 ?_;(try simp only[BT,AM,AJ,Qa,hcg,h11,h12,h13,go_sem]);repeat' ((first|apply orR|(apply sp<;>intro hc)|refine Aw (c:=⟨op,a,b,x,y,w⟩) (kA _) (kB _) ?_)<;>try simp only[*,BT,AM,AJ,Qa,go_sem])
   exact Gc.Cd (hv _ _ _) h
theorem CT(h:K (.bool (Bv th 0 (s.AS.AI-1))) H):AF Qc 99 [stA s oS oT fS fT,nS th] H K:=by
 refine AF.tidy ?_
 refine Aa ok99 ?_;repeat' first|simp only[*,go_sem]|apply orR|(apply sp<;>intro hc)|fail
 all_goals exact tb h ⟨_,rfl⟩ (by by_cases h1:0<=th<;>by_cases h2:th<s.AS.AI<;>simp[Bv,h1,h2]<;>omega)
theorem dO(hg:BN s=true)(hc:AT ⟨1,a,b,x,y,w⟩=true)(ht:Bv th 0 (s.AS.AI-1)=true)(hS:jI H oS s rS)(hT:jU H oT s rT)(hA:H[oA]?=some (.AU 1 (ints a) rA))(hB:H[oB]?=some (.AU 1 (ints b) rB))
 (h:(Be s th ⟨1,a,b,x,y,w⟩).st=none->K (.Bj [stA s oS oT fS fT,(Be s th ⟨1,a,b,x,y,w⟩).Ap]) H) (h':∀s',(Be s th ⟨1,a,b,x,y,w⟩).st=some s'->K (.Bj [BT s' H.length (H.length+1) false false,(Be s th ⟨1,a,b,x,y,w⟩).Ap]) (H++[AM s',AJ s'])):
 AF Qc 62 [stA s oS oT fS fT,nS th,.agg [nS 1,.slice oA a.length 0 a.length fA,.slice oB b.length 0 b.length fB,nS x,nS y,nT w]] H K:=by
 have kT:=AL.of hT
 have kS:=AL.of hS
 have kA:=AL.of hA
 have kB:=AL.of hB
 have hv:=fun(e v n:Int)=>show(AH.Bj [stA s oS oT fS fT,.agg [nS e,nT v,nS n]]).refs (λo=>o<H.length) by simp[AH.refs,Ay];exact⟨Am hS,Am hT⟩
 refine AF.gc ?_
 refine Aa ok62 ?_;repeat' first|simp only[*,BT,AM,AJ,Qa,CD.Ap,go_sem]|apply orR|(apply sp<;>intro hc)|refine AW (kS _) (kT _) ?_|refine Aw (c:=⟨1,a,b,x,y,w⟩) (kA _) (kB _) ?_|refine CT (s:=s) ?_|refine EJ (c:=⟨1,a,b,x,y,w⟩) (kS _) (kT _) (kA _) (kB _) (λhc=> ?_) (λs' hc=> ?_)
 ·exact Gc.Cd (hv _ _ _) (h ‹_›)
 ·exact Gc.Jg (i:=4) (j:=5) rfl rfl (r:=(Be s th ⟨1,a,b,x,y,w⟩).st) (λs' e=>h' s' e) (hn:=rfl) (hm:=rfl) (e:=by assumption)
theorem dP(hg:BN s=true)(hc:AT ⟨2,a,b,x,y,w⟩=true)(ht:Bv th 0 (s.AS.AI-1)=true)(hS:jI H oS s rS)(hT:jU H oT s rT)(hA:H[oA]?=some (.AU 1 (ints a) rA))(hB:H[oB]?=some (.AU 1 (ints b) rB))
 (h:(A5 s th ⟨2,a,b,x,y,w⟩).st=none->K (.Bj [stA s oS oT fS fT,(A5 s th ⟨2,a,b,x,y,w⟩).Ap]) H) (h':∀s',(A5 s th ⟨2,a,b,x,y,w⟩).st=some s'->K (.Bj [BT s' H.length (H.length+1) false false,(A5 s th ⟨2,a,b,x,y,w⟩).Ap]) (H++[AM s',AJ s'])):
 AF Qc 62 [stA s oS oT fS fT,nS th,.agg [nS 2,.slice oA a.length 0 a.length fA,.slice oB b.length 0 b.length fB,nS x,nS y,nT w]] H K:=by
 have kT:=AL.of hT
 have kS:=AL.of hS
 have kA:=AL.of hA
 have kB:=AL.of hB
 have hv:=fun(e v n:Int)=>show(AH.Bj [stA s oS oT fS fT,.agg [nS e,nT v,nS n]]).refs (λo=>o<H.length) by simp[AH.refs,Ay];exact⟨Am hS,Am hT⟩
 refine AF.gc ?_
 refine Aa ok62 ?_;repeat' first|simp only[*,BT,AM,AJ,Qa,CD.Ap,go_sem]|apply orR|(apply sp<;>intro hc)|refine AW (kS _) (kT _) ?_|refine Aw (c:=⟨2,a,b,x,y,w⟩) (kA _) (kB _) ?_|refine CT (s:=s) ?_|refine Cg (c:=⟨2,a,b,x,y,w⟩) (kS _) (kT _) (kA _) (kB _) (λhc=> ?_) (λs' hc=> ?_)
 ·exact Gc.Cd (hv _ _ _) (h ‹_›)
 ·exact Gc.Jg (i:=4) (j:=5) rfl rfl (r:=(A5 s th ⟨2,a,b,x,y,w⟩).st) (λs' e=>h' s' e) (hn:=rfl) (hm:=rfl) (e:=by assumption)
theorem dQ(hg:BN s=true)(hc:AT ⟨3,a,b,x,y,w⟩=true)(ht:Bv th 0 (s.AS.AI-1)=true)(hS:jI H oS s rS)(hT:jU H oT s rT)(hA:H[oA]?=some (.AU 1 (ints a) rA))(hB:H[oB]?=some (.AU 1 (ints b) rB))
 (h:(A5 s th ⟨3,a,b,x,y,w⟩).st=none->K (.Bj [stA s oS oT fS fT,(A5 s th ⟨3,a,b,x,y,w⟩).Ap]) H) (h':∀s',(A5 s th ⟨3,a,b,x,y,w⟩).st=some s'->K (.Bj [BT s' H.length (H.length+1) false false,(A5 s th ⟨3,a,b,x,y,w⟩).Ap]) (H++[AM s',AJ s'])):
 AF Qc 62 [stA s oS oT fS fT,nS th,.agg [nS 3,.slice oA a.length 0 a.length fA,.slice oB b.length 0 b.length fB,nS x,nS y,nT w]] H K:=by
 have kT:=AL.of hT
 have kS:=AL.of hS
 have kA:=AL.of hA
 have kB:=AL.of hB
 have hv:=fun(e v n:Int)=>show(AH.Bj [stA s oS oT fS fT,.agg [nS e,nT v,nS n]]).refs (λo=>o<H.length) by simp[AH.refs,Ay];exact⟨Am hS,Am hT⟩
 refine AF.gc ?_
 refine Aa ok62 ?_;repeat' first|simp only[*,BT,AM,AJ,Qa,CD.Ap,go_sem]|apply orR|(apply sp<;>intro hc)|refine AW (kS _) (kT _) ?_|refine Aw (c:=⟨3,a,b,x,y,w⟩) (kA _) (kB _) ?_|refine CT (s:=s) ?_|refine Cg (c:=⟨3,a,b,x,y,w⟩) (kS _) (kT _) (kA _) (kB _) (λhc=> ?_) (λs' hc=> ?_)
 ·exact Gc.Cd (hv _ _ _) (h ‹_›)
 ·exact Gc.Jg (i:=4) (j:=5) rfl rfl (r:=(A5 s th ⟨3,a,b,x,y,w⟩).st) (λs' e=>h' s' e) (hn:=rfl) (hm:=rfl) (e:=by assumption)
theorem dR(hg:BN s=true)(hc:AT ⟨4,a,b,x,y,w⟩=true)(ht:Bv th 0 (s.AS.AI-1)=true)(hS:jI H oS s rS)(hT:jU H oT s rT)(hA:H[oA]?=some (.AU 1 (ints a) rA))(hB:H[oB]?=some (.AU 1 (ints b) rB))
 (h:(A5 s th ⟨4,a,b,x,y,w⟩).st=none->K (.Bj [stA s oS oT fS fT,(A5 s th ⟨4,a,b,x,y,w⟩).Ap]) H) (h':∀s',(A5 s th ⟨4,a,b,x,y,w⟩).st=some s'->K (.Bj [BT s' H.length (H.length+1) false false,(A5 s th ⟨4,a,b,x,y,w⟩).Ap]) (H++[AM s',AJ s'])):
 AF Qc 62 [stA s oS oT fS fT,nS th,.agg [nS 4,.slice oA a.length 0 a.length fA,.slice oB b.length 0 b.length fB,nS x,nS y,nT w]] H K:=by
 have kT:=AL.of hT
 have kS:=AL.of hS
 have kA:=AL.of hA
 have kB:=AL.of hB
 have hv:=fun(e v n:Int)=>show(AH.Bj [stA s oS oT fS fT,.agg [nS e,nT v,nS n]]).refs (λo=>o<H.length) by simp[AH.refs,Ay];exact⟨Am hS,Am hT⟩
 refine AF.gc ?_
 refine Aa ok62 ?_;repeat' first|simp only[*,BT,AM,AJ,Qa,CD.Ap,go_sem]|apply orR|(apply sp<;>intro hc)|refine AW (kS _) (kT _) ?_|refine Aw (c:=⟨4,a,b,x,y,w⟩) (kA _) (kB _) ?_|refine CT (s:=s) ?_|refine Cg (c:=⟨4,a,b,x,y,w⟩) (kS _) (kT _) (kA _) (kB _) (λhc=> ?_) (λs' hc=> ?_)
 ·exact Gc.Cd (hv _ _ _) (h ‹_›)
 ·exact Gc.Jg (i:=4) (j:=5) rfl rfl (r:=(A5 s th ⟨4,a,b,x,y,w⟩).st) (λs' e=>h' s' e) (hn:=rfl) (hm:=rfl) (e:=by assumption)
theorem dS(hg:BN s=true)(hc:AT ⟨5,a,b,x,y,w⟩=true)(ht:Bv th 0 (s.AS.AI-1)=true)(hS:jI H oS s rS)(hT:jU H oT s rT)(hA:H[oA]?=some (.AU 1 (ints a) rA))(hB:H[oB]?=some (.AU 1 (ints b) rB))
 (h:(takeN s th ⟨5,a,b,x,y,w⟩).st=none->K (.Bj [stA s oS oT fS fT,(takeN s th ⟨5,a,b,x,y,w⟩).Ap]) H) (h':∀s',(takeN s th ⟨5,a,b,x,y,w⟩).st=some s'->K (.Bj [BT s' H.length (H.length+1) false false,(takeN s th ⟨5,a,b,x,y,w⟩).Ap]) (H++[AM s',AJ s'])):
 AF Qc 62 [stA s oS oT fS fT,nS th,.agg [nS 5,.slice oA a.length 0 a.length fA,.slice oB b.length 0 b.length fB,nS x,nS y,nT w]] H K:=by
 have kT:=AL.of hT
 have kS:=AL.of hS
 have kA:=AL.of hA
 have kB:=AL.of hB
 have hv:=fun(e v n:Int)=>show(AH.Bj [stA s oS oT fS fT,.agg [nS e,nT v,nS n]]).refs (λo=>o<H.length) by simp[AH.refs,Ay];exact⟨Am hS,Am hT⟩
 refine AF.gc ?_
 refine Aa ok62 ?_;repeat' first|simp only[*,BT,AM,AJ,Qa,CD.Ap,go_sem]|apply orR|(apply sp<;>intro hc)|refine AW (kS _) (kT _) ?_|refine Aw (c:=⟨5,a,b,x,y,w⟩) (kA _) (kB _) ?_|refine CT (s:=s) ?_|refine Nj (c:=⟨5,a,b,x,y,w⟩) (kS _) (kT _) (kA _) (kB _) (λhc=> ?_) (λs' hc=> ?_)
 ·exact Gc.Cd (hv _ _ _) (h ‹_›)
 ·exact Gc.Jg (i:=4) (j:=5) rfl rfl (r:=(takeN s th ⟨5,a,b,x,y,w⟩).st) (λs' e=>h' s' e) (hn:=rfl) (hm:=rfl) (e:=by assumption)
theorem dU(hg:BN s=true)(hc:AT ⟨6,a,b,x,y,w⟩=true)(ht:Bv th 0 (s.AS.AI-1)=true)(hS:jI H oS s rS)(hT:jU H oT s rT)(hA:H[oA]?=some (.AU 1 (ints a) rA))(hB:H[oB]?=some (.AU 1 (ints b) rB))
 (h:(takeN s th ⟨6,a,b,x,y,w⟩).st=none->K (.Bj [stA s oS oT fS fT,(takeN s th ⟨6,a,b,x,y,w⟩).Ap]) H) (h':∀s',(takeN s th ⟨6,a,b,x,y,w⟩).st=some s'->K (.Bj [BT s' H.length (H.length+1) false false,(takeN s th ⟨6,a,b,x,y,w⟩).Ap]) (H++[AM s',AJ s'])):
 AF Qc 62 [stA s oS oT fS fT,nS th,.agg [nS 6,.slice oA a.length 0 a.length fA,.slice oB b.length 0 b.length fB,nS x,nS y,nT w]] H K:=by
 have kT:=AL.of hT
 have kS:=AL.of hS
 have kA:=AL.of hA
 have kB:=AL.of hB
 have hv:=fun(e v n:Int)=>show(AH.Bj [stA s oS oT fS fT,.agg [nS e,nT v,nS n]]).refs (λo=>o<H.length) by simp[AH.refs,Ay];exact⟨Am hS,Am hT⟩
 refine AF.gc ?_
 refine Aa ok62 ?_;repeat' first|simp only[*,BT,AM,AJ,Qa,CD.Ap,go_sem]|apply orR|(apply sp<;>intro hc)|refine AW (kS _) (kT _) ?_|refine Aw (c:=⟨6,a,b,x,y,w⟩) (kA _) (kB _) ?_|refine CT (s:=s) ?_|refine Nj (c:=⟨6,a,b,x,y,w⟩) (kS _) (kT _) (kA _) (kB _) (λhc=> ?_) (λs' hc=> ?_)
 ·exact Gc.Cd (hv _ _ _) (h ‹_›)
 ·exact Gc.Jg (i:=4) (j:=5) rfl rfl (r:=(takeN s th ⟨6,a,b,x,y,w⟩).st) (λs' e=>h' s' e) (hn:=rfl) (hm:=rfl) (e:=by assumption)
theorem dV(hg:BN s=true)(hc:AT ⟨7,a,b,x,y,w⟩=true)(ht:Bv th 0 (s.AS.AI-1)=true)(hS:jI H oS s rS)(hT:jU H oT s rT)(hA:H[oA]?=some (.AU 1 (ints a) rA))(hB:H[oB]?=some (.AU 1 (ints b) rB))
 (h:(BC s th ⟨7,a,b,x,y,w⟩).st=none->K (.Bj [stA s oS oT fS fT,(BC s th ⟨7,a,b,x,y,w⟩).Ap]) H) (h':∀s',(BC s th ⟨7,a,b,x,y,w⟩).st=some s'->K (.Bj [BT s' H.length (H.length+1) false false,(BC s th ⟨7,a,b,x,y,w⟩).Ap]) (H++[AM s',AJ s'])):
 AF Qc 62 [stA s oS oT fS fT,nS th,.agg [nS 7,.slice oA a.length 0 a.length fA,.slice oB b.length 0 b.length fB,nS x,nS y,nT w]] H K:=by
 have kT:=AL.of hT
 have kS:=AL.of hS
 have kA:=AL.of hA
 have kB:=AL.of hB
 have hv:=fun(e v n:Int)=>show(AH.Bj [stA s oS oT fS fT,.agg [nS e,nT v,nS n]]).refs (λo=>o<H.length) by simp[AH.refs,Ay];exact⟨Am hS,Am hT⟩
 refine AF.gc ?_
 refine Aa ok62 ?_;repeat' first|simp only[*,BT,AM,AJ,Qa,CD.Ap,go_sem]|apply orR|(apply sp<;>intro hc)|refine AW (kS _) (kT _) ?_|refine Aw (c:=⟨7,a,b,x,y,w⟩) (kA _) (kB _) ?_|refine CT (s:=s) ?_|refine H8 (c:=⟨7,a,b,x,y,w⟩) (kS _) (kT _) (kA _) (kB _) (λhc=> ?_) (λs' hc=> ?_)
 ·exact Gc.Cd (hv _ _ _) (h ‹_›)
 ·exact Gc.Jg (i:=4) (j:=5) rfl rfl (r:=(BC s th ⟨7,a,b,x,y,w⟩).st) (λs' e=>h' s' e) (hn:=rfl) (hm:=rfl) (e:=by assumption)
theorem dW(hg:BN s=true)(hc:AT ⟨8,a,b,x,y,w⟩=true)(ht:Bv th 0 (s.AS.AI-1)=true)(hS:jI H oS s rS)(hT:jU H oT s rT)(hA:H[oA]?=some (.AU 1 (ints a) rA))(hB:H[oB]?=some (.AU 1 (ints b) rB))
 (h:(BC s th ⟨8,a,b,x,y,w⟩).st=none->K (.Bj [stA s oS oT fS fT,(BC s th ⟨8,a,b,x,y,w⟩).Ap]) H) (h':∀s',(BC s th ⟨8,a,b,x,y,w⟩).st=some s'->K (.Bj [BT s' H.length (H.length+1) false false,(BC s th ⟨8,a,b,x,y,w⟩).Ap]) (H++[AM s',AJ s'])):
 AF Qc 62 [stA s oS oT fS fT,nS th,.agg [nS 8,.slice oA a.length 0 a.length fA,.slice oB b.length 0 b.length fB,nS x,nS y,nT w]] H K:=by
 have kT:=AL.of hT
 have kS:=AL.of hS
 have kA:=AL.of hA
 have kB:=AL.of hB
 have hv:=fun(e v n:Int)=>show(AH.Bj [stA s oS oT fS fT,.agg [nS e,nT v,nS n]]).refs (λo=>o<H.length) by simp[AH.refs,Ay];exact⟨Am hS,Am hT⟩
 refine AF.gc ?_
 refine Aa ok62 ?_;repeat' first|simp only[*,BT,AM,AJ,Qa,CD.Ap,go_sem]|apply orR|(apply sp<;>intro hc)|refine AW (kS _) (kT _) ?_|refine Aw (c:=⟨8,a,b,x,y,w⟩) (kA _) (kB _) ?_|refine CT (s:=s) ?_|refine H8 (c:=⟨8,a,b,x,y,w⟩) (kS _) (kT _) (kA _) (kB _) (λhc=> ?_) (λs' hc=> ?_)
 ·exact Gc.Cd (hv _ _ _) (h ‹_›)
 ·exact Gc.Jg (i:=4) (j:=5) rfl rfl (r:=(BC s th ⟨8,a,b,x,y,w⟩).st) (λs' e=>h' s' e) (hn:=rfl) (hm:=rfl) (e:=by assumption)
theorem dX(hg:BN s=true)(hc:AT ⟨9,a,b,x,y,w⟩=true)(ht:Bv th 0 (s.AS.AI-1)=true)(hS:jI H oS s rS)(hT:jU H oT s rT)(hA:H[oA]?=some (.AU 1 (ints a) rA))(hB:H[oB]?=some (.AU 1 (ints b) rB))
 (h:(BG s th ⟨9,a,b,x,y,w⟩).st=none->K (.Bj [stA s oS oT fS fT,(BG s th ⟨9,a,b,x,y,w⟩).Ap]) H) (h':∀s',(BG s th ⟨9,a,b,x,y,w⟩).st=some s'->K (.Bj [BT s' H.length (H.length+1) false false,(BG s th ⟨9,a,b,x,y,w⟩).Ap]) (H++[AM s',AJ s'])):
 AF Qc 62 [stA s oS oT fS fT,nS th,.agg [nS 9,.slice oA a.length 0 a.length fA,.slice oB b.length 0 b.length fB,nS x,nS y,nT w]] H K:=by
 have kT:=AL.of hT
 have kS:=AL.of hS
 have kA:=AL.of hA
 have kB:=AL.of hB
 have hv:=fun(e v n:Int)=>show(AH.Bj [stA s oS oT fS fT,.agg [nS e,nT v,nS n]]).refs (λo=>o<H.length) by simp[AH.refs,Ay];exact⟨Am hS,Am hT⟩
 refine AF.gc ?_
 refine Aa ok62 ?_;repeat' first|simp only[*,BT,AM,AJ,Qa,CD.Ap,go_sem]|apply orR|(apply sp<;>intro hc)|refine AW (kS _) (kT _) ?_|refine Aw (c:=⟨9,a,b,x,y,w⟩) (kA _) (kB _) ?_|refine CT (s:=s) ?_|refine Ej (c:=⟨9,a,b,x,y,w⟩) (kS _) (kT _) (kA _) (kB _) (λhc=> ?_) (λs' hc=> ?_)
 ·exact Gc.Cd (hv _ _ _) (h ‹_›)
 ·exact Gc.Jg (i:=4) (j:=5) rfl rfl (r:=(BG s th ⟨9,a,b,x,y,w⟩).st) (λs' e=>h' s' e) (hn:=rfl) (hm:=rfl) (e:=by assumption)
theorem bf(hg:BN s=true)(hc:AT ⟨10,a,b,x,y,w⟩=true)(ht:Bv th 0 (s.AS.AI-1)=true)(hS:jI H oS s rS)(hT:jU H oT s rT)(hA:H[oA]?=some (.AU 1 (ints a) rA))(hB:H[oB]?=some (.AU 1 (ints b) rB))
 (h:(BG s th ⟨10,a,b,x,y,w⟩).st=none->K (.Bj [stA s oS oT fS fT,(BG s th ⟨10,a,b,x,y,w⟩).Ap]) H) (h':∀s',(BG s th ⟨10,a,b,x,y,w⟩).st=some s'->K (.Bj [BT s' H.length (H.length+1) false false,(BG s th ⟨10,a,b,x,y,w⟩).Ap]) (H++[AM s',AJ s'])):
 AF Qc 62 [stA s oS oT fS fT,nS th,.agg [nS 10,.slice oA a.length 0 a.length fA,.slice oB b.length 0 b.length fB,nS x,nS y,nT w]] H K:=by
 have kT:=AL.of hT
 have kS:=AL.of hS
 have kA:=AL.of hA
 have kB:=AL.of hB
 have hv:=fun(e v n:Int)=>show(AH.Bj [stA s oS oT fS fT,.agg [nS e,nT v,nS n]]).refs (λo=>o<H.length) by simp[AH.refs,Ay];exact⟨Am hS,Am hT⟩
 refine AF.gc ?_
 refine Aa ok62 ?_;repeat' first|simp only[*,BT,AM,AJ,Qa,CD.Ap,go_sem]|apply orR|(apply sp<;>intro hc)|refine AW (kS _) (kT _) ?_|refine Aw (c:=⟨10,a,b,x,y,w⟩) (kA _) (kB _) ?_|refine CT (s:=s) ?_|refine Ej (c:=⟨10,a,b,x,y,w⟩) (kS _) (kT _) (kA _) (kB _) (λhc=> ?_) (λs' hc=> ?_)
 ·exact Gc.Cd (hv _ _ _) (h ‹_›)
 ·exact Gc.Jg (i:=4) (j:=5) rfl rfl (r:=(BG s th ⟨10,a,b,x,y,w⟩).st) (λs' e=>h' s' e) (hn:=rfl) (hm:=rfl) (e:=by assumption)
theorem bg(hg:BN s=true)(hc:AT ⟨11,a,b,x,y,w⟩=true)(ht:Bv th 0 (s.AS.AI-1)=true)(hS:jI H oS s rS)(hT:jU H oT s rT)(hA:H[oA]?=some (.AU 1 (ints a) rA))(hB:H[oB]?=some (.AU 1 (ints b) rB))
 (h:(Bg s th ⟨11,a,b,x,y,w⟩).st=none->K (.Bj [stA s oS oT fS fT,(Bg s th ⟨11,a,b,x,y,w⟩).Ap]) H) (h':∀s',(Bg s th ⟨11,a,b,x,y,w⟩).st=some s'->K (.Bj [BT s' H.length (H.length+1) false false,(Bg s th ⟨11,a,b,x,y,w⟩).Ap]) (H++[AM s',AJ s'])):
 AF Qc 62 [stA s oS oT fS fT,nS th,.agg [nS 11,.slice oA a.length 0 a.length fA,.slice oB b.length 0 b.length fB,nS x,nS y,nT w]] H K:=by
 have kT:=AL.of hT
 have kS:=AL.of hS
 have kA:=AL.of hA
 have kB:=AL.of hB
 have hv:=fun(e v n:Int)=>show(AH.Bj [stA s oS oT fS fT,.agg [nS e,nT v,nS n]]).refs (λo=>o<H.length) by simp[AH.refs,Ay];exact⟨Am hS,Am hT⟩
 refine AF.gc ?_
 refine Aa ok62 ?_;repeat' first|simp only[*,BT,AM,AJ,Qa,CD.Ap,go_sem]|apply orR|(apply sp<;>intro hc)|refine AW (kS _) (kT _) ?_|refine Aw (c:=⟨11,a,b,x,y,w⟩) (kA _) (kB _) ?_|refine CT (s:=s) ?_|refine GJ (c:=⟨11,a,b,x,y,w⟩) (kS _) (kT _) (kA _) (kB _) (λhc=> ?_) (λs' hc=> ?_)
 ·exact Gc.Cd (hv _ _ _) (h ‹_›)
 ·exact Gc.Jg (i:=4) (j:=5) rfl rfl (r:=(Bg s th ⟨11,a,b,x,y,w⟩).st) (λs' e=>h' s' e) (hn:=rfl) (hm:=rfl) (e:=by assumption)
theorem bi(hg:BN s=true)(hc:AT ⟨12,a,b,x,y,w⟩=true)(ht:Bv th 0 (s.AS.AI-1)=true)(hS:jI H oS s rS)(hT:jU H oT s rT)(hA:H[oA]?=some (.AU 1 (ints a) rA))(hB:H[oB]?=some (.AU 1 (ints b) rB))
 (h:(Bg s th ⟨12,a,b,x,y,w⟩).st=none->K (.Bj [stA s oS oT fS fT,(Bg s th ⟨12,a,b,x,y,w⟩).Ap]) H) (h':∀s',(Bg s th ⟨12,a,b,x,y,w⟩).st=some s'->K (.Bj [BT s' H.length (H.length+1) false false,(Bg s th ⟨12,a,b,x,y,w⟩).Ap]) (H++[AM s',AJ s'])):
 AF Qc 62 [stA s oS oT fS fT,nS th,.agg [nS 12,.slice oA a.length 0 a.length fA,.slice oB b.length 0 b.length fB,nS x,nS y,nT w]] H K:=by
 have kT:=AL.of hT
 have kS:=AL.of hS
 have kA:=AL.of hA
 have kB:=AL.of hB
 have hv:=fun(e v n:Int)=>show(AH.Bj [stA s oS oT fS fT,.agg [nS e,nT v,nS n]]).refs (λo=>o<H.length) by simp[AH.refs,Ay];exact⟨Am hS,Am hT⟩
 refine AF.gc ?_
 refine Aa ok62 ?_;repeat' first|simp only[*,BT,AM,AJ,Qa,CD.Ap,go_sem]|apply orR|(apply sp<;>intro hc)|refine AW (kS _) (kT _) ?_|refine Aw (c:=⟨12,a,b,x,y,w⟩) (kA _) (kB _) ?_|refine CT (s:=s) ?_|refine GJ (c:=⟨12,a,b,x,y,w⟩) (kS _) (kT _) (kA _) (kB _) (λhc=> ?_) (λs' hc=> ?_)
 ·exact Gc.Cd (hv _ _ _) (h ‹_›)
 ·exact Gc.Jg (i:=4) (j:=5) rfl rfl (r:=(Bg s th ⟨12,a,b,x,y,w⟩).st) (λs' e=>h' s' e) (hn:=rfl) (hm:=rfl) (e:=by assumption)
theorem bj(hg:BN s=true)(hc:AT ⟨13,a,b,x,y,w⟩=true)(ht:Bv th 0 (s.AS.AI-1)=true)(hS:jI H oS s rS)(hT:jU H oT s rT)(hA:H[oA]?=some (.AU 1 (ints a) rA))(hB:H[oB]?=some (.AU 1 (ints b) rB))
 (h:(Bg s th ⟨13,a,b,x,y,w⟩).st=none->K (.Bj [stA s oS oT fS fT,(Bg s th ⟨13,a,b,x,y,w⟩).Ap]) H) (h':∀s',(Bg s th ⟨13,a,b,x,y,w⟩).st=some s'->K (.Bj [BT s' H.length (H.length+1) false false,(Bg s th ⟨13,a,b,x,y,w⟩).Ap]) (H++[AM s',AJ s'])):
 AF Qc 62 [stA s oS oT fS fT,nS th,.agg [nS 13,.slice oA a.length 0 a.length fA,.slice oB b.length 0 b.length fB,nS x,nS y,nT w]] H K:=by
 have kT:=AL.of hT
 have kS:=AL.of hS
 have kA:=AL.of hA
 have kB:=AL.of hB
 have hv:=fun(e v n:Int)=>show(AH.Bj [stA s oS oT fS fT,.agg [nS e,nT v,nS n]]).refs (λo=>o<H.length) by simp[AH.refs,Ay];exact⟨Am hS,Am hT⟩
 refine AF.gc ?_
 refine Aa ok62 ?_;repeat' first|simp only[*,BT,AM,AJ,Qa,CD.Ap,go_sem]|apply orR|(apply sp<;>intro hc)|refine AW (kS _) (kT _) ?_|refine Aw (c:=⟨13,a,b,x,y,w⟩) (kA _) (kB _) ?_|refine CT (s:=s) ?_|refine GJ (c:=⟨13,a,b,x,y,w⟩) (kS _) (kT _) (kA _) (kB _) (λhc=> ?_) (λs' hc=> ?_)
 ·exact Gc.Cd (hv _ _ _) (h ‹_›)
 ·exact Gc.Jg (i:=4) (j:=5) rfl rfl (r:=(Bg s th ⟨13,a,b,x,y,w⟩).st) (λs' e=>h' s' e) (hn:=rfl) (hm:=rfl) (e:=by assumption)
theorem dh:CF 62 DY:=by
 intro H K s th c oS oT oA oB fS fT rS rT fA fB rA rB hS hT hA hB h h'
 obtain⟨op,a,b,x,y,w⟩:=c
 cases hg:(BN s&&(AT ⟨op,a,b,x,y,w⟩&&Bv th 0 (s.AS.AI-1)))with
 |false=>
  have e:DY s th ⟨op,a,b,x,y,w⟩= .bad 1:=by simp only[DY,hg,Qd,cond_true]
  rw[e]at h
  have h:=h rfl
  clear h' e
  have kT:=AL.of hT
  have kS:=AL.of hS
  have kA:=AL.of hA
  have kB:=AL.of hB
  have hv:=fun(e v n:Int)=>show(AH.Bj [stA s oS oT fS fT,.agg [nS e,nT v,nS n]]).refs (λo=>o<H.length) by simp[AH.refs,Ay];exact⟨Am hS,Am hT⟩
  refine AF.gc ?_
  cases h1:BN s with
  |false=>
   refine Aa ok62 ?_;(try simp only[BT,Qa,h1,go_sem]);repeat' ((first|apply orR|(apply sp<;>intro hc)|refine AW (kS _) (kT _) ?_)<;>try simp only[*,BT,Qa,go_sem])
   exact Gc.Cd (hv _ _ _) h
  |true=>
   cases h2:AT ⟨op,a,b,x,y,w⟩with
   |false=>
    refine Aa ok62 ?_;(try simp only[BT,Qa,h1,h2,go_sem]);repeat' ((first|apply orR|(apply sp<;>intro hc)|refine AW (kS _) (kT _) ?_|refine Aw (c:=⟨op,a,b,x,y,w⟩) (kA _) (kB _) ?_)<;>try simp only[*,BT,Qa,go_sem])
    exact Gc.Cd (hv _ _ _) h
   |true=>
    have h3:Bv th 0 (s.AS.AI-1)=false:=by rw[h1,h2]at hg;simpa using hg
    refine Aa ok62 ?_;(try simp only[BT,Qa,h1,h2,h3,go_sem]);repeat' ((first|apply orR|(apply sp<;>intro hc)|refine AW (kS _) (kT _) ?_|refine Aw (c:=⟨op,a,b,x,y,w⟩) (kA _) (kB _) ?_|refine CT (s:=s) ?_)<;>try simp only[*,BT,Qa,go_sem])
    exact Gc.Cd (hv _ _ _) h
 |true=>
  have hg':=hg
  simp only[Bool.and_eq_true]at hg'
  obtain⟨g1,g2,g3⟩:=hg'
  have hop:=JF g2
  simp only at hop
  have:op=1\/op=2\/op=3\/op=4\/op=5\/op=6\/op=7\/op=8\/op=9\/op=10\/op=11\/op=12\/op=13:=by omega
  rcases this with rfl|rfl|rfl|rfl|rfl|rfl|rfl|rfl|rfl|rfl|rfl|rfl|rfl
  ·rw[dY hg]at h h'
   exact dO g1 g2 g3 hS hT hA hB h h'
  ·rw[dZ hg]at h h'
   exact dP g1 g2 g3 hS hT hA hB h h'
  ·rw[da hg]at h h'
   exact dQ g1 g2 g3 hS hT hA hB h h'
  ·rw[db hg]at h h'
   exact dR g1 g2 g3 hS hT hA hB h h'
  ·rw[dc hg]at h h'
   exact dS g1 g2 g3 hS hT hA hB h h'
  ·rw[dd hg]at h h'
   exact dU g1 g2 g3 hS hT hA hB h h'
  ·rw[de hg]at h h'
   exact dV g1 g2 g3 hS hT hA hB h h'
  ·rw[df hg]at h h'
   exact dW g1 g2 g3 hS hT hA hB h h'
  ·rw[dg hg]at h h'
   exact dX g1 g2 g3 hS hT hA hB h h'
  ·rw[bk hg]at h h'
   exact bf g1 g2 g3 hS hT hA hB h h'
  ·rw[bm hg]at h h'
   exact bg g1 g2 g3 hS hT hA hB h h'
  ·rw[bn hg]at h h'
   exact bi g1 g2 g3 hS hT hA hB h h'
  ·rw[bo hg]at h h'
   exact bj g1 g2 g3 hS hT hA hB h h'
end
end Go.Proofs.YtohgndhnndeijaaGreat.Ax
