/- Texts put behind one another: LRuleK. Conditions: none. -/
import Derived.Test.YtlaipllgmddkiaaGreatSAllZ
set_option linter.all false
set_option maxHeartbeats 9999999
open Nat renaming add_assoc -> Qa
open Int renaming cast_ofNat_Int -> Qb
open List renaming set_set -> Qc
open Go.Proofs.Tryz renaming prog -> Qd
namespace Go.Ax.M
open Go Go.Ax
def vf:Call:=⟨1,[0],[3],5,0,0⟩
def vN:List Step:=[⟨0,1281,1,49,0⟩,⟨0,1281,1,49,0⟩,⟨1,0,0,0,0⟩,⟨5,1281,1,49,0⟩]
def u9:State:=tf S0 vN
theorem vc:K0 vf=[1281,1,49,0]:=by kernel_rfl
theorem vq:oC S0 2 1281 1 49 0=⟨1,0,0,none⟩:=by kernel_rfl
theorem vt:p9 S0 vN=[[nS 0,nT 0,nS 4],[nS 5,nT 0,nS 0],[nS 2,nT 0,nS 0],[nS 1,nT 0,nS 0]]:=by kernel_rfl
theorem vX:((u9.AB.length:Int)=16)=True/\((u9.AE.length:Int)=32)=True/\(4<(u9.AB.length:Int))=True/\(4<(u9.AE.length:Int))=True:=by
 have a:u9.AB.length=16:=by kernel_rfl
 have b:u9.AE.length=32:=by kernel_rfl
 rw[a,b];simp
theorem vb:(u9.AB.map AN.cells)[4]?=some [nS 5,nS 0,nS 0,nS 0,nS 0,nS 0,nS 0,.bool false,nT 0,nT 0,nT 0,nT 0,nT 0]:=by kernel_rfl
theorem va:(u9.AE.map Slot.cells)[4]?=some [nS 0,nS 0,nS 0,nS 0,nS (-1)]:=by kernel_rfl
theorem vZ:∀x∈vN,x.Ok:=by
 intro x hx
 simp only[vN,List.mem_cons,List.not_mem_nil,or_false]at hx
 rcases hx with rfl|rfl|rfl|rfl<;>simp[Step.Ok]
theorem vr:AT vf=true:=by kernel_rfl
theorem vY:Aq ⟨0,0,0,0⟩=true:=by kernel_rfl
attribute [irreducible] u9
end Go.Ax.M
namespace Go.Proofs.YtlaipllgmddkiaaGreat.Ax
open Go Go.Ax Go.Ax.M
set_option maxRecDepth 100000
section
variable {H:AP}{K:AH->AP->Prop}
abbrev vC:AH:= .agg [nS 0,nS 0,nS 0,.lit (.slice none 0 0),.lit (.slice none 0 0)]
theorem uh(h:K (.bool false) H):AF Qd 15 [vC] H K:=by
 refine AF.tidy ?_
 have hg:Ee ⟨0,0,0⟩=false:=by kernel_rfl
 refine Aa ok15 ?_;repeat' first|simp only[*,go_sem]|apply orR|(apply sp<;>intro hc)|refine MK (g:=⟨0,0,0⟩) ?_
 exact⟨rfl,_,rfl⟩
theorem ur{o n:Nat}{f r:Bool}(hn:n=4)(ho:H[o]?=some (.AU 1 (Cc [1281,1,49,0]) r))(h:K (.Bj [vC,.agg [nS 1,nT 0,nS 0]]) H):AF Qd 52 [vC,nS 0,.slice o n 0 n f] H K:=by
 subst hn
 have kL:=AL.of ho
 refine AF.gc ?_
 refine Aa ok52 ?_;repeat' first|simp only[*,Qa,Lq,go_sem]|apply orR|(apply sp<;>intro hc)|refine uh ?_|refine cR (kL _) (by decide) (by decide) (by decide) (λhc=> ?_) (λhc h2=> ?_) (λhc h2=> ?_)
 all_goals first|exact Gc.Cd (by simp[AH.refs,Ay]) h|trace_state
theorem u7{o:Nat}{f:Bool}{ro:Bool}(ho:H[o]?=some (.AU 1 (ints [0]) ro))(h:K (.Bj [vC,.agg [nS 1,nT 0,nS 0]]) H):AF Qd 51 [vC,nS 0,.agg [nS 13,.slice o 1 0 1 f,.lit (.slice none 0 0),nS 0,nS 0,nT 0]] H K:=by
 refine AF.gc ?_
 refine Aa ok51 ?_;repeat' first|simp only[*,Qa,go_sem]|apply orR|(apply sp<;>intro hc)|refine uh ?_
 all_goals first|exact Gc.Cd (by simp[AH.refs,Ay]) h|trace_state
theorem sy{op:Int}(h:K (.bool (decide (op=12)||decide (op=13))) H):AF Qd 58 [nS op] H K:=by
 refine AF.tidy ?_
 refine Aa ok58 ?_;repeat' first|simp only[*,go_sem]|apply orR|(apply sp<;>intro hc)|fail
 all_goals (refine tb h (by first|exact⟨_,rfl⟩|exact⟨[],(List.append_nil _).symm⟩|exact hx|exact hx.app _) ?_;first|(simp only[Bool.or_self, *,bs,go_sem];done)|(simp_all[Bool.or_self]<;>omega)|grind[Bool.or_self])
theorem vW:rk S0:=by
 have h:=tF (T:=2) (N:=32) (M:=16) (room:=64) (by kernel_rfl)
 have e:pI ⟨((2:Nat):Int),((32:Nat):Int),((16:Nat):Int)⟩ 64=S0:=by kernel_rfl
 rwa [e]at h
theorem wK{n:Int}(h0:-9223372036854775808<=n)(h:n<=9223372036854775807):IntKind.wrap .i64 n=n:=by
 simp only[IntKind.wrap,IntKind.bits,IntKind.signed];simp;omega
def vA(k:Nat):Int:=(if 15<=k then 1 else 0)+(if 16<=k then 1 else 0)
set_option maxHeartbeats 4000000 in
theorem uz:AF Qd 10 [] H λv _=>v= .bool true:=by
 have d0:=vW
 refine Aa ok10 ?_;repeat' first|simp only[*,BT,AM,AJ,Qa,Qb,vc,Cc,mpC,go_sem]|apply orR|(apply sp<;>intro hc)|refine tl ?_|refine uH ?_|refine uO (by first|exact BH|exact Bb rfl) ?_|refine Kd (c:=vf) (by first|exact BH|exact Bb rfl) (by first|exact BH|exact Bb rfl) vr ?_|refine ur rfl (by first|exact BH|exact Bb rfl) ?_|refine u7 (by first|exact BH|exact Bb rfl) ?_|refine uS (s:=S0) (l:=[1281,1,49,0]) rfl rfl vq (by decide) (by first|exact BH|exact Bb rfl) (by first|exact BH|exact Bb rfl) (by first|exact BH|exact Bb rfl) ?_
 refine uE (l:=vN) (rS:=false) (rT:=false) d0 (by decide) vZ Ae Ag Aj (λH' p q o f f' r r' hx hS hT hO=> ?_)
 have hg:=((AL.of Af).ex hx).at
 have ha:=((AL.of BZ).ex hx).at
 have hb:=((AL.of Ba).ex hx).at
 have hc:=((AL.of Ad).ex hx).at
 have hw:=((AL.of BR).ex hx).at
 clear hx
 have hs':=λx=>(AL.of hg).Eu x
 rw[vt]at hO
 have e:tf S0 vN=u9:=by unfold u9;rfl
 rw[e]at hS hT ⊢
 have hl4:vN.length=4:=rfl
 rw[hl4]
 have hS':=λx=>DF (x:=x) hg hS (by simp)
 have hT':=λx=>DF (x:=x) hg hT (by simp)
 have hO':=λx=>DF (x:=x) hg hO (by simp)
 have ha':=λx=>DF (x:=x) hg ha (by simp)
 have hb':=λx=>DF (x:=x) hg hb (by simp)
 have hc':=λx=>DF (x:=x) hg hc (by simp)
 have hw':=λx=>DF (x:=x) hg hw (by simp)
 repeat' first|simp only[*,BT,Qa,Qb,Qc,go_sem]|apply orR|(apply sp<;>intro hc)|fail
 refine AK.Az [12,11,4,6,8,9,10] ?_;simp only[mpC,go_sem]
 refine AK.acc (α:=Int) (λk n=>[(12,nS ((k:Int)-2)),(11,nS n)]) (λk n=>H'.set (H.length+14) (.AU 5 [[nS u9.AS.AI,nS u9.AS.AE,nS u9.AS.AB,.slice p u9.AE.length 0 u9.AE.length f,.slice q u9.AB.length 0 u9.AB.length f']] false)) (λk n=>n=vA k) 22 ?_ (a0:=0) rfl
 intro k n hk I next
 refine AK.unfold ?_
 have hn:0<=n/\n<=2:=by subst I;unfold vA;split<;>split<;>omega
 have I':Hid (n=vA k):=I
 clear I
 have hw1:IntKind.wrap .i64 ((k:Int)-2+1)=((k+1:Nat):Int)-2:=by rw[wK (by omega) (by omega)];omega
 have hw2:IntKind.wrap .i64 (n+1)=n+1:=wK (by omega) (by omega)
 by_cases hk2:k<22
 ·have hlt:((k:Int)-2<20)=True:=eq_true (by omega)
  cases hr:(decide ((k:Int)-2=12)||decide ((k:Int)-2=13))with
  |false=>
   have hc0:vA (k+1)=vA k:=by
    simp only[Bool.or_eq_false_iff,decide_eq_false_iff_not]at hr
    unfold vA
    simp only[show(15<=k+1)=(15<=k) from propext ⟨by omega,by omega⟩,show(16<=k+1)=(16<=k) from propext ⟨by omega,by omega⟩]
   have hc0:Hid (_=_):=hc0
   repeat' first|simp only[*,AA b10_4.eq_1,go_sem]|apply orR|(apply sp<;>intro hc)|refine sy ?_
   (refine AK.Az [12,11,4,6,8,9,10] ?_;simp only[mpC,go_sem];refine next n hk2 (by rw[hc0];exact I'))
  |true=>
   have hc0:vA (k+1)=vA k+1:=by
    simp only[Bool.or_eq_true,decide_eq_true_eq]at hr
    have:k=14\/k=15:=by omega
    rcases this with rfl|rfl<;>rfl
   have hc0:Hid (_=_):=hc0
   repeat' first|simp only[*,AA b10_4.eq_1,go_sem]|apply orR|(apply sp<;>intro hc)|refine sy ?_
   (refine AK.Az [12,11,4,6,8,9,10] ?_;simp only[mpC,go_sem];refine next (n+1) hk2 (by rw[hc0,<-I']))
 ·have e:k=22:=by omega
  subst e
  have hn2:n=2:=I'
  have h22:((22:Int)-2<20)=False:=eq_false (by decide)
  subst hn2
  clear next
  repeat' first|simp only[*,vX,va,vb,vY,BT,Qa,Qb,Qc,AA b10_4.eq_1,go_sem]|apply orR|(apply sp<;>intro hc)|refine Dx ?_
  all_goals trace_state
end
end Go.Proofs.YtlaipllgmddkiaaGreat.Ax
