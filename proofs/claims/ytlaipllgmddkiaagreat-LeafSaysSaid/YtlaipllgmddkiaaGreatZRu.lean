/- Texts put behind one another: SRuleD. Conditions: none. -/
import Derived.Test.YtlaipllgmddkiaaGreatZLf
import Derived.Test.YtlaipllgmddkiaaGreatZGv
import Derived.Test.YtlaipllgmddkiaaGreatZTk
import Derived.Test.YtlaipllgmddkiaaGreatZSw
import Derived.Test.YtlaipllgmddkiaaGreatZPu
set_option linter.all false
open Nat renaming add_assoc → Qa
namespace Go.Ax.M
open Go Go.Ax
end Go.Ax.M
namespace Go.Proofs.YtlaipllgmddkiaaGreat.Ax
open Go Go.Ax Go.Ax.M
set_option maxRecDepth 100000
section
variable {H:AP}{K:AH→AP→Prop}{s:State}{th x y w:Int}{a b:List Int}{oS oT oA oB oL:Nat}{fS fT rS rT fA fB rA rB fL rL:Bool}
theorem GJ:CF 44 Bg:=by
 intro H K s th c oS oT oA oB fS fT rS rT fA fB rA rB hS hT hA hB h h'
 obtain⟨op,a,b,x,y,w⟩:=c
 by_cases h11:op=11
 ·exact KH (.inl h11) hS hT hA hB h h'
 by_cases h12:op=12
 ·exact KH (.inr h12) hS hT hA hB h h'
 by_cases h13:op=13
 ·subst h13
  refine NT hS hT hA hB (h ?_)
  cases hcg:AT ⟨13,a,b,x,y,w⟩with
  |false=>simp only[Bg,hcg,Bool.not_false,Bool.true_or,cond_true,CD.bad]
  |true=>
   rw[au hcg]
   cases decide ((AO s th a).2.2=0)<;>rfl
 ·have e:Bg s th ⟨op,a,b,x,y,w⟩= .bad 1:=by simp[Bg,h11,h12,h13]
  rw[e]at h
  have h:=h rfl
  have kT:=AL.of hT
  have kS:=AL.of hS
  have kA:=AL.of hA
  have kB:=AL.of hB
  have hv:=fun(e v n:Int)=>show(AH.Bj [stA s oS oT fS fT,.agg [.int .i64 e,.int .u64 v,.int .i64 n]]).refs (fun o=>o<H.length) by simp[AH.refs,Ay];exact⟨Am hS,Am hT⟩
  refine AF.gc ?_
  cases hcg:AT ⟨op,a,b,x,y,w⟩with
  |false=>
   refine Aa ok44 ?_;(try simp only[c44,w44,BT,AM,AJ,Qa,hcg,h11,h12,h13,go_sem]);repeat' ((first|refine orR ?_|(refine sp ?_ ?_<;>intro hc)|refine Aw (c:=⟨op,a,b,x,y,w⟩) (kA _) (kB _) ?_)<;>try simp only[*,w44,BT,AM,AJ,Qa,go_sem])
   exact Gc.Cd (hv _ _ _) h
  |true=>
   refine Aa ok44 ?_;(try simp only[c44,w44,BT,AM,AJ,Qa,hcg,h11,h12,h13,go_sem]);repeat' ((first|refine orR ?_|(refine sp ?_ ?_<;>intro hc)|refine Aw (c:=⟨op,a,b,x,y,w⟩) (kA _) (kB _) ?_)<;>try simp only[*,w44,BT,AM,AJ,Qa,go_sem])
   exact Gc.Cd (hv _ _ _) h
end
end Go.Proofs.YtlaipllgmddkiaaGreat.Ax
