/- The laws of mail: the parts of their text. Conditions: none. -/
import Derived.Test.YtlaipllgmddkiaaGreatSLawB18Z
import Derived.Test.YtlaipllgmddkiaaGreatZLf
set_option linter.all false
open Nat renaming add_assoc → Qa
namespace Go.Proofs.YtlaipllgmddkiaaGreat.Ax
open Go Go.Ax Go.Ax.M
set_option maxRecDepth 100000
section
variable {H:AP}{K:AH→AP→Prop}
theorem Ei(h:K (.bool true) H):AF Tryz.prog 13 [] H K:=by
 refine AF.tidy ?_
 refine Aa ok13 ?_;(try simp only[c13,w13,BT,AM,AJ,Qa,go_sem]);repeat' ((first|refine orR ?_|(refine sp ?_ ?_<;>intro hc)|refine NJ ?_|refine R7 (by first|exact BH|exact Bb rfl) ?_)<;>try simp only[*,w13,BT,AM,AJ,Qa,go_sem])
 refine AF.lay 1 ?_
 simp only[D9,E9,go_sem]
 refine H7 (s:=S0) (c:=⟨7,[1],[],0,0,42⟩) (s':=boxed S0 1 (Fo 0 0 42)) (e:=0) (w:=0) (n:=0) (oS:=H.length) (oT:=H.length+1) (oA:=H.length+2) (oB:=H.length+3) (rS:=false) (rT:=false) (rA:=false) (rB:=false) (by kernel_rfl) BH BP BO BR ?_
 (try simp only[w13,BT,AM,AJ,Qa,go_sem]);repeat' ((first|refine orR ?_|(refine sp ?_ ?_<;>intro hc)|refine R7 (by first|exact BH|exact Bb rfl) ?_)<;>try simp only[*,w13,BT,AM,AJ,Qa,go_sem])
 refine AF.lay 1 ?_
 simp only[D9,E9,go_sem]
 refine H7 (s:=boxed S0 1 (Fo 0 0 42)) (c:=⟨8,[1],[],0,0,0⟩) (s':=S0) (e:=0) (w:=42) (n:=0) (oS:=H.length+4) (oT:=H.length+5) (oA:=H.length+8) (oB:=H.length+11) (rS:=false) (rT:=false) (rA:=false) (rB:=false) (by kernel_rfl) BU BV BW Ac ?_
 (try simp only[w13,BT,AM,AJ,Qa,go_sem]);repeat' ((first|refine orR ?_|(refine sp ?_ ?_<;>intro hc)|refine NJ ?_)<;>try simp only[*,w13,BT,AM,AJ,Qa,go_sem])
 refine BS (s:=S0) (u:=S0) (oS:=H.length+12) (oT:=H.length+13) (oS2:=H.length+14) (oT2:=H.length+15) (rS:=false) (rT:=false) (rS2:=false) (rT2:=false) Ad Ae Af Ag (by decide) (by decide) ?_
 rw[show Gs S0 S0=true from IQ.2 rfl]
 (try simp only[w13,BT,AM,AJ,Qa,go_sem]);repeat' ((first|refine orR ?_|(refine sp ?_ ?_<;>intro hc)|fail)<;>try simp only[*,w13,BT,AM,AJ,Qa,go_sem])
 all_goals first|exact⟨rfl,_,rfl⟩|exact tb h ⟨_,rfl⟩ rfl
end
end Go.Proofs.YtlaipllgmddkiaaGreat.Ax
