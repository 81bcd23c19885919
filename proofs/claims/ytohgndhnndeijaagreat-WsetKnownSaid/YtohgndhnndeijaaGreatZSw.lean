/- Texts put behind one another: SPath, SWords. Conditions: none. -/
import Derived.Test.YtohgndhnndeijaaGreatZLf
set_option linter.all false
namespace Go.Ax.M
open Go Go.Ax
def VS(p:List Int):Nat->Int
 |0=>(p.length:Int)
 |k+1=>VS p k+p.getD k 0* 2^(4*(k+1))
attribute [irreducible] VS
end Go.Ax.M
namespace Go.Proofs.YtohgndhnndeijaaGreat.Ax
open Go Go.Ax Go.Ax.M
set_option maxRecDepth 100000
section
variable {H:AP}{K:AH->AP->Prop}
end
end Go.Proofs.YtohgndhnndeijaaGreat.Ax
namespace Go.Ax.M
open Go Go.Ax
end Go.Ax.M
namespace Go.Proofs.YtohgndhnndeijaaGreat.Ax
open Go Go.Ax Go.Ax.M
set_option maxRecDepth 100000
section
variable {H:AP}{K:AH->AP->Prop}{oA oB oL:Nat}{fA fB rA rB fL rL:Bool}{op x y w:Int}{a b:List Int}
end
end Go.Proofs.YtohgndhnndeijaaGreat.Ax
