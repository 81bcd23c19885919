/- Texts put behind one another: STake, STake2, STake3, STake5, STakeE, STake4, SBelow, SBelow2, STake6. Conditions: none. -/
import Derived.Test.YtlaipllgmddkiaaGreatZGv
import Derived.Test.YtlaipllgmddkiaaGreatZPu
import Derived.Test.YtlaipllgmddkiaaGreatAxShelfZ
set_option linter.all false
namespace Go.Ax
end Go.Ax
namespace Go.Ax.M
open Go Go.Ax
def Cl{α:Type}(f:α→α)(l:List α)(k:Nat):List α:=(l.take k).map f++l.drop k
section
variable {α:Type}{f:α→α}{l:List α}{k:Nat}
end
end Go.Ax.M
namespace Go.Proofs.YtlaipllgmddkiaaGreat.Ax
open Go Go.Ax Go.Ax.M
section
variable {H:AP}{K:AH→AP→Prop}{s:State}{i:Int}{oS oT:Nat}{fS fT:Bool}
end
end Go.Proofs.YtlaipllgmddkiaaGreat.Ax
namespace Go.Ax
end Go.Ax
namespace Go.Proofs.YtlaipllgmddkiaaGreat.Ax
open Go Go.Ax Go.Ax.M
section
variable {H:AP}{K:AH→AP→Prop}{s:State}{i:Int}{oS oT:Nat}{fS fT rS rT:Bool}
end
end Go.Proofs.YtlaipllgmddkiaaGreat.Ax
namespace Go.Proofs.YtlaipllgmddkiaaGreat.Ax
open Go Go.Ax Go.Ax.M
section
variable {H:AP}{K:AH→AP→Prop}{s:State}{i:Int}{oS oT oL:Nat}{fS fT fL rS rT rL:Bool}
end
end Go.Proofs.YtlaipllgmddkiaaGreat.Ax
namespace Go.Ax
end Go.Ax
namespace Go.Ax.M
open Go Go.Ax
end Go.Ax.M
namespace Go.Proofs.YtlaipllgmddkiaaGreat.Ax
open Go Go.Ax Go.Ax.M
section
variable {H:AP}{K:AH→AP→Prop}{s:State}{i:Int}{oS oT oL:Nat}{fS fT fL rS rT rL:Bool}
end
end Go.Proofs.YtlaipllgmddkiaaGreat.Ax
namespace Go.Ax.M
open Go Go.Ax
end Go.Ax.M
namespace Go.Proofs.YtlaipllgmddkiaaGreat.Ax
open Go Go.Ax Go.Ax.M
section
variable {H:AP}{K:AH→AP→Prop}{s:State}{i:Int}{oS oT oL:Nat}{fS fT fL rS rT rL:Bool}
end
end Go.Proofs.YtlaipllgmddkiaaGreat.Ax
namespace Go.Ax.M
open Go Go.Ax
end Go.Ax.M
namespace Go.Proofs.YtlaipllgmddkiaaGreat.Ax
open Go Go.Ax Go.Ax.M
section
variable {H:AP}{K:AH→AP→Prop}{s u:State}{th n:Int}{a b:List Int}{oS oT oA oB:Nat}{fS fT fA fB rS rT rA rB:Bool}
end
end Go.Proofs.YtlaipllgmddkiaaGreat.Ax
namespace Go.Proofs.YtlaipllgmddkiaaGreat.Ax
open Go Go.Ax Go.Ax.M
set_option maxRecDepth 100000
section
variable {H:AP}{K:AH→AP→Prop}{up:List Int}{o:Nat}{f ro fl:Bool}
end
end Go.Proofs.YtlaipllgmddkiaaGreat.Ax
namespace Go.Ax.M
open Go Go.Ax
end Go.Ax.M
namespace Go.Proofs.YtlaipllgmddkiaaGreat.Ax
open Go Go.Ax Go.Ax.M
set_option maxRecDepth 100000
section
variable {H:AP}{K:AH→AP→Prop}{up l:List Int}{o:Nat}{f ro fl:Bool}{i:Int}
end
end Go.Proofs.YtlaipllgmddkiaaGreat.Ax
namespace Go.Ax.M
open Go Go.Ax
end Go.Ax.M
namespace Go.Proofs.YtlaipllgmddkiaaGreat.Ax
open Go Go.Ax Go.Ax.M
section
variable {H:AP}{K:AH→AP→Prop}{s:State}{th x y w:Int}{a b:List Int}{oS oT oA oB:Nat}{fS fT rS rT fA fB rA rB:Bool}
end
end Go.Proofs.YtlaipllgmddkiaaGreat.Ax
