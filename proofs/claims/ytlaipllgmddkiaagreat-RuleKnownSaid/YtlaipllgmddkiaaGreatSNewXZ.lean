/- The first state of any place: what the program's function answers. Conditions: none. -/
import Derived.Test.YtlaipllgmddkiaaGreatZGv
set_option linter.all false
namespace Go.Ax.M
open Go Go.Ax
def pk(g:SY)(room:Int):Bool:=Ee g&&(HH 1 room 0).2
def Pn(u:Int):Slot:=⟨⟨3,1,7,0⟩,u⟩
def pO(k i:Nat):Slot:=if i=0 then⟨⟨1,0,7,0⟩,-1⟩else if i%8=1/\i<8* k then Pn (if i=1 then-1 else 1)else⟨.zero,-1⟩
def pF(room:Int)(k i:Nat):AN:=if i=0 then Bw 1 room 0 else if i=1 then Bw 3 0 0 else if i<2+k then⟨2,3,8*((i:Int)-2),0,0,0,0,false,0,0,0,0,0⟩else .zero
def pI(g:SY)(room:Int):State:=⟨g,(List.range g.AE.toNat).map (pO g.AI.toNat),(List.range g.AB.toNat).map (pF room g.AI.toNat)⟩
end Go.Ax.M
namespace Go.Proofs.YtlaipllgmddkiaaGreat.Ax
open Go Go.Ax Go.Ax.M
section
variable {H:AP}{K:AH->AP->Prop}
end
end Go.Proofs.YtlaipllgmddkiaaGreat.Ax
