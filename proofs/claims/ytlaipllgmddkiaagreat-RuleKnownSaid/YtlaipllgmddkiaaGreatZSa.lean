/- Texts put behind one another: SArg, SArgS. Conditions: none. -/
import Derived.Test.YtlaipllgmddkiaaGreatZRw
import Derived.Test.YtlaipllgmddkiaaGreatZMo
import Derived.Test.YtlaipllgmddkiaaGreatProg
import Derived.KernelRfl
set_option linter.all false
namespace Go.Proofs.YtlaipllgmddkiaaGreat.Ax
open Go Go.Ax Go.Ax.M
set_option maxRecDepth 100000
theorem Fu{H:AP}{k:Nat}{bs:List AH}(h:EU Tryz.prog H k [] bs):bs=[]:=by
 cases bs with
 |nil=>rfl
 |cons a l=>exact h.elim
end Go.Proofs.YtlaipllgmddkiaaGreat.Ax
namespace Go.Ax.M
open Go Go.Ax
structure Step where
 th:Int
 l0:Int
 l1:Int
 l2:Int
 l3:Int
def Step.cells(x:Step):List AH:=[nS x.th,nT x.l0,nT x.l1,nT x.l2,nT x.l3]
def Step.zero:Step:=⟨0,0,0,0,0⟩
def Step.Ok(x:Step):Prop:=(0<=x.l0/\x.l0<2^64)/\(0<=x.l1/\x.l1<2^64)/\(0<=x.l2/\x.l2<2^64)/\(0<=x.l3/\x.l3<2^64)
theorem gz{l:List Step}{k:Nat}(h:k<l.length):(l.map Step.cells)[k]?=some [nS (l.getD k .zero).th,nT (l.getD k .zero).l0,nT (l.getD k .zero).l1,nT (l.getD k .zero).l2,nT (l.getD k .zero).l3]:=by
 simp[h,List.getD,Step.cells]
theorem fw{x:Step}:∀k,k<4->([nS x.th,nT x.l0,nT x.l1,nT x.l2,nT x.l3]:List AH)[1+k]?=some (nT ([x.l0,x.l1,x.l2,x.l3].getD k 0)):=by
 intro k hk
 rcases(by omega:k=0\/k=1\/k=2\/k=3)with rfl|rfl|rfl|rfl<;>rfl
theorem kj{l:List Step}(h:∀x∈l,x.Ok){k:Nat}(hk:k<l.length):(l.getD k .zero).Ok:=by
 have:l.getD k .zero=l[k]:=by simp[List.getD,hk]
 rw[this];exact h _ (List.getElem_mem hk)
end Go.Ax.M
namespace Go.Proofs.YtlaipllgmddkiaaGreat.Ax
open Go Go.Ax Go.Ax.M
set_option maxRecDepth 100000
end Go.Proofs.YtlaipllgmddkiaaGreat.Ax
