/- Arguments that are what threads ask in words. Conditions: none. -/
import Derived.Test.YtlaipllgmddkiaaGreatSArgZ
set_option linter.all false
namespace Go.Ax.M
open Go Go.Ax
structure Step where
 th:Int
 l0:Int
 l1:Int
 l2:Int
 l3:Int
def Step.cells(x:Step):List AH:=[.int .i64 x.th,.int .u64 x.l0,.int .u64 x.l1,.int .u64 x.l2,.int .u64 x.l3]
def Step.zero:Step:=⟨0,0,0,0,0⟩
def Step.Ok(x:Step):Prop:=(0≤x.l0∧x.l0<2^64)∧(0≤x.l1∧x.l1<2^64)∧(0≤x.l2∧x.l2<2^64)∧(0≤x.l3∧x.l3<2^64)
end Go.Ax.M
namespace Go.Proofs.YtlaipllgmddkiaaGreat.Ax
open Go Go.Ax Go.Ax.M
set_option maxRecDepth 100000
theorem cO{n:Int}(h:(Lit.int .u64 n).wf=true):0≤n∧n<2^64:=by
 simp[Lit.wf,IntKind.min,IntKind.max,IntKind.bits,IntKind.signed]at h
 omega
theorem T6{α:Type}{f:α→List AH}{p:α→Prop}:∀{xs:List (List AH)},(∀x∈xs,∃a,x=f a∧p a)→∃l:List α,xs=l.map f∧∀a∈l,p a
 |[],_=>⟨[],rfl,by simp⟩
 |x::xs,h=>by
  obtain⟨a,rfl,ha⟩:=h x List.mem_cons_self
  obtain⟨l,rfl,hl⟩:=T6 (xs:=xs) (fun y hy=>h y (List.mem_cons_of_mem _ hy))
  exact⟨a::l,rfl,fun b hb=>by rcases List.mem_cons.1 hb with rfl|hb;exact ha;exact hl b hb⟩
end Go.Proofs.YtlaipllgmddkiaaGreat.Ax
