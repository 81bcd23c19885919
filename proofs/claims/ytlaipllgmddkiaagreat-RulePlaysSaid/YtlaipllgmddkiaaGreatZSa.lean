/- Texts put behind one another: SArg, SArgS. Conditions: none. -/
import Derived.Test.YtlaipllgmddkiaaGreatZRw
import Derived.Test.YtlaipllgmddkiaaGreatZMo
import Derived.Test.YtlaipllgmddkiaaGreatProg
import Derived.KernelRfl
set_option linter.all false
open Go.Proofs.Tryz renaming prog -> Qa
namespace Go.Proofs.YtlaipllgmddkiaaGreat.Ax
open Go Go.Ax Go.Ax.M
set_option maxRecDepth 100000
theorem A2{S:TypeId->List AH->Prop}{f:Field}{fs:List Field}{ass:List (List AH)}(h:Hn S (f::fs) ass):∃a l,ass=a::l/\S f.type a/\Hn S fs l:=by
 cases ass with
 |nil=>exact h.elim
 |cons a l=>exact⟨a,l,rfl,h⟩
theorem EN{S:TypeId->List AH->Prop}{ass:List (List AH)}(h:Hn S [] ass):ass=[]:=by
 cases ass with
 |nil=>rfl
 |cons a l=>exact h.elim
theorem TM{H:AP}{k:Nat}{cs:List AH}(hs:Shape Qa H (k+2) 23 cs):∃g:M.SY,cs=g.cells:=by
 obtain⟨ass,rfl,h⟩:=hs.struct Tryz.underlying23
 obtain⟨a1,ass,rfl,h1,h⟩:=A2 h
 obtain⟨a2,ass,rfl,h2,h⟩:=A2 h
 obtain⟨a3,ass,rfl,h3,h⟩:=A2 h
 obtain rfl:=EN h
 obtain⟨x1,rfl,-⟩:=h1.int Tryz.underlying3
 obtain⟨x2,rfl,-⟩:=h2.int Tryz.underlying3
 obtain⟨x3,rfl,-⟩:=h3.int Tryz.underlying3
 exact⟨⟨x1,x2,x3⟩,rfl⟩
theorem Bz{H:AP}{k:Nat}{t:TypeId}{ts:List TypeId}{bs:List AH}(h:EU Qa H k (t::ts) bs):∃a l,bs=a::l/\CJ Qa H k t a/\EU Qa H k ts l:=by
 cases bs with
 |nil=>exact h.elim
 |cons a l=>exact⟨a,l,rfl,h⟩
theorem Fu{H:AP}{k:Nat}{bs:List AH}(h:EU Qa H k [] bs):bs=[]:=by
 cases bs with
 |nil=>rfl
 |cons a l=>exact h.elim
end Go.Proofs.YtlaipllgmddkiaaGreat.Ax
namespace Go.Ax.M
open Go Go.Ax
structure Step where
 th:Int
 l0:Int
 l1:Int
 l2:Int
 l3:Int
def Step.cells(x:Step):List AH:=[nS x.th,nT x.l0,nT x.l1,nT x.l2,nT x.l3]
def Step.zero:Step:=⟨0,0,0,0,0⟩
def Step.Ok(x:Step):Prop:=(0<=x.l0/\x.l0<2^64)/\(0<=x.l1/\x.l1<2^64)/\(0<=x.l2/\x.l2<2^64)/\(0<=x.l3/\x.l3<2^64)
theorem gz{l:List Step}{k:Nat}(h:k<l.length):(l.map Step.cells)[k]?=some [nS (l.getD k .zero).th,nT (l.getD k .zero).l0,nT (l.getD k .zero).l1,nT (l.getD k .zero).l2,nT (l.getD k .zero).l3]:=by
 simp[h,List.getD,Step.cells]
theorem fw{x:Step}:∀k,k<4->([nS x.th,nT x.l0,nT x.l1,nT x.l2,nT x.l3]:List AH)[1+k]?=some (nT ([x.l0,x.l1,x.l2,x.l3].getD k 0)):=by
 intro k hk
 rcases(by omega:k=0\/k=1\/k=2\/k=3)with rfl|rfl|rfl|rfl<;>rfl
theorem kj{l:List Step}(h:∀x∈l,x.Ok){k:Nat}(hk:k<l.length):(l.getD k .zero).Ok:=by
 have:l.getD k .zero=l[k]:=by simp[List.getD,hk]
 rw[this];exact h _ (List.getElem_mem hk)
end Go.Ax.M
namespace Go.Proofs.YtlaipllgmddkiaaGreat.Ax
open Go Go.Ax Go.Ax.M
set_option maxRecDepth 100000
theorem cO{n:Int}(h:(Lit.int .u64 n).wf=true):0<=n/\n<2^64:=by
 simp[Lit.wf,IntKind.min,IntKind.max,IntKind.bits,IntKind.signed]at h
 omega
theorem Vk{H:AP}{k:Nat}{cs:List AH}(hs:Shape Qa H (k+2) 65 cs):∃a b c d:Int,cs=[nT a,nT b,nT c,nT d]/\(0<=a/\a<2^64)/\(0<=b/\b<2^64)/\(0<=c/\c<2^64)/\(0<=d/\d<2^64):=by
 obtain⟨ass,rfl,hl,h⟩:=hs.array Tryz.underlying65
 match ass,hl,h with
 |[a1,a2,a3,a4],_,h=>
  obtain⟨x1,rfl,w1⟩:=(h a1 (by simp)).int Tryz.underlying31
  obtain⟨x2,rfl,w2⟩:=(h a2 (by simp)).int Tryz.underlying31
  obtain⟨x3,rfl,w3⟩:=(h a3 (by simp)).int Tryz.underlying31
  obtain⟨x4,rfl,w4⟩:=(h a4 (by simp)).int Tryz.underlying31
  exact⟨x1,x2,x3,x4,rfl,cO w1,cO w2,cO w3,cO w4⟩
theorem W5{H:AP}{k:Nat}{cs:List AH}(hs:Shape Qa H (k+3) 67 cs):∃x:M.Step,cs=x.cells/\x.Ok:=by
 obtain⟨ass,rfl,h⟩:=hs.struct Tryz.underlying67
 obtain⟨a1,ass,rfl,h1,h⟩:=A2 h
 obtain⟨a2,ass,rfl,h2,h⟩:=A2 h
 obtain rfl:=EN h
 obtain⟨x1,rfl,-⟩:=h1.int Tryz.underlying3
 obtain⟨d0,d1,d2,d3,rfl,w⟩:=Vk h2
 exact⟨⟨x1,d0,d1,d2,d3⟩,rfl,w⟩
theorem T6{α:Type}{f:α->List AH}{p:α->Prop}:∀{xs:List (List AH)},(∀x∈xs,∃a,x=f a/\p a)->∃l:List α,xs=l.map f/\∀a∈l,p a
 |[],_=>⟨[],rfl,by simp⟩
 |x::xs,h=>by
  obtain⟨a,rfl,ha⟩:=h x List.mem_cons_self
  obtain⟨l,rfl,hl⟩:=T6 (xs:=xs) (λy hy=>h y (List.mem_cons_of_mem _ hy))
  exact⟨a::l,rfl,λb hb=>by rcases List.mem_cons.1 hb with rfl|hb;exact ha;exact hl b hb⟩
theorem gN{H:AP}{k:Nat}{a:AH}(h0:CJ Qa H (k+4) 63 a):∃(o:Nat) (l:List M.Step),a= .slice o l.length 0 l.length false/\H[o]?=some (.AU 5 (l.map Step.cells) true)/\∀x∈l,x.Ok:=by
 obtain⟨o,n,xs,e,ho,hl,-,h⟩:=(h0.slice Tryz.underlying63).slice Tryz.underlying63
 obtain⟨l,rfl,hok⟩:=T6 (f:=Step.cells) (p:=Step.Ok) (λx hx=>W5 (h x hx))
 rw[show Qa.cellsOf 67=5 by kernel_rfl]at ho
 simp at hl;subst hl
 injection e with e _
 exact⟨o,l,e,ho,hok⟩
end Go.Proofs.YtlaipllgmddkiaaGreat.Ax
