/- Texts put behind one another: SArg. Conditions: none. -/
import Derived.Test.YtohgndhnndeijaaGreatZRw
import Derived.Test.YtohgndhnndeijaaGreatZMo
import Derived.Test.YtohgndhnndeijaaGreatProg
import Derived.KernelRfl
set_option linter.all false
open Go.Proofs.Tryz renaming prog -> Qa
namespace Go.Proofs.YtohgndhnndeijaaGreat.Ax
open Go Go.Ax Go.Ax.M
set_option maxRecDepth 100000
theorem RL{α:Type}{f:α->List AH}:∀{xs:List (List AH)},(∀x∈xs,∃a,x=f a)->∃l:List α,xs=l.map f
 |[],_=>⟨[],rfl⟩
 |x::xs,h=>by
  obtain⟨a,rfl⟩:=h x List.mem_cons_self
  obtain⟨l,rfl⟩:=RL (xs:=xs) (λy hy=>h y (List.mem_cons_of_mem _ hy))
  exact⟨a::l,rfl⟩
theorem A2{S:TypeId->List AH->Prop}{f:Field}{fs:List Field}{ass:List (List AH)}(h:Hn S (f::fs) ass):∃a l,ass=a::l/\S f.type a/\Hn S fs l:=by
 cases ass with
 |nil=>exact h.elim
 |cons a l=>exact⟨a,l,rfl,h⟩
theorem EN{S:TypeId->List AH->Prop}{ass:List (List AH)}(h:Hn S [] ass):ass=[]:=by
 cases ass with
 |nil=>rfl
 |cons a l=>exact h.elim
theorem Zw{H:AP}{k:Nat}{cs:List AH}(hs:Shape Qa H (k+2) 124 cs):∃c:Bh,cs=c.cells:=by
 obtain⟨ass,rfl,h⟩:=hs.struct Tryz.underlying124
 obtain⟨a1,ass,rfl,h1,h⟩:=A2 h
 obtain⟨a2,ass,rfl,h2,h⟩:=A2 h
 obtain⟨a3,ass,rfl,h3,h⟩:=A2 h
 obtain⟨a4,ass,rfl,h4,h⟩:=A2 h
 obtain rfl:=EN h
 obtain⟨x1,rfl,-⟩:=h1.int Tryz.underlying3
 obtain⟨x2,rfl,-⟩:=h2.int Tryz.underlying3
 obtain⟨x3,rfl,-⟩:=h3.int Tryz.underlying3
 obtain⟨x4,rfl,-⟩:=h4.int Tryz.underlying3
 exact⟨⟨x1,x2,x3,x4⟩,rfl⟩
theorem Ro{H:AP}{k:Nat}{cs:List AH}(hs:Shape Qa H (k+3) 126 cs):∃c:M.Slot,cs=c.cells:=by
 obtain⟨ass,rfl,h⟩:=hs.struct Tryz.underlying126
 obtain⟨a1,ass,rfl,h1,h⟩:=A2 h
 obtain⟨a2,ass,rfl,h2,h⟩:=A2 h
 obtain rfl:=EN h
 obtain⟨c,rfl⟩:=Zw h1
 obtain⟨x2,rfl,-⟩:=h2.int Tryz.underlying3
 exact⟨⟨c,x2⟩,rfl⟩
theorem Rl{H:AP}{k:Nat}{cs:List AH}(hs:Shape Qa H (k+2) 52 cs):∃a b c d:Int,cs=[jU a,jU b,jU c,jU d]:=by
 obtain⟨ass,rfl,hl,h⟩:=hs.array Tryz.underlying52
 match ass,hl,h with
 |[a1,a2,a3,a4],_,h=>
  obtain⟨x1,rfl,-⟩:=(h a1 (by simp)).int Tryz.underlying42
  obtain⟨x2,rfl,-⟩:=(h a2 (by simp)).int Tryz.underlying42
  obtain⟨x3,rfl,-⟩:=(h a3 (by simp)).int Tryz.underlying42
  obtain⟨x4,rfl,-⟩:=(h a4 (by simp)).int Tryz.underlying42
  exact⟨x1,x2,x3,x4,rfl⟩
theorem Vm{H:AP}{k:Nat}{cs:List AH}(hs:Shape Qa H (k+3) 76 cs):∃c:M.AN,cs=c.cells:=by
 obtain⟨ass,rfl,h⟩:=hs.struct Tryz.underlying76
 obtain⟨a1,ass,rfl,h1,h⟩:=A2 h
 obtain⟨a2,ass,rfl,h2,h⟩:=A2 h
 obtain⟨a3,ass,rfl,h3,h⟩:=A2 h
 obtain⟨a4,ass,rfl,h4,h⟩:=A2 h
 obtain⟨a5,ass,rfl,h5,h⟩:=A2 h
 obtain⟨a6,ass,rfl,h6,h⟩:=A2 h
 obtain⟨a7,ass,rfl,h7,h⟩:=A2 h
 obtain⟨a8,ass,rfl,h8,h⟩:=A2 h
 obtain⟨a9,ass,rfl,h9,h⟩:=A2 h
 obtain⟨a10,ass,rfl,h10,h⟩:=A2 h
 obtain rfl:=EN h
 obtain⟨x1,rfl,-⟩:=h1.int Tryz.underlying3
 obtain⟨x2,rfl,-⟩:=h2.int Tryz.underlying3
 obtain⟨x3,rfl,-⟩:=h3.int Tryz.underlying3
 obtain⟨x4,rfl,-⟩:=h4.int Tryz.underlying3
 obtain⟨x5,rfl,-⟩:=h5.int Tryz.underlying3
 obtain⟨x6,rfl,-⟩:=h6.int Tryz.underlying3
 obtain⟨x7,rfl,-⟩:=h7.int Tryz.underlying3
 obtain⟨x8,rfl⟩:=h8.bool Tryz.underlying4
 obtain⟨x9,rfl,-⟩:=h9.int Tryz.underlying42
 obtain⟨d0,d1,d2,d3,rfl⟩:=Rl h10
 exact⟨⟨x1,x2,x3,x4,x5,x6,x7,x8,x9,d0,d1,d2,d3⟩,rfl⟩
theorem TM{H:AP}{k:Nat}{cs:List AH}(hs:Shape Qa H (k+2) 23 cs):∃g:M.SY,cs=g.cells:=by
 obtain⟨ass,rfl,h⟩:=hs.struct Tryz.underlying23
 obtain⟨a1,ass,rfl,h1,h⟩:=A2 h
 obtain⟨a2,ass,rfl,h2,h⟩:=A2 h
 obtain⟨a3,ass,rfl,h3,h⟩:=A2 h
 obtain rfl:=EN h
 obtain⟨x1,rfl,-⟩:=h1.int Tryz.underlying3
 obtain⟨x2,rfl,-⟩:=h2.int Tryz.underlying3
 obtain⟨x3,rfl,-⟩:=h3.int Tryz.underlying3
 exact⟨⟨x1,x2,x3⟩,rfl⟩
theorem Vl{H:AP}{k:Nat}{cs:List AH}(hs:Shape Qa H (k+5) 27 cs):∃(s:M.State) (oS oT:Nat),cs=[jI s.AS.AI,jI s.AS.AE,jI s.AS.AB,.slice oS s.AE.length 0 s.AE.length false,.slice oT s.AB.length 0 s.AB.length false]/\
 jN H oS s true/\jS H oT s true:=by
 obtain⟨ass,rfl,h⟩:=hs.struct Tryz.underlying27
 obtain⟨a1,ass,rfl,h1,h⟩:=A2 h
 obtain⟨a2,ass,rfl,h2,h⟩:=A2 h
 obtain⟨a3,ass,rfl,h3,h⟩:=A2 h
 obtain rfl:=EN h
 obtain⟨g,rfl⟩:=TM h1
 obtain⟨oS,nS,xS,rfl,hoS,hlS,-,hS⟩:=h2.slice Tryz.underlying24
 obtain⟨oT,nT,xT,rfl,hoT,hlT,-,hT⟩:=h3.slice Tryz.underlying25
 obtain⟨AE,rfl⟩:=RL (f:=Slot.cells) (λx hx=>Ro (hS x hx))
 obtain⟨AB,rfl⟩:=RL (f:=AN.cells) (λx hx=>Vm (hT x hx))
 rw[show Qa.cellsOf 126=5 by kernel_rfl]at hoS
 rw[show Qa.cellsOf 76=13 by kernel_rfl]at hoT
 simp at hlS hlT;subst hlS;subst hlT
 exact⟨⟨g,AE,AB⟩,oS,oT,rfl,hoS,hoT⟩
theorem gM{H:AP}{k:Nat}{a:AH}(h:CJ Qa H (k+5) 27 a):∃(s:M.State) (oS oT:Nat),a=stA s oS oT false false/\
 jN H oS s true/\jS H oT s true:=by
 obtain⟨cs,rfl,hs⟩:=h.struct Tryz.underlying27
 obtain⟨s,oS,oT,rfl,h1,h2⟩:=Vl hs
 exact⟨s,oS,oT,rfl,h1,h2⟩
theorem Bz{H:AP}{k:Nat}{t:TypeId}{ts:List TypeId}{bs:List AH}(h:EU Qa H k (t::ts) bs):∃a l,bs=a::l/\CJ Qa H k t a/\EU Qa H k ts l:=by
 cases bs with
 |nil=>exact h.elim
 |cons a l=>exact⟨a,l,rfl,h⟩
theorem Fu{H:AP}{k:Nat}{bs:List AH}(h:EU Qa H k [] bs):bs=[]:=by
 cases bs with
 |nil=>rfl
 |cons a l=>exact h.elim
end Go.Proofs.YtohgndhnndeijaaGreat.Ax
