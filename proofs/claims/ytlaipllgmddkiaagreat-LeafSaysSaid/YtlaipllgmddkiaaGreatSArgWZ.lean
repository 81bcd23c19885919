/- A law's argument that is a state: its words are of 64 bits. Conditions: none. -/
import Derived.Test.YtlaipllgmddkiaaGreatSArgZ
import Derived.Test.YtlaipllgmddkiaaGreatSArgSZ
set_option linter.all false
namespace Go.Proofs.YtlaipllgmddkiaaGreat.Ax
open Go Go.Ax Go.Ax.M
set_option maxRecDepth 100000
theorem UM{H:AP}{k:Nat}{cs:List AH}(hs:Shape Tryz.prog H (k+3) 81 cs):∃c:M.AN,cs=c.cells∧(0≤c.word∧c.word<2^64):=by
 obtain⟨ass,rfl,h⟩:=hs.struct Tryz.underlying81
 obtain⟨a1,ass,rfl,h1,h⟩:=A2 h
 obtain⟨a2,ass,rfl,h2,h⟩:=A2 h
 obtain⟨a3,ass,rfl,h3,h⟩:=A2 h
 obtain⟨a4,ass,rfl,h4,h⟩:=A2 h
 obtain⟨a5,ass,rfl,h5,h⟩:=A2 h
 obtain⟨a6,ass,rfl,h6,h⟩:=A2 h
 obtain⟨a7,ass,rfl,h7,h⟩:=A2 h
 obtain⟨a8,ass,rfl,h8,h⟩:=A2 h
 obtain⟨a9,ass,rfl,h9,h⟩:=A2 h
 obtain⟨a10,ass,rfl,h10,h⟩:=A2 h
 obtain rfl:=EN h
 obtain⟨x1,rfl,-⟩:=h1.int Tryz.underlying3
 obtain⟨x2,rfl,-⟩:=h2.int Tryz.underlying3
 obtain⟨x3,rfl,-⟩:=h3.int Tryz.underlying3
 obtain⟨x4,rfl,-⟩:=h4.int Tryz.underlying3
 obtain⟨x5,rfl,-⟩:=h5.int Tryz.underlying3
 obtain⟨x6,rfl,-⟩:=h6.int Tryz.underlying3
 obtain⟨x7,rfl,-⟩:=h7.int Tryz.underlying3
 obtain⟨x8,rfl⟩:=h8.bool Tryz.underlying4
 obtain⟨x9,rfl,w9⟩:=h9.int Tryz.underlying31
 obtain⟨d0,d1,d2,d3,rfl⟩:=Rl h10
 exact⟨⟨x1,x2,x3,x4,x5,x6,x7,x8,x9,d0,d1,d2,d3⟩,rfl,cO w9⟩
theorem IW{H:AP}{k:Nat}{a:AH}(h:CJ Tryz.prog H (k+5) 27 a):∃(s:M.State) (oS oT:Nat),a=stA s oS oT false false∧
 H[oS]?=some (.AU 5 (s.AE.map Slot.cells) true)∧H[oT]?=some (.AU 13 (s.AB.map AN.cells) true)∧∀k,k<s.AB.length→0≤(s.AG k).word∧(s.AG k).word<2^64:=by
 obtain⟨cs,rfl,hs⟩:=h.struct Tryz.underlying27
 clear h
 obtain⟨ass,rfl,h⟩:=hs.struct Tryz.underlying27
 obtain⟨a1,ass,rfl,h1,h⟩:=A2 h
 obtain⟨a2,ass,rfl,h2,h⟩:=A2 h
 obtain⟨a3,ass,rfl,h3,h⟩:=A2 h
 obtain rfl:=EN h
 obtain⟨g,rfl⟩:=TM h1
 obtain⟨oS,nS,xS,rfl,hoS,hlS,-,hS⟩:=h2.slice Tryz.underlying24
 obtain⟨oT,nT,xT,rfl,hoT,hlT,-,hT⟩:=h3.slice Tryz.underlying25
 obtain⟨AE,rfl⟩:=RL (f:=Slot.cells) (fun x hx=>Ro (hS x hx))
 obtain⟨AB,rfl,hw⟩:=T6 (f:=AN.cells) (p:=fun c=>0≤c.word∧c.word<2^64) (fun x hx=>UM (hT x hx))
 rw[show Tryz.prog.cellsOf 73=5 by kernel_rfl]at hoS
 rw[show Tryz.prog.cellsOf 81=13 by kernel_rfl]at hoT
 simp at hlS hlT;subst hlS;subst hlT
 exact⟨⟨g,AE,AB⟩,oS,oT,rfl,hoS,hoT,fun k hk=>by
  have e:State.AG ⟨g,AE,AB⟩ k=AB[k]:=by simp[State.AG,List.getD,show k<AB.length from hk]
  rw[e];exact hw _ (List.getElem_mem _)⟩
end Go.Proofs.YtlaipllgmddkiaaGreat.Ax
