/- Texts put behind one another: LLeafA, LLeafS. Conditions: none. -/
import Derived.Test.YtlaipllgmddkiaaGreatSLawB20Z
import Derived.Test.YtlaipllgmddkiaaGreatZLf
import Derived.Test.YtlaipllgmddkiaaGreatZGv
import Derived.Test.YtlaipllgmddkiaaGreatSArgZ
import Derived.Test.YtlaipllgmddkiaaGreatZRf2
import Derived.Test.YtlaipllgmddkiaaGreatSOwn20Z
import Derived.Test.YtlaipllgmddkiaaGreatZRu
import Derived.Test.YtlaipllgmddkiaaGreatSArgWZ
import Derived.Test.YtlaipllgmddkiaaGreatZPu
set_option linter.all false
open Nat renaming add_assoc → Qa
open Int renaming cast_ofNat_Int → Qb
namespace Go.Ax.M
open Go Go.Ax
def lx:State:=((Be S0 0 ⟨1,[0],[3],5,0,0⟩).st).getD S0
def ly:State:=((A5 lx 0 ⟨2,[3],[4],1,0,0⟩).st).getD S0
def ez:State:=((A5 ly 0 ⟨2,[3],[5],2,0,0⟩).st).getD S0
def mW:State:=((Bg ez 0 ⟨11,[3],[],2,0,77⟩).st).getD S0
end Go.Ax.M
namespace Go.Proofs.YtlaipllgmddkiaaGreat.Ax
open Go Go.Ax Go.Ax.M
set_option maxRecDepth 100000
section
variable {H:AP}{K:AH→AP→Prop}
theorem mq:Be S0 0 ⟨1,[0],[3],5,0,0⟩=⟨0,0,4,some lx⟩:=by kernel_rfl
theorem mr:A5 lx 0 ⟨2,[3],[4],1,0,0⟩=⟨0,0,0,some ly⟩:=by kernel_rfl
theorem mu:A5 ly 0 ⟨2,[3],[5],2,0,0⟩=⟨0,0,0,some ez⟩:=by kernel_rfl
theorem mw:Bg ez 0 ⟨11,[3],[],2,0,77⟩=⟨0,0,0,some mW⟩:=by kernel_rfl
theorem my:Bg mW 0 ⟨12,[4],[],2,0,0⟩=⟨0,77,0,none⟩:=by kernel_rfl
attribute [irreducible] lx ly ez mW
theorem Wi(h:K (BT ez H.length (H.length+1) false false) (H++[AM ez,AJ ez])):AF Tryz.prog 109 [] H K:=by
 refine AF.gc ?_
 refine Aa ok109 ?_;(try simp only[c109,w109,BT,AM,AJ,Qa,Qb,go_sem]);repeat' ((first|refine orR ?_|(refine sp ?_ ?_<;>intro hc)|refine Tz ?_|refine R9 (by first|exact BH|exact Bb rfl) ?_|refine CF.Zy EJ (c:=⟨1,[0],[3],5,0,0⟩) mq (by first|exact BH|exact Bb rfl) (by first|exact BH|exact Bb rfl) (by first|exact BH|exact Bb rfl) (by first|exact BH|exact Bb rfl) ?_|refine CF.Zy Cg (c:=⟨2,[3],[4],1,0,0⟩) mr (by first|exact BH|exact Bb rfl) (by first|exact BH|exact Bb rfl) (by first|exact BH|exact Bb rfl) (by first|exact BH|exact Bb rfl) ?_|refine CF.Zy Cg (c:=⟨2,[3],[5],2,0,0⟩) mu (by first|exact BH|exact Bb rfl) (by first|exact BH|exact Bb rfl) (by first|exact BH|exact Bb rfl) (by first|exact BH|exact Bb rfl) ?_)<;>try simp only[*,w109,BT,AM,AJ,Qa,Qb,go_sem])
 exact Gc.state rfl rfl (by decide) h
theorem GZ(h:K (.bool true) H):AF Tryz.prog 42 [] H K:=by
 refine AF.tidy ?_
 refine Aa ok42 ?_;(try simp only[c42,w42,BT,AM,AJ,Qa,Qb,go_sem]);repeat' ((first|refine orR ?_|(refine sp ?_ ?_<;>intro hc)|refine Wi ?_|refine R9 (by first|exact BH|exact Bb rfl) ?_|refine VG (a:=[3]) (.inl rfl) mw (by first|exact BH|exact Bb rfl) (by first|exact BH|exact Bb rfl) (by first|exact BH|exact Bb rfl) ?_|refine VF (a:=[4]) (.inr rfl) my (by first|exact BH|exact Bb rfl) (by first|exact BH|exact Bb rfl) (by first|exact BH|exact Bb rfl) ?_)<;>try simp only[*,w42,BT,AM,AJ,Qa,Qb,go_sem])
 all_goals first|exact⟨rfl,_,rfl⟩|exact tb h ⟨_,rfl⟩ rfl
end
end Go.Proofs.YtlaipllgmddkiaaGreat.Ax
namespace Go.Proofs.YtlaipllgmddkiaaGreat.Ax
open Go Go.Ax Go.Ax.M
set_option maxRecDepth 100000
set_option maxHeartbeats 4000000 in
theorem dD(H:AP)(bs:List AH)(h:EU Tryz.prog H 8 [27,3,33] bs):AF Tryz.prog 7 bs H fun v _=>v= .bool true:=by
 obtain⟨a1,l,rfl,h1,h⟩:=Bz h
 obtain⟨a2,l,rfl,h2,h⟩:=Bz h
 obtain⟨a3,l,rfl,h3,h⟩:=Bz h
 obtain rfl:=Fu h
 obtain⟨s,oS,oT,rfl,hS,hT,hw64⟩:=IW h1
 obtain⟨th,rfl,-⟩:=h2.int Tryz.underlying3
 obtain⟨c,oA,oB,rfl,hA,hB⟩:=Kw h3
 clear h1 h2 h3 h
 have kS:=AL.of hS
 have kT:=AL.of hT
 have kA:=AL.of hA
 have kB:=AL.of hB
 have hss:∀s,Gs s s=true:=fun s=>IQ.2 rfl
 cases hh:B5 s c with
 |true=>
  refine Aa ok7 ?_;(try simp only[c7,w7,hh,go_sem]);repeat' ((first|refine orR ?_|(refine sp ?_ ?_<;>intro hc)|refine GZ ?_|refine Fe (c:=c) ?_)<;>try simp only[*,w7,go_sem])
 |false=>
 cases hg:BN s with
 |false=>
  refine Aa ok7 ?_;(try simp only[c7,w7,hh,hg,go_sem]);repeat' ((first|refine orR ?_|(refine sp ?_ ?_<;>intro hc)|refine GZ ?_|refine Fe (c:=c) ?_|refine AW (kS _) (kT _) ?_)<;>try simp only[*,w7,go_sem])
 |true=>
 have hi:Inv s:=D8.1 hg
 have hlS:=FL hg
 have hlT:=Gm hg
 have hla:c.a.length≤100000:=by simp[B5]at hh;omega
 have hlb:c.b.length≤100000:=by simp[B5]at hh;omega
 have iA:∀L:AP,oA<(H++L).length:=fun L=>by have:=Am hA;rw[List.length_append];omega
 have iB:∀L:AP,oB<(H++L).length:=fun L=>by have:=Am hB;rw[List.length_append];omega
 by_cases hop:11≤c.op
 ·have h56:¬(c.op=5∨c.op=6):=by omega
  have hd:I7 s th c=Bg s th c:=by
   by_cases h13:13<c.op
   ·have cg:AT c=false:=K1.2.2.2.2.2.2.2.2.2 (.inr h13)
    rw[YQ hi (.inl cg)];simp[Bg,cg]
   ·rcases(by omega:c.op=11∨c.op=12∨c.op=13)with e|e|e<;>simp[I7,e]
  obtain⟨e,v,n,st,hr⟩:∃e v n st,Bg s th c=⟨e,v,n,st⟩:=⟨_,_,_,_,rfl⟩
  rw[hr]at hd
  cases st with
  |none=>
   obtain p0:(((11≤c.op)=True)):=eq_true (by omega)
   clear hop
   refine Aa ok7 ?_;(try simp only[c7,w7,kS,kT,BT,AM,AJ,Qa,hss,hh,hg,p0,go_sem]);repeat' ((first|refine orR ?_|(refine sp ?_ ?_<;>intro hc)|refine GZ ?_|refine Fe (c:=c) ?_|refine AW (s:=s) (kS _) (kT _) ?_|refine A3 (kS _) (kT _) hlS hlT (DL hg) (DM hg) ?_|refine CF.B8 GJ (c:=c) hr (kS _) (kT _) (kA _) (kB _) ?_|refine IC hlS hlT (kS _) (kT _) ?_|refine Jc (iA _) (iB _) ?_|refine HB (s:=s) (c:=c) hd h56 hi hw64 hla hlb (by first|exact BH|exact Bb rfl) (by first|exact BH|exact Bb rfl) (kA _) (kB _) ?_|refine KU ?_|refine DH (s:=s) (u:=s) (by first|exact BH|exact Bb rfl) (by first|exact BH|exact Bb rfl) (by first|exact BH|exact Bb rfl) (by first|exact BH|exact Bb rfl) hlS hlT ?_|refine BS (s:=s) (u:=s) (kS _) (kT _) (by first|exact BH|exact Bb rfl) (by first|exact BH|exact Bb rfl) hlS hlT ?_)<;>try simp only[*,w7,BT,AM,AJ,Qa,go_sem])
  |some u=>
   have sy:=ZN hi (show(Bg s th c).st=some u by rw[hr])
   have hlSu:u.AE.length≤1000:=by rw[sy.lS];exact hlS
   have hlTu:u.AB.length≤1000:=by rw[sy.lT];exact hlT
   have hgu:BN u=true:=D8.2 sy.inv
   clear sy
   obtain p0:(((11≤c.op)=True)):=eq_true (by omega)
   clear hop
   refine Aa ok7 ?_;(try simp only[c7,w7,kS,kT,BT,AM,AJ,Qa,hss,hh,hg,hgu,p0,go_sem]);repeat' ((first|refine orR ?_|(refine sp ?_ ?_<;>intro hc)|refine GZ ?_|refine Fe (c:=c) ?_|refine AW (s:=s) (kS _) (kT _) ?_|refine A3 (kS _) (kT _) hlS hlT (DL hg) (DM hg) ?_|refine CF.Zy GJ (c:=c) hr (kS _) (kT _) (kA _) (kB _) ?_|refine IC (s:=s) hlS hlT (kS _) (kT _) ?_|refine IC (s:=u) hlSu hlTu (by first|exact BH|exact Bb rfl) (by first|exact BH|exact Bb rfl) ?_|refine Jc (iA _) (iB _) ?_|refine HC (s:=s) (c:=c) hd h56 hi hw64 hla hlb (by first|exact BH|exact Bb rfl) (by first|exact BH|exact Bb rfl) (kA _) (kB _) ?_|refine KU ?_|refine DH (s:=u) (u:=u) (by first|exact BH|exact Bb rfl) (by first|exact BH|exact Bb rfl) (by first|exact BH|exact Bb rfl) (by first|exact BH|exact Bb rfl) hlSu hlTu ?_|refine BS (s:=s) (u:=s) (kS _) (kT _) (by first|exact BH|exact Bb rfl) (by first|exact BH|exact Bb rfl) hlS hlT ?_|refine AW (s:=u) (by first|exact BH|exact Bb rfl) (by first|exact BH|exact Bb rfl) ?_)<;>try simp only[*,w7,BT,AM,AJ,Qa,go_sem])
 ·have hr:Bg s th c=⟨1,0,0,none⟩:=by
   have e2:¬c.op=11:=by omega
   have e3:¬c.op=12:=by omega
   have e4:¬c.op=13:=by omega
   simp[Bg,e2,e3,e4,CD.bad]
  obtain p0:(((11≤c.op)=False)):=eq_false (by omega)
  clear hop
  refine Aa ok7 ?_;(try simp only[c7,w7,kS,kT,BT,AM,AJ,Qa,hss,hh,hg,p0,go_sem]);repeat' ((first|refine orR ?_|(refine sp ?_ ?_<;>intro hc)|refine GZ ?_|refine Fe (c:=c) ?_|refine AW (s:=s) (kS _) (kT _) ?_|refine A3 (kS _) (kT _) hlS hlT (DL hg) (DM hg) ?_|refine CF.B8 GJ (c:=c) hr (kS _) (kT _) (kA _) (kB _) ?_|refine IC hlS hlT (kS _) (kT _) ?_|refine Jc (iA _) (iB _) ?_|refine HA (s:=s) (c:=c) hi hw64 hla hlb (by first|exact BH|exact Bb rfl) (by first|exact BH|exact Bb rfl) (kA _) (kB _) (fun e v n=> ?_) (fun u e v n=> ?_)|refine KU ?_|refine DH (s:=s) (u:=s) (by first|exact BH|exact Bb rfl) (by first|exact BH|exact Bb rfl) (by first|exact BH|exact Bb rfl) (by first|exact BH|exact Bb rfl) hlS hlT ?_|refine BS (s:=s) (u:=s) (kS _) (kT _) (by first|exact BH|exact Bb rfl) (by first|exact BH|exact Bb rfl) hlS hlT ?_)<;>try simp only[*,w7,BT,AM,AJ,Qa,go_sem])
end Go.Proofs.YtlaipllgmddkiaaGreat.Ax
