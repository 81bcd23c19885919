/- Texts put behind one another: LMailS. Conditions: none. -/
import Derived.Test.YtlaipllgmddkiaaGreatZRf2
import Derived.Test.YtlaipllgmddkiaaGreatSOwn18Z
import Derived.Test.YtlaipllgmddkiaaGreatSLaw18Z
import Derived.Test.YtlaipllgmddkiaaGreatSArgWZ
import Derived.Test.YtlaipllgmddkiaaGreatZPu
set_option linter.all false
open Nat renaming add_assoc → Qa
namespace Go.Proofs.YtlaipllgmddkiaaGreat.Ax
open Go Go.Ax Go.Ax.M
set_option maxRecDepth 100000
set_option maxHeartbeats 4000000 in
theorem dG(H:AP)(bs:List AH)(h:EU Tryz.prog H 8 [27,3,33] bs):AF Tryz.prog 3 bs H fun v _=>v= .bool true:=by
 obtain⟨a1,l,rfl,h1,h⟩:=Bz h
 obtain⟨a2,l,rfl,h2,h⟩:=Bz h
 obtain⟨a3,l,rfl,h3,h⟩:=Bz h
 obtain rfl:=Fu h
 obtain⟨s,oS,oT,rfl,hS,hT,hw64⟩:=IW h1
 obtain⟨th,rfl,-⟩:=h2.int Tryz.underlying3
 obtain⟨c,oA,oB,rfl,hA,hB⟩:=Kw h3
 clear h1 h2 h3 h
 have kS:=AL.of hS
 have kT:=AL.of hT
 have kA:=AL.of hA
 have kB:=AL.of hB
 have hss:∀s,Gs s s=true:=fun s=>IQ.2 rfl
 cases hh:B5 s c with
 |true=>
  refine Aa ok3 ?_;(try simp only[c3,w3,hh,go_sem]);repeat' ((first|refine orR ?_|(refine sp ?_ ?_<;>intro hc)|refine Ei ?_|refine EE (c:=c) ?_)<;>try simp only[*,w3,go_sem])
 |false=>
 cases hg:BN s with
 |false=>
  refine Aa ok3 ?_;(try simp only[c3,w3,hh,hg,go_sem]);repeat' ((first|refine orR ?_|(refine sp ?_ ?_<;>intro hc)|refine Ei ?_|refine EE (c:=c) ?_|refine AW (kS _) (kT _) ?_)<;>try simp only[*,w3,go_sem])
 |true=>
 have hi:Inv s:=D8.1 hg
 have hlS:=FL hg
 have hlT:=Gm hg
 have hla:c.a.length≤100000:=by simp[B5]at hh;omega
 have hlb:c.b.length≤100000:=by simp[B5]at hh;omega
 have iA:∀L:AP,oA<(H++L).length:=fun L=>by have:=Am hA;rw[List.length_append];omega
 have iB:∀L:AP,oB<(H++L).length:=fun L=>by have:=Am hB;rw[List.length_append];omega
 by_cases hop:c.op=7∨c.op=8
 ·have h56:¬(c.op=5∨c.op=6):=by omega
  have hd:I7 s th c=BC s th c:=by rcases hop with e|e<;>simp[I7,e]
  obtain⟨e,v,n,st,hr⟩:∃e v n st,BC s th c=⟨e,v,n,st⟩:=⟨_,_,_,_,rfl⟩
  rw[hr]at hd
  cases st with
  |none=>
   rcases(show(((c.op=7)=True))∨(((c.op=7)=False)∧((c.op=8)=True)) from by
    by_cases hq:c.op=7
    ·exact .inl (eq_true (by omega))
    ·exact .inr ⟨eq_false (by omega),eq_true (by omega)⟩)with p0|⟨p0,p1⟩
   ·clear hop
    refine Aa ok3 ?_;(try simp only[c3,w3,kS,kT,BT,AM,AJ,Qa,hss,hh,hg,p0,go_sem]);repeat' ((first|refine orR ?_|(refine sp ?_ ?_<;>intro hc)|refine Ei ?_|refine EE (c:=c) ?_|refine AW (s:=s) (kS _) (kT _) ?_|refine A3 (kS _) (kT _) hlS hlT (DL hg) (DM hg) ?_|refine KJ (c:=c) hr (kS _) (kT _) (kA _) (kB _) ?_|refine Eo hlS hlT (kS _) (kT _) ?_|refine Fv (iA _) (iB _) ?_|refine HB (s:=s) (c:=c) hd h56 hi hw64 hla hlb (by first|exact BH|exact Bb rfl) (by first|exact BH|exact Bb rfl) (kA _) (kB _) ?_|refine Gr ?_|refine DH (s:=s) (u:=s) (by first|exact BH|exact Bb rfl) (by first|exact BH|exact Bb rfl) (by first|exact BH|exact Bb rfl) (by first|exact BH|exact Bb rfl) hlS hlT ?_|refine BS (s:=s) (u:=s) (kS _) (kT _) (by first|exact BH|exact Bb rfl) (by first|exact BH|exact Bb rfl) hlS hlT ?_)<;>try simp only[*,w3,BT,AM,AJ,Qa,go_sem])
   ·clear hop
    refine Aa ok3 ?_;(try simp only[c3,w3,kS,kT,BT,AM,AJ,Qa,hss,hh,hg,p0,p1,go_sem]);repeat' ((first|refine orR ?_|(refine sp ?_ ?_<;>intro hc)|refine Ei ?_|refine EE (c:=c) ?_|refine AW (s:=s) (kS _) (kT _) ?_|refine A3 (kS _) (kT _) hlS hlT (DL hg) (DM hg) ?_|refine KJ (c:=c) hr (kS _) (kT _) (kA _) (kB _) ?_|refine Eo hlS hlT (kS _) (kT _) ?_|refine Fv (iA _) (iB _) ?_|refine HB (s:=s) (c:=c) hd h56 hi hw64 hla hlb (by first|exact BH|exact Bb rfl) (by first|exact BH|exact Bb rfl) (kA _) (kB _) ?_|refine Gr ?_|refine DH (s:=s) (u:=s) (by first|exact BH|exact Bb rfl) (by first|exact BH|exact Bb rfl) (by first|exact BH|exact Bb rfl) (by first|exact BH|exact Bb rfl) hlS hlT ?_|refine BS (s:=s) (u:=s) (kS _) (kT _) (by first|exact BH|exact Bb rfl) (by first|exact BH|exact Bb rfl) hlS hlT ?_)<;>try simp only[*,w3,BT,AM,AJ,Qa,go_sem])
  |some u=>
   have sy:=ZP (show(BC s th c).st=some u by rw[hr])
   have hlSu:u.AE.length≤1000:=by rw[sy.lS];exact hlS
   have hlTu:u.AB.length≤1000:=by rw[sy.lT];exact hlT
   have hgu:BN u=true:=D8.2 sy.inv
   clear sy
   rcases(show(((c.op=7)=True))∨(((c.op=7)=False)∧((c.op=8)=True)) from by
    by_cases hq:c.op=7
    ·exact .inl (eq_true (by omega))
    ·exact .inr ⟨eq_false (by omega),eq_true (by omega)⟩)with p0|⟨p0,p1⟩
   ·clear hop
    refine Aa ok3 ?_;(try simp only[c3,w3,kS,kT,BT,AM,AJ,Qa,hss,hh,hg,hgu,p0,go_sem]);repeat' ((first|refine orR ?_|(refine sp ?_ ?_<;>intro hc)|refine Ei ?_|refine EE (c:=c) ?_|refine AW (s:=s) (kS _) (kT _) ?_|refine A3 (kS _) (kT _) hlS hlT (DL hg) (DM hg) ?_|refine H7 (c:=c) hr (kS _) (kT _) (kA _) (kB _) ?_|refine Eo (s:=s) hlS hlT (kS _) (kT _) ?_|refine Eo (s:=u) hlSu hlTu (by first|exact BH|exact Bb rfl) (by first|exact BH|exact Bb rfl) ?_|refine Fv (iA _) (iB _) ?_|refine HC (s:=s) (c:=c) hd h56 hi hw64 hla hlb (by first|exact BH|exact Bb rfl) (by first|exact BH|exact Bb rfl) (kA _) (kB _) ?_|refine Gr ?_|refine DH (s:=u) (u:=u) (by first|exact BH|exact Bb rfl) (by first|exact BH|exact Bb rfl) (by first|exact BH|exact Bb rfl) (by first|exact BH|exact Bb rfl) hlSu hlTu ?_|refine BS (s:=s) (u:=s) (kS _) (kT _) (by first|exact BH|exact Bb rfl) (by first|exact BH|exact Bb rfl) hlS hlT ?_|refine AW (s:=u) (by first|exact BH|exact Bb rfl) (by first|exact BH|exact Bb rfl) ?_)<;>try simp only[*,w3,BT,AM,AJ,Qa,go_sem])
   ·clear hop
    refine Aa ok3 ?_;(try simp only[c3,w3,kS,kT,BT,AM,AJ,Qa,hss,hh,hg,hgu,p0,p1,go_sem]);repeat' ((first|refine orR ?_|(refine sp ?_ ?_<;>intro hc)|refine Ei ?_|refine EE (c:=c) ?_|refine AW (s:=s) (kS _) (kT _) ?_|refine A3 (kS _) (kT _) hlS hlT (DL hg) (DM hg) ?_|refine H7 (c:=c) hr (kS _) (kT _) (kA _) (kB _) ?_|refine Eo (s:=s) hlS hlT (kS _) (kT _) ?_|refine Eo (s:=u) hlSu hlTu (by first|exact BH|exact Bb rfl) (by first|exact BH|exact Bb rfl) ?_|refine Fv (iA _) (iB _) ?_|refine HC (s:=s) (c:=c) hd h56 hi hw64 hla hlb (by first|exact BH|exact Bb rfl) (by first|exact BH|exact Bb rfl) (kA _) (kB _) ?_|refine Gr ?_|refine DH (s:=u) (u:=u) (by first|exact BH|exact Bb rfl) (by first|exact BH|exact Bb rfl) (by first|exact BH|exact Bb rfl) (by first|exact BH|exact Bb rfl) hlSu hlTu ?_|refine BS (s:=s) (u:=s) (kS _) (kT _) (by first|exact BH|exact Bb rfl) (by first|exact BH|exact Bb rfl) hlS hlT ?_|refine AW (s:=u) (by first|exact BH|exact Bb rfl) (by first|exact BH|exact Bb rfl) ?_)<;>try simp only[*,w3,BT,AM,AJ,Qa,go_sem])
 ·have hr:BC s th c=⟨1,0,0,none⟩:=by
   have e2:¬c.op=7:=by omega
   have e3:¬c.op=8:=by omega
   simp[BC,e2,e3,CD.bad]
  obtain⟨p0,p1⟩:(((c.op=7)=False)∧((c.op=8)=False)):=⟨eq_false (by omega),eq_false (by omega)⟩
  clear hop
  refine Aa ok3 ?_;(try simp only[c3,w3,kS,kT,BT,AM,AJ,Qa,hss,hh,hg,p0,p1,go_sem]);repeat' ((first|refine orR ?_|(refine sp ?_ ?_<;>intro hc)|refine Ei ?_|refine EE (c:=c) ?_|refine AW (s:=s) (kS _) (kT _) ?_|refine A3 (kS _) (kT _) hlS hlT (DL hg) (DM hg) ?_|refine KJ (c:=c) hr (kS _) (kT _) (kA _) (kB _) ?_|refine Eo hlS hlT (kS _) (kT _) ?_|refine Fv (iA _) (iB _) ?_|refine HA (s:=s) (c:=c) hi hw64 hla hlb (by first|exact BH|exact Bb rfl) (by first|exact BH|exact Bb rfl) (kA _) (kB _) (fun e v n=> ?_) (fun u e v n=> ?_)|refine Gr ?_|refine DH (s:=s) (u:=s) (by first|exact BH|exact Bb rfl) (by first|exact BH|exact Bb rfl) (by first|exact BH|exact Bb rfl) (by first|exact BH|exact Bb rfl) hlS hlT ?_|refine BS (s:=s) (u:=s) (kS _) (kT _) (by first|exact BH|exact Bb rfl) (by first|exact BH|exact Bb rfl) hlS hlT ?_)<;>try simp only[*,w3,BT,AM,AJ,Qa,go_sem])
end Go.Proofs.YtlaipllgmddkiaaGreat.Ax
