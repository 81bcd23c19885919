/- Texts put behind one another: STag, SMail, SBell, SLeaf, SCarve. Conditions: none. -/
import Derived.Test.YtlaipllgmddkiaaGreatSBaseZ
import Derived.Test.YtlaipllgmddkiaaGreatSLoopZ
import Derived.Test.YtlaipllgmddkiaaGreatZPu
import Derived.Test.YtlaipllgmddkiaaGreatZGv
import Derived.Test.YtlaipllgmddkiaaGreatZMo
set_option linter.all false
open List renaming length_set → Qa, map_set → Qd
open Nat renaming add_assoc → Qb, lt_of_lt_of_le → Qc
namespace Go.Ax.M
open Go Go.Ax
def aa(x:Nat×Nat):List AH:=[.int .i64 (x.1:Int),.int .i64 (x.2:Int)]
def HP(F:List (Nat×Nat)):List (List AH):=F.map aa
def FO(x:Nat×Nat):Nat:=(2^x.2-1)* 2^x.1
def NG(F:List (Nat×Nat)):Nat→Nat
 |0=>0
 |k+1=>(F.getD k (0,0)).1+(F.getD k (0,0)).2
structure aE (F:List (Nat×Nat)):Prop where
 len:F.length≤64
 ok:∀k,k<F.length→NG F k≤(F.getD k (0,0)).1∧1≤(F.getD k (0,0)).2∧(F.getD k (0,0)).1+(F.getD k (0,0)).2≤63
def Kv(F:List (Nat×Nat)):Nat→Nat
 |0=>0
 |k+1=>Kv F k+FO (F.getD k (0,0))
def Cc(l:List Int):List (List AH):=l.map fun x=>[.int .u64 x]
@[go_sem] theorem cX {l:List Int}:(Cc l).length=l.length:=by simp[Cc]
@[go_sem] theorem ab {l:List (Nat×Nat)}:(HP l).length=l.length:=by simp[HP]
theorem Ir{k:Nat}:0<(2:Nat)^k:=Nat.pow_pos (by omega)
theorem FU{a b:Nat}(h:a≤b):(2:Nat)^a≤2^b:=Nat.pow_le_pow_right (by omega) h
theorem T7{x:Nat×Nat}:FO x+2^x.1=2^(x.1+x.2):=by
 have:=Ir (k:=x.2)
 rw[FO,Nat.pow_add,Nat.mul_comm (2^x.1)]
 have e:2^x.2=(2^x.2-1)+1:=by omega
 conv=>rhs;rw[e,Nat.add_mul,Nat.one_mul]
theorem aL{F:List (Nat×Nat)}(h:aE F):∀k,k≤F.length→Kv F k<2^NG F k
 |0,_=>by simp[Kv,NG]
 |k+1,hk=>by
  have:=aL h k (by omega)
  have h2:=h.ok k (by omega)
  have h3:=T7 (x:=F.getD k (0,0))
  have h4:=FU h2.1
  simp only[Kv,NG]
  rw[←h3,Nat.add_comm]
  exact Nat.add_lt_add_left (Qc this h4) _
end Go.Ax.M
namespace Go.Ax.M
open Go Go.Ax
structure iI (F:List (Nat×Nat)) (k f n:Nat):Prop where
 get:F.getD k (0,0)=(f,n)
 n1:1≤n
 fn:f+n≤63
 lt:Kv F k<2^f
 en:NG F k≤f
theorem aE.at{F:List (Nat×Nat)}(h:aE F){k:Nat}(hk:k<F.length):∃f n,iI F k f n:=by
 obtain⟨h1,h2,h3⟩:=h.ok k hk
 have:=aL h k (by omega)
 have h4:=FU h1
 exact⟨_,_,rfl,h2,h3,Qc this h4,h1⟩
end Go.Ax.M
namespace Go.Proofs.YtlaipllgmddkiaaGreat.Ax
open Go Go.Ax Go.Ax.M
section
variable {H:AP}{K:AH→AP→Prop}{F:List (Nat×Nat)}{o p:Nat}{fl fp ro rp:Bool}
end
end Go.Proofs.YtlaipllgmddkiaaGreat.Ax
namespace Go.Proofs.YtlaipllgmddkiaaGreat.Ax
open Go Go.Ax Go.Ax.M
section
variable {H:AP}{K:AH→AP→Prop}{s:State}{oS oT:Nat}{fS fT rS rT:Bool}{c:M.Call}{oA oB:Nat}{fA fB rA rB:Bool}
theorem RK{th q:Int}{box:Bh}(hS:H[oS]?=some (.AU 5 (s.AE.map Slot.cells) rS))(hT:H[oT]?=some (.AU 13 (s.AB.map AN.cells) rT))(hA:H[oA]?=some (.AU 1 (ints c.a) rA))(hB:H[oB]?=some (.AU 1 (ints c.b) rB))
 (ok:Ft s) (hbx:BD s box.th=true)
 (h:(Cj s th c box).st=none→K (.Bj [stA s oS oT fS fT,(Cj s th c box).Ap]) H)
 (h':∀s',(Cj s th c box).st=some s'→K (.Bj [BT s' H.length (H.length+1) false false,(Cj s th c box).Ap]) (H++[AM s',AJ s'])):
 AF Tryz.prog 81 [stA s oS oT fS fT,.int .i64 th,.agg [.int .i64 q,.slice oA c.a.length 0 c.a.length fA,.slice oB c.b.length 0 c.b.length fB,.int .i64 c.x,.int .i64 c.y,.int .u64 c.w],.agg box.cells] H K:=by
 have kT:=AL.of hT
 have kS:=AL.of hS
 have kB:=AL.of hB
 have hg:=Dt hbx
 have key:∀e,Cj s th c box= .bad e→K (.Bj [stA s oS oT fS fT,.agg [.int .i64 e,.int .u64 0,.int .i64 0]]) H:=fun e he=>by rw[he]at h;exact h rfl
 have hv:=fun e=>show(AH.Bj [stA s oS oT fS fT,.agg [.int .i64 e,.int .u64 0,.int .i64 0]]).refs (fun o=>o<H.length) by simp[AH.refs,Ay];exact⟨Am hS,Am hT⟩
 clear h
 have hwf:(AO s th c.b).2.2=0→IntKind.wrap .i64 ((AO s th c.b).1+1)=(AO s th c.b).1+1:=fun h=>by have:=CA h;have:=ok.lS;exact w64 (by omega) (by omega)
 refine AF.gc ?_
 unfold Bh.cells
 refine Aa ok81 ?_;(try simp only[c81,w81,kS,kT,kB,hg,BT,AM,AJ,Qa,Bh.cells,Qb,go_sem]);repeat' ((first|refine orR ?_|(refine sp ?_ ?_<;>intro hc)|refine DC ?_|refine CN (kS _) (kT _) (kB _) ?_|refine A3 (kS _) (kT _) (FL ok.DR) (Gm ok.DR) (DL ok.DR) (DM ok.DR) ?_)<;>try simp only[*,w81,BT,AM,AJ,Qa,Bh.cells,Qb,go_sem])
 case' refine_1.refine_2.refine_2.refine_2.refine_2=>
  have e:Cj s th c box=⟨0,0,0,some (boxed s box.th (Fo ((AO s th c.b).1+1) box.ba c.w))⟩:=by(first|(simp only[Cj,Cu, *,bs,go_sem];done)|(simp_all[Cj,Cu];done)|(simp_all[Cj,Cu];omega)|grind[Cj,Cu])
  rw[e]at h'
  have h':=h' _ rfl
  have el:(boxed s box.th (Fo ((AO s th c.b).1+1) box.ba c.w)).AB.length=s.AB.length:=by simp[boxed]
  rw[←el]
  exact Gc.stateT (s:=boxed s box.th (Fo ((AO s th c.b).1+1) box.ba c.w)) (i:=6) (j:=7) rfl (by simp only[AJ,boxed,←DQ];rfl) (by decide) (by simp[AH.plain,Ah]) h'
 case' refine_2.refine_2=>
  have e:Cj s th c box=⟨0,0,0,some (boxed s box.th (Fo 0 box.ba c.w))⟩:=by(first|(simp only[Cj,Cu, *,bs,go_sem];done)|(simp_all[Cj,Cu];done)|(simp_all[Cj,Cu];omega)|grind[Cj,Cu])
  rw[e]at h'
  have h':=h' _ rfl
  have el:(boxed s box.th (Fo 0 box.ba c.w)).AB.length=s.AB.length:=by simp[boxed]
  rw[←el]
  exact Gc.stateT (s:=boxed s box.th (Fo 0 box.ba c.w)) (i:=5) (j:=6) rfl (by simp only[AJ,boxed,←DQ];rfl) (by decide) (by simp[AH.plain,Ah]) h'
 all_goals exact Gc.Cd (hv _) (key _ (by(first|(simp only[Cj,Cu, *,bs,go_sem];done)|(simp_all[Cj,Cu];done)|(simp_all[Cj,Cu];omega)|grind[Cj,Cu])))
theorem RJ{th q:Int}{box:Bh}(hS:H[oS]?=some (.AU 5 (s.AE.map Slot.cells) rS))(hT:H[oT]?=some (.AU 13 (s.AB.map AN.cells) rT))(hA:H[oA]?=some (.AU 1 (ints c.a) rA))(hB:H[oB]?=some (.AU 1 (ints c.b) rB))
 (ok:Ft s) (hbx:BD s box.th=true)
 (h:(CI s th c box).st=none→K (.Bj [stA s oS oT fS fT,(CI s th c box).Ap]) H)
 (h':∀s',(CI s th c box).st=some s'→K (.Bj [BT s' H.length (H.length+1) false false,(CI s th c box).Ap]) (H++[AM s',AJ s'])):
 AF Tryz.prog 82 [stA s oS oT fS fT,.int .i64 th,.agg [.int .i64 q,.slice oA c.a.length 0 c.a.length fA,.slice oB c.b.length 0 c.b.length fB,.int .i64 c.x,.int .i64 c.y,.int .u64 c.w],.agg box.cells] H K:=by
 have kT:=AL.of hT
 have kS:=AL.of hS
 have kB:=AL.of hB
 have hg:=Dt hbx
 have hbx':box.th.toNat<s.AB.length:=by have:=hbx;simp[BD]at this;omega
 have key:∀e,CI s th c box= .bad e→K (.Bj [stA s oS oT fS fT,.agg [.int .i64 e,.int .u64 0,.int .i64 0]]) H:=fun e he=>by rw[he]at h;exact h rfl
 have hv:=fun e=>show(AH.Bj [stA s oS oT fS fT,.agg [.int .i64 e,.int .u64 0,.int .i64 0]]).refs (fun o=>o<H.length) by simp[AH.refs,Ay];exact⟨Am hS,Am hT⟩
 clear h
 have hf:0<(s.AG box.th.toNat).from_→IntKind.wrap .i64 ((s.AG box.th.toNat).from_-1)=(s.AG box.th.toNat).from_-1∧(0≤(s.AG box.th.toNat).from_-1)=True∧((s.AG box.th.toNat).from_-1<(s.AE.length:Int))=True:=fun h=>by
  have:=(Lx ok hbx' h).1
  have:=ok.lS
  exact⟨w64 (by omega) (by omega),eq_true (by omega),eq_true (by omega)⟩
 have hf2:0<(s.AG box.th.toNat).from_→_:=fun h=>A4 (s:=s) (k:=((s.AG box.th.toNat).from_-1).toNat) (by have:=(Lx ok hbx' h).1;omega)
 refine AF.gc ?_
 unfold Bh.cells
 refine Aa ok82 ?_;(try simp only[c82,w82,kS,kT,kB,hg,hf,hf2,DX,F1,D0,BT,AM,AJ,Qa,Bh.cells,Qb,go_sem]);repeat' ((first|refine orR ?_|(refine sp ?_ ?_<;>intro hc)|refine Hr (kS _) (kT _) (kB _) ?_|refine A3 (kS _) (kT _) (FL ok.DR) (Gm ok.DR) (DL ok.DR) (DM ok.DR) ?_|refine P9 (kS _) (kT _) (fun hc=> ?_) (fun hc=> ?_))<;>try simp only[*,w82,DX,F1,D0,BT,AM,AJ,Qa,Bh.cells,Qb,go_sem])
 case' refine_2.refine_1.refine_1.refine_2.refine_2=>
  have e:CI s th c box=GB s (CW s ((s.AG box.th.toNat).from_-1) (Ak s th c.b).1 (s.slot ((s.AG box.th.toNat).from_-1).toNat).cap) box:=by(first|(simp only[CI, *,bs,go_sem];done)|(simp_all[CI];done)|(simp_all[CI];omega)|grind[CI])
  rw[e]at h'
  have h':=h' _ rfl
  have el:(boxed (CW s ((s.AG box.th.toNat).from_-1) (Ak s th c.b).1 (s.slot ((s.AG box.th.toNat).from_-1).toNat).cap) box.th GK).AB.length=s.AB.length:=by simp[boxed,DX]
  have el2:(boxed (CW s ((s.AG box.th.toNat).from_-1) (Ak s th c.b).1 (s.slot ((s.AG box.th.toNat).from_-1).toNat).cap) box.th GK).AE.length=s.AE.length:=by simp[boxed,D0]
  rw[←el,←el2]
  exact Gc.stateT (s:=boxed (CW s ((s.AG box.th.toNat).from_-1) (Ak s th c.b).1 (s.slot ((s.AG box.th.toNat).from_-1).toNat).cap) box.th GK) (i:=9) (j:=10) rfl (by simp only[AJ,boxed,←DQ];rfl) (by decide) (by simp[AH.plain,Ah]) h'
 case' refine_2.refine_1.refine_2=>
  have e:CI s th c box=GB s s box:=by(first|(simp only[CI, *,bs,go_sem];done)|(simp_all[CI];done)|(simp_all[CI];omega)|grind[CI])
  rw[e]at h'
  have h':=h' _ rfl
  have el:(boxed s box.th GK).AB.length=s.AB.length:=by simp[boxed]
  rw[←el]
  exact Gc.stateT (s:=boxed s box.th GK) (i:=6) (j:=7) rfl (by simp only[AJ,boxed,←DQ];rfl) (by decide) (by simp[AH.plain,Ah]) h'
 case' refine_2.refine_2=>
  have e:CI s th c box=GB s s box:=by(first|(simp only[CI, *,bs,go_sem];done)|(simp_all[CI];done)|(simp_all[CI];omega)|grind[CI])
  rw[e]at h'
  have h':=h' _ rfl
  have el:(boxed s box.th GK).AB.length=s.AB.length:=by simp[boxed]
  rw[←el]
  exact Gc.stateT (s:=boxed s box.th GK) (i:=6) (j:=7) rfl (by simp only[AJ,boxed,←DQ];rfl) (by decide) (by simp[AH.plain,Ah]) h'
 all_goals exact Gc.Cd (hv _) (key _ (by(first|(simp only[CI, *,bs,go_sem];done)|(simp_all[CI];done)|(simp_all[CI];omega)|grind[CI])))
theorem VJ{th q x0 x1 x2 x3:Int}(hS:H[oS]?=some (.AU 5 (s.AE.map Slot.cells) rS))(hT:H[oT]?=some (.AU 13 (s.AB.map AN.cells) rT))(hA:H[oA]?=some (.AU 1 (ints c.a) rA))(hB:H[oB]?=some (.AU 1 (ints c.b) rB))
 (ok:Ft s) (hbx:BD s x1=true)
 (h:(Cj s th c ⟨x0,x1,x2,x3⟩).st=none→K (.Bj [stA s oS oT fS fT,(Cj s th c ⟨x0,x1,x2,x3⟩).Ap]) H)
 (h':∀s',(Cj s th c ⟨x0,x1,x2,x3⟩).st=some s'→K (.Bj [BT s' H.length (H.length+1) false false,(Cj s th c ⟨x0,x1,x2,x3⟩).Ap]) (H++[AM s',AJ s'])):
 AF Tryz.prog 81 [stA s oS oT fS fT,.int .i64 th,.agg [.int .i64 q,.slice oA c.a.length 0 c.a.length fA,.slice oB c.b.length 0 c.b.length fB,.int .i64 c.x,.int .i64 c.y,.int .u64 c.w],.agg [.int .i64 x0,.int .i64 x1,.int .i64 x2,.int .i64 x3]] H K:=RK (box:=⟨x0,x1,x2,x3⟩) hS hT hA hB ok hbx h h'
theorem VI{th q x0 x1 x2 x3:Int}(hS:H[oS]?=some (.AU 5 (s.AE.map Slot.cells) rS))(hT:H[oT]?=some (.AU 13 (s.AB.map AN.cells) rT))(hA:H[oA]?=some (.AU 1 (ints c.a) rA))(hB:H[oB]?=some (.AU 1 (ints c.b) rB))
 (ok:Ft s) (hbx:BD s x1=true)
 (h:(CI s th c ⟨x0,x1,x2,x3⟩).st=none→K (.Bj [stA s oS oT fS fT,(CI s th c ⟨x0,x1,x2,x3⟩).Ap]) H)
 (h':∀s',(CI s th c ⟨x0,x1,x2,x3⟩).st=some s'→K (.Bj [BT s' H.length (H.length+1) false false,(CI s th c ⟨x0,x1,x2,x3⟩).Ap]) (H++[AM s',AJ s'])):
 AF Tryz.prog 82 [stA s oS oT fS fT,.int .i64 th,.agg [.int .i64 q,.slice oA c.a.length 0 c.a.length fA,.slice oB c.b.length 0 c.b.length fB,.int .i64 c.x,.int .i64 c.y,.int .u64 c.w],.agg [.int .i64 x0,.int .i64 x1,.int .i64 x2,.int .i64 x3]] H K:=RJ (box:=⟨x0,x1,x2,x3⟩) hS hT hA hB ok hbx h h'
theorem H8{th:Int}(hS:H[oS]?=some (.AU 5 (s.AE.map Slot.cells) rS))(hT:H[oT]?=some (.AU 13 (s.AB.map AN.cells) rT))(hA:H[oA]?=some (.AU 1 (ints c.a) rA))(hB:H[oB]?=some (.AU 1 (ints c.b) rB))
 (h:(BC s th c).st=none→K (.Bj [stA s oS oT fS fT,(BC s th c).Ap]) H)
 (h':∀s',(BC s th c).st=some s'→K (.Bj [BT s' H.length (H.length+1) false false,(BC s th c).Ap]) (H++[AM s',AJ s'])):
 AF Tryz.prog 17 [stA s oS oT fS fT,.int .i64 th,.agg [.int .i64 c.op,.slice oA c.a.length 0 c.a.length fA,.slice oB c.b.length 0 c.b.length fB,.int .i64 c.x,.int .i64 c.y,.int .u64 c.w]] H K:=by
 have kT:=AL.of hT
 have kS:=AL.of hS
 have kA:=AL.of hA
 have kB:=AL.of hB
 have key:∀e,BC s th c= .bad e→K (.Bj [stA s oS oT fS fT,.agg [.int .i64 e,.int .u64 0,.int .i64 0]]) H:=fun e he=>by rw[he]at h;exact h rfl
 have hv:=fun e w n=>show(AH.Bj [stA s oS oT fS fT,.agg [.int .i64 e,.int .u64 w,.int .i64 n]]).refs (fun o=>o<H.length) by simp[AH.refs,Ay];exact⟨Am hS,Am hT⟩
 refine AF.gc ?_
 refine Aa ok17 ?_;(try simp only[c17,w17,BT,AM,AJ,Qa,Bh.cells,Qb,CD.Ap,go_sem]);repeat' ((first|refine orR ?_|(refine sp ?_ ?_<;>intro hc)|refine Aw (kA _) (kB _) ?_|refine CN (kS _) (kT _) (kA _) ?_|refine DC ?_|refine VJ (kS _) (kT _) (kA _) (kB _) (CA (by assumption)).2.2.1 (Cx (by assumption)) (fun hc=> ?_) (fun s' hc=> ?_)|refine VI (kS _) (kT _) (kA _) (kB _) (CA (by assumption)).2.2.1 (Cx (by assumption)) (fun hc=> ?_) (fun s' hc=> ?_))<;>try simp only[*,w17,BT,AM,AJ,Qa,Bh.cells,Qb,CD.Ap,go_sem])
 all_goals try exact Gc.Cd (hv _ _ _) (key _ (by(first|(simp only[BC, *,bs,go_sem];done)|(simp_all[BC];done)|(simp_all[BC];omega)|grind[BC])))
 all_goals
  have eb:(⟨3,(AO s th c.a).2.1.th,(AO s th c.a).2.1.ri,(AO s th c.a).2.1.ba⟩:Bh)=(AO s th c.a).2.1:=by
   have ht:(AO s th c.a).2.1.ty=3:=by assumption
   rw[←ht]
 case' refine_1.refine_1.refine_2.refine_2.refine_2.refine_2.refine_1=>
  have e:BC s th c=CI s th c ⟨3,(AO s th c.a).2.1.th,(AO s th c.a).2.1.ri,(AO s th c.a).2.1.ba⟩:=by rw[eb];clear eb h h' key;(first|(simp only[BC, *,bs,go_sem];done)|(simp_all[BC];done)|(simp_all[BC];omega)|grind[BC])
  rw[e]at h
  exact Gc.Cd (hv _ _ _) (h (by assumption))
 case' refine_1.refine_2.refine_2.refine_2.refine_2.refine_1=>
  have e:BC s th c=Cj s th c ⟨3,(AO s th c.a).2.1.th,(AO s th c.a).2.1.ri,(AO s th c.a).2.1.ba⟩:=by rw[eb];clear eb h h' key;(first|(simp only[BC, *,bs,go_sem];done)|(simp_all[BC];done)|(simp_all[BC];omega)|grind[BC])
  rw[e]at h
  exact Gc.Cd (hv _ _ _) (h (by assumption))
 case' refine_1.refine_1.refine_2.refine_2.refine_2.refine_2.refine_2=>
  have e:BC s th c=CI s th c ⟨3,(AO s th c.a).2.1.th,(AO s th c.a).2.1.ri,(AO s th c.a).2.1.ba⟩:=by rw[eb];clear eb h h' key;(first|(simp only[BC, *,bs,go_sem];done)|(simp_all[BC];done)|(simp_all[BC];omega)|grind[BC])
 case' refine_1.refine_2.refine_2.refine_2.refine_2.refine_2=>
  have e:BC s th c=Cj s th c ⟨3,(AO s th c.a).2.1.th,(AO s th c.a).2.1.ri,(AO s th c.a).2.1.ba⟩:=by rw[eb];clear eb h h' key;(first|(simp only[BC, *,bs,go_sem];done)|(simp_all[BC];done)|(simp_all[BC];omega)|grind[BC])
 all_goals
  rw[e]at h'
  exact Gc.stateT (i:=5) (j:=6) rfl rfl (by decide) (by simp[AH.plain,Ah]) (h' _ (by assumption))
theorem H7{th e w n:Int}{s':State}(hr:BC s th c=⟨e,w,n,some s'⟩)(hS:H[oS]?=some (.AU 5 (s.AE.map Slot.cells) rS))(hT:H[oT]?=some (.AU 13 (s.AB.map AN.cells) rT))(hA:H[oA]?=some (.AU 1 (ints c.a) rA))(hB:H[oB]?=some (.AU 1 (ints c.b) rB))
 (h:K (.Bj [BT s' H.length (H.length+1) false false,.agg [.int .i64 e,.int .u64 w,.int .i64 n]]) (H++[AM s',AJ s'])):AF Tryz.prog 17 [stA s oS oT fS fT,.int .i64 th,.agg [.int .i64 c.op,.slice oA c.a.length 0 c.a.length fA,.slice oB c.b.length 0 c.b.length fB,.int .i64 c.x,.int .i64 c.y,.int .u64 c.w]] H K:=
 H8 hS hT hA hB (by rw[hr];intro h;cases h) (by rw[hr];intro s2 h2;injection h2 with h2;subst h2;exact h)
theorem KJ{th e w n:Int}(hr:BC s th c=⟨e,w,n,none⟩)(hS:H[oS]?=some (.AU 5 (s.AE.map Slot.cells) rS))(hT:H[oT]?=some (.AU 13 (s.AB.map AN.cells) rT))(hA:H[oA]?=some (.AU 1 (ints c.a) rA))(hB:H[oB]?=some (.AU 1 (ints c.b) rB))
 (h:K (.Bj [stA s oS oT fS fT,.agg [.int .i64 e,.int .u64 w,.int .i64 n]]) H):AF Tryz.prog 17 [stA s oS oT fS fT,.int .i64 th,.agg [.int .i64 c.op,.slice oA c.a.length 0 c.a.length fA,.slice oB c.b.length 0 c.b.length fB,.int .i64 c.x,.int .i64 c.y,.int .u64 c.w]] H K:=
 H8 hS hT hA hB (by rw[hr];intro _;exact h) (by rw[hr];intro s2 h2;cases h2)
end
end Go.Proofs.YtlaipllgmddkiaaGreat.Ax
namespace Go.Proofs.YtlaipllgmddkiaaGreat.Ax
open Go Go.Ax Go.Ax.M
section
variable {H:AP}{K:AH→AP→Prop}
theorem eT{n:Int}(h0:0≤n)(h1:n<64):Dl .shl .u64 1 n=some (.int .u64 (p2 n)):=by
 obtain⟨k,rfl⟩:∃k:Nat,n=k:=⟨n.toNat,by omega⟩
 have hk:k<64:=by omega
 have e:min k 64=k:=by omega
 have hp:(2:Nat)^k<2^64:=Nat.pow_lt_pow_right (by decide) hk
 have h2:((2:Int)^k)=((2^k:Nat):Int):=by rw[Int.natCast_pow];rfl
 simp only[Dl,show ¬((k:Int)<0) by omega,if_false,IntKind.bits,Int.one_mul,p2,Int.toNat_natCast,e,h2]
 congr 2
 generalize (2:Nat)^k=m at*
 simp[IntKind.wrap,IntKind.bits,IntKind.signed];omega
end
end Go.Proofs.YtlaipllgmddkiaaGreat.Ax
namespace Go.Proofs.YtlaipllgmddkiaaGreat.Ax
open Go Go.Ax Go.Ax.M
section
variable {H:AP}{K:AH→AP→Prop}{s:State}{th op x y w:Int}{a b:List Int}{oS oT oA oB:Nat}{fS fT rS rT fA fB rA rB:Bool}
theorem S2{op x y w:Int}{a b:List Int}(ho:op=11∨op=12)(h:AT ⟨op,a,b,x,y,w⟩=true):x=0∨x=1∨x=2∨x=3:=by
 simp only[AT,Bool.and_eq_true]at h
 obtain⟨-,h1,-,h2,-⟩:=h
 rcases ho with rfl|rfl<;>simp[C0,Bv]at h2<;>omega
theorem RE{x y w:Int}{a b:List Int}(h:AT ⟨11,a,b,x,y,w⟩=true):Bg s th ⟨11,a,b,x,y,w⟩=
 bif !decide ((AO s th a).2.2=0)then .bad (AO s th a).2.2 else bif !decide ((AO s th a).2.1.ty=5)then .bad 7 else bif !Bd 2 (AO s th a).2.1.ri then .bad 6
 else⟨0,0,0,some (boxed s (AO s th a).2.1.th (My (s.AG (AO s th a).2.1.th.toNat) x w))⟩:=by
 simp only[Bg,h,show decide ((11:Int)=11)=true from rfl,show decide ((11:Int)=13)=false from rfl,show decide ((11:Int)=12)=false from rfl,Bool.not_true,Bool.false_and,Bool.or_self,cond_false];rfl
theorem aq{x y w:Int}{a b:List Int}(h:AT ⟨12,a,b,x,y,w⟩=true):Bg s th ⟨12,a,b,x,y,w⟩=
 bif !decide ((AO s th a).2.2=0)then .bad (AO s th a).2.2 else bif !decide ((AO s th a).2.1.ty=5)then .bad 7 else bif !Bd 1 (AO s th a).2.1.ri then .bad 6
 else⟨0,Lg (s.AG (AO s th a).2.1.th.toNat) x,0,none⟩:=by
 simp only[Bg,h,show decide ((12:Int)=11)=false from rfl,show decide ((12:Int)=13)=false from rfl,show decide ((12:Int)=12)=true from rfl,Bool.not_true,Bool.not_false,Bool.true_and,Bool.false_and,Bool.or_self,cond_false,cond_true];rfl
end
end Go.Proofs.YtlaipllgmddkiaaGreat.Ax
namespace Go.Proofs.YtlaipllgmddkiaaGreat.Ax
open Go Go.Ax Go.Ax.M
section
variable {H:AP}{K:AH→AP→Prop}{s:State}{oS oT:Nat}{fS fT rS rT:Bool}
theorem Vr{k n:Int}:0≤(CE k n).1∧(CE k n).1≤4096:=by
 simp only[CE]
 by_cases e1:k=1
 ·simp only[e1,decide_true,cond_true]
  cases hb:Bv n 1 4096 with
  |false=>simp
  |true=>rw[BX]at hb;simp only[cond_true];omega
 ·simp only[e1,decide_false,cond_false]
  by_cases e2:k=2
  ·simp only[e2,decide_true,cond_true]
   cases hb:Bv n 1 4 with
   |false=>simp
   |true=>have:=C4 hb;simp only[cond_true];omega
  ·simp only[e2,decide_false,cond_false]
   cases (decide (k=3)||decide (k=4))<;>cases decide (k=5)<;>simp
theorem aS{s:State}{n r:Nat}{T:AN}{used:Int}(hr:r<s.AB.length)(hne:n≠r):((s.AB.map AN.cells).set n T.cells).set r [.int .i64 (s.AG r).ty,.int .i64 (s.AG r).bits,.int .i64 (s.AG r).base,.int .i64 (s.AG r).size,.int .i64 used,.int .i64 (s.AG r).from_,.int .i64 (s.AG r).BF,.bool (s.AG r).full,.int .u64 (s.AG r).word,.int .u64 (s.AG r).d0,.int .u64 (s.AG r).d1,.int .u64 (s.AG r).d2,.int .u64 (s.AG r).d3]=
 ((s.AB.set n T).set r {((s.AB.set n T).getD r .zero)with used:=used}).map AN.cells:=by
 have e:(s.AB.set n T).getD r .zero=s.AG r:=by simp only[List.getD,List.getElem?_set_ne hne,State.AG]
 rw[e,Qd,Qd];rfl
end
end Go.Proofs.YtlaipllgmddkiaaGreat.Ax
