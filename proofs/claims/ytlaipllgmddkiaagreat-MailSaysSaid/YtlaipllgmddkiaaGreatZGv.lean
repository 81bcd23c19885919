/- Texts put behind one another: SGive, SDo, SForest2, SGive2. Conditions: none. -/
import Derived.Test.YtlaipllgmddkiaaGreatZFi
import Derived.Test.YtlaipllgmddkiaaGreatZMo
import Derived.Test.YtlaipllgmddkiaaGreatZC3
import Derived.Test.YtlaipllgmddkiaaGreatZSt
import Derived.Test.YtlaipllgmddkiaaGreatZPu
set_option linter.all false
open List renaming ext_getElem → Qa, getElem_set → Qb, length_set → Qc, getD → Qd
namespace Go.Proofs.YtlaipllgmddkiaaGreat.Ax
open Go Go.Ax Go.Ax.M
section
variable {H:AP}{K:AH→AP→Prop}{s:State}{oS oT:Nat}{fS fT rS rT:Bool}
theorem DL{s:State}(h:BN s=true):0<s.AE.length:=by have:=(F7 h).lS;omega
theorem DM{s:State}(h:BN s=true):0<s.AB.length:=by have:=(F7 h).lT;omega
theorem LG{c:Bh}{to:Int}(hS:H[oS]?=some (.AU 5 (s.AE.map Slot.cells) rS))(hT:H[oT]?=some (.AU 13 (s.AB.map AN.cells) rT))(h:K (.bool (FC s c to)) H):AF Tryz.prog 183 [stA s oS oT fS fT,.agg c.cells,.int .i64 to] H K:=by
 have kT:=AL.of hT
 have kS:=AL.of hS
 refine AF.tidy ?_
 unfold Bh.cells
 refine Aa ok183 ?_;(try simp only[c183,AA k183_0.eq_1,go_sem]);repeat' ((first|refine orR ?_|(refine sp ?_ ?_<;>intro hc)|refine Ng (kS _) (kT _) ?_)<;>try simp only[*,AA k183_0.eq_1,go_sem])
 all_goals (refine tb h (by first|exact⟨_,rfl⟩|exact⟨[],(List.append_nil _).symm⟩|exact hx|exact hx.app _) ?_;first|(simp only[FC, *,bs,go_sem];done)|(simp_all[FC];done)|(simp_all[FC];omega)|grind[FC])
theorem SO{c:Bh}{fr to:Int}(hS:H[oS]?=some (.AU 5 (s.AE.map Slot.cells) rS))(hT:H[oT]?=some (.AU 13 (s.AB.map AN.cells) rT))
 (h:Dj s fr to c≠0→K (.Bj [stA s oS oT fS fT,.int .i64 (Dj s fr to c)]) H) (h':Dj s fr to c=0→K (.Bj [BT (CW s fr to c) H.length (H.length+1) false false,.int .i64 0]) (H++[AM (CW s fr to c),AJ (CW s fr to c)])):
 AF Tryz.prog 149 [stA s oS oT fS fT,.int .i64 fr,.int .i64 to,.agg c.cells] H K:=by
 have kT:=AL.of hT
 have kS:=AL.of hS
 have hg:¬fr<0→¬(s.AE.length:Int)≤fr→(0≤fr)=True∧(fr<(s.AE.length:Int))=True:=fun h1 h2=>⟨eq_true (by omega),eq_true (by omega)⟩
 have hg1:¬fr<0→¬(s.AE.length:Int)≤fr→_:=fun h1 h2=>A4 (s:=s) (k:=fr.toNat) (by omega)
 have hg2:¬to<0→¬(s.AE.length:Int)≤to→(0≤to)=True∧(to<(s.AE.length:Int))=True:=fun h1 h2=>⟨eq_true (by omega),eq_true (by omega)⟩
 have hg3:¬to<0→¬(s.AE.length:Int)≤to→_:=fun h1 h2=>A4 (s:=s) (k:=to.toNat) (by omega)
 have key:∀e,Dj s fr to c=e→e≠0→K (.Bj [stA s oS oT fS fT,.int .i64 e]) H:=fun e he hn=>he▸h (he▸hn)
 have hv:=fun e=>show(AH.Bj [stA s oS oT fS fT,.int .i64 e]).refs (fun o=>o<H.length) by simp[AH.refs,Ay];exact⟨Am hS,Am hT⟩
 clear h
 refine AF.gc ?_
 unfold Bh.cells
 refine Aa ok149 ?_;(try simp only[c149,w149,kS,kT,hg,hg1,hg2,hg3,go_sem]);repeat' ((first|refine orR ?_|(refine sp ?_ ?_<;>intro hc)|refine AW (kS _) (kT _) ?_|refine Mj ?_|refine Dx ?_|refine OU (kS _) (kT _) ?_|refine Px ?_|refine LG (c:=c) (kS _) (kT _) ?_)<;>try simp only[*,w149,go_sem])
 case' refine_2.refine_1.refine_1.refine_1.refine_1.refine_1.refine_2.refine_2.refine_2.refine_2.refine_2.refine_2.refine_2=>
  have e:Dj s fr to c=0:=by(first|(simp only[Dj, *,bs,go_sem];done)|(simp_all[Dj];done)|(simp_all[Dj];omega)|grind[Dj])
  have h':=h' e
  clear key
  (try simp only[w149,kS,kT,hg,hg1,hg2,hg3,BT,AM,AJ,Qc,go_sem]);repeat' ((first|refine orR ?_|(refine sp ?_ ?_<;>intro hc)|refine A3 (kS _) (kT _) (FL (by assumption)) (Gm (by assumption)) (DL (by assumption)) (DM (by assumption)) ?_)<;>try simp only[*,w149,BT,AM,AJ,Qc,go_sem])
  have el:(CW s fr to c).AE.length=s.AE.length:=by simp[CW]
  rw[←el]
  exact Gc.stateT (s:=CW s fr to c) (i:=3) (j:=4) (by simp only[AM,CW,←Jx];rfl) rfl (by decide) (by simp[AH.plain]) h'
 all_goals exact Gc.Cd (hv _) (key _ (by(first|(simp only[Dj, *,bs,go_sem];done)|(simp_all[Dj];done)|(simp_all[Dj];omega)|grind[Dj])) (by decide))
theorem P9{x0 x1 x2 x3 fr to:Int}(hS:H[oS]?=some (.AU 5 (s.AE.map Slot.cells) rS))(hT:H[oT]?=some (.AU 13 (s.AB.map AN.cells) rT))
 (h:Dj s fr to ⟨x0,x1,x2,x3⟩≠0→K (.Bj [stA s oS oT fS fT,.int .i64 (Dj s fr to ⟨x0,x1,x2,x3⟩)]) H)
 (h':Dj s fr to ⟨x0,x1,x2,x3⟩=0→K (.Bj [BT (CW s fr to ⟨x0,x1,x2,x3⟩) H.length (H.length+1) false false,.int .i64 0]) (H++[AM (CW s fr to ⟨x0,x1,x2,x3⟩),AJ (CW s fr to ⟨x0,x1,x2,x3⟩)])):
 AF Tryz.prog 149 [stA s oS oT fS fT,.int .i64 fr,.int .i64 to,.agg [.int .i64 x0,.int .i64 x1,.int .i64 x2,.int .i64 x3]] H K:=SO (c:=⟨x0,x1,x2,x3⟩) hS hT h h'
theorem DX{fr to:Int}{c:Bh}:(CW s fr to c).AB=s.AB:=rfl
theorem F1{fr to:Int}{c:Bh}:(CW s fr to c).AS=s.AS:=rfl
theorem D0{fr to:Int}{c:Bh}:(CW s fr to c).AE.length=s.AE.length:=by simp[CW]
end
end Go.Proofs.YtlaipllgmddkiaaGreat.Ax
namespace Go.Ax.M
open Go Go.Ax
def B5(s:State)(c:Call):Bool:=decide (100<(s.AE.length:Int))||(decide (50<(s.AB.length:Int))||(decide (10<(c.a.length:Int))||decide (10<(c.b.length:Int))))
theorem Gc.Jg{H L:AP}{K:AH→AP→Prop}{r:Option State}{s':State}{i j n m:Nat}{x0 x1 x2:Int}{l:List AH}(hi:L[i]?=some (AM s'))(hj:L[j]?=some (AJ s'))
 (h:∀s',r=some s'→K (.Bj (BT s' H.length (H.length+1) false false::l)) (H++[AM s',AJ s'])) (hij:i≠j:=by decide) (hl:∀a∈l,a.plain=true:=by simp[AH.plain,Ah])
 (hn:n=s'.AE.length) (hm:m=s'.AB.length) (hg:x0=s'.AS.AI∧x1=s'.AS.AE∧x2=s'.AS.AB:=by exact⟨rfl,rfl,rfl⟩) (e:r=some s'):
 Gc H K (.Bj (.agg [.int .i64 x0,.int .i64 x1,.int .i64 x2,.slice (H.length+i) n 0 n false,.slice (H.length+j) m 0 m false]::l)) (H++L):=by
 subst hn hm
 obtain⟨rfl,rfl,rfl⟩:=hg
 exact Gc.stateT hi hj hij hl (h _ e)
end Go.Ax.M
namespace Go.Proofs.YtlaipllgmddkiaaGreat.Ax
open Go Go.Ax Go.Ax.M
def CF(f:FuncId)(D:State→Int→M.Call→CD):Prop:=∀{H:AP} {K:AH→AP→Prop} {s:State} {th:Int} {c:M.Call} {oS oT oA oB:Nat} {fS fT rS rT fA fB rA rB:Bool},
 H[oS]?=some (.AU 5 (s.AE.map Slot.cells) rS)→H[oT]?=some (.AU 13 (s.AB.map AN.cells) rT)→H[oA]?=some (.AU 1 (ints c.a) rA)→H[oB]?=some (.AU 1 (ints c.b) rB)→
 ((D s th c).st=none→K (.Bj [.agg [.int .i64 s.AS.AI,.int .i64 s.AS.AE,.int .i64 s.AS.AB,.slice oS s.AE.length 0 s.AE.length fS,.slice oT s.AB.length 0 s.AB.length fT],(D s th c).Ap]) H)→(∀s',(D s th c).st=some s'→K (.Bj [BT s' H.length (H.length+1) false false,(D s th c).Ap]) (H++[AM s',AJ s']))→
 AF Tryz.prog f [.agg [.int .i64 s.AS.AI,.int .i64 s.AS.AE,.int .i64 s.AS.AB,.slice oS s.AE.length 0 s.AE.length fS,.slice oT s.AB.length 0 s.AB.length fT],.int .i64 th,.agg [.int .i64 c.op,.slice oA c.a.length 0 c.a.length fA,.slice oB c.b.length 0 c.b.length fB,.int .i64 c.x,.int .i64 c.y,.int .u64 c.w]] H K
section
variable {f:FuncId}{D:State→Int→M.Call→CD}{H:AP}{K:AH→AP→Prop}{s:State}{th:Int}{c:M.Call}{oS oT oA oB:Nat}{fS fT rS rT fA fB rA rB:Bool}
theorem CF.B8(d:CF f D){e w n:Int}(hr:D s th c=⟨e,w,n,none⟩)(hS:H[oS]?=some (.AU 5 (s.AE.map Slot.cells) rS))(hT:H[oT]?=some (.AU 13 (s.AB.map AN.cells) rT))(hA:H[oA]?=some (.AU 1 (ints c.a) rA))(hB:H[oB]?=some (.AU 1 (ints c.b) rB))
 (h:K (.Bj [.agg [.int .i64 s.AS.AI,.int .i64 s.AS.AE,.int .i64 s.AS.AB,.slice oS s.AE.length 0 s.AE.length fS,.slice oT s.AB.length 0 s.AB.length fT],.agg [.int .i64 e,.int .u64 w,.int .i64 n]]) H):AF Tryz.prog f [.agg [.int .i64 s.AS.AI,.int .i64 s.AS.AE,.int .i64 s.AS.AB,.slice oS s.AE.length 0 s.AE.length fS,.slice oT s.AB.length 0 s.AB.length fT],.int .i64 th,.agg [.int .i64 c.op,.slice oA c.a.length 0 c.a.length fA,.slice oB c.b.length 0 c.b.length fB,.int .i64 c.x,.int .i64 c.y,.int .u64 c.w]] H K:=
 d hS hT hA hB (by rw[hr];intro _;exact h) (by rw[hr];intro s2 h2;cases h2)
theorem CF.nil(d:CF f D){op x y w:Int}{a:List Int}(hS:H[oS]?=some (.AU 5 (s.AE.map Slot.cells) rS))(hT:H[oT]?=some (.AU 13 (s.AB.map AN.cells) rT))(hA:H[oA]?=some (.AU 1 (ints a) rA))
 (h:(D s th ⟨op,a,[],x,y,w⟩).st=none→K (.Bj [.agg [.int .i64 s.AS.AI,.int .i64 s.AS.AE,.int .i64 s.AS.AB,.slice oS s.AE.length 0 s.AE.length fS,.slice oT s.AB.length 0 s.AB.length fT],(D s th ⟨op,a,[],x,y,w⟩).Ap]) H)
 (h':∀s',(D s th ⟨op,a,[],x,y,w⟩).st=some s'→K (.Bj [BT s' H.length (H.length+1) false false,(D s th ⟨op,a,[],x,y,w⟩).Ap]) (H++[AM s',AJ s'])):
 AF Tryz.prog f [.agg [.int .i64 s.AS.AI,.int .i64 s.AS.AE,.int .i64 s.AS.AB,.slice oS s.AE.length 0 s.AE.length fS,.slice oT s.AB.length 0 s.AB.length fT],.int .i64 th,.agg [.int .i64 op,.slice oA a.length 0 a.length fA,.lit (.slice none 0 0),.int .i64 x,.int .i64 y,.int .u64 w]] H K:=by
 refine AF.gc (AF.lay 1 ?_)
 simp only[Go.Ax.D9,Go.Ax.E9,go_sem]
 have kS:=AL.of hS
 have kT:=AL.of hT
 have kA:=AL.of hA
 refine d (c:=⟨op,a,[],x,y,w⟩) (oB:=H.length) (rB:=false) (kS _) (kT _) (kA _) BH (fun e=>Gc.Cd ?_ (h e)) (fun s' e=> ?_)
 ·simp only[CD.Ap,AH.refs,Ay]
  exact⟨⟨trivial,trivial,trivial,Am hS,Am hT,trivial⟩,⟨trivial,trivial,trivial,trivial⟩,trivial⟩
 ·have:=Gc.stateT (H:=H) (L:= .AU 1 [] false::[AM s',AJ s']) (K:=K) (i:=1) (j:=2) (s:=s') (f:=false) (f':=false) (l:=[(D s th ⟨op,a,[],x,y,w⟩).Ap]) rfl rfl (by decide) (by simp[AH.plain,Ah,CD.Ap]) (h' s' e)
  simpa [List.append_assoc,Nat.add_assoc] using this
end
end Go.Proofs.YtlaipllgmddkiaaGreat.Ax
namespace Go.Ax
end Go.Ax
namespace Go.Proofs.YtlaipllgmddkiaaGreat.Ax
open Go Go.Ax Go.Ax.M
section
variable {H:AP}{K:AH→AP→Prop}{up:List Int}{o:Nat}{fl ro:Bool}
end
end Go.Proofs.YtlaipllgmddkiaaGreat.Ax
namespace Go.Ax.M
open Go Go.Ax
def ER(s:State)(fr to:Int)(k:Nat):List AN:=(List.range s.AB.length).map fun i=>if i<k then C3 fr to (s.AG i)else s.AG i
theorem TS{s:State}{fr to:Int}{k:Nat}:(ER s fr to k).length=s.AB.length:=by simp[ER]
theorem Rx{s:State}{fr to:Int}:ER s fr to 0=s.AB:=by
 apply Qa (by simp[ER])
 intro i h1 h2
 simp[ER,State.AG,Qd,h2]
theorem TQ{s:State}{fr to:Int}:ER s fr to s.AB.length=(B9 s fr to).AB:=by
 apply Qa (by simp[ER,B9])
 intro i h1 h2
 have h3:i<s.AB.length:=by simpa [ER] using h1
 simp[ER,B9,State.AG,Qd,h3]
theorem TR{s:State}{fr to:Int}{k:Nat}(h:k<s.AB.length):((ER s fr to k).map AN.cells)[k]?=some [.int .i64 (s.AG k).ty,.int .i64 (s.AG k).bits,.int .i64 (s.AG k).base,.int .i64 (s.AG k).size,.int .i64 (s.AG k).used,.int .i64 (s.AG k).from_,.int .i64 (s.AG k).BF,.bool (s.AG k).full,.int .u64 (s.AG k).word,.int .u64 (s.AG k).d0,.int .u64 (s.AG k).d1,.int .u64 (s.AG k).d2,.int .u64 (s.AG k).d3]:=by
 simp[ER,h,AN.cells]
theorem Rw{s:State}{fr to:Int}{k:Nat}(h:k<s.AB.length):ER s fr to (k+1)=(ER s fr to k).set k (C3 fr to (s.AG k)):=by
 apply Qa (by simp[ER])
 intro i h1 h2
 have h3:i<s.AB.length:=by simpa [ER] using h1
 rw[Qb]
 by_cases e:k=i
 ·subst e;simp[ER]
 ·rw[if_neg e]
  simp only[ER,List.getElem_map,List.getElem_range]
  by_cases e2:i<k
  ·rw[if_pos e2,if_pos (by omega)]
  ·rw[if_neg e2,if_neg (by omega)]
theorem Rv{s:State}{fr to:Int}{k:Nat}(h:k<s.AB.length)(hn:¬(s.AG k).from_=fr+1):ER s fr to (k+1)=ER s fr to k:=by
 rw[Rw h,show C3 fr to (s.AG k)=s.AG k by simp[C3,hn]]
 apply Qa (by simp)
 intro i h1 h2
 rw[Qb]
 by_cases e:k=i
 ·subst e;simp[ER]
 ·rw[if_neg e]
theorem TT{s:State}{fr to:Int}{k:Nat}(h:k<s.AB.length)(hn:(s.AG k).from_=fr+1):((ER s fr to k).map AN.cells).set k [.int .i64 (s.AG k).ty,.int .i64 (s.AG k).bits,.int .i64 (s.AG k).base,.int .i64 (s.AG k).size,.int .i64 (s.AG k).used,.int .i64 (to+1),.int .i64 (s.AG k).BF,.bool (s.AG k).full,.int .u64 (s.AG k).word,.int .u64 (s.AG k).d0,.int .u64 (s.AG k).d1,.int .u64 (s.AG k).d2,.int .u64 (s.AG k).d3]=(ER s fr to (k+1)).map AN.cells:=by
 rw[Rw h,List.map_set]
 congr 1
 simp[C3,hn,AN.cells]
end Go.Ax.M
namespace Go.Proofs.YtlaipllgmddkiaaGreat.Ax
open Go Go.Ax Go.Ax.M
section
variable {H:AP}{K:AH→AP→Prop}{s:State}{oS oT:Nat}{fS fT rS rT:Bool}
end
end Go.Proofs.YtlaipllgmddkiaaGreat.Ax
