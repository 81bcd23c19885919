/- Texts put behind one another: SGive, SDo, SForest2, SGive2. Conditions: none. -/
import Derived.Test.YtlaipllgmddkiaaGreatZFi
import Derived.Test.YtlaipllgmddkiaaGreatZMo
import Derived.Test.YtlaipllgmddkiaaGreatZC2
import Derived.Test.YtlaipllgmddkiaaGreatZSt
import Derived.Test.YtlaipllgmddkiaaGreatZPu
set_option linter.all false
open List renaming ext_getElem → Qa, getElem_set → Qb, getD → Qc
namespace Go.Proofs.YtlaipllgmddkiaaGreat.Ax
open Go Go.Ax Go.Ax.M
section
variable {H:AP}{K:AH→AP→Prop}{s:State}{oS oT:Nat}{fS fT rS rT:Bool}
theorem DL{s:State}(h:BN s=true):0<s.AE.length:=by have:=(F7 h).lS;omega
theorem DM{s:State}(h:BN s=true):0<s.AB.length:=by have:=(F7 h).lT;omega
theorem DX{fr to:Int}{c:Bh}:(CW s fr to c).AB=s.AB:=rfl
theorem F1{fr to:Int}{c:Bh}:(CW s fr to c).AS=s.AS:=rfl
theorem D0{fr to:Int}{c:Bh}:(CW s fr to c).AE.length=s.AE.length:=by simp[CW]
end
end Go.Proofs.YtlaipllgmddkiaaGreat.Ax
namespace Go.Ax.M
open Go Go.Ax
def B5(s:State)(c:Call):Bool:=decide (100<(s.AE.length:Int))||(decide (50<(s.AB.length:Int))||(decide (10<(c.a.length:Int))||decide (10<(c.b.length:Int))))
theorem Gc.Jg{H L:AP}{K:AH→AP→Prop}{r:Option State}{s':State}{i j n m:Nat}{x0 x1 x2:Int}{l:List AH}(hi:L[i]?=some (AM s'))(hj:L[j]?=some (AJ s'))
 (h:∀s',r=some s'→K (.Bj (BT s' H.length (H.length+1) false false::l)) (H++[AM s',AJ s'])) (hij:i≠j:=by decide) (hl:∀a∈l,a.plain=true:=by simp[AH.plain,Ah])
 (hn:n=s'.AE.length) (hm:m=s'.AB.length) (hg:x0=s'.AS.AI∧x1=s'.AS.AE∧x2=s'.AS.AB:=by exact⟨rfl,rfl,rfl⟩) (e:r=some s'):
 Gc H K (.Bj (.agg [.int .i64 x0,.int .i64 x1,.int .i64 x2,.slice (H.length+i) n 0 n false,.slice (H.length+j) m 0 m false]::l)) (H++L):=by
 subst hn hm
 obtain⟨rfl,rfl,rfl⟩:=hg
 exact Gc.stateT hi hj hij hl (h _ e)
end Go.Ax.M
namespace Go.Proofs.YtlaipllgmddkiaaGreat.Ax
open Go Go.Ax Go.Ax.M
def CF(f:FuncId)(D:State→Int→M.Call→CD):Prop:=∀{H:AP} {K:AH→AP→Prop} {s:State} {th:Int} {c:M.Call} {oS oT oA oB:Nat} {fS fT rS rT fA fB rA rB:Bool},
 H[oS]?=some (.AU 5 (s.AE.map Slot.cells) rS)→H[oT]?=some (.AU 13 (s.AB.map AN.cells) rT)→H[oA]?=some (.AU 1 (ints c.a) rA)→H[oB]?=some (.AU 1 (ints c.b) rB)→
 ((D s th c).st=none→K (.Bj [.agg [.int .i64 s.AS.AI,.int .i64 s.AS.AE,.int .i64 s.AS.AB,.slice oS s.AE.length 0 s.AE.length fS,.slice oT s.AB.length 0 s.AB.length fT],(D s th c).Ap]) H)→(∀s',(D s th c).st=some s'→K (.Bj [BT s' H.length (H.length+1) false false,(D s th c).Ap]) (H++[AM s',AJ s']))→
 AF Tryz.prog f [.agg [.int .i64 s.AS.AI,.int .i64 s.AS.AE,.int .i64 s.AS.AB,.slice oS s.AE.length 0 s.AE.length fS,.slice oT s.AB.length 0 s.AB.length fT],.int .i64 th,.agg [.int .i64 c.op,.slice oA c.a.length 0 c.a.length fA,.slice oB c.b.length 0 c.b.length fB,.int .i64 c.x,.int .i64 c.y,.int .u64 c.w]] H K
section
variable {f:FuncId}{D:State→Int→M.Call→CD}{H:AP}{K:AH→AP→Prop}{s:State}{th:Int}{c:M.Call}{oS oT oA oB:Nat}{fS fT rS rT fA fB rA rB:Bool}
theorem CF.Zy(d:CF f D){e w n:Int}{s':State}(hr:D s th c=⟨e,w,n,some s'⟩)(hS:H[oS]?=some (.AU 5 (s.AE.map Slot.cells) rS))(hT:H[oT]?=some (.AU 13 (s.AB.map AN.cells) rT))(hA:H[oA]?=some (.AU 1 (ints c.a) rA))(hB:H[oB]?=some (.AU 1 (ints c.b) rB))
 (h:K (.Bj [BT s' H.length (H.length+1) false false,.agg [.int .i64 e,.int .u64 w,.int .i64 n]]) (H++[AM s',AJ s'])):AF Tryz.prog f [.agg [.int .i64 s.AS.AI,.int .i64 s.AS.AE,.int .i64 s.AS.AB,.slice oS s.AE.length 0 s.AE.length fS,.slice oT s.AB.length 0 s.AB.length fT],.int .i64 th,.agg [.int .i64 c.op,.slice oA c.a.length 0 c.a.length fA,.slice oB c.b.length 0 c.b.length fB,.int .i64 c.x,.int .i64 c.y,.int .u64 c.w]] H K:=
 d hS hT hA hB (by rw[hr];intro h;cases h) (by rw[hr];intro s2 h2;injection h2 with h2;subst h2;exact h)
theorem CF.B8(d:CF f D){e w n:Int}(hr:D s th c=⟨e,w,n,none⟩)(hS:H[oS]?=some (.AU 5 (s.AE.map Slot.cells) rS))(hT:H[oT]?=some (.AU 13 (s.AB.map AN.cells) rT))(hA:H[oA]?=some (.AU 1 (ints c.a) rA))(hB:H[oB]?=some (.AU 1 (ints c.b) rB))
 (h:K (.Bj [.agg [.int .i64 s.AS.AI,.int .i64 s.AS.AE,.int .i64 s.AS.AB,.slice oS s.AE.length 0 s.AE.length fS,.slice oT s.AB.length 0 s.AB.length fT],.agg [.int .i64 e,.int .u64 w,.int .i64 n]]) H):AF Tryz.prog f [.agg [.int .i64 s.AS.AI,.int .i64 s.AS.AE,.int .i64 s.AS.AB,.slice oS s.AE.length 0 s.AE.length fS,.slice oT s.AB.length 0 s.AB.length fT],.int .i64 th,.agg [.int .i64 c.op,.slice oA c.a.length 0 c.a.length fA,.slice oB c.b.length 0 c.b.length fB,.int .i64 c.x,.int .i64 c.y,.int .u64 c.w]] H K:=
 d hS hT hA hB (by rw[hr];intro _;exact h) (by rw[hr];intro s2 h2;cases h2)
theorem CF.nil(d:CF f D){op x y w:Int}{a:List Int}(hS:H[oS]?=some (.AU 5 (s.AE.map Slot.cells) rS))(hT:H[oT]?=some (.AU 13 (s.AB.map AN.cells) rT))(hA:H[oA]?=some (.AU 1 (ints a) rA))
 (h:(D s th ⟨op,a,[],x,y,w⟩).st=none→K (.Bj [.agg [.int .i64 s.AS.AI,.int .i64 s.AS.AE,.int .i64 s.AS.AB,.slice oS s.AE.length 0 s.AE.length fS,.slice oT s.AB.length 0 s.AB.length fT],(D s th ⟨op,a,[],x,y,w⟩).Ap]) H)
 (h':∀s',(D s th ⟨op,a,[],x,y,w⟩).st=some s'→K (.Bj [BT s' H.length (H.length+1) false false,(D s th ⟨op,a,[],x,y,w⟩).Ap]) (H++[AM s',AJ s'])):
 AF Tryz.prog f [.agg [.int .i64 s.AS.AI,.int .i64 s.AS.AE,.int .i64 s.AS.AB,.slice oS s.AE.length 0 s.AE.length fS,.slice oT s.AB.length 0 s.AB.length fT],.int .i64 th,.agg [.int .i64 op,.slice oA a.length 0 a.length fA,.lit (.slice none 0 0),.int .i64 x,.int .i64 y,.int .u64 w]] H K:=by
 refine AF.gc (AF.lay 1 ?_)
 simp only[Go.Ax.D9,Go.Ax.E9,go_sem]
 have kS:=AL.of hS
 have kT:=AL.of hT
 have kA:=AL.of hA
 refine d (c:=⟨op,a,[],x,y,w⟩) (oB:=H.length) (rB:=false) (kS _) (kT _) (kA _) BH (fun e=>Gc.Cd ?_ (h e)) (fun s' e=> ?_)
 ·simp only[CD.Ap,AH.refs,Ay]
  exact⟨⟨trivial,trivial,trivial,Am hS,Am hT,trivial⟩,⟨trivial,trivial,trivial,trivial⟩,trivial⟩
 ·have:=Gc.stateT (H:=H) (L:= .AU 1 [] false::[AM s',AJ s']) (K:=K) (i:=1) (j:=2) (s:=s') (f:=false) (f':=false) (l:=[(D s th ⟨op,a,[],x,y,w⟩).Ap]) rfl rfl (by decide) (by simp[AH.plain,Ah,CD.Ap]) (h' s' e)
  simpa [List.append_assoc,Nat.add_assoc] using this
end
end Go.Proofs.YtlaipllgmddkiaaGreat.Ax
namespace Go.Ax
end Go.Ax
namespace Go.Proofs.YtlaipllgmddkiaaGreat.Ax
open Go Go.Ax Go.Ax.M
section
variable {H:AP}{K:AH→AP→Prop}{up:List Int}{o:Nat}{fl ro:Bool}
theorem Dh{i:Int}(ho:H[o]?=some (.AU 1 (ints up) ro))(h:K (.bool (GU up i)) H):AF Tryz.prog 188 [.agg [.slice o up.length 0 up.length fl],.int .i64 i] H K:=by
 have k1:=AL.of ho
 refine AF.tidy ?_
 refine Aa ok188 ?_;(try simp only[c188,AA k188_0.eq_1,go_sem]);repeat' ((first|refine orR ?_|(refine sp ?_ ?_<;>intro hc)|refine Jm (k1 _) ?_|refine EV (k1 _) ?_)<;>try simp only[*,AA k188_0.eq_1,go_sem])
 all_goals (refine tb h (by first|exact⟨_,rfl⟩|exact⟨[],(List.append_nil _).symm⟩|exact hx|exact hx.app _) ?_;first|(simp only[GU, *,bs,go_sem];done)|(simp_all[GU];done)|(simp_all[GU];omega)|grind[GU])
theorem FJ{i:Int}(ho:H[o]?=some (.AU 1 (ints up) ro))(hlen:up.length≤1000)(h:K (.slice H.length (GV up i).length 0 (GV up i).length false) (H++[.AU 1 (ints (GV up i)) false])):AF Tryz.prog 235 [.agg [.slice o up.length 0 up.length fl],.int .i64 i] H K:=by
 have k1:=AL.of ho
 refine AF.gc ?_
 obtain⟨p,hp⟩:∃p:Nat→Bool,∀k,p k=decide (up.getD k 0=i):=⟨fun k=>decide (up.getD k 0=i),fun _=>rfl⟩
 have hfo:GV up i=pick p up.length:=by simp only[GV];congr 1;funext k;exact(hp k).symm
 rw[hfo]at h
 refine Aa ok235 ?_;(try simp only[c235,w235,k1,go_sem]);repeat' ((first|refine orR ?_|(refine sp ?_ ?_<;>intro hc)|fail)<;>try simp only[*,w235,go_sem])
 refine AK.Az [5,11,1,9,10] ?_;simp only[mpC,go_sem]
 refine AK.lay 1 ?_
 simp only[go_sem]
 refine AK.acc (fun k G=>[(5,.slice (H.length+1) (pick p k).length 0 (pick p k).length false),(11,.int .i64 (k:Int))]) (fun k G=>H++_:: .AU 1 (ints (pick p k)) false::G) (fun k G=>True) up.length ?_ (a0:=[]) trivial
 intro k G hk _ next
 refine AK.Jn fun W hW=> ?_
 have k1:=k1.ex hW.ex
 have kst:=hW.EQ
 have ko:=hW.Hx
 have k10:=k1.at
 have kst0:=kst.at
 have ko0:=ko.at
 have kos:=ko.set
 have hb:((pick p k).length+1)* 8≤140737488355328:=by have:=GO (p:=p) (k:=k);omega
 refine AK.unfold ?_
 have hw:=AY (k:=k) (by omega)
 have hg:k<up.length→_:=fun h=>Bt (l:=up) (k:=k) h
 clear hfo
 (try simp only[w235,hg,hw,kos,AA b235_3.eq_1,AR,AX,apC,go_sem]);repeat' ((first|refine orR ?_|(refine sp ?_ ?_<;>intro hc)|fail)<;>try simp only[*,w235,AA b235_3.eq_1,AR,AX,apC,go_sem])
 case' refine_2=>
  have hk':k=up.length:=by omega
  have hW:W=_:=hW
  subst hk' hW
  exact Gc.slice (i:=1) rfl Ca h
 case' refine_1.refine_1=>have e:=UG (p:=p) (k:=k) (by rw[hp];exact decide_eq_true (by assumption))
 case' refine_1.refine_2=>have e:=OL (p:=p) (k:=k) (by rw[hp];exact decide_eq_false (by assumption))
 all_goals
  have hW:W=_:=hW
  subst hW
  simp only[e,Dn,GI,go_sem]at next
  (refine AK.Az [5,11,1,9,10] ?_;simp only[mpC,go_sem];refine next _ (by assumption))
theorem N7{i:Int}(ho:H[o]?=some (.AU 1 (ints up) ro))(hlen:up.length≤1000)(h:GU up i=false→K (.lit (.slice none 0 0)) H)(h':GU up i=true→K (.slice H.length (GV up i).length 0 (GV up i).length false) (H++[.AU 1 (ints (GV up i)) false])):AF Tryz.prog 221 [.agg [.slice o up.length 0 up.length fl],.int .i64 i] H K:=by
 have k1:=AL.of ho
 refine AF.gc ?_
 refine Aa ok221 ?_;(try simp only[c221,w221,Nat.add_assoc,go_sem]);repeat' ((first|refine orR ?_|(refine sp ?_ ?_<;>intro hc)|refine Dh (k1 _) ?_|refine FJ (k1 _) hlen ?_)<;>try simp only[*,w221,Nat.add_assoc,go_sem])
 ·exact Gc.Cd (by simp[AH.refs]) (h (by assumption))
 ·exact Gc.slice (i:=1) rfl Ca (h' (by assumption))
end
end Go.Proofs.YtlaipllgmddkiaaGreat.Ax
namespace Go.Ax.M
open Go Go.Ax
def ER(s:State)(fr to:Int)(k:Nat):List AN:=(List.range s.AB.length).map fun i=>if i<k then C3 fr to (s.AG i)else s.AG i
theorem TS{s:State}{fr to:Int}{k:Nat}:(ER s fr to k).length=s.AB.length:=by simp[ER]
theorem Rx{s:State}{fr to:Int}:ER s fr to 0=s.AB:=by
 apply Qa (by simp[ER])
 intro i h1 h2
 simp[ER,State.AG,Qc,h2]
theorem TQ{s:State}{fr to:Int}:ER s fr to s.AB.length=(B9 s fr to).AB:=by
 apply Qa (by simp[ER,B9])
 intro i h1 h2
 have h3:i<s.AB.length:=by simpa [ER] using h1
 simp[ER,B9,State.AG,Qc,h3]
theorem TR{s:State}{fr to:Int}{k:Nat}(h:k<s.AB.length):((ER s fr to k).map AN.cells)[k]?=some [.int .i64 (s.AG k).ty,.int .i64 (s.AG k).bits,.int .i64 (s.AG k).base,.int .i64 (s.AG k).size,.int .i64 (s.AG k).used,.int .i64 (s.AG k).from_,.int .i64 (s.AG k).BF,.bool (s.AG k).full,.int .u64 (s.AG k).word,.int .u64 (s.AG k).d0,.int .u64 (s.AG k).d1,.int .u64 (s.AG k).d2,.int .u64 (s.AG k).d3]:=by
 simp[ER,h,AN.cells]
theorem Rw{s:State}{fr to:Int}{k:Nat}(h:k<s.AB.length):ER s fr to (k+1)=(ER s fr to k).set k (C3 fr to (s.AG k)):=by
 apply Qa (by simp[ER])
 intro i h1 h2
 have h3:i<s.AB.length:=by simpa [ER] using h1
 rw[Qb]
 by_cases e:k=i
 ·subst e;simp[ER]
 ·rw[if_neg e]
  simp only[ER,List.getElem_map,List.getElem_range]
  by_cases e2:i<k
  ·rw[if_pos e2,if_pos (by omega)]
  ·rw[if_neg e2,if_neg (by omega)]
theorem Rv{s:State}{fr to:Int}{k:Nat}(h:k<s.AB.length)(hn:¬(s.AG k).from_=fr+1):ER s fr to (k+1)=ER s fr to k:=by
 rw[Rw h,show C3 fr to (s.AG k)=s.AG k by simp[C3,hn]]
 apply Qa (by simp)
 intro i h1 h2
 rw[Qb]
 by_cases e:k=i
 ·subst e;simp[ER]
 ·rw[if_neg e]
theorem TT{s:State}{fr to:Int}{k:Nat}(h:k<s.AB.length)(hn:(s.AG k).from_=fr+1):((ER s fr to k).map AN.cells).set k [.int .i64 (s.AG k).ty,.int .i64 (s.AG k).bits,.int .i64 (s.AG k).base,.int .i64 (s.AG k).size,.int .i64 (s.AG k).used,.int .i64 (to+1),.int .i64 (s.AG k).BF,.bool (s.AG k).full,.int .u64 (s.AG k).word,.int .u64 (s.AG k).d0,.int .u64 (s.AG k).d1,.int .u64 (s.AG k).d2,.int .u64 (s.AG k).d3]=(ER s fr to (k+1)).map AN.cells:=by
 rw[Rw h,List.map_set]
 congr 1
 simp[C3,hn,AN.cells]
end Go.Ax.M
namespace Go.Proofs.YtlaipllgmddkiaaGreat.Ax
open Go Go.Ax Go.Ax.M
section
variable {H:AP}{K:AH→AP→Prop}{s:State}{oS oT:Nat}{fS fT rS rT:Bool}
end
end Go.Proofs.YtlaipllgmddkiaaGreat.Ax
