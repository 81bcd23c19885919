/- Texts put behind one another: SGive, SDo, SForest2, SGive2. Conditions: none. -/
import Derived.Test.YtlaipllgmddkiaaGreatZFi
import Derived.Test.YtlaipllgmddkiaaGreatZMo
import Derived.Test.YtlaipllgmddkiaaGreatZC3
import Derived.Test.YtlaipllgmddkiaaGreatZSt
import Derived.Test.YtlaipllgmddkiaaGreatZPu
set_option linter.all false
open Nat renaming add_assoc → Qa
open List renaming length_set → Qb, getElem?_eq_none → Qc, getElem?_set_ne → Qe, getElem?_set_self → Qf, ext_getElem → Qg, length_map → Qh, ext_getElem? → Qk, getD → Ql, getElem_set → Qm, append_nil → Qn, mem_range → Qo, map_set → Qp, range → Qq
open Int renaming toNat_natCast → Qd
open Bool renaming and_eq_true → Qi, not_eq_true' → Qj
namespace Go.Proofs.YtlaipllgmddkiaaGreat.Ax
open Go Go.Ax Go.Ax.M
section
variable {H:AP}{K:AH→AP→Prop}{s:State}{oS oT:Nat}{fS fT rS rT:Bool}
theorem DL{s:State}(h:BN s=true):0<s.AE.length:=by have:=(F7 h).lS;omega
theorem DM{s:State}(h:BN s=true):0<s.AB.length:=by have:=(F7 h).lT;omega
theorem LG{c:Bh}{to:Int}(hS:H[oS]?=some (.AU 5 (s.AE.map Slot.cells) rS))(hT:H[oT]?=some (.AU 13 (s.AB.map AN.cells) rT))(h:K (.bool (FC s c to)) H):AF Tryz.prog 183 [stA s oS oT fS fT,.agg c.cells,.int .i64 to] H K:=by
 have kT:=AL.of hT
 have kS:=AL.of hS
 refine AF.tidy ?_
 unfold Bh.cells
 refine Aa ok183 ?_;(try simp only[c183,AA k183_0.eq_1,go_sem]);repeat' ((first|refine orR ?_|(refine sp ?_ ?_<;>intro hc)|refine Ng (kS _) (kT _) ?_)<;>try simp only[*,AA k183_0.eq_1,go_sem])
 all_goals (refine tb h (by first|exact⟨_,rfl⟩|exact⟨[],(Qn _).symm⟩|exact hx|exact hx.app _) ?_;first|(simp only[FC, *,bs,go_sem];done)|(simp_all[FC];done)|(simp_all[FC];omega)|grind[FC])
theorem SO{c:Bh}{fr to:Int}(hS:H[oS]?=some (.AU 5 (s.AE.map Slot.cells) rS))(hT:H[oT]?=some (.AU 13 (s.AB.map AN.cells) rT))
 (h:Dj s fr to c≠0→K (.Bj [stA s oS oT fS fT,.int .i64 (Dj s fr to c)]) H) (h':Dj s fr to c=0→K (.Bj [BT (CW s fr to c) H.length (H.length+1) false false,.int .i64 0]) (H++[AM (CW s fr to c),AJ (CW s fr to c)])):
 AF Tryz.prog 149 [stA s oS oT fS fT,.int .i64 fr,.int .i64 to,.agg c.cells] H K:=by
 have kT:=AL.of hT
 have kS:=AL.of hS
 have hg:¬fr<0→¬(s.AE.length:Int)≤fr→(0≤fr)=True∧(fr<(s.AE.length:Int))=True:=fun h1 h2=>⟨eq_true (by omega),eq_true (by omega)⟩
 have hg1:¬fr<0→¬(s.AE.length:Int)≤fr→_:=fun h1 h2=>A4 (s:=s) (k:=fr.toNat) (by omega)
 have hg2:¬to<0→¬(s.AE.length:Int)≤to→(0≤to)=True∧(to<(s.AE.length:Int))=True:=fun h1 h2=>⟨eq_true (by omega),eq_true (by omega)⟩
 have hg3:¬to<0→¬(s.AE.length:Int)≤to→_:=fun h1 h2=>A4 (s:=s) (k:=to.toNat) (by omega)
 have key:∀e,Dj s fr to c=e→e≠0→K (.Bj [stA s oS oT fS fT,.int .i64 e]) H:=fun e he hn=>he▸h (he▸hn)
 have hv:=fun e=>show(AH.Bj [stA s oS oT fS fT,.int .i64 e]).refs (fun o=>o<H.length) by simp[AH.refs,Ay];exact⟨Am hS,Am hT⟩
 clear h
 refine AF.gc ?_
 unfold Bh.cells
 refine Aa ok149 ?_;(try simp only[c149,w149,kS,kT,hg,hg1,hg2,hg3,go_sem]);repeat' ((first|refine orR ?_|(refine sp ?_ ?_<;>intro hc)|refine AW (kS _) (kT _) ?_|refine Mj ?_|refine Dx ?_|refine OU (kS _) (kT _) ?_|refine Px ?_|refine LG (c:=c) (kS _) (kT _) ?_)<;>try simp only[*,w149,go_sem])
 case' refine_2.refine_1.refine_1.refine_1.refine_1.refine_1.refine_2.refine_2.refine_2.refine_2.refine_2.refine_2.refine_2=>
  have e:Dj s fr to c=0:=by(first|(simp only[Dj, *,bs,go_sem];done)|(simp_all[Dj];done)|(simp_all[Dj];omega)|grind[Dj])
  have h':=h' e
  clear key
  (try simp only[w149,kS,kT,hg,hg1,hg2,hg3,BT,AM,AJ,Qb,go_sem]);repeat' ((first|refine orR ?_|(refine sp ?_ ?_<;>intro hc)|refine A3 (kS _) (kT _) (FL (by assumption)) (Gm (by assumption)) (DL (by assumption)) (DM (by assumption)) ?_)<;>try simp only[*,w149,BT,AM,AJ,Qb,go_sem])
  have el:(CW s fr to c).AE.length=s.AE.length:=by simp[CW]
  rw[←el]
  exact Gc.stateT (s:=CW s fr to c) (i:=3) (j:=4) (by simp only[AM,CW,←Jx];rfl) rfl (by decide) (by simp[AH.plain]) h'
 all_goals exact Gc.Cd (hv _) (key _ (by(first|(simp only[Dj, *,bs,go_sem];done)|(simp_all[Dj];done)|(simp_all[Dj];omega)|grind[Dj])) (by decide))
theorem P9{x0 x1 x2 x3 fr to:Int}(hS:H[oS]?=some (.AU 5 (s.AE.map Slot.cells) rS))(hT:H[oT]?=some (.AU 13 (s.AB.map AN.cells) rT))
 (h:Dj s fr to ⟨x0,x1,x2,x3⟩≠0→K (.Bj [stA s oS oT fS fT,.int .i64 (Dj s fr to ⟨x0,x1,x2,x3⟩)]) H)
 (h':Dj s fr to ⟨x0,x1,x2,x3⟩=0→K (.Bj [BT (CW s fr to ⟨x0,x1,x2,x3⟩) H.length (H.length+1) false false,.int .i64 0]) (H++[AM (CW s fr to ⟨x0,x1,x2,x3⟩),AJ (CW s fr to ⟨x0,x1,x2,x3⟩)])):
 AF Tryz.prog 149 [stA s oS oT fS fT,.int .i64 fr,.int .i64 to,.agg [.int .i64 x0,.int .i64 x1,.int .i64 x2,.int .i64 x3]] H K:=SO (c:=⟨x0,x1,x2,x3⟩) hS hT h h'
theorem DX{fr to:Int}{c:Bh}:(CW s fr to c).AB=s.AB:=rfl
theorem F1{fr to:Int}{c:Bh}:(CW s fr to c).AS=s.AS:=rfl
theorem D0{fr to:Int}{c:Bh}:(CW s fr to c).AE.length=s.AE.length:=by simp[CW]
end
end Go.Proofs.YtlaipllgmddkiaaGreat.Ax
namespace Go.Ax.M
open Go Go.Ax
def B5(s:State)(c:Call):Bool:=decide (100<(s.AE.length:Int))||(decide (50<(s.AB.length:Int))||(decide (10<(c.a.length:Int))||decide (10<(c.b.length:Int))))
theorem Gc.Jg{H L:AP}{K:AH→AP→Prop}{r:Option State}{s':State}{i j n m:Nat}{x0 x1 x2:Int}{l:List AH}(hi:L[i]?=some (AM s'))(hj:L[j]?=some (AJ s'))
 (h:∀s',r=some s'→K (.Bj (BT s' H.length (H.length+1) false false::l)) (H++[AM s',AJ s'])) (hij:i≠j:=by decide) (hl:∀a∈l,a.plain=true:=by simp[AH.plain,Ah])
 (hn:n=s'.AE.length) (hm:m=s'.AB.length) (hg:x0=s'.AS.AI∧x1=s'.AS.AE∧x2=s'.AS.AB:=by exact⟨rfl,rfl,rfl⟩) (e:r=some s'):
 Gc H K (.Bj (.agg [.int .i64 x0,.int .i64 x1,.int .i64 x2,.slice (H.length+i) n 0 n false,.slice (H.length+j) m 0 m false]::l)) (H++L):=by
 subst hn hm
 obtain⟨rfl,rfl,rfl⟩:=hg
 exact Gc.stateT hi hj hij hl (h _ e)
end Go.Ax.M
namespace Go.Proofs.YtlaipllgmddkiaaGreat.Ax
open Go Go.Ax Go.Ax.M
def CF(f:FuncId)(D:State→Int→M.Call→CD):Prop:=∀{H:AP} {K:AH→AP→Prop} {s:State} {th:Int} {c:M.Call} {oS oT oA oB:Nat} {fS fT rS rT fA fB rA rB:Bool},
 H[oS]?=some (.AU 5 (s.AE.map Slot.cells) rS)→H[oT]?=some (.AU 13 (s.AB.map AN.cells) rT)→H[oA]?=some (.AU 1 (ints c.a) rA)→H[oB]?=some (.AU 1 (ints c.b) rB)→
 ((D s th c).st=none→K (.Bj [.agg [.int .i64 s.AS.AI,.int .i64 s.AS.AE,.int .i64 s.AS.AB,.slice oS s.AE.length 0 s.AE.length fS,.slice oT s.AB.length 0 s.AB.length fT],(D s th c).Ap]) H)→(∀s',(D s th c).st=some s'→K (.Bj [BT s' H.length (H.length+1) false false,(D s th c).Ap]) (H++[AM s',AJ s']))→
 AF Tryz.prog f [.agg [.int .i64 s.AS.AI,.int .i64 s.AS.AE,.int .i64 s.AS.AB,.slice oS s.AE.length 0 s.AE.length fS,.slice oT s.AB.length 0 s.AB.length fT],.int .i64 th,.agg [.int .i64 c.op,.slice oA c.a.length 0 c.a.length fA,.slice oB c.b.length 0 c.b.length fB,.int .i64 c.x,.int .i64 c.y,.int .u64 c.w]] H K
section
variable {f:FuncId}{D:State→Int→M.Call→CD}{H:AP}{K:AH→AP→Prop}{s:State}{th:Int}{c:M.Call}{oS oT oA oB:Nat}{fS fT rS rT fA fB rA rB:Bool}
theorem CF.Zy(d:CF f D){e w n:Int}{s':State}(hr:D s th c=⟨e,w,n,some s'⟩)(hS:H[oS]?=some (.AU 5 (s.AE.map Slot.cells) rS))(hT:H[oT]?=some (.AU 13 (s.AB.map AN.cells) rT))(hA:H[oA]?=some (.AU 1 (ints c.a) rA))(hB:H[oB]?=some (.AU 1 (ints c.b) rB))
 (h:K (.Bj [BT s' H.length (H.length+1) false false,.agg [.int .i64 e,.int .u64 w,.int .i64 n]]) (H++[AM s',AJ s'])):AF Tryz.prog f [.agg [.int .i64 s.AS.AI,.int .i64 s.AS.AE,.int .i64 s.AS.AB,.slice oS s.AE.length 0 s.AE.length fS,.slice oT s.AB.length 0 s.AB.length fT],.int .i64 th,.agg [.int .i64 c.op,.slice oA c.a.length 0 c.a.length fA,.slice oB c.b.length 0 c.b.length fB,.int .i64 c.x,.int .i64 c.y,.int .u64 c.w]] H K:=
 d hS hT hA hB (by rw[hr];intro h;cases h) (by rw[hr];intro s2 h2;injection h2 with h2;subst h2;exact h)
theorem CF.B8(d:CF f D){e w n:Int}(hr:D s th c=⟨e,w,n,none⟩)(hS:H[oS]?=some (.AU 5 (s.AE.map Slot.cells) rS))(hT:H[oT]?=some (.AU 13 (s.AB.map AN.cells) rT))(hA:H[oA]?=some (.AU 1 (ints c.a) rA))(hB:H[oB]?=some (.AU 1 (ints c.b) rB))
 (h:K (.Bj [.agg [.int .i64 s.AS.AI,.int .i64 s.AS.AE,.int .i64 s.AS.AB,.slice oS s.AE.length 0 s.AE.length fS,.slice oT s.AB.length 0 s.AB.length fT],.agg [.int .i64 e,.int .u64 w,.int .i64 n]]) H):AF Tryz.prog f [.agg [.int .i64 s.AS.AI,.int .i64 s.AS.AE,.int .i64 s.AS.AB,.slice oS s.AE.length 0 s.AE.length fS,.slice oT s.AB.length 0 s.AB.length fT],.int .i64 th,.agg [.int .i64 c.op,.slice oA c.a.length 0 c.a.length fA,.slice oB c.b.length 0 c.b.length fB,.int .i64 c.x,.int .i64 c.y,.int .u64 c.w]] H K:=
 d hS hT hA hB (by rw[hr];intro _;exact h) (by rw[hr];intro s2 h2;cases h2)
theorem CF.nil(d:CF f D){op x y w:Int}{a:List Int}(hS:H[oS]?=some (.AU 5 (s.AE.map Slot.cells) rS))(hT:H[oT]?=some (.AU 13 (s.AB.map AN.cells) rT))(hA:H[oA]?=some (.AU 1 (ints a) rA))
 (h:(D s th ⟨op,a,[],x,y,w⟩).st=none→K (.Bj [.agg [.int .i64 s.AS.AI,.int .i64 s.AS.AE,.int .i64 s.AS.AB,.slice oS s.AE.length 0 s.AE.length fS,.slice oT s.AB.length 0 s.AB.length fT],(D s th ⟨op,a,[],x,y,w⟩).Ap]) H)
 (h':∀s',(D s th ⟨op,a,[],x,y,w⟩).st=some s'→K (.Bj [BT s' H.length (H.length+1) false false,(D s th ⟨op,a,[],x,y,w⟩).Ap]) (H++[AM s',AJ s'])):
 AF Tryz.prog f [.agg [.int .i64 s.AS.AI,.int .i64 s.AS.AE,.int .i64 s.AS.AB,.slice oS s.AE.length 0 s.AE.length fS,.slice oT s.AB.length 0 s.AB.length fT],.int .i64 th,.agg [.int .i64 op,.slice oA a.length 0 a.length fA,.lit (.slice none 0 0),.int .i64 x,.int .i64 y,.int .u64 w]] H K:=by
 refine AF.gc (AF.lay 1 ?_)
 simp only[Go.Ax.D9,Go.Ax.E9,go_sem]
 have kS:=AL.of hS
 have kT:=AL.of hT
 have kA:=AL.of hA
 refine d (c:=⟨op,a,[],x,y,w⟩) (oB:=H.length) (rB:=false) (kS _) (kT _) (kA _) BH (fun e=>Gc.Cd ?_ (h e)) (fun s' e=> ?_)
 ·simp only[CD.Ap,AH.refs,Ay]
  exact⟨⟨trivial,trivial,trivial,Am hS,Am hT,trivial⟩,⟨trivial,trivial,trivial,trivial⟩,trivial⟩
 ·have:=Gc.stateT (H:=H) (L:= .AU 1 [] false::[AM s',AJ s']) (K:=K) (i:=1) (j:=2) (s:=s') (f:=false) (f':=false) (l:=[(D s th ⟨op,a,[],x,y,w⟩).Ap]) rfl rfl (by decide) (by simp[AH.plain,Ah,CD.Ap]) (h' s' e)
  simpa [List.append_assoc,Qa] using this
end
end Go.Proofs.YtlaipllgmddkiaaGreat.Ax
namespace Go.Ax
theorem Gc.cK{H L:AP}{K:AH→AP→Prop}{i n s:Nat}{f ro:Bool}{xs:List (List AH)}{l:List AH}(hi:L[i]?=some (.AU s xs ro))(hp:∀x∈xs,∀a∈x,a.plain=true)(hl:∀a∈l,a.plain=true:=by simp[AH.plain])(h:K (.Bj (.agg [.slice H.length n 0 n f]::l)) (H++[.AU s xs ro])):
 Gc H K (.Bj (.agg [.slice (H.length+i) n 0 n f]::l)) (H++L):=
 ⟨[i],L,[.AU s xs ro],_,rfl,Tf.one hi (.plain hp),⟨_,rfl,_,_,rfl,⟨_,rfl,_,_,rfl,⟨H.length,rfl,.inr ⟨i,0,rfl,rfl,rfl⟩⟩,rfl⟩,CY.refl (EF hl)⟩,h⟩
end Go.Ax
namespace Go.Proofs.YtlaipllgmddkiaaGreat.Ax
open Go Go.Ax Go.Ax.M
section
variable {H:AP}{K:AH→AP→Prop}{up:List Int}{o:Nat}{fl ro:Bool}
theorem Dh{i:Int}(ho:H[o]?=some (.AU 1 (ints up) ro))(h:K (.bool (GU up i)) H):AF Tryz.prog 188 [.agg [.slice o up.length 0 up.length fl],.int .i64 i] H K:=by
 have k1:=AL.of ho
 refine AF.tidy ?_
 refine Aa ok188 ?_;(try simp only[c188,AA k188_0.eq_1,go_sem]);repeat' ((first|refine orR ?_|(refine sp ?_ ?_<;>intro hc)|refine Jm (k1 _) ?_|refine EV (k1 _) ?_)<;>try simp only[*,AA k188_0.eq_1,go_sem])
 all_goals (refine tb h (by first|exact⟨_,rfl⟩|exact⟨[],(Qn _).symm⟩|exact hx|exact hx.app _) ?_;first|(simp only[GU, *,bs,go_sem];done)|(simp_all[GU];done)|(simp_all[GU];omega)|grind[GU])
theorem FJ{i:Int}(ho:H[o]?=some (.AU 1 (ints up) ro))(hlen:up.length≤1000)(h:K (.slice H.length (GV up i).length 0 (GV up i).length false) (H++[.AU 1 (ints (GV up i)) false])):AF Tryz.prog 235 [.agg [.slice o up.length 0 up.length fl],.int .i64 i] H K:=by
 have k1:=AL.of ho
 refine AF.gc ?_
 obtain⟨p,hp⟩:∃p:Nat→Bool,∀k,p k=decide (up.getD k 0=i):=⟨fun k=>decide (up.getD k 0=i),fun _=>rfl⟩
 have hfo:GV up i=pick p up.length:=by simp only[GV];congr 1;funext k;exact(hp k).symm
 rw[hfo]at h
 refine Aa ok235 ?_;(try simp only[c235,w235,k1,go_sem]);repeat' ((first|refine orR ?_|(refine sp ?_ ?_<;>intro hc)|fail)<;>try simp only[*,w235,go_sem])
 refine AK.Az [5,11,1,9,10] ?_;simp only[mpC,go_sem]
 refine AK.lay 1 ?_
 simp only[go_sem]
 refine AK.acc (fun k G=>[(5,.slice (H.length+1) (pick p k).length 0 (pick p k).length false),(11,.int .i64 (k:Int))]) (fun k G=>H++_:: .AU 1 (ints (pick p k)) false::G) (fun k G=>True) up.length ?_ (a0:=[]) trivial
 intro k G hk _ next
 refine AK.Jn fun W hW=> ?_
 have k1:=k1.ex hW.ex
 have kst:=hW.EQ
 have ko:=hW.Hx
 have k10:=k1.at
 have kst0:=kst.at
 have ko0:=ko.at
 have kos:=ko.set
 have hb:((pick p k).length+1)* 8≤140737488355328:=by have:=GO (p:=p) (k:=k);omega
 refine AK.unfold ?_
 have hw:=AY (k:=k) (by omega)
 have hg:k<up.length→_:=fun h=>Bt (l:=up) (k:=k) h
 clear hfo
 (try simp only[w235,hg,hw,kos,AA b235_3.eq_1,AR,AX,apC,go_sem]);repeat' ((first|refine orR ?_|(refine sp ?_ ?_<;>intro hc)|fail)<;>try simp only[*,w235,AA b235_3.eq_1,AR,AX,apC,go_sem])
 case' refine_2=>
  have hk':k=up.length:=by omega
  have hW:W=_:=hW
  subst hk' hW
  exact Gc.slice (i:=1) rfl Ca h
 case' refine_1.refine_1=>have e:=UG (p:=p) (k:=k) (by rw[hp];exact decide_eq_true (by assumption))
 case' refine_1.refine_2=>have e:=OL (p:=p) (k:=k) (by rw[hp];exact decide_eq_false (by assumption))
 all_goals
  have hW:W=_:=hW
  subst hW
  simp only[e,Dn,GI,go_sem]at next
  (refine AK.Az [5,11,1,9,10] ?_;simp only[mpC,go_sem];refine next _ (by assumption))
theorem N7{i:Int}(ho:H[o]?=some (.AU 1 (ints up) ro))(hlen:up.length≤1000)(h:GU up i=false→K (.lit (.slice none 0 0)) H)(h':GU up i=true→K (.slice H.length (GV up i).length 0 (GV up i).length false) (H++[.AU 1 (ints (GV up i)) false])):AF Tryz.prog 221 [.agg [.slice o up.length 0 up.length fl],.int .i64 i] H K:=by
 have k1:=AL.of ho
 refine AF.gc ?_
 refine Aa ok221 ?_;(try simp only[c221,w221,Qa,go_sem]);repeat' ((first|refine orR ?_|(refine sp ?_ ?_<;>intro hc)|refine Dh (k1 _) ?_|refine FJ (k1 _) hlen ?_)<;>try simp only[*,w221,Qa,go_sem])
 ·exact Gc.Cd (by simp[AH.refs]) (h (by assumption))
 ·exact Gc.slice (i:=1) rfl Ca (h' (by assumption))
theorem PJ(h1:H[o]?=some (.AU 1 (ints up) ro))(hl:up.length≤1000)(h0:0<up.length)
 (h:K (.slice H.length up.length 0 up.length false) (H++[.AU 1 (ints up) false])):AF Tryz.prog 204 [.slice o up.length 0 up.length fl] H K:=by
 have hn:(up.length=0)=False:=eq_false (by omega)
 have he:(ints up=[])=False:=eq_false (by intro e;have:=congrArg List.length e;simp[ints]at this;rw[this]at h0;exact absurd h0 (by simp))
 have hb:(0+up.length)* 8≤140737488355328:=by omega
 have hb2:up.length* 8≤140737488355328:=by omega
 have k1:=AL.of h1
 have ht:(ints up).take up.length=ints up:=by rw[List.take_of_length_le (by simp[ints])]
 refine AF.gc ?_
 refine Aa ok204 ?_;(try simp only[c204,w204,hn,he,hb,hb2,h1,k1,ht,go_sem]);repeat' ((first|refine orR ?_|(refine sp ?_ ?_<;>intro hc)|fail)<;>try simp only[*,w204,go_sem])
 exact Gc.slice (i:=1) rfl Ca h
theorem NO(h1:H[o]?=some (.AU 1 (ints up) ro))(hl:up.length≤1000)(h0:0<up.length)
 (h:K (.agg [.slice H.length up.length 0 up.length false]) (H++[.AU 1 (ints up) false])):AF Tryz.prog 255 [.agg [.slice o up.length 0 up.length fl]] H K:=by
 have k1:=AL.of h1
 refine AF.gc ?_
 refine Aa ok255 ?_;(try simp only[c255,AA k255_0.eq_1,Qa,go_sem]);repeat' ((first|refine orR ?_|(refine sp ?_ ?_<;>intro hc)|refine PJ (k1 _) hl h0 ?_)<;>try simp only[*,AA k255_0.eq_1,Qa,go_sem])
 exact Gc.Uk (i:=2) rfl Ca h
theorem ints_set{l:List Int}{i:Nat}{v:Int}:(ints l).set i [.int .i64 v]=ints (l.set i v):=by simp[ints,Qp]
theorem N8{fr to:Int}(h1:H[o]?=some (.AU 1 (ints up) ro))(hl:up.length≤1000)(h0:0<up.length)(hm:P2 up fr to=true)
 (h:K (.Bj [.agg [.slice H.length up.length 0 up.length false],.bool true]) (H++[.AU 1 (ints (MJ up fr to)) false])):AF Tryz.prog 226 [.agg [.slice o up.length 0 up.length fl],.int .i64 fr,.int .i64 to] H K:=by
 have k1:=AL.of h1
 simp only[P2,Qi,decide_eq_true_eq,Qj]at hm
 obtain⟨m1,m2,m3,m4⟩:=hm
 have m2':(to<0)=False:=eq_false (by omega)
 have m3':((up.length:Int)≤to)=False:=eq_false (by omega)
 refine AF.gc ?_
 refine Aa ok226 ?_;(try simp only[c226,w226,Qa,m1,m2',m3',m4,go_sem]);repeat' ((first|refine orR ?_|(refine sp ?_ ?_<;>intro hc)|refine Dh (k1 _) ?_|refine EV (k1 _) ?_|refine NO (k1 _) hl h0 ?_|refine FJ (up:=up) BO hl ?_)<;>try simp only[*,w226,Qa,go_sem])
 obtain⟨L,hL⟩:∃L,Hid (L=GV up fr):=NQ _
 have hLr:∀k,k<L.length→0≤L.getD k 0∧L.getD k 0<up.length:=by
  intro k hk
  have e:L=GV up fr:=hL
  have hm:L.getD k 0∈GV up fr:=by rw[←e];simp[Ql,hk]
  simp only[GV,pick,List.mem_map,List.mem_filter,Qo]at hm
  obtain⟨j,⟨hj,-⟩,e2⟩:=hm
  have e2:(j:Int)=L.getD k 0:=e2
  omega
 obtain⟨S,hS⟩:∃S:Nat→List Int,∀k,S k=(L.take k).foldl (fun l k=>l.set k.toNat to) up:=⟨fun k=>(L.take k).foldl (fun l k=>l.set k.toNat to) up,fun _=>rfl⟩
 have hSl:∀k,(S k).length=up.length:=fun k=>by rw[hS];exact(NL _ _).1
 have e:L=GV up fr:=hL
 rw[←e]
 have e0:up=S 0:=by rw[hS];simp
 refine AK.Az [37,1,2,3,6,35,36] ?_;simp only[mpC,go_sem]
 refine AK.heap (H':=H++_::_:: .AU 1 (ints (S 0)) false::[.AU 1 (ints L) false]) (by rw[←e0]) ?_
 refine AK.acc (fun k (_:Unit)=>[(37,.int .i64 (k:Int))]) (fun k _=>H++_::_:: .AU 1 (ints (S k)) false::[.AU 1 (ints L) false]) (fun k _=>True) L.length ?_ (a0:=()) trivial
 have hLl:L.length≤up.length:=by rw[e];simp only[GV];exact GO
 clear e e0
 have hSh:Hid (∀k,S k=(L.take k).foldl (fun l k=>l.set k.toNat to) up):=hS
 clear hS
 rintro k-hk-next
 refine AK.unfold ?_
 have hw:=AY (k:=k) (by omega)
 have hr:k<L.length→(0≤L.getD k 0)=True∧(L.getD k 0<(up.length:Int))=True:=fun h=>⟨eq_true (hLr k h).1,eq_true (hLr k h).2⟩
 have hg:k<L.length→(ints L)[k]?=some [.int .i64 (L.getD k 0)]:=fun h=>Bt h
 have hgs:k<L.length→(ints (S k))[(L.getD k 0).toNat]?=some [.int .i64 ((S k).getD (L.getD k 0).toNat 0)]:=fun h=>Bt (by rw[hSl];have:=hLr k h;omega)
 have hfi:E0 up fr=true:=by simp only[GU,Qi]at m1;exact m1.2
 rw[D7]at hfi
 have hf:(0≤fr)=True∧(fr<(up.length:Int))=True:=⟨eq_true hfi.1,eq_true hfi.2.1⟩
 have hf2:(0≤to)=True∧(to<(up.length:Int))=True:=⟨eq_true m2,eq_true m3⟩
 have hgf:(ints (S k))[fr.toNat]?=some [.int .i64 ((S k).getD fr.toNat 0)]:=Bt (by rw[hSl];omega)
 have hgt:(ints (S k))[to.toNat]?=some [.int .i64 ((S k).getD to.toNat 0)]:=Bt (by rw[hSl];omega)
 have hgf2:∀v:Int,(ints ((S k).set to.toNat v))[fr.toNat]?=some [.int .i64 (((S k).set to.toNat v).getD fr.toNat 0)]:=fun v=>Bt (by rw[Qb,hSl];omega)
 clear hfi
 (try simp only[w226,hg,hw,hr,hgs,hf,hf2,hgf,hgt,hgf2,ints_set,Qb,AA b226_3.eq_1,AR,AX,hSl,apC,go_sem]);repeat' ((first|refine orR ?_|(refine sp ?_ ?_<;>intro hc)|fail)<;>try simp only[*,w226,ints_set,Qb,AA b226_3.eq_1,AR,AX,apC,go_sem])
 ·have e1:(S k).set (L.getD k 0).toNat to=S (k+1):=by
   have hS:∀k,S k=_:=hSh
   have hk:k<L.length:=by assumption
   rw[hS,hS,List.take_succ_eq_append_getElem hk,List.foldl_append]
   simp[Ql,hk]
  rw[e1]
  (refine AK.Az [37,1,2,3,6,35,36] ?_;simp only[mpC,go_sem];refine next () (by assumption) trivial)
 ·have e1:((S k).set to.toNat ((S k).getD fr.toNat 0)).set fr.toNat (-2)=MJ up fr to:=by
   have hS:∀k,S k=_:=hSh
   have e:L=GV up fr:=hL
   have hk:k=L.length:=by omega
   rw[hS,hk,List.take_length,e]
   simp only[MJ]
  rw[e1]
  exact Gc.cK (i:=2) rfl Ca (h:=h)
end
end Go.Proofs.YtlaipllgmddkiaaGreat.Ax
namespace Go.Ax.M
open Go Go.Ax
def Im(s:State)(fr to:Int)(k:Nat):List Slot:=(Qq s.AE.length).map fun i=>⟨(EK s fr to i).cap,if i<k then(EK s fr to i).up else(s.slot i).up⟩
def ER(s:State)(fr to:Int)(k:Nat):List AN:=(Qq s.AB.length).map fun i=>if i<k then C3 fr to (s.AG i)else s.AG i
theorem Ip{s:State}{fr to:Int}{k:Nat}:(Im s fr to k).length=s.AE.length:=by simp[Im]
theorem TS{s:State}{fr to:Int}{k:Nat}:(ER s fr to k).length=s.AB.length:=by simp[ER]
theorem Io{s:State}{fr to:Int}{k i:Nat}(h:i<s.AE.length):((Im s fr to k).map Slot.cells)[i]?=some [.int .i64 (EK s fr to i).cap.ty,.int .i64 (EK s fr to i).cap.th,.int .i64 (EK s fr to i).cap.ri,.int .i64 (EK s fr to i).cap.ba,.int .i64 (if i<k then(EK s fr to i).up else(s.slot i).up)]:=by
 simp[Im,h,Slot.cells]
theorem We{s:State}{fr to:Int}{k:Nat}(h:k<s.AE.length):((Im s fr to k).map Slot.cells).set k [.int .i64 (EK s fr to k).cap.ty,.int .i64 (EK s fr to k).cap.th,.int .i64 (EK s fr to k).cap.ri,.int .i64 (EK s fr to k).cap.ba,.int .i64 (EK s fr to k).up]=(Im s fr to (k+1)).map Slot.cells:=by
 apply Qk
 intro i
 by_cases hi:i<s.AE.length
 ·by_cases e:k=i
  ·subst e
   rw[Qf (by rw[Qh,Ip];exact hi),Io hi,if_pos (by omega)]
  ·rw[Qe e,Io hi,Io hi]
   by_cases e2:i<k
   ·rw[if_pos e2,if_pos (by omega)]
   ·rw[if_neg e2,if_neg (by omega)]
 ·rw[Qc (by rw[Qb,Qh,Ip];omega),Qc (by rw[Qh,Ip];omega)]
theorem VL{s:State}{fr to:Nat}(hf:fr<s.AE.length)(ht:to<s.AE.length)(hne:fr≠to):
 ((s.AE.map Slot.cells).set to [.int .i64 (s.slot fr).cap.ty,.int .i64 (s.slot fr).cap.th,.int .i64 (s.slot fr).cap.ri,.int .i64 (s.slot fr).cap.ba,.int .i64 (s.slot to).up]).set fr [.int .i64 0,.int .i64 0,.int .i64 0,.int .i64 0,.int .i64 (s.slot fr).up]=(Im s fr to 0).map Slot.cells:=by
 apply Qk
 intro i
 by_cases hi:i<s.AE.length
 ·rw[Io hi,if_neg (by omega)]
  by_cases e:fr=i
  ·subst e
   rw[Qf (by simpa using hi)]
   simp[EK,Bh.zero]
  ·rw[Qe e]
   have e':¬((i:Int)=(fr:Int)):=by omega
   by_cases e2:to=i
   ·subst e2
    rw[Qf (by simpa using hi)]
    simp only[EK,if_neg e',if_true,Qd]
   ·have e2':¬((i:Int)=(to:Int)):=by omega
    rw[Qe e2,A4 hi]
    simp only[EK,if_neg e',if_neg e2']
 ·rw[Qc (by simp;omega),Qc (by rw[Qh,Ip];omega)]
theorem Wd{s:State}{fr to:Int}:Im s fr to s.AE.length=(B9 s fr to).AE:=by
 simp only[Im,B9]
 refine List.map_congr_left fun i hi=> ?_
 rw[if_pos (Qo.1 hi)]
theorem Rx{s:State}{fr to:Int}:ER s fr to 0=s.AB:=by
 apply Qg (by simp[ER])
 intro i h1 h2
 simp[ER,State.AG,Ql,h2]
theorem TQ{s:State}{fr to:Int}:ER s fr to s.AB.length=(B9 s fr to).AB:=by
 apply Qg (by simp[ER,B9])
 intro i h1 h2
 have h3:i<s.AB.length:=by simpa [ER] using h1
 simp[ER,B9,State.AG,Ql,h3]
theorem TR{s:State}{fr to:Int}{k:Nat}(h:k<s.AB.length):((ER s fr to k).map AN.cells)[k]?=some [.int .i64 (s.AG k).ty,.int .i64 (s.AG k).bits,.int .i64 (s.AG k).base,.int .i64 (s.AG k).size,.int .i64 (s.AG k).used,.int .i64 (s.AG k).from_,.int .i64 (s.AG k).BF,.bool (s.AG k).full,.int .u64 (s.AG k).word,.int .u64 (s.AG k).d0,.int .u64 (s.AG k).d1,.int .u64 (s.AG k).d2,.int .u64 (s.AG k).d3]:=by
 simp[ER,h,AN.cells]
theorem Rw{s:State}{fr to:Int}{k:Nat}(h:k<s.AB.length):ER s fr to (k+1)=(ER s fr to k).set k (C3 fr to (s.AG k)):=by
 apply Qg (by simp[ER])
 intro i h1 h2
 have h3:i<s.AB.length:=by simpa [ER] using h1
 rw[Qm]
 by_cases e:k=i
 ·subst e;simp[ER]
 ·rw[if_neg e]
  simp only[ER,List.getElem_map,List.getElem_range]
  by_cases e2:i<k
  ·rw[if_pos e2,if_pos (by omega)]
  ·rw[if_neg e2,if_neg (by omega)]
theorem Rv{s:State}{fr to:Int}{k:Nat}(h:k<s.AB.length)(hn:¬(s.AG k).from_=fr+1):ER s fr to (k+1)=ER s fr to k:=by
 rw[Rw h,show C3 fr to (s.AG k)=s.AG k by simp[C3,hn]]
 apply Qg (by simp)
 intro i h1 h2
 rw[Qm]
 by_cases e:k=i
 ·subst e;simp[ER]
 ·rw[if_neg e]
theorem TT{s:State}{fr to:Int}{k:Nat}(h:k<s.AB.length)(hn:(s.AG k).from_=fr+1):((ER s fr to k).map AN.cells).set k [.int .i64 (s.AG k).ty,.int .i64 (s.AG k).bits,.int .i64 (s.AG k).base,.int .i64 (s.AG k).size,.int .i64 (s.AG k).used,.int .i64 (to+1),.int .i64 (s.AG k).BF,.bool (s.AG k).full,.int .u64 (s.AG k).word,.int .u64 (s.AG k).d0,.int .u64 (s.AG k).d1,.int .u64 (s.AG k).d2,.int .u64 (s.AG k).d3]=(ER s fr to (k+1)).map AN.cells:=by
 rw[Rw h,Qp]
 congr 1
 simp[C3,hn,AN.cells]
end Go.Ax.M
namespace Go.Proofs.YtlaipllgmddkiaaGreat.Ax
open Go Go.Ax Go.Ax.M
section
variable {H:AP}{K:AH→AP→Prop}{s:State}{oS oT:Nat}{fS fT rS rT:Bool}
theorem PH{fr to:Int}(hS:H[oS]?=some (.AU 5 (s.AE.map Slot.cells) rS))(hT:H[oT]?=some (.AU 13 (s.AB.map AN.cells) rT))(m:GF s fr.toNat to.toNat)(f0:0≤fr)(t0:0≤to)
 (h:K (BT (B9 s fr to) H.length (H.length+1) false false) (H++[AM (B9 s fr to),AJ (B9 s fr to)])):AF Tryz.prog 184 [stA s oS oT fS fT,.int .i64 fr,.int .i64 to] H K:=by
 obtain⟨fr,rfl⟩:∃n:Nat,fr=n:=⟨fr.toNat,by omega⟩
 obtain⟨to,rfl⟩:∃n:Nat,to=n:=⟨to.toNat,by omega⟩
 simp only[Qd]at m
 have kT:=AL.of hT
 have kS:=AL.of hS
 have hg:=m.inv.ok.DR
 have hlS:=FL hg
 have hf:=m.hf
 have ht:=m.ht
 have hne:=m.ne
 have hup:P2 (As s) fr to=true:=by
  have hu:∀i,i<s.AE.length→s.B8 i→-1≤(s.slot i).up:=fun i hi hn=>by rcases m.inv.up i hi hn with h|h<;>omega
  simp only[P2,GU,m.inv.ok.Ii,Bool.true_and,Qi,decide_eq_true_eq,A8,Qj]
  refine⟨(Lw hu).2 ⟨by omega,by omega,by simpa using m.J4⟩,by omega,by omega,?_⟩
  cases hi:E0 (As s) to with
  |false=>rfl
  |true=>
   have:=((Lw hu).1 hi).2.2
   simp only[State.B8,Qd,m.Jo]at this;cases this
 have hl2:(As s).length≤1000:=by rw[A8];exact hlS
 have hl3:0<(As s).length:=by rw[A8];omega
 have hgF:=A4 (s:=s) hf
 have hgT:=A4 (s:=s) ht
 have hgF2:∀X,((s.AE.map Slot.cells).set to X)[fr]?=some [.int .i64 (s.slot fr).cap.ty,.int .i64 (s.slot fr).cap.th,.int .i64 (s.slot fr).cap.ri,.int .i64 (s.slot fr).cap.ba,.int .i64 (s.slot fr).up]:=fun X=>by rw[Qe (Ne.symm hne)];exact A4 hf
 have hr:(0≤(fr:Int))=True∧((fr:Int)<(s.AE.length:Int))=True∧(0≤(to:Int))=True∧((to:Int)<(s.AE.length:Int))=True:=⟨by simp,eq_true (by omega),by simp,eq_true (by omega)⟩
 refine AF.gc ?_
 refine Aa ok184 ?_;(try simp only[c184,w184,BT,AM,AJ,Qa,A8,hgF,hgT,hgF2,hr,Qd,Qb,go_sem]);repeat' ((first|refine orR ?_|(refine sp ?_ ?_<;>intro hc)|refine Dd (kS _) hlS ?_|(rw[←A8];refine N8 (up:=As s) (by first|exact BH|exact Bb rfl) hl2 hl3 hup ?_)|refine A3 (kS _) (kT _) (FL hg) (Gm hg) (DL hg) (DM hg) ?_)<;>try simp only[*,w184,BT,AM,AJ,Qa,A8,Qd,Qb,go_sem])
 rw[VL hf ht hne]
 have hfl:(MJ (As s) fr to).length=s.AE.length:=by simp only[MJ,Qb];rw[(NL _ _).1,A8]
 have hlT:=Gm hg
 obtain⟨F,hF⟩:∃F,Hid (F=MJ (As s) fr to):=NQ _
 have hF':F=_:=hF
 rw[←hF']at hfl ⊢
 clear hF' hgF hgT hgF2 hup
 refine AK.Az [42,1,2,3,6,40,41] ?_;simp only[mpC,go_sem]
 refine AK.acc (fun k (_:Unit)=>[(42,.int .i64 (k:Int))]) (fun k _=>H++_::_::_::_::_:: .AU 5 ((Im s fr to k).map Slot.cells) false::[_]) (fun k _=>True) s.AE.length ?_ (a0:=()) trivial
 rintro k-hk-next
 refine AK.unfold ?_
 have hw:=AY (k:=k) (by omega)
 have hgp:k<s.AE.length→_:=fun h=>Io (s:=s) (fr:=fr) (to:=to) (k:=k) h
 have hgf:k<s.AE.length→(ints F)[k]?=some [.int .i64 (F.getD k 0)]:=fun h=>Bt (by rw[hfl];exact h)
 have hmp:(Im s fr to k).length=s.AE.length:=Ip
 (try simp only[w184,hw,hgp,hgf,hmp,AA b184_2.eq_1,AR,AX,BT,AM,AJ,Qa,Qb,apC,go_sem]);repeat' ((first|refine orR ?_|(refine sp ?_ ?_<;>intro hc)|fail)<;>try simp only[*,w184,AA b184_2.eq_1,AR,AX,BT,AM,AJ,Qa,Qb,apC,go_sem])
 ·have hk:k<s.AE.length:=by assumption
  have eu:(if-1>F.getD k 0 then-1 else F.getD k 0)=(EK s fr to k).up:=by
   have hF:F=_:=hF
   simp only[EK,←hF]
   split<;>omega
  rw[eu,We hk]
  (refine AK.Az [42,1,2,3,6,40,41] ?_;simp only[mpC,go_sem];refine next () hk trivial)
 ·have hk:k=s.AE.length:=by omega
  subst hk
  rw[Wd]
  have hml:(B9 s fr to).AE.length=s.AE.length:=Cb
  refine AK.heap (H':=H++_::_::_::_::_::_:: .AU 13 ((ER s fr to 0).map AN.cells) false::[]) (by rw[Rx]) ?_
  clear next hw hgp hgf hmp
  refine AK.Az [58,1,2,3,6,57] ?_;simp only[mpC,go_sem]
  refine AK.acc (fun k (_:Unit)=>[(58,.int .i64 (k:Int))]) (fun k _=>H++_::_::_::_::_::_:: .AU 13 ((ER s fr to k).map AN.cells) false::[]) (fun k _=>True) s.AB.length ?_ (a0:=()) trivial
  rintro k-hk-next
  refine AK.unfold ?_
  have hw:=AY (k:=k) (by omega)
  have hw1:=AY (k:=fr) (by omega)
  have hw2:=AY (k:=to) (by omega)
  have hgp:k<s.AB.length→_:=fun h=>TR (s:=s) (fr:=fr) (to:=to) (k:=k) h
  have hmp:(ER s fr to k).length=s.AB.length:=TS
  (try simp only[w184,hw,hw1,hw2,hgp,hmp,hml,AA b184_6.eq_1,AR,AX,BT,AM,AJ,Qa,Qb,apC,go_sem]);repeat' ((first|refine orR ?_|(refine sp ?_ ?_<;>intro hc)|fail)<;>try simp only[*,w184,AA b184_6.eq_1,AR,AX,BT,AM,AJ,Qa,Qb,apC,go_sem])
  ·have hk:k<s.AB.length:=by assumption
   have hn:(s.AG k).from_=((fr+1:Nat):Int):=by assumption
   rw[show((to+1:Nat):Int)=(to:Int)+1 from rfl,TT hk (by omega)]
   (refine AK.Az [58,1,2,3,6,57] ?_;simp only[mpC,go_sem];refine next () hk trivial)
  ·have hk:k<s.AB.length:=by assumption
   have hn:¬(s.AG k).from_=((fr+1:Nat):Int):=by assumption
   rw[←Rv (fr:=fr) (to:=to) hk (by omega)]
   (refine AK.Az [58,1,2,3,6,57] ?_;simp only[mpC,go_sem];refine next () hk trivial)
  ·have hk:k=s.AB.length:=by omega
   subst hk
   have hmt:(B9 s fr to).AB.length=s.AB.length:=Cn
   rw[TQ,←hml,←hmt]
   exact Gc.state (s:=B9 s fr to) (i:=5) (j:=6) rfl rfl (by decide) h
theorem RO{fr to:Int}:(B9 s fr to).AS=s.AS:=rfl
theorem U2{x0 x1 x2 x3 to:Int}(hS:H[oS]?=some (.AU 5 (s.AE.map Slot.cells) rS))(hT:H[oT]?=some (.AU 13 (s.AB.map AN.cells) rT))(h:K (.bool (FC s ⟨x0,x1,x2,x3⟩ to)) H):AF Tryz.prog 183 [stA s oS oT fS fT,.agg [.int .i64 x0,.int .i64 x1,.int .i64 x2,.int .i64 x3],.int .i64 to] H K:=LG (c:=⟨x0,x1,x2,x3⟩) hS hT h
theorem RA{th:Int}{c:M.Call}{oA oB:Nat}{fA fB rA rB:Bool}(hS:H[oS]?=some (.AU 5 (s.AE.map Slot.cells) rS))(hT:H[oT]?=some (.AU 13 (s.AB.map AN.cells) rT))(hA:H[oA]?=some (.AU 1 (ints c.a) rA))(hB:H[oB]?=some (.AU 1 (ints c.b) rB))
 (h:(A5 s th c).st=none→K (.Bj [stA s oS oT fS fT,.int .i64 (A5 s th c).err]) H)
 (h':∀s',(A5 s th c).st=some s'→K (.Bj [BT s' H.length (H.length+1) false false,.int .i64 0]) (H++[AM s',AJ s'])):
 AF Tryz.prog 104 [stA s oS oT fS fT,.int .i64 th,.agg [.int .i64 c.op,.slice oA c.a.length 0 c.a.length fA,.slice oB c.b.length 0 c.b.length fB,.int .i64 c.x,.int .i64 c.y,.int .u64 c.w]] H K:=by
 have kT:=AL.of hT
 have kS:=AL.of hS
 have kA:=AL.of hA
 have kB:=AL.of hB
 have key:∀e,A5 s th c= .bad e→K (.Bj [stA s oS oT fS fT,.int .i64 e]) H:=fun e he=>by rw[he]at h;exact h rfl
 have hv:=fun e=>show(AH.Bj [stA s oS oT fS fT,.int .i64 e]).refs (fun o=>o<H.length) by simp[AH.refs,Ay];exact⟨Am hS,Am hT⟩
 clear h
 refine AF.gc ?_
 refine Aa ok104 ?_;(try simp only[c104,w104,BT,AM,AJ,Qa,Bh.cells,F1,D0,DX,RO,Cb,Cn,go_sem]);repeat' ((first|refine orR ?_|(refine sp ?_ ?_<;>intro hc)|refine Aw (kA _) (kB _) ?_|refine CN (kS _) (kT _) (kA _) ?_|refine Hr (kS _) (kT _) (kB _) ?_|refine Yw ?_|refine Us ?_|refine U2 (kS _) (kT _) ?_|refine P9 (kS _) (kT _) (fun hc=> ?_) (fun hc=> ?_)|refine PH (kS _) (kT _) (LL (by assumption) (by assumption) (by assumption)) (CA (by assumption)).1 (EC (by assumption)).2.1 ?_)<;>try simp only[*,w104,BT,AM,AJ,Qa,Bh.cells,F1,D0,DX,RO,Cb,Cn,go_sem])
 all_goals try exact Gc.Cd (hv _) (key _ (by(first|(simp only[A5,Bo,B4, *,bs,go_sem];done)|(simp_all[A5,Bo,B4];done)|(simp_all[A5,Bo,B4];omega)|grind[A5,Bo,B4])))
 all_goals clear key hv
 ·exact Gc.Jg (i:=4) (j:=5) rfl rfl h' (hn:=Cb.symm) (hm:=Cn.symm) (e:=by clear h';(first|(simp only[A5,Bo,B4, *,bs,go_sem];done)|(simp_all[A5,Bo,B4];done)|(simp_all[A5,Bo,B4];omega)|grind[A5,Bo,B4]))
 ·exact Gc.Jg (i:=4) (j:=5) rfl rfl h' (hn:=D0.symm) (hm:=rfl) (e:=by clear h';(first|(simp only[A5,Bo,B4, *,bs,go_sem];done)|(simp_all[A5,Bo,B4];done)|(simp_all[A5,Bo,B4];omega)|grind[A5,Bo,B4]))
 ·exact Gc.Jg (i:=4) (j:=5) rfl rfl h' (hn:=D0.symm) (hm:=rfl) (e:=by clear h';(first|(simp only[A5,Bo,B4, *,bs,go_sem];done)|(simp_all[A5,Bo,B4];done)|(simp_all[A5,Bo,B4];omega)|grind[A5,Bo,B4]))
theorem Cg:CF 32 A5:=by
 intro H K s th c oS oT oA oB fS fT rS rT fA fB rA rB hS hT hA hB h h'
 have kT:=AL.of hT
 have kS:=AL.of hS
 have kA:=AL.of hA
 have kB:=AL.of hB
 have hn:(A5 s th c).st=none→((A5 s th c).err=0)=False:=fun h=>eq_false (WV h)
 refine AF.gc ?_
 refine Aa ok32 ?_;(try simp only[c32,w32,BT,AM,AJ,Qa,hn,go_sem]);repeat' ((first|refine orR ?_|(refine sp ?_ ?_<;>intro hc)|refine RA (kS _) (kT _) (kA _) (kB _) (fun hc=> ?_) (fun s' hc=>(fun e=> ?_) (El hc).2.2.2.1))<;>try simp only[*,w32,BT,AM,AJ,Qa,go_sem])
 ·obtain⟨e,-,he⟩:=S1 (s:=s) (th:=th) (c:=c) (by assumption)
  have h:=h (by rw[he];rfl)
  rw[he]at h ⊢
  exact Gc.Cd (by simp[AH.refs,Ay];exact⟨Am hS,Am hT⟩) h
 ·exact Gc.Jg (i:=4) (j:=5) rfl rfl (r:=(A5 s th c).st) (fun s' e=>by have:=h' s' e;have e2:=(El e).2.2.2.1;rw[e2]at this;exact this) (hn:=rfl) (hm:=rfl) (e:=by assumption)
end
end Go.Proofs.YtlaipllgmddkiaaGreat.Ax
