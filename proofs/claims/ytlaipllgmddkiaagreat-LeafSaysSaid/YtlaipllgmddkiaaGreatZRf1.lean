/- Texts put behind one another: SRefA, SRefB, PUnder, SRefC, SRefD, PGap, SRefE, SRefF, SRefG, PRef, SRefH, SRefI, SRefJ, PRMove, SRefK. Conditions: none. -/
import Derived.Test.YtlaipllgmddkiaaGreatZTh
import Derived.Test.YtlaipllgmddkiaaGreatSLoopZ
import Derived.Test.YtlaipllgmddkiaaGreatMStateZ
import Derived.Test.YtlaipllgmddkiaaGreatZMo
import Derived.Test.YtlaipllgmddkiaaGreatZC2
import Derived.Test.YtlaipllgmddkiaaGreatZPu
import Derived.Test.YtlaipllgmddkiaaGreatZSt
import Derived.Test.YtlaipllgmddkiaaGreatZSw
import Derived.Test.YtlaipllgmddkiaaGreatZLf
import Derived.Test.YtlaipllgmddkiaaGreatSArgSZ
import Derived.Test.YtlaipllgmddkiaaGreatZGv
set_option linter.all false
open List renaming append_nil → Qa, length_set → Qc, length_append → Qf, getElem?_eq_none → Qj, range → Qm, getElem?_set_ne → Qn, getElem?_set_self → Qr, length_replicate → Qt, set_cons_zero → Qv, ext_getElem? → Qz, contains_iff_mem → QA, getD → QB, set_eq_of_length_le → QH, getElem?_replicate → QJ, take_of_length_le → QK, replicate → QM, mem_range → QN, map_set → QR, take_length → QS, mem_map → QZ, length → Q2
open Nat renaming add_assoc → Qb, mod_eq_of_lt → Qo, pow_lt_pow_right → QE, lt_succ_iff_lt_or_eq → QI, eq_of_testBit_eq → QO, testBit_two_pow → QP, le_refl → QT
open Int renaming toNat_natCast → Qd, tdiv_eq_ediv_of_nonneg → Qe, tmod_eq_emod_of_nonneg → QG, ediv_nonneg → QL, tdiv_one → QQ, natCast_inj → QU, le_refl → Q0, mul_one → Q1
open Bool renaming and_eq_true → Qg, or_self → Qi, and_false → Qk, or_eq_true → Ql, false_and → Qq, eq_iff_iff → Qs, and_self → Qu, eq_false_iff → Qw, not_eq_true' → Qx, true_and → QC, not_true → QD, not_false → QW, and_true → QX, false_or → QY
open BitVec renaming ofInt → Qh, toNat_ofNat → Qp, ofNat → Qy, toNat_or → QV
open Option renaming map_some → QF
namespace Go.Ax.M
open Go Go.Ax
def N2(x k:Int):Bool:=decide ((x.tdiv k).tmod 2=1)
theorem KP(r:Int):∃k:Fin 8,I8 r=(k.val:Int):=by
 cases h:C2 r with
 |false=>exact⟨0,by simp[I8,h]⟩
 |true=>
  have h':=h
  simp only[C2,BX]at h'
  exact⟨⟨r.toNat,by omega⟩,by simp only[I8,h,cond_true];omega⟩
theorem aR:∀x y:Fin 8,IntKind.wrap .i64 ((Qh (IntKind.bits .i64) (x.val:Int)&&&Qh (IntKind.bits .i64) (y.val:Int)).toNat)=
 (if N2 (x.val:Int) 1&&N2 (y.val:Int) 1 then 1 else 0)+(if N2 (x.val:Int) 2&&N2 (y.val:Int) 2 then 2 else 0)+(if N2 (x.val:Int) 4&&N2 (y.val:Int) 4 then 4 else 0):=by decide+kernel
theorem ax:∀x y:Fin 8,IntKind.wrap .i64 ((Qh (IntKind.bits .i64) (x.val:Int)&&&~~~Qh (IntKind.bits .i64) (y.val:Int)).toNat)=
 (x.val:Int)-IntKind.wrap .i64 ((Qh (IntKind.bits .i64) (x.val:Int)&&&Qh (IntKind.bits .i64) (y.val:Int)).toNat):=by decide+kernel
theorem TD(a b:Int):D3 a b=(if N2 (I8 a) 1&&N2 (I8 b) 1 then 1 else 0)+(if N2 (I8 a) 2&&N2 (I8 b) 2 then 2 else 0)+(if N2 (I8 a) 4&&N2 (I8 b) 4 then 4 else 0):=by
 obtain⟨x,hx⟩:=KP a
 obtain⟨y,hy⟩:=KP b
 simp only[D3,hx,hy,aR]
theorem TE(a b:Int):LU a b=I8 a-D3 a b:=by
 obtain⟨x,hx⟩:=KP a
 obtain⟨y,hy⟩:=KP b
 simp only[LU,D3,hx,hy,ax]
theorem RV(a b:Int):0≤D3 a b∧D3 a b≤7:=by
 rw[TD]
 repeat' split
 all_goals omega
theorem Wn(a:Int):0≤I8 a∧I8 a≤7:=by
 obtain⟨x,hx⟩:=KP a
 rw[hx];omega
theorem Pt{c:Bh}{b:Int}:CK c b=bif !Bq c||(decide (b<1)||decide (65535<b))then(.zero,1)else bif !decide (c.ty=3)&&!decide (c.ty=4)then(.zero,7)else bif decide (c.ba≠0)then(.zero,5)else({c with ba:=b},0):=by
 have e:(!DO b||decide (b=0))=(decide (b<1)||decide (65535<b)):=by
  rw[Qs];simp[DO,Bv];omega
 simp only[CK,e,Db,Bool.not_or]
end Go.Ax.M
namespace Go.Proofs.YtlaipllgmddkiaaGreat.Ax
open Go Go.Ax Go.Ax.M
set_option maxRecDepth 100000
section
variable {H:AP}{K:AH→AP→Prop}
theorem Vb{r:Int}(h:K (.int .i64 (I8 r)) H):AF Tryz.prog 254 [.int .i64 r] H K:=by
 refine Aa ok254 ?_;(try simp only[c254,w254,go_sem]);repeat' ((first|refine orR ?_|(refine sp ?_ ?_<;>intro hc)|fail)<;>try simp only[*,w254,go_sem])
 all_goals (refine ki h ?_;simp only[I8,C2,Bv];clear h;by_cases h1:0≤r<;>by_cases h2:r≤7<;>simp[h1,h2]<;>omega)
theorem VU{a b:Int}(h:K (.int .i64 (D3 a b)) H):AF Tryz.prog 219 [.int .i64 a,.int .i64 b] H K:=by
 have e:=TD a b
 rw[e]at h
 clear e
 have w1:IntKind.wrap .i64 1=1:=by decide
 have w2:IntKind.wrap .i64 2=2:=by decide
 have w3:IntKind.wrap .i64 3=3:=by decide
 have w4:IntKind.wrap .i64 4=4:=by decide
 have w5:IntKind.wrap .i64 5=5:=by decide
 have w6:IntKind.wrap .i64 6=6:=by decide
 have w7:IntKind.wrap .i64 7=7:=by decide
 have w8:IntKind.wrap .i64 8=8:=by decide
 have xa:=Wn a
 have xb:=Wn b
 refine Aa ok219 ?_;(try simp only[c219,w219,go_sem]);repeat' ((first|refine orR ?_|(refine sp ?_ ?_<;>intro hc)|refine Vb ?_)<;>try simp only[*,w219,go_sem])
 simp only[N2]at h
 generalize I8 a=x at*
 generalize I8 b=y at*
 have q1:((1:Int)=0)=False:=by decide
 have q2:((2:Int)=0)=False:=by decide
 have q4:((4:Int)=0)=False:=by decide
 have k1:IntKind.wrap .i64 (x.tdiv 1)=x.tdiv 1:=by rw[QQ];exact w64 (by omega) (by omega)
 have k2:IntKind.wrap .i64 (x.tdiv 2)=x.tdiv 2:=by rw[Qe (by omega)];exact w64 (by omega) (by omega)
 have k4:IntKind.wrap .i64 (x.tdiv 4)=x.tdiv 4:=by rw[Qe (by omega)];exact w64 (by omega) (by omega)
 have m1:IntKind.wrap .i64 (y.tdiv 1)=y.tdiv 1:=by rw[QQ];exact w64 (by omega) (by omega)
 have m2:IntKind.wrap .i64 (y.tdiv 2)=y.tdiv 2:=by rw[Qe (by omega)];exact w64 (by omega) (by omega)
 have m4:IntKind.wrap .i64 (y.tdiv 4)=y.tdiv 4:=by rw[Qe (by omega)];exact w64 (by omega) (by omega)
 clear xa xb
 refine AK.unfold ?_
 (try simp only[w219,AA b219_2.eq_1,w1,w2,w3,w4,w5,w6,w7,w8,q1,q2,q4,k1,k2,k4,m1,m2,m4,go_sem]);repeat' ((first|refine orR ?_|(refine sp ?_ ?_<;>intro hc)|fail)<;>try simp only[*,w219,AA b219_2.eq_1,w7,go_sem])
 all_goals refine AK.unfold ?_
 all_goals ((try simp only[w219,AA b219_2.eq_1,w1,w2,w3,w4,w5,w6,w7,w8,q1,q2,q4,k1,k2,k4,m1,m2,m4,go_sem]);repeat' ((first|refine orR ?_|(refine sp ?_ ?_<;>intro hc)|fail)<;>try simp only[*,w219,AA b219_2.eq_1,w7,go_sem]))
 all_goals refine AK.unfold ?_
 all_goals ((try simp only[w219,AA b219_2.eq_1,w1,w2,w3,w4,w5,w6,w7,w8,q1,q2,q4,k1,k2,k4,m1,m2,m4,go_sem]);repeat' ((first|refine orR ?_|(refine sp ?_ ?_<;>intro hc)|fail)<;>try simp only[*,w219,AA b219_2.eq_1,w7,go_sem]))
 all_goals refine AK.unfold ?_
 all_goals ((try simp only[w219,AA b219_2.eq_1,w1,w2,w3,w4,w5,w6,w7,w8,go_sem]);repeat' ((first|refine orR ?_|(refine sp ?_ ?_<;>intro hc)|fail)<;>try simp only[*,w219,AA b219_2.eq_1,w7,go_sem]))
 all_goals (refine ki h ?_;clear h;simp only[QQ]at*;simp[*])
theorem bb{a b:Int}(h:K (.int .i64 (LU a b)) H):AF Tryz.prog 253 [.int .i64 a,.int .i64 b] H K:=by
 rw[TE]at h
 have w:IntKind.wrap .i64 (I8 a-D3 a b)=I8 a-D3 a b:=by have:=Wn a;have:=RV a b;exact w64 (by omega) (by omega)
 refine Aa ok253 ?_;(try simp only[c253,AA k253_0.eq_1,w,go_sem]);repeat' ((first|refine orR ?_|(refine sp ?_ ?_<;>intro hc)|refine Vb ?_|refine VU ?_)<;>try simp only[*,AA k253_0.eq_1,go_sem])
theorem Ws{a b:Int}(h:K (.bool (Bd a b)) H):AF Tryz.prog 216 [.int .i64 a,.int .i64 b] H K:=by
 refine Aa ok216 ?_;(try simp only[c216,AA k216_0.eq_1,go_sem]);repeat' ((first|refine orR ?_|(refine sp ?_ ?_<;>intro hc)|refine bb ?_)<;>try simp only[*,AA k216_0.eq_1,go_sem])
 simpa [Bd] using h
theorem VY{c:Bh}(h:K (.bool (Bq c)) H):AF Tryz.prog 152 [.agg c.cells] H K:=by
 refine AF.tidy ?_
 unfold Bh.cells
 refine Aa ok152 ?_;(try simp only[c152,w152,go_sem]);repeat' ((first|refine orR ?_|(refine sp ?_ ?_<;>intro hc)|fail)<;>try simp only[*,w152,go_sem])
 all_goals (refine tb h (by first|exact⟨_,rfl⟩|exact⟨[],(Qa _).symm⟩|exact hx|exact hx.app _) ?_;first|(simp only[Bq,Aq,Bv,C2,DO,Db, *,bs,go_sem];done)|(simp_all[Bq,Aq,Bv,C2,DO,Db];done)|(simp_all[Bq,Aq,Bv,C2,DO,Db];omega)|grind[Bq,Aq,Bv,C2,DO,Db])
theorem HS{x0 x1 x2 x3:Int}(h:K (.bool (Bq ⟨x0,x1,x2,x3⟩)) H):AF Tryz.prog 152 [.agg [.int .i64 x0,.int .i64 x1,.int .i64 x2,.int .i64 x3]] H K:=VY (c:=⟨x0,x1,x2,x3⟩) h
theorem Pe{c:Bh}{r:Int}(h:K (.agg (ES c r).cells) H):AF Tryz.prog 168 [.agg c.cells,.int .i64 r] H K:=by
 refine AF.tidy ?_
 unfold Bh.cells
 refine Aa ok168 ?_;(try simp only[c168,w168,go_sem]);repeat' ((first|refine orR ?_|(refine sp ?_ ?_<;>intro hc)|refine HS ?_|refine VU ?_)<;>try simp only[*,w168,go_sem])
 all_goals (refine tv h (by first|exact⟨_,rfl⟩|exact⟨[],(Qa _).symm⟩|exact hx|exact hx.app _) ?_;first|(simp only[ES,Bh.cells,Bh.zero,AH.plain,Ah, *,bs,go_sem];done)|(simp_all[ES,Bh.cells,Bh.zero,AH.plain,Ah];done)|(simp_all[ES,Bh.cells,Bh.zero,AH.plain,Ah];omega)|grind[ES,Bh.cells,Bh.zero,AH.plain,Ah])
theorem TG{c:Bh}{b:Int}(h:K (.Bj [.agg (CK c b).1.cells,.int .i64 (CK c b).2]) H):AF Tryz.prog 167 [.agg c.cells,.int .i64 b] H K:=by
 rw[Pt]at h
 refine AF.tidy ?_
 unfold Bh.cells
 refine Aa ok167 ?_;(try simp only[c167,w167,go_sem]);repeat' ((first|refine orR ?_|(refine sp ?_ ?_<;>intro hc)|refine HS ?_)<;>try simp only[*,w167,go_sem])
 all_goals (refine tv h (by first|exact⟨_,rfl⟩|exact⟨[],(Qa _).symm⟩|exact hx|exact hx.app _) ?_;first|(simp only[Bh.cells,Bh.zero,AH.plain,Ah, *,bs,go_sem];done)|(simp_all[Bh.cells,Bh.zero,AH.plain,Ah];done)|(simp_all[Bh.cells,Bh.zero,AH.plain,Ah];omega)|grind[Bh.cells,Bh.zero,AH.plain,Ah])
theorem Ox{a b:Bh}(h:K (.bool (Dw a b)) H):AF Tryz.prog 155 [.agg a.cells,.agg b.cells] H K:=by
 refine AF.tidy ?_
 unfold Bh.cells
 refine Aa ok155 ?_;(try simp only[c155,w155,go_sem]);repeat' ((first|refine orR ?_|(refine sp ?_ ?_<;>intro hc)|refine Ws ?_)<;>try simp only[*,w155,go_sem])
 all_goals (refine tb h (by first|exact⟨_,rfl⟩|exact⟨[],(Qa _).symm⟩|exact hx|exact hx.app _) ?_;first|(simp only[Dw,Aq, *,bs,go_sem];done)|(simp_all[Dw,Aq];done)|(simp_all[Dw,Aq];omega)|grind[Dw,Aq])
theorem VV{c:Bh}(hg:Bq c=true)(h:K (.Bj [.int .u64 (Hv c),.bool true]) H):AF Tryz.prog 175 [.agg c.cells] H K:=by
 have hi:0≤c.ty∧c.ty≤5∧0≤c.ri∧c.ri≤7∧0≤c.ba∧c.ba≤65535∧0≤c.th∧c.th≤47:=by
  have h:=hg
  simp only[Bq,Ql,Qg]at h
  rcases h with h|⟨h1,h2,h3,h4,-⟩
  ·simp only[Aq,Qg,decide_eq_true_eq]at h;omega
  ·simp only[BX,C2,DO]at h1 h2 h3 h4
   omega
 have wu:∀n:Int,0≤n→n<2^64→IntKind.wrap .u64 n=n:=fun n a b=>by simp[IntKind.wrap,IntKind.bits,IntKind.signed];omega
 have w1:=wu c.ty (by omega) (by omega)
 have w2:=wu c.ri (by omega) (by omega)
 have w3:=wu c.ba (by omega) (by omega)
 have w4:=wu c.th (by omega) (by omega)
 have w5:=wu (c.ri* 256) (by omega) (by omega)
 have w6:=wu (c.ty+c.ri* 256) (by omega) (by omega)
 have w7:=wu (c.ba* 65536) (by omega) (by omega)
 have w8:=wu (c.ty+c.ri* 256+c.ba* 65536) (by omega) (by omega)
 have w9:=wu (c.th* 4294967296) (by omega) (by omega)
 have w0:=wu (c.ty+c.ri* 256+c.ba* 65536+c.th* 4294967296) (by omega) (by omega)
 have e:Hv c=c.ty+c.ri* 256+c.ba* 65536+c.th* 4294967296:=by simp[Hv,hg]
 rw[e]at h
 clear e wu hi
 refine AF.tidy ?_
 unfold Bh.cells
 refine Aa ok175 ?_;(try simp only[c175,w175,hg,w1,w2,w3,w4,w5,w6,w7,w8,w9,w0,go_sem]);repeat' ((first|refine orR ?_|(refine sp ?_ ?_<;>intro hc)|refine HS ?_)<;>try simp only[*,w175,w7,go_sem])
 exact⟨rfl,⟨_,rfl⟩⟩
theorem Fj{p:List Int}{o:Nat}{f r:Bool}(ho:H[o]?=some (.AU 1 (ints p) r))(hl:p.length≤100000)(h:K (.bool (BJ p)) H):AF Tryz.prog 158 [.slice o p.length 0 p.length f] H K:=by
 refine Aa ok158 ?_;(try simp only[c158,w158,go_sem]);repeat' ((first|refine orR ?_|(refine sp ?_ ?_<;>intro hc)|fail)<;>try simp only[*,w158,go_sem])
 refine AK.Az [3,0] ?_;simp only[mpC,go_sem]
 refine AK.aB (fun k=>((p.take k).all fun n=>decide (0≤n)&&decide (n≤15))=true) p.length (by simp) fun k hk hI next=> ?_
 refine AK.unfold ?_
 have hw:=AY (k:=k) (by omega)
 by_cases hkp:k<p.length
 ·have hg:=Bt hkp
  have hs:((p.take (k+1)).all fun n=>decide (0≤n)&&decide (n≤15))=((p.take k).all (fun n=>decide (0≤n)&&decide (n≤15))&&(decide (0≤p.getD k 0)&&decide (p.getD k 0≤15))):=J6 hkp
  have hf:(decide (0≤p.getD k 0)&&decide (p.getD k 0≤15))=false→BJ p=false:=fun hh=>by
   have:(p.all fun n=>decide (0≤n)&&decide (n≤15))=false:=all_false (d:=0) hkp hh
   simp only[BJ,this,Qk]
  generalize p.getD k 0=x at*
  (try simp only[w158,ho,hg,hw,hkp,AA b158_2.eq_1,AR,AX,go_sem]);repeat' ((first|refine orR ?_|(refine sp ?_ ?_<;>intro hc)|fail)<;>try simp only[*,w158,AA b158_2.eq_1,AR,AX,go_sem])
  ·exact kb h (by rw[hf];simp;omega)
  ·(refine AK.Az [3,0] ?_;simp only[mpC,go_sem];refine next hkp ?_)
   rw[hs,hI];simp;omega
  ·exact kb h (by rw[hf];simp;omega)
 ·have hk':k=p.length:=by omega
  subst hk'
  rw[QS]at hI
  (try simp only[w158,ho,hw,hkp,AA b158_2.eq_1,AR,AX,go_sem]);repeat' ((first|refine orR ?_|(refine sp ?_ ?_<;>intro hc)|fail)<;>try simp only[*,w158,AA b158_2.eq_1,AR,AX,go_sem])
  all_goals (refine kb h ?_;simp only[BJ,hI,QX];simp[*])
theorem KR{n lo hi:Int}(h:K (.bool (Bv n lo hi)) H):AF Tryz.prog 131 [.int .i64 n,.int .i64 lo,.int .i64 hi] H K:=by
 refine Aa ok131 ?_;(try simp only[c131,AA k131_0.eq_1,go_sem]);repeat' ((first|refine orR ?_|(refine sp ?_ ?_<;>intro hc)|fail)<;>try simp only[*,AA k131_0.eq_1,go_sem])
 all_goals (refine kb h ?_;first|(simp only[Bv, *,bs,go_sem];done)|(simp_all[Bv];done)|(simp_all[Bv];omega)|grind[Bv])
theorem HT{n:Int}(h0:0≤n)(h4:n≤4)(h:K (.int .i64 (p2 n)) H):AF Tryz.prog 151 [.int .i64 n] H K:=by
 have w1:IntKind.wrap .i64 1=1:=by decide
 have w2:IntKind.wrap .i64 2=2:=by decide
 have w3:IntKind.wrap .i64 3=3:=by decide
 have w4:IntKind.wrap .i64 4=4:=by decide
 have w8:IntKind.wrap .i64 8=8:=by decide
 have w16:IntKind.wrap .i64 16=16:=by decide
 have:n=0∨n=1∨n=2∨n=3∨n=4:=by omega
 rcases this with rfl|rfl|rfl|rfl|rfl
 all_goals
  refine Aa ok151 ?_;(try simp only[c151,w151,go_sem]);repeat' ((first|refine orR ?_|(refine sp ?_ ?_<;>intro hc)|fail)<;>try simp only[*,w151,go_sem])
  repeat (refine AK.unfold ?_;(try simp only[w151,AA b151_1.eq_1,w1,w2,w3,w4,w8,w16,go_sem]);repeat' ((first|refine orR ?_|(refine sp ?_ ?_<;>intro hc)|fail)<;>try simp only[*,w151,AA b151_1.eq_1,go_sem]))
  simpa [p2] using h
theorem VZ{g:SY}(h:K (.bool (Ee g)) H):AF Tryz.prog 130 [.agg g.cells] H K:=by
 have e:1≤g.AI→g.AI≤4→IntKind.wrap .i64 (8* g.AI)=8* g.AI∧IntKind.wrap .i64 (g.AI+2)=g.AI+2:=fun a b=>⟨w64 (by omega) (by omega),w64 (by omega) (by omega)⟩
 refine AF.tidy ?_
 unfold SY.cells
 refine Aa ok130 ?_;(try simp only[c130,AA k130_0.eq_1,e,go_sem]);repeat' ((first|refine orR ?_|(refine sp ?_ ?_<;>intro hc)|fail)<;>try simp only[*,AA k130_0.eq_1,go_sem])
 all_goals (refine tb h (by first|exact⟨_,rfl⟩|exact⟨[],(Qa _).symm⟩|exact hx|exact hx.app _) ?_;first|(simp only[Ee,Bv, *,bs,go_sem];done)|(simp_all[Ee,Bv];done)|(simp_all[Ee,Bv];omega)|grind[Ee,Bv])
end
end Go.Proofs.YtlaipllgmddkiaaGreat.Ax
namespace Go.Ax.M
open Go Go.Ax
theorem Inv.Yx{s:State}(h:Inv s){k:Nat}(hk:k<s.AE.length):decide ((s.slot k).cap.ty=0)=Aq (s.slot k).cap:=by
 have:=h.Ib k hk
 rw[Qs]
 simp only[decide_eq_true_eq]
 constructor
 ·intro e
  simp only[Bq,Ql,Qg,BX]at this
  rcases this with a|a
  ·exact a
  ·omega
 ·intro e
  simp only[Aq,Qg,decide_eq_true_eq]at e
  exact e.1
theorem Inv.bits{s:State}(h:Inv s){k:Nat}(hk:k<s.AB.length)(h2:(s.AG k).ty=2):0≤(s.AG k).bits∧(s.AG k).bits≤4:=by
 have:=(CO (h.BB k hk) h2).1
 simp only[BX]at this;omega
end Go.Ax.M
namespace Go.Proofs.YtlaipllgmddkiaaGreat.Ax
open Go Go.Ax Go.Ax.M
section
variable {H:AP}{K:AH→AP→Prop}{s:State}{oS oT:Nat}{fS fT rS rT:Bool}
theorem dM{t:AN}{n:Int}(hg:BB t=true)(h:K (.bool (Bx t n)) H):AF Tryz.prog 173 [.agg t.cells,.int .i64 n] H K:=by
 have hb:t.ty=2→0≤t.bits∧t.bits≤4:=fun h2=>by have:=(CO hg h2).1;simp only[BX]at this;omega
 have hw:t.ty=2→IntKind.wrap .i64 (t.base+p2 t.bits)=t.base+p2 t.bits:=fun h2=>by
  have:=CO hg h2
  have:=C4 this.1
  exact w64 (by omega) (by omega)
 refine AF.tidy ?_
 unfold AN.cells
 refine Aa ok173 ?_;(try simp only[c173,AA k173_0.eq_1,go_sem]);repeat' ((first|refine orR ?_|(refine sp ?_ ?_<;>intro hc)|refine HT (hb (by assumption)).1 (hb (by assumption)).2 ?_)<;>try simp only[*,AA k173_0.eq_1,go_sem])
 all_goals (refine tb h (by first|exact⟨_,rfl⟩|exact⟨[],(Qa _).symm⟩|exact hx|exact hx.app _) ?_;first|(simp only[Bx, *,bs,go_sem];done)|(simp_all[Bx];done)|(simp_all[Bx];omega)|grind[Bx])
theorem TH{x0 x1 x2 x3 x4 x5 x6:Int}{x7:Bool}{x8 x9 x10 x11 x12:Int}{n:Int}(hg:BB ⟨x0,x1,x2,x3,x4,x5,x6,x7,x8,x9,x10,x11,x12⟩=true)(h:K (.bool (Bx ⟨x0,x1,x2,x3,x4,x5,x6,x7,x8,x9,x10,x11,x12⟩ n)) H):AF Tryz.prog 173 [.agg [.int .i64 x0,.int .i64 x1,.int .i64 x2,.int .i64 x3,.int .i64 x4,.int .i64 x5,.int .i64 x6,.bool x7,.int .u64 x8,.int .u64 x9,.int .u64 x10,.int .u64 x11,.int .u64 x12],.int .i64 n] H K:=dM (t:=⟨x0,x1,x2,x3,x4,x5,x6,x7,x8,x9,x10,x11,x12⟩) hg h
theorem IP{n:Int}(hT:H[oT]?=some (.AU 13 (s.AB.map AN.cells) rT))(hlT:s.AB.length≤1000)(hok:DT s)(h:K (.int .i64 (A0 s n)) H):AF Tryz.prog 153 [stA s oS oT fS fT,.int .i64 n] H K:=by
 have kT:=AL.of hT
 refine AF.tidy ?_
 refine Aa ok153 ?_;(try simp only[c153,w153,kT,go_sem]);repeat' ((first|refine orR ?_|(refine sp ?_ ?_<;>intro hc)|fail)<;>try simp only[*,w153,go_sem])
 refine AK.Az [5,1,2] ?_;simp only[mpC,go_sem]
 refine AK.acc (fun k W=>[(5,.int .i64 (k:Int))]) (fun k W=>W) (fun k W=>Ex H W∧AL W H.length _∧(Qm k).all (fun j=>!Bx (s.AG j) n)=true) s.AB.length ?_ (a0:=_) ⟨.mk _,AL.of BH,by simp⟩
 rintro k W hk ⟨hx,kst,hI⟩ next
 have kT:AL W oT _:=kT.ex hx
 have kT0:=kT.at
 have kst0:=kst.at
 refine AK.unfold ?_
 have hw:=AY (k:=k) (by omega)
 have hg:k<s.AB.length→_:=fun h=>BI (s:=s) (k:=k) h
 (try simp only[w153,kT,kst,kT0,kst0,hg,hw,AA b153_2.eq_1,AR,AX,apC,go_sem]);repeat' ((first|refine orR ?_|(refine sp ?_ ?_<;>intro hc)|refine TH (hok _ (by assumption)) ?_)<;>try simp only[*,w153,AA b153_2.eq_1,AR,AX,apC,go_sem])
 ·exact ti h (by first|exact⟨_,rfl⟩|exact⟨[],(Qa _).symm⟩|exact hx|exact hx.app _) (by rw[A0];exact(Jl (by assumption) hI (by assumption)).symm)
 ·(refine AK.Az [5,1,2] ?_;simp only[mpC,go_sem];refine next _ (by assumption) ⟨(by first|exact⟨_,rfl⟩|exact⟨[],(Qa _).symm⟩|exact hx|exact hx.app _),kst,?_⟩)
  rw[Da (N:=0),hI];simp[*]
 ·have hk:k=s.AB.length:=by omega
  subst hk
  exact ti h (by first|exact⟨_,rfl⟩|exact⟨[],(Qa _).symm⟩|exact hx|exact hx.app _) (by rw[A0];exact(G4 hI).symm)
theorem JM{t:Int}(hi:Inv s)(hS:H[oS]?=some (.AU 5 (s.AE.map Slot.cells) rS))(h:K (.slice H.length (BM s t).length 0 (BM s t).length false) (H++[.AU 1 (ints (BM s t)) false])):AF Tryz.prog 156 [stA s oS oT fS fT,.int .i64 t] H K:=by
 have kS:=AL.of hS
 have hlen:s.AE.length≤1000:=by have:=hi.ok.lS;omega
 have hcz:∀k,k<s.AE.length→_:=fun k hk=>hi.Yx (k:=k) hk
 clear hi
 refine AF.gc ?_
 refine Aa ok156 ?_;(try simp only[c156,w156,kS,go_sem]);repeat' ((first|refine orR ?_|(refine sp ?_ ?_<;>intro hc)|fail)<;>try simp only[*,w156,go_sem])
 refine AK.Az [5,6,1,2] ?_;simp only[mpC,go_sem]
 refine AK.lay 1 ?_
 simp only[go_sem]
 refine AK.acc (fun k G=>[(5,.slice (H.length+1) (pick (DV s t) k).length 0 (pick (DV s t) k).length false),(6,.int .i64 (k:Int))]) (fun k G=>H++_:: .AU 1 (ints (pick (DV s t) k)) false::G) (fun k G=>True) s.AE.length ?_ (a0:=[]) trivial
 intro k G hk _ next
 refine AK.Jn fun W hW=> ?_
 have kS:=kS.ex hW.ex
 have kst:=hW.EQ
 have ko:=hW.Hx
 have kS0:=kS.at
 have kst0:=kst.at
 have ko0:=ko.at
 have kos:=ko.set
 have hb:((pick (DV s t) k).length+1)* 8≤140737488355328:=by have:=GO (p:=DV s t) (k:=k);omega
 refine AK.unfold ?_
 have hw:=AY (k:=k) (by omega)
 have hg:k<s.AE.length→_:=fun h=>A4 (s:=s) (k:=k) h
 have hz:k<s.AE.length→_:=fun h=>hcz k h
 clear hcz
 (try simp only[w156,hg,hw,kos,kS0,kst0,ko0,hz,kS,kst,AA b156_2.eq_1,AR,AX,apC,go_sem]);repeat' ((first|refine orR ?_|(refine sp ?_ ?_<;>intro hc)|fail)<;>try simp only[*,w156,AA b156_2.eq_1,AR,AX,apC,go_sem])
 case' refine_2=>
  have hk':k=s.AE.length:=by omega
  have hW:W=_:=hW
  subst hk' hW
  exact Gc.slice (i:=1) rfl Ca (by simpa only[BM] using h)
 case' refine_1.refine_1.refine_1=>have e:=UG (p:=DV s t) (k:=k) (by simp[DV, *])
 case' refine_1.refine_1.refine_2=>have e:=OL (p:=DV s t) (k:=k) (by simp[DV, *])
 case' refine_1.refine_2=>have e:=OL (p:=DV s t) (k:=k) (by simp[DV, *])
 all_goals
  have hW:W=_:=hW
  subst hW
  simp only[e,Dn,GI,go_sem]at next
  (refine AK.Az [5,6,1,2] ?_;simp only[mpC,go_sem];refine next _ (by assumption))
theorem Pf(hi:Inv s)(hS:H[oS]?=some (.AU 5 (s.AE.map Slot.cells) rS))(h:K (.slice H.length s.AE.length 0 s.AE.length false) (H++[.AU 1 (ints (As s)) false])):AF Tryz.prog 90 [stA s oS oT fS fT] H K:=by
 have kS:=AL.of hS
 have hlS:s.AE.length≤1000:=by have:=hi.ok.lS;omega
 clear hi
 refine AF.gc ?_
 refine Aa ok90 ?_;(try simp only[c90,w90,kS,go_sem]);repeat' ((first|refine orR ?_|(refine sp ?_ ?_<;>intro hc)|fail)<;>try simp only[*,w90,go_sem])
 refine AK.Az [3,4,1] ?_;simp only[mpC,go_sem]
 refine AK.lay 1 ?_
 simp only[go_sem]
 refine AK.acc (fun k G=>[(3,.slice (H.length+1) k 0 k false),(4,.int .i64 (k:Int))]) (fun k G=>H++_:: .AU 1 (ints ((s.AE.take k).map FE)) false::G) (fun k G=>True) s.AE.length ?_ (a0:=[]) trivial
 intro k G hk _ next
 refine AK.Jn fun W hW=> ?_
 have kS:=kS.ex hW.ex
 have kst:=hW.EQ
 have ko:=hW.Hx
 have kS0:=kS.at
 have kst0:=kst.at
 have ko0:=ko.at
 have kos:=ko.set
 have hl:(ints ((s.AE.take k).map FE)).length=k:=by rw[LJ,List.length_map,List.length_take];omega
 have hb:(k+1)* 8≤140737488355328:=by omega
 refine AK.unfold ?_
 have hw:=AY (k:=k) (by omega)
 have hg:k<s.AE.length→_:=fun h=>A4 (s:=s) (k:=k) h
 (try simp only[w90,hg,hw,kos,hl,hb,kS,kst,kS0,kst0,ko0,AA b90_3.eq_1,AR,AX,apC,go_sem]);repeat' ((first|refine orR ?_|(refine sp ?_ ?_<;>intro hc)|fail)<;>try simp only[*,w90,AA b90_3.eq_1,AR,AX,apC,go_sem])
 case' refine_2=>
  have hk':k=s.AE.length:=by omega
  have hW:W=_:=hW
  subst hk' hW
  refine Gc.slice (i:=1) rfl Ca ?_
  simpa only[As,QS] using h
 case' refine_1.refine_1=>
  have e:(s.AE.take (k+1)).map FE=(s.AE.take k).map FE++[-2]:=by
   have hn:Aq (s.slot k).cap=true:=by clear next;simp_all[Aq]
   rw[Fk (by assumption)];simp[FE,hn]
 case' refine_1.refine_2=>
  have e:(s.AE.take (k+1)).map FE=(s.AE.take k).map FE++[(s.slot k).up]:=by
   have hn:Aq (s.slot k).cap=false:=by
    clear next;rw[Qw];intro e;simp_all[Aq]
   rw[Fk (by assumption)];simp[FE,hn]
 all_goals
  have hW:W=_:=hW
  subst hW
  simp only[e,Dn,GI,go_sem]at next
  (refine AK.Az [3,4,1] ?_;simp only[mpC,go_sem];refine next _ (by assumption))
theorem MS{t:AN}(h:K (.bool (BB t)) H):AF Tryz.prog 150 [.agg t.cells] H K:=by
 have hb:Bv t.bits 1 4=true→0≤t.bits∧t.bits≤4:=fun h=>by simp only[BX]at h;omega
 have e:Bv t.bits 1 4=true→IntKind.wrap .i64 (96-p2 t.bits)=96-p2 t.bits:=fun h=>w64 (by have:=C4 h;omega) (by have:=C4 h;omega)
 refine AF.tidy ?_
 unfold AN.cells
 refine Aa ok150 ?_;(try simp only[c150,w150,go_sem]);repeat' ((first|refine orR ?_|(refine sp ?_ ?_<;>intro hc)|refine KR ?_|refine HT (hb (by assumption)).1 (hb (by assumption)).2 ?_)<;>try simp only[*,w150,go_sem])
 all_goals (refine tb h (by first|exact⟨_,rfl⟩|exact⟨[],(Qa _).symm⟩|exact hx|exact hx.app _) ?_;first|(simp only[BB,DI,F4,AN.zero, *,bs,go_sem];done)|(simp_all[BB,DI,F4,AN.zero];done)|(simp_all[BB,DI,F4,AN.zero];omega)|grind[BB,DI,F4,AN.zero])
end
end Go.Proofs.YtlaipllgmddkiaaGreat.Ax
namespace Go.Ax.M
open Go Go.Ax
def I4(s:State)(L:List Bool)(i:Nat):List Bool:=
 bif decide ((s.slot i).cap.ty=2)&&(decide (0≤A0 s i)&&L.getD (A0 s i).toNat false)then L.set (s.slot i).cap.th.toNat true else L
def GD(s:State)(L:List Bool)(i:Nat):List Bool:=(Qm i).foldl (I4 s) L
def Ci(s:State)(L:List Bool):Nat→List Bool
 |0=>L
 |n+1=>GD s (Ci s L n) s.AE.length
def D5(s:State)(node:Int):List Bool:=(QM s.AB.length false).set node.toNat true
def I5(s:State)(node:Int):List Bool:=(Qm s.AB.length).map fun(j:Nat)=>(B7 s (s.AB.length+1) node []).contains (j:Int)
theorem GR{s:State}{L:List Bool}{i:Nat}:GD s L (i+1)=I4 s (GD s L i) i:=by simp[GD,List.range_succ]
theorem UZ{s:State}{L:List Bool}{i:Nat}:(I4 s L i).length=L.length:=by
 simp only[I4];cases (decide ((s.slot i).cap.ty=2)&&(decide (0≤A0 s i)&&L.getD (A0 s i).toNat false))<;>simp
theorem HV{s:State}{L:List Bool}:∀i,(GD s L i).length=L.length
 |0=>rfl
 |i+1=>by rw[GR,UZ,HV i]
theorem FX{s:State}{L:List Bool}:∀n,(Ci s L n).length=L.length
 |0=>rfl
 |n+1=>by rw[Ci,HV,FX n]
theorem HU{s:State}{node:Int}:(D5 s node).length=s.AB.length:=by simp[D5]
def J1(L:List Bool):Nat:=L.countP id
theorem TV{L:List Bool}:∀{k:Nat},k<L.length→(L.getD k false=true∧L.set k true=L)∨(L.getD k false=false∧J1 (L.set k true)=J1 L+1):=by
 induction L with
 |nil=>intro k h;simp at h
 |cons x L ih=>
  intro k hk
  cases k with
  |zero=>cases x<;>simp[J1]
  |succ k=>
   rcases ih (k:=k) (by simpa using hk)with⟨a,b⟩|⟨a,b⟩
   ·left;refine⟨by simpa using a,by simp[b]⟩
   ·right;refine⟨by simpa using a,?_⟩
    simp only[J1,List.set_cons_succ,List.countP_cons]at b ⊢
    omega
def V3(s:State)(L:List Bool)(i:Nat):Prop:=(s.slot i).cap.ty=2∧0≤A0 s i∧L.getD (A0 s i).toNat false=true
def V5(s:State)(L:List Bool)(n:Nat):Prop:=∀i,i<n→V3 s L i→L.getD (s.slot i).cap.th.toNat false=true
theorem JT(s:State)(L:List Bool)(i:Nat):(V3 s L i∧I4 s L i=L.set (s.slot i).cap.th.toNat true)∨(¬V3 s L i∧I4 s L i=L):=by
 simp only[I4,V3]
 cases h:(decide ((s.slot i).cap.ty=2)&&(decide (0≤A0 s i)&&L.getD (A0 s i).toNat false))with
 |true=>left;simp only[Qg,decide_eq_true_eq]at h;exact⟨h,rfl⟩
 |false=>
  right;refine⟨?_,rfl⟩
  rintro⟨a,b,c⟩
  rw[c]at h
  simp[a,b]at h
theorem Inv.th{s:State}(h:Inv s){i:Nat}(hi:i<s.AE.length)(hn:s.B8 i):0≤(s.slot i).cap.th∧(s.slot i).cap.th<s.AB.length:=by
 have:=(h.E8 i hi hn).1
 rw[DP]at this;omega
theorem R4{s:State}(h:Inv s){L:List Bool}(hL:L.length=s.AB.length){i:Nat}(hi:i<s.AE.length):
 (I4 s L i=L∧(V3 s L i→L.getD (s.slot i).cap.th.toNat false=true))∨J1 (I4 s L i)=J1 L+1:=by
 rcases JT s L i with⟨a,b⟩|⟨a,b⟩
 ·have DS:=h.th hi (C9 (by rw[a.1];decide))
  rcases TV (L:=L) (k:=(s.slot i).cap.th.toNat) (by omega)with⟨c,d⟩|⟨c,d⟩
  ·exact .inl ⟨by rw[b,d],fun _=>c⟩
  ·exact .inr (by rw[b,d])
 ·exact .inl ⟨b,fun c=>absurd c a⟩
theorem O5{s:State}(h:Inv s){L:List Bool}(hL:L.length=s.AB.length):∀n,n≤s.AE.length→
 (GD s L n=L∧V5 s L n)∨J1 L<J1 (GD s L n)
 |0,_=> .inl ⟨rfl,fun i hi=>by omega⟩
 |n+1,hn=>by
  rw[GR]
  rcases O5 h hL n (by omega)with⟨a,b⟩|a
  ·rw[a]
   rcases R4 h hL (i:=n) (by omega)with⟨c,d⟩|c
   ·refine .inl ⟨c,fun i hi hc=> ?_⟩
    by_cases e:i=n
    ·subst e;exact d hc
    ·exact b i (by omega) hc
   ·right;omega
  ·right
   rcases R4 h (L:=GD s L n) (by rw[HV,hL]) (i:=n) (by omega)with⟨c,d⟩|c
   ·rw[c];exact a
   ·omega
theorem O7{s:State}{L:List Bool}(hL:V5 s L s.AE.length)(hl:∀i,i<s.AE.length→(s.slot i).cap.ty=2→(s.slot i).cap.th.toNat<L.length):∀n,n≤s.AE.length→GD s L n=L
 |0,_=>rfl
 |n+1,hn=>by
  rw[GR,O7 hL hl n (by omega)]
  rcases JT s L n with⟨a,b⟩|⟨a,b⟩
  ·rw[b]
   have:=hL n (by omega) a
   rcases TV (hl n (by omega) a.1)with⟨c,d⟩|⟨c,d⟩
   ·exact d
   ·rw[this]at c;cases c
  ·exact b
theorem Ns{s:State}(h:Inv s){L:List Bool}(hL:L.length=s.AB.length):∀n,V5 s (Ci s L n) s.AE.length∨n+J1 L≤J1 (Ci s L n)
 |0=> .inr (by simp[Ci])
 |n+1=>by
  have hl:(Ci s L n).length=s.AB.length:=by rw[FX,hL]
  rw[Ci]
  rcases Ns h hL n with a|a
  ·left
   rw[O7 a (fun i hi h2=>by have:=h.th hi (C9 (by rw[h2];decide));omega) _ (QT _)];exact a
  ·rcases O5 h hl s.AE.length (QT _)with⟨b,c⟩|b
   ·left;rw[b];exact c
   ·right;omega
theorem cJ{L:List Bool}:J1 L≤L.length:=List.countP_le_length
theorem V4{s:State}(h:Inv s){node:Int}(h0:0≤node)(h1:node<s.AB.length):V5 s (Ci s (D5 s node) s.AB.length) s.AE.length:=by
 rcases Ns h (L:=D5 s node) HU s.AB.length with a|a
 ·exact a
 ·have:=cJ (L:=Ci s (D5 s node) s.AB.length)
  rw[FX,HU]at this
  have h2:0<J1 (D5 s node):=by
   simp only[J1,D5]
   rw[List.countP_pos_iff]
   refine⟨true,?_,rfl⟩
   exact List.mem_iff_getElem.2 ⟨node.toNat,by simp;omega,by simp⟩
  omega
theorem Sz{h:List Bool}{k i:Nat}:(h.set k true).getD i false=true→h.getD i false=true∨i=k:=by
 intro e
 by_cases hk:k<h.length
 ·rw[NP hk]at e;simpa using e
 ·rw[QH (by omega)]at e;exact .inl e
theorem Zv{h:List Bool}{k i:Nat}(e:h.getD i false=true):(h.set k true).getD i false=true:=by
 by_cases hk:k<h.length
 ·rw[NP hk,e];rfl
 ·rw[QH (by omega)];exact e
theorem V6{s:State}{L:List Bool}{i j:Nat}(e:L.getD j false=true):(I4 s L i).getD j false=true:=by
 rcases JT s L i with⟨_,b⟩|⟨_,b⟩
 ·rw[b];exact Zv e
 ·rw[b];exact e
theorem Nr{s:State}{L:List Bool}{j:Nat}(e:L.getD j false=true):∀n,(GD s L n).getD j false=true
 |0=>e
 |n+1=>by rw[GR];exact V6 (Nr e n)
theorem Ma{s:State}{L:List Bool}{j:Nat}(e:L.getD j false=true):∀n,(Ci s L n).getD j false=true
 |0=>e
 |n+1=>by rw[Ci];exact Nr (Ma e n) _
def TX(s:State)(node:Int)(L:List Bool):Prop:=∀j:Nat,L.getD j false=true→Reach s node j
theorem YR{s:State}(h:Inv s){i:Nat}(hi:i<s.AE.length)(h2:(s.slot i).cap.ty=2)(ho:0≤A0 s i):Edge s (A0 s i) (s.slot i).cap.th:=by
 obtain⟨n,hn,hh,e⟩:=IM (s:=s) (i:=i) (by omega)
 exact⟨ho,i,hi,h2,by rw[e];exact hh,(h.E8 i hi (C9 (by rw[h2];decide))).1,rfl⟩
theorem YC{s:State}(h:Inv s){node:Int}{L:List Bool}(hL:TX s node L){i:Nat}(hi:i<s.AE.length):TX s node (I4 s L i):=by
 rcases JT s L i with⟨a,b⟩|⟨_,b⟩
 ·rw[b]
  intro j hj
  rcases Sz hj with c|c
  ·exact hL j c
  ·have DS:=h.th hi (C9 (by rw[a.1];decide))
   have:=hL _ a.2.2
   rw[show(((A0 s i).toNat:Nat):Int)=A0 s i by have:=a.2.1;omega]at this
   have e:=this.trans (.one (YR h hi a.1 a.2.1))
   rw[c,show(((s.slot i).cap.th.toNat:Nat):Int)=(s.slot i).cap.th by omega]
   exact e
 ·rw[b];exact hL
theorem O6{s:State}(h:Inv s){node:Int}{L:List Bool}(hL:TX s node L):∀n,n≤s.AE.length→TX s node (GD s L n)
 |0,_=>hL
 |n+1,hn=>by rw[GR];exact YC h (O6 h hL n (by omega)) (by omega)
theorem Nt{s:State}(h:Inv s){node:Int}{L:List Bool}(hL:TX s node L):∀n,TX s node (Ci s L n)
 |0=>hL
 |n+1=>by rw[Ci];exact O6 h (Nt h hL n) _ (QT _)
theorem UH{s:State}{n m:Int}(r:Reach s n m)(h0:0≤n):0≤m:=by
 induction r with
 |refl=>exact h0
 |step e _ ih=>
  obtain⟨_,i,_,_,_,c,rfl⟩:=e
  rw[DP]at c
  exact ih c.1
theorem Wq{s:State}(h:Inv s){L:List Bool}(hL:V5 s L s.AE.length){n m:Int}(r:Reach s n m):L.getD n.toNat false=true→L.getD m.toNat false=true:=by
 induction r with
 |refl=>exact id
 |@step n m k e _ ih=>
  intro hn
  refine ih ?_
  obtain⟨h0,i,hi,h2,hh,_,rfl⟩:=e
  have hl:n.toNat<s.AB.length:=by
   by_cases hx:n.toNat<s.AB.length
   ·exact hx
   ·rw[show s.AG n.toNat=AN.zero by simp[State.AG,QB,Qj (Nat.le_of_not_lt hx)]]at hh
    simp[Bx,AN.zero]at hh
  have eo:=Fz h.apart hl hh
  exact hL i hi ⟨h2,by rw[eo];omega,by rw[eo];exact hn⟩
theorem Z4{s:State}(h:Inv s){node:Int}(ht:BD s node=true):Ci s (D5 s node) s.AB.length=I5 s node:=by
 have ht':=DP.1 ht
 have hlen:(Ci s (D5 s node) s.AB.length).length=s.AB.length:=by rw[FX,HU]
 apply List.ext_getElem
 ·rw[hlen];simp[I5]
 intro j h1 h2
 have hj:j<s.AB.length:=by omega
 have e1:(Ci s (D5 s node) s.AB.length)[j]=(Ci s (D5 s node) s.AB.length).getD j false:=by simp[QB,h1]
 rw[e1]
 simp only[I5,List.getElem_map,List.getElem_range]
 rw[Qs,QA,within_iff ht]
 constructor
 ·refine Nt h (L:=D5 s node) (fun k hk=> ?_) _ j
  simp only[D5]at hk
  rcases Sz hk with c|c
  ·simp only[QB,QJ]at c
   split at c<;>simp at c
  ·rw[c,show((node.toNat:Nat):Int)=node by omega];exact .refl
 ·intro r
  have:=Wq h (V4 h ht'.1 ht'.2.1) r (Ma (by simp only[D5];rw[NP (by simp;omega)];simp) _)
  simpa using this
theorem R5{s:State}{node:Int}{j:Nat}(hj:j<s.AB.length):(I5 s node).getD j false=(B7 s (s.AB.length+1) node []).contains (j:Int):=by
 simp[I5,QB,hj]
theorem E6{s:State}{node:Int}:(I5 s node).length=s.AB.length:=by simp[I5]
theorem dN{s:State}(h:Inv s){n:Nat}(hn:n<s.AB.length){i:Nat}(hi:i<s.AE.length)(h2:(s.slot i).cap.ty=2)(ho:A0 s i=n):(I5 s (s.slot i).cap.th).getD n false=false:=by
 rw[R5 hn]
 have DS:=(h.E8 i hi (C9 (by rw[h2];decide))).1
 rw[Qw]
 intro e
 rw[QA,within_iff DS]at e
 have ed:=YR h hi h2 (by omega)
 rw[ho]at ed
 exact h.ring n hn _ ed e
theorem WX{s:State}{node:Int}(ht:BD s node=true){x:Int}(hx:x<0):(B7 s (s.AB.length+1) node []).contains x=false:=by
 rw[Qw]
 intro e
 rw[QA,within_iff ht]at e
 have:=UH e (DP.1 ht).1
 omega
theorem aW{up:List Int}(h:Td up){i:Nat}(hi:i<up.length):CH up up.length i=true:=by
 obtain⟨r,hr⟩:=h
 have hc:∀i:Nat,i<up.length→E0 up i=true→E0 up (up.getD i 0)=true→(Qm up.length).countP (fun k=>decide (r k<r (up.getD i 0).toNat))<(Qm up.length).countP fun k=>decide (r k<r i):=by
  intro i hi h1 h2
  have hlt:=hr i hi h1 h2
  have h2':=h2
  rw[D7]at h2'
  refine Jj (fun k _ hk=> ?_) ⟨(up.getD i 0).toNat,QN.2 (by omega),?_,?_⟩
  ·simp only[decide_eq_true_eq]at hk ⊢;omega
  ·simp only[decide_eq_true_eq];exact hlt
  ·simp
 have key:∀(n:Nat) (i:Nat),i<up.length→(Qm up.length).countP (fun k=>decide (r k<r i))≤n→CH up (n+1) i=true:=by
  intro n
  induction n with
  |zero=>
   intro i hi hn
   rw[CH]
   cases h1:E0 up i with
   |false=>rfl
   |true=>
    cases h2:E0 up (up.getD i 0)with
    |false=>simp only[CH,Qd,h2];rfl
    |true=>have:=hc i hi h1 h2;omega
  |succ n ih=>
   intro i hi hn
   rw[CH]
   cases h1:E0 up i with
   |false=>rfl
   |true=>
    cases h2:E0 up (up.getD i 0)with
    |false=>rw[CH];simp only[Qd,h2];rfl
    |true=>
     have h3:=hc i hi h1 h2
     have h2':=h2
     rw[D7]at h2'
     have e:(((up.getD i 0).toNat:Nat):Int)=up.getD i 0:=by omega
     have:=ih (up.getD i 0).toNat (by omega) (by omega)
     rw[e]at this
     simp only[Qd,this,Bool.or_true]
 have hlt:(Qm up.length).countP (fun k=>decide (r k<r i))<(Qm up.length).countP fun _=>true:=
  Jj (fun _ _ _=>rfl) ⟨i,QN.2 hi,rfl,by simp⟩
 simp at hlt
 have:=key (up.length-1) i hi (by omega)
 rwa [show up.length-1+1=up.length by omega]at this
theorem K7{up:List Int}(h:Cm up=true){i:Nat}(hi:i<up.length):up.getD i 0=-2∨up.getD i 0=-1∨E0 up (up.getD i 0)=true:=by
 simp only[Cm,Qg,List.all_eq_true]at h
 have:=h.2.1 (up.getD i 0) (by simp[QB,hi])
 simp only[ZA,Ql,decide_eq_true_eq]at this
 exact this
theorem Tu{up:List Int}(h:Cm up=true):Td up:=TF (by simp only[Cm,Qg]at h;exact h.2.2)
theorem Lv{up:List Int}(h:Cm up=true):up.length≤96:=by simp only[Cm,Qg,decide_eq_true_eq]at h;exact h.1
def Md(up:List Int)(i:Nat)(n:Nat)(k:Int):Prop:=(n=0∧k=i)∨(1≤n∧n≤up.length∧((k<0∧-2≤k)∨E0 up k=true)∧CH up (up.length-n) k=true)
theorem Md.step{up:List Int}(h:Cm up=true){i n:Nat}{k:Int}(hi:i<up.length)(c:Md up i n k)(h0:0≤k):k<up.length∧n<up.length∧Md up i (n+1) (up.getD k.toNat 0):=by
 rcases c with⟨rfl,rfl⟩|⟨h1,h2,h3,h4⟩
 ·refine⟨by omega,by omega,.inr ⟨by omega,by omega,?_,?_⟩⟩
  ·rcases K7 h hi with a|a|a
   ·left;simp only[Qd,a];decide
   ·left;simp only[Qd,a];decide
   ·right;simpa using a
  ·have:=aW (Tu h) hi
   rw[show up.length=(up.length-(0+1))+1 by omega,CH]at this
   simp only[Qd,Ql,Qx]at this ⊢
   rcases this with a|a
   ·have:up.getD i 0=-2:=by
     by_cases e:up.getD i 0=-2
     ·exact e
     ·have:E0 up (i:Int)=true:=D7.2 ⟨by omega,by omega,by simpa using e⟩
      rw[a]at this;cases this
    rw[this]
    cases up.length-(0+1)<;>simp[CH,E0]
   ·exact a
 ·rcases h3 with h3|h3
  ·omega
  have h3':=D7.1 h3
  have hn:n<up.length:=by
   by_cases e:n=up.length
   ·subst e;simp only[Nat.sub_self,CH,h3]at h4;cases h4
   ·omega
  refine⟨by omega,hn,.inr ⟨by omega,by omega,?_,?_⟩⟩
  ·have hk:k.toNat<up.length:=by omega
   rcases K7 h hk with a|a|a
   ·left;rw[a];decide
   ·left;rw[a];decide
   ·exact .inr a
  ·rw[show up.length-n=(up.length-(n+1))+1 by omega,CH,h3]at h4
   simpa using h4
theorem Md.le{up:List Int}{i n:Nat}{k:Int}(c:Md up i n k):n≤up.length:=by
 rcases c with⟨rfl,_⟩|⟨_,h,_⟩<;>omega
end Go.Ax.M
namespace Go.Proofs.YtlaipllgmddkiaaGreat.Ax
open Go Go.Ax Go.Ax.M
section
variable {H:AP}{K:AH→AP→Prop}{s:State}{oS oT:Nat}{fS fT rS rT:Bool}
theorem Um{l:List Bool}:∀x∈C6 l,∀a∈x,a.plain=true:=by
 intro x hx a ha
 simp only[C6,QZ]at hx
 obtain⟨b,_,rfl⟩:=hx
 simp only[List.mem_singleton]at ha
 subst ha;rfl
theorem LV{up:List Int}{n o:Nat}{f r:Bool}(hn:up.length=n)(hg:Cm up=true)(ho:H[o]?=some (.AU 1 (ints up) r))(h:K (.bool true) H):AF Tryz.prog 154 [.slice o n 0 n f] H K:=by
 subst hn
 have hlen:=Lv hg
 have hup:∀i,i<up.length→_:=fun i hi=>K7 hg (i:=i) hi
 have hcl:∀i n k,_:=fun i n k=>@Md.step up hg i n k
 clear hg
 have g96:¬(96<(up.length:Int)):=by omega
 refine Aa ok154 ?_;(try simp only[c154,w154,g96,go_sem]);repeat' ((first|refine orR ?_|(refine sp ?_ ?_<;>intro hc)|fail)<;>try simp only[*,w154,go_sem])
 refine AK.Az [3,0] ?_;simp only[mpC,go_sem]
 refine AK.aB (fun k=>True) up.length trivial fun k hk _ next=> ?_
 refine AK.unfold ?_
 have hw:=AY (k:=k) (by omega)
 have hg:k<up.length→(ints up)[k]?=some [.int .i64 (up.getD k 0)]:=fun h=>Bt h
 have hu1:k<up.length→(up.getD k 0< -2)=False:=fun h=>by
  refine eq_false fun e=> ?_
  rcases hup k h with a|a|a
  ·omega
  ·omega
  ·rw[D7]at a;omega
 have hu2:k<up.length→(up.length:Int)≤up.getD k 0→False:=fun h e=>by
  rcases hup k h with a|a|a
  ·omega
  ·omega
  ·rw[D7]at a;omega
 have hu3:k<up.length→0≤up.getD k 0→(up.getD k 0<(up.length:Int))=True∧(ints up)[(up.getD k 0).toNat]?=some [.int .i64 (up.getD (up.getD k 0).toNat 0)]∧(up.getD (up.getD k 0).toNat 0=-2)=False:=fun h e=>by
  rcases hup k h with a|a|a
  ·omega
  ·omega
  ·rw[D7]at a;exact⟨eq_true a.2.1,Bt (by omega),eq_false a.2.2⟩
 clear hup
 generalize up.getD k 0=x at*
 (try simp only[w154,ho,hg,hw,AA b154_3.eq_1,AR,AX,go_sem]);repeat' ((first|refine orR ?_|(refine sp ?_ ?_<;>intro hc)|fail)<;>try simp only[*,w154,AA b154_3.eq_1,AR,AX,go_sem])
 case' refine_2=>
  clear next hw hg hu1 hu2 hu3 hk
  refine AK.Az [4,0] ?_;simp only[mpC,go_sem]
  refine AK.aB (fun k=>True) up.length trivial fun i hi _ next=> ?_
  refine AK.unfold ?_
  have hw:=AY (k:=i) (by omega)
  (try simp only[w154,hw,AA b154_11.eq_1,AR,AX,go_sem]);repeat' ((first|refine orR ?_|(refine sp ?_ ?_<;>intro hc)|fail)<;>try simp only[*,w154,AA b154_11.eq_1,AR,AX,go_sem])
  have hil:i<up.length:=by assumption
  refine AK.Az [6,5,0,4] ?_;simp only[mpC,go_sem]
  refine AK.acc (fun s a=>[(6,.int .i64 a),(5,.int .i64 (s:Int))]) (fun _ _=>H) (fun s a=>Md up i s a) up.length ?_ (a0:=(i:Int)) (.inl ⟨rfl,rfl⟩)
  intro n a hn hI next2
  refine AK.unfold ?_
  have hws:=AY (k:=n) (by omega)
  have hle:((n:Int)≤(up.length:Int))=True:=eq_true (by omega)
  have hgt:((up.length:Int)<(n:Int))=False:=eq_false (by omega)
  have hst:0≤a→_:=fun h0=>hcl i n a hil hI h0
  have hgg:0≤a→(a<(up.length:Int))=True∧(ints up)[a.toNat]?=some [.int .i64 (up.getD a.toNat 0)]:=fun h0=>⟨eq_true (hst h0).1,Bt (by have:=(hst h0).1;omega)⟩
  clear hcl
  (try simp only[w154,ho,hws,hle,hgt,hgg,AA b154_6.eq_1,AR,AX,go_sem]);repeat' ((first|refine orR ?_|(refine sp ?_ ?_<;>intro hc)|fail)<;>try simp only[*,w154,AA b154_6.eq_1,AR,AX,go_sem])
 case' refine_2.refine_1.refine_1=>(refine AK.Az [6,5,0,4] ?_;simp only[mpC,go_sem];refine next2 _ (hst (by assumption)).2.1 (hst (by assumption)).2.2)
 case' refine_2.refine_1.refine_2=>(refine AK.Az [4,0] ?_;simp only[mpC,go_sem];refine next (by assumption) trivial)
 case' refine_1.refine_2=>exact absurd (by assumption) (hu2 (by assumption))
 all_goals ((refine AK.Az [3,0] ?_;simp only[mpC,go_sem];refine next (by assumption) trivial))
theorem TI{node:Int}(hi:Inv s)(ht:BD s node=true)(hS:H[oS]?=some (.AU 5 (s.AE.map Slot.cells) rS))(hT:H[oT]?=some (.AU 13 (s.AB.map AN.cells) rT))
 (h:K (.slice H.length s.AB.length 0 s.AB.length true) (H++[.AU 1 (C6 (I5 s node)) false])):AF Tryz.prog 217 [stA s oS oT fS fT,.int .i64 node] H K:=by
 have kS:=AL.of hS
 have kT:=AL.of hT
 have hlS:s.AE.length≤1000:=by have:=hi.ok.lS;omega
 have hlT:s.AB.length≤1000:=by have:=hi.ok.lT;omega
 have hok:DT s:=hi.BB
 have eL:=Z4 hi ht
 rw[DP]at ht
 obtain⟨KD,hn1,_⟩:=ht
 have hn0':(0≤node)=True:=eq_true KD
 have hn1':(node<(s.AB.length:Int))=True:=eq_true hn1
 have DS:∀i,i<s.AE.length→(s.slot i).cap.ty=2→_:=fun i hi' h2=>hi.th (i:=i) hi' (C9 (by rw[h2];decide))
 have hb2:(s.AB.length:Int)≤9223372036854775807:=by omega
 have hb3:(s.AB.length:Int)≤140737488355328:=by omega
 have hrg:(QM s.AB.length [AH.bool false])[node.toNat]?=some [.bool false]:=by rw[QJ,if_pos (by omega)]
 have hrs:(QM s.AB.length [AH.bool false]).set node.toNat [.bool true]=C6 (D5 s node):=by rw[←Lu,Ey];rfl
 refine AF.gc ?_
 refine Aa ok217 ?_;(try simp only[c217,w217,kS,kT,AX,Q0,Q1,hb2,hb3,hn0',hn1',hrs,hrg,Qv,Qt,go_sem]);repeat' ((first|refine orR ?_|(refine sp ?_ ?_<;>intro hc)|fail)<;>try simp only[*,w217,AX,Q0,Q1,Qv,Qt,go_sem])
 refine AK.Az [6,2,5] ?_;simp only[mpC,go_sem]
 refine AK.acc (fun k G=>[(6,.int .i64 (k:Int))]) (fun k G=>H++_:: .AU 1 (C6 (Ci s (D5 s node) k)) false::G) (fun k G=>True) s.AB.length ?_ (a0:=[]) trivial
 intro r G hr _ next
 refine AK.Jn fun W hW=> ?_
 have kst:=hW.EQ
 have ko:=hW.Hx
 have kst0:=kst.at
 have ko0:=ko.at
 have hlr:(Ci s (D5 s node) r).length=s.AB.length:=by rw[FX,HU]
 refine AK.unfold ?_
 have hwr:=AY (k:=r) (by omega)
 (try simp only[w217,kst,kst0,ko0,hwr,AA b217_6.eq_1,AR,AX,go_sem]);repeat' ((first|refine orR ?_|(refine sp ?_ ?_<;>intro hc)|fail)<;>try simp only[*,w217,AA b217_6.eq_1,AR,AX,go_sem])
 case' refine_2=>
  have hk':r=s.AB.length:=by omega
  have hW:W=_:=hW
  subst hk' hW
  rw[eL]
  exact Gc.slice (i:=1) rfl Um h
 have hW:W=_:=hW
 subst hW
 clear kst0 ko0 kst ko
 refine AK.Az [7,2,5,6] ?_;simp only[mpC,go_sem]
 refine AK.acc (fun k G=>[(7,.int .i64 (k:Int))]) (fun k G=>H++_:: .AU 1 (C6 (GD s (Ci s (D5 s node) r) k)) false::G) (fun k G=>True) s.AE.length ?_ (a0:=G) trivial
 intro k G2 hk _ next2
 refine AK.Jn fun W hW=> ?_
 have kS:=kS.ex hW.ex
 have kT:=kT.ex hW.ex
 have kst:=hW.EQ
 have ko:=hW.Hx
 have kS0:=kS.at
 have kT0:=kT.at
 have kst0:=kst.at
 have stp:=GR (s:=s) (L:=Ci s (D5 s node) r) (i:=k)
 have hl2:(GD s (Ci s (D5 s node) r) k).length=s.AB.length:=by rw[HV,hlr]
 obtain⟨L,hL⟩:=NQ (GD s (Ci s (D5 s node) r) k)
 have hLe:L=GD s (Ci s (D5 s node) r) k:=hL
 rw[←hLe]at hl2 stp ko hW
 have ko0:=ko.at
 have kos:=ko.set
 clear hLe
 refine AK.unfold ?_
 have hw:=AY (k:=k) (by omega)
 have hg:k<s.AE.length→_:=fun h=>A4 (s:=s) (k:=k) h
 have hbs:k<s.AE.length→(s.slot k).cap.ty=2→(0≤(s.slot k).cap.th)=True∧((s.slot k).cap.th<(s.AB.length:Int))=True∧(C6 L)[(s.slot k).cap.th.toNat]?=some [.bool (L.getD (s.slot k).cap.th.toNat false)]:=fun h h2=>by
  have:=DS k h h2
  exact⟨eq_true this.1,eq_true this.2,DJ (by omega)⟩
 have hbo:0≤A0 s k→(A0 s k<(s.AB.length:Int))=True∧(C6 L)[(A0 s k).toNat]?=some [.bool (L.getD (A0 s k).toNat false)]:=fun h=>by
  obtain⟨n,hn,_,e⟩:=IM (s:=s) (i:=k) (by omega)
  rw[e];exact⟨eq_true (by omega),DJ (by omega)⟩
 clear DS
 generalize ho:A0 s k=o at*
 (try simp only[w217,hg,hw,kS,kT,kst,ko,kS0,kst0,ko0,kos,Ey,Qv,Qt,AA b217_4.eq_1,AR,AX,apC,go_sem]);repeat' ((first|refine orR ?_|(refine sp ?_ ?_<;>intro hc)|refine IP (kT _) hlT hok ?_)<;>try simp only[*,w217,Ey,Qv,Qt,AA b217_4.eq_1,AR,AX,apC,go_sem])
 case' refine_1.refine_2=>
  have hk':k=s.AE.length:=by omega
  have hW:W=_:=hW
  have hL:L=_:=hL
  have e:Ci s (D5 s node) (r+1)=L:=by rw[Ci,hL,hk']
  subst hW
  rw[e]at next
  (refine AK.Az [6,2,5] ?_;simp only[mpC,go_sem];refine next _ (by assumption) trivial)
 case' refine_1.refine_1.refine_1.refine_1.refine_1=>have e:=stp.trans (show _=L.set (s.slot k).cap.th.toNat true by simp only[I4,ho, *,decide_true,QC,QX,cond_true])
 case' refine_1.refine_1.refine_1.refine_1.refine_2=>have e:=stp.trans (show _=L by simp only[I4,ho, *,Qk,cond_false])
 case' refine_1.refine_1.refine_1.refine_2=>have e:=stp.trans (show _=L by simp only[I4,ho, *,decide_false,Qk,Qq,cond_false])
 case' refine_1.refine_1.refine_2=>have e:=stp.trans (show _=L by simp only[I4,ho, *,decide_false,Qk,Qq,cond_false])
 all_goals
  have hW:W=_:=hW
  subst hW
  rw[e]at next2
  simp only[go_sem]at next2
  simp only[go_sem]
  (refine AK.Az [7,2,5,6] ?_;simp only[mpC,go_sem];refine next2 _ (by assumption))
theorem Vd{n:Nat}(hi:Inv s)(hn:n<s.AB.length)(hS:H[oS]?=some (.AU 5 (s.AE.map Slot.cells) rS))(hT:H[oT]?=some (.AU 13 (s.AB.map AN.cells) rT))
 (h:K (.bool false) H):AF Tryz.prog 157 [stA s oS oT fS fT,.int .i64 n] H K:=by
 have kS:=AL.of hS
 have kT:=AL.of hT
 have hlS:s.AE.length≤1000:=by have:=hi.ok.lS;omega
 have hlT:s.AB.length≤1000:=by have:=hi.ok.lT;omega
 have hok:DT s:=hi.BB
 have hn':(0≤(n:Int))=True:=eq_true (by omega)
 have hn2:((n:Int)<(s.AB.length:Int))=True:=eq_true (by omega)
 refine AF.tidy ?_
 refine Aa ok157 ?_;(try simp only[c157,w157,kS,kT,go_sem]);repeat' ((first|refine orR ?_|(refine sp ?_ ?_<;>intro hc)|fail)<;>try simp only[*,w157,go_sem])
 refine AK.Az [5,1,2] ?_;simp only[mpC,go_sem]
 refine AK.acc (fun k W=>[(5,.int .i64 (k:Int))]) (fun k W=>W) (fun k W=>Ex H W∧AL W H.length _) s.AE.length ?_ (a0:=_) ⟨.mk _,AL.of BH⟩
 rintro k W hk ⟨hx,kst⟩ next
 have kT:AL W oT _:=kT.ex hx
 have kS:AL W oS _:=kS.ex hx
 have kT0:=kT.at
 have kS0:=kS.at
 have kst0:=kst.at
 refine AK.unfold ?_
 have hw:=AY (k:=k) (by omega)
 have hg:k<s.AE.length→_:=fun h=>A4 (s:=s) (k:=k) h
 have hr:k<s.AE.length→(s.slot k).cap.ty=2→A0 s k=n→(C6 (I5 s (s.slot k).cap.th))[n]?=some [.bool false]:=fun h h2 h3=>by
  rw[DJ (by rw[E6];exact hn),dN hi hn h h2 h3]
 have DS:k<s.AE.length→(s.slot k).cap.ty=2→BD s (s.slot k).cap.th=true:=fun h h2=>(hi.E8 k h (C9 (by rw[h2];decide))).1
 (try simp only[w157,hg,hw,kS,kT,kst,kS0,kT0,kst0,AA b157_4.eq_1,AR,AX,hn',hn2,E6,Qd,apC,go_sem]);repeat' ((first|refine orR ?_|(refine sp ?_ ?_<;>intro hc)|refine IP (kT _) hlT hok ?_|refine TI hi (DS (by assumption) (by assumption)) (kS _) (kT _) ?_)<;>try simp only[*,w157,AA b157_4.eq_1,AR,AX,E6,Qd,apC,go_sem])
 case' refine_2=>exact⟨rfl,hx⟩
 all_goals ((refine AK.Az [5,1,2] ?_;simp only[mpC,go_sem];refine next _ (by assumption) ⟨(by first|exact⟨_,rfl⟩|exact⟨[],(Qa _).symm⟩|exact hx|exact hx.app _),kst.app _⟩))
theorem Ra{node slot:Int}(hi:Inv s)(hS:H[oS]?=some (.AU 5 (s.AE.map Slot.cells) rS))(hT:H[oT]?=some (.AU 13 (s.AB.map AN.cells) rT))
 (h:K (.bool (Ch s node slot)) H):AF Tryz.prog 170 [stA s oS oT fS fT,.int .i64 node,.int .i64 slot] H K:=by
 have kS:=AL.of hS
 have kT:=AL.of hT
 have hlS:s.AE.length≤1000:=by have:=hi.ok.lS;omega
 have hlT:s.AB.length≤1000:=by have:=hi.ok.lT;omega
 have hok:DT s:=hi.BB
 have hg:¬node<0→¬(s.AB.length:Int)≤node→_:=fun h1 h2=>BI (s:=s) (k:=node.toNat) (by omega)
 have hg1:¬node<0→(0≤node)=True:=fun h=>eq_true (by omega)
 have hg2:¬(s.AB.length:Int)≤node→(node<(s.AB.length:Int))=True:=fun h=>eq_true (by omega)
 have DS:0≤node→node<s.AB.length→(s.AG node.toNat).ty=2→BD s node=true:=fun a b c=>DP.2 ⟨a,b,by rw[c];decide⟩
 have ho:0≤A0 s slot→(A0 s slot<(s.AB.length:Int))=True∧(C6 (I5 s node))[(A0 s slot).toNat]?=some [.bool ((B7 s (s.AB.length+1) node []).contains (A0 s slot))]:=fun h=>by
  obtain⟨n,hn,_,e⟩:=IM (s:=s) (i:=slot) (by omega)
  rw[e];exact⟨eq_true (by omega),by rw[DJ (by rw[E6];omega),Qd,R5 hn]⟩
 refine AF.tidy ?_
 refine Aa ok170 ?_;(try simp only[c170,w170,kS,kT,hg,hg1,hg2,E6,go_sem]);repeat' ((first|refine orR ?_|(refine sp ?_ ?_<;>intro hc)|refine IP (kT _) hlT hok ?_|refine TI hi (DS (by omega) (by omega) (by assumption)) (kS _) (kT _) ?_)<;>try simp only[*,w170,E6,go_sem])
 case' refine_1.refine_1.refine_2.refine_1=>
  have e:Ch s node slot=(B7 s (s.AB.length+1) node []).contains (A0 s slot):=by
   have ht:=DS (by omega) (by omega) (by assumption)
   have h2:(s.AG node.toNat).ty=2:=by assumption
   simp only[Ch,ht,h2,decide_true,QC]
 case' refine_1.refine_1.refine_2.refine_2=>
  have e:Ch s node slot=false:=by
   have ht:=DS (by omega) (by omega) (by assumption)
   simp only[Ch,WX ht (show A0 s slot<0 by omega),Qk]
 case' refine_1.refine_1.refine_1=>
  have e:Ch s node slot=false:=by
   have h2:¬(s.AG node.toNat).ty=2:=by assumption
   simp only[Ch,h2,decide_false,Qk,Qq]
 case' refine_1.refine_2=>
  have e:Ch s node slot=false:=by
   have h2:¬node<(s.AB.length:Int):=by omega
   simp only[Ch,BD,h2,decide_false,Qk,Qq]
 case' refine_2=>
  have e:Ch s node slot=false:=by
   have h2:¬0≤node:=by omega
   simp only[Ch,BD,h2,decide_false,Qk,Qq]
 all_goals (rw[e]at h;exact⟨rfl,by first|exact⟨_,rfl⟩|exact⟨[],(Qa _).symm⟩|exact hx|exact hx.app _,h⟩)
end
end Go.Proofs.YtlaipllgmddkiaaGreat.Ax
namespace Go.Ax.M
open Go Go.Ax
theorem Inv.fZ{s:State}(h:Inv s){i k:Nat}(hi:i<s.AB.length)(hk:k<i)(h2:(s.AG i).ty=2)(h3:(s.AG k).ty=2)(a:(s.AG i).base<(s.AG k).base+p2 (s.AG k).bits):
 ((s.AG k).base<(s.AG i).base+p2 (s.AG i).bits)=False:=by
 refine eq_false fun b=> ?_
 have g1:=CO (h.BB i hi) h2
 have g2:=CO (h.BB k (by omega)) h3
 by_cases e:(s.AG i).base≤(s.AG k).base
 ·refine h.apart i hi k hk (s.AG k).base.toNat (DZ.2 ⟨h2,by omega,by omega⟩) (DZ.2 ⟨h3,by omega,by have:=C4 g2.1;omega⟩)
 ·refine h.apart i hi k hk (s.AG i).base.toNat (DZ.2 ⟨h2,by omega,by have:=C4 g1.1;omega⟩) (DZ.2 ⟨h3,by omega,by omega⟩)
theorem Inv.EY{s:State}(h:Inv s){t:Nat}(ht:(t:Int)<s.AS.AI):s.AG (2+t)=⟨2,3,8* t,0,0,0,0,false,0,0,0,0,0⟩:=by
 have hb:=Hb h.AS
 have hl:=h.ME
 rw[h.root (2+t) (by omega) (by simp[Bc];omega)]
 have e:Bv (((2+t:Nat):Int)-2) 0 (s.AS.AI-1)=true:=by rw[BX];omega
 simp only[M.EY,LD,h.AS,e,Qu,cond_true]
 congr 1
 omega
end Go.Ax.M
namespace Go.Proofs.YtlaipllgmddkiaaGreat.Ax
open Go Go.Ax Go.Ax.M
section
variable {H:AP}{K:AH→AP→Prop}{s:State}{oS oT:Nat}{fS fT rS rT:Bool}
theorem B3(hi:Inv s)(hS:H[oS]?=some (.AU 5 (s.AE.map Slot.cells) rS))(hT:H[oT]?=some (.AU 13 (s.AB.map AN.cells) rT))(h:K (.bool true) H):AF Tryz.prog 83 [stA s oS oT fS fT] H K:=by
 have kS:=AL.of hS
 have kT:=AL.of hT
 have hlS:s.AE.length≤96:=by have:=hi.ok.lS;omega
 have hlT:s.AB.length≤48:=by have:=hi.ok.lT;omega
 have hok:DT s:=hi.BB
 have hgg:=hi.AS
 have hgS:=hi.Mn
 have hgT:=hi.ME
 refine AF.tidy ?_
 refine Aa ok83 ?_;(try simp only[c83,w83,kS,kT,hgg,hgS,hgT,go_sem]);repeat' ((first|refine orR ?_|(refine sp ?_ ?_<;>intro hc)|refine VZ (g:=s.AS) ?_)<;>try simp only[*,w83,go_sem])
 clear hgS hgT
 refine AK.Az [4,1,3] ?_;simp only[mpC,go_sem]
 refine AK.acc (fun k W=>[(4,.int .i64 (k:Int))]) (fun k W=>W) (fun k W=>Ex H W∧AL W H.length _∧AL W (H.length+1) _) s.AB.length ?_ (a0:=_) ⟨.mk _,AL.of BH,AL.of BP⟩
 rintro i W hil ⟨hx,kst,kge⟩ next
 have kT:AL W oT _:=kT.ex hx
 have kS:AL W oS _:=kS.ex hx
 have kT0:=kT.at
 have kS0:=kS.at
 have kst0:=kst.at
 have kge0:=kge.at
 refine AK.unfold ?_
 have hw:=AY (k:=i) (by omega)
 have hg:i<s.AB.length→_:=fun h=>BI (s:=s) (k:=i) h
 have hgd:i<s.AB.length→BB (s.AG i)=true:=fun h=>hok i h
 have hbi:i<s.AB.length→(s.AG i).ty=2→_:=fun h h2=>hi.bits h h2
 have hfit:i<s.AB.length→(s.AG i).ty=2→IntKind.wrap .i64 ((s.AG i).base+p2 (s.AG i).bits)=(s.AG i).base+p2 (s.AG i).bits∧(s.AS.AE<(s.AG i).base+p2 (s.AG i).bits)=False:=fun h h2=>by
  have:=hi.fit i h h2
  have:=hi.Mn
  have:=CO (hi.BB i h) h2
  have:=C4 this.1
  exact⟨w64 (by omega) (by omega),eq_false (by omega)⟩
 (try simp only[w83,hg,hw,kS,kT,kst,kge,kS0,kT0,kst0,kge0,AA b83_11.eq_1,AR,AX,apC,go_sem]);repeat' ((first|refine orR ?_|(refine sp ?_ ?_<;>intro hc)|refine MS (t:=s.AG i) ?_|refine HT (hbi (by assumption) (by assumption)).1 (hbi (by assumption) (by assumption)).2 ?_)<;>try simp only[*,w83,AA b83_11.eq_1,AR,AX,apC,go_sem])
 case' refine_2=>
  clear next hw hg hgd hbi hfit hil
  have hgb:=HQ hi.AS
  have hthr:s.AS.AI≤4:=by omega
  have hth0:1≤s.AS.AI:=by omega
  have hthl:s.AS.AI+2≤s.AB.length:=by have:=hi.ME;omega
  clear hgb
  refine AK.Az [8,1,3] ?_;simp only[mpC,go_sem]
  refine AK.acc (fun k X=>[(8,.int .i64 (k:Int))]) (fun k X=>X) (fun k X=>Ex W X∧(k:Int)≤s.AS.AI) s.AS.AI.toNat ?_ (a0:=_) ⟨⟨[],by simp⟩,by omega⟩
  rintro k X hk ⟨hxx,hkt⟩ next
  have kT:=kT.ex hxx
  have kS:=kS.ex hxx
  have kst:=kst.ex hxx
  have kge:=kge.ex hxx
  have kT0:=kT.at
  have kS0:=kS.at
  have kst0:=kst.at
  have kge0:=kge.at
  refine AK.unfold ?_
  have hw2:=AY (k:=k) (by omega)
  have hw3:IntKind.wrap .i64 (2+(k:Int))=((2+k:Nat):Int):=by rw[w64 (by omega) (by omega)];omega
  have hw4:IntKind.wrap .i64 (8*(k:Int))=8*(k:Int):=w64 (by omega) (by omega)
  have hlk:(k:Int)<s.AS.AI→(2+k<s.AB.length)=True:=fun h=>eq_true (by omega)
  have hgk:(k:Int)<s.AS.AI→(s.AB.map AN.cells)[2+k]?=some [.int .i64 2,.int .i64 3,.int .i64 (8* k),.int .i64 0,.int .i64 0,.int .i64 0,.int .i64 0,.bool false,.int .u64 0,.int .u64 0,.int .u64 0,.int .u64 0,.int .u64 0]:=fun h=>by
   rw[BI (s:=s) (k:=2+k) (by omega),hi.EY h]
  (try simp only[w83,hw2,hw3,hw4,hgk,hlk,kS,kT,kst,kge,kS0,kT0,kst0,kge0,AA b83_14.eq_1,AR,AX,Qd,apC,go_sem]);repeat' ((first|refine orR ?_|(refine sp ?_ ?_<;>intro hc)|fail)<;>try simp only[*,w83,AA b83_14.eq_1,AR,AX,Qd,apC,go_sem])
 case' refine_2.refine_1=>
  (refine AK.Az [8,1,3] ?_;simp only[mpC,go_sem];refine next _ (by omega) ⟨hxx,by omega⟩)
 case' refine_2.refine_2=>
  have hxy:=hx.trans hxx
  clear hxx next hw2 hw3 hw4 hgk hlk hk hkt kT0 kS0 kst0 kge0 hthr hthl hth0
  refine AK.Az [9,1,3] ?_;simp only[mpC,go_sem]
  refine AK.acc (fun k Y=>[(9,.int .i64 (k:Int))]) (fun k Y=>Y) (fun k Y=>Ex X Y) s.AE.length ?_ (a0:=_) ⟨[],by simp⟩
  rintro i Y hil hyy next
  have kT:=kT.ex hyy
  have kS:=kS.ex hyy
  have kst:=kst.ex hyy
  have kge:=kge.ex hyy
  have kT0:=kT.at
  have kS0:=kS.at
  have kst0:=kst.at
  have kge0:=kge.at
  refine AK.unfold ?_
  have hw2:=AY (k:=i) (by omega)
  have hg:i<s.AE.length→_:=fun h=>A4 (s:=s) (k:=i) h
  have hcg:i<s.AE.length→Bq (s.slot i).cap=true:=fun h=>hi.Ib i h
  have hup:i<s.AE.length→(s.slot i).cap.ty=0→(s.slot i).up=-1:=fun h h0=>hi.SX i h (by rw[←hi.Yx h];simp[h0])
  have hnn:i<s.AE.length→¬(s.slot i).cap.ty=0→(0≤(s.slot i).cap.th)=True∧((s.slot i).cap.th<(s.AB.length:Int))=True∧((s.AB.length:Int)≤(s.slot i).cap.th)=False∧(s.AG (s.slot i).cap.th.toNat).ty=(s.slot i).cap.ty∧(A0 s i<0)=False:=fun h h0=>by
   have a:=hi.th h (C9 h0)
   refine⟨eq_true a.1,eq_true a.2,eq_false (by omega),(hi.E8 i h (C9 h0)).2,eq_false ?_⟩
   obtain⟨n,hn,hh⟩:=hi.has i h (C9 h0)
   rw[Fz hi.apart hn hh];omega
  have hng:i<s.AE.length→¬(s.slot i).cap.ty=0→_:=fun h h0=>BI (s:=s) (k:=(s.slot i).cap.th.toNat) (by have:=hi.th h (C9 h0);omega)
  have hlT2:s.AB.length≤1000:=by omega
  (try simp only[w83,hg,hw2,hcg,hup,hnn,hng,kS,kT,kst,kge,kS0,kT0,kst0,kge0,AA b83_23.eq_1,AR,AX,apC,go_sem]);repeat' ((first|refine orR ?_|(refine sp ?_ ?_<;>intro hc)|refine HS ?_|refine IP (kT _) hlT2 hok ?_|refine Pf hi kS0 ?_|refine LV (up:=As s) A8 hi.ok.Ii BH ?_)<;>try simp only[*,w83,AA b83_23.eq_1,AR,AX,apC,go_sem])
 case' refine_2.refine_2.refine_1.refine_1=>(refine AK.Az [9,1,3] ?_;simp only[mpC,go_sem];refine next _ (by assumption) (by first|exact hyy.app _|exact hyy))
 case' refine_2.refine_2.refine_1.refine_2=>(refine AK.Az [9,1,3] ?_;simp only[mpC,go_sem];refine next _ (by assumption) (by first|exact hyy.app _|exact hyy))
 case' refine_2.refine_2.refine_2=>
  have hxz:=hxy.trans (hyy.app [.AU 1 (ints (As s)) false])
  have kT:=kT.app [.AU 1 (ints (As s)) false]
  have kS:=kS.app [.AU 1 (ints (As s)) false]
  have kst:=kst.app [.AU 1 (ints (As s)) false]
  have kge:=kge.app [.AU 1 (ints (As s)) false]
  clear next hw2 hg hcg hup hnn hng hyy kT0 kS0 kst0 kge0
  refine AK.Az [11,1,3] ?_;simp only[mpC,go_sem]
  refine AK.acc (fun k Z=>[(11,.int .i64 (k:Int))]) (fun k Z=>Z) (fun k Z=>Ex (Y++[.AU 1 (ints (As s)) false]) Z) s.AE.length ?_ (a0:=_) ⟨[],by simp⟩
  rintro j Z hjl hzz next
  have kT:=kT.ex hzz
  have kS:=kS.ex hzz
  have kst:=kst.ex hzz
  have kge:=kge.ex hzz
  have kT0:=kT.at
  have kS0:=kS.at
  have kst0:=kst.at
  have kge0:=kge.at
  refine AK.unfold ?_
  have hw2:=AY (k:=j) (by omega)
  have hg:j<s.AE.length→_:=fun h=>A4 (s:=s) (k:=j) h
  have hnu:j<s.AE.length→¬(s.slot j).cap.ty=0→¬(s.slot j).up<0→(0≤(s.slot j).up)=True∧((s.slot j).up<(s.AE.length:Int))=True:=fun h h0 hu=>by
   rcases hi.up j h (C9 h0)with a|a
   ·omega
   ·exact⟨eq_true a.1,eq_true a.2.1⟩
  have hnp:j<s.AE.length→¬(s.slot j).cap.ty=0→¬(s.slot j).up<0→_:=fun h h0 hu=>A4 (s:=s) (k:=(s.slot j).up.toNat) (by rcases hi.up j h (C9 h0)with a|a<;>omega)
  have hal:j<s.AE.length→¬(s.slot j).cap.ty=0→¬(s.slot j).up<0→_:=fun h h0 hu=>hi.allow j h (C9 h0) (by omega)
  (try simp only[w83,hg,hw2,hnu,hnp,kS,kT,kst,kge,kS0,kT0,kst0,kge0,AA b83_30.eq_1,AR,AX,apC,go_sem]);repeat' ((first|refine orR ?_|(refine sp ?_ ?_<;>intro hc)|refine Ox (a:=(s.slot j).cap) (b:=(s.slot (s.slot j).up.toNat).cap) ?_)<;>try simp only[*,w83,AA b83_30.eq_1,AR,AX,apC,go_sem])
 case' refine_2.refine_2.refine_2.refine_1.refine_1.refine_1|refine_2.refine_2.refine_2.refine_1.refine_1.refine_2.refine_1.refine_1.refine_2|refine_2.refine_2.refine_2.refine_1.refine_1.refine_2.refine_2|refine_2.refine_2.refine_2.refine_1.refine_2=>((refine AK.Az [11,1,3] ?_;simp only[mpC,go_sem];refine next _ (by assumption) (by first|exact hzz.app _|exact hzz)))
 case' refine_2.refine_2.refine_2.refine_1.refine_1.refine_2.refine_1.refine_1.refine_1|refine_2.refine_2.refine_2.refine_1.refine_1.refine_2.refine_1.refine_2=>(exfalso;rcases hal (by assumption) (by assumption) (by assumption)with e|⟨e1,e2⟩<;>simp_all)
 case' refine_2.refine_2.refine_2.refine_2=>
  have hxa:=hxz.trans hzz
  clear next hw2 hg hnu hnp hal hzz kT0 kS0 kst0 kge0
  have hwt:IntKind.wrap .i64 (2+s.AS.AI)=2+s.AS.AI:=by have:=HQ hi.AS;exact w64 (by omega) (by omega)
  refine AK.Az [14,1,3] ?_;simp only[mpC,go_sem]
  refine AK.acc (fun k Y=>[(14,.int .i64 (k:Int))]) (fun k Y=>Y) (fun k Y=>Ex Z Y) s.AB.length ?_ (a0:=_) ⟨[],by simp⟩
  rintro m U hml huu next
  have kT:=kT.ex huu
  have kS:=kS.ex huu
  have kst:=kst.ex huu
  have kge:=kge.ex huu
  have kT0:=kT.at
  have kS0:=kS.at
  have kst0:=kst.at
  have kge0:=kge.at
  refine AK.unfold ?_
  have hw2:=AY (k:=m) (by omega)
  have hg:m<s.AB.length→_:=fun h=>BI (s:=s) (k:=m) h
  have hhl:m<s.AB.length→Bc s m=false→¬(s.AG m).ty=0→(((BM s m).length:Int)=0)=False:=fun h hr h0=>by
   obtain⟨i,hi1,hi2,hi3⟩:=hi.held m h hr h0
   refine eq_false fun e=> ?_
   have:(i:Int)∈BM s m:=by
    simp only[BM,pick,QZ,List.mem_filter,QN]
    exact⟨i,⟨hi1,by simp only[State.B8]at hi2;simp[DV,hi2,hi3]⟩,rfl⟩
   have e':BM s m=[]:=List.length_eq_zero_iff.1 (by omega)
   rw[e']at this;cases this
  have hh1:m<s.AB.length→¬2≤(m:Int)→_:=fun h hr h0=>hhl h (by simp only[Bc,hr,decide_false,Qq]) h0
  have hh2:m<s.AB.length→¬(m:Int)<2+s.AS.AI→_:=fun h hr h0=>hhl h (by simp only[Bc,hr,decide_false,Qk]) h0
  clear hhl
  (try simp only[w83,hg,hw2,hwt,hh1,hh2,kS,kT,kst,kge,kS0,kT0,kst0,kge0,AA b83_34.eq_1,AR,AX,apC,go_sem]);repeat' ((first|refine orR ?_|(refine sp ?_ ?_<;>intro hc)|refine JM hi kS0 ?_|refine JM hi (kS _) ?_|refine Vd hi (by assumption) kS0 kT0 ?_|refine Vd hi (by assumption) (kS _) (kT _) ?_)<;>try simp only[*,w83,AA b83_34.eq_1,AR,AX,apC,go_sem])
  all_goals first
   |((refine AK.Az [14,1,3] ?_;simp only[mpC,go_sem];refine next _ (by assumption) (by first|exact huu.app _|exact huu));done)
   |exact⟨rfl,hxa.trans huu⟩
 all_goals
  have hil2:i<s.AB.length:=by assumption
  refine AK.Az [6,1,3,4,5] ?_;simp only[mpC,go_sem]
  refine AK.acc (fun k X=>[(6,.int .i64 (k:Int))]) (fun k X=>X) (fun k X=>Ex W X∧AL X W.length _) i ?_ (a0:=_) ⟨.mk _,AL.of BH⟩
  rintro k X hk ⟨hxx,kt⟩ next2
  have kT:=kT.ex hxx
  have kS:=kS.ex hxx
  have kst:=kst.ex hxx
  have kge:=kge.ex hxx
  have kT0:=kT.at
  have kS0:=kS.at
  have kst0:=kst.at
  have kge0:=kge.at
  have kt0:=kt.at
  refine AK.unfold ?_
  have hw2:=AY (k:=k) (by omega)
  have hgk:k<i→_:=fun h=>BI (s:=s) (k:=k) (by omega)
  have hkl:k<i→(k<s.AB.length)=True:=fun h=>eq_true (by omega)
  have hbk:k<i→(s.AG k).ty=2→_:=fun h h2=>hi.bits (k:=k) (by omega) h2
  have hwk:k<i→(s.AG k).ty=2→IntKind.wrap .i64 ((s.AG k).base+p2 (s.AG k).bits)=(s.AG k).base+p2 (s.AG k).bits:=fun h h2=>by
   have:=CO (hi.BB k (by omega)) h2
   have:=C4 this.1
   exact w64 (by omega) (by omega)
  have hov:k<i→(s.AG i).ty=2→(s.AG k).ty=2→_:=fun h h2 h3=>hi.fZ hil2 h h2 h3
  have KC:0<(s.AG i).from_→(s.AS.AE<(s.AG i).from_)=False∧IntKind.wrap .i64 ((s.AG i).from_-1)=(s.AG i).from_-1∧(0≤(s.AG i).from_-1)=True∧((s.AG i).from_-1<(s.AE.length:Int))=True:=fun h=>by
   have:=hi.from_ i hil2 h
   have:=hi.Mn
   exact⟨eq_false (by omega),w64 (by omega) (by omega),eq_true (by omega),eq_true (by omega)⟩
  have hfg:0<(s.AG i).from_→_:=fun h=>A4 (s:=s) (k:=((s.AG i).from_-1).toNat) (by have:=hi.from_ i hil2 h;omega)
  have J4:0<(s.AG i).from_→Aq (s.slot ((s.AG i).from_-1).toNat).cap=false:=fun h=>(hi.from_ i hil2 h).2
  (try simp only[w83,hgk,hkl,hw2,hwk,hov,KC,hfg,kS,kT,kst,kge,kt,kS0,kT0,kst0,kge0,kt0,AA b83_5.eq_1,AR,AX,apC,go_sem]);repeat' ((first|refine orR ?_|(refine sp ?_ ?_<;>intro hc)|refine HT (hbk (by assumption) (by assumption)).1 (hbk (by assumption) (by assumption)).2 ?_|refine HT (hbi (by assumption) (by assumption)).1 (hbi (by assumption) (by assumption)).2 ?_)<;>try simp only[*,w83,AA b83_5.eq_1,AR,AX,apC,go_sem])
  all_goals first
   |((refine AK.Az [6,1,3,4,5] ?_;simp only[mpC,go_sem];refine next2 _ (by assumption) ⟨hxx.app _,kt.app _⟩);done)
   |((refine AK.Az [6,1,3,4,5] ?_;simp only[mpC,go_sem];refine next2 _ (by assumption) ⟨hxx,kt⟩);done)
   |((refine AK.Az [4,1,3] ?_;simp only[mpC,go_sem];refine next _ hil2 ⟨(hx.trans hxx).app _,kst.app _,kge.app _⟩);done)
   |((refine AK.Az [4,1,3] ?_;simp only[mpC,go_sem];refine next _ hil2 ⟨hx.trans hxx,kst,kge⟩);done)
   |(exfalso;have e:=J4 (by assumption);simp only[Aq]at e;simp_all;done)
end
end Go.Proofs.YtlaipllgmddkiaaGreat.Ax
namespace Go.Ax.M
open Go Go.Ax
def cQ(s:State)(m:Int)(b:Nat):Prop:=∀j:Nat,b≤j→(j:Int)<b+m→A0 s j<0
def YJ(s:State)(m:Int)(len:Nat)(r:Int×Bool):Prop:=
 (r.2=true∧∃b:Nat,r.1=b∧(b:Int)+m≤len∧cQ s m b∧∀k,k<b→¬cQ s m k)∨(r=(0,false)∧∀b:Nat,(b:Int)+m≤len→¬cQ s m b)
theorem S9{s:State}{i:Int}:A0 s i<0↔A0 s i=-1:=by
 constructor
 ·intro h
  by_cases e:A0 s i=-1
  ·exact e
  ·obtain⟨n,_,_,hn⟩:=IM e
   omega
 ·intro h;omega
theorem T1{s:State}{m:Int}(hm:1≤m){len:Nat}:∀(r i:Nat) (many:Int),i+r=len→0≤many→many<m→many≤i→(∀j:Nat,(i:Int)-many≤j→j<i→A0 s j<0)→((i:Int)=many∨∃j:Nat,(j:Int)=i-many-1∧¬A0 s j<0)→
 (∀b:Nat,(b:Int)+m≤i→¬cQ s m b)→YJ s m len (JH s m r i many)
 |0,i,many,hl,h0,h1,h2,h3,h4,h5=>by
  right
  refine⟨rfl,fun b hb=>h5 b (by omega)⟩
 |r+1,i,many,hl,h0,h1,h2,h3,h4,h5=>by
  rw[JH]
  by_cases ho:A0 s i<0
  ·have ho':=S9.1 ho
   simp only[ho',decide_true,cond_true]
   by_cases hn:many+1=m
   ·simp only[hn,decide_true,cond_true]
    left
    refine⟨rfl,(i+1-m).toNat,by simp only;omega,by omega,fun j hj1 hj2=> ?_,fun k hk=>h5 k (by omega)⟩
    by_cases e:j=i
    ·subst e;exact ho
    ·exact h3 j (by omega) (by omega)
   ·simp only[hn,decide_false,cond_false]
    refine T1 hm r (i+1) (many+1) (by omega) (by omega) (by omega) (by omega) (fun j hj1 hj2=> ?_) ?_ (fun b hb=> ?_)
    ·by_cases e:j=i
     ·subst e;exact ho
     ·exact h3 j (by omega) (by omega)
    ·rcases h4 with h4|⟨j,hj,h4⟩
     ·left;omega
     ·right;exact⟨j,by omega,h4⟩
    ·by_cases e:(b:Int)+m≤i
     ·exact h5 b e
     ·rcases h4 with h4|⟨j,hj,h4⟩
      ·omega
      ·exact fun hr=>h4 (hr j (by omega) (by omega))
  ·have ho':¬A0 s i=-1:=fun e=>ho (S9.2 e)
   simp only[ho',decide_false,cond_false]
   have hn:¬(0:Int)=m:=by omega
   simp only[hn,decide_false,cond_false]
   refine T1 hm r (i+1) 0 (by omega) (by omega) (by omega) (by omega) (fun j hj1 hj2=>by omega) (.inr ⟨i,by omega,ho⟩) (fun b hb hr=> ?_)
   by_cases e:(b:Int)+m≤i
   ·exact h5 b e hr
   ·exact ho (hr i (by omega) (by omega))
theorem TL{s:State}{b:Int}(hg:BN s=true)(hb:Bv b 1 4=true):YJ s (p2 b) s.AE.length (F3 s b):=by
 have h:=BX.1 hb
 have hp:=C4 hb
 simp only[F3,hg,h.1,h.2,decide_true,Qu,cond_true]
 refine T1 (by omega) _ 0 0 (by omega) (by omega) (by omega) (by omega) (fun j h1 h2=>by omega) (.inl rfl) (fun b hb=>by omega)
theorem bq{s:State}{b:Int}(hg:BN s=true)(hb:Bv b 1 4=true){k:Nat}(hk:(k:Int)+p2 b≤s.AE.length)(hr:cQ s (p2 b) k)(hn:∀j,j<k→¬cQ s (p2 b) j):F3 s b=((k:Int),true):=by
 rcases TL hg hb with⟨h1,c,h2,h3,h4,h5⟩|⟨_,h⟩
 ·have:c=k:=by
   rcases Nat.lt_trichotomy c k with h|h|h
   ·exact absurd h4 (hn c h)
   ·exact h
   ·exact absurd hr (h5 k h)
  rw[←this];exact Prod.ext h2 h1
 ·exact absurd hr (h k hk)
theorem Zu{s:State}{b:Int}(hg:BN s=true)(hb:Bv b 1 4=true){k:Nat}(hk:¬(k:Int)+p2 b≤s.AE.length)(hn:∀j,j<k→¬cQ s (p2 b) j):F3 s b=(0,false):=by
 rcases TL hg hb with⟨h1,c,h2,h3,h4,h5⟩|⟨h,_⟩
 ·exact absurd h4 (hn c (by omega))
 ·exact h
theorem bW:∀x:Fin 8,(IntKind.wrap .i64 ((Qh (IntKind.bits .i64) (1:Int)&&&~~~Qh (IntKind.bits .i64) (x.val:Int)).toNat)=0)↔¬(x.val:Int).tmod 2=0:=by decide+kernel
theorem NY{r:Int}(h0:0≤r)(h7:r≤7):Bd 1 r=!decide (r.tmod 2=0):=by
 have e1:I8 1=1:=by simp[I8,C2,Bv]
 have e2:I8 r=r:=by simp[I8,C2,Bv,h0,h7]
 obtain⟨x,hx⟩:∃x:Fin 8,r=(x.val:Int):=⟨⟨r.toNat,by omega⟩,by simp;omega⟩
 have:=bW x
 simp only[Bd,LU,e1,e2]
 rw[hx,Qs]
 simp only[decide_eq_true_eq,Qx,decide_eq_false_iff_not]
 exact this
theorem Inv.ri{s:State}(h:Inv s){i:Nat}(hi:i<s.AE.length):0≤(s.slot i).cap.ri∧(s.slot i).cap.ri≤7:=by
 have:=h.Ib i hi
 simp only[Bq,Ql,Qg]at this
 rcases this with h|⟨_,_,h,_⟩
 ·simp only[Aq,Qg,decide_eq_true_eq]at h;omega
 ·simp only[C2,BX]at h;exact h
theorem drop_cons{p:List Int}{k:Nat}(hk:k<p.length):p.drop k=p.getD k 0::p.drop (k+1):=by
 rw[List.drop_eq_getElem_cons hk];simp[QB,hk]
theorem Z6{s:State}(h:Inv s){th:Int}{p:List Int}(hin:Bv th 0 (s.AS.AI-1)=true)(hp:BJ p=true):A7 s th p=Hq s th p:=by
 simp only[A7,h.ok.DR,hin,hp,Qu,cond_true]
theorem cL{s:State}(h:Inv s){th:Int}{p r:List Int}{q:Nat}(hq:q<s.AB.length)(h2:(s.AG q).ty=2){n:Int}(hn:0≤n)
 (e:A7 s th p=bif !decide (CL (s.AG q) n<0)then DU s r (CL (s.AG q) n)else(0,3)):
 (p2 (s.AG q).bits≤n→A7 s th p=(0,3))∧(¬p2 (s.AG q).bits≤n→0≤(s.AG q).base+n∧(s.AG q).base+n<s.AE.length∧A7 s th p=DU s r ((s.AG q).base+n)):=by
 have hg:=CO (h.BB q hq) h2
 have hf:=h.fit q hq h2
 constructor
 ·intro hc
  rw[e]
  simp[CL,hc]
 ·intro hc
  have hb:CL (s.AG q) n=(s.AG q).base+n:=by simp[CL,hc]
  have h0:¬((s.AG q).base+n<0):=by omega
  rw[e,hb]
  simp only[h0,decide_false,QW,cond_true]
  exact⟨by omega,by omega,trivial⟩
theorem V8{s:State}(h:Inv s){th:Int}{p:List Int}(hin:Bv th 0 (s.AS.AI-1)=true)(hp:BJ p=true):
 (p2 (s.AG (2+th).toNat).bits≤p.getD 0 0→A7 s th p=(0,3))∧(¬p2 (s.AG (2+th).toNat).bits≤p.getD 0 0→0≤(s.AG (2+th).toNat).base+p.getD 0 0∧(s.AG (2+th).toNat).base+p.getD 0 0<s.AE.length∧A7 s th p=DU s (p.drop 1) ((s.AG (2+th).toNat).base+p.getD 0 0)):=by
 have hb:=BX.1 hin
 have hr:=EZ h.ok hb.1 hb.2
 have hl:=G7 hp
 refine cL h hr.1 hr.2 (GN hp (by omega)).1 ?_
 rw[Z6 h hin hp]
 conv=>lhs;rw[show p=p.getD 0 0::p.drop 1 from by have:=drop_cons (p:=p) (k:=0) (by omega);simpa using this]
 rfl
theorem V7{s:State}(h:Inv s){th:Int}{p:List Int}(hp:BJ p=true){k:Nat}(hk:k<p.length){a:Int}(h0:0≤a)(h1:a<s.AE.length)(e:A7 s th p=DU s (p.drop k) a):
 (¬(s.slot a.toNat).cap.ty=2∨(s.slot a.toNat).cap.ri.tmod 2=0→A7 s th p=(0,3))∧((s.slot a.toNat).cap.ty=2→¬(s.slot a.toNat).cap.ri.tmod 2=0→
  (p2 (s.AG (s.slot a.toNat).cap.th.toNat).bits≤p.getD k 0→A7 s th p=(0,3))∧(¬p2 (s.AG (s.slot a.toNat).cap.th.toNat).bits≤p.getD k 0→0≤(s.AG (s.slot a.toNat).cap.th.toNat).base+p.getD k 0∧(s.AG (s.slot a.toNat).cap.th.toNat).base+p.getD k 0<s.AE.length∧A7 s th p=DU s (p.drop (k+1)) ((s.AG (s.slot a.toNat).cap.th.toNat).base+p.getD k 0))):=by
 have hri:=h.ri (i:=a.toNat) (by omega)
 have hro:=NY hri.1 hri.2
 rw[drop_cons hk,DU]at e
 constructor
 ·intro hc
  have:CV s a=false:=by
   simp only[CV,hro]
   rcases hc with hc|hc<;>simp[hc]
  rw[e,this];rfl
 ·intro h2 h3
  have ht:CV s a=true:=by simp only[CV,hro,h2,h3,decide_true,decide_false,QW,Qu]
  rw[ht,QC]at e
  have DS:=h.th (i:=a.toNat) (by omega) (C9 (by rw[h2];decide))
  exact cL h (by omega) (by rw[(h.E8 a.toNat (by omega) (C9 (by rw[h2];decide))).2,h2]) (GN hp hk).1 e
theorem Yj{s:State}{th:Int}{p:List Int}{k:Nat}(hk:k=p.length){a:Int}(e:A7 s th p=DU s (p.drop k) a):A7 s th p=(a,0):=by
 rw[e,hk,List.drop_length];rfl
theorem Pg{s:State}(h:Inv s){th:Int}{p:List Int}(hb:¬(0≤th∧th<s.AS.AI)∨BJ p=false):A7 s th p=(0,1):=by
 have:(Bv th 0 (s.AS.AI-1)&&BJ p)=false:=by
  rcases hb with hb|hb
  ·have:Bv th 0 (s.AS.AI-1)=false:=by
    rw[Qw];intro e;rw[BX]at e;exact hb (by omega)
   rw[this];rfl
  ·rw[hb,Qk]
 simp only[A7,h.ok.DR,this,Qk,cond_false]
end Go.Ax.M
namespace Go.Proofs.YtlaipllgmddkiaaGreat.Ax
open Go Go.Ax Go.Ax.M
section
variable {H:AP}{K:AH→AP→Prop}{s:State}{oS oT:Nat}{fS fT rS rT:Bool}
theorem si(hi:Inv s)(hT:H[oT]?=some (.AU 13 (s.AB.map AN.cells) rT))(h:K (.int .i64 (CU s)) H):AF Tryz.prog 164 [stA s oS oT fS fT] H K:=by
 have kT:=AL.of hT
 have hlT:s.AB.length≤1000:=by have:=hi.ok.lT;omega
 simp only[CU,hi.ok.DR,cond_true]at h
 clear hi
 refine AF.tidy ?_
 refine Aa ok164 ?_;(try simp only[c164,w164,kT,go_sem]);repeat' ((first|refine orR ?_|(refine sp ?_ ?_<;>intro hc)|fail)<;>try simp only[*,w164,go_sem])
 refine AK.Az [3,1] ?_;simp only[mpC,go_sem]
 refine AK.acc (fun k W=>[(3,.int .i64 (k:Int))]) (fun k W=>W) (fun k W=>Ex H W∧AL W H.length _∧(Qm k).all (fun j=>!decide ((s.AG j).ty=0))=true) s.AB.length ?_ (a0:=_) ⟨.mk _,AL.of BH,by simp⟩
 rintro k W hk ⟨hx,kst,hI⟩ next
 have kT:AL W oT _:=kT.ex hx
 have kT0:=kT.at
 have kst0:=kst.at
 refine AK.unfold ?_
 have hw:=AY (k:=k) (by omega)
 have hg:k<s.AB.length→_:=fun h=>BI (s:=s) (k:=k) h
 (try simp only[w164,kT,kst,kT0,kst0,hg,hw,AA b164_2.eq_1,AR,AX,apC,go_sem]);repeat' ((first|refine orR ?_|(refine sp ?_ ?_<;>intro hc)|fail)<;>try simp only[*,w164,AA b164_2.eq_1,AR,AX,apC,go_sem])
 ·exact ti h (by first|exact⟨_,rfl⟩|exact⟨[],(Qa _).symm⟩|exact hx|exact hx.app _) (Jl (by assumption) hI (by simp[*])).symm
 ·(refine AK.Az [3,1] ?_;simp only[mpC,go_sem];refine next _ (by assumption) ⟨(by first|exact⟨_,rfl⟩|exact⟨[],(Qa _).symm⟩|exact hx|exact hx.app _),kst,?_⟩)
  rw[Da (N:=0),hI];simp[*]
 ·have hk:k=s.AB.length:=by omega
  subst hk
  exact ti h (by first|exact⟨_,rfl⟩|exact⟨[],(Qa _).symm⟩|exact hx|exact hx.app _) (G4 hI).symm
theorem dL{b:Int}(hi:Inv s)(hT:H[oT]?=some (.AU 13 (s.AB.map AN.cells) rT))(h:K (.Bj [.int .i64 (F3 s b).1,.bool (F3 s b).2]) H):AF Tryz.prog 163 [stA s oS oT fS fT,.int .i64 b] H K:=by
 have kT:=AL.of hT
 have hlT:s.AB.length≤1000:=by have:=hi.ok.lT;omega
 have hlS:s.AE.length≤1000:=by have:=hi.ok.lS;omega
 have hok:DT s:=hi.BB
 have hgd:=hi.ok.DR
 have hbb:Bv b 1 4=true→0≤b∧b≤4:=fun h=>by rw[BX]at h;omega
 refine AF.tidy ?_
 refine Aa ok163 ?_;(try simp only[c163,w163,kT,go_sem]);repeat' ((first|refine orR ?_|(refine sp ?_ ?_<;>intro hc)|refine KR ?_)<;>try simp only[*,w163,go_sem])
 case' refine_1=>
  have hb:Bv b 1 4=false:=by assumption
  have e:F3 s b=(0,false):=by
   have:¬(1≤b∧b≤4):=fun e=>by rw[BX.2 e]at hb;cases hb
   simp only[F3]
   by_cases h1:1≤b<;>by_cases h2:b≤4<;>simp[h1,h2]<;>omega
  rw[e]at h
  exact⟨rfl,by first|exact⟨_,rfl⟩|exact⟨[],(Qa _).symm⟩|exact hx|exact hx.app _,h⟩
 have hb:Bv b 1 4=true:=by assumption
 have hp:=C4 hb
 obtain⟨m,hm⟩:∃m:Nat,Hid (p2 b=m):=⟨(p2 b).toNat,by show p2 b=_;omega⟩
 have hme:p2 b=m:=hm
 rw[hme]at hp
 have h4:=hbb hb
 refine AK.Az [6,1,2] ?_;simp only[mpC,go_sem]
 refine AK.acc (fun k W=>[(6,.int .i64 (k:Int))]) (fun k W=>W) (fun k W=>Ex H W∧AL W H.length _∧∀j,j<k→¬cQ s (p2 b) j) (s.AE.length+1) ?_ (a0:=_) ⟨.mk _,AL.of BH,by simp⟩
 rintro k W hk ⟨hx,kst,hI⟩ next
 have kT:AL W oT _:=kT.ex hx
 have kT0:=kT.at
 have kst0:=kst.at
 refine AK.unfold ?_
 have hw:=AY (k:=k) (by omega)
 have hwm:IntKind.wrap .i64 ((k:Int)+p2 b)=((k+m:Nat):Int):=by rw[hme];rw[w64 (by omega) (by omega)];omega
 clear hme
 (try simp only[w163,kT,kst,kT0,kst0,hw,hwm,AA b163_7.eq_1,AR,AX,apC,go_sem]);repeat' ((first|refine orR ?_|(refine sp ?_ ?_<;>intro hc)|refine HT h4.1 h4.2 ?_)<;>try simp only[*,w163,AA b163_7.eq_1,AR,AX,apC,go_sem])
 case' refine_2.refine_2=>
  rw[Zu hgd hb (k:=k) (by have hme:p2 b=m:=hm;omega) hI]at h
  exact⟨rfl,hx,h⟩
 refine AK.Az [8,7,1,2,6] ?_;simp only[mpC,go_sem]
 refine AK.acc (fun t (a:Bool)=>[(8,.int .i64 ((k+t:Nat):Int)),(7,.bool a)]) (fun t a=>W) (fun t a=>a=true↔∀j:Nat,k≤j→j<k+t→A0 s j<0) m ?_ (a0:=true) ⟨fun _ j h1 h2=>by omega,fun _=>rfl⟩
 intro t a ht hI2 next2
 refine AK.unfold ?_
 have hw2:IntKind.wrap .i64 (((k+t:Nat):Int)+1)=((k+(t+1):Nat):Int):=AY (by omega)
 (try simp only[w163,kT,kst,kT0,kst0,hw,hw2,hwm,AA b163_2.eq_1,AR,AX,apC,go_sem]);repeat' ((first|refine orR ?_|(refine sp ?_ ?_<;>intro hc)|refine HT h4.1 h4.2 ?_|refine IP kT0 hlT hok ?_)<;>try simp only[*,w163,AA b163_2.eq_1,AR,AX,apC,go_sem])
 case' refine_2.refine_1.refine_2.refine_1=>
  have hrun:cQ s (p2 b) k:=fun j h1 h2=>by
   have hme:p2 b=m:=hm
   exact(hI2.1 (by assumption)) j h1 (by omega)
  rw[bq hgd hb (k:=k) (by have hme:p2 b=m:=hm;omega) hrun hI]at h
  exact⟨rfl,hx,h⟩
 case' refine_2.refine_1.refine_2.refine_2=>
  have hno:¬cQ s (p2 b) k:=fun hr=>by
   have hme:p2 b=m:=hm
   have:a=true:=hI2.2 fun j h1 h2=>hr j h1 (by omega)
   simp_all
  (refine AK.Az [6,1,2] ?_;simp only[mpC,go_sem];refine next _ (by omega) ⟨hx,kst,fun j hj=>(QI.1 hj).elim (hI j) fun e=>e▸hno⟩)
 case' refine_2.refine_1.refine_1.refine_1=>
  (refine AK.Az [8,7,1,2,6] ?_;simp only[mpC,go_sem];refine next2 (decide (A0 s ((k+t:Nat):Int)<0)) (by omega) ?_)
  have ha:a=true:=by assumption
  simp only[decide_eq_true_eq]
  exact⟨fun h j h1 h2=>(QI.1 h2).elim ((hI2.1 ha) j h1) fun e=>e▸h,fun h=>h _ (by omega) (by omega)⟩
 case' refine_2.refine_1.refine_1.refine_2=>
  (refine AK.Az [8,7,1,2,6] ?_;simp only[mpC,go_sem];refine next2 false (by omega) ?_)
  have ha:a=false:=by assumption
  exact⟨fun h=>by simp at h,fun h=>by rw[←ha];exact hI2.2 fun j h1 h2=>h j h1 (by omega)⟩
theorem Fi(hi:Inv s)(hS:H[oS]?=some (.AU 5 (s.AE.map Slot.cells) rS))(hT:H[oT]?=some (.AU 13 (s.AB.map AN.cells) rT))
 (h:K (BT s H.length (H.length+1) false false) (H++[AM s,AJ s])):AF Tryz.prog 165 [stA s oS oT fS fT] H K:=by
 have kT:=AL.of hT
 have kS:=AL.of hS
 have l1:=hi.ok.lS
 have l2:=hi.ok.lT
 have hn:(s.AE.length=0)=False:=eq_false (by omega)
 have hn2:(s.AB.length=0)=False:=eq_false (by omega)
 have hb:(0+s.AE.length)* 40≤140737488355328:=by omega
 have hb2:s.AE.length* 40≤140737488355328:=by omega
 have hb3:(0+s.AB.length)* 104≤140737488355328:=by omega
 have hb4:s.AB.length* 104≤140737488355328:=by omega
 have ht:(s.AE.map Slot.cells).take s.AE.length=s.AE.map Slot.cells:=by rw[QK (by simp)]
 have ht2:(s.AB.map AN.cells).take s.AB.length=s.AB.map AN.cells:=by rw[QK (by simp)]
 have he:(s.AE.map Slot.cells=[])=False:=eq_false (by intro e;have:=congrArg Q2 e;simp at this;rw[this]at l1;simp at l1)
 have he2:(s.AB.map AN.cells=[])=False:=eq_false (by intro e;have:=congrArg Q2 e;simp at this;rw[this]at l2;simp at l2)
 clear l1 l2
 refine AF.gc ?_
 refine Aa ok165 ?_;(try simp only[c165,AA k165_0.eq_1,kS,kT,he,he2,hn,hn2,hb,hb2,hb3,hb4,ht,ht2,go_sem]);repeat' ((first|refine orR ?_|(refine sp ?_ ?_<;>intro hc)|fail)<;>try simp only[*,AA k165_0.eq_1,go_sem])
 exact Gc.state (i:=4) (j:=5) rfl rfl (by decide) h
theorem DH{u:State}{oS2 oT2:Nat}{fS2 fT2 rS2 rT2:Bool}(hS:H[oS]?=some (.AU 5 (s.AE.map Slot.cells) rS))(hT:H[oT]?=some (.AU 13 (s.AB.map AN.cells) rT))
 (hS2:H[oS2]?=some (.AU 5 (u.AE.map Slot.cells) rS2)) (cT:H[oT2]?=some (.AU 13 (u.AB.map AN.cells) rT2)) (hlS:s.AE.length≤1000) (hlT:s.AB.length≤1000)
 (h:K (.bool (Gs s u)) H):AF Tryz.prog 22 [stA s oS oT fS fT,stA u oS2 oT2 fS2 fT2] H K:=by
 have kT:=AL.of hT
 have kS:=AL.of hS
 have kT2:=AL.of cT
 have kS2:=AL.of hS2
 refine AF.tidy ?_
 refine Aa ok22 ?_;(try simp only[c22,w22,kT,kS,kT2,kS2,AR,QU,go_sem]);repeat' ((first|refine orR ?_|(refine sp ?_ ?_<;>intro hc)|fail)<;>try simp only[*,w22,AR,QU,go_sem])
 case' refine_1.refine_1.refine_2=>
  have hle:s.AE.length=u.AE.length:=by assumption
  have hle2:s.AB.length=u.AB.length:=by assumption
  have eS:Gs s u=((Qm s.AE.length).all (fun k=>Gt (s.slot k) (u.slot k))&&(Qm s.AB.length).all fun k=>F4 (s.AG k) (u.AG k)):=by
   have hgq:ZD s.AS u.AS=true:=by simp only[ZD];assumption
   simp only[Gs,Dm,hgq,hle,hle2,decide_true,QC];rfl
  have hg2:∀k,k<s.AE.length→_:=fun k h=>A4 (s:=u) (k:=k) (hle▸h)
  have hg3:∀k,k<s.AB.length→_:=fun k h=>BI (s:=u) (k:=k) (hle2▸h)
  have hlu:∀k,k<s.AE.length→k<u.AE.length:=fun k h=>hle▸h
  have hlu2:∀k,k<s.AB.length→k<u.AB.length:=fun k h=>hle2▸h
  clear hle hle2
  refine AK.Az [5,2,3] ?_;simp only[mpC,go_sem]
  refine AK.acc (fun k W=>[(5,.int .i64 (k:Int))]) (fun k W=>W) (fun k W=>Ex H W∧AL W H.length _∧AL W (H.length+1) _∧((Qm k).all fun k=>Gt (s.slot k) (u.slot k))=true) s.AE.length ?_ (a0:=_) ⟨.mk _,AL.of BH,AL.of BP,by simp⟩
  rintro k W hk ⟨hx,ka,kb,hI⟩ next
  have kT:=kT.ex hx
  have kS:=kS.ex hx
  have kT2:=kT2.ex hx
  have kS2:=kS2.ex hx
  have kT0:=kT.at
  have kS0:=kS.at
  have kT20:=kT2.at
  have kS20:=kS2.at
  have ka0:=ka.at
  have kb0:=kb.at
  refine AK.unfold ?_
  have hw:=AY (k:=k) (by omega)
  have hg1:k<s.AE.length→_:=fun h=>A4 (s:=s) (k:=k) h
  have hg2:k<s.AE.length→_:=hg2 k
  have hlu:k<s.AE.length→k<u.AE.length:=hlu k
  (try simp only[w22,hg1,hg2,hlu,hw,kT0,kS0,kT20,kS20,ka0,kb0,AA b22_3.eq_1,AR,AX,apC,go_sem]);repeat' ((first|refine orR ?_|(refine sp ?_ ?_<;>intro hc)|fail)<;>try simp only[*,w22,AA b22_3.eq_1,AR,AX,apC,go_sem])
 case' refine_1.refine_1.refine_2.refine_1.refine_1=>
  have ef:Gt (s.slot k) (u.slot k)=false:=by simp only[Gt];assumption
  exact tb h (by first|exact⟨_,rfl⟩|exact⟨[],(Qa _).symm⟩|exact hx|exact hx.app _) (by rw[eS,Cv (k:=k) (by omega) ef];rfl)
 case' refine_1.refine_1.refine_2.refine_1.refine_2=>
  have ef:Gt (s.slot k) (u.slot k)=true:=by simp only[Gt];assumption
  (refine AK.Az [5,2,3] ?_;simp only[mpC,go_sem];refine next _ (by omega) ⟨(by first|exact⟨_,rfl⟩|exact⟨[],(Qa _).symm⟩|exact hx|exact hx.app _),ka,kb,by rw[Da (N:=0),hI,ef];rfl⟩)
 case' refine_1.refine_1.refine_2.refine_2=>
  have hk':k=s.AE.length:=by omega
  rw[hk']at hI
  clear next hw hg1 hg2 hlu kT0 kS0 kT20 kS20 ka0 kb0
  refine AK.Az [6,2,3] ?_;simp only[mpC,go_sem]
  refine AK.acc (fun k W=>[(6,.int .i64 (k:Int))]) (fun k X=>X) (fun k X=>Ex W X∧((Qm k).all fun k=>F4 (s.AG k) (u.AG k))=true) s.AB.length ?_ (a0:=_) ⟨⟨[],by simp⟩,by simp⟩
  rintro j X hj ⟨hxx,hI2⟩ next
  have kT:=kT.ex hxx
  have kS:=kS.ex hxx
  have kT2:=kT2.ex hxx
  have kS2:=kS2.ex hxx
  have ka:=ka.ex hxx
  have kb:=kb.ex hxx
  have kT0:=kT.at
  have kS0:=kS.at
  have kT20:=kT2.at
  have kS20:=kS2.at
  have ka0:=ka.at
  have kb0:=kb.at
  refine AK.unfold ?_
  have hw:=AY (k:=j) (by omega)
  have hg1:j<s.AB.length→_:=fun h=>BI (s:=s) (k:=j) h
  have hg2:j<s.AB.length→_:=hg3 j
  have hlu:j<s.AB.length→j<u.AB.length:=hlu2 j
  (try simp only[w22,hg1,hg2,hlu,hw,kT0,kS0,kT20,kS20,ka0,kb0,AA b22_6.eq_1,AR,AX,apC,go_sem]);repeat' ((first|refine orR ?_|(refine sp ?_ ?_<;>intro hc)|fail)<;>try simp only[*,w22,AA b22_6.eq_1,AR,AX,apC,go_sem])
 case' refine_1.refine_1.refine_2.refine_2.refine_1.refine_1=>
  have ef:F4 (s.AG j) (u.AG j)=false:=by simp only[F4];assumption
  exact tb h (hx.trans hxx) (by rw[eS,hI,Cv (k:=j) (by omega) ef];rfl)
 case' refine_1.refine_1.refine_2.refine_2.refine_1.refine_2=>
  have ef:F4 (s.AG j) (u.AG j)=true:=by simp only[F4];assumption
  (refine AK.Az [6,2,3] ?_;simp only[mpC,go_sem];refine next _ (by omega) ⟨by first|exact hxx|exact hxx.app _,by rw[Da (N:=0),hI2,ef];rfl⟩)
 case' refine_1.refine_1.refine_2.refine_2.refine_2=>
  have hj':j=s.AB.length:=by omega
  rw[hj']at hI2
  exact tb h (hx.trans hxx) (by rw[eS,hI,hI2];rfl)
 case' refine_1.refine_1.refine_1|refine_1.refine_2|refine_2=>(refine tb h (by first|exact⟨_,rfl⟩|exact⟨[],(Qa _).symm⟩|exact hx|exact hx.app _) ?_;simp only[Gs,Dm,ZD];simp_all)
theorem VW{k n:Int}(h:K (.Bj [.int .i64 (CE k n).1,.bool (CE k n).2]) H):AF Tryz.prog 161 [.int .i64 k,.int .i64 n] H K:=by
 have hb:Bv n 1 4=true→0≤n∧n≤4:=fun h=>by rw[BX]at h;omega
 refine AF.tidy ?_
 refine Aa ok161 ?_;(try simp only[c161,w161,go_sem]);repeat' ((first|refine orR ?_|(refine sp ?_ ?_<;>intro hc)|refine KR ?_|refine HT (hb (by assumption)).1 (hb (by assumption)).2 ?_)<;>try simp only[*,w161,go_sem])
 all_goals (refine tv h (by first|exact⟨_,rfl⟩|exact⟨[],(Qa _).symm⟩|exact hx|exact hx.app _) ?_;first|(simp only[CE,AH.plain,Ah, *,bs,go_sem];done)|(simp_all[CE,AH.plain,Ah];done)|(simp_all[CE,AH.plain,Ah];omega)|grind[CE,AH.plain,Ah])
end
end Go.Proofs.YtlaipllgmddkiaaGreat.Ax
namespace Go.Proofs.YtlaipllgmddkiaaGreat.Ax
open Go Go.Ax Go.Ax.M
section
variable {H:AP}{K:AH→AP→Prop}{s:State}{oS oT:Nat}{fS fT rS rT:Bool}
section
variable {x0 x1 x2 x3 x4 x5 x6:Int}{x7:Bool}{x8 x9 x10 x11 x12:Int}
theorem PL(h:K (.bool (BB ⟨x0,x1,x2,x3,x4,x5,x6,x7,x8,x9,x10,x11,x12⟩)) H):AF Tryz.prog 150 [.agg [.int .i64 x0,.int .i64 x1,.int .i64 x2,.int .i64 x3,.int .i64 x4,.int .i64 x5,.int .i64 x6,.bool x7,.int .u64 x8,.int .u64 x9,.int .u64 x10,.int .u64 x11,.int .u64 x12]] H K:=MS (t:=⟨x0,x1,x2,x3,x4,x5,x6,x7,x8,x9,x10,x11,x12⟩) h
end
theorem b6{k n b:Int}:HH k n b=bif (CE k n).2&&BB (Bw k n b)then(Bw k n b,true)else(.zero,false):=by
 by_cases h1:k=1
 ·subst h1
  cases h:Bv n 1 4096<;>simp[HH,CE,Bw,BB,h]
 by_cases h2:k=2
 ·subst h2
  cases h:Bv n 1 4<;>simp[HH,CE,Bw,BB,h]
 by_cases h3:k=3
 ·subst h3;simp[HH,CE]
 by_cases h4:k=4
 ·subst h4;simp[HH,CE]
 by_cases h5:k=5
 ·subst h5;simp[HH,CE]
 simp[HH,CE,h1,h2,h3,h4,h5]
theorem UI{k n b:Int}(h:K (.Bj [.agg (HH k n b).1.cells,.bool (HH k n b).2]) H):AF Tryz.prog 166 [.int .i64 k,.int .i64 n,.int .i64 b] H K:=by
 rw[b6]at h
 refine AF.tidy ?_
 refine Aa ok166 ?_;(try simp only[c166,w166,go_sem]);repeat' ((first|refine orR ?_|(refine sp ?_ ?_<;>intro hc)|refine VW ?_|refine PL ?_)<;>try simp only[*,w166,go_sem])
 all_goals (refine tv h (by first|exact⟨_,rfl⟩|exact⟨[],(Qa _).symm⟩|exact hx|exact hx.app _) ?_;first|(simp only[Bw,AN.cells,AN.zero,AH.plain,Ah, *,bs,go_sem];done)|(simp_all[Bw,AN.cells,AN.zero,AH.plain,Ah];done)|(simp_all[Bw,AN.cells,AN.zero,AH.plain,Ah];omega)|grind[Bw,AN.cells,AN.zero,AH.plain,Ah])
theorem Yf{th:Int}{p:List Int}{oP:Nat}{fP rP:Bool}(hi:Inv s)(hP:H[oP]?=some (.AU 1 (ints p) rP))(hlp:p.length≤100000)(hS:H[oS]?=some (.AU 5 (s.AE.map Slot.cells) rS))(hT:H[oT]?=some (.AU 13 (s.AB.map AN.cells) rT))
 (h:K (.Bj [.int .i64 (A7 s th p).1,.int .i64 (A7 s th p).2]) H):AF Tryz.prog 171 [stA s oS oT fS fT,.int .i64 th,.slice oP p.length 0 p.length fP] H K:=by
 have kT:=AL.of hT
 have kS:=AL.of hS
 have kP:=AL.of hP
 have hgb:=HQ hi.AS
 have hlt:=hi.ME
 have hw:¬th<0→¬s.AS.AI≤th→IntKind.wrap .i64 (2+th)=2+th:=fun a b=>w64 (by omega) (by omega)
 clear hgb hlt
 refine AF.tidy ?_
 refine Aa ok171 ?_;(try simp only[c171,w171,hw,kT,kS,kP,go_sem]);repeat' ((first|refine orR ?_|(refine sp ?_ ?_<;>intro hc)|refine Fj (kP _) hlp ?_)<;>try simp only[*,w171,go_sem])
 case' refine_1.refine_1.refine_1=>have e:=Pg (th:=th) (p:=p) hi (.inr (by assumption))
 case' refine_1.refine_2=>have e:=Pg (th:=th) (p:=p) hi (.inl (by omega))
 case' refine_2=>have e:=Pg (th:=th) (p:=p) hi (.inl (by omega))
 case' refine_1.refine_1.refine_1|refine_1.refine_2|refine_2=>(rw[e]at h;exact⟨rfl,by first|exact⟨_,rfl⟩|exact⟨[],(Qa _).symm⟩|exact hx|exact hx.app _,h⟩)
 have hin:Bv th 0 (s.AS.AI-1)=true:=by rw[BX];omega
 have hp:BJ p=true:=by assumption
 have hro:=EZ hi.ok (BX.1 hin).1 (BX.1 hin).2
 have hl:=G7 hp
 refine AK.Az [8,9,10,2,3] ?_;simp only[mpC,go_sem]
 refine AK.acc (fun k (a:Int×Int×AP)=>[(8,.int .i64 a.1),(9,.int .i64 a.2.1),(10,.int .i64 (k:Int))]) (fun k a=>a.2.2) (fun k a=>Ex H a.2.2∧AL a.2.2 H.length _∧((k=0∧a.1=2+th)∨(1≤k∧0≤a.2.1∧a.2.1<s.AE.length∧A7 s th p=DU s (p.drop k) a.2.1))) p.length ?_ (a0:=(2+th,0,_)) ⟨.mk _,AL.of BH,.inl ⟨rfl,rfl⟩⟩
 rintro k ⟨node,slot,W⟩ hk ⟨hx,kst,hI⟩ next
 simp only at hx kst hI
 have kT:=kT.ex hx
 have kS:=kS.ex hx
 have kP:=kP.ex hx
 have kT0:=kT.at
 have kS0:=kS.at
 have kP0:=kP.at
 have kst0:=kst.at
 refine AK.unfold ?_
 have hw:=AY (k:=k) (by omega)
 have hgp:k<p.length→_:=fun h=>Bt (l:=p) h
 rcases hI with⟨rfl,rfl⟩|⟨h1,h2,h3,h4⟩
 ·have hz:=V8 hi hin hp
  have KD:(0≤2+th)=True:=eq_true (by have:=BX.1 hin;omega)
  have hn1:(2+th<(s.AB.length:Int))=True:=eq_true (by have:=BX.1 hin;omega)
  have hg:=BI (s:=s) (k:=(2+th).toNat) hro.1
  have hb:=hi.bits hro.1 hro.2
  have hpl:(0<(p.length:Int))=True:=eq_true (by omega)
  have hgp0:(ints p)[0]?=some [.int .i64 (p.getD 0 0)]:=Bt (by omega)
  have hwz:¬p2 (s.AG (2+th).toNat).bits≤p.getD 0 0→IntKind.wrap .i64 ((s.AG (2+th).toNat).base+p.getD 0 0)=(s.AG (2+th).toNat).base+p.getD 0 0:=fun h=>by
   have:=hz.2 h
   have:=hi.ok.lS
   exact w64 (by omega) (by omega)
  (try simp only[w171,hgp0,hg,KD,hn1,hpl,hwz,hw,kT,kS,kP,kst,kT0,kS0,kP0,kst0,AA b171_9.eq_1,AR,AX,apC,go_sem]);repeat' ((first|refine orR ?_|(refine sp ?_ ?_<;>intro hc)|refine HT hb.1 hb.2 ?_)<;>try simp only[*,w171,AA b171_9.eq_1,AR,AX,apC,go_sem])
  ·rw[hz.1 (by assumption)]at h
   exact⟨rfl,by first|exact⟨_,rfl⟩|exact⟨[],(Qa _).symm⟩|exact hx|exact hx.app _,h⟩
  ·have q:=hz.2 (by assumption)
   (refine AK.Az [8,9,10,2,3] ?_;simp only[mpC,go_sem];refine next (2+th,_,_) (by omega) ⟨hx.app _,kst.app _,.inr ⟨by omega,q.1,q.2.1,q.2.2⟩⟩)
 ·have hk0:(0<(k:Int))=True:=eq_true (by omega)
  have hs0:(0≤slot)=True:=eq_true h2
  have hs1:(slot<(s.AE.length:Int))=True:=eq_true h3
  have hg:=A4 (s:=s) (k:=slot.toNat) (by omega)
  have hm:k<p.length→_:=fun h=>V7 hi hp h h2 h3 h4
  have DS:(s.slot slot.toNat).cap.ty=2→(0≤(s.slot slot.toNat).cap.th)=True∧((s.slot slot.toNat).cap.th<(s.AB.length:Int))=True:=fun h=>by
   have:=hi.th (i:=slot.toNat) (by omega) (C9 (by rw[h];decide))
   exact⟨eq_true this.1,eq_true this.2⟩
  have hgt:(s.slot slot.toNat).cap.ty=2→_:=fun h=>BI (s:=s) (k:=(s.slot slot.toNat).cap.th.toNat) (by have:=hi.th (i:=slot.toNat) (by omega) (C9 (by rw[h];decide));omega)
  have hb:(s.slot slot.toNat).cap.ty=2→_:=fun h=>hi.bits (k:=(s.slot slot.toNat).cap.th.toNat) (by have:=hi.th (i:=slot.toNat) (by omega) (C9 (by rw[h];decide));omega) (by rw[(hi.E8 slot.toNat (by omega) (C9 (by rw[h];decide))).2,h])
  have hwz:k<p.length→(s.slot slot.toNat).cap.ty=2→¬(s.slot slot.toNat).cap.ri.tmod 2=0→¬p2 (s.AG (s.slot slot.toNat).cap.th.toNat).bits≤p.getD k 0→IntKind.wrap .i64 ((s.AG (s.slot slot.toNat).cap.th.toNat).base+p.getD k 0)=(s.AG (s.slot slot.toNat).cap.th.toNat).base+p.getD k 0:=fun a b c d=>by
   have:=((hm a).2 b c).2 d
   have:=hi.ok.lS
   exact w64 (by omega) (by omega)
  have w2:IntKind.wrap .i64 2=2:=by decide
  have q2:((2:Int)=0)=False:=by decide
  (try simp only[w171,hgp,hg,hk0,hs0,hs1,DS,hgt,hwz,hw,w2,q2,kT,kS,kP,kst,kT0,kS0,kP0,kst0,AA b171_9.eq_1,AR,AX,apC,go_sem]);repeat' ((first|refine orR ?_|(refine sp ?_ ?_<;>intro hc)|refine HT (hb (by assumption)).1 (hb (by assumption)).2 ?_)<;>try simp only[*,w171,AA b171_9.eq_1,AR,AX,apC,go_sem])
  ·rw[(hm (by assumption)).1 (.inr (by assumption))]at h
   exact⟨rfl,by first|exact⟨_,rfl⟩|exact⟨[],(Qa _).symm⟩|exact hx|exact hx.app _,h⟩
  ·rw[((hm (by assumption)).2 (by assumption) (by assumption)).1 (by assumption)]at h
   exact⟨rfl,by first|exact⟨_,rfl⟩|exact⟨[],(Qa _).symm⟩|exact hx|exact hx.app _,h⟩
  ·have q:=((hm (by assumption)).2 (by assumption) (by assumption)).2 (by assumption)
   (refine AK.Az [8,9,10,2,3] ?_;simp only[mpC,go_sem];refine next (_,_,_) (by assumption) ⟨by first|exact⟨_,rfl⟩|exact⟨[],(Qa _).symm⟩|exact hx|exact hx.app _,kst.app _,.inr ⟨by omega,q.1,q.2.1,q.2.2⟩⟩)
  ·rw[(hm (by assumption)).1 (.inl (by assumption))]at h
   exact⟨rfl,by first|exact⟨_,rfl⟩|exact⟨[],(Qa _).symm⟩|exact hx|exact hx.app _,h⟩
  ·rw[Yj (by omega) h4]at h
   exact⟨rfl,by first|exact⟨_,rfl⟩|exact⟨[],(Qa _).symm⟩|exact hx|exact hx.app _,h⟩
theorem EX{th:Int}{p:List Int}{oP:Nat}{fP rP:Bool}(hi:Inv s)(hP:H[oP]?=some (.AU 1 (ints p) rP))(hlp:p.length≤100000)(hS:H[oS]?=some (.AU 5 (s.AE.map Slot.cells) rS))(hT:H[oT]?=some (.AU 13 (s.AB.map AN.cells) rT))
 (h:K (.Bj [.int .i64 (AO s th p).1,.agg (AO s th p).2.1.cells,.int .i64 (AO s th p).2.2]) H):AF Tryz.prog 88 [stA s oS oT fS fT,.int .i64 th,.slice oP p.length 0 p.length fP] H K:=by
 have kT:=AL.of hT
 have kS:=AL.of hS
 have kP:=AL.of hP
 have hb:(A7 s th p).2=0→(0≤(A7 s th p).1)=True∧((A7 s th p).1<(s.AE.length:Int))=True:=fun e=>by
  have:=C7 e;exact⟨eq_true this.2.2.2.1,eq_true this.2.2.2.2⟩
 have hg:(A7 s th p).2=0→_:=fun e=>A4 (s:=s) (k:=(A7 s th p).1.toNat) (by have:=C7 e;omega)
 have hz:(A7 s th p).2=0→_:=fun e=>hi.Yx (k:=(A7 s th p).1.toNat) (by have:=C7 e;omega)
 refine AF.tidy ?_
 refine Aa ok88 ?_;(try simp only[c88,w88,hb,hg,kS,kT,kP,go_sem]);repeat' ((first|refine orR ?_|(refine sp ?_ ?_<;>intro hc)|refine Yf hi (kP _) hlp (kS _) (kT _) ?_)<;>try simp only[*,w88,go_sem])
 all_goals (refine tv h (by first|exact⟨_,rfl⟩|exact⟨[],(Qa _).symm⟩|exact hx|exact hx.app _) ?_;first|(simp only[AO,Bh.cells,Bh.zero,AH.plain,Ah, *,bs,go_sem];done)|(simp_all[AO,Bh.cells,Bh.zero,AH.plain,Ah];done)|(simp_all[AO,Bh.cells,Bh.zero,AH.plain,Ah];omega)|grind[AO,Bh.cells,Bh.zero,AH.plain,Ah])
theorem Jt{th:Int}{p:List Int}{oP:Nat}{fP rP:Bool}(hi:Inv s)(hP:H[oP]?=some (.AU 1 (ints p) rP))(hlp:p.length≤100000)(hS:H[oS]?=some (.AU 5 (s.AE.map Slot.cells) rS))(hT:H[oT]?=some (.AU 13 (s.AB.map AN.cells) rT))
 (h:K (.Bj [.int .i64 (Ak s th p).1,.int .i64 (Ak s th p).2]) H):AF Tryz.prog 160 [stA s oS oT fS fT,.int .i64 th,.slice oP p.length 0 p.length fP] H K:=by
 have kT:=AL.of hT
 have kS:=AL.of hS
 have kP:=AL.of hP
 have hb:(A7 s th p).2=0→(0≤(A7 s th p).1)=True∧((A7 s th p).1<(s.AE.length:Int))=True:=fun e=>by
  have:=C7 e;exact⟨eq_true this.2.2.2.1,eq_true this.2.2.2.2⟩
 have hg:(A7 s th p).2=0→_:=fun e=>A4 (s:=s) (k:=(A7 s th p).1.toNat) (by have:=C7 e;omega)
 have hz:(A7 s th p).2=0→_:=fun e=>hi.Yx (k:=(A7 s th p).1.toNat) (by have:=C7 e;omega)
 refine AF.tidy ?_
 refine Aa ok160 ?_;(try simp only[c160,w160,hb,hg,kS,kT,kP,go_sem]);repeat' ((first|refine orR ?_|(refine sp ?_ ?_<;>intro hc)|refine Yf hi (kP _) hlp (kS _) (kT _) ?_)<;>try simp only[*,w160,go_sem])
 all_goals (refine tv h (by first|exact⟨_,rfl⟩|exact⟨[],(Qa _).symm⟩|exact hx|exact hx.app _) ?_;first|(simp only[Ak,AH.plain,Ah, *,bs,go_sem];done)|(simp_all[Ak,AH.plain,Ah];done)|(simp_all[Ak,AH.plain,Ah];omega)|grind[Ak,AH.plain,Ah])
end
end Go.Proofs.YtlaipllgmddkiaaGreat.Ax
namespace Go.Ax.M
open Go Go.Ax
theorem K1{op:Int}{a b:List Int}{x y w:Int}:
 (op=1→AT ⟨op,a,b,x,y,w⟩=(BJ a&&(BJ b&&((Bv x 1 5&&Bv y 0 4096)&&decide (w=0)))))∧
 (op=2→AT ⟨op,a,b,x,y,w⟩=(BJ a&&(BJ b&&((Bv x 0 7&&decide (y=0))&&decide (w=0)))))∧
 (op=3→AT ⟨op,a,b,x,y,w⟩=(BJ a&&(BJ b&&((Bv x 0 7&&Bv y 1 65535)&&decide (w=0)))))∧
 (op=4→AT ⟨op,a,b,x,y,w⟩=(BJ a&&(BJ b&&((decide (x=0)&&decide (y=0))&&decide (w=0)))))∧
 (op=7→AT ⟨op,a,b,x,y,w⟩=(BJ a&&((decide ((b.length:Int)=0)||BJ b)&&(decide (x=0)&&decide (y=0)))))∧
 (op=8→AT ⟨op,a,b,x,y,w⟩=(BJ a&&((decide ((b.length:Int)=0)||BJ b)&&((decide (x=0)&&decide (y=0))&&decide (w=0)))))∧
 (op=11→AT ⟨op,a,b,x,y,w⟩=(BJ a&&(decide ((b.length:Int)=0)&&(Bv x 0 3&&decide (y=0)))))∧
 (op=12→AT ⟨op,a,b,x,y,w⟩=(BJ a&&(decide ((b.length:Int)=0)&&((Bv x 0 3&&decide (y=0))&&decide (w=0)))))∧
 (op=5∨op=6∨op=9∨op=10∨op=13→AT ⟨op,a,b,x,y,w⟩=(BJ a&&(decide ((b.length:Int)=0)&&((decide (x=0)&&decide (y=0))&&decide (w=0)))))∧
 (op<1∨13<op→AT ⟨op,a,b,x,y,w⟩=false):=by
 refine⟨?_,?_,?_,?_,?_,?_,?_,?_,?_,fun h=>by simp only[AT,(IJ h).2];rfl⟩
 all_goals intro h
 all_goals try rcases h with rfl|rfl|rfl|rfl|rfl
 all_goals try subst h
 all_goals simp[AT,CB,C0,C2]
end Go.Ax.M
namespace Go.Proofs.YtlaipllgmddkiaaGreat.Ax
open Go Go.Ax Go.Ax.M
section
variable {H:AP}{K:AH→AP→Prop}
theorem UJ{p:List Int}{o:Nat}{f r:Bool}(ho:H[o]?=some (.AU 1 (ints p) r))(hl:p.length≤100000)(h:K (.bool (decide ((p.length:Int)=0)||BJ p)) H):AF Tryz.prog 159 [.slice o p.length 0 p.length f] H K:=by
 refine Aa ok159 ?_;(try simp only[c159,AA k159_0.eq_1,go_sem]);repeat' ((first|refine orR ?_|(refine sp ?_ ?_<;>intro hc)|refine Fj ho hl ?_)<;>try simp only[*,AA k159_0.eq_1,go_sem])
 all_goals (refine kb h ?_;first|(simp only[BJ, *,bs,go_sem];done)|(simp_all[BJ];done)|(simp_all[BJ];omega)|grind[BJ])
theorem CR{op x y w:Int}{a b:List Int}{oA oB:Nat}{fA fB rA rB:Bool}(hA:H[oA]?=some (.AU 1 (ints a) rA))(hB:H[oB]?=some (.AU 1 (ints b) rB))(hla:a.length≤100000)(hlb:b.length≤100000)(h:K (.bool (AT ⟨op,a,b,x,y,w⟩)) H):
 AF Tryz.prog 84 [.agg [.int .i64 op,.slice oA a.length 0 a.length fA,.slice oB b.length 0 b.length fB,.int .i64 x,.int .i64 y,.int .u64 w]] H K:=by
 have kA:=AL.of hA
 have kB:=AL.of hB
 obtain⟨c1,c2,c3,c4,c7,c8,c11,c12,cr,cn⟩:=@K1 op a b x y w
 refine AF.tidy ?_
 rcases Js op with(e|e|e|e|e|e|e|e|e|e|e|e|e)|e
 case inr=>
  rw[cn e]at h
  clear c1 c2 c3 c4 c7 c8 c11 c12 cr cn
  rcases e with e|e
  ·refine Aa ok84 ?_;(try simp only[c84,w84,kA,kB,e,go_sem]);repeat' ((first|refine orR ?_|(refine sp ?_ ?_<;>intro hc)|refine Fj (kA _) hla ?_)<;>try simp only[*,w84,go_sem])
   all_goals (refine tb h (by first|exact⟨_,rfl⟩|exact⟨[],(Qa _).symm⟩|exact hx|exact hx.app _) ?_;first|(simp only[Qi, *,bs,go_sem];done)|(simp_all[Qi];done)|(simp_all[Qi];omega)|grind[Qi])
  ·have e':¬op<1:=by omega
   refine Aa ok84 ?_;(try simp only[c84,w84,kA,kB,e,e',go_sem]);repeat' ((first|refine orR ?_|(refine sp ?_ ?_<;>intro hc)|refine Fj (kA _) hla ?_)<;>try simp only[*,w84,go_sem])
   all_goals (refine tb h (by first|exact⟨_,rfl⟩|exact⟨[],(Qa _).symm⟩|exact hx|exact hx.app _) ?_;first|(simp only[Qi, *,bs,go_sem];done)|(simp_all[Qi];done)|(simp_all[Qi];omega)|grind[Qi])
 all_goals first
  |rw[c1 e]at h
  |rw[c2 e]at h
  |rw[c3 e]at h
  |rw[c4 e]at h
  |rw[c7 e]at h
  |rw[c8 e]at h
  |rw[c11 e]at h
  |rw[c12 e]at h
  |rw[cr (by omega)]at h
 all_goals
  clear c1 c2 c3 c4 c7 c8 c11 c12 cr cn
  subst e
  refine Aa ok84 ?_;(try simp only[c84,w84,kA,kB,go_sem]);repeat' ((first|refine orR ?_|(refine sp ?_ ?_<;>intro hc)|refine Fj (kA _) hla ?_|refine Fj (kB _) hlb ?_|refine UJ (kB _) hlb ?_|refine KR ?_)<;>try simp only[*,w84,go_sem])
 all_goals first
  |exact⟨rfl,by first|exact⟨_,rfl⟩|exact⟨[],(Qa _).symm⟩|exact hx|exact hx.app _,h⟩
  |(refine tb h (by first|exact⟨_,rfl⟩|exact⟨[],(Qa _).symm⟩|exact hx|exact hx.app _) ?_;simp_all;done)
end
end Go.Proofs.YtlaipllgmddkiaaGreat.Ax
namespace Go.Ax.M
open Go Go.Ax
theorem NW{s:State}(h:Inv s){n:Nat}(hn:n<s.AB.length){a:Int}(h0:0≤a)(hh:Bx (s.AG n) a=true):0≤A0 s a:=by
 have:=Fz h.apart (i:=a.toNat) hn (by rw[show((a.toNat:Nat):Int)=a by omega];exact hh)
 rw[show((a.toNat:Nat):Int)=a by omega]at this
 omega
theorem Yk{s:State}(h:Inv s){th:Int}{p:List Int}(hp:BJ p=true):∀(j k:Nat) (a:Int),k+j=p.length→0≤a→a<s.AE.length→0≤A0 s a→A7 s th p=DU s (p.drop k) a→(A7 s th p).2=0→0≤A0 s (A7 s th p).1
 |0,k,a,hk,h0,h1,ho,e,_=>by rw[Yj (by omega) e];exact ho
 |j+1,k,a,hk,h0,h1,ho,e,h2=>by
  have hkl:k<p.length:=by omega
  obtain⟨m1,m2⟩:=V7 h hp hkl h0 h1 e
  by_cases c:¬(s.slot a.toNat).cap.ty=2∨(s.slot a.toNat).cap.ri.tmod 2=0
  ·rw[m1 c]at h2;exact absurd h2 (by decide)
  ·have c1:(s.slot a.toNat).cap.ty=2:=by
    by_cases e:(s.slot a.toNat).cap.ty=2
    ·exact e
    ·exact absurd (.inl e) c
   have c2:¬(s.slot a.toNat).cap.ri.tmod 2=0:=fun e=>c (.inr e)
   obtain⟨m3,m4⟩:=m2 c1 c2
   by_cases d:p2 (s.AG (s.slot a.toNat).cap.th.toNat).bits≤p.getD k 0
   ·rw[m3 d]at h2;exact absurd h2 (by decide)
   ·obtain⟨q0,q1,q2⟩:=m4 d
    have hn:=C9 (s:=s) (i:=a.toNat) (by rw[c1];decide)
    have DS:=h.th (i:=a.toNat) (by omega) hn
    have hty:=(h.E8 a.toNat (by omega) hn).2
    have hpg:=GN hp hkl
    exact Yk h hp j (k+1) _ (by omega) q0 q1 (NW h (n:=(s.slot a.toNat).cap.th.toNat) (by omega) q0 (DZ.2 ⟨by rw[hty,c1],by omega,by omega⟩)) q2 h2
theorem Z7{s:State}{th:Int}{p:List Int}(h2:(A7 s th p).2=0):0≤A0 s (A7 s th p).1:=by
 obtain⟨ok,hin,hp,_,_⟩:=C7 h2
 have h:=Inv.of ok
 obtain⟨z1,z2⟩:=V8 h hin hp
 have hl:=G7 hp
 have hr:=EZ ok (BX.1 hin).1 (BX.1 hin).2
 by_cases d:p2 (s.AG (2+th).toNat).bits≤p.getD 0 0
 ·rw[z1 d]at h2;exact absurd h2 (by decide)
 ·obtain⟨q0,q1,q2⟩:=z2 d
  have hpg:=GN hp (k:=0) (by omega)
  exact Yk h hp (p.length-1) 1 _ (by omega) q0 q1 (NW h hr.1 q0 (DZ.2 ⟨hr.2,by omega,by omega⟩)) q2 h2
theorem CZ{s:State}{th:Int}{p:List Int}(h2:(Ak s th p).2=0):0≤(Ak s th p).1∧(Ak s th p).1<s.AE.length∧0≤A0 s (Ak s th p).1∧Aq (s.slot (Ak s th p).1.toNat).cap=true:=by
 unfold Ak at h2 ⊢
 cases h1:decide ((A7 s th p).2=0)with
 |false=>rw[h1]at h2;simp at h2 h1;exact absurd h2 h1
 |true=>
  rw[h1]at h2
  simp only[QD,cond_false]at h2 ⊢
  cases h3:Aq (s.slot (A7 s th p).1.toNat).cap with
  |false=>rw[h3]at h2;simp at h2
  |true=>
   simp only[QD,cond_false]
   have:=C7 (of_decide_eq_true h1)
   exact⟨this.2.2.2.1,this.2.2.2.2,Z7 (of_decide_eq_true h1),h3⟩
theorem Z8:∀x:Fin 8,(IntKind.wrap .i64 ((Qh (IntKind.bits .i64) (2:Int)&&&~~~Qh (IntKind.bits .i64) (x.val:Int)).toNat)=0)↔¬((x.val:Int).tdiv 2).tmod 2=0:=by decide+kernel
theorem ZG:∀x:Fin 8,(IntKind.wrap .i64 ((Qh (IntKind.bits .i64) (4:Int)&&&~~~Qh (IntKind.bits .i64) (x.val:Int)).toNat)=0)↔¬(x.val:Int).tdiv 4=0:=by decide+kernel
theorem MA{r:Int}(h0:0≤r)(h7:r≤7):Bd 2 r=!decide ((r.tdiv 2).tmod 2=0):=by
 have e1:I8 2=2:=by simp[I8,C2,Bv]
 have e2:I8 r=r:=by simp[I8,C2,Bv,h0,h7]
 obtain⟨x,hx⟩:∃x:Fin 8,r=(x.val:Int):=⟨⟨r.toNat,by omega⟩,by simp;omega⟩
 have:=Z8 x
 simp only[Bd,LU,e1,e2]
 rw[hx,Qs]
 simp only[decide_eq_true_eq,Qx,decide_eq_false_iff_not]
 exact this
theorem ZH{r:Int}(h0:0≤r)(h7:r≤7):Bd 4 r=!decide (r.tdiv 4=0):=by
 have e1:I8 4=4:=by simp[I8,C2,Bv]
 have e2:I8 r=r:=by simp[I8,C2,Bv,h0,h7]
 obtain⟨x,hx⟩:∃x:Fin 8,r=(x.val:Int):=⟨⟨r.toNat,by omega⟩,by simp;omega⟩
 have:=ZG x
 simp only[Bd,LU,e1,e2]
 rw[hx,Qs]
 simp only[decide_eq_true_eq,Qx,decide_eq_false_iff_not]
 exact this
theorem bU{s:State}(h:Inv s){fr to:Int}{c:Bh}(f0:0≤fr)(f1:fr<s.AE.length)(t0:0≤to)(t1:to<s.AE.length)(ho:0≤A0 s to)(hg:Bq c=true)(hn:Aq c=false):
 Dj s fr to c=bif Aq (s.slot fr.toNat).cap then 4 else bif !Aq (s.slot to.toNat).cap then 5 else bif decide ((s.slot fr.toNat).cap.ty=1)then 7 else bif !Dw c (s.slot fr.toNat).cap then 1 else bif decide (c.ty=2)&&Ch s c.th to then 1 else 0:=by
 have e1:decide (fr<0)=false:=by simp;omega
 have e2:decide ((s.AE.length:Int)≤fr)=false:=by simp;omega
 have e3:decide (to<0)=false:=by simp;omega
 have e4:decide ((s.AE.length:Int)≤to)=false:=by simp;omega
 have e5:FD s to=A0 s to:=by simp[FD,h.ok.DR,t0,t1]
 have e6:decide (FD s to<0)=false:=by rw[e5];simp;omega
 have e7:FC s c to=(decide (c.ty=2)&&Ch s c.th to):=by simp[FC,Et,h.ok.DR,t0,t1]
 simp only[Dj,h.ok.DR,e1,e2,e3,e4,e6,e7,hg,hn,QD,Qi,cond_false]
theorem bN{n k:Nat}(hn:n<2^64)(hk:k<64):Ud (n:Int) (p2 k)=((n|||2^k:Nat):Int)∧n|||2^k<2^64:=by
 have hp:(2:Nat)^k<2^64:=QE (by decide) hk
 have ep:p2 (k:Int)=((2^k:Nat):Int):=by simp[p2]
 have hor:n|||2^k<2^64:=Nat.or_lt_two_pow hn hp
 refine⟨?_,hor⟩
 rw[ep]
 have e:(Qy 64 n|||Qy 64 (2^k)).toNat=n|||2^k:=by rw[QV,Qp,Qp,Qo hn,Qo hp]
 simp only[Ud,BitVec.ofInt_natCast]
 show IntKind.wrap .u64 (((Qy 64 n|||Qy 64 (2^k)).toNat:Nat):Int)=_
 rw[e]
 generalize n|||2^k=m at*
 simp[IntKind.wrap,IntKind.bits,IntKind.signed];omega
theorem dH{w:Int}(h0:0≤w)(h1:w<2^64){k:Nat}(hk:k<64):Ud w (p2 k)=if(w/p2 k)%2=1 then w else w+p2 k:=by
 obtain⟨n,rfl⟩:∃n:Nat,w=n:=⟨w.toNat,by omega⟩
 have hn:n<2^64:=by omega
 have hp:(2:Nat)^k<2^64:=QE (by decide) hk
 have ep:p2 (k:Int)=((2^k:Nat):Int):=by simp[p2]
 have e1:=(bN hn hk).1
 rw[e1,ep]
 have e2:((n:Int)/((2^k:Nat):Int))%2=((n/2^k%2:Nat):Int):=by omega
 rw[e2]
 have hb:n.testBit k=decide (n/2^k%2=1):=Nat.testBit_eq_decide_div_mod_eq
 by_cases hc:n/2^k%2=1
 ·rw[if_pos (by omega)]
  congr 1
  apply QO
  intro i
  rw[Nat.testBit_or,QP]
  by_cases e:k=i
  ·subst e;rw[hb];simp[hc]
  ·simp[e]
 ·rw[if_neg (by omega)]
  have hz:n&&&2^k=0:=by
   apply QO
   intro i
   rw[Nat.testBit_and,QP,Nat.zero_testBit]
   by_cases e:k=i
   ·subst e;rw[hb];simp[hc]
   ·simp[e]
  have:=BitVec.add_eq_or_of_and_eq_zero (Qy 65 n) (Qy 65 (2^k)) (by
   apply BitVec.eq_of_toNat_eq
   rw[BitVec.toNat_and,Qp,Qp,Qo (by omega),Qo (by omega),hz];rfl)
  have:=congrArg BitVec.toNat this
  rw[BitVec.toNat_add,QV,Qp,Qp,Qo (show n<2^65 by omega),Qo (show 2^k<2^65 by omega),Qo (by omega)]at this
  omega
theorem ck{w k:Int}(h0:0≤w)(h1:w<2^64)(k0:0≤k)(k1:k<64):Ud w (p2 k)=(if(w.tdiv (p2 k)).tmod 2=1 then w else w+p2 k)∧(¬(w.tdiv (p2 k)).tmod 2=1→IntKind.wrap .u64 (w+p2 k)=w+p2 k):=by
 obtain⟨m,rfl⟩:∃m:Nat,k=m:=⟨k.toNat,by omega⟩
 obtain⟨n,rfl⟩:∃n:Nat,w=n:=⟨w.toNat,by omega⟩
 have hn:n<2^64:=by omega
 have ep:p2 (m:Int)=((2^m:Nat):Int):=by simp[p2]
 have e:=dH (w:=n) (by omega) (by omega) (k:=m) (by omega)
 have hd:((n:Int).tdiv (p2 m))=(n:Int)/p2 m:=Qe (by omega)
 have hm:(((n:Int)/p2 m).tmod 2)=((n:Int)/p2 m)%2:=QG (QL (by omega) (by rw[ep];exact Int.natCast_nonneg _))
 rw[hd,hm]
 refine⟨e,fun hc=> ?_⟩
 rw[if_neg hc]at e
 have:=bN hn (k:=m) (by omega)
 rw[e]at this
 rw[this.1]
 have h2:=this.2
 generalize n|||2^m=q at*
 simp[IntKind.wrap,IntKind.bits,IntKind.signed];omega
def IT(up:List Int)(i:Nat)(n:Nat)(k:Int):Prop:=(k=-1∨E0 up k=true)∧Md up i (n+1) k∧DK.stepsD up (up.length+1) (up.getD i 0)=n+DK.stepsD up (up.length+1-n) k
theorem IT.first{up:List Int}(h:Cm up=true){i:Nat}(hi:i<up.length)(hx:E0 up i=true):IT up i 0 (up.getD i 0):=by
 have hx':=D7.1 hx
 simp only[Qd]at hx'
 refine⟨?_,?_,by simp⟩
 ·rcases K7 h hi with a|a|a
  ·exact absurd a hx'.2.2
  ·exact .inl a
  ·exact .inr a
 ·have:=(Md.step h hi (.inl ⟨rfl,rfl⟩) (by omega)).2.2
  simpa using this
theorem IT.step{up:List Int}(h:Cm up=true){i:Nat}(hi:i<up.length){n:Nat}{k:Int}(d:IT up i n k)(h0:0≤k):k<up.length∧n+1<up.length+1∧IT up i (n+1) (up.getD k.toNat 0):=by
 obtain⟨d1,d2,d3⟩:=d
 have c:=Md.step h hi d2 h0
 have hk:E0 up k=true:=by rcases d1 with a|a; ·omega
                          ·exact a
 have hk':=D7.1 hk
 refine⟨c.1,by have:=c.2.1;omega,?_,c.2.2,?_⟩
 ·rcases K7 h (i:=k.toNat) (by omega)with a|a|a
  ·exact absurd a hk'.2.2
  ·exact .inl a
  ·exact .inr a
 ·rw[d3,show up.length+1-n=(up.length+1-(n+1))+1 by have:=c.2.1;omega]
  have hne:¬k=-1:=by omega
  simp only[DK.stepsD,hne,if_false]
  omega
theorem IT.done{up:List Int}(h:Cm up=true){i:Nat}(hi:i<up.length)(hx:E0 up i=true){n:Nat}{k:Int}(d:IT up i n k)(h0:¬0≤k):DK up i=n:=by
 obtain⟨d1,d2,d3⟩:=d
 have hk:k=-1:=by
  rcases d1 with a|a
  ·exact a
  ·have:=D7.1 a;omega
 have hn:=d2.le
 have hm:GU up i=true:=by simp only[GU,h,hx,Qu]
 simp only[DK,hm,cond_true,Qd]
 rw[d3,hk,show up.length+1-n=(up.length-n)+1 by omega]
 simp[DK.stepsD]
end Go.Ax.M
namespace Go.Proofs.YtlaipllgmddkiaaGreat.Ax
open Go Go.Ax Go.Ax.M
def J5(f:FuncId)(Q:State→M.Call→Prop)(D:State→Int→M.Call→CD):Prop:=∀{H:AP} {K:AH→AP→Prop} {s:State} {th:Int} {c:M.Call} {oS oT oA oB:Nat} {fS fT rS rT fA fB rA rB:Bool},
 Inv s→AT c=true→Q s c→H[oS]?=some (.AU 5 (s.AE.map Slot.cells) rS)→H[oT]?=some (.AU 13 (s.AB.map AN.cells) rT)→H[oA]?=some (.AU 1 (ints c.a) rA)→H[oB]?=some (.AU 1 (ints c.b) rB)→
 ((D s th c).st=none→K (.Bj [stA s oS oT fS fT,(D s th c).Ap]) H)→(∀s',(D s th c).st=some s'→K (.Bj [BT s' H.length (H.length+1) false false,(D s th c).Ap]) (H++[AM s',AJ s']))→
 AF Tryz.prog f [stA s oS oT fS fT,.int .i64 th,.agg [.int .i64 c.op,.slice oA c.a.length 0 c.a.length fA,.slice oB c.b.length 0 c.b.length fB,.int .i64 c.x,.int .i64 c.y,.int .u64 c.w]] H K
theorem II{c:M.Call}(h:AT c=true):c.a.length≤100000∧c.b.length≤100000:=by
 simp only[AT,Qg,Ql,decide_eq_true_eq]at h
 have h1:=G7 h.2.1
 rcases h.2.2.1 with h2|h2
 ·omega
 ·have:=G7 h2.1;omega
section
variable {H:AP}{K:AH→AP→Prop}{s:State}{oS oT:Nat}{fS fT rS rT:Bool}
theorem CS{e:Int}(h:K (.Bj [stA s oS oT fS fT,.agg [.int .i64 e,.int .u64 0,.int .i64 0]]) H)(hS:oS<H.length)(hT:oT<H.length):AF Tryz.prog 85 [stA s oS oT fS fT,.int .i64 e] H K:=by
 refine AF.gc ?_
 refine Aa ok85 ?_;(try simp only[c85,AA k85_0.eq_1,go_sem]);repeat' ((first|refine orR ?_|(refine sp ?_ ?_<;>intro hc)|fail)<;>try simp only[*,AA k85_0.eq_1,go_sem])
 exact Gc.Cd (by simp[AH.refs,Ay];exact⟨hS,hT⟩) h
theorem UK{c:Bh}{fr to:Int}(hi:Inv s)(f0:0≤fr)(f1:fr<s.AE.length)(t0:0≤to)(t1:to<s.AE.length)(ho:0≤A0 s to)(hcg:Bq c=true)(hcn:Aq c=false)
 (hS:H[oS]?=some (.AU 5 (s.AE.map Slot.cells) rS)) (hT:H[oT]?=some (.AU 13 (s.AB.map AN.cells) rT))
 (h:Dj s fr to c≠0→K (.Bj [stA s oS oT fS fT,.int .i64 (Dj s fr to c)]) H) (h':Dj s fr to c=0→K (.Bj [BT (CW s fr to c) H.length (H.length+1) false false,.int .i64 0]) (H++[AM (CW s fr to c),AJ (CW s fr to c)])):
 AF Tryz.prog 169 [stA s oS oT fS fT,.int .i64 fr,.int .i64 to,.agg c.cells] H K:=by
 have kT:=AL.of hT
 have kS:=AL.of hS
 have hE:=bU hi f0 f1 t0 t1 ho hcg hcn
 have f0':(0≤fr)=True:=eq_true f0
 have f1':(fr<(s.AE.length:Int))=True:=eq_true f1
 have t0':(0≤to)=True:=eq_true t0
 have t1':(to<(s.AE.length:Int))=True:=eq_true t1
 have ho':(A0 s to<0)=False:=eq_false (by omega)
 have gf:=A4 (s:=s) (k:=fr.toNat) (by omega)
 have gt:=A4 (s:=s) (k:=to.toNat) (by omega)
 have zf:=hi.Yx (k:=fr.toNat) (by omega)
 have zt:=hi.Yx (k:=to.toNat) (by omega)
 have hlT:s.AB.length≤1000:=by have:=hi.ok.lT;omega
 have hok:DT s:=hi.BB
 have key:∀e,Dj s fr to c=e→e≠0→K (.Bj [stA s oS oT fS fT,.int .i64 e]) H:=fun e he hn=>he▸h (he▸hn)
 have hv:=fun e=>show(AH.Bj [stA s oS oT fS fT,.int .i64 e]).refs (fun o=>o<H.length) by simp[AH.refs,Ay];exact⟨Am hS,Am hT⟩
 clear h
 refine AF.gc ?_
 unfold Bh.cells
 refine Aa ok169 ?_;(try simp only[c169,w169,kS,kT,f0',f1',t0',t1',gf,gt,zf,zt,ho',BT,AM,AJ,Qc,Qb,go_sem]);repeat' ((first|refine orR ?_|(refine sp ?_ ?_<;>intro hc)|refine Ox (a:=c) (b:=(s.slot fr.toNat).cap) ?_|refine Ra hi (kS _) (kT _) ?_|refine IP (kT _) hlT hok ?_|refine Fi hi (kS _) (kT _) ?_)<;>try simp only[*,w169,BT,AM,AJ,Qc,Qb,go_sem])
 case' refine_2.refine_2.refine_2.refine_2.refine_1.refine_2=>
  have e:Dj s fr to c=0:=by rw[hE];simp[*]
  have h':=h' e
  have e2:c.ty=2:=by assumption
  have el:(CW s fr to c).AE.length=s.AE.length:=by simp[CW]
  rw[←el]
  exact Gc.stateT (s:=CW s fr to c) (i:=4) (j:=5) (by simp only[AM,CW,←Jx,Slot.cells,e2];rfl) rfl (by decide) (by simp[AH.plain]) h'
 case' refine_2.refine_2.refine_2.refine_2.refine_2=>
  have e:Dj s fr to c=0:=by rw[hE];simp[*]
  have h':=h' e
  have el:(CW s fr to c).AE.length=s.AE.length:=by simp[CW]
  rw[←el]
  exact Gc.stateT (s:=CW s fr to c) (i:=4) (j:=5) (by simp only[AM,CW,←Jx];rfl) rfl (by decide) (by simp[AH.plain]) h'
 all_goals exact Gc.Cd (hv _) (key _ (by rw[hE];simp[*]) (by decide))
theorem Zq{x0 x1 x2 x3 fr to:Int}(hi:Inv s)(f0:0≤fr)(f1:fr<s.AE.length)(t0:0≤to)(t1:to<s.AE.length)(ho:0≤A0 s to)(hcg:Bq ⟨x0,x1,x2,x3⟩=true)(hcn:Aq ⟨x0,x1,x2,x3⟩=false)
 (hS:H[oS]?=some (.AU 5 (s.AE.map Slot.cells) rS)) (hT:H[oT]?=some (.AU 13 (s.AB.map AN.cells) rT))
 (h:Dj s fr to ⟨x0,x1,x2,x3⟩≠0→K (.Bj [stA s oS oT fS fT,.int .i64 (Dj s fr to ⟨x0,x1,x2,x3⟩)]) H)
 (h':Dj s fr to ⟨x0,x1,x2,x3⟩=0→K (.Bj [BT (CW s fr to ⟨x0,x1,x2,x3⟩) H.length (H.length+1) false false,.int .i64 0]) (H++[AM (CW s fr to ⟨x0,x1,x2,x3⟩),AJ (CW s fr to ⟨x0,x1,x2,x3⟩)])):
 AF Tryz.prog 169 [stA s oS oT fS fT,.int .i64 fr,.int .i64 to,.agg [.int .i64 x0,.int .i64 x1,.int .i64 x2,.int .i64 x3]] H K:=UK (c:=⟨x0,x1,x2,x3⟩) hi f0 f1 t0 t1 ho hcg hcn hS hT h h'
theorem Vc:J5 92 (fun _ c=>c.op=7∨c.op=8) BC:=by
 intro H K s th c oS oT oA oB fS fT rS rT fA fB rA rB hi hcg hop hS hT hA hB h h'
 have kT:=AL.of hT
 have kS:=AL.of hS
 have kA:=AL.of hA
 have kB:=AL.of hB
 have hl:=II hcg
 have hl1:=hl.1
 have hl2:=hl.2
 clear hl
 have key:∀e,BC s th c= .bad e→K (.Bj [stA s oS oT fS fT,.agg [.int .i64 e,.int .u64 0,.int .i64 0]]) H:=fun e he=>by rw[he]at h;exact h rfl
 have hv:=fun e=>show(AH.Bj [stA s oS oT fS fT,.agg [.int .i64 e,.int .u64 0,.int .i64 0]]).refs (fun o=>o<H.length) by simp[AH.refs,Ay];exact⟨Am hS,Am hT⟩
 clear h
 have iS:∀L:AP,oS<(H++L).length:=fun L=>by have:=Am hS;rw[Qf];omega
 have iT:∀L:AP,oT<(H++L).length:=fun L=>by have:=Am hT;rw[Qf];omega
 have hroom:(AO s th c.a).2.2=0→_:=fun h=>Dt (Cx h)
 have hri:(AO s th c.a).2.2=0→0≤(AO s th c.a).2.1.ri∧(AO s th c.a).2.1.ri≤7:=fun h=>by
  have:=CA h;rw[this.2.2.2.1];exact hi.ri (by omega)
 have T4:(AO s th c.a).2.2=0→_:=fun h=>NY (hri h).1 (hri h).2
 have hr2:(AO s th c.a).2.2=0→_:=fun h=>MA (hri h).1 (hri h).2
 have hr4:(AO s th c.a).2.2=0→_:=fun h=>ZH (hri h).1 (hri h).2
 have hq2:(AO s th c.a).2.2=0→IntKind.wrap .i64 ((AO s th c.a).2.1.ri.tdiv 2)=(AO s th c.a).2.1.ri.tdiv 2:=fun h=>by have:=hri h;rw[Qe (by omega)];exact w64 (by omega) (by omega)
 have hq4:(AO s th c.a).2.2=0→IntKind.wrap .i64 ((AO s th c.a).2.1.ri.tdiv 4)=(AO s th c.a).2.1.ri.tdiv 4:=fun h=>by have:=hri h;rw[Qe (by omega)];exact w64 (by omega) (by omega)
 clear hri
 have w2:IntKind.wrap .i64 2=2:=by decide
 have w4:IntKind.wrap .i64 4=4:=by decide
 have hwf:(AO s th c.b).2.2=0→IntKind.wrap .i64 ((AO s th c.b).1+1)=(AO s th c.b).1+1:=fun h=>by have:=CA h;have:=hi.ok.lS;exact w64 (by omega) (by omega)
 rcases hop with hop|hop
 ·refine AF.gc ?_
  refine Aa ok92 ?_;(try simp only[c92,w92,BT,AM,AJ,Qb,Bh.cells,hop,hroom,hq2,hq4,hwf,w2,w4,kS,kT,kA,kB,go_sem]);repeat' ((first|refine orR ?_|(refine sp ?_ ?_<;>intro hc)|refine EX hi (kA _) hl1 (kS _) (kT _) ?_|refine EX hi (kB _) hl2 (kS _) (kT _) ?_|refine CS ?_ (iS _) (iT _)|refine Fi hi (kS _) (kT _) ?_)<;>try simp only[*,w92,BT,AM,AJ,Qb,Bh.cells,go_sem])
  case' inl.refine_2.refine_2.refine_1.refine_1.refine_2.refine_2.refine_2.refine_2=>
   obtain⟨t,ht⟩:∃t,t=Fo ((AO s th c.b).1+1) (AO s th c.a).2.1.ba c.w:=⟨_,rfl⟩
   have e:BC s th c=⟨0,0,0,some (boxed s (AO s th c.a).2.1.th t)⟩:=by rw[ht];clear h' key;(first|(simp only[BC,Cj,Cu, *,bs,go_sem];done)|(simp_all[BC,Cj,Cu];done)|(simp_all[BC,Cj,Cu];omega)|grind[BC,Cj,Cu])
  case' inl.refine_2.refine_2.refine_1.refine_2.refine_2=>
   obtain⟨t,ht⟩:∃t,t=Fo 0 (AO s th c.a).2.1.ba c.w:=⟨_,rfl⟩
   have e:BC s th c=⟨0,0,0,some (boxed s (AO s th c.a).2.1.th t)⟩:=by rw[ht];clear h' key;(first|(simp only[BC,Cj,Cu, *,bs,go_sem];done)|(simp_all[BC,Cj,Cu];done)|(simp_all[BC,Cj,Cu];omega)|grind[BC,Cj,Cu])
  case' inl.refine_2.refine_2.refine_1.refine_1.refine_2.refine_2.refine_2.refine_2|inl.refine_2.refine_2.refine_1.refine_2.refine_2=>
   rw[e]at h'
   have h':=h' _ rfl
   refine Gc.Jg (s':=boxed s (AO s th c.a).2.1.th t) (i:=6) (j:=7) rfl ?_ (fun s' e=>by injection e with e;subst e;exact h') (by decide) (by simp[AH.plain,Ah]) rfl (by simp[boxed]) ⟨rfl,rfl,rfl⟩ rfl
   rw[ht]
   simp only[AJ,boxed,←DQ];rfl
  all_goals exact Gc.Cd (hv _) (key _ (by(first|(simp only[BC,Cj,Cu, *,bs,go_sem];done)|(simp_all[BC,Cj,Cu];done)|(simp_all[BC,Cj,Cu];omega)|grind[BC,Cj,Cu])))
 ·have hbx:(AO s th c.a).2.2=0→(AO s th c.a).2.1.th.toNat<s.AB.length:=fun h=>by have:=DP.1 (Cx h);omega
  have hf:(AO s th c.a).2.2=0→0<(s.AG (AO s th c.a).2.1.th.toNat).from_→IntKind.wrap .i64 ((s.AG (AO s th c.a).2.1.th.toNat).from_-1)=(s.AG (AO s th c.a).2.1.th.toNat).from_-1∧(0≤(s.AG (AO s th c.a).2.1.th.toNat).from_-1)=True∧((s.AG (AO s th c.a).2.1.th.toNat).from_-1<(s.AE.length:Int))=True:=fun h1 h=>by
   have:=(Lx hi.ok (hbx h1) h).1
   have:=hi.ok.lS
   exact⟨w64 (by omega) (by omega),eq_true (by omega),eq_true (by omega)⟩
  have hf2:(AO s th c.a).2.2=0→0<(s.AG (AO s th c.a).2.1.th.toNat).from_→_:=fun h1 h=>A4 (s:=s) (k:=((s.AG (AO s th c.a).2.1.th.toNat).from_-1).toNat) (by have:=(Lx hi.ok (hbx h1) h).1;omega)
  have pf:(AO s th c.a).2.2=0→0<(s.AG (AO s th c.a).2.1.th.toNat).from_→(s.AG (AO s th c.a).2.1.th.toNat).from_≤s.AE.length∧Aq (s.slot ((s.AG (AO s th c.a).2.1.th.toNat).from_-1).toNat).cap=false:=fun h1 h=>Lx hi.ok (hbx h1) h
  refine AF.gc ?_
  refine Aa ok92 ?_;(try simp only[c92,w92,BT,AM,AJ,Qb,Bh.cells,hop,hroom,hq2,hq4,hf,hf2,w2,w4,DX,F1,D0,kS,kT,kA,kB,go_sem]);repeat' ((first|refine orR ?_|(refine sp ?_ ?_<;>intro hc)|refine EX hi (kA _) hl1 (kS _) (kT _) ?_|refine Jt hi (kB _) hl2 (kS _) (kT _) ?_|refine CS ?_ (iS _) (iT _)|refine Fi hi (kS _) (kT _) ?_|refine Zq hi (by have:=pf (by assumption) (by assumption);omega) (by have:=pf (by assumption) (by assumption);omega) (CZ (by assumption)).1 (CZ (by assumption)).2.1 (CZ (by assumption)).2.2.1 (hi.Ib _ (by have:=pf (by assumption) (by assumption);omega)) (pf (by assumption) (by assumption)).2 (kS _) (kT _) (fun hc=> ?_) (fun hc=> ?_))<;>try simp only[*,w92,BT,AM,AJ,Qb,Bh.cells,DX,F1,D0,go_sem])
  case' inr.refine_2.refine_2.refine_2.refine_2.refine_1.refine_1.refine_2.refine_2=>
   obtain⟨u,hu⟩:∃u,u=CW s ((s.AG (AO s th c.a).2.1.th.toNat).from_-1) (Ak s th c.b).1 (s.slot ((s.AG (AO s th c.a).2.1.th.toNat).from_-1).toNat).cap:=⟨_,rfl⟩
   have e:BC s th c=GB s u (AO s th c.a).2.1:=by rw[hu];clear h' key;(first|(simp only[BC,CI, *,bs,go_sem];done)|(simp_all[BC,CI];done)|(simp_all[BC,CI];omega)|grind[BC,CI])
   rw[e]at h'
   have h':=h' _ rfl
   refine Gc.Jg (s':=boxed u (AO s th c.a).2.1.th GK) (i:=9) (j:=10) (by rw[hu];rfl) (by rw[hu];simp only[AJ,boxed,←DQ];rfl) (fun s' e=>by injection e with e;subst e;exact h') (by decide) (by simp[AH.plain,Ah]) (by simp[boxed,hu,CW]) (by simp[boxed,hu,CW]) (by rw[hu];exact⟨rfl,rfl,rfl⟩) rfl
  case' inr.refine_2.refine_2.refine_2.refine_2.refine_1.refine_2|inr.refine_2.refine_2.refine_2.refine_2.refine_2=>
   have e:BC s th c=GB s s (AO s th c.a).2.1:=by clear h' key;(first|(simp only[BC,CI, *,bs,go_sem];done)|(simp_all[BC,CI];done)|(simp_all[BC,CI];omega)|grind[BC,CI])
   rw[e]at h'
   have h':=h' _ rfl
   refine Gc.Jg (s':=boxed s (AO s th c.a).2.1.th GK) (i:=6) (j:=7) rfl (by simp only[AJ,boxed,←DQ];rfl) (fun s' e=>by injection e with e;subst e;exact h') (by decide) (by simp[AH.plain,Ah]) rfl (by simp[boxed]) ⟨rfl,rfl,rfl⟩ rfl
  all_goals exact Gc.Cd (hv _) (key _ (by(first|(simp only[BC,CI, *,bs,go_sem];done)|(simp_all[BC,CI];done)|(simp_all[BC,CI];omega)|grind[BC,CI])))
end
end Go.Proofs.YtlaipllgmddkiaaGreat.Ax
namespace Go.Proofs.YtlaipllgmddkiaaGreat.Ax
open Go Go.Ax Go.Ax.M
section
variable {H:AP}{K:AH→AP→Prop}{s:State}{oS oT:Nat}{fS fT rS rT:Bool}
theorem bY{n:Int}(h0:0≤n)(h1:n<64)(h:K (.int .u64 (p2 n)) H):AF Tryz.prog 220 [.int .i64 n] H K:=by
 obtain⟨m,rfl⟩:∃m:Nat,n=m:=⟨n.toNat,by omega⟩
 have w1:IntKind.wrap .u64 1=1:=by decide
 refine Aa ok220 ?_;(try simp only[c220,w220,w1,go_sem]);repeat' ((first|refine orR ?_|(refine sp ?_ ?_<;>intro hc)|fail)<;>try simp only[*,w220,go_sem])
 refine AK.Az [3,4,0] ?_;simp only[mpC,go_sem]
 refine AK.acc (fun k (a:Int)=>[(3,.int .u64 a),(4,.int .i64 (k:Int))]) (fun _ _=>H) (fun k a=>a=p2 k) m ?_ (a0:=1) (by simp[p2])
 intro k a hk ha next
 refine AK.unfold ?_
 have hw:=AY (k:=k) (by omega)
 have hp:k<m→IntKind.wrap .u64 (2* a)=p2 ((k+1:Nat):Int):=fun h=>by
  rw[ha]
  have:(2:Nat)^(k+1)<2^64:=QE (by decide) (by omega)
  have e:(2:Int)* p2 k=((2^(k+1):Nat):Int):=by simp only[p2,Qd,Nat.pow_succ];omega
  have e2:p2 ((k+1:Nat):Int)=((2^(k+1):Nat):Int):=by simp only[p2,Qd]
  rw[e,e2]
  generalize (2:Nat)^(k+1)=q at*
  simp[IntKind.wrap,IntKind.bits,IntKind.signed];omega
 (try simp only[w220,hw,hp,AA b220_1.eq_1,AR,AX,go_sem]);repeat' ((first|refine orR ?_|(refine sp ?_ ?_<;>intro hc)|fail)<;>try simp only[*,w220,AA b220_1.eq_1,AR,AX,go_sem])
 ·(refine AK.Az [3,4,0] ?_;simp only[mpC,go_sem];refine next _ (by assumption) (by first|rfl|exact hp (by assumption)|(have e:=hp (by assumption);rw[ha]at e;exact e)))
 ·have:k=m:=by omega
  subst this;first|exact h|(rw[ha];exact h)
theorem bX{w n:Int}(h0:0≤n)(h1:n<64)(hw0:0≤w)(hw1:w<2^64)(h:K (.bool (decide ((w.tdiv (p2 n)).tmod 2=1))) H):AF Tryz.prog 174 [.int .u64 w,.int .i64 n] H K:=by
 have hp:1≤p2 n:=by simp only[p2];have:=Nat.two_pow_pos n.toNat;omega
 have hz:(p2 n=0)=False:=eq_false (by omega)
 have hd:w.tdiv (p2 n)=w/p2 n:=Qe hw0
 have hq:IntKind.wrap .u64 (w.tdiv (p2 n))=w.tdiv (p2 n):=by
  rw[hd]
  have a:=QL hw0 (show 0≤p2 n by omega)
  have b:=Int.ediv_le_self (p2 n) hw0
  generalize w/p2 n=q at*
  simp[IntKind.wrap,IntKind.bits,IntKind.signed];omega
 have hr:IntKind.wrap .u64 ((w.tdiv (p2 n)).tmod 2)=(w.tdiv (p2 n)).tmod 2:=by
  rw[hd]
  have a:=QL hw0 (show 0≤p2 n by omega)
  rw[QG a]
  generalize w/p2 n=q at*
  simp[IntKind.wrap,IntKind.bits,IntKind.signed];omega
 have q2:((2:Int)=0)=False:=by decide
 clear hd
 refine Aa ok174 ?_;(try simp only[c174,AA k174_0.eq_1,hz,hq,hr,q2,go_sem]);repeat' ((first|refine orR ?_|(refine sp ?_ ?_<;>intro hc)|refine bY h0 h1 ?_)<;>try simp only[*,AA k174_0.eq_1,go_sem])
 trace_state
theorem OO{up:List Int}{o:Nat}{f r:Bool}{i:Int}{n:Nat}(hn:up.length=n)(hg:Cm up=true)(ho:H[o]?=some (.AU 1 (ints up) r))(h:K (.bool (E0 up i)) H):AF Tryz.prog 172 [.slice o n 0 n f,.int .i64 i] H K:=by
 subst hn
 have hgi:0≤i→i<up.length→(ints up)[i.toNat]?=some [.int .i64 (up.getD i.toNat 0)]:=fun h1 h2=>Bt (by omega)
 refine Aa ok172 ?_;(try simp only[c172,AA k172_0.eq_1,hgi,ho,go_sem]);repeat' ((first|refine orR ?_|(refine sp ?_ ?_<;>intro hc)|refine LV rfl hg ho ?_)<;>try simp only[*,AA k172_0.eq_1,go_sem])
 all_goals (refine kb h ?_;first|(simp only[E0, *,bs,go_sem];done)|(simp_all[E0];done)|(simp_all[E0];omega)|grind[E0])
theorem Zn{up:List Int}{o:Nat}{f r:Bool}{i n:Nat}(hn:up.length=n)(hg:Cm up=true)(hi:i<up.length)(hx:E0 up i=true)(ho:H[o]?=some (.AU 1 (ints up) r))(h:K (.int .i64 (DK up i)) H):AF Tryz.prog 176 [.slice o n 0 n f,.int .i64 i] H K:=by
 subst hn
 have hl:=Lv hg
 have hgi:(ints up)[i]?=some [.int .i64 (up.getD i 0)]:=Bt hi
 have hi0:(i<up.length)=True:=eq_true hi
 have d0:=IT.first hg hi hx
 have dst:=fun n k=>@IT.step up hg i hi n k
 have dend:=fun n k=>@IT.done up hg i hi hx n k
 refine Aa ok176 ?_;(try simp only[c176,w176,hgi,ho,hx,hi0,AR,AX,Qd,go_sem]);repeat' ((first|refine orR ?_|(refine sp ?_ ?_<;>intro hc)|refine OO rfl hg ho ?_)<;>try simp only[*,w176,AR,AX,Qd,go_sem])
 clear hgi hx
 refine AK.Az [6,5,0] ?_;simp only[mpC,go_sem]
 refine AK.acc (fun n a=>[(6,.int .i64 a),(5,.int .i64 (n:Int))]) (fun _ _=>H) (fun n a=>IT up i n a) (up.length+1) ?_ (a0:=up.getD i 0) d0
 intro n a hn hd next
 refine AK.unfold ?_
 have hw:=AY (k:=n) (by omega)
 have hst:0≤a→_:=fun h0=>dst n a hd h0
 have hgg:0≤a→(a<(up.length:Int))=True∧(ints up)[a.toNat]?=some [.int .i64 (up.getD a.toNat 0)]:=fun h0=>⟨eq_true (hst h0).1,Bt (by have:=(hst h0).1;omega)⟩
 clear dst
 (try simp only[w176,ho,hw,hgg,AA b176_3.eq_1,AR,AX,go_sem]);repeat' ((first|refine orR ?_|(refine sp ?_ ?_<;>intro hc)|fail)<;>try simp only[*,w176,AA b176_3.eq_1,AR,AX,go_sem])
 ·(refine AK.Az [6,5,0] ?_;simp only[mpC,go_sem];refine next _ (Nat.lt_of_succ_lt (hst (by assumption)).2.1) (hst (by assumption)).2.2)
 ·exact ki h (dend _ _ hd (by assumption)).symm
theorem VX{up:List Int}{o:Nat}{f r:Bool}{z:Int}{n:Nat}(hn:up.length=n)(hg:Cm up=true)(h0:0≤z)(hi:z<up.length)(hx:E0 up z=true)(ho:H[o]?=some (.AU 1 (ints up) r))(h:K (.int .i64 (DK up z)) H):AF Tryz.prog 176 [.slice o n 0 n f,.int .i64 z] H K:=by
 obtain⟨i,rfl⟩:∃i:Nat,z=i:=⟨z.toNat,by omega⟩
 exact Zn hn hg (by omega) hx ho h
theorem Va:J5 93 (fun s c=>(c.op=9∨c.op=10)∧∀k,k<s.AB.length→0≤(s.AG k).word∧(s.AG k).word<2^64) BG:=by
 intro H K s th c oS oT oA oB fS fT rS rT fA fB rA rB hi hcg hop hS hT hA hB h h'
 obtain⟨hop,hw64⟩:=hop
 have kT:=AL.of hT
 have kS:=AL.of hS
 have kA:=AL.of hA
 have kB:=AL.of hB
 have hl:=II hcg
 have hl1:=hl.1
 clear hl
 have key:∀e,BG s th c= .bad e→K (.Bj [stA s oS oT fS fT,.agg [.int .i64 e,.int .u64 0,.int .i64 0]]) H:=fun e he=>by rw[he]at h;exact h rfl
 have hv:=fun e=>show(AH.Bj [stA s oS oT fS fT,.agg [.int .i64 e,.int .u64 0,.int .i64 0]]).refs (fun o=>o<H.length) by simp[AH.refs,Ay];exact⟨Am hS,Am hT⟩
 clear h
 have iS:∀L:AP,oS<(H++L).length:=fun L=>by have:=Am hS;rw[Qf];omega
 have iT:∀L:AP,oT<(H++L).length:=fun L=>by have:=Am hT;rw[Qf];omega
 have hroom:(AO s th c.a).2.2=0→_:=fun h=>Dt (Cx h)
 have hri:(AO s th c.a).2.2=0→0≤(AO s th c.a).2.1.ri∧(AO s th c.a).2.1.ri≤7:=fun h=>by
  have:=CA h;rw[this.2.2.2.1];exact hi.ri (by omega)
 have T4:(AO s th c.a).2.2=0→_:=fun h=>NY (hri h).1 (hri h).2
 have hr2:(AO s th c.a).2.2=0→_:=fun h=>MA (hri h).1 (hri h).2
 have hq2:(AO s th c.a).2.2=0→IntKind.wrap .i64 ((AO s th c.a).2.1.ri.tdiv 2)=(AO s th c.a).2.1.ri.tdiv 2:=fun h=>by have:=hri h;rw[Qe (by omega)];exact w64 (by omega) (by omega)
 clear hri
 have hwt:(AO s th c.a).2.2=0→0≤(s.AG (AO s th c.a).2.1.th.toNat).word∧(s.AG (AO s th c.a).2.1.th.toNat).word<2^64:=fun h=>hw64 _ (by have:=DP.1 (Cx h);omega)
 have hba:(AO s th c.a).2.2=0→0≤(AO s th c.a).2.1.ba.tmod 64∧(AO s th c.a).2.1.ba.tmod 64<64:=fun h=>by
  have hba:=NA (FI h).2.2.2
  have:=Int.tmod_lt_of_pos (AO s th c.a).2.1.ba (show(0:Int)<64 by decide)
  exact⟨Int.tmod_nonneg _ hba.1,this⟩
 have hsh:(AO s th c.a).2.2=0→Dl .shl .u64 1 ((AO s th c.a).2.1.ba.tmod 64)=some (.int .u64 (p2 ((AO s th c.a).2.1.ba.tmod 64))):=fun h=>tB (hba h).1 (hba h).2
 have hwb:(AO s th c.a).2.2=0→IntKind.wrap .i64 ((AO s th c.a).2.1.ba.tmod 64)=(AO s th c.a).2.1.ba.tmod 64∧IntKind.wrap .u64 ((AO s th c.a).2.1.ba.tmod 64)=(AO s th c.a).2.1.ba.tmod 64:=fun h=>by
  have:=hba h
  generalize (AO s th c.a).2.1.ba.tmod 64=q at*
  refine⟨w64 (by omega) (by omega),?_⟩
  simp[IntKind.wrap,IntKind.bits,IntKind.signed];omega
 have hbr:(AO s th c.a).2.2=0→_:=fun h=>ck (hwt h).1 (hwt h).2 (hba h).1 (hba h).2
 have hba1:(AO s th c.a).2.2=0→_:=fun h=>(hba h).1
 have hba2:(AO s th c.a).2.2=0→_:=fun h=>(hba h).2
 have hwt1:(AO s th c.a).2.2=0→_:=fun h=>(hwt h).1
 have hwt2:(AO s th c.a).2.2=0→_:=fun h=>(hwt h).2
 clear hba hwt hw64
 obtain⟨B,hB64⟩:=NQ ((AO s th c.a).2.1.ba.tmod 64)
 have w2:IntKind.wrap .i64 2=2:=by decide
 have q64:((64:Int)=0)=False:=by decide
 rcases hop with hop|hop
 ·refine AF.gc ?_
  refine Aa ok93 ?_;(try simp only[c93,w93,BT,AM,AJ,Qb,Bh.cells,hop,hroom,hq2,hsh,hwb,w2,q64,kS,kT,kA,kB,QF,Qc,go_sem]);repeat' ((first|refine orR ?_|(refine sp ?_ ?_<;>intro hc)|refine EX hi (kA _) hl1 (kS _) (kT _) ?_|refine CS ?_ (iS _) (iT _)|refine Fi hi (kS _) (kT _) ?_|refine bX (hba1 (by assumption)) (hba2 (by assumption)) (hwt1 (by assumption)) (hwt2 (by assumption)) ?_)<;>try simp only[*,w93,BT,AM,AJ,Qb,Bh.cells,QF,Qc,go_sem])
  case' inl.refine_2.refine_2.refine_2.refine_1=>
   have eo:=(hbr (by assumption)).1
   rw[if_neg (by assumption)]at eo
   obtain⟨t,ht⟩:∃t,t={s.AG (AO s th c.a).2.1.th.toNat with word:=(s.AG (AO s th c.a).2.1.th.toNat).word+p2 ((AO s th c.a).2.1.ba.tmod 64)}:=⟨_,rfl⟩
   have e:BG s th c=⟨0,0,0,some (boxed s (AO s th c.a).2.1.th t)⟩:=by rw[ht,←eo];clear h' key eo hbr;(first|(simp only[BG, *,bs,go_sem];done)|(simp_all[BG];done)|(simp_all[BG];omega)|grind[BG])
   rw[e]at h'
   have h':=h' _ rfl
   refine Gc.Jg (s':=boxed s (AO s th c.a).2.1.th t) (i:=5) (j:=6) rfl ?_ (fun s' e=>by injection e with e;subst e;exact h') (by decide) (by simp[AH.plain,Ah]) rfl (by simp[boxed]) ⟨rfl,rfl,rfl⟩ rfl
   rw[ht]
   simp only[AJ,boxed,←DQ];rfl
  case' inl.refine_2.refine_2.refine_2.refine_2=>
   have eo:=(hbr (by assumption)).1
   rw[if_pos (by assumption)]at eo
   have DS:=DP.1 (Cx (s:=s) (th:=th) (p:=c.a) (by assumption))
   have es:boxed s (AO s th c.a).2.1.th {s.AG (AO s th c.a).2.1.th.toNat with word:=Ud (s.AG (AO s th c.a).2.1.th.toNat).word (p2 ((AO s th c.a).2.1.ba.tmod 64))}=s:=by
    rw[eo]
    have hl:(AO s th c.a).2.1.th.toNat<s.AB.length:=by omega
    have e3:s.AG (AO s th c.a).2.1.th.toNat=s.AB[(AO s th c.a).2.1.th.toNat]:=by simp[State.AG,QB,hl]
    simp only[boxed,e3]
    rw[List.set_getElem_self]
   have e:BG s th c=⟨0,0,0,some (boxed s (AO s th c.a).2.1.th {s.AG (AO s th c.a).2.1.th.toNat with word:=Ud (s.AG (AO s th c.a).2.1.th.toNat).word (p2 ((AO s th c.a).2.1.ba.tmod 64))})⟩:=by clear es;clear h' key eo hbr;(first|(simp only[BG, *,bs,go_sem];done)|(simp_all[BG];done)|(simp_all[BG];omega)|grind[BG])
   rw[es]at e
   rw[e]at h'
   have h':=h' _ rfl
   refine Gc.Jg (s':=s) (i:=5) (j:=6) rfl rfl (fun s' e=>by injection e with e;subst e;exact h') (by decide) (by simp[AH.plain,Ah]) rfl rfl ⟨rfl,rfl,rfl⟩ rfl
  all_goals exact Gc.Cd (hv _) (key _ (by clear hbr;(first|(simp only[BG, *,bs,go_sem];done)|(simp_all[BG];done)|(simp_all[BG];omega)|grind[BG])))
 ·refine AF.gc ?_
  refine Aa ok93 ?_;(try simp only[c93,w93,BT,AM,AJ,Qb,Bh.cells,hop,hroom,hq2,hsh,hwb,w2,q64,kS,kT,kA,kB,QF,Qc,go_sem]);repeat' ((first|refine orR ?_|(refine sp ?_ ?_<;>intro hc)|refine EX hi (kA _) hl1 (kS _) (kT _) ?_|refine CS ?_ (iS _) (iT _)|refine Fi hi (kS _) (kT _) ?_)<;>try simp only[*,w93,BT,AM,AJ,Qb,Bh.cells,QF,Qc,go_sem])
  case' inr.refine_2.refine_2.refine_2.refine_2=>
   obtain⟨t,ht⟩:∃t,t={s.AG (AO s th c.a).2.1.th.toNat with word:=0}:=⟨_,rfl⟩
   have e:BG s th c=⟨0,(s.AG (AO s th c.a).2.1.th.toNat).word,0,some (boxed s (AO s th c.a).2.1.th t)⟩:=by rw[ht];clear h' key hbr;(first|(simp only[BG, *,bs,go_sem];done)|(simp_all[BG];done)|(simp_all[BG];omega)|grind[BG])
   rw[e]at h'
   have h':=h' _ rfl
   refine Gc.Jg (s':=boxed s (AO s th c.a).2.1.th t) (i:=5) (j:=6) rfl ?_ (fun s' e=>by injection e with e;subst e;exact h') (by decide) (by simp[AH.plain,Ah]) rfl (by simp[boxed]) ⟨rfl,rfl,rfl⟩ rfl
   rw[ht]
   simp only[AJ,boxed,←DQ];rfl
  all_goals exact Gc.Cd (hv _) (key _ (by clear hbr;(first|(simp only[BG, *,bs,go_sem];done)|(simp_all[BG];done)|(simp_all[BG];omega)|grind[BG])))
theorem Rb:J5 94 (fun s c=>c.op=11∨c.op=12∨c.op=13) Bg:=by
 intro H K s th c oS oT oA oB fS fT rS rT fA fB rA rB hi hcg hop hS hT hA hB h h'
 have kT:=AL.of hT
 have kS:=AL.of hS
 have kA:=AL.of hA
 have kB:=AL.of hB
 have hl:=II hcg
 have hl1:=hl.1
 clear hl
 obtain⟨op,a,b,x,y,w⟩:=c
 simp only at hA hB h h' hop kA kB hl1
 have key:∀e v n:Int,Bg s th ⟨op,a,b,x,y,w⟩=⟨e,v,n,none⟩→K (.Bj [stA s oS oT fS fT,.agg [.int .i64 e,.int .u64 v,.int .i64 n]]) H:=fun e v n he=>by rw[he]at h;exact h rfl
 have hv:=fun(e v n:Int)=>show(AH.Bj [stA s oS oT fS fT,.agg [.int .i64 e,.int .u64 v,.int .i64 n]]).refs (fun o=>o<H.length) by simp[AH.refs,Ay];exact⟨Am hS,Am hT⟩
 clear h
 have iS:∀L:AP,oS<(H++L).length:=fun L=>by have:=Am hS;rw[Qf];omega
 have iT:∀L:AP,oT<(H++L).length:=fun L=>by have:=Am hT;rw[Qf];omega
 have hroom:(AO s th a).2.2=0→_:=fun h=>Dt (Cx h)
 have hri:(AO s th a).2.2=0→0≤(AO s th a).2.1.ri∧(AO s th a).2.1.ri≤7:=fun h=>by
  have:=CA h;rw[this.2.2.2.1];exact hi.ri (by omega)
 have T4:(AO s th a).2.2=0→_:=fun h=>NY (hri h).1 (hri h).2
 have hr2:(AO s th a).2.2=0→_:=fun h=>MA (hri h).1 (hri h).2
 have hq2:(AO s th a).2.2=0→IntKind.wrap .i64 ((AO s th a).2.1.ri.tdiv 2)=(AO s th a).2.1.ri.tdiv 2:=fun h=>by have:=hri h;rw[Qe (by omega)];exact w64 (by omega) (by omega)
 clear hri
 have hcg1:(AO s th a).2.2=0→Bq (AO s th a).2.1=true:=fun h=>by
  have:=CA h;rw[this.2.2.2.1];exact hi.Ib _ (by omega)
 have hlt0:(AO s th a).2.2=0→0≤(AO s th a).1:=fun h=>(CA h).1
 have hlt1:(AO s th a).2.2=0→(AO s th a).1<((As s).length:Int):=fun h=>by
  have:=CA h;rw[A8];omega
 have hcn1:(AO s th a).2.2=0→E0 (As s) (AO s th a).1=true:=fun h=>by
  have q:=CA h
  rw[D7]
  refine⟨by omega,by rw[A8];omega,?_⟩
  have hz:Aq (s.slot (AO s th a).1.toNat).cap=false:=by rw[←q.2.2.2.1];exact q.2.2.2.2
  rw[EG (by omega)]
  have hu:=hi.up (AO s th a).1.toNat (by omega) hz
  simp only[FE,hz,cond_false]
  omega
 have w2:IntKind.wrap .i64 2=2:=by decide
 rcases hop with rfl|rfl|rfl
 case inr.inr=>
  refine AF.gc ?_
  refine Aa ok94 ?_;(try simp only[c94,w94,BT,AM,AJ,Qb,Bh.cells,hroom,hq2,w2,kS,kT,kA,kB,go_sem]);repeat' ((first|refine orR ?_|(refine sp ?_ ?_<;>intro hc)|refine EX hi (kA _) hl1 (kS _) (kT _) ?_|refine CS ?_ (iS _) (iT _)|refine VV (c:=(AO s th a).2.1) (hcg1 (by assumption)) ?_|refine Pf hi (kS _) ?_|refine VX A8 hi.ok.Ii (hlt0 (by assumption)) (hlt1 (by assumption)) (hcn1 (by assumption)) (by first|exact BH|exact Bb rfl) ?_)<;>try simp only[*,w94,BT,AM,AJ,Qb,Bh.cells,go_sem])
  case' refine_2=>
   have e:Bg s th ⟨13,a,b,x,y,w⟩=⟨0,Hv (AO s th a).2.1,DK (As s) (AO s th a).1,none⟩:=by simp only[Bg,hcg];simp[*]
   exact Gc.Cd (hv _ _ _) (key _ _ _ e)
  exact Gc.Cd (hv _ _ _) (key _ _ _ (by simp only[Bg,hcg,CD.bad];simp[*]))
 all_goals
  have hx:=S2 (by first|exact .inl rfl|exact .inr rfl) hcg
  rcases hx with rfl|rfl|rfl|rfl
 all_goals
  refine AF.gc ?_
  refine Aa ok94 ?_;(try simp only[c94,w94,BT,AM,AJ,Qb,Bh.cells,hroom,hq2,w2,kS,kT,kA,kB,Qc,go_sem]);repeat' ((first|refine orR ?_|(refine sp ?_ ?_<;>intro hc)|refine EX hi (kA _) hl1 (kS _) (kT _) ?_|refine CS ?_ (iS _) (iT _)|refine Fi hi (kS _) (kT _) ?_)<;>try simp only[*,w94,BT,AM,AJ,Qb,Bh.cells,Qc,go_sem])
 all_goals clear hroom
 all_goals try exact Gc.Cd (hv _ _ _) (key _ _ _ (by first|rw[RE hcg]|rw[aq hcg]
                                                     simp[*,CD.bad,Lg]))
 all_goals
  clear key
  rw[RE hcg]at h'
  have h':=h' _ (by simp[*];rfl)
  generalize ht:My (s.AG (AO s th a).2.1.th.toNat) _ w=t at h'
  refine Gc.Jg (s':=boxed s (AO s th a).2.1.th t) (r:=some (boxed s (AO s th a).2.1.th t)) (i:=5) (j:=6) rfl (by rw[←ht];simp only[AJ,boxed,←DQ,My];rfl) (fun s' e=> ?_) (by decide) (by simp[AH.plain,Ah]) rfl (by simp[boxed]) ⟨rfl,rfl,rfl⟩ rfl
  injection e with e
  subst e
  simpa [*,CD.Ap] using h'
end
end Go.Proofs.YtlaipllgmddkiaaGreat.Ax
namespace Go.Proofs.YtlaipllgmddkiaaGreat.Ax
open Go Go.Ax Go.Ax.M
section
variable {H:AP}{K:AH→AP→Prop}{s:State}{oS oT:Nat}{fS fT rS rT:Bool}
theorem bZ{up:List Int}{o:Nat}{f r:Bool}{i:Int}{n:Nat}(hn:up.length=n)(hg:Cm up=true)(hx:E0 up i=true)(ho:H[o]?=some (.AU 1 (ints up) r))
 (h:K (.slice H.length (Jk up i).length 0 (Jk up i).length false) (H++[.AU 1 (ints (Jk up i)) false])):AF Tryz.prog 218 [.slice o n 0 n f,.int .i64 i] H K:=by
 subst hn
 have kO:=AL.of ho
 have hlen:=Lv hg
 have hf:Jk up i=pick (fun k=>decide (up.getD k 0=i)) up.length:=by simp only[Jk,GU,hg,hx,Qu,cond_true,GV]
 rw[hf]at h
 clear hf
 refine AF.gc ?_
 refine Aa ok218 ?_;(try simp only[c218,w218,go_sem]);repeat' ((first|refine orR ?_|(refine sp ?_ ?_<;>intro hc)|fail)<;>try simp only[*,w218,go_sem])
 refine AK.Az [5,6,0,1] ?_;simp only[mpC,go_sem]
 refine AK.lay 1 ?_
 refine AK.acc (fun k G=>[(5,.slice H.length (pick (fun k=>decide (up.getD k 0=i)) k).length 0 (pick (fun k=>decide (up.getD k 0=i)) k).length false),(6,.int .i64 (k:Int))]) (fun k G=>H++ .AU 1 (ints (pick (fun k=>decide (up.getD k 0=i)) k)) false::G) (fun k G=>True) up.length ?_ (a0:=[]) trivial
 intro k G hk _ next
 refine AK.Jn fun W hW=> ?_
 have kO:=kO.ex hW.ex
 have ko:=hW.EQ
 have kO0:=kO.at
 have ko0:=ko.at
 have kos:=ko.set
 have hb:((pick (fun k=>decide (up.getD k 0=i)) k).length+1)* 8≤140737488355328:=by have:=GO (p:=fun k=>decide (up.getD k 0=i)) (k:=k);omega
 refine AK.unfold ?_
 have hw:=AY (k:=k) (by omega)
 have hgk:k<up.length→_:=fun h=>Bt (l:=up) h
 (try simp only[w218,hgk,hw,kos,kO0,ko0,hx,kO,ko,AA b218_2.eq_1,AR,AX,apC,go_sem]);repeat' ((first|refine orR ?_|(refine sp ?_ ?_<;>intro hc)|refine OO rfl hg kO0 ?_)<;>try simp only[*,w218,AA b218_2.eq_1,AR,AX,apC,go_sem])
 case' refine_2=>
  have hk':k=up.length:=by omega
  have hW:W=_:=hW
  subst hk' hW
  exact Gc.slice (i:=0) rfl Ca h
 case' refine_1.refine_1=>have e:=UG (p:=fun k=>decide (up.getD k 0=i)) (k:=k) (decide_eq_true (by assumption))
 case' refine_1.refine_2=>have e:=OL (p:=fun k=>decide (up.getD k 0=i)) (k:=k) (decide_eq_false (by assumption))
 all_goals
  have hW:W=_:=hW
  subst hW
  simp only[e,Dn,GI,go_sem]at next
  (refine AK.Az [5,6,0,1] ?_;simp only[mpC,go_sem];refine next _ (by assumption))
theorem bc{i:Int}(hi:Inv s)(h0:0≤i)(h1:i<s.AE.length)(h2:(s.slot i.toNat).cap.ty=1)(hS:H[oS]?=some (.AU 5 (s.AE.map Slot.cells) rS))(hT:H[oT]?=some (.AU 13 (s.AB.map AN.cells) rT))(h:K (.int .i64 (Df s i)) H):
 AF Tryz.prog 162 [stA s oS oT fS fT,.int .i64 i] H K:=by
 have kS:=AL.of hS
 have kT:=AL.of hT
 have hn:s.B8 i.toNat:=C9 (by rw[h2];decide)
 have DS:=hi.th (i:=i.toNat) (by omega) hn
 have g0:(0≤i)=True:=eq_true h0
 have g1:(i<(s.AE.length:Int))=True:=eq_true h1
 have g2:(i<0)=False:=eq_false (by omega)
 have g3:((s.AE.length:Int)≤i)=False:=eq_false (by omega)
 have t0:(0≤(s.slot i.toNat).cap.th)=True:=eq_true DS.1
 have t1:((s.slot i.toNat).cap.th<(s.AB.length:Int))=True:=eq_true DS.2
 have gs:=A4 (s:=s) (k:=i.toNat) (by omega)
 have gt:=BI (s:=s) (k:=(s.slot i.toNat).cap.th.toNat) (by omega)
 have hx:E0 (As s) i=true:=by
  rw[D7]
  refine⟨h0,by rw[A8];exact h1,?_⟩
  rw[EG (by omega)]
  have hu:=hi.up i.toNat (by omega) hn
  have hn':Aq (s.slot i.toNat).cap=false:=hn
  simp only[FE,hn',cond_false]
  omega
 have hu:Df s i=bif decide (((Jk (As s) i).length:Int)=0)then 0 else(s.AG (s.slot i.toNat).cap.th.toNat).used:=by
  simp only[Df,hi.ok.DR,h2,g2,g3,decide_true,decide_false,QD,Qi,cond_false]
 rw[hu]at h
 clear hu hn DS
 refine AF.tidy ?_
 refine Aa ok162 ?_;(try simp only[c162,w162,kS,kT,g0,g1,g2,g3,t0,t1,gs,gt,h2,go_sem]);repeat' ((first|refine orR ?_|(refine sp ?_ ?_<;>intro hc)|refine B3 hi (kS _) (kT _) ?_|refine Pf hi (kS _) ?_|refine bZ A8 hi.ok.Ii hx (by first|exact BH|exact Bb rfl) ?_)<;>try simp only[*,w162,go_sem])
 all_goals (refine ti h (by first|exact⟨_,rfl⟩|exact⟨[],(Qa _).symm⟩|exact hx|exact hx.app _) ?_;first|(simp only[Qi, *,bs,go_sem];done)|(simp_all[Qi];done)|(simp_all[Qi];omega)|grind[Qi])
set_option maxHeartbeats 1000000 in
theorem Zp:J5 86 (fun _ c=>c.op=1) Be:=by
 intro H K s th c oS oT oA oB fS fT rS rT fA fB rA rB hi hcg hop hS hT hA hB h h'
 have kT:=AL.of hT
 have kS:=AL.of hS
 have kA:=AL.of hA
 have kB:=AL.of hB
 have hl:=II hcg
 have hl1:=hl.1
 have hl2:=hl.2
 clear hl
 have key:∀e,Be s th c= .bad e→K (.Bj [stA s oS oT fS fT,.agg [.int .i64 e,.int .u64 0,.int .i64 0]]) H:=fun e he=>by rw[he]at h;exact h rfl
 have hv:=fun e=>show(AH.Bj [stA s oS oT fS fT,.agg [.int .i64 e,.int .u64 0,.int .i64 0]]).refs (fun o=>o<H.length) by simp[AH.refs,Ay];exact⟨Am hS,Am hT⟩
 clear h
 have iS:∀L:AP,oS<(H++L).length:=fun L=>by have:=Am hS;rw[Qf];omega
 have iT:∀L:AP,oT<(H++L).length:=fun L=>by have:=Am hT;rw[Qf];omega
 have hroom:(AO s th c.a).2.2=0→_:=fun h=>Dt (Cx h)
 have hri:(AO s th c.a).2.2=0→0≤(AO s th c.a).2.1.ri∧(AO s th c.a).2.1.ri≤7:=fun h=>by
  have:=CA h;rw[this.2.2.2.1];exact hi.ri (by omega)
 have hr2:(AO s th c.a).2.2=0→_:=fun h=>MA (hri h).1 (hri h).2
 have hq2:(AO s th c.a).2.2=0→IntKind.wrap .i64 ((AO s th c.a).2.1.ri.tdiv 2)=(AO s th c.a).2.1.ri.tdiv 2:=fun h=>by have:=hri h;rw[Qe (by omega)];exact w64 (by omega) (by omega)
 clear hri
 have w2:IntKind.wrap .i64 2=2:=by decide
 have hwu:(AO s th c.a).2.2=0→(AO s th c.a).2.1.ty=1→IntKind.wrap .i64 (Df s (AO s th c.a).1+(CE c.x c.y).1)=Df s (AO s th c.a).1+(CE c.x c.y).1:=fun h1 h2=>by
  obtain⟨i1,i2,i3,i4,i5,i6⟩:=Ek h1
  have:=R6 i1 i2 i3 (by rw[←i4];exact h2)
  have:=Vr (k:=c.x) (n:=c.y)
  exact w64 (by omega) (by omega)
 have KC:¬CU s<0→(0≤CU s)=True∧(CU s<(s.AB.length:Int))=True:=fun h=>by
  have:=Lc (s:=s) (by omega)
  exact⟨eq_true (by omega),eq_true (by omega)⟩
 have u0:(AO s th c.a).2.2=0→_:=fun h=>(CA h).1
 have u1:(AO s th c.a).2.2=0→_:=fun h=>(CA h).2.1
 have u2:(AO s th c.a).2.2=0→(AO s th c.a).2.1.ty=1→(s.slot (AO s th c.a).1.toNat).cap.ty=1:=fun h h1=>by rw[←(CA h).2.2.2.1];exact h1
 refine AF.gc ?_
 refine Aa ok86 ?_;(try simp only[c86,w86,BT,AM,AJ,Qb,Bh.cells,AN.cells,hop,hroom,hwu,KC,hq2,w2,kS,kT,kA,kB,Qc,go_sem]);repeat' ((first|refine orR ?_|(refine sp ?_ ?_<;>intro hc)|refine EX hi (kA _) hl1 (kS _) (kT _) ?_|refine Jt hi (kB _) hl2 (kS _) (kT _) ?_|refine CS ?_ (iS _) (iT _)|refine VW ?_|refine bc hi (u0 (by assumption)) (u1 (by assumption)) (u2 (by assumption) (by assumption)) (kS _) (kT _) ?_|refine si hi (kT _) ?_|refine dL hi (kT _) ?_)<;>try simp only[*,w86,BT,AM,AJ,Qb,Bh.cells,AN.cells,Qc,go_sem])
 all_goals try exact Gc.Cd (hv _) (key _ (by(first|(simp only[Be,Dc,Bs, *,bs,go_sem];done)|(simp_all[Be,Dc,Bs];done)|(simp_all[Be,Dc,Bs];omega)|grind[Be,Dc,Bs])))
 all_goals
  have he:∃b,Be s th c=⟨0,0,CU s,some (Fq s c (AO s th c.a).1 (Ak s th c.b).1 (Df s (AO s th c.a).1+(CE c.x c.y).1) (CU s) b (AO s th c.a).2.1)⟩∧b=(Bs c s).1:=⟨_,by clear h' key hv;(first|(simp only[Be,Dc,Bs, *,bs,go_sem];done)|(simp_all[Be,Dc,Bs];done)|(simp_all[Be,Dc,Bs];omega)|grind[Be,Dc,Bs]),rfl⟩
  clear key hv
  obtain⟨bs,he,hbs⟩:=he
  have h':=h' _ (by rw[he])
  rw[he]at h'
  simp only[CD.Ap]at h'
  obtain⟨y,hy⟩:∃y,Hid (y=Fq s c (AO s th c.a).1 (Ak s th c.b).1 (Df s (AO s th c.a).1+(CE c.x c.y).1) (CU s) bs (AO s th c.a).2.1):=NQ _
  have hy':y=_:=hy
  rw[←hy']at h'
  obtain⟨i1,i2,i3,i4,i5,i6⟩:=Ek (s:=s) (th:=th) (p:=c.a) (by assumption)
  obtain⟨-,j2,j3,j4,j5,j6⟩:=EC (s:=s) (th:=th) (p:=c.b) (by assumption)
  have ET:=UP (s:=s) j2 j3
  have hsf:=Lc (s:=s) (by omega)
  have hrt:=Cx (s:=s) (th:=th) (p:=c.a) (by assumption)
  rw[DP]at hrt
  have T4:(s.AG (AO s th c.a).2.1.th.toNat).ty=1:=by
   have:=(i1.E8 _ (by omega) i5).2
   rw[←i4]at this;rw[this];assumption
  have hne:(CU s).toNat≠(AO s th c.a).2.1.th.toNat:=by intro e;rw[e]at hsf;omega
  have hgn:=BI (s:=s) hsf.1
  have hgr:∀X,((s.AB.map AN.cells).set (CU s).toNat X)[(AO s th c.a).2.1.th.toNat]?=some (s.AG (AO s th c.a).2.1.th.toNat).cells:=fun X=>by
   rw[Qn hne];exact BI (by omega)
  have hgood:=i1.ok.DR
  have hct:=aS (s:=s) (T:=(HH c.x c.y bs).1) (used:=Df s (AO s th c.a).1+(CE c.x c.y).1) (show(AO s th c.a).2.1.th.toNat<s.AB.length by omega) hne
  have hyS:y.AE.length=s.AE.length:=by rw[hy'];simp[Fq]
  have hyT:y.AB.length=s.AB.length:=by rw[hy'];simp[Fq]
  have hyg:y.AS=s.AS:=by rw[hy'];rfl
  have hy1:y.AE.map Slot.cells=(s.AE.map Slot.cells).set (Ak s th c.b).1.toNat [.int .i64 c.x,.int .i64 (CU s),.int .i64 7,.int .i64 0,.int .i64 (AO s th c.a).1]:=by rw[hy'];simp only[Fq,←Jx];rfl
  have hy2:=(hct.trans (show _=y.AB.map AN.cells by rw[hy'];rfl)).symm
  have hyh:=And.intro hy1 hy2
  have hyh:Hid _:=hyh
  have hyl:=And.intro hyS (And.intro hyT hyg)
  have hyl:Hid _:=hyl
  clear hct hy' hy1 hy2 hyS hyT hyg he i1 i2 i3 i4 i5 i6 j2 j3 j4 j5 j6 hsf hrt T4
 all_goals
  (try simp only[w86,BT,AM,AJ,Qb,Bh.cells,AN.cells,hop,hroom,hwu,KC,ET,hgn,hgr,Qc,go_sem]);repeat' ((first|refine orR ?_|(refine sp ?_ ?_<;>intro hc)|refine Fi hi (kS _) (kT _) ?_|refine UI ?_)<;>try simp only[*,w86,BT,AM,AJ,Qb,Bh.cells,AN.cells,Qc,go_sem])
  obtain⟨hy1,hy2⟩:=hyh
  obtain⟨hyS,hyT,hyg⟩:=hyl
  first
   |(have hx:c.x=2:=by assumption
     simp only[hbs,Bs,hx,AN.cells,decide_true,cond_true]at hy1 hy2
     rw[←hyS,←hyT,←hyg]
     refine Gc.stateT (s:=y) (i:=5) (j:=6) ?_ ?_ (by decide) (by simp[AH.plain,Ah]) h'
     ·simp only[AM];rw[hy1];rfl
     ·simp only[AJ];rw[hy2];rfl)
   |(have hx:¬c.x=2:=by assumption
     simp only[hbs,Bs,hx,AN.cells,decide_false,cond_false]at hy1 hy2
     rw[←hyS,←hyT,←hyg]
     refine Gc.stateT (s:=y) (i:=5) (j:=6) ?_ ?_ (by decide) (by simp[AH.plain,Ah]) h'
     ·simp only[AM];rw[hy1];rfl
     ·simp only[AJ];rw[hy2];rfl)
end
end Go.Proofs.YtlaipllgmddkiaaGreat.Ax
namespace Go.Ax.M
open Go Go.Ax
def Hz(s:State)(fr to k:Nat):Slot:=if k=fr then⟨.zero,-1⟩else if k=to then s.slot fr else s.slot k
def Ix(s:State)(fr to k:Nat):List Slot:=(Qm s.AE.length).map fun i=>if i<k then(B9 s fr to).slot i else Hz s fr to i
theorem G9{s:State}{fr to k:Nat}:(Ix s fr to k).length=s.AE.length:=by simp[Ix]
theorem IN{s:State}{fr to k i:Nat}(hi:i<s.AE.length):(Ix s fr to k)[i]?=some (if i<k then(B9 s fr to).slot i else Hz s fr to i):=by simp[Ix,hi]
theorem TN {s:State}{i:Nat}(hi:i<s.AE.length):s.AE[i]?=some (s.slot i):=by simp[State.slot,QB,hi]
theorem Wp{s:State}{fr to:Nat}(hf:fr<s.AE.length)(ht:to<s.AE.length):(s.AE.set to (s.slot fr)).set fr ⟨.zero,-1⟩=Ix s fr to 0:=by
 apply Qz
 intro i
 by_cases hi:i<s.AE.length
 ·rw[IN hi,if_neg (by omega),Hz]
  by_cases e:i=fr
  ·subst e;rw[if_pos rfl,Qr (by rw[Qc];exact hi)]
  ·rw[if_neg e,Qn (Ne.symm e)]
   by_cases e2:i=to
   ·subst e2;rw[if_pos rfl,Qr hi]
   ·rw[if_neg e2,Qn (Ne.symm e2),TN hi]
 ·rw[Qj (by rw[Qc,Qc];omega),Qj (by rw[G9];omega)]
theorem Zl{s:State}{fr to:Nat}:Ix s fr to s.AE.length=(B9 s fr to).AE:=by
 apply Qz
 intro i
 by_cases hi:i<s.AE.length
 ·rw[IN hi,if_pos hi,TN (by rw[Cb];exact hi)]
 ·rw[Qj (by rw[G9];omega),Qj (by rw[Cb];omega)]
theorem Wo{s:State}{fr to k:Nat}(m:GF s fr to)(hk:k<s.AE.length):
 Ix s fr to (k+1)=if ¬(Hz s fr to k).cap.ty=0∧(Hz s fr to k).up=fr then(Ix s fr to k).set k ⟨(Hz s fr to k).cap,to⟩else Ix s fr to k:=by
 have hs:=m.slot hk
 have hu:=m.oM
 have key:(B9 s fr to).slot k=if ¬(Hz s fr to k).cap.ty=0∧(Hz s fr to k).up=fr then⟨(Hz s fr to k).cap,to⟩else Hz s fr to k:=by
  rw[hs,Hz]
  by_cases e:k=fr
  ·simp[e,Bh.zero]
  ·by_cases e2:k=to
   ·rw[if_neg e,if_neg e,if_pos e2,if_pos e2,if_neg (fun h=>hu h.2)]
   ·rw[if_neg e,if_neg e,if_neg e2,if_neg e2]
    by_cases h3:(s.slot k).up=(fr:Int)
    ·rw[if_pos h3]
     by_cases h4:(s.slot k).cap.ty=0
     ·have hz:Aq (s.slot k).cap=true:=by
       have:=m.inv.Ib k hk
       simp only[Bq,Ql,Qg,BX]at this
       rcases this with a|a
       ·exact a
       ·omega
      have:=m.inv.SX k hk hz
      omega
     ·rw[if_pos ⟨h4,h3⟩]
    ·rw[if_neg h3,if_neg (fun h=>h3 h.2)]
 have hset:∀x:Slot,(B9 s fr to).slot k=x→Ix s fr to (k+1)=(Ix s fr to k).set k x:=by
  intro x hx
  apply Qz
  intro i
  by_cases hi:i<s.AE.length
  ·rw[IN hi]
   by_cases e:i=k
   ·subst e;rw[if_pos (by omega),Qr (by rw[G9];exact hi),hx]
   ·rw[Qn (Ne.symm e),IN hi]
    by_cases e2:i<k
    ·rw[if_pos e2,if_pos (by omega)]
    ·rw[if_neg e2,if_neg (by omega)]
  ·rw[Qj (by rw[G9];omega),Qj (by rw[Qc,G9];omega)]
 split
 ·rename_i h
  rw[if_pos h]at key
  exact hset _ key
 ·rename_i h
  rw[if_neg h]at key
  rw[hset _ key]
  apply Qz
  intro i
  by_cases e:i=k
  ·subst e;rw[Qr (by rw[G9];exact hk),IN hk,if_neg (by omega)]
  ·rw[Qn (Ne.symm e)]
theorem Yu:∀x y:Fin 8,IntKind.wrap .i64 ((Qh (IntKind.bits .i64) (IntKind.wrap .i64 ((Qh (IntKind.bits .i64) (x.val:Int)&&&Qh (IntKind.bits .i64) (y.val:Int)).toNat))&&&Qh (IntKind.bits .i64) (y.val:Int)).toNat)=
 IntKind.wrap .i64 ((Qh (IntKind.bits .i64) (x.val:Int)&&&Qh (IntKind.bits .i64) (y.val:Int)).toNat):=by decide+kernel
theorem Wm(a b:Int):D3 (D3 a b) b=D3 a b:=by
 have hin:=RV a b
 have e:I8 (D3 a b)=D3 a b:=by simp only[I8,C2,BX.2 hin,cond_true]
 obtain⟨x,hx⟩:=KP a
 obtain⟨y,hy⟩:=KP b
 rw[D3.eq_1 (D3 a b) b,e,hy]
 simp only[D3,hx,hy]
 exact Yu x y
theorem Oe{c:Bh}(h:Bq c=true)(hn:Aq c=false):Bv c.ty 1 5=true∧Bv c.th 0 47=true∧C2 c.ri=true∧DO c.ba=true∧(c.ba=0∨Db c.ty=true):=by
 simp only[Bq,hn,QY,Qg,Ql,decide_eq_true_eq]at h
 exact h
theorem Uo{c:Bh}(h1:Bv c.ty 1 5=true)(h2:Bv c.th 0 47=true)(h3:C2 c.ri=true)(h4:DO c.ba=true)(h5:c.ba=0∨Db c.ty=true):Bq c=true∧Aq c=false:=by
 constructor
 ·simp only[Bq,h1,h2,h3,h4,QC,Ql,decide_eq_true_eq];exact .inr h5
 ·have:=BX.1 h1
  simp only[Aq,show ¬c.ty=0 by omega,decide_false,Qq]
theorem JE{c:Bh}{x:Int}(h:Bq c=true)(hn:Aq c=false):ES c x={c with ri:=D3 c.ri x}∧Bq (ES c x)=true∧Aq (ES c x)=false:=by
 obtain⟨h1,h2,h3,h4,h5⟩:=Oe h hn
 have e:ES c x={c with ri:=D3 c.ri x}:=by simp only[ES,h,cond_true]
 have:=Uo (c:={c with ri:=D3 c.ri x}) h1 h2 (by simp only[C2,BX];exact RV _ _) h4 h5
 rw[e];exact⟨rfl,this.1,this.2⟩
theorem N3{c:Bh}{b:Int}(h:Bq c=true)(hn:Aq c=false)(he:(CK c b).2=0):(CK c b).1={c with ba:=b}∧Bq (CK c b).1=true∧Aq (CK c b).1=false:=by
 obtain⟨h1,h2,h3,h4,h5⟩:=Oe h hn
 rw[Pt]at he ⊢
 rw[h]at he ⊢
 simp only[QD,QY]at he ⊢
 cases e1:(decide (b<1)||decide (65535<b))with
 |true=>rw[e1]at he;simp at he
 |false=>
  rw[e1]at he
  simp only[cond_false]at he ⊢
  cases e2:(!decide (c.ty=3)&&!decide (c.ty=4))with
  |true=>rw[e2]at he;simp at he
  |false=>
   rw[e2]at he
   simp only[cond_false]at he ⊢
   cases e3:decide (c.ba≠0)with
   |true=>rw[e3]at he;simp at he
   |false=>
    simp only[cond_false]
    simp at e1 e2
    have:=Uo (c:={c with ba:=b}) h1 h2 h3 (by simp only[DO,BX];omega) (.inr (by simp only[Db,Ql,decide_eq_true_eq];omega))
    exact⟨trivial,this.1,this.2⟩
theorem Z0{c:Bh}{x b:Int}(h:Bq c=true)(hn:Aq c=false)(he:(CK (ES c x) b).2=0):ES (CK (ES c x) b).1 x=(CK (ES c x) b).1:=by
 obtain⟨e1,g1,n1⟩:=JE (x:=x) h hn
 obtain⟨e2,g2,n2⟩:=N3 g1 n1 he
 rw[(JE g2 n2).1,e2,e1]
 simp only[Wm]
end Go.Ax.M
namespace Go.Proofs.YtlaipllgmddkiaaGreat.Ax
open Go Go.Ax Go.Ax.M
section
variable {H:AP}{K:AH→AP→Prop}{s:State}{oS oT:Nat}{fS fT rS rT:Bool}
section
variable {x0 x1 x2 x3 n:Int}
end
theorem Zm{c:Bh}{x:Int}(e:ES c x=c)(h:K (.agg c.cells) H):AF Tryz.prog 168 [.agg c.cells,.int .i64 x] H K:=Pe (by rw[e];exact h)
theorem RZ:J5 87 (fun _ c=>c.op=2∨c.op=3) A5:=by
 intro H K s th c oS oT oA oB fS fT rS rT fA fB rA rB hi hcg hop hS hT hA hB h h'
 have kT:=AL.of hT
 have kS:=AL.of hS
 have kA:=AL.of hA
 have kB:=AL.of hB
 have hl:=II hcg
 have hl1:=hl.1
 have hl2:=hl.2
 clear hl
 have key:∀e,A5 s th c= .bad e→K (.Bj [stA s oS oT fS fT,.agg [.int .i64 e,.int .u64 0,.int .i64 0]]) H:=fun e he=>by rw[he]at h;exact h rfl
 have hv:=fun e=>show(AH.Bj [stA s oS oT fS fT,.agg [.int .i64 e,.int .u64 0,.int .i64 0]]).refs (fun o=>o<H.length) by simp[AH.refs,Ay];exact⟨Am hS,Am hT⟩
 clear h
 have iS:∀L:AP,oS<(H++L).length:=fun L=>by have:=Am hS;rw[Qf];omega
 have iT:∀L:AP,oT<(H++L).length:=fun L=>by have:=Am hT;rw[Qf];omega
 have u0:(AO s th c.a).2.2=0→_:=fun h=>(CA h).1
 have u1:(AO s th c.a).2.2=0→_:=fun h=>(CA h).2.1
 have cg:(AO s th c.a).2.2=0→Bq (AO s th c.a).2.1=true∧Aq (AO s th c.a).2.1=false:=fun h=>by
  have:=CA h;rw[this.2.2.2.1];exact⟨hi.Ib _ (by omega),by rw[←this.2.2.2.1];exact this.2.2.2.2⟩
 rcases hop with hop|hop
 ·refine AF.gc ?_
  refine Aa ok87 ?_;(try simp only[c87,w87,BT,AM,AJ,Qb,Bh.cells,hop,kS,kT,kA,kB,F1,D0,DX,go_sem]);repeat' ((first|refine orR ?_|(refine sp ?_ ?_<;>intro hc)|refine EX hi (kA _) hl1 (kS _) (kT _) ?_|refine Jt hi (kB _) hl2 (kS _) (kT _) ?_|refine CS ?_ (iS _) (iT _)|refine Pe (c:=(AO s th c.a).2.1) ?_|refine UK hi (u0 (by assumption)) (u1 (by assumption)) (CZ (by assumption)).1 (CZ (by assumption)).2.1 (CZ (by assumption)).2.2.1 (JE (cg (by assumption)).1 (cg (by assumption)).2).2.1 (JE (cg (by assumption)).1 (cg (by assumption)).2).2.2 (kS _) (kT _) (fun hc=> ?_) (fun hc=> ?_))<;>try simp only[*,w87,BT,AM,AJ,Qb,Bh.cells,F1,D0,DX,go_sem])
  case' inl.refine_2.refine_2.refine_2=>
   obtain⟨u,hu⟩:∃u,u=CW s (AO s th c.a).1 (Ak s th c.b).1 (ES (AO s th c.a).2.1 c.x):=⟨_,rfl⟩
   have e:A5 s th c=⟨0,0,0,some u⟩:=by rw[hu];clear h' key;(first|(simp only[A5,Bo,B4, *,bs,go_sem];done)|(simp_all[A5,Bo,B4];done)|(simp_all[A5,Bo,B4];omega)|grind[A5,Bo,B4])
   rw[e]at h'
   have h':=h' _ rfl
   exact Gc.Jg (s':=u) (i:=6) (j:=7) (by rw[hu];rfl) (by rw[hu];rfl) (fun s' e=>by injection e with e;subst e;exact h') (by decide) (by simp[AH.plain,Ah]) (by rw[hu];exact D0.symm) (by rw[hu];rfl) (by rw[hu];exact⟨rfl,rfl,rfl⟩) rfl
  all_goals exact Gc.Cd (hv _) (key _ (by(first|(simp only[A5,Bo,B4, *,bs,go_sem];done)|(simp_all[A5,Bo,B4];done)|(simp_all[A5,Bo,B4];omega)|grind[A5,Bo,B4])))
 ·refine AF.gc ?_
  refine Aa ok87 ?_;(try simp only[c87,w87,BT,AM,AJ,Qb,Bh.cells,hop,kS,kT,kA,kB,F1,D0,DX,go_sem]);repeat' ((first|refine orR ?_|(refine sp ?_ ?_<;>intro hc)|refine EX hi (kA _) hl1 (kS _) (kT _) ?_|refine Jt hi (kB _) hl2 (kS _) (kT _) ?_|refine CS ?_ (iS _) (iT _)|refine Pe (c:=(AO s th c.a).2.1) ?_|refine TG (c:=ES (AO s th c.a).2.1 c.x) ?_|refine Zm (c:=(CK (ES (AO s th c.a).2.1 c.x) c.y).1) (Z0 (cg (by assumption)).1 (cg (by assumption)).2 (by assumption)) ?_|refine UK hi (u0 (by assumption)) (u1 (by assumption)) (CZ (by assumption)).1 (CZ (by assumption)).2.1 (CZ (by assumption)).2.2.1 (N3 (JE (cg (by assumption)).1 (cg (by assumption)).2).2.1 (JE (cg (by assumption)).1 (cg (by assumption)).2).2.2 (by assumption)).2.1 (N3 (JE (cg (by assumption)).1 (cg (by assumption)).2).2.1 (JE (cg (by assumption)).1 (cg (by assumption)).2).2.2 (by assumption)).2.2 (kS _) (kT _) (fun hc=> ?_) (fun hc=> ?_))<;>try simp only[*,w87,BT,AM,AJ,Qb,Bh.cells,F1,D0,DX,go_sem])
  case' inr.refine_2.refine_2.refine_2.refine_2=>
   obtain⟨u,hu⟩:∃u,u=CW s (AO s th c.a).1 (Ak s th c.b).1 ((CK (ES (AO s th c.a).2.1 c.x) c.y).1):=⟨_,rfl⟩
   have e:A5 s th c=⟨0,0,0,some u⟩:=by rw[hu];clear h' key;(first|(simp only[A5,Bo,B4, *,bs,go_sem];done)|(simp_all[A5,Bo,B4];done)|(simp_all[A5,Bo,B4];omega)|grind[A5,Bo,B4])
   rw[e]at h'
   have h':=h' _ rfl
   exact Gc.Jg (s':=u) (i:=6) (j:=7) (by rw[hu];rfl) (by rw[hu];rfl) (fun s' e=>by injection e with e;subst e;exact h') (by decide) (by simp[AH.plain,Ah]) (by rw[hu];exact D0.symm) (by rw[hu];rfl) (by rw[hu];exact⟨rfl,rfl,rfl⟩) rfl
  all_goals exact Gc.Cd (hv _) (key _ (by(first|(simp only[A5,Bo,B4, *,bs,go_sem];done)|(simp_all[A5,Bo,B4];done)|(simp_all[A5,Bo,B4];omega)|grind[A5,Bo,B4])))
set_option maxHeartbeats 1000000 in
theorem Zo:J5 87 (fun _ c=>c.op=4) A5:=by
 intro H K s th c oS oT oA oB fS fT rS rT fA fB rA rB hi hcg hop hS hT hA hB h h'
 have kT:=AL.of hT
 have kS:=AL.of hS
 have kA:=AL.of hA
 have kB:=AL.of hB
 have hl:=II hcg
 have hl1:=hl.1
 have hl2:=hl.2
 clear hl
 have key:∀e,A5 s th c= .bad e→K (.Bj [stA s oS oT fS fT,.agg [.int .i64 e,.int .u64 0,.int .i64 0]]) H:=fun e he=>by rw[he]at h;exact h rfl
 have hv:=fun e=>show(AH.Bj [stA s oS oT fS fT,.agg [.int .i64 e,.int .u64 0,.int .i64 0]]).refs (fun o=>o<H.length) by simp[AH.refs,Ay];exact⟨Am hS,Am hT⟩
 clear h
 have iS:∀L:AP,oS<(H++L).length:=fun L=>by have:=Am hS;rw[Qf];omega
 have iT:∀L:AP,oT<(H++L).length:=fun L=>by have:=Am hT;rw[Qf];omega
 have u0:(AO s th c.a).2.2=0→_:=fun h=>(CA h).1
 have u1:(AO s th c.a).2.2=0→_:=fun h=>(CA h).2.1
 have cg:(AO s th c.a).2.2=0→Bq (AO s th c.a).2.1=true∧Aq (AO s th c.a).2.1=false:=fun h=>by
  have:=CA h;rw[this.2.2.2.1];exact⟨hi.Ib _ (by omega),by rw[←this.2.2.2.1];exact this.2.2.2.2⟩
 have b0:(AO s th c.a).2.2=0→(0≤(AO s th c.a).1)=True∧((AO s th c.a).1<(s.AE.length:Int))=True:=fun h=>⟨eq_true (CA h).1,eq_true (CA h).2.1⟩
 have b1:(Ak s th c.b).2=0→(0≤(Ak s th c.b).1)=True∧((Ak s th c.b).1<(s.AE.length:Int))=True:=fun h=>⟨eq_true (CZ h).1,eq_true (CZ h).2.1⟩
 have gF:(AO s th c.a).2.2=0→_:=fun h=>A4 (s:=s) (k:=(AO s th c.a).1.toNat) (by have:=CA h;omega)
 have gE:(Ak s th c.b).2=0→_:=fun h=>A4 (s:=s) (k:=(Ak s th c.b).1.toNat) (by have:=CZ h;omega)
 have hne:(AO s th c.a).2.2=0→(Ak s th c.b).2=0→(Ak s th c.b).1.toNat≠(AO s th c.a).1.toNat:=fun h1 h2 e=>by
  have q:=CA h1
  have r:=CZ h2
  have q1:=q.2.2.2.2
  rw[q.2.2.2.1,←e,r.2.2.2]at q1;cases q1
 have gF2:(AO s th c.a).2.2=0→(Ak s th c.b).2=0→∀X,((s.AE.map Slot.cells).set (Ak s th c.b).1.toNat X)[(AO s th c.a).1.toNat]?=some [.int .i64 (s.slot (AO s th c.a).1.toNat).cap.ty,.int .i64 (s.slot (AO s th c.a).1.toNat).cap.th,.int .i64 (s.slot (AO s th c.a).1.toNat).cap.ri,.int .i64 (s.slot (AO s th c.a).1.toNat).cap.ba,.int .i64 (s.slot (AO s th c.a).1.toNat).up]:=fun h1 h2 X=>by
  rw[Qn (hne h1 h2)];exact A4 (by have:=CA h1;omega)
 have hrm:(Ak s th c.b).2=0→∀x:Bh,FC s x (Ak s th c.b).1=(decide (x.ty=2)&&Ch s x.th (Ak s th c.b).1):=fun h x=>by
  have q:=CZ h
  simp[FC,Et,hi.ok.DR,q.1,q.2.1]
 refine AF.gc ?_
 refine Aa ok87 ?_;(try simp only[c87,w87,BT,AM,AJ,Qb,Bh.cells,hop,kS,kT,kA,kB,b0,b1,gF,gE,gF2,Qc,go_sem]);repeat' ((first|refine orR ?_|(refine sp ?_ ?_<;>intro hc)|refine EX hi (kA _) hl1 (kS _) (kT _) ?_|refine Jt hi (kB _) hl2 (kS _) (kT _) ?_|refine CS ?_ (iS _) (iT _)|refine Ra hi (kS _) (kT _) ?_|refine Fi hi (kS _) (kT _) ?_)<;>try simp only[*,w87,BT,AM,AJ,Qb,Bh.cells,gF,Qc,go_sem])
 case' refine_1|refine_2.refine_1|refine_2.refine_2.refine_1.refine_1=>exact Gc.Cd (hv _) (key _ (by clear gF gE gF2 hne b0 b1 u0 u1 cg;first|((first|(simp only[A5,Bo,B4, *,bs,go_sem];done)|(simp_all[A5,Bo,B4];done)|(simp_all[A5,Bo,B4];omega)|grind[A5,Bo,B4]))|(have e:=hrm (by assumption) (AO s th c.a).2.1;(first|(simp only[A5,Bo,B4, *,bs,go_sem];done)|(simp_all[A5,Bo,B4];done)|(simp_all[A5,Bo,B4];omega)|grind[A5,Bo,B4]))))
 all_goals
  have h1:(AO s th c.a).2.2=0:=by assumption
  have h2:(Ak s th c.b).2=0:=by assumption
  have hrf:FC s (AO s th c.a).2.1 (Ak s th c.b).1=false:=by rw[hrm h2];simp[*]
  have m:=LL h1 h2 hrf
  have e:A5 s th c=⟨0,0,0,some (B9 s (AO s th c.a).1 (Ak s th c.b).1)⟩:=by clear gF gE gF2 hne b0 b1 u0 u1 cg h' key hrm m;(first|(simp only[A5,Bo,B4, *,bs,go_sem];done)|(simp_all[A5,Bo,B4];done)|(simp_all[A5,Bo,B4];omega)|grind[A5,Bo,B4])
  rw[e]at h'
  have h':=h' _ rfl
  have f0:=(CA h1).1
  have t0:=(CZ h2).1
  clear e key cg u0 u1 b0 b1 gF gE gF2 hne hrm hrf
  generalize (AO s th c.a).1=F at*
  generalize (Ak s th c.b).1=T at*
  obtain⟨fr,rfl⟩:∃n:Nat,F=n:=⟨F.toNat,by omega⟩
  obtain⟨to,rfl⟩:∃n:Nat,T=n:=⟨T.toNat,by omega⟩
  simp only[Qd]at m
  have hf:=m.hf
  have ht:=m.ht
  refine AK.heap (H':=H++_::_::_::_::_:: .AU 5 ((Ix s fr to 0).map Slot.cells) false:: .AU 13 (s.AB.map AN.cells) false::[_]) (by rw[←Wp hf ht,QR,QR];rfl) ?_
  refine AK.Az [15,6,7,8,11,14] ?_;simp only[mpC,go_sem]
  refine AK.acc (fun k (_:Unit)=>[(15,.int .i64 (k:Int))]) (fun k _=>H++_::_::_::_::_:: .AU 5 ((Ix s fr to k).map Slot.cells) false:: .AU 13 (s.AB.map AN.cells) false::[_]) (fun k _=>True) s.AE.length ?_ (a0:=()) trivial
  rintro k-hk-next
  refine AK.unfold ?_
  have hlS:s.AE.length≤96:=by have:=hi.ok.lS;omega
  have hw:=AY (k:=k) (by omega)
  have hgp:k<s.AE.length→((Ix s fr to k).map Slot.cells)[k]?=some [.int .i64 (Hz s fr to k).cap.ty,.int .i64 (Hz s fr to k).cap.th,.int .i64 (Hz s fr to k).cap.ri,.int .i64 (Hz s fr to k).cap.ba,.int .i64 (Hz s fr to k).up]:=fun h=>by
   rw[List.getElem?_map,IN h,if_neg (by omega)];rfl
  have hmp:(Ix s fr to k).length=s.AE.length:=G9
  have hsu:k<s.AE.length→_:=fun h=>Wo (k:=k) m h
  clear hlS
  (try simp only[w87,hw,hgp,hmp,AA b87_10.eq_1,AR,AX,BT,AM,AJ,Qb,Qc,apC,go_sem]);repeat' ((first|refine orR ?_|(refine sp ?_ ?_<;>intro hc)|fail)<;>try simp only[*,w87,AA b87_10.eq_1,AR,AX,BT,AM,AJ,Qb,Qc,apC,go_sem])
  ·have hk2:k<s.AE.length:=by assumption
   have e:=(hsu hk2).trans (if_pos ⟨by assumption,by assumption⟩)
   rw[e]at next
   simp only[QR,Slot.cells]at next
   (refine AK.Az [15,6,7,8,11,14] ?_;simp only[mpC,go_sem];refine next () hk2 trivial)
  ·have hk2:k<s.AE.length:=by assumption
   have e:=(hsu hk2).trans (if_neg fun q=>absurd q.2 (by assumption))
   rw[e]at next
   (refine AK.Az [15,6,7,8,11,14] ?_;simp only[mpC,go_sem];refine next () hk2 trivial)
  ·have hk2:k<s.AE.length:=by assumption
   have e:=(hsu hk2).trans (if_neg fun q=>absurd (by assumption) q.1)
   rw[e]at next
   (refine AK.Az [15,6,7,8,11,14] ?_;simp only[mpC,go_sem];refine next () hk2 trivial)
  ·have hk2:k=s.AE.length:=by omega
   subst hk2
   rw[Zl]
   have hml:(B9 s fr to).AE.length=s.AE.length:=Cb
   refine AK.heap (H':=H++_::_::_::_::_::_:: .AU 13 ((ER s fr to 0).map AN.cells) false::[_]) (by rw[Rx]) ?_
   clear next hw hgp hmp hsu
   have hlS:s.AE.length≤96:=by have:=hi.ok.lS;omega
   have hlT:s.AB.length≤96:=by have:=hi.ok.lT;omega
   refine AK.Az [16,6,7,8,11,14] ?_;simp only[mpC,go_sem]
   refine AK.acc (fun k (_:Unit)=>[(16,.int .i64 (k:Int))]) (fun k _=>H++_::_::_::_::_::_:: .AU 13 ((ER s fr to k).map AN.cells) false::[_]) (fun k _=>True) s.AB.length ?_ (a0:=()) trivial
   rintro k-hk-next
   refine AK.unfold ?_
   have hw:=AY (k:=k) (by omega)
   have hw1:=AY (k:=fr) (by omega)
   have hw2:=AY (k:=to) (by omega)
   have hgp:k<s.AB.length→_:=fun h=>TR (s:=s) (fr:=fr) (to:=to) (k:=k) h
   have hmp:(ER s fr to k).length=s.AB.length:=TS
   clear hlS hlT
   (try simp only[w87,hw,hw1,hw2,hgp,hmp,hml,AA b87_13.eq_1,AR,AX,BT,AM,AJ,Qb,Qc,apC,go_sem]);repeat' ((first|refine orR ?_|(refine sp ?_ ?_<;>intro hc)|fail)<;>try simp only[*,w87,AA b87_13.eq_1,AR,AX,BT,AM,AJ,Qb,Qc,apC,go_sem])
   ·have hk:k<s.AB.length:=by assumption
    have hn:(s.AG k).from_=((fr+1:Nat):Int):=by assumption
    rw[show((to+1:Nat):Int)=(to:Int)+1 from rfl,TT hk (by omega)]
    (refine AK.Az [16,6,7,8,11,14] ?_;simp only[mpC,go_sem];refine next () hk trivial)
   ·have hk:k<s.AB.length:=by assumption
    have hn:¬(s.AG k).from_=((fr+1:Nat):Int):=by assumption
    rw[←Rv (fr:=fr) (to:=to) hk (by omega)]
    (refine AK.Az [16,6,7,8,11,14] ?_;simp only[mpC,go_sem];refine next () hk trivial)
   ·have hk:k=s.AB.length:=by omega
    subst hk
    rw[TQ]
    exact Gc.Jg (s':=B9 s fr to) (i:=5) (j:=6) rfl rfl (fun s' e=>by injection e with e;subst e;exact h') (by decide) (by simp[AH.plain,Ah]) Cb.symm Cn.symm ⟨rfl,rfl,rfl⟩ rfl
theorem RY:J5 87 (fun _ c=>c.op=2∨c.op=3∨c.op=4) A5:=by
 intro H K s th c oS oT oA oB fS fT rS rT fA fB rA rB hi hcg hop hS hT hA hB h h'
 rcases hop with e|e|e
 ·exact RZ hi hcg (.inl e) hS hT hA hB h h'
 ·exact RZ hi hcg (.inr e) hS hT hA hB h h'
 ·exact Zo hi hcg e hS hT hA hB h h'
end
end Go.Proofs.YtlaipllgmddkiaaGreat.Ax
