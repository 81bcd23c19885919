/- The base layers: what the program's functions answer: rights, places, capabilities. Conditions: none. -/
import Derived.Test.YtohgndhnndeijaaGreatMBaseZ
import Derived.Test.YtohgndhnndeijaaGreatZC1
set_option linter.all false
set_option maxHeartbeats 9999999
open Go.Proofs.Tryz renaming prog -> Qa
open List renaming append_nil -> Qb
namespace Go.Proofs.YtohgndhnndeijaaGreat.Ax
open Go Go.Ax Go.Ax.M
section
variable {H:AP}{K:AH->AP->Prop}
theorem kb{x y:Bool}(h:K (.bool y) H)(e:x=y):K (.bool x) H:=e▸h
theorem ki{k:IntKind}{x y:Int}(h:K (.int k y) H)(e:x=y):K (.int k x) H:=e▸h
theorem tb{x y:Bool}{H':AP}(h:K (.bool y) H)(hx:∃L,H'=H++L)(e:x=y):(AH.bool x).plain=true/\(∃L,H'=H++L)/\K (.bool x) H:=⟨rfl,hx,e▸h⟩
theorem ti{k:IntKind}{x y:Int}{H':AP}(h:K (.int k y) H)(hx:∃L,H'=H++L)(e:x=y):(AH.int k x).plain=true/\(∃L,H'=H++L)/\K (.int k x) H:=⟨rfl,hx,e▸h⟩
theorem tv{x y:AH}{H':AP}(h:K y H)(hx:∃L,H'=H++L)(e:x=y/\x.plain=true):x.plain=true/\(∃L,H'=H++L)/\K x H:=⟨e.2,hx,e.1▸h⟩
theorem Ht{r:Int}(h:K (.bool (C2 r)) H):AF Qa 169 [nS r] H K:=by
 refine Aa ok169 ?_;repeat' first|simp only[*,go_sem]|apply orR|(apply sp<;>intro hc)|fail
 all_goals (refine kb h ?_;first|(simp only[C2,Bv, *,bs,go_sem];done)|(simp_all[C2,Bv]<;>omega)|grind[C2,Bv])
theorem MU{r:Int}(h:K (nS (I8 r)) H):AF Qa 242 [nS r] H K:=by
 refine Aa ok242 ?_;repeat' first|simp only[*,go_sem]|apply orR|(apply sp<;>intro hc)|refine Ht ?_
 all_goals (refine ki h ?_;first|(simp only[I8, *,bs,go_sem];done)|(simp_all[I8]<;>omega)|grind[I8])
theorem PN{a b:Int}(h:K (nS (LU a b)) H):AF Qa 209 [nS a,nS b] H K:=by
 refine Aa ok209 ?_;(try simp only[go_sem]);repeat' ((first|apply orR|(apply sp<;>intro hc)|refine MU ?_)<;>try simp only[*,go_sem])
 simpa [LU,IntKind.bits] using h
theorem PM{a b:Int}(h:K (nS (D3 a b)) H):AF Qa 234 [nS a,nS b] H K:=by
 refine Aa ok234 ?_;(try simp only[go_sem]);repeat' ((first|apply orR|(apply sp<;>intro hc)|refine MU ?_)<;>try simp only[*,go_sem])
 simpa [D3,IntKind.bits] using h
theorem DC{a b:Int}(h:K (.bool (Bd a b)) H):AF Qa 153 [nS a,nS b] H K:=by
 refine Aa ok153 ?_;(try simp only[go_sem]);repeat' ((first|apply orR|(apply sp<;>intro hc)|refine PN ?_)<;>try simp only[*,go_sem])
 simpa [Bd] using h
theorem Jv{b:Int}(h:K (.bool (DO b)) H):AF Qa 170 [nS b] H K:=by
 refine Aa ok170 ?_;repeat' first|simp only[*,go_sem]|apply orR|(apply sp<;>intro hc)|fail
 all_goals (refine kb h ?_;first|(simp only[DO,Bv, *,bs,go_sem];done)|(simp_all[DO,Bv]<;>omega)|grind[DO,Bv])
theorem Oo{n lo hi:Int}(h:K (.bool (Bv n lo hi)) H):AF Qa 70 [nS n,nS lo,nS hi] H K:=by
 refine Aa ok70 ?_;repeat' first|simp only[*,go_sem]|apply orR|(apply sp<;>intro hc)|fail
 all_goals (refine kb h ?_;first|(simp only[Bv, *,bs,go_sem];done)|(simp_all[Bv]<;>omega)|grind[Bv])
theorem w64{n:Int}(h1:-9223372036854775808<=n)(h2:n<=9223372036854775807):IntKind.wrap .i64 n=n:=by
 simp[IntKind.wrap,IntKind.bits,IntKind.signed];omega
theorem MK{g:SY}(h:K (.bool (Ee g)) H):AF Qa 57 [.agg g.cells] H K:=by
 unfold SY.cells
 have e:Bv g.AI 1 4=true->IntKind.wrap .i64 (8* g.AI)=8* g.AI/\IntKind.wrap .i64 (g.AI+2)=g.AI+2:=by
  intro h;simp[Bv]at h;exact⟨w64 (by omega) (by omega),w64 (by omega) (by omega)⟩
 refine AF.tidy ?_
 refine Aa ok57 ?_;repeat' first|simp only[*,go_sem]|apply orR|(apply sp<;>intro hc)|refine Oo ?_
 all_goals (refine tb h (by first|exact⟨_,rfl⟩|exact⟨[],(Qb _).symm⟩|exact hx|exact hx.app _) ?_;first|(simp only[Ee, *,bs,go_sem];done)|(simp_all[Ee]<;>omega)|grind[Ee])
theorem HQ{g:SY}(h:Ee g=true):1<=g.AI/\g.AI<=4/\8* g.AI<=g.AE/\g.AE<=96/\g.AE.tmod 8=0/\g.AI+2<=g.AB/\g.AB<=48:=by
 simp[Ee,Bv]at h;omega
theorem SN{g:SY}{t:Int}(h:K (nS (LD g t)) H):AF Qa 58 [.agg g.cells,nS t] H K:=by
 have e1:Ee g=true->IntKind.wrap .i64 (g.AI-1)=g.AI-1:=λh=>w64 (by have:=HQ h;omega) (by have:=HQ h;omega)
 have e2:Ee g=true->Bv t 0 (g.AI-1)=true->IntKind.wrap .i64 (8* t)=8* t:=λh h2=>by
  have:=HQ h
  simp[Bv]at h2
  exact w64 (by omega) (by omega)
 refine AF.tidy ?_
 unfold SY.cells
 refine Aa ok58 ?_;repeat' first|simp only[*,go_sem]|apply orR|(apply sp<;>intro hc)|refine MK (g:=g) ?_|refine Oo ?_
 all_goals (refine ti h (by first|exact⟨_,rfl⟩|exact⟨[],(Qb _).symm⟩|exact hx|exact hx.app _) ?_;first|(simp only[LD, *,bs,go_sem];done)|(simp_all[LD]<;>omega)|grind[LD])
theorem Ut{n lo hi:Int}(h:K (.bool (Bv n lo hi)) H):AF Qa 168 [nS n,nS lo,nS hi] H K:=by
 refine Aa ok168 ?_;repeat' first|simp only[*,go_sem]|apply orR|(apply sp<;>intro hc)|fail
 all_goals (refine kb h ?_;first|(simp only[Bv, *,bs,go_sem];done)|(simp_all[Bv]<;>omega)|grind[Bv])
theorem Ke{n:Int}(h:K (.bool (Db n)) H):AF Qa 171 [nS n] H K:=by
 refine Aa ok171 ?_;repeat' first|simp only[*,go_sem]|apply orR|(apply sp<;>intro hc)|fail
 all_goals (refine kb h ?_;first|(simp only[Db, *,bs,go_sem];done)|(simp_all[Db]<;>omega)|grind[Db])
theorem Je{c:Bh}(h:K (.bool (Aq c)) H):AF Qa 158 [.agg c.cells] H K:=by
 refine AF.tidy ?_
 unfold Bh.cells
 refine Aa ok158 ?_;repeat' first|simp only[*,go_sem]|apply orR|(apply sp<;>intro hc)|fail
 all_goals (refine tb h (by first|exact⟨_,rfl⟩|exact⟨[],(Qb _).symm⟩|exact hx|exact hx.app _) ?_;first|(simp only[Aq, *,bs,go_sem];done)|(simp_all[Aq]<;>omega)|grind[Aq])
theorem Jd{c:Bh}(h:K (.bool (Bq c)) H):AF Qa 115 [.agg c.cells] H K:=by
 refine AF.tidy ?_
 unfold Bh.cells
 refine Aa ok115 ?_;repeat' first|simp only[*,go_sem]|apply orR|(apply sp<;>intro hc)|refine Je (c:=c) ?_|refine Ut ?_|refine Ht ?_|refine Jv ?_|refine Ke ?_
 all_goals (refine tb h (by first|exact⟨_,rfl⟩|exact⟨[],(Qb _).symm⟩|exact hx|exact hx.app _) ?_;first|(simp only[Bq, *,bs,go_sem];done)|(simp_all[Bq]<;>omega)|grind[Bq])
theorem Tr{c:Bh}{r:Int}(h:K (.agg (ES c r).cells) H):AF Qa 198 [.agg c.cells,nS r] H K:=by
 refine AF.tidy ?_
 unfold Bh.cells
 refine Aa ok198 ?_;repeat' first|simp only[*,go_sem]|apply orR|(apply sp<;>intro hc)|refine Jd (c:=c) ?_|refine PM ?_
 all_goals (refine tv h (by first|exact⟨_,rfl⟩|exact⟨[],(Qb _).symm⟩|exact hx|exact hx.app _) ?_;first|(simp only[ES,Bh.cells,Bh.zero,AH.plain,Ah, *,bs,go_sem];done)|(simp_all[ES,Bh.cells,Bh.zero,AH.plain,Ah]<;>omega)|grind[ES,Bh.cells,Bh.zero,AH.plain,Ah])
theorem Py{c:Bh}{b:Int}(h:K (.Bj [.agg (CK c b).1.cells,nS (CK c b).2]) H):AF Qa 199 [.agg c.cells,nS b] H K:=by
 refine AF.tidy ?_
 unfold Bh.cells
 refine Aa ok199 ?_;repeat' first|simp only[*,go_sem]|apply orR|(apply sp<;>intro hc)|refine Jd (c:=c) ?_|refine Jv ?_|refine Ke ?_
 all_goals (refine tv h (by first|exact⟨_,rfl⟩|exact⟨[],(Qb _).symm⟩|exact hx|exact hx.app _) ?_;first|(simp only[CK,Bh.cells,Bh.zero,AH.plain,Ah, *,bs,go_sem];done)|(simp_all[CK,Bh.cells,Bh.zero,AH.plain,Ah]<;>omega)|grind[CK,Bh.cells,Bh.zero,AH.plain,Ah])
theorem SJ{a b:Bh}(h:K (.bool (Dw a b)) H):AF Qa 163 [.agg a.cells,.agg b.cells] H K:=by
 refine AF.tidy ?_
 unfold Bh.cells
 refine Aa ok163 ?_;repeat' first|simp only[*,go_sem]|apply orR|(apply sp<;>intro hc)|refine Je (c:=a) ?_|refine DC ?_
 all_goals (refine tb h (by first|exact⟨_,rfl⟩|exact⟨[],(Qb _).symm⟩|exact hx|exact hx.app _) ?_;first|(simp only[Dw, *,bs,go_sem];done)|(simp_all[Dw]<;>omega)|grind[Dw])
section
variable {x0 x1 x2 x3 y0 y1 y2 y3 n:Int}
theorem WN(h:K (.bool (Ee ⟨x0,x1,x2⟩)) H):AF Qa 57 [.agg [nS x0,nS x1,nS x2]] H K:=MK (g:=⟨x0,x1,x2⟩) h
theorem WO(h:K (nS (LD ⟨x0,x1,x2⟩ n)) H):AF Qa 58 [.agg [nS x0,nS x1,nS x2],nS n] H K:=SN (g:=⟨x0,x1,x2⟩) h
theorem Dx(h:K (.bool (Aq ⟨x0,x1,x2,x3⟩)) H):AF Qa 158 [.agg [nS x0,nS x1,nS x2,nS x3]] H K:=Je (c:=⟨x0,x1,x2,x3⟩) h
theorem Mj(h:K (.bool (Bq ⟨x0,x1,x2,x3⟩)) H):AF Qa 115 [.agg [nS x0,nS x1,nS x2,nS x3]] H K:=Jd (c:=⟨x0,x1,x2,x3⟩) h
theorem Yw(h:K (.agg (ES ⟨x0,x1,x2,x3⟩ n).cells) H):AF Qa 198 [.agg [nS x0,nS x1,nS x2,nS x3],nS n] H K:=Tr (c:=⟨x0,x1,x2,x3⟩) h
theorem Us(h:K (.Bj [.agg (CK ⟨x0,x1,x2,x3⟩ n).1.cells,nS (CK ⟨x0,x1,x2,x3⟩ n).2]) H):AF Qa 199 [.agg [nS x0,nS x1,nS x2,nS x3],nS n] H K:=Py (c:=⟨x0,x1,x2,x3⟩) h
theorem Px(h:K (.bool (Dw ⟨x0,x1,x2,x3⟩ ⟨y0,y1,y2,y3⟩)) H):AF Qa 163 [.agg [nS x0,nS x1,nS x2,nS x3],.agg [nS y0,nS y1,nS y2,nS y3]] H K:=SJ (a:=⟨x0,x1,x2,x3⟩) (b:=⟨y0,y1,y2,y3⟩) h
end
end
end Go.Proofs.YtohgndhnndeijaaGreat.Ax
