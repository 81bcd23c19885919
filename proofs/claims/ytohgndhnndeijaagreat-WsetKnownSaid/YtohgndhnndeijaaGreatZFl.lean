/- Texts put behind one another: AxFlo, AxPart. Conditions: none. -/
import Derived.Test.YtohgndhnndeijaaGreatAxMoreZ
import Derived.Laws.Externs
import Derived.Laws.FloatArith
set_option linter.all false
open Bool renaming and_eq_true -> Qa
open List renaming getElem?_eq_some_iff -> Qb, replicate -> Qf, mem_replicate -> Qg, all_eq_true -> Qh, drop_zero -> Qi
open Option.some renaming injEq -> Qc
open Ieee.Datum renaming number -> Qd
open Prod.mk renaming injEq -> Qe
namespace Go.Ax
open Go Go.RowKit
section
variable {P:Program}{B:Nat->Prop}{σ:B0}{H H':AP}{w:World}{T:List AH}{a:Act}{o:Oper}{v:AH}
theorem Aan{fn:Func}(h:fn.name= "math.archTrunc"):Extern.find fn=some (Extern.MathFloor.toIntegral "math.archTrunc" .zero):=by
 unfold Extern.find;rw[h];rfl
theorem find_bits{fn:Func}(h:fn.name= "math.Float64bits"):Extern.find fn=some Extern.MathFloatBits.float64bits:=by
 unfold Extern.find;rw[h];rfl
theorem Aab{g:FuncId}{n:String}(h:extOk P g n=true):∃fn,P.funcs[g]?=some fn/\fn.name=n/\fn.body.isNone=true/\Extern.findNext fn=none:=by
 unfold extOk at h
 split at h
 ·rename_i fn hf
  simp only[Qa,beq_iff_eq,Option.isNone_iff_eq_none]at h
  exact⟨fn,hf,h.1.1,by rw[Option.isNone_iff_eq_none];exact h.1.2,h.2⟩
 ·cases h
theorem run_cmp{op:BinOp}{t:TypeId}{x y:Nat}{v:AH}(h:iS (FloatKind.f64.format.order x y) op=some v):∃b,v= .bool b/\(binOp op t (.float .f64 x) (.float .f64 y)).run P w= .ok (.bool b) w:=by
 cases op<;>simp only[iS,Qc,reduceCtorEq]at h<;>subst h<;>exact⟨_,rfl,by simp[binOp,Op.floatCmp]⟩
theorem flo_ofI{a b u:AH}(h:wX .ofI a b=some u):∃k n,a= .int k n/\u= .lit (.float .f64 (FloatKind.f64.nearest n)):=by
 cases a<;>simp[wX]at h
 exact⟨_,_,rfl,h.symm⟩
theorem flo_toI{k:IntKind}{a b u:AH}(h:wX (.toI k) a b=some u):∃x n,a= .lit (.float .f64 x)/\u= .int k n/\floatToIntVal .f64 x k=some n:=by
 unfold wX at h
 split at h<;>(rename_i h1;try cases h1)<;>try cases h
 split at h
 ·rename_i n hn
  split at h
  ·rename_i hb
   injection h with h
   exact⟨_,n,rfl,h.symm,by simp[floatToIntVal,hn,hb]⟩
  ·cases h
 ·cases h
theorem flo_cmp{op:BinOp}{a b u:AH}(h:wX (.cmp op) a b=some u):∃x y,a= .lit (.float .f64 x)/\b= .lit (.float .f64 y)/\iS (FloatKind.f64.format.order x y) op=some u:=by
 unfold wX at h
 split at h<;>(rename_i h1;try cases h1)<;>try cases h
 exact⟨_,_,rfl,rfl,h⟩
theorem flo_re{a b u:AH}(h:wX .re a b=some u):∃x y,a= .lit (.complex .f64 x y)/\u= .lit (.float .f64 x):=by
 unfold wX at h
 split at h<;>(rename_i h1;try cases h1)<;>try cases h
 exact⟨_,_,rfl,rfl⟩
theorem flo_im{a b u:AH}(h:wX .im a b=some u):∃x y,a= .lit (.complex .f64 x y)/\u= .lit (.float .f64 y):=by
 unfold wX at h
 split at h<;>(rename_i h1;try cases h1)<;>try cases h
 exact⟨_,_,rfl,rfl⟩
theorem flo_cx{a b u:AH}(h:wX .cx a b=some u):∃x y,a= .lit (.float .f64 x)/\b= .lit (.float .f64 y)/\u= .lit (.complex .f64 x y):=by
 unfold wX at h
 split at h<;>(rename_i h1;try cases h1)<;>try cases h
 exact⟨_,_,rfl,rfl,rfl⟩
theorem flo_bits{a b u:AH}(h:wX .bits a b=some u):∃x,a= .lit (.float .f64 x)/\u= .int .u64 (x:Nat):=by
 unfold wX at h
 split at h<;>(rename_i h1;try cases h1)<;>try cases h
 exact⟨_,rfl,rfl⟩
theorem flo_trunc{a b u:AH}(h:wX .pT a b=some u):∃x s m i,a= .lit (.float .f64 x)/\FloatKind.f64.decode x= .number s m i/\u= .lit (.float .f64 (FloatKind.f64.encode ((Qd s m i).integral .zero))):=by
 unfold wX at h
 split at h<;>(rename_i h1;try cases h1)<;>try cases h
 split at h
 ·rename_i hd
  injection h with h
  exact⟨_,_,_,_,rfl,hd,h.symm⟩
 ·cases h
theorem s_flo{f:FOp}{x y:Av}{op:Op}(hop:o.op=op)(hok:floOk P f x y op=true)(hs:AV T H (.eo f x y)=some (v,H'))(hR:BL B σ H w)(hT:BQ σ H T a.tmps.toList):Yields P B σ H w (execOp a.eval o) v H':=by
 subst hop
 simp only[AV,Option.map_eq_some_iff,Qe]at hs
 obtain⟨u,hu,rfl,rfl⟩:=hs
 unfold floOk at hok
 split at hok
 ·rename_i s d x' hop
  simp only[Qa]at hok
  obtain⟨⟨h1,h2⟩,h3⟩:=hok
  obtain⟨ds,hds⟩:=Option.isSome_iff_exists.1 h2
  split at h3
  case h_2=>cases h3
  rename_i hd
  obtain⟨k,n,hx,rfl⟩:=flo_ofI hu
  have e1:=Bi hT h1
  rw[hx]at e1;simp only[VR]at e1
  refine Yields.pure hR (x:= .float .f64 (FloatKind.f64.nearest n)) (by simp only[VR]) ?_
  cases ds<;>simp[execOp,hop,e1,convert,run_underlying hds,run_underlying hd,Conv.intToFloat]
 ·rename_i k s d x' hop
  simp only[Qa]at hok
  obtain⟨⟨h1,h2⟩,h3⟩:=hok
  split at h3
  case h_2=>cases h3
  rename_i hd
  obtain rfl:=eq_of_beq h3
  obtain⟨b,n,hx,rfl,hv⟩:=flo_toI hu
  have e1:=Bi hT h1
  rw[hx]at e1;simp only[VR]at e1
  refine Yields.pure hR (x:= .int k n) (by simp only[VR]) ?_
  simp[execOp,hop,e1,run_convert_float_int _ _ _ _ _ _ _ h2 hd hv]
 ·rename_i op op' t x' y' _ hop
  simp only[Qa,beq_iff_eq]at hok
  obtain⟨⟨rfl,h1⟩,h2⟩:=hok
  obtain⟨x,y,hx,hy,hv⟩:=flo_cmp hu
  have e1:=Bi hT h1
  have e2:=Bi hT h2
  rw[hx]at e1;rw[hy]at e2;simp only[VR]at e1 e2
  obtain⟨b,rfl,hb⟩:=run_cmp (P:=P) (w:=w) (t:=t) hv
  refine Yields.pure hR (x:= .bool b) (by simp only[VR]) ?_
  have hg:(eqGuard op t x' y' (.float .f64 x) (.float .f64 y)).run P w= .ok () w:=by cases op<;>simp[eqGuard]
  simp[execOp,hop,e1,e2,hg,hb]
 ·rename_i args _ hop
  split at hok
  case h_2=>cases hok
  rename_i x' ha
  obtain rfl:args=#[x']:=by cases args;simp_all
  obtain⟨x,y,hx,rfl⟩:=flo_re hu
  have e1:=Bi hT hok
  rw[hx]at e1;simp only[VR]at e1
  refine Yields.pure hR (x:= .float .f64 x) (by simp only[VR]) ?_
  have hr:∀ts ty,(Builtin.real_ ts ty #[.complex .f64 x y]).run P w= .ok (.float .f64 x) w:=λ_ _=>rfl
  simp[execOp,hop,resolve,invoke,builtin,hr,e1]
 ·rename_i args _ hop
  split at hok
  case h_2=>cases hok
  rename_i x' ha
  obtain rfl:args=#[x']:=by cases args;simp_all
  obtain⟨x,y,hx,rfl⟩:=flo_im hu
  have e1:=Bi hT hok
  rw[hx]at e1;simp only[VR]at e1
  refine Yields.pure hR (x:= .float .f64 y) (by simp only[VR]) ?_
  have hr:∀ts ty,(Builtin.imag_ ts ty #[.complex .f64 x y]).run P w= .ok (.float .f64 y) w:=λ_ _=>rfl
  simp[execOp,hop,resolve,invoke,builtin,hr,e1]
 ·rename_i args _ hop
  split at hok
  case h_2=>cases hok
  rename_i x' y' ha
  obtain rfl:args=#[x',y']:=by cases args;simp_all
  simp only[Qa]at hok
  obtain⟨x,y,hx,hy,rfl⟩:=flo_cx hu
  have e1:=Bi hT hok.1
  have e2:=Bi hT hok.2
  rw[hx]at e1;rw[hy]at e2;simp only[VR]at e1 e2
  refine Yields.pure hR (x:= .complex .f64 x y) (by simp only[VR]) ?_
  have hr:∀ts ty,(Builtin.complex_ ts ty #[.float .f64 x,.float .f64 y]).run P w= .ok (.complex .f64 x y) w:=λ_ _=>rfl
  simp[execOp,hop,resolve,invoke,builtin,hr,e1,e2]
 ·rename_i g args _ hop
  simp only[Qa]at hok
  obtain⟨h0,h1⟩:=hok
  obtain⟨fn,hf,hn,hb,hnx⟩:=Aab h0
  split at h1
  case h_2=>cases h1
  rename_i x' ha
  obtain rfl:args=#[x']:=by cases args;simp_all
  obtain⟨x,s,m,i,hx,hd,rfl⟩:=flo_trunc hu
  have e1:=Bi hT h1
  rw[hx]at e1;simp only[VR]at e1
  refine Yields.pure hR (x:= .float .f64 (FloatKind.f64.encode ((Qd s m i).integral .zero))) (by simp only[VR]) ?_
  have hr:(Extern.MathFloor.toIntegral "math.archTrunc" .zero #[.float .f64 x]).run P w= .ok (.float .f64 (FloatKind.f64.encode ((Qd s m i).integral .zero))) w:=by
   change (match FloatKind.f64.decode x with
    | .nan s t=>(if FloatKind.f64.format.quiet t=t then pure (.float .f64 x)else do
     let kept <-choose (.extern "math.Floor,Ceil,Trunc,RoundToEven.signallingNaN kept" 2)
     pure (.float .f64 (if kept==1 then x else FloatKind.f64.encode (.nan s (FloatKind.f64.format.quiet t)))):Sem Value)
    |d=>pure (.float .f64 (FloatKind.f64.encode (d.integral .zero)))).run P w=_
   rw[hd];rfl
  have hf':a.eval (.func g)= .func (.func g) #[] #[]:=rfl
  simp[execOp,hop,resolve,Deferred.ofValue,invoke,hf',e1,run_callFunc_extern hf (by rw[hn];decide) hb hnx (Aan hn),hr]
 ·rename_i g args _ hop
  simp only[Qa]at hok
  obtain⟨h0,h1⟩:=hok
  obtain⟨fn,hf,hn,hb,hnx⟩:=Aab h0
  split at h1
  case h_2=>cases h1
  rename_i x' ha
  obtain rfl:args=#[x']:=by cases args;simp_all
  obtain⟨x,hx,rfl⟩:=flo_bits hu
  have e1:=Bi hT h1
  rw[hx]at e1;simp only[VR]at e1
  refine Yields.pure hR (x:= .int .u64 (x:Nat)) (by simp only[VR]) ?_
  have hr:(Extern.MathFloatBits.float64bits #[.float .f64 x]).run P w= .ok (.int .u64 (x:Nat)) w:=rfl
  have hf':a.eval (.func g)= .func (.func g) #[] #[]:=rfl
  simp[execOp,hop,resolve,Deferred.ofValue,invoke,hf',e1,run_callFunc_extern hf (by rw[hn];decide) hb hnx (find_bits hn),hr]
 ·cases hok
theorem s_clr{size:Nat}{zero:List AH}{x:Av}{x':Operand}{t e:TypeId}{c:Call}(hop:o.op= .call c)(hc:c.callee= .builtin .clear)(ha:c.args.toList=[x'])(hat:c.argTypes.toList=[t])
 (h1:BE x x'=true) (hu:P.underlying t=some (.slice e)) (hz:I6 P e zero=true) (hzl:zero.length=size) (hs0:size≠0)
 (hs:AV T H (.clr size zero x)=some (v,H')) (hR:BL B σ H w) (hT:BQ σ H T a.tmps.toList):Yields P B σ H w (execOp a.eval o) v H':=by
 have e1:=Bi hT h1
 obtain⟨callee,args,argTypes⟩:=c
 simp only at hc ha hat
 subst hc
 obtain rfl:args=#[x']:=by cases args;simp_all
 obtain rfl:argTypes=#[t]:=by cases argTypes;simp_all
 obtain⟨i0,z,hi,hzz,hsz,hv,hcell,hrun,-⟩:=Ob (P:=P) (σ:=σ) (H:=H) (w:=w) hz
 simp only[AV]at hs
 split at hs
 case h_2=>cases hs
 rename_i ob n st len full hx
 rw[hx]at e1;simp only[VR]at e1
 split at hs
 case h_2=>cases hs
 rename_i s1 xs ho
 split at hs
 case isFalse=>cases hs
 rename_i hb
 obtain⟨hl,rfl⟩:=hb
 simp only[Qc,Qe]at hs;obtain⟨rfl,rfl⟩:=hs
 obtain⟨s2,xs2,ro2,ad,dcap,ho2,hn,hst,hva,hca,hf,hnn,had⟩:=e1
 rw[ho]at ho2;injection ho2 with ho2;injection ho2 with g1 g2 g3;subst g1;subst g2;subst g3
 obtain⟨hroom,had⟩:=had hl
 by_cases hl0:len=0
 ·subst hl0
  have hset:H.set ob (.AU s1 (Fh xs st (Qf 0 zero)) false)=H:=by
   obtain⟨hl,hh⟩:=Qb.1 ho
   simp[Fh,<-hh]
  rw[hset]
  refine Yields.pure hR (x:= .tuple #[]) (by simp[VR]) ?_
  cases ad<;>simp[execOp,hop,resolve,invoke,builtin,Builtin.clear_,run_underlying hu,hva]
 ·have had:=had (by omega)
  subst had
  obtain⟨q1,q2,q3⟩:=hR.obj ho
  obtain⟨cb,eb,fb,hblk,hcells,hown,-⟩:=q3.resolve_left (by omega)
  obtain⟨hB,hoff,KC,hszb⟩:=hown rfl
  rw[hoff,Nat.zero_add]at hva
  have hzc:z.cells.size=zero.length:=by have:=hv.length;simp at this;omega
  have hvz:=Sb z zero hv len len (Nat.le_refl _) (by omega)
  have hfl:((Array.range (len* zero.length)).map (λi=>z.cells[i%z.cells.size]!)).toList.length=len* s1:=by simp[hzl]
  rw[List.take_of_length_le (by rw[hfl,hzl];exact Nat.le_refl _)]at hvz
  have hzcs:Builtin.zeroCells z.cells len=(Array.range (len* zero.length)).map (λi=>z.cells[i%z.cells.size]!):=by simp[Builtin.zeroCells,hzc]
  generalize hcs:((Array.range (len* zero.length)).map (λi=>z.cells[i%z.cells.size]!))=cs at*
  have one:∀q∈cs.toList,q.oneCell'=true:=by
   intro q hq
   obtain⟨k,hk,rfl⟩:=List.mem_iff_getElem.1 hq
   have hl':=hvz.length
   have hmem:=List.getElem_mem (l:=(Qf len zero).flatten) (n:=k) (by omega)
   obtain⟨y,hy1,hy2⟩:=List.mem_flatten.1 hmem
   rw[(Qg.1 hy1).2]at hy2
   have hcell':=(Qh.1 hcell) _ hy2
   have:=((H4.1 hvz).2 k (by omega) hk).L3 hcell'
   revert this
   cases cs.toList[k]<;>simp[Oh,Value.oneCell']
  have DS:∀k,k<len* s1->(w.cell? ⟨(σ ob).CG,st* s1+k,none⟩).isSome=true/\w.frozen? ⟨(σ ob).CG,st* s1+k,none⟩=false:=by
   intro k hk
   have:st* s1+k<cb.size:=by
    rw[hszb]
    calc st* s1+k<st* s1+len* s1:=by omega
     _=(st+len)* s1:=by rw[Nat.add_mul]
     _<=(σ ob).room* s1:=Nat.mul_le_mul_right _ (by omega)
   exact⟨by rw[cell_of_row w _ _ cb eb fb hblk];simp[this],by simp[World.frozen?,hblk,KC]⟩
  have hstc:=run_storeCells_cells (P:=P) (σ ob).CG (st* s1) cs.toList 0 w (λk hk=>by simpa using(DS k (by omega)).1) (λk hk=>by simpa using(DS k (by omega)).2) one
  simp only[Nat.add_zero]at hstc
  have Az:∀(b k:Nat) (vs:List Value),¬B b->Kept B w (w.setCells b k vs):=by
   intro b k vs hb
   have:∀(vs:List Value) (k:Nat) (w1:World),Kept B w w1->Kept B w (w1.setCells b k vs):=by
    intro vs
    induction vs with
    |nil=>intro k w1 h;exact h
    |cons u vs ih=>intro k w1 h;exact ih _ _ (h.setCell (p:=⟨b,k,none⟩) hb u)
   exact this vs k w (Kept.refl _ _)
  refine⟨σ,.tuple #[],_,.inl ?_,hR.Ta (Qf len zero) cs.toList st ho (by simp;omega) (λy hy=>by rw[(Qg.1 hy).2];exact⟨hzl,hcell⟩) hvz,by simp[VR],(Alike.Mk ho (by rw[LS])).ext σ,Az _ _ _ hB⟩
  cases len with
  |zero=>omega
  |succ m=>simp[execOp,hop,resolve,invoke,builtin,Builtin.clear_,run_underlying hu,hva,hrun,hzcs,hstc]
end
variable {P:Program}{B:Nat->Prop}{σ:B0}{H H':AP}{w:World}{T:List AH}{a:Act}{o:Oper}{v:AH}
theorem VRs_part{σ:B0}{H:AP}:∀{l:List AH} {cs:List Value} {off n:Nat},BQ σ H l cs->BQ σ H ((l.drop off).take n) ((cs.drop off).take n)
 |[],[],_,_,_=>by simp[BQ]
 |[],_::_,_,_,h=>by simp[BQ]at h
 |_::_,[],_,_,h=>by simp[BQ]at h
 |_::_,_::_,0,0,_=>by simp[BQ]
 |x::l,y::r,0,n+1,h=>by
  simp only[BQ]at h
  have:=VRs_part (off:=0) (n:=n) h.2
  simp only[Qi]at this
  simp only[Qi,List.take_succ_cons,BQ]
  exact⟨h.1,this⟩
 |x::l,y::r,off+1,n,h=>by
  simp only[BQ]at h
  exact VRs_part (off:=off) (n:=n) h.2
theorem s_part{off:Nat}{n:Option Nat}{s:TypeId}{f:Nat}{x:Av}{x':Operand}{fs:Array Field}{fd:Field}(hop:o.op= .field s x' f)(h1:BE x x'=true)
 (hu:P.underlying s=some (.struct fs)) (hf:fs[f]?=some fd) (hoff:fd.offset=off) (hl:ZM P fd.type n=true) (hz:Ea P fd.type (n.getD 1)=true)
 (hs:AV T H (.part off n x)=some (v,H')) (hR:BL B σ H w) (hT:BQ σ H T a.tmps.toList):Yields P B σ H w (execOp a.eval o) v H':=by
 have e1:=Bi hT h1
 simp only[AV]at hs
 split at hs
 case h_2=>cases hs
 rename_i l hx
 rw[hx]at e1;simp only[VR]at e1
 obtain⟨hcell,cs,hv,hr⟩:=e1
 subst hoff
 have hi:∃i,P.info? fd.type=some i/\i.size=n.getD 1:=by
  unfold Ea at hz
  split at hz
  ·rename_i i hi;exact⟨i,hi,by simpa using hz⟩
  ·cases hz
 obtain⟨i,hi,hsz⟩:=hi
 have hc:P.cellsOf fd.type=n.getD 1:=by simp[Program.cellsOf,hi,hsz]
 have hlen:=hr.length
 cases n with
 |none=>
  simp only[ZM,Qa,Bool.not_eq_true',Option.isSome_iff_exists]at hl
  simp only[Option.map_eq_some_iff,Qe]at hs
  obtain⟨y,hy,rfl,rfl⟩:=hs
  obtain⟨hlt,hyy⟩:=Qb.1 hy
  have hp:=IF w fd.type cs.toList fd.offset 1 hc hl.2 ⟨i,hi⟩ (by omega) (λ_=>rfl)
  obtain⟨u,hu2,hr2⟩:=hr.get hy
  have e:(cs.toList.drop fd.offset).take 1=[u]:=by
   obtain⟨h3,h4⟩:=Qb.1 hu2
   rw[List.drop_eq_getElem_cons h3,h4];rfl
  rw[e]at hp
  simp only[valOf,hl.1,Bool.false_eq_true,if_false,List.headD_cons,Array.toArray_toList]at hp
  exact Yields.pure hR hr2 (by simp[execOp,hop,hv,Instr.field,run_underlying hu,hf,hp,asAgg])
 |some k=>
  simp only[ZM,Qa]at hl
  by_cases hk:fd.offset+k<=l.length
  case neg=>simp[hk]at hs
  simp only[hk,if_true]at hs
  simp only[Qc,Qe]at hs
  obtain⟨rfl,rfl⟩:=hs
  have hd:∃d,P.underlying fd.type=some d:=by
   have:=hl.1.1;unfold Dy at this;split at this
   ·exact⟨_,by assumption⟩
   ·exact⟨_,by assumption⟩
   ·cases this
  have hp:=IF w fd.type cs.toList fd.offset k hc hd ⟨i,hi⟩ (by omega) (λh=>by rw[hl.1.1]at h;cases h)
  simp only[valOf,hl.1.1,if_true,Array.toArray_toList]at hp
  exact Yields.pure hR (x:= .agg ((cs.toList.drop fd.offset).take k).toArray) (by simp only[VR];exact⟨by rw[Qh]at hcell ⊢;exact λx hx=>hcell x (List.mem_of_mem_drop (List.mem_of_mem_take hx)),_,rfl,VRs_part hr⟩) (by simp[execOp,hop,hv,Instr.field,run_underlying hu,hf,hp,asAgg])
end Go.Ax
