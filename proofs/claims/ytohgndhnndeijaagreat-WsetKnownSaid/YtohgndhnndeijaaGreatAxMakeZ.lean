/- What makes or writes memory tells true: boxes, literals, make, stores. Conditions: none. -/
import Derived.Test.YtohgndhnndeijaaGreatAxSoundZ
import Derived.IntWalk
set_option linter.all false
open List renaming replicate -> Qa, flatten_cons -> Qb, take_of_length_le -> Qf, getElem?_eq_getElem -> Qh, all_eq_true -> Qi, mem_replicate -> Ql, getElem?_eq_some_iff -> Qm, length_cons -> Qn, drop_eq_nil_of_le -> Qo, length_replicate -> Qq, mem_cons_of_mem -> Qr, mem_of_mem_take -> Qt, flatten_append -> Qw, mem_cons_self -> Qx, drop_append -> Qy, length_take -> Qz, getElem_mem -> QA, flatten_nil -> QB, append_nil -> QC, length_nil -> QD, all_append -> QE, map_cons -> QG
open Bool renaming and_eq_true -> Qc
open Option.some renaming injEq -> Qd
open Prod.mk renaming injEq -> Qe
open Option renaming map_eq_some_iff -> Qg
open Array renaming range -> Qj, getElem?_toList -> Qp, map -> QK
open Nat renaming zero_add -> Qk, add_mul -> Qs, le_refl -> Qu, mul_le_mul_right -> Qv, mul_eq_zero -> QF, mul_comm -> QH, one_mul -> QI, mod_lt -> QJ
namespace Go.Ax
open Go Go.RowKit
theorem ED{α:Type}(s:Nat):∀(xs:List (List α)),(∀x∈xs,x.length=s)->xs.flatten.length=xs.length* s
 |[],_=>by simp
 |x::xs,h=>by
  rw[Qb,List.length_append,ED s xs (λy hy=>h y (Qr _ hy)),h x Qx,Qn,Qs];omega
theorem LB{α:Type}(s:Nat):∀(xs:List (List α)),(∀x∈xs,x.length=s)->∀(i:Nat) (x:List α) (j:Nat) (a:α),xs[i]?=some x->x[j]?=some a->xs.flatten[i* s+j]?=some a
 |[],_,i,x,j,a,h,_=>by simp at h
 |y::xs,hl,0,x,j,a,h,h'=>by
  simp at h;subst h
  have:j<y.length:=(Qm.1 h').1
  rw[Qb,Nat.zero_mul,Qk,List.getElem?_append_left this];exact h'
 |y::xs,hl,i+1,x,j,a,h,h'=>by
  have hy:=hl y Qx
  rw[Qb,List.getElem?_append_right (by rw[hy,Qs];omega),hy,show(i+1)* s+j-s=i* s+j by rw[Qs];omega]
  exact LB s xs (λz hz=>hl z (Qr _ hz)) i x j a (by simpa using h) h'
theorem Zi{α:Type}(A M Z y:List α)(h:y.length=M.length):putAt (A++(M++Z)) A.length y=A++(y++Z):=by
 rw[LR _ _ _ (by simp;omega),List.take_left',List.append_assoc]
 ·rw[Qy,Qo (by omega),Qy,Qo (by omega)]
  simp
  rw[h];simp
 ·rfl
theorem ae{α:Type}(s:Nat)(xs:List (List α))(hl:∀x∈xs,x.length=s)(i:Nat)(y:List α)(hy:y.length=s)(hi:i<xs.length):(xs.set i y).flatten=putAt xs.flatten (i* s) y:=by
 have e1:xs=xs.take i++xs[i]::xs.drop (i+1):=by simp
 have e2:xs.set i y=xs.take i++y::xs.drop (i+1):=by rw[List.set_eq_take_append_cons_drop,if_pos hi]
 have hA:(xs.take i).flatten.length=i* s:=by
  rw[ED s _ (λx hx=>hl x (Qt hx)),Qz,Nat.min_eq_left (by omega)]
 have hM:xs[i].length=s:=hl _ (QA hi)
 have e3:xs.flatten=(xs.take i).flatten++(xs[i]++(xs.drop (i+1)).flatten):=by
  conv=>lhs;rw[e1]
  rw[Qw,Qb]
 rw[e2,e3,<-hA,Zi _ _ _ _ (by omega),Qw,Qb]
theorem P5{α:Type}(n:Nat)(z:List α)(k:Nat)(h:k<n* z.length):(Qa n z).flatten[k]?=z[k%z.length]?:=by
 have hpos:0<z.length:=by rcases Nat.eq_zero_or_pos z.length with h0|h0<;>simp_all
 have hk:k=k/z.length* z.length+k%z.length:=by rw[QH];exact(Nat.div_add_mod k z.length).symm
 have hlt:k/z.length<n:=Nat.div_lt_of_lt_mul (by rw[QH];exact h)
 have hm:k%z.length<z.length:=QJ _ hpos
 have:=LB z.length (Qa n z) (λx hx=>by rw[(Ql.1 hx).2]) (k/z.length) z (k%z.length) z[k%z.length] (by simp[hlt]) (by simp[hm])
 rw[<-hk]at this
 rw[this];simp[hm]
section steps
variable {P:Program}{B:Nat->Prop}{σ:B0}{H H':AP}{w:World}{T:List AH}{a:Act}{o:Oper}{v:AH}
theorem BL.L6(h:BL B σ H w)(s room:Nat)(xs:List (List AH))(c:Array Value)(e:TypeId)(hl:∀x∈xs,x.length=s/\x.all AH.cell=true)(hroom:xs.length<=room)(hc:c.size=room* s)
 (hv:BQ σ H xs.flatten (c.toList.take (xs.length* s))):
 BL B (σ.Ec H.length ⟨w.heap.size,0,room⟩) (H++[.AU s xs false]) (w.alloc (.cells c e)):=by
 refine h.push _ _ _ ⟨hl,hroom,.inr ⟨c,e,(0,0),by show(w.heap.push _)[w.heap.size]?=_;simp,?_,λ_=>⟨h.fresh,rfl,rfl,hc⟩,λhh=>by cases hh⟩⟩
 intro i x j y hi hj
 have hg:=LB s xs (λx hx=>(hl x hx).1) i x j y hi hj
 obtain⟨u,hu,hr⟩:=hv.get hg
 refine⟨u,?_,hr.grow (Grow.push σ H _ _)⟩
 rw[List.getElem?_take]at hu
 split at hu
 ·rw[Qk,<-Qp];exact hu
 ·cases hu
theorem GG{B:Nat->Prop}{w:World}(hB:∀k,B k->k<w.heap.size)(ob:Obj):Kept B w (w.alloc ob):=(Kept.refl _ _).alloc hB ob
theorem Pp(s:Nat)(x:List AH)(room:Nat)(n:Nat):VR (σ.Ec H.length ⟨n,0,room⟩) (H++[.AU s [x] false]) (.ptr H.length 1 0 0) (.pointer (some ⟨n,0,none⟩)):=by
 simp only[VR]
 exact⟨s,[x],false,_,by simp,Qu _,rfl,λ_=>by simp[B0.Ec]⟩
theorem J7{x:AH}{l:List AH}{u:Value}(h:HN x=some l)(hu:VR σ H x u):BQ σ H l u.cells.toList/\l.all AH.cell=true:=by
 unfold HN at h
 split at h
 ·injection h with h;subst h
  simp only[VR]at hu
  obtain⟨h1,cs,rfl,h2⟩:=hu
  exact⟨h2,h1⟩
 ·cases h
 ·cases h
 ·split at h
  ·rename_i hc
   injection h with h;subst h
   have hone:=hu.L3 hc
   have:u.cells=#[u]:=by cases u<;>simp_all[Value.cells,Oh]
   rw[this]
   refine⟨?_,by simp[hc]⟩
   simp[Bn,hu]
  ·cases h
theorem kU{zero:List AH}{t:TypeId}(hop:o.op= .alloc t)(hz:I6 P t zero=true)
 (hs:AV T H (.new zero)=some (v,H')) (hR:BL B σ H w) (hT:BQ σ H T a.tmps.toList):Yields P B σ H w (execOp a.eval o) v H':=by
 simp only[AV,Qd,Qe]at hs
 obtain⟨rfl,rfl⟩:=hs
 unfold I6 at hz
 split at hz
 case h_2=>cases hz
 rename_i i hi
 split at hz
 case h_2=>cases hz
 rename_i z hzz
 simp only[Qc,beq_iff_eq]at hz
 obtain⟨hz,hsz⟩:=hz
 obtain⟨hv,hc⟩:=Me (σ:=σ) (H:=H) hz
 have hl:=hv.length
 refine⟨_,.pointer (some ⟨w.heap.size,0,none⟩),w.alloc (.cells z.cells t),.inl ?_,hR.L6 zero.length 1 [zero] z.cells t ?_ (by simp) (by simp at hl;simp[hl]) ?_,Pp _ _ _ _,Ext.push _ _ _ _ rfl,GG hR.base _⟩
 ·simp[execOp,hop,Instr.alloc,zeroValue,typeInfo,hi,hzz,newVar,newRow]
 ·intro x hx;simp at hx;subst hx;exact⟨rfl,hc⟩
 ·simp only[Qb,QB,QC,Qn,QD,Qk,QI]
  rw[Qf (by omega)];exact hv
theorem ir{x:Av}{x':Operand}{t:TypeId}(hop:o.op= .box t x')(h1:BE x x'=true)
 (hs:AV T H (.box x)=some (v,H')) (hR:BL B σ H w) (hT:BQ σ H T a.tmps.toList):Yields P B σ H w (execOp a.eval o) v H':=by
 have e1:=Bi hT h1
 simp only[AV,Qg,Qe]at hs
 obtain⟨l,hl,rfl,rfl⟩:=hs
 obtain⟨hv,hc⟩:=J7 hl e1
 have hll:=hv.length
 refine⟨_,.pointer (some ⟨w.heap.size,0,none⟩),w.alloc (.cells (a.eval x').cells t),.inl ?_,hR.L6 l.length 1 [l] _ t ?_ (by simp) (by simp at hll;simp[hll]) ?_,Pp _ _ _ _,Ext.push _ _ _ _ rfl,GG hR.base _⟩
 ·simp[execOp,hop,Instr.box,newVar,newRow]
 ·intro x hx;simp at hx;subst hx;exact⟨rfl,hc⟩
 ·simp only[Qb,QB,QC,Qn,QD,Qk,QI]
  rw[Qf (by omega)];exact hv
theorem Sw:∀(l:List Value) (k:Nat) (off:Nat) (cs:Array Value),(l.zipIdx k).foldl (λcs (x:Value×Nat)=>cs.setIfInBounds (off+x.2) x.1) cs=(putAt cs.toList (off+k) l).toArray
 |[],k,off,cs=>by simp
 |x::l,k,off,cs=>by
  rw[List.zipIdx_cons,List.foldl_cons,Sw l (k+1) off]
  simp[Nat.add_assoc]
theorem WL(u:Value)(off:Nat)(cs:Array Value):(u.cells.zipIdx.foldl (λcs (x:Value×Nat)=>cs.setIfInBounds (off+x.2) x.1) cs)=(putAt cs.toList off u.cells.toList).toArray:=by
 rw[<-Array.foldl_toList,Array.toList_zipIdx,Sw]
 simp
theorem Ss(place:Nat->Option (Nat×Nat))(cells:Array Value)(i:Nat)(u:Value)(rest:List (Nat×Value))(off size:Nat)(hp:place i=some (off,size))(h1:u.cells.size=size)(h2:off+size<=cells.size):
 Instr.fill place cells ((i,u)::rest)=Instr.fill place (putAt cells.toList off u.cells.toList).toArray rest:=by
 simp only[Instr.fill,hp]
 rw[if_neg (by simp;omega)]
 rw[<-WL]
theorem Ml(place:Nat->Option (Nat×Nat))(placeT:Nat->Option (Nat×TypeId))(hpl:∀i o t,placeT i=some (o,t)->∀n,Ea P t n=true->place i=some (o,n))(hT:BQ σ H T a.tmps.toList):
 ∀(parts:List (Nat×Nat×Av)) (parts':List (Nat×Operand)) (cells:List AH) (cs:Array Value) (l:List AH),ID P placeT parts parts'=true->Dz T cells parts=some l->
  BQ σ H cells cs.toList->cells.all AH.cell=true->∃cs',Instr.fill place cs (parts'.map fun(i,x)=>(i,a.eval x))=some cs'/\BQ σ H l cs'.toList/\l.all AH.cell=true
 |[],[],cells,cs,l,_,h,hv,hc=>by
  simp only[Dz,Qd]at h;subst h
  exact⟨cs,by simp[Instr.fill],hv,hc⟩
 |[],_::_,_,_,_,h,_,_,_=>by simp[ID]at h
 |_::_,[],_,_,_,h,_,_,_=>by simp[ID]at h
 |(off,size,x)::parts,(i,x')::parts',cells,cs,l,hok,h,hv,hc=>by
  simp only[ID,Qc]at hok
  obtain⟨⟨h1,h2⟩,h3⟩:=hok
  split at h1
  case h_2=>cases h1
  rename_i o t hpi
  simp only[Qc,beq_iff_eq]at h1
  obtain⟨rfl,hsz⟩:=h1
  simp only[Dz]at h
  split at h
  case h_2=>cases h
  rename_i ys hys
  split at h
  case isFalse=>cases h
  rename_i hb
  obtain⟨rfl,hb⟩:=hb
  obtain⟨hy,hyc⟩:=J7 hys (Bi hT h2)
  have hyl:=hy.length
  have hvl:=hv.length
  have:=Ss place cs i (a.eval x') (parts'.map fun(i,x)=>(i,a.eval x)) o ys.length (hpl i o t hpi _ hsz) (by simp at hyl;omega) (by simp at hvl;omega)
  rw[QG,this]
  refine Ml place placeT hpl hT parts parts' _ _ l h3 h (by simpa using hv.putAt o hy) ?_
  rw[LR _ _ _ hb,QE,QE]
  rw[Qi]at hc
  simp only[Qc,Qi]
  exact⟨⟨λy hy=>hc y (Qt hy),λy hy=>(Qi.1 hyc) y hy⟩,λy hy=>hc y (List.mem_of_mem_drop hy)⟩
theorem Ob{t:TypeId}{zero:List AH}(hz:I6 P t zero=true):∃i z,P.info? t=some i/\i.zero=some z/\i.size=zero.length/\BQ σ H zero z.cells.toList/\zero.all AH.cell=true/\(zeroValue t).run P w= .ok z w/\(sizeOf t).run P w= .ok zero.length w:=by
 unfold I6 at hz
 split at hz
 case h_2=>cases hz
 rename_i i hi
 split at hz
 case h_2=>cases hz
 rename_i z hzz
 simp only[Qc,beq_iff_eq]at hz
 obtain⟨hz,hsz⟩:=hz
 obtain⟨hv,hc⟩:=Me (σ:=σ) (H:=H) hz
 exact⟨i,z,hi,hzz,hsz,hv,hc,by simp[zeroValue,typeInfo,hi,hzz],by simp[sizeOf,typeInfo,hi,hsz]⟩
theorem run_places(w:World):∀(fs:List Field),fs.all (λf=>(P.info? f.type).isSome)=true->
 (fs.mapM (m:=Sem) λf=>do pure (f.offset,<-sizeOf f.type)).run P w= .ok (fs.map λf=>(f.offset,P.cellsOf f.type)) w
 |[],_=>by simp
 |f::fs,h=>by
  simp only[List.all_cons,Qc]at h
  obtain⟨i,hi⟩:=Option.isSome_iff_exists.1 h.1
  have ih:=run_places w fs h.2
  simp only[List.mapM_cons,Sem.run_bind,sizeOf,typeInfo,run_program,Result.andThen_ok,hi,Sem.run_pure]at ih ⊢
  rw[ih]
  simp[Program.cellsOf,hi]
theorem di{t:TypeId}{zero:List AH}{parts:List (Nat×Nat×Av)}{parts':Array (Nat×Operand)}(hop:o.op= .build t parts')(hz:I6 P t zero=true)
 (
  hp:(∃fs,P.underlying t=some (.struct fs)/\fs.toList.all (λf=>(P.info? f.type).isSome)=true/\ID P (λi=>(fs[i]?).map λf=>(f.offset,f.type)) parts parts'.toList=true)\/
  (∃n e i,P.underlying t=some (.array n e)/\P.info? e=some i/\ID P (λk=>some (k* i.size,e)) parts parts'.toList=true))
 (hs:AV T H (.build zero parts)=some (v,H')) (hR:BL B σ H w) (hT:BQ σ H T a.tmps.toList):Yields P B σ H w (execOp a.eval o) v H':=by
 simp only[AV,Qg,Qe]at hs
 obtain⟨l,hl,rfl,rfl⟩:=hs
 obtain⟨i0,z,hi,hzz,hsz,hv,hc,hrun,-⟩:=Ob (P:=P) (σ:=σ) (H:=H) (w:=w) hz
 have hmap:(parts'.map fun(i,x)=>(i,a.eval x)).toList=parts'.toList.map fun(i,x)=>(i,a.eval x):=by simp
 rcases hp with⟨fs,hu,hall,hok⟩|⟨n,e,i,hu,hie,hok⟩
 ·have hpl:∀(i o:Nat) (t:TypeId),((fs[i]?).map fun(f:Field)=>(f.offset,f.type))=some (o,t)->∀n,Ea P t n=true->((fs.toList.map λf=>(f.offset,P.cellsOf f.type)).toArray[i]?)=some (o,n):=by
   intro i o t h n hn
   rw[Qg]at h
   obtain⟨f,hf,hh⟩:=h
   simp only[Qe]at hh
   obtain⟨rfl,rfl⟩:=hh
   unfold Ea at hn
   split at hn
   case h_2=>cases hn
   rename_i ii hii
   have:ii.size=n:=by simpa using hn
   simp[hf,Program.cellsOf,hii,this]
  obtain⟨cs',hf,hv',hc'⟩:=Ml (place:=λi=>(fs.toList.map λf=>(f.offset,P.cellsOf f.type)).toArray[i]?) (a:=a) _ hpl hT parts parts'.toList zero z.cells l hok hl hv hc
  refine Yields.pure hR (x:= .agg cs') (by simp only[VR];exact⟨hc',cs',rfl,hv'⟩) ?_
  have hpm:(fs.mapM (m:=Sem) λf=>do pure (f.offset,<-sizeOf f.type)).run P w= .ok (fs.toList.map λf=>(f.offset,P.cellsOf f.type)).toArray w:=by
   rw[Array.mapM_eq_mapM_toList,Sem.run_map,run_places w fs.toList hall]
   rfl
  simp only[execOp,hop,Instr.build,Sem.run_bind,hrun,Result.andThen_ok,run_underlying hu,hpm,hmap]
  rw[hf]
  simp
 ·obtain⟨cs',hf,hv',hc'⟩:=Ml (place:=λk=>some (k* i.size,i.size)) (a:=a) _ (by
   intro k o t h n hn
   simp only[Qd,Qe]at h
   obtain⟨rfl,rfl⟩:=h
   have:i.size=n:=by simpa [Ea,hie] using hn
   rw[this]) hT parts parts'.toList zero z.cells l hok hl hv hc
  refine Yields.pure hR (x:= .agg cs') (by simp only[VR];exact⟨hc',cs',rfl,hv'⟩) ?_
  have hse:(sizeOf e).run P w= .ok i.size w:=by simp[sizeOf,typeInfo,hie]
  simp only[execOp,hop,Instr.build,Sem.run_bind,hrun,Result.andThen_ok,run_underlying hu,hse,hmap]
  rw[hf]
  simp
theorem P3(hT:BQ σ H T a.tmps.toList)(size:Nat)(hsz:size≠0):
 ∀(parts:List (Nat×Av)) (parts':List (Nat×Operand)) (xs:List (List AH)) (cs:Array Value) (ys:List (List AH)),J9 parts parts'=true->DW T size xs parts=some ys->
  BQ σ H xs.flatten cs.toList->(∀x∈xs,x.length=size/\x.all AH.cell=true)->
  ∃cs',Instr.fill (λi=>some (i* size,size)) cs (parts'.map fun(i,x)=>(i,a.eval x))=some cs'/\BQ σ H ys.flatten cs'.toList/\(∀x∈ys,x.length=size/\x.all AH.cell=true)/\ys.length=xs.length/\cs'.size=cs.size
 |[],[],xs,cs,ys,_,h,hv,hc=>by
  simp only[DW,Qd]at h;subst h
  exact⟨cs,by simp[Instr.fill],hv,hc,rfl,rfl⟩
 |[],_::_,_,_,_,h,_,_,_=>by simp[J9]at h
 |_::_,[],_,_,_,h,_,_,_=>by simp[J9]at h
 |(i,x)::parts,(i',x')::parts',xs,cs,ys,hok,h,hv,hc=>by
  simp only[J9,Qc,beq_iff_eq]at hok
  obtain⟨⟨rfl,h2⟩,h3⟩:=hok
  simp only[DW]at h
  split at h
  case h_2=>cases h
  rename_i zs hzs
  split at h
  case isFalse=>cases h
  rename_i hb
  obtain⟨hzl,hb⟩:=hb
  obtain⟨hy,hyc⟩:=J7 hzs (Bi hT h2)
  have hyl:=hy.length
  have hvl:=hv.length
  have hfl:=ED size xs (λx hx=>(hc x hx).1)
  have hle:i* size+size<=xs.length* size:=by
   have:(i+1)* size<=xs.length* size:=Qv _ hb
   rw[Qs]at this;omega
  have:=Ss (λi=>some (i* size,size)) cs i (a.eval x') (parts'.map fun(i,x)=>(i,a.eval x)) (i* size) size rfl (by simp at hyl;omega) (by rw[hfl]at hvl;have:cs.toList.length=cs.size:=rfl;omega)
  rw[QG,this]
  have hset:=ae size xs (λx hx=>(hc x hx).1) i zs hzl hb
  obtain⟨cs',g1,g2,g3,g4,g5⟩:=P3 hT size hsz parts parts' (xs.set i zs) (putAt cs.toList (i* size) (a.eval x').cells.toList).toArray ys h3 h (by rw[hset];simpa using hv.putAt (i* size) hy) (by
   intro y hy
   rcases List.mem_or_eq_of_mem_set hy with hy|rfl
   ·exact hc y hy
   ·exact⟨hzl,hyc⟩)
  exact⟨cs',g1,g2,g3,by simpa using g4,by rw[g5];simp[KO]⟩
theorem Sb(z:Value)(zero:List AH)(hv:BQ σ H zero z.cells.toList)(n:Nat)(m:Nat)(hmn:m<=n)(hpos:0<zero.length):
 BQ σ H (Qa m zero).flatten ((((Qj (n* zero.length)).map (λi=>z.cells[i%z.cells.size]!)).toList).take (m* zero.length)):=by
 have hl:z.cells.size=zero.length:=by have:=hv.length;simp at this;omega
 have hmul:m* zero.length<=n* zero.length:=Qv _ hmn
 have hfl:(Qa m zero).flatten.length=m* zero.length:=by simp
 rw[H4]
 have hq:∀(f:Nat->Value) (k:Nat),((Qj k).map f).toList.length=k:=λf k=>by simp
 refine⟨by rw[hfl,Qz,hq];omega,λi h h'=> ?_⟩
 have hi:i<m* zero.length:=by omega
 have e1:(Qa m zero).flatten[i]?=zero[i%zero.length]?:=P5 m zero i hi
 have hm:i%zero.length<zero.length:=QJ _ hpos
 rw[Qh h,Qh hm]at e1
 injection e1 with e1
 rw[e1]
 simp only[List.getElem_take,Array.getElem_toList,Array.getElem_map,Array.getElem_range,hl]
 obtain⟨v,hv,hr⟩:=hv.get (i:=i%zero.length) (Qh hm)
 rw[Qp]at hv
 rw[getElem!_def,hv]
 exact hr
theorem H3(s:Nat)(xs:List (List AH))(room n len:Nat)(full:Bool)(hl:xs.length=len)(hc:len<=room)(hf:full=true->room=len):
 VR (σ.Ec H.length ⟨n,0,room⟩) (H++[.AU s xs false]) (.slice H.length len 0 len full) (.slice (some ⟨n,0,none⟩) len room):=by
 simp only[VR]
 exact⟨s,xs,false,some ⟨n,0,none⟩,room,by simp,by omega,by omega,rfl,hc,hf,(λhh=>nomatch hh),(λ_=>by simp[B0.Ec])⟩
theorem iu{t e:TypeId}{size n:Nat}{zero:List AH}{parts:List (Nat×Av)}{parts':Array (Nat×Operand)}(hop:o.op= .buildSlice t n parts')(hz:I6 P e zero=true)
 (hu:P.underlying t=some (.slice e)) (hzl:zero.length=size) (hsz:size≠0) (hok:J9 parts parts'.toList=true) (hbig:n* size<=16777216)
 (hs:AV T H (.EO size n zero parts)=some (v,H')) (hR:BL B σ H w) (hT:BQ σ H T a.tmps.toList):Yields P B σ H w (execOp a.eval o) v H':=by
 simp only[AV,Qg,Qe]at hs
 obtain⟨ys,hl,rfl,rfl⟩:=hs
 obtain⟨i0,z,hi,hzz,hsz0,hv,hc,hrun,hsr⟩:=Ob (P:=P) (σ:=σ) (H:=H) (w:=w) hz
 have hmap:(parts'.map fun(i,x)=>(i,a.eval x)).toList=parts'.toList.map fun(i,x)=>(i,a.eval x):=by simp
 have hz0:z.cells.size=zero.length:=by have:=hv.length;simp at this;omega
 have hrep:∀x∈Qa n zero,x.length=size/\x.all AH.cell=true:=λx hx=>by rw[(Ql.1 hx).2];exact⟨hzl,hc⟩
 have hvz:=Sb z zero hv n n (Qu _) (by omega)
 rw[Qf (by simp)]at hvz
 obtain⟨cs',hf,hv',hc',hl',hs'⟩:=P3 (a:=a) hT size hsz parts parts'.toList (Qa n zero) _ ys hok hl hvz hrep
 simp only[Qq]at hl'
 simp only[Array.size_map,Array.size_range]at hs'
 refine⟨_,.slice (some ⟨w.heap.size,0,none⟩) n n,w.alloc (.cells cs' e),.inl ?_,hR.L6 size n ys cs' e hc' (by omega) (by rw[hs',hzl]) ?_,H3 size ys n w.heap.size n true hl' (Qu _) (λ_=>rfl),Ext.push _ _ _ _ rfl,GG hR.base _⟩
 ·rw[hzl]at hsr
  simp only[execOp,hop,Instr.buildSlice,Sem.run_bind,run_underlying hu,Result.andThen_ok,hsr]
  rw[if_neg (by omega)]
  by_cases h0:n* size=0
  ·have KD:n=0:=by rcases QF.1 h0 with h|h<;>omega
   subst KD
   simp only[h0,if_true,Sem.run_pure,Result.andThen_ok,Sem.run_bind]
   rw[hmap]
   have:QK (λx=>(#[]:Array Value)[x%(#[]:Array Value).size]!) (Qj 0)=QK (λi=>z.cells[i%z.cells.size]!) (Qj (0* zero.length)):=by simp
   rw[this,hf]
   simp[newRow]
  ·simp only[h0,if_false,Sem.run_bind,hrun,Result.andThen_ok,Sem.run_pure]
   rw[hmap,<-hzl,hzl,<-hzl]
   rw[hzl]at*
   rw[hf]
   simp[newRow]
 ·rw[Qf (by simp;rw[hs',hl',hzl];exact Qu _)];exact hv'
theorem wrap_i64(n:Int)(h:-9223372036854775808<=n)(h':n<=9223372036854775807):IntKind.i64.wrap n=n:=IntWalk.i64_in n ⟨h,h'⟩
theorem kK{t e:TypeId}{size bytes:Nat}{zero:List AH}{l c:Av}{l' c':Operand}{i:TypeInfo}(hop:o.op= .makeSlice t l' c')(h1:BE l l'=true)(h2:BE c c'=true)(hsz:size≠0)
 (hu:P.underlying t=some (.slice e)) (hz:I6 P e zero=true) (hzl:zero.length=size) (hi:P.info? e=some i) (hby:i.bytes=bytes)
 (hs:AV T H (.MM size bytes zero l c)=some (v,H')) (hR:BL B σ H w) (hT:BQ σ H T a.tmps.toList):Yields P B σ H w (execOp a.eval o) v H':=by
 have e1:=Bi hT h1
 have e2:=Bi hT h2
 simp only[AV]at hs
 split at hs
 case h_2=>cases hs
 rename_i k1 ln k2 cn hl hc
 rw[hl]at e1;rw[hc]at e2
 simp only[VR]at e1 e2
 split at hs
 case isFalse=>cases hs
 rename_i hb
 obtain⟨b1,b2,b3,b4⟩:=hb
 simp only[Qd,Qe]at hs
 obtain⟨rfl,rfl⟩:=hs
 obtain⟨i0,z,hi0,hzz,hsz0,hv,hcc,hrun,hsr⟩:=Ob (P:=P) (σ:=σ) (H:=H) (w:=w) hz
 rw[hi]at hi0;injection hi0 with hi0;subst hi0
 have hz0:z.cells.size=zero.length:=by have:=hv.length;simp at this;omega
 have hrep:∀x∈Qa ln.toNat zero,x.length=size/\x.all AH.cell=true:=λx hx=>by rw[(Ql.1 hx).2];exact⟨hzl,hcc⟩
 have hvz:=Sb z zero hv cn.toNat ln.toNat (by omega) (by omega)
 have w1:IntKind.i64.wrap ln=ln:=wrap_i64 ln (by omega) (by omega)
 have w2:IntKind.i64.wrap cn=cn:=wrap_i64 cn (by omega) (by omega)
 have hbc:(bytes:Int)* cn<=140737488355328:=by rw[Int.mul_comm];exact b3
 refine⟨_,.slice (some ⟨w.heap.size,0,none⟩) ln.toNat cn.toNat,w.alloc (.cells ((Qj (cn.toNat* zero.length)).map (λi=>z.cells[i%z.cells.size]!)) e),.inl ?_,
  hR.L6 size cn.toNat (Qa ln.toNat zero) _ e hrep (by simp;omega) (by simp[hzl]) (by simp only[Qq];rw[<-hzl];exact hvz),
  H3 size _ cn.toNat w.heap.size ln.toNat (decide (ln=cn)) (by simp) (by omega) (λh=>by rw[of_decide_eq_true h]),Ext.push _ _ _ _ rfl,GG hR.base _⟩
 have hroom:∀n,(askRoom n).run P w= .ok () w:=by intro n;unfold askRoom;split<;>rfl
 simp only[execOp,hop,e1,e2,Instr.makeSlice,Sem.run_bind,run_underlying hu,Result.andThen_ok,asInt,asIntOf,Sem.run_pure,typeInfo,run_program,hi,hby,w1,w2]
 rw[if_neg (by simp;omega)]
 simp only[Sem.run_bind,hroom,Result.andThen_ok,hsr]
 by_cases h0:cn.toNat* zero.length=0
 ·have KD:cn.toNat=0:=by rcases QF.1 h0 with h|h<;>omega
  simp only[h0,if_true,Sem.run_pure,Result.andThen_ok,Sem.run_bind]
  simp[newRow,show Qj 0=#[] from rfl]
 ·simp only[h0,if_false,Sem.run_bind,hrun,Result.andThen_ok,Sem.run_pure]
  simp[newRow]
theorem m8{size:Nat}{x y:Av}{x' y':Operand}{t:TypeId}(hop:o.op= .store t x' y')(h1:BE x x'=true)(h2:BE y y'=true)(hsz:Ea P t size=true)
 (hs:AV T H (.st size x y)=some (v,H')) (hR:BL B σ H w) (hT:BQ σ H T a.tmps.toList):Yields P B σ H w (execOp a.eval o) v H':=by
 have e1:=Bi hT h1
 have e2:=Bi hT h2
 simp only[AV]at hs
 split at hs
 case h_2=>cases hs
 rename_i ob m i j ys hx hy
 rw[hx]at e1
 obtain⟨hvy,hcy⟩:=J7 hy e2
 split at hs
 case h_2=>cases hs
 rename_i s xs ho
 split at hs
 case isFalse=>cases hs
 rename_i hlen
 split at hs
 case h_2=>cases hs
 rename_i c hc
 split at hs
 case isFalse=>cases hs
 rename_i hjk
 obtain⟨rfl,hjk⟩:=hjk
 simp only[Qd,Qe]at hs
 obtain⟨rfl,rfl⟩:=hs
 simp only[VR]at e1
 obtain⟨s',xs',ro',ad,ho',hn,hv,ha⟩:=e1
 rw[ho]at ho';injection ho' with ho';injection ho' with g1 g2 g3;subst g1;subst g2;subst g3
 have hilt:i<xs.length:=(Qm.1 hc).1
 have hoff:(σ ob).off=0:=by
  obtain⟨q1,q2,q3⟩:=hR.obj ho
  obtain⟨_,_,_,_,_,q,_⟩:=q3.resolve_left (by omega)
  exact(q rfl).2.1
 have hBb:¬B (σ ob).CG:=by
  obtain⟨q1,q2,q3⟩:=hR.obj ho
  obtain⟨_,_,_,_,_,q,_⟩:=q3.resolve_left (by omega)
  exact(q rfl).1
 rw[ha hlen,hoff,Qk]at hv
 have hyl:=hvy.length
 have DS:=hR.there ho hilt j ys.length hjk
 have hsy:=hsz
 unfold Ea at hsy
 split at hsy
 case h_2=>cases hsy
 rename_i ii hii
 have hszz:ii.size=ys.length:=by simpa using hsy
 have hone:∀u∈(a.eval y').cells.toList,u.oneCell'=true:=by
  intro u hu
  obtain⟨k,hk,rfl⟩:=List.mem_iff_getElem.1 hu
  have hk':k<ys.length:=by omega
  have:=(H4.1 hvy).2 k hk' hk
  have:=this.L3 ((Qi.1 hcy) _ (QA hk'))
  revert this
  cases (a.eval y').cells.toList[k]<;>simp[Oh,Value.oneCell']
 have hst:=run_storeCells_cells (P:=P) (σ ob).CG (i* s+j) (a.eval y').cells.toList 0 w (λk hk=>by simpa using(DS k (by omega)).1) (λk hk=>by simpa using(DS k (by omega)).2) hone
 simp only[Nat.add_zero]at hst
 refine⟨σ,undef,w.setCells (σ ob).CG (i* s+j) (a.eval y').cells.toList,.inr ⟨?_,rfl⟩,hR.write ys _ j ho hc hjk hvy hcy,by simp[VR],(Alike.Mk ho (by simp)).ext σ,?_⟩
 ·have hcs:(a.eval y').cells.size=ii.size:=by rw[hszz,hyl];rfl
  simp[execOp,hop,hv,Instr.storeAt,Instr.sureAddr,storeVar,sizeOf,typeInfo,hii,hcs,hst]
 ·clear hst DS
  have:∀(vs:List Value) (k:Nat) (w1:World),Kept B w w1->Kept B w (w1.setCells (σ ob).CG k vs):=by
   intro vs
   induction vs with
   |nil=>intro k w1 h;exact h
   |cons u vs ih=>intro k w1 h;exact ih _ _ (h.setCell (p:=⟨(σ ob).CG,k,none⟩) hBb u)
  exact this _ _ _ (Kept.refl _ _)
end steps
end Go.Ax
