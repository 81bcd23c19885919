/- A function of the program, entered: what is computed of its body holds of its calls. Conditions: none. -/
import Derived.Test.YtohgndhnndeijaaGreatAxWpSoundZ
set_option linter.all false
open Bool renaming and_eq_true -> Qa
namespace Go.Ax
open Go Go.RowKit
inductive Pj where
 |t (n:Nat)
 |c (n:Nat) (size:Option Nat)
def LW(P:Program):List Pj->List ResultVar->Bool
 |[],[]=>true
 | .t n::l,.tmp m::r=>n==m&&LW P l r
 | .c n k::l,.cell m t::r=>n==m&&ZM P t k&&LW P l r
 |_,_=>false
def PC(s:St):List Pj->Option (List AH)
 |[]=>some []
 | .t n::l=>match PC s l with
  |some r=>some (s.T.getD n .Dk::r)
  |none=>none
 | .c n k::l=>match AV s.T s.H (.ld k (.t n)),PC s l with
  |some (v,_),some r=>some (v::r)
  |_,_=>none
def JY:List AH->AH
 |[v]=>v
 |l=> .Bj l
def M8(rs:List Pj)(K:AH->AP->Prop):Exit->St->Prop
 | .normal,s=>match PC s rs with
  |some l=>K (JY l) s.H
  |none=>False
 | .ret,s=>match PC s rs with
  |some l=>K (JY l) s.H
  |none=>False
 |_,_=>False
def Ao(P:Program)(f:FuncId)(c:AD)(nt:Nat)(rs:List Pj):Bool:=match P.funcs[f]? with
 |some fn=>(match fn.body with
  |some code=>codeOk P c code&&fn.ntmps==nt&&LW P rs fn.results.toList&&fn.name != "runtime.NumGoroutine"
  |none=>false)
 |none=>false
theorem HZ{P:Program}{f:FuncId}{c:AD}{nt:Nat}{rs:List Pj}(h:Ao P f c nt rs=true):Di P f=true:=by
 unfold Ao at h
 unfold Di
 split at h
 case h_2=>cases h
 rename_i fn hf
 split at h
 case h_2=>cases h
 rename_i code hb
 simp only[Qa]at h
 simp only[hf,hb,Option.isSome_some,Bool.true_and]
 exact h.2
def Re(tmps:Array Value):ResultVar->Sem Value
 | .tmp t=>pure (tmps.getD t undef)
 | .cell x t=>do loadVar t (<-asAddr (tmps.getD x undef))
theorem Wu(fn:Func)(tmps:Array Value):results fn tmps=(do let vs <-fn.results.mapM (Re tmps);pure (if h:vs.size=1 then vs[0]else .tuple vs)):=by
 unfold results
 congr 1
theorem La{P:Program}{s:St}{B:Nat->Prop}{σ:B0}{a:Act}{w:World}(hR:BL B σ s.H w)(hT:BQ σ s.H s.T a.tmps.toList):∀(rs:List Pj) (r:List ResultVar) (l:List AH),LW P rs r=true->PC s rs=some l->
 ∃xs:List Value,(r.mapM (Re a.tmps)).run P w= .ok xs w/\BQ σ s.H l xs
 |[],[],l,_,h=>by
  simp only[PC,Option.some.injEq]at h;subst h
  exact⟨[],by simp,by simp⟩
 | .t n::rs,.tmp m::r,l,hok,h=>by
  simp only[LW,Qa,beq_iff_eq]at hok
  obtain⟨rfl,hok⟩:=hok
  simp only[PC]at h
  split at h
  case h_2=>cases h
  rename_i l' hl
  injection h with h;subst h
  obtain⟨xs,h1,h2⟩:=La hR hT rs r l' hok hl
  refine⟨a.tmps.getD n undef::xs,?_,?_⟩
  ·rw[List.mapM_cons,Sem.run_bind,show Re a.tmps (.tmp n)=pure (a.tmps.getD n undef) from rfl,Sem.run_pure,Result.andThen_ok,Sem.run_bind,h1]
   simp
  ·rw[Bn]
   exact⟨Bi (x:= .t n) (y:= .tmp n) hT (by simp[BE]),h2⟩
 | .c n k::rs,.cell m t::r,l,hok,h=>by
  simp only[LW,Qa,beq_iff_eq]at hok
  obtain⟨⟨rfl,hld⟩,hok⟩:=hok
  simp only[PC]at h
  split at h
  case h_2=>cases h
  rename_i v H' l' hv hl
  injection h with h;subst h
  obtain⟨xs,h1,h2⟩:=La hR hT rs r l' hok hl
  obtain⟨-,ad,u,hx,hrun,hr⟩:=al (Bi (x:= .t n) (y:= .tmp n) hT (by simp[BE])) hld hv hR
  refine⟨u::xs,?_,by rw[Bn];exact⟨hr,h2⟩⟩
  have hx':a.tmps.getD n undef= .pointer (some ad):=hx
  have h0:(Re a.tmps (.cell n t)).run P w= .ok u w:=by
   show(do loadVar t (<-asAddr (a.tmps.getD n undef)):Sem Value).run P w=_
   rw[Sem.run_bind,hx']
   simp only[asAddr,Sem.run_pure,Result.andThen_ok,hrun]
  rw[List.mapM_cons,Sem.run_bind,h0,Result.andThen_ok,Sem.run_bind,h1]
  simp
 |[],_::_,_,h,_=>by simp[LW]at h
 | .t _::_,[],_,h,_=>by simp[LW]at h
 | .c _ _::_,[],_,h,_=>by simp[LW]at h
 | .t _::_,.cell _ _::_,_,h,_=>by simp[LW]at h
 | .c _ _::_,.tmp _::_,_,h,_=>by simp[LW]at h
theorem AF.enter{P:Program}{f:FuncId}{c:AD}{nt:Nat}{rs:List Pj}(hok:Ao P f c nt rs=true){args:List AH}{H:AP}{K:AH->AP->Prop}
 (h:I9 P H.length c (M8 rs K) ⟨args++List.replicate (nt-args.length) .Dk,H⟩):AF P f args H K:=by
 intro B σ w vs hR hV
 unfold Ao at hok
 split at hok
 case h_2=>cases hok
 rename_i fn hf
 split at hok
 case h_2=>cases hok
 rename_i code hb
 simp only[Qa,beq_iff_eq]at hok
 obtain⟨⟨⟨hc,rfl⟩,hres⟩,-⟩:=hok
 have hvl:=hV.length
 refine calls_of_wp hf hb ?_
 have hH:Holds B σ H w ⟨args++List.replicate (fn.ntmps-args.length) .Dk,H⟩ σ {tmps:=vs.toArray++Array.replicate (fn.ntmps-vs.toArray.size) undef,defers:=[]} w:=
  ⟨hR,by
   simp only[Array.toList_append,Array.toList_replicate]
   refine hV.append (JA _ _ ?_)
   simp[hvl],Ext.refl _ _,Kept.refl _ _,rfl⟩
 refine wp_mono (HL c code hc _ _ B σ H w σ _ w h hH) ?_
 intro e a1 w1 hl
 obtain⟨s1,σ1,hq,hh⟩:=hl.holds
 have fin:(match PC s1 rs with|some l=>K (JY l) s1.H|none=>False)->a1.defers=[]/\∃v,(results fn a1.tmps).run P w1= .ok v w1/\
  (∃x σ' v' H',Ending.returned v= .returned x/\K v' H'/\BL B σ' H' w1/\VR σ' H' v' x/\Ext σ H σ' H'/\Kept B w w1):=by
  intro hq
  split at hq
  case h_2=>exact hq.elim
  rename_i l hl
  obtain⟨xs,h1,h2⟩:=La hh.rel hh.tmps rs fn.results.toList l hres hl
  have hm:(fn.results.mapM (Re a1.tmps)).run P w1= .ok xs.toArray w1:=by
   rw[Array.mapM_eq_mapM_toList,Sem.run_map,h1];rfl
  refine⟨hh.defers,if h:xs.toArray.size=1 then xs.toArray[0]else .tuple xs.toArray,?_,_,σ1,JY l,s1.H,rfl,hq,hh.rel,?_,hh.ext,hh.below⟩
  ·rw[Wu,Sem.run_bind,hm]
   simp
  ·match l,xs,h2 with
   |[],[],_=>simp[JY,VR]
   |[v],[x],h2=>rw[Bn]at h2;simpa [JY] using h2.1
   |v::v'::l,x::x'::xs,h2=>simp only[JY,VR];exact⟨(x::x'::xs).toArray,by simp,by simpa using h2⟩
   |[],_::_,h2=>simp[BQ]at h2
   |_::_,[],h2=>simp[BQ]at h2
   |[_],_::_::_,h2=>simp[BQ]at h2
   |_::_::_,[_],h2=>simp[BQ]at h2
 cases e<;>simp only[M8,bodyPost]at hq ⊢<;>exact fin hq
end Go.Ax
