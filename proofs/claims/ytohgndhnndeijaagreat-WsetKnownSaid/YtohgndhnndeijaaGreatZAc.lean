/- Texts put behind one another: AxWp, AxOne. Conditions: none. -/
import Derived.Test.YtohgndhnndeijaaGreatZAb
set_option linter.all false
open Bool renaming and_eq_true -> Qa
open List renaming range -> Qb, getD -> Qc
namespace Go.Ax
open Go Go.RowKit
structure St where
 T:List AH
 H:AP
def AF(P:Program)(f:FuncId)(args:List AH)(H:AP)(K:AH->AP->Prop):Prop:=
 ∀(B:Nat->Prop) (σ:B0) (w:World) (vs:List Value),BL B σ H w->BQ σ H args vs->Calls P f vs.toArray w λe w'=>
  ∃x σ' v H',e= .returned x/\K v H'/\BL B σ' H' w'/\VR σ' H' v x/\Ext σ H σ' H'/\Kept B w w'
theorem AF.mono{P:Program}{f:FuncId}{args:List AH}{H:AP}{K K':AH->AP->Prop}(h:AF P f args H K)(hk:∀v H',K v H'->K' v H'):AF P f args H K':=
 λB σ w vs hR hV=>(h B σ w vs hR hV).mono λ_ _ ⟨x,σ',v,H',he,hK,r⟩=>⟨x,σ',v,H',he,hk _ _ hK,r⟩
inductive AD where
 |skip
 |Nx
 |region (ops:List A6)
 |drawn (wl:List (Nat×A6)) (aft:List (List Nat)) (nb:Nat)
 |seq (a b:AD)
 |cond (c:Av) (t e:AD)
 |block (id:Nat) (c:AD)
 |loop (c:AD)
 |exit (id:Nat)
 |ret
def Ar(T:List AH):Option Nat->AH->List AH
 |none,_=>T
 |some d,v=>T.set d v
def JI(ops:Array Oper):Option (Nat×Bool)->Option (Nat×Bool)->Bool
 |none,none=>true
 |some (d,b),some (j,b')=>b==b'&&((ops[j]?).bind (·.dst))==some d
 |_,_=>false
def Ge:GS->Op->Bool
 | .call f args,.call {callee:= .value (.func g),args:=args',.. }=>f==g&&FF args args'.toList
 | .Ha x args,.call {callee:= .value y,args:=args',.. }=>BE x y&&FF args args'.toList
 |_,_=>false
def Di(P:Program)(f:FuncId):Bool:=match P.funcs[f]? with
 |some fn=>fn.body.isSome&&fn.name != "runtime.NumGoroutine"
 |none=>false
def GS.JL:GS->GS
 | .born _ b=>b.Z3
 |op=>op
def EW(P:Program)(ops:Array Oper)(a:A6)(o:Oper):Bool:=
 a.dst==o.dst&&JI ops a.guard o.guard&&(OI P a.op.JL o.op||(Ge a.op o.op&&(match a.op with
  | .call f _=>Di P f
  |_=>true)))
def DA(P:Program)(ops:Array Oper):List A6->List Oper->Bool
 |[],[]=>true
 |a::l,o::r=>EW P ops a o&&DA P ops l r
 |_,_=>false
def Cy:List (List Nat)->List Nat->List Nat
 |[],acc=>acc
 |es::r,acc=>Cy r (acc++[es.foldl (λs e=>s|||(2^e)|||acc.getD e 0) 0])
def CQ(bs:List Nat)(i j:Nat):Bool:=(bs.getD i 0).testBit j
def A6.looks(o:A6):List Nat:=o.op.names++(match o.guard with|some (d,_)=>[d]|none=>[])
def Od:List (List Nat)->List Oper->Bool
 |[],[]=>true
 |es::l,o::r=>((o.after.toList.filter (Region.binds .any)).map (·.on)==es)&&Od l r
 |_,_=>false
def Ga:List (List Nat)->Nat->Bool
 |[],_=>true
 |es::l,i=>es.all (·<i)&&Ga l (i+1)
def HR(ops:List A6)(bs:List Nat):Bool:=
 (
  Qb ops.length).all λi=>(Qb i).all λj=>
  match ops[i]?,ops[j]? with
  |some a,some b=>CQ bs i j||((match a.dst with|some d=>!(b.looks.contains d)&&b.dst !=some d|none=>true)&&(match b.dst with|some d=>!(a.looks.contains d)|none=>true))
  |_,_=>false
def GS.Wc:GS->Bool
 | .born .. =>true
 |op=>op.pure
def Gp(ops:List A6)(bs:List Nat):List Nat->List Nat->Bool
 |[],done=>(Qb ops.length).all λj=>done.contains j
 |i::rest,done=>!done.contains i&&i<ops.length&&(Qb ops.length).all (λj=>!CQ bs i j||done.contains j)&&
  (match ops[i]? with|some o=>o.op.quiet||rest.all (λk=>CQ bs k i||(match ops[k]? with|some o'=>o'.op.Wc|none=>false))|none=>false)&&Gp ops bs rest (i::done)
def Gb(nb:Nat):List A6->List Nat->Bool
 |[],_=>true
 |o::r,l=>(match o.op with
  | .born k _=>decide (k<nb)&&!l.contains k&&Gb nb r (k::l)
  |_=>Gb nb r l)
def NE(P:Program)(ops:List A6)(aft:List (List Nat))(ord:List Nat)(nb:Nat):Bool:=
 P.follows .mixedOrders&&aft.length==ops.length&&Ga aft 0&&HR ops (Cy aft [])&&Gp ops (Cy aft []) ord []&&Gb nb ops []&&ops.all λo=>o.op.Du
def Nu(wl:List (Nat×A6)):List A6:=(Qb wl.length).map λi=>match wl.find? (λp=>p.1==i)with
 |some p=>p.2
 |none=>⟨none,.Pa,none⟩
def codeOk(P:Program):AD->Code->Bool
 | .skip,.skip=>true
 | .Nx,_=>true
 | .region l,.region _ ops false=>DA P ops l ops.toList
 | .drawn wl aft nb,.region _ ops true=>DA P ops (Nu wl) ops.toList&&Od aft ops.toList&&NE P (Nu wl) aft (wl.map (·.1)) nb
 | .seq a b,.seq c d=>codeOk P a c&&codeOk P b d
 | .cond c t e,.cond c' t' e'=>BE c c'&&codeOk P t t'&&codeOk P e e'
 | .block i c,.block j d=>i==j&&codeOk P c d
 | .loop c,.loop d=>codeOk P c d
 | .exit i,.exit j=>i==j
 | .ret,.ret=>true
 |_,_=>false
def Co:AH:= .Bj []
def PI:AH->Option (Option Bool)
 | .bool g=>some (some g)
 | .Bj []=>some none
 |_=>none
def Bu(P:Program)(o:A6)(K:St->Prop)(s:St):Prop:=
 match o.op with
 | .call f args=>AF P f (args.map (Bm s.T)) s.H λv H'=>K ⟨Ar s.T o.dst v,H'⟩
 | .Ha x args=>match Bm s.T x with
  | .func f cap=>Di P f=true/\AF P f (args.map (Bm s.T)++cap) s.H λv H'=>K ⟨Ar s.T o.dst v,H'⟩
  |_=>False
 |op=>match AV s.T s.H op with
  |some (v,H')=>K ⟨Ar s.T o.dst v,H'⟩
  |none=>False
def nH(P:Program)(o:A6)(K:St->Prop)(s:St):Prop:=
 match o.guard with
 |none=>Bu P o K s
 |some (d,b)=>match PI (Bm s.T (.t d))with
  |some g=>(g=some b->Bu P o K s)/\(g≠some b->K ⟨Ar s.T o.dst Co,s.H⟩)
  |none=>False
def Eb(P:Program):List A6->(St->Prop)->St->Prop
 |[],K,s=>K s
 |o::l,K,s=>nH P o (Eb P l K) s
abbrev Cp:=List (Nat×(AP->Prop))
def Kk(pre:Nat->Bool)(H:AP):Cp->Prop
 |[]=>True
 |(i,p)::r=>(p H\/pre i=true)/\Kk pre H r
def Kt(P:Program)(n0:Nat)(pre:Nat->Bool)(i:Nat)(o:A6)(log:Cp)(C:Cp->St->Prop)(s:St):Prop:=
 match o.op with
 | .born k b=>(match Cz s.T (n0+k) b with
  |some (v,x)=>C log ⟨Ar s.T o.dst v,s.H.set (n0+k) x⟩
  |none=>False)
 |op=>if op.quiet then(match AV s.T s.H op with
  |some (v,_)=>C (if op.pure then log else(i,λH=>AV s.T H op=some (v,H))::log) ⟨Ar s.T o.dst v,s.H⟩
  |none=>False)
  else Bu P o (λs'=>Kk pre s'.H log/\C log s') s
def De(P:Program)(n0:Nat)(pre:Nat->Bool)(i:Nat)(o:A6)(log:Cp)(C:Cp->St->Prop)(s:St):Prop:=
 match o.guard with
 |none=>Kt P n0 pre i o log C s
 |some (d,b)=>match PI (Bm s.T (.t d))with
  |some g=>(g=some b->Kt P n0 pre i o log C s)/\(g≠some b->C log ⟨Ar s.T o.dst Co,s.H⟩)
  |none=>False
def C5(ops:List A6):List Nat->List (Nat×A6)
 |[]=>[]
 |i::r=>match ops[i]? with
  |some o=>(i,o)::C5 ops r
  |none=>[]
def Ab(P:Program)(n0:Nat)(pre:Nat->Nat->Bool):List (Nat×A6)->Cp->(St->Prop)->St->Prop
 |[],_,K,s=>K s
 |(i,o)::rest,log,K,s=>De P n0 (pre i) i o log (λlog' s'=>Ab P n0 pre rest log' K s') s
def O2(K:St->Prop)(Q:Exit->St->Prop):Exit->St->Prop
 | .normal,s=>K s
 |e,s=>Q e s
def JZ(id:Nat)(Q:Exit->St->Prop):Exit->St->Prop
 | .exit i,s=>if i=id then Q .normal s else Q (.exit i) s
 |e,s=>Q e s
def aG(B:Nat->Prop)(σ0:B0)(H0:AP)(w0:World)(Q:Exit->St->Prop)(e:Exit)(a:Act)(w:World):Prop:=
 ∃σ T H,Q e ⟨T,H⟩/\BL B σ H w/\BQ σ H T a.tmps.toList/\Ext σ0 H0 σ H/\Kept B w0 w/\a.defers=[]
structure Holds (B:Nat->Prop) (σ0:B0) (H0:AP) (w0:World) (s:St) (σ:B0) (a:Act) (w:World):Prop where
 rel:BL B σ s.H w
 tmps:BQ σ s.H s.T a.tmps.toList
 ext:Ext σ0 H0 σ s.H
 below:Kept B w0 w
 defers:a.defers=[]
theorem Holds.lift{B:Nat->Prop}{σ0:B0}{H0:AP}{w0:World}{s:St}{σ:B0}{a:Act}{w:World}(h:Holds B σ0 H0 w0 s σ a w){Q:Exit->St->Prop}{e:Exit}(hq:Q e s):aG B σ0 H0 w0 Q e a w:=
 ⟨σ,s.T,s.H,hq,h.rel,h.tmps,h.ext,h.below,h.defers⟩
theorem aG.holds{B:Nat->Prop}{σ0:B0}{H0:AP}{w0:World}{Q:Exit->St->Prop}{e:Exit}{a:Act}{w:World}(h:aG B σ0 H0 w0 Q e a w):∃s σ,Q e s/\Holds B σ0 H0 w0 s σ a w:=
 let⟨σ,T,H,hq,h1,h2,h3,h4,h5⟩:=h;⟨⟨T,H⟩,σ,hq,⟨h1,h2,h3,h4,h5⟩⟩
def Mc(P:Program)(c:Code)(Q:Exit->Act->World->Prop)(a:Act)(w:World):Prop:=
 ∀(b:Frame) (k:List Item) (cs:List Frame),∃e a' w',Q e a' w'/\Arrives P (lone (b.at a (.code c:: .inLoop c::k)) cs w) b k cs e a' w'
theorem Mc.wp{P:Program}{c:Code}{Q:Exit->Act->World->Prop}{a:Act}{w:World}(h:Mc P c Q a w):(Code.loop c).wp P Q a w:=λb k cs=>
 let⟨e,a',w',hq,harr⟩:=h b k cs;⟨e,a',w',hq,.of_steps (.one step_loop) harr⟩
theorem Mc.unfold{P:Program}{c:Code}{Q:Exit->Act->World->Prop}{a:Act}{w:World}(h:c.wp P (Exit.then (Mc P c Q) Q) a w):Mc P c Q a w:=by
 intro b k cs
 obtain⟨e,a₁,w₁,hq,harr⟩:=h b (.inLoop c::k) cs
 cases e with
 |normal=>
  obtain⟨e₂,a₂,w₂,hq₂,harr₂⟩:=hq b k cs
  exact⟨e₂,a₂,w₂,hq₂,.of_steps (Steps.trans harr (.one step_inLoop)) harr₂⟩
 |exit id=>exact⟨_,a₁,w₁,hq,.pass (x:= .inLoop c) rfl (λ_ _=> .inl (by simp)) harr⟩
 |goto l=>exact⟨_,a₁,w₁,hq,.pass (x:= .inLoop c) rfl (λ_ _=> .inl (by simp)) harr⟩
 |ret=>exact⟨_,a₁,w₁,hq,.pass (x:= .inLoop c) rfl (λ_ _=> .inl (by simp)) harr⟩
 |panic ch=>exact⟨_,a₁,w₁,hq,.pass (x:= .inLoop c) rfl (λ_ _=> .inl (by simp)) harr⟩
 |outgrown=>exact⟨_,a₁,w₁,hq,.pass (x:= .inLoop c) rfl (λ_ _=> .inl (by simp)) harr⟩
def AK(P:Program)(n0:Nat)(c:AD)(Q:Exit->St->Prop)(s:St):Prop:=
 ∀code,codeOk P c code=true->∀B σ0 (H0:AP) w0 σ a w,H0.length=n0->Holds B σ0 H0 w0 s σ a w->Mc P code (aG B σ0 H0 w0 Q) a w
def I9(P:Program)(n0:Nat):AD->(Exit->St->Prop)->St->Prop
 | .skip,Q,s=>Q .normal s
 | .Nx,_,_=>False
 | .region l,Q,s=>Eb P l (Q .normal) s
 | .drawn wl aft nb,Q,s=>Ab P s.H.length (CQ (Cy aft [])) wl [] (Q .normal) ⟨s.T,s.H++List.replicate nb .A1⟩
 | .seq a b,Q,s=>I9 P n0 a (O2 (I9 P n0 b Q) Q) s
 | .cond c t e,Q,s=>match Bm s.T c with
  | .bool b=>(b=true->I9 P n0 t Q s)/\(b=false->I9 P n0 e Q s)
  |_=>False
 | .block i c,Q,s=>I9 P n0 c (JZ i Q) s
 | .loop c,Q,s=>AK P n0 c Q s
 | .exit i,Q,s=>Q (.exit i) s
 | .ret,Q,s=>Q .ret s
theorem YK{σ:B0}{H:AP}{T:List AH}{a:Act}(h:BQ σ H T a.tmps.toList)(dst:Option Nat){v:AH}{x:Value}(hv:VR σ H v x):BQ σ H (Ar T dst v) (a.put dst x).tmps.toList:=by
 cases dst with
 |none=>exact h
 |some d=>simp only[Ar,Act.put,Array.toList_setIfInBounds];exact h.set d hv
theorem put_defers(a:Act)(dst:Option Nat)(x:Value):(a.put dst x).defers=a.defers:=by cases dst<;>rfl
theorem Holds.put{B:Nat->Prop}{σ0:B0}{H0:AP}{w0:World}{s:St}{σ:B0}{a:Act}{w:World}(h:Holds B σ0 H0 w0 s σ a w)(dst:Option Nat){σ':B0}{H':AP}{w':World}{v:AH}{x:Value}
 (hR:BL B σ' H' w') (hv:VR σ' H' v x) (hx:Ext σ s.H σ' H') (hb:Kept B w w'):Holds B σ0 H0 w0 ⟨Ar s.T dst v,H'⟩ σ' (a.put dst x) w':=
 ⟨hR,YK (h.tmps.ext hx) dst hv,h.ext.trans hx,h.below.trans hb,by rw[put_defers];exact h.defers⟩
theorem Nb{P:Program}{f:FuncId}{fn:Func}(hf:P.funcs[f]?=some fn)(hb:fn.body.isSome=true)(hn:fn.name≠ "runtime.NumGoroutine")(args:Array Value)(w:World):(callFunc f args).run P w= .ok (.enter f args) w:=by
 obtain⟨c,hc⟩:=Option.isSome_iff_exists.1 hb
 simp[callFunc,hf,hn,hc]
theorem Jq{a:Act}{l:Array Operand}:(l.map a.eval)=(l.toList.map a.eval).toArray:=by
 apply Array.ext';simp
theorem Og{P:Program}{f:FuncId}(h:Di P f=true):∃fn,P.funcs[f]?=some fn/\fn.body.isSome=true/\fn.name≠ "runtime.NumGoroutine" :=by
 unfold Di at h
 split at h
 ·rename_i fn hf
  simp only[Qa,bne_iff_ne,ne_eq]at h
  exact⟨fn,hf,h.1,h.2⟩
 ·cases h
theorem Ls{σ:B0}{H:AP}:VR σ H Co undef:=by
 simp only[Co,VR]
 exact⟨#[],rfl,trivial⟩
theorem PB{ops:Array Oper}{j d:Nat}{σ:B0}{H:AP}{T:List AH}{tmps:Array Value}{g:Option Bool}(hj:(ops[j]?).bind (·.dst)=some d)(hT:BQ σ H T tmps.toList)(hg:PI (T.getD d .Dk)=some g):yielded ops tmps j=g:=by
 cases ht:T[d]? with
 |none=>simp[Qc,ht,PI]at hg
 |some y=>
  simp[Qc,ht]at hg
  obtain⟨u,hu,hr⟩:=hT.get ht
  rw[Array.getElem?_toList]at hu
  unfold PI at hg
  split at hg
  ·injection hg with hg;subst hg
   simp only[VR]at hr
   subst hr
   simp[yielded,hj,hu]
  ·injection hg with hg;subst hg
   simp only[VR]at hr
   obtain⟨vs,rfl,hvs⟩:=hr
   simp[yielded,hj,hu]
  ·cases hg
theorem JV{P:Program}{ops:Array Oper}{ao:A6}{o:Oper}(hok:EW P ops ao o=true)(hnb:ao.op.JL=ao.op){K:St->Prop}{s:St}(h:Bu P ao K s){B:Nat->Prop}{σ0:B0}{H0:AP}{w0:World}{σ:B0}{a:Act}{w:World}
 (hH:Holds B σ0 H0 w0 s σ a w) {next:Act->World->Prop} {Q:Exit->Act->World->Prop} (hn:∀s' σ' a' w',K s'->Holds B σ0 H0 w0 s' σ' a' w'->next a' w'):o.wp P a w next Q:=by
 simp only[EW,Qa,Bool.or_eq_true,beq_iff_eq]at hok
 obtain⟨⟨hd,hg⟩,hop⟩:=hok
 rw[hnb]at hop
 unfold Bu at h
 unfold Oper.wp
 split at h
 ·rename_i f args hao
  rw[hao]at hop
  have hcall:Ge (.call f args) o.op=true/\Di P f=true:=by
   rcases hop with hop|hop
   ·cases ho:o.op<;>simp[OI]at hop
   ·exact hop
  obtain⟨hc,hcl⟩:=hcall
  obtain⟨fn,hf,hb,hnm⟩:=Og hcl
  unfold Ge at hc
  split at hc
  case h_3=>cases hc
  case h_2=>rename_i e1 _;cases e1
  rename_i f' args' g cargs at' e1 e2
  injection e1 with e1 e1';subst e1;subst e1'
  simp only[Qa,beq_iff_eq]at hc
  obtain⟨rfl,hargs⟩:=hc
  have hv:=Lr hH.tmps hargs
  have hrun:(execOp a.eval o).run P w= .ok (.enter f ((cargs.toList.map a.eval).toArray)) w:=by
   simp only[execOp,e2,resolve,Deferred.ofValue,Act.eval,Sem.run_bind,Sem.run_pure,Result.andThen_ok,invoke]
   rw[Nb hf hb hnm]
   simp[Jq]
  rw[hrun]
  simp only[Oper.upon]
  refine(h B σ w _ hH.rel hv).mono ?_
  rintro e w' ⟨x,σ',v,H',rfl,hK,hR,hx,hext,hbel⟩
  rw[<-hd]
  exact hn _ _ _ _ hK (hH.put ao.dst hR hx hext hbel)
 ·rename_i y args hao
  rw[hao]at hop
  split at h
  case h_2=>exact h.elim
  rename_i f cap hfv
  obtain⟨hcl,h⟩:=h
  have hc:Ge (.Ha y args) o.op=true:=by
   rcases hop with hop|hop
   ·cases ho:o.op<;>simp[OI]at hop
   ·exact hop.1
  obtain⟨fn,hf,hb,hnm⟩:=Og hcl
  unfold Ge at hc
  split at hc
  case h_3=>cases hc
  case h_1=>rename_i e1 _;cases e1
  rename_i y' args' yv cargs at' e1 e2
  injection e1 with e1 e1';subst e1;subst e1'
  simp only[Qa]at hc
  obtain⟨hy,hargs⟩:=hc
  have hv:=Lr hH.tmps hargs
  have hyv:=Bi hH.tmps hy
  rw[hfv]at hyv;simp only[VR]at hyv
  obtain⟨cs,hcs,hcap⟩:=hyv
  have hrun:(execOp a.eval o).run P w= .ok (.enter f ((cargs.toList.map a.eval)++cs.toList).toArray) w:=by
   simp only[execOp,e2,resolve,Deferred.ofValue,hcs,Sem.run_bind,Sem.run_pure,Result.andThen_ok,invoke]
   rw[Nb hf hb hnm]
   simp[Jq]
  rw[hrun]
  simp only[Oper.upon]
  refine(h B σ w _ hH.rel (hv.append hcap)).mono ?_
  rintro e w' ⟨x,σ',v,H',rfl,hK,hR,hx,hext,hbel⟩
  rw[<-hd]
  exact hn _ _ _ _ hK (hH.put ao.dst hR hx hext hbel)
 ·rename_i hne hne'
  split at h
  case h_2=>exact h.elim
  rename_i v H' hst
  have hop':OI P ao.op o.op=true:=by
   rcases hop with hop|⟨hop,-⟩
   ·exact hop
   ·unfold Ge at hop
    split at hop
    ·rename_i hao _;exact absurd hao (hne _ _)
    ·rename_i hao _;exact absurd hao (hne' _ _)
    ·cases hop
  obtain⟨σ',x,w',hrun,hR,hx,hext,hbel⟩:=KX hop' hst hH.rel hH.tmps
  have:=hn _ _ _ _ h (hH.put ao.dst hR hx hext hbel)
  rw[hd]at this
  rcases hrun with hrun|⟨hrun,rfl⟩
  ·rw[hrun];exact this
  ·rw[hrun];exact this
end Go.Ax
